/- Walks: Apart of unlike sets (package periodic). -/
import Derived.Test.YtjilkhhokkncoaaGreatMWalkAq
set_option linter.unusedVariables false
set_option linter.unusedSimpArgs false
namespace Go.Proofs.YtjilkhhokkncoaaGreat
open Go.RowKit Go.Maps Kal
structure TwoP (W:World) (b:Nat) (x y:Value):Prop where
 fst:∃ cx:Array Value,x=.agg cx∧cx.size=13∧∀ i,i<13→W.cell? ⟨b,i,none⟩=cx[i]?
 snd:∃ cy:Array Value,y=.agg cy∧cy.size=13∧∀ i,i<13→W.cell? ⟨b,13+i,none⟩=cy[i]?
theorem TwoP.below {W W':World} {b:Nat} {x y:Value} (h:TwoP W b x y) (hb:Below W.heap.size W W'):TwoP W' b x y:=by
 obtain ⟨⟨cx,e1,s1,h1⟩,⟨cy,e2,s2,h2⟩⟩:=h
 refine ⟨⟨cx,e1,s1,fun i hi=>?_⟩,⟨cy,e2,s2,fun i hi=>?_⟩⟩
 ·have:=h1 i hi
  rw [Array.getElem?_eq_getElem (by omega)] at this ⊢
  exact Ext.cell hb this
 ·have:=h2 i hi
  rw [Array.getElem?_eq_getElem (by omega)] at this ⊢
  exact Ext.cell hb this
structure InnInv (D B:Int→Prop) (st x P M b1:Int) (j:Nat) (n b:Int):Prop where
 n:n=st+x+j*P
 best:BestOk D st M b
 inx:InX B st x P j b
 less:Less b1 b
theorem InnInv.start {D B:Int→Prop} {st x P M b:Int} (h:BestOk D st M b):InnInv D B st x P M b 0 (st+x) b:=⟨by simp,h,InX.zero,Less.refl b⟩
theorem InnInv.ge {D B:Int→Prop} {st x P M b1 n b:Int} {j:Nat} (h:InnInv D B st x P M b1 j n b) (hP:1≤P) (hx:0≤x):st+x≤n:=by
 have:=Int.mul_nonneg (show (0:Int)≤j by omega) (show 0≤P by omega)
 have:=h.n;omega
theorem InnInv.lim {D B:Int→Prop} {st x P Q M b1 n b:Int} {j:Nat} (h:InnInv D B st x P M b1 j n b) (hP:1≤P) (h0:0≤st) (hx0:0≤x) (hx:x<P) (hM:st+Q*P=M) (hne:∃ j0,0≤j0∧j0<Q∧¬ B (st+x+j0*P)) (hg:b=-1∨n<b):n<M:=by
 rcases hg with rfl|hg
 ·obtain ⟨j0,h0',h1,h2⟩:=hne
  have:=h.inx.lt hP hx h0' h1 h2
  have:=h.n;omega
 ·have:=h.ge hP hx0
  rcases h.best with g|⟨_,g,_⟩ <;> omega
theorem InnInv.has {D B:Int→Prop} {st x P M b1 n b:Int} {j:Nat} (h:InnInv D B st x P M b1 j n b) (hm:B n):InnInv D B st x P M b1 (j+1) (n+P) b:=
 ⟨by have:=h.n;push_cast;rw [Int.add_mul];omega,h.best,h.inx.has (h.n ▸ hm),h.less⟩
theorem InnInv.not {D B:Int→Prop} {st x P M b1 n b:Int} {j:Nat} (h:InnInv D B st x P M b1 j n b) (hP:1≤P) (h0:0≤st) (hx:0≤x) (hd:D n) (hM:n≤M) (hg:b=-1∨n<b):InnInv D B st x P M b1 (j+1) (n+P) n:=by
 have hn:=h.n
 have hge:=h.ge hP hx
 refine ⟨by push_cast;rw [Int.add_mul];omega,.inr ⟨by omega,hM,hd⟩,?_,?_⟩
 ·have:=h.inx.not hP (by omega) (by rw [← hn];exact hg)
  rwa [← hn] at this
 ·have:=h.less
  unfold Less at *;omega
theorem InnInv.exit {D B:Int→Prop} {st x P M b1 n b:Int} {j:Nat} (h:InnInv D B st x P M b1 j n b) (hP:1≤P) (h0:0≤st) (hg:¬ (b=-1∨n<b)):Cov st (fun n=>(n-st) % P=x) B b:=by
 have hb:st≤b:=by rcases h.best with g|⟨g,_⟩ <;> omega
 exact h.inx.done hP (by omega) (by have:=h.n;omega)
theorem BestOk.rng {D:Int→Prop} {st M b:Int} (h:BestOk D st M b) (h0:0≤st):-1≤b∧(b≤M∨b=-1)∧(b<0↔b=-1):=by
 rcases h with h|⟨h1,h2,_⟩ <;> omega
structure MidInv (D B:Int→Prop) (st P M b0:Int) (xs:List Int) (k:Nat) (b:Int):Prop where
 best:BestOk D st M b
 cov:Cov st (fun n=>(n-st) % P∈xs.take k) B b
 less:Less b0 b
theorem MidInv.start {D B:Int→Prop} {st P M b:Int} {xs:List Int} (h:BestOk D st M b):MidInv D B st P M b xs 0 b:=⟨h,fun n _ _ h=>by simp at h,Less.refl b⟩
theorem MidInv.full {D B:Int→Prop} {st P M b0 b:Int} {xs:List Int} {k:Nat} (h:MidInv D B st P M b0 xs k b) (hk:k<xs.length) (hf:∀ n,st≤n→(n-st) % P=xs.getD k 0→B n):MidInv D B st P M b0 xs (k+1) b:=
 ⟨h.best,cov_step hk h.cov fun n h1 _ h3=>hf n h1 h3,h.less⟩
theorem MidInv.inner {D B:Int→Prop} {st P M b0 b1 b n:Int} {xs:List Int} {k j:Nat} (h:MidInv D B st P M b0 xs k b1) (hk:k<xs.length) (g:InnInv D B st (xs.getD k 0) P M b1 j n b) (hP:1≤P) (h0:0≤st) (hg:¬ (b=-1∨n<b)):MidInv D B st P M b0 xs (k+1) b:=
 ⟨g.best,cov_step hk (h.cov.mono g.less) (g.exit hP h0 hg),h.less.trans g.less⟩
theorem TwoP.new (W:World) (cx cy c:Array Value) (t:TypeId) (h:c=cx ++ cy) (h1:cx.size=13) (h2:cy.size=13):TwoP (W.alloc (.cells c t)) W.heap.size (.agg cx) (.agg cy):=by
 subst h
 have hb:=Bxx.new W (cx ++ cy) t
 refine ⟨⟨cx,rfl,h1,fun i hi=>?_⟩,⟨cy,rfl,h2,fun i hi=>?_⟩⟩
 ·rw [(hb.cells i).1,Array.getElem?_append_left (by omega)]
 ·rw [(hb.cells (13+i)).1,Array.getElem?_append_right (by omega)];congr 1;omega
set_option maxRecDepth 100000 in
set_option maxHeartbeats 8000000 in
theorem apart_diff (h1 c1 h2 c2:Value) (p1 p2 qa qb:Per) (n:Int) (w:World) (hp1:PerIs w h1 c1 p1) (hp2:PerIs w h2 c2 p2) (hv1:Valid p1) (hv2:Valid p2) (hqa:IsCanon qa p1.mem) (hqb:IsCanon qb p2.mem)
  (u1:qa.period≤1048576) (u2:qb.period≤1048576) (hs:sameB qa qb=false) (hn:ApartIs qa.mem qb.mem n true) :
  Calls Tryz.prog 32 #[perV h1 c1 p1.frm p1.period,perV h2 c2 p2.frm p2.period] w fun e w'=>e=.returned (.tuple #[.int .i64 n,.bool true])∧Below w.heap.size w w':=by
 have hqa':IsCanon qa qa.mem:=hqa.congr fun n=>(hqa.mem n).symm
 have hqb':IsCanon qb qb.mem:=hqb.congr fun n=>(hqb.mem n).symm
 have CA:=Lib.hid hqa'
 have CB:=Lib.hid hqb'
 obtain ⟨a1,m1,a2,m2,rfl,rfl⟩:=hp1.inn.form
 obtain ⟨a3,m3,a4,m4,rfl,rfl⟩:=hp2.inn.form
 have hl1:∀ W,Below w.heap.size w W→PerIs W (.slice a1 p1.head.length m1) (.slice a2 p1.cycle.length m2) p1:=fun W hb=>hp1.ext hb
 have hl2:∀ W,Below w.heap.size w W→PerIs W (.slice a3 p2.head.length m3) (.slice a4 p2.cycle.length m4) p2:=fun W hb=>hp2.ext hb
 have hvb1:=(validB_iff p1).2 hv1
 have hvb2:=(validB_iff p2).2 hv2
 have HV1:=Lib.hid hv1
 have HV2:=Lib.hid hv2
 have HQA:=Lib.hid hqa
 have HQB:=Lib.hid hqb
 have HF1:Hid (p1.frm≤562949953421312∧p1.period≤562949953421312):=by have:=hv1.frm;have:=hv1.per;exact Lib.hid (by omega)
 have HF2:Hid (p2.frm≤562949953421312∧p2.period≤562949953421312):=by have:=hv2.frm;have:=hv2.per;exact Lib.hid (by omega)
 obtain ⟨b1,b2,_,b4,b5⟩:=hqa.smaller hv1.wf
 obtain ⟨d1,d2,_,d4,d5⟩:=hqb.smaller hv2.wf
 have za0:=hqa.wf.frm
 have zb0:=hqb.wf.frm
 have za1:=hqa.wf.per
 have zb1:=hqb.wf.per
 have e1:=hv1.frm
 have e2:=hv1.per
 have e3:=hv2.frm
 have e4:=hv2.per
 have hgl:=gcd_bound (b:=qb.period) za1
 have hgl2:=gcd_bound2 (a:=qa.period) zb1
 clear hp1 hp2 hv1 hv2 hqa hqb
 obtain ⟨st,hst⟩:∃ st,st=max (max qa.frm qb.frm) 0:=⟨_,rfl⟩
 have HSTT:=Lib.hid hst
 have hs1:qa.frm≤st:=by omega
 have hs2:qb.frm≤st:=by omega
 have hs3:st≤1099511627776:=by omega
 have hs0:0≤st:=by omega
 generalize hG:((Int.gcd qa.period qb.period:Nat):Int)=g at *
 have HG:=Lib.hid hG
 clear hst hG
 have HS:=Lib.hid hs
 have HN:=Lib.hid hn
 clear hs hn hqa' hqb'
 go_enter Tryz.func32,Tryz.ntmps32
 go_upto_region 3 with (first|(go_at_call 15;first|((with_reducible refine (valid_any _ _ p1 _ (hl1 _ (by (repeat' (with_reducible first|assumption|apply Er|apply Ea|apply Ed|apply En|(refine Es ?_ (by first|(simp<;>omega)|omega) _)|refine Et ?_ (by assumption)))))).mono ?_);rintro e w1 ⟨rfl,hb1⟩;obtain ⟨hx1,hf1⟩:=bcell hb1;(try simp only [World.size_alloc,World.size_drew,size_drewN,World.size_setCell] at hx1 hf1);have hz1:w.heap.size+1<w1.heap.size:=(by have h7:=hb1.size;simp at h7;omega);have hz1':w.heap.size<w1.heap.size:=(by omega))|((with_reducible refine (valid_any _ _ p2 _ (hl2 _ (by (repeat' (with_reducible first|assumption|apply Er|apply Ea|apply Ed|apply En|(refine Es ?_ (by first|(simp<;>omega)|omega) _)|refine Et ?_ (by assumption)))))).mono ?_);rintro e w2 ⟨rfl,hb2⟩;obtain ⟨hx2,hf2⟩:=bcell hb2;(try simp only [World.size_alloc,World.size_drew,size_drewN,World.size_setCell] at hx2 hf2);have hz2:w.heap.size+1<w2.heap.size:=(by have h7:=hb2.size;omega);have hz2':w.heap.size<w2.heap.size:=(by omega)))|(go_at_call 36;refine (same_ok _ _ _ _ p1 p2 qa qb _ (hl1 _ (by (repeat' (with_reducible first|assumption|apply Er|apply Ea|apply Ed|apply En|(refine Es ?_ (by first|(simp<;>omega)|omega) _)|refine Et ?_ (by assumption))))) (hl2 _ (by (repeat' (with_reducible first|assumption|apply Er|apply Ea|apply Ed|apply En|(refine Es ?_ (by first|(simp<;>omega)|omega) _)|refine Et ?_ (by assumption))))) HV1.out HV2.out HQA.out HQB.out).mono ?_;rintro e w3 ⟨he,hb3⟩;rw [HS.out] at he;subst he))
 have hA:Bxx w3 w.heap.size #[.slice a1 p1.head.length m1,.int .i64 p1.frm,.int .i64 p1.period,.slice a2 p1.cycle.length m2] 24:=((((Bxx.at rfl).alloc _).upto hb1 (by simp;omega)).upto hb2 (by omega)).upto hb3 (by have:=hb2.size;omega)
 have hB:Bxx w3 (w.heap.size+1) #[.slice a3 p2.head.length m3,.int .i64 p2.frm,.int .i64 p2.period,.slice a4 p2.cycle.length m4] 24:=(((Bxx.at (by simp)).upto hb1 (by simp)).upto hb2 (by omega)).upto hb3 (by have:=hb2.size;omega)
 have hE2:Below w.heap.size w w3:=by (repeat' (with_reducible first|assumption|apply Er|apply Ea|apply Ed|apply En|(refine Es ?_ (by first|(simp<;>omega)|omega) _)|refine Et ?_ (by assumption)))
 clear hb1 hb2 hb3 hx1 hf1 hx2 hf2 hz1 hz2 hz1' hz2'
 have A0:w3.cell? ⟨w.heap.size,0,none⟩=some (.slice a1 p1.head.length m1):=(hA.cells 0).1
 have A1:w3.cell? ⟨w.heap.size,1,none⟩=some (.int .i64 p1.frm):=(hA.cells 1).1
 have A2:w3.cell? ⟨w.heap.size,2,none⟩=some (.int .i64 p1.period):=(hA.cells 2).1
 have A3:w3.cell? ⟨w.heap.size,3,none⟩=some (.slice a2 p1.cycle.length m2):=(hA.cells 3).1
 have B0:w3.cell? ⟨w.heap.size+1,0,none⟩=some (.slice a3 p2.head.length m3):=(hB.cells 0).1
 have B1:w3.cell? ⟨w.heap.size+1,1,none⟩=some (.int .i64 p2.frm):=(hB.cells 1).1
 have B2:w3.cell? ⟨w.heap.size+1,2,none⟩=some (.int .i64 p2.period):=(hB.cells 2).1
 have B3:w3.cell? ⟨w.heap.size+1,3,none⟩=some (.slice a4 p2.cycle.length m4):=(hB.cells 3).1
 go_upto_region 4 with (go_at_call 58;refine (newPair_any _ _ _ _ p1 p2 qa qb 0 _ (hl1 _ hE2) (hl2 _ hE2) HV1.out.wf HV2.out.wf HF1.out.1 HF2.out.1 HF1.out.2 HF2.out.2 HQA.out HQB.out (by omega) (by omega)).mono ?_;rintro e w5 ⟨x1,x2,x3,x4,xv,yv,mb,he,hP,hb5⟩;rw [← HSTT.out,HG.out] at he;rw [← HSTT.out] at hP;subst he;obtain ⟨z1,y1,z2,y2,rfl,rfl⟩:=hP.a.form;obtain ⟨z3,y3,z4,y4,rfl,rfl⟩:=hP.b.form;obtain ⟨⟨⟨xa,xc,rfl,_⟩,hxl,_⟩,_⟩:=hP.x;obtain ⟨⟨⟨ya,yc,rfl,_⟩,hyl,_⟩,_⟩:=hP.y)
 have hEb:=hE2.trans (hb5.mono (by have:=hE2.size;omega))
 generalize hpbw:w5.heap.size=pb at *
 have hszc:w.heap.size≤pb:=by have:=hEb.size;omega
 refine wp_abs (F:=fun W3=>Bxx W3 pb #[.slice z1 qa.head.length y1,.int .i64 qa.frm,.int .i64 qa.period,.slice z2 qa.cycle.length y2,.slice z3 qb.head.length y3,.int .i64 qb.frm,.int .i64 qb.period,.slice z4 qb.cycle.length y4,.int .i64 st,.slice xa (isort (cycL qa st)).length xc,.slice ya (isort (cycL qb st)).length yc,.int .i64 g,.map (some mb)] 62∧PairAt W3 (.slice z1 qa.head.length y1) (.slice z2 qa.cycle.length y2) (.slice z3 qb.head.length y3) (.slice z4 qb.cycle.length y4) qa qb st (.slice xa (isort (cycL qa st)).length xc) (.slice ya (isort (cycL qb st)).length yc) g mb∧Below w.heap.size w W3)
  ⟨Bxx.at hpbw.symm,by rw [← HG.out];exact (hP.below (Ea (Er w5) _) (by omega)).at,Ea hEb _⟩ ?_
 clear hP hEb hb5 hA hB A0 A1 A2 A3 B0 B1 B2 B3 hE2 hpbw hvb1 hvb2
 rintro W5 ⟨hpb,hPA,hE5⟩
 have hpbl:=hpb.lt
 have HPA:=Lib.hid hPA
 have HPB:=Lib.hid hpb
 have HE5:=Lib.hid hE5
 have c0:W5.cell? ⟨pb,0,none⟩=some (.slice z1 qa.head.length y1):=(hpb.cells 0).1
 have c1:W5.cell? ⟨pb,1,none⟩=some (.int .i64 qa.frm):=(hpb.cells 1).1
 have c2:W5.cell? ⟨pb,2,none⟩=some (.int .i64 qa.period):=(hpb.cells 2).1
 have c3:W5.cell? ⟨pb,3,none⟩=some (.slice z2 qa.cycle.length y2):=(hpb.cells 3).1
 have c4:W5.cell? ⟨pb,4,none⟩=some (.slice z3 qb.head.length y3):=(hpb.cells 4).1
 have c5:W5.cell? ⟨pb,5,none⟩=some (.int .i64 qb.frm):=(hpb.cells 5).1
 have c6:W5.cell? ⟨pb,6,none⟩=some (.int .i64 qb.period):=(hpb.cells 6).1
 have c7:W5.cell? ⟨pb,7,none⟩=some (.slice z4 qb.cycle.length y4):=(hpb.cells 7).1
 have c8:W5.cell? ⟨pb,8,none⟩=some (.int .i64 st):=(hpb.cells 8).1
 have c9:W5.cell? ⟨pb,9,none⟩=some (.slice xa (isort (cycL qa st)).length xc):=(hpb.cells 9).1
 have c10:W5.cell? ⟨pb,10,none⟩=some (.slice ya (isort (cycL qb st)).length yc):=(hpb.cells 10).1
 have c11:W5.cell? ⟨pb,11,none⟩=some (.int .i64 g):=(hpb.cells 11).1
 have c12:W5.cell? ⟨pb,12,none⟩=some (.map (some mb)):=(hpb.cells 12).1
 clear hpb hPA
 go_upto_region 5 with (go_at_call 65;refine (unlike_any _ _ _ _ qa qb st _ (HPA.out.a.ext (by (repeat' (with_reducible first|assumption|apply Er|apply Ea|apply Ed|apply En|(refine Es ?_ (by first|(simp<;>omega)|omega) _)|refine Et ?_ (by assumption))))) (HPA.out.b.ext (by (repeat' (with_reducible first|assumption|apply Er|apply Ea|apply Ed|apply En|(refine Es ?_ (by first|(simp<;>omega)|omega) _)|refine Et ?_ (by assumption))))) CA.out.wf CB.out.wf (by omega) (by omega) (by omega) (by omega) (by omega) (by omega)).mono ?_;rintro e w6 ⟨n6,b6,rfl,hu,hb6⟩)
 have HU:=Lib.hid hu
 clear hu
 refine wp_abs (F:=fun W3=>Bxx W3 pb #[.slice z1 qa.head.length y1,.int .i64 qa.frm,.int .i64 qa.period,.slice z2 qa.cycle.length y2,.slice z3 qb.head.length y3,.int .i64 qb.frm,.int .i64 qb.period,.slice z4 qb.cycle.length y4,.int .i64 st,.slice xa (isort (cycL qa st)).length xc,.slice ya (isort (cycL qb st)).length yc,.int .i64 g,.map (some mb)] 62∧PairAt W3 (.slice z1 qa.head.length y1) (.slice z2 qa.cycle.length y2) (.slice z3 qb.head.length y3) (.slice z4 qb.cycle.length y4) qa qb st (.slice xa (isort (cycL qa st)).length xc) (.slice ya (isort (cycL qb st)).length yc) g mb∧Below w.heap.size w W3)
  ⟨HPB.out.below hb6,HPA.out.ext hb6,by have hE5:=HE5.out;(repeat' (with_reducible first|assumption|apply Er|apply Ea|apply Ed|apply En|(refine Es ?_ (by first|(simp<;>omega)|omega) _)|refine Et ?_ (by assumption)))⟩ ?_
 clear c0 c1 c2 c3 c4 c5 c6 c7 c8 c9 c10 c11 c12 hb6 hpbl HPA HPB HE5 hE5
 rintro W6 ⟨hpb,hPA,hE6⟩
 cases b6 with
 | true=>
  go_wp2_with fail
  go_ret2
  rcases HU.out with ⟨_,g1,g2,g3,g4⟩|⟨g,_⟩
  ·obtain ⟨rfl,_⟩:=HN.out.unique (.inl ⟨rfl,g1,g3,g4⟩)
   exact ⟨rfl,hE6⟩
  ·cases g
 | false=>
  have hpre:∀ x,0≤x→x<st→(qa.mem x↔qb.mem x):=by
   rcases HU.out with ⟨g,_⟩|⟨_,_,g⟩
   ·cases g
   ·exact g
  have HPRE:=Lib.hid hpre
  clear hpre HU
  have hpbl:=hpb.lt
  have HPA:=Lib.hid hPA
  have HPB:=Lib.hid hpb
  have HE6:=Lib.hid hE6
  have c0:W6.cell? ⟨pb,0,none⟩=some (.slice z1 qa.head.length y1):=(hpb.cells 0).1
  have c1:W6.cell? ⟨pb,1,none⟩=some (.int .i64 qa.frm):=(hpb.cells 1).1
  have c2:W6.cell? ⟨pb,2,none⟩=some (.int .i64 qa.period):=(hpb.cells 2).1
  have c3:W6.cell? ⟨pb,3,none⟩=some (.slice z2 qa.cycle.length y2):=(hpb.cells 3).1
  have c4:W6.cell? ⟨pb,4,none⟩=some (.slice z3 qb.head.length y3):=(hpb.cells 4).1
  have c5:W6.cell? ⟨pb,5,none⟩=some (.int .i64 qb.frm):=(hpb.cells 5).1
  have c6:W6.cell? ⟨pb,6,none⟩=some (.int .i64 qb.period):=(hpb.cells 6).1
  have c7:W6.cell? ⟨pb,7,none⟩=some (.slice z4 qb.cycle.length y4):=(hpb.cells 7).1
  have c8:W6.cell? ⟨pb,8,none⟩=some (.int .i64 st):=(hpb.cells 8).1
  have c9:W6.cell? ⟨pb,9,none⟩=some (.slice xa (isort (cycL qa st)).length xc):=(hpb.cells 9).1
  have c10:W6.cell? ⟨pb,10,none⟩=some (.slice ya (isort (cycL qb st)).length yc):=(hpb.cells 10).1
  have c11:W6.cell? ⟨pb,11,none⟩=some (.int .i64 g):=(hpb.cells 11).1
  have c12:W6.cell? ⟨pb,12,none⟩=some (.map (some mb)):=(hpb.cells 12).1
  clear hpb hPA
  go_upto_region 8 with (fail)
  refine wp_region_facts (w0:=W6) [0,1,2,3,4,5] [] (fun v=>⟨#[perV (.slice a1 p1.head.length m1) (.slice a2 p1.cycle.length m2) p1.frm p1.period,perV (.slice a3 p2.head.length m3) (.slice a4 p2.cycle.length m4) p2.frm p2.period,.pointer (some ⟨w.heap.size,0,none⟩),.pointer (some ⟨w.heap.size+1,0,none⟩),.int .i64 0,.bool false,.pointer (some ⟨pb,0,none⟩),.int .i64 n6,.bool false,.int .i64 (-1),undef,undef,undef,undef,undef,.agg #[.slice a1 p1.head.length m1,.int .i64 p1.frm,.int .i64 p1.period,.slice a2 p1.cycle.length m2],.bool true,.bool false,.bool false,.agg #[.slice a3 p2.head.length m3,.int .i64 p2.frm,.int .i64 p2.period,.slice a4 p2.cycle.length m4],.bool true,.bool false,.bool false,.bool false,.agg #[.slice a1 p1.head.length m1,.int .i64 p1.frm,.int .i64 p1.period,.slice a2 p1.cycle.length m2],.agg #[.slice a3 p2.head.length m3,.int .i64 p2.frm,.int .i64 p2.period,.slice a4 p2.cycle.length m4],.bool false,.bool false,.agg #[.slice a1 p1.head.length m1,.int .i64 p1.frm,.int .i64 p1.period,.slice a2 p1.cycle.length m2],.agg #[.slice a3 p2.head.length m3,.int .i64 p2.frm,.int .i64 p2.period,.slice a4 p2.cycle.length m4],pairV (.slice z1 qa.head.length y1) (.slice z2 qa.cycle.length y2) (.slice z3 qb.head.length y3) (.slice z4 qb.cycle.length y4) qa qb st (.slice xa (isort (cycL qa st)).length xc) (.slice ya (isort (cycL qb st)).length yc) g mb,.tuple #[.int .i64 n6,.bool false],.pointer (some ⟨pb,0,none⟩),.agg #[.slice z1 qa.head.length y1,.int .i64 qa.frm,.int .i64 qa.period,.slice z2 qa.cycle.length y2],.pointer (some ⟨pb,4,none⟩),.agg #[.slice z3 qb.head.length y3,.int .i64 qb.frm,.int .i64 qb.period,.slice z4 qb.cycle.length y4],.pointer (some ⟨pb,8,none⟩),.int .i64 st,.tuple #[.int .i64 n6,.bool false],.int .i64 n6,.bool false,.bool false,undef,v 0,v 1,v 2,v 3,v 4,v 5,undef,undef,undef,undef,undef,undef,undef,undef,undef,undef,undef,undef,undef,undef,undef,undef,undef,undef,undef,undef,undef,undef,undef,undef,undef,undef,undef,undef,undef,undef,undef,undef,undef,undef,undef,undef,undef,undef],[]⟩) (fun _=>undef)
   (fun i v lo hi W=>match i with
    | 0=>v 0=pairV (.slice z1 qa.head.length y1) (.slice z2 qa.cycle.length y2) (.slice z3 qb.head.length y3) (.slice z4 qb.cycle.length y4) qa qb st (.slice xa (isort (cycL qa st)).length xc) (.slice ya (isort (cycL qb st)).length yc) g mb
    | 1=>v 1=pairV (.slice z1 qa.head.length y1) (.slice z2 qa.cycle.length y2) (.slice z3 qb.head.length y3) (.slice z4 qb.cycle.length y4) qa qb st (.slice xa (isort (cycL qa st)).length xc) (.slice ya (isort (cycL qb st)).length yc) g mb
    | 2=>SwV W (v 2) qb qa st g
    | 3=>v 3=.slice (some ⟨lo 3,0,none⟩) 2 2∧lo 3<hi 3∧TwoP W (lo 3) (v 0) (v 2)
    | 4=>v 4=.int .i64 2
    | 5=>v 5=.int .i64 0
    | _=>True)
   (fun W=>PairAt W (.slice z1 qa.head.length y1) (.slice z2 qa.cycle.length y2) (.slice z3 qb.head.length y3) (.slice z4 qb.cycle.length y4) qa qb st (.slice xa (isort (cycL qa st)).length xc) (.slice ya (isort (cycL qb st)).length yc) g mb∧W.cell? ⟨pb,0,none⟩=some (.slice z1 qa.head.length y1)∧W.cell? ⟨pb,1,none⟩=some (.int .i64 qa.frm)∧W.cell? ⟨pb,2,none⟩=some (.int .i64 qa.period)∧W.cell? ⟨pb,3,none⟩=some (.slice z2 qa.cycle.length y2)∧W.cell? ⟨pb,4,none⟩=some (.slice z3 qb.head.length y3)∧W.cell? ⟨pb,5,none⟩=some (.int .i64 qb.frm)∧W.cell? ⟨pb,6,none⟩=some (.int .i64 qb.period)∧W.cell? ⟨pb,7,none⟩=some (.slice z4 qb.cycle.length y4)∧W.cell? ⟨pb,8,none⟩=some (.int .i64 st)∧W.cell? ⟨pb,9,none⟩=some (.slice xa (isort (cycL qa st)).length xc)∧W.cell? ⟨pb,10,none⟩=some (.slice ya (isort (cycL qb st)).length yc)∧W.cell? ⟨pb,11,none⟩=some (.int .i64 g)∧W.cell? ⟨pb,12,none⟩=some (.map (some mb))) rfl (by kernel_rfl) (by decide) rfl ?stab ?loc (fun W hb=>⟨HPA.out.ext hb,cux c0 hb,cux c1 hb,cux c2 hb,cux c3 hb,cux c4 hb,cux c5 hb,cux c6 hb,cux c7 hb,cux c8 hb,cux c9 hb,cux c10 hb,cux c11 hb,cux c12 hb⟩) ?steps ?fin
  case stab=>
   rintro (_|_|_|_|_|_|i) v lo hi W W' h hb
   ·exact h
   ·exact h
   ·exact h.below hb
   ·exact ⟨h.1,h.2.1,h.2.2.below hb⟩
   ·exact h
   ·exact h
   ·trivial
  case loc=>
   rintro (_|_|_|_|_|_|i) v v' lo lo' hi hi' W hag h
   ·exact (hag 0 (.inl rfl)).1 ▸ h
   ·exact (hag 1 (.inl rfl)).1 ▸ h
   ·have q:=hag 2 (.inl rfl)
    have q1:=hag 1 (.inr (Rdp (by kernel_rfl)))
    (try dsimp only at h ⊢);(try simp only [q.1,q.2.1,q.2.2,q1.1,q1.2.1,q1.2.2] at h);exact h
   ·have q:=hag 3 (.inl rfl)
    have q0:=hag 0 (.inr (Rdp (by kernel_rfl)))
    have q2:=hag 2 (.inr (Rdp (by kernel_rfl)))
    (try dsimp only at h ⊢);(try simp only [q.1,q.2.1,q.2.2,q0.1,q0.2.1,q0.2.2,q2.1,q2.2.1,q2.2.2] at h);exact h
   ·exact (hag 4 (.inl rfl)).1 ▸ h
   ·exact (hag 5 (.inl rfl)).1 ▸ h
   ·trivial
  case steps=>
   refine SFx.cons rfl ?_ (SFx.cons rfl ?_ (SFx.cons rfl ?_ (SFx.cons rfl ?_ (SFx.cons rfl ?_ (SFx.cons rfl ?_ SFx.nil)))))
   ·rintro v lo hi W hb ⟨hPa,g0,g1,g2,g3,g4,g5,g6,g7,g8,g9,g10,g11,g12⟩ hd K hK
    clear hd
    dsimp only
    go_wp2_with fail
    exact acx (hK (pairV (.slice z1 qa.head.length y1) (.slice z2 qa.cycle.length y2) (.slice z3 qb.head.length y3) (.slice z4 qb.cycle.length y4) qa qb st (.slice xa (isort (cycL qa st)).length xc) (.slice ya (isort (cycL qb st)).length yc) g mb) W (Below.refl _ _) rfl) (by simp)
   ·rintro v lo hi W hb ⟨hPa,g0,g1,g2,g3,g4,g5,g6,g7,g8,g9,g10,g11,g12⟩ hd K hK
    clear hd
    dsimp only
    go_wp2_with fail
    exact acx (hK (pairV (.slice z1 qa.head.length y1) (.slice z2 qa.cycle.length y2) (.slice z3 qb.head.length y3) (.slice z4 qb.cycle.length y4) qa qb st (.slice xa (isort (cycL qa st)).length xc) (.slice ya (isort (cycL qb st)).length yc) g mb) W (Below.refl _ _) rfl) (by simp)
   ·rintro v lo hi W hb ⟨hPa,g0,g1,g2,g3,g4,g5,g6,g7,g8,g9,g10,g11,g12⟩ hd K hK
    have e1:v 1=pairV (.slice z1 qa.head.length y1) (.slice z2 qa.cycle.length y2) (.slice z3 qb.head.length y3) (.slice z4 qb.cycle.length y4) qa qb st (.slice xa (isort (cycL qa st)).length xc) (.slice ya (isort (cycL qb st)).length yc) g mb:=(hd 1 (Rdp (by kernel_rfl))).2.2
    clear hd
    dsimp only
    (try simp only [e1])
    go_wp2_with (go_at_call 66;refine (swapped_any _ _ _ _ qa qb st _ _ g mb _ (hPa.ext (by (repeat' (with_reducible first|assumption|apply Er|apply Ea|apply Ed|apply En|(refine Es ?_ (by first|(simp<;>omega)|omega) _)|refine Et ?_ (by assumption))))) CA.out CB.out (by omega) (by omega) (by omega) (by omega) (by omega) (by omega) (by omega)).mono ?_;rintro e w3 ⟨x1,x2,x3,x4,xv,yv,mb',he,hP3,hb3⟩;rw [HG.out] at he;subst he)
    exact acx (hK (pairV x1 x2 x3 x4 qb qa st xv yv g mb') w3 hb3 ⟨x1,x2,x3,x4,xv,yv,mb',rfl,by have h7:=hP3.at;rw [Int.gcd_comm,HG.out] at h7;exact h7⟩) (by simp [e1])
   ·rintro v lo hi W hb ⟨hPa,g0,g1,g2,g3,g4,g5,g6,g7,g8,g9,g10,g11,g12⟩ hd K hK
    have e0:v 0=pairV (.slice z1 qa.head.length y1) (.slice z2 qa.cycle.length y2) (.slice z3 qb.head.length y3) (.slice z4 qb.cycle.length y4) qa qb st (.slice xa (isort (cycL qa st)).length xc) (.slice ya (isort (cycL qb st)).length yc) g mb:=(hd 0 (Rdp (by kernel_rfl))).2.2
    obtain ⟨la2,lb2,D2⟩:=hd 2 (Rdp (by kernel_rfl))
    clear hd
    dsimp only
    (try simp only [e0])
    obtain ⟨x1,x2,x3,x4,xv,yv,mb',e2,hP2⟩:=D2
    simp only [e2]
    go_wp2_with fail
    exact acx (hK (.slice (some ⟨W.heap.size,0,none⟩) 2 2) _ (Ea (Er _) _) ⟨rfl,by simp,by show TwoP _ _ (v 0) (v 2);rw [e0,e2];exact TwoP.new _ _ _ _ _ (by simp) rfl rfl⟩) (by simp [e0,e2])
   ·rintro v lo hi W hb ⟨hPa,g0,g1,g2,g3,g4,g5,g6,g7,g8,g9,g10,g11,g12⟩ hd K hK
    obtain ⟨la3,lb3,D3⟩:=hd 3 (Rdp (by kernel_rfl))
    clear hd
    dsimp only
    obtain ⟨e3,_,_⟩:=D3
    simp only [e3]
    go_wp2_with fail
    exact acx (hK (.int .i64 2) W (Below.refl _ _) rfl) (by simp [e3])
   ·rintro v lo hi W hb ⟨hPa,g0,g1,g2,g3,g4,g5,g6,g7,g8,g9,g10,g11,g12⟩ hd K hK
    clear hd
    dsimp only
    go_wp2_with fail
    exact acx (hK (.int .i64 0) W (Below.refl _ _) rfl) (by simp)
  case fin=>
   rintro v lo hi W7 hb7 ⟨hPa,g0,g1,g2,g3,g4,g5,g6,g7,g8,g9,g10,g11,g12⟩ hf hap
   show wpList _ _ _ [] _ _
   have e0:v 0=pairV (.slice z1 qa.head.length y1) (.slice z2 qa.cycle.length y2) (.slice z3 qb.head.length y3) (.slice z4 qb.cycle.length y4) qa qb st (.slice xa (isort (cycL qa st)).length xc) (.slice ya (isort (cycL qb st)).length yc) g mb:=(hf 0 rfl).2.2.2
   obtain ⟨x1,x2,x3,x4,xv,yv,mb',e2,hP2⟩:=(hf 2 rfl).2.2.2
   obtain ⟨e3,_,hTw⟩:=(hf 3 rfl).2.2.2
   have e4:v 4=.int .i64 2:=(hf 4 rfl).2.2.2
   have e5:v 5=.int .i64 0:=(hf 5 rfl).2.2.2
   obtain ⟨i1,j1,i2,j2,rfl,rfl⟩:=hP2.a.inn.form
   obtain ⟨i3,j3,i4,j4,rfl,rfl⟩:=hP2.b.inn.form
   obtain ⟨⟨i5,j5,rfl,_⟩,hxl,_⟩:=hP2.x
   obtain ⟨⟨i6,j6,rfl,_⟩,hyl,_⟩:=hP2.y
   rw [e0,e2] at hTw
   have HTW:=Lib.hid hTw
   have HP2:=Lib.hid hP2
   have HPa:=Lib.hid hPa
   have hE7:Below w.heap.size w W7:=by have hE:=HE6.out;(repeat' (with_reducible first|assumption|apply Er|apply Ea|apply Ed|apply En|(refine Es ?_ (by first|(simp<;>omega)|omega) _)|refine Et ?_ (by assumption)))
   have HE7:=Lib.hid hE7
   clear hf hap hTw g0 g1 g2 g3 g4 g5 g6 g7 g8 g9 g10 g11 g12 hP2 hPa hb7 hE7 HPA HPB HE6 hE6 c0 c1 c2 c3 c4 c5 c6 c7 c8 c9 c10 c11 c12
   dsimp only
   rw [e0,e2,e3,e4,e5]
   clear e0 e2 e3 e4 e5
   generalize v 1=vq
   generalize lo 3=tb at *
   have hD:∀ x,¬ (qa.mem x↔qb.mem x)→(fun n=>¬ (qa.mem n↔qb.mem n)) x:=fun x h=>h
   obtain ⟨PQ,hPQ⟩:∃ PQ,PQ=qa.period*qb.period:=⟨_,rfl⟩
   have hPQ1:PQ≤1099511627776:=by
    have h1:=Int.mul_le_mul_of_nonneg_right u1 (show 0≤qb.period by omega)
    have h2:=Int.mul_le_mul_of_nonneg_left u2 (show (0:Int)≤1048576 by omega)
    omega
   have hPQ0:0≤PQ:=by rw [hPQ];exact Int.mul_nonneg (by omega) (by omega)
   have HPQ:=Lib.hid hPQ
   have HGS:Hid (g=(Int.gcd qb.period qa.period:Nat)):=Lib.hid (by rw [Int.gcd_comm];exact HG.out.symm)
   have hw1:((-1:Int))=-1:=rfl
   clear hPQ hD
   go_wp2_with fail
   go_loopw [9,48] (fun bv iv wr=>∃ (i best:Int),iv=.int .i64 i∧bv=.int .i64 best∧(i=0∨i=1∨i=2)∧Hid (BestOk (fun n=>¬ (qa.mem n↔qb.mem n)) st (st+PQ) best∧(1≤i→Cov st qa.mem qb.mem best)∧(2≤i→Cov st qb.mem qa.mem best))∧Below W7.heap.size W7 wr) (fun _ iv _=>2-(intOf iv).toNat)
   case atStart=>exact ⟨0,-1,rfl,rfl,.inl rfl,Lib.hid ⟨.inl rfl,by omega,by omega⟩,Below.refl _ _⟩
   case round=>
    obtain ⟨i,best,rfl,rfl,hi,hI,hb⟩:=hrel
    have HB:=Lib.hid hb
    clear hb
    rcases hi with rfl|rfl|rfl
    ·skip
     have tw:∀ k,k<13→wr.cell? ⟨tb,0+k,none⟩=(#[.slice z1 qa.head.length y1,.int .i64 qa.frm,.int .i64 qa.period,.slice z2 qa.cycle.length y2,.slice z3 qb.head.length y3,.int .i64 qb.frm,.int .i64 qb.period,.slice z4 qb.cycle.length y4,.int .i64 st,.slice xa (isort (cycL qa st)).length xc,.slice ya (isort (cycL qb st)).length yc,.int .i64 g,.map (some mb)])[k]?:=fun k hk=>by
      obtain ⟨c,ec,_,hc⟩:=(HTW.out.below HB.out).fst
      injection ec with ec
      subst ec
      exact by simpa using hc k hk
     have q0:=tw 0 (by omega)
     have q1:=tw 1 (by omega)
     have q2:=tw 2 (by omega)
     have q3:=tw 3 (by omega)
     have q4:=tw 4 (by omega)
     have q5:=tw 5 (by omega)
     have q6:=tw 6 (by omega)
     have q7:=tw 7 (by omega)
     have q8:=tw 8 (by omega)
     have q9:=tw 9 (by omega)
     have q10:=tw 10 (by omega)
     have q11:=tw 11 (by omega)
     have q12:=tw 12 (by omega)
     clear tw
     simp only [Nat.zero_add,Nat.add_zero,Nat.reduceAdd,List.getElem?_toArray,List.getElem?_cons_zero,List.getElem?_cons_succ] at q0 q1 q2 q3 q4 q5 q6 q7 q8 q9 q10 q11 q12
     have HPr:Hid (PairAt wr (.slice z1 qa.head.length y1) (.slice z2 qa.cycle.length y2) (.slice z3 qb.head.length y3) (.slice z4 qb.cycle.length y4) qa qb st (.slice xa (isort (cycL qa st)).length xc) (.slice ya (isort (cycL qb st)).length yc) g mb):=Lib.hid (HPa.out.ext HB.out)
     go_upto_region 11 with (fail)
     refine wp_abs (F:=fun U=>Bxx U wr.heap.size #[.slice z1 qa.head.length y1,.int .i64 qa.frm,.int .i64 qa.period,.slice z2 qa.cycle.length y2,.slice z3 qb.head.length y3,.int .i64 qb.frm,.int .i64 qb.period,.slice z4 qb.cycle.length y4,.int .i64 st,.slice xa (isort (cycL qa st)).length xc,.slice ya (isort (cycL qb st)).length yc,.int .i64 g,.map (some mb)] 62∧PairAt U (.slice z1 qa.head.length y1) (.slice z2 qa.cycle.length y2) (.slice z3 qb.head.length y3) (.slice z4 qb.cycle.length y4) qa qb st (.slice xa (isort (cycL qa st)).length xc) (.slice ya (isort (cycL qb st)).length yc) g mb∧Below W7.heap.size W7 U) ⟨Bxx.at rfl,HPr.out.ext (Ea (Er _) _),by have hb:=HB.out;(repeat' (with_reducible first|assumption|apply Er|apply Ea|apply Ed|apply En|(refine Es ?_ (by first|(simp<;>omega)|omega) _)|refine Et ?_ (by assumption)))⟩ ?_
     clear q0 q1 q2 q3 q4 q5 q6 q7 q8 q9 q10 q11 q12 HPr HB
     generalize wr.heap.size=bq
     rintro WQ ⟨hq,hPq,hEQ⟩
     have c0:WQ.cell? ⟨bq,0,none⟩=some (.slice z1 qa.head.length y1):=(hq.cells 0).1
     have c1:WQ.cell? ⟨bq,1,none⟩=some (.int .i64 qa.frm):=(hq.cells 1).1
     have c2:WQ.cell? ⟨bq,2,none⟩=some (.int .i64 qa.period):=(hq.cells 2).1
     have c3:WQ.cell? ⟨bq,3,none⟩=some (.slice z2 qa.cycle.length y2):=(hq.cells 3).1
     have c4:WQ.cell? ⟨bq,4,none⟩=some (.slice z3 qb.head.length y3):=(hq.cells 4).1
     have c5:WQ.cell? ⟨bq,5,none⟩=some (.int .i64 qb.frm):=(hq.cells 5).1
     have c6:WQ.cell? ⟨bq,6,none⟩=some (.int .i64 qb.period):=(hq.cells 6).1
     have c7:WQ.cell? ⟨bq,7,none⟩=some (.slice z4 qb.cycle.length y4):=(hq.cells 7).1
     have c8:WQ.cell? ⟨bq,8,none⟩=some (.int .i64 st):=(hq.cells 8).1
     have c9:WQ.cell? ⟨bq,9,none⟩=some (.slice xa (isort (cycL qa st)).length xc):=(hq.cells 9).1
     have c10:WQ.cell? ⟨bq,10,none⟩=some (.slice ya (isort (cycL qb st)).length yc):=(hq.cells 10).1
     have c11:WQ.cell? ⟨bq,11,none⟩=some (.int .i64 g):=(hq.cells 11).1
     have c12:WQ.cell? ⟨bq,12,none⟩=some (.map (some mb)):=(hq.cells 12).1
     have HQ:=Lib.hid hq
     have HPq:=Lib.hid hPq
     have HEQ:=Lib.hid hEQ
     clear hq hPq hEQ
     go_wp2_with fail
     clear c0 c1 c2 c3 c4 c5 c6 c7 c8 c9 c10 c11 c12
     go_loopw [9,55] (fun bv kv wk=>∃ (k:Nat) (b1:Int),k≤(isort (cycL qa st)).length∧kv=.int .i64 k∧bv=.int .i64 b1∧Hid (MidInv (fun n=>¬ (qa.mem n↔qb.mem n)) qb.mem st qa.period (st+PQ) best (isort (cycL qa st)) k b1)∧Below WQ.heap.size WQ wk) (fun _ kv _=>(isort (cycL qa st)).length-(intOf kv).toNat)
     case atStart=>exact ⟨0,best,by omega,rfl,rfl,Lib.hid (MidInv.start hI.out.1),Below.refl _ _⟩
     case round=>
      obtain ⟨k,b1,hk,rfl,rfl,hM,hb⟩:=hrel
      by_cases hlt:k<(isort (cycL qa st)).length
      ·have hx9:=(HPq.out.ext hb).x
       obtain ⟨⟨a8,c8,he8,_,_,h38⟩,_,_⟩:=hx9
       injection he8 with he1 he2 he3
       subst he1
       subst he3
       rcases h38 with h38|⟨b8,f8,rfl,hcell⟩
       ·rw [h38] at hlt
        simp at hlt
       have hcl:=hcell k hlt
       have hkI:(k:Int)<(isort (cycL qa st)).length:=by omega
       obtain ⟨x,hxx⟩:∃ x,x=(isort (cycL qa st)).getD k 0:=⟨_,rfl⟩
       rw [← hxx] at hcl
       have HXX:=Lib.hid hxx
       have hxb:0≤x∧x<qa.period:=by rw [hxx];exact (res_rise CA.out.wf hs1).2 _ (getD_mem hlt)
       obtain ⟨hxb0,hxb1⟩:=hxb
       have hxm:x∈isort (cycL qa st):=by rw [hxx];exact getD_mem hlt
       have HXM:=Lib.hid hxm
       have hbx:=HQ.out.below hb
       have c0:wr.cell? ⟨bq,0,none⟩=some (.slice z1 qa.head.length y1):=(hbx.cells 0).1
       have c1:wr.cell? ⟨bq,1,none⟩=some (.int .i64 qa.frm):=(hbx.cells 1).1
       have c2:wr.cell? ⟨bq,2,none⟩=some (.int .i64 qa.period):=(hbx.cells 2).1
       have c3:wr.cell? ⟨bq,3,none⟩=some (.slice z2 qa.cycle.length y2):=(hbx.cells 3).1
       have c4:wr.cell? ⟨bq,4,none⟩=some (.slice z3 qb.head.length y3):=(hbx.cells 4).1
       have c5:wr.cell? ⟨bq,5,none⟩=some (.int .i64 qb.frm):=(hbx.cells 5).1
       have c6:wr.cell? ⟨bq,6,none⟩=some (.int .i64 qb.period):=(hbx.cells 6).1
       have c7:wr.cell? ⟨bq,7,none⟩=some (.slice z4 qb.cycle.length y4):=(hbx.cells 7).1
       have c8:wr.cell? ⟨bq,8,none⟩=some (.int .i64 st):=(hbx.cells 8).1
       have c9:wr.cell? ⟨bq,9,none⟩=some (.slice (some ⟨b8,f8,none⟩) (isort (cycL qa st)).length xc):=(hbx.cells 9).1
       have c10:wr.cell? ⟨bq,10,none⟩=some (.slice ya (isort (cycL qb st)).length yc):=(hbx.cells 10).1
       have c11:wr.cell? ⟨bq,11,none⟩=some (.int .i64 g):=(hbx.cells 11).1
       have c12:wr.cell? ⟨bq,12,none⟩=some (.map (some mb)):=(hbx.cells 12).1
       have HP9:Hid (PairAt wr (.slice z1 qa.head.length y1) (.slice z2 qa.cycle.length y2) (.slice z3 qb.head.length y3) (.slice z4 qb.cycle.length y4) qa qb st (.slice (some ⟨b8,f8,none⟩) (isort (cycL qa st)).length xc) (.slice ya (isort (cycL qb st)).length yc) g mb):=Lib.hid (HPq.out.ext hb)
       have HQ9:=Lib.hid hbx
       have HB9:=Lib.hid hb
       clear hcell hxx hxm hbx hb
       cases hfull:fullB (isort (cycL qb st)) g qb.period x with
       | true=>
        have HF:=Lib.hid hfull
        clear hfull
        go_wp2_with (go_at_call 67;refine (full_any _ _ _ _ qa qb st _ _ g _ x _ HP9.out (by omega) (by omega) (by omega) (by omega) (by omega) (by omega)).mono ?_;rintro e w5 ⟨he,hb5⟩;rw [HF.out] at he;subst he)
        go_roundw
        case rel=>
         refine ⟨k+1,b1,by omega,by go_num,rfl,Lib.hid (hM.out.full hlt fun m h1 h2=>?_),by have hb:=HB9.out;(repeat' (with_reducible first|assumption|apply Er|apply Ea|apply Ed|apply En|(refine Es ?_ (by first|(simp<;>omega)|omega) _)|refine Et ?_ (by assumption)))⟩
         exact (full_all CA.out.wf CB.out.wf hs1 hs2 HG.out.symm HXM.out).1 HF.out m h1 (by rw [h2,HXX.out])
        case measure=>simp [intOf];omega
       | false=>
        have HF:=Lib.hid hfull
        clear hfull
        have HNF:=Lib.hid (not_full CA.out.wf CB.out.wf hs1 hs2 HG.out.symm HXM.out HF.out)
        go_wp2_with (go_at_call 67;refine (full_any _ _ _ _ qa qb st _ _ g _ x _ HP9.out (by omega) (by omega) (by omega) (by omega) (by omega) (by omega)).mono ?_;rintro e w5 ⟨he,hb5⟩;rw [HF.out] at he;subst he;have hbx5:=HQ9.out.below hb5;have e0:=(hbx5.cells 0).1;have e1:=(hbx5.cells 1).1;have e2:=(hbx5.cells 2).1;have e8:=(hbx5.cells 8).1;clear hbx5)
        have HP6:Hid (PairAt w5 (.slice z1 qa.head.length y1) (.slice z2 qa.cycle.length y2) (.slice z3 qb.head.length y3) (.slice z4 qb.cycle.length y4) qa qb st (.slice (some ⟨b8,f8,none⟩) (isort (cycL qa st)).length xc) (.slice ya (isort (cycL qb st)).length yc) g mb):=Lib.hid (HP9.out.ext hb5)
        have HQ6:=Lib.hid (HQ9.out.below hb5)
        have HB6:Hid (Below WQ.heap.size WQ w5):=Lib.hid (by have hb:=HB9.out;(repeat' (with_reducible first|assumption|apply Er|apply Ea|apply Ed|apply En|(refine Es ?_ (by first|(simp<;>omega)|omega) _)|refine Et ?_ (by assumption))))
        obtain ⟨br1,br2,br3⟩:=hM.out.best.rng hs0
        clear hb5 c0 c1 c2 c3 c4 c5 c6 c7 c8 c9 c10 c11 c12 e0 e1 e2 e8
        go_loopw [9,14] (fun bv nv wn=>∃ (j:Nat) (n' b2:Int),nv=.int .i64 n'∧bv=.int .i64 b2∧Hid (InnInv (fun n=>¬ (qa.mem n↔qb.mem n)) qb.mem st x qa.period (st+PQ) b1 j n' b2)∧st+x≤n'∧n'≤st+PQ+qa.period∧-1≤b2∧b2≤st+PQ∧Below w5.heap.size w5 wn) (fun _ nv _=>(st+PQ+qa.period+1-intOf nv).toNat)
        case atStart=>exact ⟨0,st+x,b1,rfl,rfl,Lib.hid (InnInv.start hM.out.best),by omega,by omega,by omega,by omega,Below.refl _ _⟩
        case round=>
         obtain ⟨j,n',b2,rfl,rfl,hin,hn0,hn1,hb0,hb1,hb⟩:=hrel
         by_cases hneg:b2<0
         ·have hgo:b2=-1∨n'<b2:=by omega
          have hP5:=HP6.out.ext hb
          have HP5:=Lib.hid hP5
          have hbx5:=HQ6.out.below hb
          have d0:wr.cell? ⟨bq,0,none⟩=some (.slice z1 qa.head.length y1):=(hbx5.cells 0).1
          have d1:wr.cell? ⟨bq,1,none⟩=some (.int .i64 qa.frm):=(hbx5.cells 1).1
          have d2:wr.cell? ⟨bq,2,none⟩=some (.int .i64 qa.period):=(hbx5.cells 2).1
          have d3:wr.cell? ⟨bq,3,none⟩=some (.slice z2 qa.cycle.length y2):=(hbx5.cells 3).1
          have d4:wr.cell? ⟨bq,4,none⟩=some (.slice z3 qb.head.length y3):=(hbx5.cells 4).1
          have d5:wr.cell? ⟨bq,5,none⟩=some (.int .i64 qb.frm):=(hbx5.cells 5).1
          have d6:wr.cell? ⟨bq,6,none⟩=some (.int .i64 qb.period):=(hbx5.cells 6).1
          have d7:wr.cell? ⟨bq,7,none⟩=some (.slice z4 qb.cycle.length y4):=(hbx5.cells 7).1
          have d8:wr.cell? ⟨bq,8,none⟩=some (.int .i64 st):=(hbx5.cells 8).1
          have d9:wr.cell? ⟨bq,9,none⟩=some (.slice (some ⟨b8,f8,none⟩) (isort (cycL qa st)).length xc):=(hbx5.cells 9).1
          have d10:wr.cell? ⟨bq,10,none⟩=some (.slice ya (isort (cycL qb st)).length yc):=(hbx5.cells 10).1
          have d11:wr.cell? ⟨bq,11,none⟩=some (.int .i64 g):=(hbx5.cells 11).1
          have d12:wr.cell? ⟨bq,12,none⟩=some (.map (some mb)):=(hbx5.cells 12).1
          have HB7:=Lib.hid hb
          have hlim:n'<st+PQ:=hin.out.lim (by omega) hs0 hxb0 hxb1 (by rw [HPQ.out,Int.mul_comm]) HNF.out hgo
          have hge0:0≤n':=by omega
          have HBX5:=Lib.hid hbx5
          clear hP5 hbx5 hb
          cases hmb:memB qb n' with
          | true=>
           have HMB:=Lib.hid hmb
           clear hmb
           go_wp2_with (go_at_call 54;refine (member_any _ _ qb n' _ (HP5.out.b.ext (by (repeat' (with_reducible first|assumption|apply Er|apply Ea|apply Ed|apply En|(refine Es ?_ (by first|(simp<;>omega)|omega) _)|refine Et ?_ (by assumption))))) CB.out.wf (by omega) (by omega) hge0 (by omega)).mono ?_;rintro e w7 ⟨he,hb7⟩;rw [HMB.out] at he;subst he;have hb77:=HBX5.out.below hb7;have f2:=(hb77.cells 2).1;clear hb77)
           go_roundw
           case rel=>exact ⟨j+1,n'+qa.period,b2,by go_num,rfl,Lib.hid (hin.out.has ((memB_iff hge0).1 HMB.out)),by omega,by omega,by omega,by omega,by have hb:=HB7.out;(repeat' (with_reducible first|assumption|apply Er|apply Ea|apply Ed|apply En|(refine Es ?_ (by first|(simp<;>omega)|omega) _)|refine Et ?_ (by assumption)))⟩
           case measure=>simp [intOf];omega
          | false=>
           have HMB:=Lib.hid hmb
           clear hmb
           go_wp2_with (go_at_call 54;refine (member_any _ _ qb n' _ (HP5.out.b.ext (by (repeat' (with_reducible first|assumption|apply Er|apply Ea|apply Ed|apply En|(refine Es ?_ (by first|(simp<;>omega)|omega) _)|refine Et ?_ (by assumption))))) CB.out.wf (by omega) (by omega) hge0 (by omega)).mono ?_;rintro e w7 ⟨he,hb7⟩;rw [HMB.out] at he;subst he;have hb77:=HBX5.out.below hb7;have f2:=(hb77.cells 2).1;clear hb77)
           go_roundw
           case rel=>
            have hno:¬ qb.mem n':=fun h=>by have:=(memB_iff hge0).2 h;rw [HMB.out] at this;cases this
            have hyes:qa.mem n':=by
             rw [late_res CA.out.wf hs1 (show st≤n' by omega)]
             have h1:=hin.out.n
             have h2:=day_res (st:=st) (P:=qa.period) j hxb0 hxb1
             rw [← h1] at h2;rw [h2,HXX.out];exact getD_mem hlt
            exact ⟨j+1,n'+qa.period,n',by go_num,rfl,Lib.hid (hin.out.not (by omega) hs0 hxb0 (fun h=>hno (h.1 hyes)) (by omega) hgo),by omega,by omega,by omega,by omega,by have hb:=HB7.out;(repeat' (with_reducible first|assumption|apply Er|apply Ea|apply Ed|apply En|(refine Es ?_ (by first|(simp<;>omega)|omega) _)|refine Et ?_ (by assumption)))⟩
           case measure=>simp [intOf];omega
         ·by_cases hlt2:n'<b2
          ·have hgo:b2=-1∨n'<b2:=.inr hlt2
           have hP5:=HP6.out.ext hb
           have HP5:=Lib.hid hP5
           have hbx5:=HQ6.out.below hb
           have d0:wr.cell? ⟨bq,0,none⟩=some (.slice z1 qa.head.length y1):=(hbx5.cells 0).1
           have d1:wr.cell? ⟨bq,1,none⟩=some (.int .i64 qa.frm):=(hbx5.cells 1).1
           have d2:wr.cell? ⟨bq,2,none⟩=some (.int .i64 qa.period):=(hbx5.cells 2).1
           have d3:wr.cell? ⟨bq,3,none⟩=some (.slice z2 qa.cycle.length y2):=(hbx5.cells 3).1
           have d4:wr.cell? ⟨bq,4,none⟩=some (.slice z3 qb.head.length y3):=(hbx5.cells 4).1
           have d5:wr.cell? ⟨bq,5,none⟩=some (.int .i64 qb.frm):=(hbx5.cells 5).1
           have d6:wr.cell? ⟨bq,6,none⟩=some (.int .i64 qb.period):=(hbx5.cells 6).1
           have d7:wr.cell? ⟨bq,7,none⟩=some (.slice z4 qb.cycle.length y4):=(hbx5.cells 7).1
           have d8:wr.cell? ⟨bq,8,none⟩=some (.int .i64 st):=(hbx5.cells 8).1
           have d9:wr.cell? ⟨bq,9,none⟩=some (.slice (some ⟨b8,f8,none⟩) (isort (cycL qa st)).length xc):=(hbx5.cells 9).1
           have d10:wr.cell? ⟨bq,10,none⟩=some (.slice ya (isort (cycL qb st)).length yc):=(hbx5.cells 10).1
           have d11:wr.cell? ⟨bq,11,none⟩=some (.int .i64 g):=(hbx5.cells 11).1
           have d12:wr.cell? ⟨bq,12,none⟩=some (.map (some mb)):=(hbx5.cells 12).1
           have HB7:=Lib.hid hb
           have hlim:n'<st+PQ:=hin.out.lim (by omega) hs0 hxb0 hxb1 (by rw [HPQ.out,Int.mul_comm]) HNF.out hgo
           have hge0:0≤n':=by omega
           have HBX5:=Lib.hid hbx5
           clear hP5 hbx5 hb
           cases hmb:memB qb n' with
           | true=>
            have HMB:=Lib.hid hmb
            clear hmb
            go_wp2_with (go_at_call 54;refine (member_any _ _ qb n' _ (HP5.out.b.ext (by (repeat' (with_reducible first|assumption|apply Er|apply Ea|apply Ed|apply En|(refine Es ?_ (by first|(simp<;>omega)|omega) _)|refine Et ?_ (by assumption))))) CB.out.wf (by omega) (by omega) hge0 (by omega)).mono ?_;rintro e w7 ⟨he,hb7⟩;rw [HMB.out] at he;subst he;have hb77:=HBX5.out.below hb7;have f2:=(hb77.cells 2).1;clear hb77)
            go_roundw
            case rel=>exact ⟨j+1,n'+qa.period,b2,by go_num,rfl,Lib.hid (hin.out.has ((memB_iff hge0).1 HMB.out)),by omega,by omega,by omega,by omega,by have hb:=HB7.out;(repeat' (with_reducible first|assumption|apply Er|apply Ea|apply Ed|apply En|(refine Es ?_ (by first|(simp<;>omega)|omega) _)|refine Et ?_ (by assumption)))⟩
            case measure=>simp [intOf];omega
           | false=>
            have HMB:=Lib.hid hmb
            clear hmb
            go_wp2_with (go_at_call 54;refine (member_any _ _ qb n' _ (HP5.out.b.ext (by (repeat' (with_reducible first|assumption|apply Er|apply Ea|apply Ed|apply En|(refine Es ?_ (by first|(simp<;>omega)|omega) _)|refine Et ?_ (by assumption))))) CB.out.wf (by omega) (by omega) hge0 (by omega)).mono ?_;rintro e w7 ⟨he,hb7⟩;rw [HMB.out] at he;subst he;have hb77:=HBX5.out.below hb7;have f2:=(hb77.cells 2).1;clear hb77)
            go_roundw
            case rel=>
             have hno:¬ qb.mem n':=fun h=>by have:=(memB_iff hge0).2 h;rw [HMB.out] at this;cases this
             have hyes:qa.mem n':=by
              rw [late_res CA.out.wf hs1 (show st≤n' by omega)]
              have h1:=hin.out.n
              have h2:=day_res (st:=st) (P:=qa.period) j hxb0 hxb1
              rw [← h1] at h2;rw [h2,HXX.out];exact getD_mem hlt
             exact ⟨j+1,n'+qa.period,n',by go_num,rfl,Lib.hid (hin.out.not (by omega) hs0 hxb0 (fun h=>hno (h.1 hyes)) (by omega) hgo),by omega,by omega,by omega,by omega,by have hb:=HB7.out;(repeat' (with_reducible first|assumption|apply Er|apply Ea|apply Ed|apply En|(refine Es ?_ (by first|(simp<;>omega)|omega) _)|refine Et ?_ (by assumption)))⟩
            case measure=>simp [intOf];omega
          ·have hno:¬ (b2=-1∨n'<b2):=by omega
           have HB7:=Lib.hid hb
           clear hb
           go_wp2_with fail
           go_roundw
           case rel=>exact ⟨k+1,b2,by omega,by go_num,rfl,Lib.hid (hM.out.inner hlt (by have:=hin.out;rw [HXX.out] at this;exact this) (by omega) hs0 hno),by have hb:=HB6.out;have hb2:=HB7.out;(repeat' (with_reducible first|assumption|apply Er|apply Ea|apply Ed|apply En|(refine Es ?_ (by first|(simp<;>omega)|omega) _)|refine Et ?_ (by assumption)))⟩
           case measure=>simp [intOf];omega
      ·obtain rfl:k=(isort (cycL qa st)).length:=by omega
       have hcov:Cov st qa.mem qb.mem b1:=cov_all CA.out.wf hs1 (by have h:=hM.out.cov;rw [List.take_length] at h;exact h)
       have HCV:=Lib.hid hcov
       have HBk:=Lib.hid hb
       clear hcov hb
       go_wp2_with fail
       go_roundw
       case rel=>
        exact ⟨1,b1,by go_num,rfl,by omega,Lib.hid ⟨hM.out.best,fun _=>HCV.out,by omega⟩,by have hE:=HEQ.out;have hb:=HBk.out;(repeat' (with_reducible first|assumption|apply Er|apply Ea|apply Ed|apply En|(refine Es ?_ (by first|(simp<;>omega)|omega) _)|refine Et ?_ (by assumption)))⟩
       case measure=>simp [intOf]
    ·skip
     have tw:∀ k,k<13→wr.cell? ⟨tb,13+k,none⟩=(#[.slice i1 qb.head.length j1,.int .i64 qb.frm,.int .i64 qb.period,.slice i2 qb.cycle.length j2,.slice i3 qa.head.length j3,.int .i64 qa.frm,.int .i64 qa.period,.slice i4 qa.cycle.length j4,.int .i64 st,.slice i5 (isort (cycL qb st)).length j5,.slice i6 (isort (cycL qa st)).length j6,.int .i64 g,.map (some mb')])[k]?:=fun k hk=>by
      obtain ⟨c,ec,_,hc⟩:=(HTW.out.below HB.out).snd
      injection ec with ec
      subst ec
      exact hc k hk
     have q0:=tw 0 (by omega)
     have q1:=tw 1 (by omega)
     have q2:=tw 2 (by omega)
     have q3:=tw 3 (by omega)
     have q4:=tw 4 (by omega)
     have q5:=tw 5 (by omega)
     have q6:=tw 6 (by omega)
     have q7:=tw 7 (by omega)
     have q8:=tw 8 (by omega)
     have q9:=tw 9 (by omega)
     have q10:=tw 10 (by omega)
     have q11:=tw 11 (by omega)
     have q12:=tw 12 (by omega)
     clear tw
     simp only [Nat.zero_add,Nat.add_zero,Nat.reduceAdd,List.getElem?_toArray,List.getElem?_cons_zero,List.getElem?_cons_succ] at q0 q1 q2 q3 q4 q5 q6 q7 q8 q9 q10 q11 q12
     have HPr:Hid (PairAt wr (.slice i1 qb.head.length j1) (.slice i2 qb.cycle.length j2) (.slice i3 qa.head.length j3) (.slice i4 qa.cycle.length j4) qb qa st (.slice i5 (isort (cycL qb st)).length j5) (.slice i6 (isort (cycL qa st)).length j6) g mb'):=Lib.hid (HP2.out.ext HB.out)
     go_upto_region 11 with (fail)
     refine wp_abs (F:=fun U=>Bxx U wr.heap.size #[.slice i1 qb.head.length j1,.int .i64 qb.frm,.int .i64 qb.period,.slice i2 qb.cycle.length j2,.slice i3 qa.head.length j3,.int .i64 qa.frm,.int .i64 qa.period,.slice i4 qa.cycle.length j4,.int .i64 st,.slice i5 (isort (cycL qb st)).length j5,.slice i6 (isort (cycL qa st)).length j6,.int .i64 g,.map (some mb')] 62∧PairAt U (.slice i1 qb.head.length j1) (.slice i2 qb.cycle.length j2) (.slice i3 qa.head.length j3) (.slice i4 qa.cycle.length j4) qb qa st (.slice i5 (isort (cycL qb st)).length j5) (.slice i6 (isort (cycL qa st)).length j6) g mb'∧Below W7.heap.size W7 U) ⟨Bxx.at rfl,HPr.out.ext (Ea (Er _) _),by have hb:=HB.out;(repeat' (with_reducible first|assumption|apply Er|apply Ea|apply Ed|apply En|(refine Es ?_ (by first|(simp<;>omega)|omega) _)|refine Et ?_ (by assumption)))⟩ ?_
     clear q0 q1 q2 q3 q4 q5 q6 q7 q8 q9 q10 q11 q12 HPr HB
     generalize wr.heap.size=bq
     rintro WQ ⟨hq,hPq,hEQ⟩
     have c0:WQ.cell? ⟨bq,0,none⟩=some (.slice i1 qb.head.length j1):=(hq.cells 0).1
     have c1:WQ.cell? ⟨bq,1,none⟩=some (.int .i64 qb.frm):=(hq.cells 1).1
     have c2:WQ.cell? ⟨bq,2,none⟩=some (.int .i64 qb.period):=(hq.cells 2).1
     have c3:WQ.cell? ⟨bq,3,none⟩=some (.slice i2 qb.cycle.length j2):=(hq.cells 3).1
     have c4:WQ.cell? ⟨bq,4,none⟩=some (.slice i3 qa.head.length j3):=(hq.cells 4).1
     have c5:WQ.cell? ⟨bq,5,none⟩=some (.int .i64 qa.frm):=(hq.cells 5).1
     have c6:WQ.cell? ⟨bq,6,none⟩=some (.int .i64 qa.period):=(hq.cells 6).1
     have c7:WQ.cell? ⟨bq,7,none⟩=some (.slice i4 qa.cycle.length j4):=(hq.cells 7).1
     have c8:WQ.cell? ⟨bq,8,none⟩=some (.int .i64 st):=(hq.cells 8).1
     have c9:WQ.cell? ⟨bq,9,none⟩=some (.slice i5 (isort (cycL qb st)).length j5):=(hq.cells 9).1
     have c10:WQ.cell? ⟨bq,10,none⟩=some (.slice i6 (isort (cycL qa st)).length j6):=(hq.cells 10).1
     have c11:WQ.cell? ⟨bq,11,none⟩=some (.int .i64 g):=(hq.cells 11).1
     have c12:WQ.cell? ⟨bq,12,none⟩=some (.map (some mb')):=(hq.cells 12).1
     have HQ:=Lib.hid hq
     have HPq:=Lib.hid hPq
     have HEQ:=Lib.hid hEQ
     clear hq hPq hEQ
     go_wp2_with fail
     clear c0 c1 c2 c3 c4 c5 c6 c7 c8 c9 c10 c11 c12
     go_loopw [9,55] (fun bv kv wk=>∃ (k:Nat) (b1:Int),k≤(isort (cycL qb st)).length∧kv=.int .i64 k∧bv=.int .i64 b1∧Hid (MidInv (fun n=>¬ (qa.mem n↔qb.mem n)) qa.mem st qb.period (st+PQ) best (isort (cycL qb st)) k b1)∧Below WQ.heap.size WQ wk) (fun _ kv _=>(isort (cycL qb st)).length-(intOf kv).toNat)
     case atStart=>exact ⟨0,best,by omega,rfl,rfl,Lib.hid (MidInv.start hI.out.1),Below.refl _ _⟩
     case round=>
      obtain ⟨k,b1,hk,rfl,rfl,hM,hb⟩:=hrel
      by_cases hlt:k<(isort (cycL qb st)).length
      ·have hx9:=(HPq.out.ext hb).x
       obtain ⟨⟨a8,c8,he8,_,_,h38⟩,_,_⟩:=hx9
       injection he8 with he1 he2 he3
       subst he1
       subst he3
       rcases h38 with h38|⟨b8,f8,rfl,hcell⟩
       ·rw [h38] at hlt
        simp at hlt
       have hcl:=hcell k hlt
       have hkI:(k:Int)<(isort (cycL qb st)).length:=by omega
       obtain ⟨x,hxx⟩:∃ x,x=(isort (cycL qb st)).getD k 0:=⟨_,rfl⟩
       rw [← hxx] at hcl
       have HXX:=Lib.hid hxx
       have hxb:0≤x∧x<qb.period:=by rw [hxx];exact (res_rise CB.out.wf hs2).2 _ (getD_mem hlt)
       obtain ⟨hxb0,hxb1⟩:=hxb
       have hxm:x∈isort (cycL qb st):=by rw [hxx];exact getD_mem hlt
       have HXM:=Lib.hid hxm
       have hbx:=HQ.out.below hb
       have c0:wr.cell? ⟨bq,0,none⟩=some (.slice i1 qb.head.length j1):=(hbx.cells 0).1
       have c1:wr.cell? ⟨bq,1,none⟩=some (.int .i64 qb.frm):=(hbx.cells 1).1
       have c2:wr.cell? ⟨bq,2,none⟩=some (.int .i64 qb.period):=(hbx.cells 2).1
       have c3:wr.cell? ⟨bq,3,none⟩=some (.slice i2 qb.cycle.length j2):=(hbx.cells 3).1
       have c4:wr.cell? ⟨bq,4,none⟩=some (.slice i3 qa.head.length j3):=(hbx.cells 4).1
       have c5:wr.cell? ⟨bq,5,none⟩=some (.int .i64 qa.frm):=(hbx.cells 5).1
       have c6:wr.cell? ⟨bq,6,none⟩=some (.int .i64 qa.period):=(hbx.cells 6).1
       have c7:wr.cell? ⟨bq,7,none⟩=some (.slice i4 qa.cycle.length j4):=(hbx.cells 7).1
       have c8:wr.cell? ⟨bq,8,none⟩=some (.int .i64 st):=(hbx.cells 8).1
       have c9:wr.cell? ⟨bq,9,none⟩=some (.slice (some ⟨b8,f8,none⟩) (isort (cycL qb st)).length j5):=(hbx.cells 9).1
       have c10:wr.cell? ⟨bq,10,none⟩=some (.slice i6 (isort (cycL qa st)).length j6):=(hbx.cells 10).1
       have c11:wr.cell? ⟨bq,11,none⟩=some (.int .i64 g):=(hbx.cells 11).1
       have c12:wr.cell? ⟨bq,12,none⟩=some (.map (some mb')):=(hbx.cells 12).1
       have HP9:Hid (PairAt wr (.slice i1 qb.head.length j1) (.slice i2 qb.cycle.length j2) (.slice i3 qa.head.length j3) (.slice i4 qa.cycle.length j4) qb qa st (.slice (some ⟨b8,f8,none⟩) (isort (cycL qb st)).length j5) (.slice i6 (isort (cycL qa st)).length j6) g mb'):=Lib.hid (HPq.out.ext hb)
       have HQ9:=Lib.hid hbx
       have HB9:=Lib.hid hb
       clear hcell hxx hxm hbx hb
       cases hfull:fullB (isort (cycL qa st)) g qa.period x with
       | true=>
        have HF:=Lib.hid hfull
        clear hfull
        go_wp2_with (go_at_call 67;refine (full_any _ _ _ _ qb qa st _ _ g _ x _ HP9.out (by omega) (by omega) (by omega) (by omega) (by omega) (by omega)).mono ?_;rintro e w5 ⟨he,hb5⟩;rw [HF.out] at he;subst he)
        go_roundw
        case rel=>
         refine ⟨k+1,b1,by omega,by go_num,rfl,Lib.hid (hM.out.full hlt fun m h1 h2=>?_),by have hb:=HB9.out;(repeat' (with_reducible first|assumption|apply Er|apply Ea|apply Ed|apply En|(refine Es ?_ (by first|(simp<;>omega)|omega) _)|refine Et ?_ (by assumption)))⟩
         exact (full_all CB.out.wf CA.out.wf hs2 hs1 HGS.out HXM.out).1 HF.out m h1 (by rw [h2,HXX.out])
        case measure=>simp [intOf];omega
       | false=>
        have HF:=Lib.hid hfull
        clear hfull
        have HNF:=Lib.hid (not_full CB.out.wf CA.out.wf hs2 hs1 HGS.out HXM.out HF.out)
        go_wp2_with (go_at_call 67;refine (full_any _ _ _ _ qb qa st _ _ g _ x _ HP9.out (by omega) (by omega) (by omega) (by omega) (by omega) (by omega)).mono ?_;rintro e w5 ⟨he,hb5⟩;rw [HF.out] at he;subst he;have hbx5:=HQ9.out.below hb5;have e0:=(hbx5.cells 0).1;have e1:=(hbx5.cells 1).1;have e2:=(hbx5.cells 2).1;have e8:=(hbx5.cells 8).1;clear hbx5)
        have HP6:Hid (PairAt w5 (.slice i1 qb.head.length j1) (.slice i2 qb.cycle.length j2) (.slice i3 qa.head.length j3) (.slice i4 qa.cycle.length j4) qb qa st (.slice (some ⟨b8,f8,none⟩) (isort (cycL qb st)).length j5) (.slice i6 (isort (cycL qa st)).length j6) g mb'):=Lib.hid (HP9.out.ext hb5)
        have HQ6:=Lib.hid (HQ9.out.below hb5)
        have HB6:Hid (Below WQ.heap.size WQ w5):=Lib.hid (by have hb:=HB9.out;(repeat' (with_reducible first|assumption|apply Er|apply Ea|apply Ed|apply En|(refine Es ?_ (by first|(simp<;>omega)|omega) _)|refine Et ?_ (by assumption))))
        obtain ⟨br1,br2,br3⟩:=hM.out.best.rng hs0
        clear hb5 c0 c1 c2 c3 c4 c5 c6 c7 c8 c9 c10 c11 c12 e0 e1 e2 e8
        go_loopw [9,14] (fun bv nv wn=>∃ (j:Nat) (n' b2:Int),nv=.int .i64 n'∧bv=.int .i64 b2∧Hid (InnInv (fun n=>¬ (qa.mem n↔qb.mem n)) qa.mem st x qb.period (st+PQ) b1 j n' b2)∧st+x≤n'∧n'≤st+PQ+qb.period∧-1≤b2∧b2≤st+PQ∧Below w5.heap.size w5 wn) (fun _ nv _=>(st+PQ+qb.period+1-intOf nv).toNat)
        case atStart=>exact ⟨0,st+x,b1,rfl,rfl,Lib.hid (InnInv.start hM.out.best),by omega,by omega,by omega,by omega,Below.refl _ _⟩
        case round=>
         obtain ⟨j,n',b2,rfl,rfl,hin,hn0,hn1,hb0,hb1,hb⟩:=hrel
         by_cases hneg:b2<0
         ·have hgo:b2=-1∨n'<b2:=by omega
          have hP5:=HP6.out.ext hb
          have HP5:=Lib.hid hP5
          have hbx5:=HQ6.out.below hb
          have d0:wr.cell? ⟨bq,0,none⟩=some (.slice i1 qb.head.length j1):=(hbx5.cells 0).1
          have d1:wr.cell? ⟨bq,1,none⟩=some (.int .i64 qb.frm):=(hbx5.cells 1).1
          have d2:wr.cell? ⟨bq,2,none⟩=some (.int .i64 qb.period):=(hbx5.cells 2).1
          have d3:wr.cell? ⟨bq,3,none⟩=some (.slice i2 qb.cycle.length j2):=(hbx5.cells 3).1
          have d4:wr.cell? ⟨bq,4,none⟩=some (.slice i3 qa.head.length j3):=(hbx5.cells 4).1
          have d5:wr.cell? ⟨bq,5,none⟩=some (.int .i64 qa.frm):=(hbx5.cells 5).1
          have d6:wr.cell? ⟨bq,6,none⟩=some (.int .i64 qa.period):=(hbx5.cells 6).1
          have d7:wr.cell? ⟨bq,7,none⟩=some (.slice i4 qa.cycle.length j4):=(hbx5.cells 7).1
          have d8:wr.cell? ⟨bq,8,none⟩=some (.int .i64 st):=(hbx5.cells 8).1
          have d9:wr.cell? ⟨bq,9,none⟩=some (.slice (some ⟨b8,f8,none⟩) (isort (cycL qb st)).length j5):=(hbx5.cells 9).1
          have d10:wr.cell? ⟨bq,10,none⟩=some (.slice i6 (isort (cycL qa st)).length j6):=(hbx5.cells 10).1
          have d11:wr.cell? ⟨bq,11,none⟩=some (.int .i64 g):=(hbx5.cells 11).1
          have d12:wr.cell? ⟨bq,12,none⟩=some (.map (some mb')):=(hbx5.cells 12).1
          have HB7:=Lib.hid hb
          have hlim:n'<st+PQ:=hin.out.lim (by omega) hs0 hxb0 hxb1 (by rw [HPQ.out]) HNF.out hgo
          have hge0:0≤n':=by omega
          have HBX5:=Lib.hid hbx5
          clear hP5 hbx5 hb
          cases hmb:memB qa n' with
          | true=>
           have HMB:=Lib.hid hmb
           clear hmb
           go_wp2_with (go_at_call 54;refine (member_any _ _ qa n' _ (HP5.out.b.ext (by (repeat' (with_reducible first|assumption|apply Er|apply Ea|apply Ed|apply En|(refine Es ?_ (by first|(simp<;>omega)|omega) _)|refine Et ?_ (by assumption))))) CA.out.wf (by omega) (by omega) hge0 (by omega)).mono ?_;rintro e w7 ⟨he,hb7⟩;rw [HMB.out] at he;subst he;have hb77:=HBX5.out.below hb7;have f2:=(hb77.cells 2).1;clear hb77)
           go_roundw
           case rel=>exact ⟨j+1,n'+qb.period,b2,by go_num,rfl,Lib.hid (hin.out.has ((memB_iff hge0).1 HMB.out)),by omega,by omega,by omega,by omega,by have hb:=HB7.out;(repeat' (with_reducible first|assumption|apply Er|apply Ea|apply Ed|apply En|(refine Es ?_ (by first|(simp<;>omega)|omega) _)|refine Et ?_ (by assumption)))⟩
           case measure=>simp [intOf];omega
          | false=>
           have HMB:=Lib.hid hmb
           clear hmb
           go_wp2_with (go_at_call 54;refine (member_any _ _ qa n' _ (HP5.out.b.ext (by (repeat' (with_reducible first|assumption|apply Er|apply Ea|apply Ed|apply En|(refine Es ?_ (by first|(simp<;>omega)|omega) _)|refine Et ?_ (by assumption))))) CA.out.wf (by omega) (by omega) hge0 (by omega)).mono ?_;rintro e w7 ⟨he,hb7⟩;rw [HMB.out] at he;subst he;have hb77:=HBX5.out.below hb7;have f2:=(hb77.cells 2).1;clear hb77)
           go_roundw
           case rel=>
            have hno:¬ qa.mem n':=fun h=>by have:=(memB_iff hge0).2 h;rw [HMB.out] at this;cases this
            have hyes:qb.mem n':=by
             rw [late_res CB.out.wf hs2 (show st≤n' by omega)]
             have h1:=hin.out.n
             have h2:=day_res (st:=st) (P:=qb.period) j hxb0 hxb1
             rw [← h1] at h2;rw [h2,HXX.out];exact getD_mem hlt
            exact ⟨j+1,n'+qb.period,n',by go_num,rfl,Lib.hid (hin.out.not (by omega) hs0 hxb0 (fun h=>hno (h.2 hyes)) (by omega) hgo),by omega,by omega,by omega,by omega,by have hb:=HB7.out;(repeat' (with_reducible first|assumption|apply Er|apply Ea|apply Ed|apply En|(refine Es ?_ (by first|(simp<;>omega)|omega) _)|refine Et ?_ (by assumption)))⟩
           case measure=>simp [intOf];omega
         ·by_cases hlt2:n'<b2
          ·have hgo:b2=-1∨n'<b2:=.inr hlt2
           have hP5:=HP6.out.ext hb
           have HP5:=Lib.hid hP5
           have hbx5:=HQ6.out.below hb
           have d0:wr.cell? ⟨bq,0,none⟩=some (.slice i1 qb.head.length j1):=(hbx5.cells 0).1
           have d1:wr.cell? ⟨bq,1,none⟩=some (.int .i64 qb.frm):=(hbx5.cells 1).1
           have d2:wr.cell? ⟨bq,2,none⟩=some (.int .i64 qb.period):=(hbx5.cells 2).1
           have d3:wr.cell? ⟨bq,3,none⟩=some (.slice i2 qb.cycle.length j2):=(hbx5.cells 3).1
           have d4:wr.cell? ⟨bq,4,none⟩=some (.slice i3 qa.head.length j3):=(hbx5.cells 4).1
           have d5:wr.cell? ⟨bq,5,none⟩=some (.int .i64 qa.frm):=(hbx5.cells 5).1
           have d6:wr.cell? ⟨bq,6,none⟩=some (.int .i64 qa.period):=(hbx5.cells 6).1
           have d7:wr.cell? ⟨bq,7,none⟩=some (.slice i4 qa.cycle.length j4):=(hbx5.cells 7).1
           have d8:wr.cell? ⟨bq,8,none⟩=some (.int .i64 st):=(hbx5.cells 8).1
           have d9:wr.cell? ⟨bq,9,none⟩=some (.slice (some ⟨b8,f8,none⟩) (isort (cycL qb st)).length j5):=(hbx5.cells 9).1
           have d10:wr.cell? ⟨bq,10,none⟩=some (.slice i6 (isort (cycL qa st)).length j6):=(hbx5.cells 10).1
           have d11:wr.cell? ⟨bq,11,none⟩=some (.int .i64 g):=(hbx5.cells 11).1
           have d12:wr.cell? ⟨bq,12,none⟩=some (.map (some mb')):=(hbx5.cells 12).1
           have HB7:=Lib.hid hb
           have hlim:n'<st+PQ:=hin.out.lim (by omega) hs0 hxb0 hxb1 (by rw [HPQ.out]) HNF.out hgo
           have hge0:0≤n':=by omega
           have HBX5:=Lib.hid hbx5
           clear hP5 hbx5 hb
           cases hmb:memB qa n' with
           | true=>
            have HMB:=Lib.hid hmb
            clear hmb
            go_wp2_with (go_at_call 54;refine (member_any _ _ qa n' _ (HP5.out.b.ext (by (repeat' (with_reducible first|assumption|apply Er|apply Ea|apply Ed|apply En|(refine Es ?_ (by first|(simp<;>omega)|omega) _)|refine Et ?_ (by assumption))))) CA.out.wf (by omega) (by omega) hge0 (by omega)).mono ?_;rintro e w7 ⟨he,hb7⟩;rw [HMB.out] at he;subst he;have hb77:=HBX5.out.below hb7;have f2:=(hb77.cells 2).1;clear hb77)
            go_roundw
            case rel=>exact ⟨j+1,n'+qb.period,b2,by go_num,rfl,Lib.hid (hin.out.has ((memB_iff hge0).1 HMB.out)),by omega,by omega,by omega,by omega,by have hb:=HB7.out;(repeat' (with_reducible first|assumption|apply Er|apply Ea|apply Ed|apply En|(refine Es ?_ (by first|(simp<;>omega)|omega) _)|refine Et ?_ (by assumption)))⟩
            case measure=>simp [intOf];omega
           | false=>
            have HMB:=Lib.hid hmb
            clear hmb
            go_wp2_with (go_at_call 54;refine (member_any _ _ qa n' _ (HP5.out.b.ext (by (repeat' (with_reducible first|assumption|apply Er|apply Ea|apply Ed|apply En|(refine Es ?_ (by first|(simp<;>omega)|omega) _)|refine Et ?_ (by assumption))))) CA.out.wf (by omega) (by omega) hge0 (by omega)).mono ?_;rintro e w7 ⟨he,hb7⟩;rw [HMB.out] at he;subst he;have hb77:=HBX5.out.below hb7;have f2:=(hb77.cells 2).1;clear hb77)
            go_roundw
            case rel=>
             have hno:¬ qa.mem n':=fun h=>by have:=(memB_iff hge0).2 h;rw [HMB.out] at this;cases this
             have hyes:qb.mem n':=by
              rw [late_res CB.out.wf hs2 (show st≤n' by omega)]
              have h1:=hin.out.n
              have h2:=day_res (st:=st) (P:=qb.period) j hxb0 hxb1
              rw [← h1] at h2;rw [h2,HXX.out];exact getD_mem hlt
             exact ⟨j+1,n'+qb.period,n',by go_num,rfl,Lib.hid (hin.out.not (by omega) hs0 hxb0 (fun h=>hno (h.2 hyes)) (by omega) hgo),by omega,by omega,by omega,by omega,by have hb:=HB7.out;(repeat' (with_reducible first|assumption|apply Er|apply Ea|apply Ed|apply En|(refine Es ?_ (by first|(simp<;>omega)|omega) _)|refine Et ?_ (by assumption)))⟩
            case measure=>simp [intOf];omega
          ·have hno:¬ (b2=-1∨n'<b2):=by omega
           have HB7:=Lib.hid hb
           clear hb
           go_wp2_with fail
           go_roundw
           case rel=>exact ⟨k+1,b2,by omega,by go_num,rfl,Lib.hid (hM.out.inner hlt (by have:=hin.out;rw [HXX.out] at this;exact this) (by omega) hs0 hno),by have hb:=HB6.out;have hb2:=HB7.out;(repeat' (with_reducible first|assumption|apply Er|apply Ea|apply Ed|apply En|(refine Es ?_ (by first|(simp<;>omega)|omega) _)|refine Et ?_ (by assumption)))⟩
           case measure=>simp [intOf];omega
      ·obtain rfl:k=(isort (cycL qb st)).length:=by omega
       have hcov:Cov st qb.mem qa.mem b1:=cov_all CB.out.wf hs2 (by have h:=hM.out.cov;rw [List.take_length] at h;exact h)
       have HCV:=Lib.hid hcov
       have HBk:=Lib.hid hb
       clear hcov hb
       go_wp2_with fail
       go_roundw
       case rel=>
        exact ⟨2,b1,by go_num,rfl,by omega,Lib.hid ⟨hM.out.best,fun _=>(hI.out.2.1 (by omega)).mono hM.out.less,fun _=>HCV.out⟩,by have hE:=HEQ.out;have hb:=HBk.out;(repeat' (with_reducible first|assumption|apply Er|apply Ea|apply Ed|apply En|(refine Es ?_ (by first|(simp<;>omega)|omega) _)|refine Et ?_ (by assumption)))⟩
       case measure=>simp [intOf]
    ·have hc1:=hI.out.2.1 (by omega)
     have hc2:=hI.out.2.2 (by omega)
     have HFN:Hid (ApartIs qa.mem qb.mem best true):=Lib.hid (apart_done hs0 HPRE.out hc1 hc2 hI.out.1 (by
      rcases HN.out with ⟨_,g1,g2,_⟩|⟨g,_⟩
      ·exact ⟨n,g1,g2⟩
      ·cases g))
     clear hc1 hc2
     go_wp2_with fail
     go_ret2
     obtain ⟨rfl,_⟩:=HN.out.unique HFN.out
     exact ⟨rfl,by have hE:=HE7.out;have hb:=HB.out;(repeat' (with_reducible first|assumption|apply Er|apply Ea|apply Ed|apply En|(refine Es ?_ (by first|(simp<;>omega)|omega) _)|refine Et ?_ (by assumption)))⟩
end Go.Proofs.YtjilkhhokkncoaaGreat
