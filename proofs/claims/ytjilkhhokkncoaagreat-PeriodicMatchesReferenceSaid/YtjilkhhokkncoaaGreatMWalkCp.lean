/- Walks: operate (package kalendsref04). -/
import Derived.Test.YtjilkhhokkncoaaGreatMWalkCs
import Derived.Test.YtjilkhhokkncoaaGreatMWalkRl
set_option linter.unusedVariables false
set_option linter.unusedSimpArgs false
namespace Go.Proofs.YtjilkhhokkncoaaGreat
open Go.RowKit Go.Maps Kal
theorem filter_split (l:List Int) (f:Int→Bool):(l.filter f).length+(l.filter (fun x=>!f x)).length=l.length:=by
 induction l with
 | nil=>rfl
 | cons x l ih=>
  cases h:f x <;> simp [List.filter_cons,h] <;> omega
theorem append_list3 {w:World} {ops:Array Oper} {rest:List Oper} {o:Oper} {a:Act} {Q:Exit→Act→World→Prop} (hgd:o.guard=none) (s x:Operand)
  (ho:o.op=.call { callee:=.builtin .append,args:=#[s,x],argTypes:=#[22,22] }) (base:Nat) (v:Value) (l:List Int) (y:Int) (hs:a.eval s=v) (hown:OwnI w base v l)
  (blk c:Nat) (hx:a.eval x=.slice (some ⟨blk,0,none⟩) 1 c) (hnew:w.cell? ⟨blk,0,none⟩=some (.int .i64 y)) (hy:InI y) (hlen:l.length+1≤17592186044416) (hbase:base≤w.heap.size)
  (h:∀ g cap w',OwnI w' base (.slice (some ⟨g,0,none⟩) (l.length+1) cap) (l ++ [y])→w.grownBy w' v.ownBlock→Below base w w'→(v.ownBlock=some g∨g=w.heap.size)→wpList Tryz.prog ops Q rest (a.put o.dst (.slice (some ⟨g,0,none⟩) (l.length+1) cap)) w') :
  wpList Tryz.prog ops Q (o :: rest) a w:=by
 obtain ⟨i,hi,h1,h2,h3⟩:=intInfo
 refine wpList_append_lies w hgd s x 22 ho base 3 i (.int .i64 0) 1 8 Tryz.underlying22 hi h1 h2 h3 rfl (by omega) v l.length (l.map (Value.int .i64)) hs hown.row ⟨blk,0,none⟩ 1 c [.int .i64 y] hx rfl ?_ (by simp [Value.oneCell']) (by omega) (by unfold maxLen;omega) (by omega) hbase _ rfl ?_
 ·intro j u hu
  match j,hu with
  | 0,hu=>simp at hu;subst hu;exact hnew
 ·intro g cap w' hown' hgrow hg9 _
  exact h g cap w' (OwnI.appended hown.rng hy hlen hown') hgrow (hown.below_grown (W0:=w) (.inr trivial) hbase hgrow) hg9
structure OL (w:World) (ob base:Nat) (st L:Int) (hv cv:Value) (hl cl:List Int) (W:World):Prop where
 below:Below w.heap.size w W
 rb:Bxx W (w.heap.size+1+1) #[.slice none 0 0,.int .i64 0,.int .i64 0,.slice none 0 0] 24
 obx:Bxx W ob #[hv,.int .i64 st,.int .i64 L,cv] 24
 hd:OwnI W base hv hl
 cy:OwnI W base cv cl
 sep:∀ k,hv.ownBlock=some k→cv.ownBlock=some k→False
 o1:w.heap.size+1+1<ob
 o2:ob<base
 o3:base≤W.heap.size
theorem OL.stepH {w:World} {ob base:Nat} {st L:Int} {hv cv:Value} {hl cl:List Int} {W:World} (h:OL w ob base st L hv cv hl cl W) {W1 W2:World} {hv':Value} {hl':List Int} (hb:Below W.heap.size W W1)
  (ho:OwnI W2 base hv' hl') (hg:W1.grownBy W2 hv.ownBlock) (hg2:Below base W1 W2) (hp:∀ k,hv'.ownBlock=some k→hv.ownBlock=some k∨k=W1.heap.size):OL w ob base st L hv' cv hl' cl (W2.setCell ⟨ob,0,none⟩ hv'):=by
 have o1:=h.o1;have o2:=h.o2;have o3:=h.o3
 have hz:=hb.size
 have hz2:=hg2.size
 have hbb:Below base W W2:=(hb.mono o3).trans hg2
 have hcy:OwnI W2 base cv cl:=(h.cy.ext hb).kept hg (by
  cases e:cv.ownBlock with
  | none=>exact .inl rfl
  | some k=>exact .inr fun e2=>h.sep k e2.symm e)
 refine ⟨(h.below.trans (hbb.mono (by omega))).setCell (p:=⟨ob,0,none⟩) (by simp;omega) _,(h.rb.upto hbb (by omega)).setNe _ (by omega),set1of4 (h.obx.upto hbb (by omega)),
  ho.above ((Above.refl base W2).setCell (by simp;omega) _),hcy.above ((Above.refl base W2).setCell (by simp;omega) _),fun k e1 e2=>?_,o1,o2,by simp;omega⟩
 rcases hp k e1 with e3|e3
 ·exact h.sep k e3 e2
 ·have:=(h.cy.lt k e2).2;omega
theorem OL.stepC {w:World} {ob base:Nat} {st L:Int} {hv cv:Value} {hl cl:List Int} {W:World} (h:OL w ob base st L hv cv hl cl W) {W1 W2:World} {cv':Value} {cl':List Int} (hb:Below W.heap.size W W1)
  (ho:OwnI W2 base cv' cl') (hg:W1.grownBy W2 cv.ownBlock) (hg2:Below base W1 W2) (hp:∀ k,cv'.ownBlock=some k→cv.ownBlock=some k∨k=W1.heap.size):OL w ob base st L hv cv' hl cl' (W2.setCell ⟨ob,3,none⟩ cv'):=by
 have o1:=h.o1;have o2:=h.o2;have o3:=h.o3
 have hz:=hb.size
 have hz2:=hg2.size
 have hbb:Below base W W2:=(hb.mono o3).trans hg2
 have hhd:OwnI W2 base hv hl:=(h.hd.ext hb).kept hg (by
  cases e:hv.ownBlock with
  | none=>exact .inl rfl
  | some k=>exact .inr fun e2=>h.sep k e e2.symm)
 refine ⟨(h.below.trans (hbb.mono (by omega))).setCell (p:=⟨ob,3,none⟩) (by simp;omega) _,(h.rb.upto hbb (by omega)).setNe _ (by omega),set4 (h.obx.upto hbb (by omega)),
  hhd.above ((Above.refl base W2).setCell (by simp;omega) _),ho.above ((Above.refl base W2).setCell (by simp;omega) _),fun k e1 e2=>?_,o1,o2,by simp;omega⟩
 rcases hp k e2 with e3|e3
 ·exact h.sep k e1 e3
 ·have:=(h.hd.lt k e1).2;omega
set_option maxRecDepth 100000 in
set_option maxHeartbeats 8000000 in
theorem Roperate_ok (h1 c1 h2 c2:Value) (p1 p2 qa qb q:Per) (kd:Int) (w:World) (hp1:PerIs w h1 c1 p1) (hp2:PerIs w h2 c2 p2) (hv1:Valid p1) (hv2:Valid p2) (hqa:IsCanon qa p1.mem) (hqb:IsCanon qb p2.mem) (hlc:lcmI qa.period qb.period≤1099511627776)
  (hkd:kd=0∨kd=1∨kd=2) (hq:IsCanon q (opS kd p1.mem p2.mem)) (hcn:(sel (opS kd qa.mem qb.mem) 0 (max qa.frm qb.frm+lcmI qa.period qb.period)).length≤1048576) :
  Calls Tryz.prog 57 #[perV h1 c1 p1.frm p1.period,perV h2 c2 p2.frm p2.period,.int .i64 kd] w (PerOk q w):=by
 have hpf:=ops_pf hqa.wf hqb.wf kd
 have hU:∀ n,opS kd qa.mem qb.mem n↔opS kd p1.mem p2.mem n:=fun n=>by
  rcases hkd with rfl|rfl|rfl
  ·simp only [opS_and,hqa.mem n,hqb.mem n]
  ·simp only [opS_or,hqa.mem n,hqb.mem n]
  ·simp only [opS_minus,hqa.mem n,hqb.mem n]
 have hU0:∀ n,opS kd qa.mem qb.mem n→0≤n:=fun n hn=>by
  rcases hkd with rfl|rfl|rfl
  ·rw [opS_and] at hn;exact hn.1.1
  ·rw [opS_or] at hn;exact hn.elim (fun h=>h.1) (fun h=>h.1)
  ·rw [opS_minus] at hn;exact hn.1.1
 have HU:=Lib.hid hU
 have HU0:=Lib.hid hU0
 have HQ:=Lib.hid hq
 have HKD:=Lib.hid hkd
 have hkI:InI kd:=⟨by omega,by omega⟩
 clear hU hU0 hq hkd
 obtain ⟨a1,m1,a2,m2,rfl,rfl⟩:=hp1.inn.form
 obtain ⟨a3,m3,a4,m4,rfl,rfl⟩:=hp2.inn.form
 have hl1:∀ W,Below w.heap.size w W→PerIs W (.slice a1 p1.head.length m1) (.slice a2 p1.cycle.length m2) p1:=fun W hb=>hp1.ext hb
 have hl2:∀ W,Below w.heap.size w W→PerIs W (.slice a3 p2.head.length m3) (.slice a4 p2.cycle.length m4) p2:=fun W hb=>hp2.ext hb
 have HV1:=Lib.hid hv1
 have HV2:=Lib.hid hv2
 have HQA:=Lib.hid hqa
 have HQB:=Lib.hid hqb
 obtain ⟨b1,b2,_,b4,b5⟩:=hqa.smaller hv1.wf
 obtain ⟨d1,d2,_,d4,d5⟩:=hqb.smaller hv2.wf
 have za0:=hqa.wf.frm
 have zb0:=hqb.wf.frm
 have za1:=hqa.wf.per
 have zb1:=hqb.wf.per
 have e1:=hv1.frm
 have e2:=hv1.per
 have e3:=hv2.frm
 have e4:=hv2.per
 have HVA:Hid (∀ W,Below w.heap.size w W→Calls Tryz.prog 16 #[.agg #[.slice a1 p1.head.length m1,.int .i64 p1.frm,.int .i64 p1.period,.slice a2 p1.cycle.length m2]] W fun e w'=>e=.returned (.bool true)∧Below W.heap.size W w'):=Lib.hid (fun W hb=>by
  have h:=RValid_any _ _ p1 W (hl1 W hb) ⟨by have:=hv1.wf.frm;omega,by omega⟩ ⟨by have:=hv1.wf.per;omega,by omega⟩
  rw [(validB_iff p1).2 hv1] at h;exact h)
 have HVB:Hid (∀ W,Below w.heap.size w W→Calls Tryz.prog 16 #[.agg #[.slice a3 p2.head.length m3,.int .i64 p2.frm,.int .i64 p2.period,.slice a4 p2.cycle.length m4]] W fun e w'=>e=.returned (.bool true)∧Below W.heap.size W w'):=Lib.hid (fun W hb=>by
  have h:=RValid_any _ _ p2 W (hl2 W hb) ⟨by have:=hv2.wf.frm;omega,by omega⟩ ⟨by have:=hv2.wf.per;omega,by omega⟩
  rw [(validB_iff p2).2 hv2] at h;exact h)
 obtain ⟨st,hst⟩:∃ st,st=max qa.frm qb.frm:=⟨_,rfl⟩
 obtain ⟨L,hL⟩:∃ L,L=lcmI qa.period qb.period:=⟨_,rfl⟩
 have hL0:1≤L:=by rw [hL];exact lcmI_pos za1 zb1
 have hst0:0≤st:=by omega
 have hst1:st≤1099511627776:=by omega
 have HCO:Hid (∀ W,Below w.heap.size w W→Calls Tryz.prog 63 #[.agg #[.slice a1 p1.head.length m1,.int .i64 p1.frm,.int .i64 p1.period,.slice a2 p1.cycle.length m2],.agg #[.slice a3 p2.head.length m3,.int .i64 p2.frm,.int .i64 p2.period,.slice a4 p2.cycle.length m4]] W
   fun e w'=>∃ x1 x2 x3 x4:Value,e=.returned (.tuple #[perV x1 x2 qa.frm qa.period,perV x3 x4 qb.frm qb.period,.int .i64 st,.int .i64 L])∧POx w' W.heap.size x1 x2 qa∧POx w' W.heap.size x3 x4 qb∧Below W.heap.size W w'):=Lib.hid (fun W hb=>by
  have h:=Rcommon_ok _ _ _ _ p1 p2 qa qb W (hl1 W hb) (hl2 W hb) hv1 hv2 hqa hqb hlc
  rw [hst,hL];exact h)
 have hlL:L≤1099511627776:=by rw [hL];exact hlc
 have HST:=Lib.hid hst
 have HLL:=Lib.hid hL
 have hqfa:qa.frm≤1125899906842624:=by omega
 have hqfb:qb.frm≤1125899906842624:=by omega
 have hqpa:qa.period≤1125899906842624:=by omega
 have hqpb:qb.period≤1125899906842624:=by omega
 clear hp1 hp2 hv1 hv2 hqa hqb hst hL hlc
 rw [← HST.out,← HLL.out] at hpf hcn
 obtain ⟨X,hX⟩:∃ X,X=sel (opS kd qa.mem qb.mem) 0 (st+L):=⟨_,rfl⟩
 rw [← hX] at hcn
 have HX:Hid (combR kd (sel qa.mem 0 (st+L)) (sel qb.mem 0 (st+L))=X):=Lib.hid (by rw [hX];exact comb_sel HKD.out (Int.le_refl 0))
 have HXR:Hid (Rise 0 (st+L) X):=Lib.hid (by rw [hX];exact sel_rise (Int.le_refl 0))
 have hA9:(sel qa.mem 0 (st+L)).length+(sel qb.mem 0 (st+L)).length≤8796093022208:=by
  have h1:=(sel_rise (S:=qa.mem) (lo:=0) (hi:=st+L) (Int.le_refl _)).length_le (by omega)
  have h2:=(sel_rise (S:=qb.mem) (lo:=0) (hi:=st+L) (Int.le_refl _)).length_le (by omega)
  omega
 have HA9:=Lib.hid hA9
 obtain ⟨R,hR⟩:∃ R,R=ofSel X st L:=⟨_,rfl⟩
 have hRf:R.frm=st:=by rw [hR];rfl
 have hRp:R.period=L:=by rw [hR];rfl
 have hRh:R.head=X.filter (fun x=>decide (x<st)):=by rw [hR];rfl
 have hRc:R.cycle=(X.filter (fun x=>!decide (x<st))).map (· - st):=by rw [hR];rfl
 have hRo:=ofSel_ok hst0 hL0 hpf HU0.out
 rw [← hX,← hR] at hRo
 have hRl:R.head.length+R.cycle.length=X.length:=by
  rw [hRh,hRc,List.length_map]
  exact filter_split X _
 have HRV:Hid (Valid R):=Lib.hid ⟨hRo.1,by rw [hRf];omega,by rw [hRp];omega,by rw [hRl];exact hcn⟩
 have HRQ:Hid (IsCanon q R.mem):=Lib.hid (HQ.out.congr fun n=>((hRo.2 n).trans (HU.out n)).symm)
 have HRF:=Lib.hid hRf
 have HRP:=Lib.hid hRp
 have HRH:=Lib.hid hRh
 have HRC:=Lib.hid hRc
 have dL:(L == 0)=false:=by rw [beq_eq_false_iff_ne];omega
 have dX:¬ (1048576:Int)<(X.length:Int):=by omega
 have dX2:decide ((1048576:Int)<(X.length:Int))=false:=by simp;omega
 clear hpf hX hA9 hR hRf hRp hRh hRc hRo hRl
 go_enter Tryz.func57,Tryz.ntmps57
 go_upto_region 3 with (go_at_call 16;first|((with_reducible refine (HVA.out _ (by (repeat' (with_reducible first|assumption|apply Er|apply Ea|apply Ed|apply En|(refine Es ?_ (by first|(simp<;>omega)|omega) _)|refine Et ?_ (by assumption))))).mono ?_);rintro e w1 ⟨rfl,hb1⟩;obtain ⟨hx1,hf1⟩:=bcell hb1;(try simp only [World.size_alloc,World.size_drew,size_drewN,World.size_setCell] at hx1 hf1);have hz1:w.heap.size+2<w1.heap.size:=(by have h7:=hb1.size;simp at h7;omega))|((with_reducible refine (HVB.out _ (by (repeat' (with_reducible first|assumption|apply Er|apply Ea|apply Ed|apply En|(refine Es ?_ (by first|(simp<;>omega)|omega) _)|refine Et ?_ (by assumption))))).mono ?_);rintro e w2 ⟨rfl,hb2⟩;obtain ⟨hx2,hf2⟩:=bcell hb2;(try simp only [World.size_alloc,World.size_drew,size_drewN,World.size_setCell] at hx2 hf2);have hz2:w.heap.size+2<w2.heap.size:=(by have h7:=hb2.size;omega)))
 have hA:Bxx w2 w.heap.size #[.slice a1 p1.head.length m1,.int .i64 p1.frm,.int .i64 p1.period,.slice a2 p1.cycle.length m2] 24:=((((Bxx.at rfl).alloc _).alloc _).upto hb1 (by simp;omega)).upto hb2 (by omega)
 have hB:Bxx w2 (w.heap.size+1) #[.slice a3 p2.head.length m3,.int .i64 p2.frm,.int .i64 p2.period,.slice a4 p2.cycle.length m4] 24:=(((Bxx.at (by simp)).alloc _).upto hb1 (by simp)).upto hb2 (by omega)
 have hE2:Below w.heap.size w w2:=by (repeat' (with_reducible first|assumption|apply Er|apply Ea|apply Ed|apply En|(refine Es ?_ (by first|(simp<;>omega)|omega) _)|refine Et ?_ (by assumption)))
 have hRB:Bxx w2 (w.heap.size+1+1) #[.slice none 0 0,.int .i64 0,.int .i64 0,.slice none 0 0] 24:=((Bxx.at (by simp)).upto hb1 (by simp)).upto hb2 (by omega)
 clear hb1 hb2 hx1 hf1 hx2 hf2 hz1
 have A0:w2.cell? ⟨w.heap.size,0,none⟩=some (.slice a1 p1.head.length m1):=(hA.cells 0).1
 have A1:w2.cell? ⟨w.heap.size,1,none⟩=some (.int .i64 p1.frm):=(hA.cells 1).1
 have A2:w2.cell? ⟨w.heap.size,2,none⟩=some (.int .i64 p1.period):=(hA.cells 2).1
 have A3:w2.cell? ⟨w.heap.size,3,none⟩=some (.slice a2 p1.cycle.length m2):=(hA.cells 3).1
 have B0:w2.cell? ⟨w.heap.size+1,0,none⟩=some (.slice a3 p2.head.length m3):=(hB.cells 0).1
 have B1:w2.cell? ⟨w.heap.size+1,1,none⟩=some (.int .i64 p2.frm):=(hB.cells 1).1
 have B2:w2.cell? ⟨w.heap.size+1,2,none⟩=some (.int .i64 p2.period):=(hB.cells 2).1
 have B3:w2.cell? ⟨w.heap.size+1,3,none⟩=some (.slice a4 p2.cycle.length m4):=(hB.cells 3).1
 go_upto_region 4 with (go_at_call 63;(with_reducible refine (HCO.out _ (by (repeat' (with_reducible first|assumption|apply Er|apply Ea|apply Ed|apply En|(refine Es ?_ (by first|(simp<;>omega)|omega) _)|refine Et ?_ (by assumption))))).mono ?_);rintro e w3 ⟨x1,x2,x3,x4,rfl,ho1,ho2,hb3⟩;obtain ⟨a5,m5,a6,m6,rfl,rfl⟩:=ho1.form;obtain ⟨a7,m7,a8,m8,rfl,rfl⟩:=ho2.form)
 have hz2a:w.heap.size+2<w2.heap.size:=hz2
 have hzz3:=hb3.size
 generalize hbA:w3.heap.size=bA at *
 refine wp_abs (F:=fun U=>Bxx U bA #[.slice a5 qa.head.length m5,.int .i64 qa.frm,.int .i64 qa.period,.slice a6 qa.cycle.length m6] 24∧Bxx U (bA+1) #[.slice a7 qb.head.length m7,.int .i64 qb.frm,.int .i64 qb.period,.slice a8 qb.cycle.length m8] 24∧PerIs U (.slice a5 qa.head.length m5) (.slice a6 qa.cycle.length m6) qa∧PerIs U (.slice a7 qb.head.length m7) (.slice a8 qb.cycle.length m8) qb∧Bxx U (w.heap.size+1+1) #[.slice none 0 0,.int .i64 0,.int .i64 0,.slice none 0 0] 24∧Below w.heap.size w U)
  ⟨(Bxx.at hbA.symm).alloc _,Bxx.at (by simp [hbA]),ho1.is.ext (by (repeat' (with_reducible first|assumption|apply Er|apply Ea|apply Ed|apply En|(refine Es ?_ (by first|(simp<;>omega)|omega) _)|refine Et ?_ (by assumption)))),ho2.is.ext (by (repeat' (with_reducible first|assumption|apply Er|apply Ea|apply Ed|apply En|(refine Es ?_ (by first|(simp<;>omega)|omega) _)|refine Et ?_ (by assumption)))),((hRB.below hb3).alloc _).alloc _,by (repeat' (with_reducible first|assumption|apply Er|apply Ea|apply Ed|apply En|(refine Es ?_ (by first|(simp<;>omega)|omega) _)|refine Et ?_ (by assumption)))⟩ ?_
 clear hA hB A0 A1 A2 A3 B0 B1 B2 B3 ho1 ho2 hb3 hbA hE2 hRB
 rintro W4 ⟨hqA,hqB,hpa,hpb,hRB,hE4⟩
 have HPA:=Lib.hid hpa
 have HPB:=Lib.hid hpb
 have HE4:=Lib.hid hE4
 have A0:W4.cell? ⟨bA,0,none⟩=some (.slice a5 qa.head.length m5):=(hqA.cells 0).1
 have A1:W4.cell? ⟨bA,1,none⟩=some (.int .i64 qa.frm):=(hqA.cells 1).1
 have A2:W4.cell? ⟨bA,2,none⟩=some (.int .i64 qa.period):=(hqA.cells 2).1
 have A3:W4.cell? ⟨bA,3,none⟩=some (.slice a6 qa.cycle.length m6):=(hqA.cells 3).1
 have B0:W4.cell? ⟨bA+1,0,none⟩=some (.slice a7 qb.head.length m7):=(hqB.cells 0).1
 have B1:W4.cell? ⟨bA+1,1,none⟩=some (.int .i64 qb.frm):=(hqB.cells 1).1
 have B2:W4.cell? ⟨bA+1,2,none⟩=some (.int .i64 qb.period):=(hqB.cells 2).1
 have B3:W4.cell? ⟨bA+1,3,none⟩=some (.slice a8 qb.cycle.length m8):=(hqB.cells 3).1
 have hlA:=hqA.lt
 have hlB:=hqB.lt
 clear hqA hqB hpa hpb hE4
 have HRB:=Lib.hid hRB
 have hlR:=hRB.lt
 clear hRB
 go_upto_region 6 with (fail)
 refine wp_region_facts (w0:=W4) [0,1,2,3,4,5,6,7,8,9,10,11] [12] (fun v=>⟨#[perV (.slice a1 p1.head.length m1) (.slice a2 p1.cycle.length m2) p1.frm p1.period,perV (.slice a3 p2.head.length m3) (.slice a4 p2.cycle.length m4) p2.frm p2.period,.int .i64 kd,.pointer (some ⟨w.heap.size,0,none⟩),.pointer (some ⟨w.heap.size+1,0,none⟩),undef,.pointer (some ⟨w.heap.size+1+1,0,none⟩),.int .i64 0,.pointer (some ⟨bA,0,none⟩),.pointer (some ⟨bA+1,0,none⟩),.int .i64 st,.int .i64 L,undef,undef,undef,.agg #[.slice a1 p1.head.length m1,.int .i64 p1.frm,.int .i64 p1.period,.slice a2 p1.cycle.length m2],.bool true,.bool false,.bool false,.agg #[.slice a3 p2.head.length m3,.int .i64 p2.frm,.int .i64 p2.period,.slice a4 p2.cycle.length m4],.bool true,.bool false,.bool false,undef,.tuple #[perV (.slice a5 qa.head.length m5) (.slice a6 qa.cycle.length m6) qa.frm qa.period,perV (.slice a7 qb.head.length m7) (.slice a8 qb.cycle.length m8) qb.frm qb.period,.int .i64 st,.int .i64 L],.agg #[.slice a1 p1.head.length m1,.int .i64 p1.frm,.int .i64 p1.period,.slice a2 p1.cycle.length m2],.agg #[.slice a3 p2.head.length m3,.int .i64 p2.frm,.int .i64 p2.period,.slice a4 p2.cycle.length m4],.tuple #[perV (.slice a5 qa.head.length m5) (.slice a6 qa.cycle.length m6) qa.frm qa.period,perV (.slice a7 qb.head.length m7) (.slice a8 qb.cycle.length m8) qb.frm qb.period,.int .i64 st,.int .i64 L],perV (.slice a5 qa.head.length m5) (.slice a6 qa.cycle.length m6) qa.frm qa.period,perV (.slice a7 qb.head.length m7) (.slice a8 qb.cycle.length m8) qb.frm qb.period,.int .i64 st,.int .i64 L,.int .i64 L,.bool false,undef,v 0,v 1,v 2,v 3,v 4,v 5,v 6,v 7,v 8,v 9,v 10,v 11,undef,undef,undef,undef,undef,undef,undef,undef,undef,undef,undef,undef,undef,undef,undef,undef,undef,undef,undef,undef,undef,undef,undef,undef,undef,undef,undef,undef,undef,undef,undef,undef,undef,undef,undef,undef,undef,undef,undef,undef,undef,undef,undef],[]⟩) (fun _=>undef)
  (fun i v lo hi W=>match i with
   | 0=>v 0=.agg #[.slice a5 qa.head.length m5,.int .i64 qa.frm,.int .i64 qa.period,.slice a6 qa.cycle.length m6]
   | 1=>v 1=.int .i64 st
   | 2=>v 2=.int .i64 L
   | 3=>v 3=.int .i64 (st+L)
   | 4=>Ints W (v 4) (sel qa.mem 0 (st+L))
   | 5=>v 5=.agg #[.slice a7 qb.head.length m7,.int .i64 qb.frm,.int .i64 qb.period,.slice a8 qb.cycle.length m8]
   | 6=>v 6=.int .i64 st
   | 7=>v 7=.int .i64 L
   | 8=>v 8=.int .i64 (st+L)
   | 9=>Ints W (v 9) (sel qb.mem 0 (st+L))
   | 10=>v 10=.int .i64 kd
   | 11=>Ints W (v 11) X
   | _=>True)
  (fun W=>(W.cell? ⟨bA,0,none⟩=some (.slice a5 qa.head.length m5)∧W.cell? ⟨bA,1,none⟩=some (.int .i64 qa.frm)∧W.cell? ⟨bA,2,none⟩=some (.int .i64 qa.period)∧W.cell? ⟨bA,3,none⟩=some (.slice a6 qa.cycle.length m6))∧(W.cell? ⟨bA+1,0,none⟩=some (.slice a7 qb.head.length m7)∧W.cell? ⟨bA+1,1,none⟩=some (.int .i64 qb.frm)∧W.cell? ⟨bA+1,2,none⟩=some (.int .i64 qb.period)∧W.cell? ⟨bA+1,3,none⟩=some (.slice a8 qb.cycle.length m8))∧PerIs W (.slice a5 qa.head.length m5) (.slice a6 qa.cycle.length m6) qa∧PerIs W (.slice a7 qb.head.length m7) (.slice a8 qb.cycle.length m8) qb) rfl (by kernel_rfl) (by decide) rfl ?stab ?loc (fun W hb=>⟨⟨cux A0 hb,cux A1 hb,cux A2 hb,cux A3 hb⟩,⟨cux B0 hb,cux B1 hb,cux B2 hb,cux B3 hb⟩,HPA.out.ext hb,HPB.out.ext hb⟩) ?steps ?fin
 case stab=>
  rintro (_|_|_|_|_|_|_|_|_|_|_|_|i) v lo hi W W' h hb
  ·exact h
  ·exact h
  ·exact h
  ·exact h
  ·exact h.ext hb
  ·exact h
  ·exact h
  ·exact h
  ·exact h
  ·exact h.ext hb
  ·exact h
  ·exact h.ext hb
  ·trivial
 case loc=>
  rintro (_|_|_|_|_|_|_|_|_|_|_|_|i) v v' lo lo' hi hi' W hag h
  ·exact (hag 0 (.inl rfl)).1 ▸ h
  ·exact (hag 1 (.inl rfl)).1 ▸ h
  ·exact (hag 2 (.inl rfl)).1 ▸ h
  ·exact (hag 3 (.inl rfl)).1 ▸ h
  ·have q:=hag 4 (.inl rfl)
   have q0:=hag 0 (.inr (Rdp (by kernel_rfl)))
   have q3:=hag 3 (.inr (Rdp (by kernel_rfl)))
   (try dsimp only at h ⊢);(try simp only [q.1,q.2.1,q.2.2,q0.1,q0.2.1,q0.2.2,q3.1,q3.2.1,q3.2.2] at h);exact h
  ·exact (hag 5 (.inl rfl)).1 ▸ h
  ·exact (hag 6 (.inl rfl)).1 ▸ h
  ·exact (hag 7 (.inl rfl)).1 ▸ h
  ·exact (hag 8 (.inl rfl)).1 ▸ h
  ·have q:=hag 9 (.inl rfl)
   have q4:=hag 4 (.inr (Rdp (by kernel_rfl)))
   have q5:=hag 5 (.inr (Rdp (by kernel_rfl)))
   have q8:=hag 8 (.inr (Rdp (by kernel_rfl)))
   (try dsimp only at h ⊢);(try simp only [q.1,q.2.1,q.2.2,q4.1,q4.2.1,q4.2.2,q5.1,q5.2.1,q5.2.2,q8.1,q8.2.1,q8.2.2] at h);exact h
  ·exact (hag 10 (.inl rfl)).1 ▸ h
  ·have q:=hag 11 (.inl rfl)
   have q4:=hag 4 (.inr (Rdp (by kernel_rfl)))
   have q9:=hag 9 (.inr (Rdp (by kernel_rfl)))
   have q10:=hag 10 (.inr (Rdp (by kernel_rfl)))
   (try dsimp only at h ⊢);(try simp only [q.1,q.2.1,q.2.2,q4.1,q4.2.1,q4.2.2,q9.1,q9.2.1,q9.2.2,q10.1,q10.2.1,q10.2.2] at h);exact h
  ·trivial
 case steps=>
  refine SFx.cons rfl ?_ (SFx.cons rfl ?_ (SFx.cons rfl ?_ (SFx.cons rfl ?_ (SFx.cons rfl ?_ (SFx.cons rfl ?_ (SFx.cons rfl ?_ (SFx.cons rfl ?_ (SFx.cons rfl ?_ (SFx.cons rfl ?_ (SFx.cons rfl ?_ (SFx.cons rfl ?_ SFx.nil)))))))))))
  ·rintro v lo hi W hb ⟨⟨g0,g1,g2,g3⟩,⟨k0,k1,k2,k3⟩,hPa,hPb⟩ hd K hK
   clear hd
   dsimp only
   go_wp2_with fail
   exact acx (hK (.agg #[.slice a5 qa.head.length m5,.int .i64 qa.frm,.int .i64 qa.period,.slice a6 qa.cycle.length m6]) W (Below.refl _ _) rfl) (by simp)
  ·rintro v lo hi W hb ⟨⟨g0,g1,g2,g3⟩,⟨k0,k1,k2,k3⟩,hPa,hPb⟩ hd K hK
   clear hd
   dsimp only
   go_wp2_with fail
   exact acx (hK (.int .i64 st) W (Below.refl _ _) rfl) (by simp)
  ·rintro v lo hi W hb ⟨⟨g0,g1,g2,g3⟩,⟨k0,k1,k2,k3⟩,hPa,hPb⟩ hd K hK
   clear hd
   dsimp only
   go_wp2_with fail
   exact acx (hK (.int .i64 L) W (Below.refl _ _) rfl) (by simp)
  ·rintro v lo hi W hb ⟨⟨g0,g1,g2,g3⟩,⟨k0,k1,k2,k3⟩,hPa,hPb⟩ hd K hK
   have e1:v 1=.int .i64 st:=(hd 1 (Rdp (by kernel_rfl))).2.2
   have e2:v 2=.int .i64 L:=(hd 2 (Rdp (by kernel_rfl))).2.2
   clear hd
   dsimp only
   (try simp only [e1,e2])
   go_wp2_with fail
   exact acx (hK (.int .i64 (st+L)) W (Below.refl _ _) rfl) (by simp [e1,e2])
  ·rintro v lo hi W hb ⟨⟨g0,g1,g2,g3⟩,⟨k0,k1,k2,k3⟩,hPa,hPb⟩ hd K hK
   have e0:v 0=.agg #[.slice a5 qa.head.length m5,.int .i64 qa.frm,.int .i64 qa.period,.slice a6 qa.cycle.length m6]:=(hd 0 (Rdp (by kernel_rfl))).2.2
   have e3:v 3=.int .i64 (st+L):=(hd 3 (Rdp (by kernel_rfl))).2.2
   clear hd
   dsimp only
   (try simp only [e0,e3])
   go_wp2_with (go_at_call 50;refine (RMembers_any _ _ qa 0 (st+L) _ (hPa.ext (by (repeat' (with_reducible first|assumption|apply Er|apply Ea|apply Ed|apply En|(refine Es ?_ (by first|(simp<;>omega)|omega) _)|refine Et ?_ (by assumption))))) HQA.out.wf (by omega) (by omega) (by omega) (by omega) (by omega) (by omega)).mono ?_;rintro e w9 ⟨mv,rfl,ho9,hb9⟩)
   exact acx (hK mv w9 hb9 ho9.ints) (by simp [e0,e3])
  ·rintro v lo hi W hb ⟨⟨g0,g1,g2,g3⟩,⟨k0,k1,k2,k3⟩,hPa,hPb⟩ hd K hK
   clear hd
   dsimp only
   go_wp2_with fail
   exact acx (hK (.agg #[.slice a7 qb.head.length m7,.int .i64 qb.frm,.int .i64 qb.period,.slice a8 qb.cycle.length m8]) W (Below.refl _ _) rfl) (by simp)
  ·rintro v lo hi W hb ⟨⟨g0,g1,g2,g3⟩,⟨k0,k1,k2,k3⟩,hPa,hPb⟩ hd K hK
   clear hd
   dsimp only
   go_wp2_with fail
   exact acx (hK (.int .i64 st) W (Below.refl _ _) rfl) (by simp)
  ·rintro v lo hi W hb ⟨⟨g0,g1,g2,g3⟩,⟨k0,k1,k2,k3⟩,hPa,hPb⟩ hd K hK
   clear hd
   dsimp only
   go_wp2_with fail
   exact acx (hK (.int .i64 L) W (Below.refl _ _) rfl) (by simp)
  ·rintro v lo hi W hb ⟨⟨g0,g1,g2,g3⟩,⟨k0,k1,k2,k3⟩,hPa,hPb⟩ hd K hK
   have e6:v 6=.int .i64 st:=(hd 6 (Rdp (by kernel_rfl))).2.2
   have e7:v 7=.int .i64 L:=(hd 7 (Rdp (by kernel_rfl))).2.2
   clear hd
   dsimp only
   (try simp only [e6,e7])
   go_wp2_with fail
   exact acx (hK (.int .i64 (st+L)) W (Below.refl _ _) rfl) (by simp [e6,e7])
  ·rintro v lo hi W hb ⟨⟨g0,g1,g2,g3⟩,⟨k0,k1,k2,k3⟩,hPa,hPb⟩ hd K hK
   have e5:v 5=.agg #[.slice a7 qb.head.length m7,.int .i64 qb.frm,.int .i64 qb.period,.slice a8 qb.cycle.length m8]:=(hd 5 (Rdp (by kernel_rfl))).2.2
   have e8:v 8=.int .i64 (st+L):=(hd 8 (Rdp (by kernel_rfl))).2.2
   clear hd
   dsimp only
   (try simp only [e5,e8])
   go_wp2_with (go_at_call 50;refine (RMembers_any _ _ qb 0 (st+L) _ (hPb.ext (by (repeat' (with_reducible first|assumption|apply Er|apply Ea|apply Ed|apply En|(refine Es ?_ (by first|(simp<;>omega)|omega) _)|refine Et ?_ (by assumption))))) HQB.out.wf (by omega) (by omega) (by omega) (by omega) (by omega) (by omega)).mono ?_;rintro e w9 ⟨mv,rfl,ho9,hb9⟩)
   exact acx (hK mv w9 hb9 ho9.ints) (by simp [e5,e8])
  ·rintro v lo hi W hb ⟨⟨g0,g1,g2,g3⟩,⟨k0,k1,k2,k3⟩,hPa,hPb⟩ hd K hK
   clear hd
   dsimp only
   go_wp2_with fail
   exact acx (hK (.int .i64 kd) W (Below.refl _ _) rfl) (by simp)
  ·rintro v lo hi W hb ⟨⟨g0,g1,g2,g3⟩,⟨k0,k1,k2,k3⟩,hPa,hPb⟩ hd K hK
   obtain ⟨la4,lb4,D4⟩:=hd 4 (Rdp (by kernel_rfl))
   obtain ⟨la9,lb9,D9⟩:=hd 9 (Rdp (by kernel_rfl))
   have e10:v 10=.int .i64 kd:=(hd 10 (Rdp (by kernel_rfl))).2.2
   clear hd
   dsimp only
   (try simp only [e10])
   go_wp2_with (go_at_call 64;refine (Rcombined_any (v 4) (v 9) _ _ kd _ D4 D9 HA9.out).mono ?_;rintro e w9 ⟨mv,rfl,ho9,hb9⟩;rw [HX.out] at ho9)
   exact acx (hK mv w9 hb9 ho9.ints) (by simp [e10])
 case fin=>
  rintro v lo hi W5 hb5 _ hf hap
  show wpList _ _ _ [_] _ _
  have hi9:Ints W5 (v 11) X:=(hf 11 rfl).2.2.2
  clear hf hap
  (try dsimp only)
  have HE5:Hid (Below w.heap.size w W5):=Lib.hid (by have hE4:=HE4.out;(repeat' (with_reducible first|assumption|apply Er|apply Ea|apply Ed|apply En|(refine Es ?_ (by first|(simp<;>omega)|omega) _)|refine Et ?_ (by assumption))))
  have HRB5:=Lib.hid (HRB.out.below hb5)
  have hlR5:=HRB5.out.lt
  generalize v 0=y0
  generalize v 1=y1
  generalize v 2=y2
  generalize v 3=y3
  generalize v 4=y4
  generalize v 5=y5
  generalize v 6=y6
  generalize v 7=y7
  generalize v 8=y8
  generalize v 9=y9
  generalize v 10=y10
  have HI9:=Lib.hid hi9
  obtain ⟨⟨a9,c9,e9,_⟩,_,_⟩:=hi9
  rw [e9]
  rw [e9] at HI9
  clear e9 hb5 HRB HE4 HPA HPB A0 A1 A2 A3 B0 B1 B2 B3
  go_upto_region 10 with (fail)
  obtain ⟨ob,hob⟩:∃ ob,ob=W5.heap.size:=⟨_,rfl⟩
  have hOL:OL w ob (ob+1) st L (.slice none 0 0) (.slice none 0 0) [] [] (W5.alloc (.cells #[.slice none 0 0,.int .i64 st,.int .i64 L,.slice none 0 0] 24)):=
   ⟨by have hE:=HE5.out;(repeat' (with_reducible first|assumption|apply Er|apply Ea|apply Ed|apply En|(refine Es ?_ (by first|(simp<;>omega)|omega) _)|refine Et ?_ (by assumption))),HRB5.out.alloc _,Bxx.at hob,OwnI.nil _ _,OwnI.nil _ _,fun k e=>by simp [Value.ownBlock] at e,by omega,by omega,by simp;omega⟩
  refine wp_abs (F:=fun U=>OL w ob (ob+1) st L (.slice none 0 0) (.slice none 0 0) [] [] U∧IntsIn U 0 ob (.slice a9 X.length c9) X) ⟨hOL,by rw [hob];exact (HI9.out.inn).alloc _ (Nat.le_refl _)⟩ ?_
  rw [← hob]
  clear hOL hob HI9 HRB5 HE5 hlR5
  rintro W6 ⟨hL6,hi6⟩
  have HL6:=Lib.hid hL6
  have HI6:=Lib.hid hi6
  clear hL6 hi6
  go_wp2_with fail
  go_loopw [14] (fun i wr=>∃ (k:Nat) (hv cv:Value),k≤X.length∧i=.int .i64 k∧OL w ob (ob+1) st L hv cv ((X.take k).filter (fun x=>decide (x<st))) (((X.take k).filter (fun x=>!decide (x<st))).map (· - st)) wr∧IntsIn wr 0 ob (.slice a9 X.length c9) X) (fun i _=>X.length-(intOf i).toNat)
  case atStart=>exact ⟨0,_,_,by omega,rfl,HL6.out,HI6.out⟩
  case round=>
   obtain ⟨k,hv,cv,hk,rfl,hst,hb⟩:=hrel
   have HST:=Lib.hid hst
   have HB:=Lib.hid hb
   have o0:=(hst.obx.cells 0).1
   have o1:=(hst.obx.cells 1).1
   have o2:=(hst.obx.cells 2).1
   have o3:=(hst.obx.cells 3).1
   have oz0:=(hst.obx.cells 0).2
   have oz3:=(hst.obx.cells 3).2
   have hs2:=hst.o2
   have hs3:=hst.o3
   have hs1:=hst.o1
   by_cases hlt:k<X.length
   ·have hlI:(k:Int)<X.length:=by omega
    obtain ⟨⟨a',c',he,_,_,h38⟩,hlen8,hrg⟩:=hb.ints
    injection he with e1 _ e2
    subst e1
    subst e2
    rcases h38 with h38|⟨b8,f8,rfl,hcell⟩
    ·rw [h38] at hlt
     simp at hlt
    have hcl:=hcell k hlt
    have hyb:=HXR.out.2 _ (getD_mem hlt)
    have HT:Hid (X.take (k+1)=X.take k ++ [X.getD k 0]):=Lib.hid (by
     rw [List.take_succ_eq_append_getElem hlt,List.getD_eq_getElem?_getD,List.getElem?_eq_getElem hlt];rfl)
    have hk2:(X.take k).length≤1048576:=by rw [List.length_take];omega
    have hH1:((X.take k).filter (fun x=>decide (x<st))).length≤1048576:=Nat.le_trans (List.length_filter_le _ _) hk2
    have hH2:(((X.take k).filter (fun x=>!decide (x<st))).map (· - st)).length≤1048576:=by rw [List.length_map];exact Nat.le_trans (List.length_filter_le _ _) hk2
    have hown:=hst.hd
    have howc:=hst.cy
    generalize X.getD k 0=y at *
    by_cases hys:y<st
    ·have dys:decide (y<st)=true:=by simp [hys]
     have HFH:Hid ((X.take (k+1)).filter (fun x=>decide (x<st))=(X.take k).filter (fun x=>decide (x<st)) ++ [y]):=Lib.hid (by rw [HT.out,List.filter_append];simp [hys])
     have HFC:Hid (((X.take (k+1)).filter (fun x=>!decide (x<st))).map (· - st)=((X.take k).filter (fun x=>!decide (x<st))).map (· - st)):=Lib.hid (by rw [HT.out,List.filter_append];simp [hys])
     generalize (X.take k).filter (fun x=>decide (x<st))=HLs at *
     generalize ((X.take k).filter (fun x=>!decide (x<st))).map (· - st)=CLs at *
     clear hcell hrg hst hk2 howc
     go_upto_region 14 with (fail)
     refine wp_region_facts (w0:=wr) [0,1,2,3,4,5,6] [7,8,9] (fun v=>⟨#[perV (.slice a1 p1.head.length m1) (.slice a2 p1.cycle.length m2) p1.frm p1.period,perV (.slice a3 p2.head.length m3) (.slice a4 p2.cycle.length m4) p2.frm p2.period,.int .i64 kd,.pointer (some ⟨w.heap.size,0,none⟩),.pointer (some ⟨w.heap.size+1,0,none⟩),undef,.pointer (some ⟨w.heap.size+1+1,0,none⟩),.int .i64 0,.pointer (some ⟨bA,0,none⟩),.pointer (some ⟨bA+1,0,none⟩),.int .i64 st,.int .i64 L,.slice (some ⟨b8,f8,none⟩) X.length c9,.pointer (some ⟨ob,0,none⟩),.int .i64 ↑k,.agg #[.slice a1 p1.head.length m1,.int .i64 p1.frm,.int .i64 p1.period,.slice a2 p1.cycle.length m2],.bool true,.bool false,.bool false,.agg #[.slice a3 p2.head.length m3,.int .i64 p2.frm,.int .i64 p2.period,.slice a4 p2.cycle.length m4],.bool true,.bool false,.bool false,undef,.tuple #[perV (.slice a5 qa.head.length m5) (.slice a6 qa.cycle.length m6) qa.frm qa.period,perV (.slice a7 qb.head.length m7) (.slice a8 qb.cycle.length m8) qb.frm qb.period,.int .i64 st,.int .i64 L],.agg #[.slice a1 p1.head.length m1,.int .i64 p1.frm,.int .i64 p1.period,.slice a2 p1.cycle.length m2],.agg #[.slice a3 p2.head.length m3,.int .i64 p2.frm,.int .i64 p2.period,.slice a4 p2.cycle.length m4],.tuple #[perV (.slice a5 qa.head.length m5) (.slice a6 qa.cycle.length m6) qa.frm qa.period,perV (.slice a7 qb.head.length m7) (.slice a8 qb.cycle.length m8) qb.frm qb.period,.int .i64 st,.int .i64 L],perV (.slice a5 qa.head.length m5) (.slice a6 qa.cycle.length m6) qa.frm qa.period,perV (.slice a7 qb.head.length m7) (.slice a8 qb.cycle.length m8) qb.frm qb.period,.int .i64 st,.int .i64 L,.int .i64 L,.bool false,undef,y0,y1,y2,y3,y4,y5,y6,y7,y8,y9,y10,.slice (some ⟨b8,f8,none⟩) X.length c9,.slice (some ⟨b8,f8,none⟩) X.length c9,.int .i64 ↑X.length,.bool false,undef,.int .i64 st,.int .i64 L,.agg #[.slice none 0 0,.int .i64 st,.int .i64 L,.slice none 0 0],.int .i64 ↑k,.slice (some ⟨b8,f8,none⟩) X.length c9,.int .i64 ↑X.length,.bool true,u58,u59,.slice (some ⟨b8,f8,none⟩) X.length c9,.int .i64 ↑k,.pointer (some ⟨b8,f8+k,none⟩),.int .i64 y,.int .i64 st,.bool true,v 0,v 1,v 2,v 3,v 4,v 5,v 6,u73,u74,u75,u76,u77,u78,u79,u80,u81,u82,u83,u84,u85,undef,undef,undef,undef],[]⟩) (fun j=>match j with|0=>u66|1=>u67|2=>u68|3=>u69|4=>u70|5=>u71|6=>u72|_=>undef)
      (fun i v lo hi W=>match i with
       | 0=>v 0=.pointer (some ⟨ob,0,none⟩)
       | 1=>v 1=hv
       | 2=>v 2=.slice (some ⟨b8,f8,none⟩) X.length c9
       | 3=>v 3=.int .i64 k
       | 4=>v 4=.pointer (some ⟨b8,f8+k,none⟩)
       | 5=>v 5=.int .i64 y
       | 6=>v 6=.slice (some ⟨lo 6,0,none⟩) 1 1∧lo 6<hi 6∧Bxx W (lo 6) #[.int .i64 (y)] 3
       | _=>True)
      (fun W=>W.cell? ⟨ob,0,none⟩=some hv∧W.cell? ⟨b8,f8+k,none⟩=some (.int .i64 y)∧True) rfl (by kernel_rfl) (by decide) rfl ?stab ?loc (fun W9 hb=>⟨cux o0 hb,cux hcl hb,trivial⟩) ?steps ?fin
     case stab=>
      rintro (_|_|_|_|_|_|_|i) v lo hi W W' h hb
      ·exact h
      ·exact h
      ·exact h
      ·exact h
      ·exact h
      ·exact h
      ·exact ⟨h.1,h.2.1,h.2.2.below hb⟩
      ·trivial
     case loc=>
      rintro (_|_|_|_|_|_|_|i) v v' lo lo' hi hi' W hag h
      ·exact (hag 0 (.inl rfl)).1 ▸ h
      ·exact (hag 1 (.inl rfl)).1 ▸ h
      ·exact (hag 2 (.inl rfl)).1 ▸ h
      ·exact (hag 3 (.inl rfl)).1 ▸ h
      ·exact (hag 4 (.inl rfl)).1 ▸ h
      ·exact (hag 5 (.inl rfl)).1 ▸ h
      ·have q:=hag 6 (.inl rfl)
       have q5:=hag 5 (.inr (Rdp (by kernel_rfl)))
       (try dsimp only at h ⊢);(try simp only [q.1,q.2.1,q.2.2,q5.1,q5.2.1,q5.2.2] at h);exact h
      ·trivial
     case steps=>
      refine SFx.cons rfl ?_ (SFx.cons rfl ?_ (SFx.cons rfl ?_ (SFx.cons rfl ?_ (SFx.cons rfl ?_ (SFx.cons rfl ?_ (SFx.cons rfl ?_ SFx.nil))))))
      ·rintro v lo hi W hb ⟨g0,g1,g2⟩ hd K hK
       clear hd
       dsimp only
       go_wp2_with fail
       exact acx (hK (.pointer (some ⟨ob,0,none⟩)) W (Below.refl _ _) rfl) (by simp)
      ·rintro v lo hi W hb ⟨g0,g1,g2⟩ hd K hK
       have e0:v 0=.pointer (some ⟨ob,0,none⟩):=(hd 0 (Rdp (by kernel_rfl))).2.2
       clear hd
       dsimp only
       (try simp only [e0])
       go_wp2_with fail
       exact acx (hK (hv) W (Below.refl _ _) rfl) (by simp [e0])
      ·rintro v lo hi W hb ⟨g0,g1,g2⟩ hd K hK
       clear hd
       dsimp only
       go_wp2_with fail
       exact acx (hK (.slice (some ⟨b8,f8,none⟩) X.length c9) W (Below.refl _ _) rfl) (by simp)
      ·rintro v lo hi W hb ⟨g0,g1,g2⟩ hd K hK
       clear hd
       dsimp only
       go_wp2_with fail
       exact acx (hK (.int .i64 k) W (Below.refl _ _) rfl) (by simp)
      ·rintro v lo hi W hb ⟨g0,g1,g2⟩ hd K hK
       have e2:v 2=.slice (some ⟨b8,f8,none⟩) X.length c9:=(hd 2 (Rdp (by kernel_rfl))).2.2
       have e3:v 3=.int .i64 k:=(hd 3 (Rdp (by kernel_rfl))).2.2
       clear hd
       dsimp only
       (try simp only [e2,e3])
       go_wp2_with fail
       exact acx (hK (.pointer (some ⟨b8,f8+k,none⟩)) W (Below.refl _ _) rfl) (by simp [e2,e3])
      ·rintro v lo hi W hb ⟨g0,g1,g2⟩ hd K hK
       have e4:v 4=.pointer (some ⟨b8,f8+k,none⟩):=(hd 4 (Rdp (by kernel_rfl))).2.2
       clear hd
       dsimp only
       (try simp only [e4])
       go_wp2_with fail
       exact acx (hK (.int .i64 y) W (Below.refl _ _) rfl) (by simp [e4])
      ·rintro v lo hi W hb ⟨g0,g1,g2⟩ hd K hK
       have e5:v 5=.int .i64 y:=(hd 5 (Rdp (by kernel_rfl))).2.2
       clear hd
       dsimp only
       (try simp only [e5])
       go_wp2_with fail
       exact acx (hK (.slice (some ⟨W.heap.size,0,none⟩) 1 1) _ (Ea (Er _) _) ⟨rfl,by simp,Bxx.new _ _ _⟩) (by simp [e5])
     case fin=>
      rintro v lo hi W2 hb2 ⟨g0,g1,g2⟩ hf hap
      show wpList _ _ _ [_,_,_] _ _
      have e1:v 1=hv:=(hf 1 rfl).2.2.2
      obtain ⟨l7,m7,n7,e7,lt7,hb7⟩:=hf 6 rfl
      have hown1:=hown.ext hb2
      have hz2:=hb2.size
      have hnew:W2.cell? ⟨lo 6,0,none⟩=some (.int .i64 y):=(hb7.cells 0).1
      clear hf hap g0 g1 g2
      (try dsimp only)
      rw [e1,e7]
      generalize lo 6=bn at *
      refine append_list3 (by rfl) _ _ (by rfl) (ob+1) hv _ y (by rfl) hown1 _ _ (by rfl) hnew ⟨by omega,by omega⟩ (by omega) (by omega) ?_
      intro g cap W3 hown2 hgrow hbel hpl
      have hbel':Below (ob+1) wr W3:=(hb2.mono hs3).trans hbel
      have hqf2:W3.frozen? ⟨ob,0,none⟩=false:=(Below.frozen hbel' (p:=⟨ob,0,none⟩) hs2).trans oz0
      have hqc2:W3.cell? ⟨ob,0,none⟩=some hv:=Below.cell' hbel' o0 hs2
      go_wp2_with fail
      go_roundw
      case rel=>
       refine ⟨k+1,.slice (some ⟨g,0,none⟩) (HLs.length+1) cap,cv,by omega,by go_num,?_,?_⟩
       ·rw [HFH.out,HFC.out]
        exact HST.out.stepH hb2 hown2 hgrow hbel (fun j ej=>by
         have:g=j:=by simpa [Value.ownBlock] using ej
         rw [← this];exact hpl)
       ·exact (HB.out.below hbel' (by omega)).set _ (by omega)
      case measure=>simp [intOf];omega
    ·have dys:decide (y<st)=false:=by simp;omega
     have HFH:Hid ((X.take (k+1)).filter (fun x=>decide (x<st))=(X.take k).filter (fun x=>decide (x<st))):=Lib.hid (by rw [HT.out,List.filter_append];simp [hys])
     have HFC:Hid (((X.take (k+1)).filter (fun x=>!decide (x<st))).map (· - st)=((X.take k).filter (fun x=>!decide (x<st))).map (· - st) ++ [y-st]):=Lib.hid (by rw [HT.out,List.filter_append];simp [hys])
     generalize (X.take k).filter (fun x=>decide (x<st))=HLs at *
     generalize ((X.take k).filter (fun x=>!decide (x<st))).map (· - st)=CLs at *
     clear hcell hrg hst hk2 hown
     go_upto_region 15 with (fail)
     refine wp_region_facts (w0:=wr) [0,1,2,3,4,5,6,7,8] [9,10,11] (fun v=>⟨#[perV (.slice a1 p1.head.length m1) (.slice a2 p1.cycle.length m2) p1.frm p1.period,perV (.slice a3 p2.head.length m3) (.slice a4 p2.cycle.length m4) p2.frm p2.period,.int .i64 kd,.pointer (some ⟨w.heap.size,0,none⟩),.pointer (some ⟨w.heap.size+1,0,none⟩),undef,.pointer (some ⟨w.heap.size+1+1,0,none⟩),.int .i64 0,.pointer (some ⟨bA,0,none⟩),.pointer (some ⟨bA+1,0,none⟩),.int .i64 st,.int .i64 L,.slice (some ⟨b8,f8,none⟩) X.length c9,.pointer (some ⟨ob,0,none⟩),.int .i64 ↑k,.agg #[.slice a1 p1.head.length m1,.int .i64 p1.frm,.int .i64 p1.period,.slice a2 p1.cycle.length m2],.bool true,.bool false,.bool false,.agg #[.slice a3 p2.head.length m3,.int .i64 p2.frm,.int .i64 p2.period,.slice a4 p2.cycle.length m4],.bool true,.bool false,.bool false,undef,.tuple #[perV (.slice a5 qa.head.length m5) (.slice a6 qa.cycle.length m6) qa.frm qa.period,perV (.slice a7 qb.head.length m7) (.slice a8 qb.cycle.length m8) qb.frm qb.period,.int .i64 st,.int .i64 L],.agg #[.slice a1 p1.head.length m1,.int .i64 p1.frm,.int .i64 p1.period,.slice a2 p1.cycle.length m2],.agg #[.slice a3 p2.head.length m3,.int .i64 p2.frm,.int .i64 p2.period,.slice a4 p2.cycle.length m4],.tuple #[perV (.slice a5 qa.head.length m5) (.slice a6 qa.cycle.length m6) qa.frm qa.period,perV (.slice a7 qb.head.length m7) (.slice a8 qb.cycle.length m8) qb.frm qb.period,.int .i64 st,.int .i64 L],perV (.slice a5 qa.head.length m5) (.slice a6 qa.cycle.length m6) qa.frm qa.period,perV (.slice a7 qb.head.length m7) (.slice a8 qb.cycle.length m8) qb.frm qb.period,.int .i64 st,.int .i64 L,.int .i64 L,.bool false,undef,y0,y1,y2,y3,y4,y5,y6,y7,y8,y9,y10,.slice (some ⟨b8,f8,none⟩) X.length c9,.slice (some ⟨b8,f8,none⟩) X.length c9,.int .i64 ↑X.length,.bool false,undef,.int .i64 st,.int .i64 L,.agg #[.slice none 0 0,.int .i64 st,.int .i64 L,.slice none 0 0],.int .i64 ↑k,.slice (some ⟨b8,f8,none⟩) X.length c9,.int .i64 ↑X.length,.bool true,u58,u59,.slice (some ⟨b8,f8,none⟩) X.length c9,.int .i64 ↑k,.pointer (some ⟨b8,f8+k,none⟩),.int .i64 y,.int .i64 st,.bool false,u66,u67,u68,u69,u70,u71,u72,u73,u74,v 0,v 1,v 2,v 3,v 4,v 5,v 6,v 7,v 8,u84,u85,undef,undef,undef,undef],[]⟩) (fun j=>match j with|0=>u75|1=>u76|2=>u77|3=>u78|4=>u79|5=>u80|6=>u81|7=>u82|8=>u83|_=>undef)
      (fun i v lo hi W=>match i with
       | 0=>v 0=.pointer (some ⟨ob,3,none⟩)
       | 1=>v 1=cv
       | 2=>v 2=.slice (some ⟨b8,f8,none⟩) X.length c9
       | 3=>v 3=.int .i64 k
       | 4=>v 4=.pointer (some ⟨b8,f8+k,none⟩)
       | 5=>v 5=.int .i64 y
       | 6=>v 6=.int .i64 st
       | 7=>v 7=.int .i64 (y-st)
       | 8=>v 8=.slice (some ⟨lo 8,0,none⟩) 1 1∧lo 8<hi 8∧Bxx W (lo 8) #[.int .i64 (y-st)] 3
       | _=>True)
      (fun W=>W.cell? ⟨ob,3,none⟩=some cv∧W.cell? ⟨b8,f8+k,none⟩=some (.int .i64 y)∧True) rfl (by kernel_rfl) (by decide) rfl ?stab ?loc (fun W9 hb=>⟨cux o3 hb,cux hcl hb,trivial⟩) ?steps ?fin
     case stab=>
      rintro (_|_|_|_|_|_|_|_|_|i) v lo hi W W' h hb
      ·exact h
      ·exact h
      ·exact h
      ·exact h
      ·exact h
      ·exact h
      ·exact h
      ·exact h
      ·exact ⟨h.1,h.2.1,h.2.2.below hb⟩
      ·trivial
     case loc=>
      rintro (_|_|_|_|_|_|_|_|_|i) v v' lo lo' hi hi' W hag h
      ·exact (hag 0 (.inl rfl)).1 ▸ h
      ·exact (hag 1 (.inl rfl)).1 ▸ h
      ·exact (hag 2 (.inl rfl)).1 ▸ h
      ·exact (hag 3 (.inl rfl)).1 ▸ h
      ·exact (hag 4 (.inl rfl)).1 ▸ h
      ·exact (hag 5 (.inl rfl)).1 ▸ h
      ·exact (hag 6 (.inl rfl)).1 ▸ h
      ·exact (hag 7 (.inl rfl)).1 ▸ h
      ·have q:=hag 8 (.inl rfl)
       have q7:=hag 7 (.inr (Rdp (by kernel_rfl)))
       (try dsimp only at h ⊢);(try simp only [q.1,q.2.1,q.2.2,q7.1,q7.2.1,q7.2.2] at h);exact h
      ·trivial
     case steps=>
      refine SFx.cons rfl ?_ (SFx.cons rfl ?_ (SFx.cons rfl ?_ (SFx.cons rfl ?_ (SFx.cons rfl ?_ (SFx.cons rfl ?_ (SFx.cons rfl ?_ (SFx.cons rfl ?_ (SFx.cons rfl ?_ SFx.nil))))))))
      ·rintro v lo hi W hb ⟨g0,g1,g2⟩ hd K hK
       clear hd
       dsimp only
       go_wp2_with fail
       exact acx (hK (.pointer (some ⟨ob,3,none⟩)) W (Below.refl _ _) rfl) (by simp)
      ·rintro v lo hi W hb ⟨g0,g1,g2⟩ hd K hK
       have e0:v 0=.pointer (some ⟨ob,3,none⟩):=(hd 0 (Rdp (by kernel_rfl))).2.2
       clear hd
       dsimp only
       (try simp only [e0])
       go_wp2_with fail
       exact acx (hK (cv) W (Below.refl _ _) rfl) (by simp [e0])
      ·rintro v lo hi W hb ⟨g0,g1,g2⟩ hd K hK
       clear hd
       dsimp only
       go_wp2_with fail
       exact acx (hK (.slice (some ⟨b8,f8,none⟩) X.length c9) W (Below.refl _ _) rfl) (by simp)
      ·rintro v lo hi W hb ⟨g0,g1,g2⟩ hd K hK
       clear hd
       dsimp only
       go_wp2_with fail
       exact acx (hK (.int .i64 k) W (Below.refl _ _) rfl) (by simp)
      ·rintro v lo hi W hb ⟨g0,g1,g2⟩ hd K hK
       have e2:v 2=.slice (some ⟨b8,f8,none⟩) X.length c9:=(hd 2 (Rdp (by kernel_rfl))).2.2
       have e3:v 3=.int .i64 k:=(hd 3 (Rdp (by kernel_rfl))).2.2
       clear hd
       dsimp only
       (try simp only [e2,e3])
       go_wp2_with fail
       exact acx (hK (.pointer (some ⟨b8,f8+k,none⟩)) W (Below.refl _ _) rfl) (by simp [e2,e3])
      ·rintro v lo hi W hb ⟨g0,g1,g2⟩ hd K hK
       have e4:v 4=.pointer (some ⟨b8,f8+k,none⟩):=(hd 4 (Rdp (by kernel_rfl))).2.2
       clear hd
       dsimp only
       (try simp only [e4])
       go_wp2_with fail
       exact acx (hK (.int .i64 y) W (Below.refl _ _) rfl) (by simp [e4])
      ·rintro v lo hi W hb ⟨g0,g1,g2⟩ hd K hK
       clear hd
       dsimp only
       go_wp2_with fail
       exact acx (hK (.int .i64 st) W (Below.refl _ _) rfl) (by simp)
      ·rintro v lo hi W hb ⟨g0,g1,g2⟩ hd K hK
       have e5:v 5=.int .i64 y:=(hd 5 (Rdp (by kernel_rfl))).2.2
       have e6:v 6=.int .i64 st:=(hd 6 (Rdp (by kernel_rfl))).2.2
       clear hd
       dsimp only
       (try simp only [e5,e6])
       go_wp2_with fail
       exact acx (hK (.int .i64 (y-st)) W (Below.refl _ _) rfl) (by simp [e5,e6])
      ·rintro v lo hi W hb ⟨g0,g1,g2⟩ hd K hK
       have e7:v 7=.int .i64 (y-st):=(hd 7 (Rdp (by kernel_rfl))).2.2
       clear hd
       dsimp only
       (try simp only [e7])
       go_wp2_with fail
       exact acx (hK (.slice (some ⟨W.heap.size,0,none⟩) 1 1) _ (Ea (Er _) _) ⟨rfl,by simp,Bxx.new _ _ _⟩) (by simp [e7])
     case fin=>
      rintro v lo hi W2 hb2 ⟨g0,g1,g2⟩ hf hap
      show wpList _ _ _ [_,_,_] _ _
      have e1:v 1=cv:=(hf 1 rfl).2.2.2
      obtain ⟨l7,m7,n7,e7,lt7,hb7⟩:=hf 8 rfl
      have hown1:=howc.ext hb2
      have hz2:=hb2.size
      have hnew:W2.cell? ⟨lo 8,0,none⟩=some (.int .i64 (y-st)):=(hb7.cells 0).1
      clear hf hap g0 g1 g2
      (try dsimp only)
      rw [e1,e7]
      generalize lo 8=bn at *
      refine append_list3 (by rfl) _ _ (by rfl) (ob+1) cv _ (y-st) (by rfl) hown1 _ _ (by rfl) hnew ⟨by omega,by omega⟩ (by omega) (by omega) ?_
      intro g cap W3 hown2 hgrow hbel hpl
      have hbel':Below (ob+1) wr W3:=(hb2.mono hs3).trans hbel
      have hqf2:W3.frozen? ⟨ob,3,none⟩=false:=(Below.frozen hbel' (p:=⟨ob,3,none⟩) hs2).trans oz3
      have hqc2:W3.cell? ⟨ob,3,none⟩=some cv:=Below.cell' hbel' o3 hs2
      go_wp2_with fail
      go_roundw
      case rel=>
       refine ⟨k+1,hv,.slice (some ⟨g,0,none⟩) (CLs.length+1) cap,by omega,by go_num,?_,?_⟩
       ·rw [HFH.out,HFC.out]
        exact HST.out.stepC hb2 hown2 hgrow hbel (fun j ej=>by
         have:g=j:=by simpa [Value.ownBlock] using ej
         rw [← this];exact hpl)
       ·exact (HB.out.below hbel' (by omega)).set _ (by omega)
      case measure=>simp [intOf];omega
   ·obtain rfl:k=X.length:=by omega
    have hhd:=hst.hd
    have hcy:=hst.cy
    have hRB:=hst.rb
    have hbw:=hst.below
    rw [List.take_length] at hhd hcy
    rw [← HRH.out] at hhd
    rw [← HRC.out] at hcy
    obtain ⟨ha1,hc1,rfl⟩:=hhd.form
    obtain ⟨ca1,cc1,rfl⟩:=hcy.form
    have HPR:Hid (PerIs wr (.slice ha1 R.head.length hc1) (.slice ca1 R.cycle.length cc1) R):=Lib.hid ⟨hhd.ints,hcy.ints⟩
    have HCAN:Hid (Calls Tryz.prog 7 #[.agg #[.slice ha1 R.head.length hc1,.int .i64 st,.int .i64 L,.slice ca1 R.cycle.length cc1]] wr (PerOk q wr)):=Lib.hid (by
     have h:=RCanon_ok _ _ R q wr HPR.out HRV.out HRQ.out
     rw [HRF.out,HRP.out] at h;exact h)
    have r0:=hRB.cells 0
    have HRBx:=Lib.hid hRB
    have hltr:=hRB.lt
    clear hst HST hhd hcy hRB r0
    go_wp2_with (go_at_call 7;refine HCAN.out.mono ?_;rintro e w7 ⟨y1,y2,rfl,ho7,hb7⟩;obtain ⟨a5',m5',a6',m6',rfl,rfl⟩:=ho7.form;have hR7:=HRBx.out.below hb7;have r0:=hR7.cells 0;have r1:=hR7.cells 1;have r2:=hR7.cells 2;have r3:=hR7.cells 3;have hlt7:=hR7.lt;clear hR7)
    exact bodyPost_ret (v:=.tuple #[perV (.slice a5' q.head.length m5') (.slice a6' q.cycle.length m6') q.frm q.period,.int .i64 0]) (by simp [results,Tryz.results57,go_sem, *]) rfl
     ⟨_,_,rfl,(ho7.above (by (repeat' (with_reducible first|exact Above.refl _ _|refine Above.alloc ?_ _|refine Above.drew ?_|refine Above.drewN ?_ _|refine Above.setCell ?_ (by first|(simp;done)|(simp;omega)|omega) _)))).mono (by omega),by (repeat' (with_reducible first|assumption|apply Er|apply Ea|apply Ed|apply En|(refine Es ?_ (by first|(simp<;>omega)|omega) _)|refine Et ?_ (by assumption)))⟩
end Go.Proofs.YtjilkhhokkncoaaGreat
