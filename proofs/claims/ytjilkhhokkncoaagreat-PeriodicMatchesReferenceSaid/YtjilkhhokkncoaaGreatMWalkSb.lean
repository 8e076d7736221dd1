/- Walks: slices.ContainsFunc over ints, at any function value that makes memory at most; Subset (package periodic). -/
import Derived.Test.YtjilkhhokkncoaaGreatMMathO
set_option linter.unusedVariables false
set_option linter.unusedSimpArgs false
namespace Go.Proofs.YtjilkhhokkncoaaGreat
open Go.RowKit Go.Maps Kal
def PredI (g:Nat) (lb:Array Value) (l:List Int) (p:Int→Bool) (w:World):Prop:=
 ∀ (W:World) (x:Int),Below w.heap.size w W→x∈l→Calls Tryz.prog g (#[.int .i64 x] ++ lb) W fun e w'=>e=.returned (.bool (p x))∧Below w.heap.size w w'
set_option maxRecDepth 100000 in
set_option maxHeartbeats 2000000 in
theorem indexFuncI (v:Value) (l:List Int) (p:Int→Bool) (g:Nat) (lb:Array Value) (eg:∀ args w,(callFunc g args).run Tryz.prog w=.ok (.enter g args) w) (w:World) (hv:Ints w v l) (hp:PredI g lb l p w) :
  Calls Tryz.prog 93 #[v,.func (.func g) #[] lb] w fun e w'=>∃ i:Int,e=.returned (.int .i64 i)∧decide (0≤i)=l.any p∧Below w.heap.size w w':=by
 have HV:=Lib.hid hv
 have HPP:=Lib.hid hp
 obtain ⟨⟨a1,c1,rfl,_,_,_⟩,hlen,_⟩:=hv
 clear hp
 go_enter Tryz.func93,Tryz.ntmps93
 go_wp2_with fail
 go_loopw [5,8] (fun _ i wr=>∃ k:Nat,k≤l.length∧i=.int .i64 k∧(l.take k).any p=false∧Below w.heap.size w wr) (fun _ i _=>l.length-(intOf i).toNat)
 case atStart=>exact ⟨0,by omega,rfl,rfl,Below.refl _ _⟩
 case round=>
  obtain ⟨k,hk,rfl,hpre,hb⟩:=hrel
  have HB:=Lib.hid hb
  have HPRE:=Lib.hid hpre
  clear hpre
  by_cases hlt:k<l.length
  ·have hlI:(k:Int)<l.length:=by omega
   obtain ⟨⟨a',c',he,_,_,h38⟩,_,_⟩:=HV.out.ext hb
   injection he with e1 _ e2
   subst e1;subst e2
   rcases h38 with h38|⟨b8,f8,rfl,hcell⟩
   ·rw [h38] at hlt;simp at hlt
   have hcl:=hcell k hlt
   have hcall:=HPP.out wr (l.getD k 0) hb (getD_mem hlt)
   have HSU:Hid ((l.take (k+1)).any p=((l.take k).any p || p (l.getD k 0))):=Lib.hid (by
    rw [List.take_succ_eq_append_getElem hlt,List.any_append,List.getD_eq_getElem?_getD,List.getElem?_eq_getElem hlt];simp)
   have HMEM:=Lib.hid (getD_mem hlt)
   generalize l.getD k 0=y at *
   clear hcell hb
   cases hq:p y with
   | true=>
    rw [hq] at hcall
    have HQ:=Lib.hid hq
    clear hq
    go_wp2_with (go_at_fn g;refine hcall.mono ?_;rintro e w' ⟨rfl,hb'⟩)
    go_ret
    refine ⟨_,rfl,?_,hb'⟩
    rw [decide_eq_true (by omega)]
    exact (List.any_eq_true.2 ⟨y,HMEM.out,HQ.out⟩).symm
   | false=>
    rw [hq] at hcall
    have HQ:=Lib.hid hq
    clear hq
    go_wp2_with (go_at_fn g;refine hcall.mono ?_;rintro e w' ⟨rfl,hb'⟩)
    go_roundw
    case rel=>exact ⟨k+1,by omega,by go_num,by rw [HSU.out,HPRE.out,HQ.out];rfl,hb'⟩
    case measure=>simp [intOf];omega
  ·obtain rfl:k=l.length:=by omega
   go_wp2_with fail
   go_ret
   refine ⟨_,rfl,?_,HB.out⟩
   have:=HPRE.out
   rw [List.take_length] at this
   rw [this];rfl
set_option maxRecDepth 100000 in
set_option maxHeartbeats 2000000 in
theorem containsFuncI (v:Value) (l:List Int) (p:Int→Bool) (g:Nat) (lb:Array Value) (eg:∀ args w,(callFunc g args).run Tryz.prog w=.ok (.enter g args) w) (w:World) (hv:Ints w v l) (hp:PredI g lb l p w) :
  Calls Tryz.prog 68 #[v,.func (.func g) #[] lb] w fun e w'=>e=.returned (.bool (l.any p))∧Below w.heap.size w w':=by
 have HV:=Lib.hid hv
 have HPP:=Lib.hid hp
 clear hp hv
 go_enter Tryz.func68,Tryz.ntmps68
 go_wp2_with (go_at_call 93;refine (indexFuncI v l p g lb eg _ HV.out HPP.out).mono ?_;rintro e w1 ⟨i,rfl,hi,hb1⟩;have HI:=Lib.hid hi;clear hi)
 go_ret
 exact ⟨ret_bool HI.out,hb1⟩
set_option maxRecDepth 100000 in
set_option maxHeartbeats 1000000 in
theorem sub1_any (z1 z2 z3 z4 xa ya:Option Addr) (y1 y2 y3 y4 xc yc:Nat) (qa qb:Per) (st g:Int) (mb pb:Nat) (n:Int) (w:World) (hbx:Bxx w pb #[.slice z1 qa.head.length y1,.int .i64 qa.frm,.int .i64 qa.period,.slice z2 qa.cycle.length y2,.slice z3 qb.head.length y3,.int .i64 qb.frm,.int .i64 qb.period,.slice z4 qb.cycle.length y4,.int .i64 st,.slice xa (isort (cycL qa st)).length xc,.slice ya (isort (cycL qb st)).length yc,.int .i64 g,.map (some mb)] 62)
  (hP:PairAt w (.slice z1 qa.head.length y1) (.slice z2 qa.cycle.length y2) (.slice z3 qb.head.length y3) (.slice z4 qb.cycle.length y4) qa qb st (.slice xa (isort (cycL qa st)).length xc) (.slice ya (isort (cycL qb st)).length yc) g mb)
  (hg:1≤g) (hg1:g≤562949953421312) (hn:0≤n) (hn1:n≤9007199254740992) (hp:1≤qb.period) (hp1:qb.period≤562949953421312) :
  Calls Tryz.prog 69 #[.int .i64 n,.pointer (some ⟨pb,0,none⟩)] w fun e w'=>e=.returned (.bool (!fullB (isort (cycL qb st)) g qb.period n))∧Below w.heap.size w w':=by
 have HP:=Lib.hid hP
 clear hP
 have q0:w.cell? ⟨pb,0,none⟩=some (.slice z1 qa.head.length y1):=(hbx.cells 0).1
 have q1:w.cell? ⟨pb,1,none⟩=some (.int .i64 qa.frm):=(hbx.cells 1).1
 have q2:w.cell? ⟨pb,2,none⟩=some (.int .i64 qa.period):=(hbx.cells 2).1
 have q3:w.cell? ⟨pb,3,none⟩=some (.slice z2 qa.cycle.length y2):=(hbx.cells 3).1
 have q4:w.cell? ⟨pb,4,none⟩=some (.slice z3 qb.head.length y3):=(hbx.cells 4).1
 have q5:w.cell? ⟨pb,5,none⟩=some (.int .i64 qb.frm):=(hbx.cells 5).1
 have q6:w.cell? ⟨pb,6,none⟩=some (.int .i64 qb.period):=(hbx.cells 6).1
 have q7:w.cell? ⟨pb,7,none⟩=some (.slice z4 qb.cycle.length y4):=(hbx.cells 7).1
 have q8:w.cell? ⟨pb,8,none⟩=some (.int .i64 st):=(hbx.cells 8).1
 have q9:w.cell? ⟨pb,9,none⟩=some (.slice xa (isort (cycL qa st)).length xc):=(hbx.cells 9).1
 have q10:w.cell? ⟨pb,10,none⟩=some (.slice ya (isort (cycL qb st)).length yc):=(hbx.cells 10).1
 have q11:w.cell? ⟨pb,11,none⟩=some (.int .i64 g):=(hbx.cells 11).1
 have q12:w.cell? ⟨pb,12,none⟩=some (.map (some mb)):=(hbx.cells 12).1
 clear hbx
 cases hf:fullB (isort (cycL qb st)) g qb.period n
 all_goals
  have HF:=Lib.hid hf
  clear hf
  go_enter Tryz.func69,Tryz.ntmps69
  go_wp2_with (go_at_call 67;refine (full_any _ _ _ _ qa qb st _ _ g mb n _ (HP.out.ext (by (repeat' (with_reducible first|assumption|apply Er|apply Ea|apply Ed|apply En|(refine Es ?_ (by first|(simp<;>omega)|omega) _)|refine Et ?_ (by assumption))))) hg hg1 hn hn1 hp hp1).mono ?_;rintro e w1 ⟨he,hb1⟩;rw [HF.out] at he;subst he)
  go_ret
  exact ⟨rfl,hb1⟩
theorem sub1_pred (z1 z2 z3 z4 xa ya:Option Addr) (y1 y2 y3 y4 xc yc:Nat) (qa qb:Per) (st g:Int) (mb pb:Nat) (l:List Int) (w:World) (hbx:Bxx w pb #[.slice z1 qa.head.length y1,.int .i64 qa.frm,.int .i64 qa.period,.slice z2 qa.cycle.length y2,.slice z3 qb.head.length y3,.int .i64 qb.frm,.int .i64 qb.period,.slice z4 qb.cycle.length y4,.int .i64 st,.slice xa (isort (cycL qa st)).length xc,.slice ya (isort (cycL qb st)).length yc,.int .i64 g,.map (some mb)] 62)
  (hP:PairAt w (.slice z1 qa.head.length y1) (.slice z2 qa.cycle.length y2) (.slice z3 qb.head.length y3) (.slice z4 qb.cycle.length y4) qa qb st (.slice xa (isort (cycL qa st)).length xc) (.slice ya (isort (cycL qb st)).length yc) g mb)
  (hg:1≤g) (hg1:g≤562949953421312) (hl:∀ x∈l,0≤x∧x≤9007199254740992) (hp:1≤qb.period) (hp1:qb.period≤562949953421312) :
  PredI 69 #[.pointer (some ⟨pb,0,none⟩)] l (fun r=>!fullB (isort (cycL qb st)) g qb.period r) w:=fun W x hW hx=>by
 have h:=sub1_any z1 z2 z3 z4 xa ya y1 y2 y3 y4 xc yc qa qb st g mb pb x W (hbx.below hW) (hP.ext hW) hg hg1 (hl x hx).1 (hl x hx).2 hp hp1
 have e:(#[Value.int .i64 x] ++ #[Value.pointer (some ⟨pb,0,none⟩)])=#[.int .i64 x,.pointer (some ⟨pb,0,none⟩)]:=by simp
 rw [e];exact h.mono fun e w' ⟨he,hb⟩=>⟨he,hW.trans (hb.mono hW.size)⟩
set_option maxRecDepth 100000 in
set_option maxHeartbeats 4000000 in
theorem subset_ok (h1 c1 h2 c2:Value) (p1 p2 qa qb:Per) (b:Bool) (w:World) (hp1:PerIs w h1 c1 p1) (hp2:PerIs w h2 c2 p2) (hv1:Valid p1) (hv2:Valid p2) (hqa:IsCanon qa p1.mem) (hqb:IsCanon qb p2.mem)
  (hcn:belowI qa (max (max qa.frm qb.frm) 0)≤1048576) (hb:b=true↔∀ n,p1.mem n→p2.mem n) :
  Calls Tryz.prog 34 #[perV h1 c1 p1.frm p1.period,perV h2 c2 p2.frm p2.period] w fun e w'=>e=.returned (.bool b)∧Below w.heap.size w w':=by
 obtain ⟨a1,m1,a2,m2,rfl,rfl⟩:=hp1.inn.form
 obtain ⟨a3,m3,a4,m4,rfl,rfl⟩:=hp2.inn.form
 have hl1:∀ W,Below w.heap.size w W→PerIs W (.slice a1 p1.head.length m1) (.slice a2 p1.cycle.length m2) p1:=fun W hb=>hp1.ext hb
 have hl2:∀ W,Below w.heap.size w W→PerIs W (.slice a3 p2.head.length m3) (.slice a4 p2.cycle.length m4) p2:=fun W hb=>hp2.ext hb
 have hvb1:=(validB_iff p1).2 hv1
 have hvb2:=(validB_iff p2).2 hv2
 have HV1:=Lib.hid hv1
 have HV2:=Lib.hid hv2
 have HQA:=Lib.hid hqa
 have HQB:=Lib.hid hqb
 have HF1:Hid (p1.frm≤562949953421312∧p1.period≤562949953421312):=by have:=hv1.frm;have:=hv1.per;exact Lib.hid (by omega)
 have HF2:Hid (p2.frm≤562949953421312∧p2.period≤562949953421312):=by have:=hv2.frm;have:=hv2.per;exact Lib.hid (by omega)
 obtain ⟨b1,b2,_,b4,b5⟩:=hqa.smaller hv1.wf
 obtain ⟨d1,d2,_,d4,d5⟩:=hqb.smaller hv2.wf
 have za0:=hqa.wf.frm
 have zb0:=hqb.wf.frm
 have za1:=hqa.wf.per
 have zb1:=hqb.wf.per
 have e1:=hv1.frm
 have e2:=hv1.per
 have e3:=hv2.frm
 have e4:=hv2.per
 have hgl:=gcd_bound (b:=qb.period) za1
 have hgl2:=gcd_bound2 (a:=qa.period) zb1
 clear hp1 hp2 hv1 hv2 hqa hqb
 obtain ⟨st,hst⟩:∃ st,st=max (max qa.frm qb.frm) 0:=⟨_,rfl⟩
 have HSTT:=Lib.hid hst
 have hs1:qa.frm≤st:=by omega
 have hs2:qb.frm≤st:=by omega
 have hs3:st≤1099511627776:=by omega
 have hs0:0≤st:=by omega
 generalize hG:((Int.gcd qa.period qb.period:Nat):Int)=g at *
 have HG:=Lib.hid hG
 clear hst hG
 rw [← HSTT.out] at hcn
 have hbb:=belowI_bound HQA.out.wf hs0
 obtain ⟨N,hN⟩:∃ N,N=belowI qa st:=⟨_,rfl⟩
 obtain ⟨HL,hHL⟩:∃ HL,HL=sel (fun n=>qa.mem n∧qb.mem n) 0 st:=⟨_,rfl⟩
 have hcl:(HL.length:Int)≤st:=by
  have:=(sel_rise (S:=fun n=>qa.mem n∧qb.mem n) (lo:=0) (hi:=st) (Int.le_refl _)).length_le (by omega);rw [← hHL] at this;omega
 have hln:((HL.length:Int)=N)↔∀ n,0≤n→n<st→qa.mem n→qb.mem n:=by
  have h9:=belowI_sel HQA.out.wf (Int.le_refl 0) hs0
  have h8:belowI qa 0=0:=by rw [belowI_cnt' HQA.out.wf (Int.le_refl 0)];rfl
  rw [h8] at h9
  rw [← sel_and_len (S:=qa.mem) (T:=qb.mem) (Int.le_refl 0),← hHL,hN]
  omega
 have hbq:b=true↔(HL.length:Int)=N∧(isort (cycL qa st)).all (fun r=>fullB (isort (cycL qb st)) g qb.period r)=true:=by
  rw [hb,hln,← sub_iff HQA.out.wf HQB.out.wf hs1 hs2 HG.out.symm]
  exact ⟨fun h n hn=>(HQB.out.mem n).2 (h n ((HQA.out.mem n).1 hn)),fun h n hn=>(HQB.out.mem n).1 (h n ((HQA.out.mem n).2 hn))⟩
 have HBQ:=Lib.hid hbq
 have HHL:=Lib.hid hHL
 have HN:=Lib.hid hN
 rw [← hN] at hcn hbb
 have hxr:=res_rise HQA.out.wf hs1
 have HXR:=Lib.hid hxr
 clear hb hbq hln hHL hN hxr
 have hwN:decide (N≤1048576)=true:=by simp;omega
 go_enter Tryz.func34,Tryz.ntmps34
 go_upto_region 3 with (go_at_call 15;first|((with_reducible refine (valid_any _ _ p1 _ (hl1 _ (by (repeat' (with_reducible first|assumption|apply Er|apply Ea|apply Ed|apply En|(refine Es ?_ (by first|(simp<;>omega)|omega) _)|refine Et ?_ (by assumption)))))).mono ?_);rintro e w1 ⟨rfl,hb1⟩;obtain ⟨hx1,hf1⟩:=bcell hb1;(try simp only [World.size_alloc,World.size_drew,size_drewN,World.size_setCell] at hx1 hf1);have hz1:w.heap.size+1<w1.heap.size:=(by have h7:=hb1.size;simp at h7;omega))|((with_reducible refine (valid_any _ _ p2 _ (hl2 _ (by (repeat' (with_reducible first|assumption|apply Er|apply Ea|apply Ed|apply En|(refine Es ?_ (by first|(simp<;>omega)|omega) _)|refine Et ?_ (by assumption)))))).mono ?_);rintro e w2 ⟨rfl,hb2⟩;obtain ⟨hx2,hf2⟩:=bcell hb2;(try simp only [World.size_alloc,World.size_drew,size_drewN,World.size_setCell] at hx2 hf2);have hz2:w.heap.size+1<w2.heap.size:=(by have h7:=hb2.size;omega)))
 have hA:Bxx w2 w.heap.size #[.slice a1 p1.head.length m1,.int .i64 p1.frm,.int .i64 p1.period,.slice a2 p1.cycle.length m2] 24:=(((Bxx.at rfl).alloc _).upto hb1 (by simp;omega)).upto hb2 (by omega)
 have hB:Bxx w2 (w.heap.size+1) #[.slice a3 p2.head.length m3,.int .i64 p2.frm,.int .i64 p2.period,.slice a4 p2.cycle.length m4] 24:=((Bxx.at (by simp)).upto hb1 (by simp)).upto hb2 (by omega)
 have hE2:Below w.heap.size w w2:=by (repeat' (with_reducible first|assumption|apply Er|apply Ea|apply Ed|apply En|(refine Es ?_ (by first|(simp<;>omega)|omega) _)|refine Et ?_ (by assumption)))
 clear hb1 hb2 hx1 hf1 hx2 hf2 hz1 hz2
 have A0:w2.cell? ⟨w.heap.size,0,none⟩=some (.slice a1 p1.head.length m1):=(hA.cells 0).1
 have A1:w2.cell? ⟨w.heap.size,1,none⟩=some (.int .i64 p1.frm):=(hA.cells 1).1
 have A2:w2.cell? ⟨w.heap.size,2,none⟩=some (.int .i64 p1.period):=(hA.cells 2).1
 have A3:w2.cell? ⟨w.heap.size,3,none⟩=some (.slice a2 p1.cycle.length m2):=(hA.cells 3).1
 have B0:w2.cell? ⟨w.heap.size+1,0,none⟩=some (.slice a3 p2.head.length m3):=(hB.cells 0).1
 have B1:w2.cell? ⟨w.heap.size+1,1,none⟩=some (.int .i64 p2.frm):=(hB.cells 1).1
 have B2:w2.cell? ⟨w.heap.size+1,2,none⟩=some (.int .i64 p2.period):=(hB.cells 2).1
 have B3:w2.cell? ⟨w.heap.size+1,3,none⟩=some (.slice a4 p2.cycle.length m4):=(hB.cells 3).1
 go_upto_region 4 with (go_at_call 58;refine (newPair_any _ _ _ _ p1 p2 qa qb 0 _ (hl1 _ hE2) (hl2 _ hE2) HV1.out.wf HV2.out.wf HF1.out.1 HF2.out.1 HF1.out.2 HF2.out.2 HQA.out HQB.out (by omega) (by omega)).mono ?_;rintro e w5 ⟨x1,x2,x3,x4,xv,yv,mb,he,hP,hb5⟩;rw [← HSTT.out,HG.out] at he;rw [← HSTT.out] at hP;subst he;obtain ⟨z1,y1,z2,y2,rfl,rfl⟩:=hP.a.form;obtain ⟨z3,y3,z4,y4,rfl,rfl⟩:=hP.b.form;obtain ⟨⟨⟨xa,xc,rfl,_⟩,hxl,_⟩,_⟩:=hP.x;obtain ⟨⟨⟨ya,yc,rfl,_⟩,hyl,_⟩,_⟩:=hP.y)
 have hEb:=hE2.trans (hb5.mono (by have:=hE2.size;omega))
 generalize hpbw:w5.heap.size=pb at *
 have hszc:w.heap.size≤pb:=by have:=hEb.size;omega
 refine wp_abs (F:=fun W3=>Bxx W3 pb #[.slice z1 qa.head.length y1,.int .i64 qa.frm,.int .i64 qa.period,.slice z2 qa.cycle.length y2,.slice z3 qb.head.length y3,.int .i64 qb.frm,.int .i64 qb.period,.slice z4 qb.cycle.length y4,.int .i64 st,.slice xa (isort (cycL qa st)).length xc,.slice ya (isort (cycL qb st)).length yc,.int .i64 g,.map (some mb)] 62∧PairAt W3 (.slice z1 qa.head.length y1) (.slice z2 qa.cycle.length y2) (.slice z3 qb.head.length y3) (.slice z4 qb.cycle.length y4) qa qb st (.slice xa (isort (cycL qa st)).length xc) (.slice ya (isort (cycL qb st)).length yc) g mb∧Below w.heap.size w W3)
  ⟨Bxx.at hpbw.symm,by rw [← HG.out];exact (hP.below (Ea (Er w5) _) (by omega)).at,Ea hEb _⟩ ?_
 clear hP hEb hb5 hA hB A0 A1 A2 A3 B0 B1 B2 B3 hE2 hpbw hvb1 hvb2
 rintro W5 ⟨hpb,hPA,hE5⟩
 have hpbl:=hpb.lt
 have HPA:=Lib.hid hPA
 have HPB:=Lib.hid hpb
 have HE5:=Lib.hid hE5
 have c0:W5.cell? ⟨pb,0,none⟩=some (.slice z1 qa.head.length y1):=(hpb.cells 0).1
 have c1:W5.cell? ⟨pb,1,none⟩=some (.int .i64 qa.frm):=(hpb.cells 1).1
 have c2:W5.cell? ⟨pb,2,none⟩=some (.int .i64 qa.period):=(hpb.cells 2).1
 have c3:W5.cell? ⟨pb,3,none⟩=some (.slice z2 qa.cycle.length y2):=(hpb.cells 3).1
 have c4:W5.cell? ⟨pb,4,none⟩=some (.slice z3 qb.head.length y3):=(hpb.cells 4).1
 have c5:W5.cell? ⟨pb,5,none⟩=some (.int .i64 qb.frm):=(hpb.cells 5).1
 have c6:W5.cell? ⟨pb,6,none⟩=some (.int .i64 qb.period):=(hpb.cells 6).1
 have c7:W5.cell? ⟨pb,7,none⟩=some (.slice z4 qb.cycle.length y4):=(hpb.cells 7).1
 have c8:W5.cell? ⟨pb,8,none⟩=some (.int .i64 st):=(hpb.cells 8).1
 have c9:W5.cell? ⟨pb,9,none⟩=some (.slice xa (isort (cycL qa st)).length xc):=(hpb.cells 9).1
 have c10:W5.cell? ⟨pb,10,none⟩=some (.slice ya (isort (cycL qb st)).length yc):=(hpb.cells 10).1
 have c11:W5.cell? ⟨pb,11,none⟩=some (.int .i64 g):=(hpb.cells 11).1
 have c12:W5.cell? ⟨pb,12,none⟩=some (.map (some mb)):=(hpb.cells 12).1
 clear hpb hPA hE5
 have armB:True:=trivial
 by_cases heq:(HL.length:Int)=N
 ·have hdq:((HL.length:Int) == N)=true:=by simp [heq]
  have HEQ:=Lib.hid heq
  clear heq
  cases hall:(isort (cycL qa st)).any (fun r=>!fullB (isort (cycL qb st)) g qb.period r)
  all_goals
   have HALL:=Lib.hid hall
   clear hall
   go_wp2_with (first|(go_at_call 47;refine (below_any _ _ qa st _ (HPA.out.a.ext (by (repeat' (with_reducible first|assumption|apply Er|apply Ea|apply Ed|apply En|(refine Es ?_ (by first|(simp<;>omega)|omega) _)|refine Et ?_ (by assumption))))) HQA.out.wf (by omega) (by omega) (by omega) (by omega)).mono ?_;rintro e w6 ⟨he,hb6⟩;rw [← HN.out] at he;subst he;obtain ⟨hx6,hf6⟩:=bcell hb6;(try simp only [World.size_alloc,World.size_drew,size_drewN,World.size_setCell] at hx6 hf6);have hz6:pb<w6.heap.size:=(by have h7:=hb6.size;omega))|(go_at_call 59;refine (heads_any _ _ _ _ qa qb st _ _ g mb _ (HPA.out.ext (by (repeat' (with_reducible first|assumption|apply Er|apply Ea|apply Ed|apply En|(refine Es ?_ (by first|(simp<;>omega)|omega) _)|refine Et ?_ (by assumption))))) HQA.out.wf HQB.out.wf (by have:=HSTT.out;omega) (by omega) (by omega) (by omega) (by omega)).mono ?_;rintro e w7 ⟨hv,rfl,hown7,hb7⟩;rw [← HHL.out] at hown7;obtain ⟨hva,hvc,rfl⟩:=hown7.form;clear hown7;obtain ⟨hx7,hf7⟩:=bcell hb7;(try simp only [World.size_alloc,World.size_drew,size_drewN,World.size_setCell] at hx7 hf7);have hz7:pb<w7.heap.size:=(by have h7:=hb7.size;omega))|(go_at_call 68;refine (containsFuncI _ (isort (cycL qa st)) (fun r=>!fullB (isort (cycL qb st)) g qb.period r) _ _ (enters_of Tryz.func69 (by kernel_rfl) rfl) _ (HPA.out.x.ext (by (repeat' (with_reducible first|assumption|apply Er|apply Ea|apply Ed|apply En|(refine Es ?_ (by first|(simp<;>omega)|omega) _)|refine Et ?_ (by assumption))))) (sub1_pred z1 z2 z3 z4 xa ya y1 y2 y3 y4 xc yc qa qb st g mb pb _ _ (HPB.out.below (by (repeat' (with_reducible first|assumption|apply Er|apply Ea|apply Ed|apply En|(refine Es ?_ (by first|(simp<;>omega)|omega) _)|refine Et ?_ (by assumption))))) (HPA.out.ext (by (repeat' (with_reducible first|assumption|apply Er|apply Ea|apply Ed|apply En|(refine Es ?_ (by first|(simp<;>omega)|omega) _)|refine Et ?_ (by assumption))))) (by omega) (by omega) (fun x hx=>by have:=HXR.out.2 x hx;omega) (by omega) (by omega))).mono ?_;rintro e w8 ⟨he,hb8⟩;rw [HALL.out] at he;subst he))
   go_ret
   refine ⟨ret_bool ?_,by have hE5:=HE5.out;(repeat' (with_reducible first|assumption|apply Er|apply Ea|apply Ed|apply En|(refine Es ?_ (by first|(simp<;>omega)|omega) _)|refine Et ?_ (by assumption)))⟩
   have hbq:=HBQ.out
   have hal:=HALL.out
   cases b
   all_goals first
    | rfl
    | (exfalso;first
     | (have h8:=hbq.2 ⟨HEQ.out,by rw [List.all_eq_true];intro r hr;have h9:=List.any_eq_false.1 hal r hr;simpa using h9⟩;cases h8)
     | (have h8:=(hbq.1 rfl).2;rw [List.any_eq_true] at hal;obtain ⟨r,hr,h9⟩:=hal;have h7:=List.all_eq_true.1 h8 r hr;simp [h7] at h9))
 ·have hdq:((HL.length:Int) == N)=false:=by simp [heq]
  have HEQ:=Lib.hid heq
  clear heq
  go_wp2_with (first|(go_at_call 47;refine (below_any _ _ qa st _ (HPA.out.a.ext (by (repeat' (with_reducible first|assumption|apply Er|apply Ea|apply Ed|apply En|(refine Es ?_ (by first|(simp<;>omega)|omega) _)|refine Et ?_ (by assumption))))) HQA.out.wf (by omega) (by omega) (by omega) (by omega)).mono ?_;rintro e w6 ⟨he,hb6⟩;rw [← HN.out] at he;subst he;obtain ⟨hx6,hf6⟩:=bcell hb6;(try simp only [World.size_alloc,World.size_drew,size_drewN,World.size_setCell] at hx6 hf6);have hz6:pb<w6.heap.size:=(by have h7:=hb6.size;omega))|(go_at_call 59;refine (heads_any _ _ _ _ qa qb st _ _ g mb _ (HPA.out.ext (by (repeat' (with_reducible first|assumption|apply Er|apply Ea|apply Ed|apply En|(refine Es ?_ (by first|(simp<;>omega)|omega) _)|refine Et ?_ (by assumption))))) HQA.out.wf HQB.out.wf (by have:=HSTT.out;omega) (by omega) (by omega) (by omega) (by omega)).mono ?_;rintro e w7 ⟨hv,rfl,hown7,hb7⟩;rw [← HHL.out] at hown7;obtain ⟨hva,hvc,rfl⟩:=hown7.form;clear hown7;obtain ⟨hx7,hf7⟩:=bcell hb7;(try simp only [World.size_alloc,World.size_drew,size_drewN,World.size_setCell] at hx7 hf7);have hz7:pb<w7.heap.size:=(by have h7:=hb7.size;omega)))
  go_ret
  refine ⟨ret_bool ?_,by have hE5:=HE5.out;(repeat' (with_reducible first|assumption|apply Er|apply Ea|apply Ed|apply En|(refine Es ?_ (by first|(simp<;>omega)|omega) _)|refine Et ?_ (by assumption)))⟩
  have hbq:=HBQ.out
  cases b
  ·rfl
  ·exact absurd (hbq.1 rfl).1 HEQ.out
end Go.Proofs.YtjilkhhokkncoaaGreat
