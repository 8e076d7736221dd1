/- Walks: Subset, Same (package kalendsref04). -/
import Derived.Test.YtjilkhhokkncoaaGreatMWalkCo
import Derived.Test.YtjilkhhokkncoaaGreatMWalkCm
set_option linter.unusedVariables false
set_option linter.unusedSimpArgs false
namespace Go.Proofs.YtjilkhhokkncoaaGreat
open Go.RowKit Go.Maps Kal
theorem ops_pf {qa qb:Per} (ha:qa.WF) (hb:qb.WF) (op:Int):PFrom (opS op qa.mem qb.mem) (max qa.frm qb.frm) (lcmI qa.period qb.period):=by
 have a1:=ha.per
 have b1:=hb.per
 have hl:=lcmI_pos a1 b1
 exact ((ha.pfrom.mono (show qa.frm≤max qa.frm qb.frm by omega)).of_dvd a1 hl lcmI_dvd_left).op ((hb.pfrom.mono (show qb.frm≤max qa.frm qb.frm by omega)).of_dvd b1 hl lcmI_dvd_right) (fun a b=>if op=0 then a∧b else if op=1 then a∨b else a∧¬ b) (fun n _=>Iff.rfl) (by omega)
theorem sel_empty {U:Int→Prop} {lo hi:Int} (h0:0≤lo) (h:∀ n,¬ U n):sel U lo hi=[]:=by
 cases e:sel U lo hi with
 | nil=>rfl
 | cons x l=>
  have:=(sel_mem h0 x).1 (show x∈sel U lo hi by rw [e];simp)
  exact absurd this.2.2 (h x)
set_option maxRecDepth 100000 in
set_option maxHeartbeats 4000000 in
theorem RSubset_ok (h1 c1 h2 c2:Value) (p1 p2 qa qb:Per) (b:Bool) (w:World) (hp1:PerIs w h1 c1 p1) (hp2:PerIs w h2 c2 p2) (hv1:Valid p1) (hv2:Valid p2) (hqa:IsCanon qa p1.mem) (hqb:IsCanon qb p2.mem) (hlc:lcmI qa.period qb.period≤1099511627776)
  (hb:b=true↔∀ n,p1.mem n→p2.mem n) :
  Calls Tryz.prog 35 #[perV h1 c1 p1.frm p1.period,perV h2 c2 p2.frm p2.period] w fun e w'=>e=.returned (.bool b)∧Below w.heap.size w w':=by
 have HBB:=Lib.hid hb
 have hpf:=ops_pf hqa.wf hqb.wf 2
 clear hb
 obtain ⟨a1,m1,a2,m2,rfl,rfl⟩:=hp1.inn.form
 obtain ⟨a3,m3,a4,m4,rfl,rfl⟩:=hp2.inn.form
 have hl1:∀ W,Below w.heap.size w W→PerIs W (.slice a1 p1.head.length m1) (.slice a2 p1.cycle.length m2) p1:=fun W hb=>hp1.ext hb
 have hl2:∀ W,Below w.heap.size w W→PerIs W (.slice a3 p2.head.length m3) (.slice a4 p2.cycle.length m4) p2:=fun W hb=>hp2.ext hb
 have HV1:=Lib.hid hv1
 have HV2:=Lib.hid hv2
 have HQA:=Lib.hid hqa
 have HQB:=Lib.hid hqb
 obtain ⟨b1,b2,_,b4,b5⟩:=hqa.smaller hv1.wf
 obtain ⟨d1,d2,_,d4,d5⟩:=hqb.smaller hv2.wf
 have za0:=hqa.wf.frm
 have zb0:=hqb.wf.frm
 have za1:=hqa.wf.per
 have zb1:=hqb.wf.per
 have e1:=hv1.frm
 have e2:=hv1.per
 have e3:=hv2.frm
 have e4:=hv2.per
 have HVA:Hid (∀ W,Below w.heap.size w W→Calls Tryz.prog 16 #[.agg #[.slice a1 p1.head.length m1,.int .i64 p1.frm,.int .i64 p1.period,.slice a2 p1.cycle.length m2]] W fun e w'=>e=.returned (.bool true)∧Below W.heap.size W w'):=Lib.hid (fun W hb=>by
  have h:=RValid_any _ _ p1 W (hl1 W hb) ⟨by have:=hv1.wf.frm;omega,by omega⟩ ⟨by have:=hv1.wf.per;omega,by omega⟩
  rw [(validB_iff p1).2 hv1] at h;exact h)
 have HVB:Hid (∀ W,Below w.heap.size w W→Calls Tryz.prog 16 #[.agg #[.slice a3 p2.head.length m3,.int .i64 p2.frm,.int .i64 p2.period,.slice a4 p2.cycle.length m4]] W fun e w'=>e=.returned (.bool true)∧Below W.heap.size W w'):=Lib.hid (fun W hb=>by
  have h:=RValid_any _ _ p2 W (hl2 W hb) ⟨by have:=hv2.wf.frm;omega,by omega⟩ ⟨by have:=hv2.wf.per;omega,by omega⟩
  rw [(validB_iff p2).2 hv2] at h;exact h)
 obtain ⟨st,hst⟩:∃ st,st=max qa.frm qb.frm:=⟨_,rfl⟩
 obtain ⟨L,hL⟩:∃ L,L=lcmI qa.period qb.period:=⟨_,rfl⟩
 have hL0:1≤L:=by rw [hL];exact lcmI_pos za1 zb1
 have hst0:0≤st:=by omega
 have hst1:st≤1099511627776:=by omega
 have HCO:Hid (∀ W,Below w.heap.size w W→Calls Tryz.prog 63 #[.agg #[.slice a1 p1.head.length m1,.int .i64 p1.frm,.int .i64 p1.period,.slice a2 p1.cycle.length m2],.agg #[.slice a3 p2.head.length m3,.int .i64 p2.frm,.int .i64 p2.period,.slice a4 p2.cycle.length m4]] W
   fun e w'=>∃ x1 x2 x3 x4:Value,e=.returned (.tuple #[perV x1 x2 qa.frm qa.period,perV x3 x4 qb.frm qb.period,.int .i64 st,.int .i64 L])∧POx w' W.heap.size x1 x2 qa∧POx w' W.heap.size x3 x4 qb∧Below W.heap.size W w'):=Lib.hid (fun W hb=>by
  have h:=Rcommon_ok _ _ _ _ p1 p2 qa qb W (hl1 W hb) (hl2 W hb) hv1 hv2 hqa hqb hlc
  rw [hst,hL];exact h)
 have hlL:L≤1099511627776:=by rw [hL];exact hlc
 have HST:=Lib.hid hst
 have HLL:=Lib.hid hL
 have hqfa:qa.frm≤1125899906842624:=by omega
 have hqfb:qb.frm≤1125899906842624:=by omega
 have hqpa:qa.period≤1125899906842624:=by omega
 have hqpb:qb.period≤1125899906842624:=by omega
 clear hp1 hp2 hv1 hv2 hqa hqb hst hL hlc
 rw [← HST.out,← HLL.out] at hpf
 obtain ⟨X,hX⟩:∃ X,X=sel (opS 2 qa.mem qb.mem) 0 (st+L):=⟨_,rfl⟩
 have hXl:(X.length:Int)≤st+L:=by rw [hX];have:=(sel_rise (S:=opS 2 qa.mem qb.mem) (lo:=0) (hi:=st+L) (Int.le_refl _)).length_le (by omega);omega
 have hXb:((X.length:Int) == 0)=b:=by
  rw [len_eq0,Bool.eq_iff_iff,decide_eq_true_eq,HBB.out,hX]
  constructor
  ·intro h n hn
   have h2:=sel_none (Int.le_refl 0) hL0 hpf (by rw [show max st 0+L=st+L from by omega];exact h) n hn.1
   rw [opS_minus] at h2
   exact (HQB.out.mem n).1 (Classical.byContradiction fun g=>h2 ⟨(HQA.out.mem n).2 hn,g⟩)
  ·intro h
   refine sel_empty (Int.le_refl 0) fun n hn=>?_
   rw [opS_minus] at hn
   exact hn.2 ((HQB.out.mem n).2 (h n ((HQA.out.mem n).1 hn.1)))
 have HXB:=Lib.hid hXb
 have HX:Hid (combR 2 (sel qa.mem 0 (st+L)) (sel qb.mem 0 (st+L))=X):=Lib.hid (by rw [hX];exact comb_sel (by omega) (Int.le_refl 0))
 have hA9:(sel qa.mem 0 (st+L)).length+(sel qb.mem 0 (st+L)).length≤8796093022208:=by
  have h1:=(sel_rise (S:=qa.mem) (lo:=0) (hi:=st+L) (Int.le_refl _)).length_le (by omega)
  have h2:=(sel_rise (S:=qb.mem) (lo:=0) (hi:=st+L) (Int.le_refl _)).length_le (by omega)
  omega
 have HA9:=Lib.hid hA9
 clear hpf hX hXb hA9
 go_enter Tryz.func35,Tryz.ntmps35
 go_upto_region 3 with (go_at_call 16;first|((with_reducible refine (HVA.out _ (by (repeat' (with_reducible first|assumption|apply Er|apply Ea|apply Ed|apply En|(refine Es ?_ (by first|(simp<;>omega)|omega) _)|refine Et ?_ (by assumption))))).mono ?_);rintro e w1 ⟨rfl,hb1⟩;obtain ⟨hx1,hf1⟩:=bcell hb1;(try simp only [World.size_alloc,World.size_drew,size_drewN,World.size_setCell] at hx1 hf1);have hz1:w.heap.size+1<w1.heap.size:=(by have h7:=hb1.size;simp at h7;omega))|((with_reducible refine (HVB.out _ (by (repeat' (with_reducible first|assumption|apply Er|apply Ea|apply Ed|apply En|(refine Es ?_ (by first|(simp<;>omega)|omega) _)|refine Et ?_ (by assumption))))).mono ?_);rintro e w2 ⟨rfl,hb2⟩;obtain ⟨hx2,hf2⟩:=bcell hb2;(try simp only [World.size_alloc,World.size_drew,size_drewN,World.size_setCell] at hx2 hf2);have hz2:w.heap.size+1<w2.heap.size:=(by have h7:=hb2.size;omega)))
 have hA:Bxx w2 w.heap.size #[.slice a1 p1.head.length m1,.int .i64 p1.frm,.int .i64 p1.period,.slice a2 p1.cycle.length m2] 24:=(((Bxx.at rfl).alloc _).upto hb1 (by simp;omega)).upto hb2 (by omega)
 have hB:Bxx w2 (w.heap.size+1) #[.slice a3 p2.head.length m3,.int .i64 p2.frm,.int .i64 p2.period,.slice a4 p2.cycle.length m4] 24:=((Bxx.at (by simp)).upto hb1 (by simp)).upto hb2 (by omega)
 have hE2:Below w.heap.size w w2:=by (repeat' (with_reducible first|assumption|apply Er|apply Ea|apply Ed|apply En|(refine Es ?_ (by first|(simp<;>omega)|omega) _)|refine Et ?_ (by assumption)))
 skip
 clear hb1 hb2 hx1 hf1 hx2 hf2 hz1
 have A0:w2.cell? ⟨w.heap.size,0,none⟩=some (.slice a1 p1.head.length m1):=(hA.cells 0).1
 have A1:w2.cell? ⟨w.heap.size,1,none⟩=some (.int .i64 p1.frm):=(hA.cells 1).1
 have A2:w2.cell? ⟨w.heap.size,2,none⟩=some (.int .i64 p1.period):=(hA.cells 2).1
 have A3:w2.cell? ⟨w.heap.size,3,none⟩=some (.slice a2 p1.cycle.length m2):=(hA.cells 3).1
 have B0:w2.cell? ⟨w.heap.size+1,0,none⟩=some (.slice a3 p2.head.length m3):=(hB.cells 0).1
 have B1:w2.cell? ⟨w.heap.size+1,1,none⟩=some (.int .i64 p2.frm):=(hB.cells 1).1
 have B2:w2.cell? ⟨w.heap.size+1,2,none⟩=some (.int .i64 p2.period):=(hB.cells 2).1
 have B3:w2.cell? ⟨w.heap.size+1,3,none⟩=some (.slice a4 p2.cycle.length m4):=(hB.cells 3).1
 go_upto_region 4 with (go_at_call 63;(with_reducible refine (HCO.out _ (by (repeat' (with_reducible first|assumption|apply Er|apply Ea|apply Ed|apply En|(refine Es ?_ (by first|(simp<;>omega)|omega) _)|refine Et ?_ (by assumption))))).mono ?_);rintro e w3 ⟨x1,x2,x3,x4,rfl,ho1,ho2,hb3⟩;obtain ⟨a5,m5,a6,m6,rfl,rfl⟩:=ho1.form;obtain ⟨a7,m7,a8,m8,rfl,rfl⟩:=ho2.form)
 have hz2a:w.heap.size+1<w2.heap.size:=hz2
 have hzz3:=hb3.size
 generalize hbA:w3.heap.size=bA at *
 refine wp_abs (F:=fun U=>Bxx U bA #[.slice a5 qa.head.length m5,.int .i64 qa.frm,.int .i64 qa.period,.slice a6 qa.cycle.length m6] 24∧Bxx U (bA+1) #[.slice a7 qb.head.length m7,.int .i64 qb.frm,.int .i64 qb.period,.slice a8 qb.cycle.length m8] 24∧PerIs U (.slice a5 qa.head.length m5) (.slice a6 qa.cycle.length m6) qa∧PerIs U (.slice a7 qb.head.length m7) (.slice a8 qb.cycle.length m8) qb∧Below w.heap.size w U)
  ⟨(Bxx.at hbA.symm).alloc _,Bxx.at (by simp [hbA]),ho1.is.ext (by (repeat' (with_reducible first|assumption|apply Er|apply Ea|apply Ed|apply En|(refine Es ?_ (by first|(simp<;>omega)|omega) _)|refine Et ?_ (by assumption)))),ho2.is.ext (by (repeat' (with_reducible first|assumption|apply Er|apply Ea|apply Ed|apply En|(refine Es ?_ (by first|(simp<;>omega)|omega) _)|refine Et ?_ (by assumption)))),by (repeat' (with_reducible first|assumption|apply Er|apply Ea|apply Ed|apply En|(refine Es ?_ (by first|(simp<;>omega)|omega) _)|refine Et ?_ (by assumption)))⟩ ?_
 clear hA hB A0 A1 A2 A3 B0 B1 B2 B3 ho1 ho2 hb3 hbA hE2
 rintro W4 ⟨hqA,hqB,hpa,hpb,hE4⟩
 have HPA:=Lib.hid hpa
 have HPB:=Lib.hid hpb
 have HE4:=Lib.hid hE4
 have A0:W4.cell? ⟨bA,0,none⟩=some (.slice a5 qa.head.length m5):=(hqA.cells 0).1
 have A1:W4.cell? ⟨bA,1,none⟩=some (.int .i64 qa.frm):=(hqA.cells 1).1
 have A2:W4.cell? ⟨bA,2,none⟩=some (.int .i64 qa.period):=(hqA.cells 2).1
 have A3:W4.cell? ⟨bA,3,none⟩=some (.slice a6 qa.cycle.length m6):=(hqA.cells 3).1
 have B0:W4.cell? ⟨bA+1,0,none⟩=some (.slice a7 qb.head.length m7):=(hqB.cells 0).1
 have B1:W4.cell? ⟨bA+1,1,none⟩=some (.int .i64 qb.frm):=(hqB.cells 1).1
 have B2:W4.cell? ⟨bA+1,2,none⟩=some (.int .i64 qb.period):=(hqB.cells 2).1
 have B3:W4.cell? ⟨bA+1,3,none⟩=some (.slice a8 qb.cycle.length m8):=(hqB.cells 3).1
 have hlA:=hqA.lt
 have hlB:=hqB.lt
 clear hqA hqB hpa hpb hE4
 refine wp_region_facts (w0:=W4) [0,1,2,3,4,5,6,7,8,9,10,11,12] [13] (fun v=>⟨#[perV (.slice a1 p1.head.length m1) (.slice a2 p1.cycle.length m2) p1.frm p1.period,perV (.slice a3 p2.head.length m3) (.slice a4 p2.cycle.length m4) p2.frm p2.period,.pointer (some ⟨w.heap.size,0,none⟩),.pointer (some ⟨w.heap.size+1,0,none⟩),.bool false,.pointer (some ⟨bA,0,none⟩),.pointer (some ⟨bA+1,0,none⟩),.int .i64 st,.int .i64 L,.agg #[.slice a1 p1.head.length m1,.int .i64 p1.frm,.int .i64 p1.period,.slice a2 p1.cycle.length m2],.bool true,.bool false,.bool false,.agg #[.slice a3 p2.head.length m3,.int .i64 p2.frm,.int .i64 p2.period,.slice a4 p2.cycle.length m4],.bool true,.bool false,.bool false,.tuple #[perV (.slice a5 qa.head.length m5) (.slice a6 qa.cycle.length m6) qa.frm qa.period,perV (.slice a7 qb.head.length m7) (.slice a8 qb.cycle.length m8) qb.frm qb.period,.int .i64 st,.int .i64 L],.agg #[.slice a1 p1.head.length m1,.int .i64 p1.frm,.int .i64 p1.period,.slice a2 p1.cycle.length m2],.agg #[.slice a3 p2.head.length m3,.int .i64 p2.frm,.int .i64 p2.period,.slice a4 p2.cycle.length m4],.tuple #[perV (.slice a5 qa.head.length m5) (.slice a6 qa.cycle.length m6) qa.frm qa.period,perV (.slice a7 qb.head.length m7) (.slice a8 qb.cycle.length m8) qb.frm qb.period,.int .i64 st,.int .i64 L],perV (.slice a5 qa.head.length m5) (.slice a6 qa.cycle.length m6) qa.frm qa.period,perV (.slice a7 qb.head.length m7) (.slice a8 qb.cycle.length m8) qb.frm qb.period,.int .i64 st,.int .i64 L,v 0,v 1,v 2,v 3,v 4,v 5,v 6,v 7,v 8,v 9,v 10,v 11,v 12],[]⟩) (fun _=>undef)
  (fun i v lo hi W=>match i with
   | 0=>v 0=.agg #[.slice a5 qa.head.length m5,.int .i64 qa.frm,.int .i64 qa.period,.slice a6 qa.cycle.length m6]
   | 1=>v 1=.int .i64 st
   | 2=>v 2=.int .i64 L
   | 3=>v 3=.int .i64 (st+L)
   | 4=>Ints W (v 4) (sel qa.mem 0 (st+L))
   | 5=>v 5=.agg #[.slice a7 qb.head.length m7,.int .i64 qb.frm,.int .i64 qb.period,.slice a8 qb.cycle.length m8]
   | 6=>v 6=.int .i64 st
   | 7=>v 7=.int .i64 L
   | 8=>v 8=.int .i64 (st+L)
   | 9=>Ints W (v 9) (sel qb.mem 0 (st+L))
   | 10=>Ints W (v 10) X
   | 11=>v 11=.int .i64 (X.length:Int)
   | 12=>v 12=.bool b
   | _=>True)
  (fun W=>(W.cell? ⟨bA,0,none⟩=some (.slice a5 qa.head.length m5)∧W.cell? ⟨bA,1,none⟩=some (.int .i64 qa.frm)∧W.cell? ⟨bA,2,none⟩=some (.int .i64 qa.period)∧W.cell? ⟨bA,3,none⟩=some (.slice a6 qa.cycle.length m6))∧(W.cell? ⟨bA+1,0,none⟩=some (.slice a7 qb.head.length m7)∧W.cell? ⟨bA+1,1,none⟩=some (.int .i64 qb.frm)∧W.cell? ⟨bA+1,2,none⟩=some (.int .i64 qb.period)∧W.cell? ⟨bA+1,3,none⟩=some (.slice a8 qb.cycle.length m8))∧PerIs W (.slice a5 qa.head.length m5) (.slice a6 qa.cycle.length m6) qa∧PerIs W (.slice a7 qb.head.length m7) (.slice a8 qb.cycle.length m8) qb) rfl (by kernel_rfl) (by decide) rfl ?stab ?loc (fun W hb=>⟨⟨cux A0 hb,cux A1 hb,cux A2 hb,cux A3 hb⟩,⟨cux B0 hb,cux B1 hb,cux B2 hb,cux B3 hb⟩,HPA.out.ext hb,HPB.out.ext hb⟩) ?steps ?fin
 case stab=>
  rintro (_|_|_|_|_|_|_|_|_|_|_|_|_|i) v lo hi W W' h hb
  ·exact h
  ·exact h
  ·exact h
  ·exact h
  ·exact h.ext hb
  ·exact h
  ·exact h
  ·exact h
  ·exact h
  ·exact h.ext hb
  ·exact h.ext hb
  ·exact h
  ·exact h
  ·trivial
 case loc=>
  rintro (_|_|_|_|_|_|_|_|_|_|_|_|_|i) v v' lo lo' hi hi' W hag h
  ·exact (hag 0 (.inl rfl)).1 ▸ h
  ·exact (hag 1 (.inl rfl)).1 ▸ h
  ·exact (hag 2 (.inl rfl)).1 ▸ h
  ·exact (hag 3 (.inl rfl)).1 ▸ h
  ·have q:=hag 4 (.inl rfl)
   have q0:=hag 0 (.inr (Rdp (by kernel_rfl)))
   have q3:=hag 3 (.inr (Rdp (by kernel_rfl)))
   (try dsimp only at h ⊢);(try simp only [q.1,q.2.1,q.2.2,q0.1,q0.2.1,q0.2.2,q3.1,q3.2.1,q3.2.2] at h);exact h
  ·exact (hag 5 (.inl rfl)).1 ▸ h
  ·exact (hag 6 (.inl rfl)).1 ▸ h
  ·exact (hag 7 (.inl rfl)).1 ▸ h
  ·exact (hag 8 (.inl rfl)).1 ▸ h
  ·have q:=hag 9 (.inl rfl)
   have q4:=hag 4 (.inr (Rdp (by kernel_rfl)))
   have q5:=hag 5 (.inr (Rdp (by kernel_rfl)))
   have q8:=hag 8 (.inr (Rdp (by kernel_rfl)))
   (try dsimp only at h ⊢);(try simp only [q.1,q.2.1,q.2.2,q4.1,q4.2.1,q4.2.2,q5.1,q5.2.1,q5.2.2,q8.1,q8.2.1,q8.2.2] at h);exact h
  ·have q:=hag 10 (.inl rfl)
   have q4:=hag 4 (.inr (Rdp (by kernel_rfl)))
   have q9:=hag 9 (.inr (Rdp (by kernel_rfl)))
   (try dsimp only at h ⊢);(try simp only [q.1,q.2.1,q.2.2,q4.1,q4.2.1,q4.2.2,q9.1,q9.2.1,q9.2.2] at h);exact h
  ·exact (hag 11 (.inl rfl)).1 ▸ h
  ·exact (hag 12 (.inl rfl)).1 ▸ h
  ·trivial
 case steps=>
  refine SFx.cons rfl ?_ (SFx.cons rfl ?_ (SFx.cons rfl ?_ (SFx.cons rfl ?_ (SFx.cons rfl ?_ (SFx.cons rfl ?_ (SFx.cons rfl ?_ (SFx.cons rfl ?_ (SFx.cons rfl ?_ (SFx.cons rfl ?_ (SFx.cons rfl ?_ (SFx.cons rfl ?_ (SFx.cons rfl ?_ SFx.nil))))))))))))
  ·rintro v lo hi W hb ⟨⟨g0,g1,g2,g3⟩,⟨k0,k1,k2,k3⟩,hPa,hPb⟩ hd K hK
   clear hd
   dsimp only
   go_wp2_with fail
   exact acx (hK (.agg #[.slice a5 qa.head.length m5,.int .i64 qa.frm,.int .i64 qa.period,.slice a6 qa.cycle.length m6]) W (Below.refl _ _) rfl) (by simp)
  ·rintro v lo hi W hb ⟨⟨g0,g1,g2,g3⟩,⟨k0,k1,k2,k3⟩,hPa,hPb⟩ hd K hK
   clear hd
   dsimp only
   go_wp2_with fail
   exact acx (hK (.int .i64 st) W (Below.refl _ _) rfl) (by simp)
  ·rintro v lo hi W hb ⟨⟨g0,g1,g2,g3⟩,⟨k0,k1,k2,k3⟩,hPa,hPb⟩ hd K hK
   clear hd
   dsimp only
   go_wp2_with fail
   exact acx (hK (.int .i64 L) W (Below.refl _ _) rfl) (by simp)
  ·rintro v lo hi W hb ⟨⟨g0,g1,g2,g3⟩,⟨k0,k1,k2,k3⟩,hPa,hPb⟩ hd K hK
   have e1:v 1=.int .i64 st:=(hd 1 (Rdp (by kernel_rfl))).2.2
   have e2:v 2=.int .i64 L:=(hd 2 (Rdp (by kernel_rfl))).2.2
   clear hd
   dsimp only
   (try simp only [e1,e2])
   go_wp2_with fail
   exact acx (hK (.int .i64 (st+L)) W (Below.refl _ _) rfl) (by simp [e1,e2])
  ·rintro v lo hi W hb ⟨⟨g0,g1,g2,g3⟩,⟨k0,k1,k2,k3⟩,hPa,hPb⟩ hd K hK
   have e0:v 0=.agg #[.slice a5 qa.head.length m5,.int .i64 qa.frm,.int .i64 qa.period,.slice a6 qa.cycle.length m6]:=(hd 0 (Rdp (by kernel_rfl))).2.2
   have e3:v 3=.int .i64 (st+L):=(hd 3 (Rdp (by kernel_rfl))).2.2
   clear hd
   dsimp only
   (try simp only [e0,e3])
   go_wp2_with (go_at_call 50;refine (RMembers_any _ _ qa 0 (st+L) _ (hPa.ext (by (repeat' (with_reducible first|assumption|apply Er|apply Ea|apply Ed|apply En|(refine Es ?_ (by first|(simp<;>omega)|omega) _)|refine Et ?_ (by assumption))))) HQA.out.wf (by omega) (by omega) (by omega) (by omega) (by omega) (by omega)).mono ?_;rintro e w9 ⟨mv,rfl,ho9,hb9⟩)
   exact acx (hK mv w9 hb9 ho9.ints) (by simp [e0,e3])
  ·rintro v lo hi W hb ⟨⟨g0,g1,g2,g3⟩,⟨k0,k1,k2,k3⟩,hPa,hPb⟩ hd K hK
   clear hd
   dsimp only
   go_wp2_with fail
   exact acx (hK (.agg #[.slice a7 qb.head.length m7,.int .i64 qb.frm,.int .i64 qb.period,.slice a8 qb.cycle.length m8]) W (Below.refl _ _) rfl) (by simp)
  ·rintro v lo hi W hb ⟨⟨g0,g1,g2,g3⟩,⟨k0,k1,k2,k3⟩,hPa,hPb⟩ hd K hK
   clear hd
   dsimp only
   go_wp2_with fail
   exact acx (hK (.int .i64 st) W (Below.refl _ _) rfl) (by simp)
  ·rintro v lo hi W hb ⟨⟨g0,g1,g2,g3⟩,⟨k0,k1,k2,k3⟩,hPa,hPb⟩ hd K hK
   clear hd
   dsimp only
   go_wp2_with fail
   exact acx (hK (.int .i64 L) W (Below.refl _ _) rfl) (by simp)
  ·rintro v lo hi W hb ⟨⟨g0,g1,g2,g3⟩,⟨k0,k1,k2,k3⟩,hPa,hPb⟩ hd K hK
   have e6:v 6=.int .i64 st:=(hd 6 (Rdp (by kernel_rfl))).2.2
   have e7:v 7=.int .i64 L:=(hd 7 (Rdp (by kernel_rfl))).2.2
   clear hd
   dsimp only
   (try simp only [e6,e7])
   go_wp2_with fail
   exact acx (hK (.int .i64 (st+L)) W (Below.refl _ _) rfl) (by simp [e6,e7])
  ·rintro v lo hi W hb ⟨⟨g0,g1,g2,g3⟩,⟨k0,k1,k2,k3⟩,hPa,hPb⟩ hd K hK
   have e5:v 5=.agg #[.slice a7 qb.head.length m7,.int .i64 qb.frm,.int .i64 qb.period,.slice a8 qb.cycle.length m8]:=(hd 5 (Rdp (by kernel_rfl))).2.2
   have e8:v 8=.int .i64 (st+L):=(hd 8 (Rdp (by kernel_rfl))).2.2
   clear hd
   dsimp only
   (try simp only [e5,e8])
   go_wp2_with (go_at_call 50;refine (RMembers_any _ _ qb 0 (st+L) _ (hPb.ext (by (repeat' (with_reducible first|assumption|apply Er|apply Ea|apply Ed|apply En|(refine Es ?_ (by first|(simp<;>omega)|omega) _)|refine Et ?_ (by assumption))))) HQB.out.wf (by omega) (by omega) (by omega) (by omega) (by omega) (by omega)).mono ?_;rintro e w9 ⟨mv,rfl,ho9,hb9⟩)
   exact acx (hK mv w9 hb9 ho9.ints) (by simp [e5,e8])
  ·rintro v lo hi W hb ⟨⟨g0,g1,g2,g3⟩,⟨k0,k1,k2,k3⟩,hPa,hPb⟩ hd K hK
   obtain ⟨la4,lb4,D4⟩:=hd 4 (Rdp (by kernel_rfl))
   obtain ⟨la9,lb9,D9⟩:=hd 9 (Rdp (by kernel_rfl))
   clear hd
   dsimp only
   go_wp2_with (go_at_call 64;refine (Rcombined_any (v 4) (v 9) _ _ 2 _ D4 D9 HA9.out).mono ?_;rintro e w9 ⟨mv,rfl,ho9,hb9⟩;rw [HX.out] at ho9)
   exact acx (hK mv w9 hb9 ho9.ints) (by simp [ite_true])
  ·rintro v lo hi W hb ⟨⟨g0,g1,g2,g3⟩,⟨k0,k1,k2,k3⟩,hPa,hPb⟩ hd K hK
   obtain ⟨la10,lb10,D10⟩:=hd 10 (Rdp (by kernel_rfl))
   clear hd
   dsimp only
   obtain ⟨⟨xa,xc,ex,_⟩,hxl,_⟩:=D10
   simp only [ex]
   go_wp2_with fail
   exact acx (hK (.int .i64 (X.length:Int)) W (Below.refl _ _) rfl) (by simp [ite_true,ex])
  ·rintro v lo hi W hb ⟨⟨g0,g1,g2,g3⟩,⟨k0,k1,k2,k3⟩,hPa,hPb⟩ hd K hK
   have e11:v 11=.int .i64 (X.length:Int):=(hd 11 (Rdp (by kernel_rfl))).2.2
   clear hd
   dsimp only
   (try simp only [e11])
   have hxb:=HXB.out
   go_wp2_with fail
   exact acx (hK (.bool b) W (Below.refl _ _) rfl) (by simp [e11];first|done|exact hxb|(rw [← hxb];simp))
 case fin=>
  rintro v lo hi W5 hb5 _ hf hap
  show wpList _ _ _ [_] _ _
  have e12:v 12=.bool b:=(hf 12 rfl).2.2.2
  clear hf hap
  (try dsimp only)
  rw [e12]
  clear e12
  generalize v 0=y0
  generalize v 1=y1
  generalize v 2=y2
  generalize v 3=y3
  generalize v 4=y4
  generalize v 5=y5
  generalize v 6=y6
  generalize v 7=y7
  generalize v 8=y8
  generalize v 9=y9
  generalize v 10=y10
  generalize v 11=y11
  have hE5:Below w.heap.size w W5:=by have hE4:=HE4.out;(repeat' (with_reducible first|assumption|apply Er|apply Ea|apply Ed|apply En|(refine Es ?_ (by first|(simp<;>omega)|omega) _)|refine Et ?_ (by assumption)))
  go_wp2_with fail
  go_ret
  exact ⟨rfl,hE5⟩
end Go.Proofs.YtjilkhhokkncoaaGreat
