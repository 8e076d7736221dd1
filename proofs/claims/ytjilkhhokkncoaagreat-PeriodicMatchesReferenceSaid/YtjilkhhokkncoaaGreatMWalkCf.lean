/- Walks: First (package kalendsref04). -/
import Derived.Test.YtjilkhhokkncoaaGreatMWalkCs
import Derived.Test.YtjilkhhokkncoaaGreatMK12
set_option linter.unusedVariables false
set_option linter.unusedSimpArgs false
namespace Go.Proofs.YtjilkhhokkncoaaGreat
open Go.RowKit Go.Maps Kal
set_option maxRecDepth 100000 in
set_option maxHeartbeats 4000000 in
theorem RFirst_ok (h1 c1 h2 c2:Value) (p1 p2 qa qb:Per) (day:Int) (w:World) (hp1:PerIs w h1 c1 p1) (hp2:PerIs w h2 c2 p2) (hv1:Valid p1) (hv2:Valid p2) (hqa:IsCanon qa p1.mem) (hqb:IsCanon qb p2.mem) (hlc:lcmI qa.period qb.period≤1099511627776)
  (hd0:-9223372036854775808≤day) (hd1:day≤1099511627776) :
  Calls Tryz.prog 31 #[perV h1 c1 p1.frm p1.period,perV h2 c2 p2.frm p2.period,.int .i64 day] w (FirstRes (fun n=>p1.mem n∧p2.mem n) (max day 0) w):=by
 have hpf:=ops_pf hqa.wf hqb.wf 0
 obtain ⟨a1,m1,a2,m2,rfl,rfl⟩:=hp1.inn.form
 obtain ⟨a3,m3,a4,m4,rfl,rfl⟩:=hp2.inn.form
 have hl1:∀ W,Below w.heap.size w W→PerIs W (.slice a1 p1.head.length m1) (.slice a2 p1.cycle.length m2) p1:=fun W hb=>hp1.ext hb
 have hl2:∀ W,Below w.heap.size w W→PerIs W (.slice a3 p2.head.length m3) (.slice a4 p2.cycle.length m4) p2:=fun W hb=>hp2.ext hb
 have HV1:=Lib.hid hv1
 have HV2:=Lib.hid hv2
 have HQA:=Lib.hid hqa
 have HQB:=Lib.hid hqb
 obtain ⟨b1,b2,_,b4,b5⟩:=hqa.smaller hv1.wf
 obtain ⟨d1,d2,_,d4,d5⟩:=hqb.smaller hv2.wf
 have za0:=hqa.wf.frm
 have zb0:=hqb.wf.frm
 have za1:=hqa.wf.per
 have zb1:=hqb.wf.per
 have e1:=hv1.frm
 have e2:=hv1.per
 have e3:=hv2.frm
 have e4:=hv2.per
 have HVA:Hid (∀ W,Below w.heap.size w W→Calls Tryz.prog 16 #[.agg #[.slice a1 p1.head.length m1,.int .i64 p1.frm,.int .i64 p1.period,.slice a2 p1.cycle.length m2]] W fun e w'=>e=.returned (.bool true)∧Below W.heap.size W w'):=Lib.hid (fun W hb=>by
  have h:=RValid_any _ _ p1 W (hl1 W hb) ⟨by have:=hv1.wf.frm;omega,by omega⟩ ⟨by have:=hv1.wf.per;omega,by omega⟩
  rw [(validB_iff p1).2 hv1] at h;exact h)
 have HVB:Hid (∀ W,Below w.heap.size w W→Calls Tryz.prog 16 #[.agg #[.slice a3 p2.head.length m3,.int .i64 p2.frm,.int .i64 p2.period,.slice a4 p2.cycle.length m4]] W fun e w'=>e=.returned (.bool true)∧Below W.heap.size W w'):=Lib.hid (fun W hb=>by
  have h:=RValid_any _ _ p2 W (hl2 W hb) ⟨by have:=hv2.wf.frm;omega,by omega⟩ ⟨by have:=hv2.wf.per;omega,by omega⟩
  rw [(validB_iff p2).2 hv2] at h;exact h)
 obtain ⟨st,hst⟩:∃ st,st=max qa.frm qb.frm:=⟨_,rfl⟩
 obtain ⟨L,hL⟩:∃ L,L=lcmI qa.period qb.period:=⟨_,rfl⟩
 have hL0:1≤L:=by rw [hL];exact lcmI_pos za1 zb1
 have hst0:0≤st:=by omega
 have hst1:st≤1099511627776:=by omega
 have HCO:Hid (∀ W,Below w.heap.size w W→Calls Tryz.prog 63 #[.agg #[.slice a1 p1.head.length m1,.int .i64 p1.frm,.int .i64 p1.period,.slice a2 p1.cycle.length m2],.agg #[.slice a3 p2.head.length m3,.int .i64 p2.frm,.int .i64 p2.period,.slice a4 p2.cycle.length m4]] W
   fun e w'=>∃ x1 x2 x3 x4:Value,e=.returned (.tuple #[perV x1 x2 qa.frm qa.period,perV x3 x4 qb.frm qb.period,.int .i64 st,.int .i64 L])∧POx w' W.heap.size x1 x2 qa∧POx w' W.heap.size x3 x4 qb∧Below W.heap.size W w'):=Lib.hid (fun W hb=>by
  have h:=Rcommon_ok _ _ _ _ p1 p2 qa qb W (hl1 W hb) (hl2 W hb) hv1 hv2 hqa hqb hlc
  rw [hst,hL];exact h)
 have hlL:L≤1099511627776:=by rw [hL];exact hlc
 have HST:=Lib.hid hst
 have HLL:=Lib.hid hL
 have hqfa:qa.frm≤1125899906842624:=by omega
 have hqfb:qb.frm≤1125899906842624:=by omega
 have hqpa:qa.period≤1125899906842624:=by omega
 have hqpb:qb.period≤1125899906842624:=by omega
 clear hp1 hp2 hv1 hv2 hqa hqb hst hL hlc
 rw [← HST.out,← HLL.out] at hpf
 have HPF:=Lib.hid hpf
 obtain ⟨dl,hlo⟩:∃ dl,dl=max day 0:=⟨_,rfl⟩
 obtain ⟨mx,hmx⟩:∃ mx,mx=max st dl:=⟨_,rfl⟩
 have hlo0:0≤dl:=by omega
 have hlo1:dl≤1099511627776:=by omega
 have hmx0:0≤mx:=by omega
 have hmx1:mx≤1099511627776:=by omega
 have hlm:dl≤mx:=by omega
 have HLO:Hid (max day 0=dl):=Lib.hid hlo.symm
 have HMX:Hid (max st dl=mx):=Lib.hid hmx.symm
 obtain ⟨X,hX⟩:∃ X,X=sel (opS 0 qa.mem qb.mem) dl (mx+L):=⟨_,rfl⟩
 have hXl:(X.length:Int)≤mx+L-dl:=by rw [hX];exact (sel_rise (S:=opS 0 qa.mem qb.mem) (lo:=dl) (hi:=mx+L) hlo0).length_le (by omega)
 have HX0:=Lib.hid hX
 have HX:Hid (combR 0 (sel qa.mem dl (mx+L)) (sel qb.mem dl (mx+L))=X):=Lib.hid (by rw [hX];exact comb_sel (by omega) hlo0)
 have hA9:(sel qa.mem dl (mx+L)).length+(sel qb.mem dl (mx+L)).length≤8796093022208:=by
  have h1:=(sel_rise (S:=qa.mem) (lo:=dl) (hi:=mx+L) hlo0).length_le (by omega)
  have h2:=(sel_rise (S:=qb.mem) (lo:=dl) (hi:=mx+L) hlo0).length_le (by omega)
  omega
 have HA9:=Lib.hid hA9
 rw [← hlo]
 clear hpf hX hA9 hlo hmx
 go_enter Tryz.func31,Tryz.ntmps31
 go_upto_region 3 with (go_at_call 16;first|((with_reducible refine (HVA.out _ (by (repeat' (with_reducible first|assumption|apply Er|apply Ea|apply Ed|apply En|(refine Es ?_ (by first|(simp<;>omega)|omega) _)|refine Et ?_ (by assumption))))).mono ?_);rintro e w1 ⟨rfl,hb1⟩;obtain ⟨hx1,hf1⟩:=bcell hb1;(try simp only [World.size_alloc,World.size_drew,size_drewN,World.size_setCell] at hx1 hf1);have hz1:w.heap.size+1<w1.heap.size:=(by have h7:=hb1.size;simp at h7;omega))|((with_reducible refine (HVB.out _ (by (repeat' (with_reducible first|assumption|apply Er|apply Ea|apply Ed|apply En|(refine Es ?_ (by first|(simp<;>omega)|omega) _)|refine Et ?_ (by assumption))))).mono ?_);rintro e w2 ⟨rfl,hb2⟩;obtain ⟨hx2,hf2⟩:=bcell hb2;(try simp only [World.size_alloc,World.size_drew,size_drewN,World.size_setCell] at hx2 hf2);have hz2:w.heap.size+1<w2.heap.size:=(by have h7:=hb2.size;omega)))
 have hA:Bxx w2 w.heap.size #[.slice a1 p1.head.length m1,.int .i64 p1.frm,.int .i64 p1.period,.slice a2 p1.cycle.length m2] 24:=(((Bxx.at rfl).alloc _).upto hb1 (by simp;omega)).upto hb2 (by omega)
 have hB:Bxx w2 (w.heap.size+1) #[.slice a3 p2.head.length m3,.int .i64 p2.frm,.int .i64 p2.period,.slice a4 p2.cycle.length m4] 24:=((Bxx.at (by simp)).upto hb1 (by simp)).upto hb2 (by omega)
 have hE2:Below w.heap.size w w2:=by (repeat' (with_reducible first|assumption|apply Er|apply Ea|apply Ed|apply En|(refine Es ?_ (by first|(simp<;>omega)|omega) _)|refine Et ?_ (by assumption)))
 skip
 clear hb1 hb2 hx1 hf1 hx2 hf2 hz1
 have A0:w2.cell? ⟨w.heap.size,0,none⟩=some (.slice a1 p1.head.length m1):=(hA.cells 0).1
 have A1:w2.cell? ⟨w.heap.size,1,none⟩=some (.int .i64 p1.frm):=(hA.cells 1).1
 have A2:w2.cell? ⟨w.heap.size,2,none⟩=some (.int .i64 p1.period):=(hA.cells 2).1
 have A3:w2.cell? ⟨w.heap.size,3,none⟩=some (.slice a2 p1.cycle.length m2):=(hA.cells 3).1
 have B0:w2.cell? ⟨w.heap.size+1,0,none⟩=some (.slice a3 p2.head.length m3):=(hB.cells 0).1
 have B1:w2.cell? ⟨w.heap.size+1,1,none⟩=some (.int .i64 p2.frm):=(hB.cells 1).1
 have B2:w2.cell? ⟨w.heap.size+1,2,none⟩=some (.int .i64 p2.period):=(hB.cells 2).1
 have B3:w2.cell? ⟨w.heap.size+1,3,none⟩=some (.slice a4 p2.cycle.length m4):=(hB.cells 3).1
 go_upto_region 4 with (go_at_call 63;(with_reducible refine (HCO.out _ (by (repeat' (with_reducible first|assumption|apply Er|apply Ea|apply Ed|apply En|(refine Es ?_ (by first|(simp<;>omega)|omega) _)|refine Et ?_ (by assumption))))).mono ?_);rintro e w3 ⟨x1,x2,x3,x4,rfl,ho1,ho2,hb3⟩;obtain ⟨a5,m5,a6,m6,rfl,rfl⟩:=ho1.form;obtain ⟨a7,m7,a8,m8,rfl,rfl⟩:=ho2.form)
 have hz2a:w.heap.size+1<w2.heap.size:=hz2
 have hzz3:=hb3.size
 generalize hbA:w3.heap.size=bA at *
 refine wp_abs (F:=fun U=>Bxx U bA #[.slice a5 qa.head.length m5,.int .i64 qa.frm,.int .i64 qa.period,.slice a6 qa.cycle.length m6] 24∧Bxx U (bA+1) #[.slice a7 qb.head.length m7,.int .i64 qb.frm,.int .i64 qb.period,.slice a8 qb.cycle.length m8] 24∧PerIs U (.slice a5 qa.head.length m5) (.slice a6 qa.cycle.length m6) qa∧PerIs U (.slice a7 qb.head.length m7) (.slice a8 qb.cycle.length m8) qb∧Below w.heap.size w U)
  ⟨(Bxx.at hbA.symm).alloc _,Bxx.at (by simp [hbA]),ho1.is.ext (by (repeat' (with_reducible first|assumption|apply Er|apply Ea|apply Ed|apply En|(refine Es ?_ (by first|(simp<;>omega)|omega) _)|refine Et ?_ (by assumption)))),ho2.is.ext (by (repeat' (with_reducible first|assumption|apply Er|apply Ea|apply Ed|apply En|(refine Es ?_ (by first|(simp<;>omega)|omega) _)|refine Et ?_ (by assumption)))),by (repeat' (with_reducible first|assumption|apply Er|apply Ea|apply Ed|apply En|(refine Es ?_ (by first|(simp<;>omega)|omega) _)|refine Et ?_ (by assumption)))⟩ ?_
 clear hA hB A0 A1 A2 A3 B0 B1 B2 B3 ho1 ho2 hb3 hbA hE2
 rintro W4 ⟨hqA,hqB,hpa,hpb,hE4⟩
 have HPA:=Lib.hid hpa
 have HPB:=Lib.hid hpb
 have HE4:=Lib.hid hE4
 have A0:W4.cell? ⟨bA,0,none⟩=some (.slice a5 qa.head.length m5):=(hqA.cells 0).1
 have A1:W4.cell? ⟨bA,1,none⟩=some (.int .i64 qa.frm):=(hqA.cells 1).1
 have A2:W4.cell? ⟨bA,2,none⟩=some (.int .i64 qa.period):=(hqA.cells 2).1
 have A3:W4.cell? ⟨bA,3,none⟩=some (.slice a6 qa.cycle.length m6):=(hqA.cells 3).1
 have B0:W4.cell? ⟨bA+1,0,none⟩=some (.slice a7 qb.head.length m7):=(hqB.cells 0).1
 have B1:W4.cell? ⟨bA+1,1,none⟩=some (.int .i64 qb.frm):=(hqB.cells 1).1
 have B2:W4.cell? ⟨bA+1,2,none⟩=some (.int .i64 qb.period):=(hqB.cells 2).1
 have B3:W4.cell? ⟨bA+1,3,none⟩=some (.slice a8 qb.cycle.length m8):=(hqB.cells 3).1
 have hlA:=hqA.lt
 have hlB:=hqB.lt
 clear hqA hqB hpa hpb hE4
 go_upto_region 5 with (fail)
 rw [HLO.out]
 go_upto_region 6 with (fail)
 rw [HMX.out]
 refine wp_region_facts (w0:=W4) [0,1,2,3,4,5,6,7,8] [9] (fun v=>⟨#[perV (.slice a1 p1.head.length m1) (.slice a2 p1.cycle.length m2) p1.frm p1.period,perV (.slice a3 p2.head.length m3) (.slice a4 p2.cycle.length m4) p2.frm p2.period,.int .i64 day,.pointer (some ⟨w.heap.size,0,none⟩),.pointer (some ⟨w.heap.size+1,0,none⟩),undef,.int .i64 0,.bool false,.pointer (some ⟨bA,0,none⟩),.pointer (some ⟨bA+1,0,none⟩),.int .i64 st,.int .i64 L,.int .i64 dl,.int .i64 (mx+L),undef,.agg #[.slice a1 p1.head.length m1,.int .i64 p1.frm,.int .i64 p1.period,.slice a2 p1.cycle.length m2],.bool true,.bool false,.bool false,.agg #[.slice a3 p2.head.length m3,.int .i64 p2.frm,.int .i64 p2.period,.slice a4 p2.cycle.length m4],.bool true,.bool false,.bool false,.bool false,.int .i64 day,.bool (decide (1099511627776<day)),.bool (decide (1099511627776<day)),.tuple #[perV (.slice a5 qa.head.length m5) (.slice a6 qa.cycle.length m6) qa.frm qa.period,perV (.slice a7 qb.head.length m7) (.slice a8 qb.cycle.length m8) qb.frm qb.period,.int .i64 st,.int .i64 L],.agg #[.slice a1 p1.head.length m1,.int .i64 p1.frm,.int .i64 p1.period,.slice a2 p1.cycle.length m2],.agg #[.slice a3 p2.head.length m3,.int .i64 p2.frm,.int .i64 p2.period,.slice a4 p2.cycle.length m4],.tuple #[perV (.slice a5 qa.head.length m5) (.slice a6 qa.cycle.length m6) qa.frm qa.period,perV (.slice a7 qb.head.length m7) (.slice a8 qb.cycle.length m8) qb.frm qb.period,.int .i64 st,.int .i64 L],perV (.slice a5 qa.head.length m5) (.slice a6 qa.cycle.length m6) qa.frm qa.period,perV (.slice a7 qb.head.length m7) (.slice a8 qb.cycle.length m8) qb.frm qb.period,.int .i64 st,.int .i64 L,.int .i64 day,.int .i64 dl,.int .i64 st,.int .i64 dl,.int .i64 mx,.int .i64 L,.int .i64 (mx+L),v 0,v 1,v 2,v 3,v 4,v 5,v 6,v 7,v 8,undef,undef,undef,undef,undef,undef,undef,undef,undef,undef,undef,undef],[]⟩) (fun _=>undef)
  (fun i v lo hi W=>match i with
   | 0=>v 0=.agg #[.slice a5 qa.head.length m5,.int .i64 qa.frm,.int .i64 qa.period,.slice a6 qa.cycle.length m6]
   | 1=>v 1=.int .i64 dl
   | 2=>v 2=.int .i64 (mx+L)
   | 3=>Ints W (v 3) (sel qa.mem dl (mx+L))
   | 4=>v 4=.agg #[.slice a7 qb.head.length m7,.int .i64 qb.frm,.int .i64 qb.period,.slice a8 qb.cycle.length m8]
   | 5=>v 5=.int .i64 dl
   | 6=>v 6=.int .i64 (mx+L)
   | 7=>Ints W (v 7) (sel qb.mem dl (mx+L))
   | 8=>Ints W (v 8) X
   | _=>True)
  (fun W=>(W.cell? ⟨bA,0,none⟩=some (.slice a5 qa.head.length m5)∧W.cell? ⟨bA,1,none⟩=some (.int .i64 qa.frm)∧W.cell? ⟨bA,2,none⟩=some (.int .i64 qa.period)∧W.cell? ⟨bA,3,none⟩=some (.slice a6 qa.cycle.length m6))∧(W.cell? ⟨bA+1,0,none⟩=some (.slice a7 qb.head.length m7)∧W.cell? ⟨bA+1,1,none⟩=some (.int .i64 qb.frm)∧W.cell? ⟨bA+1,2,none⟩=some (.int .i64 qb.period)∧W.cell? ⟨bA+1,3,none⟩=some (.slice a8 qb.cycle.length m8))∧PerIs W (.slice a5 qa.head.length m5) (.slice a6 qa.cycle.length m6) qa∧PerIs W (.slice a7 qb.head.length m7) (.slice a8 qb.cycle.length m8) qb) rfl (by kernel_rfl) (by decide) rfl ?stab ?loc (fun W hb=>⟨⟨cux A0 hb,cux A1 hb,cux A2 hb,cux A3 hb⟩,⟨cux B0 hb,cux B1 hb,cux B2 hb,cux B3 hb⟩,HPA.out.ext hb,HPB.out.ext hb⟩) ?steps ?fin
 case stab=>
  rintro (_|_|_|_|_|_|_|_|_|i) v lo hi W W' h hb
  ·exact h
  ·exact h
  ·exact h
  ·exact h.ext hb
  ·exact h
  ·exact h
  ·exact h
  ·exact h.ext hb
  ·exact h.ext hb
  ·trivial
 case loc=>
  rintro (_|_|_|_|_|_|_|_|_|i) v v' lo lo' hi hi' W hag h
  ·exact (hag 0 (.inl rfl)).1 ▸ h
  ·exact (hag 1 (.inl rfl)).1 ▸ h
  ·exact (hag 2 (.inl rfl)).1 ▸ h
  ·have q:=hag 3 (.inl rfl)
   have q0:=hag 0 (.inr (Rdp (by kernel_rfl)))
   have q1:=hag 1 (.inr (Rdp (by kernel_rfl)))
   have q2:=hag 2 (.inr (Rdp (by kernel_rfl)))
   (try dsimp only at h ⊢);(try simp only [q.1,q.2.1,q.2.2,q0.1,q0.2.1,q0.2.2,q1.1,q1.2.1,q1.2.2,q2.1,q2.2.1,q2.2.2] at h);exact h
  ·exact (hag 4 (.inl rfl)).1 ▸ h
  ·exact (hag 5 (.inl rfl)).1 ▸ h
  ·exact (hag 6 (.inl rfl)).1 ▸ h
  ·have q:=hag 7 (.inl rfl)
   have q3:=hag 3 (.inr (Rdp (by kernel_rfl)))
   have q4:=hag 4 (.inr (Rdp (by kernel_rfl)))
   have q5:=hag 5 (.inr (Rdp (by kernel_rfl)))
   have q6:=hag 6 (.inr (Rdp (by kernel_rfl)))
   (try dsimp only at h ⊢);(try simp only [q.1,q.2.1,q.2.2,q3.1,q3.2.1,q3.2.2,q4.1,q4.2.1,q4.2.2,q5.1,q5.2.1,q5.2.2,q6.1,q6.2.1,q6.2.2] at h);exact h
  ·have q:=hag 8 (.inl rfl)
   have q3:=hag 3 (.inr (Rdp (by kernel_rfl)))
   have q7:=hag 7 (.inr (Rdp (by kernel_rfl)))
   (try dsimp only at h ⊢);(try simp only [q.1,q.2.1,q.2.2,q3.1,q3.2.1,q3.2.2,q7.1,q7.2.1,q7.2.2] at h);exact h
  ·trivial
 case steps=>
  refine SFx.cons rfl ?_ (SFx.cons rfl ?_ (SFx.cons rfl ?_ (SFx.cons rfl ?_ (SFx.cons rfl ?_ (SFx.cons rfl ?_ (SFx.cons rfl ?_ (SFx.cons rfl ?_ (SFx.cons rfl ?_ SFx.nil))))))))
  ·rintro v lo hi W hb ⟨⟨g0,g1,g2,g3⟩,⟨k0,k1,k2,k3⟩,hPa,hPb⟩ hd K hK
   clear hd
   dsimp only
   go_wp2_with fail
   exact acx (hK (.agg #[.slice a5 qa.head.length m5,.int .i64 qa.frm,.int .i64 qa.period,.slice a6 qa.cycle.length m6]) W (Below.refl _ _) rfl) (by simp)
  ·rintro v lo hi W hb ⟨⟨g0,g1,g2,g3⟩,⟨k0,k1,k2,k3⟩,hPa,hPb⟩ hd K hK
   clear hd
   dsimp only
   go_wp2_with fail
   exact acx (hK (.int .i64 dl) W (Below.refl _ _) rfl) (by simp)
  ·rintro v lo hi W hb ⟨⟨g0,g1,g2,g3⟩,⟨k0,k1,k2,k3⟩,hPa,hPb⟩ hd K hK
   clear hd
   dsimp only
   go_wp2_with fail
   exact acx (hK (.int .i64 (mx+L)) W (Below.refl _ _) rfl) (by simp)
  ·rintro v lo hi W hb ⟨⟨g0,g1,g2,g3⟩,⟨k0,k1,k2,k3⟩,hPa,hPb⟩ hd K hK
   have e0:v 0=.agg #[.slice a5 qa.head.length m5,.int .i64 qa.frm,.int .i64 qa.period,.slice a6 qa.cycle.length m6]:=(hd 0 (Rdp (by kernel_rfl))).2.2
   have e1:v 1=.int .i64 dl:=(hd 1 (Rdp (by kernel_rfl))).2.2
   have e2:v 2=.int .i64 (mx+L):=(hd 2 (Rdp (by kernel_rfl))).2.2
   clear hd
   dsimp only
   (try simp only [e0,e1,e2])
   go_wp2_with (go_at_call 50;refine (RMembers_any _ _ qa dl (mx+L) _ (hPa.ext (by (repeat' (with_reducible first|assumption|apply Er|apply Ea|apply Ed|apply En|(refine Es ?_ (by first|(simp<;>omega)|omega) _)|refine Et ?_ (by assumption))))) HQA.out.wf (by omega) (by omega) (by omega) (by omega) (by omega) (by omega)).mono ?_;rintro e w9 ⟨mv,rfl,ho9,hb9⟩)
   exact acx (hK mv w9 hb9 ho9.ints) (by simp [e0,e1,e2])
  ·rintro v lo hi W hb ⟨⟨g0,g1,g2,g3⟩,⟨k0,k1,k2,k3⟩,hPa,hPb⟩ hd K hK
   clear hd
   dsimp only
   go_wp2_with fail
   exact acx (hK (.agg #[.slice a7 qb.head.length m7,.int .i64 qb.frm,.int .i64 qb.period,.slice a8 qb.cycle.length m8]) W (Below.refl _ _) rfl) (by simp)
  ·rintro v lo hi W hb ⟨⟨g0,g1,g2,g3⟩,⟨k0,k1,k2,k3⟩,hPa,hPb⟩ hd K hK
   clear hd
   dsimp only
   go_wp2_with fail
   exact acx (hK (.int .i64 dl) W (Below.refl _ _) rfl) (by simp)
  ·rintro v lo hi W hb ⟨⟨g0,g1,g2,g3⟩,⟨k0,k1,k2,k3⟩,hPa,hPb⟩ hd K hK
   clear hd
   dsimp only
   go_wp2_with fail
   exact acx (hK (.int .i64 (mx+L)) W (Below.refl _ _) rfl) (by simp)
  ·rintro v lo hi W hb ⟨⟨g0,g1,g2,g3⟩,⟨k0,k1,k2,k3⟩,hPa,hPb⟩ hd K hK
   have e4:v 4=.agg #[.slice a7 qb.head.length m7,.int .i64 qb.frm,.int .i64 qb.period,.slice a8 qb.cycle.length m8]:=(hd 4 (Rdp (by kernel_rfl))).2.2
   have e5:v 5=.int .i64 dl:=(hd 5 (Rdp (by kernel_rfl))).2.2
   have e6:v 6=.int .i64 (mx+L):=(hd 6 (Rdp (by kernel_rfl))).2.2
   clear hd
   dsimp only
   (try simp only [e4,e5,e6])
   go_wp2_with (go_at_call 50;refine (RMembers_any _ _ qb dl (mx+L) _ (hPb.ext (by (repeat' (with_reducible first|assumption|apply Er|apply Ea|apply Ed|apply En|(refine Es ?_ (by first|(simp<;>omega)|omega) _)|refine Et ?_ (by assumption))))) HQB.out.wf (by omega) (by omega) (by omega) (by omega) (by omega) (by omega)).mono ?_;rintro e w9 ⟨mv,rfl,ho9,hb9⟩)
   exact acx (hK mv w9 hb9 ho9.ints) (by simp [e4,e5,e6])
  ·rintro v lo hi W hb ⟨⟨g0,g1,g2,g3⟩,⟨k0,k1,k2,k3⟩,hPa,hPb⟩ hd K hK
   obtain ⟨la3,lb3,D3⟩:=hd 3 (Rdp (by kernel_rfl))
   obtain ⟨la7,lb7,D7⟩:=hd 7 (Rdp (by kernel_rfl))
   clear hd
   dsimp only
   go_wp2_with (go_at_call 64;refine (Rcombined_any (v 3) (v 7) _ _ 0 _ D3 D7 HA9.out).mono ?_;rintro e w9 ⟨mv,rfl,ho9,hb9⟩;rw [HX.out] at ho9)
   exact acx (hK mv w9 hb9 ho9.ints) (by simp [ite_true])
 case fin=>
  rintro v lo hi W5 hb5 _ hf hap
  show wpList _ _ _ [_] _ _
  have hi9:Ints W5 (v 8) X:=(hf 8 rfl).2.2.2
  clear hf hap
  (try dsimp only)
  have hE5:Below w.heap.size w W5:=by have hE4:=HE4.out;(repeat' (with_reducible first|assumption|apply Er|apply Ea|apply Ed|apply En|(refine Es ?_ (by first|(simp<;>omega)|omega) _)|refine Et ?_ (by assumption)))
  generalize v 0=y0
  generalize v 1=y1
  generalize v 2=y2
  generalize v 3=y3
  generalize v 4=y4
  generalize v 5=y5
  generalize v 6=y6
  generalize v 7=y7
  obtain ⟨⟨a9,c9,e9,_,_,h38⟩,_,hrg⟩:=hi9
  rw [e9]
  clear e9 hb5
  rcases X with _|⟨y,X⟩
  ·have hnone:∀ x,dl≤x→¬ opS 0 qa.mem qb.mem x:=sel_none hlo0 hL0 HPF.out (by rw [HMX.out];exact HX0.out.symm)
   have HNO:=Lib.hid hnone
   clear hnone h38 hrg
   go_wp2_with fail
   go_ret2
   refine ⟨0,false,rfl,⟨fun h=>Bool.noConfusion h,fun _=>⟨rfl,fun x hU hx=>?_⟩⟩,hE5⟩
   have h9:=HNO.out x hx
   rw [opS_and] at h9
   exact absurd ⟨(HQA.out.mem x).2 hU.1,(HQB.out.mem x).2 hU.2⟩ h9
  ·have hh:=sel_head hlo0 HX0.out.symm
   have HH:=Lib.hid hh
   rcases h38 with h38|⟨b8,f8,rfl,hcell⟩
   ·simp at h38
   have hcl:=hcell 0 (by simp)
   simp only [List.getD_cons_zero,Nat.add_zero] at hcl
   have hlz:(((y :: X).length:Int) == 0)=false:=by rw [beq_eq_false_iff_ne];simp;omega
   have hlp:0<(y :: X).length:=by simp
   have hlq:(0:Int)<((y :: X).length:Int):=by have:=hlp;omega
   have hy1:y<mx+L:=hh.2.1
   have hy0:dl≤y:=hh.1
   clear HX hXl HX0
   generalize (y :: X).length=len at *
   clear hh hcell hrg
   by_cases hbig:y≤2251799813685248
   ·have hbi:¬ 2251799813685248<y:=by omega
    go_wp2_with fail
    go_ret2
    have h9:=HH.out
    rw [opS_and] at h9
    refine ⟨y,true,rfl,⟨fun _=>⟨⟨(HQA.out.mem y).1 h9.2.2.1.1,(HQB.out.mem y).1 h9.2.2.1.2⟩,h9.1,hbig,fun x h3 h1=>Classical.byContradiction fun h2=>h9.2.2.2 x h1 (by omega) ⟨(HQA.out.mem x).2 h3.1,(HQB.out.mem x).2 h3.2⟩⟩,fun h=>Bool.noConfusion h⟩,hE5⟩
   ·omega
end Go.Proofs.YtjilkhhokkncoaaGreat
