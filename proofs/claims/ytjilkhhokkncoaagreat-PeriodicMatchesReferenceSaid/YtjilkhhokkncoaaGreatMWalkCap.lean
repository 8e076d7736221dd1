/- Walks: Apart (package kalendsref04). -/
import Derived.Test.YtjilkhhokkncoaaGreatMWalkCs
import Derived.Test.YtjilkhhokkncoaaGreatMMathP
set_option linter.unusedVariables false
set_option linter.unusedSimpArgs false
namespace Go.Proofs.YtjilkhhokkncoaaGreat
open Go.RowKit Go.Maps Kal
theorem xor_mem (A B:Int→Prop) (n:Int):opS 1 (opS 2 A B) (opS 2 B A) n↔¬ (A n↔B n):=by
 rw [opS_or,opS_minus,opS_minus]
 constructor
 ·rintro (⟨h1,h2⟩|⟨h1,h2⟩) h
  ·exact h2 (h.1 h1)
  ·exact h2 (h.2 h1)
 ·intro h
  by_cases ha:A n
  ·exact .inl ⟨ha,fun hb=>h ⟨fun _=>hb,fun _=>ha⟩⟩
  ·exact .inr ⟨Classical.byContradiction fun hb=>h ⟨fun h1=>absurd h1 ha,fun h1=>absurd h1 hb⟩,ha⟩
set_option maxRecDepth 100000 in
set_option maxHeartbeats 4000000 in
theorem RApart_ok (h1 c1 h2 c2:Value) (p1 p2 qa qb:Per) (w:World) (hp1:PerIs w h1 c1 p1) (hp2:PerIs w h2 c2 p2) (hv1:Valid p1) (hv2:Valid p2) (hqa:IsCanon qa p1.mem) (hqb:IsCanon qb p2.mem) (hlc:lcmI qa.period qb.period≤1099511627776) :
  Calls Tryz.prog 33 #[perV h1 c1 p1.frm p1.period,perV h2 c2 p2.frm p2.period] w fun e w'=>∃ (n:Int) (b:Bool),e=.returned (.tuple #[.int .i64 n,.bool b])∧ApartIs qa.mem qb.mem n b∧Below w.heap.size w w':=by
 have hpf:PFrom (fun n=>¬ (qa.mem n↔qb.mem n)) (max qa.frm qb.frm) (lcmI qa.period qb.period):=by
  have a1:=hqa.wf.per
  have b1:=hqb.wf.per
  have hl:=lcmI_pos a1 b1
  exact ((hqa.wf.pfrom.mono (show qa.frm≤max qa.frm qb.frm by omega)).of_dvd a1 hl lcmI_dvd_left).op ((hqb.wf.pfrom.mono (show qb.frm≤max qa.frm qb.frm by omega)).of_dvd b1 hl lcmI_dvd_right) (fun a b=>¬ (a↔b)) (fun n _=>Iff.rfl) (by omega)
 obtain ⟨a1,m1,a2,m2,rfl,rfl⟩:=hp1.inn.form
 obtain ⟨a3,m3,a4,m4,rfl,rfl⟩:=hp2.inn.form
 have hl1:∀ W,Below w.heap.size w W→PerIs W (.slice a1 p1.head.length m1) (.slice a2 p1.cycle.length m2) p1:=fun W hb=>hp1.ext hb
 have hl2:∀ W,Below w.heap.size w W→PerIs W (.slice a3 p2.head.length m3) (.slice a4 p2.cycle.length m4) p2:=fun W hb=>hp2.ext hb
 have HV1:=Lib.hid hv1
 have HV2:=Lib.hid hv2
 have HQA:=Lib.hid hqa
 have HQB:=Lib.hid hqb
 obtain ⟨b1,b2,_,b4,b5⟩:=hqa.smaller hv1.wf
 obtain ⟨d1,d2,_,d4,d5⟩:=hqb.smaller hv2.wf
 have za0:=hqa.wf.frm
 have zb0:=hqb.wf.frm
 have za1:=hqa.wf.per
 have zb1:=hqb.wf.per
 have e1:=hv1.frm
 have e2:=hv1.per
 have e3:=hv2.frm
 have e4:=hv2.per
 have HVA:Hid (∀ W,Below w.heap.size w W→Calls Tryz.prog 16 #[.agg #[.slice a1 p1.head.length m1,.int .i64 p1.frm,.int .i64 p1.period,.slice a2 p1.cycle.length m2]] W fun e w'=>e=.returned (.bool true)∧Below W.heap.size W w'):=Lib.hid (fun W hb=>by
  have h:=RValid_any _ _ p1 W (hl1 W hb) ⟨by have:=hv1.wf.frm;omega,by omega⟩ ⟨by have:=hv1.wf.per;omega,by omega⟩
  rw [(validB_iff p1).2 hv1] at h;exact h)
 have HVB:Hid (∀ W,Below w.heap.size w W→Calls Tryz.prog 16 #[.agg #[.slice a3 p2.head.length m3,.int .i64 p2.frm,.int .i64 p2.period,.slice a4 p2.cycle.length m4]] W fun e w'=>e=.returned (.bool true)∧Below W.heap.size W w'):=Lib.hid (fun W hb=>by
  have h:=RValid_any _ _ p2 W (hl2 W hb) ⟨by have:=hv2.wf.frm;omega,by omega⟩ ⟨by have:=hv2.wf.per;omega,by omega⟩
  rw [(validB_iff p2).2 hv2] at h;exact h)
 obtain ⟨st,hst⟩:∃ st,st=max qa.frm qb.frm:=⟨_,rfl⟩
 obtain ⟨L,hL⟩:∃ L,L=lcmI qa.period qb.period:=⟨_,rfl⟩
 have hL0:1≤L:=by rw [hL];exact lcmI_pos za1 zb1
 have hst0:0≤st:=by omega
 have hst1:st≤1099511627776:=by omega
 have HCO:Hid (∀ W,Below w.heap.size w W→Calls Tryz.prog 63 #[.agg #[.slice a1 p1.head.length m1,.int .i64 p1.frm,.int .i64 p1.period,.slice a2 p1.cycle.length m2],.agg #[.slice a3 p2.head.length m3,.int .i64 p2.frm,.int .i64 p2.period,.slice a4 p2.cycle.length m4]] W
   fun e w'=>∃ x1 x2 x3 x4:Value,e=.returned (.tuple #[perV x1 x2 qa.frm qa.period,perV x3 x4 qb.frm qb.period,.int .i64 st,.int .i64 L])∧POx w' W.heap.size x1 x2 qa∧POx w' W.heap.size x3 x4 qb∧Below W.heap.size W w'):=Lib.hid (fun W hb=>by
  have h:=Rcommon_ok _ _ _ _ p1 p2 qa qb W (hl1 W hb) (hl2 W hb) hv1 hv2 hqa hqb hlc
  rw [hst,hL];exact h)
 have hlL:L≤1099511627776:=by rw [hL];exact hlc
 have HST:=Lib.hid hst
 have HLL:=Lib.hid hL
 have hqfa:qa.frm≤1125899906842624:=by omega
 have hqfb:qb.frm≤1125899906842624:=by omega
 have hqpa:qa.period≤1125899906842624:=by omega
 have hqpb:qb.period≤1125899906842624:=by omega
 clear hp1 hp2 hv1 hv2 hqa hqb hst hL hlc
 rw [← HST.out,← HLL.out] at hpf
 have HPF:=Lib.hid hpf
 obtain ⟨lm,hlm⟩:∃ lm,lm=sel qa.mem 0 (st+L):=⟨_,rfl⟩
 obtain ⟨ll,hll⟩:∃ ll,ll=sel qb.mem 0 (st+L):=⟨_,rfl⟩
 obtain ⟨X1,hX1⟩:∃ X,X=sel (opS 2 qa.mem qb.mem) 0 (st+L):=⟨_,rfl⟩
 obtain ⟨X2,hX2⟩:∃ X,X=sel (opS 2 qb.mem qa.mem) 0 (st+L):=⟨_,rfl⟩
 obtain ⟨X,hX⟩:∃ X,X=sel (fun n=>¬ (qa.mem n↔qb.mem n)) 0 (st+L):=⟨_,rfl⟩
 have len:∀ (U:Int→Prop),((sel U 0 (st+L)).length:Int)≤st+L:=fun U=>by have:=(sel_rise (S:=U) (lo:=0) (hi:=st+L) (Int.le_refl _)).length_le (by omega);omega
 have l1:=len qa.mem
 have l2:=len qb.mem
 have l3:=len (opS 2 qa.mem qb.mem)
 have l4:=len (opS 2 qb.mem qa.mem)
 have l5:=len (fun n=>¬ (qa.mem n↔qb.mem n))
 rw [← hlm] at l1
 rw [← hll] at l2
 rw [← hX1] at l3
 rw [← hX2] at l4
 rw [← hX] at l5
 have HC1:Hid (combR 2 lm ll=X1):=Lib.hid (by rw [hX1,hlm,hll];exact comb_sel (by omega) (Int.le_refl 0))
 have HC2:Hid (combR 2 ll lm=X2):=Lib.hid (by rw [hX2,hlm,hll];exact comb_sel (by omega) (Int.le_refl 0))
 have HC3:Hid (combR 1 X1 X2=X):=Lib.hid (by
  rw [hX1,hX2,hX,comb_sel (by omega) (Int.le_refl 0)]
  exact sel_congr (Int.le_refl 0) fun n=>xor_mem qa.mem qb.mem n)
 have HLM:=Lib.hid hlm
 have HLB:=Lib.hid hll
 have HX:=Lib.hid hX
 clear hpf hlm hll hX1 hX2 hX len
 go_enter Tryz.func33,Tryz.ntmps33
 go_upto_region 3 with (go_at_call 16;first|((with_reducible refine (HVA.out _ (by (repeat' (with_reducible first|assumption|apply Er|apply Ea|apply Ed|apply En|(refine Es ?_ (by first|(simp<;>omega)|omega) _)|refine Et ?_ (by assumption))))).mono ?_);rintro e w1 ⟨rfl,hb1⟩;obtain ⟨hx1,hf1⟩:=bcell hb1;(try simp only [World.size_alloc,World.size_drew,size_drewN,World.size_setCell] at hx1 hf1);have hz1:w.heap.size+1<w1.heap.size:=(by have h7:=hb1.size;simp at h7;omega))|((with_reducible refine (HVB.out _ (by (repeat' (with_reducible first|assumption|apply Er|apply Ea|apply Ed|apply En|(refine Es ?_ (by first|(simp<;>omega)|omega) _)|refine Et ?_ (by assumption))))).mono ?_);rintro e w2 ⟨rfl,hb2⟩;obtain ⟨hx2,hf2⟩:=bcell hb2;(try simp only [World.size_alloc,World.size_drew,size_drewN,World.size_setCell] at hx2 hf2);have hz2:w.heap.size+1<w2.heap.size:=(by have h7:=hb2.size;omega)))
 have hA:Bxx w2 w.heap.size #[.slice a1 p1.head.length m1,.int .i64 p1.frm,.int .i64 p1.period,.slice a2 p1.cycle.length m2] 24:=(((Bxx.at rfl).alloc _).upto hb1 (by simp;omega)).upto hb2 (by omega)
 have hB:Bxx w2 (w.heap.size+1) #[.slice a3 p2.head.length m3,.int .i64 p2.frm,.int .i64 p2.period,.slice a4 p2.cycle.length m4] 24:=((Bxx.at (by simp)).upto hb1 (by simp)).upto hb2 (by omega)
 have hE2:Below w.heap.size w w2:=by (repeat' (with_reducible first|assumption|apply Er|apply Ea|apply Ed|apply En|(refine Es ?_ (by first|(simp<;>omega)|omega) _)|refine Et ?_ (by assumption)))
 skip
 clear hb1 hb2 hx1 hf1 hx2 hf2 hz1
 have A0:w2.cell? ⟨w.heap.size,0,none⟩=some (.slice a1 p1.head.length m1):=(hA.cells 0).1
 have A1:w2.cell? ⟨w.heap.size,1,none⟩=some (.int .i64 p1.frm):=(hA.cells 1).1
 have A2:w2.cell? ⟨w.heap.size,2,none⟩=some (.int .i64 p1.period):=(hA.cells 2).1
 have A3:w2.cell? ⟨w.heap.size,3,none⟩=some (.slice a2 p1.cycle.length m2):=(hA.cells 3).1
 have B0:w2.cell? ⟨w.heap.size+1,0,none⟩=some (.slice a3 p2.head.length m3):=(hB.cells 0).1
 have B1:w2.cell? ⟨w.heap.size+1,1,none⟩=some (.int .i64 p2.frm):=(hB.cells 1).1
 have B2:w2.cell? ⟨w.heap.size+1,2,none⟩=some (.int .i64 p2.period):=(hB.cells 2).1
 have B3:w2.cell? ⟨w.heap.size+1,3,none⟩=some (.slice a4 p2.cycle.length m4):=(hB.cells 3).1
 go_upto_region 4 with (go_at_call 63;(with_reducible refine (HCO.out _ (by (repeat' (with_reducible first|assumption|apply Er|apply Ea|apply Ed|apply En|(refine Es ?_ (by first|(simp<;>omega)|omega) _)|refine Et ?_ (by assumption))))).mono ?_);rintro e w3 ⟨x1,x2,x3,x4,rfl,ho1,ho2,hb3⟩;obtain ⟨a5,m5,a6,m6,rfl,rfl⟩:=ho1.form;obtain ⟨a7,m7,a8,m8,rfl,rfl⟩:=ho2.form)
 have hz2a:w.heap.size+1<w2.heap.size:=hz2
 have hzz3:=hb3.size
 generalize hbA:w3.heap.size=bA at *
 refine wp_abs (F:=fun U=>Bxx U bA #[.slice a5 qa.head.length m5,.int .i64 qa.frm,.int .i64 qa.period,.slice a6 qa.cycle.length m6] 24∧Bxx U (bA+1) #[.slice a7 qb.head.length m7,.int .i64 qb.frm,.int .i64 qb.period,.slice a8 qb.cycle.length m8] 24∧PerIs U (.slice a5 qa.head.length m5) (.slice a6 qa.cycle.length m6) qa∧PerIs U (.slice a7 qb.head.length m7) (.slice a8 qb.cycle.length m8) qb∧Below w.heap.size w U)
  ⟨(Bxx.at hbA.symm).alloc _,Bxx.at (by simp [hbA]),ho1.is.ext (by (repeat' (with_reducible first|assumption|apply Er|apply Ea|apply Ed|apply En|(refine Es ?_ (by first|(simp<;>omega)|omega) _)|refine Et ?_ (by assumption)))),ho2.is.ext (by (repeat' (with_reducible first|assumption|apply Er|apply Ea|apply Ed|apply En|(refine Es ?_ (by first|(simp<;>omega)|omega) _)|refine Et ?_ (by assumption)))),by (repeat' (with_reducible first|assumption|apply Er|apply Ea|apply Ed|apply En|(refine Es ?_ (by first|(simp<;>omega)|omega) _)|refine Et ?_ (by assumption)))⟩ ?_
 clear hA hB A0 A1 A2 A3 B0 B1 B2 B3 ho1 ho2 hb3 hbA hE2
 rintro W4 ⟨hqA,hqB,hpa,hpb,hE4⟩
 have HPA:=Lib.hid hpa
 have HPB:=Lib.hid hpb
 have HE4:=Lib.hid hE4
 have A0:W4.cell? ⟨bA,0,none⟩=some (.slice a5 qa.head.length m5):=(hqA.cells 0).1
 have A1:W4.cell? ⟨bA,1,none⟩=some (.int .i64 qa.frm):=(hqA.cells 1).1
 have A2:W4.cell? ⟨bA,2,none⟩=some (.int .i64 qa.period):=(hqA.cells 2).1
 have A3:W4.cell? ⟨bA,3,none⟩=some (.slice a6 qa.cycle.length m6):=(hqA.cells 3).1
 have B0:W4.cell? ⟨bA+1,0,none⟩=some (.slice a7 qb.head.length m7):=(hqB.cells 0).1
 have B1:W4.cell? ⟨bA+1,1,none⟩=some (.int .i64 qb.frm):=(hqB.cells 1).1
 have B2:W4.cell? ⟨bA+1,2,none⟩=some (.int .i64 qb.period):=(hqB.cells 2).1
 have B3:W4.cell? ⟨bA+1,3,none⟩=some (.slice a8 qb.cycle.length m8):=(hqB.cells 3).1
 have hlA:=hqA.lt
 have hlB:=hqB.lt
 clear hqA hqB hpa hpb hE4
 go_upto_region 5 with (go_at_call 50;refine (RMembers_any _ _ qa 0 (st+L) _ (HPA.out.ext (by (repeat' (with_reducible first|assumption|apply Er|apply Ea|apply Ed|apply En|(refine Es ?_ (by first|(simp<;>omega)|omega) _)|refine Et ?_ (by assumption))))) HQA.out.wf (by omega) (by omega) (by omega) (by omega) (by omega) (by omega)).mono ?_;rintro e w5 ⟨mv,rfl,ho5,hb5⟩;rw [← HLM.out] at ho5)
 have hi5:=ho5.ints
 have HI5:=Lib.hid hi5
 replace B0:=cux B0 hb5
 replace B1:=cux B1 hb5
 replace B2:=cux B2 hb5
 replace B3:=cux B3 hb5
 have hE5:Below w.heap.size w w5:=by have hE4:=HE4.out;(repeat' (with_reducible first|assumption|apply Er|apply Ea|apply Ed|apply En|(refine Es ?_ (by first|(simp<;>omega)|omega) _)|refine Et ?_ (by assumption)))
 have hpb5:=HPB.out.ext hb5
 have HPB5:=Lib.hid hpb5
 clear hb5 ho5 hi5 A0 A1 A2 A3 HPA HPB HE4 hpb5
 go_upto_region 6 with (go_at_call 50;refine (RMembers_any _ _ qb 0 (st+L) _ (HPB5.out.ext (by (repeat' (with_reducible first|assumption|apply Er|apply Ea|apply Ed|apply En|(refine Es ?_ (by first|(simp<;>omega)|omega) _)|refine Et ?_ (by assumption))))) HQB.out.wf (by omega) (by omega) (by omega) (by omega) (by omega) (by omega)).mono ?_;rintro e w6 ⟨mw,rfl,ho6,hb6⟩;rw [← HLB.out] at ho6)
 have HI6:=Lib.hid (ho6.ints)
 have HJ5:Hid (Ints w6 mv lm):=Lib.hid (HI5.out.ext hb6)
 have hE6:Below w.heap.size w w6:=by (repeat' (with_reducible first|assumption|apply Er|apply Ea|apply Ed|apply En|(refine Es ?_ (by first|(simp<;>omega)|omega) _)|refine Et ?_ (by assumption)))
 clear hb6 ho6 B0 B1 B2 B3 HI5 hE5
 have HCA:Hid (∀ W,Below w6.heap.size w6 W→Calls Tryz.prog 64 #[mv,mw,.int .i64 2] W (WinRes X1 W)):=Lib.hid (fun W hb=>by
  have h:=Rcombined_any mv mw lm ll 2 W (HJ5.out.ext hb) (HI6.out.ext hb) (by omega)
  rw [HC1.out] at h;exact h)
 have HCB:Hid (∀ W,Below w6.heap.size w6 W→Calls Tryz.prog 64 #[mw,mv,.int .i64 2] W (WinRes X2 W)):=Lib.hid (fun W hb=>by
  have h:=Rcombined_any mw mv ll lm 2 W (HI6.out.ext hb) (HJ5.out.ext hb) (by omega)
  rw [HC2.out] at h;exact h)
 go_upto_region 7 with (go_at_call 64;first|((with_reducible refine (HCA.out _ (by (repeat' (with_reducible first|assumption|apply Er|apply Ea|apply Ed|apply En|(refine Es ?_ (by first|(simp<;>omega)|omega) _)|refine Et ?_ (by assumption))))).mono ?_);rintro e w7 ⟨v7,rfl,ho7,hb7⟩;have HI7:=Lib.hid ho7.ints;clear ho7)|((with_reducible refine (HCB.out _ (by (repeat' (with_reducible first|assumption|apply Er|apply Ea|apply Ed|apply En|(refine Es ?_ (by first|(simp<;>omega)|omega) _)|refine Et ?_ (by assumption))))).mono ?_);rintro e w8 ⟨v8,rfl,ho8,hb8⟩;have HI8:=Lib.hid ho8.ints;clear ho8)|(refine (Rcombined_any v7 v8 X1 X2 1 _ (HI7.out.ext (by (repeat' (with_reducible first|assumption|apply Er|apply Ea|apply Ed|apply En|(refine Es ?_ (by first|(simp<;>omega)|omega) _)|refine Et ?_ (by assumption))))) (HI8.out.ext (by (repeat' (with_reducible first|assumption|apply Er|apply Ea|apply Ed|apply En|(refine Es ?_ (by first|(simp<;>omega)|omega) _)|refine Et ?_ (by assumption))))) (by omega)).mono ?_;rintro e w9 ⟨v9,rfl,ho9,hb9⟩;rw [HC3.out] at ho9))
 have hE9:Below w.heap.size w w9:=by (repeat' (with_reducible first|assumption|apply Er|apply Ea|apply Ed|apply En|(refine Es ?_ (by first|(simp<;>omega)|omega) _)|refine Et ?_ (by assumption)))
 have hi9:=ho9.ints
 clear hb7 hb8 hb9 ho9 HI7 HI8 HCA HCB HI6 HJ5 hE6
 obtain ⟨⟨a9,c9,rfl,_,_,h38⟩,_,hrg⟩:=hi9
 rcases X with _|⟨y,X⟩
 ·have hnone:∀ x,0≤x→¬ ¬ (qa.mem x↔qb.mem x):=sel_none (Int.le_refl 0) hL0 HPF.out (by rw [show max st 0+L=st+L from by omega];exact HX.out.symm)
  have HNO:=Lib.hid hnone
  clear hnone h38 hrg
  go_wp2_with fail
  go_ret2
  exact ⟨0,false,rfl,.inr ⟨rfl,rfl,fun x hx=>Classical.not_not.1 (HNO.out x hx)⟩,hE9⟩
 ·have hh:=sel_head (Int.le_refl 0) HX.out.symm
  have HH:=Lib.hid hh
  rcases h38 with h38|⟨b8,f8,rfl,hcell⟩
  ·simp at h38
  have hcl:=hcell 0 (by simp)
  simp only [List.getD_cons_zero,Nat.add_zero] at hcl
  have hlz:(((y :: X).length:Int) == 0)=false:=by rw [beq_eq_false_iff_ne];simp;omega
  have hlp:0<(y :: X).length:=by simp
  have hlq:(0:Int)<((y :: X).length:Int):=by have:=hlp;omega
  clear HC3 l5 HX
  generalize (y :: X).length=len at *
  clear hh hcell hrg
  go_wp2_with fail
  go_ret2
  exact ⟨y,true,rfl,.inl ⟨rfl,HH.out.1,HH.out.2.2.1,fun x h1 h2=>Classical.not_not.1 (HH.out.2.2.2 x h1 h2)⟩,hE9⟩
end Go.Proofs.YtjilkhhokkncoaaGreat
