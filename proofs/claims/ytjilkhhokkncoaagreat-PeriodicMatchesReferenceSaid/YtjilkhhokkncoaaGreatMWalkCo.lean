/- Walks: common (package kalendsref04). -/
import Derived.Test.YtjilkhhokkncoaaGreatMWalkRx
import Derived.Test.YtjilkhhokkncoaaGreatMMathQ
import Derived.Deep.RegionHeld3
set_option linter.unusedVariables false
set_option linter.unusedSimpArgs false
namespace Go.Proofs.YtjilkhhokkncoaaGreat
open Go.RowKit Go.Maps Kal
def ComRes (qa qb:Per) (w:World) (e:Ending) (w':World):Prop:=
 ∃ x1 x2 x3 x4:Value,e=.returned (.tuple #[perV x1 x2 qa.frm qa.period,perV x3 x4 qb.frm qb.period,.int .i64 (max qa.frm qb.frm),.int .i64 (lcmI qa.period qb.period)])∧POx w' w.heap.size x1 x2 qa∧POx w' w.heap.size x3 x4 qb∧Below w.heap.size w w'
set_option maxRecDepth 100000 in
set_option maxHeartbeats 4000000 in
theorem Rcommon_ok (h1 c1 h2 c2:Value) (p1 p2 qa qb:Per) (w:World) (hp1:PerIs w h1 c1 p1) (hp2:PerIs w h2 c2 p2) (hv1:Valid p1) (hv2:Valid p2) (hqa:IsCanon qa p1.mem) (hqb:IsCanon qb p2.mem) (hl:lcmI qa.period qb.period≤1099511627776) :
  Calls Tryz.prog 63 #[perV h1 c1 p1.frm p1.period,perV h2 c2 p2.frm p2.period] w (ComRes qa qb w):=by
 obtain ⟨a1,m1,a2,m2,rfl,rfl⟩:=hp1.inn.form
 obtain ⟨a3,m3,a4,m4,rfl,rfl⟩:=hp2.inn.form
 have hl1:∀ W,Below w.heap.size w W→PerIs W (.slice a1 p1.head.length m1) (.slice a2 p1.cycle.length m2) p1:=fun W hb=>hp1.ext hb
 have hl2:∀ W,Below w.heap.size w W→PerIs W (.slice a3 p2.head.length m3) (.slice a4 p2.cycle.length m4) p2:=fun W hb=>hp2.ext hb
 have HV1:=Lib.hid hv1
 have HV2:=Lib.hid hv2
 have HQA:=Lib.hid hqa
 have HQB:=Lib.hid hqb
 obtain ⟨b1,b2,_,b4,b5⟩:=hqa.smaller hv1.wf
 obtain ⟨d1,d2,_,d4,d5⟩:=hqb.smaller hv2.wf
 have za0:=hqa.wf.frm
 have zb0:=hqb.wf.frm
 have za1:=hqa.wf.per
 have zb1:=hqb.wf.per
 have e1:=hv1.frm
 have e2:=hv1.per
 have e3:=hv2.frm
 have e4:=hv2.per
 clear hp1 hp2 hv1 hv2 hqa hqb
 obtain ⟨g,hg⟩:∃ g,g=((Int.gcd qa.period qb.period:Nat):Int):=⟨_,rfl⟩
 obtain ⟨n,hn⟩:∃ n,n=qa.period / g:=⟨_,rfl⟩
 obtain ⟨L,hL⟩:∃ L,L=lcmI qa.period qb.period:=⟨_,rfl⟩
 obtain ⟨st,hst⟩:∃ st,st=max qa.frm qb.frm:=⟨_,rfl⟩
 have hLn:n*qb.period=L:=by rw [hL,hn,hg];rfl
 have hgb:1≤g:=by rw [hg];exact (gcd_bound za1).1
 have hn0:0≤n:=by rw [hn];exact Int.ediv_nonneg (by omega) (by omega)
 have hnq:n≤qa.period:=by rw [hn];exact Int.ediv_le_self _ (by omega)
 have hL0:1≤L:=by rw [hL];exact lcmI_pos za1 zb1
 rw [← hL] at hl
 obtain ⟨M,hM⟩:∃ M,M=1099511627776 / qb.period:=⟨_,rfl⟩
 have hnM:n≤M:=by rw [hM];exact Int.le_ediv_of_mul_le (by omega) (by rw [hLn];exact hl)
 have HGD:Hid (((Int.gcd qa.period qb.period:Nat):Int)=g):=Lib.hid hg.symm
 have HLL:=Lib.hid hL
 have HST:=Lib.hid hst
 have hgz:¬ g=0:=by omega
 have hpz:¬ qb.period=0:=by omega
 have htd:qa.period.tdiv g=n:=by rw [Int.tdiv_eq_ediv_of_nonneg (by omega)];exact hn.symm
 have htm:(1099511627776:Int).tdiv qb.period=M:=by rw [Int.tdiv_eq_ediv_of_nonneg (by omega)];exact hM.symm
 have hM1:M≤1099511627776:=by rw [hM];exact Int.ediv_le_self _ (by omega)
 have hst1:0≤st∧st≤1099511627776:=by omega
 clear hg hn hL hM hst
 go_enter Tryz.func63,Tryz.ntmps63
 go_upto_region 1 with (fail)
 refine wp_abs (F:=fun U=>Bxx U w.heap.size #[.slice a1 p1.head.length m1,.int .i64 p1.frm,.int .i64 p1.period,.slice a2 p1.cycle.length m2] 24∧Bxx U (w.heap.size+1) #[.slice a3 p2.head.length m3,.int .i64 p2.frm,.int .i64 p2.period,.slice a4 p2.cycle.length m4] 24∧Bxx U (w.heap.size+1+1) #[.slice none 0 0,.int .i64 0,.int .i64 0,.slice none 0 0] 24∧Bxx U (w.heap.size+1+1+1) #[.slice none 0 0,.int .i64 0,.int .i64 0,.slice none 0 0] 24∧w.heap.size+3<U.heap.size∧Below w.heap.size w U) ⟨by (repeat' (first|(refine Bxx.at ?_;simp;done)|refine Bxx.alloc ?_ _)),by (repeat' (first|(refine Bxx.at ?_;simp;done)|refine Bxx.alloc ?_ _)),by (repeat' (first|(refine Bxx.at ?_;simp;done)|refine Bxx.alloc ?_ _)),by (repeat' (first|(refine Bxx.at ?_;simp;done)|refine Bxx.alloc ?_ _)),by simp;try omega,by (repeat' (with_reducible first|assumption|apply Er|apply Ea|apply Ed|apply En|(refine Es ?_ (by first|(simp<;>omega)|omega) _)|refine Et ?_ (by assumption)))⟩ ?_
 rintro W1 ⟨hA,hB,hZ1,hZ2,hz1,hE⟩
 have A0:W1.cell? ⟨w.heap.size,0,none⟩=some (.slice a1 p1.head.length m1):=(hA.cells 0).1
 have A1:W1.cell? ⟨w.heap.size,1,none⟩=some (.int .i64 p1.frm):=(hA.cells 1).1
 have A2:W1.cell? ⟨w.heap.size,2,none⟩=some (.int .i64 p1.period):=(hA.cells 2).1
 have A3:W1.cell? ⟨w.heap.size,3,none⟩=some (.slice a2 p1.cycle.length m2):=(hA.cells 3).1
 go_upto_region 2 with (go_at_call 7;refine (RCanon_ok _ _ p1 qa _ (hl1 _ (by (repeat' (with_reducible first|assumption|apply Er|apply Ea|apply Ed|apply En|(refine Es ?_ (by first|(simp<;>omega)|omega) _)|refine Et ?_ (by assumption))))) HV1.out HQA.out).mono ?_;rintro e u1 ⟨x1,x2,rfl,ho1,hb1⟩;obtain ⟨a5,m5,a6,m6,rfl,rfl⟩:=ho1.form)
 generalize hu1:u1.heap.size=bA at *
 have hzA:W1.heap.size≤bA:=by have:=hb1.size;omega
 refine wp_abs (F:=fun U=>Bxx U bA #[.slice a5 qa.head.length m5,.int .i64 qa.frm,.int .i64 qa.period,.slice a6 qa.cycle.length m6] 24∧POx U W1.heap.size (.slice a5 qa.head.length m5) (.slice a6 qa.cycle.length m6) qa∧Bxx U (w.heap.size+1) #[.slice a3 p2.head.length m3,.int .i64 p2.frm,.int .i64 p2.period,.slice a4 p2.cycle.length m4] 24∧Bxx U (w.heap.size+1+1) #[.slice none 0 0,.int .i64 0,.int .i64 0,.slice none 0 0] 24∧Bxx U (w.heap.size+1+1+1) #[.slice none 0 0,.int .i64 0,.int .i64 0,.slice none 0 0] 24∧Below W1.heap.size W1 U)
  ⟨Bxx.at hu1.symm,ho1.ext (by (repeat' (with_reducible first|assumption|apply Er|apply Ea|apply Ed|apply En|(refine Es ?_ (by first|(simp<;>omega)|omega) _)|refine Et ?_ (by assumption)))),(hB.below hb1).alloc _,(hZ1.below hb1).alloc _,(hZ2.below hb1).alloc _,by (repeat' (with_reducible first|assumption|apply Er|apply Ea|apply Ed|apply En|(refine Es ?_ (by first|(simp<;>omega)|omega) _)|refine Et ?_ (by assumption)))⟩ ?_
 clear hA A0 A1 A2 A3 ho1 hb1 hB hZ1 hZ2 hu1
 rintro W2 ⟨hqA,ho1,hB,hZ1,hZ2,hb1⟩
 have hE2:Below w.heap.size w W2:=by (repeat' (with_reducible first|assumption|apply Er|apply Ea|apply Ed|apply En|(refine Es ?_ (by first|(simp<;>omega)|omega) _)|refine Et ?_ (by assumption)))
 have B0:W2.cell? ⟨w.heap.size+1,0,none⟩=some (.slice a3 p2.head.length m3):=(hB.cells 0).1
 have B1:W2.cell? ⟨w.heap.size+1,1,none⟩=some (.int .i64 p2.frm):=(hB.cells 1).1
 have B2:W2.cell? ⟨w.heap.size+1,2,none⟩=some (.int .i64 p2.period):=(hB.cells 2).1
 have B3:W2.cell? ⟨w.heap.size+1,3,none⟩=some (.slice a4 p2.cycle.length m4):=(hB.cells 3).1
 go_upto_region 3 with (go_at_call 7;refine (RCanon_ok _ _ p2 qb _ (hl2 _ (by (repeat' (with_reducible first|assumption|apply Er|apply Ea|apply Ed|apply En|(refine Es ?_ (by first|(simp<;>omega)|omega) _)|refine Et ?_ (by assumption))))) HV2.out HQB.out).mono ?_;rintro e u2 ⟨x3,x4,rfl,ho2,hb2⟩;obtain ⟨a7,m7,a8,m8,rfl,rfl⟩:=ho2.form)
 generalize hu2:u2.heap.size=bB at *
 have hlA:=hqA.lt
 have hzB:W2.heap.size≤bB:=by have:=hb2.size;omega
 have hzC:W1.heap.size≤W2.heap.size:=hb1.size
 refine wp_abs (F:=fun U=>Bxx U bA #[.slice a5 qa.head.length m5,.int .i64 qa.frm,.int .i64 qa.period,.slice a6 qa.cycle.length m6] 24∧Bxx U bB #[.slice a7 qb.head.length m7,.int .i64 qb.frm,.int .i64 qb.period,.slice a8 qb.cycle.length m8] 24∧POx U W1.heap.size (.slice a5 qa.head.length m5) (.slice a6 qa.cycle.length m6) qa∧POx U W1.heap.size (.slice a7 qb.head.length m7) (.slice a8 qb.cycle.length m8) qb∧Bxx U (w.heap.size+1+1) #[.slice none 0 0,.int .i64 0,.int .i64 0,.slice none 0 0] 24∧Bxx U (w.heap.size+1+1+1) #[.slice none 0 0,.int .i64 0,.int .i64 0,.slice none 0 0] 24∧Below w.heap.size w U)
  ⟨(hqA.below hb2).alloc _,Bxx.at hu2.symm,ho1.ext (by (repeat' (with_reducible first|assumption|apply Er|apply Ea|apply Ed|apply En|(refine Es ?_ (by first|(simp<;>omega)|omega) _)|refine Et ?_ (by assumption)))),(ho2.ext (by (repeat' (with_reducible first|assumption|apply Er|apply Ea|apply Ed|apply En|(refine Es ?_ (by first|(simp<;>omega)|omega) _)|refine Et ?_ (by assumption))))).mono hzC,(hZ1.below hb2).alloc _,(hZ2.below hb2).alloc _,by (repeat' (with_reducible first|assumption|apply Er|apply Ea|apply Ed|apply En|(refine Es ?_ (by first|(simp<;>omega)|omega) _)|refine Et ?_ (by assumption)))⟩ ?_
 clear hqA ho1 ho2 hb1 hb2 hB hZ1 hZ2 hu2 hE2 B0 B1 B2 B3 hE
 rintro W3 ⟨hqA,hqB,ho1,ho2,hZ1,hZ2,hE3⟩
 have HO1:=Lib.hid ho1
 have HO2:=Lib.hid ho2
 have HZ1:=Lib.hid hZ1
 have HZ2:=Lib.hid hZ2
 have HE3:=Lib.hid hE3
 have A0:W3.cell? ⟨bA,0,none⟩=some (.slice a5 qa.head.length m5):=(hqA.cells 0).1
 have A1:W3.cell? ⟨bA,1,none⟩=some (.int .i64 qa.frm):=(hqA.cells 1).1
 have A2:W3.cell? ⟨bA,2,none⟩=some (.int .i64 qa.period):=(hqA.cells 2).1
 have A3:W3.cell? ⟨bA,3,none⟩=some (.slice a6 qa.cycle.length m6):=(hqA.cells 3).1
 have B0:W3.cell? ⟨bB,0,none⟩=some (.slice a7 qb.head.length m7):=(hqB.cells 0).1
 have B1:W3.cell? ⟨bB,1,none⟩=some (.int .i64 qb.frm):=(hqB.cells 1).1
 have B2:W3.cell? ⟨bB,2,none⟩=some (.int .i64 qb.period):=(hqB.cells 2).1
 have B3:W3.cell? ⟨bB,3,none⟩=some (.slice a8 qb.cycle.length m8):=(hqB.cells 3).1
 clear hqA hqB ho1 ho2 hZ1 hZ2 hE3
 go_quiet ((go_at_call 91;(first|exact quiet_same ((Rgcd_any _ _ _ (by omega) (by omega) (by omega) (by omega)).mono (fun e w' h=>⟨by rw [HGD.out] at h;exact h.1,h.2⟩))|exact quiet_add_left ((Rgcd_any _ _ _ (by omega) (by omega) (by omega) (by omega)).mono (fun e w' h=>⟨by rw [HGD.out] at h;exact h.1,h.2⟩)))))
 have HMX:Hid (max qa.frm qb.frm=st):=Lib.hid HST.out.symm
 have HNL:Hid (n*qb.period=L):=Lib.hid hLn
 have dM:decide (M<n)=false:=by simp;omega
 have hLI:InI L:=⟨by omega,by omega⟩
 obtain ⟨W4,hW4⟩:∃ W4,W4=W3.drewN nq:=⟨_,rfl⟩
 have hb4:Below W3.heap.size W3 W4:=by rw [hW4];exact En (Er _) _
 rw [← hW4]
 have HB4:=Lib.hid hb4
 replace A0:=cux A0 hb4
 replace A1:=cux A1 hb4
 replace A2:=cux A2 hb4
 replace A3:=cux A3 hb4
 replace B0:=cux B0 hb4
 replace B1:=cux B1 hb4
 replace B2:=cux B2 hb4
 replace B3:=cux B3 hb4
 clear hb4 hW4
 apply_assumption
 go_upto_region 6 with (fail)
 have hb4:=HB4.out
 have hz1:=HZ1.out.below hb4
 have hz2:=HZ2.out.below hb4
 have r0:=hz1.cells 0
 have r1:=hz1.cells 1
 have r2:=hz1.cells 2
 have r3:=hz1.cells 3
 have s0:=hz2.cells 0
 have s1:=hz2.cells 1
 have s2:=hz2.cells 2
 have s3:=hz2.cells 3
 have hlz1:=hz1.lt
 have hlz2:=hz2.lt
 have hmx:=HMX.out
 have hwl:IntKind.i64.wrap (n*qb.period)=L:=by rw [HNL.out];exact wrapI hLI
 have hwL:IntKind.i64.wrap L=L:=wrapI hLI
 have hne1:bA≠w.heap.size+1+1:=by omega
 have hne2:bA≠w.heap.size+1+1+1:=by omega
 have hne3:bB≠w.heap.size+1+1:=by omega
 have hne4:bB≠w.heap.size+1+1+1:=by omega
 clear hz1 hz2 hb4
 have HO5:Hid (POx W4 W1.heap.size (.slice a5 qa.head.length m5) (.slice a6 qa.cycle.length m6) qa):=Lib.hid (HO1.out.ext HB4.out)
 have HO6:Hid (POx W4 W1.heap.size (.slice a7 qb.head.length m7) (.slice a8 qb.cycle.length m8) qb):=Lib.hid (HO2.out.ext HB4.out)
 have hE4:Below w.heap.size w W4:=HE3.out.trans (HB4.out.mono HE3.out.size)
 go_region_held3 (fun w'=>w'.cell? ⟨bA,0,none⟩=some (.slice a5 qa.head.length m5)∧w'.cell? ⟨bA,1,none⟩=some (.int .i64 qa.frm)∧w'.cell? ⟨bA,2,none⟩=some (.int .i64 qa.period)∧w'.cell? ⟨bA,3,none⟩=some (.slice a6 qa.cycle.length m6)∧w'.cell? ⟨bB,0,none⟩=some (.slice a7 qb.head.length m7)∧w'.cell? ⟨bB,1,none⟩=some (.int .i64 qb.frm)∧w'.cell? ⟨bB,2,none⟩=some (.int .i64 qb.period)∧w'.cell? ⟨bB,3,none⟩=some (.slice a8 qb.cycle.length m8)) ((go_split_ands;repeat' (with_reducible first|assumption|refine cell_set_ne ?_ ?_ _|refine cell_alloc_at ?_ _|refine cell_drew ?_|exact Ext.cell (by assumption) (by assumption)|apply And.intro|(exact Below.cell' (by assumption) (by assumption) (by first|(simp;done)|(simp;omega)|omega))|(refine Below.cell' (by assumption) ?_ (by first|(simp;done)|(simp;omega)|omega))|omega|(simp;done)|(simp;omega)))) (fail)
 all_goals
  go_wp2_with fail
  exact bodyPost_ret (v:=.tuple #[perV (.slice a5 qa.head.length m5) (.slice a6 qa.cycle.length m6) qa.frm qa.period,perV (.slice a7 qb.head.length m7) (.slice a8 qb.cycle.length m8) qb.frm qb.period,.int .i64 st,.int .i64 L]) (by simp [results,Tryz.results63,go_sem, *]) rfl
   ⟨_,_,_,_,by rw [HMX.out,← HLL.out],(HO5.out.above (by (repeat' (with_reducible first|exact Above.refl _ _|refine Above.alloc ?_ _|refine Above.drew ?_|refine Above.drewN ?_ _|refine Above.setCell ?_ (by first|(simp;done)|(simp;omega)|omega) _)))).mono (by omega),(HO6.out.above (by (repeat' (with_reducible first|exact Above.refl _ _|refine Above.alloc ?_ _|refine Above.drew ?_|refine Above.drewN ?_ _|refine Above.setCell ?_ (by first|(simp;done)|(simp;omega)|omega) _)))).mono (by omega),by (repeat' (with_reducible first|assumption|apply Er|apply Ea|apply Ed|apply En|(refine Es ?_ (by first|(simp<;>omega)|omega) _)|refine Et ?_ (by assumption)))⟩
end Go.Proofs.YtjilkhhokkncoaaGreat
