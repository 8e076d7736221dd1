/- Walk: the law MixedAlgebra. -/
import Derived.Test.YthjnojbeimchdaaGreatBxSupWalkLa
import Derived.Test.YthjnojbeimchdaaGreatB12
set_option linter.unusedVariables false
set_option linter.unusedSimpArgs false
namespace Go.Proofs.YthjnojbeimchdaaGreat
open Go.RowKit Go.Maps Kal
theorem alg_or {s:Int} {a b m:List (List Per)} (ha:MV s a) (hb:MV s b) (hm:MV s m) {n:Int} (h:mmem m n↔mmem a n∨mmem b n):hasM m n=(hasM a n || hasM b n):=by
 rw [Bool.eq_iff_iff,Bool.or_eq_true,hasM_iff ha,hasM_iff hb,hasM_iff hm];exact h
theorem alg_and {s:Int} {a b m:List (List Per)} (ha:MV s a) (hb:MV s b) (hm:MV s m) {n:Int} (h:mmem m n↔mmem a n∧mmem b n):hasM m n=(hasM a n && hasM b n):=by
 rw [Bool.eq_iff_iff,Bool.and_eq_true,hasM_iff ha,hasM_iff hb,hasM_iff hm];exact h
theorem alg_minus {s:Int} {a b m:List (List Per)} (ha:MV s a) (hb:MV s b) (hm:MV s m) {n:Int} (h:mmem m n↔mmem a n∧¬ mmem b n):hasM m n=(hasM a n && !hasM b n):=by
 rw [Bool.eq_iff_iff,Bool.and_eq_true,Bool.not_eq_true',hasM_iff ha,hasM_iff hm,h,← hasM_iff hb];simp
theorem alg_neg {s:Int} {a:List (List Per)} (ha:MV s a) {n:Int} (h:hasM a n=true):0≤n:=by
 obtain ⟨t,ht,h1⟩:=(hasM_iff ha).1 h
 exact tmem_nonneg (ha.vt t ht).ne h1
set_option maxRecDepth 100000 in
set_option maxHeartbeats 4000000 in
theorem MixedAlgebra_any (v0:Value) (n0:Nat) (v1:Value) (n1:Nat) (d:Int) (w:World) (h0:ByteRows w v0 n0) (h1:ByteRows w v1 n1) (d0:-9223372036854775808≤d) (d1:d≤9223372036854775807) :
  Calls Tryz.prog 5 #[v0,v1,.int .i64 d] w fun e w'=>e=.returned (.bool true)∧Below w.heap.size w w':=by
 have H0:=Lib.hid h0
 have H1:=Lib.hid h1
 clear h0 h1
 go_enter Tryz.func5,Tryz.ntmps5
 go_upto_region 4 with (first|(go_at_call 13;refine (sanity_any _).mono ?_;rintro e u1 ⟨rfl,k1⟩)|(go_at_call 14;first|((with_reducible refine (Made_any v0 n0 _ (H0.out.ext (by (repeat' (with_reducible first|assumption|apply Er|apply Ea|apply Ed|apply En|(refine Es ?_ (by first|(simp<;>omega)|omega) _)|refine Et ?_ (by assumption)))))).mono ?_);rintro e u2 ⟨mA,aA,cA,rfl,xA,dA,k2⟩)|((with_reducible refine (Made_any v1 n1 _ (H1.out.ext (by (repeat' (with_reducible first|assumption|apply Er|apply Ea|apply Ed|apply En|(refine Es ?_ (by first|(simp<;>omega)|omega) _)|refine Et ?_ (by assumption)))))).mono ?_);rintro e u3 ⟨mB,aB,cB,rfl,xB,dB,k3⟩)))
 refine wp_abs (F:=fun U=>MSets U [(u3.heap.size,mB.length,mB),(u2.heap.size,mA.length,mA)]∧Below w.heap.size w U) ⟨MSets.cons ⟨aB,cB,by (repeat' (first|(refine Bxx.at ?_;simp;done)|refine Bxx.alloc ?_ _)),(xB.mono fun _ _=>trivial).ext (by (repeat' (with_reducible first|assumption|apply Er|apply Ea|apply Ed|apply En|(refine Es ?_ (by first|(simp<;>omega)|omega) _)|refine Et ?_ (by assumption))))⟩ (MSets.cons ⟨aA,cA,((Bxx.new u2 _ _).below k3).alloc _,(xA.mono fun _ _=>trivial).ext (by (repeat' (with_reducible first|assumption|apply Er|apply Ea|apply Ed|apply En|(refine Es ?_ (by first|(simp<;>omega)|omega) _)|refine Et ?_ (by assumption))))⟩ (MSets.nil _)),by (repeat' (with_reducible first|assumption|apply Er|apply Ea|apply Ed|apply En|(refine Es ?_ (by first|(simp<;>omega)|omega) _)|refine Et ?_ (by assumption)))⟩ ?_
 clear k1 k2 k3 xA xB
 have HA:=Lib.hid dA
 have HB:=Lib.hid dB
 clear dA dB
 generalize u2.heap.size=b8 at *
 generalize u3.heap.size=b9 at *
 rintro W3 ⟨hS,hE⟩
 obtain ⟨aA5,cA5,gA,xA⟩:=hS.at 1 rfl
 obtain ⟨aB5,cB5,gB,xB⟩:=hS.at 0 rfl
 have q8:=gA.c0
 have q9:=gB.c0
 go_upto_region 5 with (go_at_call 21;go_loud (refine (or_law 0 _ _ (.slice aA5 mA.length cA5) (.slice aB5 mB.length cB5) mA mB _ xA xB HA.out.mv HB.out.mv).mono ?_;rintro e uR hR;obtain ⟨aR5,cR5,k5,m5,rfl,xR,kR,hk5,hm5⟩:=hR;have hkk5:-9223372036854775808≤k5∧k5≤9223372036854775807:=by omega))
 refine wp_abs (F:=fun U=>MSets U ((uR.heap.size,m5.length,m5) :: [(b9,mB.length,mB),(b8,mA.length,mA)])∧Below w.heap.size w U) ⟨MSets.cons ⟨aR5,cR5,by (repeat' (first|(refine Bxx.at ?_;simp;done)|refine Bxx.alloc ?_ _)),xR.ext (by (repeat' (with_reducible first|assumption|apply Er|apply Ea|apply Ed|apply En|(refine Es ?_ (by first|(simp<;>omega)|omega) _)|refine Et ?_ (by assumption))))⟩ (hS.below (by (repeat' (with_reducible first|assumption|apply Er|apply Ea|apply Ed|apply En|(refine Es ?_ (by first|(simp<;>omega)|omega) _)|refine Et ?_ (by assumption))))),by (repeat' (with_reducible first|assumption|apply Er|apply Ea|apply Ed|apply En|(refine Es ?_ (by first|(simp<;>omega)|omega) _)|refine Et ?_ (by assumption)))⟩ ?_
 have HM5:=Lib.hid hm5
 clear hS hE gA gB xA xB q8 q9 xR kR hm5
 generalize uR.heap.size=b5 at *
 rintro W5 ⟨hS,hE⟩
 obtain ⟨aA6,cA6,gA,xA⟩:=hS.at 2 rfl
 obtain ⟨aB6,cB6,gB,xB⟩:=hS.at 1 rfl
 have q8:=gA.c0
 have q9:=gB.c0
 go_upto_region 6 with (go_at_call 22;go_loud (refine (and_law 0 _ _ (.slice aA6 mA.length cA6) (.slice aB6 mB.length cB6) mA mB _ xA xB HA.out.mv HB.out.mv).mono ?_;rintro e uR hR;obtain ⟨aR6,cR6,k6,m6,rfl,xR,kR,hk6,hm6⟩:=hR;have hkk6:-9223372036854775808≤k6∧k6≤9223372036854775807:=by omega))
 refine wp_abs (F:=fun U=>MSets U ((uR.heap.size,m6.length,m6) :: [(b5,m5.length,m5),(b9,mB.length,mB),(b8,mA.length,mA)])∧Below w.heap.size w U) ⟨MSets.cons ⟨aR6,cR6,by (repeat' (first|(refine Bxx.at ?_;simp;done)|refine Bxx.alloc ?_ _)),xR.ext (by (repeat' (with_reducible first|assumption|apply Er|apply Ea|apply Ed|apply En|(refine Es ?_ (by first|(simp<;>omega)|omega) _)|refine Et ?_ (by assumption))))⟩ (hS.below (by (repeat' (with_reducible first|assumption|apply Er|apply Ea|apply Ed|apply En|(refine Es ?_ (by first|(simp<;>omega)|omega) _)|refine Et ?_ (by assumption))))),by (repeat' (with_reducible first|assumption|apply Er|apply Ea|apply Ed|apply En|(refine Es ?_ (by first|(simp<;>omega)|omega) _)|refine Et ?_ (by assumption)))⟩ ?_
 have HM6:=Lib.hid hm6
 clear hS hE gA gB xA xB q8 q9 xR kR hm6
 generalize uR.heap.size=b6 at *
 rintro W6 ⟨hS,hE⟩
 obtain ⟨aA7,cA7,gA,xA⟩:=hS.at 3 rfl
 obtain ⟨aB7,cB7,gB,xB⟩:=hS.at 2 rfl
 have q8:=gA.c0
 have q9:=gB.c0
 go_upto_region 7 with (go_at_call 23;go_loud (refine (minus_law 0 _ _ (.slice aA7 mA.length cA7) (.slice aB7 mB.length cB7) mA mB _ xA xB HA.out.mv HB.out.mv).mono ?_;rintro e uR hR;obtain ⟨aR7,cR7,k7,m7,rfl,xR,kR,hk7,hm7⟩:=hR;have hkk7:-9223372036854775808≤k7∧k7≤9223372036854775807:=by omega))
 refine wp_abs (F:=fun U=>MSets U ((uR.heap.size,m7.length,m7) :: [(b6,m6.length,m6),(b5,m5.length,m5),(b9,mB.length,mB),(b8,mA.length,mA)])∧Below w.heap.size w U) ⟨MSets.cons ⟨aR7,cR7,by (repeat' (first|(refine Bxx.at ?_;simp;done)|refine Bxx.alloc ?_ _)),xR.ext (by (repeat' (with_reducible first|assumption|apply Er|apply Ea|apply Ed|apply En|(refine Es ?_ (by first|(simp<;>omega)|omega) _)|refine Et ?_ (by assumption))))⟩ (hS.below (by (repeat' (with_reducible first|assumption|apply Er|apply Ea|apply Ed|apply En|(refine Es ?_ (by first|(simp<;>omega)|omega) _)|refine Et ?_ (by assumption))))),by (repeat' (with_reducible first|assumption|apply Er|apply Ea|apply Ed|apply En|(refine Es ?_ (by first|(simp<;>omega)|omega) _)|refine Et ?_ (by assumption)))⟩ ?_
 have HM7:=Lib.hid hm7
 clear hS hE gA gB xA xB q8 q9 xR kR hm7
 generalize uR.heap.size=b7 at *
 rintro W7 ⟨hS,hE⟩
 obtain ⟨aA8,cA8,gA,xA⟩:=hS.at 4 rfl
 obtain ⟨aB8,cB8,gB,xB⟩:=hS.at 3 rfl
 obtain ⟨a5,c5,g5,x5⟩:=hS.at 2 rfl
 obtain ⟨a6,c6,g6,x6⟩:=hS.at 1 rfl
 obtain ⟨a7,c7,g7,x7⟩:=hS.at 0 rfl
 have HHA:=Lib.hid (fun W (h:Below W7.heap.size W7 W)=>mhas_any _ (.slice aA8 mA.length cA8) mA d W (xA.ext h) ⟨d0,d1⟩)
 have HHB:=Lib.hid (fun W (h:Below W7.heap.size W7 W)=>mhas_any _ (.slice aB8 mB.length cB8) mB d W (xB.ext h) ⟨d0,d1⟩)
 have HH5:=Lib.hid (fun (h0:k5=0) W (h:Below W7.heap.size W7 W)=>by have h2:=mhas_any _ (.slice a5 m5.length c5) m5 d W (x5.ext h) ⟨d0,d1⟩;rw [alg_or HA.out.mv HB.out.mv (HM5.out h0).1 ((HM5.out h0).2 d)] at h2;exact h2)
 have HH6:=Lib.hid (fun (h0:k6=0) W (h:Below W7.heap.size W7 W)=>by have h2:=mhas_any _ (.slice a6 m6.length c6) m6 d W (x6.ext h) ⟨d0,d1⟩;rw [alg_and HA.out.mv HB.out.mv (HM6.out h0).1 ((HM6.out h0).2 d)] at h2;exact h2)
 have HH7:=Lib.hid (fun (h0:k7=0) W (h:Below W7.heap.size W7 W)=>by have h2:=mhas_any _ (.slice a7 m7.length c7) m7 d W (x7.ext h) ⟨d0,d1⟩;rw [alg_minus HA.out.mv HB.out.mv (HM7.out h0).1 ((HM7.out h0).2 d)] at h2;exact h2)
 have hneg:=fun h=>alg_neg (n:=d) HA.out.mv h
 have q8:=gA.c0
 have G5:=Lib.hid g5
 have G6:=Lib.hid g6
 have G7:=Lib.hid g7
 have GB:=Lib.hid gB
 clear hS gA gB g5 g6 g7 xA xB x5 x6 x7 HM5 HM6 HM7 HA HB hkk5 hkk6 hkk7
 generalize hasM mA d=l at *
 generalize hasM mB d=r at *
 rcases hk5 with rfl|rfl <;> rcases hk6 with rfl|rfl <;> rcases hk7 with rfl|rfl <;> cases l <;> cases r
 all_goals
  (try have hd0:=hneg rfl)
  clear hneg
  go_wp2_with (go_at_call 19;first
   | ((with_reducible refine (HHA.out _ (by (repeat' (with_reducible first|assumption|apply Er|apply Ea|apply Ed|apply En|(refine Es ?_ (by first|(simp<;>omega)|omega) _)|refine Et ?_ (by assumption))))).mono ?_);rintro e u1 ⟨rfl,j1⟩;have q9:=(GB.out.below j1).c0)
   | ((with_reducible refine (HHB.out _ (by (repeat' (with_reducible first|assumption|apply Er|apply Ea|apply Ed|apply En|(refine Es ?_ (by first|(simp<;>omega)|omega) _)|refine Et ?_ (by assumption))))).mono ?_);rintro e u2 ⟨rfl,j2⟩;have hb2:Below W7.heap.size W7 u2:=(by (repeat' (with_reducible first|assumption|apply Er|apply Ea|apply Ed|apply En|(refine Es ?_ (by first|(simp<;>omega)|omega) _)|refine Et ?_ (by assumption))));have q5:=(G5.out.below hb2).c0;have q6:=(G6.out.below hb2).c0;have q7:=(G7.out.below hb2).c0)
   | ((with_reducible refine (HH5.out (by simp) _ (by (repeat' (with_reducible first|assumption|apply Er|apply Ea|apply Ed|apply En|(refine Es ?_ (by first|(simp<;>omega)|omega) _)|refine Et ?_ (by assumption))))).mono ?_);rintro e u3 ⟨rfl,j3⟩;have hb3:Below W7.heap.size W7 u3:=(by (repeat' (with_reducible first|assumption|apply Er|apply Ea|apply Ed|apply En|(refine Es ?_ (by first|(simp<;>omega)|omega) _)|refine Et ?_ (by assumption))));have p6:=(G6.out.below hb3).c0;have p7:=(G7.out.below hb3).c0)
   | ((with_reducible refine (HH6.out (by simp) _ (by (repeat' (with_reducible first|assumption|apply Er|apply Ea|apply Ed|apply En|(refine Es ?_ (by first|(simp<;>omega)|omega) _)|refine Et ?_ (by assumption))))).mono ?_);rintro e u4 ⟨rfl,j4⟩;have hb4:Below W7.heap.size W7 u4:=(by (repeat' (with_reducible first|assumption|apply Er|apply Ea|apply Ed|apply En|(refine Es ?_ (by first|(simp<;>omega)|omega) _)|refine Et ?_ (by assumption))));have t7:=(G7.out.below hb4).c0)
   | ((with_reducible refine (HH7.out (by simp) _ (by (repeat' (with_reducible first|assumption|apply Er|apply Ea|apply Ed|apply En|(refine Es ?_ (by first|(simp<;>omega)|omega) _)|refine Et ?_ (by assumption))))).mono ?_);rintro e u5 ⟨rfl,j5⟩))
 all_goals
  go_ret
  exact ⟨rfl,by (repeat' (with_reducible first|assumption|apply Er|apply Ea|apply Ed|apply En|(refine Es ?_ (by first|(simp<;>omega)|omega) _)|refine Et ?_ (by assumption)))⟩
end Go.Proofs.YthjnojbeimchdaaGreat
