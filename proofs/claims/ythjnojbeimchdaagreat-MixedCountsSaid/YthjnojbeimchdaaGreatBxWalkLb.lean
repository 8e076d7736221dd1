/- Walk: the law MixedCounts. -/
import Derived.Test.YthjnojbeimchdaaGreatBxSupWalkLb
import Derived.Test.YthjnojbeimchdaaGreatB12
set_option linter.unusedVariables false
set_option linter.unusedSimpArgs false
namespace Go.Proofs.YthjnojbeimchdaaGreat
open Go.RowKit Go.Maps Kal
theorem below_gap {p:Per} (hp:p.WF) {a:Int} (h0:0≤a):∀ (n:Nat),(∀ x,a≤x→x<a+n→¬ p.mem x)→belowI p (a+n)=belowI p a
 | 0,_=>by simp
 | n+1,h=>by
  have h1:=below_gap hp h0 n fun x hx hy=>h x hx (by omega)
  have h2:=belowI_step hp (show 0≤a+n by omega)
  rw [if_neg (h _ (by omega) (by omega)),h1] at h2
  rw [show a+((n+1:Nat):Int)=a+n+1 by omega];omega
theorem join_mem {m:List (List Per)} (h:MV 0 m) (n:Int):(joinF perE m).mem n↔mmem m n:=by
 have hf:=perE_fv (s:=0) (Int.le_refl _)
 rw [(joinF_ok hf.fac h.f).2.1 n]
 exact ⟨fun h=>h.elim (fun h=>absurd h (perE_mem n)) id,.inr⟩
theorem cnt_done {q:Per} {m:List (List Per)} {a to_ d:Int} {b:Bool} (hg:∀ (a:Int),0≤a→∀ (n:Nat),(∀ x,a≤x→x<a+(n:Int)→¬ mmem m x)→belowI q (a+(n:Int))=belowI q a) (h0:0≤a) (ha:a≤to_) (ht:to_≤1152921504606846976) (hn:NextF FarI (mmem m) a d b) (hb:b=false∨to_≤d):belowI q to_=belowI q a:=by
 have h:=hg a h0 (to_-a).toNat fun x h1 h2=>by
  rcases hn with ⟨rfl,_,_,_,h3⟩|⟨rfl,rfl,h3⟩
  ·rcases hb with hb|hb
   ·cases hb
   ·exact h3 x h1 (by omega)
  ·exact h3 x h1 (by show x≤1152921504606846976;omega)
 rwa [show a+((to_-a).toNat:Int)=to_ by omega] at h
theorem cnt_go {q:Per} {m:List (List Per)} {a d:Int} (hg:∀ (a:Int),0≤a→∀ (n:Nat),(∀ x,a≤x→x<a+(n:Int)→¬ mmem m x)→belowI q (a+(n:Int))=belowI q a) (hs:∀ a:Int,0≤a→mmem m a→belowI q (a+1)=belowI q a+1) (h0:0≤a) (hn:NextF FarI (mmem m) a d true):belowI q (d+1)=belowI q a+1:=by
 rcases hn with ⟨_,h1,h2,h3,h4⟩|⟨h,_⟩
 ·have h:=hg a h0 (d-a).toNat fun x h5 h6=>h4 x h5 (by omega)
  rw [show a+((d-a).toNat:Int)=d by omega] at h
  rw [hs d (by omega) h3,h]
 ·cases h
set_option maxRecDepth 100000 in
set_option maxHeartbeats 4000000 in
theorem MixedCounts_any (v0:Value) (n0:Nat) (fr sz r0:Int) (w:World) (h0:ByteRows w v0 n0) (f0:0≤fr) (f1:fr≤65535) (s0:0≤sz) (s1:sz≤255) (q0:0≤r0) (q1:r0≤255) :
  Calls Tryz.prog 3 #[v0,.int .u16 fr,.agg #[.int .u8 sz,.int .u8 r0]] w fun e w'=>e=.returned (.bool true)∧Below w.heap.size w w':=by
 have H0:=Lib.hid h0
 clear h0
 have hr0:=Int.emod_nonneg r0 (show (100:Int)≠0 by omega)
 have hr1:=Int.emod_lt_of_pos r0 (show (0:Int)<100 by omega)
 go_enter Tryz.func3,Tryz.ntmps3
 go_upto_region 6 with (first|(go_at_call 13;refine (sanity_any _).mono ?_;rintro e u1 ⟨rfl,k1⟩;have b5:Bxx u1 w.heap.size #[.int .u8 sz,.int .u8 r0] 24:=(Bxx.new w _ _).below k1)|(go_at_call 14;(with_reducible refine (Made_any v0 n0 _ (H0.out.ext (by (repeat' (with_reducible first|assumption|apply Er|apply Ea|apply Ed|apply En|(refine Es ?_ (by first|(simp<;>omega)|omega) _)|refine Et ?_ (by assumption)))))).mono ?_);rintro e u2 ⟨m,aA,cA,rfl,xA,dA,k2⟩;have b6:=(b5.below k2).alloc (.cells #[.slice aA m.length cA] 28);have c0:=(b6.cells 0).1;have c1:=(b6.cells 1).1;clear b5 b6))
 refine wp_abs (F:=fun U=>MSets U [(u2.heap.size,m.length,m)]∧Below w.heap.size w U) ⟨MSets.cons ⟨aA,cA,by (repeat' (first|(refine Bxx.at ?_;simp;done)|refine Bxx.alloc ?_ _)),(xA.mono fun _ _=>trivial).ext (by (repeat' (with_reducible first|assumption|apply Er|apply Ea|apply Ed|apply En|(refine Es ?_ (by first|(simp<;>omega)|omega) _)|refine Et ?_ (by assumption))))⟩ (MSets.nil _),by (repeat' (with_reducible first|assumption|apply Er|apply Ea|apply Ed|apply En|(refine Es ?_ (by first|(simp<;>omega)|omega) _)|refine Et ?_ (by assumption)))⟩ ?_
 clear k1 k2 xA c0 c1
 have HA:=Lib.hid dA
 clear dA
 generalize u2.heap.size=b8 at *
 generalize hto:fr+sz+r0 % 100=to_
 have ht0:fr+sz≤to_:=by omega
 have ht1:to_≤fr+354:=by omega
 generalize hmid:fr+sz=mid at *
 have hm0:fr≤mid:=by omega
 clear hto hmid hr0 hr1
 rintro W3 ⟨hS,hE⟩
 obtain ⟨a8,c8,g8,x8⟩:=hS.at 0 rfl
 have G8:=Lib.hid g8
 have X8:=Lib.hid x8
 have HE:=Lib.hid hE
 have q8:=g8.c0
 clear hS g8 x8 hE
 have hfv:=joinF_fv (s:=0) (perE_fv (Int.le_refl _)) HA.out.mv.vt
 have hwf:=hfv.fac.wf
 have hJM:=join_mem HA.out.mv
 have HC:=fun a b (h0:0≤a) (hab:a≤b) (hb:b≤1099511627776) W (h:Below W3.heap.size W3 W)=>mcount_any 0 _ (.slice a8 m.length c8) m a b W (X8.out.ext h) HA.out.mv (Int.le_refl _) h0 hab hb
 have bd0:=belowI_bound hwf f0
 have bd1:=belowI_bound hwf (show 0≤mid by omega)
 have bd2:=belowI_bound hwf (show 0≤to_ by omega)
 have HC01:=Lib.hid (HC fr mid f0 hm0 (by omega))
 have HC12:=Lib.hid (HC mid to_ (by omega) ht0 (by omega))
 have HC02:=Lib.hid (HC fr to_ f0 (by omega) (by omega))
 have HGAP:=Lib.hid (fun (a:Int) (h0:0≤a) (n:Nat) (h:∀ x,a≤x→x<a+(n:Int)→¬ mmem m x)=>below_gap hwf h0 n fun x hx hy hm=>h x hx hy ((hJM x).1 hm))
 have HSTEP:=Lib.hid (fun (a:Int) (h0:0≤a) (h:mmem m a)=>by have h2:=belowI_step hwf h0;rw [if_pos ((hJM a).2 h)] at h2;exact h2)
 generalize joinF perE m=q at *
 clear HC hwf hfv hJM
 generalize hx0:belowI q fr=x0 at *
 generalize belowI q mid=x1 at *
 generalize hx2:belowI q to_=x2 at *
 have HX0:=Lib.hid hx0
 have HX2:=Lib.hid hx2
 have HNX:=Lib.hid (fun a (ha:InI a) W (h:Below W3.heap.size W3 W)=>mnext_any 0 _ (.slice a8 m.length c8) m a W (X8.out.ext h) HA.out.mv ha)
 clear hx0 hx2
 go_upto_region 9 with (go_at_call 15;first
  | ((with_reducible refine (HC01.out _ (by (repeat' (with_reducible first|assumption|apply Er|apply Ea|apply Ed|apply En|(refine Es ?_ (by first|(simp<;>omega)|omega) _)|refine Et ?_ (by assumption))))).mono ?_);rintro e u1 ⟨rfl,k1⟩;have q81:=(G8.out.below k1).c0)
  | ((with_reducible refine (HC12.out _ (by (repeat' (with_reducible first|assumption|apply Er|apply Ea|apply Ed|apply En|(refine Es ?_ (by first|(simp<;>omega)|omega) _)|refine Et ?_ (by assumption))))).mono ?_);rintro e u2 ⟨rfl,k2⟩;have q82:=(G8.out.below (Et k1 k2)).c0)
  | ((with_reducible refine (HC02.out _ (by (repeat' (with_reducible first|assumption|apply Er|apply Ea|apply Ed|apply En|(refine Es ?_ (by first|(simp<;>omega)|omega) _)|refine Et ?_ (by assumption))))).mono ?_);rintro e u3 ⟨rfl,k3⟩;have q83:=(G8.out.below (Et (Et k1 k2) k3)).c0))
 have hne:((x1-x0+(x2-x1)) != (x2-x0))=false:=by simp;omega
 have HB3:=Lib.hid (Et (Et k1 k2) k3)
 clear k1 k2 k3 q81 q82 q8
 go_wp2_with fail
 clear hne q83
 have HBAD1:=Lib.hid (fun W (h:Below W3.heap.size W3 W)=>mcount_bad _ (.slice a8 m.length c8) m (mid+1) mid W (X8.out.ext h) (.inr (.inr (.inl (by omega)))))
 have HBAD2:=Lib.hid (fun W (h:Below W3.heap.size W3 W)=>mcount_bad _ (.slice a8 m.length c8) m (-1) mid W (X8.out.ext h) (.inr (.inl (by omega))))
 go_loopw [18,19,20,21,22] (fun nv av kv _ _ wr=>∃ (k:Nat) (a:Int),k≤400∧nv=.int .i64 k∧av=.int .i64 a∧kv=.int .i64 k∧fr+k≤a∧a≤to_∧Hid (belowI q a=x0+k)∧Hid (Below W3.heap.size W3 wr)) (fun _ _ kv _ _ _=>400-(intOf kv).toNat)
 case atStart=>exact ⟨0,fr,by omega,rfl,rfl,rfl,by omega,by omega,Lib.hid (by rw [HX0.out];simp),HB3⟩
 case round=>
  obtain ⟨k,a,hk,rfl,rfl,rfl,ha0,ha1,HQ,HB⟩:=hrel
  by_cases hk4:k<400
  ·have hkI:(k:Int)<400:=by omega
   have q9:=(G8.out.below HB.out).c0
   have HN:=HNX.out a ⟨by omega,by omega⟩ wr HB.out
   rw [show max a 0=a by omega] at HN
   have ht70:to_≤70000:=by omega
   go_wp2_with (first|(go_at_call 16;(with_reducible refine HN.mono ?_);rintro e u4 ⟨d,b,rfl,hn,k4⟩;have hd:b=true→a≤d∧d≤1152921504606846976:=(fun hb=>by rcases hn with ⟨_,h1,h2,_⟩|⟨h,_⟩;exact ⟨h1,h2⟩;rw [hb] at h;cases h);have HNN:=Lib.hid hn;have HB4:=Lib.hid (Et HB.out k4);have q10:=(G8.out.below HB4.out).c0;clear hn k4;cases b;(have hkx:((k:Int) == x2-x0)=true:=(by have h9:=cnt_done HGAP.out (by omega) ha1 (by omega) HNN.out (.inl rfl);rw [HX2.out,HQ.out] at h9;rw [beq_iff_eq];omega));rotate_left;(have hd2:=hd (by simp);clear hd;by_cases hdt:to_≤d;(have hkx:((k:Int) == x2-x0)=true:=(by have h9:=cnt_done HGAP.out (by omega) ha1 (by omega) HNN.out (.inr hdt);rw [HX2.out,HQ.out] at h9;rw [beq_iff_eq];omega));rotate_left))|(go_at_call 15;first
     | ((with_reducible refine (HBAD1.out _ HB4.out).mono ?_);rintro e u5 ⟨rfl,k5⟩;have HB5:=Lib.hid (Et HB4.out k5);have q11:=(G8.out.below HB5.out).c0)
     | ((with_reducible refine (HBAD2.out _ HB5.out).mono ?_);rintro e u6 ⟨rfl,k6⟩)))
   ·go_roundw
    case rel=>
     have h9:=cnt_go HGAP.out HSTEP.out (by omega) HNN.out
     rw [HQ.out] at h9
     exact ⟨k+1,d+1,by omega,by go_num,rfl,by go_num,by omega,by omega,Lib.hid (by rw [h9];push_cast;omega),HB4⟩
    case measure=>simp [intOf];omega
   all_goals
    go_ret
    exact ⟨rfl,HE.out.trans ((Et HB5.out k6).mono HE.out.size)⟩
  ·exfalso;omega
end Go.Proofs.YthjnojbeimchdaaGreat
