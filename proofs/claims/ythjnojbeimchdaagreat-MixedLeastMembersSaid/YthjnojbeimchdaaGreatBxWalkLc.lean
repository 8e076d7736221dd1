/- Walk: the law MixedLeastMembers. -/
import Derived.Test.YthjnojbeimchdaaGreatBxSupWalkLc
import Derived.Test.YthjnojbeimchdaaGreatB12
import Derived.Deep.CutBlock
import Derived.Deep.DeepCutAuto
set_option linter.unusedVariables false
set_option linter.unusedSimpArgs false
namespace Go.Proofs.YthjnojbeimchdaaGreat
open Go.RowKit Go.Maps Kal
theorem mem_mod {p:Per} (h:p.WF) {x y:Int} (hx:p.frm≤x) (hy:p.frm≤y) (hd:p.period∣x-y):p.mem x↔p.mem y:=by
 rw [mem_resP h hx,mem_resP h hy,emod_of_dvd_sub hd]
theorem made_start {m:List (List Per)} (h:MadeM m) {t:List Per} (ht:t∈m):startT t≤8:=startF_le (by decide) fun p hp=>(h.fac t ht p hp).frm
theorem tmem_mod {t:List Per} (h:∀ p∈t,MFac p) {x y:Int} (hx:8≤x) (hy:8≤y) (hd:(27720:Int)∣x-y):tmem t x↔tmem t y:=by
 have key:∀ {x y:Int},8≤x→8≤y→(27720:Int)∣x-y→tmem t x→tmem t y:=fun hx hy hd hm p hp=>by
  have hf:=h p hp
  have:=hf.frm
  exact (mem_mod hf.wf (by omega) (by omega) (Int.dvd_trans hf.dvd hd)).1 (hm p hp)
 exact ⟨key hx hy hd,key hy hx (by obtain ⟨k,hk⟩:=hd;exact ⟨-k,by omega⟩)⟩
theorem made_mod {m:List (List Per)} (h:∀ t∈m,∀ p∈t,MFac p) {x y:Int} (hx:8≤x) (hy:8≤y) (hd:(27720:Int)∣x-y):mmem m x↔mmem m y:=
 ⟨fun ⟨t,ht,hm⟩=>⟨t,ht,(tmem_mod (h t ht) hx hy hd).1 hm⟩,fun ⟨t,ht,hm⟩=>⟨t,ht,(tmem_mod (h t ht) hx hy hd).2 hm⟩⟩
theorem next_near {m:List (List Per)} (h:∀ t∈m,∀ p∈t,MFac p) {f n:Int} (h0:0≤f) (hn:NextF FarI (mmem m) f n true):f≤n∧n<f+28000∧mmem m n∧∀ x,f≤x→x<n→¬ mmem m x:=by
 rcases hn with ⟨_,h1,h2,h3,h4⟩|⟨h,_⟩
 ·refine ⟨h1,?_,h3,h4⟩
  rcases Int.lt_or_le n (f+28000) with h5|h5
  ·exact h5
  ·exact absurd ((made_mod h (by omega) (by omega) ⟨1,by omega⟩).1 h3) (h4 (n-27720) (by omega) (by omega))
 ·cases h
theorem next_none {m:List (List Per)} {f n:Int} (hn:NextF FarI (mmem m) f n false):∀ x,f≤x→x≤1152921504606846976→¬ mmem m x:=by
 rcases hn with ⟨h,_⟩|⟨_,_,h⟩
 ·cases h
 ·exact h
theorem pairs_fac {a b:List (List Per)} (ha:MadeM a) (hb:MadeM b):∀ t∈pairsL a b,∀ p∈t,MFac p:=fun t ht p hp=>by
 obtain ⟨x,hx,y,hy,rfl⟩:=mem_pairsL.1 ht
 exact (List.mem_append.1 hp).elim (ha.fac x hx p) (hb.fac y hy p)
theorem made_far {m:List (List Per)} (h:MadeM m) {f x:Int} (h0:8≤f) (h1:f≤1000000) (hx:f≤x) (hm:mmem m x):∃ y,f≤y∧y<f+27720∧mmem m y:=by
 have e0:=Int.emod_nonneg (x-f) (show (27720:Int)≠0 by decide)
 have e1:=Int.emod_lt_of_pos (x-f) (show (0:Int)<27720 by decide)
 refine ⟨f+(x-f) % 27720,by omega,by omega,(made_mod h.fac (by omega) (by omega) ?_).1 hm⟩
 have:=Int.emod_add_mul_ediv (x-f) 27720
 exact ⟨(x-f) / 27720,by omega⟩
set_option maxRecDepth 100000 in
set_option maxHeartbeats 1000000 in
theorem early_law (F:Nat→Prop) (v:Value) (m:List (List Per)) (w:World) (hm:MixR w F v m) (hv:MV 0 m) :
  Calls Tryz.prog 28 #[.agg #[v]] w fun e w'=>∃ r,e=.returned (.int .i64 r)∧(r<0↔∀ x,0≤x→x<9→¬ mmem m x)∧Below w.heap.size w w':=by
 have HH:=Lib.hid (fun W d (h:Below w.heap.size w W) (hd:InI d)=>mhas_any F v m d W (hm.ext h) hd)
 have HI:=Lib.hid (fun n=>hasM_iff (n:=n) hv)
 obtain ⟨a1,c1,rfl⟩:=hm.form
 clear hm hv
 go_enter Tryz.func28,Tryz.ntmps28
 go_wp2_with fail
 have hb0:=Lib.hid (Bxx.new w #[.slice a1 m.length c1] 28)
 go_loopw [3] (fun dv wr=>∃ k:Nat,k≤9∧dv=.int .i64 k∧Hid (∀ x:Int,0≤x→x<k→¬ mmem m x)∧Hid (Below (w.alloc (.cells #[.slice a1 m.length c1] 28)).heap.size (w.alloc (.cells #[.slice a1 m.length c1] 28)) wr)) (fun dv _=>9-(intOf dv).toNat)
 case atStart=>exact ⟨0,by omega,rfl,Lib.hid (fun x h1 h2=>by omega),Lib.hid (Er _)⟩
 case round=>
  obtain ⟨k,hk,rfl,HN,HB⟩:=hrel
  have hbw:Below w.heap.size w wr:=Et (Ea (Er w) _) HB.out
  by_cases hk9:k<9
  ·have hkI:(k:Int)<9:=by omega
   have q0:=(hb0.out.below HB.out).c0
   have HK:=HH.out wr k hbw ⟨by omega,by omega⟩
   have HIK:=Lib.hid (HI.out k)
   generalize hasM m k=b at *
   cases b
   ·go_wp2_with (go_at_call 19;refine HK.mono ?_;rintro e w1 ⟨rfl,hb1⟩)
    go_roundw
    case rel=>exact ⟨k+1,by omega,by go_num,Lib.hid (fun x h1 h2 h3=>by
     by_cases h4:x<k
     ·exact HN.out x h1 h4 h3
     ·obtain rfl:x=k:=by omega
      have h5:=HIK.out
      simp at h5
      exact h5 h3),Lib.hid (Et HB.out hb1)⟩
    case measure=>simp [intOf];omega
   ·go_wp2_with (go_at_call 19;refine HK.mono ?_;rintro e w1 ⟨rfl,hb1⟩)
    go_ret
    exact ⟨k,rfl,⟨fun h=>by omega,fun h=>absurd (by have h5:=HIK.out;simpa using h5) (h k (by omega) (by omega))⟩,Et hbw hb1⟩
  ·obtain rfl:k=9:=by omega
   go_wp2_with fail
   go_ret
   exact ⟨-1,rfl,⟨fun _=>HN.out,fun _=>by omega⟩,hbw⟩
theorem lm_empty {m:List (List Per)} (h:MadeM m) {fr:Int} (f0:0≤fr) (f1:fr≤65535) (hno:∀ x,fr≤x→x≤1152921504606846976→¬ mmem m x) (hlow:∀ x,0≤x→x<9→¬ mmem m x) (hc:fr≤8∨∀ t∈m,¬ recT t):∀ t∈m,barrenT t:=fun t ht x hx=>by
 have hm:mmem m x:=⟨t,ht,hx⟩
 have hx0:=tmem_nonneg (h.ne t ht) hx
 by_cases h9:x<9
 ·exact hlow x hx0 h9 hm
 ·rcases hc with hc|hc
  ·obtain ⟨y,h1,h2,h3⟩:=made_far h (show (8:Int)≤9 by omega) (by omega) (show 9≤x by omega) hm
   exact hno y (by omega) (by omega) h3
  ·exact hc t ht ⟨x,by have:=made_start h ht;omega,hx⟩
theorem ne_beq {k c:Int} (h:k≠c):(k == c)=false:=beq_eq_false_iff_ne.2 h
theorem nofalse (h:false=true):False:=by cases h
theorem barren_no {m:List (List Per)} (h:∀ t∈m,barrenT t) (x:Int):¬ mmem m x:=fun ⟨t,ht,hx⟩=>h t ht x hx
theorem barren_rec {m:List (List Per)} (h:∀ t∈m,barrenT t):∀ t∈m,¬ recT t:=fun t ht ⟨x,_,hx⟩=>h t ht x hx
theorem boolOf (p:Prop):∃ b:Bool,(b=true↔p):=by classical exact ⟨decide p,decide_eq_true_iff⟩
theorem lm_tail {m:List (List Per)} (h:MadeM m) {fr:Int} (f0:0≤fr) (f1:fr≤65535) {bE bF bL:Bool} (tE:bE=true↔∀ t∈m,barrenT t) (tF:bF=true↔∀ t∈m,¬ recT t) (tL:bL=true↔∀ x,0≤x→x<9→¬ mmem m x) (hno:∀ x,fr≤x→x≤1152921504606846976→¬ mmem m x):(8<fr→bE=(bF && bL))∧(fr≤8→bE=bL):=by
 refine ⟨fun h8=>Bool.eq_iff_iff.2 ?_,fun h8=>Bool.eq_iff_iff.2 ?_⟩
 ·rw [Bool.and_eq_true]
  exact ⟨fun he=>⟨tF.2 (barren_rec (tE.1 he)),tL.2 fun x _ _=>barren_no (tE.1 he) x⟩,fun hf=>tE.2 (lm_empty h f0 f1 hno (tL.1 hf.2) (.inr (tF.1 hf.1)))⟩
 ·exact ⟨fun he=>tL.2 fun x _ _=>barren_no (tE.1 he) x,fun hf=>tE.2 (lm_empty h f0 f1 hno (tL.1 hf) (.inl h8))⟩
set_option maxRecDepth 100000 in
set_option maxHeartbeats 4000000 in
theorem MixedLeastMembers_any (v0:Value) (n0:Nat) (v1:Value) (n1:Nat) (fr:Int) (w:World) (h0:ByteRows w v0 n0) (h1:ByteRows w v1 n1) (f0:0≤fr) (f1:fr≤65535) :
  Calls Tryz.prog 6 #[v0,v1,.int .u16 fr] w fun e w'=>e=.returned (.bool true)∧Below w.heap.size w w':=by
 have H0:=Lib.hid h0
 have H1:=Lib.hid h1
 clear h0 h1
 go_enter Tryz.func6,Tryz.ntmps6
 go_upto_region 6 with (first|(go_at_call 13;refine (sanity_any _).mono ?_;rintro e u1 ⟨rfl,k1⟩)|(go_at_call 14;first|((with_reducible refine (Made_any v0 n0 _ (H0.out.ext (by (repeat' (with_reducible first|assumption|apply Er|apply Ea|apply Ed|apply En|(refine Es ?_ (by first|(simp<;>omega)|omega) _)|refine Et ?_ (by assumption)))))).mono ?_);rintro e u2 ⟨mA,aA,cA,rfl,xA,dA,k2⟩)|((with_reducible refine (Made_any v1 n1 _ (H1.out.ext (by (repeat' (with_reducible first|assumption|apply Er|apply Ea|apply Ed|apply En|(refine Es ?_ (by first|(simp<;>omega)|omega) _)|refine Et ?_ (by assumption)))))).mono ?_);rintro e u3 ⟨mB,aB,cB,rfl,xB,dB,k3⟩)))
 refine wp_abs (F:=fun U=>MSets U [(u3.heap.size,mB.length,mB),(u2.heap.size,mA.length,mA)]∧Below w.heap.size w U) ⟨MSets.cons ⟨aB,cB,by (repeat' (first|(refine Bxx.at ?_;simp;done)|refine Bxx.alloc ?_ _)),(xB.mono fun _ _=>trivial).ext (by (repeat' (with_reducible first|assumption|apply Er|apply Ea|apply Ed|apply En|(refine Es ?_ (by first|(simp<;>omega)|omega) _)|refine Et ?_ (by assumption))))⟩ (MSets.cons ⟨aA,cA,((Bxx.new u2 _ _).below k3).alloc _,(xA.mono fun _ _=>trivial).ext (by (repeat' (with_reducible first|assumption|apply Er|apply Ea|apply Ed|apply En|(refine Es ?_ (by first|(simp<;>omega)|omega) _)|refine Et ?_ (by assumption))))⟩ (MSets.nil _)),by (repeat' (with_reducible first|assumption|apply Er|apply Ea|apply Ed|apply En|(refine Es ?_ (by first|(simp<;>omega)|omega) _)|refine Et ?_ (by assumption)))⟩ ?_
 clear k1 k2 k3 xA xB
 have HA:=Lib.hid dA
 have HB:=Lib.hid dB
 clear dA dB
 generalize u2.heap.size=b8 at *
 generalize u3.heap.size=b9 at *
 rintro W3 ⟨hS,hE⟩
 obtain ⟨a8,c8,gA,xA⟩:=hS.at 1 rfl
 obtain ⟨a9,c9,gB,xB⟩:=hS.at 0 rfl
 have q8:=gA.c0
 have q9:=gB.c0
 have GA:=Lib.hid gA
 have GB:=Lib.hid gB
 have XA:=Lib.hid xA
 have XB:=Lib.hid xB
 have HE:=Lib.hid hE
 clear hS gA gB xA xB hE
 have hmx:max fr 0=fr:=by omega
 have HNX:=Lib.hid (fun W (h:Below W3.heap.size W3 W)=>mnext_any 0 _ (.slice a8 mA.length c8) mA fr W (XA.out.ext h) HA.out.mv ⟨by omega,by omega⟩)
 have HFI:=Lib.hid (fun W (h:Below W3.heap.size W3 W)=>mfirst_any 0 _ _ (.slice a8 mA.length c8) (.slice a9 mB.length c9) mA mB fr W (XA.out.ext h) (XB.out.ext h) HA.out.mv HB.out.mv ⟨by omega,by omega⟩)
 rw [hmx] at HNX HFI
 clear hmx
 have HHA:=Lib.hid (fun k (h0:0≤k) (h1:k≤1000000) W (h:Below W3.heap.size W3 W)=>mhas_any _ (.slice a8 mA.length c8) mA k W (XA.out.ext h) ⟨by omega,by omega⟩)
 have HHB:=Lib.hid (fun k (h0:0≤k) (h1:k≤1000000) W (h:Below W3.heap.size W3 W)=>mhas_any _ (.slice a9 mB.length c9) mB k W (XB.out.ext h) ⟨by omega,by omega⟩)
 go_upto_region 8 with (first|(go_at_call 16;(with_reducible refine (HNX.out _ (Er _)).mono ?_);rintro e u4 ⟨c,is,rfl,hn,k4⟩;have HN:=Lib.hid hn;have r8:=(GA.out.below k4).c0;have r9:=(GB.out.below k4).c0;clear hn)|(go_at_call 27;(with_reducible refine (HFI.out _ k4).mono ?_);rintro e u5 ⟨d,so,rfl,hn,k5⟩;have HN2:=Lib.hid hn;clear hn))
 have HB5:=Lib.hid (Et k4 k5)
 clear k4 k5 q8 q9 r8 r9 HNX HFI
 have hX1:∀ k,fr≤k→k≤fr+28000→mmem mA k→is=true∧c≤k:=fun k h1 h2 h3=>by
  have h:=HN.out
  cases is
  ·exact absurd h3 (next_none h k h1 (by omega))
  ·obtain ⟨_,_,_,h4⟩:=next_near HA.out.fac f0 h
   refine ⟨rfl,?_⟩
   rcases Int.lt_or_le k c with h5|h5
   ·exact absurd h3 (h4 k h1 h5)
   ·exact h5
 have hX2:is=true→fr≤c∧c<fr+28000∧mmem mA c:=fun hi=>by
  have h:=HN.out
  rw [hi] at h
  obtain ⟨h1,h2,h3,_⟩:=next_near HA.out.fac f0 h
  exact ⟨h1,h2,h3⟩
 have hY1:∀ k,fr≤k→k≤fr+28000→mmem mA k→mmem mB k→so=true∧d≤k:=fun k h1 h2 h3 h3'=>by
  have h:=HN2.out
  cases so
  ·exact absurd (mmem_pairs.2 ⟨h3,h3'⟩) (next_none h k h1 (by omega))
  ·obtain ⟨_,_,_,h4⟩:=next_near (pairs_fac HA.out HB.out) f0 h
   refine ⟨rfl,?_⟩
   rcases Int.lt_or_le k d with h5|h5
   ·exact absurd (mmem_pairs.2 ⟨h3,h3'⟩) (h4 k h1 h5)
   ·exact h5
 have hY2:so=true→fr≤d∧d<fr+28000∧mmem mA d∧mmem mB d:=fun hi=>by
  have h:=HN2.out
  rw [hi] at h
  obtain ⟨h1,h2,h3,_⟩:=next_near (pairs_fac HA.out HB.out) f0 h
  exact ⟨h1,h2,mmem_pairs.1 h3⟩
 have hno:is=false→∀ x,fr≤x→x≤1152921504606846976→¬ mmem mA x:=fun hi=>by
  have h:=HN.out
  rw [hi] at h
  exact next_none h
 have HX1:=Lib.hid hX1
 have HX2:=Lib.hid hX2
 have HY1:=Lib.hid hY1
 have HY2:=Lib.hid hY2
 have HNO:=Lib.hid hno
 have hi1:is=true→fr≤c∧c<fr+28000:=fun h=>⟨(hX2 h).1,(hX2 h).2.1⟩
 have hi2:so=true→fr≤d∧d<fr+28000∧is=true∧c≤d:=fun h=>⟨(hY2 h).1,(hY2 h).2.1,hX1 d (hY2 h).1 (by have:=(hY2 h).2.1;omega) (hY2 h).2.2.1⟩
 clear hX1 hX2 hY1 hY2 hno HN HN2
 obtain ⟨bE,tE⟩:=boolOf (∀ t∈mA,barrenT t)
 obtain ⟨bF,tF⟩:=boolOf (∀ t∈mA,¬ recT t)
 obtain ⟨bL,tL⟩:=boolOf (∀ x,0≤x→x<9→¬ mmem mA x)
 have HEM:=Lib.hid (fun W (h:Below W3.heap.size W3 W)=>(mempty_any _ (.slice a8 mA.length c8) mA W (XA.out.ext h)).mono (fun e u ⟨b,he,hb,k⟩=>(show e=Ending.returned (.bool bE)∧Below W.heap.size W u from ⟨by rw [he,show b=bE from Bool.eq_iff_iff.2 (by rw [hb,tE];exact ⟨fun h=>h.2,fun h=>⟨HA.out.mv.val,h⟩⟩)],k⟩)))
 have HFN:=Lib.hid (fun W (h:Below W3.heap.size W3 W)=>(mfinite_any _ (.slice a8 mA.length c8) mA W (XA.out.ext h)).mono (fun e u ⟨b,he,hb,k⟩=>(show e=Ending.returned (.bool bF)∧Below W.heap.size W u from ⟨by rw [he,show b=bF from Bool.eq_iff_iff.2 (by rw [hb,tF];exact ⟨fun h=>h.2,fun h=>⟨HA.out.mv.val,h⟩⟩)],k⟩)))
 have HEA:=Lib.hid (fun W (h:Below W3.heap.size W3 W)=>(early_law _ (.slice a8 mA.length c8) mA W (XA.out.ext h) HA.out.mv).mono (fun e u ⟨r,he,hr,k⟩=>(show ∃ r:Int,e=Ending.returned (.int .i64 r)∧Hid (r<0↔bL=true)∧Below W.heap.size W u from ⟨r,he,Lib.hid (hr.trans tL.symm),k⟩)))
 have HT1:=Lib.hid (fun h:is=true=>show bE=false from Bool.eq_false_iff.2 fun h9=>barren_no (tE.1 h9) c (HX2.out h).2.2)
 have HT2:=Lib.hid (fun h:is=false=>lm_tail HA.out f0 f1 tE tF tL (HNO.out h))
 clear tE tF tL
 cases is <;> cases so
 ·(try have hi3:=hi1 rfl)
  (try have hi4:=hi2 rfl)
  (try have HXc:=Lib.hid (HX2.out rfl).2.2)
  (try have HYd:=Lib.hid (HY2.out rfl).2.2)
  clear hi1 hi2
  go_upto_block 0 with (fail)
  go_cut [] (fun wr=>Hid (Below W3.heap.size W3 wr))
  case first=>
   clear HEM HFN HEA HT1 HT2 HNO
   go_wp2_with fail
   go_loopw [16,17,18] (fun kv _ _ wr=>∃ kk:Int,fr≤kk∧kk≤fr+28000∧kv=.int .i64 kk∧Hid (Below W3.heap.size W3 wr)) (fun kv _ _ _=>(fr+28000-intOf kv).toNat)
   case atStart=>exact ⟨fr,by omega,by omega,rfl,HB5⟩
   case round=>
    obtain ⟨kk,g0,g1,rfl,HBL⟩:=hrel
    have t8:=(GA.out.below HBL.out).c0
    have HBW:=HBL
    by_cases hkl:kk<fr+28000
    ·go_wp2_with (first|(go_at_call 19;first|((with_reducible refine (HHA.out kk (by omega) (by omega) _ HBL.out).mono ?_);rintro e u6 ⟨rfl,j6⟩;have HB6:=Lib.hid (Et HBL.out j6);have HBW:=HB6;have s9:=(GB.out.below HB6.out).c0;have s8:=(GA.out.below HB6.out).c0;have IA:=hasM_iff HA.out.mv (n:=kk);generalize hasM mA kk=x at *;clear j6;cases x;(try have hkc:(kk == c)=false:=ne_beq (fun h=>nofalse (IA.2 (by rw [h];exact HXc.out))));(try have hkd:(kk == d)=false:=ne_beq (fun h=>nofalse (IA.2 (by rw [h];exact HYd.out.1))));clear IA;rotate_left;(have HAK:=Lib.hid (IA.1 rfl));clear IA;(first|(exfalso;have h9:=HX1.out kk g0 g1 HAK.out;first|exact h9|exact nofalse h9.1|(simp at h9;done))|(have hck:=(HX1.out kk g0 g1 HAK.out).2;obtain ⟨bc,hbc⟩:∃ b,(kk == c)=b:=⟨_,rfl⟩;cases bc)))|((with_reducible refine (HHB.out kk (by omega) (by omega) _ HB6.out).mono ?_);rintro e u7 ⟨rfl,j7⟩;have HBW:=Lib.hid (Et HB6.out j7);have p8:=(GA.out.below HBW.out).c0;have IB:=hasM_iff HB.out.mv (n:=kk);generalize hasM mB kk=y at *;clear j7;cases y;(try have hkd:(kk == d)=false:=ne_beq (fun h=>nofalse (IB.2 (by rw [h];exact HYd.out.2))));clear IB;rotate_left;(have HBK:=Lib.hid (IB.1 rfl));clear IB;(first|(exfalso;have h9:=HY1.out kk g0 g1 HAK.out HBK.out;first|exact h9|exact nofalse h9.1|(simp at h9;done))|(have hdk:=(HY1.out kk g0 g1 HAK.out HBK.out).2;obtain ⟨bd,hbd⟩:∃ b,(kk == d)=b:=⟨_,rfl⟩;cases bd)))))
     all_goals first
      | (go_meet;exact HBW)
      | (
       go_roundw
       case rel=>exact ⟨kk+1,by omega,by omega,by go_num,HBW⟩
       case measure=>simp [intOf];omega)
    ·go_wp2_with fail
     all_goals first
      | (go_meet;exact HBW)
  case rest=>
   clear HX1 HX2 HY1 HY2 HNO HHA HHB GB XB HB5
   have t8:=(GA.out.below hcut.out).c0
   have h2:=HT2.out rfl
   clear HT1 HT2
   by_cases h8:8<fr
   ·obtain h3:=h2.1 h8
    clear h2
    cases bF <;> cases bL <;> obtain rfl:=h3
    all_goals
     go_wp2_with (first|(go_at_call 25;(with_reducible refine (HEM.out _ hcut.out).mono ?_);rintro e u8 ⟨rfl,k8⟩;have HBM:=Lib.hid (Et hcut.out k8);have t80:=(GA.out.below HBM.out).c0;clear k8)|(go_at_call 26;(with_reducible refine (HFN.out _ HBM.out).mono ?_);rintro e u9 ⟨rfl,k9⟩;have HBF:=Lib.hid (Et HBM.out k9);have t81:=(GA.out.below HBF.out).c0;clear k9)|(go_at_call 28;((with_reducible refine (HEA.out _ HBF.out).mono ?_));rintro e u10 ⟨r,rfl,hr,k10⟩;have HBG:=Lib.hid (Et HBF.out k10);(first|(have hr0:r<0:=by first|exact hr.out.2 rfl|exact hr.out|(have h:=hr.out;simp at h;omega))|(have hr0:0≤r:=by have h:=hr.out;simp at h;omega));clear hr k10))
    all_goals go_ret
    all_goals exact ⟨by first|rfl|(show Ending.returned (Value.bool (!decide (r<0)))=_;rw [decide_eq_false (by omega)];rfl)|(show Ending.returned (Value.bool (decide (r<0)))=_;rw [decide_eq_true hr0];rfl),Et HE.out (by first|exact HBG.out|exact HBF.out)⟩
   ·obtain h3:=h2.2 (by omega)
    clear h2
    cases bL <;> obtain rfl:=h3
    all_goals
     go_wp2_with (first|(go_at_call 25;(with_reducible refine (HEM.out _ hcut.out).mono ?_);rintro e u8 ⟨rfl,k8⟩;have HBM:=Lib.hid (Et hcut.out k8);have t80:=(GA.out.below HBM.out).c0;clear k8)|(go_at_call 28;((with_reducible refine (HEA.out _ HBM.out).mono ?_));rintro e u10 ⟨r,rfl,hr,k10⟩;have HBG:=Lib.hid (Et HBM.out k10);(first|(have hr0:r<0:=by first|exact hr.out.2 rfl|exact hr.out|(have h:=hr.out;simp at h;omega))|(have hr0:0≤r:=by have h:=hr.out;simp at h;omega));clear hr k10))
    all_goals go_ret
    all_goals exact ⟨by first|rfl|(show Ending.returned (Value.bool (!decide (r<0)))=_;rw [decide_eq_false (by omega)];rfl)|(show Ending.returned (Value.bool (decide (r<0)))=_;rw [decide_eq_true hr0];rfl),Et HE.out HBG.out⟩
 ·exfalso
  have h9:=(hi2 rfl).2.2.1
  cases h9
 ·(try have hi3:=hi1 rfl)
  (try have hi4:=hi2 rfl)
  (try have HXc:=Lib.hid (HX2.out rfl).2.2)
  (try have HYd:=Lib.hid (HY2.out rfl).2.2)
  clear hi1 hi2
  go_upto_block 0 with (fail)
  go_cut [] (fun wr=>Hid (Below W3.heap.size W3 wr))
  case first=>
   clear HEM HFN HEA HT1 HT2 HNO
   go_wp2_with fail
   go_loopw [16,17,18] (fun kv _ _ wr=>∃ kk:Int,fr≤kk∧kk≤fr+28000∧kv=.int .i64 kk∧Hid (Below W3.heap.size W3 wr)) (fun kv _ _ _=>(fr+28000-intOf kv).toNat)
   case atStart=>exact ⟨fr,by omega,by omega,rfl,HB5⟩
   case round=>
    obtain ⟨kk,g0,g1,rfl,HBL⟩:=hrel
    have t8:=(GA.out.below HBL.out).c0
    have HBW:=HBL
    by_cases hkl:kk<fr+28000
    ·go_wp2_with (first|(go_at_call 19;first|((with_reducible refine (HHA.out kk (by omega) (by omega) _ HBL.out).mono ?_);rintro e u6 ⟨rfl,j6⟩;have HB6:=Lib.hid (Et HBL.out j6);have HBW:=HB6;have s9:=(GB.out.below HB6.out).c0;have s8:=(GA.out.below HB6.out).c0;have IA:=hasM_iff HA.out.mv (n:=kk);generalize hasM mA kk=x at *;clear j6;cases x;(try have hkc:(kk == c)=false:=ne_beq (fun h=>nofalse (IA.2 (by rw [h];exact HXc.out))));(try have hkd:(kk == d)=false:=ne_beq (fun h=>nofalse (IA.2 (by rw [h];exact HYd.out.1))));clear IA;rotate_left;(have HAK:=Lib.hid (IA.1 rfl));clear IA;(first|(exfalso;have h9:=HX1.out kk g0 g1 HAK.out;first|exact h9|exact nofalse h9.1|(simp at h9;done))|(have hck:=(HX1.out kk g0 g1 HAK.out).2;obtain ⟨bc,hbc⟩:∃ b,(kk == c)=b:=⟨_,rfl⟩;cases bc)))|((with_reducible refine (HHB.out kk (by omega) (by omega) _ HB6.out).mono ?_);rintro e u7 ⟨rfl,j7⟩;have HBW:=Lib.hid (Et HB6.out j7);have p8:=(GA.out.below HBW.out).c0;have IB:=hasM_iff HB.out.mv (n:=kk);generalize hasM mB kk=y at *;clear j7;cases y;(try have hkd:(kk == d)=false:=ne_beq (fun h=>nofalse (IB.2 (by rw [h];exact HYd.out.2))));clear IB;rotate_left;(have HBK:=Lib.hid (IB.1 rfl));clear IB;(first|(exfalso;have h9:=HY1.out kk g0 g1 HAK.out HBK.out;first|exact h9|exact nofalse h9.1|(simp at h9;done))|(have hdk:=(HY1.out kk g0 g1 HAK.out HBK.out).2;obtain ⟨bd,hbd⟩:∃ b,(kk == d)=b:=⟨_,rfl⟩;cases bd)))))
     all_goals first
      | (go_meet;exact HBW)
      | (
       go_roundw
       case rel=>exact ⟨kk+1,by omega,by omega,by go_num,HBW⟩
       case measure=>simp [intOf];omega)
    ·go_wp2_with fail
     all_goals first
      | (go_meet;exact HBW)
  case rest=>
   clear HX1 HX2 HY1 HY2 HNO HHA HHB GB XB HB5
   have t8:=(GA.out.below hcut.out).c0
   obtain rfl:=HT1.out rfl
   clear HT1 HT2
   go_wp2_with (go_at_call 25;(with_reducible refine (HEM.out _ hcut.out).mono ?_);rintro e u8 ⟨rfl,k8⟩;have HBM:=Lib.hid (Et hcut.out k8);clear k8)
   go_ret
   exact ⟨rfl,Et HE.out HBM.out⟩
 ·(try have hi3:=hi1 rfl)
  (try have hi4:=hi2 rfl)
  (try have HXc:=Lib.hid (HX2.out rfl).2.2)
  (try have HYd:=Lib.hid (HY2.out rfl).2.2)
  clear hi1 hi2
  go_upto_block 0 with (fail)
  go_cut [] (fun wr=>Hid (Below W3.heap.size W3 wr))
  case first=>
   clear HEM HFN HEA HT1 HT2 HNO
   go_wp2_with fail
   go_loopw [16,17,18] (fun kv _ _ wr=>∃ kk:Int,fr≤kk∧kk≤fr+28000∧kv=.int .i64 kk∧Hid (Below W3.heap.size W3 wr)) (fun kv _ _ _=>(fr+28000-intOf kv).toNat)
   case atStart=>exact ⟨fr,by omega,by omega,rfl,HB5⟩
   case round=>
    obtain ⟨kk,g0,g1,rfl,HBL⟩:=hrel
    have t8:=(GA.out.below HBL.out).c0
    have HBW:=HBL
    by_cases hkl:kk<fr+28000
    ·go_wp2_with (first|(go_at_call 19;first|((with_reducible refine (HHA.out kk (by omega) (by omega) _ HBL.out).mono ?_);rintro e u6 ⟨rfl,j6⟩;have HB6:=Lib.hid (Et HBL.out j6);have HBW:=HB6;have s9:=(GB.out.below HB6.out).c0;have s8:=(GA.out.below HB6.out).c0;have IA:=hasM_iff HA.out.mv (n:=kk);generalize hasM mA kk=x at *;clear j6;cases x;(try have hkc:(kk == c)=false:=ne_beq (fun h=>nofalse (IA.2 (by rw [h];exact HXc.out))));(try have hkd:(kk == d)=false:=ne_beq (fun h=>nofalse (IA.2 (by rw [h];exact HYd.out.1))));clear IA;rotate_left;(have HAK:=Lib.hid (IA.1 rfl));clear IA;(first|(exfalso;have h9:=HX1.out kk g0 g1 HAK.out;first|exact h9|exact nofalse h9.1|(simp at h9;done))|(have hck:=(HX1.out kk g0 g1 HAK.out).2;obtain ⟨bc,hbc⟩:∃ b,(kk == c)=b:=⟨_,rfl⟩;cases bc)))|((with_reducible refine (HHB.out kk (by omega) (by omega) _ HB6.out).mono ?_);rintro e u7 ⟨rfl,j7⟩;have HBW:=Lib.hid (Et HB6.out j7);have p8:=(GA.out.below HBW.out).c0;have IB:=hasM_iff HB.out.mv (n:=kk);generalize hasM mB kk=y at *;clear j7;cases y;(try have hkd:(kk == d)=false:=ne_beq (fun h=>nofalse (IB.2 (by rw [h];exact HYd.out.2))));clear IB;rotate_left;(have HBK:=Lib.hid (IB.1 rfl));clear IB;(first|(exfalso;have h9:=HY1.out kk g0 g1 HAK.out HBK.out;first|exact h9|exact nofalse h9.1|(simp at h9;done))|(have hdk:=(HY1.out kk g0 g1 HAK.out HBK.out).2;obtain ⟨bd,hbd⟩:∃ b,(kk == d)=b:=⟨_,rfl⟩;cases bd)))))
     all_goals first
      | (go_meet;exact HBW)
      | (
       go_roundw
       case rel=>exact ⟨kk+1,by omega,by omega,by go_num,HBW⟩
       case measure=>simp [intOf];omega)
    ·go_wp2_with fail
     all_goals first
      | (go_meet;exact HBW)
  case rest=>
   clear HX1 HX2 HY1 HY2 HNO HHA HHB GB XB HB5
   have t8:=(GA.out.below hcut.out).c0
   obtain rfl:=HT1.out rfl
   clear HT1 HT2
   go_wp2_with (go_at_call 25;(with_reducible refine (HEM.out _ hcut.out).mono ?_);rintro e u8 ⟨rfl,k8⟩;have HBM:=Lib.hid (Et hcut.out k8);clear k8)
   go_ret
   exact ⟨rfl,Et HE.out HBM.out⟩
end Go.Proofs.YthjnojbeimchdaaGreat
