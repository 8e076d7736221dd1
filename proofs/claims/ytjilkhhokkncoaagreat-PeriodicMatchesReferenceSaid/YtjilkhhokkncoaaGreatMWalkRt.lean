/- Walks: repeats, least (package kalendsref04). -/
import Derived.Test.YtjilkhhokkncoaaGreatMWalkRk
set_option linter.unusedVariables false
set_option linter.unusedSimpArgs false
namespace Go.Proofs.YtjilkhhokkncoaaGreat
open Go.RowKit Go.Maps Kal
set_option maxRecDepth 100000 in
set_option maxHeartbeats 1000000 in
theorem Rrepeats_any (cv:Value) (C:List Int) (T:Int) (d:Int) (k:Nat) (w:World) (hT:T≤1125899906842624) (hC:Rise 0 T C) (hcv:Ints w cv C) (hd0:0≤d) (hd1:d≤T) (hk1:1≤k) (hkn:k≤C.length) :
  Calls Tryz.prog 99 #[cv,.int .i64 d,.int .i64 k] w fun e w'=>e=.returned (.bool (partsB C d k))∧∃ n,w'=w.drewN n:=by
 obtain ⟨⟨a,c,rfl,hlc,hcc,hcells⟩,hlen,_⟩:=hcv
 rcases hcells with h|⟨b,o,rfl,hcell⟩
 ·subst h;simp at hkn;omega
 have hE:∀ i,i<C.length→0≤C.getD i 0∧C.getD i 0<T:=fun i hi=>by rw [getD_get hi];exact hC.get_bounds hi
 have HC:=Lib.hid hcell
 have HE:=Lib.hid hE
 clear hcell hE
 go_enter Tryz.func99,Tryz.ntmps99
 go_wp2_with fail
 go_loopw [7] (fun i wr=>∃ j:Nat,j+k≤C.length∧i=.int .i64 j∧(∀ x,x<j→C.getD (x+k) 0=C.getD x 0+d)∧∃ n,wr=w.drewN n) (fun i _=>C.length-(intOf i).toNat)
 case atStart=>exact ⟨0,by omega,rfl,fun x h1=>by omega,0,rfl⟩
 case round=>
  obtain ⟨j,hj,rfl,hall,n,rfl⟩:=hrel
  have HA:=Lib.hid hall
  clear hall
  by_cases hlt:j+k<C.length
  ·have h1:=HC.out (j+k) hlt
   have h2:=HC.out j (by omega)
   have e1:=HE.out (j+k) hlt
   have e2:=HE.out j (by omega)
   obtain ⟨x,hx⟩:∃ x,x=C.getD (j+k) 0:=⟨_,rfl⟩
   obtain ⟨y,hy⟩:∃ y,y=C.getD j 0:=⟨_,rfl⟩
   rw [← hx] at h1 e1
   rw [← hy] at h2 e2
   have HX:=Lib.hid hx
   have HY:=Lib.hid hy
   clear hx hy
   have hltI:(j:Int)+(k:Int)<C.length:=by omega
   go_wp2_with fail
   go_quiet (fail)
   go_wp2_with fail
   ·have hne:x≠y+d:=by simpa using ‹(x != y+d)=true›
    go_ret
    refine ⟨ret_bool ?_,_,World.drewN_drewN _ _ _⟩
    have hnp:¬ Parts C d k:=fun h=>hne (by
     rw [HX.out,HY.out,getD_get hlt,getD_get (show j<C.length by omega)]
     have:=h.1 (j+k) hlt (by omega)
     simpa using this)
    have hf:partsB C d k=false:=by rw [← Bool.not_eq_true,partsB_iff];exact hnp
    rw [hf]
   ·have heq:x=y+d:=by simpa using ‹(x != y+d)=false›
    refine ⟨⟨j+1,by omega,by go_num,fun z h1=>?_,_,rfl⟩,by simp [intOf];try omega⟩
    rcases Nat.lt_or_ge z j with h3|h3
    ·exact HA.out z h3
    ·obtain rfl:z=j:=by omega
     rw [← HX.out,← HY.out];exact heq
  ·have hjn:¬ (j:Int)+(k:Int)<C.length:=by omega
   have h1:=HC.out (k-1) (by omega)
   have e1:=HE.out (k-1) (by omega)
   have hs:((k:Int)-1).toNat=k-1:=by omega
   obtain ⟨x,hx⟩:∃ x,x=C.getD (k-1) 0:=⟨_,rfl⟩
   rw [← hx] at h1 e1
   have hkI:(1:Int)≤k:=by omega
   have hlz:((C.length:Int) == 0)=false:=by rw [beq_eq_false_iff_ne];omega
   have hln:¬ (C.length:Int)=0:=by omega
   have hfin:partsB C d k=decide (x<d):=by
    rw [Bool.eq_iff_iff,partsB_iff,decide_eq_true_iff,hx,getD_get (show k-1<C.length by omega)]
    constructor
    ·exact fun h=>h.2.2
    ·refine fun h=>⟨fun i hi hki=>?_,by omega,h⟩
     have:=HA.out (i-k) (by omega)
     rw [show i-k+k=i from by omega] at this
     rwa [getD_get hi,getD_get (show i-k<C.length by omega)] at this
   have HF:=Lib.hid hfin
   clear hx hfin
   go_wp2_with fail
   all_goals go_ret
   all_goals exact ⟨ret_bool HF.out.symm,_,rfl⟩
def LeastRes (p:Per) (w:World) (e:Ending) (w':World):Prop:=
 ∃ (d:Int) (k:Nat),e=.returned (.int .i64 d)∧Short p d (p.cycle.take k)∧1≤k∧k≤p.cycle.length∧Below w.heap.size w w'
set_option maxRecDepth 100000 in
set_option maxHeartbeats 4000000 in
theorem Rleast_any (h c:Value) (p:Per) (w:World) (hp:PerIs w h c p) (hw:p.WF) (hne:p.cycle≠[]) (hT:p.period≤1125899906842624) :
  Calls Tryz.prog 78 #[perV h c p.frm p.period] w (LeastRes p w):=by
 have hT0:=hw.per
 have hn1:1≤p.cycle.length:=by
  rcases Nat.eq_zero_or_pos p.cycle.length with h|h
  ·exact absurd (List.eq_nil_of_length_eq_zero h) hne
  ·exact h
 obtain ⟨a1,c1,a2,c2,rfl,rfl⟩:=hp.inn.form
 have H2:=Lib.hid hp.cy
 have hlI:(1:Int)≤p.cycle.length:=by omega
 have HLE:=hp.cy.len
 clear hp
 go_enter Tryz.func78,Tryz.ntmps78
 go_upto_region 1 with (fail)
 refine wp_abs (F:=fun U=>Bxx U w.heap.size #[.slice a1 p.head.length c1,.int .i64 p.frm,.int .i64 p.period,.slice a2 p.cycle.length c2] 24∧w.heap.size<U.heap.size∧Below w.heap.size w U) ⟨by (repeat' (first|(refine Bxx.at ?_;simp;done)|refine Bxx.alloc ?_ _)),by simp,by (repeat' (with_reducible first|assumption|apply Er|apply Ea|apply Ed|apply En|(refine Es ?_ (by first|(simp<;>omega)|omega) _)|refine Et ?_ (by assumption)))⟩ ?_
 rintro W1 ⟨hbx,hz1,hE⟩
 have HBX:=Lib.hid hbx
 have HE:=Lib.hid hE
 have q3:=(hbx.cells 3).1
 clear hbx hE
 go_wp2_with fail
 go_loopw [4] (fun q wr=>∃ j:Nat,1≤j∧j≤p.cycle.length∧q=.int .i64 j∧(∀ q' d' k',j<q'→1≤d'→1≤k'→p.period=(q':Nat)*d'→p.cycle.length=q' * k'→¬ Parts p.cycle d' k')∧Below W1.heap.size W1 wr) (fun q _=>(intOf q).toNat)
 case atStart=>
  refine ⟨p.cycle.length,hn1,Nat.le_refl _,rfl,fun q' d' k' h1 h2 h3 h4 h5=>?_,Below.refl _ _⟩
  have:q' * 1≤q' * k':=Nat.mul_le_mul_left _ h3
  omega
 case round=>
  obtain ⟨j,hj1,hjn,rfl,hmax,hb⟩:=hrel
  have HM:=Lib.hid hmax
  have HB:=Lib.hid hb
  have hbx:=HBX.out.below hb
  have q0:=(hbx.cells 0).1
  have q1:=(hbx.cells 1).1
  have q2:=(hbx.cells 2).1
  have q3:=(hbx.cells 3).1
  clear hmax hbx hb
  by_cases hgt:1<j
  ·have hjI:(1:Int)<j:=by omega
   have hjz:¬ (j:Int)=0:=by omega
   have ht1:(p.cycle.length:Int).tmod j=(p.cycle.length:Int) % j:=Int.tmod_eq_emod_of_nonneg (by omega)
   have ht2:p.period.tmod (j:Int)=p.period % (j:Int):=Int.tmod_eq_emod_of_nonneg (by omega)
   obtain ⟨r1,hr1⟩:∃ r1,r1=(p.cycle.length:Int) % j:=⟨_,rfl⟩
   obtain ⟨r2,hr2⟩:∃ r2,r2=p.period % (j:Int):=⟨_,rfl⟩
   have hstep:(∀ d' k',1≤d'→1≤k'→p.period=(j:Nat)*d'→p.cycle.length=j*k'→¬ Parts p.cycle d' k')→∀ q' d' k',j-1<q'→1≤d'→1≤k'→p.period=(q':Nat)*d'→p.cycle.length=q' * k'→¬ Parts p.cycle d' k':=fun h q' d' k' h1 h2 h3 h4 h5=>by
    rcases Nat.lt_or_ge j q' with h7|h7
    ·exact HM.out q' d' k' h7 h2 h3 h4 h5
    ·obtain rfl:q'=j:=by omega
     exact h d' k' h2 h3 h4 h5
   have HSTEP:=Lib.hid hstep
   clear hstep
   by_cases hd1:(p.cycle.length:Int) % j=0
   ·by_cases hd2:p.period % j=0
    ·obtain ⟨d,hd⟩:∃ d,p.period / j=d:=⟨_,rfl⟩
     obtain ⟨k,hk⟩:∃ k:Nat,(p.cycle.length:Int) / j=k:=⟨p.cycle.length / j,by simp⟩
     have hTd:p.period=(j:Nat)*d:=by rw [← hd];exact (Int.mul_ediv_cancel' (Int.dvd_of_emod_eq_zero hd2)).symm
     have hnk:p.cycle.length=j*k:=by
      have:=Int.mul_ediv_cancel' (Int.dvd_of_emod_eq_zero hd1)
      rw [hk] at this
      have e:((j*k:Nat):Int)=p.cycle.length:=by rw [← this];push_cast;rfl
      omega
     have hd1':1≤d:=by
      rcases Int.lt_or_le 0 d with h|h
      ·omega
      ·have:=Int.mul_nonpos_of_nonneg_of_nonpos (show (0:Int)≤(j:Nat) by omega) h;omega
     have hk1':1≤k:=by
      rcases Nat.eq_zero_or_pos k with h|h
      ·subst h;exact absurd (by simpa using hnk) hne
      ·exact h
     have hkn:k≤p.cycle.length:=by rw [hnk];exact Nat.le_mul_of_pos_left k (by omega)
     have hdT:d≤p.period:=hd ▸ Int.ediv_le_self _ (by omega)
     have HTd:=Lib.hid hTd
     have HNK:=Lib.hid hnk
     have hb1:((p.cycle.length:Int) % j == 0)=true:=by simpa using hd1
     have hb2:(p.period % (j:Int) == 0)=true:=by simpa using hd2
     have ht3:p.period.tdiv (j:Int)=d:=by rw [Int.tdiv_eq_ediv_of_nonneg (by omega)];exact hd
     have ht4:(p.cycle.length:Int).tdiv j=k:=by rw [Int.tdiv_eq_ediv_of_nonneg (by omega)];exact hk
     have HD:=Lib.hid hd
     clear hTd hnk hd1 hd2 hr1 hr2 hd hk
     cases hP:partsB p.cycle d k with
     | true=>
      have hPP:=partsB_iff.1 hP
      have HS:=Lib.hid (short_of_parts hw hne hd1' (by omega) HTd.out HNK.out hk1' hPP (fun q' d' k'=>HM.out q' d' k'))
      have HP:=Lib.hid hP
      have HCALL:Hid (∀ W,Below wr.heap.size wr W→Calls Tryz.prog 99 #[.slice a2 p.cycle.length c2,.int .i64 d,.int .i64 k] W fun e w'=>e=.returned (.bool true)∧∃ n,w'=W.drewN n):=Lib.hid (fun W hb=>by
       have:=Rrepeats_any _ p.cycle p.period d k W hT hw.cyc (((H2.out.ext HE.out).ext HB.out).ext hb) (by omega) hdT hk1' hkn
       rw [hP] at this;exact this)
      clear hPP hP
      go_wp2_with fail
      go_quiet ((go_at_call 99;(first|exact Calls.quiet_of (HCALL.out _ (by (repeat' (with_reducible first|assumption|apply Er|apply Ea|apply Ed|apply En|(refine Es ?_ (by first|(simp<;>omega)|omega) _)|refine Et ?_ (by assumption)))))|exact quiet_add (HCALL.out _ (by (repeat' (with_reducible first|assumption|apply Er|apply Ea|apply Ed|apply En|(refine Es ?_ (by first|(simp<;>omega)|omega) _)|refine Et ?_ (by assumption))))))))
      go_wp2_with fail
      go_ret
      exact ⟨d,k,ret_int (by first|rfl|exact HD.out),HS.out,hk1',hkn,by have hE:=HE.out;have hb:=HB.out;(repeat' (with_reducible first|assumption|apply Er|apply Ea|apply Ed|apply En|(refine Es ?_ (by first|(simp<;>omega)|omega) _)|refine Et ?_ (by assumption)))⟩
     | false=>
      have HP:=Lib.hid hP
      have HCALL:Hid (∀ W,Below wr.heap.size wr W→Calls Tryz.prog 99 #[.slice a2 p.cycle.length c2,.int .i64 d,.int .i64 k] W fun e w'=>e=.returned (.bool false)∧∃ n,w'=W.drewN n):=Lib.hid (fun W hb=>by
       have:=Rrepeats_any _ p.cycle p.period d k W hT hw.cyc (((H2.out.ext HE.out).ext HB.out).ext hb) (by omega) hdT hk1' hkn
       rw [hP] at this;exact this)
      clear hP
      go_wp2_with fail
      go_quiet ((go_at_call 99;(first|exact Calls.quiet_of (HCALL.out _ (by (repeat' (with_reducible first|assumption|apply Er|apply Ea|apply Ed|apply En|(refine Es ?_ (by first|(simp<;>omega)|omega) _)|refine Et ?_ (by assumption)))))|exact quiet_add (HCALL.out _ (by (repeat' (with_reducible first|assumption|apply Er|apply Ea|apply Ed|apply En|(refine Es ?_ (by first|(simp<;>omega)|omega) _)|refine Et ?_ (by assumption))))))))
      go_wp2_with fail
      go_roundw
      case rel=>
       refine ⟨j-1,by omega,by omega,by congr 1;omega,HSTEP.out (fun d' k' h2 h3 h4 h5 h6=>?_),by have hb:=HB.out;(repeat' (with_reducible first|assumption|apply Er|apply Ea|apply Ed|apply En|(refine Es ?_ (by first|(simp<;>omega)|omega) _)|refine Et ?_ (by assumption)))⟩
       have e1:d'=d:=Int.eq_of_mul_eq_mul_left (show ((j:Nat):Int)≠0 by omega) (h4.symm.trans HTd.out)
       have e2:k'=k:=Nat.eq_of_mul_eq_mul_left (show 0<j by omega) (h5.symm.trans HNK.out)
       subst e1;subst e2
       have hP:=HP.out
       rw [partsB_iff.2 h6] at hP;cases hP
      case measure=>simp [intOf];omega
    ·have HD2:=Lib.hid (HSTEP.out (fun d' k' h2 h3 h4 h5 h6=>hd2 (by rw [h4];exact Int.mul_emod_right _ _)))
     have hb1:((p.cycle.length:Int) % j == 0)=true:=by simpa using hd1
     have hb2:(p.period % (j:Int) == 0)=false:=by simpa using hd2
     clear hd1 hd2 hr1 hr2
     go_wp2_with fail
     go_quiet (fail)
     go_wp2_with fail
     go_roundw
     case rel=>exact ⟨j-1,by omega,by omega,by congr 1;omega,HD2.out,by have hb:=HB.out;(repeat' (with_reducible first|assumption|apply Er|apply Ea|apply Ed|apply En|(refine Es ?_ (by first|(simp<;>omega)|omega) _)|refine Et ?_ (by assumption)))⟩
     case measure=>simp [intOf];omega
   ·have HD1:=Lib.hid (HSTEP.out (fun d' k' h2 h3 h4 h5 h6=>hd1 (by rw [h5];push_cast;exact Int.mul_emod_right _ _)))
    have hb1:((p.cycle.length:Int) % j == 0)=false:=by simpa using hd1
    clear hd1 hr1 hr2
    go_wp2_with fail
    go_quiet (fail)
    go_wp2_with fail
    go_roundw
    case rel=>exact ⟨j-1,by omega,by omega,by congr 1;omega,HD1.out,by have hb:=HB.out;(repeat' (with_reducible first|assumption|apply Er|apply Ea|apply Ed|apply En|(refine Es ?_ (by first|(simp<;>omega)|omega) _)|refine Et ?_ (by assumption)))⟩
    case measure=>simp [intOf];omega
  ·obtain rfl:j=1:=by omega
   have hP:Parts p.cycle p.period p.cycle.length:=⟨fun i hi hk=>by omega,by omega,by have:=hw.cyc.get_bounds (i:=p.cycle.length-1) (by omega);exact this.2⟩
   have HS:=Lib.hid (short_of_parts hw hne hT0 (Nat.le_refl 1) (by simp) (by simp) hn1 hP (fun q' d' k'=>HM.out q' d' k'))
   clear hP
   go_wp2_with fail
   go_ret
   exact ⟨p.period,p.cycle.length,rfl,HS.out,hn1,Nat.le_refl _,by have hE:=HE.out;have hb:=HB.out;(repeat' (with_reducible first|assumption|apply Er|apply Ea|apply Ed|apply En|(refine Es ?_ (by first|(simp<;>omega)|omega) _)|refine Et ?_ (by assumption)))⟩
end Go.Proofs.YtjilkhhokkncoaaGreat
