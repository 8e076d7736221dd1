/- Walks: rising, in, Valid, Has (package kalendsref04). -/
import Derived.Test.YtjilkhhokkncoaaGreatMK5
import Derived.Deep.QuietTactic
import Derived.BigQuiet
set_option linter.unusedVariables false
set_option linter.unusedSimpArgs false
namespace Go.Proofs.YtjilkhhokkncoaaGreat
open Go.RowKit Go.Maps Kal
set_option maxHeartbeats 2000000 in
theorem Rrising_any (v:Value) (l:List Int) (lim:Int) (w:World) (hv:Ints w v l) :
  Calls Tryz.prog 53 #[v,.int .i64 lim] w fun e w'=>e=.returned (.bool (risingB (-1) lim l))∧∃ n,w'=w.drewN n:=by
 obtain ⟨⟨a,c,rfl,hlc,hc,hcells⟩,hlen,hb⟩:=hv
 go_enter Tryz.func53,Tryz.ntmps53
 go_wp2_with fail
 go_loopw [5] (fun i wr=>∃ (k:Nat) (pv:Int),k≤l.length∧i=.int .i64 k∧((k=0∧pv=-1)∨(1≤k∧pv=l.getD (k-1) 0∧0≤pv))∧risingB (-1) lim l=risingB pv lim (l.drop k)∧∃ n,wr=w.drewN n) (fun i _=>l.length-(intOf i).toNat)
 case atStart=>exact ⟨0,-1,by omega,rfl,.inl ⟨rfl,rfl⟩,by simp,0,rfl⟩
 case round=>
  obtain ⟨k,pv,hk,rfl,hpv,hr,n,rfl⟩:=hrel
  have HR:=Lib.hid hr
  clear hr
  by_cases hlt:k<l.length
  ·rcases hcells with h|⟨b,o,rfl,hcell⟩
   ·rw [h] at hlt;simp at hlt
   have hcl:=hcell k hlt
   have hlI:(k:Int)<l.length:=by omega
   have hdr:risingB pv lim (l.drop k)=if l.getD k 0≤pv∨lim≤l.getD k 0 then false else risingB (l.getD k 0) lim (l.drop (k+1)):=by rw [drop_cons hlt,risingB]
   rw [hdr] at HR
   clear hdr
   obtain ⟨x,hx⟩:∃ x,x=l.getD k 0:=⟨_,rfl⟩
   rw [← hx] at hcl HR
   have HX:=Lib.hid hx
   clear hx
   have hend:∀ q:Bool,(x≤pv∨lim≤x↔q=true)→risingB (-1) lim l=if q then false else risingB x lim (l.drop (k+1)):=fun q h=>by
    rw [HR.out]
    cases q <;> simp at h <;> simp [h]
   have HEND:=Lib.hid hend
   clear hend
   rcases hpv with ⟨hk0,hp0⟩|⟨hk1,hpe,hp0⟩
   ·have hkz:¬ (0:Int)<k:=by omega
    have hkd:decide ((0:Int)<(k:Int))=false:=by simp [hk0]
    have hkn:decide (0<k)=false:=by simp [hk0]
    have hkm:¬ 0<k:=by omega
    have HK0:=Lib.hid hk0
    have HP0:=Lib.hid hp0
    clear hcell hk0 hp0
    by_cases h1:x<0
    ·have d1:decide (x<0)=true:=by simp [h1]
     go_wp2_with fail
     go_quiet (fail)
     go_wp2_with fail
     go_ret
     refine ⟨ret_bool ?_,_,World.drewN_drewN _ _ _⟩
     rw [HEND.out true (by have:=HP0.out;simp;omega)];rfl
    ·have d1:decide (x<0)=false:=by simp;omega
     by_cases h2:lim≤x
     ·have d2:decide (lim≤x)=true:=by simp [h2]
      go_wp2_with fail
      go_quiet (fail)
      go_wp2_with fail
      go_ret
      refine ⟨ret_bool ?_,_,World.drewN_drewN _ _ _⟩
      rw [HEND.out true (by simp [h2])];rfl
     ·have d2:decide (lim≤x)=false:=by simp;omega
      go_wp2_with fail
      go_quiet (fail)
      go_wp2_with fail
      go_roundw
      case rel=>exact ⟨k+1,x,by omega,by go_num,.inr ⟨by omega,HX.out,by omega⟩,by rw [HEND.out false (by have:=HP0.out;simp;omega)];rfl,_,rfl⟩
      case measure=>simp [intOf];omega
   ·have hcl2:=hcell (k-1) (by omega)
    have hkz:(0:Int)<k:=by omega
    have hkd:decide ((0:Int)<(k:Int))=true:=by simp;omega
    rw [← hpe] at hcl2
    have HPE:=Lib.hid hpe
    clear hcell hpe
    by_cases h1:x<0
    ·have d1:decide (x<0)=true:=by simp [h1]
     go_wp2_with fail
     go_quiet (fail)
     go_wp2_with fail
     go_ret
     refine ⟨ret_bool ?_,_,World.drewN_drewN _ _ _⟩
     rw [HEND.out true (by simp;omega)];rfl
    ·have d1:decide (x<0)=false:=by simp;omega
     by_cases h2:lim≤x
     ·have d2:decide (lim≤x)=true:=by simp [h2]
      go_wp2_with fail
      go_quiet (fail)
      go_wp2_with fail
      go_ret
      refine ⟨ret_bool ?_,_,World.drewN_drewN _ _ _⟩
      rw [HEND.out true (by simp [h2])];rfl
     ·have d2:decide (lim≤x)=false:=by simp;omega
      obtain ⟨k',hk'⟩:∃ k',k=k'+1:=⟨k-1,by omega⟩
      subst hk'
      rw [show k'+1-1=k' from by omega] at hcl2
      have hs1:(((k'+1:Nat):Int)-1)=(k':Int):=by omega
      by_cases h3:x≤pv
      ·have d3:decide (x≤pv)=true:=by simp [h3]
       go_wp2_with fail
       go_quiet (fail)
       go_wp2_with fail
       go_ret
       refine ⟨ret_bool ?_,_,World.drewN_drewN _ _ _⟩
       rw [HEND.out true (by simp [h3])];rfl
      ·have d3:decide (x≤pv)=false:=by simp;omega
       go_wp2_with fail
       go_quiet (fail)
       go_wp2_with fail
       go_roundw
       case rel=>exact ⟨k'+1+1,x,by omega,by go_num,.inr ⟨by omega,HX.out,by omega⟩,by rw [HEND.out false (by simp;omega)];rfl,_,rfl⟩
       case measure=>simp [intOf];omega
  ·obtain rfl:k=l.length:=by omega
   go_wp2_with fail
   go_ret
   exact ⟨ret_bool (by rw [HR.out,List.drop_length];rfl),n,rfl⟩
theorem valid_no {head cycle:List Int} {frm period:Int} (h:frm<0∨1099511627776<frm∨period<1∨1099511627776<period∨1048576<(head.length:Int)+cycle.length):validB ⟨head,frm,period,cycle⟩=false:=by
 unfold validB
 rcases h with h|h|h|h|h
 ·rw [decide_eq_false (show ¬ 0≤frm by omega)];rfl
 ·rw [decide_eq_false (show ¬ frm≤1099511627776 by omega)];simp
 ·rw [decide_eq_false (show ¬ 1≤period by omega)];simp
 ·rw [decide_eq_false (show ¬ period≤1099511627776 by omega)];simp
 ·rw [decide_eq_false (show ¬ (head.length:Int)+cycle.length≤1048576 by omega)];simp
theorem valid_yes {head cycle:List Int} {frm period:Int} (h:0≤frm∧frm≤1099511627776∧1≤period∧period≤1099511627776∧(head.length:Int)+cycle.length≤1048576):validB ⟨head,frm,period,cycle⟩=(risingB (-1) frm head && risingB (-1) period cycle):=by
 unfold validB
 rw [decide_eq_true h.1,decide_eq_true h.2.1,decide_eq_true h.2.2.1,decide_eq_true h.2.2.2.1,decide_eq_true h.2.2.2.2];simp
set_option maxRecDepth 100000 in
set_option maxHeartbeats 2000000 in
theorem RValid_any (h c:Value) (p:Per) (w:World) (hp:PerIs w h c p) (hf:InI p.frm) (ht:InI p.period) :
  Calls Tryz.prog 16 #[perV h c p.frm p.period] w fun e w'=>e=.returned (.bool (validB p))∧Below w.heap.size w w':=by
 unfold InI at hf ht
 have hh':∀ W,Below w.heap.size w W→Ints W h p.head:=fun W hb=>hp.hd.ext hb
 have hc':∀ W,Below w.heap.size w W→Ints W c p.cycle:=fun W hb=>hp.cy.ext hb
 have hl1:=hp.hd.len
 have hl2:=hp.cy.len
 obtain ⟨a1,c1,a2,c2,rfl,rfl⟩:=hp.inn.form
 obtain ⟨head,frm,period,cycle⟩:=p
 dsimp only at *
 obtain ⟨r1,hr1⟩:∃ r1,r1=risingB (-1) frm head:=⟨_,rfl⟩
 obtain ⟨r2,hr2⟩:∃ r2,r2=risingB (-1) period cycle:=⟨_,rfl⟩
 have HR1:=Lib.hid hr1.symm
 have HR2:=Lib.hid hr2.symm
 clear hp hr1 hr2
 go_enter Tryz.func16,Tryz.ntmps16
 go_wp2_with (go_at_call 53;first|((with_reducible refine (Rrising_any (.slice a1 head.length c1) head frm _ (hh' _ (by (repeat' (with_reducible first|assumption|apply Er|apply Ea|apply Ed|apply En|(refine Es ?_ (by first|(simp<;>omega)|omega) _)|refine Et ?_ (by assumption)))))).mono ?_);rintro e w1 ⟨he,n1,rfl⟩;rw [HR1.out] at he;subst he)|((with_reducible refine (Rrising_any (.slice a2 cycle.length c2) cycle period _ (hc' _ (by (repeat' (with_reducible first|assumption|apply Er|apply Ea|apply Ed|apply En|(refine Es ?_ (by first|(simp<;>omega)|omega) _)|refine Et ?_ (by assumption)))))).mono ?_);rintro e w2 ⟨he,n2,rfl⟩;rw [HR2.out] at he;subst he))
 all_goals go_ret
 all_goals first
  | exact ⟨ret_bool (valid_no (by omega)).symm,by (repeat' (with_reducible first|assumption|apply Er|apply Ea|apply Ed|apply En|(refine Es ?_ (by first|(simp<;>omega)|omega) _)|refine Et ?_ (by assumption)))⟩
  | (refine ⟨ret_bool ?_,by (repeat' (with_reducible first|assumption|apply Er|apply Ea|apply Ed|apply En|(refine Es ?_ (by first|(simp<;>omega)|omega) _)|refine Et ?_ (by assumption)))⟩;rw [valid_yes (by omega),HR1.out,HR2.out];first|rfl|simp [*])
end Go.Proofs.YtjilkhhokkncoaaGreat
