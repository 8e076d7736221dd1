/- Walks: combined (package kalendsref04). -/
import Derived.Test.YtjilkhhokkncoaaGreatMWalkRx
import Derived.Test.YtjilkhhokkncoaaGreatMMathQ
set_option linter.unusedVariables false
set_option linter.unusedSimpArgs false
namespace Go.Proofs.YtjilkhhokkncoaaGreat
open Go.RowKit Go.Maps Kal
set_option maxRecDepth 100000 in
set_option maxHeartbeats 4000000 in
theorem Rcombined_any (v1 v2:Value) (l m:List Int) (op:Int) (w:World) (h1:Ints w v1 l) (h2:Ints w v2 m) (hlen:l.length+m.length≤8796093022208) :
  Calls Tryz.prog 64 #[v1,v2,.int .i64 op] w (WinRes (combR op l m) w):=by
 have HV1:=Lib.hid h1
 have HV2:=Lib.hid h2
 obtain ⟨⟨a1,c1,rfl,_,_,_⟩,_,_⟩:=h1
 obtain ⟨⟨a2,c2,rfl,_,_,_⟩,_,_⟩:=h2
 go_enter Tryz.func64,Tryz.ntmps64
 go_upto_region 2 with (fail)
 refine wp_abs (F:=fun U=>OwnI U w.heap.size (.slice (some ⟨w.heap.size,0,none⟩) 0 0) []∧Below w.heap.size w U) ⟨OwnI.empty (Nat.le_refl _),by (repeat' (with_reducible first|assumption|apply Er|apply Ea|apply Ed|apply En|(refine Es ?_ (by first|(simp<;>omega)|omega) _)|refine Et ?_ (by assumption)))⟩ ?_
 rintro W2 ⟨hown0,hE2⟩
 go_wp2_with fail
 go_loopw [7,8,9] (fun o iv kv wr=>∃ (i k:Nat) (X:List Int),i≤l.length∧k≤m.length∧iv=.int .i64 i∧kv=.int .i64 k∧X.length≤i+k∧OwnI wr w.heap.size o X∧X ++ combR op (l.drop i) (m.drop k)=combR op l m∧Below w.heap.size w wr) (fun _ iv kv _=>l.length+m.length-((intOf iv).toNat+(intOf kv).toNat))
 case atStart=>exact ⟨0,0,[],by omega,by omega,rfl,rfl,by simp,hown0,rfl,hE2⟩
 case round=>
  obtain ⟨i,k,X,hi,hk,rfl,rfl,hX,hown,hC,hb⟩:=hrel
  have HB:=Lib.hid hb
  have HC:=Lib.hid hC
  have hszr:=hb.size
  obtain ⟨oa,oc,rfl⟩:=hown.form
  have HOWN:=Lib.hid hown
  clear hown hC
  by_cases hil:i<l.length
  ·have hiI:(i:Int)<l.length:=by omega
   have hie:((i:Int) == (l.length:Int))=false:=by rw [beq_eq_false_iff_ne];omega
   obtain ⟨⟨a',c',he,_,_,h38⟩,_,hrg⟩:=HV1.out.ext hb
   injection he with e1 _ e2
   subst e1;subst e2
   rcases h38 with h38|⟨xb,xo,rfl,hcell⟩
   ·rw [h38] at hil;simp at hil
   have xc:=hcell i hil
   have xI:=hrg _ (getD_mem hil)
   unfold InI at xI
   clear hcell hrg
   by_cases hkm:k<m.length
   ·have hkI:(k:Int)<m.length:=by omega
    have hke:((k:Int) == (m.length:Int))=false:=by rw [beq_eq_false_iff_ne];omega
    obtain ⟨⟨a',c',he,_,_,h38⟩,_,hrg⟩:=HV2.out.ext hb
    injection he with e1 _ e2
    subst e1;subst e2
    rcases h38 with h38|⟨yb,yo,rfl,hcell⟩
    ·rw [h38] at hkm;simp at hkm
    have yc:=hcell k hkm
    have yI:=hrg _ (getD_mem hkm)
    unfold InI at yI
    clear hcell hrg
    rcases Int.lt_trichotomy (l.getD i 0) (m.getD k 0) with hlt|heq|hgt
    ·have hst:=comb_at_a (op:=op) hil (fun _=>hlt)
     generalize l.getD i 0=x at *
     generalize m.getD k 0=y at *
     have d1:decide (x<y)=true:=by simp [hlt]
     by_cases hcd:op≠0
     ·have hc:op≠0:=hcd
      have dc:(op != 0)=true:=by first|(simp at hc;simp [hc];done)|(simp [hc];done)
      have HST:=Lib.hid (hst.trans (if_pos hc))
      clear hst hcd hc hb
      go_wp2_with fail
      go_quiet (fail)
      go_wp2_with (at_builtin;refine append_list (by rfl) _ _ (by rfl) w.heap.size (.slice oa X.length oc) X x (by rfl) (HOWN.out.ext (by (repeat' (with_reducible first|assumption|apply Er|apply Ea|apply Ed|apply En|(refine Es ?_ (by first|(simp<;>omega)|omega) _)|refine Et ?_ (by assumption))))) _ _ (by rfl) (by first|(simp;done)|exact ((Bxx.new _ #[.int .i64 x] _).cells 0).1) ⟨by omega,by omega⟩ (by omega) (by simp;omega) ?_;intro gg cap w6 hown6 hgrow6 hbel6)
      go_roundw
      case rel=>
       refine ⟨i+1,k,X ++ [x],by omega,by omega,by first|rfl|go_num,by first|rfl|go_num,by simp;omega,hown6,?_,by have hb:=HB.out;refine Below.trans ?_ hbel6;(repeat' (with_reducible first|assumption|apply Er|apply Ea|apply Ed|apply En|(refine Es ?_ (by first|(simp<;>omega)|omega) _)|refine Et ?_ (by assumption)))⟩
       rw [← HC.out,HST.out,List.append_assoc];rfl
      case measure=>simp [intOf];omega
     ·have hc:¬ (op≠0):=hcd
      have dc:(op != 0)=false:=by first|(simp at hc;simp [hc];done)|(simp [hc];done)
      have HST:=Lib.hid (hst.trans (if_neg hc))
      clear hst hcd hc hb
      go_wp2_with fail
      go_quiet (fail)
      go_wp2_with fail
      go_roundw
      case rel=>
       refine ⟨i+1,k,X,by omega,by omega,by first|rfl|go_num,by first|rfl|go_num,by omega,HOWN.out.ext (by (repeat' (with_reducible first|assumption|apply Er|apply Ea|apply Ed|apply En|(refine Es ?_ (by first|(simp<;>omega)|omega) _)|refine Et ?_ (by assumption)))),?_,by have hb:=HB.out;(repeat' (with_reducible first|assumption|apply Er|apply Ea|apply Ed|apply En|(refine Es ?_ (by first|(simp<;>omega)|omega) _)|refine Et ?_ (by assumption)))⟩
       rw [← HC.out,HST.out]
      case measure=>simp [intOf];omega
    ·have hst:=comb_at_ab (op:=op) hil hkm heq
     rw [← heq] at yc yI
     clear heq
     generalize l.getD i 0=x at *
     have d1:decide (x<x)=false:=by simp
     by_cases hcd:op≠2
     ·have hc:op≠2:=hcd
      have dc:(op != 2)=true:=by first|(simp at hc;simp [hc];done)|(simp [hc];done)
      have HST:=Lib.hid (hst.trans (if_pos hc))
      clear hst hcd hc hb
      go_wp2_with fail
      go_quiet (fail)
      go_wp2_with fail
      go_quiet (fail)
      go_wp2_with (at_builtin;refine append_list (by rfl) _ _ (by rfl) w.heap.size (.slice oa X.length oc) X x (by rfl) (HOWN.out.ext (by (repeat' (with_reducible first|assumption|apply Er|apply Ea|apply Ed|apply En|(refine Es ?_ (by first|(simp<;>omega)|omega) _)|refine Et ?_ (by assumption))))) _ _ (by rfl) (by first|(simp;done)|exact ((Bxx.new _ #[.int .i64 x] _).cells 0).1) ⟨by omega,by omega⟩ (by omega) (by simp;omega) ?_;intro gg cap w6 hown6 hgrow6 hbel6)
      go_roundw
      case rel=>
       refine ⟨i+1,k+1,X ++ [x],by omega,by omega,by first|rfl|go_num,by first|rfl|go_num,by simp;omega,hown6,?_,by have hb:=HB.out;refine Below.trans ?_ hbel6;(repeat' (with_reducible first|assumption|apply Er|apply Ea|apply Ed|apply En|(refine Es ?_ (by first|(simp<;>omega)|omega) _)|refine Et ?_ (by assumption)))⟩
       rw [← HC.out,HST.out,List.append_assoc];rfl
      case measure=>simp [intOf];omega
     ·have hc:¬ (op≠2):=hcd
      have dc:(op != 2)=false:=by first|(simp at hc;simp [hc];done)|(simp [hc];done)
      have HST:=Lib.hid (hst.trans (if_neg hc))
      clear hst hcd hc hb
      go_wp2_with fail
      go_quiet (fail)
      go_wp2_with fail
      go_quiet (fail)
      go_wp2_with fail
      go_roundw
      case rel=>
       refine ⟨i+1,k+1,X,by omega,by omega,by first|rfl|go_num,by first|rfl|go_num,by omega,HOWN.out.ext (by (repeat' (with_reducible first|assumption|apply Er|apply Ea|apply Ed|apply En|(refine Es ?_ (by first|(simp<;>omega)|omega) _)|refine Et ?_ (by assumption)))),?_,by have hb:=HB.out;(repeat' (with_reducible first|assumption|apply Er|apply Ea|apply Ed|apply En|(refine Es ?_ (by first|(simp<;>omega)|omega) _)|refine Et ?_ (by assumption)))⟩
       rw [← HC.out,HST.out]
      case measure=>simp [intOf];omega
    ·have hst:=comb_at_b (op:=op) (l:=l) (i:=i) hkm (fun _=>hgt)
     generalize l.getD i 0=x at *
     generalize m.getD k 0=y at *
     have d1:decide (x<y)=false:=by simp;omega
     have d2:decide (y<x)=true:=by simp [hgt]
     by_cases hcd:op=1
     ·have hc:op=1:=hcd
      have dc:(op == 1)=true:=by first|(simp at hc;simp [hc];done)|(simp [hc];done)
      have HST:=Lib.hid (hst.trans (if_pos hc))
      clear hst hcd hc hb
      go_wp2_with fail
      go_quiet (fail)
      go_wp2_with fail
      go_quiet (fail)
      go_wp2_with (at_builtin;refine append_list (by rfl) _ _ (by rfl) w.heap.size (.slice oa X.length oc) X y (by rfl) (HOWN.out.ext (by (repeat' (with_reducible first|assumption|apply Er|apply Ea|apply Ed|apply En|(refine Es ?_ (by first|(simp<;>omega)|omega) _)|refine Et ?_ (by assumption))))) _ _ (by rfl) (by first|(simp;done)|exact ((Bxx.new _ #[.int .i64 y] _).cells 0).1) ⟨by omega,by omega⟩ (by omega) (by simp;omega) ?_;intro gg cap w6 hown6 hgrow6 hbel6)
      go_roundw
      case rel=>
       refine ⟨i,k+1,X ++ [y],by omega,by omega,by first|rfl|go_num,by first|rfl|go_num,by simp;omega,hown6,?_,by have hb:=HB.out;refine Below.trans ?_ hbel6;(repeat' (with_reducible first|assumption|apply Er|apply Ea|apply Ed|apply En|(refine Es ?_ (by first|(simp<;>omega)|omega) _)|refine Et ?_ (by assumption)))⟩
       rw [← HC.out,HST.out,List.append_assoc];rfl
      case measure=>simp [intOf];omega
     ·have hc:¬ (op=1):=hcd
      have dc:(op == 1)=false:=by first|(simp at hc;simp [hc];done)|(simp [hc];done)
      have HST:=Lib.hid (hst.trans (if_neg hc))
      clear hst hcd hc hb
      go_wp2_with fail
      go_quiet (fail)
      go_wp2_with fail
      go_quiet (fail)
      go_wp2_with fail
      go_roundw
      case rel=>
       refine ⟨i,k+1,X,by omega,by omega,by first|rfl|go_num,by first|rfl|go_num,by omega,HOWN.out.ext (by (repeat' (with_reducible first|assumption|apply Er|apply Ea|apply Ed|apply En|(refine Es ?_ (by first|(simp<;>omega)|omega) _)|refine Et ?_ (by assumption)))),?_,by have hb:=HB.out;(repeat' (with_reducible first|assumption|apply Er|apply Ea|apply Ed|apply En|(refine Es ?_ (by first|(simp<;>omega)|omega) _)|refine Et ?_ (by assumption)))⟩
       rw [← HC.out,HST.out]
      case measure=>simp [intOf];omega
   ·obtain rfl:k=m.length:=by omega
    have hst:=comb_at_a (op:=op) (m:=m) (k:=m.length) hil (fun h=>absurd h hkm)
    generalize l.getD i 0=x at *
    by_cases hcd:op≠0
    ·have hc:op≠0:=hcd
     have dc:(op != 0)=true:=by first|(simp at hc;simp [hc];done)|(simp [hc];done)
     have HST:=Lib.hid (hst.trans (if_pos hc))
     clear hst hcd hc hb
     go_wp2_with fail
     go_quiet (fail)
     go_wp2_with (at_builtin;refine append_list (by rfl) _ _ (by rfl) w.heap.size (.slice oa X.length oc) X x (by rfl) (HOWN.out.ext (by (repeat' (with_reducible first|assumption|apply Er|apply Ea|apply Ed|apply En|(refine Es ?_ (by first|(simp<;>omega)|omega) _)|refine Et ?_ (by assumption))))) _ _ (by rfl) (by first|(simp;done)|exact ((Bxx.new _ #[.int .i64 x] _).cells 0).1) ⟨by omega,by omega⟩ (by omega) (by simp;omega) ?_;intro gg cap w6 hown6 hgrow6 hbel6)
     go_roundw
     case rel=>
      refine ⟨i+1,m.length,X ++ [x],by omega,by omega,by first|rfl|go_num,by first|rfl|go_num,by simp;omega,hown6,?_,by have hb:=HB.out;refine Below.trans ?_ hbel6;(repeat' (with_reducible first|assumption|apply Er|apply Ea|apply Ed|apply En|(refine Es ?_ (by first|(simp<;>omega)|omega) _)|refine Et ?_ (by assumption)))⟩
      rw [← HC.out,HST.out,List.append_assoc];rfl
     case measure=>simp [intOf];omega
    ·have hc:¬ (op≠0):=hcd
     have dc:(op != 0)=false:=by first|(simp at hc;simp [hc];done)|(simp [hc];done)
     have HST:=Lib.hid (hst.trans (if_neg hc))
     clear hst hcd hc hb
     go_wp2_with fail
     go_quiet (fail)
     go_wp2_with fail
     go_roundw
     case rel=>
      refine ⟨i+1,m.length,X,by omega,by omega,by first|rfl|go_num,by first|rfl|go_num,by omega,HOWN.out.ext (by (repeat' (with_reducible first|assumption|apply Er|apply Ea|apply Ed|apply En|(refine Es ?_ (by first|(simp<;>omega)|omega) _)|refine Et ?_ (by assumption)))),?_,by have hb:=HB.out;(repeat' (with_reducible first|assumption|apply Er|apply Ea|apply Ed|apply En|(refine Es ?_ (by first|(simp<;>omega)|omega) _)|refine Et ?_ (by assumption)))⟩
      rw [← HC.out,HST.out]
     case measure=>simp [intOf];omega
  ·obtain rfl:i=l.length:=by omega
   by_cases hkm:k<m.length
   ·have hkI:(k:Int)<m.length:=by omega
    have hke:((k:Int) == (m.length:Int))=false:=by rw [beq_eq_false_iff_ne];omega
    obtain ⟨⟨a',c',he,_,_,h38⟩,_,hrg⟩:=HV2.out.ext hb
    injection he with e1 _ e2
    subst e1;subst e2
    rcases h38 with h38|⟨yb,yo,rfl,hcell⟩
    ·rw [h38] at hkm;simp at hkm
    have yc:=hcell k hkm
    have yI:=hrg _ (getD_mem hkm)
    unfold InI at yI
    clear hcell hrg
    have hst:=comb_at_b (op:=op) (l:=l) (i:=l.length) hkm (fun h=>absurd h hil)
    generalize m.getD k 0=y at *
    by_cases hcd:op=1
    ·have hc:op=1:=hcd
     have dc:(op == 1)=true:=by first|(simp at hc;simp [hc];done)|(simp [hc];done)
     have HST:=Lib.hid (hst.trans (if_pos hc))
     clear hst hcd hc hb
     go_wp2_with fail
     go_quiet (fail)
     go_wp2_with fail
     go_quiet (fail)
     go_wp2_with (at_builtin;refine append_list (by rfl) _ _ (by rfl) w.heap.size (.slice oa X.length oc) X y (by rfl) (HOWN.out.ext (by (repeat' (with_reducible first|assumption|apply Er|apply Ea|apply Ed|apply En|(refine Es ?_ (by first|(simp<;>omega)|omega) _)|refine Et ?_ (by assumption))))) _ _ (by rfl) (by first|(simp;done)|exact ((Bxx.new _ #[.int .i64 y] _).cells 0).1) ⟨by omega,by omega⟩ (by omega) (by simp;omega) ?_;intro gg cap w6 hown6 hgrow6 hbel6)
     go_roundw
     case rel=>
      refine ⟨l.length,k+1,X ++ [y],by omega,by omega,by first|rfl|go_num,by first|rfl|go_num,by simp;omega,hown6,?_,by have hb:=HB.out;refine Below.trans ?_ hbel6;(repeat' (with_reducible first|assumption|apply Er|apply Ea|apply Ed|apply En|(refine Es ?_ (by first|(simp<;>omega)|omega) _)|refine Et ?_ (by assumption)))⟩
      rw [← HC.out,HST.out,List.append_assoc];rfl
     case measure=>simp [intOf];omega
    ·have hc:¬ (op=1):=hcd
     have dc:(op == 1)=false:=by first|(simp at hc;simp [hc];done)|(simp [hc];done)
     have HST:=Lib.hid (hst.trans (if_neg hc))
     clear hst hcd hc hb
     go_wp2_with fail
     go_quiet (fail)
     go_wp2_with fail
     go_quiet (fail)
     go_wp2_with fail
     go_roundw
     case rel=>
      refine ⟨l.length,k+1,X,by omega,by omega,by first|rfl|go_num,by first|rfl|go_num,by omega,HOWN.out.ext (by (repeat' (with_reducible first|assumption|apply Er|apply Ea|apply Ed|apply En|(refine Es ?_ (by first|(simp<;>omega)|omega) _)|refine Et ?_ (by assumption)))),?_,by have hb:=HB.out;(repeat' (with_reducible first|assumption|apply Er|apply Ea|apply Ed|apply En|(refine Es ?_ (by first|(simp<;>omega)|omega) _)|refine Et ?_ (by assumption)))⟩
      rw [← HC.out,HST.out]
     case measure=>simp [intOf];omega
   ·obtain rfl:k=m.length:=by omega
    have hfin:X=combR op l m:=by have h:=HC.out;rw [List.drop_length,List.drop_length,combR_nil,List.append_nil] at h;exact h
    rw [hfin] at HOWN
    have HF:=Lib.hid hfin
    clear hfin hb
    go_wp2_with fail
    go_ret
    exact ⟨_,rfl,by rw [HF.out];exact HOWN.out,HB.out⟩
end Go.Proofs.YtjilkhhokkncoaaGreat
