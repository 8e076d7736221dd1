/- Walks: copied, sorted (package kalendsref04). -/
import Derived.Test.YtjilkhhokkncoaaGreatMWalkRl
set_option linter.unusedVariables false
set_option linter.unusedSimpArgs false
namespace Go.Proofs.YtjilkhhokkncoaaGreat
open Go.RowKit Go.Maps Kal
theorem take_succ_getD {l:List Int} {k:Nat} (h:k<l.length):l.take (k+1)=l.take k ++ [l.getD k 0]:=by
 rw [List.take_succ_eq_append_getElem h,List.getD_eq_getElem?_getD,List.getElem?_eq_getElem h];rfl
set_option maxRecDepth 100000 in
set_option maxHeartbeats 2000000 in
theorem Rcopied_any (v:Value) (l:List Int) (w:World) (hv:Ints w v l) :
  Calls Tryz.prog 77 #[v] w (WinRes l w):=by
 have HV:=Lib.hid hv
 obtain ⟨⟨a1,c1,rfl,_,_,_⟩,hlen,_⟩:=hv
 go_enter Tryz.func77,Tryz.ntmps77
 go_upto_region 2 with (fail)
 refine wp_abs (F:=fun U=>OwnI U w.heap.size (.slice (some ⟨w.heap.size,0,none⟩) 0 0) []∧Below w.heap.size w U) ⟨OwnI.empty (Nat.le_refl _),by (repeat' (with_reducible first|assumption|apply Er|apply Ea|apply Ed|apply En|(refine Es ?_ (by first|(simp<;>omega)|omega) _)|refine Et ?_ (by assumption)))⟩ ?_
 rintro W2 ⟨hown0,hE2⟩
 go_wp2_with fail
 go_loopw [3,4] (fun o i wr=>∃ k:Nat,k≤l.length∧i=.int .i64 k∧OwnI wr w.heap.size o (l.take k)∧Below w.heap.size w wr) (fun _ i _=>l.length-(intOf i).toNat)
 case atStart=>exact ⟨0,by omega,rfl,hown0,hE2⟩
 case round=>
  obtain ⟨k,hk,rfl,hown,hb⟩:=hrel
  have HB:=Lib.hid hb
  have hszr:=hb.size
  by_cases hlt:k<l.length
  ·have hlI:(k:Int)<l.length:=by omega
   obtain ⟨⟨a',c',he,_,_,h38⟩,_,hrg⟩:=HV.out.ext hb
   injection he with e1 _ e2
   subst e1;subst e2
   rcases h38 with h38|⟨b,o,rfl,hcell⟩
   ·rw [h38] at hlt;simp at hlt
   have hcl:=hcell k hlt
   have hyI:=hrg _ (getD_mem hlt)
   unfold InI at hyI
   have HSU:=Lib.hid (take_succ_getD hlt)
   have hll:(l.take k).length=k:=by simp;omega
   generalize l.getD k 0=y at *
   obtain ⟨L,hL⟩:∃ L,L=l.take k:=⟨_,rfl⟩
   rw [← hL] at hown hll HSU
   obtain ⟨oa,oc,rfl⟩:=hown.form
   have HOWN:=Lib.hid hown
   clear hcell hL hown hb hrg
   go_wp2_with (at_builtin;refine append_list (by rfl) _ _ (by rfl) w.heap.size (.slice oa L.length oc) L y (by rfl) (HOWN.out.ext (by (repeat' (with_reducible first|assumption|apply Er|apply Ea|apply Ed|apply En|(refine Es ?_ (by first|(simp<;>omega)|omega) _)|refine Et ?_ (by assumption))))) _ _ (by rfl) (by first|(simp;done)|exact ((Bxx.new _ #[.int .i64 y] _).cells 0).1) ⟨by omega,by omega⟩ (by omega) (by simp;omega) ?_;intro gg cap w6 hown6 hgrow6 hbel6)
   go_roundw
   case rel=>
    refine ⟨k+1,by omega,by go_num,?_,(HB.out.alloc (by omega) _).trans hbel6⟩
    rw [HSU.out];rw [hll] at hown6;exact hown6
   case measure=>simp [intOf];omega
  ·obtain rfl:k=l.length:=by omega
   rw [List.take_length] at hown
   have HOWN:=Lib.hid hown
   obtain ⟨oa,oc,rfl⟩:=hown.form
   clear hown hb
   go_wp2_with fail
   go_ret
   exact ⟨_,rfl,HOWN.out,HB.out⟩
theorem swap_list (A B:List Int) (a x:Int):((A ++ a :: x :: B).set (A.length+1) a).set A.length x=A ++ x :: a :: B:=by
 simp [List.set_append]
theorem OwnI.swap {w:World} {base g n cap:Nat} {A B:List Int} {a x:Int} (h:OwnI w base (.slice (some ⟨g,0,none⟩) n cap) (A ++ a :: x :: B)) (hn:n=(A ++ a :: x :: B).length) :
  OwnI ((w.setCell ⟨g,A.length+1,none⟩ (.int .i64 a)).setCell ⟨g,A.length,none⟩ (.int .i64 x)) base (.slice (some ⟨g,0,none⟩) n cap) (A ++ x :: a :: B):=by
 have hr:=h.row
 subst hn
 have h1:=(hr.stored (A.length+1) (.int .i64 a)).1
 have h2:=(h1.stored A.length (.int .i64 x)).1
 rw [← List.map_set (f:=Value.int .i64),← List.map_set (f:=Value.int .i64),swap_list] at h2
 refine ⟨?_,fun y hy=>h.rng y (by simp at hy ⊢;grind),by have:=h.len;simp at this ⊢;omega⟩
 have e:(A ++ x :: a :: B).length=(A ++ a :: x :: B).length:=by simp
 rw [e];exact h2
theorem ins_split {X:List Int} {j:Nat} (h:j<X.length) (x:Int):X.take (j+1) ++ x :: X.drop (j+1)=X.take j ++ X.getD j 0 :: x :: X.drop (j+1):=by
 rw [take_succ_getD h];simp
theorem ins_split2 {X:List Int} {j:Nat} (h:j<X.length) (x:Int):X.take j ++ x :: X.getD j 0 :: X.drop (j+1)=X.take j ++ x :: X.drop j:=by
 rw [← drop_cons h]
theorem ins_sorted {X:List Int} {x:Int} {j:Nat} (hX:X.Pairwise (· < ·)) (hj:j≤X.length) (hlo:j=0∨X.getD (j-1) 0<x) (hhi:∀ y∈X.drop j,x<y):(X.take j ++ x :: X.drop j).Pairwise (· < ·):=by
 have hlow:∀ y∈X.take j,y<x:=by
  rcases hlo with rfl|hlo
  ·simp
  ·intro y hy
   obtain ⟨i,hi,rfl⟩:=List.mem_take_iff_getElem.1 hy
   have hi2:i<j∧i<X.length:=by omega
   have e:X.getD (j-1) 0=X[j-1]'(by omega):=by rw [List.getD_eq_getElem?_getD,List.getElem?_eq_getElem (by omega)];rfl
   rw [e] at hlo
   rcases Nat.lt_or_ge i (j-1) with h|h
   ·have:=List.pairwise_iff_getElem.1 hX i (j-1) hi2.2 (by omega) h
    omega
   ·have:i=j-1:=by omega
    subst this;exact hlo
 refine List.pairwise_append.2 ⟨hX.sublist (List.take_sublist _ _),List.pairwise_cons.2 ⟨fun y hy=>hhi y hy,hX.sublist (List.drop_sublist _ _)⟩,fun y hy z hz=>?_⟩
 rw [List.mem_cons] at hz
 have h1:=hlow y hy
 rcases hz with rfl|hz
 ·exact h1
 ·have:=hhi z hz;omega
theorem ins_get1 {X:List Int} {x:Int} {j:Nat} (h:j<X.length):(X.take (j+1) ++ x :: X.drop (j+1))[j]? = some (X.getD j 0):=by
 rw [ins_split h,List.getElem?_append_right (by simp;omega),List.length_take,show j-min j X.length=0 from by omega];rfl
theorem ins_get2 {X:List Int} {x:Int} {j:Nat} (h:j≤X.length):(X.take j ++ x :: X.drop j)[j]? = some x:=by
 rw [List.getElem?_append_right (by simp;omega),List.length_take,show j-min j X.length=0 from by omega];rfl
theorem ins_mem {X:List Int} {x:Int} {j:Nat} (y:Int):y∈X.take j ++ x :: X.drop j↔y∈X∨y=x:=by
 rw [List.mem_append,List.mem_cons]
 constructor
 ·rintro (h|rfl|h)
  ·exact .inl (List.mem_of_mem_take h)
  ·exact .inr rfl
  ·exact .inl (List.mem_of_mem_drop h)
 ·rintro (h|rfl)
  ·rw [← List.take_append_drop j X,List.mem_append] at h
   rcases h with h|h
   ·exact .inl h
   ·exact .inr (.inr h)
  ·exact .inr (.inl rfl)
set_option maxRecDepth 100000 in
set_option maxHeartbeats 2000000 in
theorem Rsorted_any (v:Value) (l:List Int) (w:World) (hv:Ints w v l) (hnd:l.Nodup) :
  Calls Tryz.prog 80 #[v] w (WinRes (isort l) w):=by
 have HV:=Lib.hid hv
 have HND:=Lib.hid hnd
 obtain ⟨⟨a1,c1,rfl,_,_,_⟩,hlen,_⟩:=hv
 clear hnd
 go_enter Tryz.func80,Tryz.ntmps80
 go_upto_region 2 with (fail)
 refine wp_abs (F:=fun U=>OwnI U w.heap.size (.slice (some ⟨w.heap.size,0,none⟩) 0 0) []∧Below w.heap.size w U) ⟨OwnI.empty (Nat.le_refl _),by (repeat' (with_reducible first|assumption|apply Er|apply Ea|apply Ed|apply En|(refine Es ?_ (by first|(simp<;>omega)|omega) _)|refine Et ?_ (by assumption)))⟩ ?_
 rintro W2 ⟨hown0,hE2⟩
 go_wp2_with fail
 go_loopw [3,4] (fun o i wr=>∃ (k:Nat) (X:List Int),k≤l.length∧i=.int .i64 k∧OwnI wr w.heap.size o X∧X.length=k∧X.Pairwise (· < ·)∧(∀ y,y∈X↔y∈l.take k)∧Below w.heap.size w wr) (fun _ i _=>l.length-(intOf i).toNat)
 case atStart=>exact ⟨0,[],by omega,rfl,hown0,rfl,.nil,by simp,hE2⟩
 case round=>
  obtain ⟨k,X,hk,rfl,hown,hXl,hXp,hXm,hb⟩:=hrel
  have HB:=Lib.hid hb
  have HXP:=Lib.hid hXp
  have HXM:=Lib.hid hXm
  have hszr:=hb.size
  clear hXp hXm
  by_cases hlt:k<l.length
  ·have hlI:(k:Int)<l.length:=by omega
   obtain ⟨⟨a',c',he,_,_,h38⟩,_,hrg⟩:=HV.out.ext hb
   injection he with e1 _ e2
   subst e1;subst e2
   rcases h38 with h38|⟨b,o,rfl,hcell⟩
   ·rw [h38] at hlt;simp at hlt
   have hcl:=hcell k hlt
   have hyI:=hrg _ (getD_mem hlt)
   unfold InI at hyI
   have HSU:=Lib.hid (take_succ_getD hlt)
   have hnew:l.getD k 0 ∉ X:=by
    intro h
    have h2:=(HXM.out _).1 h
    have h3:=(List.nodup_append.1 (HSU.out ▸ (HND.out.sublist (List.take_sublist (k+1) l)))).2.2 _ h2 (l.getD k 0) (by simp)
    exact h3 rfl
   have HNEW:=Lib.hid hnew
   clear hnew
   generalize l.getD k 0=x at *
   obtain ⟨oa,oc,rfl⟩:=hown.form
   have HOWN:=Lib.hid hown
   clear hcell hown hb hrg
   go_wp2_with (at_builtin;refine append_list (by rfl) _ _ (by rfl) w.heap.size (.slice oa X.length oc) X x (by rfl) (HOWN.out.ext (by (repeat' (with_reducible first|assumption|apply Er|apply Ea|apply Ed|apply En|(refine Es ?_ (by first|(simp<;>omega)|omega) _)|refine Et ?_ (by assumption))))) _ _ (by rfl) (by first|(simp;done)|exact ((Bxx.new _ #[.int .i64 x] _).cells 0).1) ⟨by omega,by omega⟩ (by omega) (by simp;omega) ?_;intro gg cap w6 hown6 hgrow6 hbel6)
   have hbe:Below w.heap.size w w6:=(HB.out.alloc (by omega) _).trans hbel6
   have hgg:=hown6.lt gg rfl
   have hst6:OwnI w6 w.heap.size (.slice (some ⟨gg,0,none⟩) (k+1) cap) (X.take k ++ x :: X.drop k):=by
    rw [List.take_of_length_le (by omega),List.drop_eq_nil_of_le (by omega),← hXl];exact hown6
   have HST6:=Lib.hid hst6
   have HBE:=Lib.hid hbe
   have hgl:=hgg.1
   have HXL:=Lib.hid hXl
   clear hst6 hbe hown6 hgrow6 hbel6 hgg
   have HNX:Hid (∀ j:Nat,j≤k→(j=0∨X.getD (j-1) 0<x)→(∀ y∈X.drop j,x<y)→(X.take j ++ x :: X.drop j).length=k+1∧(X.take j ++ x :: X.drop j).Pairwise (· < ·)∧(∀ y,y∈X.take j ++ x :: X.drop j↔y∈l.take (k+1))):=Lib.hid (fun j hj h1 h2=>⟨by simp;omega,ins_sorted HXP.out (by omega) h1 h2,fun y=>by rw [ins_mem,HXM.out,HSU.out,List.mem_append,List.mem_singleton]⟩)
   go_loopw [5,6] (fun av _ wq=>∃ j:Nat,j≤k∧av=.int .i64 j∧OwnI wq w.heap.size (.slice (some ⟨gg,0,none⟩) (k+1) cap) (X.take j ++ x :: X.drop j)∧(∀ y∈X.drop j,x<y)∧Below w.heap.size w wq) (fun av _ _=>(intOf av).toNat)
   case atStart=>exact ⟨k,by omega,rfl,HST6.out,by rw [List.drop_eq_nil_of_le (by have:=HXL.out;omega)];simp,HBE.out⟩
   case round=>
    obtain ⟨j,hj,rfl,hown,hgt,hb⟩:=hrel
    have HB2:=Lib.hid hb
    have HOWN:=Lib.hid hown
    have HGT:=Lib.hid hgt
    have hbs:=hb.size
    clear hgt hb
    by_cases hj0:j=0
    ·have hkz:¬ (0:Int)<j:=by omega
     have hkd:decide ((0:Int)<(j:Int))=false:=by simp;omega
     have hkn:decide (0<j)=false:=by simp;omega
     have hkm:¬ 0<j:=by omega
     have HJ0:=Lib.hid hj0
     clear hj0 hown
     go_wp2_with fail
     go_quiet (fail)
     go_wp2_with fail
     go_roundw
     case rel=>
      have h:=HNX.out j hj (.inl HJ0.out) HGT.out
      exact ⟨k+1,_,by omega,by go_num,HOWN.out.ext (by (repeat' (with_reducible first|assumption|apply Er|apply Ea|apply Ed|apply En|(refine Es ?_ (by first|(simp<;>omega)|omega) _)|refine Et ?_ (by assumption)))),h.1,h.2.1,h.2.2,by have hb:=HB2.out;(repeat' (with_reducible first|assumption|apply Er|apply Ea|apply Ed|apply En|(refine Es ?_ (by first|(simp<;>omega)|omega) _)|refine Et ?_ (by assumption)))⟩
     case measure=>simp [intOf];omega
    ·obtain ⟨i,rfl⟩:∃ i,j=i+1:=⟨j-1,by omega⟩
     have hix:i<X.length:=by omega
     have hrow:=hown.row
     have hLl:(X.take (i+1) ++ x :: X.drop (i+1)).length=k+1:=by simp;omega
     rw [hLl] at hrow
     have cz:=hrow.cellAt i (by omega)
     have cx:=hrow.cellAt (i+1) (by omega)
     have fz:=hrow.frozenAt i
     have fx:=hrow.frozenAt (i+1)
     rw [List.getElem?_map,ins_get1 hix] at cz
     rw [List.getElem?_map,ins_get2 (by omega)] at cx
     have HSP:=Lib.hid (ins_split hix x)
     have HSQ:=Lib.hid (ins_split2 hix x)
     have HDR:=Lib.hid (drop_cons hix)
     have hzn:X.getD i 0≠x:=fun e=>HNEW.out (e ▸ getD_mem hix)
     have HIZ:Hid (X.getD (i+1-1) 0=X.getD i 0):=Lib.hid rfl
     have htl:(X.take i).length=i:=by simp;omega
     have HTL:=Lib.hid htl
     generalize X.getD i 0=z at *
     have hkz:(0:Int)<((i+1:Nat):Int):=by omega
     have hs1:(((i+1:Nat):Int)-1)=(i:Int):=by omega
     clear hown hrow hLl hix hj0 htl
     by_cases hxz:x<z
     ·have d1:decide (x<z)=true:=by simp [hxz]
      go_wp2_with fail
      go_quiet (fail)
      go_wp2_with fail
      go_roundw
      case rel=>
       have h1:∀ m,OwnI (((wr.drewN m).setCell ⟨gg,i+1,none⟩ (.int .i64 z)).setCell ⟨gg,i,none⟩ (.int .i64 x)) w.heap.size (.slice (some ⟨gg,0,none⟩) (k+1) cap) (X.take i ++ x :: X.drop i):=fun m=>by
        have h0:=HOWN.out.ext (Below.drewN (Below.refl _ wr) m)
        rw [HSP.out] at h0
        have hln:k+1=(X.take i ++ z :: x :: X.drop (i+1)).length:=by have:=HXL.out;rw [List.length_append,HTL.out];simp;omega
        have h2:=h0.swap hln
        rw [HTL.out,HSQ.out] at h2
        exact h2
       refine ⟨i,by omega,by go_num,h1 _,?_,by have hb:=HB2.out;(repeat' (with_reducible first|assumption|apply Er|apply Ea|apply Ed|apply En|(refine Es ?_ (by first|(simp<;>omega)|omega) _)|refine Et ?_ (by assumption)))⟩
       rw [HDR.out]
       intro y hy
       rw [List.mem_cons] at hy
       rcases hy with rfl|hy
       ·exact hxz
       ·exact HGT.out y hy
      case measure=>simp [intOf]
     ·have d1:decide (x<z)=false:=by simp;omega
      go_wp2_with fail
      go_quiet (fail)
      go_wp2_with fail
      go_roundw
      case rel=>
       have h:=HNX.out (i+1) hj (.inr (by rw [HIZ.out];omega)) HGT.out
       exact ⟨k+1,_,by omega,by go_num,HOWN.out.ext (by (repeat' (with_reducible first|assumption|apply Er|apply Ea|apply Ed|apply En|(refine Es ?_ (by first|(simp<;>omega)|omega) _)|refine Et ?_ (by assumption)))),h.1,h.2.1,h.2.2,by have hb:=HB2.out;(repeat' (with_reducible first|assumption|apply Er|apply Ea|apply Ed|apply En|(refine Es ?_ (by first|(simp<;>omega)|omega) _)|refine Et ?_ (by assumption)))⟩
      case measure=>simp [intOf];omega
  ·obtain rfl:k=l.length:=by omega
   obtain ⟨oa,oc,rfl⟩:=hown.form
   have HOWN:=Lib.hid hown
   clear hown hb
   have HEQ:Hid (X=isort l):=Lib.hid (sorted_ext HXP.out (isort_lt HND.out) fun y=>by rw [HXM.out,isort_mem,List.take_length])
   go_wp2_with fail
   go_ret
   exact ⟨_,rfl,HEQ.out ▸ HOWN.out,HB.out⟩
end Go.Proofs.YtjilkhhokkncoaaGreat
