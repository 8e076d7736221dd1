/- Contracts: list, numbers, Equal, every, canonical, And, Or, Minus. -/
import Derived.Test.YtjilkhhokkncoaaGreatMK9
import Derived.Test.YtjilkhhokkncoaaGreatMK10
import Derived.Test.YtjilkhhokkncoaaGreatMK11
import Derived.Test.YtjilkhhokkncoaaGreatMK8
import Derived.Test.YtjilkhhokkncoaaGreatMK1
import Derived.Test.YtjilkhhokkncoaaGreatMK2
set_option linter.unusedVariables false
set_option linter.unusedSimpArgs false
/- Walks: list, numbers, Equal, every, canonical, And, Or, Minus. -/
namespace Go.Proofs.YtjilkhhokkncoaaGreat
open Go.RowKit Go.Maps Kal
theorem take_step {l1 l2:List Int} {k:Nat} (hl:l1.length=l2.length) (hk:k<l1.length) (h:l1.take k=l2.take k) (he:l1.getD k 0=l2.getD k 0):l1.take (k+1)=l2.take (k+1):=by
 rw [List.take_add_one,List.take_add_one,h]
 have h2:k<l2.length:=by omega
 rw [List.getD_eq_getElem?_getD,List.getD_eq_getElem?_getD,List.getElem?_eq_getElem hk,List.getElem?_eq_getElem h2] at he
 rw [List.getElem?_eq_getElem hk,List.getElem?_eq_getElem h2]
 simp at he
 simp [he]
theorem per_eq_iff (p q:Per):p=q↔p.frm=q.frm∧p.period=q.period∧p.head=q.head∧p.cycle=q.cycle:=by
 constructor
 ·rintro rfl;simp
 ·rintro ⟨h1,h2,h3,h4⟩;cases p;cases q;simp_all
instance:DecidableEq Per:=fun p q=>decidable_of_iff _ (per_eq_iff p q).symm
set_option maxRecDepth 100000 in
set_option maxHeartbeats 1000000 in
theorem list_any (v1 v2:Value) (l1 l2:List Int) (w:World) (h1:Ints w v1 l1) (h2:Ints w v2 l2) :
  Calls Tryz.prog 51 #[v1,v2] w fun e w'=>e=.returned (.bool (decide (l1=l2)))∧Below w.heap.size w w':=by
 have H1:=Lib.hid h1
 have H2:=Lib.hid h2
 obtain ⟨⟨a1,c1,rfl,_,_,_⟩,g4,_⟩:=h1
 obtain ⟨⟨a2,c2,rfl,_,_,_⟩,k4,_⟩:=h2
 go_enter Tryz.func51,Tryz.ntmps51
 by_cases hl:l1.length=l2.length
 ·have hlI:(l1.length:Int)=l2.length:=by omega
  have HLL:=Lib.hid hl
  have hdf:((l1.length:Int) != (l2.length:Int))=false:=by rw [hlI];simp
  rw [hlI] at hdf
  clear hl
  go_wp2_with fail
  go_loopw [5] (fun i wr=>∃ k:Nat,k≤l1.length∧i=.int .i64 k∧l1.take k=l2.take k∧Below w.heap.size w wr) (fun i _=>l1.length-(intOf i).toNat)
  case atStart=>exact ⟨0,by omega,rfl,by simp,by (repeat' (with_reducible first|assumption|apply Er|apply Ea|apply Ed|apply En|(refine Es ?_ (by first|(simp<;>omega)|omega) _)|refine Et ?_ (by assumption)))⟩
  case round=>
   obtain ⟨k,hk,rfl,ht,hb⟩:=hrel
   have HT:=Lib.hid ht
   clear ht
   by_cases hlt:k<l1.length
   ·have hlt2:k<l2.length:=by have:=HLL.out;omega
    obtain ⟨⟨a1',c1',he1,_,_,g3⟩,_,_⟩:=H1.out.ext hb
    obtain ⟨⟨a2',c2',he2,_,_,k3⟩,_,_⟩:=H2.out.ext hb
    injection he1 with e1 _ e2
    subst e1;subst e2
    injection he2 with e1 _ e2
    subst e1;subst e2
    rcases g3 with h|⟨b1,o1,rfl,hcell1⟩
    ·subst h;simp at hlt
    rcases k3 with h|⟨b2,o2,rfl,hcell2⟩
    ·subst h;simp at hlt2
    have HB:=Lib.hid hb
    have hc1:=hcell1 k hlt
    have hc2:=hcell2 k hlt2
    have HST:=Lib.hid (take_step HLL.out hlt HT.out)
    generalize hx:l1.getD k 0=x at *
    generalize hy:l2.getD k 0=y at *
    have HX:=Lib.hid hx
    have HY:=Lib.hid hy
    clear hcell1 hcell2 hx hy hb
    by_cases hxy:x=y
    ·have HXY:=Lib.hid hxy
     have hb:(x != y)=false:=by rw [HXY.out];simp
     clear hxy
     go_wp2_with fail
     go_quiet (fail)
     go_wp2_with fail
     go_roundw
     case rel=>exact ⟨k+1,by omega,by go_num,HST.out HXY.out,by have hb:=HB.out;(repeat' (with_reducible first|assumption|apply Er|apply Ea|apply Ed|apply En|(refine Es ?_ (by first|(simp<;>omega)|omega) _)|refine Et ?_ (by assumption)))⟩
     case measure=>simp [intOf];omega
    ·have hb:(x != y)=true:=by simp [hxy]
     have hne:l1≠l2:=fun h=>hxy (by rw [← HX.out,← HY.out,h])
     go_wp2_with fail
     go_quiet (fail)
     go_wp2_with fail
     go_ret
     exact ⟨ret_bool (by simp [hne]),by have hb:=HB.out;(repeat' (with_reducible first|assumption|apply Er|apply Ea|apply Ed|apply En|(refine Es ?_ (by first|(simp<;>omega)|omega) _)|refine Et ?_ (by assumption)))⟩
   ·have heq:l1=l2:=by
     have h:=HT.out
     rw [List.take_of_length_le (by omega),List.take_of_length_le (by have:=HLL.out;omega)] at h
     exact h
    go_wp2_with fail
    go_ret
    exact ⟨ret_bool (by simp [heq]),by (repeat' (with_reducible first|assumption|apply Er|apply Ea|apply Ed|apply En|(refine Es ?_ (by first|(simp<;>omega)|omega) _)|refine Et ?_ (by assumption)))⟩
 ·have hlI:¬ (l1.length:Int)=l2.length:=by omega
  have hdf:((l1.length:Int) != (l2.length:Int))=true:=by simp [hlI]
  have hne:l1≠l2:=fun h=>hl (by rw [h])
  go_wp2_with fail
  go_ret
  exact ⟨ret_bool (by simp [hne]),by (repeat' (with_reducible first|assumption|apply Er|apply Ea|apply Ed|apply En|(refine Es ?_ (by first|(simp<;>omega)|omega) _)|refine Et ?_ (by assumption)))⟩
set_option maxRecDepth 100000 in
set_option maxHeartbeats 1000000 in
theorem numbers_any (v1 v2:Value) (l1 l2:List Int) (w:World) (h1:Ints w v1 l1) (h2:Ints w v2 l2) :
  Calls Tryz.prog 42 #[v1,v2] w fun e w'=>e=.returned (.bool (decide (l1=l2)))∧Below w.heap.size w w':=by
 have H1:=Lib.hid h1
 have H2:=Lib.hid h2
 obtain ⟨⟨a1,c1,rfl,_,_,_⟩,g4,_⟩:=h1
 obtain ⟨⟨a2,c2,rfl,_,_,_⟩,k4,_⟩:=h2
 go_enter Tryz.func42,Tryz.ntmps42
 by_cases hl:l1.length=l2.length
 ·have hlI:(l1.length:Int)=l2.length:=by omega
  have HLL:=Lib.hid hl
  have hdf:((l1.length:Int) != (l2.length:Int))=false:=by rw [hlI];simp
  rw [hlI] at hdf
  clear hl
  go_wp2_with fail
  go_loopw [5] (fun i wr=>∃ k:Nat,k≤l1.length∧i=.int .i64 k∧l1.take k=l2.take k∧Below w.heap.size w wr) (fun i _=>l1.length-(intOf i).toNat)
  case atStart=>exact ⟨0,by omega,rfl,by simp,by (repeat' (with_reducible first|assumption|apply Er|apply Ea|apply Ed|apply En|(refine Es ?_ (by first|(simp<;>omega)|omega) _)|refine Et ?_ (by assumption)))⟩
  case round=>
   obtain ⟨k,hk,rfl,ht,hb⟩:=hrel
   have HT:=Lib.hid ht
   clear ht
   by_cases hlt:k<l1.length
   ·have hlt2:k<l2.length:=by have:=HLL.out;omega
    obtain ⟨⟨a1',c1',he1,_,_,g3⟩,_,_⟩:=H1.out.ext hb
    obtain ⟨⟨a2',c2',he2,_,_,k3⟩,_,_⟩:=H2.out.ext hb
    injection he1 with e1 _ e2
    subst e1;subst e2
    injection he2 with e1 _ e2
    subst e1;subst e2
    rcases g3 with h|⟨b1,o1,rfl,hcell1⟩
    ·subst h;simp at hlt
    rcases k3 with h|⟨b2,o2,rfl,hcell2⟩
    ·subst h;simp at hlt2
    have HB:=Lib.hid hb
    have hc1:=hcell1 k hlt
    have hc2:=hcell2 k hlt2
    have HST:=Lib.hid (take_step HLL.out hlt HT.out)
    generalize hx:l1.getD k 0=x at *
    generalize hy:l2.getD k 0=y at *
    have HX:=Lib.hid hx
    have HY:=Lib.hid hy
    clear hcell1 hcell2 hx hy hb
    by_cases hxy:x=y
    ·have HXY:=Lib.hid hxy
     have hb:(x != y)=false:=by rw [HXY.out];simp
     clear hxy
     go_wp2_with fail
     go_quiet (fail)
     go_wp2_with fail
     go_roundw
     case rel=>exact ⟨k+1,by omega,by go_num,HST.out HXY.out,by have hb:=HB.out;(repeat' (with_reducible first|assumption|apply Er|apply Ea|apply Ed|apply En|(refine Es ?_ (by first|(simp<;>omega)|omega) _)|refine Et ?_ (by assumption)))⟩
     case measure=>simp [intOf];omega
    ·have hb:(x != y)=true:=by simp [hxy]
     have hne:l1≠l2:=fun h=>hxy (by rw [← HX.out,← HY.out,h])
     go_wp2_with fail
     go_quiet (fail)
     go_wp2_with fail
     go_ret
     exact ⟨ret_bool (by simp [hne]),by have hb:=HB.out;(repeat' (with_reducible first|assumption|apply Er|apply Ea|apply Ed|apply En|(refine Es ?_ (by first|(simp<;>omega)|omega) _)|refine Et ?_ (by assumption)))⟩
   ·have heq:l1=l2:=by
     have h:=HT.out
     rw [List.take_of_length_le (by omega),List.take_of_length_le (by have:=HLL.out;omega)] at h
     exact h
    go_wp2_with fail
    go_ret
    exact ⟨ret_bool (by simp [heq]),by (repeat' (with_reducible first|assumption|apply Er|apply Ea|apply Ed|apply En|(refine Es ?_ (by first|(simp<;>omega)|omega) _)|refine Et ?_ (by assumption)))⟩
 ·have hlI:¬ (l1.length:Int)=l2.length:=by omega
  have hdf:((l1.length:Int) != (l2.length:Int))=true:=by simp [hlI]
  have hne:l1≠l2:=fun h=>hl (by rw [h])
  go_wp2_with fail
  go_ret
  exact ⟨ret_bool (by simp [hne]),by (repeat' (with_reducible first|assumption|apply Er|apply Ea|apply Ed|apply En|(refine Es ?_ (by first|(simp<;>omega)|omega) _)|refine Et ?_ (by assumption)))⟩
set_option maxRecDepth 100000 in
set_option maxHeartbeats 1000000 in
theorem Equal_any (h1 c1 h2 c2:Value) (p1 p2:Per) (w:World) (hp1:PerIs w h1 c1 p1) (hp2:PerIs w h2 c2 p2) :
  Calls Tryz.prog 14 #[perV h1 c1 p1.frm p1.period,perV h2 c2 p2.frm p2.period] w fun e w'=>e=.returned (.bool (decide (p1=p2)))∧Below w.heap.size w w':=by
 have hl1:∀ W,Below w.heap.size w W→Ints W h1 p1.head:=fun W hb=>hp1.hd.ext hb
 have hl2:∀ W,Below w.heap.size w W→Ints W h2 p2.head:=fun W hb=>hp2.hd.ext hb
 have hl3:∀ W,Below w.heap.size w W→Ints W c1 p1.cycle:=fun W hb=>hp1.cy.ext hb
 have hl4:∀ W,Below w.heap.size w W→Ints W c2 p2.cycle:=fun W hb=>hp2.cy.ext hb
 clear hp1 hp2
 have HE:=Lib.hid (per_eq_iff p1 p2)
 go_enter Tryz.func14,Tryz.ntmps14
 by_cases hf:p1.frm=p2.frm
 ·have hf':(p1.frm == p2.frm)=true:=by simp [hf]
  have HF:=Lib.hid hf
  clear hf
  by_cases hp:p1.period=p2.period
  ·have hp':(p1.period == p2.period)=true:=by simp [hp]
   have HP:=Lib.hid hp
   clear hp
   by_cases hh:p1.head=p2.head
   ·have hh':decide (p1.head=p2.head)=true:=by simp [hh]
    have hfin:decide (p1=p2)=decide (p1.cycle=p2.cycle):=by
     by_cases hc:p1.cycle=p2.cycle
     ·rw [decide_eq_true hc,decide_eq_true (HE.out.2 ⟨HF.out,HP.out,hh,hc⟩)]
     ·rw [decide_eq_false hc,decide_eq_false (fun h=>hc (HE.out.1 h).2.2.2)]
    rw [hfin]
    clear hfin hh HE
    go_wp2_with (go_at_call 51;first|((with_reducible refine (list_any h1 h2 _ _ _ (hl1 _ (by (repeat' (with_reducible first|assumption|apply Er|apply Ea|apply Ed|apply En|(refine Es ?_ (by first|(simp<;>omega)|omega) _)|refine Et ?_ (by assumption))))) (hl2 _ (by (repeat' (with_reducible first|assumption|apply Er|apply Ea|apply Ed|apply En|(refine Es ?_ (by first|(simp<;>omega)|omega) _)|refine Et ?_ (by assumption)))))).mono ?_);rintro e w1 ⟨he,hb1⟩;rw [hh'] at he;subst he;obtain ⟨hc1,hf1⟩:=bcell hb1;(try simp only [World.size_alloc,World.size_drew,size_drewN,World.size_setCell] at hc1 hf1);have hz1:w.heap.size+1<w1.heap.size:=(by have h7:=hb1.size;simp at h7;omega))|((with_reducible refine (list_any c1 c2 _ _ _ (hl3 _ (by (repeat' (with_reducible first|assumption|apply Er|apply Ea|apply Ed|apply En|(refine Es ?_ (by first|(simp<;>omega)|omega) _)|refine Et ?_ (by assumption))))) (hl4 _ (by (repeat' (with_reducible first|assumption|apply Er|apply Ea|apply Ed|apply En|(refine Es ?_ (by first|(simp<;>omega)|omega) _)|refine Et ?_ (by assumption)))))).mono ?_);rintro e w2 ⟨rfl,hb2⟩))
    go_ret
    exact ⟨rfl,by (repeat' (with_reducible first|assumption|apply Er|apply Ea|apply Ed|apply En|(refine Es ?_ (by first|(simp<;>omega)|omega) _)|refine Et ?_ (by assumption)))⟩
   ·have hh':decide (p1.head=p2.head)=false:=by simp [hh]
    have hfin:decide (p1=p2)=false:=by rw [decide_eq_false (fun h=>hh (HE.out.1 h).2.2.1)]
    rw [hfin]
    clear hfin hh
    go_wp2_with (go_at_call 51;(refine (list_any h1 h2 _ _ _ (hl1 _ (by (repeat' (with_reducible first|assumption|apply Er|apply Ea|apply Ed|apply En|(refine Es ?_ (by first|(simp<;>omega)|omega) _)|refine Et ?_ (by assumption))))) (hl2 _ (by (repeat' (with_reducible first|assumption|apply Er|apply Ea|apply Ed|apply En|(refine Es ?_ (by first|(simp<;>omega)|omega) _)|refine Et ?_ (by assumption)))))).mono ?_;rintro e w1 ⟨he,hb1⟩;rw [hh'] at he;subst he))
    go_ret
    exact ⟨rfl,by (repeat' (with_reducible first|assumption|apply Er|apply Ea|apply Ed|apply En|(refine Es ?_ (by first|(simp<;>omega)|omega) _)|refine Et ?_ (by assumption)))⟩
  ·have hp':(p1.period == p2.period)=false:=by simp [hp]
   have hfin:decide (p1=p2)=false:=by rw [decide_eq_false (fun h=>hp (HE.out.1 h).2.1)]
   rw [hfin]
   clear hfin hp
   go_wp2_with fail
   go_ret
   exact ⟨rfl,by (repeat' (with_reducible first|assumption|apply Er|apply Ea|apply Ed|apply En|(refine Es ?_ (by first|(simp<;>omega)|omega) _)|refine Et ?_ (by assumption)))⟩
 ·have hf':(p1.frm == p2.frm)=false:=by simp [hf]
  have hfin:decide (p1=p2)=false:=by rw [decide_eq_false (fun h=>hf (HE.out.1 h).1)]
  rw [hfin]
  clear hfin hf
  go_wp2_with fail
  go_ret
  exact ⟨rfl,by (repeat' (with_reducible first|assumption|apply Er|apply Ea|apply Ed|apply En|(refine Es ?_ (by first|(simp<;>omega)|omega) _)|refine Et ?_ (by assumption)))⟩
set_option maxRecDepth 100000 in
set_option maxHeartbeats 1000000 in
theorem And_ok (h1 c1 h2 c2:Value) (p1 p2 qa qb q:Per) (w:World) (hp1:PerIs w h1 c1 p1) (hp2:PerIs w h2 c2 p2) (hv1:Valid p1) (hv2:Valid p2) (hqa:IsCanon qa p1.mem) (hqb:IsCanon qb p2.mem)
  (hL:lcmI qa.period qb.period≤1099511627776) (hpa:qa.period≤4294967295) (hpb:qb.period≤4294967295)
  (hq:IsCanon q (fun n=>p1.mem n∧p2.mem n)) (hcn:cnt (fun n=>p1.mem n∧p2.mem n) (max qa.frm qb.frm+lcmI qa.period qb.period).toNat≤1048576) :
  Calls Tryz.prog 24 #[perV h1 c1 p1.frm p1.period,perV h2 c2 p2.frm p2.period] w (PerOk q w):=by
 have HOP:∀ W,Below w.heap.size w W→Calls Tryz.prog 56 #[perV h1 c1 p1.frm p1.period,perV h2 c2 p2.frm p2.period,.int .i64 0] W (PerOk q W):=fun W hb=>operate_and h1 c1 h2 c2 p1 p2 qa qb q W (hp1.ext hb) (hp2.ext hb) hv1 hv2 hqa hqb hL hpa hpb hq hcn
 clear hp1 hp2 hv1 hv2 hqa hqb hL hpa hpb hq hcn
 go_enter Tryz.func24,Tryz.ntmps24
 go_wp2_with (go_at_call 56;refine (HOP _ (by (repeat' (with_reducible first|assumption|apply Er|apply Ea|apply Ed|apply En|(refine Es ?_ (by first|(simp<;>omega)|omega) _)|refine Et ?_ (by assumption))))).mono ?_;rintro e w2 ⟨h',c',rfl,hp2,hb2⟩;obtain ⟨a1,c1,a2,c2,rfl,rfl⟩:=hp2.form;obtain ⟨hc2,hf2⟩:=bcell hb2;have HP2:=Lib.hid hp2;clear hp2)
 exact bodyPost_ret (v:=.tuple #[perV (.slice a1 q.head.length c1) (.slice a2 q.cycle.length c2) q.frm q.period,.int .i64 0]) (by simp [results,Tryz.results24,go_sem, *]) rfl ⟨_,_,rfl,(HP2.out.above (by (repeat' (with_reducible first|exact Above.refl _ _|refine Above.alloc ?_ _|refine Above.drew ?_|refine Above.drewN ?_ _|refine Above.setCell ?_ (by first|(simp;done)|(simp;omega)|omega) _)))).mono (by simp;omega),by (repeat' (with_reducible first|assumption|apply Er|apply Ea|apply Ed|apply En|(refine Es ?_ (by first|(simp<;>omega)|omega) _)|refine Et ?_ (by assumption)))⟩
set_option maxRecDepth 100000 in
set_option maxHeartbeats 1000000 in
theorem And_err (h1 c1 h2 c2:Value) (f1 t1 f2 t2 k:Int) (w:World)
  (HOP:∀ W,Below w.heap.size w W→Calls Tryz.prog 56 #[perV h1 c1 f1 t1,perV h2 c2 f2 t2,.int .i64 0] W (PerErr k W)) :
  Calls Tryz.prog 24 #[perV h1 c1 f1 t1,perV h2 c2 f2 t2] w (PerErr k w):=by
 go_enter Tryz.func24,Tryz.ntmps24
 go_wp2_with (go_at_call 56;refine (HOP _ (by (repeat' (with_reducible first|assumption|apply Er|apply Ea|apply Ed|apply En|(refine Es ?_ (by first|(simp<;>omega)|omega) _)|refine Et ?_ (by assumption))))).mono ?_;rintro e w2 ⟨rfl,hb2⟩;obtain ⟨hc2,hf2⟩:=bcell hb2)
 exact bodyPost_ret (v:=.tuple #[perV (.slice none 0 0) (.slice none 0 0) 0 0,.int .i64 k]) (by simp [results,Tryz.results24,go_sem, *]) rfl ⟨rfl,by (repeat' (with_reducible first|assumption|apply Er|apply Ea|apply Ed|apply En|(refine Es ?_ (by first|(simp<;>omega)|omega) _)|refine Et ?_ (by assumption)))⟩
set_option maxRecDepth 100000 in
set_option maxHeartbeats 1000000 in
theorem Or_ok (h1 c1 h2 c2:Value) (p1 p2 qa qb q:Per) (w:World) (hp1:PerIs w h1 c1 p1) (hp2:PerIs w h2 c2 p2) (hv1:Valid p1) (hv2:Valid p2) (hqa:IsCanon qa p1.mem) (hqb:IsCanon qb p2.mem)
  (hL:lcmI qa.period qb.period≤1099511627776)
  (hq:IsCanon q (fun n=>p1.mem n∨p2.mem n)) (hcn:cnt (fun n=>p1.mem n∨p2.mem n) (max qa.frm qb.frm+lcmI qa.period qb.period).toNat≤1048576) :
  Calls Tryz.prog 26 #[perV h1 c1 p1.frm p1.period,perV h2 c2 p2.frm p2.period] w (PerOk q w):=by
 have HOP:∀ W,Below w.heap.size w W→Calls Tryz.prog 56 #[perV h1 c1 p1.frm p1.period,perV h2 c2 p2.frm p2.period,.int .i64 1] W (PerOk q W):=fun W hb=>operate_or h1 c1 h2 c2 p1 p2 qa qb q W (hp1.ext hb) (hp2.ext hb) hv1 hv2 hqa hqb hL hq hcn
 clear hp1 hp2 hv1 hv2 hqa hqb hL hq hcn
 go_enter Tryz.func26,Tryz.ntmps26
 go_wp2_with (go_at_call 56;refine (HOP _ (by (repeat' (with_reducible first|assumption|apply Er|apply Ea|apply Ed|apply En|(refine Es ?_ (by first|(simp<;>omega)|omega) _)|refine Et ?_ (by assumption))))).mono ?_;rintro e w2 ⟨h',c',rfl,hp2,hb2⟩;obtain ⟨a1,c1,a2,c2,rfl,rfl⟩:=hp2.form;obtain ⟨hc2,hf2⟩:=bcell hb2;have HP2:=Lib.hid hp2;clear hp2)
 exact bodyPost_ret (v:=.tuple #[perV (.slice a1 q.head.length c1) (.slice a2 q.cycle.length c2) q.frm q.period,.int .i64 0]) (by simp [results,Tryz.results26,go_sem, *]) rfl ⟨_,_,rfl,(HP2.out.above (by (repeat' (with_reducible first|exact Above.refl _ _|refine Above.alloc ?_ _|refine Above.drew ?_|refine Above.drewN ?_ _|refine Above.setCell ?_ (by first|(simp;done)|(simp;omega)|omega) _)))).mono (by simp;omega),by (repeat' (with_reducible first|assumption|apply Er|apply Ea|apply Ed|apply En|(refine Es ?_ (by first|(simp<;>omega)|omega) _)|refine Et ?_ (by assumption)))⟩
set_option maxRecDepth 100000 in
set_option maxHeartbeats 1000000 in
theorem Minus_ok (h1 c1 h2 c2:Value) (p1 p2 qa qb q:Per) (w:World) (hp1:PerIs w h1 c1 p1) (hp2:PerIs w h2 c2 p2) (hv1:Valid p1) (hv2:Valid p2) (hqa:IsCanon qa p1.mem) (hqb:IsCanon qb p2.mem)
  (hL:lcmI qa.period qb.period≤1099511627776)
  (hq:IsCanon q (fun n=>p1.mem n∧¬ p2.mem n)) (hcn:cnt (fun n=>p1.mem n∧¬ p2.mem n) (max qa.frm qb.frm+lcmI qa.period qb.period).toNat≤1048576) :
  Calls Tryz.prog 28 #[perV h1 c1 p1.frm p1.period,perV h2 c2 p2.frm p2.period] w (PerOk q w):=by
 have HOP:∀ W,Below w.heap.size w W→Calls Tryz.prog 56 #[perV h1 c1 p1.frm p1.period,perV h2 c2 p2.frm p2.period,.int .i64 2] W (PerOk q W):=fun W hb=>operate_minus h1 c1 h2 c2 p1 p2 qa qb q W (hp1.ext hb) (hp2.ext hb) hv1 hv2 hqa hqb hL hq hcn
 clear hp1 hp2 hv1 hv2 hqa hqb hL hq hcn
 go_enter Tryz.func28,Tryz.ntmps28
 go_wp2_with (go_at_call 56;refine (HOP _ (by (repeat' (with_reducible first|assumption|apply Er|apply Ea|apply Ed|apply En|(refine Es ?_ (by first|(simp<;>omega)|omega) _)|refine Et ?_ (by assumption))))).mono ?_;rintro e w2 ⟨h',c',rfl,hp2,hb2⟩;obtain ⟨a1,c1,a2,c2,rfl,rfl⟩:=hp2.form;obtain ⟨hc2,hf2⟩:=bcell hb2;have HP2:=Lib.hid hp2;clear hp2)
 exact bodyPost_ret (v:=.tuple #[perV (.slice a1 q.head.length c1) (.slice a2 q.cycle.length c2) q.frm q.period,.int .i64 0]) (by simp [results,Tryz.results28,go_sem, *]) rfl ⟨_,_,rfl,(HP2.out.above (by (repeat' (with_reducible first|exact Above.refl _ _|refine Above.alloc ?_ _|refine Above.drew ?_|refine Above.drewN ?_ _|refine Above.setCell ?_ (by first|(simp;done)|(simp;omega)|omega) _)))).mono (by simp;omega),by (repeat' (with_reducible first|assumption|apply Er|apply Ea|apply Ed|apply En|(refine Es ?_ (by first|(simp<;>omega)|omega) _)|refine Et ?_ (by assumption)))⟩
end Go.Proofs.YtjilkhhokkncoaaGreat
/- Walks: every, canonical (package kalendslaw04). -/
namespace Go.Proofs.YtjilkhhokkncoaaGreat
open Go.RowKit Go.Maps Kal
theorem Ints.lit {w:World} {b:Nat} {l:List Int} {t:TypeId} (h:Bxx w b (l.map (Value.int .i64)).toArray t) (hl:l.length≤17592186044416) (hr:∀ x∈l,InI x):Ints w (.slice (some ⟨b,0,none⟩) l.length l.length) l:=by
 refine ⟨⟨_,_,rfl,Nat.le_refl _,by omega,.inr ⟨b,0,rfl,fun i hi=>?_⟩⟩,hl,hr⟩
 rw [Nat.zero_add,(h.cells i).1]
 rw [List.getElem?_toArray,List.getElem?_map,List.getElem?_eq_getElem hi,List.getD_eq_getElem?_getD,List.getElem?_eq_getElem hi]
 rfl
structure SetAt (w:World) (b:Nat) (h c:Value) (p:Per):Prop where
 box:Bxx w b #[h,.int .i64 p.frm,.int .i64 p.period,c] 24
 is:PerIs w h c p
theorem SetAt.below {w w':World} {b:Nat} {h c:Value} {p:Per} (hs:SetAt w b h c p) (hb:Below w.heap.size w w'):SetAt w' b h c p:=⟨hs.box.below hb,hs.is.ext hb⟩
set_option maxRecDepth 100000 in
set_option maxHeartbeats 1000000 in
theorem every_any (m n:Int) (w:World) (hm:InI m) :
  Calls Tryz.prog 39 #[.int .i64 m,.int .i64 n] w fun e w'=>∃ h' c',e=.returned (perV h' c' 0 n)∧PerIs w' h' c' (ev m n)∧Below w.heap.size w w':=by
 go_enter Tryz.func39,Tryz.ntmps39
 go_wp2_with fail
 exact bodyPost_ret (v:=perV (.slice none 0 0) (.slice (some ⟨w.heap.size+1,0,none⟩) 1 1) 0 n) (by simp [results,Tryz.results39,go_sem]) rfl
  ⟨_,_,rfl,⟨Ints.nil _,Ints.lit (l:=[m]) (Bxx.at (by simp)) (by simp) (by simpa using hm)⟩,by (repeat' (with_reducible first|assumption|apply Er|apply Ea|apply Ed|apply En|(refine Es ?_ (by first|(simp<;>omega)|omega) _)|refine Et ?_ (by assumption)))⟩
set_option maxRecDepth 100000 in
set_option maxHeartbeats 1000000 in
theorem canonical_true (h1 c1 h2 c2:Value) (p q:Per) (w:World) (hp:PerIs w h1 c1 p) (hq2:PerIs w h2 c2 q) (hv:Valid p) (hq:IsCanon q p.mem) :
  Calls Tryz.prog 38 #[perV h1 c1 p.frm p.period,perV h2 c2 q.frm q.period] w fun e w'=>e=.returned (.bool true)∧Below w.heap.size w w':=by
 have hl1:∀ W,Below w.heap.size w W→PerIs W h1 c1 p:=fun W hb=>hp.ext hb
 have hl2:∀ W,Below w.heap.size w W→PerIs W h2 c2 q:=fun W hb=>hq2.ext hb
 have HV:=Lib.hid hv
 have HQ:=Lib.hid hq
 clear hp hq2 hv hq
 go_enter Tryz.func38,Tryz.ntmps38
 go_wp2_with (first|(go_at_call 6;refine (Canon_ok h1 c1 p q _ (hl1 _ (by (repeat' (with_reducible first|assumption|apply Er|apply Ea|apply Ed|apply En|(refine Es ?_ (by first|(simp<;>omega)|omega) _)|refine Et ?_ (by assumption))))) HV.out HQ.out).mono ?_;rintro e w1 ⟨h3,c3,rfl,ho1,hb1⟩;have hk1:=ho1.is;have hi1:=ho1.inn;obtain ⟨a1,n1,a2,n2,rfl,rfl⟩:=ho1.form;clear ho1;obtain ⟨hx1,hf1⟩:=bcell hb1;(try simp only [World.size_alloc,World.size_drew,size_drewN,World.size_setCell] at hx1 hf1);have hz1:w.heap.size+1<w1.heap.size:=(by have h7:=hb1.size;simp at h7;omega);have HK1:=Lib.hid hk1;clear hk1 hi1)|(go_at_call 14;refine (Equal_any _ _ h2 c2 q q _ (HK1.out.ext (by (repeat' (with_reducible first|assumption|apply Er|apply Ea|apply Ed|apply En|(refine Es ?_ (by first|(simp<;>omega)|omega) _)|refine Et ?_ (by assumption))))) (hl2 _ (by (repeat' (with_reducible first|assumption|apply Er|apply Ea|apply Ed|apply En|(refine Es ?_ (by first|(simp<;>omega)|omega) _)|refine Et ?_ (by assumption)))))).mono ?_;rintro e w2 ⟨he,hb2⟩;rw [decide_eq_true rfl] at he;subst he))
 go_ret
 exact ⟨rfl,by (repeat' (with_reducible first|assumption|apply Er|apply Ea|apply Ed|apply En|(refine Es ?_ (by first|(simp<;>omega)|omega) _)|refine Et ?_ (by assumption)))⟩
end Go.Proofs.YtjilkhhokkncoaaGreat
