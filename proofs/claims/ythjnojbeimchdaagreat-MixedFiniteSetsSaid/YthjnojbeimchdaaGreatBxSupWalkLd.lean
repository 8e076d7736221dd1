/- What a law needs beside the base. -/
import Derived.Test.YthjnojbeimchdaaGreatC12d
set_option linter.unusedVariables false
set_option linter.unusedSimpArgs false
namespace Go.Proofs.YthjnojbeimchdaaGreat
open Go.RowKit Go.Maps Kal
theorem MadeM.mv {m:List (List Per)} (h:MadeM m):MV 0 m:=⟨(validM_of h.vt).2 ⟨by have:=h.len;omega,fun t ht=>by have:=h.tlen t ht;omega⟩,h.vt⟩
end Go.Proofs.YthjnojbeimchdaaGreat
namespace Go.Proofs.YthjnojbeimchdaaGreat
open Go.RowKit Go.Maps Kal
theorem mem_mod {p:Per} (h:p.WF) {x y:Int} (hx:p.frm≤x) (hy:p.frm≤y) (hd:p.period∣x-y):p.mem x↔p.mem y:=by
 rw [mem_resP h hx,mem_resP h hy,emod_of_dvd_sub hd]
theorem made_start {m:List (List Per)} (h:MadeM m) {t:List Per} (ht:t∈m):startT t≤8:=startF_le (by decide) fun p hp=>(h.fac t ht p hp).frm
theorem next_none {m:List (List Per)} {f n:Int} (hn:NextF FarI (mmem m) f n false):∀ x,f≤x→x≤1152921504606846976→¬ mmem m x:=by
 rcases hn with ⟨h,_⟩|⟨_,_,h⟩
 ·cases h
 ·exact h
theorem barren_rec {m:List (List Per)} (h:∀ t∈m,barrenT t):∀ t∈m,¬ recT t:=fun t ht ⟨x,_,hx⟩=>h t ht x hx
theorem boolOf (p:Prop):∃ b:Bool,(b=true↔p):=by classical exact ⟨decide p,decide_eq_true_iff⟩
end Go.Proofs.YthjnojbeimchdaaGreat
namespace Go
open Go.RowKit
section
variable {P:Program} {ops:Array Oper} {Q:Exit→Act→World→Prop} {md:Region.Mode}
variable {w0:World} {ph tl:List Nat} {fr:(Nat→Value)→Act} {F:Nat→(Nat→Value)→(Nat→Nat)→(Nat→Nat)→World→Prop} {S:World→Prop}
def StepS (P:Program) (md:Region.Mode) (ops:Array Oper) (Q:Exit→Act→World→Prop) (w0:World) (fr:(Nat→Value)→Act) (F:Nat→(Nat→Value)→(Nat→Nat)→(Nat→Nat)→World→Prop) (S:World→Prop) (k:Nat) (o:Oper):Prop:=
 ∀ (v:Nat→Value) (lo hi:Nat→Nat) (W:World),Below w0.heap.size w0 W→S W→(∀ j∈Region.deps md ops k,lo j≤hi j∧hi j≤W.heap.size∧F j v lo hi W)→
  (Region.wanted o (yielded ops (fr v).tmps)=true∧
  ∀ K:Act→World→Prop,(∀ x W',Below W.heap.size W W'→F k (fun j=>if j=k then x else v j) (fun j=>if j=k then W.heap.size else lo j) (fun j=>if j=k then W'.heap.size else hi j) W'→K (fr (fun j=>if j=k then x else v j)) W')→Oper.wp P o (fr v) W K Q) ∨
  (Region.wanted o (yielded ops (fr v).tmps)=false∧
  ∀ K:Act→World→Prop,(∀ x W',Below W.heap.size W W'→F k (fun j=>if j=k then x else v j) (fun j=>if j=k then W.heap.size else lo j) (fun j=>if j=k then W'.heap.size else hi j) W'→K (fr (fun j=>if j=k then x else v j)) W')→K ((fr v).put o.dst undef) W)
def StepsS (P:Program) (md:Region.Mode) (ops:Array Oper) (Q:Exit→Act→World→Prop) (w0:World) (fr:(Nat→Value)→Act) (F:Nat→(Nat→Value)→(Nat→Nat)→(Nat→Nat)→World→Prop) (S:World→Prop):List Nat→Prop
 | []=>True
 | k :: r=>(∀ o,ops[k]? = some o→StepS P md ops Q w0 fr F S k o)∧StepsS P md ops Q w0 fr F S r
theorem StepsS.cons {k:Nat} {o:Oper} {r:List Nat} (e:ops[k]? = some o) (h:StepS P md ops Q w0 fr F S k o) (t:StepsS P md ops Q w0 fr F S r):StepsS P md ops Q w0 fr F S (k :: r):=⟨fun o' e'=>by rw [e] at e';cases e';exact h,t⟩
theorem StepsS.nil:StepsS P md ops Q w0 fr F S []:=trivial
theorem StepsS.get:∀ {l:List Nat},StepsS P md ops Q w0 fr F S l→∀ i∈l,∀ o,ops[i]? = some o→StepS P md ops Q w0 fr F S i o:=by
 intro l
 induction l with
 | nil=>intro _ i hi;simp at hi
 | cons k l ih=>
  intro h i hi
  rcases List.mem_cons.1 hi with rfl|hi
  ·exact h.1
  ·exact ih h.2 i hi
theorem wpAny_factsS (hc:Region.chkH md ops ph tl=true) (hnd:ph.Nodup)
  (hstab:∀ i v lo hi W W',F i v lo hi W→Below W.heap.size W W'→F i v lo hi W')
  (hloc:∀ i v v' lo lo' hi hi' W,(∀ j,j=i∨j∈Region.deps md ops i→v j=v' j∧lo j=lo' j∧hi j=hi' j)→F i v lo hi W→F i v' lo' hi' W)
  (hS:∀ W,Below w0.heap.size w0 W→S W)
  (steps:StepsS P md ops Q w0 fr F S ph)
  (fin:∀ (v:Nat→Value) (lo hi:Nat→Nat) (W:World),Below w0.heap.size w0 W→S W→(∀ i,ph.contains i=true→w0.heap.size≤lo i∧lo i≤hi i∧hi i≤W.heap.size∧F i v lo hi W)→
   (∀ i j,ph.contains i=true→ph.contains j=true→i≠j→hi i≤lo j∨hi j≤lo i)→wpList P ops Q (tl.filterMap fun i=>ops[i]?) (fr v) W) :
  ∀ (fuel:Nat) (l:Array Bool) (done:List Nat) (v:Nat→Value) (lo hi:Nat→Nat) (a:Act) (W:World),DoneF w0 ph ops md fr F l done v lo hi a W→fuel+done.length=ops.size→wpAny P md ops Q fuel l a W:=by
 unfold Region.chkH at hc
 simp only [Bool.and_eq_true,List.all_eq_true,List.mem_range,decide_eq_true_eq,bne_iff_ne,ne_eq] at hc
 obtain ⟨⟨⟨⟨hone,hph⟩,hback⟩,htl⟩,hfirst⟩:=hc
 have hphlt:∀ i∈ph,i<ops.size:=fun i hi'=>by
  rcases Nat.lt_or_ge i ops.size with h|h
  ·exact h
  ·have:=(hph i hi').1;rw [Array.getElem?_eq_none h] at this;simp at this
 have hcases:∀ i,i<ops.size→(i∈ph∧i ∉ tl)∨(i ∉ ph∧i∈tl):=fun i hi'=>by
  have:=hone i hi'
  by_cases h1:i∈ph <;> by_cases h2:i∈tl <;> simp_all
 have hlens:ph.length+tl.eraseDups.length ≥ 0:=Nat.zero_le _
 have full:∀ {l done v lo hi a W},DoneF w0 ph ops md fr F l done v lo hi a W→(∀ i∈ph,i∈done)→∀ fuel,tl.length≤fuel→wpAny P md ops Q fuel l a W:=by
  intro l done v lo hi a W hd hall fuel hf
  rw [hd.act]
  have hm:∀ i,ph.contains i=true→i∈done:=fun i hi'=>hall i (by simpa using hi')
  refine wpAny_tail (fun i hi' j hj=>by simpa using hback i hi' j hj) tl fuel l _ W (fun t r e=>?_) htl hf hd.size (fun j hj=>?_) (fin v lo hi W hd.below (hS W hd.below) (fun i hi'=>hd.facts i (hm i hi')) fun i j hi' hj hne=>hd.apart i (hm i hi') j (hm j hj) hne)
  ·rw [e] at hfirst;simp only [Bool.and_eq_true] at hfirst;exact hfirst.2
  ·rw [hd.iff]
   rcases hcases j hj with ⟨h1,h2⟩|⟨h1,h2⟩
   ·exact ⟨fun _=>h2,fun _=>hall j h1⟩
   ·exact ⟨fun h=>absurd (hd.lt j h) h1,fun h=>absurd h2 h⟩
 have htnd:tl.Nodup:=by
  cases tl with
  | nil=>exact .nil
  | cons t r=>
   simp only [Bool.and_eq_true] at hfirst
   have key:∀ (r:List Nat) (t:Nat),Region.chain md ops t r=true→(t :: r).Nodup:=by
    intro r
    induction r with
    | nil=>intro t _;simp
    | cons t' r ih=>
     intro t h
     have hlt:=chain_lt h
     simp only [Region.chain,Bool.and_eq_true] at h
     exact List.nodup_cons.2 ⟨fun hx=>by have:=hlt t hx;omega,ih t' h.2⟩
   exact key r t hfirst.2
 have hsize:ph.length+tl.length≤ops.size:=by
  have:(ph ++ tl).length≤(List.range ops.size).length:=nodupN_length_le (List.nodup_append.2 ⟨hnd,htnd,fun x hx y hy e=>by
   subst e
   rcases hcases x (hphlt x hx) with h|h
   ·exact h.2 hy
   ·exact h.1 hx⟩) fun x hx=>List.mem_range.2 (by
    rcases List.mem_append.1 hx with h|h
    ·exact hphlt x h
    ·exact htl x h)
  simpa using this
 intro fuel
 induction fuel with
 | zero=>
  intro l done v lo hi a W hd hlen
  have h1:done.length≤ph.length:=nodupN_length_le hd.nd hd.lt
  refine full hd (fun i hi'=>?_) 0 (by omega)
  by_cases h:i∈done
  ·exact h
  ·have h2:(i :: done).length≤ph.length:=nodupN_length_le (List.nodup_cons.2 ⟨h,hd.nd⟩) (fun x hx=>by
    rcases List.mem_cons.1 hx with rfl|hx
    ·exact hi'
    ·exact hd.lt x hx)
   simp at h2;omega
 | succ fuel ih=>
  intro l done v lo hi a W hd hlen
  by_cases hfull:∀ i∈ph,i∈done
  ·have h1:ph.length≤done.length:=nodupN_length_le hnd hfull
   have h2:done.length≤ph.length:=nodupN_length_le hd.nd hd.lt
   exact full hd hfull _ (by omega)
  have hlow:∀ x∈Region.ready md ops l,x∈ph:=fun x hx=>by
   have hx':=(Region.ready_spec x).1 hx
   rcases hcases x hx'.1 with ⟨h,_⟩|⟨_,h⟩
   ·exact h
   ·exfalso
    cases htl':tl with
    | nil=>rw [htl'] at h;simp at h
    | cons t r=>
     rw [htl'] at h hfirst
     simp only [Bool.and_eq_true,List.all_eq_true] at hfirst
     rcases List.mem_cons.1 h with rfl|h
     ·have hs:=sat_listed hd.down ops.size _ hx'.2.2
      exact hfull fun i hi'=>(hd.iff i).1 (hs i (by have:=hfirst.1 i hi';simpa using this))
     ·obtain ⟨y,h2,h3,h4⟩:=chain_pred hfirst.2 x h
      have h5:=hd.lt y ((hd.iff y).1 (hx'.2.2 y h4))
      rcases hcases y (by omega) with h6|h6
      ·exact h6.2 (by rw [htl'];exact h2)
      ·exact h6.1 h5
  refine ⟨fun hnil=>?_,fun x hx=>?_⟩
  ·exfalso
   refine hfull ?_
   intro i
   induction i using Nat.strongRecOn with
   | _ i ihi=>
    intro hi'
    by_cases h:i∈done
    ·exact h
    ·exfalso
     have hin:i∈Region.ready md ops l:=by
      rw [Region.ready_spec]
      refine ⟨hphlt i hi',?_,fun j hj=>?_⟩
      ·rw [getD_tf (by have:=hd.size;have:=hphlt i hi';omega)]
       cases hb:l.getD i false with
       | false=>rfl
       | true=>exact absurd ((hd.iff i).1 hb) h
      ·have hji:j<i:=by simpa using hback i (hphlt i hi') j hj
       exact (hd.iff j).2 (ihi j hji (by have:=(hph i hi').2 j hj;simpa using this))
     rw [hnil] at hin;simp at hin
  ·have hxm:=hlow x hx
   have hx':=(Region.ready_spec x).1 hx
   have hstep:=steps.get x hxm _ (Array.getElem?_eq_getElem hx'.1)
   have hxn:x ∉ done:=fun h=>by
    have h2:=(hd.iff x).2 h
    rw [getD_tf (by have:=hd.size;omega),h2] at hx';simp at hx'
   unfold wpOp
   rw [Array.getElem?_eq_getElem hx'.1]
   simp only
   have hcond:∀ y W',Below W.heap.size W W'→F x (fun j=>if j=x then y else v j) (fun j=>if j=x then W.heap.size else lo j) (fun j=>if j=x then W'.heap.size else hi j) W'→wpAny P md ops Q fuel (l.setIfInBounds x true) (fr (fun j=>if j=x then y else v j)) W':=?cond
   ·rcases hstep v lo hi W hd.below (hS W hd.below) (fun j hj=>(hd.facts j ((hd.iff j).1 (hx'.2.2 j hj))).2) with ⟨hw,hrun⟩|⟨hw,hrun⟩
    ·rw [hd.act,if_pos hw]
     exact .inl (hrun _ hcond)
    ·rw [hd.act,if_neg (by rw [hw];simp)]
     exact hrun _ hcond
   intro y W' hb hF
   have hbel:Below w0.heap.size w0 W':=hd.below.trans (hb.mono hd.below.size)
   refine ih (l.setIfInBounds x true) (x :: done) _ (fun j=>if j=x then W.heap.size else lo j) (fun j=>if j=x then W'.heap.size else hi j) _ W' ⟨by simpa using hd.size,fun i=>?_,List.nodup_cons.2 ⟨hxn,hd.nd⟩,fun i hi'=>?_,fun i hi' j hj=>?_,rfl,hbel,fun i hi'=>?_,fun i hi' j hj hne=>?_⟩ (by simp;omega)
   ·by_cases e:x=i
    ·subst e;rw [getD_set_same (by have:=hd.size;omega)];simp
    ·rw [getD_set_other e,hd.iff,List.mem_cons];exact ⟨.inr,fun h=>h.resolve_left (fun e'=>e e'.symm)⟩
   ·rcases List.mem_cons.1 hi' with rfl|h
    ·exact hxm
    ·exact hd.lt i h
   ·have hji:l.getD j false=true:=by
     by_cases e:x=i
     ·subst e;exact hx'.2.2 j hj
     ·rw [getD_set_other e] at hi';exact hd.down i hi' j hj
    by_cases e:x=j
    ·subst e;exact getD_set_same (by have:=hd.size;omega)
    ·rw [getD_set_other e];exact hji
   ·by_cases e:i=x
    ·subst e
     refine ⟨?_,?_,?_,hF⟩
     ·simp only [if_true];exact hd.below.size
     ·simp only [if_true];exact hb.size
     ·simp only [if_true];exact Nat.le_refl _
    ·have hid:i∈done:=by rcases List.mem_cons.1 hi' with h|h;exact absurd h e;exact h
     obtain ⟨f1,f2,f3,f4⟩:=hd.facts i hid
     refine ⟨by simp only [if_neg e];exact f1,by simp only [if_neg e];exact f2,by simp only [if_neg e];exact Nat.le_trans f3 hb.size,hstab i _ _ _ W W' (hloc i v _ lo _ hi _ W (fun j hj=>?_) f4) hb⟩
     have hjx:j≠x:=by
      rintro rfl
      rcases hj with hj|hj
      ·exact e hj.symm
      ·exact hxn ((hd.iff j).1 (hd.down i ((hd.iff i).2 hid) j hj))
     simp only [if_neg hjx]
     exact ⟨trivial,trivial,trivial⟩
   ·by_cases e1:i=x
    ·subst e1
     have hjd:j∈done:=by rcases List.mem_cons.1 hj with h|h;exact absurd h.symm hne;exact h
     simp only [if_true,if_neg (fun e=>hne (Eq.symm e):¬ j=i)]
     have:=(hd.facts j hjd).2.2.1;omega
    ·have hid:i∈done:=by rcases List.mem_cons.1 hi' with h|h;exact absurd h e1;exact h
     by_cases e2:j=x
     ·subst e2
      simp only [if_true,if_neg e1]
      have:=(hd.facts i hid).2.2.1;omega
     ·have hjd:j∈done:=by rcases List.mem_cons.1 hj with h|h;exact absurd h e2;exact h
      simp only [if_neg e1,if_neg e2]
      exact hd.apart i hid j hjd hne
theorem wp_region_factsS {id:Nat} {a:Act} (ph tl:List Nat) (fr:(Nat→Value)→Act) (v0:Nat→Value) (F:Nat→(Nat→Value)→(Nat→Nat)→(Nat→Nat)→World→Prop) (S:World→Prop) (hmix:P.follows .mixedOrders=true)
  (hc:Region.chkH .any ops ph tl=true) (hnd:ph.Nodup) (ha:a=fr v0)
  (hstab:∀ i v lo hi W W',F i v lo hi W→Below W.heap.size W W'→F i v lo hi W')
  (hloc:∀ i v v' lo lo' hi hi' W,(∀ j,j=i∨j∈Region.deps .any ops i→v j=v' j∧lo j=lo' j∧hi j=hi' j)→F i v lo hi W→F i v' lo' hi' W)
  (hS:∀ W,Below w0.heap.size w0 W→S W)
  (steps:StepsS P .any ops Q w0 fr F S ph)
  (fin:∀ (v:Nat→Value) (lo hi:Nat→Nat) (W:World),Below w0.heap.size w0 W→S W→(∀ i,ph.contains i=true→w0.heap.size≤lo i∧lo i≤hi i∧hi i≤W.heap.size∧F i v lo hi W)→
   (∀ i j,ph.contains i=true→ph.contains j=true→i≠j→hi i≤lo j∨hi j≤lo i)→wpList P ops Q (tl.filterMap fun i=>ops[i]?) (fr v) W):(Code.region id ops true).wp P Q a w0:=by
 refine wp_region_any hmix ?_
 refine wpAny_factsS hc hnd hstab hloc hS steps fin ops.size _ [] v0 (fun _=>0) (fun _=>0) a _ ⟨by simp,fun i=>?_,.nil,by simp,fun i hi'=>?_,ha,(Below.refl _ _).drew,by simp,by simp⟩ (by simp)
 ·simp [Array.getD]
 ·exfalso;revert hi';simp [Array.getD]
end
end Go
namespace Go.Proofs.YthjnojbeimchdaaGreat
open Go.ChangeShapes Go.WideShapes Go.ChangeAt Go.RowKit Go.Joins Kal
theorem liftOwn:ownKnob Tryz.prog.godebug=none:=by kernel_rfl
theorem liftLaid:laidOutB Tryz.prog=true:=by kernel_rfl
section
variable {H:Type} {enc:TypeId × Value→H} {w:World} {base:Nat} {spare:Nat→Bool} {held:Bool}
end
end Go.Proofs.YthjnojbeimchdaaGreat
