/- Part 2 of the proof of MixedDecisionsMatchReference_said. -/
import Derived.Orders
import Derived.Tactics
import Derived.Below
import Derived.Maps.AppendAt
import Derived.OwnWalk
import Derived.Deep.RegionHeld3
import Derived.BigFrame
import Derived.RangeFuncNested
import Derived.RangeFuncBound
import Derived.RangeFuncCalls
import Derived.RangeFuncLeaves
import Derived.RangeFuncFrom
import Derived.Shelf.Abstract
import Derived.Scope
import Derived.Test.YthjnojbeimchdaaGreatU1
import Derived.Sort.OwnSortedInts
import Derived.RangeFuncBox
import Derived.Deep.AppendLies
import Derived.OwnWalkIn
import Derived.TacticsInMore
import Derived.LoopNIn
import Derived.LoopIn
set_option linter.unusedVariables false
set_option linter.unusedSimpArgs false
set_option maxRecDepth 100000
set_option maxHeartbeats 4000000
namespace Go
open Go.RowKit
def Region.deps (md:Region.Mode) (ops:Array Oper) (i:Nat):List Nat:=match ops[i]? with
 | some o=>(o.after.toList.filter fun e=>Region.binds md e).map fun e=>e.on
 | none=>[]
def Region.sat (md:Region.Mode) (ops:Array Oper):Nat->List Nat->List Nat
 | 0,S=>S
 | k+1,S=>Region.sat md ops k (S ++ ((S.flatMap (Region.deps md ops)).filter fun j=>!S.contains j))
def Region.chain (md:Region.Mode) (ops:Array Oper):Nat->List Nat->Bool
 | _,[]=>true
 | t,t' :: r=>(Region.deps md ops t').contains t && decide (t<t') && Region.chain md ops t' r
def Region.chk (md:Region.Mode) (ops:Array Oper) (ph tl:List Nat):Bool:=
 ((List.range ops.size).all fun i=>ph.contains i != tl.contains i) &&
 (ph.all fun i=>(match ops[i]? with|some o=>o.guard.isNone|none=>false) && (Region.deps md ops i).all fun j=>ph.contains j) &&
 ((List.range ops.size).all fun i=>(Region.deps md ops i).all fun j=>decide (j<i)) &&
 (tl.all fun i=>decide (i<ops.size)) &&
 (match tl with|[]=>true|t :: r=>(ph.all fun j=>(Region.sat md ops ops.size (Region.deps md ops t)).contains j) && Region.chain md ops t r)
section
variable {P:Program} {ops:Array Oper} {Q:Exit->Act->World->Prop} {md:Region.Mode}
theorem Region.ready_spec {l:Array Bool} (i:Nat):i∈Region.ready md ops l↔i<ops.size∧l.getD i true=false∧∀ j∈Region.deps md ops i,l.getD j false=true:=by
 unfold Region.ready Region.deps;rw [List.mem_filter,List.mem_range];constructor
 ·rintro ⟨h1,h2⟩;rw [Array.getElem?_eq_getElem h1] at h2 ⊢;simp only [Option.map_some,Option.getD_some,Bool.and_eq_true,Bool.not_eq_true',Array.all_eq_true] at h2;refine ⟨h1,h2.1,fun j hj=>?_⟩;simp only [List.mem_map,List.mem_filter] at hj;obtain ⟨e,⟨he,hb⟩,rfl⟩:=hj;obtain ⟨k,hk,rfl⟩:=List.getElem_of_mem he;have:=h2.2 k (by simpa using hk);simp only [Array.getElem_toList] at hb;simpa [hb] using this
 ·rintro ⟨h1,h2,h3⟩;refine ⟨h1,?_⟩;rw [Array.getElem?_eq_getElem h1] at h3 ⊢;simp only [Option.map_some,Option.getD_some,Bool.and_eq_true,Bool.not_eq_true',Array.all_eq_true];refine ⟨h2,fun k hk=>?_⟩
  by_cases hb:Region.binds md (ops[i].after[k])=true
  ·have:=h3 (ops[i].after[k]).on (by
    simp only [List.mem_map,List.mem_filter];exact ⟨_,⟨sq_,hb⟩,rfl⟩)
   simp [this]
  ·simp [hb]
theorem c5_ {l:Array Bool} {i:Nat} (h:i<l.size):(l.setIfInBounds i true).getD i false=true:=by
 simp [Array.getD,h]
theorem bc_ {l:Array Bool} {i j:Nat} (h:i≠j):(l.setIfInBounds i true).getD j false=l.getD j false:=by
 simp only [Array.getD_eq_getD_getElem?,Array.getElem?_setIfInBounds_ne h]
theorem d0_ {l:Array Bool} {i:Nat} (h:i<l.size):l.getD i true=l.getD i false:=by
 simp [Array.getD,h]
theorem hh_ {l:Array Bool} (hd:∀ i,l.getD i false=true->∀ j∈Region.deps md ops i,l.getD j false=true) :
  ∀ k S,(∀ j∈S,l.getD j false=true)->∀ j∈Region.sat md ops k S,l.getD j false=true:=by
 intro k
 induction k with
 | zero=>intro S h;exact h
 | succ k ih=>
  intro S h;refine ih _ fun j hj=>?_;rcases List.mem_append.1 hj with hj|hj
  ·exact h j hj
  ·obtain ⟨i,hi,hj'⟩:=List.mem_flatMap.1 (List.mem_filter.1 hj).1;exact hd i (h i hi) j hj'
theorem ak_ {α:Type} [DecidableEq α]:∀ {l m:List α},l.Nodup->(∀ x∈l,x∈m)->l.length≤m.length:=by
 intro l
 induction l with
 | nil=>intro m _ _;simp
 | cons a l ih=>
  intro m hn hs;have hn':=List.nodup_cons.1 hn;have ha:a∈m:=hs a sq_;have:=ih (m:=m.erase a) hn'.2 fun y hy=>(List.mem_erase_of_ne (fun e=>hn'.1 (by rw [<- e];exact hy))).2 (hs y (List.mem_cons_of_mem _ hy));rw [List.length_erase_of_mem ha] at this;have:0<m.length:=List.length_pos_of_mem ha;simp;omega
theorem gg_ {t:Nat} {r:List Nat} (h:Region.chain md ops t r=true):∀ x∈r,t<x:=by
 induction r generalizing t with
 | nil=>intro x hx;simp at hx
 | cons t' r ih=>
  simp only [Region.chain,Bool.and_eq_true,decide_eq_true_eq] at h;intro x hx;rcases List.mem_cons.1 hx with rfl|hx
  ·exact h.1.2
  ·have:=ih h.2 x hx;omega
theorem et_ {t:Nat} {r:List Nat} (h:Region.chain md ops t r=true):∀ x∈r,∃ y,y∈t :: r∧y<x∧y∈Region.deps md ops x:=by
 induction r generalizing t with
 | nil=>intro x hx;simp at hx
 | cons t' r ih=>
  simp only [Region.chain,Bool.and_eq_true,decide_eq_true_eq] at h;intro x hx;rcases List.mem_cons.1 hx with rfl|hx
  ·exact ⟨t,sq_,h.1.2,by simpa using h.1.1⟩
  ·obtain ⟨y,h1,h2,h3⟩:=ih h.2 x hx;exact ⟨y,List.mem_cons_of_mem _ h1,h2,h3⟩
theorem g3_ (hback:∀ i,i<ops.size->∀ j∈Region.deps md ops i,j<i):∀ (r:List Nat) (fuel:Nat) (l:Array Bool) (a:Act) (w:World),(∀ t r',r=t :: r'->Region.chain md ops t r'=true)->(∀ i∈r,i<ops.size)->r.length≤fuel->l.size=ops.size->
  (∀ j,j<ops.size->(l.getD j false=true↔j ∉ r))->wpList P ops Q (r.filterMap fun i=>ops[i]?) a w->wpAny P md ops Q fuel l a w:=by
 intro r
 induction r with
 | nil=>
  intro fuel l a w _ _ _ hl hlist h;have hnil:Region.ready md ops l=[]:=by
   rw [List.eq_nil_iff_forall_not_mem];intro x hx;have hx':=(Region.ready_spec x).1 hx;rw [d0_ oq_,(hlist x hx'.1).2 sq_] at hx';simp at hx'
  have h':Q .normal a w:=h;cases fuel with
  | zero=>exact ⟨hnil,h'⟩
  | succ f=>exact ⟨fun _=>h',by rw [hnil];simp⟩
 | cons t r ih=>
  intro fuel l a w hch hlt hf hl hlist h;obtain ⟨f,rfl⟩:∃ f,fuel=f+1:=⟨fuel-1,by simp at hf;omega⟩;have hc:=hch t r rfl;have htn:t<ops.size:=hlt t sq_;have hsome:ops[t]? = some ops[t]:=Array.getElem?_eq_getElem htn;rw [List.filterMap_cons,hsome] at h;have hclt:=gg_ hc;have htr:t ∉ r:=fun hx=>by have:=hclt t hx;omega
  have hin:t∈Region.ready md ops l:=by
   rw [Region.ready_spec];refine ⟨htn,?_,fun j hj=>(hlist j (by have:=hback t htn j hj;omega)).2 fun hx=>?_⟩
   ·rw [d0_ oq_];cases hx:l.getD t false with
    | true=>exact absurd (List.mem_cons_self) ((hlist t htn).1 hx)
    | false=>rfl
   ·have h1:=hback t htn j hj;rcases List.mem_cons.1 hx with rfl|hx
    ·omega
    ·have:=hclt j hx;omega
  refine ⟨fun hnil=>by rw [hnil] at hin;simp at hin,fun x hx=>?_⟩;have hx':=(Region.ready_spec x).1 hx;have hxr:x∈t :: r:=by
   by_cases hm:x∈t :: r
   ·exact hm
   ·rw [d0_ oq_,(hlist x hx'.1).2 hm] at hx';simp at hx'
  have hxt:x=t:=by
   rcases List.mem_cons.1 hxr with h1|h1
   ·exact h1
   ·exfalso;obtain ⟨y,h2,h3,h4⟩:=et_ hc x h1;have h5:=hx'.2.2 y h4;exact (hlist y oq_).1 h5 h2
  subst hxt;unfold wpOp;rw [hsome];simp only;have key:∀ a w,wpList P ops Q (r.filterMap fun i=>ops[i]?) a w->wpAny P md ops Q f (l.setIfInBounds x true) a w:=fun a w h=>by
   refine ih f _ a w (fun t' r' e=>?_) (fun i hi=>hlt i (List.mem_cons_of_mem _ hi)) (by simp at hf;omega) (by simpa using hl) (fun j hj=>?_) h
   ·subst e;simp only [Region.chain,Bool.and_eq_true] at hc;exact hc.2
   ·by_cases e:x=j
    ·subst e;rw [c5_ oq_];simp [htr]
    ·rw [bc_ e,hlist j hj,List.mem_cons];exact ⟨fun h hx=>h (.inr hx),fun h hx=>h (hx.resolve_left fun e'=>e e'.symm)⟩
  simp only [wpList] at h
  split
  ·rename_i hw;rw [if_pos hw] at h;exact h.imp (Oper.wp_mono key) id
  ·rename_i hw;rw [if_neg hw] at h;exact key _ _ h
variable {w0:World} {ph tl:List Nat} {fr:(Nat->Value)->Act} {F:Nat->(Nat->Value)->(Nat->Nat)->(Nat->Nat)->World->Prop} {S:World->Prop}
theorem acx {K:Act->World->Prop} {a a':Act} {W:World} (h:K a W) (e:a=a'):K a' W:=e ▸ h
theorem Rdp {i j:Nat} (h:(Region.deps md ops i).contains j=true):j∈Region.deps md ops i:=by simpa using h
structure n1_ (w0:World) (ph:List Nat) (ops:Array Oper) (md:Region.Mode) (fr:(Nat->Value)->Act) (F:Nat->(Nat->Value)->(Nat->Nat)->(Nat->Nat)->World->Prop) (l:Array Bool) (done:List Nat) (v:Nat->Value) (lo hi:Nat->Nat) (a:Act) (W:World):Prop where
 size:l.size=ops.size
 iff:∀ i,l.getD i false=true↔i∈done
 nd:done.Nodup
 lt:∀ i∈done,i∈ph
 down:∀ i,l.getD i false=true->∀ j∈Region.deps md ops i,l.getD j false=true
 act:a=fr v
 below:Below w0.heap.size w0 W
 facts:∀ i∈done,w0.heap.size≤lo i∧lo i≤hi i∧hi i≤W.heap.size∧F i v lo hi W
 apart:∀ i∈done,∀ j∈done,i≠j->hi i≤lo j∨hi j≤lo i
end
theorem World.grownBy.drewR (w:World) (row:Option Nat):w.grownBy w.drew row:=⟨rfl,rfl,rfl,Nat.le_refl _,fun _ _ _=>rfl⟩
theorem World.grownBy.of_below {w w':World} (h:Below w.heap.size w w') (row:Option Nat):w.grownBy w' row:=⟨h.os,h.tape,h.output,h.size,fun k hk _=>h.block k hk⟩
section
variable {P:Program} {ops:Array Oper} {Q:Exit->Act->World->Prop} {md:Region.Mode}
variable {w0:World} {row:Option Nat} {kx:Nat} {ph tl:List Nat} {fr:(Nat->Value)->Act} {F:Nat->(Nat->Value)->(Nat->Nat)->(Nat->Nat)->World->Prop} {S:World->Prop}
def ro_ (P:Program) (md:Region.Mode) (ops:Array Oper) (Q:Exit->Act->World->Prop) (w0:World) (row:Option Nat) (kx:Nat) (fr:(Nat->Value)->Act) (F:Nat->(Nat->Value)->(Nat->Nat)->(Nat->Nat)->World->Prop) (S:World->Prop) (k:Nat) (o:Oper):Prop:=
 ∀ (v:Nat->Value) (lo hi:Nat->Nat) (W:World),w0.grownBy W row->(k=kx->Below w0.heap.size w0 W)->S W->(∀ j∈Region.deps md ops k,lo j≤hi j∧hi j≤W.heap.size∧F j v lo hi W)->
  ∀ K:Act->World->Prop,(∀ x W',(if k=kx then W.grownBy W' row else Below W.heap.size W W')->F k (fun j=>if j=k then x else v j) (fun j=>if j=k then W.heap.size else lo j) (fun j=>if j=k then W'.heap.size else hi j) W'->K (fr (fun j=>if j=k then x else v j)) W')->Oper.wp P o (fr v) W K Q
def an_ (P:Program) (md:Region.Mode) (ops:Array Oper) (Q:Exit->Act->World->Prop) (w0:World) (row:Option Nat) (kx:Nat) (fr:(Nat->Value)->Act) (F:Nat->(Nat->Value)->(Nat->Nat)->(Nat->Nat)->World->Prop) (S:World->Prop):List Nat->Prop
 | []=>True
 | k :: r=>(∀ o,ops[k]? = some o->ro_ P md ops Q w0 row kx fr F S k o)∧an_ P md ops Q w0 row kx fr F S r
theorem an_.cons {k:Nat} {o:Oper} {r:List Nat} (e:ops[k]? = some o) (h:ro_ P md ops Q w0 row kx fr F S k o) (t:an_ P md ops Q w0 row kx fr F S r):an_ P md ops Q w0 row kx fr F S (k :: r):=⟨fun o' e'=>by rw [e] at e';cases e';exact h,t⟩
theorem an_.nil:an_ P md ops Q w0 row kx fr F S []:=trivial
theorem an_.get:∀ {l:List Nat},an_ P md ops Q w0 row kx fr F S l->∀ i∈l,∀ o,ops[i]? = some o->ro_ P md ops Q w0 row kx fr F S i o:=by
 intro l
 induction l with
 | nil=>intro _ i hi;simp at hi
 | cons k l ih=>
  intro h i hi;rcases List.mem_cons.1 hi with rfl|hi
  ·exact h.1
  ·exact ih h.2 i hi
structure vq_ (w0:World) (row:Option Nat) (kx:Nat) (ph:List Nat) (ops:Array Oper) (md:Region.Mode) (fr:(Nat->Value)->Act) (F:Nat->(Nat->Value)->(Nat->Nat)->(Nat->Nat)->World->Prop) (l:Array Bool) (done:List Nat) (v:Nat->Value) (lo hi:Nat->Nat) (a:Act) (W:World):Prop where
 size:l.size=ops.size
 iff:∀ i,l.getD i false=true↔i∈done
 nd:done.Nodup
 lt:∀ i∈done,i∈ph
 down:∀ i,l.getD i false=true->∀ j∈Region.deps md ops i,l.getD j false=true
 act:a=fr v
 below:w0.grownBy W row
 pre:kx ∉ done->Below w0.heap.size w0 W
 facts:∀ i∈done,w0.heap.size≤lo i∧lo i≤hi i∧hi i≤W.heap.size∧F i v lo hi W
 apart:∀ i∈done,∀ j∈done,i≠j->hi i≤lo j∨hi j≤lo i
theorem t4_ (hc:Region.chk md ops ph tl=true) (hnd:ph.Nodup)
  (hstab:∀ i v lo hi W W',F i v lo hi W->(if i=kx then Below W.heap.size W W' else W.grownBy W' row)->F i v lo hi W')
  (hloc:∀ i v v' lo lo' hi hi' W,(∀ j,j=i∨j∈Region.deps md ops i->v j=v' j∧lo j=lo' j∧hi j=hi' j)->F i v lo hi W->F i v' lo' hi' W)
  (hS:∀ W,w0.grownBy W row->S W)
  (steps:an_ P md ops Q w0 row kx fr F S ph)
  (fin:∀ (v:Nat->Value) (lo hi:Nat->Nat) (W:World),w0.grownBy W row->S W->(∀ i,ph.contains i=true->w0.heap.size≤lo i∧lo i≤hi i∧hi i≤W.heap.size∧F i v lo hi W)->
   (∀ i j,ph.contains i=true->ph.contains j=true->i≠j->hi i≤lo j∨hi j≤lo i)->wpList P ops Q (tl.filterMap fun i=>ops[i]?) (fr v) W) :
  ∀ (fuel:Nat) (l:Array Bool) (done:List Nat) (v:Nat->Value) (lo hi:Nat->Nat) (a:Act) (W:World),vq_ w0 row kx ph ops md fr F l done v lo hi a W->fuel+done.length=ops.size->wpAny P md ops Q fuel l a W:=by
 unfold Region.chk at hc;simp only [Bool.and_eq_true,List.all_eq_true,List.mem_range,decide_eq_true_eq,bne_iff_ne,ne_eq] at hc;obtain ⟨⟨⟨⟨hone,hph⟩,hback⟩,htl⟩,hfirst⟩:=hc;have hphlt:∀ i∈ph,i<ops.size:=fun i hi'=>by
  rcases Nat.lt_or_ge i ops.size with h|h
  ·exact h
  ·have:=(hph i hi').1;rw [Array.getElem?_eq_none h] at this;simp at this
 have hcases:∀ i,i<ops.size->(i∈ph∧i ∉ tl)∨(i ∉ ph∧i∈tl):=fun i hi'=>by
  have:=hone i hi'
  by_cases h1:i∈ph <;> by_cases h2:i∈tl <;> simp_all
 have hlens:ph.length+tl.eraseDups.length ≥ 0:=Nat.zero_le _;have full:∀ {l done v lo hi a W},vq_ w0 row kx ph ops md fr F l done v lo hi a W->(∀ i∈ph,i∈done)->∀ fuel,tl.length≤fuel->wpAny P md ops Q fuel l a W:=by
  intro l done v lo hi a W hd hall fuel hf;rw [hd.act];have hm:∀ i,ph.contains i=true->i∈done:=fun i hi'=>hall i (by simpa using hi');refine g3_ (fun i hi' j hj=>by simpa using hback i hi' j hj) tl fuel l _ W (fun t r e=>?_) htl hf hd.size (fun j hj=>?_) (fin v lo hi W hd.below (hS W hd.below) (fun i hi'=>hd.facts i (hm i hi')) fun i j hi' hj hne=>hd.apart i (hm i hi') j (hm j hj) hne)
  ·rw [e] at hfirst;simp only [Bool.and_eq_true] at hfirst;exact hfirst.2
  ·rw [hd.iff];rcases hcases j hj with ⟨h1,h2⟩|⟨h1,h2⟩
   ·exact ⟨fun _=>h2,fun _=>hall j h1⟩
   ·exact ⟨fun h=>absurd (hd.lt j h) h1,fun h=>absurd h2 h⟩
 have htnd:tl.Nodup:=by
  cases tl with
  | nil=>exact .nil
  | cons t r=>
   simp only [Bool.and_eq_true] at hfirst;have key:∀ (r:List Nat) (t:Nat),Region.chain md ops t r=true->(t :: r).Nodup:=by
    intro r
    induction r with
    | nil=>intro t _;simp
    | cons t' r ih=>
     intro t h;have hlt:=gg_ h;simp only [Region.chain,Bool.and_eq_true] at h;exact List.nodup_cons.2 ⟨fun hx=>by have:=hlt t hx;omega,ih t' h.2⟩
   exact key r t hfirst.2
 have hsize:ph.length+tl.length≤ops.size:=by
  have:(ph ++ tl).length≤(List.range ops.size).length:=ak_ (List.nodup_append.2 ⟨hnd,htnd,fun x hx y hy e=>by
   subst e;rcases hcases x (hphlt x hx) with h|h
   ·exact h.2 hy
   ·exact h.1 hx⟩) fun x hx=>List.mem_range.2 (by
    rcases List.mem_append.1 hx with h|h
    ·exact hphlt x h
    ·exact htl x h)
  simpa using this
 intro fuel
 induction fuel with
 | zero=>
  intro l done v lo hi a W hd hlen;have h1:done.length≤ph.length:=ak_ hd.nd hd.lt;refine full hd (fun i hi'=>?_) 0 oq_
  by_cases h:i∈done
  ·exact h
  ·have h2:(i :: done).length≤ph.length:=ak_ (List.nodup_cons.2 ⟨h,hd.nd⟩) (fun x hx=>by
    rcases List.mem_cons.1 hx with rfl|hx
    ·exact hi'
    ·exact hd.lt x hx)
   simp at h2;omega
 | succ fuel ih=>
  intro l done v lo hi a W hd hlen
  by_cases hfull:∀ i∈ph,i∈done
  ·have h1:ph.length≤done.length:=ak_ hnd hfull;have h2:done.length≤ph.length:=ak_ hd.nd hd.lt;exact full hd hfull _ oq_
  have hlow:∀ x∈Region.ready md ops l,x∈ph:=fun x hx=>by
   have hx':=(Region.ready_spec x).1 hx;rcases hcases x hx'.1 with ⟨h,_⟩|⟨_,h⟩
   ·exact h
   ·exfalso;cases htl':tl with
    | nil=>rw [htl'] at h;simp at h
    | cons t r=>
     rw [htl'] at h hfirst;simp only [Bool.and_eq_true,List.all_eq_true] at hfirst;rcases List.mem_cons.1 h with rfl|h
     ·have hs:=hh_ hd.down ops.size _ hx'.2.2;exact hfull fun i hi'=>(hd.iff i).1 (hs i (by have:=hfirst.1 i hi';simpa using this))
     ·obtain ⟨y,h2,h3,h4⟩:=et_ hfirst.2 x h;have h5:=hd.lt y ((hd.iff y).1 (hx'.2.2 y h4));rcases hcases y oq_ with h6|h6
      ·exact h6.2 (by rw [htl'];exact h2)
      ·exact h6.1 h5
  refine ⟨fun hnil=>?_,fun x hx=>?_⟩
  ·exfalso;refine hfull ?_;intro i
   induction i using Nat.strongRecOn with
   | _ i ihi=>
    intro hi'
    by_cases h:i∈done
    ·exact h
    ·exfalso;have hin:i∈Region.ready md ops l:=by
      rw [Region.ready_spec];refine ⟨hphlt i hi',?_,fun j hj=>?_⟩
      ·rw [d0_ (by have:=hd.size;have:=hphlt i hi';omega)];cases hb:l.getD i false with
       | false=>rfl
       | true=>exact absurd ((hd.iff i).1 hb) h
      ·have hji:j<i:=by simpa using hback i (hphlt i hi') j hj
       exact (hd.iff j).2 (ihi j hji (by have:=(hph i hi').2 j hj;simpa using this))
     rw [hnil] at hin;simp at hin
  ·have hxm:=hlow x hx;have hx':=(Region.ready_spec x).1 hx;have hg:=(hph x hxm).1;rw [Array.getElem?_eq_getElem hx'.1] at hg;simp only [Option.isNone_iff_eq_none] at hg;have hstep:=steps.get x hxm _ (Array.getElem?_eq_getElem hx'.1);have hxn:x ∉ done:=fun h=>by
    have h2:=(hd.iff x).2 h;rw [d0_ (by have:=hd.size;omega),h2] at hx';simp at hx'
   unfold wpOp;rw [Array.getElem?_eq_getElem hx'.1];simp only;have hw:Region.wanted ops[x] (yielded ops a.tmps)=true:=by unfold Region.wanted;rw [hg]
   rw [if_pos hw,hd.act];refine .inl (hstep v lo hi W hd.below (fun e=>hd.pre (e ▸ hxn)) (hS W hd.below) (fun j hj=>(hd.facts j ((hd.iff j).1 (hx'.2.2 j hj))).2) _ ?_);intro y W' hb9 hF;have hb:W.grownBy W' row:=by
    split at hb9
    ·exact hb9
    ·exact World.grownBy.of_below hb9 row
   have hpre:kx ∉ x :: done->Below w0.heap.size w0 W':=fun hn=>by
    rw [List.mem_cons,not_or] at hn;rw [if_neg (fun e=>hn.1 e.symm)] at hb9;exact (hd.pre hn.2).trans (hb9.mono hd.below.size)
   have hbel:w0.grownBy W' row:=hd.below.trans hb;refine ih (l.setIfInBounds x true) (x :: done) _ (fun j=>if j=x then W.heap.size else lo j) (fun j=>if j=x then W'.heap.size else hi j) _ W' ⟨by simpa using hd.size,fun i=>?_,List.nodup_cons.2 ⟨hxn,hd.nd⟩,fun i hi'=>?_,fun i hi' j hj=>?_,rfl,hbel,hpre,fun i hi'=>?_,fun i hi' j hj hne=>?_⟩ tq_
   ·by_cases e:x=i
    ·subst e;rw [c5_ (by have:=hd.size;omega)];simp
    ·rw [bc_ e,hd.iff,List.mem_cons];exact ⟨.inr,fun h=>h.resolve_left (fun e'=>e e'.symm)⟩
   ·rcases List.mem_cons.1 hi' with rfl|h
    ·exact hxm
    ·exact hd.lt i h
   ·have hji:l.getD j false=true:=by
     by_cases e:x=i
     ·subst e;exact hx'.2.2 j hj
     ·rw [bc_ e] at hi';exact hd.down i hi' j hj
    by_cases e:x=j
    ·subst e;exact c5_ (by have:=hd.size;omega)
    ·rw [bc_ e];exact hji
   ·by_cases e:i=x
    ·subst e;refine ⟨?_,?_,?_,hF⟩
     ·simp only [if_true];exact hd.below.size
     ·simp only [if_true];exact hb.size
     ·simp only [if_true];exact Nat.le_refl _
    ·have hid:i∈done:=by rcases List.mem_cons.1 hi' with h|h;exact absurd h e;exact h
     obtain ⟨f1,f2,f3,f4⟩:=hd.facts i hid;refine ⟨by simp only [if_neg e];exact f1,by simp only [if_neg e];exact f2,by simp only [if_neg e];exact Nat.le_trans f3 hb.size,hstab i _ _ _ W W' (hloc i v _ lo _ hi _ W (fun j hj=>?_) f4) (by
     by_cases e9:i=kx
     ·rw [if_pos e9];rw [if_neg (fun e=>hxn (by rw [e,<- e9];exact hid))] at hb9;exact hb9
     ·rw [if_neg e9];exact hb)⟩
     have hjx:j≠x:=by
      rintro rfl;rcases hj with hj|hj
      ·exact e hj.symm
      ·exact hxn ((hd.iff j).1 (hd.down i ((hd.iff i).2 hid) j hj))
     simp only [if_neg hjx];exact ⟨trivial,trivial,trivial⟩
   ·by_cases e1:i=x
    ·subst e1;have hjd:j∈done:=by rcases List.mem_cons.1 hj with h|h;exact absurd h.symm hne;exact h
     simp only [if_true,if_neg (fun e=>hne (Eq.symm e):¬ j=i)];have:=(hd.facts j hjd).2.2.1;omega
    ·have hid:i∈done:=by rcases List.mem_cons.1 hi' with h|h;exact absurd h e1;exact h
     by_cases e2:j=x
     ·subst e2;simp only [if_true,if_neg e1];have:=(hd.facts i hid).2.2.1;omega
     ·have hjd:j∈done:=by rcases List.mem_cons.1 hj with h|h;exact absurd h e2;exact h
      simp only [if_neg e1,if_neg e2];exact hd.apart i hid j hjd hne
theorem i1_ {id:Nat} {a:Act} (row:Option Nat) (kx:Nat) (ph tl:List Nat) (fr:(Nat->Value)->Act) (v0:Nat->Value) (F:Nat->(Nat->Value)->(Nat->Nat)->(Nat->Nat)->World->Prop) (S:World->Prop) (hmix:P.follows .mixedOrders=true)
  (hc:Region.chk .any ops ph tl=true) (hnd:ph.Nodup) (ha:a=fr v0)
  (hstab:∀ i v lo hi W W',F i v lo hi W->(if i=kx then Below W.heap.size W W' else W.grownBy W' row)->F i v lo hi W')
  (hloc:∀ i v v' lo lo' hi hi' W,(∀ j,j=i∨j∈Region.deps .any ops i->v j=v' j∧lo j=lo' j∧hi j=hi' j)->F i v lo hi W->F i v' lo' hi' W)
  (hS:∀ W,w0.grownBy W row->S W)
  (steps:an_ P .any ops Q w0 row kx fr F S ph)
  (fin:∀ (v:Nat->Value) (lo hi:Nat->Nat) (W:World),w0.grownBy W row->S W->(∀ i,ph.contains i=true->w0.heap.size≤lo i∧lo i≤hi i∧hi i≤W.heap.size∧F i v lo hi W)->
   (∀ i j,ph.contains i=true->ph.contains j=true->i≠j->hi i≤lo j∨hi j≤lo i)->wpList P ops Q (tl.filterMap fun i=>ops[i]?) (fr v) W):(Code.region id ops true).wp P Q a w0:=by
 refine wp_region_any hmix ?_;refine t4_ hc hnd hstab hloc hS steps fin ops.size _ [] v0 (fun _=>0) (fun _=>0) a _ ⟨sq_,fun i=>?_,.nil,sq_,fun i hi'=>?_,ha,World.grownBy.drewR _ _,fun _=>(Below.refl _ _).drew,sq_,sq_⟩ sq_
 ·simp [Array.getD]
 ·exfalso;revert hi';simp [Array.getD]
end
def Region.chkH (md:Region.Mode) (ops:Array Oper) (ph tl:List Nat):Bool:=
 ((List.range ops.size).all fun i=>ph.contains i != tl.contains i) &&
 (ph.all fun i=>(ops[i]?).isSome && (Region.deps md ops i).all fun j=>ph.contains j) &&
 ((List.range ops.size).all fun i=>(Region.deps md ops i).all fun j=>decide (j<i)) &&
 (tl.all fun i=>decide (i<ops.size)) &&
 (match tl with|[]=>true|t :: r=>(ph.all fun j=>(Region.sat md ops ops.size (Region.deps md ops t)).contains j) && Region.chain md ops t r)
section
variable {P:Program} {ops:Array Oper} {Q:Exit->Act->World->Prop} {md:Region.Mode}
variable {w0:World} {ph tl:List Nat} {fr:(Nat->Value)->Act} {F:Nat->(Nat->Value)->(Nat->Nat)->(Nat->Nat)->World->Prop} {S:World->Prop}
def vp_ (P:Program) (md:Region.Mode) (ops:Array Oper) (Q:Exit->Act->World->Prop) (w0:World) (fr:(Nat->Value)->Act) (F:Nat->(Nat->Value)->(Nat->Nat)->(Nat->Nat)->World->Prop) (S:World->Prop) (k:Nat) (o:Oper):Prop:=
 ∀ (v:Nat->Value) (lo hi:Nat->Nat) (W:World),Below w0.heap.size w0 W->S W->(∀ j∈Region.deps md ops k,lo j≤hi j∧hi j≤W.heap.size∧F j v lo hi W)->
  Region.wanted o (yielded ops (fr v).tmps)=true∧
  ∀ K:Act->World->Prop,(∀ x W',Below W.heap.size W W'->F k (fun j=>if j=k then x else v j) (fun j=>if j=k then W.heap.size else lo j) (fun j=>if j=k then W'.heap.size else hi j) W'->K (fr (fun j=>if j=k then x else v j)) W')->Oper.wp P o (fr v) W K Q
def h8_ (P:Program) (md:Region.Mode) (ops:Array Oper) (Q:Exit->Act->World->Prop) (w0:World) (fr:(Nat->Value)->Act) (F:Nat->(Nat->Value)->(Nat->Nat)->(Nat->Nat)->World->Prop) (S:World->Prop):List Nat->Prop
 | []=>True
 | k :: r=>(∀ o,ops[k]? = some o->vp_ P md ops Q w0 fr F S k o)∧h8_ P md ops Q w0 fr F S r
theorem h8_.get:∀ {l:List Nat},h8_ P md ops Q w0 fr F S l->∀ i∈l,∀ o,ops[i]? = some o->vp_ P md ops Q w0 fr F S i o:=by
 intro l
 induction l with
 | nil=>intro _ i hi;simp at hi
 | cons k l ih=>
  intro h i hi;rcases List.mem_cons.1 hi with rfl|hi
  ·exact h.1
  ·exact ih h.2 i hi
end
def Region.chkX (md:Region.Mode) (ops:Array Oper) (ph:List Nat) (x t:Nat) (r:List Nat):Bool:=
 ((List.range ops.size).all fun i=>ph.contains i != (t :: r).contains i) &&
 (ph.all fun i=>(ops[i]?).isSome && (Region.deps md ops i).all fun j=>ph.contains j) &&
 ((List.range ops.size).all fun i=>(Region.deps md ops i).all fun j=>decide (j<i)) &&
 ((t :: r).all fun i=>decide (i<ops.size)) &&
 ((ph.all fun j=>j == x || (Region.sat md ops ops.size (Region.deps md ops t)).contains j) && Region.chain md ops t r) &&
 (ph.contains x && Region.chain md ops x r && (Region.deps md ops t).all (fun j=>j != x) && !r.isEmpty)
section
variable {P:Program} {ops:Array Oper} {Q:Exit->Act->World->Prop} {md:Region.Mode}
variable {w0:World} {ph:List Nat} {x t:Nat} {r:List Nat} {fr:(Nat->Value)->Act} {F:Nat->(Nat->Value)->(Nat->Nat)->(Nat->Nat)->World->Prop} {S:World->Prop}
theorem pt_ (hback:∀ i,i<ops.size->∀ j∈Region.deps md ops i,j<i) (x t:Nat) (r:List Nat) (fuel:Nat) (l:Array Bool) (a:Act) (w:World) (hx:x<ops.size) (ht:t<ops.size) (hne:x≠t) (hxr:x ∉ r) (htr:t ∉ r)
  (hxd:∀ j∈Region.deps md ops x,j ∉ x :: t :: r) (htd:∀ j∈Region.deps md ops t,j ∉ x :: t :: r)
  (hc1:Region.chain md ops t r=true) (hc2:Region.chain md ops x r=true) (hr:∀ i∈r,i<ops.size) (hf:r.length+2≤fuel) (hl:l.size=ops.size)
  (hlist:∀ j,j<ops.size->(l.getD j false=true↔j ∉ x :: t :: r))
  (h1:wpList P ops Q ((x :: t :: r).filterMap fun i=>ops[i]?) a w) (h2:wpList P ops Q ((t :: x :: r).filterMap fun i=>ops[i]?) a w):wpAny P md ops Q fuel l a w:=by
 obtain ⟨f,rfl⟩:∃ f,fuel=f+1:=⟨fuel-1,oq_⟩;have hrd:∀ y,y<ops.size->y∈x :: t :: r->(∀ j∈Region.deps md ops y,j ∉ x :: t :: r)->y∈Region.ready md ops l:=fun y hy hm hd=>by
  rw [Region.ready_spec];refine ⟨hy,?_,fun j hj=>(hlist j (by have:=hback y hy j hj;omega)).2 (hd j hj)⟩;rw [d0_ oq_];cases hb:l.getD y false with
  | true=>exact absurd hm ((hlist y hy).1 hb)
  | false=>rfl
 have hinx:=hrd x hx sq_ hxd;refine ⟨fun hnil=>by rw [hnil] at hinx;simp at hinx,fun y hy=>?_⟩;have hy':=(Region.ready_spec y).1 hy;have hyr:y∈x :: t :: r:=by
  by_cases hm:y∈x :: t :: r
  ·exact hm
  ·rw [d0_ oq_,(hlist y hy'.1).2 hm] at hy';simp at hy'
 have hyt:y=x∨y=t:=by
  rcases List.mem_cons.1 hyr with h3|h3
  ·exact .inl h3
  rcases List.mem_cons.1 h3 with h3|h3
  ·exact .inr h3
  ·exfalso;obtain ⟨z,h4,h5,h6⟩:=et_ hc1 y h3;exact (hlist z oq_).1 (hy'.2.2 z h6) (List.mem_cons_of_mem _ h4)
 have go:∀ (y z:Nat),y<ops.size->z<ops.size->y≠z->y ∉ r->Region.chain md ops z r=true->(∀ j,j∈y :: z :: r↔j∈x :: t :: r)->wpList P ops Q ((y :: z :: r).filterMap fun i=>ops[i]?) a w->wpOp P ops Q y (wpAny P md ops Q f (l.setIfInBounds y true)) a w:=by
  intro y z hy hz hyz hyr hcz hmm h;have hsome:ops[y]? = some ops[y]:=Array.getElem?_eq_getElem hy;rw [List.filterMap_cons,hsome] at h;unfold wpOp;rw [hsome];simp only;have key:∀ a w,wpList P ops Q ((z :: r).filterMap fun i=>ops[i]?) a w->wpAny P md ops Q f (l.setIfInBounds y true) a w:=fun a w h=>by
   refine g3_ hback (z :: r) f _ a w (fun t' r' e=>?_) (fun i hi=>?_) tq_ (by simpa using hl) (fun j hj=>?_) h
   ·cases e;exact hcz
   ·rcases List.mem_cons.1 hi with rfl|hi
    ·exact hz
    ·exact hr i hi
   ·by_cases e:y=j
    ·subst e;rw [c5_ oq_];simp [hyz,hyr]
    ·rw [bc_ e,hlist j hj,<- hmm j,List.mem_cons];exact ⟨fun h hx=>h (.inr hx),fun h hx=>h (hx.resolve_left fun e'=>e e'.symm)⟩
  simp only [wpList] at h
  split
  ·rename_i hw;rw [if_pos hw] at h;exact h.imp (Oper.wp_mono key) id
  ·rename_i hw;rw [if_neg hw] at h;exact key _ _ h
 rcases hyt with rfl|rfl
 ·exact go y t hx ht hne hxr hc1 (fun _=>Iff.rfl) h1
 ·exact go y x ht hx (fun e=>hne e.symm) htr hc2 (fun j=>by simp only [List.mem_cons];exact ⟨fun h=>h.elim (fun h=>.inr (.inl h)) (fun h=>h.elim .inl (fun h=>.inr (.inr h))),fun h=>h.elim (fun h=>.inr (.inl h)) (fun h=>h.elim .inl (fun h=>.inr (.inr h)))⟩) h2
variable {x0:Nat}
theorem na_ (hc:Region.chkX md ops ph x0 t r=true) (hnd:ph.Nodup)
  (hstab:∀ i v lo hi W W',F i v lo hi W->Below W.heap.size W W'->F i v lo hi W')
  (hloc:∀ i v v' lo lo' hi hi' W,(∀ j,j=i∨j∈Region.deps md ops i->v j=v' j∧lo j=lo' j∧hi j=hi' j)->F i v lo hi W->F i v' lo' hi' W)
  (hS:∀ W,Below w0.heap.size w0 W->S W)
  (steps:h8_ P md ops Q w0 fr F S ph)
  (fin:∀ (v:Nat->Value) (lo hi:Nat->Nat) (W:World),Below w0.heap.size w0 W->S W->(∀ i,ph.contains i=true->w0.heap.size≤lo i∧lo i≤hi i∧hi i≤W.heap.size∧F i v lo hi W)->
   (∀ i j,ph.contains i=true->ph.contains j=true->i≠j->hi i≤lo j∨hi j≤lo i)->wpList P ops Q ((t :: r).filterMap fun i=>ops[i]?) (fr v) W)
  (fin2:∀ (v:Nat->Value) (lo hi:Nat->Nat) (W:World),Below w0.heap.size w0 W->S W->(∀ i,ph.contains i=true->i≠x0->w0.heap.size≤lo i∧lo i≤hi i∧hi i≤W.heap.size∧F i v lo hi W)->
   (∀ i j,ph.contains i=true->ph.contains j=true->i≠x0->j≠x0->i≠j->hi i≤lo j∨hi j≤lo i)->wpList P ops Q ((x0 :: t :: r).filterMap fun i=>ops[i]?) (fr v) W∧wpList P ops Q ((t :: x0 :: r).filterMap fun i=>ops[i]?) (fr v) W) :
  ∀ (fuel:Nat) (l:Array Bool) (done:List Nat) (v:Nat->Value) (lo hi:Nat->Nat) (a:Act) (W:World),n1_ w0 ph ops md fr F l done v lo hi a W->fuel+done.length=ops.size->wpAny P md ops Q fuel l a W:=by
 unfold Region.chkX at hc;simp only [Bool.and_eq_true,List.all_eq_true,List.mem_range,decide_eq_true_eq,bne_iff_ne,ne_eq] at hc;obtain ⟨⟨⟨⟨⟨hone,hph⟩,hback⟩,htl⟩,hfirst⟩,hlate⟩:=hc;obtain ⟨⟨⟨hxph,hcx⟩,htx⟩,hrne⟩:=hlate;have hphlt:∀ i∈ph,i<ops.size:=fun i hi'=>by
  rcases Nat.lt_or_ge i ops.size with h|h
  ·exact h
  ·have:=(hph i hi').1;rw [Array.getElem?_eq_none h] at this;simp at this
 have hcases:∀ i,i<ops.size->(i∈ph∧i ∉ t :: r)∨(i ∉ ph∧i∈t :: r):=fun i hi'=>by
  have:=hone i hi'
  by_cases h1:i∈ph <;> by_cases h2:i∈t :: r <;> simp_all
 have full:∀ {l done v lo hi a W},n1_ w0 ph ops md fr F l done v lo hi a W->(∀ i∈ph,i∈done)->∀ fuel,(t :: r).length≤fuel->wpAny P md ops Q fuel l a W:=by
  intro l done v lo hi a W hd hall fuel hf;rw [hd.act];have hm:∀ i,ph.contains i=true->i∈done:=fun i hi'=>hall i (by simpa using hi');refine g3_ (fun i hi' j hj=>by simpa using hback i hi' j hj) (t :: r) fuel l _ W (fun t' r' e=>?_) (fun i hi=>by simpa using htl i hi) hf hd.size (fun j hj=>?_) (fin v lo hi W hd.below (hS W hd.below) (fun i hi'=>hd.facts i (hm i hi')) fun i j hi' hj hne=>hd.apart i (hm i hi') j (hm j hj) hne)
  ·cases e;exact hfirst.2
  ·rw [hd.iff];rcases hcases j hj with ⟨h1,h2⟩|⟨h1,h2⟩
   ·exact ⟨fun _=>h2,fun _=>hall j h1⟩
   ·exact ⟨fun h=>absurd (hd.lt j h) h1,fun h=>absurd h2 h⟩
 have htnd:(t :: r).Nodup:=by
  have key:∀ (r:List Nat) (t:Nat),Region.chain md ops t r=true->(t :: r).Nodup:=by
   intro r
   induction r with
   | nil=>intro t _;simp
   | cons t' r ih=>
    intro t h;have hlt:=gg_ h;simp only [Region.chain,Bool.and_eq_true] at h;exact List.nodup_cons.2 ⟨fun hx=>by have:=hlt t hx;omega,ih t' h.2⟩
  exact key r t hfirst.2
 have hsize:ph.length+(t :: r).length≤ops.size:=by
  have:(ph ++ (t :: r)).length≤(List.range ops.size).length:=ak_ (List.nodup_append.2 ⟨hnd,htnd,fun x hx y hy e=>by
   subst e;rcases hcases x (hphlt x hx) with h|h
   ·exact h.2 hy
   ·exact h.1 hx⟩) fun x hx=>List.mem_range.2 (by
    rcases List.mem_append.1 hx with h|h
    ·exact hphlt x h
    ·have:=htl x h;simpa using this)
  simpa using this
 intro fuel
 induction fuel with
 | zero=>
  intro l done v lo hi a W hd hlen;have h1:done.length≤ph.length:=ak_ hd.nd hd.lt;refine full hd (fun i hi'=>?_) 0 oq_
  by_cases h:i∈done
  ·exact h
  ·have h2:(i :: done).length≤ph.length:=ak_ (List.nodup_cons.2 ⟨h,hd.nd⟩) (fun x hx=>by
    rcases List.mem_cons.1 hx with rfl|hx
    ·exact hi'
    ·exact hd.lt x hx)
   simp at h2;omega
 | succ fuel ih=>
  intro l done v lo hi a W hd hlen
  by_cases hfull:∀ i∈ph,i∈done
  ·have h1:ph.length≤done.length:=ak_ hnd hfull;have h2:done.length≤ph.length:=ak_ hd.nd hd.lt;exact full hd hfull _ oq_
  by_cases hpart:∀ i∈ph,i≠x0->i∈done
  ·have hx0:x0 ∉ done:=fun h=>hfull fun i hi'=>by
    by_cases e:i=x0
    ·rw [e];exact h
    ·exact hpart i hi' e
   have hx0p:x0∈ph:=by simpa using hxph
   have h1:(x0 :: done).length≤ph.length:=ak_ (List.nodup_cons.2 ⟨hx0,hd.nd⟩) (fun x hx=>by
    rcases List.mem_cons.1 hx with rfl|hx
    ·exact hx0p
    ·exact hd.lt x hx)
   simp only [List.length_cons] at h1 hsize;have hb':∀ i,i<ops.size->∀ j∈Region.deps md ops i,j<i:=fun i hi' j hj=>by simpa using hback i hi' j hj
   have hx0t:x0 ∉ t :: r:=by
    rcases hcases x0 (hphlt x0 hx0p) with h|h
    ·exact h.2
    ·exact absurd hx0p h.1
   have htn:t ∉ r:=(List.nodup_cons.1 htnd).1;have htp:t<ops.size:=by have:=htl t sq_;simpa using this
   have hlist:∀ j,j<ops.size->(l.getD j false=true↔j ∉ x0 :: t :: r):=fun j hj=>by
    rw [hd.iff,List.mem_cons,not_or];rcases hcases j hj with ⟨h3,h4⟩|⟨h3,h4⟩
    ·exact ⟨fun h=>⟨fun e=>hx0 (e ▸ h),h4⟩,fun h=>hpart j h3 h.1⟩
    ·exact ⟨fun h=>absurd (hd.lt j h) h3,fun h=>absurd h4 h.2⟩
   have hf2:=fin2 v lo hi W hd.below (hS W hd.below) (fun i hi' hne=>hd.facts i (hpart i (by simpa using hi') hne)) fun i j hi' hj h3 h4 hne=>hd.apart i (hpart i (by simpa using hi') h3) j (hpart j (by simpa using hj) h4) hne;rw [hd.act];refine pt_ hb' x0 t r (fuel+1) l _ W (hphlt x0 hx0p) htp (fun e=>hx0t (by rw [e];simp)) (fun h=>hx0t (List.mem_cons_of_mem _ h)) htn (fun j hj hm=>?_) (fun j hj hm=>?_) hfirst.2 hcx (fun i hi=>by have:=htl i (List.mem_cons_of_mem _ hi);simpa using this) oq_ hd.size hlist hf2.1 hf2.2
   ·have h3:j∈ph:=by have:=(hph x0 hx0p).2 j hj;simpa using this
    have h4:=hb' x0 (hphlt x0 hx0p) j hj;rcases List.mem_cons.1 hm with h5|h5
    ·omega
    ·rcases hcases j (hphlt j h3) with h6|h6
     ·exact h6.2 h5
     ·exact h6.1 h3
   ·have h4:=hb' t htp j hj;rcases List.mem_cons.1 hm with h5|h5
    ·have:=htx j hj;exact absurd h5 (by simpa using this)
    ·rcases List.mem_cons.1 h5 with h6|h6
     ·omega
     ·have:=gg_ hfirst.2 j h6;omega
  have hlow:∀ x∈Region.ready md ops l,x∈ph:=fun x hx=>by
   have hx':=(Region.ready_spec x).1 hx;rcases hcases x hx'.1 with ⟨h,_⟩|⟨_,h⟩
   ·exact h
   ·exfalso;rcases List.mem_cons.1 h with h5|h5
    ·rw [h5] at hx';have hs:=hh_ hd.down ops.size _ hx'.2.2;exact hpart fun i hi' hne=>(hd.iff i).1 (hs i (by
      have:=hfirst.1 i hi';simp only [Bool.or_eq_true,beq_iff_eq] at this;simpa using this.resolve_left hne))
    ·obtain ⟨y,h2,h3,h4⟩:=et_ hfirst.2 x h5;have h5:=hd.lt y ((hd.iff y).1 (hx'.2.2 y h4));rcases hcases y oq_ with h6|h6
     ·exact h6.2 h2
     ·exact h6.1 h5
  refine ⟨fun hnil=>?_,fun x hx=>?_⟩
  ·exfalso;refine hfull ?_;intro i
   induction i using Nat.strongRecOn with
   | _ i ihi=>
    intro hi'
    by_cases h:i∈done
    ·exact h
    ·exfalso;have hin:i∈Region.ready md ops l:=by
      rw [Region.ready_spec];refine ⟨hphlt i hi',?_,fun j hj=>?_⟩
      ·rw [d0_ (by have:=hd.size;have:=hphlt i hi';omega)];cases hb:l.getD i false with
       | false=>rfl
       | true=>exact absurd ((hd.iff i).1 hb) h
      ·have hji:j<i:=by simpa using hback i (hphlt i hi') j hj
       exact (hd.iff j).2 (ihi j hji (by have:=(hph i hi').2 j hj;simpa using this))
     rw [hnil] at hin;simp at hin
  ·have hxm:=hlow x hx;have hx':=(Region.ready_spec x).1 hx;have hstep:=steps.get x hxm _ (Array.getElem?_eq_getElem hx'.1);have hxn:x ∉ done:=fun h=>by
    have h2:=(hd.iff x).2 h;rw [d0_ (by have:=hd.size;omega),h2] at hx';simp at hx'
   unfold wpOp;rw [Array.getElem?_eq_getElem hx'.1];simp only;obtain ⟨hw,hrun⟩:=hstep v lo hi W hd.below (hS W hd.below) (fun j hj=>(hd.facts j ((hd.iff j).1 (hx'.2.2 j hj))).2);rw [hd.act,if_pos hw];refine .inl (hrun _ ?_);intro y W' hb hF;have hbel:Below w0.heap.size w0 W':=hd.below.trans (hb.mono hd.below.size);refine ih (l.setIfInBounds x true) (x :: done) _ (fun j=>if j=x then W.heap.size else lo j) (fun j=>if j=x then W'.heap.size else hi j) _ W' ⟨by simpa using hd.size,fun i=>?_,List.nodup_cons.2 ⟨hxn,hd.nd⟩,fun i hi'=>?_,fun i hi' j hj=>?_,rfl,hbel,fun i hi'=>?_,fun i hi' j hj hne=>?_⟩ tq_
   ·by_cases e:x=i
    ·subst e;rw [c5_ (by have:=hd.size;omega)];simp
    ·rw [bc_ e,hd.iff,List.mem_cons];exact ⟨.inr,fun h=>h.resolve_left (fun e'=>e e'.symm)⟩
   ·rcases List.mem_cons.1 hi' with rfl|h
    ·exact hxm
    ·exact hd.lt i h
   ·have hji:l.getD j false=true:=by
     by_cases e:x=i
     ·subst e;exact hx'.2.2 j hj
     ·rw [bc_ e] at hi';exact hd.down i hi' j hj
    by_cases e:x=j
    ·subst e;exact c5_ (by have:=hd.size;omega)
    ·rw [bc_ e];exact hji
   ·by_cases e:i=x
    ·subst e;refine ⟨?_,?_,?_,hF⟩
     ·simp only [if_true];exact hd.below.size
     ·simp only [if_true];exact hb.size
     ·simp only [if_true];exact Nat.le_refl _
    ·have hid:i∈done:=by rcases List.mem_cons.1 hi' with h|h;exact absurd h e;exact h
     obtain ⟨f1,f2,f3,f4⟩:=hd.facts i hid;refine ⟨by simp only [if_neg e];exact f1,by simp only [if_neg e];exact f2,by simp only [if_neg e];exact Nat.le_trans f3 hb.size,hstab i _ _ _ W W' (hloc i v _ lo _ hi _ W (fun j hj=>?_) f4) hb⟩;have hjx:j≠x:=by
      rintro rfl;rcases hj with hj|hj
      ·exact e hj.symm
      ·exact hxn ((hd.iff j).1 (hd.down i ((hd.iff i).2 hid) j hj))
     simp only [if_neg hjx];exact ⟨trivial,trivial,trivial⟩
   ·by_cases e1:i=x
    ·subst e1;have hjd:j∈done:=by rcases List.mem_cons.1 hj with h|h;exact absurd h.symm hne;exact h
     simp only [if_true,if_neg (fun e=>hne (Eq.symm e):¬ j=i)];have:=(hd.facts j hjd).2.2.1;omega
    ·have hid:i∈done:=by rcases List.mem_cons.1 hi' with h|h;exact absurd h e1;exact h
     by_cases e2:j=x
     ·subst e2;simp only [if_true,if_neg e1];have:=(hd.facts i hid).2.2.1;omega
     ·have hjd:j∈done:=by rcases List.mem_cons.1 hj with h|h;exact absurd h e2;exact h
      simp only [if_neg e1,if_neg e2];exact hd.apart i hid j hjd hne
theorem ke_ {id:Nat} {a:Act} (ph:List Nat) (x0 t:Nat) (r:List Nat) (fr:(Nat->Value)->Act) (v0:Nat->Value) (F:Nat->(Nat->Value)->(Nat->Nat)->(Nat->Nat)->World->Prop) (S:World->Prop) (hmix:P.follows .mixedOrders=true)
  (hc:Region.chkX .any ops ph x0 t r=true) (hnd:ph.Nodup) (ha:a=fr v0)
  (hstab:∀ i v lo hi W W',F i v lo hi W->Below W.heap.size W W'->F i v lo hi W')
  (hloc:∀ i v v' lo lo' hi hi' W,(∀ j,j=i∨j∈Region.deps .any ops i->v j=v' j∧lo j=lo' j∧hi j=hi' j)->F i v lo hi W->F i v' lo' hi' W)
  (hS:∀ W,Below w0.heap.size w0 W->S W)
  (steps:h8_ P .any ops Q w0 fr F S ph)
  (fin:∀ (v:Nat->Value) (lo hi:Nat->Nat) (W:World),Below w0.heap.size w0 W->S W->(∀ i,ph.contains i=true->w0.heap.size≤lo i∧lo i≤hi i∧hi i≤W.heap.size∧F i v lo hi W)->
   (∀ i j,ph.contains i=true->ph.contains j=true->i≠j->hi i≤lo j∨hi j≤lo i)->wpList P ops Q ((t :: r).filterMap fun i=>ops[i]?) (fr v) W)
  (fin2:∀ (v:Nat->Value) (lo hi:Nat->Nat) (W:World),Below w0.heap.size w0 W->S W->(∀ i,ph.contains i=true->i≠x0->w0.heap.size≤lo i∧lo i≤hi i∧hi i≤W.heap.size∧F i v lo hi W)->
   (∀ i j,ph.contains i=true->ph.contains j=true->i≠x0->j≠x0->i≠j->hi i≤lo j∨hi j≤lo i)->wpList P ops Q ((x0 :: t :: r).filterMap fun i=>ops[i]?) (fr v) W∧wpList P ops Q ((t :: x0 :: r).filterMap fun i=>ops[i]?) (fr v) W):(Code.region id ops true).wp P Q a w0:=by
 refine wp_region_any hmix ?_;refine na_ hc hnd hstab hloc hS steps fin fin2 ops.size _ [] v0 (fun _=>0) (fun _=>0) a _ ⟨sq_,fun i=>?_,.nil,sq_,fun i hi'=>?_,ha,(Below.refl _ _).drew,sq_,sq_⟩ sq_
 ·simp [Array.getD]
 ·exfalso;revert hi';simp [Array.getD]
end
section
variable {P:Program} {ops:Array Oper} {Q:Exit->Act->World->Prop} {md:Region.Mode}
variable {w0:World} {ph tl:List Nat} {fr:(Nat->Value)->Act} {F:Nat->(Nat->Value)->(Nat->Nat)->(Nat->Nat)->World->Prop} {S:World->Prop}
def vk_ (P:Program) (md:Region.Mode) (ops:Array Oper) (Q:Exit->Act->World->Prop) (w0:World) (fr:(Nat->Value)->Act) (F:Nat->(Nat->Value)->(Nat->Nat)->(Nat->Nat)->World->Prop) (S:World->Prop) (k:Nat) (o:Oper):Prop:=
 ∀ (v:Nat->Value) (lo hi:Nat->Nat) (W:World),Below w0.heap.size w0 W->S W->(∀ j∈Region.deps md ops k,lo j≤hi j∧hi j≤W.heap.size∧F j v lo hi W)->
  (Region.wanted o (yielded ops (fr v).tmps)=true∧
  ∀ K:Act->World->Prop,(∀ x W',Below W.heap.size W W'->F k (fun j=>if j=k then x else v j) (fun j=>if j=k then W.heap.size else lo j) (fun j=>if j=k then W'.heap.size else hi j) W'->K (fr (fun j=>if j=k then x else v j)) W')->Oper.wp P o (fr v) W K Q) ∨
  (Region.wanted o (yielded ops (fr v).tmps)=false∧
  ∀ K:Act->World->Prop,(∀ x W',Below W.heap.size W W'->F k (fun j=>if j=k then x else v j) (fun j=>if j=k then W.heap.size else lo j) (fun j=>if j=k then W'.heap.size else hi j) W'->K (fr (fun j=>if j=k then x else v j)) W')->K ((fr v).put o.dst undef) W)
def gc_ (P:Program) (md:Region.Mode) (ops:Array Oper) (Q:Exit->Act->World->Prop) (w0:World) (fr:(Nat->Value)->Act) (F:Nat->(Nat->Value)->(Nat->Nat)->(Nat->Nat)->World->Prop) (S:World->Prop):List Nat->Prop
 | []=>True
 | k :: r=>(∀ o,ops[k]? = some o->vk_ P md ops Q w0 fr F S k o)∧gc_ P md ops Q w0 fr F S r
theorem gc_.get:∀ {l:List Nat},gc_ P md ops Q w0 fr F S l->∀ i∈l,∀ o,ops[i]? = some o->vk_ P md ops Q w0 fr F S i o:=by
 intro l
 induction l with
 | nil=>intro _ i hi;simp at hi
 | cons k l ih=>
  intro h i hi;rcases List.mem_cons.1 hi with rfl|hi
  ·exact h.1
  ·exact ih h.2 i hi
theorem os_ (hc:Region.chkH md ops ph tl=true) (hnd:ph.Nodup)
  (hstab:∀ i v lo hi W W',F i v lo hi W->Below W.heap.size W W'->F i v lo hi W')
  (hloc:∀ i v v' lo lo' hi hi' W,(∀ j,j=i∨j∈Region.deps md ops i->v j=v' j∧lo j=lo' j∧hi j=hi' j)->F i v lo hi W->F i v' lo' hi' W)
  (hS:∀ W,Below w0.heap.size w0 W->S W)
  (steps:gc_ P md ops Q w0 fr F S ph)
  (fin:∀ (v:Nat->Value) (lo hi:Nat->Nat) (W:World),Below w0.heap.size w0 W->S W->(∀ i,ph.contains i=true->w0.heap.size≤lo i∧lo i≤hi i∧hi i≤W.heap.size∧F i v lo hi W)->
   (∀ i j,ph.contains i=true->ph.contains j=true->i≠j->hi i≤lo j∨hi j≤lo i)->wpList P ops Q (tl.filterMap fun i=>ops[i]?) (fr v) W) :
  ∀ (fuel:Nat) (l:Array Bool) (done:List Nat) (v:Nat->Value) (lo hi:Nat->Nat) (a:Act) (W:World),n1_ w0 ph ops md fr F l done v lo hi a W->fuel+done.length=ops.size->wpAny P md ops Q fuel l a W:=by
 unfold Region.chkH at hc;simp only [Bool.and_eq_true,List.all_eq_true,List.mem_range,decide_eq_true_eq,bne_iff_ne,ne_eq] at hc;obtain ⟨⟨⟨⟨hone,hph⟩,hback⟩,htl⟩,hfirst⟩:=hc;have hphlt:∀ i∈ph,i<ops.size:=fun i hi'=>by
  rcases Nat.lt_or_ge i ops.size with h|h
  ·exact h
  ·have:=(hph i hi').1;rw [Array.getElem?_eq_none h] at this;simp at this
 have hcases:∀ i,i<ops.size->(i∈ph∧i ∉ tl)∨(i ∉ ph∧i∈tl):=fun i hi'=>by
  have:=hone i hi'
  by_cases h1:i∈ph <;> by_cases h2:i∈tl <;> simp_all
 have hlens:ph.length+tl.eraseDups.length ≥ 0:=Nat.zero_le _;have full:∀ {l done v lo hi a W},n1_ w0 ph ops md fr F l done v lo hi a W->(∀ i∈ph,i∈done)->∀ fuel,tl.length≤fuel->wpAny P md ops Q fuel l a W:=by
  intro l done v lo hi a W hd hall fuel hf;rw [hd.act];have hm:∀ i,ph.contains i=true->i∈done:=fun i hi'=>hall i (by simpa using hi');refine g3_ (fun i hi' j hj=>by simpa using hback i hi' j hj) tl fuel l _ W (fun t r e=>?_) htl hf hd.size (fun j hj=>?_) (fin v lo hi W hd.below (hS W hd.below) (fun i hi'=>hd.facts i (hm i hi')) fun i j hi' hj hne=>hd.apart i (hm i hi') j (hm j hj) hne)
  ·rw [e] at hfirst;simp only [Bool.and_eq_true] at hfirst;exact hfirst.2
  ·rw [hd.iff];rcases hcases j hj with ⟨h1,h2⟩|⟨h1,h2⟩
   ·exact ⟨fun _=>h2,fun _=>hall j h1⟩
   ·exact ⟨fun h=>absurd (hd.lt j h) h1,fun h=>absurd h2 h⟩
 have htnd:tl.Nodup:=by
  cases tl with
  | nil=>exact .nil
  | cons t r=>
   simp only [Bool.and_eq_true] at hfirst;have key:∀ (r:List Nat) (t:Nat),Region.chain md ops t r=true->(t :: r).Nodup:=by
    intro r
    induction r with
    | nil=>intro t _;simp
    | cons t' r ih=>
     intro t h;have hlt:=gg_ h;simp only [Region.chain,Bool.and_eq_true] at h;exact List.nodup_cons.2 ⟨fun hx=>by have:=hlt t hx;omega,ih t' h.2⟩
   exact key r t hfirst.2
 have hsize:ph.length+tl.length≤ops.size:=by
  have:(ph ++ tl).length≤(List.range ops.size).length:=ak_ (List.nodup_append.2 ⟨hnd,htnd,fun x hx y hy e=>by
   subst e;rcases hcases x (hphlt x hx) with h|h
   ·exact h.2 hy
   ·exact h.1 hx⟩) fun x hx=>List.mem_range.2 (by
    rcases List.mem_append.1 hx with h|h
    ·exact hphlt x h
    ·exact htl x h)
  simpa using this
 intro fuel
 induction fuel with
 | zero=>
  intro l done v lo hi a W hd hlen;have h1:done.length≤ph.length:=ak_ hd.nd hd.lt;refine full hd (fun i hi'=>?_) 0 oq_
  by_cases h:i∈done
  ·exact h
  ·have h2:(i :: done).length≤ph.length:=ak_ (List.nodup_cons.2 ⟨h,hd.nd⟩) (fun x hx=>by
    rcases List.mem_cons.1 hx with rfl|hx
    ·exact hi'
    ·exact hd.lt x hx)
   simp at h2;omega
 | succ fuel ih=>
  intro l done v lo hi a W hd hlen
  by_cases hfull:∀ i∈ph,i∈done
  ·have h1:ph.length≤done.length:=ak_ hnd hfull;have h2:done.length≤ph.length:=ak_ hd.nd hd.lt;exact full hd hfull _ oq_
  have hlow:∀ x∈Region.ready md ops l,x∈ph:=fun x hx=>by
   have hx':=(Region.ready_spec x).1 hx;rcases hcases x hx'.1 with ⟨h,_⟩|⟨_,h⟩
   ·exact h
   ·exfalso;cases htl':tl with
    | nil=>rw [htl'] at h;simp at h
    | cons t r=>
     rw [htl'] at h hfirst;simp only [Bool.and_eq_true,List.all_eq_true] at hfirst;rcases List.mem_cons.1 h with rfl|h
     ·have hs:=hh_ hd.down ops.size _ hx'.2.2;exact hfull fun i hi'=>(hd.iff i).1 (hs i (by have:=hfirst.1 i hi';simpa using this))
     ·obtain ⟨y,h2,h3,h4⟩:=et_ hfirst.2 x h;have h5:=hd.lt y ((hd.iff y).1 (hx'.2.2 y h4));rcases hcases y oq_ with h6|h6
      ·exact h6.2 (by rw [htl'];exact h2)
      ·exact h6.1 h5
  refine ⟨fun hnil=>?_,fun x hx=>?_⟩
  ·exfalso;refine hfull ?_;intro i
   induction i using Nat.strongRecOn with
   | _ i ihi=>
    intro hi'
    by_cases h:i∈done
    ·exact h
    ·exfalso;have hin:i∈Region.ready md ops l:=by
      rw [Region.ready_spec];refine ⟨hphlt i hi',?_,fun j hj=>?_⟩
      ·rw [d0_ (by have:=hd.size;have:=hphlt i hi';omega)];cases hb:l.getD i false with
       | false=>rfl
       | true=>exact absurd ((hd.iff i).1 hb) h
      ·have hji:j<i:=by simpa using hback i (hphlt i hi') j hj
       exact (hd.iff j).2 (ihi j hji (by have:=(hph i hi').2 j hj;simpa using this))
     rw [hnil] at hin;simp at hin
  ·have hxm:=hlow x hx;have hx':=(Region.ready_spec x).1 hx;have hstep:=steps.get x hxm _ (Array.getElem?_eq_getElem hx'.1);have hxn:x ∉ done:=fun h=>by
    have h2:=(hd.iff x).2 h;rw [d0_ (by have:=hd.size;omega),h2] at hx';simp at hx'
   unfold wpOp;rw [Array.getElem?_eq_getElem hx'.1];simp only;have hcond:∀ y W',Below W.heap.size W W'->F x (fun j=>if j=x then y else v j) (fun j=>if j=x then W.heap.size else lo j) (fun j=>if j=x then W'.heap.size else hi j) W'->wpAny P md ops Q fuel (l.setIfInBounds x true) (fr (fun j=>if j=x then y else v j)) W':=?cond
   ·rcases hstep v lo hi W hd.below (hS W hd.below) (fun j hj=>(hd.facts j ((hd.iff j).1 (hx'.2.2 j hj))).2) with ⟨hw,hrun⟩|⟨hw,hrun⟩
    ·rw [hd.act,if_pos hw];exact .inl (hrun _ hcond)
    ·rw [hd.act,if_neg (by rw [hw];simp)];exact hrun _ hcond
   intro y W' hb hF;have hbel:Below w0.heap.size w0 W':=hd.below.trans (hb.mono hd.below.size);refine ih (l.setIfInBounds x true) (x :: done) _ (fun j=>if j=x then W.heap.size else lo j) (fun j=>if j=x then W'.heap.size else hi j) _ W' ⟨by simpa using hd.size,fun i=>?_,List.nodup_cons.2 ⟨hxn,hd.nd⟩,fun i hi'=>?_,fun i hi' j hj=>?_,rfl,hbel,fun i hi'=>?_,fun i hi' j hj hne=>?_⟩ tq_
   ·by_cases e:x=i
    ·subst e;rw [c5_ (by have:=hd.size;omega)];simp
    ·rw [bc_ e,hd.iff,List.mem_cons];exact ⟨.inr,fun h=>h.resolve_left (fun e'=>e e'.symm)⟩
   ·rcases List.mem_cons.1 hi' with rfl|h
    ·exact hxm
    ·exact hd.lt i h
   ·have hji:l.getD j false=true:=by
     by_cases e:x=i
     ·subst e;exact hx'.2.2 j hj
     ·rw [bc_ e] at hi';exact hd.down i hi' j hj
    by_cases e:x=j
    ·subst e;exact c5_ (by have:=hd.size;omega)
    ·rw [bc_ e];exact hji
   ·by_cases e:i=x
    ·subst e;refine ⟨?_,?_,?_,hF⟩
     ·simp only [if_true];exact hd.below.size
     ·simp only [if_true];exact hb.size
     ·simp only [if_true];exact Nat.le_refl _
    ·have hid:i∈done:=by rcases List.mem_cons.1 hi' with h|h;exact absurd h e;exact h
     obtain ⟨f1,f2,f3,f4⟩:=hd.facts i hid;refine ⟨by simp only [if_neg e];exact f1,by simp only [if_neg e];exact f2,by simp only [if_neg e];exact Nat.le_trans f3 hb.size,hstab i _ _ _ W W' (hloc i v _ lo _ hi _ W (fun j hj=>?_) f4) hb⟩;have hjx:j≠x:=by
      rintro rfl;rcases hj with hj|hj
      ·exact e hj.symm
      ·exact hxn ((hd.iff j).1 (hd.down i ((hd.iff i).2 hid) j hj))
     simp only [if_neg hjx];exact ⟨trivial,trivial,trivial⟩
   ·by_cases e1:i=x
    ·subst e1;have hjd:j∈done:=by rcases List.mem_cons.1 hj with h|h;exact absurd h.symm hne;exact h
     simp only [if_true,if_neg (fun e=>hne (Eq.symm e):¬ j=i)];have:=(hd.facts j hjd).2.2.1;omega
    ·have hid:i∈done:=by rcases List.mem_cons.1 hi' with h|h;exact absurd h e1;exact h
     by_cases e2:j=x
     ·subst e2;simp only [if_true,if_neg e1];have:=(hd.facts i hid).2.2.1;omega
     ·have hjd:j∈done:=by rcases List.mem_cons.1 hj with h|h;exact absurd h e2;exact h
      simp only [if_neg e1,if_neg e2];exact hd.apart i hid j hjd hne
theorem k6_ {id:Nat} {a:Act} (ph tl:List Nat) (fr:(Nat->Value)->Act) (v0:Nat->Value) (F:Nat->(Nat->Value)->(Nat->Nat)->(Nat->Nat)->World->Prop) (S:World->Prop) (hmix:P.follows .mixedOrders=true)
  (hc:Region.chkH .any ops ph tl=true) (hnd:ph.Nodup) (ha:a=fr v0)
  (hstab:∀ i v lo hi W W',F i v lo hi W->Below W.heap.size W W'->F i v lo hi W')
  (hloc:∀ i v v' lo lo' hi hi' W,(∀ j,j=i∨j∈Region.deps .any ops i->v j=v' j∧lo j=lo' j∧hi j=hi' j)->F i v lo hi W->F i v' lo' hi' W)
  (hS:∀ W,Below w0.heap.size w0 W->S W)
  (steps:gc_ P .any ops Q w0 fr F S ph)
  (fin:∀ (v:Nat->Value) (lo hi:Nat->Nat) (W:World),Below w0.heap.size w0 W->S W->(∀ i,ph.contains i=true->w0.heap.size≤lo i∧lo i≤hi i∧hi i≤W.heap.size∧F i v lo hi W)->
   (∀ i j,ph.contains i=true->ph.contains j=true->i≠j->hi i≤lo j∨hi j≤lo i)->wpList P ops Q (tl.filterMap fun i=>ops[i]?) (fr v) W):(Code.region id ops true).wp P Q a w0:=by
 refine wp_region_any hmix ?_;refine os_ hc hnd hstab hloc hS steps fin ops.size _ [] v0 (fun _=>0) (fun _=>0) a _ ⟨sq_,fun i=>?_,.nil,sq_,fun i hi'=>?_,ha,(Below.refl _ _).drew,sq_,sq_⟩ sq_
 ·simp [Array.getD]
 ·exfalso;revert hi';simp [Array.getD]
end
def vat:List Value->Nat->Value
 | [],_=>undef
 | x :: _,0=>x
 | _ :: l,k+1=>vat l k
def ov (x:List Value):List Nat->(Nat->Value)->Nat->Value
 | [],u,j=>u j
 | d :: D,u,j=>bif j == d then vat x j else ov x D u j
theorem mz_ {x:List Value} {D:List Nat} {v:Nat->Value} (h:∀ j∈D,v j=vat x j):ov x D v=v:=by
 induction D with
 | nil=>rfl
 | cons d D ih=>
  funext j
  simp only [ov];cases hb:(j == d) with
  | true=>rw [eq_of_beq hb];exact (h d sq_).symm
  | false=>exact congrFun (ih fun j hj=>h j (by simp [hj])) j
section
variable {P:Program} {ops:Array Oper} {Q:Exit->Act->World->Prop} {md:Region.Mode}
variable {w0:World} {fr:(Nat->Value)->Act} {S:World->Prop} {x:List Value}
theorem wo_ {D:List Nat} {k:Nat} {v:Nat->Value} (h:∀ j∈D,v j=vat x j):ov x (k :: D) v=fun j=>if j=k then vat x k else v j:=by
 funext j
 show (bif j == k then vat x j else ov x D v j)=_;rw [mz_ h]
 by_cases e:j=k
 ·subst e;simp
 ·rw [if_neg e,show (j == k)=false from Bool.eq_false_iff.2 fun h=>e (eq_of_beq h)];rfl
end
def FnG:=Nat->(Nat->Value)->(Nat->Nat)->(Nat->Nat)->World->Prop
def allC (p:Nat->Prop):List Nat->Prop
 | []=>True
 | k :: r=>p k∧allC p r
theorem allC.get {p:Nat->Prop}:∀ {l:List Nat},allC p l->∀ k,l.contains k=true->p k
 | k :: r,⟨h,t⟩,i,hi=>by
  by_cases e:i=k
  ·subst e;exact h
  ·refine t.get i ?_;rw [List.contains_cons] at hi;simpa [e] using hi
theorem allC.of {p:Nat->Prop}:∀ {l:List Nat},(∀ k∈l,p k)->allC p l
 | [],_=>trivial
 | k :: r,h=>⟨h k sq_,.of fun j hj=>h j (by simp [hj])⟩
def fcW (x:List Value) (cs:List Nat) (G:FnG) (i:Nat) (v:Nat->Value) (lo hi:Nat->Nat) (W:World):Prop:=match cs.contains i with
 | true=>G i v lo hi W
 | false=>v i=vat x i
def upd {α:Type} (f:Nat->α) (k:Nat) (y:α):Nat->α:=fun j=>if j=k then y else f j
section
variable {P:Program} {ops:Array Oper} {Q:Exit->Act->World->Prop} {md:Region.Mode}
variable {w0:World} {fr:(Nat->Value)->Act} {S:World->Prop} {x:List Value} {cs:List Nat} {G:FnG}
def gokW (fr:(Nat->Value)->Act) (x:List Value) (cs:List Nat) (G:FnG) (D:List Nat) (v:Nat->Value) (lo hi:Nat->Nat) (W:World) (k:Nat) (K:Act->World->Prop):Prop:=match cs.contains k with
 | false=>∀ W',Below W.heap.size W W'->K (fr (ov x (k :: D) v)) W'
 | true=>∀ y W',Below W.heap.size W W'->G k (fun j=>if j=k then y else v j) (fun j=>if j=k then W.heap.size else lo j) (fun j=>if j=k then W'.heap.size else hi j) W'->K (fr (upd (ov x D v) k y)) W'
def n0_ (P:Program) (ops:Array Oper) (Q:Exit->Act->World->Prop) (w0:World) (fr:(Nat->Value)->Act) (x:List Value) (cs:List Nat) (G:FnG) (S:World->Prop) (D C:List Nat) (k:Nat) (o:Oper):Prop:=
 ∀ (v:Nat->Value) (lo hi:Nat->Nat) (W:World),Below w0.heap.size w0 W->S W->allC (fun j=>lo j≤hi j∧hi j≤W.heap.size∧G j v lo hi W) C->
  (Region.wanted o (yielded ops (fr (ov x D v)).tmps)=true∧∀ K:Act->World->Prop,gokW fr x cs G D v lo hi W k K->Oper.wp P o (fr (ov x D v)) W K Q) ∨
  (Region.wanted o (yielded ops (fr (ov x D v)).tmps)=false∧∀ K:Act->World->Prop,gokW fr x cs G D v lo hi W k K->K ((fr (ov x D v)).put o.dst undef) W)
def dw_ (P:Program) (md:Region.Mode) (ops:Array Oper) (Q:Exit->Act->World->Prop) (w0:World) (fr:(Nat->Value)->Act) (x:List Value) (cs:List Nat) (G:FnG) (S:World->Prop):List Nat->Prop
 | []=>True
 | k :: r=>(∃ D C o,ops[k]? = some o∧((D.all fun j=>(Region.deps md ops k).contains j && !cs.contains j) && C.all fun j=>(Region.deps md ops k).contains j && cs.contains j)=true∧n0_ P ops Q w0 fr x cs G S D C k o)∧dw_ P md ops Q w0 fr x cs G S r
theorem dw_.c {k:Nat} {o:Oper} {r:List Nat} (D C:List Nat) (e:ops[k]? = some o) (h:n0_ P ops Q w0 fr x cs G S D C k o) (t:dw_ P md ops Q w0 fr x cs G S r) (hD:((D.all fun j=>(Region.deps md ops k).contains j && !cs.contains j) && C.all fun j=>(Region.deps md ops k).contains j && cs.contains j)=true:=by kernel_rfl):dw_ P md ops Q w0 fr x cs G S (k :: r):=⟨⟨D,C,o,e,hD,h⟩,t⟩
theorem dw_.n:dw_ P md ops Q w0 fr x cs G S []:=trivial
theorem dw_.to:∀ {l:List Nat},dw_ P md ops Q w0 fr x cs G S l->gc_ P md ops Q w0 fr (fcW x cs G) S l
 | [],_=>trivial
 | k :: r,⟨⟨D,C,o,e,hD,h⟩,t⟩=>by
  refine ⟨fun o' e'=>?_,t.to⟩;rw [e] at e';cases e';intro v lo hi W hb hs hd;rw [Bool.and_eq_true,List.all_eq_true,List.all_eq_true] at hD;have hj:∀ j∈D,v j=vat x j:=fun j hj=>by
   have h1:=hD.1 j hj;rw [Bool.and_eq_true] at h1;have h2:=(hd j (by simpa using h1.1)).2.2;rw [fcW,show cs.contains j=false by simpa using h1.2] at h2;exact h2
  have h':=h v lo hi W hb hs (.of fun j hj=>by
   have h1:=hD.2 j hj;rw [Bool.and_eq_true] at h1;have h2:=hd j (by simpa using h1.1);rw [fcW,h1.2] at h2;exact h2)
  have key:∀ K:Act->World->Prop,(∀ y W',Below W.heap.size W W'->fcW x cs G k (fun j=>if j=k then y else v j) (fun j=>if j=k then W.heap.size else lo j) (fun j=>if j=k then W'.heap.size else hi j) W'->K (fr (fun j=>if j=k then y else v j)) W')->gokW fr x cs G D v lo hi W k K:=fun K hK=>by
   unfold gokW;cases hc:cs.contains k with
   | false=>exact fun W' hb'=>by rw [wo_ hj];exact hK (vat x k) W' hb' (by rw [fcW,hc];simp)
   | true=>exact fun y W' hb' hg=>by rw [mz_ hj];exact hK y W' hb' (by rw [fcW,hc];exact hg)
  rw [mz_ hj] at h';exact h'.imp (fun ⟨h1,h2⟩=>⟨h1,fun K hK=>h2 K (key K hK)⟩) fun ⟨h1,h2⟩=>⟨h1,fun K hK=>h2 K (key K hK)⟩
theorem ai_ {id:Nat} {a:Act} (ph tl:List Nat) (fr:(Nat->Value)->Act) (x:List Value) (cs:List Nat) (G:FnG) (S:World->Prop)
  (hS:∀ W,Below w0.heap.size w0 W->S W)
  (stab:allC (fun k=>∀ v lo hi W W',G k v lo hi W->Below W.heap.size W W'->G k v lo hi W') cs)
  (loc:allC (fun k=>∀ v v' lo lo' hi hi' W,(∀ j,j=k∨j∈Region.deps .any ops k->v j=v' j∧lo j=lo' j∧hi j=hi' j)->G k v lo hi W->G k v' lo' hi' W) cs)
  (steps:dw_ P .any ops Q w0 fr x cs G S ph)
  (fin:∀ (v:Nat->Value) (lo hi:Nat->Nat) (W:World),Below w0.heap.size w0 W->S W->(∀ i,ph.contains i=true->w0.heap.size≤lo i∧lo i≤hi i∧hi i≤W.heap.size∧fcW x cs G i v lo hi W)->
   (∀ i j,ph.contains i=true->ph.contains j=true->i≠j->hi i≤lo j∨hi j≤lo i)->wpList P ops Q (tl.filterMap fun i=>ops[i]?) (fr v) W)
  (v0:Nat->Value:=fun _=>undef) (ha:a=fr v0:=by rfl) (hmix:P.follows .mixedOrders=true:=by rfl) (hc:Region.chkH .any ops ph tl=true:=by kernel_rfl) (hnd:ph.Nodup:=by decide):(Code.region id ops true).wp P Q a w0:=
 k6_ ph tl fr v0 (fcW x cs G) S hmix hc hnd ha (fun i v lo hi W W' h hb=>by
   unfold fcW at h ⊢;cases e:cs.contains i with
   | true=>rw [e] at h;exact stab.get i e v lo hi W W' h hb
   | false=>rw [e] at h;exact h) (fun i v v' lo lo' hi hi' W hag h=>by
   unfold fcW at h ⊢;cases e:cs.contains i with
   | true=>rw [e] at h;exact loc.get i e v v' lo lo' hi hi' W hag h
   | false=>rw [e] at h;exact (hag i (.inl rfl)).1 ▸ h) hS steps.to fin
theorem stw {D C:List Nat} {k:Nat} {o:Oper} (h:n0_ P ops Q w0 fr x cs G S D C k o:=by
  intro v lo hi W hb hS _
  first
   | (
    refine .inr ⟨rfl,fun K hK=>acx (hK W (Below.refl _ _)) ?_⟩;simp [Act.put,ov,vat]
    done)
   | (
    go_split_ands;refine .inl ⟨rfl,fun K hK=>?_⟩;simp only [ov,vat,Nat.reduceBEq,cond_true,cond_false];go_wp2_with fail
    refine acx (hK W (Below.refl _ _)) ?_
    first
     | (simp [ov,vat];done)
     | (simp [ov,vat, *];done)
    done)
   | fail):n0_ P ops Q w0 fr x cs G S D C k o:=h
end
section
variable {P:Program} {ops:Array Oper} {Q:Exit->Act->World->Prop} {md:Region.Mode}
variable {w0:World} {fr:(Nat->Value)->Act} {S:World->Prop} {x:List Value} {cs:List Nat} {G:FnG}
def mx_ (P:Program) (ops:Array Oper) (Q:Exit->Act->World->Prop) (w0:World) (fr:(Nat->Value)->Act) (x:List Value) (cs:List Nat) (G:FnG) (S:World->Prop) (D C:List Nat) (k:Nat) (o:Oper):Prop:=
 ∀ (v:Nat->Value) (lo hi:Nat->Nat) (W:World),Below w0.heap.size w0 W->S W->allC (fun j=>lo j≤hi j∧hi j≤W.heap.size∧G j v lo hi W) C->
  Region.wanted o (yielded ops (fr (ov x D v)).tmps)=true∧∀ K:Act->World->Prop,gokW fr x cs G D v lo hi W k K->Oper.wp P o (fr (ov x D v)) W K Q
def ev_ (P:Program) (md:Region.Mode) (ops:Array Oper) (Q:Exit->Act->World->Prop) (w0:World) (fr:(Nat->Value)->Act) (x:List Value) (cs:List Nat) (G:FnG) (S:World->Prop):List Nat->Prop
 | []=>True
 | k :: r=>(∃ D C o,ops[k]? = some o∧((D.all fun j=>(Region.deps md ops k).contains j && !cs.contains j) && C.all fun j=>(Region.deps md ops k).contains j && cs.contains j)=true∧mx_ P ops Q w0 fr x cs G S D C k o)∧ev_ P md ops Q w0 fr x cs G S r
theorem ev_.c {k:Nat} {o:Oper} {r:List Nat} (D C:List Nat) (e:ops[k]? = some o) (h:mx_ P ops Q w0 fr x cs G S D C k o) (t:ev_ P md ops Q w0 fr x cs G S r) (hD:((D.all fun j=>(Region.deps md ops k).contains j && !cs.contains j) && C.all fun j=>(Region.deps md ops k).contains j && cs.contains j)=true:=by kernel_rfl):ev_ P md ops Q w0 fr x cs G S (k :: r):=⟨⟨D,C,o,e,hD,h⟩,t⟩
theorem ev_.n:ev_ P md ops Q w0 fr x cs G S []:=trivial
theorem ev_.to:∀ {l:List Nat},ev_ P md ops Q w0 fr x cs G S l->h8_ P md ops Q w0 fr (fcW x cs G) S l
 | [],_=>trivial
 | k :: r,⟨⟨D,C,o,e,hD,h⟩,t⟩=>by
  refine ⟨fun o' e'=>?_,t.to⟩;have hs:gc_ P md ops Q w0 fr (fcW x cs G) S [k]:=dw_.to ⟨⟨D,C,o,e,hD,fun v lo hi W h1 h2 h3=>.inl (h v lo hi W h1 h2 h3)⟩,trivial⟩;intro v lo hi W hb hS hd;rw [e] at e';cases e';have hw:=(h v lo hi W hb hS (.of fun j hj=>by
   rw [Bool.and_eq_true,List.all_eq_true,List.all_eq_true] at hD;have h1:=hD.2 j hj;rw [Bool.and_eq_true] at h1;have h2:=hd j (by simpa using h1.1);rw [fcW,h1.2] at h2;exact h2)).1
  rw [mz_ fun j hj=>by
   rw [Bool.and_eq_true,List.all_eq_true,List.all_eq_true] at hD;have h1:=hD.1 j hj;rw [Bool.and_eq_true] at h1;have h2:=(hd j (by simpa using h1.1)).2.2;rw [fcW,show cs.contains j=false by simpa using h1.2] at h2;exact h2] at hw
  rcases hs.1 o e v lo hi W hb hS hd with h1|⟨h1,_⟩
  ·exact h1
  ·rw [h1] at hw;cases hw
theorem cx_ {id:Nat} {a:Act} (ph:List Nat) (x0 t:Nat) (r:List Nat) (fr:(Nat->Value)->Act) (x:List Value) (cs:List Nat) (G:FnG) (S:World->Prop)
  (hS:∀ W,Below w0.heap.size w0 W->S W)
  (stab:allC (fun k=>∀ v lo hi W W',G k v lo hi W->Below W.heap.size W W'->G k v lo hi W') cs)
  (loc:allC (fun k=>∀ v v' lo lo' hi hi' W,(∀ j,j=k∨j∈Region.deps .any ops k->v j=v' j∧lo j=lo' j∧hi j=hi' j)->G k v lo hi W->G k v' lo' hi' W) cs)
  (steps:ev_ P .any ops Q w0 fr x cs G S ph)
  (fin:∀ (v:Nat->Value) (lo hi:Nat->Nat) (W:World),Below w0.heap.size w0 W->S W->(∀ i,ph.contains i=true->w0.heap.size≤lo i∧lo i≤hi i∧hi i≤W.heap.size∧fcW x cs G i v lo hi W)->
   (∀ i j,ph.contains i=true->ph.contains j=true->i≠j->hi i≤lo j∨hi j≤lo i)->wpList P ops Q ((t :: r).filterMap fun i=>ops[i]?) (fr v) W)
  (fin2:∀ (v:Nat->Value) (lo hi:Nat->Nat) (W:World),Below w0.heap.size w0 W->S W->(∀ i,ph.contains i=true->i≠x0->w0.heap.size≤lo i∧lo i≤hi i∧hi i≤W.heap.size∧fcW x cs G i v lo hi W)->
   (∀ i j,ph.contains i=true->ph.contains j=true->i≠x0->j≠x0->i≠j->hi i≤lo j∨hi j≤lo i)->wpList P ops Q ((x0 :: t :: r).filterMap fun i=>ops[i]?) (fr v) W∧wpList P ops Q ((t :: x0 :: r).filterMap fun i=>ops[i]?) (fr v) W)
  (v0:Nat->Value:=fun _=>undef) (ha:a=fr v0:=by rfl) (hmix:P.follows .mixedOrders=true:=by rfl) (hc:Region.chkX .any ops ph x0 t r=true:=by kernel_rfl) (hnd:ph.Nodup:=by decide):(Code.region id ops true).wp P Q a w0:=
 ke_ ph x0 t r fr v0 (fcW x cs G) S hmix hc hnd ha (fun i v lo hi W W' h hb=>by
   unfold fcW at h ⊢;cases e:cs.contains i with
   | true=>rw [e] at h;exact stab.get i e v lo hi W W' h hb
   | false=>rw [e] at h;exact h) (fun i v v' lo lo' hi hi' W hag h=>by
   unfold fcW at h ⊢;cases e:cs.contains i with
   | true=>rw [e] at h;exact loc.get i e v v' lo lo' hi hi' W hag h
   | false=>rw [e] at h;exact (hag i (.inl rfl)).1 ▸ h) hS steps.to fin fin2
theorem stl {D C:List Nat} {k:Nat} {o:Oper} (h:mx_ P ops Q w0 fr x cs G S D C k o:=by
  intro v lo hi W hb hS _
  first
   | (
    go_split_ands;refine ⟨rfl,fun K hK=>?_⟩;simp only [ov,vat,Nat.reduceBEq,cond_true,cond_false];go_wp2_with fail
    refine acx (hK W (Below.refl _ _)) ?_
    first
     | (simp [ov,vat];done)
     | (simp [ov,vat, *];done)
    done)
   | fail):mx_ P ops Q w0 fr x cs G S D C k o:=h
end
def ll_ {β:Type} (x:Option Nat) (J:β->World->Prop):Prop:=
 ∀ (s:β) (W W':World) (row:Option Nat),J s W->W.grownBy W' row->(∀ r,row=some r->x=some r∧∃ o:Obj,W.heap[r]? = some o∧o.isCells=true)->J s W'
def OwnX {β:Type} (B:Nat) (x:Option Nat) (J:β->World->Prop):Prop:=
 ∀ (s:β) (W W':World) (row:Option Nat),J s W->W.grownBy W' row->
  (∀ r,row=some r->(x=some r∧∃ o:Obj,W.heap[r]? = some o∧o.isCells=true)∨(B≤r∧∃ o:Obj,W.heap[r]? = some o∧o.isCells=false))->J s W'
def SeqX {α:Type} (P:Program) (g:Nat) (lb:Array Value) (encs:α->Array Value) (Kp:World->World->Prop) (x:Option Nat) (En Fin Bd:List α->Prop) (w:World):Prop:=
 ∀ (l:Nat) (J Jx:List α->World->Prop) (W:World),Below w.heap.size w W->ll_ x J->ll_ x Jx->(∀ pre W1,J pre W1->Bd pre)->
  (∀ pre y W1,J pre W1->En (pre ++ [y])->YieldAt Fence.wide 0 P l (encs y) W1 fun e W'=>
   (e=.returned (.bool true)∧J (pre ++ [y]) W'∧Kp W1 W')∨(e=.returned (.bool false)∧Jx (pre ++ [y]) W'))->
  J [] W->
  CallsIn Fence.wide 0 P g (#[.func (.yield l) #[] #[]] ++ lb) W fun e W'=>(∃ v,e=.returned v)∧((∃ xs,Fin xs∧J xs W')∨(∃ pre,En pre∧Jx pre W'))
variable {P:Program}
theorem OwnX.putObj {β:Type} {B:Nat} {x:Option Nat} {I:β->World->Prop} (h:OwnX B x I) {s:β} {W:World} {l:Nat} {o:Obj} (o':Obj) (hs:I s W) (hB:B≤l) (hl:W.heap[l]? = some o) (ho:o.isCells=false):I s (W.putObj l o'):=
 h s W _ (some l) hs (grownBy_putObj' W l o') (fun r e=>by cases e;exact .inr ⟨hB,o,hl,ho⟩)
theorem OwnX.alloc {β:Type} {B:Nat} {x:Option Nat} {I:β->World->Prop} (h:OwnX B x I) {s:β} {W:World} (o:Obj) (hs:I s W):I s (W.alloc o):=
 h s W _ none hs (World.grownBy_alloc W o none) (fun r e=>by cases e)
theorem gx_ {α:Type} {g:Operand} {ps:Array Tmp} {assign body:Code} {Q:Exit->Act->World->Prop} {a:Act} {w:World}
  {gf:Nat} {lb:Array Value} (hg:a.eval g=.func (.func gf) #[] lb) (eg:∀ args w,(callFunc gf args).run P w=.ok (.enter gf args) w)
  {encs:α->Array Value} {Kp:World->World->Prop} {x:Option Nat} {En Fin Bd:List α->Prop} (hseq:SeqX P gf lb encs Kp x En Fin Bd w)
  (hKt:∀ {A B C:World},Kp A B->Kp B C->Kp A C) (hKb:∀ (W:World) (l:Nat) (o o':Obj),w.heap.size≤l->W.heap[l]? = some o->o.isCells=false->Kp W (W.putObj l o')) (hps:∀ y,(encs y).size=ps.size)
  (I:List α->World->Prop) (Ix:Code->List α->World->Prop) (hI:OwnX w.heap.size x I) (hIx:∀ c,OwnX w.heap.size x (Ix c)) (hN:∀ pre W,I pre W->Bd pre) (h0:I [] w) (a₁:α->Act)
  (hassign:∀ (l:Nat) (y:α) (W:World) (K:Act->World->Prop),K (a₁ y) W->
   assign.wpIn (Fence.wide.inRound l) 0 P (Exit.then K (fun _ _ _=>False)) { tmps:=(ps.zip (encs y)).foldl (fun t (p,v)=>t.setIfInBounds p v) a.tmps,defers:=[] } W)
  (hbody:∀ (l:Nat) (pre:List α) (y:α) (W:World),I pre W->En (pre ++ [y])->body.wpIn (Fence.wide.inRound l) 0 P (ownPostG w.heap.size Kp I Ix (pre ++ [y]) W) (a₁ y) W)
  (hdone:∀ (D:Nat) (xs:List α) (W:World),w.heap.size≤D->Fin xs->I xs W->W.heap[D]? = some (.deferred (some []))->Q .normal { a with defers:={ target:=.collected D,args:=#[] } :: a.defers } W)
  (hstop:∀ (D:Nat) (c:Code) (pre:List α) (W:World),w.heap.size≤D->En pre->Ix c pre W->W.heap[D]? = some (.deferred (some []))->c.wpIn Fence.wide 0 P Q { a with defers:={ target:=.collected D,args:=#[] } :: a.defers } W) :
  (Code.rangeFunc g ps assign body).wpIn Fence.wide 0 P Q a w:=by
 refine wpIn_rangeFunc ?_;intro fn hfn;obtain ⟨rec,hrec⟩:∃ rec:LoopState->Option Code->Loop,rec=fun st pe=>{ state:=st,pending:=pe,fn,tmps:=a.tmps,params:=ps,assign,body,defers:=w.heap.size }:=⟨_,rfl⟩;obtain ⟨W1,hW1⟩:∃ W1,(w.alloc (.deferred (some []))).alloc (.loop (rec .ready none))=W1:=⟨_,rfl⟩;have hL1:W1.heap[w.heap.size+1]? = some (.loop (rec .ready none)):=by
  rw [<- hW1];have:=World.alloc_heap_new (w.alloc (.deferred (some []))) (.loop (rec .ready none));rwa [World.size_alloc] at this
 have hK1:W1.heap[w.heap.size]? = some (.deferred (some [])):=by
  rw [<- hW1];exact (Below.heap_alloc _ _ _ sq_).trans (World.alloc_heap_new w _)
 have hI1:I [] W1:=by rw [<- hW1];exact hI.alloc _ (hI.alloc _ h0)
 have hb1:Below w.heap.size w W1:=by
  rw [<- hW1];exact (((Below.refl _ w).alloc (Nat.le_refl _) _).alloc sq_ _)
 refine ⟨w.heap.size+1,[{ target:=.collected w.heap.size,args:=#[] }],W1,{ target:=.fn (.func gf) lb,args:=#[.func (.yield (w.heap.size+1)) #[] #[]] },W1,gf,
  #[.func (.yield (w.heap.size+1)) #[] #[]] ++ lb,W1,?_,?_,?_,?_,(fun h=>by cases h),?_⟩
 ·rw [<- hW1,hrec];exact run_enterLoop_outer _ _ _ _ _
 ·simp only [resolve,hg];simp [go_sem]
 ·intro f' _;trivial
 ·simp [invoke,go_sem,eg]
 ·have hkeep:∀ {A B:World} {row:Option Nat} {l:Nat} {o:Obj},A.grownBy B row->(∀ r,row=some r->x=some r∧∃ o:Obj,A.heap[r]? = some o∧o.isCells=true)->A.heap[l]? = some o->o.isCells=false->B.heap[l]? = some o:=
   fun {A B row l o} hg' hr hl ho=>by
    refine (hg'.block l (Array.getElem?_eq_some_iff.1 hl).1 fun e=>?_).trans hl;obtain ⟨_,o2,ho2,hc⟩:=hr l e.symm;rw [hl] at ho2;cases ho2;rw [ho] at hc;cases hc
  refine (hseq (w.heap.size+1)
   (fun pre W=>I pre W∧W.heap[w.heap.size+1]? = some (.loop (rec .ready none))∧W.heap[w.heap.size]? = some (.deferred (some [])))
   (fun pre W=>∃ c,Ix c pre W∧W.heap[w.heap.size+1]? = some (.loop (rec .done (some c)))∧W.heap[w.heap.size]? = some (.deferred (some [])))
   W1 hb1
   (fun s A B row hs hg' hr=>⟨hI s A B row hs.1 hg' (fun r e=>.inl (hr r e)),hkeep hg' hr hs.2.1 rfl,hkeep hg' hr hs.2.2 rfl⟩)
   (fun s A B row hs hg' hr=>by
    obtain ⟨c,hc,hl,hk⟩:=hs;exact ⟨c,hIx c s A B row hc hg' (fun r e=>.inl (hr r e)),hkeep hg' hr hl rfl,hkeep hg' hr hk rfl⟩)
   (fun pre W1 h=>hN pre W1 h.1) ?_ ⟨hI1,hL1,hK1⟩).mono ?_
  ·rintro pre y W ⟨hi,hl,hk⟩ hlen;have hlt:w.heap.size+1<W.heap.size:=(Array.getElem?_eq_some_iff.1 hl).1;have hy:=run_yield (P:=P) (args:=encs y) hl (by rw [hrec];exact hps y);rw [hrec] at hy;refine ⟨fn,_,assign,body,hy,roundIn_of_wpIn hfn (hassign _ y W _ ?_)⟩;clear hy;refine ⟨_,run_beginRound hl (by rw [hrec]),?_⟩;have hl2:(W.putObj (w.heap.size+1) (.loop { rec .ready none with state:=.busy })).heap[w.heap.size+1]? = some (.loop { rec .ready none with state:=.busy }):=World.putObj_heap_same hlt;have hk2:(W.putObj (w.heap.size+1) (.loop { rec .ready none with state:=.busy })).heap[w.heap.size]? = some (.deferred (some [])):=(World.putObj_heap_other oq_).trans hk;have hw2:Kp W (W.putObj (w.heap.size+1) (.loop { rec .ready none with state:=.busy })):=hKb _ _ _ _ oq_ hl rfl;refine wpIn_mono (hbody _ pre y _ (hI.putObj _ hi oq_ hl rfl) hlen) ?_;have fin:∀ (jump:Option Code) (W3:World),KeepsFrom w.heap.size (W.putObj (w.heap.size+1) (.loop { rec .ready none with state:=.busy })) W3->
     (Instr.endRound (w.heap.size+1) jump).run P W3=.ok (.bool jump.isNone) (W3.putObj (w.heap.size+1) (.loop (rec (if jump.isNone then .ready else .done) jump)))∧
     W3.heap[w.heap.size+1]? = some (.loop { rec .ready none with state:=.busy })∧
     (W3.putObj (w.heap.size+1) (.loop (rec (if jump.isNone then .ready else .done) jump))).heap[w.heap.size+1]? = some (.loop (rec (if jump.isNone then .ready else .done) jump))∧
     (W3.putObj (w.heap.size+1) (.loop (rec (if jump.isNone then .ready else .done) jump))).heap[w.heap.size]? = some (.deferred (some [])):=fun jump W3 hk3=>by
    have hl3:=hk3.same _ _ oq_ hl2 rfl;have:=run_endRound (P:=P) jump hl3;rw [hrec] at this ⊢;exact ⟨this,by rw [hrec] at hl3;exact hl3,World.putObj_heap_same (Array.getElem?_eq_some_iff.1 hl3).1,(World.putObj_heap_other oq_).trans (hk3.same _ _ (Nat.le_refl _) hk2 rfl)⟩
   rintro e a3 W3 hp;cases e with
   | normal=>
    obtain ⟨hk3,hkp3,hi3⟩:=hp;obtain ⟨hr,hl3,hl4,hk4⟩:=fin none W3 hk3;exact ⟨_,_,hr,.inl ⟨rfl,⟨hI.putObj _ hi3 oq_ hl3 rfl,hl4,hk4⟩,hKt (hKt hw2 hkp3) (hKb _ _ _ _ oq_ hl3 rfl)⟩⟩
   | ret=>
    obtain ⟨hk3,hi3⟩:=hp;obtain ⟨hr,hl3,hl4,hk4⟩:=fin (some .ret) W3 hk3;exact ⟨_,_,hr,.inr ⟨rfl,.ret,(hIx _).putObj _ hi3 oq_ hl3 rfl,hl4,hk4⟩⟩
   | exit id=>
    obtain ⟨hk3,hi3⟩:=hp;obtain ⟨hr,hl3,hl4,hk4⟩:=fin (some (.exit id)) W3 hk3;exact ⟨_,_,hr,.inr ⟨rfl,.exit id,(hIx _).putObj _ hi3 oq_ hl3 rfl,hl4,hk4⟩⟩
   | goto t=>
    obtain ⟨hk3,hi3⟩:=hp;obtain ⟨hr,hl3,hl4,hk4⟩:=fin (some (.goto t)) W3 hk3;exact ⟨_,_,hr,.inr ⟨rfl,.goto t,(hIx _).putObj _ hi3 oq_ hl3 rfl,hl4,hk4⟩⟩
   | panic ch=>exact hp.elim
   | outgrown=>exact hp.elim
  ·rintro e W2 ⟨⟨v,rfl⟩,(⟨xs,hS,hi,hl,hk⟩|⟨pre,hSp,c,hi,hl,hk⟩)⟩
   ·exact ⟨none,_,by have:=run_endLoop (P:=P) hl (by rw [hrec];simp);rw [hrec] at this;exact this,hdone _ xs _ (Nat.le_refl _) hS (hI.putObj _ hi oq_ hl rfl) ((World.putObj_heap_other oq_).trans hk)⟩
   ·exact ⟨some c,_,by have:=run_endLoop (P:=P) hl (by rw [hrec];simp);rw [hrec] at this;exact this,hstop _ c pre _ (Nat.le_refl _) hSp ((hIx c).putObj _ hi oq_ hl rfl) ((World.putObj_heap_other oq_).trans hk)⟩
def b5_ (B:Nat) (ds:List Deferred) (w:World):Prop:=
 ∃ Ds:List Nat,ds=Ds.map (fun D=>{ target:=.collected D,args:=#[] })∧Ds.Nodup∧∀ D∈Ds,B≤D∧w.heap[D]? = some (.deferred (some []))
theorem b5_.nil (B:Nat) (w:World):b5_ B [] w:=⟨[],rfl,.nil,sq_⟩
theorem b5_.cons {B D:Nat} {ds:List Deferred} {w w':World} (h:b5_ B ds w) (hB:B≤D) (hk:KeepsFrom B w w') (hlt:w.heap.size≤D) (hD:w'.heap[D]? = some (.deferred (some []))) :
  b5_ B ({ target:=.collected D,args:=#[] } :: ds) w':=by
 obtain ⟨Ds,rfl,hn,hall⟩:=h;refine ⟨D :: Ds,rfl,List.nodup_cons.2 ⟨fun hm=>?_,hn⟩,fun D' hD'=>?_⟩
 ·have:=(Array.getElem?_eq_some_iff.1 (hall D hm).2).1;omega
 ·rcases List.mem_cons.1 hD' with rfl|hm
  ·exact ⟨hB,hD⟩
  ·exact ⟨(hall D' hm).1,hk.same _ _ (hall D' hm).1 (hall D' hm).2 rfl⟩
theorem b5_.keep {B:Nat} {ds:List Deferred} {w w':World} (h:b5_ B ds w) (hk:KeepsFrom B w w'):b5_ B ds w':=by
 obtain ⟨Ds,rfl,hn,hall⟩:=h;exact ⟨Ds,rfl,hn,fun D hD=>⟨(hall D hD).1,hk.same _ _ (hall D hD).1 (hall D hD).2 rfl⟩⟩
structure qn_ (B:Nat) (w w':World):Prop where
 below:Below B w w'
 cells:∀ (k:Nat) (o:Obj),w.heap[k]? = some o->o.isCells=true->w'.heap[k]? = some o
theorem ce_ {B n:Nat} {fn:Func} {tmps:Array Value} {R:Ending->World->Prop}:∀ (ds:List Deferred) (w:World),b5_ B ds w->
  (∀ w',qn_ B w w'->∃ v,(results fn tmps).run P w'=.ok v w'∧R (.returned v) w')->LeavesInM Fence.wide n P fn tmps R ds .returning w:=by
 intro ds
 induction ds with
 | nil=>
  intro w _ h;exact h w ⟨Below.refl _ _,fun _ _ h _=>h⟩
 | cons d ds ih=>
  intro w hM h;obtain ⟨Ds,hds,hn,hall⟩:=hM;cases Ds with
  | nil=>cases hds
  | cons D Ds=>
   simp only [List.map_cons,List.cons.injEq] at hds;obtain ⟨rfl,rfl⟩:=hds;have hD:=hall D sq_;have hnd:=List.nodup_cons.1 hn;refine ⟨sq_,.inl ⟨_,_,rfl,run_takeDeferred hD.2,?_⟩⟩;have hlt:=(Array.getElem?_eq_some_iff.1 hD.2).1;refine ih _ ⟨Ds,rfl,hnd.2,fun D' hD'=>⟨(hall D' (by simp [hD'])).1,?_⟩⟩ fun w' hs=>h w' ?_
   ·have hne:D'≠D:=fun e=>hnd.1 (e ▸ hD');exact (World.putObj_heap_other oq_).trans (hall D' (by simp [hD'])).2
   ·refine ⟨((Below.refl B w).grown (grownBy_putObj' w D (.deferred none)) (by have:=hD.1;omega) (fun k e=>by cases e;exact hD.1)).trans hs.below,fun k o hk ho=>?_⟩;refine hs.cells k o ?_ ho;have hne:k≠D:=fun e=>by subst e;rw [hD.2] at hk;cases hk;cases ho
    exact (World.putObj_heap_other oq_).trans hk
section
variable {b:Frame} {a:Act} {k:List Item} {cs:List Frame} {w:World} {Q:Exit->Act->World->Prop} {F:Fence} {n:Nat}
theorem df_ {c:Code}:step P (lone (b.atR a (.code (.scope c) :: k)) cs w)=.next (lone (b.atR a (.code c :: .inScope c :: k)) cs w):=
 step_lone_go (by simp [stepG,stepG.exec,Frame.atR])
theorem mo_ {c:Code}:step P (lone (b.atR a (.inScope c :: k)) cs w)=.next (lone (b.atR a k) cs w):=
 step_lone_go (by simp [stepG,stepG.exec,Frame.atR])
theorem i6_ {c:Code} (h:c.wpIn F n P (Exit.noGoto Q) a w):(Code.scope c).wpIn F n P Q a w:=by
 intro b k cs hro hb hr;have h0:(lone (b.atR a (.code (.scope c) :: k)) cs w).fenced P F:=fenced_calm hb hr rfl;obtain ⟨e,a₁,w₁,hq,harr⟩:=h b (.inScope c :: k) cs hro hb hr;cases e with
 | normal=>exact ⟨.normal,a₁,w₁,hq,.head h0 df_ (StepsIn.trans harr (.one (fenced_calm hb hr rfl) mo_))⟩
 | exit id=>
  have hx:exitTo id (.inScope c :: k)=exitTo id k:=by simp [exitTo]
  exact ⟨.exit id,a₁,w₁,hq,fun k' hk=>.head h0 df_ (harr.1 k' (by rw [hx];exact hk)),
   fun hr' hk=>let ⟨k₁,h1,h2⟩:=harr.2 hr' (by rw [hx];exact hk);⟨k₁,h1,.head h0 df_ h2⟩⟩
 | goto l=>exact hq.elim
 | ret=>exact ⟨_,a₁,w₁,hq,.of_steps (.one h0 df_) harr⟩
 | panic ch=>exact ⟨_,a₁,w₁,hq,.of_steps (.one h0 df_) harr⟩
 | outgrown=>exact ⟨_,a₁,w₁,hq,.of_steps (.one h0 df_) harr⟩
end
end Go
namespace Go.Proofs.YthjnojbeimchdaaGreat
open Go.RowKit Kal
theorem sr_ (lo y:Int) (w:World) (h0:0≤lo) (h1:lo≤18446744073709551615) (hy:1≤y) (hy1:y≤18446744073709551615) :
  Calls Tryz.prog 206 #[.int .u64 0,.int .u64 lo,.int .u64 y] w fun e w'=>e=.returned (.int .u64 (lo % y))∧∃ n,w'=w.drewN n:=by
 have hypos:0<y:=oq_
 go_enter Tryz.func206,Tryz.ntmps206
 go_wp2_with (go_at_call 177;refine (jm_ _ _ _ h0 h1 hy hy1).mono ?_;rintro e w' ⟨rfl,nq,rfl⟩)
 go_ret;exact ⟨rfl,_,rfl⟩
theorem m2_ {a b:Int} (a0:0≤a) (a1:a≤4294967295) (b0:0≤b) (b1:b≤4294967295):0≤a*b∧a*b≤18446744065119617025:=by
 have h1:=Int.mul_nonneg a0 b0;have h2:=Int.mul_le_mul a1 b1 b0 oq_;omega
theorem f9_ (a b:Int) (w:World) (a0:0≤a) (a1:a≤4294967295) (b0:0≤b) (b1:b≤4294967295) :
  Calls Tryz.prog 175 #[.int .u64 a,.int .u64 b] w fun e w'=>e=.returned (.tuple #[.int .u64 0,.int .u64 (a*b)])∧w=w':=by
 obtain ⟨p0,p1⟩:=m2_ a0 a1 b0 b1;obtain ⟨x,rfl⟩:=Int.eq_ofNat_of_zero_le a0;obtain ⟨y,rfl⟩:=Int.eq_ofNat_of_zero_le b0;have e:((x*y:Nat):Int)=(x:Int)*y:=by push_cast;rfl
 rw [<- e] at p0 p1 ⊢;refine (Tryz.bits_Mul64 x y oq_ oq_ w).mono ?_;rintro e w' ⟨rfl,rfl⟩;rw [Nat.div_eq_of_lt oq_,Nat.mod_eq_of_lt oq_];exact ⟨rfl,rfl⟩
theorem m5_ (a b m:Int) (w:World) (a0:0≤a) (a1:a≤4294967295) (b0:0≤b) (b1:b≤4294967295) (hm:1≤m) (hm1:m≤4611686018427387904) :
  Calls Tryz.prog 199 #[.int .i64 a,.int .i64 b,.int .i64 m] w fun e w'=>e=.returned (.int .i64 ((a*b) % m))∧∃ n,w'=w.drewN n:=by
 obtain ⟨p0,p1⟩:=m2_ a0 a1 b0 b1;have r0:=Int.emod_nonneg (a*b) (show m≠0 by omega);have r1:=Int.emod_lt_of_pos (a*b) (show 0<m by omega)
 go_enter Tryz.func199,Tryz.ntmps199
 go_wp2_with (first|(go_at_call 175;refine (f9_ _ _ _ a0 a1 b0 b1).mono ?_;rintro e w' ⟨rfl,rfl⟩)|(go_at_call 206;refine (sr_ _ _ _ p0 oq_ hm oq_).mono ?_;rintro e w' ⟨rfl,nq,rfl⟩))
 go_ret;exact ⟨rfl,_,rfl⟩
def lcmV (a b:Int):Value:=if lcmI a b≤1099511627776 then .tuple #[.int .i64 (lcmI a b),.int .i64 0] else .tuple #[.int .i64 0,.int .i64 2]
theorem q1_ (a b:Int) (w:World) (ha:1≤a) (ha1:a≤9223372036854775807) (hb:1≤b) (hb1:b≤9223372036854775807) :
  Calls Tryz.prog 29 #[.int .i64 a,.int .i64 b] w fun e w'=>e=.returned (lcmV a b)∧∃ n,w'=w.drewN n:=by
 have hg:=bn_ (b:=b) ha;have hq0:0≤a / (Int.gcd a b:Nat):=Int.ediv_nonneg oq_ oq_;have hq1:a / (Int.gcd a b:Nat)≤a:=Int.ediv_le_self _ oq_;have hlt:1099511627776 / b<a / (Int.gcd a b:Nat)↔1099511627776<lcmI a b:=Int.ediv_lt_iff_lt_mul oq_;have hd0:0≤1099511627776 / b:=Int.ediv_nonneg oq_ oq_;have hpos:=c7_ ha hb;have HL:=hq_ (show lcmI a b=a / (Int.gcd a b:Nat)*b from rfl)
 by_cases hbig:lcmI a b≤1099511627776
 ·have hle:a / (Int.gcd a b:Nat)≤1099511627776 / b:=oq_;have HV:=hq_ (show lcmV a b=_ from if_pos hbig);have hp:0≤a / (Int.gcd a b:Nat)*b∧a / (Int.gcd a b:Nat)*b≤1099511627776:=by rw [<- HL.out];omega
  obtain ⟨hp0,hp1⟩:=hp;clear hlt;generalize hgd:((Int.gcd a b:Nat):Int)=g at *;have HG:=hq_ hgd;clear hgd
  go_enter Tryz.func29,Tryz.ntmps29
  go_wp2_with (go_at_call 77;refine (g6_ _ _ _ ha ha1 hb hb1).mono ?_;rintro e w' ⟨he,nq,rfl⟩;rw [HG.out] at he;subst he)
  go_ret2;exact ⟨by rw [HV.out,HL.out];rfl,_,rfl⟩
 ·have hle:1099511627776 / b<a / (Int.gcd a b:Nat):=oq_;have HV:=hq_ (show lcmV a b=_ from if_neg hbig);clear hlt;generalize hgd:((Int.gcd a b:Nat):Int)=g at *;have HG:=hq_ hgd;clear hgd
  go_enter Tryz.func29,Tryz.ntmps29
  go_wp2_with (go_at_call 77;refine (g6_ _ _ _ ha ha1 hb hb1).mono ?_;rintro e w' ⟨he,nq,rfl⟩;rw [HG.out] at he;subst he)
  go_ret2;exact ⟨by rw [HV.out];rfl,_,rfl⟩
theorem kg_ {x g B:Int} (hg:1≤g) (hB:0≤B) (h1:-B≤x) (h2:x≤B):-B≤x / g∧x / g≤B:=by
 have hm:B*1≤B*g:=Int.mul_le_mul_of_nonneg_left hg hB;constructor
 ·rw [Int.le_ediv_iff_mul_le oq_,Int.neg_mul];omega
 ·exact Int.lt_add_one_iff.1 ((Int.ediv_lt_iff_lt_mul oq_).2 (by rw [Int.add_mul];omega))
theorem u7_ {a g:Int} (hd:a % g=0):a.tdiv g=a / g:=Int.tdiv_eq_ediv_of_dvd (Int.dvd_of_emod_eq_zero hd)
theorem v0_ {a g:Int} (hd:a % g=0):a.tmod g=0:=Int.tmod_eq_zero_of_dvd (Int.dvd_of_emod_eq_zero hd)
theorem tf_ (a m b n:Int) (w:World) (ha:InI a) (hb:InI b) (hm:1≤m) (hm1:m≤4294967295) (hn:1≤n) (hn1:n≤4294967295) (hL:lcmI m n≤1099511627776)
  (hd:(b % n-a % m) % (Int.gcd m n:Nat)=0) :
  Calls Tryz.prog 178 #[.int .i64 a,.int .i64 m,.int .i64 b,.int .i64 n] w fun e w'=>e=.returned (.tuple #[.int .i64 (bg_ a m b n),.int .i64 (lcmI m n),.int .i64 0])∧∃ n,w'=w.drewN n:=by
 have hg:=bn_ (b:=n) hm;have hg2:=cs_ (a:=m) hn;have hcop:=jl_ hm hn;have r0:=Int.emod_nonneg a (show m≠0 by omega);have r1:=Int.emod_lt_of_pos a (show 0<m by omega);have s0:=Int.emod_nonneg b (show n≠0 by omega);have s1:=Int.emod_lt_of_pos b (show 0<n by omega);have HV:=hq_ (show lcmV m n=_ from if_pos hL);have hpos:=c7_ hm hn;have hsol:=fun i hi=>ob_ hm hn rfl rfl rfl hd (i:=i) hi rfl;obtain ⟨g,hgd⟩:∃ g,g=((Int.gcd m n:Nat):Int):=⟨_,rfl⟩;rw [<- hgd] at hg hg2 hcop hd hsol;have HG:=hq_ hgd.symm;clear hgd;have q1:1≤n / g:=(Int.le_ediv_iff_mul_le oq_).2 oq_;have q2:n / g≤n:=Int.ediv_le_self _ oq_;have p1:0≤m / g:=Int.ediv_nonneg oq_ oq_;have p2:m / g≤m:=Int.ediv_le_self _ oq_;have HC:Hid (Int.gcd (m / g % (n / g)) (n / g)=1):=by rw [ha_ p1 q1];exact hq_ hcop
 have u0:=Int.emod_nonneg (m / g) (show n / g≠0 by omega);have u1:=Int.emod_lt_of_pos (m / g) (show 0<n / g by omega);have v0:=Int.emod_nonneg ((b % n-a % m) / g) (show n / g≠0 by omega);have v1:=Int.emod_lt_of_pos ((b % n-a % m) / g) (show 0<n / g by omega);have htd:=u7_ hd;obtain ⟨e0,e1⟩:=kg_ (x:=b % n-a % m) (g:=g) (B:=4294967295) oq_ oq_ oq_ oq_;have htm:((b % n-a % m).tmod g != 0)=false:=by rw [v0_ hd];rfl
 have hinv:f7_ (m / g % (n / g)) (n / g) (invI (m / g % (n / g)) (n / g)):=by
  have:=Classical.epsilon_spec (p:=fun v=>f7_ (m / g % (n / g)) (n / g) v) (l3_ u0 u1 HC.out);exact this
 have hS:=hsol _ hinv;have HS:=hq_ (fi_ hm hn hS);have z0:=hS.1;have z1:=hS.2.1;obtain ⟨i0,i1,_⟩:=hinv;have k0:=Int.emod_nonneg ((b % n-a % m) / g % (n / g)*invI (m / g % (n / g)) (n / g)) (show n / g≠0 by omega);have k1:=Int.emod_lt_of_pos ((b % n-a % m) / g % (n / g)*invI (m / g % (n / g)) (n / g)) (show 0<n / g by omega);have mk0:=Int.mul_nonneg (show 0≤m by omega) k0;clear hS hsol hcop hd;unfold InI at ha hb
 go_enter Tryz.func178,Tryz.ntmps178
 go_wp2_with (first|(go_at_call 77;refine (g6_ _ _ _ hm oq_ hn oq_).mono ?_;rintro e w' ⟨he,nq,rfl⟩;rw [HG.out] at he;subst he)|(go_at_call 198;refine (iz_ _ _ _ oq_ oq_).mono ?_;rintro e w' ⟨rfl,rfl⟩)|(go_at_call 29;refine (q1_ _ _ _ hm oq_ hn oq_).mono ?_;rintro e w' ⟨he,nq2,rfl⟩;rw [HV.out] at he;subst he))
 go_quiet ((first|(go_at_call 198;(first|exact hp_ (iz_ _ _ _ oq_ oq_)|exact ez_ (iz_ _ _ _ oq_ oq_)))|(go_at_call 200;(first|exact Calls.quiet_of (jd_ _ _ _ oq_ oq_ oq_ HC.out)|exact d9_ (jd_ _ _ _ oq_ oq_ oq_ HC.out)))|(go_at_call 199;(first|exact Calls.quiet_of (m5_ _ _ _ _ oq_ oq_ oq_ oq_ oq_ oq_)|exact d9_ (m5_ _ _ _ _ oq_ oq_ oq_ oq_ oq_ oq_)))))
 go_wp2_with fail
 go_ret3
 refine ⟨?_,_,rfl⟩;rw [HS.out];simp
structure OwnI (w:World) (base:Nat) (v:Value) (l:List Int):Prop where
 row:w.ownsRow base 3 1 v l.length (l.map (Value.int .i64))
 rng:∀ x∈l,InI x
 len:l.length≤17592186044416
theorem OwnI.nil (w:World) (base:Nat):OwnI w base (.slice none 0 0) []:=⟨World.ownsRow_nil w base _ 1,sq_,sq_⟩
theorem OwnI.ints {w:World} {base:Nat} {v:Value} {l:List Int} (h:OwnI w base v l):Ints w v l:=by
 obtain ⟨⟨h1,h2⟩,h3,h4⟩:=h;refine ⟨?_,h4,h3⟩;rcases h2 with ⟨rfl,h0⟩|⟨g,cap,cur,rfl,hg,hh,hn,hc,hs,ht⟩
 ·have:l=[]:=List.eq_nil_of_length_eq_zero h0;subst this;exact ⟨none,0,rfl,sq_,oq_,.inl rfl⟩
 ·unfold maxLen at hc;refine ⟨_,cap,rfl,hn,oq_,.inr ⟨g,0,rfl,fun i hi=>?_⟩⟩;have e:(cur.toList.take (l.length*1))[i]? = (l.map (Value.int .i64))[i]?:=by rw [ht]
  rw [List.getElem?_take_of_lt oq_] at e;simp only [World.cell?,hh,Nat.zero_add,Option.isSome_none,Bool.false_eq_true,if_false];rw [<- Array.getElem?_toList,e];simp [hi]
theorem OwnI.form {w:World} {base:Nat} {v:Value} {l:List Int} (h:OwnI w base v l):∃ a c,v=.slice a l.length c:=by
 obtain ⟨a,c,hv,_⟩:=h.ints.is;exact ⟨a,c,hv⟩
theorem OwnI.kept {w w':World} {base:Nat} {v:Value} {l:List Int} {row:Option Nat} (h:OwnI w base v l) (hg:w.grownBy w' row) (hne:v.ownBlock=none∨v.ownBlock≠row):OwnI w' base v l:=
 ⟨h.row.kept hg hne,h.rng,h.len⟩
theorem OwnI.lt {w:World} {base:Nat} {v:Value} {l:List Int} (h:OwnI w base v l):∀ k,v.ownBlock=some k->base≤k∧k<w.heap.size:=h.row.lt
theorem OwnI.ext {w w':World} {base:Nat} {v:Value} {l:List Int} (h:OwnI w base v l) (hb:Below w.heap.size w w'):OwnI w' base v l:=by
 obtain ⟨⟨h1,h2⟩,h3,h4⟩:=h;refine ⟨⟨h1,?_⟩,h3,h4⟩;rcases h2 with h2|⟨g,cap,cur,hv,hg,hh,hr⟩
 ·exact .inl h2
 ·exact .inr ⟨g,cap,cur,hv,hg,by rw [hb.block g (Array.getElem?_eq_some_iff.1 hh).1];exact hh,hr⟩
theorem OwnI.mono {w:World} {base base':Nat} {v:Value} {l:List Int} (h:OwnI w base v l) (hb:base'≤base):OwnI w base' v l:=by
 obtain ⟨⟨h1,h2⟩,h3,h4⟩:=h;refine ⟨⟨h1,?_⟩,h3,h4⟩;rcases h2 with h2|⟨g,cap,cur,hv,hg,hr⟩
 ·exact .inl h2
 ·exact .inr ⟨g,cap,cur,hv,oq_,hr⟩
structure a7_ (B:Nat) (w w':World):Prop where
 size:w.heap.size≤w'.heap.size
 block:∀ k,B≤k->k<w.heap.size->w'.heap[k]? = w.heap[k]?
theorem a7_.refl (B:Nat) (w:World):a7_ B w w:=⟨Nat.le_refl _,fun _ _ _=>rfl⟩
theorem a7_.alloc {B:Nat} {w W:World} (h:a7_ B w W) (o:Obj):a7_ B w (W.alloc o):=
 ⟨by have:=h.size;simp;omega,fun k h1 h2=>(Below.heap_alloc W o k (by have:=h.size;omega)).trans (h.block k h1 h2)⟩
theorem a7_.drew {B:Nat} {w W:World} (h:a7_ B w W):a7_ B w W.drew:=⟨h.size,h.block⟩
theorem a7_.setCell {B:Nat} {w W:World} (h:a7_ B w W) {a:Addr} (ha:a.block<B) (v:Value):a7_ B w (W.setCell a v):=
 ⟨by have:=h.size;simp [World.setCell];omega,fun k h1 h2=>(Below.heap_setCell W a v k oq_).trans (h.block k h1 h2)⟩
theorem OwnI.above {w w':World} {base:Nat} {v:Value} {l:List Int} (h:OwnI w base v l) (hb:a7_ base w w'):OwnI w' base v l:=by
 obtain ⟨⟨h1,h2⟩,h3,h4⟩:=h;refine ⟨⟨h1,?_⟩,h3,h4⟩;rcases h2 with h2|⟨g,cap,cur,hv,hg,hh,hr⟩
 ·exact .inl h2
 ·exact .inr ⟨g,cap,cur,hv,hg,by rw [hb.block g hg (Array.getElem?_eq_some_iff.1 hh).1];exact hh,hr⟩
def v9_ (w:World) (l:List Int) (e:Ending) (w':World):Prop:=∃ v',e=.returned v'∧OwnI w' w.heap.size v' l∧Below w.heap.size w w'
theorem gn_ (v:Value) (l:List Int) (w:World) (hv:Ints w v l):Calls Tryz.prog 129 #[v] w (v9_ w l):=by
 obtain ⟨⟨a,c,rfl,h1,h2,h3⟩,h4,h5⟩:=hv;rcases h3 with h3|⟨b,o,rfl,hcell⟩
 ·subst h3;cases a with
  | none=>exact (Tryz.slices_Clone_int_nil 0 c w).mono fun e w' ⟨he,hw⟩=>⟨_,he,by rw [hw];exact OwnI.nil w _,by rw [hw];exact Below.refl _ _⟩
  | some a=>exact (Tryz.slices_Clone_int_zero a c w).mono fun e w' ⟨v',he,ho,_,hb⟩=>⟨v',he,⟨ho,sq_,sq_⟩,hb⟩
 ·refine (Tryz.slices_Clone_int b o l.length c l w (Nat.le_refl _) oq_ hcell).mono fun e w' ⟨v',he,ho,_,hb⟩=>⟨v',he,⟨?_,h5,h4⟩,hb⟩;rwa [List.take_length] at ho
def a0_ (l:List Int):List Int:=l.mergeSort (fun x y=>decide (x≤y))
theorem hf_ (l:List Int):(a0_ l).Perm l:=List.mergeSort_perm l _
theorem dj_ (l:List Int) (x:Int):x∈a0_ l↔x∈l:=(hf_ l).mem_iff
theorem dk_ (l:List Int):(a0_ l).length=l.length:=(hf_ l).length_eq
theorem o6_ (l:List Int):(a0_ l).Pairwise (·≤·):=by
 have:=List.pairwise_mergeSort (le:=fun x y:Int=>decide (x≤y)) (fun a b c h1 h2=>by simp at *;omega) (fun a b=>by simp;omega) l;exact this.imp fun h=>by simpa using h
theorem ga_ {l:List Int} (h:l.Nodup):(a0_ l).Pairwise (· < ·):=by
 have h1:=o6_ l;have h2:(a0_ l).Nodup:=(hf_ l).symm.nodup h;exact (h1.and h2).imp fun ⟨a,b⟩=>oq_
theorem jt_ (v:Value) (l:List Int) (base:Nat) (w:World) (hv:OwnI w base v l) :
  Calls Tryz.prog 132 #[v] w fun e w'=>e=.returned (.tuple #[])∧OwnI w' base v (a0_ l)∧w.grownBy w' v.ownBlock:=by
 have hv0:=hv;obtain ⟨⟨h1,h2⟩,h3,h4⟩:=hv;rcases h2 with ⟨rfl,h0⟩|⟨g,cap,cur,rfl,hg,hh,hn,hc,hs,ht⟩
 ·have hl:l=[]:=List.eq_nil_of_length_eq_zero h0;refine (Tryz.slices_Sort_int_none none 0 w).mono fun e w' ⟨he,hw⟩=>⟨he,?_,?_⟩
  ·subst hl;rw [hw,show a0_ []=[] from List.eq_nil_of_length_eq_zero (by simp [dk_])];exact OwnI.nil w base
  ·rw [hw];exact ⟨rfl,rfl,rfl,Nat.le_refl _,fun _ _ _=>rfl⟩
 ·rw [Nat.mul_one] at ht;refine (Tryz.slices_Sort_int g 0 cap l w (holds_of_blockI hh ht) (Array.getElem?_eq_some_iff.1 hh).1 oq_).mono fun e w' ⟨he,n,os,hw⟩=>⟨he,?_,?_⟩
  ·have:=ownsRow_sortedI (n:=n) (os:=os) (ts:=a0_ l) (dk_ l) hg hh hn hc hs;rw [hw];refine ⟨?_,fun x hx=>h3 x ((dj_ l x).1 hx),by rw [dk_];exact h4⟩;rw [dk_];exact this
  ·rw [hw];exact grownBy_sortedI _
theorem dt_:∃ i,Tryz.prog.info? 3=some i∧i.zero=some (.int .i64 0)∧i.size=1∧i.bytes=8:=by
 have h:(Tryz.prog.info? 3).map (fun i=>(i.zero,i.size,i.bytes))=some (some (.int .i64 0),1,8):=by kernel_rfl
 obtain ⟨i,hi,h1,h2,h3⟩:=info_parts h;exact ⟨i,hi,h1,h2,h3⟩
theorem OwnI.below_grown {W w1:World} {base:Nat} {v:Value} {l:List Int} (h:OwnI W base v l) {W0:World} (hW:W0.heap.size≤W.heap.size∨True) (hbase:base≤W.heap.size) (hg:W.grownBy w1 v.ownBlock):Below base W w1:=
 (Below.refl base W).grown hg hbase (fun k e=>(h.lt k e).1)
theorem OwnI.appended {w':World} {base g cap:Nat} {l:List Int} {y:Int} (hl:∀ x∈l,InI x) (hy:InI y) (hlen:l.length+1≤17592186044416)
  (h:w'.ownsRow base 3 1 (.slice (some ⟨g,0,none⟩) (l.length+1) cap) (l.length+1) (l.map (Value.int .i64) ++ [.int .i64 y])):OwnI w' base (.slice (some ⟨g,0,none⟩) (l.length+1) cap) (l ++ [y]):=by
 refine ⟨?_,fun x hx=>?_,by simpa using hlen⟩
 ·rw [List.length_append,List.map_append];exact h
 ·rcases List.mem_append.1 hx with hx|hx
  ·exact hl x hx
  ·obtain rfl:x=y:=by simpa using hx
   exact hy
theorem pg_ (w:World) {ops:Array Oper} {o:Oper} {a:Act} {K:Act->World->Prop} {Q:Exit->Act->World->Prop} {E:Prop} (hgd:o.guard=none) (s x:Operand)
  (ho:o.op=.call { callee:=.builtin .append,args:=#[s,x],argTypes:=#[37,37] }) (base:Nat) (v:Value) (l:List Int) (y:Int) (hs:a.eval s=v) (hown:OwnI w base v l)
  (blk c:Nat) (hx:a.eval x=.slice (some ⟨blk,0,none⟩) 1 c) (hnew:w.cell? ⟨blk,0,none⟩=some (.int .i64 y)) (hy:InI y) (hlen:l.length+1≤17592186044416) (hbase:base≤w.heap.size)
  (h:∀ g cap w',OwnI w' base (.slice (some ⟨g,0,none⟩) (l.length+1) cap) (l ++ [y])->w.grownBy w' v.ownBlock->Below base w w'->K (a.put o.dst (.slice (some ⟨g,0,none⟩) (l.length+1) cap)) w') :
  if Region.wanted o (yielded ops a.tmps)=true then Oper.wp Tryz.prog o a w K Q else E:=by
 obtain ⟨i,hi,h1,h2,h3⟩:=dt_;refine step_append_lies w hgd s x 37 ho base 3 i (.int .i64 0) 1 8 Tryz.underlying37 hi h1 h2 h3 rfl oq_ v l.length (l.map (Value.int .i64)) hs hown.row ⟨blk,0,none⟩ 1 c [.int .i64 y] hx rfl ?_ (by simp [Value.oneCell']) oq_ (by unfold maxLen;omega) oq_ hbase _ rfl ?_
 ·intro j u hu
  match j,hu with
  | 0,hu=>simp at hu;subst hu;exact hnew
 ·intro g cap w' hown' hgrow _ _;exact h g cap w' (OwnI.appended hown.rng hy hlen hown') hgrow (hown.below_grown (W0:=w) (.inr trivial) hbase hgrow)
theorem aj_ {w:World} {ops:Array Oper} {rest:List Oper} {o:Oper} {a:Act} {Q:Exit->Act->World->Prop} (hgd:o.guard=none) (s x:Operand)
  (ho:o.op=.call { callee:=.builtin .append,args:=#[s,x],argTypes:=#[37,37] }) (base:Nat) (v:Value) (l:List Int) (y:Int) (hs:a.eval s=v) (hown:OwnI w base v l)
  (blk c:Nat) (hx:a.eval x=.slice (some ⟨blk,0,none⟩) 1 c) (hnew:w.cell? ⟨blk,0,none⟩=some (.int .i64 y)) (hy:InI y) (hlen:l.length+1≤17592186044416) (hbase:base≤w.heap.size)
  (h:∀ g cap w',OwnI w' base (.slice (some ⟨g,0,none⟩) (l.length+1) cap) (l ++ [y])->w.grownBy w' v.ownBlock->Below base w w'->wpList Tryz.prog ops Q rest (a.put o.dst (.slice (some ⟨g,0,none⟩) (l.length+1) cap)) w') :
  wpList Tryz.prog ops Q (o :: rest) a w:=by
 obtain ⟨i,hi,h1,h2,h3⟩:=dt_;refine wpList_append_lies w hgd s x 37 ho base 3 i (.int .i64 0) 1 8 Tryz.underlying37 hi h1 h2 h3 rfl oq_ v l.length (l.map (Value.int .i64)) hs hown.row ⟨blk,0,none⟩ 1 c [.int .i64 y] hx rfl ?_ (by simp [Value.oneCell']) oq_ (by unfold maxLen;omega) oq_ hbase _ rfl ?_
 ·intro j u hu
  match j,hu with
  | 0,hu=>simp at hu;subst hu;exact hnew
 ·intro g cap w' hown' hgrow _ _;exact h g cap w' (OwnI.appended hown.rng hy hlen hown') hgrow (hown.below_grown (W0:=w) (.inr trivial) hbase hgrow)
theorem tv_ {i k:Nat}:((i:Int)-(k:Int)).toNat=i-k:=oq_
open Classical in
noncomputable def e1_ (C:List Int) (d:Int) (k:Nat):Bool:=decide (db_ C d k)
theorem cw_ {C:List Int} {d:Int} {k:Nat}:e1_ C d k=true↔db_ C d k:=by unfold e1_;simp
theorem c2_ {C:List Int} {i:Nat} (h:i<C.length):C.getD i 0=C[i]:=by simp [h]
theorem uf_ (cv:Value) (C:List Int) (T:Int) (parts:Int) (d:Int) (k:Nat) (pb nb cb:Addr) (w:World)
  (hT0:1≤T) (hT:T≤1125899906842624) (hC:Rise 0 T C) (hcv:Ints w cv C) (hp:w.cell? pb=some (.int .i64 T)) (hn:w.cell? nb=some (.int .i64 C.length)) (hc:w.cell? cb=some cv)
  (hparts:1≤parts) (hd:T / parts=d) (hk:(C.length:Int) / parts=k) (hk1:1≤k) (hkn:k≤C.length) :
  Calls Tryz.prog 160 #[.int .i64 parts,.pointer (some pb),.pointer (some nb),.pointer (some cb)] w fun e w'=>e=.returned (.bool (e1_ C d k))∧∃ n,w'=w.drewN n:=by
 have hd0:0≤d:=hd ▸ Int.ediv_nonneg oq_ oq_;have hd1:d≤T:=hd ▸ Int.ediv_le_self _ oq_;obtain ⟨⟨a,c,rfl,hlc,hcc,hcells⟩,hlen,_⟩:=hcv;rcases hcells with h|⟨b,o,rfl,hcell⟩
 ·subst h;simp at hkn;omega
 have hE:∀ i,i<C.length->0≤C.getD i 0∧C.getD i 0<T:=fun i hi=>by rw [c2_ hi];exact hC.get_bounds hi
 have HC:=hq_ hcell;have HE:=hq_ hE;clear hcell hE;have hpos:(0:Int)<parts:=oq_
 go_enter Tryz.func160,Tryz.ntmps160
 go_wp2_with fail
 go_quiet (fail)
 go_wp2_with fail
 go_loopw [8] (fun i wr=>∃ j:Nat,k≤j∧j≤C.length∧i=.int .i64 j∧(∀ x,k≤x->x<j->C.getD x 0=C.getD (x-k) 0+d)∧∃ n,wr=w.drewN n) (fun i _=>C.length-(intOf i).toNat)
 case atStart=>exact ⟨k,Nat.le_refl _,hkn,rfl,fun x h1 h2=>oq_,_,rfl⟩
 case round=>
  obtain ⟨j,hkj,hj,rfl,hall,n,rfl⟩:=hrel;have HA:=hq_ hall;clear hall
  by_cases hlt:j<C.length
  ·have h1:=HC.out j hlt;have h2:=HC.out (j-k) oq_;have e1:=HE.out j hlt;have e2:=HE.out (j-k) oq_;have hs:=@tv_ j k;obtain ⟨x,hx⟩:∃ x,x=C.getD j 0:=⟨_,rfl⟩;obtain ⟨y,hy⟩:∃ y,y=C.getD (j-k) 0:=⟨_,rfl⟩;rw [<- hx] at h1 e1;rw [<- hy] at h2 e2;have HX:=hq_ hx;have HY:=hq_ hy;clear hx hy;have hltI:(j:Int)<C.length:=oq_;go_wp2_with fail
   go_quiet (fail)
   go_wp2_with fail
   ·have hne:x≠y+d:=by simpa using ‹(x != y+d)=true›
    go_ret;refine ⟨ac_ ?_,_,World.drewN_drewN _ _ _⟩;have hnp:¬ db_ C d k:=fun h=>hne (by rw [HX.out,HY.out,c2_ hlt,c2_ (show j-k<C.length by omega)];exact h.1 j hlt hkj);have hf:e1_ C d k=false:=by rw [<- Bool.not_eq_true,cw_];exact hnp
    rw [hf]
   ·have heq:x=y+d:=by simpa using ‹(x != y+d)=false›
    refine ⟨⟨j+1,oq_,oq_,by go_num,fun z h1 h2=>?_,_,rfl⟩,by simp [intOf];try omega⟩;rcases Nat.lt_or_ge z j with h3|h3
    ·exact HA.out z h1 h3
    ·obtain rfl:z=j:=oq_;rw [<- HX.out,<- HY.out];exact heq
  ·have hjn:¬ (j:Int)<C.length:=oq_;have h1:=HC.out (k-1) oq_;have e1:=HE.out (k-1) oq_;have hs:((k:Int)-1).toNat=k-1:=oq_;obtain ⟨x,hx⟩:∃ x,x=C.getD (k-1) 0:=⟨_,rfl⟩;rw [<- hx] at h1 e1;have HX:=hq_ hx;have hkI:(1:Int)≤k:=oq_;have hfin:e1_ C d k=decide (x<d):=by
    rw [Bool.eq_iff_iff,cw_,decide_eq_true_iff,hx,c2_ (show k-1<C.length by omega)];constructor
    ·exact fun h=>h.2.2
    ·refine fun h=>⟨fun i hi hki=>?_,oq_,h⟩;have:=HA.out i hki oq_;rwa [c2_ hi,c2_ (show i-k<C.length by omega)] at this
   have HF:=hq_ hfin;clear hx hfin;go_wp2_with fail
   go_ret;exact ⟨ac_ HF.out.symm,_,rfl⟩
theorem Ints.take {w:World} {a:Option Addr} {n c k:Nat} {l:List Int} (h:Ints w (.slice a n c) l) (hk:k≤l.length):Ints w (.slice a k c) (l.take k):=by
 obtain ⟨⟨a',c',he,h1,h2,h3⟩,h4,h5⟩:=h;injection he with e1 e2 e3
 subst e1;subst e3;have hl:(l.take k).length=k:=by simp;omega
 refine ⟨⟨a,c,by rw [hl],by rw [hl];omega,h2,?_⟩,by rw [hl];omega,fun x hx=>h5 x (List.mem_of_mem_take hx)⟩;rcases h3 with rfl|⟨b,o,rfl,hc⟩
 ·exact .inl sq_
 ·refine .inr ⟨b,o,rfl,fun i hi=>?_⟩;rw [hl] at hi;rw [hc i oq_];simp [hi]
def uj_ (p:Per) (a:Option Addr) (c:Nat) (w:World) (e:Ending) (w':World):Prop:=
 ∃ (d:Int) (B:List Int),e=.returned (.tuple #[.int .i64 d,.slice a B.length c])∧Ints w' (.slice a B.length c) B∧e2_ p d B∧Below w.heap.size w w'
theorem pd_ (a:Option Addr) (c:Nat) (p:Per) (w:World) (hw:p.WF) (hne:p.cycle≠[]) (hT:p.period≤1125899906842624) (hcv:Ints w (.slice a p.cycle.length c) p.cycle) :
  Calls Tryz.prog 130 #[.int .i64 p.period,.slice a p.cycle.length c] w (uj_ p a c w):=by
 have hT0:=hw.per;have hl:∀ W,Below w.heap.size w W->Ints W (.slice a p.cycle.length c) p.cycle:=fun W hb=>hcv.ext hb;have hn1:1≤p.cycle.length:=by
  rcases Nat.eq_zero_or_pos p.cycle.length with h|h
  ·exact absurd (List.eq_nil_of_length_eq_zero h) hne
  ·exact h
 obtain ⟨⟨a',c',he,hlc,hcc,hcells⟩,hlen,_⟩:=hcv;injection he with he1 he2 he3
 subst he1;subst he3;have hlI:(1:Int)≤p.cycle.length:=oq_
 go_enter Tryz.func130,Tryz.ntmps130
 go_wp2_with fail
 go_loopw [8,4,5] (fun q _ _ wr=>∃ j:Nat,1≤j∧j≤p.cycle.length∧q=.int .i64 j∧(∀ q' d' k',j<q'->1≤d'->1≤k'->p.period=(q':Nat)*d'->p.cycle.length=q' * k'->¬ db_ p.cycle d' k')∧Below w.heap.size w wr∧wr.cell? ⟨w.heap.size,0,none⟩=some (.int .i64 p.period)∧wr.cell? ⟨w.heap.size+1,0,none⟩=some (.slice a p.cycle.length c)∧wr.cell? ⟨w.heap.size+1+1,0,none⟩=some (.int .i64 p.cycle.length)) (fun q _ _ _=>(intOf q).toNat)
 case atStart=>
  refine ⟨p.cycle.length,hn1,Nat.le_refl _,rfl,fun q' d' k' h1 h2 h3 h4 h5=>?_,by exact xE,by go_simp,by go_simp,by go_simp⟩;have:q' * 1≤q' * k':=Nat.mul_le_mul_left _ h3;omega
 case round=>
  obtain ⟨j,hj1,hjn,rfl,hmax,hb,hc1,hc2,hc3⟩:=hrel;have HM:=hq_ hmax;clear hmax
  by_cases hgt:1<j
  ·have hjI:(1:Int)<j:=oq_
   by_cases hd1:(p.cycle.length:Int) % j=0
   ·by_cases hd2:p.period % j=0
    ·obtain ⟨d,hd⟩:∃ d,p.period / j=d:=⟨_,rfl⟩;obtain ⟨k,hk⟩:∃ k:Nat,(p.cycle.length:Int) / j=k:=⟨p.cycle.length / j,sq_⟩;have hTd:p.period=(j:Nat)*d:=by rw [<- hd];exact (Int.mul_ediv_cancel' (Int.dvd_of_emod_eq_zero hd2)).symm
     have hnk:p.cycle.length=j*k:=by
      have:=Int.mul_ediv_cancel' (Int.dvd_of_emod_eq_zero hd1);rw [hk] at this;have e:((j*k:Nat):Int)=p.cycle.length:=by rw [<- this];push_cast;rfl
      omega
     have hd1':1≤d:=by
      rcases Int.lt_or_le 0 d with h|h
      ·omega
      ·have:=Int.mul_nonpos_of_nonneg_of_nonpos (show (0:Int)≤(j:Nat) by omega) h;omega
     have hk1':1≤k:=by
      rcases Nat.eq_zero_or_pos k with h|h
      ·subst h;exact absurd (by simpa using hnk) hne
      ·exact h
     have hkn:k≤p.cycle.length:=by rw [hnk];exact Nat.le_mul_of_pos_left k oq_
     have hdT:d≤p.period:=hd ▸ Int.ediv_le_self _ oq_;have V:=hq_ (fun W hb h1 h2 h3=>uf_ (.slice a p.cycle.length c) p.cycle p.period j d k ⟨w.heap.size,0,none⟩ ⟨w.heap.size+1+1,0,none⟩ ⟨w.heap.size+1,0,none⟩ W hT0 hT hw.cyc (hl W hb) h1 h2 h3 oq_ hd hk hk1' hkn);have HTd:=hq_ hTd;have HNK:=hq_ hnk;have hb1:((p.cycle.length:Int) % j == 0)=true:=by simpa using hd1
     have hb2:(p.period % (j:Int) == 0)=true:=by simpa using hd2
     clear hTd hnk hd1 hd2;cases hP:e1_ p.cycle d k with
     | true=>
      have hPP:=cw_.1 hP;have HS:=hq_ (d4_ hw hne hd1' oq_ HTd.out HNK.out hk1' hPP (fun q' d' k'=>HM.out q' d' k'));clear hPP;go_wp2_with (go_at_call 160;refine (V.out _ xE (by assumption) (by assumption) (by assumption)).mono ?_;rintro e w' ⟨he,nq,rfl⟩;rw [hP] at he;subst he)
      go_quiet (fail)
      go_wp2_with fail
      go_ret2;have hkl:(p.cycle.take k).length=k:=by simp;omega
      exact ⟨p.period / j,p.cycle.take k,by rw [hkl];rfl,by rw [hkl];exact ((hl _ xE).take hkn),by rw [hd];exact HS.out,xE⟩
     | false=>
      go_wp2_with (go_at_call 160;refine (V.out _ xE (by assumption) (by assumption) (by assumption)).mono ?_;rintro e w' ⟨he,nq,rfl⟩;rw [hP] at he;subst he)
      refine ⟨⟨j-1,oq_,oq_,by congr 1;omega,fun q' d' k' h1 h2 h3 h4 h5 h6=>?_,by exact xE,hc1,hc2,hc3⟩,by simp [intOf];omega⟩;rcases Nat.lt_or_ge j q' with h7|h7
      ·exact HM.out q' d' k' h7 h2 h3 h4 h5 h6
      ·obtain rfl:q'=j:=oq_;have e1:d'=d:=Int.eq_of_mul_eq_mul_left (show ((q':Nat):Int)≠0 by omega) (h4.symm.trans HTd.out);have e2:k'=k:=Nat.eq_of_mul_eq_mul_left (show 0<q' by omega) (h5.symm.trans HNK.out);subst e1;subst e2;rw [cw_.2 h6] at hP;cases hP
    ·have hb1:((p.cycle.length:Int) % j == 0)=true:=by simpa using hd1
     have hb2:(p.period % (j:Int) == 0)=false:=by simpa using hd2
     have H2:=hq_ hd2;clear hd1 hd2;go_wp2_with fail
     refine ⟨⟨j-1,oq_,oq_,by congr 1;omega,fun q' d' k' h1 h2 h3 h4 h5 h6=>?_,by exact xE,hc1,hc2,hc3⟩,by simp [intOf];omega⟩;rcases Nat.lt_or_ge j q' with h7|h7
     ·exact HM.out q' d' k' h7 h2 h3 h4 h5 h6
     ·obtain rfl:q'=j:=oq_;exact H2.out (by rw [h4];exact Int.mul_emod_right _ _)
   ·have hb1:((p.cycle.length:Int) % j == 0)=false:=by simpa using hd1
    have H1:=hq_ hd1;clear hd1;go_wp2_with fail
    refine ⟨⟨j-1,oq_,oq_,by congr 1;omega,fun q' d' k' h1 h2 h3 h4 h5 h6=>?_,by exact xE,hc1,hc2,hc3⟩,by simp [intOf];omega⟩;rcases Nat.lt_or_ge j q' with h7|h7
    ·exact HM.out q' d' k' h7 h2 h3 h4 h5 h6
    ·obtain rfl:q'=j:=oq_;exact H1.out (by rw [h5];push_cast;exact Int.mul_emod_right _ _)
  ·obtain rfl:j=1:=oq_;have hP:db_ p.cycle p.period p.cycle.length:=⟨fun i hi hk=>oq_,oq_,by have:=hw.cyc.get_bounds (i:=p.cycle.length-1) oq_;exact this.2⟩;have HS:=hq_ (d4_ hw hne hT0 (Nat.le_refl 1) sq_ sq_ hn1 hP (fun q' d' k'=>HM.out q' d' k'));clear hP;go_wp2_with fail
   go_quiet (fail)
   go_wp2_with fail
   go_ret2;have hkl:=HS.out;rw [List.take_length] at hkl;exact ⟨p.period,p.cycle,rfl,(hl _ xE),hkl,xE⟩
end Go.Proofs.YthjnojbeimchdaaGreat
namespace Go.Proofs.YthjnojbeimchdaaGreat
open Go.RowKit Go.Shelf Kal
attribute [local go_sem] Oper.semAt_some
def KpB (pb:Nat->Prop) (A B:World):Prop:=∀ k,pb k->B.heap[k]? = A.heap[k]?
theorem KpB.refl (pb:Nat->Prop) (A:World):KpB pb A A:=fun _ _=>rfl
theorem KpB.trans {pb:Nat->Prop} {A B C:World} (h:KpB pb A B) (h':KpB pb B C):KpB pb A C:=fun k hk=>(h' k hk).trans (h k hk)
theorem KpB.cell {pb:Nat->Prop} {A B:World} (h:KpB pb A B) {a:Addr} {v:Value} (hp:pb a.block) (hc:A.cell? a=some v):B.cell? a=some v:=
 (World.cell?_of_block (h a.block hp)).trans hc
theorem KpB.putObj {pb:Nat->Prop} {n:Nat} (hpb:∀ k,pb k->k<n) (W:World) (l:Nat) (o o':Obj) (hl:n≤l) (_:W.heap[l]? = some o) (_:o.isCells=false):KpB pb W (W.putObj l o'):=
 fun k hk=>World.putObj_heap_other (by have:=hpb k hk;omega)
def bk (l:List Int):List (Int × Int):=(List.range l.length).reverse.map fun (i:Nat)=>((i:Int),l.getD i 0)
theorem ee_ (l:List Int):(bk l).length=l.length:=by simp [bk]
theorem sj_ (l:List Int) (j:Nat) (h:j<l.length):(bk l)[j]'(by rw [ee_];exact h)=(((l.length-1-j:Nat):Int),l.getD (l.length-1-j) 0):=by
 simp [bk]
theorem q2_ (l:List Int) (j:Nat) (h:j<l.length):(bk l).take (j+1)=(bk l).take j ++ [(((l.length-1-j:Nat):Int),l.getD (l.length-1-j) 0)]:=by
 rw [List.take_succ_eq_append_getElem (by rw [ee_];exact h),sj_ l j h]
theorem ns_ (sv:Value) (l:List Int) (bx:Nat) (w:World) (pb:Nat->Prop) (hs:Ints w sv l) (hbx:w.cell? ⟨bx,0,none⟩=some sv) (h1:pb bx)
  (h3:∀ b o n c,sv=.slice (some ⟨b,o,none⟩) n c->pb b) :
  SeqX Tryz.prog 161 #[.pointer (some ⟨bx,0,none⟩)] (fun y:Int × Int=>#[.int .i64 y.1,.int .i64 y.2]) (KpB pb) none (fun pre=>pre <+: bk l) (fun xs=>xs=bk l) (fun _=>True) w:=by
 intro l' J Jx W hW hJ hJx hN hY h0;obtain ⟨⟨a,c,rfl,hlc,hcc,hcells⟩,hlen,_⟩:=hs;have hbW:W.cell? ⟨bx,0,none⟩=some (.slice a l.length c):=Ext.cell hW hbx;refine callsIn_of_wp Tryz.func161 rfl trivial ?_ rfl;simp only [Tryz.ntmps161,List.size_toArray,List.length_cons,List.length_nil,Nat.reduceAdd,Nat.reduceSub,Array.replicate_succ,Array.replicate_zero,List.push_toArray,List.append_toArray,List.nil_append,List.cons_append]
 gi_wp2
 gi_loopw [3] (fun i wr=>∃ j:Nat,j≤l.length∧i=.int .i64 ((l.length:Int)-1-j)∧J ((bk l).take j) wr∧KpB pb W wr) (fun i _=>(intOf i+1).toNat)
 case atStart=>exact ⟨0,Nat.zero_le _,sq_,by simpa using h0,KpB.refl _ _⟩
 case round=>
  obtain ⟨j,hj,rfl,hJw,hK⟩:=hrel
  by_cases hlt:j<l.length
  ·rcases hcells with h|⟨b,o,rfl,hcell⟩
   ·subst h;simp at hlt
   have hb2:=hK.cell h1 hbW;have hc2:=hK.cell (a:=⟨b,o+(l.length-1-j),none⟩) (h3 b o _ _ rfl) (Ext.cell hW (hcell (l.length-1-j) oq_));have ht:=q2_ l j hlt;have hpre:(bk l).take j ++ [(((l.length-1-j:Nat):Int),l.getD (l.length-1-j) 0)] <+: bk l:=by rw [<- q2_ l j hlt];exact List.take_prefix _ _
   have hi1:((l.length:Int)-1-j).toNat=l.length-1-j:=oq_;have hcast:((l.length-1-j:Nat):Int)=(l.length:Int)-1-j:=oq_;obtain ⟨x,hx⟩:∃ x,x=l.getD (l.length-1-j) 0:=⟨_,rfl⟩;rw [hcast,<- hx] at ht hpre;rw [<- hx] at hc2;obtain ⟨fn,tmps,assign,body,hy,hR⟩:=hY _ _ wr hJw hpre;dsimp only at hy;have HT:=hq_ ht;have HP:=hq_ hpre;clear hcast hpre hcell ht hx
   gi_wp2
   refine ⟨rfl,hR.mono ?_⟩;rintro e W' (⟨rfl,hJ',hk⟩|⟨rfl,hJx'⟩)
   ·gi_wp2
    go_roundw
    case rel=>exact ⟨j+1,oq_,by go_num,by rw [HT.out];exact hJ',hK.trans hk⟩
    case measure=>simp [intOf];omega
   ·gi_wp2
    refine bodyPost_ret (results_none rfl _ _ _) rfl ?_;exact ⟨⟨_,rfl⟩,.inr ⟨_,HP.out,hJx'⟩⟩
  ·have hneg:(l.length:Int)-1-j<0:=oq_
   gi_wp2
   go_end0
   exact ⟨⟨_,rfl⟩,.inl ⟨bk l,rfl,by rw [List.take_of_length_le (by rw [ee_];omega)] at hJw;exact hJw⟩⟩
end Go.Proofs.YthjnojbeimchdaaGreat
namespace Go.Proofs.YthjnojbeimchdaaGreat
open Go.RowKit Go.Shelf Kal
structure POx (w:World) (base:Nat) (h c:Value) (p:Per):Prop where
 hd:OwnI w base h p.head
 cy:OwnI w base c p.cycle
theorem POx.is {w:World} {base:Nat} {h c:Value} {p:Per} (hp:POx w base h c p):a8_ w h c p:=⟨hp.hd.ints,hp.cy.ints⟩
theorem POx.mono {w:World} {base base':Nat} {h c:Value} {p:Per} (hp:POx w base h c p) (hb:base'≤base):POx w base' h c p:=⟨hp.hd.mono hb,hp.cy.mono hb⟩
theorem POx.above {w w':World} {base:Nat} {h c:Value} {p:Per} (hp:POx w base h c p) (hb:a7_ base w w'):POx w' base h c p:=⟨hp.hd.above hb,hp.cy.above hb⟩
theorem POx.ext {w w':World} {base:Nat} {h c:Value} {p:Per} (hp:POx w base h c p) (hb:Below w.heap.size w w'):POx w' base h c p:=⟨hp.hd.ext hb,hp.cy.ext hb⟩
theorem POx.form {w:World} {base:Nat} {h c:Value} {p:Per} (hp:POx w base h c p):∃ a1 c1 a2 c2,h=.slice a1 p.head.length c1∧c=.slice a2 p.cycle.length c2:=by
 obtain ⟨a1,c1,h1⟩:=hp.hd.form;obtain ⟨a2,c2,h2⟩:=hp.cy.form;exact ⟨a1,c1,a2,c2,h1,h2⟩
def e7_ (S:Int->Prop) (w:World) (e:Ending) (w':World):Prop:=
 ∃ (h' c':Value) (q:Per),e=.returned (.agg #[h',.int .i64 q.frm,.int .i64 q.period,c'])∧a6_ q S∧POx w' w.heap.size h' c' q∧Below w.heap.size w w'
theorem oa_ (h c:Value) (p:Per) (w:World) (hp:a8_ w h c p) (hw:p.WF) (h1:p.frm≤1125899906842624) (hfin:p.cycle=[]) :
  Calls Tryz.prog 88 #[.agg #[h,.int .i64 p.frm,.int .i64 p.period,c]] w (e7_ p.mem w):=by
 have hl:∀ W,Below w.heap.size w W->Ints W h p.head:=fun W hb=>hp.hd.ext hb;have HC:=hq_ (im_ hw hfin);have hE:∀ i,i<p.head.length->0≤p.head.getD i 0∧p.head.getD i 0<p.frm:=fun i hi=>bl_ hw.head hi;obtain ⟨⟨⟨a,cap,rfl,hlc,hcc,hcells⟩,hlen,_⟩,⟨ca,ccap,rfl,_,_,_⟩,_,_⟩:=hp;rw [hfin];have HE:=hq_ hE;have HFI:=hq_ hfin;clear hE hfin;simp only [List.length_nil]
 by_cases h0:p.head.length=0
 ·have hn:¬ (0:Int)<p.head.length:=oq_;have H0:=hq_ h0;clear h0
  go_enter Tryz.func88,Tryz.ntmps88
  go_wp2
  go_step3
  go_wp2_with (go_at_call 129;refine (gn_ _ p.head _ (hl _ xE)).mono ?_;rintro e w1 ⟨v',rfl,ho,hb1⟩;obtain ⟨va,vc,rfl⟩:=ho.form;obtain ⟨hc1,hf1⟩:=au_ hb1;have hz:w.heap.size+1+1<w1.heap.size:=(by have:=hb1.size;simp at this;omega);have hz1:w.heap.size+1<w1.heap.size:=oq_;have hz0:w.heap.size<w1.heap.size:=oq_)
  rw [Exit.noGoto_ret];refine bodyPost_ret (v:=.agg #[.slice va p.head.length vc,.int .i64 0,.int .i64 1,.slice none 0 0]) ?_ rfl ?_
  ·simp [results,Tryz.results88,go_sem, *]
  ·refine ⟨_,_,⟨p.head,0,1,[]⟩,rfl,?_,⟨?_,OwnI.nil _ _⟩,?_⟩
   ·have:=HC.out;rwa [if_pos H0.out] at this
   ·exact (ho.above (by (repeat' (with_reducible first|exact a7_.refl _ _|refine a7_.alloc ?_ _|refine a7_.drew ?_|refine a7_.drewN ?_ _|refine a7_.setCell ?_ (by first|(simp;done)|(simp;omega)|omega) _)))).mono (by first|(simp;done)|(simp;omega)|omega)
   ·exact xE
 ·have hn:(0:Int)<p.head.length:=oq_;have H0:=hq_ h0;rcases hcells with hh|⟨b,o,rfl,hcell⟩
  ·rw [hh] at h0;exact absurd rfl h0
  have hcl:=hcell (p.head.length-1) oq_;have hx1:((p.head.length:Int)-1).toNat=p.head.length-1:=oq_;have hbd:=HE.out (p.head.length-1) oq_;obtain ⟨x,hx⟩:∃ x,x=p.head.getD (p.head.length-1) 0:=⟨_,rfl⟩;rw [<- hx] at hcl hbd;have HX:=hq_ hx;clear hcell h0 hx
  go_enter Tryz.func88,Tryz.ntmps88
  go_wp2
  go_step3
  go_wp2_with (go_at_call 129;refine (gn_ _ p.head _ (hl _ xE)).mono ?_;rintro e w1 ⟨v',rfl,ho,hb1⟩;obtain ⟨va,vc,rfl⟩:=ho.form;have hc4:=Ext.cell (w:=w) (W:=w1) xE hcl;have hblt:b<w1.heap.size:=World.block_lt_of_cell? _ _ hc4;obtain ⟨hc1,hf1⟩:=au_ hb1;have hz:w.heap.size+1+1<w1.heap.size:=(by have:=hb1.size;simp at this;omega);have hz1:w.heap.size+1<w1.heap.size:=oq_;have hz0:w.heap.size<w1.heap.size:=oq_)
  rw [Exit.noGoto_ret];refine bodyPost_ret (v:=.agg #[.slice va p.head.length vc,.int .i64 (x+1),.int .i64 1,.slice none 0 0]) ?_ rfl ?_
  ·simp [results,Tryz.results88,go_sem, *]
  ·refine ⟨_,_,⟨p.head,x+1,1,[]⟩,rfl,?_,⟨?_,OwnI.nil _ _⟩,?_⟩
   ·have:=HC.out;rw [if_neg H0.out,<- HX.out] at this;exact this
   ·exact (ho.above (by (repeat' (with_reducible first|exact a7_.refl _ _|refine a7_.alloc ?_ _|refine a7_.drew ?_|refine a7_.drewN ?_ _|refine a7_.setCell ?_ (by first|(simp;done)|(simp;omega)|omega) _)))).mono (by first|(simp;done)|(simp;omega)|omega)
   ·exact xE
attribute [local go_sem] Oper.semAt_some
theorem oj_ (sv:Value) (w:World) (h:∃ a n c,sv=.slice a n c) :
  Calls Tryz.prog 131 #[sv] w fun e w'=>e=.returned (.func (.func 161) #[] #[.pointer (some ⟨w.heap.size,0,none⟩)])∧w.alloc (.cells #[sv] 37)=w':=by
 obtain ⟨a,n,c,rfl⟩:=h
 go_enter Tryz.func131,Tryz.ntmps131
 go_wp2
 go_ret;exact ⟨rfl,rfl⟩
theorem fh_ {A B:World} {row:Option Nat} {k:Nat} {c:Array Value} {t:TypeId} {f:Nat × Nat} (h:A.heap[k]? = some (.cells c t f)) (hg:A.grownBy B row)
  (hr:∀ r,row=some r->∃ o:Obj,A.heap[r]? = some o∧o.isCells=false):B.heap[k]? = some (.cells c t f):=by
 refine (hg.block k (Array.getElem?_eq_some_iff.1 h).1 fun e=>?_).trans h;obtain ⟨o,ho,hc⟩:=hr k e.symm;rw [h] at ho;cases ho;cases hc
structure CI (w:World) (s0:Nat) (p:Per) (ha:Option Addr) (hcap:Nat) (ca:Option Addr) (ccap:Nat) (j:Nat) (sv:Int) (bb:Nat) (bv:Int) (W:World):Prop where
 below:Below w.heap.size w W
 pbox:W.heap[w.heap.size]? = some (.cells #[.slice ha p.head.length hcap,.int .i64 p.frm,.int .i64 p.period,.slice ca p.cycle.length ccap] 39 (0,0))
 rbox:W.heap[w.heap.size+1]? = some (.cells #[.slice none 0 0,.int .i64 0,.int .i64 0,.slice none 0 0] 39 (0,0))
 hbox:Boxed W (w.heap.size+1+1) 37 (.slice ha (p.head.length-j) hcap)
 sbox:Boxed W s0 3 (.int .i64 sv)
 bbox:Boxed W bb 3 (.int .i64 bv)
 hs:w.heap.size+1+1<s0
 bs:s0<bb
theorem CI.grow {w:World} {s0:Nat} {p:Per} {ha:Option Addr} {hcap:Nat} {ca:Option Addr} {ccap j:Nat} {sv:Int} {bb:Nat} {bv:Int} {W W':World} {row:Option Nat} (h:CI w s0 p ha hcap ca ccap j sv bb bv W)
  (hg:W.grownBy W' row) (hr:∀ r,row=some r->w.heap.size≤r∧∃ o:Obj,W.heap[r]? = some o∧o.isCells=false):CI w s0 p ha hcap ca ccap j sv bb bv W':=
 ⟨h.below.grown hg h.below.size (fun k e=>(hr k e).1),fh_ h.pbox hg (fun r e=>(hr r e).2),fh_ h.rbox hg (fun r e=>(hr r e).2),fh_ h.hbox hg (fun r e=>(hr r e).2),fh_ h.sbox hg (fun r e=>(hr r e).2),fh_ h.bbox hg (fun r e=>(hr r e).2),h.hs,h.bs⟩
theorem bb_ {W:World} {k:Nat} {c:Array Value} {t:TypeId} (h:W.heap[k]? = some (.cells c t (0,0))) (i:Nat):W.cell? ⟨k,i,none⟩=c[i]?∧W.frozen? ⟨k,i,none⟩=false:=by
 simp [World.cell?,World.frozen?,h]
def cMu (w:World) (_:Act) (W:World):Nat:=match W.cell? ⟨w.heap.size+1+1,0,none⟩ with|some (.slice _ n _)=>n|_=>0
def CX (w:World) (s0:Nat) (p:Per) (d:Int) (B:List Int) (ha:Option Addr) (hcap:Nat) (ca:Option Addr) (ccap:Nat) (W:World):Prop:=
 ∃ (s:Int) (j bb:Nat) (bv:Int),Kal.Start p d B s (p.head.length-j)∧CI w s0 p ha hcap ca ccap j s bb bv W
theorem Ints.back {w w1:World} {b o n c:Nat} {l:List Int} (h:Ints w1 (.slice (some ⟨b,o,none⟩) n c) l) (hb:Below w.heap.size w w1) (hlt:b<w.heap.size):Ints w (.slice (some ⟨b,o,none⟩) n c) l:=by
 obtain ⟨⟨a',c',he,h1,h2,h3⟩,h4,h5⟩:=h;injection he with e1 e2 e3
 subst e1;subst e2;subst e3;refine ⟨⟨_,_,rfl,h1,h2,h3.imp id ?_⟩,h4,h5⟩;rintro ⟨b',o',he,hc⟩;injection he with he;injection he with e1 e2
 subst e1;subst e2;exact ⟨b,o,rfl,fun i hi=>(hb.cell (p:=⟨b,o+i,none⟩) hlt).symm.trans (hc i hi)⟩
theorem KeepsOthers.grow {A B C:World} {row:Option Nat} (h:KeepsOthers A B) (hg:B.grownBy C row) (hr:∀ r,row=some r->A.heap.size≤r):KeepsOthers A C:=
 ⟨Nat.le_trans h.size hg.size,fun k o hk ho=>(hg.block k (Array.getElem?_eq_some_iff.1 (h.same k o hk ho)).1 (fun e=>by have:=hr k e.symm;have:=(Array.getElem?_eq_some_iff.1 hk).1;omega)).trans (h.same k o hk ho)⟩
theorem t7_ {w w1:World} {a b c:Obj} (hb:Below (((w.alloc a).alloc b).alloc c).heap.size (((w.alloc a).alloc b).alloc c) w1):w1.heap[w.heap.size]? = some a∧w1.heap[w.heap.size+1]? = some b∧w1.heap[w.heap.size+1+1]? = some c:=by
 have e1:=World.alloc_heap_new w a;have e2:=World.alloc_heap_new (w.alloc a) b;have e3:=World.alloc_heap_new ((w.alloc a).alloc b) c;simp only [World.size_alloc] at e2 e3 hb;refine ⟨?_,?_,?_⟩
 ·rw [hb.block _ oq_,Below.heap_alloc _ _ _ tq_,Below.heap_alloc _ _ _ sq_];exact e1
 ·rw [hb.block _ oq_,Below.heap_alloc _ _ _ sq_];exact e2
 ·rw [hb.block _ oq_];exact e3
section
variable {w:World} {s0:Nat} {p:Per} {ha:Option Addr} {hcap:Nat} {ca:Option Addr} {ccap j:Nat} {sv:Int} {bb:Nat} {bv:Int} {W:World}
theorem bx_ {W:World} {k b:Nat} {v:Value} (h:k≠b):(W.setCell ⟨b,0,none⟩ v).heap[k]? = W.heap[k]?:=Below.heap_setCell W ⟨b,0,none⟩ v k h
theorem CI.setS (h:CI w s0 p ha hcap ca ccap j sv bb bv W) (s:Int):CI w s0 p ha hcap ca ccap j s bb bv (W.setCell ⟨s0,0,none⟩ (.int .i64 s)):=by
 have h1:=h.hs;have h2:=h.bs;exact ⟨h.below.setCell (p:=⟨s0,0,none⟩) tq_ _,(bx_ oq_).trans h.pbox,(bx_ oq_).trans h.rbox,(bx_ oq_).trans h.hbox,h.sbox.set _,(bx_ oq_).trans h.bbox,h1,h2⟩
theorem CI.setH (h:CI w s0 p ha hcap ca ccap j sv bb bv W) (j':Nat):CI w s0 p ha hcap ca ccap j' sv bb bv (W.setCell ⟨w.heap.size+1+1,0,none⟩ (.slice ha (p.head.length-j') hcap)):=by
 have h1:=h.hs;have h2:=h.bs;exact ⟨h.below.setCell (p:=⟨w.heap.size+1+1,0,none⟩) tq_ _,(bx_ oq_).trans h.pbox,(bx_ oq_).trans h.rbox,h.hbox.set _,(bx_ oq_).trans h.sbox,(bx_ oq_).trans h.bbox,h1,h2⟩
theorem CI.newB (h:CI w s0 p ha hcap ca ccap j sv bb bv W) (v:Int):CI w s0 p ha hcap ca ccap j sv W.heap.size v (W.alloc (.cells #[.int .i64 v] 3)):=by
 have hg:=World.grownBy_alloc W (.cells #[.int .i64 v] 3) none;have h':=h.grow hg (fun r e=>by cases e);have:=h.bbox.lt;have:=h.bs;exact ⟨h'.below,h'.pbox,h'.rbox,h'.hbox,h'.sbox,Boxed.new _ _ _,h.hs,oq_⟩
end
theorem vy_ {B:List Int} {pre:List (Int × Int)} {y:Int × Int} (h:pre ++ [y] <+: bk B):pre.length<B.length∧y=(((B.length-1-pre.length:Nat):Int),B.getD (B.length-1-pre.length) 0):=by
 have hlen:=h.length_le;rw [ee_] at hlen;simp at hlen;have hlt:pre.length<B.length:=oq_;refine ⟨hlt,?_⟩;obtain ⟨t,ht⟩:=h;have e1:(bk B)[pre.length]? = some y:=by rw [<- ht];simp
 rw [List.getElem?_eq_getElem (by rw [ee_];exact hlt),sj_ B _ hlt] at e1;exact (Option.some.inj e1).symm
theorem th_ {B:List Int} {d f:Int} {m i:Nat} (hi:i<B.length):f-d*((m:Int)+1)+B.getD (B.length-1-i) 0=eAt B d f (m*B.length+i):=by
 unfold eAt;have h1:(m*B.length+i) / B.length=m:=by rw [Nat.mul_comm,Nat.mul_add_div oq_,Nat.div_eq_of_lt hi];rfl
 have h2:(m*B.length+i) % B.length=i:=by rw [Nat.mul_comm,Nat.mul_add_mod,Nat.mod_eq_of_lt hi]
 rw [h1,h2]
end Go.Proofs.YthjnojbeimchdaaGreat
namespace Go.Proofs.YthjnojbeimchdaaGreat
open Go.RowKit Go.Shelf Kal
noncomputable def sh_:Code:=match Tryz.f88.body with
 | some (.seq _ (.scope (.seq _ (.seq _ (.seq _ (.seq _ (.seq _ (.seq _ t))))))))=>t
 | _=>.skip
theorem OwnI.kept_lt {w w':World} {base:Nat} {v:Value} {l:List Int} (h:OwnI w base v l) (hb:∀ k,v.ownBlock=some k->w'.heap[k]? = w.heap[k]?∧w.heap.size≤w'.heap.size):OwnI w' base v l:=by
 obtain ⟨⟨h1,h2⟩,h3,h4⟩:=h;refine ⟨⟨h1,?_⟩,h3,h4⟩;rcases h2 with h2|⟨g,cap,cur,hv,hg,hh,hr⟩
 ·exact .inl h2
 ·refine .inr ⟨g,cap,cur,hv,hg,(hb g ?_).1.trans hh,hr⟩;subst hv;rfl
theorem OwnI.shut {B:Nat} {w w':World} {base:Nat} {v:Value} {l:List Int} (h:OwnI w base v l) (hs:qn_ B w w'):OwnI w' base v l:=by
 obtain ⟨⟨h1,h2⟩,h3,h4⟩:=h;refine ⟨⟨h1,?_⟩,h3,h4⟩;rcases h2 with h2|⟨g,cap,cur,hv,hg,hh,hr⟩
 ·exact .inl h2
 ·exact .inr ⟨g,cap,cur,hv,hg,hs.cells g _ hh rfl,hr⟩
theorem dm_ {w:World} {a:Addr} {v:Value} (h:w.cell? a=some v):w.drew.cell? a=some v:=h
structure TI (w:World) (s0 ob:Nat) (p:Per) (s d:Int) (ca:Option Addr) (ccap:Nat) (B:List Int) (hv:Value) (hl:List Int) (ds:List Deferred) (base:Nat) (cyv:Value) (l:List Int) (W:World):Prop where
 below:Below w.heap.size w W
 pb:W.cell? ⟨w.heap.size,1,none⟩=some (.int .i64 p.frm)
 sb:W.cell? ⟨s0,0,none⟩=some (.int .i64 s)
 rb:W.heap[w.heap.size+1]? = some (.cells #[.slice none 0 0,.int .i64 0,.int .i64 0,.slice none 0 0] 39 (0,0))
 obx:W.heap[ob]? = some (.cells #[hv,.int .i64 s,.int .i64 d,cyv] 39 (0,0))
 own:OwnI W base cyv l
 hd:OwnI W (w.heap.size+1+1) hv hl
 hlt:∀ k,hv.ownBlock=some k->k<base∧k≠ob
 marks:∃ W0:World,b5_ w.heap.size ds W0∧W0.heap.size≤ob∧Below W0.heap.size W0 W
 o1:w.heap.size+1+1<s0
 o2:s0<ob
 o3:ob<base
 o4:base≤W.heap.size
theorem b5_.below {B:Nat} {ds:List Deferred} {w w':World} (h:b5_ B ds w) (hb:Below w.heap.size w w'):b5_ B ds w':=by
 obtain ⟨Ds,rfl,hn,hall⟩:=h;exact ⟨Ds,rfl,hn,fun D hD=>⟨(hall D hD).1,(hb.block D (Array.getElem?_eq_some_iff.1 (hall D hD).2).1).trans (hall D hD).2⟩⟩
theorem a4_ {W:World} {b:Nat} {c:Array Value} {t:TypeId} {f:Nat × Nat} (i:Nat) (v:Value) (h:W.heap[b]? = some (.cells c t f)):(W.setCell ⟨b,i,none⟩ v).heap[b]? = some (.cells (c.setIfInBounds i v) t f):=by
 obtain ⟨hlt,hk⟩:=Array.getElem?_eq_some_iff.1 h;show (W.heap.modify b _)[b]? = _;rw [Array.getElem?_eq_getElem (by rw [Array.size_modify];exact hlt),Array.getElem_modify_self,hk];rfl
theorem set4 {W:World} {b:Nat} {x y z u v:Value} {t:TypeId} {f:Nat × Nat} (h:W.heap[b]? = some (.cells #[x,y,z,u] t f)):(W.setCell ⟨b,3,none⟩ v).heap[b]? = some (.cells #[x,y,z,v] t f):=a4_ 3 v h
theorem dg_ {W:World} {b:Nat} {x y z u x' y' z' u':Value} {t:TypeId} {f:Nat × Nat} (h:W.heap[b]? = some (.cells #[x,y,z,u] t f)) :
  ((((W.setCell ⟨b,0,none⟩ x').setCell ⟨b,1,none⟩ y').setCell ⟨b,2,none⟩ z').setCell ⟨b,3,none⟩ u').heap[b]? = some (.cells #[x',y',z',u'] t f):=
 a4_ 3 u' (a4_ 2 z' (a4_ 1 y' (a4_ 0 x' h)))
theorem TI.step {w:World} {s0 ob:Nat} {p:Per} {s d:Int} {ca:Option Addr} {ccap:Nat} {B:List Int} {hv:Value} {hl:List Int} {ds:List Deferred} {base:Nat} {cyv:Value} {l:List Int} {W:World}
  (h:TI w s0 ob p s d ca ccap B hv hl ds base cyv l W) {W1:World} {v':Value} {l':List Int} (hb:Below base W W1) (ho:OwnI W1 base v' l') :
  TI w s0 ob p s d ca ccap B hv hl ds base v' l' (W1.setCell ⟨ob,3,none⟩ v'):=by
 have h1:=h.o1;have h2:=h.o2;have h3:=h.o3;have h4:=h.o4;obtain ⟨W0,hm1,hm2,hm3⟩:=h.marks;have hz:=hb.size;refine ⟨(h.below.trans (hb.mono oq_)).setCell (p:=⟨ob,3,none⟩) tq_ _,bd_ (Below.cell' hb h.pb oq_) tq_ _,bd_ (Below.cell' hb h.sb oq_) tq_ _,?_,set4 ((hb.block ob oq_).trans h.obx),?_,?_,h.hlt,⟨W0,hm1,hm2,?_⟩,h1,h2,h3,?_⟩
 ·rw [Below.heap_setCell _ _ _ _ tq_];exact (hb.block _ oq_).trans h.rb
 ·exact ho.above ((a7_.refl base W1).setCell tq_ _)
 ·refine OwnI.kept_lt (OwnI.kept_lt h.hd fun k hk=>⟨(hb.block k (h.hlt k hk).1),hz⟩) fun k hk=>⟨Below.heap_setCell _ _ _ _ (by simp;exact (h.hlt k hk).2),by simp [World.setCell]⟩
 ·exact (hm3.trans (hb.mono oq_)).setCell (p:=⟨ob,3,none⟩) tq_ _
 ·simp [World.setCell];omega
theorem TI.start {w:World} {s0 ob bb:Nat} {p:Per} {s d bv:Int} {ha ca:Option Addr} {hcap ccap j:Nat} {B:List Int} {hv:Value} {hl:List Int} {ds:List Deferred} {base:Nat} {W W':World}
  (hCI:CI w s0 p ha hcap ca ccap j s bb bv W) (hM:b5_ w.heap.size ds W) (hb:Below W.heap.size W W') (hob:W'.heap[ob]? = some (.cells #[hv,.int .i64 s,.int .i64 d,.slice none 0 0] 39 (0,0)))
  (ho:OwnI W' W.heap.size hv hl) (h1:W.heap.size≤ob) (hlt:∀ k,hv.ownBlock=some k->k<base∧k≠ob) (h2:ob<base) (h3:base≤W'.heap.size):TI w s0 ob p s d ca ccap B hv hl ds base (.slice none 0 0) [] W':=by
 have a1:=hCI.hs;have a2:=hCI.sbox.lt;refine ⟨hCI.below.trans (hb.mono oq_),?_,Below.cell' hb hCI.sbox.cell a2,(hb.block _ oq_).trans hCI.rbox,hob,OwnI.nil _ _,ho.mono oq_,hlt,⟨W,hM,h1,hb⟩,a1,oq_,h2,h3⟩;refine Below.cell' hb ?_ oq_;rw [(bb_ hCI.pbox 1).1];rfl
theorem rn_ {w W:World} {s0:Nat} {p:Per} {ha:Option Addr} {hcap:Nat} {ca:Option Addr} {ccap j:Nat} {s:Int} {bb:Nat} {bv d:Int} {B:List Int} {ds:List Deferred} {u0 u4 u8 u9 u10 u11 u12 u13 u14 u15 u16 u17 u18 u19 u20 u21 u22 u23 u24 u25 u26 u27 u28 u29 u30 u31 u32 u33 u34 u35 u36 u37 u38 u39 u40 u41 u42 u43 u44 u45 u46 u47 u48 u49 u50 u51 u52 u53 u54 u55 u56 u57 u58 u59 u60 u61 u62 u63 u64 u65 u66 u67 u68 u69 u70 u71 u72 u73 u74 u75 u76 u77 u78 u79 u80 u81 u82 u83 u84 u85 u86 u87 u88 u89 u90 u91 u92 u93 u94 u95 u96 u97 u98 u99 u100 u101 u102 u103 u104 u105 u106 u107 u108 u109 u110 u111 u112 u113 u114 u115 u116 u117:Value}
  (hw:p.WF) (h1:p.frm≤1125899906842624) (h2:d≤1125899906842624) (hS:e2_ p d B) (hst:Kal.Start p d B s (p.head.length-j)) (hCI:CI w s0 p ha hcap ca ccap j s bb bv W) (hM:b5_ w.heap.size ds W)
  (hcv:Ints W (.slice ca B.length ccap) B) (hhd:Ints W (.slice ha p.head.length hcap) p.head) :
  sh_.wp Tryz.prog (Exit.noGoto (bodyPostM Fence.wide 0 Tryz.prog Tryz.f88 (e7_ p.mem w))) ⟨#[u0,.pointer (some ⟨w.heap.size,0,none⟩),.pointer (some ⟨w.heap.size+1,0,none⟩),.pointer (some ⟨w.heap.size+1+1,0,none⟩),u4,.int .i64 d,.slice ca B.length ccap,.pointer (some ⟨s0,0,none⟩),u8,u9,u10,u11,u12,u13,u14,u15,u16,u17,u18,u19,u20,u21,u22,u23,u24,u25,u26,u27,u28,u29,u30,u31,u32,u33,u34,u35,u36,u37,u38,u39,u40,u41,u42,u43,u44,u45,u46,u47,u48,u49,u50,u51,u52,u53,u54,u55,u56,u57,u58,u59,u60,u61,u62,u63,u64,u65,u66,u67,u68,u69,u70,u71,u72,u73,u74,u75,u76,u77,u78,u79,u80,u81,u82,u83,u84,u85,u86,u87,u88,u89,u90,u91,u92,u93,u94,u95,u96,u97,u98,u99,u100,u101,u102,u103,u104,u105,u106,u107,u108,u109,u110,u111,u112,u113,u114,u115,u116,u117],ds⟩ W:=by
 have hcvx:∀ W',Below W.heap.size W W'->Ints W' (.slice ca B.length ccap) B:=fun W' hb=>hcv.ext hb;have hhx:∀ W',Below W.heap.size W W'->Ints W' (.slice ha (p.head.length-j) hcap) (p.head.take (p.head.length-j)):=fun W' hb=>(hhd.ext hb).take oq_;have hh1:=hCI.hbox.cell;have hs1:=hCI.sbox.cell;have hs0:=hst.s0;have hsf:=hst.sf;have hd0:=hS.pos;have hb1:=hCI.hs;have hb2:=hCI.sbox.lt;have hp1:=(bb_ hCI.pbox 1).1;have hp1:W.cell? ⟨w.heap.size,1,none⟩=some (.int .i64 p.frm):=by rw [hp1];rfl
 obtain ⟨nh,hnh⟩:∃ nh,nh=p.head.length-j:=⟨_,rfl⟩;rw [<- hnh] at hh1 hst hhx;have HC:=hq_ hCI;have HM:=hq_ hM;have HS:=hq_ hS;have HST:=hq_ hst;have HN:=hq_ hnh;obtain ⟨hl,hhl⟩:∃ hl,hl=p.head.take nh:=⟨_,rfl⟩;rw [<- hhl] at hhx;have HHL:=hq_ hhl;have hnl:hl.length=nh:=by rw [hhl];simp;omega
 have HNL:=hq_ hnl;clear hCI hM hS hst hnh hcv hhd hhl hnl
 conv=>arg 2;whnf
 go_wp2_with fail
 refine Code.wp_mono (Q:=fun e a' W'=>e=.normal∧∃ (ob base:Nat) (va:Option Addr) (vc:Nat) (v89 v90 v91 v92 v93:Value),a'=⟨#[u0,.pointer (some ⟨w.heap.size,0,none⟩),.pointer (some ⟨w.heap.size+1,0,none⟩),.pointer (some ⟨w.heap.size+1+1,0,none⟩),u4,.int .i64 d,.slice ca B.length ccap,.pointer (some ⟨s0,0,none⟩),u8,u9,u10,u11,u12,.pointer (some ⟨ob,0,none⟩),u14,u15,u16,u17,u18,u19,u20,u21,u22,u23,u24,u25,u26,u27,u28,u29,u30,u31,u32,u33,u34,u35,u36,u37,u38,u39,u40,u41,u42,u43,u44,u45,u46,u47,u48,u49,u50,u51,u52,u53,u54,u55,u56,u57,u58,u59,u60,u61,u62,u63,u64,u65,u66,u67,u68,u69,u70,u71,u72,u73,u74,u75,u76,u77,u78,u79,u80,u81,u82,u83,u84,u85,u86,u87,u88,v89,v90,v91,v92,v93,u94,u95,u96,u97,u98,u99,u100,u101,u102,u103,u104,u105,u106,u107,u108,u109,u110,u111,u112,u113,u114,u115,u116,u117],ds⟩∧TI w s0 ob p s d ca ccap B (.slice va hl.length vc) hl ds base (.slice none 0 0) [] W'∧Below W.heap.size W W'∧W.heap.size≤ob) ?imp ?reg
 case reg=>
  go_region_held3 (fun w'=>w'.cell? ⟨w.heap.size+1+1,0,none⟩=some (.slice ha nh hcap)∧w'.cell? ⟨s0,0,none⟩=some (.int .i64 s)∧w'.cell? ⟨w.heap.size,1,none⟩=some (.int .i64 p.frm)) ((go_split_ands;repeat' (with_reducible first|assumption|refine bd_ ?_ ?_ _|refine ag_ ?_ _|refine dm_ ?_|exact Ext.cell (by assumption) (by assumption)|apply And.intro|(exact Below.cell' (by assumption) (by assumption) (by first|(simp;done)|(simp;omega)|omega))|(refine Below.cell' (by assumption) ?_ (by first|(simp;done)|(simp;omega)|omega))|omega|(simp;done)|(simp;omega))))
   ((go_at_call 129;refine (gn_ _ hl _ (hhx _ (by repeat' (first|refine Ed ?_|refine En ?_ _|refine Ea ?_ _|exact Er _)))).mono ?_;rintro e w2 ⟨v',rfl,ho,hb3⟩;obtain ⟨va,vc,rfl⟩:=ho.form;obtain ⟨hc3,hf3⟩:=au_ hb3;have hb4:Below W.heap.size W w2:=Et (by repeat' (first|refine Ed ?_|refine En ?_ _|refine Ea ?_ _|exact Er _)) hb3))
  go_goals
  ·have hl2:=ho.lt;have hz3:=hb4.size;exact ⟨rfl,_,w2.heap.size+1,va,vc,_,_,_,_,_,rfl,TI.start HC.out HM.out (Ea hb4 _) (World.alloc_heap_new _ _) ((ho.ext (Ea (Er _) _)).mono sq_) hz3 (fun k hk=>by have:=(hl2 k hk).2;omega) oq_ sq_,Ea hb4 _,hz3⟩
  ·have hl2:=ho.lt;have hz3:=hb3.size;simp only [World.size_alloc,World.size_drew] at hl2 hz3;have e1:=(hb3.block W.heap.size sq_).trans (World.alloc_heap_new W _);have hE:Below W.heap.size W ((((w2.setCell ⟨W.heap.size,0,none⟩ (.slice va hl.length vc)).setCell ⟨W.heap.size,1,none⟩ (.int .i64 s)).setCell ⟨W.heap.size,2,none⟩ (.int .i64 d)).setCell ⟨W.heap.size,3,none⟩ (.slice none 0 0)):=
    (((hb4.setCell (p:=⟨W.heap.size,0,none⟩) sq_ _).setCell (p:=⟨W.heap.size,1,none⟩) sq_ _).setCell (p:=⟨W.heap.size,2,none⟩) sq_ _).setCell (p:=⟨W.heap.size,3,none⟩) sq_ _
   refine ⟨rfl,_,w2.heap.size,va,vc,_,_,_,_,_,rfl,TI.start HC.out HM.out hE (dg_ e1) ((OwnI.kept_lt ho fun k hk=>?_).mono sq_) (Nat.le_refl _) (fun k hk=>by have:=hl2 k hk;omega) oq_ (by simp [World.setCell]),hE,Nat.le_refl _⟩;have:=hl2 k hk;refine ⟨?_,by simp [World.setCell]⟩;rw [Below.heap_setCell _ _ _ _ tq_,Below.heap_setCell _ _ _ _ tq_,Below.heap_setCell _ _ _ _ tq_,Below.heap_setCell _ _ _ _ tq_]
 case imp=>
  rintro e a' W1 ⟨rfl,ob,base,va,vc,v89,v90,v91,v92,v93,rfl,hTI,hb1,hob0⟩;have o1:=hTI.o1;have o2:=hTI.o2;have o3:=hTI.o3;have o4:=hTI.o4;have hblen:B.length≤17592186044416:=(hcvx W (Er _)).len;have HT:=hq_ hTI;have HB1:=hq_ hb1;clear hTI;go_wp2_with fail
  go_loopw [96] (fun i wr=>∃ (k:Nat) (cyv:Value),k≤B.length∧i=.int .i64 k∧TI w s0 ob p s d ca ccap B (.slice va hl.length vc) hl ds base cyv ((B.take k).map fun c=>(p.frm+c-s) % d) wr∧Below W.heap.size W wr) (fun i _=>B.length-(intOf i).toNat)
  case atStart=>exact ⟨0,_,oq_,rfl,HT.out,HB1.out⟩
  case round=>
   obtain ⟨k,cyv,hk,rfl,hTw,hbw⟩:=hrel;have hq1:=hTw.pb;have hq2:=hTw.sb;have hq3:=(bb_ hTw.obx 3).1;have hqf:=(bb_ hTw.obx 3).2;have hq3:wr.cell? ⟨ob,3,none⟩=some cyv:=hq3;have o5:=hTw.o4;have hBw:=hcvx wr hbw;have hown:=hTw.own;have HTW:=hq_ hTw;have HBW:=hq_ hbw;clear hTw hbw
   by_cases hlt:k<B.length
   ·obtain ⟨⟨a9,c9,he9,h19,h29,h39⟩,h49,h59⟩:=hBw;injection he9 with he1 he2 he3
    subst he1;subst he3;rcases h39 with h39|⟨b9,f9,rfl,hcell⟩
    ·rw [h39] at hlt;simp at hlt
    have hcl:=hcell k hlt;clear hcell;have hkI:(k:Int)<B.length:=oq_;obtain ⟨y,hy⟩:∃ y,y=B.getD k 0:=⟨_,rfl⟩;have hr1:=HS.out.rise.2 (B.getD k 0) (by rw [List.getD_eq_getElem?_getD,List.getElem?_eq_getElem hlt];exact List.getElem_mem hlt);rw [<- hy] at hcl hr1;have HY:=hq_ hy;clear hy h49 h59;have hz0:0≤p.frm+y-s:=oq_;have hw1:IntKind.i64.wrap (p.frm+y)=p.frm+y:=f5_ ⟨oq_,oq_⟩;have hw2:IntKind.i64.wrap (p.frm+y-s)=p.frm+y-s:=f5_ ⟨oq_,oq_⟩;have hm1:=Int.emod_nonneg (p.frm+y-s) (show d≠0 by omega);have hm2:=Int.emod_lt_of_pos (p.frm+y-s) (show 0<d by omega);have hw3:Int.tmod (p.frm+y-s) d=(p.frm+y-s) % d:=Int.tmod_eq_emod_of_nonneg hz0;have hw4:IntKind.i64.wrap ((p.frm+y-s) % d)=(p.frm+y-s) % d:=f5_ ⟨oq_,oq_⟩;obtain ⟨z,hz⟩:∃ z,z=(p.frm+y-s) % d:=⟨_,rfl⟩;rw [<- hz] at hw3 hw4 hm1 hm2;have HZ:=hq_ hz;clear hz;have hdn:d≠0:=oq_;go_wp2_with fail
    have hnn:=World.new_ne wr ⟨ob,3,none⟩ hq3;have hnp1:∀ o,(wr.drew.alloc o).cell? ⟨w.heap.size,1,none⟩=some (.int .i64 p.frm):=fun o=>ag_ (dm_ hq1) o;have hnp2:∀ o,(wr.drew.alloc o).cell? ⟨s0,0,none⟩=some (.int .i64 s):=fun o=>ag_ (dm_ hq2) o;have hnn1:∀ o,(wr.drew.alloc o).cell? ⟨ob,3,none⟩=some cyv:=fun o=>ag_ (dm_ hq3) o;have hnn2:∀ o,(wr.alloc o).cell? ⟨ob,3,none⟩=some cyv:=fun o=>ag_ hq3 o;refine wp_region_noPanic ?_
    go_region_law
     ((refine pg_ _ rq_ _ _ rq_ base cyv _ z rq_ (OwnI.ext hown (by repeat' (first|refine Ed ?_|refine En ?_ _|refine Ea ?_ _|exact Er _))) _ _ rq_ (by simp [go_sem]) ⟨oq_,oq_⟩ tq_ tq_ ?_;intro g cap W2 hown2 hgrow hbel;have hbel':Below base wr W2:=Below.trans (by repeat' (first|refine Below.drew ?_|refine Below.alloc ?_ (by first|omega|(simp;omega)) _|exact Below.refl _ _)) hbel;have hqf2:W2.frozen? ⟨ob,3,none⟩=false:=(Below.frozen hbel' (p:=⟨ob,3,none⟩) o3).trans hqf;have hqc2:W2.cell? ⟨ob,3,none⟩=some cyv:=Below.cell' hbel' hq3 o3))
    all_goals simp only [NoPanic]
    all_goals
     go_wp2_with fail
     go_roundw
     case rel=>
      have hlen:((B.take k).map fun c=>(p.frm+c-s) % d).length=k:=by simp;omega
      have htk:((B.take (k+1)).map fun c=>(p.frm+c-s) % d)=((B.take k).map fun c=>(p.frm+c-s) % d) ++ [z]:=by
       rw [List.take_succ_eq_append_getElem hlt,List.map_append,HZ.out,HY.out,List.getD_eq_getElem?_getD,List.getElem?_eq_getElem hlt];rfl
      rw [hlen] at hown2;refine ⟨k+1,.slice (some ⟨g,0,none⟩) (k+1) cap,oq_,by go_num,?_,((HBW.out.trans (hbel'.mono oq_)).setCell (p:=⟨ob,3,none⟩) hob0 _)⟩;rw [htk];exact HTW.out.step hbel' hown2
     case measure=>simp [intOf];omega
   ·obtain rfl:k=B.length:=oq_;obtain ⟨cl,hcl⟩:∃ cl,cl=((B.take B.length).map fun c=>(p.frm+c-s) % d):=⟨_,rfl⟩;have hTc:=HTW.out;rw [<- hcl] at hown hTc;have HTC:=hq_ hTc;have HCL:=hq_ hcl;clear hTc hcl HTW;go_wp2_with fail
    go_at_call 132
    refine (jt_ _ _ base _ hown).mono ?_;rintro e W2 ⟨rfl,hown2,hgrow⟩;have hbel:=hown.below_grown (W0:=wr) (.inr trivial) o5 hgrow;obtain ⟨ya,yc,rfl⟩:=hown.form;have hob2:=(hbel.block ob o3).trans HTC.out.obx;have hrb2:=(hbel.block (w.heap.size+1) oq_).trans HTC.out.rb;have hk0:W2.cell? ⟨ob,0,none⟩=some (.slice va hl.length vc):=(bb_ hob2 0).1;have hk1:W2.cell? ⟨ob,1,none⟩=some (.int .i64 s):=(bb_ hob2 1).1;have hk2:W2.cell? ⟨ob,2,none⟩=some (.int .i64 d):=(bb_ hob2 2).1;have hk3:W2.cell? ⟨ob,3,none⟩=some (.slice ya cl.length yc):=(bb_ hob2 3).1;have hj0:W2.cell? ⟨w.heap.size+1,0,none⟩=some (.slice none 0 0):=(bb_ hrb2 0).1;have hj1:W2.cell? ⟨w.heap.size+1,1,none⟩=some (.int .i64 0):=(bb_ hrb2 1).1;have hj2:W2.cell? ⟨w.heap.size+1,2,none⟩=some (.int .i64 0):=(bb_ hrb2 2).1;have hj3:W2.cell? ⟨w.heap.size+1,3,none⟩=some (.slice none 0 0):=(bb_ hrb2 3).1;have hf0:W2.frozen? ⟨w.heap.size+1,0,none⟩=false:=(bb_ hrb2 0).2;have hf1:W2.frozen? ⟨w.heap.size+1,1,none⟩=false:=(bb_ hrb2 1).2;have hf2:W2.frozen? ⟨w.heap.size+1,2,none⟩=false:=(bb_ hrb2 2).2;have hf3:W2.frozen? ⟨w.heap.size+1,3,none⟩=false:=(bb_ hrb2 3).2;have HO2:=hq_ hob2;have HR2:=hq_ hrb2;have HG:=hq_ hgrow;have HW2:=hq_ hown2;have HBE:=hq_ hbel;have hzz:=hbel.size;clear hob2 hrb2 hgrow hown2 hbel;go_wp2_with fail
    rw [Exit.noGoto_ret];have hA:a7_ (w.heap.size+1+1) W2 ((((W2.setCell ⟨w.heap.size+1,0,none⟩ (.slice va hl.length vc)).setCell ⟨w.heap.size+1,1,none⟩ (.int .i64 s)).setCell ⟨w.heap.size+1,2,none⟩ (.int .i64 d)).setCell ⟨w.heap.size+1,3,none⟩ (.slice ya cl.length yc)):=
     ((((a7_.refl _ W2).setCell sq_ _).setCell sq_ _).setCell sq_ _).setCell sq_ _
    have hB3:Below w.heap.size w ((((W2.setCell ⟨w.heap.size+1,0,none⟩ (.slice va hl.length vc)).setCell ⟨w.heap.size+1,1,none⟩ (.int .i64 s)).setCell ⟨w.heap.size+1,2,none⟩ (.int .i64 d)).setCell ⟨w.heap.size+1,3,none⟩ (.slice ya cl.length yc)):=
     ((((HTC.out.below.trans (HBE.out.mono oq_)).setCell (p:=⟨w.heap.size+1,0,none⟩) sq_ _).setCell (p:=⟨w.heap.size+1,1,none⟩) sq_ _).setCell (p:=⟨w.heap.size+1,2,none⟩) sq_ _).setCell (p:=⟨w.heap.size+1,3,none⟩) sq_ _
    have hR3:=dg_ (x':=.slice va hl.length vc) (y':=.int .i64 s) (z':=.int .i64 d) (u':=.slice ya cl.length yc) HR2.out;have hM3:b5_ w.heap.size ds ((((W2.setCell ⟨w.heap.size+1,0,none⟩ (.slice va hl.length vc)).setCell ⟨w.heap.size+1,1,none⟩ (.int .i64 s)).setCell ⟨w.heap.size+1,2,none⟩ (.int .i64 d)).setCell ⟨w.heap.size+1,3,none⟩ (.slice ya cl.length yc)):=by
     obtain ⟨W0,hm1,hm2,hm3⟩:=HTC.out.marks;refine b5_.keep (b5_.below hm1 (hm3.trans (HBE.out.mono oq_))) ⟨hA.size,fun k o _ hk ho=>?_⟩;have hne:k≠w.heap.size+1:=fun e=>by subst e;rw [HR2.out] at hk;cases hk;cases ho
     rw [Below.heap_setCell _ _ _ _ hne,Below.heap_setCell _ _ _ _ hne,Below.heap_setCell _ _ _ _ hne,Below.heap_setCell _ _ _ _ hne];exact hk
    have hd3:=(OwnI.kept_lt (w':=W2) HTC.out.hd fun k hk=>⟨HBE.out.block k (HTC.out.hlt k hk).1,hzz⟩).above hA;have hc3:=(HW2.out.mono (base':=w.heap.size+1+1) oq_).above hA;refine ce_ (B:=w.heap.size) ds _ hM3 fun w' hs=>?_;have hR4:=hs.cells _ _ hR3 rfl;have hx0:w'.cell? ⟨w.heap.size+1,0,none⟩=some (.slice va hl.length vc):=(bb_ hR4 0).1;have hx1:w'.cell? ⟨w.heap.size+1,1,none⟩=some (.int .i64 s):=(bb_ hR4 1).1;have hx2:w'.cell? ⟨w.heap.size+1,2,none⟩=some (.int .i64 d):=(bb_ hR4 2).1;have hx3:w'.cell? ⟨w.heap.size+1,3,none⟩=some (.slice ya cl.length yc):=(bb_ hR4 3).1;refine ⟨.agg #[.slice va hl.length vc,.int .i64 s,.int .i64 d,.slice ya cl.length yc],by simp [results,Tryz.results88,go_sem,hx0,hx1,hx2,hx3],?_⟩;have hrise:=HS.out.rise;have hnd:cl.Nodup:=by
     rw [HCL.out,List.take_length];refine List.pairwise_map.2 (hrise.1.imp_of_mem fun {a b} ha hb hab e=>?_);have h1:=(Int.emod_eq_emod_iff_emod_sub_eq_zero).1 e;have ha':=hrise.2 a ha;have hb':=hrise.2 b hb;have h2:(p.frm+a-s-(p.frm+b-s)) % d=a-b+d:=by
      rw [show p.frm+a-s-(p.frm+b-s)=(a-b+d)+d*(-1) by omega,Int.add_mul_emod_self_left];exact Int.emod_eq_of_lt oq_ oq_
     omega
    refine ⟨_,_,⟨hl,s,d,a0_ cl⟩,rfl,?_,⟨(hd3.shut hs).mono oq_,(hc3.shut hs).mono oq_⟩,hB3.trans hs.below⟩;rw [HHL.out];refine k4_ hw HS.out HST.out (ga_ hnd) fun y=>?_;rw [dj_,HCL.out,List.take_length];simp only [List.mem_map];exact ⟨fun ⟨c,h1,h2⟩=>⟨c,h1,h2.symm⟩,fun ⟨c,h1,h2⟩=>⟨c,h1,h2.symm⟩⟩
attribute [local go_sem] Oper.semAt_some
theorem lh_ (h c:Value) (p:Per) (w:World) (hp:a8_ w h c p) (hw:p.WF) (h1:p.frm≤1125899906842624) (h2:p.period≤1125899906842624) (hinf:p.cycle≠[]) :
  Calls Tryz.prog 88 #[.agg #[h,.int .i64 p.frm,.int .i64 p.period,c]] w (e7_ p.mem w):=by
 have f0:=hw.frm;have hl:∀ W,Below w.heap.size w W->Ints W h p.head:=fun W hb=>hp.hd.ext hb;have hlc:∀ W,Below w.heap.size w W->Ints W c p.cycle:=fun W hb=>hp.cy.ext hb;obtain ⟨⟨ha,hcap,rfl,hlc1,hcc1,hcells⟩,hlen,_⟩:=hp.hd;obtain ⟨⟨ca,ccap,rfl,_,_,hccells⟩,hclen,_⟩:=hp.cy;have hcne:((p.cycle.length:Int) == 0)=false:=by
  have:p.cycle.length≠0:=fun h=>hinf (List.eq_nil_of_length_eq_zero h);simpa using hinf
 have hcblk:∃ b o,ca=some ⟨b,o,none⟩∧b<w.heap.size:=by
  rcases hccells with h0|⟨b,o,rfl,hcell⟩
  ·exact absurd h0 hinf
  ·exact ⟨b,o,rfl,World.block_lt_of_cell? _ _ (hcell 0 (by
    rcases Nat.eq_zero_or_pos p.cycle.length with h|h
    ·exact absurd (List.eq_nil_of_length_eq_zero h) hinf
    ·exact h))⟩
 have HINF:=hq_ hinf;clear hinf hp hccells;refine callsIn_wide (n:=0).1 ?_;refine callsIn_of_wp_marks Tryz.func88 rfl trivial ?_ rfl;simp only [Tryz.ntmps88,List.size_toArray,List.length_cons,List.length_nil,Nat.reduceAdd,Nat.reduceSub,Array.replicate_succ,Array.replicate_zero,List.push_toArray,List.append_toArray,List.nil_append,List.cons_append]
 gi_wp2
 refine i6_ ?_
 gi_wp2_with (refine ⟨trivial,rfl,?_⟩;gi_at_call 130;refine (callsIn_wide.2 (pd_ ca ccap p _ hw HINF.out h2 (hlc _ xE))).mono ?_;rintro e w1 ⟨d,B,rfl,hcv,hS,hb1⟩;have hd0:=hS.pos;have hd1:=hS.le;obtain ⟨hc1,hf1⟩:=au_ hb1;have hz:w.heap.size+1+1<w1.heap.size:=(by have:=hb1.size;simp at this;omega);have hz1:w.heap.size+1<w1.heap.size:=oq_;have hz0:w.heap.size<w1.heap.size:=oq_)
 refine wpIn_label ?_
 gi_wp2_with fail
 have hk1:1≤B.length:=Back.lenB hS;have hk2:B.length≤17592186044416:=hcv.len;have HS:=hq_ hS;obtain ⟨cb,co,hca,hcb⟩:=hcblk;have HCA:=hq_ hca;have hB2:∀ W,Below w.heap.size w W->Ints W (.slice ca B.length ccap) B:=by
  subst hca;exact fun W hb=>(hcv.back xE hcb).ext hb
 clear hS hcv hlc hca;refine wpIn_loop (fun a W=>∃ (m bb:Nat) (u49 u50 u51 u52 u53 u88:Value) (ds:List Deferred),a=⟨#[.agg #[.slice ha p.head.length hcap,.int .i64 p.frm,.int .i64 p.period,.slice ca p.cycle.length ccap],.pointer (some ⟨w.heap.size,0,none⟩),.pointer (some ⟨w.heap.size+1,0,none⟩),.pointer (some ⟨w.heap.size+1+1,0,none⟩),undef,.int .i64 d,.slice ca B.length ccap,.pointer (some ⟨w1.heap.size,0,none⟩),.pointer (some ⟨bb,0,none⟩),undef,undef,undef,undef,undef,undef,undef,.pointer (some ⟨w.heap.size,0,none⟩),.slice ha p.head.length hcap,.pointer (some ⟨w.heap.size,3,none⟩),.slice ca p.cycle.length ccap,.int .i64 p.cycle.length,.bool false,undef,undef,undef,undef,undef,undef,undef,undef,undef,undef,undef,undef,undef,undef,undef,.tuple #[.int .i64 d,.slice ca B.length ccap],.pointer (some ⟨w.heap.size,2,none⟩),.int .i64 p.period,.pointer (some ⟨w.heap.size,3,none⟩),.slice ca p.cycle.length ccap,.tuple #[.int .i64 d,.slice ca B.length ccap],.int .i64 d,.slice ca B.length ccap,.pointer (some ⟨w.heap.size,1,none⟩),.int .i64 p.frm,.int .i64 d,.int .i64 (p.frm-d),u49,u50,u51,u52,u53,undef,undef,undef,undef,undef,undef,undef,undef,undef,undef,undef,undef,undef,undef,undef,undef,undef,undef,undef,undef,undef,undef,undef,undef,undef,undef,undef,undef,undef,undef,undef,undef,undef,undef,u88,undef,undef,undef,undef,undef,undef,undef,undef,undef,undef,undef,undef,undef,undef,undef,undef,undef,undef,undef,undef,undef,undef,undef,undef,undef,undef,undef,undef,undef],ds⟩∧Back p d B (m*B.length)∧CI w w1.heap.size p ha hcap ca ccap (m*B.length) 0 bb (p.frm-d*(m+1)) W∧b5_ w.heap.size ds W) (cMu w) ?start ?round
 case start=>
  refine ⟨0,w1.heap.size+1,undef,undef,undef,undef,undef,undef,[],rfl,?_,?_,b5_.nil _ _⟩
  ·rw [Nat.zero_mul];exact Back.zero hw HS.out
  ·obtain ⟨t1,t2,t3⟩:=t7_ hb1;have e0:p.frm-d*(((0:Nat):Int)+1)=p.frm-d:=by simp
   rw [Nat.zero_mul,e0];refine ⟨by exact xE,?_,?_,?_,?_,?_,hz,oq_⟩
   ·rw [Below.heap_alloc _ _ _ tq_,Below.heap_alloc _ _ _ oq_];exact t1
   ·rw [Below.heap_alloc _ _ _ tq_,Below.heap_alloc _ _ _ oq_];exact t2
   ·exact (Below.heap_alloc _ _ _ tq_).trans ((Below.heap_alloc _ _ _ oq_).trans t3)
   ·exact (Boxed.new w1 _ _).alloc _
   ·have:=Boxed.new (w1.alloc (.cells #[.int .i64 0] 3)) 3 (.int .i64 (p.frm-d));rw [World.size_alloc] at this;exact this
 case round=>
  rintro _ W ⟨m,bb,u49,u50,u51,u52,u53,u88,ds,rfl,hB,hCI,hM⟩;have HB:=hq_ hB;have HM:=hq_ hM;clear hB hM;have hbw:=hCI.below;have hbb:=hCI.bbox.lt;have hbs:=hCI.bs;have hhs:=hCI.hs
  gi_wp2_with (refine ⟨trivial,rfl,?_⟩;gi_at_call 131;refine (callsIn_wide.2 (oj_ _ _ ⟨_,_,_,rfl⟩)).mono ?_;rintro e w' ⟨rfl,rfl⟩)
  have hbx:(W.alloc (.cells #[.slice ca B.length ccap] 37)).cell? ⟨W.heap.size,0,none⟩=some (.slice ca B.length ccap):=by simp
  refine gx_ (x:=none) (gf:=161) (lb:=#[.pointer (some ⟨W.heap.size,0,none⟩)]) rfl (enters_of Tryz.func161 (by kernel_rfl) rfl)
   (ns_ (.slice ca B.length ccap) B W.heap.size _ (fun k=>k<w.heap.size∨k=W.heap.size) (hB2 _ xE) hbx (.inr rfl) (fun b o n c he=>by injection he with he;rw [HCA.out] at he;injection he with he;injection he with he;exact .inl (he ▸ hcb))) (fun h k=>h.trans k) (KpB.putObj (by intro k hk;simp;omega)) (fun y=>rfl)
   (fun pre W'=>Back p d B (m*B.length+pre.length)∧pre.length≤B.length∧CI w w1.heap.size p ha hcap ca ccap (m*B.length+pre.length) 0 bb (p.frm-d*(m+1)) W'∧KeepsOthers W W')
   (fun c' pre W'=>c'=.exit 0∧CX w w1.heap.size p d B ha hcap ca ccap W'∧KeepsOthers W W')
   (fun pre A C row hI hg hr=>by
    have hr':∀ r,row=some r->w.heap.size≤r∧∃ o:Obj,A.heap[r]? = some o∧o.isCells=false:=fun r e=>by
     rcases hr r e with ⟨h,_⟩|⟨h,h'⟩
     ·cases h
     ·refine ⟨?_,h'⟩;have:=hbw.size;simp at h;omega
    refine ⟨hI.1,hI.2.1,hI.2.2.1.grow hg hr',KeepsOthers.grow hI.2.2.2 hg fun r e=>?_⟩;rcases hr r e with ⟨h,_⟩|⟨h,_⟩
    ·cases h
    ·simp at h;omega)
   (fun c' pre A C row hI hg hr=>by
    have hr':∀ r,row=some r->w.heap.size≤r∧∃ o:Obj,A.heap[r]? = some o∧o.isCells=false:=fun r e=>by
     rcases hr r e with ⟨h,_⟩|⟨h,h'⟩
     ·cases h
     ·refine ⟨?_,h'⟩;have:=hbw.size;simp at h;omega
    obtain ⟨h1,⟨s,j,b2,bv,h2,h3⟩,h4⟩:=hI;refine ⟨h1,⟨s,j,b2,bv,h2,h3.grow hg hr'⟩,KeepsOthers.grow h4 hg fun r e=>?_⟩;rcases hr r e with ⟨h,_⟩|⟨h,_⟩
    ·cases h
    ·simp at h;omega)
   (fun _ _ _=>trivial) ⟨HB.out,Nat.zero_le _,hCI.grow (World.grownBy_alloc W _ none) (fun r e=>by cases e),KeepsOthers.alloc _ _⟩
   (fun y=>⟨#[.agg #[.slice ha p.head.length hcap,.int .i64 p.frm,.int .i64 p.period,.slice ca p.cycle.length ccap],.pointer (some ⟨w.heap.size,0,none⟩),.pointer (some ⟨w.heap.size+1,0,none⟩),.pointer (some ⟨w.heap.size+1+1,0,none⟩),undef,.int .i64 d,.slice ca B.length ccap,.pointer (some ⟨w1.heap.size,0,none⟩),.pointer (some ⟨bb,0,none⟩),undef,.int .i64 y.2,undef,undef,undef,undef,undef,.pointer (some ⟨w.heap.size,0,none⟩),.slice ha p.head.length hcap,.pointer (some ⟨w.heap.size,3,none⟩),.slice ca p.cycle.length ccap,.int .i64 p.cycle.length,.bool false,undef,undef,undef,undef,undef,undef,undef,undef,undef,undef,undef,undef,undef,undef,undef,.tuple #[.int .i64 d,.slice ca B.length ccap],.pointer (some ⟨w.heap.size,2,none⟩),.int .i64 p.period,.pointer (some ⟨w.heap.size,3,none⟩),.slice ca p.cycle.length ccap,.tuple #[.int .i64 d,.slice ca B.length ccap],.int .i64 d,.slice ca B.length ccap,.pointer (some ⟨w.heap.size,1,none⟩),.int .i64 p.frm,.int .i64 d,.int .i64 (p.frm-d),u49,u50,u51,.slice ca B.length ccap,.func (.func 161) #[] #[.pointer (some ⟨W.heap.size,0,none⟩)],.int .i64 y.1,.int .i64 y.2,undef,undef,undef,undef,undef,undef,undef,undef,undef,undef,undef,undef,undef,undef,undef,undef,undef,undef,undef,undef,undef,undef,undef,undef,undef,undef,undef,undef,undef,undef,undef,undef,u88,undef,undef,undef,undef,undef,undef,undef,undef,undef,undef,undef,undef,undef,undef,undef,undef,undef,undef,undef,undef,undef,undef,undef,undef,undef,undef,undef,undef,undef],[]⟩) ?assign ?body ?done ?stop
  case assign=>
   intro l y W' K hK
   gi_wp2
   exact hK
  case body=>
   rintro l pre ⟨y1,y2⟩ W' ⟨hB',hpl,hCI',hKO⟩ hen;obtain ⟨hlt,hy⟩:=vy_ hen;have he:=th_ (B:=B) (d:=d) (f:=p.frm) (m:=m) hlt;injection hy with hy1 hy2
   rw [<- hy2] at he;have hyb:=bl_ HS.out.rise (i:=B.length-1-pre.length) oq_;rw [<- hy2] at hyb;obtain ⟨j,hj⟩:∃ j,j=m*B.length+pre.length:=⟨_,rfl⟩;rw [<- hj] at hB' hCI' he;have HJ:=hq_ (show m*B.length+(pre ++ [(y1,y2)]).length=j+1 by simp;omega);have hpl':(pre ++ [(y1,y2)]).length≤B.length:=by simp;omega
   have HPL:=hq_ hpl';have hel:=Back.e_lt HS.out hB';have heg:=Back.e_ge HS.out hB';have hif:=hB'.hif;have hlb:=gp_ hw (j:=j);obtain ⟨bv,hbv⟩:∃ bv,bv=p.frm-d*((m:Int)+1):=⟨_,rfl⟩;have HBV:=hq_ hbv;rw [<- hbv] at hCI' he;obtain ⟨e,hee⟩:∃ e,e=eAt B d p.frm j:=⟨_,rfl⟩;rw [<- hee] at he hel heg;have HE:=hq_ hee;have heU:e<p.frm:=oq_;clear hel;have HB':=hq_ hB';have hbH:=hCI'.hbox;have hbS:=hCI'.sbox;have hbB:=hCI'.bbox;have hh1:=hbH.cell;have hh2:=hbH.frozen;have hs1:=hbS.cell;have hs2:=hbS.frozen;have hb1':=hbB.cell;have HI:=hq_ (hl W' hCI'.below);obtain ⟨nh,hnh⟩:∃ nh,nh=p.head.length-j:=⟨_,rfl⟩;rw [<- hnh] at hh1;have HN:=hq_ hnh;have HKO:=hq_ hKO;have HCI:=hq_ hCI';have hbB1:bv+y2=e:=he;have hnl:nh≤17592186044416:=oq_;clear hB' hCI' hKO hbH hbS hbB hee hbv hj hy1 hy2 hnh hpl' hen hpl hif;have hcap1:nh≤hcap:=by have:=HN.out;omega
   by_cases hn0:nh=0
   ·have hlast:ap_ p j=-1:=by unfold ap_;rw [if_pos (by rw [<- HN.out];exact hn0)]
    subst hn0;have HL:=hq_ hlast;clear hlast hlb
    by_cases hneg:e<0
    ·gi_wp2_with fail
     exact ⟨KeepsFrom.refl _ _,rfl,⟨0,j,bb,bv,Back.done0 hw HS.out HB'.out (by rw [<- HE.out];exact hneg) (by rw [HL.out];omega),HCI.out⟩,HKO.out⟩
    ·have hge:0≤e:=oq_;have hneb:(e != -1)=true:=by rw [bne_iff_ne];omega
     have hmax:max e (-1)=e:=oq_;have HD:=hq_ (Back.done hw HS.out HB'.out (by rw [<- HE.out,HL.out];omega) (by rw [<- HE.out,HL.out];omega));have hc1':=HCI.out.setS (e+1);have HC1:=hq_ hc1';clear hneg hc1'
     gi_wp2_with fail
     refine ⟨(KeepsOthers.setCell _ _ _).from _,rfl,⟨e+1,j,bb,bv,?_,HC1.out⟩,KeepsOthers.trans HKO.out (KeepsOthers.setCell _ _ _)⟩;have:=HD.out;rwa [<- HE.out,HL.out,hmax] at this
   ·obtain ⟨⟨ha',hcap',he1,_,_,hcl⟩,_,_⟩:=HI.out;injection he1 with he1 he2 he3
    subst he1;rcases hcl with hcl|⟨b,o,hab,hcl⟩
    ·exfalso;rw [hcl] at HN;have:=HN.out;simp at this;exact hn0 this
    have hcx:=hcl (nh-1) (by have:=HN.out;omega);have hlast:ap_ p j=p.head.getD (nh-1) 0:=by unfold ap_;rw [if_neg (by rw [<- HN.out];exact hn0),<- HN.out]
    rw [<- hlast] at hcx;have hx0:0≤ap_ p j:=by rw [hlast];exact (bl_ hw.head (by have:=HN.out;omega)).1
    obtain ⟨x,hx⟩:∃ x,x=ap_ p j:=⟨_,rfl⟩;rw [<- hx] at hcx hx0 hlb;have HX:=hq_ hx;have hi1:((nh:Int)-1).toNat=nh-1:=oq_;have hnI:(0:Int)<nh:=oq_;have hnI2:(nh:Int)-1<nh:=oq_;subst hab;clear hlast hx hcl he2 he3 hn0
    by_cases hex:e=x
    ·have hne:(e != x)=false:=by simpa using hex
     have hge:0≤e:=oq_;have HST:=hq_ (Back.step hw HS.out HB'.out (by rw [<- HE.out,<- HX.out];exact hex) (by rw [<- HE.out,<- HX.out];omega));have hc1':=HCI.out.setH (j+1);have hnn:p.head.length-(j+1)=nh-1:=by have:=HN.out;omega
     rw [hnn] at hc1';have HC1:=hq_ hc1';clear hex hc1' hnn
     gi_wp2_with fail
     have e9:=HJ.out;exact ⟨(KeepsOthers.setCell _ _ _).from _,fun k hk=>bx_ (by rcases hk with hk|hk <;> omega),by show Back p d B (m*B.length+(pre ++ [(y1,y2)]).length);rw [e9];exact HST.out.1,HPL.out,by show CI w w1.heap.size p _ hcap ca ccap (m*B.length+(pre ++ [(y1,y2)]).length) 0 bb (p.frm-d*(↑m+1)) _;rw [e9,<- HBV.out];exact HC1.out,KeepsOthers.trans HKO.out (KeepsOthers.setCell _ _ _)⟩
    ·have hne:(e != x)=true:=by rw [bne_iff_ne];exact hex
     have HD:=hq_ (Back.done hw HS.out HB'.out (by rw [<- HE.out,<- HX.out];exact hex) (by rw [<- HE.out,<- HX.out];omega));have hc1':=HCI.out.setS (max e x+1);have HC1:=hq_ hc1';have hxlt:x<9007199254740992:=oq_;clear hex hc1'
     gi_wp2_with fail
     all_goals exact ⟨(KeepsOthers.setCell _ _ _).from _,rfl,⟨max e x+1,j,bb,bv,by have:=HD.out;rwa [<- HE.out,<- HX.out] at this,HC1.out⟩,KeepsOthers.trans HKO.out (KeepsOthers.setCell _ _ _)⟩
  case done=>
   rintro D xs W' hD rfl ⟨hB',_,hCI',hKO⟩ hdef;have e1:m*B.length+(bk B).length=(m+1)*B.length:=by rw [ee_,Nat.succ_mul]
   rw [e1] at hB' hCI';obtain ⟨bv,hbv⟩:∃ bv,bv=p.frm-d*((m:Int)+1):=⟨_,rfl⟩;have hlow:-1125899906842625≤bv∧bv≤p.frm:=by
    have g1:=Back.e_ge HS.out hB';have g2:=th_ (B:=B) (d:=d) (f:=p.frm) (m:=m+1) (i:=0) oq_;have g3:=bl_ HS.out.rise (i:=B.length-1-0) oq_;simp only [Nat.add_zero,Nat.sub_zero] at g2 g3;rw [<- g2,show d*(((m+1:Nat):Int)+1)=d*((m:Int)+1)+d by push_cast;rw [Int.mul_add d ((m:Int)+1)];omega] at g1;have g4:0≤d*((m:Int)+1):=Int.mul_nonneg oq_ oq_;omega
   rw [<- hbv] at hCI';have HBV:=hq_ hbv;have hc1':=hCI'.bbox.cell;have hf1':=hCI'.bbox.frozen;have HB':=hq_ hB';have HCI:=hq_ (hCI'.newB (bv-d));have HH:=hq_ hCI'.hbox.cell;have hW'W:W.heap.size≤W'.heap.size:=hKO.size;have HKO:=hq_ hKO;have HDEF:=hq_ hdef;have HMU:=hq_ hCI.hbox.cell;clear hB' hCI' hbv e1 hKO hdef hCI hbx
   gi_wp2_with fail
   refine ⟨⟨m+1,W'.heap.size,_,_,_,_,_,_,_,rfl,HB'.out,?_,?_⟩,?_⟩
   ·have e2:p.frm-d*(((m+1:Nat):Int)+1)=bv-d:=by rw [HBV.out];push_cast;rw [Int.mul_add d ((m:Int)+1)];omega
    rw [e2];exact HCI.out
   ·have h9:=hD;have h7:=hbw.size;simp only [World.size_alloc] at h9;have h8:=HDEF.out;refine b5_.keep (b5_.cons HM.out oq_ (HKO.out.from _) oq_ h8) ?_;exact (KeepsOthers.alloc _ _).from _
   ·have h9:=HB'.out.le;have h8:(m+1)*B.length=m*B.length+B.length:=Nat.succ_mul _ _;have e3:=Ext.cell (Ea (Er W') (.cells #[.int .i64 (bv-d)] 3)) HH.out;simp only [cMu,HMU.out,e3];omega
  case stop=>
   rintro D c' pre W' hD _ ⟨rfl,⟨s,j,b2,bv,hst,hCI'⟩,hKO⟩ hdef;have h9:=hD;have h7:=hbw.size;simp only [World.size_alloc] at h9;refine wpIn_exit ?_
   conv=>whnf
   apply_assumption
   exact wpIn_wide.2 (rn_ hw h1 oq_ HS.out hst hCI' (b5_.cons HM.out oq_ (hKO.from _) oq_ hdef) (hB2 _ hCI'.below) (hl _ hCI'.below))
end Go.Proofs.YthjnojbeimchdaaGreat
namespace Go.Proofs.YthjnojbeimchdaaGreat
open Go.RowKit Kal
def in_ (c:Per) (w:World) (e:Ending) (w':World):Prop:=
 ∃ (h' c':Value),e=.returned (perV h' c' c.frm c.period)∧POx w' w.heap.size h' c' c∧Below w.heap.size w w'
theorem fm_ (h c:Value) (p q:Per) (w:World) (hp:a8_ w h c p) (hw:p.WF) (h1:p.frm≤1125899906842624) (h2:p.period≤1125899906842624) (hq:a6_ q p.mem) :
  Calls Tryz.prog 88 #[perV h c p.frm p.period] w (in_ q w):=by
 have key:Calls Tryz.prog 88 #[perV h c p.frm p.period] w (e7_ p.mem w):=by
  by_cases hc:p.cycle=[]
  ·exact oa_ h c p w hp hw h1 hc
  ·exact lh_ h c p w hp hw h1 h2 hc
 refine key.mono fun e w' hr=>?_;obtain ⟨h',c',q',rfl,hq',hp',hb⟩:=hr;obtain rfl:=hq'.unique hq;exact ⟨h',c',rfl,hp',hb⟩
def b6_ (c:Per) (w:World) (e:Ending) (w':World):Prop:=
 ∃ (h' c':Value),e=.returned (.tuple #[perV h' c' c.frm c.period,.int .i64 0])∧POx w' w.heap.size h' c' c∧Below w.heap.size w w'
theorem ty_ (h c:Value) (p q:Per) (w:World) (hp:a8_ w h c p) (hv:Valid p) (hq:a6_ q p.mem) :
  Calls Tryz.prog 97 #[perV h c p.frm p.period] w (b6_ q w):=by
 have hl:∀ W,Below w.heap.size w W->a8_ W h c p:=fun W hb=>hp.ext hb;have hvb:=(as_ p).2 hv;have HV:=hq_ hv;have HF:Hid (p.frm≤1125899906842624):=by have:=hv.frm;exact hq_ oq_
 have HP:Hid (p.period≤1125899906842624):=by have:=hv.per;exact hq_ oq_
 have HQ:=hq_ hq;clear hv hp hq
 go_enter Tryz.func97,Tryz.ntmps97
 go_wp2_with (first|(go_at_call 65;refine (cd_ h c p _ (hl _ xE)).mono ?_;rintro e w1 ⟨rfl,hb1⟩;obtain ⟨hc1,hf1⟩:=au_ hb1;have hz1:w.heap.size+1<w1.heap.size:=(by have:=hb1.size;simp at this;omega))|(go_at_call 88;refine (fm_ h c p q _ (hl _ xE) HV.out.wf HF.out HP.out HQ.out).mono ?_;rintro e w2 ⟨h',c',rfl,hp2,hb2⟩;obtain ⟨a1,c1,a2,c2,rfl,rfl⟩:=hp2.form;obtain ⟨hc2,hf2⟩:=au_ hb2;have HP2:=hq_ hp2;clear hp2))
 exact bodyPost_ret (v:=.tuple #[perV (.slice a1 q.head.length c1) (.slice a2 q.cycle.length c2) q.frm q.period,.int .i64 0]) (by simp [results,Tryz.results97,go_sem, *]) rfl ⟨_,_,rfl,(HP2.out.above (by (repeat' (with_reducible first|exact a7_.refl _ _|refine a7_.alloc ?_ _|refine a7_.drew ?_|refine a7_.drewN ?_ _|refine a7_.setCell ?_ (by first|(simp;done)|(simp;omega)|omega) _)))).mono (by have:=hb1.size;simp at this;omega),xE⟩
end Go.Proofs.YthjnojbeimchdaaGreat
