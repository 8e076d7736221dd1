/- What a law needs beside the base. -/
import Derived.Test.YthjnojbeimchdaaGreatC12g
set_option linter.unusedVariables false
set_option linter.unusedSimpArgs false
namespace Go.Proofs.YthjnojbeimchdaaGreat
open Go.RowKit Go.Maps Kal
theorem MadeM.mv {m:List (List Per)} (h:MadeM m):MV 0 m:=⟨(validM_of h.vt).2 ⟨by have:=h.len;omega,fun t ht=>by have:=h.tlen t ht;omega⟩,h.vt⟩
end Go.Proofs.YthjnojbeimchdaaGreat
namespace Go.Proofs.YthjnojbeimchdaaGreat
open Go.RowKit Go.Maps Kal
theorem mem_mod {p:Per} (h:p.WF) {x y:Int} (hx:p.frm≤x) (hy:p.frm≤y) (hd:p.period∣x-y):p.mem x↔p.mem y:=by
 rw [mem_resP h hx,mem_resP h hy,emod_of_dvd_sub hd]
theorem tmem_mod {t:List Per} (h:∀ p∈t,MFac p) {x y:Int} (hx:8≤x) (hy:8≤y) (hd:(27720:Int)∣x-y):tmem t x↔tmem t y:=by
 have key:∀ {x y:Int},8≤x→8≤y→(27720:Int)∣x-y→tmem t x→tmem t y:=fun hx hy hd hm p hp=>by
  have hf:=h p hp
  have:=hf.frm
  exact (mem_mod hf.wf (by omega) (by omega) (Int.dvd_trans hf.dvd hd)).1 (hm p hp)
 exact ⟨key hx hy hd,key hy hx (by obtain ⟨k,hk⟩:=hd;exact ⟨-k,by omega⟩)⟩
theorem made_mod {m:List (List Per)} (h:∀ t∈m,∀ p∈t,MFac p) {x y:Int} (hx:8≤x) (hy:8≤y) (hd:(27720:Int)∣x-y):mmem m x↔mmem m y:=
 ⟨fun ⟨t,ht,hm⟩=>⟨t,ht,(tmem_mod (h t ht) hx hy hd).1 hm⟩,fun ⟨t,ht,hm⟩=>⟨t,ht,(tmem_mod (h t ht) hx hy hd).2 hm⟩⟩
theorem barren_no {m:List (List Per)} (h:∀ t∈m,barrenT t) (x:Int):¬ mmem m x:=fun ⟨t,ht,hx⟩=>h t ht x hx
end Go.Proofs.YthjnojbeimchdaaGreat
namespace Go
open Go.RowKit
section
variable {P:Program} {ops:Array Oper} {Q:Exit→Act→World→Prop} {md:Region.Mode}
variable {w0:World} {ph tl:List Nat} {fr:(Nat→Value)→Act} {F:Nat→(Nat→Value)→(Nat→Nat)→(Nat→Nat)→World→Prop} {S:World→Prop}
def StepS (P:Program) (md:Region.Mode) (ops:Array Oper) (Q:Exit→Act→World→Prop) (w0:World) (fr:(Nat→Value)→Act) (F:Nat→(Nat→Value)→(Nat→Nat)→(Nat→Nat)→World→Prop) (S:World→Prop) (k:Nat) (o:Oper):Prop:=
 ∀ (v:Nat→Value) (lo hi:Nat→Nat) (W:World),Below w0.heap.size w0 W→S W→(∀ j∈Region.deps md ops k,lo j≤hi j∧hi j≤W.heap.size∧F j v lo hi W)→
  (Region.wanted o (yielded ops (fr v).tmps)=true∧
  ∀ K:Act→World→Prop,(∀ x W',Below W.heap.size W W'→F k (fun j=>if j=k then x else v j) (fun j=>if j=k then W.heap.size else lo j) (fun j=>if j=k then W'.heap.size else hi j) W'→K (fr (fun j=>if j=k then x else v j)) W')→Oper.wp P o (fr v) W K Q) ∨
  (Region.wanted o (yielded ops (fr v).tmps)=false∧
  ∀ K:Act→World→Prop,(∀ x W',Below W.heap.size W W'→F k (fun j=>if j=k then x else v j) (fun j=>if j=k then W.heap.size else lo j) (fun j=>if j=k then W'.heap.size else hi j) W'→K (fr (fun j=>if j=k then x else v j)) W')→K ((fr v).put o.dst undef) W)
def StepsS (P:Program) (md:Region.Mode) (ops:Array Oper) (Q:Exit→Act→World→Prop) (w0:World) (fr:(Nat→Value)→Act) (F:Nat→(Nat→Value)→(Nat→Nat)→(Nat→Nat)→World→Prop) (S:World→Prop):List Nat→Prop
 | []=>True
 | k :: r=>(∀ o,ops[k]? = some o→StepS P md ops Q w0 fr F S k o)∧StepsS P md ops Q w0 fr F S r
theorem StepsS.cons {k:Nat} {o:Oper} {r:List Nat} (e:ops[k]? = some o) (h:StepS P md ops Q w0 fr F S k o) (t:StepsS P md ops Q w0 fr F S r):StepsS P md ops Q w0 fr F S (k :: r):=⟨fun o' e'=>by rw [e] at e';cases e';exact h,t⟩
theorem StepsS.nil:StepsS P md ops Q w0 fr F S []:=trivial
theorem StepsS.get:∀ {l:List Nat},StepsS P md ops Q w0 fr F S l→∀ i∈l,∀ o,ops[i]? = some o→StepS P md ops Q w0 fr F S i o:=by
 intro l
 induction l with
 | nil=>intro _ i hi;simp at hi
 | cons k l ih=>
  intro h i hi
  rcases List.mem_cons.1 hi with rfl|hi
  ·exact h.1
  ·exact ih h.2 i hi
theorem wpAny_factsS (hc:Region.chkH md ops ph tl=true) (hnd:ph.Nodup)
  (hstab:∀ i v lo hi W W',F i v lo hi W→Below W.heap.size W W'→F i v lo hi W')
  (hloc:∀ i v v' lo lo' hi hi' W,(∀ j,j=i∨j∈Region.deps md ops i→v j=v' j∧lo j=lo' j∧hi j=hi' j)→F i v lo hi W→F i v' lo' hi' W)
  (hS:∀ W,Below w0.heap.size w0 W→S W)
  (steps:StepsS P md ops Q w0 fr F S ph)
  (fin:∀ (v:Nat→Value) (lo hi:Nat→Nat) (W:World),Below w0.heap.size w0 W→S W→(∀ i,ph.contains i=true→w0.heap.size≤lo i∧lo i≤hi i∧hi i≤W.heap.size∧F i v lo hi W)→
   (∀ i j,ph.contains i=true→ph.contains j=true→i≠j→hi i≤lo j∨hi j≤lo i)→wpList P ops Q (tl.filterMap fun i=>ops[i]?) (fr v) W) :
  ∀ (fuel:Nat) (l:Array Bool) (done:List Nat) (v:Nat→Value) (lo hi:Nat→Nat) (a:Act) (W:World),DoneF w0 ph ops md fr F l done v lo hi a W→fuel+done.length=ops.size→wpAny P md ops Q fuel l a W:=by
 unfold Region.chkH at hc
 simp only [Bool.and_eq_true,List.all_eq_true,List.mem_range,decide_eq_true_eq,bne_iff_ne,ne_eq] at hc
 obtain ⟨⟨⟨⟨hone,hph⟩,hback⟩,htl⟩,hfirst⟩:=hc
 have hphlt:∀ i∈ph,i<ops.size:=fun i hi'=>by
  rcases Nat.lt_or_ge i ops.size with h|h
  ·exact h
  ·have:=(hph i hi').1;rw [Array.getElem?_eq_none h] at this;simp at this
 have hcases:∀ i,i<ops.size→(i∈ph∧i ∉ tl)∨(i ∉ ph∧i∈tl):=fun i hi'=>by
  have:=hone i hi'
  by_cases h1:i∈ph <;> by_cases h2:i∈tl <;> simp_all
 have hlens:ph.length+tl.eraseDups.length ≥ 0:=Nat.zero_le _
 have full:∀ {l done v lo hi a W},DoneF w0 ph ops md fr F l done v lo hi a W→(∀ i∈ph,i∈done)→∀ fuel,tl.length≤fuel→wpAny P md ops Q fuel l a W:=by
  intro l done v lo hi a W hd hall fuel hf
  rw [hd.act]
  have hm:∀ i,ph.contains i=true→i∈done:=fun i hi'=>hall i (by simpa using hi')
  refine wpAny_tail (fun i hi' j hj=>by simpa using hback i hi' j hj) tl fuel l _ W (fun t r e=>?_) htl hf hd.size (fun j hj=>?_) (fin v lo hi W hd.below (hS W hd.below) (fun i hi'=>hd.facts i (hm i hi')) fun i j hi' hj hne=>hd.apart i (hm i hi') j (hm j hj) hne)
  ·rw [e] at hfirst;simp only [Bool.and_eq_true] at hfirst;exact hfirst.2
  ·rw [hd.iff]
   rcases hcases j hj with ⟨h1,h2⟩|⟨h1,h2⟩
   ·exact ⟨fun _=>h2,fun _=>hall j h1⟩
   ·exact ⟨fun h=>absurd (hd.lt j h) h1,fun h=>absurd h2 h⟩
 have htnd:tl.Nodup:=by
  cases tl with
  | nil=>exact .nil
  | cons t r=>
   simp only [Bool.and_eq_true] at hfirst
   have key:∀ (r:List Nat) (t:Nat),Region.chain md ops t r=true→(t :: r).Nodup:=by
    intro r
    induction r with
    | nil=>intro t _;simp
    | cons t' r ih=>
     intro t h
     have hlt:=chain_lt h
     simp only [Region.chain,Bool.and_eq_true] at h
     exact List.nodup_cons.2 ⟨fun hx=>by have:=hlt t hx;omega,ih t' h.2⟩
   exact key r t hfirst.2
 have hsize:ph.length+tl.length≤ops.size:=by
  have:(ph ++ tl).length≤(List.range ops.size).length:=nodupN_length_le (List.nodup_append.2 ⟨hnd,htnd,fun x hx y hy e=>by
   subst e
   rcases hcases x (hphlt x hx) with h|h
   ·exact h.2 hy
   ·exact h.1 hx⟩) fun x hx=>List.mem_range.2 (by
    rcases List.mem_append.1 hx with h|h
    ·exact hphlt x h
    ·exact htl x h)
  simpa using this
 intro fuel
 induction fuel with
 | zero=>
  intro l done v lo hi a W hd hlen
  have h1:done.length≤ph.length:=nodupN_length_le hd.nd hd.lt
  refine full hd (fun i hi'=>?_) 0 (by omega)
  by_cases h:i∈done
  ·exact h
  ·have h2:(i :: done).length≤ph.length:=nodupN_length_le (List.nodup_cons.2 ⟨h,hd.nd⟩) (fun x hx=>by
    rcases List.mem_cons.1 hx with rfl|hx
    ·exact hi'
    ·exact hd.lt x hx)
   simp at h2;omega
 | succ fuel ih=>
  intro l done v lo hi a W hd hlen
  by_cases hfull:∀ i∈ph,i∈done
  ·have h1:ph.length≤done.length:=nodupN_length_le hnd hfull
   have h2:done.length≤ph.length:=nodupN_length_le hd.nd hd.lt
   exact full hd hfull _ (by omega)
  have hlow:∀ x∈Region.ready md ops l,x∈ph:=fun x hx=>by
   have hx':=(Region.ready_spec x).1 hx
   rcases hcases x hx'.1 with ⟨h,_⟩|⟨_,h⟩
   ·exact h
   ·exfalso
    cases htl':tl with
    | nil=>rw [htl'] at h;simp at h
    | cons t r=>
     rw [htl'] at h hfirst
     simp only [Bool.and_eq_true,List.all_eq_true] at hfirst
     rcases List.mem_cons.1 h with rfl|h
     ·have hs:=sat_listed hd.down ops.size _ hx'.2.2
      exact hfull fun i hi'=>(hd.iff i).1 (hs i (by have:=hfirst.1 i hi';simpa using this))
     ·obtain ⟨y,h2,h3,h4⟩:=chain_pred hfirst.2 x h
      have h5:=hd.lt y ((hd.iff y).1 (hx'.2.2 y h4))
      rcases hcases y (by omega) with h6|h6
      ·exact h6.2 (by rw [htl'];exact h2)
      ·exact h6.1 h5
  refine ⟨fun hnil=>?_,fun x hx=>?_⟩
  ·exfalso
   refine hfull ?_
   intro i
   induction i using Nat.strongRecOn with
   | _ i ihi=>
    intro hi'
    by_cases h:i∈done
    ·exact h
    ·exfalso
     have hin:i∈Region.ready md ops l:=by
      rw [Region.ready_spec]
      refine ⟨hphlt i hi',?_,fun j hj=>?_⟩
      ·rw [getD_tf (by have:=hd.size;have:=hphlt i hi';omega)]
       cases hb:l.getD i false with
       | false=>rfl
       | true=>exact absurd ((hd.iff i).1 hb) h
      ·have hji:j<i:=by simpa using hback i (hphlt i hi') j hj
       exact (hd.iff j).2 (ihi j hji (by have:=(hph i hi').2 j hj;simpa using this))
     rw [hnil] at hin;simp at hin
  ·have hxm:=hlow x hx
   have hx':=(Region.ready_spec x).1 hx
   have hstep:=steps.get x hxm _ (Array.getElem?_eq_getElem hx'.1)
   have hxn:x ∉ done:=fun h=>by
    have h2:=(hd.iff x).2 h
    rw [getD_tf (by have:=hd.size;omega),h2] at hx';simp at hx'
   unfold wpOp
   rw [Array.getElem?_eq_getElem hx'.1]
   simp only
   have hcond:∀ y W',Below W.heap.size W W'→F x (fun j=>if j=x then y else v j) (fun j=>if j=x then W.heap.size else lo j) (fun j=>if j=x then W'.heap.size else hi j) W'→wpAny P md ops Q fuel (l.setIfInBounds x true) (fr (fun j=>if j=x then y else v j)) W':=?cond
   ·rcases hstep v lo hi W hd.below (hS W hd.below) (fun j hj=>(hd.facts j ((hd.iff j).1 (hx'.2.2 j hj))).2) with ⟨hw,hrun⟩|⟨hw,hrun⟩
    ·rw [hd.act,if_pos hw]
     exact .inl (hrun _ hcond)
    ·rw [hd.act,if_neg (by rw [hw];simp)]
     exact hrun _ hcond
   intro y W' hb hF
   have hbel:Below w0.heap.size w0 W':=hd.below.trans (hb.mono hd.below.size)
   refine ih (l.setIfInBounds x true) (x :: done) _ (fun j=>if j=x then W.heap.size else lo j) (fun j=>if j=x then W'.heap.size else hi j) _ W' ⟨by simpa using hd.size,fun i=>?_,List.nodup_cons.2 ⟨hxn,hd.nd⟩,fun i hi'=>?_,fun i hi' j hj=>?_,rfl,hbel,fun i hi'=>?_,fun i hi' j hj hne=>?_⟩ (by simp;omega)
   ·by_cases e:x=i
    ·subst e;rw [getD_set_same (by have:=hd.size;omega)];simp
    ·rw [getD_set_other e,hd.iff,List.mem_cons];exact ⟨.inr,fun h=>h.resolve_left (fun e'=>e e'.symm)⟩
   ·rcases List.mem_cons.1 hi' with rfl|h
    ·exact hxm
    ·exact hd.lt i h
   ·have hji:l.getD j false=true:=by
     by_cases e:x=i
     ·subst e;exact hx'.2.2 j hj
     ·rw [getD_set_other e] at hi';exact hd.down i hi' j hj
    by_cases e:x=j
    ·subst e;exact getD_set_same (by have:=hd.size;omega)
    ·rw [getD_set_other e];exact hji
   ·by_cases e:i=x
    ·subst e
     refine ⟨?_,?_,?_,hF⟩
     ·simp only [if_true];exact hd.below.size
     ·simp only [if_true];exact hb.size
     ·simp only [if_true];exact Nat.le_refl _
    ·have hid:i∈done:=by rcases List.mem_cons.1 hi' with h|h;exact absurd h e;exact h
     obtain ⟨f1,f2,f3,f4⟩:=hd.facts i hid
     refine ⟨by simp only [if_neg e];exact f1,by simp only [if_neg e];exact f2,by simp only [if_neg e];exact Nat.le_trans f3 hb.size,hstab i _ _ _ W W' (hloc i v _ lo _ hi _ W (fun j hj=>?_) f4) hb⟩
     have hjx:j≠x:=by
      rintro rfl
      rcases hj with hj|hj
      ·exact e hj.symm
      ·exact hxn ((hd.iff j).1 (hd.down i ((hd.iff i).2 hid) j hj))
     simp only [if_neg hjx]
     exact ⟨trivial,trivial,trivial⟩
   ·by_cases e1:i=x
    ·subst e1
     have hjd:j∈done:=by rcases List.mem_cons.1 hj with h|h;exact absurd h.symm hne;exact h
     simp only [if_true,if_neg (fun e=>hne (Eq.symm e):¬ j=i)]
     have:=(hd.facts j hjd).2.2.1;omega
    ·have hid:i∈done:=by rcases List.mem_cons.1 hi' with h|h;exact absurd h e1;exact h
     by_cases e2:j=x
     ·subst e2
      simp only [if_true,if_neg e1]
      have:=(hd.facts i hid).2.2.1;omega
     ·have hjd:j∈done:=by rcases List.mem_cons.1 hj with h|h;exact absurd h e2;exact h
      simp only [if_neg e1,if_neg e2]
      exact hd.apart i hid j hjd hne
theorem wp_region_factsS {id:Nat} {a:Act} (ph tl:List Nat) (fr:(Nat→Value)→Act) (v0:Nat→Value) (F:Nat→(Nat→Value)→(Nat→Nat)→(Nat→Nat)→World→Prop) (S:World→Prop) (hmix:P.follows .mixedOrders=true)
  (hc:Region.chkH .any ops ph tl=true) (hnd:ph.Nodup) (ha:a=fr v0)
  (hstab:∀ i v lo hi W W',F i v lo hi W→Below W.heap.size W W'→F i v lo hi W')
  (hloc:∀ i v v' lo lo' hi hi' W,(∀ j,j=i∨j∈Region.deps .any ops i→v j=v' j∧lo j=lo' j∧hi j=hi' j)→F i v lo hi W→F i v' lo' hi' W)
  (hS:∀ W,Below w0.heap.size w0 W→S W)
  (steps:StepsS P .any ops Q w0 fr F S ph)
  (fin:∀ (v:Nat→Value) (lo hi:Nat→Nat) (W:World),Below w0.heap.size w0 W→S W→(∀ i,ph.contains i=true→w0.heap.size≤lo i∧lo i≤hi i∧hi i≤W.heap.size∧F i v lo hi W)→
   (∀ i j,ph.contains i=true→ph.contains j=true→i≠j→hi i≤lo j∨hi j≤lo i)→wpList P ops Q (tl.filterMap fun i=>ops[i]?) (fr v) W):(Code.region id ops true).wp P Q a w0:=by
 refine wp_region_any hmix ?_
 refine wpAny_factsS hc hnd hstab hloc hS steps fin ops.size _ [] v0 (fun _=>0) (fun _=>0) a _ ⟨by simp,fun i=>?_,.nil,by simp,fun i hi'=>?_,ha,(Below.refl _ _).drew,by simp,by simp⟩ (by simp)
 ·simp [Array.getD]
 ·exfalso;revert hi';simp [Array.getD]
end
end Go
namespace Go.Proofs.YthjnojbeimchdaaGreat
open Go.RowKit Go.Maps Kal
theorem lcm_near {a p:Int} (ha:1≤a) (had:a∣27720) (hp:1≤p) (hpd:p∣27720):lcmV a p=.tuple #[.int .i64 (lcmI a p),.int .i64 0]∧1≤lcmI a p∧lcmI a p∣27720:=by
 have h1:=lcmI_pos ha hp
 have h2:=lcmI_dvd ha hp had hpd
 have h3:=Int.le_of_dvd (by decide) h2
 exact ⟨by unfold lcmV;rw [if_pos (by omega)],h1,h2⟩
structure CmA (m:List (List Per)) (T:List Per) (i k:Nat) (c:Int):Prop where
 pos:1≤c
 dvd:c∣27720
 all:∀ j,j<i→∀ p∈m.getD j [],p.period∣c
 cur:∀ j,j<k→(T.getD j default).period∣c
theorem CmA.nil {m:List (List Per)}:CmA m [] 0 0 1:=⟨by omega,⟨27720,by omega⟩,fun j hj=>by omega,fun j hj=>by omega⟩
theorem CmA.turn {m:List (List Per)} {T U:List Per} {i:Nat} {c:Int} (h:CmA m T i 0 c):CmA m U i 0 c:=⟨h.pos,h.dvd,h.all,fun j hj=>by omega⟩
theorem CmA.le {m:List (List Per)} {T:List Per} {i k:Nat} {c:Int} (h:CmA m T i k c):c≤27720:=Int.le_of_dvd (by decide) h.dvd
theorem CmA.next {m:List (List Per)} {T:List Per} {i k:Nat} {c pr:Int} (h:CmA m T i k c) (hp:(T.getD k default).period=pr) (h1:1≤pr) (h2:pr∣27720):CmA m T i (k+1) (lcmI c pr):=by
 obtain ⟨_,h3,h4⟩:=lcm_near h.pos h.dvd h1 h2
 refine ⟨h3,h4,fun j hj p hm=>Int.dvd_trans (h.all j hj p hm) lcmI_dvd_left,fun j hj=>?_⟩
 rcases Nat.lt_or_ge j k with h5|h5
 ·exact Int.dvd_trans (h.cur j h5) lcmI_dvd_left
 ·obtain rfl:j=k:=by omega
  rw [hp];exact lcmI_dvd_right
theorem CmA.shut {m:List (List Per)} {T:List Per} {i k:Nat} {c:Int} (h:CmA m T i k c) (hT:m.getD i []=T) (hk:T.length≤k):CmA m [] (i+1) 0 c:=by
 refine ⟨h.pos,h.dvd,fun j hj p hp=>?_,fun j hj=>by omega⟩
 rcases Nat.lt_or_ge j i with h5|h5
 ·exact h.all j h5 p hp
 ·obtain rfl:j=i:=by omega
  rw [hT] at hp
  obtain ⟨n,hn,rfl⟩:=List.getElem_of_mem hp
  have h6:=h.cur n (by omega)
  rwa [List.getD_eq_getElem?_getD,List.getElem?_eq_getElem hn] at h6
theorem CmA.done {m:List (List Per)} {T:List Per} {i k:Nat} {c:Int} (h:CmA m T i k c) (hi:m.length≤i):∀ t∈m,∀ p∈t,p.period∣c:=fun t ht p hp=>by
 obtain ⟨n,hn,rfl⟩:=List.getElem_of_mem ht
 refine h.all n (by omega) p ?_
 rw [List.getD_eq_getElem?_getD,List.getElem?_eq_getElem hn];exact hp
end Go.Proofs.YthjnojbeimchdaaGreat
namespace Go.Proofs.YthjnojbeimchdaaGreat
open Go.RowKit Go.Maps Kal
def SameLaw (m1 m2:List (List Per)) (w:World) (e:Ending) (w':World):Prop:=∃ (b:Bool) (k:Int),e=.returned (.tuple #[.bool b,.int .i64 k])∧(k=0∨(k=2∧b=false))∧(k=0→(b=true↔∀ n,mmem m1 n↔mmem m2 n))∧Below w.heap.size w w'
theorem SameRes.law {s:Int} {m1 m2:List (List Per)} (k1:MV s m1) (k2:MV s m2) {w w':World} {e:Ending} (h:SameRes m1 m2 w e w'):SameLaw m1 m2 w e w':=by
 obtain ⟨b,r,hB,hb,⟨mk,nk,rfl,hi,rfl⟩|⟨rfl,rfl⟩⟩:=h
 ·refine ⟨b,0,rfl,.inl rfl,fun _=>hi.trans ?_,hb⟩
  have a1:=(hB.1.ok k1.f k2.f).2
  have a2:=(hB.2.ok k2.f k1.f).2
  constructor
  ·rintro ⟨e1,e2⟩ n
   exact ⟨fun h=>Classical.byContradiction fun g=>barren_no e1 n ((a1 n).2 ⟨h,g⟩),fun h=>Classical.byContradiction fun g=>barren_no e2 n ((a2 n).2 ⟨h,g⟩)⟩
  ·intro hs
   exact ⟨fun t ht n hx=>by have h9:=(a1 n).1 ⟨t,ht,hx⟩;exact h9.2 ((hs n).1 h9.1),fun t ht n hx=>by have h9:=(a2 n).1 ⟨t,ht,hx⟩;exact h9.2 ((hs n).2 h9.1)⟩
 ·exact ⟨false,2,rfl,.inr ⟨rfl,rfl⟩,fun h=>absurd h (by decide),hb⟩
end Go.Proofs.YthjnojbeimchdaaGreat
namespace Go.Proofs.YthjnojbeimchdaaGreat
open Go.RowKit Go.Maps Kal
theorem MinusTo.unique' {a b:List (List Per)} {r r':Option (List (List Per))} (h:MinusTo a b r) (g:MinusTo a b r'):r=r':=h.unique g
theorem BothTo.parts {a b mk nk:List (List Per)} (h:BothTo a b (some (mk,nk))):MinusTo a b (some mk)∧MinusTo b a (some nk):=h
theorem BothTo.unique' {a b:List (List Per)}:∀ {r r':Option (List (List Per) × List (List Per))},BothTo a b r→BothTo a b r'→r=r'
 | some (mk,nk),some (mk',nk'),h,g=>by
  have e1:=MinusTo.unique' h.parts.1 g.parts.1
  have e2:=MinusTo.unique' h.parts.2 g.parts.2
  injection e1 with e1;injection e2 with e2
  subst e1;subst e2;rfl
 | some (mk,nk),none,h,g=>by
  have g':MinusTo a b none∨((∃ mk,MinusTo a b (some mk))∧MinusTo b a none):=g
  rcases g' with g|⟨_,g⟩
  ·cases MinusTo.unique' h.parts.1 g
  ·cases MinusTo.unique' h.parts.2 g
 | none,some (mk',nk'),h,g=>by
  have h':MinusTo a b none∨((∃ mk,MinusTo a b (some mk))∧MinusTo b a none):=h
  rcases h' with h|⟨_,h⟩
  ·cases MinusTo.unique' g.parts.1 h
  ·cases MinusTo.unique' g.parts.2 h
 | none,none,_,_=>rfl
def DiffM (a b:List (List Per)) (x:Int):Prop:=(mmem a x∧¬ mmem b x)∨(mmem b x∧¬ mmem a x)
theorem diff_iff {a b:List (List Per)} {x:Int}:¬ DiffM a b x↔(mmem a x↔mmem b x):=by
 unfold DiffM
 constructor
 ·intro h
  exact ⟨fun ha=>Classical.byContradiction fun hb=>h (.inl ⟨ha,hb⟩),fun hb=>Classical.byContradiction fun ha=>h (.inr ⟨hb,ha⟩)⟩
 ·rintro h (⟨h1,h2⟩|⟨h1,h2⟩)
  ·exact h2 (h.1 h1)
  ·exact h2 (h.2 h1)
theorem agree_all {a b:List (List Per)} (ha:MadeM a) (hb:MadeM b) (h:∀ x,0≤x→x≤1152921504606846976→(mmem a x↔mmem b x)) (x:Int):mmem a x↔mmem b x:=by
 by_cases h0:0≤x
 ·by_cases h1:x≤1152921504606846976
  ·exact h x h0 h1
  ·have e0:=Int.emod_nonneg (x-8) (show (27720:Int)≠0 by decide)
   have e1:=Int.emod_lt_of_pos (x-8) (show (0:Int)<27720 by decide)
   have e2:=Int.emod_add_mul_ediv (x-8) 27720
   have hd:(27720:Int)∣x-(8+(x-8) % 27720):=⟨(x-8) / 27720,by omega⟩
   exact (made_mod ha.fac (by omega) (by omega) hd).trans ((h _ (by omega) (by omega)).trans (made_mod hb.fac (by omega) (by omega) hd).symm)
 ·have key:∀ {m:List (List Per)},MadeM m→¬ mmem m x:=fun hm ⟨t,ht,hx⟩=>h0 (tmem_nonneg (hm.ne t ht) hx)
  exact ⟨fun h=>absurd h (key ha),fun h=>absurd h (key hb)⟩
structure CmpR (a b:List (List Per)) (same:Bool) (e:Int) (d:Int) (some_:Bool) (f:Int) (under:Bool) (g:Int):Prop where
 err:e=f
 big:e=0∨e=2
 ok:e=0→g=0∧(same=true↔∀ x,mmem a x↔mmem b x)∧NextF FarI (DiffM a b) 0 d some_∧(under=true↔∀ x,mmem a x→mmem b x)
theorem NextF.cast {S T:Int→Prop} {f n:Int} {b:Bool} (hs:∀ x,S x↔T x) (h:NextF FarI S f n b):NextF FarI T f n b:=by
 rcases h with ⟨h0,h1,h2,h3,h4⟩|⟨h0,h1,h2⟩
 ·exact .inl ⟨h0,h1,h2,(hs _).1 h3,fun x a b c=>h4 x a b ((hs _).2 c)⟩
 ·exact .inr ⟨h0,h1,fun x a b c=>h2 x a b ((hs _).2 c)⟩
theorem cmp_of {s:Int} {a b:List (List Per)} (ka:MV s a) (kb:MV s b) {w0 w1 w2 w3 w4 w5:World} {e1 e2 e3:Ending} (h1:SameRes a b w0 e1 w1) (h2:ApartRes a b w2 e2 w3) (h3:SubRes a b w4 e3 w5) :
  ∃ same e d some_ f under g,e1=.returned (.tuple #[.bool same,.int .i64 e])∧e2=.returned (.tuple #[.int .i64 d,.bool some_,.int .i64 f])∧e3=.returned (.tuple #[.bool under,.int .i64 g])∧CmpR a b same e d some_ f under g:=by
 obtain ⟨b1,r1,x1,_,y1⟩:=h1
 obtain ⟨r2,x2,_,y2⟩:=h2
 obtain ⟨b3,r3,x3,_,y3⟩:=h3
 obtain rfl:=BothTo.unique' x1 x2
 rcases y1 with ⟨mk,nk,rfl,i1,rfl⟩|⟨rfl,rfl⟩
 ·rcases y2 with ⟨mk2,nk2,n,bb,e0,i2,rfl⟩|⟨e0,_⟩
  ·injection e0 with e0;injection e0 with e0 e0'
   subst e0;subst e0'
   have a1:=(MinusTo.ok x1.parts.1 ka.f kb.f).2
   have a2:=(MinusTo.ok x1.parts.2 kb.f ka.f).2
   have e4:=MinusTo.unique' x3 x1.parts.1
   subst e4
   rcases y3 with ⟨k,e5,i3,rfl⟩|⟨e5,_⟩
   ·injection e5 with e5
    subst e5
    have hsl:=(SameRes.law ka kb (w:=w0) (w':=w0) (e:=.returned (.tuple #[.bool b1,.int .i64 0])) ⟨b1,some (mk,nk),x1,Er _,.inl ⟨mk,nk,rfl,i1,rfl⟩⟩)
    obtain ⟨b9,k9,e9,_,hs9,_⟩:=hsl
    injection e9 with e9;simp at e9
    obtain ⟨rfl,rfl⟩:=e9
    refine ⟨b1,0,n,bb,0,b3,0,rfl,rfl,rfl,rfl,.inl rfl,fun _=>⟨rfl,hs9 rfl,NextF.cast (fun x=>?_) i2,i3.trans ?_⟩⟩
    ·rw [mmem_append,a1,a2];rfl
    ·constructor
     ·intro hb x hx
      exact Classical.byContradiction fun g=>barren_no hb x ((a1 x).2 ⟨hx,g⟩)
     ·intro hs t ht x hx
      have h9:=(a1 x).1 ⟨t,ht,hx⟩
      exact h9.2 (hs x h9.1)
   ·cases e5
  ·cases e0
 ·rcases y2 with ⟨mk2,nk2,n,bb,e0,i2,rfl⟩|⟨_,rfl⟩
  ·cases e0
  ·rcases y3 with ⟨k,_,_,rfl⟩|⟨_,rfl⟩
   ·exact ⟨false,2,0,false,2,b3,0,rfl,rfl,rfl,rfl,.inr rfl,fun h=>absurd h (by decide)⟩
   ·exact ⟨false,2,0,false,2,false,2,rfl,rfl,rfl,rfl,.inr rfl,fun h=>absurd h (by decide)⟩
end Go.Proofs.YthjnojbeimchdaaGreat
namespace Go
open Go.RowKit
def vat:List Value→Nat→Value
 | [],_=>undef
 | x :: _,0=>x
 | _ :: l,k+1=>vat l k
def ov (x:List Value):List Nat→(Nat→Value)→Nat→Value
 | [],u,j=>u j
 | d :: D,u,j=>bif j == d then vat x j else ov x D u j
theorem ov_eq {x:List Value} {D:List Nat} {v:Nat→Value} (h:∀ j∈D,v j=vat x j):ov x D v=v:=by
 induction D with
 | nil=>rfl
 | cons d D ih=>
  funext j
  simp only [ov]
  cases hb:(j == d) with
  | true=>rw [eq_of_beq hb];exact (h d (by simp)).symm
  | false=>exact congrFun (ih fun j hj=>h j (by simp [hj])) j
section
variable {P:Program} {ops:Array Oper} {Q:Exit→Act→World→Prop} {md:Region.Mode}
variable {w0:World} {fr:(Nat→Value)→Act} {S:World→Prop} {x:List Value}
def gokV (fr:(Nat→Value)→Act) (x:List Value) (D:List Nat) (v:Nat→Value) (W:World) (k:Nat) (K:Act→World→Prop):Prop:=∀ W',Below W.heap.size W W'→K (fr (ov x (k :: D) v)) W'
def StepV (P:Program) (ops:Array Oper) (Q:Exit→Act→World→Prop) (w0:World) (fr:(Nat→Value)→Act) (x:List Value) (S:World→Prop) (D:List Nat) (k:Nat) (o:Oper):Prop:=
 ∀ (v:Nat→Value) (W:World),Below w0.heap.size w0 W→S W→
  (Region.wanted o (yielded ops (fr (ov x D v)).tmps)=true∧
  ∀ K:Act→World→Prop,gokV fr x D v W k K→Oper.wp P o (fr (ov x D v)) W K Q) ∨
  (Region.wanted o (yielded ops (fr (ov x D v)).tmps)=false∧
  ∀ K:Act→World→Prop,gokV fr x D v W k K→K ((fr (ov x D v)).put o.dst undef) W)
def StepsV (P:Program) (md:Region.Mode) (ops:Array Oper) (Q:Exit→Act→World→Prop) (w0:World) (fr:(Nat→Value)→Act) (x:List Value) (S:World→Prop):List Nat→Prop
 | []=>True
 | k :: r=>(∃ D o,ops[k]? = some o∧(D.all fun j=>(Region.deps md ops k).contains j)=true∧StepV P ops Q w0 fr x S D k o)∧StepsV P md ops Q w0 fr x S r
theorem StepsV.c {k:Nat} {o:Oper} {r:List Nat} (D:List Nat) (e:ops[k]? = some o) (h:StepV P ops Q w0 fr x S D k o) (t:StepsV P md ops Q w0 fr x S r) (hD:(D.all fun j=>(Region.deps md ops k).contains j)=true:=by kernel_rfl):StepsV P md ops Q w0 fr x S (k :: r):=⟨⟨D,o,e,hD,h⟩,t⟩
theorem StepsV.n:StepsV P md ops Q w0 fr x S []:=trivial
theorem ov_cons {D:List Nat} {k:Nat} {v:Nat→Value} (h:∀ j∈D,v j=vat x j):ov x (k :: D) v=fun j=>if j=k then vat x k else v j:=by
 funext j
 show (bif j == k then vat x j else ov x D v j)=_
 rw [ov_eq h]
 by_cases e:j=k
 ·subst e;simp
 ·rw [if_neg e,show (j == k)=false from Bool.eq_false_iff.2 fun h=>e (eq_of_beq h)];rfl
theorem StepsV.to:∀ {l:List Nat},StepsV P md ops Q w0 fr x S l→StepsS P md ops Q w0 fr (fun i v _ _ _=>v i=vat x i) S l
 | [],_=>trivial
 | k :: r,⟨⟨D,o,e,hD,h⟩,t⟩=>by
  refine ⟨fun o' e'=>?_,t.to⟩
  rw [e] at e';cases e'
  intro v lo hi W hb hs hd
  have hj:∀ j∈D,v j=vat x j:=fun j hj=>(hd j (by simpa using List.all_eq_true.1 hD j hj)).2.2
  have h':=h v W hb hs
  unfold gokV at h'
  rw [ov_eq hj,ov_cons hj] at h'
  rcases h' with ⟨h1,h2⟩|⟨h1,h2⟩
  ·exact .inl ⟨h1,fun K hK=>h2 K fun W' hb'=>hK (vat x k) W' hb' (by simp)⟩
  ·exact .inr ⟨h1,fun K hK=>h2 K fun W' hb'=>hK (vat x k) W' hb' (by simp)⟩
theorem wp_region_V {id:Nat} {a:Act} (ph tl:List Nat) (fr:(Nat→Value)→Act) (x:List Value) (S:World→Prop)
  (hS:∀ W,Below w0.heap.size w0 W→S W)
  (steps:StepsV P .any ops Q w0 fr x S ph)
  (fin:∀ W,Below w0.heap.size w0 W→S W→wpList P ops Q (tl.filterMap fun i=>ops[i]?) (fr (vat x)) W)
  (v0:Nat→Value:=fun _=>undef) (ha:a=fr v0:=by rfl) (hmix:P.follows .mixedOrders=true:=by rfl) (hc:Region.chkH .any ops ph tl=true:=by kernel_rfl) (hnd:ph.Nodup:=by decide)
  (hfr:∀ v:Nat→Value,(∀ i,ph.contains i=true→v i=vat x i)→fr v=fr (vat x):=by intro v h;simp (decide:=true) only [h]):(Code.region id ops true).wp P Q a w0:=
 wp_region_factsS ph tl fr v0 (fun i v _ _ _=>v i=vat x i) S hmix hc hnd ha (fun _ _ _ _ _ _ h _=>h) (fun i v v' _ _ _ _ _ hag h=>(hag i (.inl rfl)).1 ▸ h) hS steps.to
  fun v lo hi W h1 h2 h3 _=>by rw [hfr v fun i hi'=>(h3 i hi').2.2.2];exact fin W h1 h2
theorem stp {D:List Nat} {k:Nat} {o:Oper} (h:StepV P ops Q w0 fr x S D k o:=by
  intro v W hb hS
  first
   | (
    refine .inr ⟨rfl,fun K hK=>acx (hK W (Below.refl _ _)) ?_⟩
    simp [Act.put,ov,vat]
    done)
   | (
    go_split_ands
    refine .inl ⟨rfl,fun K hK=>?_⟩
    simp only [ov,vat,Nat.reduceBEq,cond_true,cond_false]
    go_wp2_with fail
    refine acx (hK W (Below.refl _ _)) ?_
    first
     | (simp [ov,vat];done)
     | (simp [ov,vat, *];done)
    done)
   | fail):StepV P ops Q w0 fr x S D k o:=h
end
end Go
namespace Go.Proofs.YthjnojbeimchdaaGreat
open Go.ChangeShapes Go.WideShapes Go.ChangeAt Go.RowKit Go.Joins Kal
theorem liftOwn:ownKnob Tryz.prog.godebug=none:=by kernel_rfl
theorem liftLaid:laidOutB Tryz.prog=true:=by kernel_rfl
section
variable {H:Type} {enc:TypeId × Value→H} {w:World} {base:Nat} {spare:Nat→Bool} {held:Bool}
end
end Go.Proofs.YthjnojbeimchdaaGreat
