/- Part 2 of the proof of the laws. -/
import Derived.Orders
import Derived.Tactics
import Derived.Below
import Derived.Maps.AppendAt
import Derived.OwnWalk
import Derived.Deep.RegionHeld3
import Derived.BigFrame
import Derived.RangeFuncNested
import Derived.RangeFuncBound
import Derived.RangeFuncCalls
import Derived.RangeFuncLeaves
import Derived.RangeFuncFrom
import Derived.Shelf.Abstract
import Derived.Scope
import Derived.Test.YtbmgmlbmgogeaaaGreatW1
import Derived.Sort.OwnSortedInts
import Derived.RangeFuncBox
import Derived.Deep.AppendLies
import Derived.OwnWalkIn
import Derived.TacticsInMore
import Derived.LoopNIn
import Derived.LoopIn
set_option linter.unusedVariables false
set_option linter.unusedSimpArgs false
set_option maxRecDepth 100000
set_option maxHeartbeats 4000000
set_option linter.defProp false
abbrev zo:=@Array.getElem?_eq_getElem
abbrev q7l:=@Array.getElem?_eq_none
abbrev MH:=@List.length_cons
abbrev NK:=@Go.World.grownBy_alloc
abbrev DP:=@Go.World.alloc_heap_new
abbrev U7:=@Go.World.size_alloc
abbrev DN:=@Go.RowKit.Below.heap_alloc
abbrev q9a:=@Go.run_enterLoop_outer
abbrev Q0:=@Array.getElem?_eq_some_iff
abbrev Z5:=@Go.World.putObj_heap_same
abbrev N3:=@Go.World.putObj_heap_other
abbrev GB:=@List.map_cons
abbrev MQ:=@List.cons.injEq
abbrev q7r:=@Int.tdiv_eq_ediv_of_dvd
abbrev q8o:=@Int.tmod_eq_zero_of_dvd
abbrev q8f:=@Go.World.ownsRow_nil
abbrev LJ:=@List.getElem?_take_of_lt
abbrev q7m:=@Array.getElem?_toList
abbrev QJ:=@Nat.mul_one
abbrev UZ:=@List.map_append
abbrev ML:=@Bool.eq_iff_iff
abbrev QN:=@decide_eq_true_iff
abbrev GC:=@Go.Oper.semAt_some
abbrev LF:=@List.take_succ_eq_append_getElem
abbrev K6:=@Go.callsIn_of_wp
abbrev NG:=@List.size_toArray
abbrev M4:=@List.length_nil
abbrev N0:=@Array.replicate_succ
abbrev K7:=@Array.replicate_zero
abbrev Q3:=@List.push_toArray
abbrev QG:=@List.append_toArray
abbrev L4:=@List.nil_append
abbrev S5:=@List.cons_append
abbrev VN:=@Go.bodyPost_ret
abbrev QX:=@Go.results_none
abbrev PM:=@List.take_of_length_le
abbrev QP:=@Go.Exit.noGoto_ret
abbrev D0:=@Go.Code.wp_mono
abbrev Q1:=@Go.World.size_drew
abbrev NY:=@Int.tmod_eq_emod_of_nonneg
abbrev VL:=@Go.callsIn_wide
abbrev NT:=@Go.callsIn_of_wp_marks
abbrev q7s:=@Go.KeepsOthers.alloc
abbrev K8:=@Go.KeepsOthers.setCell
abbrev YE:=@Go.KeepsOthers.trans
namespace Go
section
open Go.RowKit
def Region.deps (md:Region.Mode) (ops:Array Oper) (i:Nat):List Nat:=match ops[i]? with
 | some o=>(o.after.toList.filter λe=>Region.binds md e).map λe=>e.on
 | none=>[]
def Region.sat (md:Region.Mode) (ops:Array Oper):Nat->List Nat->List Nat
 | 0,S=>S
 | k+1,S=>Region.sat md ops k (S ++ ((S.flatMap (Region.deps md ops)).filter λj=>!S.contains j))
def Region.chain (md:Region.Mode) (ops:Array Oper):Nat->List Nat->Bool
 | _,[]=>true
 | t,t' :: r=>(Region.deps md ops t').contains t && decide (t<t') && Region.chain md ops t' r
def Region.chk (md:Region.Mode) (ops:Array Oper) (ph tl:List Nat):Bool:=
 ((List.range ops.size).all λi=>ph.contains i != tl.contains i) &&
 (ph.all λi=>(match ops[i]? with|some o=>o.guard.isNone|none=>false) && (Region.deps md ops i).all λj=>ph.contains j) &&
 ((List.range ops.size).all λi=>(Region.deps md ops i).all λj=>decide (j<i)) &&
 (tl.all λi=>decide (i<ops.size)) &&
 (match tl with|[]=>true|t :: r=>(ph.all λj=>(Region.sat md ops ops.size (Region.deps md ops t)).contains j) && Region.chain md ops t r)
section
variable {P:Program} {ops:Array Oper} {Q:Exit->Act->World->Prop} {md:Region.Mode}
theorem Region.ready_spec {l:Array Bool} (i:Nat):i∈Region.ready md ops l↔i<ops.size/\l.getD i true=false/\∀ j∈Region.deps md ops i,l.getD j false=true:=by
 unfold Region.ready Region.deps;rw [N7,MN];constructor
 .rintro ⟨h1,h2⟩;rw [zo h1] at h2 ⊢;simp only [Option.map_some,Option.getD_some,NU,Bool.not_eq_true',Array.all_eq_true] at h2;refine ⟨h1,h2.1,λj hj=>?_⟩;simp only [VC,N7] at hj;obtain ⟨e,⟨he,hb⟩,rfl⟩:=hj;obtain ⟨k,hk,rfl⟩:=OK he;have:=h2.2 k (by simpa using hk);simp only [Array.getElem_toList] at hb;simpa [hb] using this
 rintro ⟨h1,h2,h3⟩;refine ⟨h1,?_⟩;rw [zo h1] at h3 ⊢;simp only [Option.map_some,Option.getD_some,NU,Bool.not_eq_true',Array.all_eq_true];refine ⟨h2,λk hk=>?_⟩;by_cases hb:Region.binds md (ops[i].after[k])=true
 .have:=h3 (ops[i].after[k]).on (by
   simp only [VC,N7];exact ⟨_,⟨aj,hb⟩,rfl⟩)
  simp [this]
 simp [hb]
theorem xu {l:Array Bool} {i:Nat} (h:i<l.size):(l.setIfInBounds i true).getD i false=true:=by
 simp [Array.getD,h]
theorem rA {l:Array Bool} {i j:Nat} (h:i≠j):(l.setIfInBounds i true).getD j false=l.getD j false:=by
 simp only [Array.getD_eq_getD_getElem?,Array.getElem?_setIfInBounds_ne h]
theorem rE {l:Array Bool} {i:Nat} (h:i<l.size):l.getD i true=l.getD i false:=by
 simp [Array.getD,h]
theorem Ry {l:Array Bool} (hd:∀ i,l.getD i false=true->∀ j∈Region.deps md ops i,l.getD j false=true) :
  ∀ k S,(∀ j∈S,l.getD j false=true)->∀ j∈Region.sat md ops k S,l.getD j false=true:=by
 intro k;induction k with
 | zero=>intro S h;exact h
 | succ k ih=>
  intro S h;refine ih _ λj hj=>?_;rcases VJ.1 hj with hj|hj
  .exact h j hj
  obtain ⟨i,hi,hj'⟩:=M7.1 (N7.1 hj).1;exact hd i (h i hi) j hj'
theorem mJ {α:Type} [DecidableEq α]:∀ {l m:List α},l.Nodup->(∀ x∈l,x∈m)->l.length<=m.length:=by
 intro l;induction l with
 | nil=>intro m _ _;simp
 | cons a l ih=>
  intro m hn hs;have hn':=N_.1 hn;have ha:a∈m:=hs a aj;have:=ih (m:=m.erase a) hn'.2 λy hy=>(YB (λe=>hn'.1 (by rw [<- e];exact hy))).2 (hs y (P5 _ hy));rw [ZH ha] at this;have:0<m.length:=sD ha;simp;omega
theorem Fm {t:Nat} {r:List Nat} (h:Region.chain md ops t r=true):∀ x∈r,t<x:=by
 induction r generalizing t with
 | nil=>intro x hx;simp at hx
 | cons t' r ih=>
  simp only [Region.chain,NU,OB] at h;intro x hx;rcases U3.1 hx with rfl|hx
  .exact h.1.2
  have:=ih h.2 x hx;omega
theorem Fa {t:Nat} {r:List Nat} (h:Region.chain md ops t r=true):∀ x∈r,∃ y,y∈t :: r/\y<x/\y∈Region.deps md ops x:=by
 induction r generalizing t with
 | nil=>intro x hx;simp at hx
 | cons t' r ih=>
  simp only [Region.chain,NU,OB] at h;intro x hx;rcases U3.1 hx with rfl|hx
  .exact ⟨t,aj,h.1.2,by simpa using h.1.1⟩
  obtain ⟨y,h1,h2,h3⟩:=ih h.2 x hx;exact ⟨y,P5 _ h1,h2,h3⟩
theorem Jo (hback:∀ i,i<ops.size->∀ j∈Region.deps md ops i,j<i):∀ (r:List Nat) (fuel:Nat) (l:Array Bool) (a:Act) (w:World),(∀ t r',r=t :: r'->Region.chain md ops t r'=true)->(∀ i∈r,i<ops.size)->r.length<=fuel->l.size=ops.size->
  (∀ j,j<ops.size->(l.getD j false=true↔j ∉ r))->wpList P ops Q (r.filterMap λi=>ops[i]?) a w->wpAny P md ops Q fuel l a w:=by
 intro r;induction r with
 | nil=>
  intro fuel l a w _ _ _ hl cX h;have hnil:Region.ready md ops l=[]:=by
   rw [List.eq_nil_iff_forall_not_mem];intro x hx;have hx':=(Region.ready_spec x).1 hx;rw [rE ad,(cX x hx'.1).2 aj] at hx';simp at hx'
  have h':Q .normal a w:=h;cases fuel with
  | zero=>exact ⟨hnil,h'⟩
  | succ f=>exact ⟨λ_=>h',by rw [hnil];simp⟩
 | cons t r ih=>
  intro fuel l a w hch hlt hf hl cX h;obtain ⟨f,rfl⟩:∃ f,fuel=f+1:=⟨fuel-1,by simp at hf;omega⟩;have hc:=hch t r rfl;have htn:t<ops.size:=hlt t aj;have hsome:ops[t]? = some ops[t]:=zo htn;rw [List.filterMap_cons,hsome] at h;have Gg:=Fm hc;have oQ:t ∉ r:=λhx=>by have:=Gg t hx;omega
  have hin:t∈Region.ready md ops l:=by
   rw [Region.ready_spec];refine ⟨htn,?_,λj hj=>(cX j (by have:=hback t htn j hj;omega)).2 λhx=>?_⟩
   .rw [rE ad];cases hx:l.getD t false with
    | true=>exact absurd (List.mem_cons_self) ((cX t htn).1 hx)
    | false=>rfl
   have h1:=hback t htn j hj;rcases U3.1 hx with rfl|hx
   .omega
   have:=Gg j hx;omega
  refine ⟨λhnil=>by rw [hnil] at hin;simp at hin,λx hx=>?_⟩;have hx':=(Region.ready_spec x).1 hx;have Rs:x∈t :: r:=by
   by_cases hm:x∈t :: r
   .exact hm
   rw [rE ad,(cX x hx'.1).2 hm] at hx';simp at hx'
  have hxt:x=t:=by
   rcases U3.1 Rs with h1|h1
   .exact h1
   exfalso;obtain ⟨y,h2,h3,h4⟩:=Fa hc x h1;have h5:=hx'.2.2 y h4;exact (cX y ad).1 h5 h2
  subst hxt;unfold wpOp;rw [hsome];simp only;have key:∀ a w,wpList P ops Q (r.filterMap λi=>ops[i]?) a w->wpAny P md ops Q f (l.setIfInBounds x true) a w:=λa w h=>by
   refine ih f _ a w (λt' r' e=>?_) (λi hi=>hlt i (P5 _ hi)) (by simp at hf;omega) (by simpa using hl) (λj hj=>?_) h
   .subst e;simp only [Region.chain,NU] at hc;exact hc.2
   by_cases e:x=j
   .subst e;rw [xu ad];simp [oQ]
   rw [rA e,cX j hj,U3];exact ⟨λh hx=>h (.inr hx),λh hx=>h (hx.resolve_left λe'=>e e'.symm)⟩
  simp only [wpList] at h
  split
  .rename_i hw;rw [if_pos hw] at h;exact h.imp (Oper.wp_mono key) id
  rename_i hw;rw [if_neg hw] at h;exact key _ _ h
variable {w0:World} {ph tl:List Nat} {fr:(Nat->Value)->Act} {F:Nat->(Nat->Value)->(Nat->Nat)->(Nat->Nat)->World->Prop} {S:World->Prop}
theorem aQ {K:Act->World->Prop} {a a':Act} {W:World} (h:K a W) (e:a=a'):K a' W:=e ▸ h
theorem bM {i j:Nat} (h:(Region.deps md ops i).contains j=true):j∈Region.deps md ops i:=by simpa using h
structure KS (w0:World) (ph:List Nat) (ops:Array Oper) (md:Region.Mode) (fr:(Nat->Value)->Act) (F:Nat->(Nat->Value)->(Nat->Nat)->(Nat->Nat)->World->Prop) (l:Array Bool) (done:List Nat) (v:Nat->Value) (lo hi:Nat->Nat) (a:Act) (W:World):Prop where
 size:l.size=ops.size
 iff:∀ i,l.getD i false=true↔i∈done
 nd:done.Nodup
 lt:∀ i∈done,i∈ph
 down:∀ i,l.getD i false=true->∀ j∈Region.deps md ops i,l.getD j false=true
 act:a=fr v
 below:Below w0.heap.size w0 W
 facts:∀ i∈done,w0.heap.size<=lo i/\lo i<=hi i/\hi i<=W.heap.size/\F i v lo hi W
 apart:∀ i∈done,∀ j∈done,i≠j->hi i<=lo j\/hi j<=lo i
end
theorem World.grownBy.drewR (w:World) (row:Option Nat):w.grownBy w.drew row:=⟨rfl,rfl,rfl,TZ _,λ_ _ _=>rfl⟩
theorem World.grownBy.of_below {w w':World} (h:Below w.heap.size w w') (row:Option Nat):w.grownBy w' row:=⟨h.os,h.tape,h.output,h.size,λk hk _=>h.block k hk⟩
section
variable {P:Program} {ops:Array Oper} {Q:Exit->Act->World->Prop} {md:Region.Mode}
variable {w0:World} {row:Option Nat} {kx:Nat} {ph tl:List Nat} {fr:(Nat->Value)->Act} {F:Nat->(Nat->Value)->(Nat->Nat)->(Nat->Nat)->World->Prop} {S:World->Prop}
def SO (P:Program) (md:Region.Mode) (ops:Array Oper) (Q:Exit->Act->World->Prop) (w0:World) (row:Option Nat) (kx:Nat) (fr:(Nat->Value)->Act) (F:Nat->(Nat->Value)->(Nat->Nat)->(Nat->Nat)->World->Prop) (S:World->Prop) (k:Nat) (o:Oper):Prop:=
 ∀ (v:Nat->Value) (lo hi:Nat->Nat) (W:World),w0.grownBy W row->(k=kx->Below w0.heap.size w0 W)->S W->(∀ j∈Region.deps md ops k,lo j<=hi j/\hi j<=W.heap.size/\F j v lo hi W)->
  ∀ K:Act->World->Prop,(∀ x W',(if k=kx then W.grownBy W' row else Below W.heap.size W W')->F k (λj=>if j=k then x else v j) (λj=>if j=k then W.heap.size else lo j) (λj=>if j=k then W'.heap.size else hi j) W'->K (fr (λj=>if j=k then x else v j)) W')->Oper.wp P o (fr v) W K Q
def cw (P:Program) (md:Region.Mode) (ops:Array Oper) (Q:Exit->Act->World->Prop) (w0:World) (row:Option Nat) (kx:Nat) (fr:(Nat->Value)->Act) (F:Nat->(Nat->Value)->(Nat->Nat)->(Nat->Nat)->World->Prop) (S:World->Prop):List Nat->Prop
 | []=>True
 | k :: r=>(∀ o,ops[k]? = some o->SO P md ops Q w0 row kx fr F S k o)/\cw P md ops Q w0 row kx fr F S r
theorem cw.cons {k:Nat} {o:Oper} {r:List Nat} (e:ops[k]? = some o) (h:SO P md ops Q w0 row kx fr F S k o) (t:cw P md ops Q w0 row kx fr F S r):cw P md ops Q w0 row kx fr F S (k :: r):=⟨λo' e'=>by rw [e] at e';cases e';exact h,t⟩
theorem cw.nil:cw P md ops Q w0 row kx fr F S []:=trivial
theorem cw.get:∀ {l:List Nat},cw P md ops Q w0 row kx fr F S l->∀ i∈l,∀ o,ops[i]? = some o->SO P md ops Q w0 row kx fr F S i o:=by
 intro l;induction l with
 | nil=>intro _ i hi;simp at hi
 | cons k l ih=>
  intro h i hi;rcases U3.1 hi with rfl|hi
  .exact h.1
  exact ih h.2 i hi
structure Z1 (w0:World) (row:Option Nat) (kx:Nat) (ph:List Nat) (ops:Array Oper) (md:Region.Mode) (fr:(Nat->Value)->Act) (F:Nat->(Nat->Value)->(Nat->Nat)->(Nat->Nat)->World->Prop) (l:Array Bool) (done:List Nat) (v:Nat->Value) (lo hi:Nat->Nat) (a:Act) (W:World):Prop where
 size:l.size=ops.size
 iff:∀ i,l.getD i false=true↔i∈done
 nd:done.Nodup
 lt:∀ i∈done,i∈ph
 down:∀ i,l.getD i false=true->∀ j∈Region.deps md ops i,l.getD j false=true
 act:a=fr v
 below:w0.grownBy W row
 pre:kx ∉ done->Below w0.heap.size w0 W
 facts:∀ i∈done,w0.heap.size<=lo i/\lo i<=hi i/\hi i<=W.heap.size/\F i v lo hi W
 apart:∀ i∈done,∀ j∈done,i≠j->hi i<=lo j\/hi j<=lo i
theorem wx_ (hc:Region.chk md ops ph tl=true) (fT:ph.Nodup)
  (hstab:∀ i v lo hi W W',F i v lo hi W->(if i=kx then Below W.heap.size W W' else W.grownBy W' row)->F i v lo hi W')
  (hloc:∀ i v v' lo lo' hi hi' W,(∀ j,j=i\/j∈Region.deps md ops i->v j=v' j/\lo j=lo' j/\hi j=hi' j)->F i v lo hi W->F i v' lo' hi' W)
  (hS:∀ W,w0.grownBy W row->S W)
  (steps:cw P md ops Q w0 row kx fr F S ph)
  (fin:∀ (v:Nat->Value) (lo hi:Nat->Nat) (W:World),w0.grownBy W row->S W->(∀ i,ph.contains i=true->w0.heap.size<=lo i/\lo i<=hi i/\hi i<=W.heap.size/\F i v lo hi W)->
   (∀ i j,ph.contains i=true->ph.contains j=true->i≠j->hi i<=lo j\/hi j<=lo i)->wpList P ops Q (tl.filterMap λi=>ops[i]?) (fr v) W) :
  ∀ (fuel:Nat) (l:Array Bool) (done:List Nat) (v:Nat->Value) (lo hi:Nat->Nat) (a:Act) (W:World),Z1 w0 row kx ph ops md fr F l done v lo hi a W->fuel+done.length=ops.size->wpAny P md ops Q fuel l a W:=by
 unfold Region.chk at hc;simp only [NU,MI,MN,OB,OD,ne_eq] at hc;obtain ⟨⟨⟨⟨jU,tP⟩,hback⟩,ia⟩,aU⟩:=hc;have cf:∀ i∈ph,i<ops.size:=λi hi'=>by
  rcases PZ i ops.size with h|h
  .exact h
  have:=(tP i hi').1;rw [q7l h] at this;simp at this
 have bT:∀ i,i<ops.size->(i∈ph/\i ∉ tl)\/(i ∉ ph/\i∈tl):=λi hi'=>by
  have:=jU i hi';by_cases h1:i∈ph <;> by_cases h2:i∈tl <;> simp_all
 have q2f:ph.length+tl.eraseDups.length >= 0:=T8 _;have full:∀ {l done v lo hi a W},Z1 w0 row kx ph ops md fr F l done v lo hi a W->(∀ i∈ph,i∈done)->∀ fuel,tl.length<=fuel->wpAny P md ops Q fuel l a W:=by
  intro l done v lo hi a W hd hall fuel hf;rw [hd.act];have hm:∀ i,ph.contains i=true->i∈done:=λi hi'=>hall i (by simpa using hi');refine Jo (λi hi' j hj=>by simpa using hback i hi' j hj) tl fuel l _ W (λt r e=>?_) ia hf hd.size (λj hj=>?_) (fin v lo hi W hd.below (hS W hd.below) (λi hi'=>hd.facts i (hm i hi')) λi j hi' hj hne=>hd.apart i (hm i hi') j (hm j hj) hne)
  .rw [e] at aU;simp only [NU] at aU;exact aU.2
  rw [hd.iff];rcases bT j hj with ⟨h1,h2⟩|⟨h1,h2⟩
  .exact ⟨λ_=>h2,λ_=>hall j h1⟩
  exact ⟨λh=>absurd (hd.lt j h) h1,λh=>absurd h2 h⟩
 have pG:tl.Nodup:=by
  cases tl with
  | nil=>exact .nil
  | cons t r=>
   simp only [NU] at aU;have key:∀ (r:List Nat) (t:Nat),Region.chain md ops t r=true->(t :: r).Nodup:=by
    intro r;induction r with
    | nil=>intro t _;simp
    | cons t' r ih=>
     intro t h;have hlt:=Fm h;simp only [Region.chain,NU] at h;exact N_.2 ⟨λhx=>by have:=hlt t hx;omega,ih t' h.2⟩
   exact key r t aU.2
 have hsize:ph.length+tl.length<=ops.size:=by
  have:(ph ++ tl).length<=(List.range ops.size).length:=mJ (yA.2 ⟨fT,pG,λx hx y hy e=>by
   subst e;rcases bT x (cf x hx) with h|h
   .exact h.2 hy
   exact h.1 hx⟩) λx hx=>MN.2 (by
   rcases VJ.1 hx with h|h
   .exact cf x h
   exact ia x h)
  simpa using this
 intro fuel;induction fuel with
 | zero=>
  intro l done v lo hi a W hd hlen;have h1:done.length<=ph.length:=mJ hd.nd hd.lt;refine full hd (λi hi'=>?_) 0 ad;by_cases h:i∈done
  .exact h
  have h2:(i :: done).length<=ph.length:=mJ (N_.2 ⟨h,hd.nd⟩) (λx hx=>by
   rcases U3.1 hx with rfl|hx
   .exact hi'
   exact hd.lt x hx)
  simp at h2;omega
 | succ fuel ih=>
  intro l done v lo hi a W hd hlen;by_cases hfull:∀ i∈ph,i∈done
  .have h1:ph.length<=done.length:=mJ fT hfull;have h2:done.length<=ph.length:=mJ hd.nd hd.lt;exact full hd hfull _ ad
  have fL:∀ x∈Region.ready md ops l,x∈ph:=λx hx=>by
   have hx':=(Region.ready_spec x).1 hx;rcases bT x hx'.1 with ⟨h,_⟩|⟨_,h⟩
   .exact h
   exfalso;cases htl':tl with
   | nil=>rw [htl'] at h;simp at h
   | cons t r=>
    rw [htl'] at h aU;simp only [NU,MI] at aU;rcases U3.1 h with rfl|h
    .have hs:=Ry hd.down ops.size _ hx'.2.2;exact hfull λi hi'=>(hd.iff i).1 (hs i (by have:=aU.1 i hi';simpa using this))
    obtain ⟨y,h2,h3,h4⟩:=Fa aU.2 x h;have h5:=hd.lt y ((hd.iff y).1 (hx'.2.2 y h4));rcases bT y ad with h6|h6
    .exact h6.2 (by rw [htl'];exact h2)
    exact h6.1 h5
  refine ⟨λhnil=>?_,λx hx=>?_⟩
  .exfalso;refine hfull ?_;intro i;induction i using Nat.strongRecOn with
   | _ i ihi=>
    intro hi';by_cases h:i∈done
    .exact h
    exfalso;have hin:i∈Region.ready md ops l:=by
     rw [Region.ready_spec];refine ⟨cf i hi',?_,λj hj=>?_⟩
     .rw [rE (by have:=hd.size;have:=cf i hi';omega)];cases hb:l.getD i false with
      | false=>rfl
      | true=>exact absurd ((hd.iff i).1 hb) h
     have so:j<i:=by simpa using hback i (cf i hi') j hj
     exact (hd.iff j).2 (ihi j so (by have:=(tP i hi').2 j hj;simpa using this))
    rw [hnil] at hin;simp at hin
  have ku:=fL x hx;have hx':=(Region.ready_spec x).1 hx;have hg:=(tP x ku).1;rw [zo hx'.1] at hg;simp only [Option.isNone_iff_eq_none] at hg;have hstep:=steps.get x ku _ (zo hx'.1);have tV:x ∉ done:=λh=>by
   have h2:=(hd.iff x).2 h;rw [rE (by have:=hd.size;omega),h2] at hx';simp at hx'
  unfold wpOp;rw [zo hx'.1];simp only;have hw:Region.wanted ops[x] (yielded ops a.tmps)=true:=by unfold Region.wanted;rw [hg]
  rw [if_pos hw,hd.act];refine .inl (hstep v lo hi W hd.below (λe=>hd.pre (e ▸ tV)) (hS W hd.below) (λj hj=>(hd.facts j ((hd.iff j).1 (hx'.2.2 j hj))).2) _ ?_);intro y W' bg hF;have hb:W.grownBy W' row:=by
   split at bg
   .exact bg
   exact World.grownBy.of_below bg row
  have hpre:kx ∉ x :: done->Below w0.heap.size w0 W':=λhn=>by
   rw [U3,not_or] at hn;rw [if_neg (λe=>hn.1 e.symm)] at bg;exact (hd.pre hn.2).trans (bg.mono hd.below.size)
  have bY:w0.grownBy W' row:=hd.below.trans hb;refine ih (l.setIfInBounds x true) (x :: done) _ (λj=>if j=x then W.heap.size else lo j) (λj=>if j=x then W'.heap.size else hi j) _ W' ⟨by simpa using hd.size,λi=>?_,N_.2 ⟨tV,hd.nd⟩,λi hi'=>?_,λi hi' j hj=>?_,rfl,bY,hpre,λi hi'=>?_,λi hi' j hj hne=>?_⟩ aR
  .by_cases e:x=i
   .subst e;rw [xu (by have:=hd.size;omega)];simp
   rw [rA e,hd.iff,U3];exact ⟨.inr,λh=>h.resolve_left (λe'=>e e'.symm)⟩
  .rcases U3.1 hi' with rfl|h
   .exact ku
   exact hd.lt i h
  .have so:l.getD j false=true:=by
    by_cases e:x=i
    .subst e;exact hx'.2.2 j hj
    rw [rA e] at hi';exact hd.down i hi' j hj
   by_cases e:x=j
   .subst e;exact xu (by have:=hd.size;omega)
   rw [rA e];exact so
  .by_cases e:i=x
   .subst e;refine ⟨?_,?_,?_,hF⟩
    .simp only [if_true];exact hd.below.size
    .simp only [if_true];exact hb.size
    simp only [if_true];exact TZ _
   have hid:i∈done:=by rcases U3.1 hi' with h|h;exact absurd h e;exact h
   obtain ⟨f1,f2,f3,f4⟩:=hd.facts i hid;refine ⟨by simp only [if_neg e];exact f1,by simp only [if_neg e];exact f2,by simp only [if_neg e];exact NN f3 hb.size,hstab i _ _ _ W W' (hloc i v _ lo _ hi _ W (λj hj=>?_) f4) (by
   by_cases e9:i=kx
   .rw [if_pos e9];rw [if_neg (λe=>tV (by rw [e,<- e9];exact hid))] at bg;exact bg
   .rw [if_neg e9];exact hb)⟩
   have Gv:j≠x:=by
    rintro rfl;rcases hj with hj|hj
    .exact e hj.symm
    exact tV ((hd.iff j).1 (hd.down i ((hd.iff i).2 hid) j hj))
   simp only [if_neg Gv];exact ⟨trivial,trivial,trivial⟩
  by_cases e1:i=x
  .subst e1;have sn:j∈done:=by rcases U3.1 hj with h|h;exact absurd h.symm hne;exact h
   simp only [if_true,if_neg (λe=>hne (Eq.symm e):¬ j=i)];have:=(hd.facts j sn).2.2.1;omega
  have hid:i∈done:=by rcases U3.1 hi' with h|h;exact absurd h e1;exact h
  by_cases e2:j=x
  .subst e2;simp only [if_true,if_neg e1];have:=(hd.facts i hid).2.2.1;omega
  have sn:j∈done:=by rcases U3.1 hj with h|h;exact absurd h e2;exact h
  simp only [if_neg e1,if_neg e2];exact hd.apart i hid j sn hne
theorem O0 {id:Nat} {a:Act} (row:Option Nat) (kx:Nat) (ph tl:List Nat) (fr:(Nat->Value)->Act) (v0:Nat->Value) (F:Nat->(Nat->Value)->(Nat->Nat)->(Nat->Nat)->World->Prop) (S:World->Prop) (gH:P.follows .mixedOrders=true)
  (hc:Region.chk .any ops ph tl=true) (fT:ph.Nodup) (ha:a=fr v0)
  (hstab:∀ i v lo hi W W',F i v lo hi W->(if i=kx then Below W.heap.size W W' else W.grownBy W' row)->F i v lo hi W')
  (hloc:∀ i v v' lo lo' hi hi' W,(∀ j,j=i\/j∈Region.deps .any ops i->v j=v' j/\lo j=lo' j/\hi j=hi' j)->F i v lo hi W->F i v' lo' hi' W)
  (hS:∀ W,w0.grownBy W row->S W)
  (steps:cw P .any ops Q w0 row kx fr F S ph)
  (fin:∀ (v:Nat->Value) (lo hi:Nat->Nat) (W:World),w0.grownBy W row->S W->(∀ i,ph.contains i=true->w0.heap.size<=lo i/\lo i<=hi i/\hi i<=W.heap.size/\F i v lo hi W)->
   (∀ i j,ph.contains i=true->ph.contains j=true->i≠j->hi i<=lo j\/hi j<=lo i)->wpList P ops Q (tl.filterMap λi=>ops[i]?) (fr v) W):(Code.region id ops true).wp P Q a w0:=by
 refine wp_region_any gH ?_;refine wx_ hc fT hstab hloc hS steps fin ops.size _ [] v0 (λ_=>0) (λ_=>0) a _ ⟨aj,λi=>?_,.nil,aj,λi hi'=>?_,ha,World.grownBy.drewR _ _,λ_=>(JV _ _).drew,aj,aj⟩ aj
 .simp [Array.getD]
 exfalso;revert hi';simp [Array.getD]
end
def Region.chkH (md:Region.Mode) (ops:Array Oper) (ph tl:List Nat):Bool:=
 ((List.range ops.size).all λi=>ph.contains i != tl.contains i) &&
 (ph.all λi=>(ops[i]?).isSome && (Region.deps md ops i).all λj=>ph.contains j) &&
 ((List.range ops.size).all λi=>(Region.deps md ops i).all λj=>decide (j<i)) &&
 (tl.all λi=>decide (i<ops.size)) &&
 (match tl with|[]=>true|t :: r=>(ph.all λj=>(Region.sat md ops ops.size (Region.deps md ops t)).contains j) && Region.chain md ops t r)
section
variable {P:Program} {ops:Array Oper} {Q:Exit->Act->World->Prop} {md:Region.Mode}
variable {w0:World} {ph tl:List Nat} {fr:(Nat->Value)->Act} {F:Nat->(Nat->Value)->(Nat->Nat)->(Nat->Nat)->World->Prop} {S:World->Prop}
def q6h (P:Program) (md:Region.Mode) (ops:Array Oper) (Q:Exit->Act->World->Prop) (w0:World) (fr:(Nat->Value)->Act) (F:Nat->(Nat->Value)->(Nat->Nat)->(Nat->Nat)->World->Prop) (S:World->Prop) (k:Nat) (o:Oper):Prop:=
 ∀ (v:Nat->Value) (lo hi:Nat->Nat) (W:World),Below w0.heap.size w0 W->S W->(∀ j∈Region.deps md ops k,lo j<=hi j/\hi j<=W.heap.size/\F j v lo hi W)->
  Region.wanted o (yielded ops (fr v).tmps)=true/\
  ∀ K:Act->World->Prop,(∀ x W',Below W.heap.size W W'->F k (λj=>if j=k then x else v j) (λj=>if j=k then W.heap.size else lo j) (λj=>if j=k then W'.heap.size else hi j) W'->K (fr (λj=>if j=k then x else v j)) W')->Oper.wp P o (fr v) W K Q
def CP (P:Program) (md:Region.Mode) (ops:Array Oper) (Q:Exit->Act->World->Prop) (w0:World) (fr:(Nat->Value)->Act) (F:Nat->(Nat->Value)->(Nat->Nat)->(Nat->Nat)->World->Prop) (S:World->Prop):List Nat->Prop
 | []=>True
 | k :: r=>(∀ o,ops[k]? = some o->q6h P md ops Q w0 fr F S k o)/\CP P md ops Q w0 fr F S r
theorem CP.get:∀ {l:List Nat},CP P md ops Q w0 fr F S l->∀ i∈l,∀ o,ops[i]? = some o->q6h P md ops Q w0 fr F S i o:=by
 intro l;induction l with
 | nil=>intro _ i hi;simp at hi
 | cons k l ih=>
  intro h i hi;rcases U3.1 hi with rfl|hi
  .exact h.1
  exact ih h.2 i hi
end
def Region.chkX (md:Region.Mode) (ops:Array Oper) (ph:List Nat) (x t:Nat) (r:List Nat):Bool:=
 ((List.range ops.size).all λi=>ph.contains i != (t :: r).contains i) &&
 (ph.all λi=>(ops[i]?).isSome && (Region.deps md ops i).all λj=>ph.contains j) &&
 ((List.range ops.size).all λi=>(Region.deps md ops i).all λj=>decide (j<i)) &&
 ((t :: r).all λi=>decide (i<ops.size)) &&
 ((ph.all λj=>j == x || (Region.sat md ops ops.size (Region.deps md ops t)).contains j) && Region.chain md ops t r) &&
 (ph.contains x && Region.chain md ops x r && (Region.deps md ops t).all (λj=>j != x) && !r.isEmpty)
section
variable {P:Program} {ops:Array Oper} {Q:Exit->Act->World->Prop} {md:Region.Mode}
variable {w0:World} {ph:List Nat} {x t:Nat} {r:List Nat} {fr:(Nat->Value)->Act} {F:Nat->(Nat->Value)->(Nat->Nat)->(Nat->Nat)->World->Prop} {S:World->Prop}
theorem rc_ (hback:∀ i,i<ops.size->∀ j∈Region.deps md ops i,j<i) (x t:Nat) (r:List Nat) (fuel:Nat) (l:Array Bool) (a:Act) (w:World) (hx:x<ops.size) (ht:t<ops.size) (hne:x≠t) (Rs:x ∉ r) (oQ:t ∉ r)
  (hxd:∀ j∈Region.deps md ops x,j ∉ x :: t :: r) (Kc:∀ j∈Region.deps md ops t,j ∉ x :: t :: r)
  (hc1:Region.chain md ops t r=true) (hc2:Region.chain md ops x r=true) (hr:∀ i∈r,i<ops.size) (hf:r.length+2<=fuel) (hl:l.size=ops.size)
  (cX:∀ j,j<ops.size->(l.getD j false=true↔j ∉ x :: t :: r))
  (h1:wpList P ops Q ((x :: t :: r).filterMap λi=>ops[i]?) a w) (h2:wpList P ops Q ((t :: x :: r).filterMap λi=>ops[i]?) a w):wpAny P md ops Q fuel l a w:=by
 obtain ⟨f,rfl⟩:∃ f,fuel=f+1:=⟨fuel-1,ad⟩;have lz:∀ y,y<ops.size->y∈x :: t :: r->(∀ j∈Region.deps md ops y,j ∉ x :: t :: r)->y∈Region.ready md ops l:=λy hy hm hd=>by
  rw [Region.ready_spec];refine ⟨hy,?_,λj hj=>(cX j (by have:=hback y hy j hj;omega)).2 (hd j hj)⟩;rw [rE ad];cases hb:l.getD y false with
  | true=>exact absurd hm ((cX y hy).1 hb)
  | false=>rfl
 have Gt:=lz x hx aj hxd;refine ⟨λhnil=>by rw [hnil] at Gt;simp at Gt,λy hy=>?_⟩;have hy':=(Region.ready_spec y).1 hy;have wH:y∈x :: t :: r:=by
  by_cases hm:y∈x :: t :: r
  .exact hm
  rw [rE ad,(cX y hy'.1).2 hm] at hy';simp at hy'
 have kR:y=x\/y=t:=by
  rcases U3.1 wH with h3|h3
  .exact .inl h3
  rcases U3.1 h3 with h3|h3
  .exact .inr h3
  exfalso;obtain ⟨z,h4,h5,h6⟩:=Fa hc1 y h3;exact (cX z ad).1 (hy'.2.2 z h6) (P5 _ h4)
 have go:∀ (y z:Nat),y<ops.size->z<ops.size->y≠z->y ∉ r->Region.chain md ops z r=true->(∀ j,j∈y :: z :: r↔j∈x :: t :: r)->wpList P ops Q ((y :: z :: r).filterMap λi=>ops[i]?) a w->wpOp P ops Q y (wpAny P md ops Q f (l.setIfInBounds y true)) a w:=by
  intro y z hy hz hyz wH hcz hmm h;have hsome:ops[y]? = some ops[y]:=zo hy;rw [List.filterMap_cons,hsome] at h;unfold wpOp;rw [hsome];simp only;have key:∀ a w,wpList P ops Q ((z :: r).filterMap λi=>ops[i]?) a w->wpAny P md ops Q f (l.setIfInBounds y true) a w:=λa w h=>by
   refine Jo hback (z :: r) f _ a w (λt' r' e=>?_) (λi hi=>?_) aR (by simpa using hl) (λj hj=>?_) h
   .cases e;exact hcz
   .rcases U3.1 hi with rfl|hi
    .exact hz
    exact hr i hi
   by_cases e:y=j
   .subst e;rw [xu ad];simp [hyz,wH]
   rw [rA e,cX j hj,<- hmm j,U3];exact ⟨λh hx=>h (.inr hx),λh hx=>h (hx.resolve_left λe'=>e e'.symm)⟩
  simp only [wpList] at h
  split
  .rename_i hw;rw [if_pos hw] at h;exact h.imp (Oper.wp_mono key) id
  rename_i hw;rw [if_neg hw] at h;exact key _ _ h
 rcases kR with rfl|rfl
 .exact go y t hx ht hne Rs hc1 (λ_=>MT) h1
 exact go y x ht hx (λe=>hne e.symm) oQ hc2 (λj=>by simp only [U3];exact ⟨λh=>h.elim (λh=>.inr (.inl h)) (λh=>h.elim .inl (λh=>.inr (.inr h))),λh=>h.elim (λh=>.inr (.inl h)) (λh=>h.elim .inl (λh=>.inr (.inr h)))⟩) h2
variable {x0:Nat}
theorem q8_ (hc:Region.chkX md ops ph x0 t r=true) (fT:ph.Nodup)
  (hstab:∀ i v lo hi W W',F i v lo hi W->Below W.heap.size W W'->F i v lo hi W')
  (hloc:∀ i v v' lo lo' hi hi' W,(∀ j,j=i\/j∈Region.deps md ops i->v j=v' j/\lo j=lo' j/\hi j=hi' j)->F i v lo hi W->F i v' lo' hi' W)
  (hS:∀ W,Below w0.heap.size w0 W->S W)
  (steps:CP P md ops Q w0 fr F S ph)
  (fin:∀ (v:Nat->Value) (lo hi:Nat->Nat) (W:World),Below w0.heap.size w0 W->S W->(∀ i,ph.contains i=true->w0.heap.size<=lo i/\lo i<=hi i/\hi i<=W.heap.size/\F i v lo hi W)->
   (∀ i j,ph.contains i=true->ph.contains j=true->i≠j->hi i<=lo j\/hi j<=lo i)->wpList P ops Q ((t :: r).filterMap λi=>ops[i]?) (fr v) W)
  (fin2:∀ (v:Nat->Value) (lo hi:Nat->Nat) (W:World),Below w0.heap.size w0 W->S W->(∀ i,ph.contains i=true->i≠x0->w0.heap.size<=lo i/\lo i<=hi i/\hi i<=W.heap.size/\F i v lo hi W)->
   (∀ i j,ph.contains i=true->ph.contains j=true->i≠x0->j≠x0->i≠j->hi i<=lo j\/hi j<=lo i)->wpList P ops Q ((x0 :: t :: r).filterMap λi=>ops[i]?) (fr v) W/\wpList P ops Q ((t :: x0 :: r).filterMap λi=>ops[i]?) (fr v) W) :
  ∀ (fuel:Nat) (l:Array Bool) (done:List Nat) (v:Nat->Value) (lo hi:Nat->Nat) (a:Act) (W:World),KS w0 ph ops md fr F l done v lo hi a W->fuel+done.length=ops.size->wpAny P md ops Q fuel l a W:=by
 unfold Region.chkX at hc;simp only [NU,MI,MN,OB,OD,ne_eq] at hc;obtain ⟨⟨⟨⟨⟨jU,tP⟩,hback⟩,ia⟩,aU⟩,q1r⟩:=hc;obtain ⟨⟨⟨Rr,si⟩,nX⟩,hrne⟩:=q1r;have cf:∀ i∈ph,i<ops.size:=λi hi'=>by
  rcases PZ i ops.size with h|h
  .exact h
  have:=(tP i hi').1;rw [q7l h] at this;simp at this
 have bT:∀ i,i<ops.size->(i∈ph/\i ∉ t :: r)\/(i ∉ ph/\i∈t :: r):=λi hi'=>by
  have:=jU i hi';by_cases h1:i∈ph <;> by_cases h2:i∈t :: r <;> simp_all
 have full:∀ {l done v lo hi a W},KS w0 ph ops md fr F l done v lo hi a W->(∀ i∈ph,i∈done)->∀ fuel,(t :: r).length<=fuel->wpAny P md ops Q fuel l a W:=by
  intro l done v lo hi a W hd hall fuel hf;rw [hd.act];have hm:∀ i,ph.contains i=true->i∈done:=λi hi'=>hall i (by simpa using hi');refine Jo (λi hi' j hj=>by simpa using hback i hi' j hj) (t :: r) fuel l _ W (λt' r' e=>?_) (λi hi=>by simpa using ia i hi) hf hd.size (λj hj=>?_) (fin v lo hi W hd.below (hS W hd.below) (λi hi'=>hd.facts i (hm i hi')) λi j hi' hj hne=>hd.apart i (hm i hi') j (hm j hj) hne)
  .cases e;exact aU.2
  rw [hd.iff];rcases bT j hj with ⟨h1,h2⟩|⟨h1,h2⟩
  .exact ⟨λ_=>h2,λ_=>hall j h1⟩
  exact ⟨λh=>absurd (hd.lt j h) h1,λh=>absurd h2 h⟩
 have pG:(t :: r).Nodup:=by
  have key:∀ (r:List Nat) (t:Nat),Region.chain md ops t r=true->(t :: r).Nodup:=by
   intro r;induction r with
   | nil=>intro t _;simp
   | cons t' r ih=>
    intro t h;have hlt:=Fm h;simp only [Region.chain,NU] at h;exact N_.2 ⟨λhx=>by have:=hlt t hx;omega,ih t' h.2⟩
  exact key r t aU.2
 have hsize:ph.length+(t :: r).length<=ops.size:=by
  have:(ph ++ (t :: r)).length<=(List.range ops.size).length:=mJ (yA.2 ⟨fT,pG,λx hx y hy e=>by
   subst e;rcases bT x (cf x hx) with h|h
   .exact h.2 hy
   exact h.1 hx⟩) λx hx=>MN.2 (by
   rcases VJ.1 hx with h|h
   .exact cf x h
   have:=ia x h;simpa using this)
  simpa using this
 intro fuel;induction fuel with
 | zero=>
  intro l done v lo hi a W hd hlen;have h1:done.length<=ph.length:=mJ hd.nd hd.lt;refine full hd (λi hi'=>?_) 0 ad;by_cases h:i∈done
  .exact h
  have h2:(i :: done).length<=ph.length:=mJ (N_.2 ⟨h,hd.nd⟩) (λx hx=>by
   rcases U3.1 hx with rfl|hx
   .exact hi'
   exact hd.lt x hx)
  simp at h2;omega
 | succ fuel ih=>
  intro l done v lo hi a W hd hlen;by_cases hfull:∀ i∈ph,i∈done
  .have h1:ph.length<=done.length:=mJ fT hfull;have h2:done.length<=ph.length:=mJ hd.nd hd.lt;exact full hd hfull _ ad
  by_cases hpart:∀ i∈ph,i≠x0->i∈done
  .have hx0:x0 ∉ done:=λh=>hfull λi hi'=>by
    by_cases e:i=x0
    .rw [e];exact h
    exact hpart i hi' e
   have pJ:x0∈ph:=by simpa using Rr
   have h1:(x0 :: done).length<=ph.length:=mJ (N_.2 ⟨hx0,hd.nd⟩) (λx hx=>by
    rcases U3.1 hx with rfl|hx
    .exact pJ
    exact hd.lt x hx)
   simp only [MH] at h1 hsize;have hb':∀ i,i<ops.size->∀ j∈Region.deps md ops i,j<i:=λi hi' j hj=>by simpa using hback i hi' j hj
   have He:x0 ∉ t :: r:=by
    rcases bT x0 (cf x0 pJ) with h|h
    .exact h.2
    exact absurd pJ h.1
   have htn:t ∉ r:=(N_.1 pG).1;have VO:t<ops.size:=by have:=ia t aj;simpa using this
   have cX:∀ j,j<ops.size->(l.getD j false=true↔j ∉ x0 :: t :: r):=λj hj=>by
    rw [hd.iff,U3,not_or];rcases bT j hj with ⟨h3,h4⟩|⟨h3,h4⟩
    .exact ⟨λh=>⟨λe=>hx0 (e ▸ h),h4⟩,λh=>hpart j h3 h.1⟩
    exact ⟨λh=>absurd (hd.lt j h) h3,λh=>absurd h4 h.2⟩
   have hf2:=fin2 v lo hi W hd.below (hS W hd.below) (λi hi' hne=>hd.facts i (hpart i (by simpa using hi') hne)) λi j hi' hj h3 h4 hne=>hd.apart i (hpart i (by simpa using hi') h3) j (hpart j (by simpa using hj) h4) hne;rw [hd.act];refine rc_ hb' x0 t r (fuel+1) l _ W (cf x0 pJ) VO (λe=>He (by rw [e];simp)) (λh=>He (P5 _ h)) htn (λj hj hm=>?_) (λj hj hm=>?_) aU.2 si (λi hi=>by have:=ia i (P5 _ hi);simpa using this) ad hd.size cX hf2.1 hf2.2
   .have h3:j∈ph:=by have:=(tP x0 pJ).2 j hj;simpa using this
    have h4:=hb' x0 (cf x0 pJ) j hj;rcases U3.1 hm with h5|h5
    .omega
    rcases bT j (cf j h3) with h6|h6
    .exact h6.2 h5
    exact h6.1 h3
   have h4:=hb' t VO j hj;rcases U3.1 hm with h5|h5
   .have:=nX j hj;exact absurd h5 (by simpa using this)
   rcases U3.1 h5 with h6|h6
   .omega
   have:=Fm aU.2 j h6;omega
  have fL:∀ x∈Region.ready md ops l,x∈ph:=λx hx=>by
   have hx':=(Region.ready_spec x).1 hx;rcases bT x hx'.1 with ⟨h,_⟩|⟨_,h⟩
   .exact h
   exfalso;rcases U3.1 h with h5|h5
   .rw [h5] at hx';have hs:=Ry hd.down ops.size _ hx'.2.2;exact hpart λi hi' hne=>(hd.iff i).1 (hs i (by
     have:=aU.1 i hi';simp only [V6,beq_iff_eq] at this;simpa using this.resolve_left hne))
   obtain ⟨y,h2,h3,h4⟩:=Fa aU.2 x h5;have h5:=hd.lt y ((hd.iff y).1 (hx'.2.2 y h4));rcases bT y ad with h6|h6
   .exact h6.2 h2
   exact h6.1 h5
  refine ⟨λhnil=>?_,λx hx=>?_⟩
  .exfalso;refine hfull ?_;intro i;induction i using Nat.strongRecOn with
   | _ i ihi=>
    intro hi';by_cases h:i∈done
    .exact h
    exfalso;have hin:i∈Region.ready md ops l:=by
     rw [Region.ready_spec];refine ⟨cf i hi',?_,λj hj=>?_⟩
     .rw [rE (by have:=hd.size;have:=cf i hi';omega)];cases hb:l.getD i false with
      | false=>rfl
      | true=>exact absurd ((hd.iff i).1 hb) h
     have so:j<i:=by simpa using hback i (cf i hi') j hj
     exact (hd.iff j).2 (ihi j so (by have:=(tP i hi').2 j hj;simpa using this))
    rw [hnil] at hin;simp at hin
  have ku:=fL x hx;have hx':=(Region.ready_spec x).1 hx;have hstep:=steps.get x ku _ (zo hx'.1);have tV:x ∉ done:=λh=>by
   have h2:=(hd.iff x).2 h;rw [rE (by have:=hd.size;omega),h2] at hx';simp at hx'
  unfold wpOp;rw [zo hx'.1];simp only;obtain ⟨hw,hrun⟩:=hstep v lo hi W hd.below (hS W hd.below) (λj hj=>(hd.facts j ((hd.iff j).1 (hx'.2.2 j hj))).2);rw [hd.act,if_pos hw];refine .inl (hrun _ ?_);intro y W' hb hF;have bY:Below w0.heap.size w0 W':=hd.below.trans (hb.mono hd.below.size);refine ih (l.setIfInBounds x true) (x :: done) _ (λj=>if j=x then W.heap.size else lo j) (λj=>if j=x then W'.heap.size else hi j) _ W' ⟨by simpa using hd.size,λi=>?_,N_.2 ⟨tV,hd.nd⟩,λi hi'=>?_,λi hi' j hj=>?_,rfl,bY,λi hi'=>?_,λi hi' j hj hne=>?_⟩ aR
  .by_cases e:x=i
   .subst e;rw [xu (by have:=hd.size;omega)];simp
   rw [rA e,hd.iff,U3];exact ⟨.inr,λh=>h.resolve_left (λe'=>e e'.symm)⟩
  .rcases U3.1 hi' with rfl|h
   .exact ku
   exact hd.lt i h
  .have so:l.getD j false=true:=by
    by_cases e:x=i
    .subst e;exact hx'.2.2 j hj
    rw [rA e] at hi';exact hd.down i hi' j hj
   by_cases e:x=j
   .subst e;exact xu (by have:=hd.size;omega)
   rw [rA e];exact so
  .by_cases e:i=x
   .subst e;refine ⟨?_,?_,?_,hF⟩
    .simp only [if_true];exact hd.below.size
    .simp only [if_true];exact hb.size
    simp only [if_true];exact TZ _
   have hid:i∈done:=by rcases U3.1 hi' with h|h;exact absurd h e;exact h
   obtain ⟨f1,f2,f3,f4⟩:=hd.facts i hid;refine ⟨by simp only [if_neg e];exact f1,by simp only [if_neg e];exact f2,by simp only [if_neg e];exact NN f3 hb.size,hstab i _ _ _ W W' (hloc i v _ lo _ hi _ W (λj hj=>?_) f4) hb⟩;have Gv:j≠x:=by
    rintro rfl;rcases hj with hj|hj
    .exact e hj.symm
    exact tV ((hd.iff j).1 (hd.down i ((hd.iff i).2 hid) j hj))
   simp only [if_neg Gv];exact ⟨trivial,trivial,trivial⟩
  by_cases e1:i=x
  .subst e1;have sn:j∈done:=by rcases U3.1 hj with h|h;exact absurd h.symm hne;exact h
   simp only [if_true,if_neg (λe=>hne (Eq.symm e):¬ j=i)];have:=(hd.facts j sn).2.2.1;omega
  have hid:i∈done:=by rcases U3.1 hi' with h|h;exact absurd h e1;exact h
  by_cases e2:j=x
  .subst e2;simp only [if_true,if_neg e1];have:=(hd.facts i hid).2.2.1;omega
  have sn:j∈done:=by rcases U3.1 hj with h|h;exact absurd h e2;exact h
  simp only [if_neg e1,if_neg e2];exact hd.apart i hid j sn hne
theorem l3_ {id:Nat} {a:Act} (ph:List Nat) (x0 t:Nat) (r:List Nat) (fr:(Nat->Value)->Act) (v0:Nat->Value) (F:Nat->(Nat->Value)->(Nat->Nat)->(Nat->Nat)->World->Prop) (S:World->Prop) (gH:P.follows .mixedOrders=true)
  (hc:Region.chkX .any ops ph x0 t r=true) (fT:ph.Nodup) (ha:a=fr v0)
  (hstab:∀ i v lo hi W W',F i v lo hi W->Below W.heap.size W W'->F i v lo hi W')
  (hloc:∀ i v v' lo lo' hi hi' W,(∀ j,j=i\/j∈Region.deps .any ops i->v j=v' j/\lo j=lo' j/\hi j=hi' j)->F i v lo hi W->F i v' lo' hi' W)
  (hS:∀ W,Below w0.heap.size w0 W->S W)
  (steps:CP P .any ops Q w0 fr F S ph)
  (fin:∀ (v:Nat->Value) (lo hi:Nat->Nat) (W:World),Below w0.heap.size w0 W->S W->(∀ i,ph.contains i=true->w0.heap.size<=lo i/\lo i<=hi i/\hi i<=W.heap.size/\F i v lo hi W)->
   (∀ i j,ph.contains i=true->ph.contains j=true->i≠j->hi i<=lo j\/hi j<=lo i)->wpList P ops Q ((t :: r).filterMap λi=>ops[i]?) (fr v) W)
  (fin2:∀ (v:Nat->Value) (lo hi:Nat->Nat) (W:World),Below w0.heap.size w0 W->S W->(∀ i,ph.contains i=true->i≠x0->w0.heap.size<=lo i/\lo i<=hi i/\hi i<=W.heap.size/\F i v lo hi W)->
   (∀ i j,ph.contains i=true->ph.contains j=true->i≠x0->j≠x0->i≠j->hi i<=lo j\/hi j<=lo i)->wpList P ops Q ((x0 :: t :: r).filterMap λi=>ops[i]?) (fr v) W/\wpList P ops Q ((t :: x0 :: r).filterMap λi=>ops[i]?) (fr v) W):(Code.region id ops true).wp P Q a w0:=by
 refine wp_region_any gH ?_;refine q8_ hc fT hstab hloc hS steps fin fin2 ops.size _ [] v0 (λ_=>0) (λ_=>0) a _ ⟨aj,λi=>?_,.nil,aj,λi hi'=>?_,ha,(JV _ _).drew,aj,aj⟩ aj
 .simp [Array.getD]
 exfalso;revert hi';simp [Array.getD]
end
section
variable {P:Program} {ops:Array Oper} {Q:Exit->Act->World->Prop} {md:Region.Mode}
variable {w0:World} {ph tl:List Nat} {fr:(Nat->Value)->Act} {F:Nat->(Nat->Value)->(Nat->Nat)->(Nat->Nat)->World->Prop} {S:World->Prop}
def Z6 (P:Program) (md:Region.Mode) (ops:Array Oper) (Q:Exit->Act->World->Prop) (w0:World) (fr:(Nat->Value)->Act) (F:Nat->(Nat->Value)->(Nat->Nat)->(Nat->Nat)->World->Prop) (S:World->Prop) (k:Nat) (o:Oper):Prop:=
 ∀ (v:Nat->Value) (lo hi:Nat->Nat) (W:World),Below w0.heap.size w0 W->S W->(∀ j∈Region.deps md ops k,lo j<=hi j/\hi j<=W.heap.size/\F j v lo hi W)->
  (Region.wanted o (yielded ops (fr v).tmps)=true/\
  ∀ K:Act->World->Prop,(∀ x W',Below W.heap.size W W'->F k (λj=>if j=k then x else v j) (λj=>if j=k then W.heap.size else lo j) (λj=>if j=k then W'.heap.size else hi j) W'->K (fr (λj=>if j=k then x else v j)) W')->Oper.wp P o (fr v) W K Q) \/
  (Region.wanted o (yielded ops (fr v).tmps)=false/\
  ∀ K:Act->World->Prop,(∀ x W',Below W.heap.size W W'->F k (λj=>if j=k then x else v j) (λj=>if j=k then W.heap.size else lo j) (λj=>if j=k then W'.heap.size else hi j) W'->K (fr (λj=>if j=k then x else v j)) W')->K ((fr v).put o.dst undef) W)
def xL (P:Program) (md:Region.Mode) (ops:Array Oper) (Q:Exit->Act->World->Prop) (w0:World) (fr:(Nat->Value)->Act) (F:Nat->(Nat->Value)->(Nat->Nat)->(Nat->Nat)->World->Prop) (S:World->Prop):List Nat->Prop
 | []=>True
 | k :: r=>(∀ o,ops[k]? = some o->Z6 P md ops Q w0 fr F S k o)/\xL P md ops Q w0 fr F S r
theorem xL.get:∀ {l:List Nat},xL P md ops Q w0 fr F S l->∀ i∈l,∀ o,ops[i]? = some o->Z6 P md ops Q w0 fr F S i o:=by
 intro l;induction l with
 | nil=>intro _ i hi;simp at hi
 | cons k l ih=>
  intro h i hi;rcases U3.1 hi with rfl|hi
  .exact h.1
  exact ih h.2 i hi
theorem Wp (hc:Region.chkH md ops ph tl=true) (fT:ph.Nodup)
  (hstab:∀ i v lo hi W W',F i v lo hi W->Below W.heap.size W W'->F i v lo hi W')
  (hloc:∀ i v v' lo lo' hi hi' W,(∀ j,j=i\/j∈Region.deps md ops i->v j=v' j/\lo j=lo' j/\hi j=hi' j)->F i v lo hi W->F i v' lo' hi' W)
  (hS:∀ W,Below w0.heap.size w0 W->S W)
  (steps:xL P md ops Q w0 fr F S ph)
  (fin:∀ (v:Nat->Value) (lo hi:Nat->Nat) (W:World),Below w0.heap.size w0 W->S W->(∀ i,ph.contains i=true->w0.heap.size<=lo i/\lo i<=hi i/\hi i<=W.heap.size/\F i v lo hi W)->
   (∀ i j,ph.contains i=true->ph.contains j=true->i≠j->hi i<=lo j\/hi j<=lo i)->wpList P ops Q (tl.filterMap λi=>ops[i]?) (fr v) W) :
  ∀ (fuel:Nat) (l:Array Bool) (done:List Nat) (v:Nat->Value) (lo hi:Nat->Nat) (a:Act) (W:World),KS w0 ph ops md fr F l done v lo hi a W->fuel+done.length=ops.size->wpAny P md ops Q fuel l a W:=by
 unfold Region.chkH at hc;simp only [NU,MI,MN,OB,OD,ne_eq] at hc;obtain ⟨⟨⟨⟨jU,tP⟩,hback⟩,ia⟩,aU⟩:=hc;have cf:∀ i∈ph,i<ops.size:=λi hi'=>by
  rcases PZ i ops.size with h|h
  .exact h
  have:=(tP i hi').1;rw [q7l h] at this;simp at this
 have bT:∀ i,i<ops.size->(i∈ph/\i ∉ tl)\/(i ∉ ph/\i∈tl):=λi hi'=>by
  have:=jU i hi';by_cases h1:i∈ph <;> by_cases h2:i∈tl <;> simp_all
 have q2f:ph.length+tl.eraseDups.length >= 0:=T8 _;have full:∀ {l done v lo hi a W},KS w0 ph ops md fr F l done v lo hi a W->(∀ i∈ph,i∈done)->∀ fuel,tl.length<=fuel->wpAny P md ops Q fuel l a W:=by
  intro l done v lo hi a W hd hall fuel hf;rw [hd.act];have hm:∀ i,ph.contains i=true->i∈done:=λi hi'=>hall i (by simpa using hi');refine Jo (λi hi' j hj=>by simpa using hback i hi' j hj) tl fuel l _ W (λt r e=>?_) ia hf hd.size (λj hj=>?_) (fin v lo hi W hd.below (hS W hd.below) (λi hi'=>hd.facts i (hm i hi')) λi j hi' hj hne=>hd.apart i (hm i hi') j (hm j hj) hne)
  .rw [e] at aU;simp only [NU] at aU;exact aU.2
  rw [hd.iff];rcases bT j hj with ⟨h1,h2⟩|⟨h1,h2⟩
  .exact ⟨λ_=>h2,λ_=>hall j h1⟩
  exact ⟨λh=>absurd (hd.lt j h) h1,λh=>absurd h2 h⟩
 have pG:tl.Nodup:=by
  cases tl with
  | nil=>exact .nil
  | cons t r=>
   simp only [NU] at aU;have key:∀ (r:List Nat) (t:Nat),Region.chain md ops t r=true->(t :: r).Nodup:=by
    intro r;induction r with
    | nil=>intro t _;simp
    | cons t' r ih=>
     intro t h;have hlt:=Fm h;simp only [Region.chain,NU] at h;exact N_.2 ⟨λhx=>by have:=hlt t hx;omega,ih t' h.2⟩
   exact key r t aU.2
 have hsize:ph.length+tl.length<=ops.size:=by
  have:(ph ++ tl).length<=(List.range ops.size).length:=mJ (yA.2 ⟨fT,pG,λx hx y hy e=>by
   subst e;rcases bT x (cf x hx) with h|h
   .exact h.2 hy
   exact h.1 hx⟩) λx hx=>MN.2 (by
   rcases VJ.1 hx with h|h
   .exact cf x h
   exact ia x h)
  simpa using this
 intro fuel;induction fuel with
 | zero=>
  intro l done v lo hi a W hd hlen;have h1:done.length<=ph.length:=mJ hd.nd hd.lt;refine full hd (λi hi'=>?_) 0 ad;by_cases h:i∈done
  .exact h
  have h2:(i :: done).length<=ph.length:=mJ (N_.2 ⟨h,hd.nd⟩) (λx hx=>by
   rcases U3.1 hx with rfl|hx
   .exact hi'
   exact hd.lt x hx)
  simp at h2;omega
 | succ fuel ih=>
  intro l done v lo hi a W hd hlen;by_cases hfull:∀ i∈ph,i∈done
  .have h1:ph.length<=done.length:=mJ fT hfull;have h2:done.length<=ph.length:=mJ hd.nd hd.lt;exact full hd hfull _ ad
  have fL:∀ x∈Region.ready md ops l,x∈ph:=λx hx=>by
   have hx':=(Region.ready_spec x).1 hx;rcases bT x hx'.1 with ⟨h,_⟩|⟨_,h⟩
   .exact h
   exfalso;cases htl':tl with
   | nil=>rw [htl'] at h;simp at h
   | cons t r=>
    rw [htl'] at h aU;simp only [NU,MI] at aU;rcases U3.1 h with rfl|h
    .have hs:=Ry hd.down ops.size _ hx'.2.2;exact hfull λi hi'=>(hd.iff i).1 (hs i (by have:=aU.1 i hi';simpa using this))
    obtain ⟨y,h2,h3,h4⟩:=Fa aU.2 x h;have h5:=hd.lt y ((hd.iff y).1 (hx'.2.2 y h4));rcases bT y ad with h6|h6
    .exact h6.2 (by rw [htl'];exact h2)
    exact h6.1 h5
  refine ⟨λhnil=>?_,λx hx=>?_⟩
  .exfalso;refine hfull ?_;intro i;induction i using Nat.strongRecOn with
   | _ i ihi=>
    intro hi';by_cases h:i∈done
    .exact h
    exfalso;have hin:i∈Region.ready md ops l:=by
     rw [Region.ready_spec];refine ⟨cf i hi',?_,λj hj=>?_⟩
     .rw [rE (by have:=hd.size;have:=cf i hi';omega)];cases hb:l.getD i false with
      | false=>rfl
      | true=>exact absurd ((hd.iff i).1 hb) h
     have so:j<i:=by simpa using hback i (cf i hi') j hj
     exact (hd.iff j).2 (ihi j so (by have:=(tP i hi').2 j hj;simpa using this))
    rw [hnil] at hin;simp at hin
  have ku:=fL x hx;have hx':=(Region.ready_spec x).1 hx;have hstep:=steps.get x ku _ (zo hx'.1);have tV:x ∉ done:=λh=>by
   have h2:=(hd.iff x).2 h;rw [rE (by have:=hd.size;omega),h2] at hx';simp at hx'
  unfold wpOp;rw [zo hx'.1];simp only;have xZ:∀ y W',Below W.heap.size W W'->F x (λj=>if j=x then y else v j) (λj=>if j=x then W.heap.size else lo j) (λj=>if j=x then W'.heap.size else hi j) W'->wpAny P md ops Q fuel (l.setIfInBounds x true) (fr (λj=>if j=x then y else v j)) W':=?cond
  .rcases hstep v lo hi W hd.below (hS W hd.below) (λj hj=>(hd.facts j ((hd.iff j).1 (hx'.2.2 j hj))).2) with ⟨hw,hrun⟩|⟨hw,hrun⟩
   .rw [hd.act,if_pos hw];exact .inl (hrun _ xZ)
   rw [hd.act,if_neg (by rw [hw];simp)];exact hrun _ xZ
  intro y W' hb hF;have bY:Below w0.heap.size w0 W':=hd.below.trans (hb.mono hd.below.size);refine ih (l.setIfInBounds x true) (x :: done) _ (λj=>if j=x then W.heap.size else lo j) (λj=>if j=x then W'.heap.size else hi j) _ W' ⟨by simpa using hd.size,λi=>?_,N_.2 ⟨tV,hd.nd⟩,λi hi'=>?_,λi hi' j hj=>?_,rfl,bY,λi hi'=>?_,λi hi' j hj hne=>?_⟩ aR
  .by_cases e:x=i
   .subst e;rw [xu (by have:=hd.size;omega)];simp
   rw [rA e,hd.iff,U3];exact ⟨.inr,λh=>h.resolve_left (λe'=>e e'.symm)⟩
  .rcases U3.1 hi' with rfl|h
   .exact ku
   exact hd.lt i h
  .have so:l.getD j false=true:=by
    by_cases e:x=i
    .subst e;exact hx'.2.2 j hj
    rw [rA e] at hi';exact hd.down i hi' j hj
   by_cases e:x=j
   .subst e;exact xu (by have:=hd.size;omega)
   rw [rA e];exact so
  .by_cases e:i=x
   .subst e;refine ⟨?_,?_,?_,hF⟩
    .simp only [if_true];exact hd.below.size
    .simp only [if_true];exact hb.size
    simp only [if_true];exact TZ _
   have hid:i∈done:=by rcases U3.1 hi' with h|h;exact absurd h e;exact h
   obtain ⟨f1,f2,f3,f4⟩:=hd.facts i hid;refine ⟨by simp only [if_neg e];exact f1,by simp only [if_neg e];exact f2,by simp only [if_neg e];exact NN f3 hb.size,hstab i _ _ _ W W' (hloc i v _ lo _ hi _ W (λj hj=>?_) f4) hb⟩;have Gv:j≠x:=by
    rintro rfl;rcases hj with hj|hj
    .exact e hj.symm
    exact tV ((hd.iff j).1 (hd.down i ((hd.iff i).2 hid) j hj))
   simp only [if_neg Gv];exact ⟨trivial,trivial,trivial⟩
  by_cases e1:i=x
  .subst e1;have sn:j∈done:=by rcases U3.1 hj with h|h;exact absurd h.symm hne;exact h
   simp only [if_true,if_neg (λe=>hne (Eq.symm e):¬ j=i)];have:=(hd.facts j sn).2.2.1;omega
  have hid:i∈done:=by rcases U3.1 hi' with h|h;exact absurd h e1;exact h
  by_cases e2:j=x
  .subst e2;simp only [if_true,if_neg e1];have:=(hd.facts i hid).2.2.1;omega
  have sn:j∈done:=by rcases U3.1 hj with h|h;exact absurd h e2;exact h
  simp only [if_neg e1,if_neg e2];exact hd.apart i hid j sn hne
theorem Uu {id:Nat} {a:Act} (ph tl:List Nat) (fr:(Nat->Value)->Act) (v0:Nat->Value) (F:Nat->(Nat->Value)->(Nat->Nat)->(Nat->Nat)->World->Prop) (S:World->Prop) (gH:P.follows .mixedOrders=true)
  (hc:Region.chkH .any ops ph tl=true) (fT:ph.Nodup) (ha:a=fr v0)
  (hstab:∀ i v lo hi W W',F i v lo hi W->Below W.heap.size W W'->F i v lo hi W')
  (hloc:∀ i v v' lo lo' hi hi' W,(∀ j,j=i\/j∈Region.deps .any ops i->v j=v' j/\lo j=lo' j/\hi j=hi' j)->F i v lo hi W->F i v' lo' hi' W)
  (hS:∀ W,Below w0.heap.size w0 W->S W)
  (steps:xL P .any ops Q w0 fr F S ph)
  (fin:∀ (v:Nat->Value) (lo hi:Nat->Nat) (W:World),Below w0.heap.size w0 W->S W->(∀ i,ph.contains i=true->w0.heap.size<=lo i/\lo i<=hi i/\hi i<=W.heap.size/\F i v lo hi W)->
   (∀ i j,ph.contains i=true->ph.contains j=true->i≠j->hi i<=lo j\/hi j<=lo i)->wpList P ops Q (tl.filterMap λi=>ops[i]?) (fr v) W):(Code.region id ops true).wp P Q a w0:=by
 refine wp_region_any gH ?_;refine Wp hc fT hstab hloc hS steps fin ops.size _ [] v0 (λ_=>0) (λ_=>0) a _ ⟨aj,λi=>?_,.nil,aj,λi hi'=>?_,ha,(JV _ _).drew,aj,aj⟩ aj
 .simp [Array.getD]
 exfalso;revert hi';simp [Array.getD]
end
def aD:List Value->Nat->Value
 | [],_=>undef
 | x :: _,0=>x
 | _ :: l,k+1=>aD l k
def ov (x:List Value):List Nat->(Nat->Value)->Nat->Value
 | [],u,j=>u j
 | d :: D,u,j=>bif j == d then aD x j else ov x D u j
theorem Il {x:List Value} {D:List Nat} {v:Nat->Value} (h:∀ j∈D,v j=aD x j):ov x D v=v:=by
 induction D with
 | nil=>rfl
 | cons d D ih=>
  funext j
  simp only [ov];cases hb:(j == d) with
  | true=>rw [eq_of_beq hb];exact (h d aj).symm
  | false=>exact congrFun (ih λj hj=>h j (by simp [hj])) j
section
variable {P:Program} {ops:Array Oper} {Q:Exit->Act->World->Prop} {md:Region.Mode}
variable {w0:World} {fr:(Nat->Value)->Act} {S:World->Prop} {x:List Value}
def As (fr:(Nat->Value)->Act) (x:List Value) (D:List Nat) (v:Nat->Value) (W:World) (k:Nat) (K:Act->World->Prop):Prop:=∀ W',Below W.heap.size W W'->K (fr (ov x (k :: D) v)) W'
def KY (P:Program) (ops:Array Oper) (Q:Exit->Act->World->Prop) (w0:World) (fr:(Nat->Value)->Act) (x:List Value) (S:World->Prop) (D:List Nat) (k:Nat) (o:Oper):Prop:=
 ∀ (v:Nat->Value) (W:World),Below w0.heap.size w0 W->S W->
  (Region.wanted o (yielded ops (fr (ov x D v)).tmps)=true/\
  ∀ K:Act->World->Prop,As fr x D v W k K->Oper.wp P o (fr (ov x D v)) W K Q) \/
  (Region.wanted o (yielded ops (fr (ov x D v)).tmps)=false/\
  ∀ K:Act->World->Prop,As fr x D v W k K->K ((fr (ov x D v)).put o.dst undef) W)
def vw (P:Program) (md:Region.Mode) (ops:Array Oper) (Q:Exit->Act->World->Prop) (w0:World) (fr:(Nat->Value)->Act) (x:List Value) (S:World->Prop):List Nat->Prop
 | []=>True
 | k :: r=>(∃ D o,ops[k]? = some o/\(D.all λj=>(Region.deps md ops k).contains j)=true/\KY P ops Q w0 fr x S D k o)/\vw P md ops Q w0 fr x S r
theorem vw.c {k:Nat} {o:Oper} {r:List Nat} (D:List Nat) (e:ops[k]? = some o) (h:KY P ops Q w0 fr x S D k o) (t:vw P md ops Q w0 fr x S r) (hD:(D.all λj=>(Region.deps md ops k).contains j)=true:=by kernel_rfl):vw P md ops Q w0 fr x S (k :: r):=⟨⟨D,o,e,hD,h⟩,t⟩
theorem vw.n:vw P md ops Q w0 fr x S []:=trivial
theorem Zl {D:List Nat} {k:Nat} {v:Nat->Value} (h:∀ j∈D,v j=aD x j):ov x (k :: D) v=λj=>if j=k then aD x k else v j:=by
 funext j
 show (bif j == k then aD x j else ov x D v j)=_;rw [Il h];by_cases e:j=k
 .subst e;simp
 rw [if_neg e,show (j == k)=false from Bool.eq_false_iff.2 λh=>e (eq_of_beq h)];rfl
theorem vw.to:∀ {l:List Nat},vw P md ops Q w0 fr x S l->xL P md ops Q w0 fr (λi v _ _ _=>v i=aD x i) S l
 | [],_=>trivial
 | k :: r,⟨⟨D,o,e,hD,h⟩,t⟩=>by
  refine ⟨λo' e'=>?_,t.to⟩;rw [e] at e';cases e';intro v lo hi W hb hs hd;have hj:∀ j∈D,v j=aD x j:=λj hj=>(hd j (by simpa using MI.1 hD j hj)).2.2;have h':=h v W hb hs;unfold As at h';rw [Il hj,Zl hj] at h';rcases h' with ⟨h1,h2⟩|⟨h1,h2⟩
  .exact .inl ⟨h1,λK hK=>h2 K λW' hb'=>hK (aD x k) W' hb' aj⟩
  exact .inr ⟨h1,λK hK=>h2 K λW' hb'=>hK (aD x k) W' hb' aj⟩
theorem jE {id:Nat} {a:Act} (ph tl:List Nat) (fr:(Nat->Value)->Act) (x:List Value) (S:World->Prop)
  (hS:∀ W,Below w0.heap.size w0 W->S W)
  (steps:vw P .any ops Q w0 fr x S ph)
  (fin:∀ W,Below w0.heap.size w0 W->S W->wpList P ops Q (tl.filterMap λi=>ops[i]?) (fr (aD x)) W)
  (v0:Nat->Value:=λ_=>undef) (ha:a=fr v0:=by rfl) (gH:P.follows .mixedOrders=true:=by rfl) (hc:Region.chkH .any ops ph tl=true:=by kernel_rfl) (fT:ph.Nodup:=by decide)
  (hfr:∀ v:Nat->Value,(∀ i,ph.contains i=true->v i=aD x i)->fr v=fr (aD x):=by intro v h;simp (decide:=true) only [h]):(Code.region id ops true).wp P Q a w0:=
 Uu ph tl fr v0 (λi v _ _ _=>v i=aD x i) S gH hc fT ha (λ_ _ _ _ _ _ h _=>h) (λi v v' _ _ _ _ _ aA h=>(aA i (.inl rfl)).1 ▸ h) hS steps.to
  λv lo hi W h1 h2 h3 _=>by rw [hfr v λi hi'=>(h3 i hi').2.2.2];exact fin W h1 h2
theorem jX {D:List Nat} {k:Nat} {o:Oper} (h:KY P ops Q w0 fr x S D k o:=by
  intro v W hb hS
  first
   | (
    refine .inr ⟨rfl,λK hK=>aQ (hK W (JV _ _)) ?_⟩;simp [Act.put,ov,aD]
    done)
   | (
    go_split_ands;refine .inl ⟨rfl,λK hK=>?_⟩;simp only [ov,aD,Nat.reduceBEq,cond_true,cond_false];go_wp2_with fail;refine aQ (hK W (JV _ _)) ?_
    first
     | (simp [ov,aD];done)
     | (simp [ov,aD, *];done)
    done)
   | fail):KY P ops Q w0 fr x S D k o:=h
end
def qL:=Nat->(Nat->Value)->(Nat->Nat)->(Nat->Nat)->World->Prop
def gD (p:Nat->Prop):List Nat->Prop
 | []=>True
 | k :: r=>p k/\gD p r
theorem gD.get {p:Nat->Prop}:∀ {l:List Nat},gD p l->∀ k,l.contains k=true->p k
 | k :: r,⟨h,t⟩,i,hi=>by
  by_cases e:i=k
  .subst e;exact h
  refine t.get i ?_;rw [List.contains_cons] at hi;simpa [e] using hi
theorem gD.of {p:Nat->Prop}:∀ {l:List Nat},(∀ k∈l,p k)->gD p l
 | [],_=>trivial
 | k :: r,h=>⟨h k aj,.of λj hj=>h j (by simp [hj])⟩
def iS (x:List Value) (cs:List Nat) (G:qL) (i:Nat) (v:Nat->Value) (lo hi:Nat->Nat) (W:World):Prop:=match cs.contains i with
 | true=>G i v lo hi W
 | false=>v i=aD x i
def upd {α:Type} (f:Nat->α) (k:Nat) (y:α):Nat->α:=λj=>if j=k then y else f j
section
variable {P:Program} {ops:Array Oper} {Q:Exit->Act->World->Prop} {md:Region.Mode}
variable {w0:World} {fr:(Nat->Value)->Act} {S:World->Prop} {x:List Value} {cs:List Nat} {G:qL}
def rN (fr:(Nat->Value)->Act) (x:List Value) (cs:List Nat) (G:qL) (D:List Nat) (v:Nat->Value) (lo hi:Nat->Nat) (W:World) (k:Nat) (K:Act->World->Prop):Prop:=match cs.contains k with
 | false=>∀ W',Below W.heap.size W W'->K (fr (ov x (k :: D) v)) W'
 | true=>∀ y W',Below W.heap.size W W'->G k (λj=>if j=k then y else v j) (λj=>if j=k then W.heap.size else lo j) (λj=>if j=k then W'.heap.size else hi j) W'->K (fr (upd (ov x D v) k y)) W'
def KZ (P:Program) (ops:Array Oper) (Q:Exit->Act->World->Prop) (w0:World) (fr:(Nat->Value)->Act) (x:List Value) (cs:List Nat) (G:qL) (S:World->Prop) (D C:List Nat) (k:Nat) (o:Oper):Prop:=
 ∀ (v:Nat->Value) (lo hi:Nat->Nat) (W:World),Below w0.heap.size w0 W->S W->gD (λj=>lo j<=hi j/\hi j<=W.heap.size/\G j v lo hi W) C->
  (Region.wanted o (yielded ops (fr (ov x D v)).tmps)=true/\∀ K:Act->World->Prop,rN fr x cs G D v lo hi W k K->Oper.wp P o (fr (ov x D v)) W K Q) \/
  (Region.wanted o (yielded ops (fr (ov x D v)).tmps)=false/\∀ K:Act->World->Prop,rN fr x cs G D v lo hi W k K->K ((fr (ov x D v)).put o.dst undef) W)
def rF (P:Program) (md:Region.Mode) (ops:Array Oper) (Q:Exit->Act->World->Prop) (w0:World) (fr:(Nat->Value)->Act) (x:List Value) (cs:List Nat) (G:qL) (S:World->Prop):List Nat->Prop
 | []=>True
 | k :: r=>(∃ D C o,ops[k]? = some o/\((D.all λj=>(Region.deps md ops k).contains j && !cs.contains j) && C.all λj=>(Region.deps md ops k).contains j && cs.contains j)=true/\KZ P ops Q w0 fr x cs G S D C k o)/\rF P md ops Q w0 fr x cs G S r
theorem rF.c {k:Nat} {o:Oper} {r:List Nat} (D C:List Nat) (e:ops[k]? = some o) (h:KZ P ops Q w0 fr x cs G S D C k o) (t:rF P md ops Q w0 fr x cs G S r) (hD:((D.all λj=>(Region.deps md ops k).contains j && !cs.contains j) && C.all λj=>(Region.deps md ops k).contains j && cs.contains j)=true:=by kernel_rfl):rF P md ops Q w0 fr x cs G S (k :: r):=⟨⟨D,C,o,e,hD,h⟩,t⟩
theorem rF.n:rF P md ops Q w0 fr x cs G S []:=trivial
theorem rF.to:∀ {l:List Nat},rF P md ops Q w0 fr x cs G S l->xL P md ops Q w0 fr (iS x cs G) S l
 | [],_=>trivial
 | k :: r,⟨⟨D,C,o,e,hD,h⟩,t⟩=>by
  refine ⟨λo' e'=>?_,t.to⟩;rw [e] at e';cases e';intro v lo hi W hb hs hd;rw [NU,MI,MI] at hD;have hj:∀ j∈D,v j=aD x j:=λj hj=>by
   have h1:=hD.1 j hj;rw [NU] at h1;have h2:=(hd j (by simpa using h1.1)).2.2;rw [iS,show cs.contains j=false by simpa using h1.2] at h2;exact h2
  have h':=h v lo hi W hb hs (.of λj hj=>by
   have h1:=hD.2 j hj;rw [NU] at h1;have h2:=hd j (by simpa using h1.1);rw [iS,h1.2] at h2;exact h2)
  have key:∀ K:Act->World->Prop,(∀ y W',Below W.heap.size W W'->iS x cs G k (λj=>if j=k then y else v j) (λj=>if j=k then W.heap.size else lo j) (λj=>if j=k then W'.heap.size else hi j) W'->K (fr (λj=>if j=k then y else v j)) W')->rN fr x cs G D v lo hi W k K:=λK hK=>by
   unfold rN;cases hc:cs.contains k with
   | false=>exact λW' hb'=>by rw [Zl hj];exact hK (aD x k) W' hb' (by rw [iS,hc];simp)
   | true=>exact λy W' hb' hg=>by rw [Il hj];exact hK y W' hb' (by rw [iS,hc];exact hg)
  rw [Il hj] at h';exact h'.imp (λ⟨h1,h2⟩=>⟨h1,λK hK=>h2 K (key K hK)⟩) λ⟨h1,h2⟩=>⟨h1,λK hK=>h2 K (key K hK)⟩
theorem oz {id:Nat} {a:Act} (ph tl:List Nat) (fr:(Nat->Value)->Act) (x:List Value) (cs:List Nat) (G:qL) (S:World->Prop)
  (hS:∀ W,Below w0.heap.size w0 W->S W)
  (stab:gD (λk=>∀ v lo hi W W',G k v lo hi W->Below W.heap.size W W'->G k v lo hi W') cs)
  (loc:gD (λk=>∀ v v' lo lo' hi hi' W,(∀ j,j=k\/j∈Region.deps .any ops k->v j=v' j/\lo j=lo' j/\hi j=hi' j)->G k v lo hi W->G k v' lo' hi' W) cs)
  (steps:rF P .any ops Q w0 fr x cs G S ph)
  (fin:∀ (v:Nat->Value) (lo hi:Nat->Nat) (W:World),Below w0.heap.size w0 W->S W->(∀ i,ph.contains i=true->w0.heap.size<=lo i/\lo i<=hi i/\hi i<=W.heap.size/\iS x cs G i v lo hi W)->
   (∀ i j,ph.contains i=true->ph.contains j=true->i≠j->hi i<=lo j\/hi j<=lo i)->wpList P ops Q (tl.filterMap λi=>ops[i]?) (fr v) W)
  (v0:Nat->Value:=λ_=>undef) (ha:a=fr v0:=by rfl) (gH:P.follows .mixedOrders=true:=by rfl) (hc:Region.chkH .any ops ph tl=true:=by kernel_rfl) (fT:ph.Nodup:=by decide):(Code.region id ops true).wp P Q a w0:=
 Uu ph tl fr v0 (iS x cs G) S gH hc fT ha (λi v lo hi W W' h hb=>by
   unfold iS at h ⊢;cases e:cs.contains i with
   | true=>rw [e] at h;exact stab.get i e v lo hi W W' h hb
   | false=>rw [e] at h;exact h) (λi v v' lo lo' hi hi' W aA h=>by
   unfold iS at h ⊢;cases e:cs.contains i with
   | true=>rw [e] at h;exact loc.get i e v v' lo lo' hi hi' W aA h
   | false=>rw [e] at h;exact (aA i (.inl rfl)).1 ▸ h) hS steps.to fin
theorem oh {D C:List Nat} {k:Nat} {o:Oper} (h:KZ P ops Q w0 fr x cs G S D C k o:=by
  intro v lo hi W hb hS _
  first
   | (
    refine .inr ⟨rfl,λK hK=>aQ (hK W (JV _ _)) ?_⟩;simp [Act.put,ov,aD]
    done)
   | (
    go_split_ands;refine .inl ⟨rfl,λK hK=>?_⟩;simp only [ov,aD,Nat.reduceBEq,cond_true,cond_false];go_wp2_with fail;refine aQ (hK W (JV _ _)) ?_
    first
     | (simp [ov,aD];done)
     | (simp [ov,aD, *];done)
    done)
   | fail):KZ P ops Q w0 fr x cs G S D C k o:=h
end
section
variable {P:Program} {ops:Array Oper} {Q:Exit->Act->World->Prop} {md:Region.Mode}
variable {w0:World} {fr:(Nat->Value)->Act} {S:World->Prop} {x:List Value} {cs:List Nat} {G:qL}
def KW (P:Program) (ops:Array Oper) (Q:Exit->Act->World->Prop) (w0:World) (fr:(Nat->Value)->Act) (x:List Value) (cs:List Nat) (G:qL) (S:World->Prop) (D C:List Nat) (k:Nat) (o:Oper):Prop:=
 ∀ (v:Nat->Value) (lo hi:Nat->Nat) (W:World),Below w0.heap.size w0 W->S W->gD (λj=>lo j<=hi j/\hi j<=W.heap.size/\G j v lo hi W) C->
  Region.wanted o (yielded ops (fr (ov x D v)).tmps)=true/\∀ K:Act->World->Prop,rN fr x cs G D v lo hi W k K->Oper.wp P o (fr (ov x D v)) W K Q
def vr (P:Program) (md:Region.Mode) (ops:Array Oper) (Q:Exit->Act->World->Prop) (w0:World) (fr:(Nat->Value)->Act) (x:List Value) (cs:List Nat) (G:qL) (S:World->Prop):List Nat->Prop
 | []=>True
 | k :: r=>(∃ D C o,ops[k]? = some o/\((D.all λj=>(Region.deps md ops k).contains j && !cs.contains j) && C.all λj=>(Region.deps md ops k).contains j && cs.contains j)=true/\KW P ops Q w0 fr x cs G S D C k o)/\vr P md ops Q w0 fr x cs G S r
theorem vr.c {k:Nat} {o:Oper} {r:List Nat} (D C:List Nat) (e:ops[k]? = some o) (h:KW P ops Q w0 fr x cs G S D C k o) (t:vr P md ops Q w0 fr x cs G S r) (hD:((D.all λj=>(Region.deps md ops k).contains j && !cs.contains j) && C.all λj=>(Region.deps md ops k).contains j && cs.contains j)=true:=by kernel_rfl):vr P md ops Q w0 fr x cs G S (k :: r):=⟨⟨D,C,o,e,hD,h⟩,t⟩
theorem vr.n:vr P md ops Q w0 fr x cs G S []:=trivial
theorem vr.to:∀ {l:List Nat},vr P md ops Q w0 fr x cs G S l->CP P md ops Q w0 fr (iS x cs G) S l
 | [],_=>trivial
 | k :: r,⟨⟨D,C,o,e,hD,h⟩,t⟩=>by
  refine ⟨λo' e'=>?_,t.to⟩;have hs:xL P md ops Q w0 fr (iS x cs G) S [k]:=rF.to ⟨⟨D,C,o,e,hD,λv lo hi W h1 h2 h3=>.inl (h v lo hi W h1 h2 h3)⟩,trivial⟩;intro v lo hi W hb hS hd;rw [e] at e';cases e';have hw:=(h v lo hi W hb hS (.of λj hj=>by
   rw [NU,MI,MI] at hD;have h1:=hD.2 j hj;rw [NU] at h1;have h2:=hd j (by simpa using h1.1);rw [iS,h1.2] at h2;exact h2)).1
  rw [Il λj hj=>by
   rw [NU,MI,MI] at hD;have h1:=hD.1 j hj;rw [NU] at h1;have h2:=(hd j (by simpa using h1.1)).2.2;rw [iS,show cs.contains j=false by simpa using h1.2] at h2;exact h2] at hw
  rcases hs.1 o e v lo hi W hb hS hd with h1|⟨h1,_⟩
  .exact h1
  rw [h1] at hw;cases hw
theorem PX {id:Nat} {a:Act} (ph:List Nat) (x0 t:Nat) (r:List Nat) (fr:(Nat->Value)->Act) (x:List Value) (cs:List Nat) (G:qL) (S:World->Prop)
  (hS:∀ W,Below w0.heap.size w0 W->S W)
  (stab:gD (λk=>∀ v lo hi W W',G k v lo hi W->Below W.heap.size W W'->G k v lo hi W') cs)
  (loc:gD (λk=>∀ v v' lo lo' hi hi' W,(∀ j,j=k\/j∈Region.deps .any ops k->v j=v' j/\lo j=lo' j/\hi j=hi' j)->G k v lo hi W->G k v' lo' hi' W) cs)
  (steps:vr P .any ops Q w0 fr x cs G S ph)
  (fin:∀ (v:Nat->Value) (lo hi:Nat->Nat) (W:World),Below w0.heap.size w0 W->S W->(∀ i,ph.contains i=true->w0.heap.size<=lo i/\lo i<=hi i/\hi i<=W.heap.size/\iS x cs G i v lo hi W)->
   (∀ i j,ph.contains i=true->ph.contains j=true->i≠j->hi i<=lo j\/hi j<=lo i)->wpList P ops Q ((t :: r).filterMap λi=>ops[i]?) (fr v) W)
  (fin2:∀ (v:Nat->Value) (lo hi:Nat->Nat) (W:World),Below w0.heap.size w0 W->S W->(∀ i,ph.contains i=true->i≠x0->w0.heap.size<=lo i/\lo i<=hi i/\hi i<=W.heap.size/\iS x cs G i v lo hi W)->
   (∀ i j,ph.contains i=true->ph.contains j=true->i≠x0->j≠x0->i≠j->hi i<=lo j\/hi j<=lo i)->wpList P ops Q ((x0 :: t :: r).filterMap λi=>ops[i]?) (fr v) W/\wpList P ops Q ((t :: x0 :: r).filterMap λi=>ops[i]?) (fr v) W)
  (v0:Nat->Value:=λ_=>undef) (ha:a=fr v0:=by rfl) (gH:P.follows .mixedOrders=true:=by rfl) (hc:Region.chkX .any ops ph x0 t r=true:=by kernel_rfl) (fT:ph.Nodup:=by decide):(Code.region id ops true).wp P Q a w0:=
 l3_ ph x0 t r fr v0 (iS x cs G) S gH hc fT ha (λi v lo hi W W' h hb=>by
   unfold iS at h ⊢;cases e:cs.contains i with
   | true=>rw [e] at h;exact stab.get i e v lo hi W W' h hb
   | false=>rw [e] at h;exact h) (λi v v' lo lo' hi hi' W aA h=>by
   unfold iS at h ⊢;cases e:cs.contains i with
   | true=>rw [e] at h;exact loc.get i e v v' lo lo' hi hi' W aA h
   | false=>rw [e] at h;exact (aA i (.inl rfl)).1 ▸ h) hS steps.to fin fin2
theorem SQ {D C:List Nat} {k:Nat} {o:Oper} (h:KW P ops Q w0 fr x cs G S D C k o:=by
  intro v lo hi W hb hS _
  first
   | (
    go_split_ands;refine ⟨rfl,λK hK=>?_⟩;simp only [ov,aD,Nat.reduceBEq,cond_true,cond_false];go_wp2_with fail;refine aQ (hK W (JV _ _)) ?_
    first
     | (simp [ov,aD];done)
     | (simp [ov,aD, *];done)
    done)
   | fail):KW P ops Q w0 fr x cs G S D C k o:=h
end
def F4 {β:Type} (x:Option Nat) (J:β->World->Prop):Prop:=
 ∀ (s:β) (W W':World) (row:Option Nat),J s W->W.grownBy W' row->(∀ r,row=some r->x=some r/\∃ o:Obj,W.heap[r]? = some o/\o.isCells=true)->J s W'
def dO {β:Type} (B:Nat) (x:Option Nat) (J:β->World->Prop):Prop:=
 ∀ (s:β) (W W':World) (row:Option Nat),J s W->W.grownBy W' row->
  (∀ r,row=some r->(x=some r/\∃ o:Obj,W.heap[r]? = some o/\o.isCells=true)\/(B<=r/\∃ o:Obj,W.heap[r]? = some o/\o.isCells=false))->J s W'
def zW {α:Type} (P:Program) (g:Nat) (lb:Array Value) (encs:α->Array Value) (Kp:World->World->Prop) (x:Option Nat) (En Fin Bd:List α->Prop) (w:World):Prop:=
 ∀ (l:Nat) (J Jx:List α->World->Prop) (W:World),Below w.heap.size w W->F4 x J->F4 x Jx->(∀ pre W1,J pre W1->Bd pre)->
  (∀ pre y W1,J pre W1->En (pre ++ [y])->YieldAt Fence.wide 0 P l (encs y) W1 λe W'=>
   (e=.returned (.bool true)/\J (pre ++ [y]) W'/\Kp W1 W')\/(e=.returned (.bool false)/\Jx (pre ++ [y]) W'))->
  J [] W->
  CallsIn Fence.wide 0 P g (#[.func (.yield l) #[] #[]] ++ lb) W λe W'=>(∃ v,e=.returned v)/\((∃ xs,Fin xs/\J xs W')\/(∃ pre,En pre/\Jx pre W'))
variable {P:Program}
theorem dO.putObj {β:Type} {B:Nat} {x:Option Nat} {I:β->World->Prop} (h:dO B x I) {s:β} {W:World} {l:Nat} {o:Obj} (o':Obj) (hs:I s W) (hB:B<=l) (hl:W.heap[l]? = some o) (ho:o.isCells=false):I s (W.putObj l o'):=
 h s W _ (some l) hs (grownBy_putObj' W l o') (λr e=>by cases e;exact .inr ⟨hB,o,hl,ho⟩)
theorem dO.alloc {β:Type} {B:Nat} {x:Option Nat} {I:β->World->Prop} (h:dO B x I) {s:β} {W:World} (o:Obj) (hs:I s W):I s (W.alloc o):=
 h s W _ none hs (NK W o none) (λr e=>by cases e)
theorem Ph {α:Type} {g:Operand} {ps:Array Tmp} {assign body:Code} {Q:Exit->Act->World->Prop} {a:Act} {w:World}
  {gf:Nat} {lb:Array Value} (hg:a.eval g=.func (.func gf) #[] lb) (eg:∀ args w,(callFunc gf args).run P w=.ok (.enter gf args) w)
  {encs:α->Array Value} {Kp:World->World->Prop} {x:Option Nat} {En Fin Bd:List α->Prop} (hseq:zW P gf lb encs Kp x En Fin Bd w)
  (hKt:∀ {A B C:World},Kp A B->Kp B C->Kp A C) (hKb:∀ (W:World) (l:Nat) (o o':Obj),w.heap.size<=l->W.heap[l]? = some o->o.isCells=false->Kp W (W.putObj l o')) (pE:∀ y,(encs y).size=ps.size)
  (I:List α->World->Prop) (Ix:Code->List α->World->Prop) (hI:dO w.heap.size x I) (hIx:∀ c,dO w.heap.size x (Ix c)) (hN:∀ pre W,I pre W->Bd pre) (h0:I [] w) (a₁:α->Act)
  (hassign:∀ (l:Nat) (y:α) (W:World) (K:Act->World->Prop),K (a₁ y) W->
   assign.wpIn (Fence.wide.inRound l) 0 P (Exit.then K (λ_ _ _=>False)) { tmps:=(ps.zip (encs y)).foldl (λt (p,v)=>t.setIfInBounds p v) a.tmps,defers:=[] } W)
  (hbody:∀ (l:Nat) (pre:List α) (y:α) (W:World),I pre W->En (pre ++ [y])->body.wpIn (Fence.wide.inRound l) 0 P (ownPostG w.heap.size Kp I Ix (pre ++ [y]) W) (a₁ y) W)
  (hdone:∀ (D:Nat) (xs:List α) (W:World),w.heap.size<=D->Fin xs->I xs W->W.heap[D]? = some (.deferred (some []))->Q .normal { a with defers:={ target:=.collected D,args:=#[] } :: a.defers } W)
  (hstop:∀ (D:Nat) (c:Code) (pre:List α) (W:World),w.heap.size<=D->En pre->Ix c pre W->W.heap[D]? = some (.deferred (some []))->c.wpIn Fence.wide 0 P Q { a with defers:={ target:=.collected D,args:=#[] } :: a.defers } W) :
  (Code.rangeFunc g ps assign body).wpIn Fence.wide 0 P Q a w:=by
 refine wpIn_rangeFunc ?_;intro fn hfn;obtain ⟨rec,bS⟩:∃ rec:LoopState->Option Code->Loop,rec=λst pe=>{ state:=st,pending:=pe,fn,tmps:=a.tmps,params:=ps,assign,body,defers:=w.heap.size }:=⟨_,rfl⟩;obtain ⟨W1,hW1⟩:∃ W1,(w.alloc (.deferred (some []))).alloc (.loop (rec .ready none))=W1:=⟨_,rfl⟩;have gn:W1.heap[w.heap.size+1]? = some (.loop (rec .ready none)):=by
  rw [<- hW1];have:=DP (w.alloc (.deferred (some []))) (.loop (rec .ready none));rwa [U7] at this
 have FC:W1.heap[w.heap.size]? = some (.deferred (some [])):=by
  rw [<- hW1];exact (DN _ _ _ aj).trans (DP w _)
 have Fz:I [] W1:=by rw [<- hW1];exact hI.alloc _ (hI.alloc _ h0)
 have hb1:Below w.heap.size w W1:=by
  rw [<- hW1];exact (((JV _ w).alloc (TZ _) _).alloc aj _)
 refine ⟨w.heap.size+1,[{ target:=.collected w.heap.size,args:=#[] }],W1,{ target:=.fn (.func gf) lb,args:=#[.func (.yield (w.heap.size+1)) #[] #[]] },W1,gf,
  #[.func (.yield (w.heap.size+1)) #[] #[]] ++ lb,W1,?_,?_,?_,?_,(λh=>by cases h),?_⟩
 .rw [<- hW1,bS];exact q9a _ _ _ _ _
 .simp only [resolve,hg];simp [go_sem]
 .intro f' _;trivial
 .simp [invoke,go_sem,eg]
 have d_:∀ {A B:World} {row:Option Nat} {l:Nat} {o:Obj},A.grownBy B row->(∀ r,row=some r->x=some r/\∃ o:Obj,A.heap[r]? = some o/\o.isCells=true)->A.heap[l]? = some o->o.isCells=false->B.heap[l]? = some o:=
  λ{A B row l o} fe hr hl ho=>by
   refine (fe.block l (Q0.1 hl).1 λe=>?_).trans hl;obtain ⟨_,o2,ho2,hc⟩:=hr l e.symm;rw [hl] at ho2;cases ho2;rw [ho] at hc;cases hc
 refine (hseq (w.heap.size+1)
  (λpre W=>I pre W/\W.heap[w.heap.size+1]? = some (.loop (rec .ready none))/\W.heap[w.heap.size]? = some (.deferred (some [])))
  (λpre W=>∃ c,Ix c pre W/\W.heap[w.heap.size+1]? = some (.loop (rec .done (some c)))/\W.heap[w.heap.size]? = some (.deferred (some [])))
  W1 hb1
  (λs A B row hs fe hr=>⟨hI s A B row hs.1 fe (λr e=>.inl (hr r e)),d_ fe hr hs.2.1 rfl,d_ fe hr hs.2.2 rfl⟩)
  (λs A B row hs fe hr=>by
   obtain ⟨c,hc,hl,hk⟩:=hs;exact ⟨c,hIx c s A B row hc fe (λr e=>.inl (hr r e)),d_ fe hr hl rfl,d_ fe hr hk rfl⟩)
  (λpre W1 h=>hN pre W1 h.1) ?_ ⟨Fz,gn,FC⟩).mono ?_
 .rintro pre y W ⟨hi,hl,hk⟩ hlen;have hlt:w.heap.size+1<W.heap.size:=(Q0.1 hl).1;have hy:=run_yield (P:=P) (args:=encs y) hl (by rw [bS];exact pE y);rw [bS] at hy;refine ⟨fn,_,assign,body,hy,roundIn_of_wpIn hfn (hassign _ y W _ ?_)⟩;clear hy;refine ⟨_,run_beginRound hl (by rw [bS]),?_⟩;have hl2:(W.putObj (w.heap.size+1) (.loop { rec .ready none with state:=.busy })).heap[w.heap.size+1]? = some (.loop { rec .ready none with state:=.busy }):=Z5 hlt;have hk2:(W.putObj (w.heap.size+1) (.loop { rec .ready none with state:=.busy })).heap[w.heap.size]? = some (.deferred (some [])):=(N3 ad).trans hk;have hw2:Kp W (W.putObj (w.heap.size+1) (.loop { rec .ready none with state:=.busy })):=hKb _ _ _ _ ad hl rfl;refine wpIn_mono (hbody _ pre y _ (hI.putObj _ hi ad hl rfl) hlen) ?_;have fin:∀ (jump:Option Code) (W3:World),KeepsFrom w.heap.size (W.putObj (w.heap.size+1) (.loop { rec .ready none with state:=.busy })) W3->
    (Instr.endRound (w.heap.size+1) jump).run P W3=.ok (.bool jump.isNone) (W3.putObj (w.heap.size+1) (.loop (rec (if jump.isNone then .ready else .done) jump)))/\
    W3.heap[w.heap.size+1]? = some (.loop { rec .ready none with state:=.busy })/\
    (W3.putObj (w.heap.size+1) (.loop (rec (if jump.isNone then .ready else .done) jump))).heap[w.heap.size+1]? = some (.loop (rec (if jump.isNone then .ready else .done) jump))/\
    (W3.putObj (w.heap.size+1) (.loop (rec (if jump.isNone then .ready else .done) jump))).heap[w.heap.size]? = some (.deferred (some [])):=λjump W3 hk3=>by
   have hl3:=hk3.same _ _ ad hl2 rfl;have:=run_endRound (P:=P) jump hl3;rw [bS] at this ⊢;exact ⟨this,by rw [bS] at hl3;exact hl3,Z5 (Q0.1 hl3).1,(N3 ad).trans (hk3.same _ _ (TZ _) hk2 rfl)⟩
  rintro e a3 W3 hp;cases e with
  | normal=>
   obtain ⟨hk3,ss,gp⟩:=hp;obtain ⟨hr,hl3,hl4,hk4⟩:=fin none W3 hk3;exact ⟨_,_,hr,.inl ⟨rfl,⟨hI.putObj _ gp ad hl3 rfl,hl4,hk4⟩,hKt (hKt hw2 ss) (hKb _ _ _ _ ad hl3 rfl)⟩⟩
  | ret=>
   obtain ⟨hk3,gp⟩:=hp;obtain ⟨hr,hl3,hl4,hk4⟩:=fin (some .ret) W3 hk3;exact ⟨_,_,hr,.inr ⟨rfl,.ret,(hIx _).putObj _ gp ad hl3 rfl,hl4,hk4⟩⟩
  | exit id=>
   obtain ⟨hk3,gp⟩:=hp;obtain ⟨hr,hl3,hl4,hk4⟩:=fin (some (.exit id)) W3 hk3;exact ⟨_,_,hr,.inr ⟨rfl,.exit id,(hIx _).putObj _ gp ad hl3 rfl,hl4,hk4⟩⟩
  | goto t=>
   obtain ⟨hk3,gp⟩:=hp;obtain ⟨hr,hl3,hl4,hk4⟩:=fin (some (.goto t)) W3 hk3;exact ⟨_,_,hr,.inr ⟨rfl,.goto t,(hIx _).putObj _ gp ad hl3 rfl,hl4,hk4⟩⟩
  | panic ch=>exact hp.elim
  | outgrown=>exact hp.elim
 rintro e W2 ⟨⟨v,rfl⟩,(⟨xs,hS,hi,hl,hk⟩|⟨pre,hSp,c,hi,hl,hk⟩)⟩
 .exact ⟨none,_,by have:=run_endLoop (P:=P) hl (by rw [bS];simp);rw [bS] at this;exact this,hdone _ xs _ (TZ _) hS (hI.putObj _ hi ad hl rfl) ((N3 ad).trans hk)⟩
 exact ⟨some c,_,by have:=run_endLoop (P:=P) hl (by rw [bS];simp);rw [bS] at this;exact this,hstop _ c pre _ (TZ _) hSp ((hIx c).putObj _ hi ad hl rfl) ((N3 ad).trans hk)⟩
def cJ (B:Nat) (ds:List Deferred) (w:World):Prop:=
 ∃ Ds:List Nat,ds=Ds.map (λD=>{ target:=.collected D,args:=#[] })/\Ds.Nodup/\∀ D∈Ds,B<=D/\w.heap[D]? = some (.deferred (some []))
theorem cJ.nil (B:Nat) (w:World):cJ B [] w:=⟨[],rfl,.nil,aj⟩
theorem cJ.cons {B D:Nat} {ds:List Deferred} {w w':World} (h:cJ B ds w) (hB:B<=D) (hk:KeepsFrom B w w') (hlt:w.heap.size<=D) (hD:w'.heap[D]? = some (.deferred (some []))) :
  cJ B ({ target:=.collected D,args:=#[] } :: ds) w':=by
 obtain ⟨Ds,rfl,hn,hall⟩:=h;refine ⟨D :: Ds,rfl,N_.2 ⟨λhm=>?_,hn⟩,λD' vI=>?_⟩
 .have:=(Q0.1 (hall D hm).2).1;omega
 rcases U3.1 vI with rfl|hm
 .exact ⟨hB,hD⟩
 exact ⟨(hall D' hm).1,hk.same _ _ (hall D' hm).1 (hall D' hm).2 rfl⟩
theorem cJ.keep {B:Nat} {ds:List Deferred} {w w':World} (h:cJ B ds w) (hk:KeepsFrom B w w'):cJ B ds w':=by
 obtain ⟨Ds,rfl,hn,hall⟩:=h;exact ⟨Ds,rfl,hn,λD hD=>⟨(hall D hD).1,hk.same _ _ (hall D hD).1 (hall D hD).2 rfl⟩⟩
structure SN (B:Nat) (w w':World):Prop where
 below:Below B w w'
 cells:∀ (k:Nat) (o:Obj),w.heap[k]? = some o->o.isCells=true->w'.heap[k]? = some o
theorem ik {B n:Nat} {fn:Func} {tmps:Array Value} {R:Ending->World->Prop}:∀ (ds:List Deferred) (w:World),cJ B ds w->
  (∀ w',SN B w w'->∃ v,(results fn tmps).run P w'=.ok v w'/\R (.returned v) w')->LeavesInM Fence.wide n P fn tmps R ds .returning w:=by
 intro ds;induction ds with
 | nil=>
  intro w _ h;exact h w ⟨JV _ _,λ_ _ h _=>h⟩
 | cons d ds ih=>
  intro w hM h;obtain ⟨Ds,Qk,hn,hall⟩:=hM;cases Ds with
  | nil=>cases Qk
  | cons D Ds=>
   simp only [GB,MQ] at Qk;obtain ⟨rfl,rfl⟩:=Qk;have hD:=hall D aj;have fT:=N_.1 hn;refine ⟨aj,.inl ⟨_,_,rfl,run_takeDeferred hD.2,?_⟩⟩;have hlt:=(Q0.1 hD.2).1;refine ih _ ⟨Ds,rfl,fT.2,λD' vI=>⟨(hall D' (by simp [vI])).1,?_⟩⟩ λw' hs=>h w' ?_
   .have hne:D'≠D:=λe=>fT.1 (e ▸ vI);exact (N3 ad).trans (hall D' (by simp [vI])).2
   refine ⟨((JV B w).grown (grownBy_putObj' w D (.deferred none)) (by have:=hD.1;omega) (λk e=>by cases e;exact hD.1)).trans hs.below,λk o hk ho=>?_⟩;refine hs.cells k o ?_ ho;have hne:k≠D:=λe=>by subst e;rw [hD.2] at hk;cases hk;cases ho
   exact (N3 ad).trans hk
section
variable {b:Frame} {a:Act} {k:List Item} {cs:List Frame} {w:World} {Q:Exit->Act->World->Prop} {F:Fence} {n:Nat}
theorem Ck {c:Code}:step P (lone (b.atR a (.code (.scope c) :: k)) cs w)=.next (lone (b.atR a (.code c :: .inScope c :: k)) cs w):=
 step_lone_go (by simp [stepG,stepG.exec,Frame.atR])
theorem o1_ {c:Code}:step P (lone (b.atR a (.inScope c :: k)) cs w)=.next (lone (b.atR a k) cs w):=
 step_lone_go (by simp [stepG,stepG.exec,Frame.atR])
theorem it_ {c:Code} (h:c.wpIn F n P (Exit.noGoto Q) a w):(Code.scope c).wpIn F n P Q a w:=by
 intro b k cs hro hb hr;have h0:(lone (b.atR a (.code (.scope c) :: k)) cs w).fenced P F:=fenced_calm hb hr rfl;obtain ⟨e,a₁,w₁,hq,harr⟩:=h b (.inScope c :: k) cs hro hb hr;cases e with
 | normal=>exact ⟨.normal,a₁,w₁,hq,.head h0 Ck (StepsIn.trans harr (.one (fenced_calm hb hr rfl) o1_))⟩
 | exit id=>
  have hx:exitTo id (.inScope c :: k)=exitTo id k:=by simp [exitTo]
  exact ⟨.exit id,a₁,w₁,hq,λk' hk=>.head h0 Ck (harr.1 k' (by rw [hx];exact hk)),
   λhr' hk=>let ⟨k₁,h1,h2⟩:=harr.2 hr' (by rw [hx];exact hk);⟨k₁,h1,.head h0 Ck h2⟩⟩
 | goto l=>exact hq.elim
 | ret=>exact ⟨_,a₁,w₁,hq,.of_steps (.one h0 Ck) harr⟩
 | panic ch=>exact ⟨_,a₁,w₁,hq,.of_steps (.one h0 Ck) harr⟩
 | outgrown=>exact ⟨_,a₁,w₁,hq,.of_steps (.one h0 Ck) harr⟩
end
end
end Go
namespace Go.Proofs.YtbmgmlbmgogeaaaGreat
section
open Go.RowKit Kal
theorem wa_ (lo y:Int) (w:World) (h0:0<=lo) (h1:lo<=18446744073709551615) (hy:1<=y) (hy1:y<=18446744073709551615) :
  Calls Tryz.prog 261 #[.int .u64 0,.int .u64 lo,.int .u64 y] w λe w'=>e=.returned (.int .u64 (lo % y))/\∃ n,w'=w.drewN n:=by
 have oT:0<y:=ad
 go_in
 go_wp2_with (go_at_call 220;refine (WG _ _ _ h0 h1 hy hy1).mono ?_;rintro e w' ⟨rfl,nq,rfl⟩)
 go_ret;exact ⟨rfl,_,rfl⟩
theorem nb_ {a b:Int} (a0:0<=a) (a1:a<=4294967295) (b0:0<=b) (b1:b<=4294967295):0<=a*b/\a*b<=18446744065119617025:=by
 have h1:=K_ a0 b0;have h2:=yu a1 b1 b0 ad;omega
theorem Je (a b:Int) (w:World) (a0:0<=a) (a1:a<=4294967295) (b0:0<=b) (b1:b<=4294967295) :
  Calls Tryz.prog 218 #[.int .u64 a,.int .u64 b] w λe w'=>e=.returned (.tuple #[.int .u64 0,.int .u64 (a*b)])/\w=w':=by
 obtain ⟨p0,p1⟩:=nb_ a0 a1 b0 b1;obtain ⟨x,rfl⟩:=M1 a0;obtain ⟨y,rfl⟩:=M1 b0;have e:((x*y:Nat):Int)=(x:Int)*y:=by push_cast;rfl
 rw [<- e] at p0 p1 ⊢;refine (Tryz.bits_Mul64 x y ad ad w).mono ?_;rintro e w' ⟨rfl,rfl⟩;rw [q8b ad,ZV ad];exact ⟨rfl,rfl⟩
theorem X7 (a b m:Int) (w:World) (a0:0<=a) (a1:a<=4294967295) (b0:0<=b) (b1:b<=4294967295) (hm:1<=m) (hm1:m<=4611686018427387904) :
  Calls Tryz.prog 257 #[.int .i64 a,.int .i64 b,.int .i64 m] w λe w'=>e=.returned (.int .i64 ((a*b) % m))/\∃ n,w'=w.drewN n:=by
 obtain ⟨p0,p1⟩:=nb_ a0 a1 b0 b1;have r0:=VK (a*b) (show m≠0 by omega);have r1:=VM (a*b) (show 0<m by omega)
 go_in
 go_wp2_with (first|(go_at_call 218;refine (Je _ _ _ a0 a1 b0 b1).mono ?_;rintro e w' ⟨rfl,rfl⟩)|(go_at_call 261;refine (wa_ _ _ _ p0 ad hm ad).mono ?_;rintro e w' ⟨rfl,nq,rfl⟩))
 go_ret;exact ⟨rfl,_,rfl⟩
def pL (a b:Int):Value:=if aV a b<=1099511627776 then .tuple #[.int .i64 (aV a b),.int .i64 0] else .tuple #[.int .i64 0,.int .i64 2]
theorem Zd (a b:Int) (w:World) (ha:1<=a) (ha1:a<=9223372036854775807) (hb:1<=b) (hb1:b<=9223372036854775807) :
  Calls Tryz.prog 222 #[.int .i64 a,.int .i64 b] w λe w'=>e=.returned (pL a b)/\∃ n,w'=w.drewN n:=by
 have hg:=oA (b:=b) ha;have mU:0<=a / (Int.gcd a b:Nat):=N1 ad ad;have qD:a / (Int.gcd a b:Nat)<=a:=z_ _ ad;have hlt:1099511627776 / b<a / (Int.gcd a b:Nat)↔1099511627776<aV a b:=Int.ediv_lt_iff_lt_mul ad;have oL:0<=1099511627776 / b:=N1 ad ad;have ep:=Ae ha hb;have HL:=af (show aV a b=a / (Int.gcd a b:Nat)*b from rfl);by_cases hbig:aV a b<=1099511627776
 .have hle:a / (Int.gcd a b:Nat)<=1099511627776 / b:=ad;have HV:=af (show pL a b=_ from if_pos hbig);have hp:0<=a / (Int.gcd a b:Nat)*b/\a / (Int.gcd a b:Nat)*b<=1099511627776:=by rw [<- HL.o];omega
  obtain ⟨wy,fN⟩:=hp;clear hlt;generalize hgd:((Int.gcd a b:Nat):Int)=g at *;have HG:=af hgd;clear hgd
  go_in
  go_wp2_with (go_at_call 176;refine (Al _ _ _ ha ha1 hb hb1).mono ?_;rintro e w' ⟨he,nq,rfl⟩;rw [HG.o] at he;subst he)
  go_ret2;exact ⟨by rw [HV.o,HL.o];rfl,_,rfl⟩
 have hle:1099511627776 / b<a / (Int.gcd a b:Nat):=ad;have HV:=af (show pL a b=_ from if_neg hbig);clear hlt;generalize hgd:((Int.gcd a b:Nat):Int)=g at *;have HG:=af hgd;clear hgd
 go_in
 go_wp2_with (go_at_call 176;refine (Al _ _ _ ha ha1 hb hb1).mono ?_;rintro e w' ⟨he,nq,rfl⟩;rw [HG.o] at he;subst he)
 go_ret2;exact ⟨by rw [HV.o];rfl,_,rfl⟩
theorem Xa {x g B:Int} (hg:1<=g) (hB:0<=B) (h1:-B<=x) (h2:x<=B):-B<=x / g/\x / g<=B:=by
 have hm:B*1<=B*g:=NQ hg hB;constructor
 .rw [QK ad,Int.neg_mul];omega
 exact Int.lt_add_one_iff.1 ((Int.ediv_lt_iff_lt_mul ad).2 (by rw [OM];omega))
theorem z3_ {a g:Int} (hd:a % g=0):a.tdiv g=a / g:=q7r (NB hd)
theorem z4_ {a g:Int} (hd:a % g=0):a.tmod g=0:=q8o (NB hd)
theorem wj_ (a m b n:Int) (w:World) (ha:aS a) (hb:aS b) (hm:1<=m) (hm1:m<=4294967295) (hn:1<=n) (mS:n<=4294967295) (hL:aV m n<=1099511627776)
  (hd:(b % n-a % m) % (Int.gcd m n:Nat)=0) :
  Calls Tryz.prog 248 #[.int .i64 a,.int .i64 m,.int .i64 b,.int .i64 n] w λe w'=>e=.returned (.tuple #[.int .i64 (gQ a m b n),.int .i64 (aV m n),.int .i64 0])/\∃ n,w'=w.drewN n:=by
 have hg:=oA (b:=n) hm;have hg2:=xw (a:=m) hn;have iV:=Wx hm hn;have r0:=VK a (show m≠0 by omega);have r1:=VM a (show 0<m by omega);have s0:=VK b (show n≠0 by omega);have s1:=VM b (show 0<n by omega);have HV:=af (show pL m n=_ from if_pos hL);have ep:=Ae hm hn;have kO:=λi hi=>q6x hm hn rfl rfl rfl hd (i:=i) hi rfl;obtain ⟨g,hgd⟩:∃ g,g=((Int.gcd m n:Nat):Int):=⟨_,rfl⟩;rw [<- hgd] at hg hg2 iV hd kO;have HG:=af hgd.symm;clear hgd;have q1:1<=n / g:=(QK ad).2 ad;have q2:n / g<=n:=z_ _ ad;have p1:0<=m / g:=N1 ad ad;have p2:m / g<=m:=z_ _ ad;have HC:Hid (Int.gcd (m / g % (n / g)) (n / g)=1):=by rw [Kn p1 q1];exact af iV
 have u0:=VK (m / g) (show n / g≠0 by omega);have u1:=VM (m / g) (show 0<n / g by omega);have v0:=VK ((b % n-a % m) / g) (show n / g≠0 by omega);have v1:=VM ((b % n-a % m) / g) (show 0<n / g by omega);have Kc:=z3_ hd;obtain ⟨e0,e1⟩:=Xa (x:=b % n-a % m) (g:=g) (B:=4294967295) ad ad ad ad;have kt:((b % n-a % m).tmod g != 0)=false:=by rw [z4_ hd];rfl
 have hinv:tA (m / g % (n / g)) (n / g) (sQ (m / g % (n / g)) (n / g)):=by
  have:=q7n (p:=λv=>tA (m / g % (n / g)) (n / g) v) (Xf u0 u1 HC.o);exact this
 have hS:=kO _ hinv;have HS:=af (Fk hm hn hS);have z0:=hS.1;have z1:=hS.2.1;obtain ⟨i0,i1,_⟩:=hinv;have k0:=VK ((b % n-a % m) / g % (n / g)*sQ (m / g % (n / g)) (n / g)) (show n / g≠0 by omega);have k1:=VM ((b % n-a % m) / g % (n / g)*sQ (m / g % (n / g)) (n / g)) (show 0<n / g by omega);have mk0:=K_ (show 0<=m by omega) k0;clear hS kO iV hd;unfold aS at ha hb
 go_in
 go_wp2_with (first|(go_at_call 176;refine (Al _ _ _ hm ad hn ad).mono ?_;rintro e w' ⟨he,nq,rfl⟩;rw [HG.o] at he;subst he)|(go_at_call 256;refine (KD _ _ _ ad ad).mono ?_;rintro e w' ⟨rfl,rfl⟩)|(go_at_call 222;refine (Zd _ _ _ hm ad hn ad).mono ?_;rintro e w' ⟨he,Sy,rfl⟩;rw [HV.o] at he;subst he))
 go_quiet ((first|(go_at_call 256;(first|exact u1_ (KD _ _ _ ad ad)|exact mn_ (KD _ _ _ ad ad)))|(go_at_call 258;(first|exact VU (WA _ _ _ ad ad ad HC.o)|exact Jz (WA _ _ _ ad ad ad HC.o)))|(go_at_call 257;(first|exact VU (X7 _ _ _ _ ad ad ad ad ad ad)|exact Jz (X7 _ _ _ _ ad ad ad ad ad ad)))))
 go_wp2
 go_ret3
 refine ⟨?_,_,rfl⟩;rw [HS.o];simp
structure al (w:World) (base:Nat) (v:Value) (l:List Int):Prop where
 row:w.ownsRow base 3 1 v l.length (l.map (Value.int .i64))
 rng:∀ x∈l,aS x
 len:l.length<=17592186044416
theorem al.nil (w:World) (base:Nat):al w base (.slice none 0 0) []:=⟨q8f w base _ 1,aj,aj⟩
theorem al.ints {w:World} {base:Nat} {v:Value} {l:List Int} (h:al w base v l):Ints w v l:=by
 obtain ⟨⟨h1,h2⟩,h3,h4⟩:=h;refine ⟨?_,h4,h3⟩;rcases h2 with ⟨rfl,h0⟩|⟨g,cap,cur,rfl,hg,hh,hn,hc,hs,ht⟩
 .have:l=[]:=NL h0;subst this;exact ⟨none,0,rfl,aj,ad,.inl rfl⟩
 unfold maxLen at hc;refine ⟨_,cap,rfl,hn,ad,.inr ⟨g,0,rfl,λi hi=>?_⟩⟩;have e:(cur.toList.take (l.length*1))[i]? = (l.map (Value.int .i64))[i]?:=by rw [ht]
 rw [LJ ad] at e;simp only [World.cell?,hh,S1,Option.isSome_none,NV,if_false];rw [<- q7m,e];simp [hi]
theorem al.form {w:World} {base:Nat} {v:Value} {l:List Int} (h:al w base v l):∃ a c,v=.slice a l.length c:=by
 obtain ⟨a,c,hv,_⟩:=h.ints.is;exact ⟨a,c,hv⟩
theorem al.kept {w w':World} {base:Nat} {v:Value} {l:List Int} {row:Option Nat} (h:al w base v l) (hg:w.grownBy w' row) (hne:v.ownBlock=none\/v.ownBlock≠row):al w' base v l:=
 ⟨h.row.kept hg hne,h.rng,h.len⟩
theorem al.lt {w:World} {base:Nat} {v:Value} {l:List Int} (h:al w base v l):∀ k,v.ownBlock=some k->base<=k/\k<w.heap.size:=h.row.lt
theorem al.ext {w w':World} {base:Nat} {v:Value} {l:List Int} (h:al w base v l) (hb:Below w.heap.size w w'):al w' base v l:=by
 obtain ⟨⟨h1,h2⟩,h3,h4⟩:=h;refine ⟨⟨h1,?_⟩,h3,h4⟩;rcases h2 with h2|⟨g,cap,cur,hv,hg,hh,hr⟩
 .exact .inl h2
 exact .inr ⟨g,cap,cur,hv,hg,by rw [hb.block g (Q0.1 hh).1];exact hh,hr⟩
theorem al.mono {w:World} {base base':Nat} {v:Value} {l:List Int} (h:al w base v l) (hb:base'<=base):al w base' v l:=by
 obtain ⟨⟨h1,h2⟩,h3,h4⟩:=h;refine ⟨⟨h1,?_⟩,h3,h4⟩;rcases h2 with h2|⟨g,cap,cur,hv,hg,hr⟩
 .exact .inl h2
 exact .inr ⟨g,cap,cur,hv,ad,hr⟩
structure cm (B:Nat) (w w':World):Prop where
 size:w.heap.size<=w'.heap.size
 block:∀ k,B<=k->k<w.heap.size->w'.heap[k]? = w.heap[k]?
theorem cm.refl (B:Nat) (w:World):cm B w w:=⟨TZ _,λ_ _ _=>rfl⟩
theorem cm.alloc {B:Nat} {w W:World} (h:cm B w W) (o:Obj):cm B w (W.alloc o):=
 ⟨by have:=h.size;simp;omega,λk h1 h2=>(DN W o k (by have:=h.size;omega)).trans (h.block k h1 h2)⟩
theorem cm.setCell {B:Nat} {w W:World} (h:cm B w W) {a:Addr} (ha:a.block<B) (v:Value):cm B w (W.setCell a v):=
 ⟨by have:=h.size;simp [World.setCell];omega,λk h1 h2=>(DO W a v k ad).trans (h.block k h1 h2)⟩
theorem al.above {w w':World} {base:Nat} {v:Value} {l:List Int} (h:al w base v l) (hb:cm base w w'):al w' base v l:=by
 obtain ⟨⟨h1,h2⟩,h3,h4⟩:=h;refine ⟨⟨h1,?_⟩,h3,h4⟩;rcases h2 with h2|⟨g,cap,cur,hv,hg,hh,hr⟩
 .exact .inl h2
 exact .inr ⟨g,cap,cur,hv,hg,by rw [hb.block g hg (Q0.1 hh).1];exact hh,hr⟩
def x2_ (w:World) (l:List Int) (e:Ending) (w':World):Prop:=∃ v',e=.returned v'/\al w' w.heap.size v' l/\Below w.heap.size w w'
theorem Cn (v:Value) (l:List Int) (w:World) (hv:Ints w v l):Calls Tryz.prog 96 #[v] w (x2_ w l):=by
 obtain ⟨⟨a,c,rfl,h1,h2,h3⟩,h4,h5⟩:=hv;rcases h3 with h3|⟨b,o,rfl,hcell⟩
 .subst h3;cases a with
  | none=>exact (Tryz.slices_Clone_int_nil 0 c w).mono λe w' ⟨he,hw⟩=>⟨_,he,by rw [hw];exact al.nil w _,by rw [hw];exact JV _ _⟩
  | some a=>exact (Tryz.slices_Clone_int_zero a c w).mono λe w' ⟨v',he,ho,_,hb⟩=>⟨v',he,⟨ho,aj,aj⟩,hb⟩
 refine (Tryz.slices_Clone_int b o l.length c l w (TZ _) ad hcell).mono λe w' ⟨v',he,ho,_,hb⟩=>⟨v',he,⟨?_,h5,h4⟩,hb⟩;rwa [OC] at ho
def aw (l:List Int):List Int:=l.mergeSort (λx y=>decide (x<=y))
theorem Rw (l:List Int):(aw l).Perm l:=List.mergeSort_perm l _
theorem Cp (l:List Int) (x:Int):x∈aw l↔x∈l:=(Rw l).mem_iff
theorem Ch (l:List Int):(aw l).length=l.length:=(Rw l).length_eq
theorem q6v (l:List Int):(aw l).Pairwise (·<=·):=by
 have:=List.pairwise_mergeSort (le:=λx y:Int=>decide (x<=y)) (λa b c h1 h2=>by simp at *;omega) (λa b=>by simp;omega) l;exact this.imp λh=>by simpa using h
theorem Kq {l:List Int} (h:l.Nodup):(aw l).Pairwise (· < ·):=by
 have h1:=q6v l;have h2:(aw l).Nodup:=(Rw l).symm.nodup h;exact (h1.and h2).imp λ⟨a,b⟩=>ad
theorem Kw (v:Value) (l:List Int) (base:Nat) (w:World) (hv:al w base v l) :
  Calls Tryz.prog 69 #[v] w λe w'=>e=.returned (.tuple #[])/\al w' base v (aw l)/\w.grownBy w' v.ownBlock:=by
 have hv0:=hv;obtain ⟨⟨h1,h2⟩,h3,h4⟩:=hv;rcases h2 with ⟨rfl,h0⟩|⟨g,cap,cur,rfl,hg,hh,hn,hc,hs,ht⟩
 .have hl:l=[]:=NL h0;refine (Tryz.slices_Sort_int_none none 0 w).mono λe w' ⟨he,hw⟩=>⟨he,?_,?_⟩
  .subst hl;rw [hw,show aw []=[] from NL (by simp [Ch])];exact al.nil w base
  rw [hw];exact ⟨rfl,rfl,rfl,TZ _,λ_ _ _=>rfl⟩
 rw [QJ] at ht;refine (Tryz.slices_Sort_int g 0 cap l w (holds_of_blockI hh ht) (Q0.1 hh).1 ad).mono λe w' ⟨he,n,os,hw⟩=>⟨he,?_,?_⟩
 .have:=ownsRow_sortedI (n:=n) (os:=os) (ts:=aw l) (Ch l) hg hh hn hc hs;rw [hw];refine ⟨?_,λx hx=>h3 x ((Cp l x).1 hx),by rw [Ch];exact h4⟩;rw [Ch];exact this
 rw [hw];exact grownBy_sortedI _
theorem xJ:∃ i,Tryz.prog.info? 3=some i/\i.zero=some (.int .i64 0)/\i.size=1/\i.bytes=8:=by
 have h:(Tryz.prog.info? 3).map (λi=>(i.zero,i.size,i.bytes))=some (some (.int .i64 0),1,8):=by kernel_rfl
 obtain ⟨i,hi,h1,h2,h3⟩:=info_parts h;exact ⟨i,hi,h1,h2,h3⟩
theorem al.below_grown {W w1:World} {base:Nat} {v:Value} {l:List Int} (h:al W base v l) {W0:World} (hW:W0.heap.size<=W.heap.size\/True) (hbase:base<=W.heap.size) (hg:W.grownBy w1 v.ownBlock):Below base W w1:=
 (JV base W).grown hg hbase (λk e=>(h.lt k e).1)
theorem al.appended {w':World} {base g cap:Nat} {l:List Int} {y:Int} (hl:∀ x∈l,aS x) (hy:aS y) (hlen:l.length+1<=17592186044416)
  (h:w'.ownsRow base 3 1 (.slice (some ⟨g,0,none⟩) (l.length+1) cap) (l.length+1) (l.map (Value.int .i64) ++ [.int .i64 y])):al w' base (.slice (some ⟨g,0,none⟩) (l.length+1) cap) (l ++ [y]):=by
 refine ⟨?_,λx hx=>?_,by simpa using hlen⟩
 .rw [MB,UZ];exact h
 rcases VJ.1 hx with hx|hx
 .exact hl x hx
 obtain rfl:x=y:=by simpa using hx
 exact hy
theorem qd_ (w:World) {ops:Array Oper} {o:Oper} {a:Act} {K:Act->World->Prop} {Q:Exit->Act->World->Prop} {E:Prop} (hgd:o.guard=none) (s x:Operand)
  (ho:o.op=.call { callee:=.builtin .append,args:=#[s,x],argTypes:=#[35,35] }) (base:Nat) (v:Value) (l:List Int) (y:Int) (hs:a.eval s=v) (hown:al w base v l)
  (blk c:Nat) (hx:a.eval x=.slice (some ⟨blk,0,none⟩) 1 c) (hnew:w.cell? ⟨blk,0,none⟩=some (.int .i64 y)) (hy:aS y) (hlen:l.length+1<=17592186044416) (hbase:base<=w.heap.size)
  (h:∀ g cap w',al w' base (.slice (some ⟨g,0,none⟩) (l.length+1) cap) (l ++ [y])->w.grownBy w' v.ownBlock->Below base w w'->K (a.put o.dst (.slice (some ⟨g,0,none⟩) (l.length+1) cap)) w') :
  if Region.wanted o (yielded ops a.tmps)=true then Oper.wp Tryz.prog o a w K Q else E:=by
 obtain ⟨i,hi,h1,h2,h3⟩:=xJ;refine step_append_lies w hgd s x 35 ho base 3 i (.int .i64 0) 1 8 Tryz.underlying35 hi h1 h2 h3 rfl ad v l.length (l.map (Value.int .i64)) hs hown.row ⟨blk,0,none⟩ 1 c [.int .i64 y] hx rfl ?_ (by simp [Value.oneCell']) ad (by unfold maxLen;omega) ad hbase _ rfl ?_
 .intro j u hu
  match j,hu with
  | 0,hu=>simp at hu;subst hu;exact hnew
 intro g cap w' hown' hgrow _ _;exact h g cap w' (al.appended hown.rng hy hlen hown') hgrow (hown.below_grown (W0:=w) (.inr trivial) hbase hgrow)
theorem qc {w:World} {ops:Array Oper} {rest:List Oper} {o:Oper} {a:Act} {Q:Exit->Act->World->Prop} (hgd:o.guard=none) (s x:Operand)
  (ho:o.op=.call { callee:=.builtin .append,args:=#[s,x],argTypes:=#[35,35] }) (base:Nat) (v:Value) (l:List Int) (y:Int) (hs:a.eval s=v) (hown:al w base v l)
  (blk c:Nat) (hx:a.eval x=.slice (some ⟨blk,0,none⟩) 1 c) (hnew:w.cell? ⟨blk,0,none⟩=some (.int .i64 y)) (hy:aS y) (hlen:l.length+1<=17592186044416) (hbase:base<=w.heap.size)
  (h:∀ g cap w',al w' base (.slice (some ⟨g,0,none⟩) (l.length+1) cap) (l ++ [y])->w.grownBy w' v.ownBlock->Below base w w'->wpList Tryz.prog ops Q rest (a.put o.dst (.slice (some ⟨g,0,none⟩) (l.length+1) cap)) w') :
  wpList Tryz.prog ops Q (o :: rest) a w:=by
 obtain ⟨i,hi,h1,h2,h3⟩:=xJ;refine wpList_append_lies w hgd s x 35 ho base 3 i (.int .i64 0) 1 8 Tryz.underlying35 hi h1 h2 h3 rfl ad v l.length (l.map (Value.int .i64)) hs hown.row ⟨blk,0,none⟩ 1 c [.int .i64 y] hx rfl ?_ (by simp [Value.oneCell']) ad (by unfold maxLen;omega) ad hbase _ rfl ?_
 .intro j u hu
  match j,hu with
  | 0,hu=>simp at hu;subst hu;exact hnew
 intro g cap w' hown' hgrow _ _;exact h g cap w' (al.appended hown.rng hy hlen hown') hgrow (hown.below_grown (W0:=w) (.inr trivial) hbase hgrow)
theorem wp_ {i k:Nat}:((i:Int)-(k:Int)).toNat=i-k:=ad
open Classical in
noncomputable def CY (C:List Int) (d:Int) (k:Nat):Bool:=decide (tB C d k)
theorem Jm {C:List Int} {d:Int} {k:Nat}:CY C d k=true↔tB C d k:=by unfold CY;simp
theorem Ct {C:List Int} {i:Nat} (h:i<C.length):C.getD i 0=C[i]:=by simp [h]
theorem yv_ (cv:Value) (C:List Int) (T:Int) (parts:Int) (d:Int) (k:Nat) (pb nb cb:Addr) (w:World)
  (xU:1<=T) (hT:T<=1125899906842624) (hC:aH 0 T C) (hcv:Ints w cv C) (hp:w.cell? pb=some (.int .i64 T)) (hn:w.cell? nb=some (.int .i64 C.length)) (hc:w.cell? cb=some cv)
  (hparts:1<=parts) (hd:T / parts=d) (hk:(C.length:Int) / parts=k) (sq:1<=k) (hkn:k<=C.length) :
  Calls Tryz.prog 212 #[.int .i64 parts,.pointer (some pb),.pointer (some nb),.pointer (some cb)] w λe w'=>e=.returned (.bool (CY C d k))/\∃ n,w'=w.drewN n:=by
 have oL:0<=d:=hd ▸ N1 ad ad;have e_:d<=T:=hd ▸ z_ _ ad;obtain ⟨⟨a,c,rfl,hlc,hcc,ck⟩,hlen,_⟩:=hcv;rcases ck with h|⟨b,o,rfl,hcell⟩
 .subst h;simp at hkn;omega
 have hE:∀ i,i<C.length->0<=C.getD i 0/\C.getD i 0<T:=λi hi=>by rw [Ct hi];exact hC.get_bounds hi
 have HC:=af hcell;have HE:=af hE;clear hcell hE;have ep:(0:Int)<parts:=ad
 go_in
 go_wp2_with fail
 go_quiet (fail)
 go_wp2
 go_loopw [8] (λi wr=>∃ j:Nat,k<=j/\j<=C.length/\i=.int .i64 j/\(∀ x,k<=x->x<j->C.getD x 0=C.getD (x-k) 0+d)/\∃ n,wr=w.drewN n) (λi _=>C.length-(intOf i).toNat)
 .exact ⟨k,TZ _,hkn,rfl,λx h1 h2=>ad,_,rfl⟩
 obtain ⟨j,hkj,hj,rfl,hall,n,rfl⟩:=hrel;have HA:=af hall;clear hall;by_cases hlt:j<C.length
 .have h1:=HC.o j hlt;have h2:=HC.o (j-k) ad;have e1:=HE.o j hlt;have e2:=HE.o (j-k) ad;have hs:=@wp_ j k;obtain ⟨x,hx⟩:∃ x,x=C.getD j 0:=⟨_,rfl⟩;obtain ⟨y,hy⟩:∃ y,y=C.getD (j-k) 0:=⟨_,rfl⟩;rw [<- hx] at h1 e1;rw [<- hy] at h2 e2;have HX:=af hx;have HY:=af hy;clear hx hy;have GF:(j:Int)<C.length:=ad;go_wp2_with fail;go_quiet (fail)
  go_wp2_with fail
  .have hne:x≠y+d:=by simpa using ‹(x != y+d)=true›
   go_ret;refine ⟨bX ?_,_,NP _ _ _⟩;have Bb:¬ tB C d k:=λh=>hne (by rw [HX.o,HY.o,Ct hlt,Ct (show j-k<C.length by omega)];exact h.1 j hlt hkj);have hf:CY C d k=false:=by rw [<- Bool.not_eq_true,Jm];exact Bb
   rw [hf]
  have heq:x=y+d:=by simpa using ‹(x != y+d)=false›
  refine ⟨⟨j+1,ad,ad,by go_num,λz h1 h2=>?_,_,rfl⟩,by simp [intOf];try omega⟩;rcases PZ z j with h3|h3
  .exact HA.o z h1 h3
  obtain rfl:z=j:=ad;rw [<- HX.o,<- HY.o];exact heq
 have hjn:¬ (j:Int)<C.length:=ad;have h1:=HC.o (k-1) ad;have e1:=HE.o (k-1) ad;have hs:((k:Int)-1).toNat=k-1:=ad;obtain ⟨x,hx⟩:∃ x,x=C.getD (k-1) 0:=⟨_,rfl⟩;rw [<- hx] at h1 e1;have HX:=af hx;have fg:(1:Int)<=k:=ad;have aM:CY C d k=decide (x<d):=by
  rw [ML,Jm,QN,hx,Ct (show k-1<C.length by omega)];constructor
  .exact λh=>h.2.2
  refine λh=>⟨λi hi Vo=>?_,ad,h⟩;have:=HA.o i Vo ad;rwa [Ct hi,Ct (show i-k<C.length by omega)] at this
 have HF:=af aM;clear hx aM;go_wp2;go_ret;exact ⟨bX HF.o.symm,_,rfl⟩
theorem Ints.take {w:World} {a:Option Addr} {n c k:Nat} {l:List Int} (h:Ints w (.slice a n c) l) (hk:k<=l.length):Ints w (.slice a k c) (l.take k):=by
 obtain ⟨⟨a',c',he,h1,h2,h3⟩,h4,h5⟩:=h;injection he with e1 e2 e3
 subst e1;subst e3;have hl:(l.take k).length=k:=by simp;omega
 refine ⟨⟨a,c,by rw [hl],by rw [hl];omega,h2,?_⟩,by rw [hl];omega,λx hx=>h5 x (S8 hx)⟩;rcases h3 with rfl|⟨b,o,rfl,hc⟩
 .exact .inl aj
 refine .inr ⟨b,o,rfl,λi hi=>?_⟩;rw [hl] at hi;rw [hc i ad];simp [hi]
def xd_ (p:Per) (a:Option Addr) (c:Nat) (w:World) (e:Ending) (w':World):Prop:=
 ∃ (d:Int) (B:List Int),e=.returned (.tuple #[.int .i64 d,.slice a B.length c])/\Ints w' (.slice a B.length c) B/\xP p d B/\Below w.heap.size w w'
theorem r7_ (a:Option Addr) (c:Nat) (p:Per) (w:World) (hw:p.WF) (hne:p.cycle≠[]) (hT:p.period<=1125899906842624) (hcv:Ints w (.slice a p.cycle.length c) p.cycle) :
  Calls Tryz.prog 177 #[.int .i64 p.period,.slice a p.cycle.length c] w (xd_ p a c w):=by
 have xU:=hw.per;have hl:∀ W,Below w.heap.size w W->Ints W (.slice a p.cycle.length c) p.cycle:=λW hb=>hcv.ext hb;have mS:1<=p.cycle.length:=by
  rcases NR p.cycle.length with h|h
  .exact absurd (NL h) hne
  exact h
 obtain ⟨⟨a',c',he,hlc,hcc,ck⟩,hlen,_⟩:=hcv;injection he with cN eP dz
 subst cN;subst dz;have cP:(1:Int)<=p.cycle.length:=ad
 go_in
 go_wp2
 go_loopw [8,4,5] (λq _ _ wr=>∃ j:Nat,1<=j/\j<=p.cycle.length/\q=.int .i64 j/\(∀ q' d' k',j<q'->1<=d'->1<=k'->p.period=(q':Nat)*d'->p.cycle.length=q' * k'->¬ tB p.cycle d' k')/\Below w.heap.size w wr/\wr.cell? ⟨w.heap.size,0,none⟩=some (.int .i64 p.period)/\wr.cell? ⟨w.heap.size+1,0,none⟩=some (.slice a p.cycle.length c)/\wr.cell? ⟨w.heap.size+1+1,0,none⟩=some (.int .i64 p.cycle.length)) (λq _ _ _=>(intOf q).toNat)
 .refine ⟨p.cycle.length,mS,TZ _,rfl,λq' d' k' h1 h2 h3 h4 h5=>?_,by exact xE,by go_simp,by go_simp,by go_simp⟩;have:q' * 1<=q' * k':=Nat.mul_le_mul_left _ h3;omega
 obtain ⟨j,QD,hjn,rfl,hmax,hb,hc1,hc2,hc3⟩:=hrel;have HM:=af hmax;clear hmax;by_cases JW:1<j
 .have sm:(1:Int)<j:=ad;by_cases e_:(p.cycle.length:Int) % j=0
  .by_cases ki:p.period % j=0
   .obtain ⟨d,hd⟩:∃ d,p.period / j=d:=⟨_,rfl⟩;obtain ⟨k,hk⟩:∃ k:Nat,(p.cycle.length:Int) / j=k:=⟨p.cycle.length / j,aj⟩;have UX:p.period=(j:Nat)*d:=by rw [<- hd];exact (q8m (NB ki)).symm
    have CZ:p.cycle.length=j*k:=by
     have:=q8m (NB e_);rw [hk] at this;have e:((j*k:Nat):Int)=p.cycle.length:=by rw [<- this];push_cast;rfl
     omega
    have Qh:1<=d:=by
     rcases NC 0 d with h|h
     .omega
     have:=q7p (show (0:Int)<=(j:Nat) by omega) h;omega
    have Gw:1<=k:=by
     rcases NR k with h|h
     .subst h;exact absurd (by simpa using CZ) hne
     exact h
    have hkn:k<=p.cycle.length:=by rw [CZ];exact q8d k ad
    have hdT:d<=p.period:=hd ▸ z_ _ ad;have V:=af (λW hb h1 h2 h3=>yv_ (.slice a p.cycle.length c) p.cycle p.period j d k ⟨w.heap.size,0,none⟩ ⟨w.heap.size+1+1,0,none⟩ ⟨w.heap.size+1,0,none⟩ W xU hT hw.cyc (hl W hb) h1 h2 h3 ad hd hk Gw hkn);have HTd:=af UX;have Eh:=af CZ;have hb1:((p.cycle.length:Int) % j == 0)=true:=by simpa using e_
    have hb2:(p.period % (j:Int) == 0)=true:=by simpa using ki
    clear UX CZ e_ ki;cases hP:CY p.cycle d k with
    | true=>
     have UR:=Jm.1 hP;have HS:=af (OT hw hne Qh ad HTd.o Eh.o Gw UR (λq' d' k'=>HM.o q' d' k'));clear UR;go_wp2_with (go_at_call 212;refine (V.o _ xE (by assumption) (by assumption) (by assumption)).mono ?_;rintro e w' ⟨he,nq,rfl⟩;rw [hP] at he;subst he);go_quiet (fail)
     go_wp2
     go_ret2;have lu:(p.cycle.take k).length=k:=by simp;omega
     exact ⟨p.period / j,p.cycle.take k,by rw [lu];rfl,by rw [lu];exact ((hl _ xE).take hkn),by rw [hd];exact HS.o,xE⟩
    | false=>
     go_wp2_with (go_at_call 212;refine (V.o _ xE (by assumption) (by assumption) (by assumption)).mono ?_;rintro e w' ⟨he,nq,rfl⟩;rw [hP] at he;subst he)
     refine ⟨⟨j-1,ad,ad,by congr 1;omega,λq' d' k' h1 h2 h3 h4 h5 h6=>?_,by exact xE,hc1,hc2,hc3⟩,by simp [intOf];omega⟩;rcases PZ j q' with h7|h7
     .exact HM.o q' d' k' h7 h2 h3 h4 h5 h6
     obtain rfl:q'=j:=ad;have e1:d'=d:=q8k (show ((q':Nat):Int)≠0 by omega) (h4.symm.trans HTd.o);have e2:k'=k:=Nat.eq_of_mul_eq_mul_left (show 0<q' by omega) (h5.symm.trans Eh.o);subst e1;subst e2;rw [Jm.2 h6] at hP;cases hP
   have hb1:((p.cycle.length:Int) % j == 0)=true:=by simpa using e_
   have hb2:(p.period % (j:Int) == 0)=false:=by simpa using ki
   have H2:=af ki;clear e_ ki;go_wp2_with fail;refine ⟨⟨j-1,ad,ad,by congr 1;omega,λq' d' k' h1 h2 h3 h4 h5 h6=>?_,by exact xE,hc1,hc2,hc3⟩,by simp [intOf];omega⟩;rcases PZ j q' with h7|h7
   .exact HM.o q' d' k' h7 h2 h3 h4 h5 h6
   obtain rfl:q'=j:=ad;exact H2.o (by rw [h4];exact q7o _ _)
  have hb1:((p.cycle.length:Int) % j == 0)=false:=by simpa using e_
  have H1:=af e_;clear e_;go_wp2_with fail;refine ⟨⟨j-1,ad,ad,by congr 1;omega,λq' d' k' h1 h2 h3 h4 h5 h6=>?_,by exact xE,hc1,hc2,hc3⟩,by simp [intOf];omega⟩;rcases PZ j q' with h7|h7
  .exact HM.o q' d' k' h7 h2 h3 h4 h5 h6
  obtain rfl:q'=j:=ad;exact H1.o (by rw [h5];push_cast;exact q7o _ _)
 obtain rfl:j=1:=ad;have hP:tB p.cycle p.period p.cycle.length:=⟨λi hi hk=>ad,ad,by have:=hw.cyc.get_bounds (i:=p.cycle.length-1) ad;exact this.2⟩;have HS:=af (OT hw hne xU (TZ 1) aj aj mS hP (λq' d' k'=>HM.o q' d' k'));clear hP;go_wp2_with fail;go_quiet (fail)
 go_wp2
 go_ret2;have lu:=HS.o;rw [OC] at lu;exact ⟨p.period,p.cycle,rfl,(hl _ xE),lu,xE⟩
end
section
open Go.RowKit Go.Shelf Kal
attribute [local go_sem] GC
def de (pb:Nat->Prop) (A B:World):Prop:=∀ k,pb k->B.heap[k]? = A.heap[k]?
theorem de.refl (pb:Nat->Prop) (A:World):de pb A A:=λ_ _=>rfl
theorem de.trans {pb:Nat->Prop} {A B C:World} (h:de pb A B) (h':de pb B C):de pb A C:=λk hk=>(h' k hk).trans (h k hk)
theorem de.cell {pb:Nat->Prop} {A B:World} (h:de pb A B) {a:Addr} {v:Value} (hp:pb a.block) (hc:A.cell? a=some v):B.cell? a=some v:=
 (QM (h a.block hp)).trans hc
theorem de.putObj {pb:Nat->Prop} {n:Nat} (bN:∀ k,pb k->k<n) (W:World) (l:Nat) (o o':Obj) (hl:n<=l) (_:W.heap[l]? = some o) (_:o.isCells=false):de pb W (W.putObj l o'):=
 λk hk=>N3 (by have:=bN k hk;omega)
def bk (l:List Int):List (Int × Int):=(List.range l.length).reverse.map λ(i:Nat)=>((i:Int),l.getD i 0)
theorem Cm (l:List Int):(bk l).length=l.length:=by simp [bk]
theorem Zw (l:List Int) (j:Nat) (h:j<l.length):(bk l)[j]'(by rw [Cm];exact h)=(((l.length-1-j:Nat):Int),l.getD (l.length-1-j) 0):=by
 simp [bk]
theorem Y6 (l:List Int) (j:Nat) (h:j<l.length):(bk l).take (j+1)=(bk l).take j ++ [(((l.length-1-j:Nat):Int),l.getD (l.length-1-j) 0)]:=by
 rw [LF (by rw [Cm];exact h),Zw l j h]
theorem ol_ (sv:Value) (l:List Int) (bx:Nat) (w:World) (pb:Nat->Prop) (hs:Ints w sv l) (hbx:w.cell? ⟨bx,0,none⟩=some sv) (h1:pb bx)
  (h3:∀ b o n c,sv=.slice (some ⟨b,o,none⟩) n c->pb b) :
  zW Tryz.prog 213 #[.pointer (some ⟨bx,0,none⟩)] (λy:Int × Int=>#[.int .i64 y.1,.int .i64 y.2]) (de pb) none (λpre=>pre <+: bk l) (λxs=>xs=bk l) (λ_=>True) w:=by
 intro l' J Jx W hW hJ AC hN hY h0;obtain ⟨⟨a,c,rfl,hlc,hcc,ck⟩,hlen,_⟩:=hs;have xX:W.cell? ⟨bx,0,none⟩=some (.slice a l.length c):=an.cell hW hbx;refine K6 Tryz.func213 rfl trivial ?_ rfl;simp only [Tryz.ntmps213,NG,MH,M4,Nat.reduceAdd,Nat.reduceSub,N0,K7,Q3,QG,L4,S5]
 gi_wp2
 gi_loopw [3] (λi wr=>∃ j:Nat,j<=l.length/\i=.int .i64 ((l.length:Int)-1-j)/\J ((bk l).take j) wr/\de pb W wr) (λi _=>(intOf i+1).toNat)
 .exact ⟨0,T8 _,aj,by simpa using h0,de.refl _ _⟩
 obtain ⟨j,hj,rfl,dK,hK⟩:=hrel;by_cases hlt:j<l.length
 .rcases ck with h|⟨b,o,rfl,hcell⟩
  .subst h;simp at hlt
  have hb2:=hK.cell h1 xX;have hc2:=hK.cell (a:=⟨b,o+(l.length-1-j),none⟩) (h3 b o _ _ rfl) (an.cell hW (hcell (l.length-1-j) ad));have ht:=Y6 l j hlt;have hpre:(bk l).take j ++ [(((l.length-1-j:Nat):Int),l.getD (l.length-1-j) 0)] <+: bk l:=by rw [<- Y6 l j hlt];exact List.take_prefix _ _
  have lX:((l.length:Int)-1-j).toNat=l.length-1-j:=ad;have hcast:((l.length-1-j:Nat):Int)=(l.length:Int)-1-j:=ad;obtain ⟨x,hx⟩:∃ x,x=l.getD (l.length-1-j) 0:=⟨_,rfl⟩;rw [hcast,<- hx] at ht hpre;rw [<- hx] at hc2;obtain ⟨fn,tmps,assign,body,hy,hR⟩:=hY _ _ wr dK hpre;dsimp only at hy;have HT:=af ht;have HP:=af hpre;clear hcast hpre hcell ht hx
  gi_wp2
  refine ⟨rfl,hR.mono ?_⟩;rintro e W' (⟨rfl,gS,hk⟩|⟨rfl,fK⟩)
  .gi_wp2
   go_roundw
   .exact ⟨j+1,ad,by go_num,by rw [HT.o];exact gS,hK.trans hk⟩
   simp [intOf];omega
  gi_wp2
  refine VN (QX rfl _ _ _) rfl ?_;exact ⟨⟨_,rfl⟩,.inr ⟨_,HP.o,fK⟩⟩
 have A_:(l.length:Int)-1-j<0:=ad
 gi_wp2
 go_end0
 exact ⟨⟨_,rfl⟩,.inl ⟨bk l,rfl,by rw [PM (by rw [Cm];omega)] at dK;exact dK⟩⟩
end
section
open Go.RowKit Go.Shelf Kal
structure jC (w:World) (base:Nat) (h c:Value) (p:Per):Prop where
 hd:al w base h p.head
 cy:al w base c p.cycle
theorem jC.is {w:World} {base:Nat} {h c:Value} {p:Per} (hp:jC w base h c p):cj w h c p:=⟨hp.hd.ints,hp.cy.ints⟩
theorem jC.mono {w:World} {base base':Nat} {h c:Value} {p:Per} (hp:jC w base h c p) (hb:base'<=base):jC w base' h c p:=⟨hp.hd.mono hb,hp.cy.mono hb⟩
theorem jC.above {w w':World} {base:Nat} {h c:Value} {p:Per} (hp:jC w base h c p) (hb:cm base w w'):jC w' base h c p:=⟨hp.hd.above hb,hp.cy.above hb⟩
theorem jC.form {w:World} {base:Nat} {h c:Value} {p:Per} (hp:jC w base h c p):∃ a1 c1 a2 c2,h=.slice a1 p.head.length c1/\c=.slice a2 p.cycle.length c2:=by
 obtain ⟨a1,c1,h1⟩:=hp.hd.form;obtain ⟨a2,c2,h2⟩:=hp.cy.form;exact ⟨a1,c1,a2,c2,h1,h2⟩
def J9 (S:Int->Prop) (w:World) (e:Ending) (w':World):Prop:=
 ∃ (h' c':Value) (q:Per),e=.returned (.agg #[h',.int .i64 q.frm,.int .i64 q.period,c'])/\bV q S/\jC w' w.heap.size h' c' q/\Below w.heap.size w w'
theorem op_ (h c:Value) (p:Per) (w:World) (hp:cj w h c p) (hw:p.WF) (h1:p.frm<=1125899906842624) (aM:p.cycle=[]) :
  Calls Tryz.prog 129 #[.agg #[h,.int .i64 p.frm,.int .i64 p.period,c]] w (J9 p.mem w):=by
 have hl:∀ W,Below w.heap.size w W->Ints W h p.head:=λW hb=>hp.hd.ext hb;have HC:=af (q6q hw aM);have hE:∀ i,i<p.head.length->0<=p.head.getD i 0/\p.head.getD i 0<p.frm:=λi hi=>jH hw.head hi;obtain ⟨⟨⟨a,cap,rfl,hlc,hcc,ck⟩,hlen,_⟩,⟨ca,aK,rfl,_,_,_⟩,_,_⟩:=hp;rw [aM];have HE:=af hE;have zj:=af aM;clear hE aM;simp only [M4];by_cases h0:p.head.length=0
 .have hn:¬ (0:Int)<p.head.length:=ad;have H0:=af h0;clear h0
  go_in
  go_wp2
  go_step3
  go_wp2_with (go_at_call 96;refine (Cn _ p.head _ (hl _ xE)).mono ?_;rintro e w1 ⟨v',rfl,ho,hb1⟩;obtain ⟨va,vc,rfl⟩:=ho.form;obtain ⟨hc1,gG⟩:=bd_ hb1;have hz:w.heap.size+1+1<w1.heap.size:=(by have:=hb1.size;simp at this;omega);have hz1:w.heap.size+1<w1.heap.size:=ad;have hz0:w.heap.size<w1.heap.size:=ad)
  rw [QP];refine VN (v:=.agg #[.slice va p.head.length vc,.int .i64 0,.int .i64 1,.slice none 0 0]) ?_ rfl ?_
  .simp [results,Tryz.results129,go_sem, *]
  refine ⟨_,_,⟨p.head,0,1,[]⟩,rfl,?_,⟨?_,al.nil _ _⟩,?_⟩
  .have:=HC.o;rwa [if_pos H0.o] at this
  .exact (ho.above (by (repeat' (with_reducible first|exact cm.refl _ _|refine cm.alloc ?_ _|refine cm.drew ?_|refine cm.drewN ?_ _|refine cm.setCell ?_ (by first|(simp;done)|(simp;omega)|omega) _)))).mono (by first|(simp;done)|(simp;omega)|omega)
  exact xE
 have hn:(0:Int)<p.head.length:=ad;have H0:=af h0;rcases ck with hh|⟨b,o,rfl,hcell⟩
 .rw [hh] at h0;exact absurd rfl h0
 have hcl:=hcell (p.head.length-1) ad;have hx1:((p.head.length:Int)-1).toNat=p.head.length-1:=ad;have kg:=HE.o (p.head.length-1) ad;obtain ⟨x,hx⟩:∃ x,x=p.head.getD (p.head.length-1) 0:=⟨_,rfl⟩;rw [<- hx] at hcl kg;have HX:=af hx;clear hcell h0 hx
 go_in
 go_wp2
 go_step3
 go_wp2_with (go_at_call 96;refine (Cn _ p.head _ (hl _ xE)).mono ?_;rintro e w1 ⟨v',rfl,ho,hb1⟩;obtain ⟨va,vc,rfl⟩:=ho.form;have hc4:=an.cell (w:=w) (W:=w1) xE hcl;have hblt:b<w1.heap.size:=N8 _ _ hc4;obtain ⟨hc1,gG⟩:=bd_ hb1;have hz:w.heap.size+1+1<w1.heap.size:=(by have:=hb1.size;simp at this;omega);have hz1:w.heap.size+1<w1.heap.size:=ad;have hz0:w.heap.size<w1.heap.size:=ad)
 rw [QP];refine VN (v:=.agg #[.slice va p.head.length vc,.int .i64 (x+1),.int .i64 1,.slice none 0 0]) ?_ rfl ?_
 .simp [results,Tryz.results129,go_sem, *]
 refine ⟨_,_,⟨p.head,x+1,1,[]⟩,rfl,?_,⟨?_,al.nil _ _⟩,?_⟩
 .have:=HC.o;rw [if_neg H0.o,<- HX.o] at this;exact this
 .exact (ho.above (by (repeat' (with_reducible first|exact cm.refl _ _|refine cm.alloc ?_ _|refine cm.drew ?_|refine cm.drewN ?_ _|refine cm.setCell ?_ (by first|(simp;done)|(simp;omega)|omega) _)))).mono (by first|(simp;done)|(simp;omega)|omega)
 exact xE
attribute [local go_sem] GC
theorem ok_ (sv:Value) (w:World) (h:∃ a n c,sv=.slice a n c) :
  Calls Tryz.prog 178 #[sv] w λe w'=>e=.returned (.func (.func 213) #[] #[.pointer (some ⟨w.heap.size,0,none⟩)])/\w.alloc (.cells #[sv] 35)=w':=by
 obtain ⟨a,n,c,rfl⟩:=h
 go_in
 go_wp2;go_ret;exact ⟨rfl,rfl⟩
theorem Fj {A B:World} {row:Option Nat} {k:Nat} {c:Array Value} {t:TypeId} {f:Nat × Nat} (h:A.heap[k]? = some (.cells c t f)) (hg:A.grownBy B row)
  (hr:∀ r,row=some r->∃ o:Obj,A.heap[r]? = some o/\o.isCells=false):B.heap[k]? = some (.cells c t f):=by
 refine (hg.block k (Q0.1 h).1 λe=>?_).trans h;obtain ⟨o,ho,hc⟩:=hr k e.symm;rw [h] at ho;cases ho;cases hc
structure CI (w:World) (s0:Nat) (p:Per) (ha:Option Addr) (aT:Nat) (ca:Option Addr) (aK:Nat) (j:Nat) (sv:Int) (bb:Nat) (bv:Int) (W:World):Prop where
 below:Below w.heap.size w W
 pbox:W.heap[w.heap.size]? = some (.cells #[.slice ha p.head.length aT,.int .i64 p.frm,.int .i64 p.period,.slice ca p.cycle.length aK] 80 (0,0))
 rbox:W.heap[w.heap.size+1]? = some (.cells #[.slice none 0 0,.int .i64 0,.int .i64 0,.slice none 0 0] 80 (0,0))
 hbox:Boxed W (w.heap.size+1+1) 35 (.slice ha (p.head.length-j) aT)
 sbox:Boxed W s0 3 (.int .i64 sv)
 bbox:Boxed W bb 3 (.int .i64 bv)
 hs:w.heap.size+1+1<s0
 bs:s0<bb
theorem CI.grow {w:World} {s0:Nat} {p:Per} {ha:Option Addr} {aT:Nat} {ca:Option Addr} {aK j:Nat} {sv:Int} {bb:Nat} {bv:Int} {W W':World} {row:Option Nat} (h:CI w s0 p ha aT ca aK j sv bb bv W)
  (hg:W.grownBy W' row) (hr:∀ r,row=some r->w.heap.size<=r/\∃ o:Obj,W.heap[r]? = some o/\o.isCells=false):CI w s0 p ha aT ca aK j sv bb bv W':=
 ⟨h.below.grown hg h.below.size (λk e=>(hr k e).1),Fj h.pbox hg (λr e=>(hr r e).2),Fj h.rbox hg (λr e=>(hr r e).2),Fj h.hbox hg (λr e=>(hr r e).2),Fj h.sbox hg (λr e=>(hr r e).2),Fj h.bbox hg (λr e=>(hr r e).2),h.hs,h.bs⟩
theorem jF {W:World} {k:Nat} {c:Array Value} {t:TypeId} (h:W.heap[k]? = some (.cells c t (0,0))) (i:Nat):W.cell? ⟨k,i,none⟩=c[i]?/\W.frozen? ⟨k,i,none⟩=false:=by
 simp [World.cell?,World.frozen?,h]
def Un (w:World) (_:Act) (W:World):Nat:=match W.cell? ⟨w.heap.size+1+1,0,none⟩ with|some (.slice _ n _)=>n|_=>0
def CX (w:World) (s0:Nat) (p:Per) (d:Int) (B:List Int) (ha:Option Addr) (aT:Nat) (ca:Option Addr) (aK:Nat) (W:World):Prop:=
 ∃ (s:Int) (j bb:Nat) (bv:Int),Kal.Start p d B s (p.head.length-j)/\CI w s0 p ha aT ca aK j s bb bv W
theorem Ints.back {w w1:World} {b o n c:Nat} {l:List Int} (h:Ints w1 (.slice (some ⟨b,o,none⟩) n c) l) (hb:Below w.heap.size w w1) (hlt:b<w.heap.size):Ints w (.slice (some ⟨b,o,none⟩) n c) l:=by
 obtain ⟨⟨a',c',he,h1,h2,h3⟩,h4,h5⟩:=h;injection he with e1 e2 e3
 subst e1;subst e2;subst e3;refine ⟨⟨_,_,rfl,h1,h2,h3.imp id ?_⟩,h4,h5⟩;rintro ⟨b',o',he,hc⟩;injection he with he;injection he with e1 e2
 subst e1;subst e2;exact ⟨b,o,rfl,λi hi=>(hb.cell (p:=⟨b,o+i,none⟩) hlt).symm.trans (hc i hi)⟩
theorem KeepsOthers.grow {A B C:World} {row:Option Nat} (h:KeepsOthers A B) (hg:B.grownBy C row) (hr:∀ r,row=some r->A.heap.size<=r):KeepsOthers A C:=
 ⟨NN h.size hg.size,λk o hk ho=>(hg.block k (Q0.1 (h.same k o hk ho)).1 (λe=>by have:=hr k e.symm;have:=(Q0.1 hk).1;omega)).trans (h.same k o hk ho)⟩
theorem ws_ {w w1:World} {a b c:Obj} (hb:Below (((w.alloc a).alloc b).alloc c).heap.size (((w.alloc a).alloc b).alloc c) w1):w1.heap[w.heap.size]? = some a/\w1.heap[w.heap.size+1]? = some b/\w1.heap[w.heap.size+1+1]? = some c:=by
 have e1:=DP w a;have e2:=DP (w.alloc a) b;have e3:=DP ((w.alloc a).alloc b) c;simp only [U7] at e2 e3 hb;refine ⟨?_,?_,?_⟩
 .rw [hb.block _ ad,DN _ _ _ aR,DN _ _ _ aj];exact e1
 .rw [hb.block _ ad,DN _ _ _ aj];exact e2
 rw [hb.block _ ad];exact e3
section
variable {w:World} {s0:Nat} {p:Per} {ha:Option Addr} {aT:Nat} {ca:Option Addr} {aK j:Nat} {sv:Int} {bb:Nat} {bv:Int} {W:World}
theorem rB {W:World} {k b:Nat} {v:Value} (h:k≠b):(W.setCell ⟨b,0,none⟩ v).heap[k]? = W.heap[k]?:=DO W ⟨b,0,none⟩ v k h
theorem CI.setS (h:CI w s0 p ha aT ca aK j sv bb bv W) (s:Int):CI w s0 p ha aT ca aK j s bb bv (W.setCell ⟨s0,0,none⟩ (.int .i64 s)):=by
 have h1:=h.hs;have h2:=h.bs;exact ⟨h.below.setCell (p:=⟨s0,0,none⟩) aR _,(rB ad).trans h.pbox,(rB ad).trans h.rbox,(rB ad).trans h.hbox,h.sbox.set _,(rB ad).trans h.bbox,h1,h2⟩
theorem CI.setH (h:CI w s0 p ha aT ca aK j sv bb bv W) (j':Nat):CI w s0 p ha aT ca aK j' sv bb bv (W.setCell ⟨w.heap.size+1+1,0,none⟩ (.slice ha (p.head.length-j') aT)):=by
 have h1:=h.hs;have h2:=h.bs;exact ⟨h.below.setCell (p:=⟨w.heap.size+1+1,0,none⟩) aR _,(rB ad).trans h.pbox,(rB ad).trans h.rbox,h.hbox.set _,(rB ad).trans h.sbox,(rB ad).trans h.bbox,h1,h2⟩
theorem CI.newB (h:CI w s0 p ha aT ca aK j sv bb bv W) (v:Int):CI w s0 p ha aT ca aK j sv W.heap.size v (W.alloc (.cells #[.int .i64 v] 3)):=by
 have hg:=NK W (.cells #[.int .i64 v] 3) none;have h':=h.grow hg (λr e=>by cases e);have:=h.bbox.lt;have:=h.bs;exact ⟨h'.below,h'.pbox,h'.rbox,h'.hbox,h'.sbox,Boxed.new _ _ _,h.hs,ad⟩
end
theorem Nk {B:List Int} {pre:List (Int × Int)} {y:Int × Int} (h:pre ++ [y] <+: bk B):pre.length<B.length/\y=(((B.length-1-pre.length:Nat):Int),B.getD (B.length-1-pre.length) 0):=by
 have hlen:=h.length_le;rw [Cm] at hlen;simp at hlen;have hlt:pre.length<B.length:=ad;refine ⟨hlt,?_⟩;obtain ⟨t,ht⟩:=h;have e1:(bk B)[pre.length]? = some y:=by rw [<- ht];simp
 rw [U2 (by rw [Cm];exact hlt),Zw B _ hlt] at e1;exact (S7 e1).symm
theorem Zy {B:List Int} {d f:Int} {m i:Nat} (hi:i<B.length):f-d*((m:Int)+1)+B.getD (B.length-1-i) 0=dt B d f (m*B.length+i):=by
 unfold dt;have h1:(m*B.length+i) / B.length=m:=by rw [OH,Nat.mul_add_div ad,q8b hi];rfl
 have h2:(m*B.length+i) % B.length=i:=by rw [OH,Nat.mul_add_mod,ZV hi]
 rw [h1,h2]
end
section
open Go.RowKit Go.Shelf Kal
noncomputable def ux_:Code:=match Tryz.f129.body with
 | some (.seq _ (.scope (.seq _ (.seq _ (.seq _ (.seq _ (.seq _ (.seq _ t))))))))=>t
 | _=>.skip
theorem al.kept_lt {w w':World} {base:Nat} {v:Value} {l:List Int} (h:al w base v l) (hb:∀ k,v.ownBlock=some k->w'.heap[k]? = w.heap[k]?/\w.heap.size<=w'.heap.size):al w' base v l:=by
 obtain ⟨⟨h1,h2⟩,h3,h4⟩:=h;refine ⟨⟨h1,?_⟩,h3,h4⟩;rcases h2 with h2|⟨g,cap,cur,hv,hg,hh,hr⟩
 .exact .inl h2
 refine .inr ⟨g,cap,cur,hv,hg,(hb g ?_).1.trans hh,hr⟩;subst hv;rfl
theorem al.shut {B:Nat} {w w':World} {base:Nat} {v:Value} {l:List Int} (h:al w base v l) (hs:SN B w w'):al w' base v l:=by
 obtain ⟨⟨h1,h2⟩,h3,h4⟩:=h;refine ⟨⟨h1,?_⟩,h3,h4⟩;rcases h2 with h2|⟨g,cap,cur,hv,hg,hh,hr⟩
 .exact .inl h2
 exact .inr ⟨g,cap,cur,hv,hg,hs.cells g _ hh rfl,hr⟩
theorem Ac {w:World} {a:Addr} {v:Value} (h:w.cell? a=some v):w.drew.cell? a=some v:=h
structure TI (w:World) (s0 ob:Nat) (p:Per) (s d:Int) (ca:Option Addr) (aK:Nat) (B:List Int) (hv:Value) (hl:List Int) (ds:List Deferred) (base:Nat) (cyv:Value) (l:List Int) (W:World):Prop where
 below:Below w.heap.size w W
 pb:W.cell? ⟨w.heap.size,1,none⟩=some (.int .i64 p.frm)
 sb:W.cell? ⟨s0,0,none⟩=some (.int .i64 s)
 rb:W.heap[w.heap.size+1]? = some (.cells #[.slice none 0 0,.int .i64 0,.int .i64 0,.slice none 0 0] 80 (0,0))
 obx:W.heap[ob]? = some (.cells #[hv,.int .i64 s,.int .i64 d,cyv] 80 (0,0))
 own:al W base cyv l
 hd:al W (w.heap.size+1+1) hv hl
 hlt:∀ k,hv.ownBlock=some k->k<base/\k≠ob
 marks:∃ W0:World,cJ w.heap.size ds W0/\W0.heap.size<=ob/\Below W0.heap.size W0 W
 o1:w.heap.size+1+1<s0
 o2:s0<ob
 o3:ob<base
 o4:base<=W.heap.size
theorem cJ.below {B:Nat} {ds:List Deferred} {w w':World} (h:cJ B ds w) (hb:Below w.heap.size w w'):cJ B ds w':=by
 obtain ⟨Ds,rfl,hn,hall⟩:=h;exact ⟨Ds,rfl,hn,λD hD=>⟨(hall D hD).1,(hb.block D (Q0.1 (hall D hD).2).1).trans (hall D hD).2⟩⟩
theorem bE {W:World} {b:Nat} {c:Array Value} {t:TypeId} {f:Nat × Nat} (i:Nat) (v:Value) (h:W.heap[b]? = some (.cells c t f)):(W.setCell ⟨b,i,none⟩ v).heap[b]? = some (.cells (c.setIfInBounds i v) t f):=by
 obtain ⟨hlt,hk⟩:=Q0.1 h;show (W.heap.modify b _)[b]? = _;rw [zo (by rw [Array.size_modify];exact hlt),Array.getElem_modify_self,hk];rfl
theorem set4 {W:World} {b:Nat} {x y z u v:Value} {t:TypeId} {f:Nat × Nat} (h:W.heap[b]? = some (.cells #[x,y,z,u] t f)):(W.setCell ⟨b,3,none⟩ v).heap[b]? = some (.cells #[x,y,z,v] t f):=bE 3 v h
theorem CB {W:World} {b:Nat} {x y z u x' y' z' u':Value} {t:TypeId} {f:Nat × Nat} (h:W.heap[b]? = some (.cells #[x,y,z,u] t f)) :
  ((((W.setCell ⟨b,0,none⟩ x').setCell ⟨b,1,none⟩ y').setCell ⟨b,2,none⟩ z').setCell ⟨b,3,none⟩ u').heap[b]? = some (.cells #[x',y',z',u'] t f):=
 bE 3 u' (bE 2 z' (bE 1 y' (bE 0 x' h)))
theorem TI.step {w:World} {s0 ob:Nat} {p:Per} {s d:Int} {ca:Option Addr} {aK:Nat} {B:List Int} {hv:Value} {hl:List Int} {ds:List Deferred} {base:Nat} {cyv:Value} {l:List Int} {W:World}
  (h:TI w s0 ob p s d ca aK B hv hl ds base cyv l W) {W1:World} {v':Value} {l':List Int} (hb:Below base W W1) (ho:al W1 base v' l') :
  TI w s0 ob p s d ca aK B hv hl ds base v' l' (W1.setCell ⟨ob,3,none⟩ v'):=by
 have h1:=h.o1;have h2:=h.o2;have h3:=h.o3;have h4:=h.o4;obtain ⟨W0,hm1,ix,QR⟩:=h.marks;have hz:=hb.size;refine ⟨(h.below.trans (hb.mono ad)).setCell (p:=⟨ob,3,none⟩) aR _,Ci (Below.cell' hb h.pb ad) aR _,Ci (Below.cell' hb h.sb ad) aR _,?_,set4 ((hb.block ob ad).trans h.obx),?_,?_,h.hlt,⟨W0,hm1,ix,?_⟩,h1,h2,h3,?_⟩
 .rw [DO _ _ _ _ aR];exact (hb.block _ ad).trans h.rb
 .exact ho.above ((cm.refl base W1).setCell aR _)
 .refine al.kept_lt (al.kept_lt h.hd λk hk=>⟨(hb.block k (h.hlt k hk).1),hz⟩) λk hk=>⟨DO _ _ _ _ (by simp;exact (h.hlt k hk).2),by simp [World.setCell]⟩
 .exact (QR.trans (hb.mono ad)).setCell (p:=⟨ob,3,none⟩) aR _
 simp [World.setCell];omega
theorem TI.start {w:World} {s0 ob bb:Nat} {p:Per} {s d bv:Int} {ha ca:Option Addr} {aT aK j:Nat} {B:List Int} {hv:Value} {hl:List Int} {ds:List Deferred} {base:Nat} {W W':World}
  (jm:CI w s0 p ha aT ca aK j s bb bv W) (hM:cJ w.heap.size ds W) (hb:Below W.heap.size W W') (cL:W'.heap[ob]? = some (.cells #[hv,.int .i64 s,.int .i64 d,.slice none 0 0] 80 (0,0)))
  (ho:al W' W.heap.size hv hl) (h1:W.heap.size<=ob) (hlt:∀ k,hv.ownBlock=some k->k<base/\k≠ob) (h2:ob<base) (h3:base<=W'.heap.size):TI w s0 ob p s d ca aK B hv hl ds base (.slice none 0 0) [] W':=by
 have a1:=jm.hs;have a2:=jm.sbox.lt;refine ⟨jm.below.trans (hb.mono ad),?_,Below.cell' hb jm.sbox.cell a2,(hb.block _ ad).trans jm.rbox,cL,al.nil _ _,ho.mono ad,hlt,⟨W,hM,h1,hb⟩,a1,ad,h2,h3⟩;refine Below.cell' hb ?_ ad;rw [(jF jm.pbox 1).1];rfl
theorem sj_ {w W:World} {s0:Nat} {p:Per} {ha:Option Addr} {aT:Nat} {ca:Option Addr} {aK j:Nat} {s:Int} {bb:Nat} {bv d:Int} {B:List Int} {ds:List Deferred} {u0 u4 u8 u9 u10 u11 u12 u13 u14 u15 u16 u17 u18 u19 u20 u21 u22 u23 u24 u25 u26 u27 u28 u29 u30 u31 u32 u33 u34 u35 u36 u37 u38 u39 u40 u41 u42 u43 u44 u45 u46 u47 u48 u49 u50 u51 u52 u53 u54 u55 u56 u57 u58 u59 u60 u61 u62 u63 u64 u65 u66 u67 u68 u69 u70 u71 u72 u73 u74 u75 u76 u77 u78 u79 u80 u81 u82 u83 u84 u85 u86 u87 u88 u89 u90 u91 u92 u93 u94 u95 u96 u97 u98 u99 u100 u101 u102 u103 u104 u105 u106 u107 u108 u109 u110 u111 u112 u113 u114 u115 u116 u117:Value}
  (hw:p.WF) (h1:p.frm<=1125899906842624) (h2:d<=1125899906842624) (hS:xP p d B) (hst:Kal.Start p d B s (p.head.length-j)) (jm:CI w s0 p ha aT ca aK j s bb bv W) (hM:cJ w.heap.size ds W)
  (hcv:Ints W (.slice ca B.length aK) B) (hhd:Ints W (.slice ha p.head.length aT) p.head) :
  ux_.wp Tryz.prog (Exit.noGoto (bodyPostM Fence.wide 0 Tryz.prog Tryz.f129 (J9 p.mem w))) ⟨#[u0,.pointer (some ⟨w.heap.size,0,none⟩),.pointer (some ⟨w.heap.size+1,0,none⟩),.pointer (some ⟨w.heap.size+1+1,0,none⟩),u4,.int .i64 d,.slice ca B.length aK,.pointer (some ⟨s0,0,none⟩),u8,u9,u10,u11,u12,u13,u14,u15,u16,u17,u18,u19,u20,u21,u22,u23,u24,u25,u26,u27,u28,u29,u30,u31,u32,u33,u34,u35,u36,u37,u38,u39,u40,u41,u42,u43,u44,u45,u46,u47,u48,u49,u50,u51,u52,u53,u54,u55,u56,u57,u58,u59,u60,u61,u62,u63,u64,u65,u66,u67,u68,u69,u70,u71,u72,u73,u74,u75,u76,u77,u78,u79,u80,u81,u82,u83,u84,u85,u86,u87,u88,u89,u90,u91,u92,u93,u94,u95,u96,u97,u98,u99,u100,u101,u102,u103,u104,u105,u106,u107,u108,u109,u110,u111,u112,u113,u114,u115,u116,u117],ds⟩ W:=by
 have Gi:∀ W',Below W.heap.size W W'->Ints W' (.slice ca B.length aK) B:=λW' hb=>hcv.ext hb;have QA:∀ W',Below W.heap.size W W'->Ints W' (.slice ha (p.head.length-j) aT) (p.head.take (p.head.length-j)):=λW' hb=>(hhd.ext hb).take ad;have JX:=jm.hbox.cell;have hs1:=jm.sbox.cell;have hs0:=hst.s0;have hsf:=hst.sf;have oL:=hS.pos;have hb1:=jm.hs;have hb2:=jm.sbox.lt;have fN:=(jF jm.pbox 1).1;have fN:W.cell? ⟨w.heap.size,1,none⟩=some (.int .i64 p.frm):=by rw [fN];rfl
 obtain ⟨nh,Ba⟩:∃ nh,nh=p.head.length-j:=⟨_,rfl⟩;rw [<- Ba] at JX hst QA;have HC:=af jm;have HM:=af hM;have HS:=af hS;have HST:=af hst;have HN:=af Ba;obtain ⟨hl,we⟩:∃ hl,hl=p.head.take nh:=⟨_,rfl⟩;rw [<- we] at QA;have pU:=af we;have hnl:hl.length=nh:=by rw [we];simp;omega
 have IJ:=af hnl;clear jm hM hS hst Ba hcv hhd we hnl
 conv=>arg 2;whnf
 go_wp2_with fail
 refine D0 (Q:=λe a' W'=>e=.normal/\∃ (ob base:Nat) (va:Option Addr) (vc:Nat) (ZB ZC v91 ZD v93:Value),a'=⟨#[u0,.pointer (some ⟨w.heap.size,0,none⟩),.pointer (some ⟨w.heap.size+1,0,none⟩),.pointer (some ⟨w.heap.size+1+1,0,none⟩),u4,.int .i64 d,.slice ca B.length aK,.pointer (some ⟨s0,0,none⟩),u8,u9,u10,u11,u12,.pointer (some ⟨ob,0,none⟩),u14,u15,u16,u17,u18,u19,u20,u21,u22,u23,u24,u25,u26,u27,u28,u29,u30,u31,u32,u33,u34,u35,u36,u37,u38,u39,u40,u41,u42,u43,u44,u45,u46,u47,u48,u49,u50,u51,u52,u53,u54,u55,u56,u57,u58,u59,u60,u61,u62,u63,u64,u65,u66,u67,u68,u69,u70,u71,u72,u73,u74,u75,u76,u77,u78,u79,u80,u81,u82,u83,u84,u85,u86,u87,u88,ZB,ZC,v91,ZD,v93,u94,u95,u96,u97,u98,u99,u100,u101,u102,u103,u104,u105,u106,u107,u108,u109,u110,u111,u112,u113,u114,u115,u116,u117],ds⟩/\TI w s0 ob p s d ca aK B (.slice va hl.length vc) hl ds base (.slice none 0 0) [] W'/\Below W.heap.size W W'/\W.heap.size<=ob) ?imp ?reg
 case reg=>
  go_region_held3 (λw'=>w'.cell? ⟨w.heap.size+1+1,0,none⟩=some (.slice ha nh aT)/\w'.cell? ⟨s0,0,none⟩=some (.int .i64 s)/\w'.cell? ⟨w.heap.size,1,none⟩=some (.int .i64 p.frm)) ((go_split_ands;repeat' (with_reducible first|assumption|refine Ci ?_ ?_ _|refine dW ?_ _|refine Ac ?_|exact an.cell (by assumption) (by assumption)|apply And.intro|(exact Below.cell' (by assumption) (by assumption) (by first|(simp;done)|(simp;omega)|omega))|(refine Below.cell' (by assumption) ?_ (by first|(simp;done)|(simp;omega)|omega))|omega|(simp;done)|(simp;omega))))
   ((go_at_call 96;refine (Cn _ hl _ (QA _ (by repeat' (first|refine Ed ?_|refine En ?_ _|refine Ea ?_ _|exact Er _)))).mono ?_;rintro e w2 ⟨v',rfl,ho,hb3⟩;obtain ⟨va,vc,rfl⟩:=ho.form;obtain ⟨hc3,hf3⟩:=bd_ hb3;have hb4:Below W.heap.size W w2:=Et (by repeat' (first|refine Ed ?_|refine En ?_ _|refine Ea ?_ _|exact Er _)) hb3))
  go_goals
  .have hl2:=ho.lt;have hz3:=hb4.size;exact ⟨rfl,_,w2.heap.size+1,va,vc,_,_,_,_,_,rfl,TI.start HC.o HM.o (Ea hb4 _) (DP _ _) ((ho.ext (Ea (Er _) _)).mono aj) hz3 (λk hk=>by have:=(hl2 k hk).2;omega) ad aj,Ea hb4 _,hz3⟩
  have hl2:=ho.lt;have hz3:=hb3.size;simp only [U7,Q1] at hl2 hz3;have e1:=(hb3.block W.heap.size aj).trans (DP W _);have hE:Below W.heap.size W ((((w2.setCell ⟨W.heap.size,0,none⟩ (.slice va hl.length vc)).setCell ⟨W.heap.size,1,none⟩ (.int .i64 s)).setCell ⟨W.heap.size,2,none⟩ (.int .i64 d)).setCell ⟨W.heap.size,3,none⟩ (.slice none 0 0)):=
   (((hb4.setCell (p:=⟨W.heap.size,0,none⟩) aj _).setCell (p:=⟨W.heap.size,1,none⟩) aj _).setCell (p:=⟨W.heap.size,2,none⟩) aj _).setCell (p:=⟨W.heap.size,3,none⟩) aj _
  refine ⟨rfl,_,w2.heap.size,va,vc,_,_,_,_,_,rfl,TI.start HC.o HM.o hE (CB e1) ((al.kept_lt ho λk hk=>?_).mono aj) (TZ _) (λk hk=>by have:=hl2 k hk;omega) ad (by simp [World.setCell]),hE,TZ _⟩;have:=hl2 k hk;refine ⟨?_,by simp [World.setCell]⟩;rw [DO _ _ _ _ aR,DO _ _ _ _ aR,DO _ _ _ _ aR,DO _ _ _ _ aR]
 case imp=>
  rintro e a' W1 ⟨rfl,ob,base,va,vc,ZB,ZC,v91,ZD,v93,rfl,AG,hb1,wu⟩;have o1:=AG.o1;have o2:=AG.o2;have o3:=AG.o3;have o4:=AG.o4;have q0f:B.length<=17592186044416:=(Gi W (Er _)).len;have HT:=af AG;have bm:=af hb1;clear AG;go_wp2;go_loopw [96] (λi wr=>∃ (k:Nat) (cyv:Value),k<=B.length/\i=.int .i64 k/\TI w s0 ob p s d ca aK B (.slice va hl.length vc) hl ds base cyv ((B.take k).map λc=>(p.frm+c-s) % d) wr/\Below W.heap.size W wr) (λi _=>B.length-(intOf i).toNat)
  .exact ⟨0,_,ad,rfl,HT.o,bm.o⟩
  obtain ⟨k,cyv,hk,rfl,ke,cB⟩:=hrel;have qD:=ke.pb;have GW:=ke.sb;have tQ:=(jF ke.obx 3).1;have J_:=(jF ke.obx 3).2;have tQ:wr.cell? ⟨ob,3,none⟩=some cyv:=tQ;have o5:=ke.o4;have Fx:=Gi wr cB;have hown:=ke.own;have zN:=af ke;have bL:=af cB;clear ke cB;by_cases hlt:k<B.length
  .obtain ⟨⟨a9,c9,AU,h19,h29,nN⟩,h49,h59⟩:=Fx;injection AU with cN eP dz
   subst cN;subst dz;rcases nN with nN|⟨b9,f9,rfl,hcell⟩
   .rw [nN] at hlt;simp at hlt
   have hcl:=hcell k hlt;clear hcell;have fg:(k:Int)<B.length:=ad;obtain ⟨y,hy⟩:∃ y,y=B.getD k 0:=⟨_,rfl⟩;have hr1:=HS.o.rise.2 (B.getD k 0) (by rw [VS,U2 hlt];exact NS hlt);rw [<- hy] at hcl hr1;have HY:=af hy;clear hy h49 h59;have hz0:0<=p.frm+y-s:=ad;have hw1:IntKind.i64.wrap (p.frm+y)=p.frm+y:=BG ⟨ad,ad⟩;have hw2:IntKind.i64.wrap (p.frm+y-s)=p.frm+y-s:=BG ⟨ad,ad⟩;have hm1:=VK (p.frm+y-s) (show d≠0 by omega);have ix:=VM (p.frm+y-s) (show 0<d by omega);have hw3:Int.tmod (p.frm+y-s) d=(p.frm+y-s) % d:=NY hz0;have hw4:IntKind.i64.wrap ((p.frm+y-s) % d)=(p.frm+y-s) % d:=BG ⟨ad,ad⟩;obtain ⟨z,hz⟩:∃ z,z=(p.frm+y-s) % d:=⟨_,rfl⟩;rw [<- hz] at hw3 hw4 hm1 ix;have HZ:=af hz;clear hz;have Qi:d≠0:=ad;go_wp2_with fail;have sB:=World.new_ne wr ⟨ob,3,none⟩ tQ;have hnp1:∀ o,(wr.drew.alloc o).cell? ⟨w.heap.size,1,none⟩=some (.int .i64 p.frm):=λo=>dW (Ac qD) o;have hnp2:∀ o,(wr.drew.alloc o).cell? ⟨s0,0,none⟩=some (.int .i64 s):=λo=>dW (Ac GW) o;have hnn1:∀ o,(wr.drew.alloc o).cell? ⟨ob,3,none⟩=some cyv:=λo=>dW (Ac tQ) o;have hnn2:∀ o,(wr.alloc o).cell? ⟨ob,3,none⟩=some cyv:=λo=>dW tQ o;refine wp_region_noPanic ?_
   go_region_law
    ((refine qd_ _ aC _ _ aC base cyv _ z aC (al.ext hown (by repeat' (first|refine Ed ?_|refine En ?_ _|refine Ea ?_ _|exact Er _))) _ _ aC (by simp [go_sem]) ⟨ad,ad⟩ aR aR ?_;intro g cap W2 hown2 hgrow bY;have gT:Below base wr W2:=Below.trans (by repeat' (first|refine Below.drew ?_|refine Below.alloc ?_ (by first|omega|(simp;omega)) _|exact JV _ _)) bY;have q3t:W2.frozen? ⟨ob,3,none⟩=false:=(Below.frozen gT (p:=⟨ob,3,none⟩) o3).trans J_;have q2s:W2.cell? ⟨ob,3,none⟩=some cyv:=Below.cell' gT tQ o3))
   all_goals simp only [NoPanic]
   all_goals
    go_wp2
    go_roundw
    .have hlen:((B.take k).map λc=>(p.frm+c-s) % d).length=k:=by simp;omega
     have oP:((B.take (k+1)).map λc=>(p.frm+c-s) % d)=((B.take k).map λc=>(p.frm+c-s) % d) ++ [z]:=by
      rw [LF hlt,UZ,HZ.o,HY.o,VS,U2 hlt];rfl
     rw [hlen] at hown2;refine ⟨k+1,.slice (some ⟨g,0,none⟩) (k+1) cap,ad,by go_num,?_,((bL.o.trans (gT.mono ad)).setCell (p:=⟨ob,3,none⟩) wu _)⟩;rw [oP];exact zN.o.step gT hown2
    simp [intOf];omega
  obtain rfl:k=B.length:=ad;obtain ⟨cl,hcl⟩:∃ cl,cl=((B.take B.length).map λc=>(p.frm+c-s) % d):=⟨_,rfl⟩;have AH:=zN.o;rw [<- hcl] at hown AH;have lJ:=af AH;have cS:=af hcl;clear AH hcl zN;go_wp2_with fail
  go_at_call 69
  refine (Kw _ _ base _ hown).mono ?_;rintro e W2 ⟨rfl,hown2,hgrow⟩;have bY:=hown.below_grown (W0:=wr) (.inr trivial) o5 hgrow;obtain ⟨ya,yc,rfl⟩:=hown.form;have fh:=(bY.block ob o3).trans lJ.o.obx;have eK:=(bY.block (w.heap.size+1) ad).trans lJ.o.rb;have hk0:W2.cell? ⟨ob,0,none⟩=some (.slice va hl.length vc):=(jF fh 0).1;have sq:W2.cell? ⟨ob,1,none⟩=some (.int .i64 s):=(jF fh 1).1;have hk2:W2.cell? ⟨ob,2,none⟩=some (.int .i64 d):=(jF fh 2).1;have hk3:W2.cell? ⟨ob,3,none⟩=some (.slice ya cl.length yc):=(jF fh 3).1;have hj0:W2.cell? ⟨w.heap.size+1,0,none⟩=some (.slice none 0 0):=(jF eK 0).1;have QD:W2.cell? ⟨w.heap.size+1,1,none⟩=some (.int .i64 0):=(jF eK 1).1;have CR:W2.cell? ⟨w.heap.size+1,2,none⟩=some (.int .i64 0):=(jF eK 2).1;have hj3:W2.cell? ⟨w.heap.size+1,3,none⟩=some (.slice none 0 0):=(jF eK 3).1;have hf0:W2.frozen? ⟨w.heap.size+1,0,none⟩=false:=(jF eK 0).2;have gG:W2.frozen? ⟨w.heap.size+1,1,none⟩=false:=(jF eK 1).2;have hf2:W2.frozen? ⟨w.heap.size+1,2,none⟩=false:=(jF eK 2).2;have hf3:W2.frozen? ⟨w.heap.size+1,3,none⟩=false:=(jF eK 3).2;have uH:=af fh;have jh:=af eK;have HG:=af hgrow;have MX:=af hown2;have gj:=af bY;have hzz:=bY.size;clear fh eK hgrow hown2 bY;go_wp2_with fail;rw [QP];have hA:cm (w.heap.size+1+1) W2 ((((W2.setCell ⟨w.heap.size+1,0,none⟩ (.slice va hl.length vc)).setCell ⟨w.heap.size+1,1,none⟩ (.int .i64 s)).setCell ⟨w.heap.size+1,2,none⟩ (.int .i64 d)).setCell ⟨w.heap.size+1,3,none⟩ (.slice ya cl.length yc)):=
   ((((cm.refl _ W2).setCell aj _).setCell aj _).setCell aj _).setCell aj _
  have Aw:Below w.heap.size w ((((W2.setCell ⟨w.heap.size+1,0,none⟩ (.slice va hl.length vc)).setCell ⟨w.heap.size+1,1,none⟩ (.int .i64 s)).setCell ⟨w.heap.size+1,2,none⟩ (.int .i64 d)).setCell ⟨w.heap.size+1,3,none⟩ (.slice ya cl.length yc)):=
   ((((lJ.o.below.trans (gj.o.mono ad)).setCell (p:=⟨w.heap.size+1,0,none⟩) aj _).setCell (p:=⟨w.heap.size+1,1,none⟩) aj _).setCell (p:=⟨w.heap.size+1,2,none⟩) aj _).setCell (p:=⟨w.heap.size+1,3,none⟩) aj _
  have hR3:=CB (x':=.slice va hl.length vc) (y':=.int .i64 s) (z':=.int .i64 d) (u':=.slice ya cl.length yc) jh.o;have hM3:cJ w.heap.size ds ((((W2.setCell ⟨w.heap.size+1,0,none⟩ (.slice va hl.length vc)).setCell ⟨w.heap.size+1,1,none⟩ (.int .i64 s)).setCell ⟨w.heap.size+1,2,none⟩ (.int .i64 d)).setCell ⟨w.heap.size+1,3,none⟩ (.slice ya cl.length yc)):=by
   obtain ⟨W0,hm1,ix,QR⟩:=lJ.o.marks;refine cJ.keep (cJ.below hm1 (QR.trans (gj.o.mono ad))) ⟨hA.size,λk o _ hk ho=>?_⟩;have hne:k≠w.heap.size+1:=λe=>by subst e;rw [jh.o] at hk;cases hk;cases ho
   rw [DO _ _ _ _ hne,DO _ _ _ _ hne,DO _ _ _ _ hne,DO _ _ _ _ hne];exact hk
  have qx:=(al.kept_lt (w':=W2) lJ.o.hd λk hk=>⟨gj.o.block k (lJ.o.hlt k hk).1,hzz⟩).above hA;have hc3:=(MX.o.mono (base':=w.heap.size+1+1) ad).above hA;refine ik (B:=w.heap.size) ds _ hM3 λw' hs=>?_;have JL:=hs.cells _ _ hR3 rfl;have hx0:w'.cell? ⟨w.heap.size+1,0,none⟩=some (.slice va hl.length vc):=(jF JL 0).1;have hx1:w'.cell? ⟨w.heap.size+1,1,none⟩=some (.int .i64 s):=(jF JL 1).1;have hx2:w'.cell? ⟨w.heap.size+1,2,none⟩=some (.int .i64 d):=(jF JL 2).1;have hx3:w'.cell? ⟨w.heap.size+1,3,none⟩=some (.slice ya cl.length yc):=(jF JL 3).1;refine ⟨.agg #[.slice va hl.length vc,.int .i64 s,.int .i64 d,.slice ya cl.length yc],by simp [results,Tryz.results129,go_sem,hx0,hx1,hx2,hx3],?_⟩;have me:=HS.o.rise;have fT:cl.Nodup:=by
   rw [cS.o,OC];refine zf.2 (me.1.imp_of_mem λ{a b} ha hb hab e=>?_);have h1:=(zB).1 e;have ha':=me.2 a ha;have hb':=me.2 b hb;have h2:(p.frm+a-s-(p.frm+b-s)) % d=a-b+d:=by
    rw [show p.frm+a-s-(p.frm+b-s)=(a-b+d)+d*(-1) by omega,VQ];exact LV ad ad
   omega
  refine ⟨_,_,⟨hl,s,d,aw cl⟩,rfl,?_,⟨(qx.shut hs).mono ad,(hc3.shut hs).mono ad⟩,Aw.trans hs.below⟩;rw [pU.o];refine Yj hw HS.o HST.o (Kq fT) λy=>?_;rw [Cp,cS.o,OC];simp only [VC];exact ⟨λ⟨c,h1,h2⟩=>⟨c,h1,h2.symm⟩,λ⟨c,h1,h2⟩=>⟨c,h1,h2.symm⟩⟩
attribute [local go_sem] GC
theorem mb_ (h c:Value) (p:Per) (w:World) (hp:cj w h c p) (hw:p.WF) (h1:p.frm<=1125899906842624) (h2:p.period<=1125899906842624) (pA:p.cycle≠[]) :
  Calls Tryz.prog 129 #[.agg #[h,.int .i64 p.frm,.int .i64 p.period,c]] w (J9 p.mem w):=by
 have f0:=hw.frm;have hl:∀ W,Below w.heap.size w W->Ints W h p.head:=λW hb=>hp.hd.ext hb;have hlc:∀ W,Below w.heap.size w W->Ints W c p.cycle:=λW hb=>hp.cy.ext hb;obtain ⟨⟨ha,aT,rfl,hlc1,hcc1,ck⟩,hlen,_⟩:=hp.hd;obtain ⟨⟨ca,aK,rfl,_,_,iw⟩,sd,_⟩:=hp.cy;have hcne:((p.cycle.length:Int) == 0)=false:=by
  have:p.cycle.length≠0:=λh=>pA (NL h);simpa using pA
 have Gd:∃ b o,ca=some ⟨b,o,none⟩/\b<w.heap.size:=by
  rcases iw with h0|⟨b,o,rfl,hcell⟩
  .exact absurd h0 pA
  exact ⟨b,o,rfl,N8 _ _ (hcell 0 (by
   rcases NR p.cycle.length with h|h
   .exact absurd (NL h) pA
   exact h))⟩
 have q3f:=af pA;clear pA hp iw;refine VL (n:=0).1 ?_;refine NT Tryz.func129 rfl trivial ?_ rfl;simp only [Tryz.ntmps129,NG,MH,M4,Nat.reduceAdd,Nat.reduceSub,N0,K7,Q3,QG,L4,S5]
 gi_wp2
 refine it_ ?_;gi_wp2_with (refine ⟨trivial,rfl,?_⟩;gi_at_call 177;refine (VL.2 (r7_ ca aK p _ hw q3f.o h2 (hlc _ xE))).mono ?_;rintro e w1 ⟨d,B,rfl,hcv,hS,hb1⟩;have oL:=hS.pos;have e_:=hS.le;obtain ⟨hc1,gG⟩:=bd_ hb1;have hz:w.heap.size+1+1<w1.heap.size:=(by have:=hb1.size;simp at this;omega);have hz1:w.heap.size+1<w1.heap.size:=ad;have hz0:w.heap.size<w1.heap.size:=ad);refine wpIn_label ?_;gi_wp2_with fail;have sq:1<=B.length:=aY.lenB hS;have hk2:B.length<=17592186044416:=hcv.len;have HS:=af hS;obtain ⟨cb,co,Qa,hcb⟩:=Gd;have Lm:=af Qa;have hB2:∀ W,Below w.heap.size w W->Ints W (.slice ca B.length aK) B:=by
  subst Qa;exact λW hb=>(hcv.back xE hcb).ext hb
 clear hS hcv hlc Qa;refine wpIn_loop (λa W=>∃ (m bb:Nat) (u49 u50 u51 u52 u53 u88:Value) (ds:List Deferred),a=⟨#[.agg #[.slice ha p.head.length aT,.int .i64 p.frm,.int .i64 p.period,.slice ca p.cycle.length aK],.pointer (some ⟨w.heap.size,0,none⟩),.pointer (some ⟨w.heap.size+1,0,none⟩),.pointer (some ⟨w.heap.size+1+1,0,none⟩),undef,.int .i64 d,.slice ca B.length aK,.pointer (some ⟨w1.heap.size,0,none⟩),.pointer (some ⟨bb,0,none⟩),undef,undef,undef,undef,undef,undef,undef,.pointer (some ⟨w.heap.size,0,none⟩),.slice ha p.head.length aT,.pointer (some ⟨w.heap.size,3,none⟩),.slice ca p.cycle.length aK,.int .i64 p.cycle.length,.bool false,undef,undef,undef,undef,undef,undef,undef,undef,undef,undef,undef,undef,undef,undef,undef,.tuple #[.int .i64 d,.slice ca B.length aK],.pointer (some ⟨w.heap.size,2,none⟩),.int .i64 p.period,.pointer (some ⟨w.heap.size,3,none⟩),.slice ca p.cycle.length aK,.tuple #[.int .i64 d,.slice ca B.length aK],.int .i64 d,.slice ca B.length aK,.pointer (some ⟨w.heap.size,1,none⟩),.int .i64 p.frm,.int .i64 d,.int .i64 (p.frm-d),u49,u50,u51,u52,u53,undef,undef,undef,undef,undef,undef,undef,undef,undef,undef,undef,undef,undef,undef,undef,undef,undef,undef,undef,undef,undef,undef,undef,undef,undef,undef,undef,undef,undef,undef,undef,undef,undef,undef,u88,undef,undef,undef,undef,undef,undef,undef,undef,undef,undef,undef,undef,undef,undef,undef,undef,undef,undef,undef,undef,undef,undef,undef,undef,undef,undef,undef,undef,undef],ds⟩/\aY p d B (m*B.length)/\CI w w1.heap.size p ha aT ca aK (m*B.length) 0 bb (p.frm-d*(m+1)) W/\cJ w.heap.size ds W) (Un w) ?start ?round
 case start=>
  refine ⟨0,w1.heap.size+1,undef,undef,undef,undef,undef,undef,[],rfl,?_,?_,cJ.nil _ _⟩
  .rw [WN];exact aY.zero hw HS.o
  obtain ⟨t1,t2,t3⟩:=ws_ hb1;have e0:p.frm-d*(((0:Nat):Int)+1)=p.frm-d:=by simp
  rw [WN,e0];refine ⟨by exact xE,?_,?_,?_,?_,?_,hz,ad⟩
  .rw [DN _ _ _ aR,DN _ _ _ ad];exact t1
  .rw [DN _ _ _ aR,DN _ _ _ ad];exact t2
  .exact (DN _ _ _ aR).trans ((DN _ _ _ ad).trans t3)
  .exact (Boxed.new w1 _ _).alloc _
  have:=Boxed.new (w1.alloc (.cells #[.int .i64 0] 3)) 3 (.int .i64 (p.frm-d));rw [U7] at this;exact this
 case round=>
  rintro _ W ⟨m,bb,u49,u50,u51,u52,u53,u88,ds,rfl,hB,jm,hM⟩;have HB:=af hB;have HM:=af hM;clear hB hM;have cB:=jm.below;have dL:=jm.bbox.lt;have jP:=jm.bs;have hhs:=jm.hs;gi_wp2_with (refine ⟨trivial,rfl,?_⟩;gi_at_call 178;refine (VL.2 (ok_ _ _ ⟨_,_,_,rfl⟩)).mono ?_;rintro e w' ⟨rfl,rfl⟩);have hbx:(W.alloc (.cells #[.slice ca B.length aK] 35)).cell? ⟨W.heap.size,0,none⟩=some (.slice ca B.length aK):=by simp
  refine Ph (x:=none) (gf:=213) (lb:=#[.pointer (some ⟨W.heap.size,0,none⟩)]) rfl (enters_of Tryz.func213 (by kernel_rfl) rfl)
   (ol_ (.slice ca B.length aK) B W.heap.size _ (λk=>k<w.heap.size\/k=W.heap.size) (hB2 _ xE) hbx (.inr rfl) (λb o n c he=>by injection he with he;rw [Lm.o] at he;injection he with he;injection he with he;exact .inl (he ▸ hcb))) (λh k=>h.trans k) (de.putObj (by intro k hk;simp;omega)) (λy=>rfl)
   (λpre W'=>aY p d B (m*B.length+pre.length)/\pre.length<=B.length/\CI w w1.heap.size p ha aT ca aK (m*B.length+pre.length) 0 bb (p.frm-d*(m+1)) W'/\KeepsOthers W W')
   (λc' pre W'=>c'=.exit 0/\CX w w1.heap.size p d B ha aT ca aK W'/\KeepsOthers W W')
   (λpre A C row hI hg hr=>by
    have hr':∀ r,row=some r->w.heap.size<=r/\∃ o:Obj,A.heap[r]? = some o/\o.isCells=false:=λr e=>by
     rcases hr r e with ⟨h,_⟩|⟨h,h'⟩
     .cases h
     refine ⟨?_,h'⟩;have:=cB.size;simp at h;omega
    refine ⟨hI.1,hI.2.1,hI.2.2.1.grow hg hr',KeepsOthers.grow hI.2.2.2 hg λr e=>?_⟩;rcases hr r e with ⟨h,_⟩|⟨h,_⟩
    .cases h
    simp at h;omega)
   (λc' pre A C row hI hg hr=>by
    have hr':∀ r,row=some r->w.heap.size<=r/\∃ o:Obj,A.heap[r]? = some o/\o.isCells=false:=λr e=>by
     rcases hr r e with ⟨h,_⟩|⟨h,h'⟩
     .cases h
     refine ⟨?_,h'⟩;have:=cB.size;simp at h;omega
    obtain ⟨h1,⟨s,j,b2,bv,h2,h3⟩,h4⟩:=hI;refine ⟨h1,⟨s,j,b2,bv,h2,h3.grow hg hr'⟩,KeepsOthers.grow h4 hg λr e=>?_⟩;rcases hr r e with ⟨h,_⟩|⟨h,_⟩
    .cases h
    simp at h;omega)
   (λ_ _ _=>trivial) ⟨HB.o,T8 _,jm.grow (NK W _ none) (λr e=>by cases e),q7s _ _⟩
   (λy=>⟨#[.agg #[.slice ha p.head.length aT,.int .i64 p.frm,.int .i64 p.period,.slice ca p.cycle.length aK],.pointer (some ⟨w.heap.size,0,none⟩),.pointer (some ⟨w.heap.size+1,0,none⟩),.pointer (some ⟨w.heap.size+1+1,0,none⟩),undef,.int .i64 d,.slice ca B.length aK,.pointer (some ⟨w1.heap.size,0,none⟩),.pointer (some ⟨bb,0,none⟩),undef,.int .i64 y.2,undef,undef,undef,undef,undef,.pointer (some ⟨w.heap.size,0,none⟩),.slice ha p.head.length aT,.pointer (some ⟨w.heap.size,3,none⟩),.slice ca p.cycle.length aK,.int .i64 p.cycle.length,.bool false,undef,undef,undef,undef,undef,undef,undef,undef,undef,undef,undef,undef,undef,undef,undef,.tuple #[.int .i64 d,.slice ca B.length aK],.pointer (some ⟨w.heap.size,2,none⟩),.int .i64 p.period,.pointer (some ⟨w.heap.size,3,none⟩),.slice ca p.cycle.length aK,.tuple #[.int .i64 d,.slice ca B.length aK],.int .i64 d,.slice ca B.length aK,.pointer (some ⟨w.heap.size,1,none⟩),.int .i64 p.frm,.int .i64 d,.int .i64 (p.frm-d),u49,u50,u51,.slice ca B.length aK,.func (.func 213) #[] #[.pointer (some ⟨W.heap.size,0,none⟩)],.int .i64 y.1,.int .i64 y.2,undef,undef,undef,undef,undef,undef,undef,undef,undef,undef,undef,undef,undef,undef,undef,undef,undef,undef,undef,undef,undef,undef,undef,undef,undef,undef,undef,undef,undef,undef,undef,undef,u88,undef,undef,undef,undef,undef,undef,undef,undef,undef,undef,undef,undef,undef,undef,undef,undef,undef,undef,undef,undef,undef,undef,undef,undef,undef,undef,undef,undef,undef],[]⟩) ?assign ?body ?done ?stop
  case assign=>
   intro l y W' K hK
   gi_wp2
   exact hK
  case body=>
   rintro l pre ⟨y1,y2⟩ W' ⟨oH,hpl,dD,bP⟩ hen;obtain ⟨hlt,hy⟩:=Nk hen;have he:=Zy (B:=B) (d:=d) (f:=p.frm) (m:=m) hlt;injection hy with hy1 hy2
   rw [<- hy2] at he;have hyb:=jH HS.o.rise (i:=B.length-1-pre.length) ad;rw [<- hy2] at hyb;obtain ⟨j,hj⟩:∃ j,j=m*B.length+pre.length:=⟨_,rfl⟩;rw [<- hj] at oH dD he;have HJ:=af (show m*B.length+(pre ++ [(y1,y2)]).length=j+1 by simp;omega);have GU:(pre ++ [(y1,y2)]).length<=B.length:=by simp;omega
   have HPL:=af GU;have hel:=aY.e_lt HS.o oH;have heg:=aY.e_ge HS.o oH;have hif:=oH.hif;have gw:=Ju hw (j:=j);obtain ⟨bv,nQ⟩:∃ bv,bv=p.frm-d*((m:Int)+1):=⟨_,rfl⟩;have Dr:=af nQ;rw [<- nQ] at dD he;obtain ⟨e,CO⟩:∃ e,e=dt B d p.frm j:=⟨_,rfl⟩;rw [<- CO] at he hel heg;have HE:=af CO;have heU:e<p.frm:=ad;clear hel;have yT:=af oH;have P0:=dD.hbox;have P4:=dD.sbox;have rW:=dD.bbox;have JX:=P0.cell;have hh2:=P0.frozen;have hs1:=P4.cell;have hs2:=P4.frozen;have hb1':=rW.cell;have HI:=af (hl W' dD.below);obtain ⟨nh,Ba⟩:∃ nh,nh=p.head.length-j:=⟨_,rfl⟩;rw [<- Ba] at JX;have HN:=af Ba;have dM:=af bP;have BQ:=af dD;have hbB1:bv+y2=e:=he;have hnl:nh<=17592186044416:=ad;clear oH dD bP P0 P4 rW CO nQ hj hy1 hy2 Ba GU hen hpl hif;have q0d:nh<=aT:=by have:=HN.o;omega
   by_cases i7:nh=0
   .have eJ:ee p j=-1:=by unfold ee;rw [if_pos (by rw [<- HN.o];exact i7)]
    subst i7;have HL:=af eJ;clear eJ gw;by_cases A_:e<0
    .gi_wp2_with fail
     exact ⟨KeepsFrom.refl _ _,rfl,⟨0,j,bb,bv,aY.done0 hw HS.o yT.o (by rw [<- HE.o];exact A_) (by rw [HL.o];omega),BQ.o⟩,dM.o⟩
    have hge:0<=e:=ad;have hneb:(e != -1)=true:=by rw [OD];omega
    have hmax:max e (-1)=e:=ad;have HD:=af (aY.done hw HS.o yT.o (by rw [<- HE.o,HL.o];omega) (by rw [<- HE.o,HL.o];omega));have jQ:=BQ.o.setS (e+1);have qR:=af jQ;clear A_ jQ;gi_wp2_with fail;refine ⟨(K8 _ _ _).from _,rfl,⟨e+1,j,bb,bv,?_,qR.o⟩,YE dM.o (K8 _ _ _)⟩;have:=HD.o;rwa [<- HE.o,HL.o,hmax] at this
   obtain ⟨⟨ha',q0i,cN,_,_,hcl⟩,_,_⟩:=HI.o;injection cN with cN eP dz
   subst cN;rcases hcl with hcl|⟨b,o,hab,hcl⟩
   .exfalso;rw [hcl] at HN;have:=HN.o;simp at this;exact i7 this
   have si:=hcl (nh-1) (by have:=HN.o;omega);have eJ:ee p j=p.head.getD (nh-1) 0:=by unfold ee;rw [if_neg (by rw [<- HN.o];exact i7),<- HN.o]
   rw [<- eJ] at si;have hx0:0<=ee p j:=by rw [eJ];exact (jH hw.head (by have:=HN.o;omega)).1
   obtain ⟨x,hx⟩:∃ x,x=ee p j:=⟨_,rfl⟩;rw [<- hx] at si hx0 gw;have HX:=af hx;have lX:((nh:Int)-1).toNat=nh-1:=ad;have Vu:(0:Int)<nh:=ad;have hnI2:(nh:Int)-1<nh:=ad;subst hab;clear eJ hx hcl eP dz i7;by_cases hex:e=x
   .have hne:(e != x)=false:=by simpa using hex
    have hge:0<=e:=ad;have HST:=af (aY.step hw HS.o yT.o (by rw [<- HE.o,<- HX.o];exact hex) (by rw [<- HE.o,<- HX.o];omega));have jQ:=BQ.o.setH (j+1);have sB:p.head.length-(j+1)=nh-1:=by have:=HN.o;omega
    rw [sB] at jQ;have qR:=af jQ;clear hex jQ sB;gi_wp2_with fail;have e9:=HJ.o;exact ⟨(K8 _ _ _).from _,λk hk=>rB (by rcases hk with hk|hk <;> omega),by show aY p d B (m*B.length+(pre ++ [(y1,y2)]).length);rw [e9];exact HST.o.1,HPL.o,by show CI w w1.heap.size p _ aT ca aK (m*B.length+(pre ++ [(y1,y2)]).length) 0 bb (p.frm-d*(↑m+1)) _;rw [e9,<- Dr.o];exact qR.o,YE dM.o (K8 _ _ _)⟩
   have hne:(e != x)=true:=by rw [OD];exact hex
   have HD:=af (aY.done hw HS.o yT.o (by rw [<- HE.o,<- HX.o];exact hex) (by rw [<- HE.o,<- HX.o];omega));have jQ:=BQ.o.setS (max e x+1);have qR:=af jQ;have hxlt:x<9007199254740992:=ad;clear hex jQ;gi_wp2_with fail;all_goals exact ⟨(K8 _ _ _).from _,rfl,⟨max e x+1,j,bb,bv,by have:=HD.o;rwa [<- HE.o,<- HX.o] at this,qR.o⟩,YE dM.o (K8 _ _ _)⟩
  case done=>
   rintro D xs W' hD rfl ⟨oH,_,dD,bP⟩ aL;have e1:m*B.length+(bk B).length=(m+1)*B.length:=by rw [Cm,Q_]
   rw [e1] at oH dD;obtain ⟨bv,nQ⟩:∃ bv,bv=p.frm-d*((m:Int)+1):=⟨_,rfl⟩;have fL:-1125899906842625<=bv/\bv<=p.frm:=by
    have g1:=aY.e_ge HS.o oH;have g2:=Zy (B:=B) (d:=d) (f:=p.frm) (m:=m+1) (i:=0) ad;have g3:=jH HS.o.rise (i:=B.length-1-0) ad;simp only [Nat.add_zero,FJ] at g2 g3;rw [<- g2,show d*(((m+1:Nat):Int)+1)=d*((m:Int)+1)+d by push_cast;rw [O9 d ((m:Int)+1)];omega] at g1;have g4:0<=d*((m:Int)+1):=K_ ad ad;omega
   rw [<- nQ] at dD;have Dr:=af nQ;have jQ:=dD.bbox.cell;have hf1':=dD.bbox.frozen;have yT:=af oH;have BQ:=af (dD.newB (bv-d));have HH:=af dD.hbox.cell;have hW'W:W.heap.size<=W'.heap.size:=bP.size;have dM:=af bP;have fW:=af aL;have Me:=af jm.hbox.cell;clear oH dD nQ e1 bP aL jm hbx;gi_wp2_with fail;refine ⟨⟨m+1,W'.heap.size,_,_,_,_,_,_,_,rfl,yT.o,?_,?_⟩,?_⟩
   .have e2:p.frm-d*(((m+1:Nat):Int)+1)=bv-d:=by rw [Dr.o];push_cast;rw [O9 d ((m:Int)+1)];omega
    rw [e2];exact BQ.o
   .have h9:=hD;have h7:=cB.size;simp only [U7] at h9;have h8:=fW.o;refine cJ.keep (cJ.cons HM.o ad (dM.o.from _) ad h8) ?_;exact (q7s _ _).from _
   have h9:=yT.o.le;have h8:(m+1)*B.length=m*B.length+B.length:=Q_ _ _;have e3:=an.cell (Ea (Er W') (.cells #[.int .i64 (bv-d)] 3)) HH.o;simp only [Un,Me.o,e3];omega
  case stop=>
   rintro D c' pre W' hD _ ⟨rfl,⟨s,j,b2,bv,hst,dD⟩,bP⟩ aL;have h9:=hD;have h7:=cB.size;simp only [U7] at h9;refine wpIn_exit ?_
   conv=>whnf
   apply_assumption
   exact wpIn_wide.2 (sj_ hw h1 ad HS.o hst dD (cJ.cons HM.o ad (bP.from _) ad aL) (hB2 _ dD.below) (hl _ dD.below))
end
section
open Go.RowKit Kal
def Zt (c:Per) (w:World) (e:Ending) (w':World):Prop:=
 ∃ (h' c':Value),e=.returned (ar h' c' c.frm c.period)/\jC w' w.heap.size h' c' c/\Below w.heap.size w w'
theorem Fg (h c:Value) (p q:Per) (w:World) (hp:cj w h c p) (hw:p.WF) (h1:p.frm<=1125899906842624) (h2:p.period<=1125899906842624) (hq:bV q p.mem) :
  Calls Tryz.prog 129 #[ar h c p.frm p.period] w (Zt q w):=by
 have key:Calls Tryz.prog 129 #[ar h c p.frm p.period] w (J9 p.mem w):=by
  by_cases hc:p.cycle=[]
  .exact op_ h c p w hp hw h1 hc
  exact mb_ h c p w hp hw h1 h2 hc
 refine key.mono λe w' hr=>?_;obtain ⟨h',c',q',rfl,hq',hp',hb⟩:=hr;obtain rfl:=hq'.unique hq;exact ⟨h',c',rfl,hp',hb⟩
def nG (c:Per) (w:World) (e:Ending) (w':World):Prop:=
 ∃ (h' c':Value),e=.returned (.tuple #[ar h' c' c.frm c.period,.int .i64 0])/\jC w' w.heap.size h' c' c/\Below w.heap.size w w'
def Sz (k:Int) (w:World) (e:Ending) (w':World):Prop:=
 e=.returned (.tuple #[ar (.slice none 0 0) (.slice none 0 0) 0 0,.int .i64 k])/\Below w.heap.size w w'
theorem x1_ (h c:Value) (p q:Per) (w:World) (hp:cj w h c p) (hv:Valid p) (hq:bV q p.mem) :
  Calls Tryz.prog 98 #[ar h c p.frm p.period] w (nG q w):=by
 have hl:∀ W,Below w.heap.size w W->cj W h c p:=λW hb=>hp.ext hb;have tU:=(pg p).2 hv;have HV:=af hv;have HF:Hid (p.frm<=1125899906842624):=by have:=hv.frm;exact af ad
 have HP:Hid (p.period<=1125899906842624):=by have:=hv.per;exact af ad
 have HQ:=af hq;clear hv hp hq
 go_in
 go_wp2_with (first|(go_at_call 92;refine (rD h c p _ (hl _ xE)).mono ?_;rintro e w1 ⟨rfl,hb1⟩;obtain ⟨hc1,gG⟩:=bd_ hb1;have hz1:w.heap.size+1<w1.heap.size:=(by have:=hb1.size;simp at this;omega))|(go_at_call 129;refine (Fg h c p q _ (hl _ xE) HV.o.wf HF.o HP.o HQ.o).mono ?_;rintro e w2 ⟨h',c',rfl,fk,hb2⟩;obtain ⟨a1,c1,a2,c2,rfl,rfl⟩:=fk.form;obtain ⟨hc2,hf2⟩:=bd_ hb2;have kU:=af fk;clear fk))
 exact VN (v:=.tuple #[ar (.slice a1 q.head.length c1) (.slice a2 q.cycle.length c2) q.frm q.period,.int .i64 0]) (by simp [results,Tryz.results98,go_sem, *]) rfl ⟨_,_,rfl,(kU.o.above (by (repeat' (with_reducible first|exact cm.refl _ _|refine cm.alloc ?_ _|refine cm.drew ?_|refine cm.drewN ?_ _|refine cm.setCell ?_ (by first|(simp;done)|(simp;omega)|omega) _)))).mono (by have:=hb1.size;simp at this;omega),xE⟩
end
end Go.Proofs.YtbmgmlbmgogeaaaGreat
