/- Part 2 of the proof of the laws. -/
import Derived.Orders
import Derived.Tactics
import Derived.Below
import Derived.Maps.AppendAt
import Derived.OwnWalk
import Derived.Deep.RegionHeld3
import Derived.BigFrame
import Derived.RangeFuncNested
import Derived.RangeFuncBound
import Derived.RangeFuncCalls
import Derived.RangeFuncLeaves
import Derived.RangeFuncFrom
import Derived.Shelf.Abstract
import Derived.Scope
import Derived.Test.YtbmgmlbmgogeaaaGreatB1
import Derived.Sort.OwnSortedInts
import Derived.RangeFuncBox
import Derived.Deep.AppendLies
import Derived.OwnWalkIn
import Derived.TacticsInMore
import Derived.LoopNIn
import Derived.LoopIn
set_option linter.unusedVariables false
set_option linter.unusedSimpArgs false
set_option maxRecDepth 100000
set_option maxHeartbeats 4000000
namespace Go
section
open Go.RowKit
def Region.deps (md:Region.Mode) (ops:Array Oper) (i:Nat):List Nat:=match ops[i]? with
 | some o=>(o.after.toList.filter λe=>Region.binds md e).map λe=>e.on
 | none=>[]
def Region.sat (md:Region.Mode) (ops:Array Oper):Nat->List Nat->List Nat
 | 0,S=>S
 | k+1,S=>Region.sat md ops k (S ++ ((S.flatMap (Region.deps md ops)).filter λj=>!S.contains j))
def Region.chain (md:Region.Mode) (ops:Array Oper):Nat->List Nat->Bool
 | _,[]=>true
 | t,t' :: r=>(Region.deps md ops t').contains t && decide (t<t') && Region.chain md ops t' r
def Region.chk (md:Region.Mode) (ops:Array Oper) (ph tl:List Nat):Bool:=
 ((List.range ops.size).all λi=>ph.contains i != tl.contains i) &&
 (ph.all λi=>(match ops[i]? with|some o=>o.guard.isNone|none=>false) && (Region.deps md ops i).all λj=>ph.contains j) &&
 ((List.range ops.size).all λi=>(Region.deps md ops i).all λj=>decide (j<i)) &&
 (tl.all λi=>decide (i<ops.size)) &&
 (match tl with|[]=>true|t :: r=>(ph.all λj=>(Region.sat md ops ops.size (Region.deps md ops t)).contains j) && Region.chain md ops t r)
section
variable {P:Program} {ops:Array Oper} {Q:Exit->Act->World->Prop} {md:Region.Mode}
theorem Region.ready_spec {l:Array Bool} (i:Nat):i∈Region.ready md ops l↔i<ops.size/\l.getD i true=false/\∀ j∈Region.deps md ops i,l.getD j false=true:=by
 unfold Region.ready Region.deps;rw [List.mem_filter,List.mem_range];constructor
 .rintro ⟨h1,h2⟩;rw [Array.getElem?_eq_getElem h1] at h2 ⊢;simp only [Option.map_some,Option.getD_some,Bool.and_eq_true,Bool.not_eq_true',Array.all_eq_true] at h2;refine ⟨h1,h2.1,λj hj=>?_⟩;simp only [List.mem_map,List.mem_filter] at hj;obtain ⟨e,⟨he,hb⟩,rfl⟩:=hj;obtain ⟨k,hk,rfl⟩:=List.getElem_of_mem he;have:=h2.2 k (by simpa using hk);simp only [Array.getElem_toList] at hb;simpa [hb] using this
 rintro ⟨h1,h2,h3⟩;refine ⟨h1,?_⟩;rw [Array.getElem?_eq_getElem h1] at h3 ⊢;simp only [Option.map_some,Option.getD_some,Bool.and_eq_true,Bool.not_eq_true',Array.all_eq_true];refine ⟨h2,λk hk=>?_⟩;by_cases hb:Region.binds md (ops[i].after[k])=true
 .have:=h3 (ops[i].after[k]).on (by
   simp only [List.mem_map,List.mem_filter];exact ⟨_,⟨ag,hb⟩,rfl⟩)
  simp [this]
 simp [hb]
theorem wh {l:Array Bool} {i:Nat} (h:i<l.size):(l.setIfInBounds i true).getD i false=true:=by
 simp [Array.getD,h]
theorem qM {l:Array Bool} {i j:Nat} (h:i≠j):(l.setIfInBounds i true).getD j false=l.getD j false:=by
 simp only [Array.getD_eq_getD_getElem?,Array.getElem?_setIfInBounds_ne h]
theorem qP {l:Array Bool} {i:Nat} (h:i<l.size):l.getD i true=l.getD i false:=by
 simp [Array.getD,h]
theorem PO {l:Array Bool} (hd:∀ i,l.getD i false=true->∀ j∈Region.deps md ops i,l.getD j false=true) :
  ∀ k S,(∀ j∈S,l.getD j false=true)->∀ j∈Region.sat md ops k S,l.getD j false=true:=by
 intro k;induction k with
 | zero=>intro S h;exact h
 | succ k ih=>
  intro S h;refine ih _ λj hj=>?_;rcases List.mem_append.1 hj with hj|hj
  .exact h j hj
  obtain ⟨i,hi,hj'⟩:=List.mem_flatMap.1 (List.mem_filter.1 hj).1;exact hd i (h i hi) j hj'
theorem lW {α:Type} [DecidableEq α]:∀ {l m:List α},l.Nodup->(∀ x∈l,x∈m)->l.length<=m.length:=by
 intro l;induction l with
 | nil=>intro m _ _;simp
 | cons a l ih=>
  intro m hn hs;have hn':=List.nodup_cons.1 hn;have ha:a∈m:=hs a ag;have:=ih (m:=m.erase a) hn'.2 λy hy=>(List.mem_erase_of_ne (λe=>hn'.1 (by rw [<- e];exact hy))).2 (hs y (List.mem_cons_of_mem _ hy));rw [List.length_erase_of_mem ha] at this;have:0<m.length:=List.length_pos_of_mem ha;simp;omega
theorem El {t:Nat} {r:List Nat} (h:Region.chain md ops t r=true):∀ x∈r,t<x:=by
 induction r generalizing t with
 | nil=>intro x hx;simp at hx
 | cons t' r ih=>
  simp only [Region.chain,Bool.and_eq_true,decide_eq_true_eq] at h;intro x hx;rcases List.mem_cons.1 hx with rfl|hx
  .exact h.1.2
  have:=ih h.2 x hx;omega
theorem D5 {t:Nat} {r:List Nat} (h:Region.chain md ops t r=true):∀ x∈r,∃ y,y∈t :: r/\y<x/\y∈Region.deps md ops x:=by
 induction r generalizing t with
 | nil=>intro x hx;simp at hx
 | cons t' r ih=>
  simp only [Region.chain,Bool.and_eq_true,decide_eq_true_eq] at h;intro x hx;rcases List.mem_cons.1 hx with rfl|hx
  .exact ⟨t,ag,h.1.2,by simpa using h.1.1⟩
  obtain ⟨y,h1,h2,h3⟩:=ih h.2 x hx;exact ⟨y,List.mem_cons_of_mem _ h1,h2,h3⟩
theorem Im (hback:∀ i,i<ops.size->∀ j∈Region.deps md ops i,j<i):∀ (r:List Nat) (fuel:Nat) (l:Array Bool) (a:Act) (w:World),(∀ t r',r=t :: r'->Region.chain md ops t r'=true)->(∀ i∈r,i<ops.size)->r.length<=fuel->l.size=ops.size->
  (∀ j,j<ops.size->(l.getD j false=true↔j ∉ r))->wpList P ops Q (r.filterMap λi=>ops[i]?) a w->wpAny P md ops Q fuel l a w:=by
 intro r;induction r with
 | nil=>
  intro fuel l a w _ _ _ hl cP h;have hnil:Region.ready md ops l=[]:=by
   rw [List.eq_nil_iff_forall_not_mem];intro x hx;have hx':=(Region.ready_spec x).1 hx;rw [qP aa,(cP x hx'.1).2 ag] at hx';simp at hx'
  have h':Q .normal a w:=h;cases fuel with
  | zero=>exact ⟨hnil,h'⟩
  | succ f=>exact ⟨λ_=>h',by rw [hnil];simp⟩
 | cons t r ih=>
  intro fuel l a w hch hlt hf hl cP h;obtain ⟨f,rfl⟩:∃ f,fuel=f+1:=⟨fuel-1,by simp at hf;omega⟩;have hc:=hch t r rfl;have htn:t<ops.size:=hlt t ag;have hsome:ops[t]? = some ops[t]:=Array.getElem?_eq_getElem htn;rw [List.filterMap_cons,hsome] at h;have Fw:=El hc;have om:t ∉ r:=λhx=>by have:=Fw t hx;omega
  have hin:t∈Region.ready md ops l:=by
   rw [Region.ready_spec];refine ⟨htn,?_,λj hj=>(cP j (by have:=hback t htn j hj;omega)).2 λhx=>?_⟩
   .rw [qP aa];cases hx:l.getD t false with
    | true=>exact absurd (List.mem_cons_self) ((cP t htn).1 hx)
    | false=>rfl
   have h1:=hback t htn j hj;rcases List.mem_cons.1 hx with rfl|hx
   .omega
   have:=Fw j hx;omega
  refine ⟨λhnil=>by rw [hnil] at hin;simp at hin,λx hx=>?_⟩;have hx':=(Region.ready_spec x).1 hx;have PJ:x∈t :: r:=by
   by_cases hm:x∈t :: r
   .exact hm
   rw [qP aa,(cP x hx'.1).2 hm] at hx';simp at hx'
  have hxt:x=t:=by
   rcases List.mem_cons.1 PJ with h1|h1
   .exact h1
   exfalso;obtain ⟨y,h2,h3,h4⟩:=D5 hc x h1;have h5:=hx'.2.2 y h4;exact (cP y aa).1 h5 h2
  subst hxt;unfold wpOp;rw [hsome];simp only;have key:∀ a w,wpList P ops Q (r.filterMap λi=>ops[i]?) a w->wpAny P md ops Q f (l.setIfInBounds x true) a w:=λa w h=>by
   refine ih f _ a w (λt' r' e=>?_) (λi hi=>hlt i (List.mem_cons_of_mem _ hi)) (by simp at hf;omega) (by simpa using hl) (λj hj=>?_) h
   .subst e;simp only [Region.chain,Bool.and_eq_true] at hc;exact hc.2
   by_cases e:x=j
   .subst e;rw [wh aa];simp [om]
   rw [qM e,cP j hj,List.mem_cons];exact ⟨λh hx=>h (.inr hx),λh hx=>h (hx.resolve_left λe'=>e e'.symm)⟩
  simp only [wpList] at h
  split
  .rename_i hw;rw [if_pos hw] at h;exact h.imp (Oper.wp_mono key) id
  rename_i hw;rw [if_neg hw] at h;exact key _ _ h
variable {w0:World} {ph tl:List Nat} {fr:(Nat->Value)->Act} {F:Nat->(Nat->Value)->(Nat->Nat)->(Nat->Nat)->World->Prop} {S:World->Prop}
theorem aU {K:Act->World->Prop} {a a':Act} {W:World} (h:K a W) (e:a=a'):K a' W:=e ▸ h
theorem bI {i j:Nat} (h:(Region.deps md ops i).contains j=true):j∈Region.deps md ops i:=by simpa using h
structure JX (w0:World) (ph:List Nat) (ops:Array Oper) (md:Region.Mode) (fr:(Nat->Value)->Act) (F:Nat->(Nat->Value)->(Nat->Nat)->(Nat->Nat)->World->Prop) (l:Array Bool) (done:List Nat) (v:Nat->Value) (lo hi:Nat->Nat) (a:Act) (W:World):Prop where
 size:l.size=ops.size
 iff:∀ i,l.getD i false=true↔i∈done
 nd:done.Nodup
 lt:∀ i∈done,i∈ph
 down:∀ i,l.getD i false=true->∀ j∈Region.deps md ops i,l.getD j false=true
 act:a=fr v
 below:Below w0.heap.size w0 W
 facts:∀ i∈done,w0.heap.size<=lo i/\lo i<=hi i/\hi i<=W.heap.size/\F i v lo hi W
 apart:∀ i∈done,∀ j∈done,i≠j->hi i<=lo j\/hi j<=lo i
end
theorem World.grownBy.drewR (w:World) (row:Option Nat):w.grownBy w.drew row:=⟨rfl,rfl,rfl,Nat.le_refl _,λ_ _ _=>rfl⟩
theorem World.grownBy.of_below {w w':World} (h:Below w.heap.size w w') (row:Option Nat):w.grownBy w' row:=⟨h.os,h.tape,h.output,h.size,λk hk _=>h.block k hk⟩
section
variable {P:Program} {ops:Array Oper} {Q:Exit->Act->World->Prop} {md:Region.Mode}
variable {w0:World} {row:Option Nat} {kx:Nat} {ph tl:List Nat} {fr:(Nat->Value)->Act} {F:Nat->(Nat->Value)->(Nat->Nat)->(Nat->Nat)->World->Prop} {S:World->Prop}
def Q5 (P:Program) (md:Region.Mode) (ops:Array Oper) (Q:Exit->Act->World->Prop) (w0:World) (row:Option Nat) (kx:Nat) (fr:(Nat->Value)->Act) (F:Nat->(Nat->Value)->(Nat->Nat)->(Nat->Nat)->World->Prop) (S:World->Prop) (k:Nat) (o:Oper):Prop:=
 ∀ (v:Nat->Value) (lo hi:Nat->Nat) (W:World),w0.grownBy W row->(k=kx->Below w0.heap.size w0 W)->S W->(∀ j∈Region.deps md ops k,lo j<=hi j/\hi j<=W.heap.size/\F j v lo hi W)->
  ∀ K:Act->World->Prop,(∀ x W',(if k=kx then W.grownBy W' row else Below W.heap.size W W')->F k (λj=>if j=k then x else v j) (λj=>if j=k then W.heap.size else lo j) (λj=>if j=k then W'.heap.size else hi j) W'->K (fr (λj=>if j=k then x else v j)) W')->Oper.wp P o (fr v) W K Q
def cg (P:Program) (md:Region.Mode) (ops:Array Oper) (Q:Exit->Act->World->Prop) (w0:World) (row:Option Nat) (kx:Nat) (fr:(Nat->Value)->Act) (F:Nat->(Nat->Value)->(Nat->Nat)->(Nat->Nat)->World->Prop) (S:World->Prop):List Nat->Prop
 | []=>True
 | k :: r=>(∀ o,ops[k]? = some o->Q5 P md ops Q w0 row kx fr F S k o)/\cg P md ops Q w0 row kx fr F S r
theorem cg.cons {k:Nat} {o:Oper} {r:List Nat} (e:ops[k]? = some o) (h:Q5 P md ops Q w0 row kx fr F S k o) (t:cg P md ops Q w0 row kx fr F S r):cg P md ops Q w0 row kx fr F S (k :: r):=⟨λo' e'=>by rw [e] at e';cases e';exact h,t⟩
theorem cg.nil:cg P md ops Q w0 row kx fr F S []:=trivial
theorem cg.get:∀ {l:List Nat},cg P md ops Q w0 row kx fr F S l->∀ i∈l,∀ o,ops[i]? = some o->Q5 P md ops Q w0 row kx fr F S i o:=by
 intro l;induction l with
 | nil=>intro _ i hi;simp at hi
 | cons k l ih=>
  intro h i hi;rcases List.mem_cons.1 hi with rfl|hi
  .exact h.1
  exact ih h.2 i hi
structure XS (w0:World) (row:Option Nat) (kx:Nat) (ph:List Nat) (ops:Array Oper) (md:Region.Mode) (fr:(Nat->Value)->Act) (F:Nat->(Nat->Value)->(Nat->Nat)->(Nat->Nat)->World->Prop) (l:Array Bool) (done:List Nat) (v:Nat->Value) (lo hi:Nat->Nat) (a:Act) (W:World):Prop where
 size:l.size=ops.size
 iff:∀ i,l.getD i false=true↔i∈done
 nd:done.Nodup
 lt:∀ i∈done,i∈ph
 down:∀ i,l.getD i false=true->∀ j∈Region.deps md ops i,l.getD j false=true
 act:a=fr v
 below:w0.grownBy W row
 pre:kx ∉ done->Below w0.heap.size w0 W
 facts:∀ i∈done,w0.heap.size<=lo i/\lo i<=hi i/\hi i<=W.heap.size/\F i v lo hi W
 apart:∀ i∈done,∀ j∈done,i≠j->hi i<=lo j\/hi j<=lo i
theorem w3_ (hc:Region.chk md ops ph tl=true) (fR:ph.Nodup)
  (hstab:∀ i v lo hi W W',F i v lo hi W->(if i=kx then Below W.heap.size W W' else W.grownBy W' row)->F i v lo hi W')
  (hloc:∀ i v v' lo lo' hi hi' W,(∀ j,j=i\/j∈Region.deps md ops i->v j=v' j/\lo j=lo' j/\hi j=hi' j)->F i v lo hi W->F i v' lo' hi' W)
  (hS:∀ W,w0.grownBy W row->S W)
  (steps:cg P md ops Q w0 row kx fr F S ph)
  (fin:∀ (v:Nat->Value) (lo hi:Nat->Nat) (W:World),w0.grownBy W row->S W->(∀ i,ph.contains i=true->w0.heap.size<=lo i/\lo i<=hi i/\hi i<=W.heap.size/\F i v lo hi W)->
   (∀ i j,ph.contains i=true->ph.contains j=true->i≠j->hi i<=lo j\/hi j<=lo i)->wpList P ops Q (tl.filterMap λi=>ops[i]?) (fr v) W) :
  ∀ (fuel:Nat) (l:Array Bool) (done:List Nat) (v:Nat->Value) (lo hi:Nat->Nat) (a:Act) (W:World),XS w0 row kx ph ops md fr F l done v lo hi a W->fuel+done.length=ops.size->wpAny P md ops Q fuel l a W:=by
 unfold Region.chk at hc;simp only [Bool.and_eq_true,List.all_eq_true,List.mem_range,decide_eq_true_eq,bne_iff_ne,ne_eq] at hc;obtain ⟨⟨⟨⟨jz,s8⟩,hback⟩,gT⟩,aR⟩:=hc;have bV:∀ i∈ph,i<ops.size:=λi hi'=>by
  rcases Nat.lt_or_ge i ops.size with h|h
  .exact h
  have:=(s8 i hi').1;rw [Array.getElem?_eq_none h] at this;simp at this
 have bN:∀ i,i<ops.size->(i∈ph/\i ∉ tl)\/(i ∉ ph/\i∈tl):=λi hi'=>by
  have:=jz i hi';by_cases h1:i∈ph <;> by_cases h2:i∈tl <;> simp_all
 have FO:ph.length+tl.eraseDups.length >= 0:=Nat.zero_le _;have full:∀ {l done v lo hi a W},XS w0 row kx ph ops md fr F l done v lo hi a W->(∀ i∈ph,i∈done)->∀ fuel,tl.length<=fuel->wpAny P md ops Q fuel l a W:=by
  intro l done v lo hi a W hd hall fuel hf;rw [hd.act];have hm:∀ i,ph.contains i=true->i∈done:=λi hi'=>hall i (by simpa using hi');refine Im (λi hi' j hj=>by simpa using hback i hi' j hj) tl fuel l _ W (λt r e=>?_) gT hf hd.size (λj hj=>?_) (fin v lo hi W hd.below (hS W hd.below) (λi hi'=>hd.facts i (hm i hi')) λi j hi' hj hne=>hd.apart i (hm i hi') j (hm j hj) hne)
  .rw [e] at aR;simp only [Bool.and_eq_true] at aR;exact aR.2
  rw [hd.iff];rcases bN j hj with ⟨h1,h2⟩|⟨h1,h2⟩
  .exact ⟨λ_=>h2,λ_=>hall j h1⟩
  exact ⟨λh=>absurd (hd.lt j h) h1,λh=>absurd h2 h⟩
 have o8:tl.Nodup:=by
  cases tl with
  | nil=>exact .nil
  | cons t r=>
   simp only [Bool.and_eq_true] at aR;have key:∀ (r:List Nat) (t:Nat),Region.chain md ops t r=true->(t :: r).Nodup:=by
    intro r;induction r with
    | nil=>intro t _;simp
    | cons t' r ih=>
     intro t h;have hlt:=El h;simp only [Region.chain,Bool.and_eq_true] at h;exact List.nodup_cons.2 ⟨λhx=>by have:=hlt t hx;omega,ih t' h.2⟩
   exact key r t aR.2
 have hsize:ph.length+tl.length<=ops.size:=by
  have:(ph ++ tl).length<=(List.range ops.size).length:=lW (List.nodup_append.2 ⟨fR,o8,λx hx y hy e=>by
   subst e;rcases bN x (bV x hx) with h|h
   .exact h.2 hy
   exact h.1 hx⟩) λx hx=>List.mem_range.2 (by
   rcases List.mem_append.1 hx with h|h
   .exact bV x h
   exact gT x h)
  simpa using this
 intro fuel;induction fuel with
 | zero=>
  intro l done v lo hi a W hd hlen;have h1:done.length<=ph.length:=lW hd.nd hd.lt;refine full hd (λi hi'=>?_) 0 aa;by_cases h:i∈done
  .exact h
  have h2:(i :: done).length<=ph.length:=lW (List.nodup_cons.2 ⟨h,hd.nd⟩) (λx hx=>by
   rcases List.mem_cons.1 hx with rfl|hx
   .exact hi'
   exact hd.lt x hx)
  simp at h2;omega
 | succ fuel ih=>
  intro l done v lo hi a W hd hlen;by_cases hfull:∀ i∈ph,i∈done
  .have h1:ph.length<=done.length:=lW fR hfull;have h2:done.length<=ph.length:=lW hd.nd hd.lt;exact full hd hfull _ aa
  have fo:∀ x∈Region.ready md ops l,x∈ph:=λx hx=>by
   have hx':=(Region.ready_spec x).1 hx;rcases bN x hx'.1 with ⟨h,_⟩|⟨_,h⟩
   .exact h
   exfalso;cases htl':tl with
   | nil=>rw [htl'] at h;simp at h
   | cons t r=>
    rw [htl'] at h aR;simp only [Bool.and_eq_true,List.all_eq_true] at aR;rcases List.mem_cons.1 h with rfl|h
    .have hs:=PO hd.down ops.size _ hx'.2.2;exact hfull λi hi'=>(hd.iff i).1 (hs i (by have:=aR.1 i hi';simpa using this))
    obtain ⟨y,h2,h3,h4⟩:=D5 aR.2 x h;have h5:=hd.lt y ((hd.iff y).1 (hx'.2.2 y h4));rcases bN y aa with h6|h6
    .exact h6.2 (by rw [htl'];exact h2)
    exact h6.1 h5
  refine ⟨λhnil=>?_,λx hx=>?_⟩
  .exfalso;refine hfull ?_;intro i;induction i using Nat.strongRecOn with
   | _ i ihi=>
    intro hi';by_cases h:i∈done
    .exact h
    exfalso;have hin:i∈Region.ready md ops l:=by
     rw [Region.ready_spec];refine ⟨bV i hi',?_,λj hj=>?_⟩
     .rw [qP (by have:=hd.size;have:=bV i hi';omega)];cases hb:l.getD i false with
      | false=>rfl
      | true=>exact absurd ((hd.iff i).1 hb) h
     have rF:j<i:=by simpa using hback i (bV i hi') j hj
     exact (hd.iff j).2 (ihi j rF (by have:=(s8 i hi').2 j hj;simpa using this))
    rw [hnil] at hin;simp at hin
  have jS:=fo x hx;have hx':=(Region.ready_spec x).1 hx;have hg:=(s8 x jS).1;rw [Array.getElem?_eq_getElem hx'.1] at hg;simp only [Option.isNone_iff_eq_none] at hg;have hstep:=steps.get x jS _ (Array.getElem?_eq_getElem hx'.1);have tf:x ∉ done:=λh=>by
   have h2:=(hd.iff x).2 h;rw [qP (by have:=hd.size;omega),h2] at hx';simp at hx'
  unfold wpOp;rw [Array.getElem?_eq_getElem hx'.1];simp only;have hw:Region.wanted ops[x] (yielded ops a.tmps)=true:=by unfold Region.wanted;rw [hg]
  rw [if_pos hw,hd.act];refine .inl (hstep v lo hi W hd.below (λe=>hd.pre (e ▸ tf)) (hS W hd.below) (λj hj=>(hd.facts j ((hd.iff j).1 (hx'.2.2 j hj))).2) _ ?_);intro y W' bg hF;have hb:W.grownBy W' row:=by
   split at bg
   .exact bg
   exact World.grownBy.of_below bg row
  have hpre:kx ∉ x :: done->Below w0.heap.size w0 W':=λhn=>by
   rw [List.mem_cons,not_or] at hn;rw [if_neg (λe=>hn.1 e.symm)] at bg;exact (hd.pre hn.2).trans (bg.mono hd.below.size)
  have bQ:w0.grownBy W' row:=hd.below.trans hb;refine ih (l.setIfInBounds x true) (x :: done) _ (λj=>if j=x then W.heap.size else lo j) (λj=>if j=x then W'.heap.size else hi j) _ W' ⟨by simpa using hd.size,λi=>?_,List.nodup_cons.2 ⟨tf,hd.nd⟩,λi hi'=>?_,λi hi' j hj=>?_,rfl,bQ,hpre,λi hi'=>?_,λi hi' j hj hne=>?_⟩ aO
  .by_cases e:x=i
   .subst e;rw [wh (by have:=hd.size;omega)];simp
   rw [qM e,hd.iff,List.mem_cons];exact ⟨.inr,λh=>h.resolve_left (λe'=>e e'.symm)⟩
  .rcases List.mem_cons.1 hi' with rfl|h
   .exact jS
   exact hd.lt i h
  .have rF:l.getD j false=true:=by
    by_cases e:x=i
    .subst e;exact hx'.2.2 j hj
    rw [qM e] at hi';exact hd.down i hi' j hj
   by_cases e:x=j
   .subst e;exact wh (by have:=hd.size;omega)
   rw [qM e];exact rF
  .by_cases e:i=x
   .subst e;refine ⟨?_,?_,?_,hF⟩
    .simp only [if_true];exact hd.below.size
    .simp only [if_true];exact hb.size
    simp only [if_true];exact Nat.le_refl _
   have hid:i∈done:=by rcases List.mem_cons.1 hi' with h|h;exact absurd h e;exact h
   obtain ⟨f1,f2,f3,f4⟩:=hd.facts i hid;refine ⟨by simp only [if_neg e];exact f1,by simp only [if_neg e];exact f2,by simp only [if_neg e];exact Nat.le_trans f3 hb.size,hstab i _ _ _ W W' (hloc i v _ lo _ hi _ W (λj hj=>?_) f4) (by
   by_cases e9:i=kx
   .rw [if_pos e9];rw [if_neg (λe=>tf (by rw [e,<- e9];exact hid))] at bg;exact bg
   .rw [if_neg e9];exact hb)⟩
   have FI:j≠x:=by
    rintro rfl;rcases hj with hj|hj
    .exact e hj.symm
    exact tf ((hd.iff j).1 (hd.down i ((hd.iff i).2 hid) j hj))
   simp only [if_neg FI];exact ⟨trivial,trivial,trivial⟩
  by_cases e1:i=x
  .subst e1;have rE:j∈done:=by rcases List.mem_cons.1 hj with h|h;exact absurd h.symm hne;exact h
   simp only [if_true,if_neg (λe=>hne (Eq.symm e):¬ j=i)];have:=(hd.facts j rE).2.2.1;omega
  have hid:i∈done:=by rcases List.mem_cons.1 hi' with h|h;exact absurd h e1;exact h
  by_cases e2:j=x
  .subst e2;simp only [if_true,if_neg e1];have:=(hd.facts i hid).2.2.1;omega
  have rE:j∈done:=by rcases List.mem_cons.1 hj with h|h;exact absurd h e2;exact h
  simp only [if_neg e1,if_neg e2];exact hd.apart i hid j rE hne
theorem Ni {id:Nat} {a:Act} (row:Option Nat) (kx:Nat) (ph tl:List Nat) (fr:(Nat->Value)->Act) (v0:Nat->Value) (F:Nat->(Nat->Value)->(Nat->Nat)->(Nat->Nat)->World->Prop) (S:World->Prop) (iB:P.follows .mixedOrders=true)
  (hc:Region.chk .any ops ph tl=true) (fR:ph.Nodup) (ha:a=fr v0)
  (hstab:∀ i v lo hi W W',F i v lo hi W->(if i=kx then Below W.heap.size W W' else W.grownBy W' row)->F i v lo hi W')
  (hloc:∀ i v v' lo lo' hi hi' W,(∀ j,j=i\/j∈Region.deps .any ops i->v j=v' j/\lo j=lo' j/\hi j=hi' j)->F i v lo hi W->F i v' lo' hi' W)
  (hS:∀ W,w0.grownBy W row->S W)
  (steps:cg P .any ops Q w0 row kx fr F S ph)
  (fin:∀ (v:Nat->Value) (lo hi:Nat->Nat) (W:World),w0.grownBy W row->S W->(∀ i,ph.contains i=true->w0.heap.size<=lo i/\lo i<=hi i/\hi i<=W.heap.size/\F i v lo hi W)->
   (∀ i j,ph.contains i=true->ph.contains j=true->i≠j->hi i<=lo j\/hi j<=lo i)->wpList P ops Q (tl.filterMap λi=>ops[i]?) (fr v) W):(Code.region id ops true).wp P Q a w0:=by
 refine wp_region_any iB ?_;refine w3_ hc fR hstab hloc hS steps fin ops.size _ [] v0 (λ_=>0) (λ_=>0) a _ ⟨ag,λi=>?_,.nil,ag,λi hi'=>?_,ha,World.grownBy.drewR _ _,λ_=>(Below.refl _ _).drew,ag,ag⟩ ag
 .simp [Array.getD]
 exfalso;revert hi';simp [Array.getD]
end
def Region.chkH (md:Region.Mode) (ops:Array Oper) (ph tl:List Nat):Bool:=
 ((List.range ops.size).all λi=>ph.contains i != tl.contains i) &&
 (ph.all λi=>(ops[i]?).isSome && (Region.deps md ops i).all λj=>ph.contains j) &&
 ((List.range ops.size).all λi=>(Region.deps md ops i).all λj=>decide (j<i)) &&
 (tl.all λi=>decide (i<ops.size)) &&
 (match tl with|[]=>true|t :: r=>(ph.all λj=>(Region.sat md ops ops.size (Region.deps md ops t)).contains j) && Region.chain md ops t r)
section
variable {P:Program} {ops:Array Oper} {Q:Exit->Act->World->Prop} {md:Region.Mode}
variable {w0:World} {ph tl:List Nat} {fr:(Nat->Value)->Act} {F:Nat->(Nat->Value)->(Nat->Nat)->(Nat->Nat)->World->Prop} {S:World->Prop}
def XW (P:Program) (md:Region.Mode) (ops:Array Oper) (Q:Exit->Act->World->Prop) (w0:World) (fr:(Nat->Value)->Act) (F:Nat->(Nat->Value)->(Nat->Nat)->(Nat->Nat)->World->Prop) (S:World->Prop) (k:Nat) (o:Oper):Prop:=
 ∀ (v:Nat->Value) (lo hi:Nat->Nat) (W:World),Below w0.heap.size w0 W->S W->(∀ j∈Region.deps md ops k,lo j<=hi j/\hi j<=W.heap.size/\F j v lo hi W)->
  Region.wanted o (yielded ops (fr v).tmps)=true/\
  ∀ K:Act->World->Prop,(∀ x W',Below W.heap.size W W'->F k (λj=>if j=k then x else v j) (λj=>if j=k then W.heap.size else lo j) (λj=>if j=k then W'.heap.size else hi j) W'->K (fr (λj=>if j=k then x else v j)) W')->Oper.wp P o (fr v) W K Q
def BK (P:Program) (md:Region.Mode) (ops:Array Oper) (Q:Exit->Act->World->Prop) (w0:World) (fr:(Nat->Value)->Act) (F:Nat->(Nat->Value)->(Nat->Nat)->(Nat->Nat)->World->Prop) (S:World->Prop):List Nat->Prop
 | []=>True
 | k :: r=>(∀ o,ops[k]? = some o->XW P md ops Q w0 fr F S k o)/\BK P md ops Q w0 fr F S r
theorem BK.get:∀ {l:List Nat},BK P md ops Q w0 fr F S l->∀ i∈l,∀ o,ops[i]? = some o->XW P md ops Q w0 fr F S i o:=by
 intro l;induction l with
 | nil=>intro _ i hi;simp at hi
 | cons k l ih=>
  intro h i hi;rcases List.mem_cons.1 hi with rfl|hi
  .exact h.1
  exact ih h.2 i hi
end
def Region.chkX (md:Region.Mode) (ops:Array Oper) (ph:List Nat) (x t:Nat) (r:List Nat):Bool:=
 ((List.range ops.size).all λi=>ph.contains i != (t :: r).contains i) &&
 (ph.all λi=>(ops[i]?).isSome && (Region.deps md ops i).all λj=>ph.contains j) &&
 ((List.range ops.size).all λi=>(Region.deps md ops i).all λj=>decide (j<i)) &&
 ((t :: r).all λi=>decide (i<ops.size)) &&
 ((ph.all λj=>j == x || (Region.sat md ops ops.size (Region.deps md ops t)).contains j) && Region.chain md ops t r) &&
 (ph.contains x && Region.chain md ops x r && (Region.deps md ops t).all (λj=>j != x) && !r.isEmpty)
section
variable {P:Program} {ops:Array Oper} {Q:Exit->Act->World->Prop} {md:Region.Mode}
variable {w0:World} {ph:List Nat} {x t:Nat} {r:List Nat} {fr:(Nat->Value)->Act} {F:Nat->(Nat->Value)->(Nat->Nat)->(Nat->Nat)->World->Prop} {S:World->Prop}
theorem qr_ (hback:∀ i,i<ops.size->∀ j∈Region.deps md ops i,j<i) (x t:Nat) (r:List Nat) (fuel:Nat) (l:Array Bool) (a:Act) (w:World) (hx:x<ops.size) (ht:t<ops.size) (hne:x≠t) (PJ:x ∉ r) (om:t ∉ r)
  (hxd:∀ j∈Region.deps md ops x,j ∉ x :: t :: r) (Jn:∀ j∈Region.deps md ops t,j ∉ x :: t :: r)
  (hc1:Region.chain md ops t r=true) (hc2:Region.chain md ops x r=true) (hr:∀ i∈r,i<ops.size) (hf:r.length+2<=fuel) (hl:l.size=ops.size)
  (cP:∀ j,j<ops.size->(l.getD j false=true↔j ∉ x :: t :: r))
  (h1:wpList P ops Q ((x :: t :: r).filterMap λi=>ops[i]?) a w) (h2:wpList P ops Q ((t :: x :: r).filterMap λi=>ops[i]?) a w):wpAny P md ops Q fuel l a w:=by
 obtain ⟨f,rfl⟩:∃ f,fuel=f+1:=⟨fuel-1,aa⟩;have kO:∀ y,y<ops.size->y∈x :: t :: r->(∀ j∈Region.deps md ops y,j ∉ x :: t :: r)->y∈Region.ready md ops l:=λy hy hm hd=>by
  rw [Region.ready_spec];refine ⟨hy,?_,λj hj=>(cP j (by have:=hback y hy j hj;omega)).2 (hd j hj)⟩;rw [qP aa];cases hb:l.getD y false with
  | true=>exact absurd hm ((cP y hy).1 hb)
  | false=>rfl
 have FG:=kO x hx ag hxd;refine ⟨λhnil=>by rw [hnil] at FG;simp at FG,λy hy=>?_⟩;have hy':=(Region.ready_spec y).1 hy;have vE:y∈x :: t :: r:=by
  by_cases hm:y∈x :: t :: r
  .exact hm
  rw [qP aa,(cP y hy'.1).2 hm] at hy';simp at hy'
 have ko:y=x\/y=t:=by
  rcases List.mem_cons.1 vE with h3|h3
  .exact .inl h3
  rcases List.mem_cons.1 h3 with h3|h3
  .exact .inr h3
  exfalso;obtain ⟨z,h4,h5,h6⟩:=D5 hc1 y h3;exact (cP z aa).1 (hy'.2.2 z h6) (List.mem_cons_of_mem _ h4)
 have go:∀ (y z:Nat),y<ops.size->z<ops.size->y≠z->y ∉ r->Region.chain md ops z r=true->(∀ j,j∈y :: z :: r↔j∈x :: t :: r)->wpList P ops Q ((y :: z :: r).filterMap λi=>ops[i]?) a w->wpOp P ops Q y (wpAny P md ops Q f (l.setIfInBounds y true)) a w:=by
  intro y z hy hz hyz vE hcz hmm h;have hsome:ops[y]? = some ops[y]:=Array.getElem?_eq_getElem hy;rw [List.filterMap_cons,hsome] at h;unfold wpOp;rw [hsome];simp only;have key:∀ a w,wpList P ops Q ((z :: r).filterMap λi=>ops[i]?) a w->wpAny P md ops Q f (l.setIfInBounds y true) a w:=λa w h=>by
   refine Im hback (z :: r) f _ a w (λt' r' e=>?_) (λi hi=>?_) aO (by simpa using hl) (λj hj=>?_) h
   .cases e;exact hcz
   .rcases List.mem_cons.1 hi with rfl|hi
    .exact hz
    exact hr i hi
   by_cases e:y=j
   .subst e;rw [wh aa];simp [hyz,vE]
   rw [qM e,cP j hj,<- hmm j,List.mem_cons];exact ⟨λh hx=>h (.inr hx),λh hx=>h (hx.resolve_left λe'=>e e'.symm)⟩
  simp only [wpList] at h
  split
  .rename_i hw;rw [if_pos hw] at h;exact h.imp (Oper.wp_mono key) id
  rename_i hw;rw [if_neg hw] at h;exact key _ _ h
 rcases ko with rfl|rfl
 .exact go y t hx ht hne PJ hc1 (λ_=>Iff.rfl) h1
 exact go y x ht hx (λe=>hne e.symm) om hc2 (λj=>by simp only [List.mem_cons];exact ⟨λh=>h.elim (λh=>.inr (.inl h)) (λh=>h.elim .inl (λh=>.inr (.inr h))),λh=>h.elim (λh=>.inr (.inl h)) (λh=>h.elim .inl (λh=>.inr (.inr h)))⟩) h2
variable {x0:Nat}
theorem pq_ (hc:Region.chkX md ops ph x0 t r=true) (fR:ph.Nodup)
  (hstab:∀ i v lo hi W W',F i v lo hi W->Below W.heap.size W W'->F i v lo hi W')
  (hloc:∀ i v v' lo lo' hi hi' W,(∀ j,j=i\/j∈Region.deps md ops i->v j=v' j/\lo j=lo' j/\hi j=hi' j)->F i v lo hi W->F i v' lo' hi' W)
  (hS:∀ W,Below w0.heap.size w0 W->S W)
  (steps:BK P md ops Q w0 fr F S ph)
  (fin:∀ (v:Nat->Value) (lo hi:Nat->Nat) (W:World),Below w0.heap.size w0 W->S W->(∀ i,ph.contains i=true->w0.heap.size<=lo i/\lo i<=hi i/\hi i<=W.heap.size/\F i v lo hi W)->
   (∀ i j,ph.contains i=true->ph.contains j=true->i≠j->hi i<=lo j\/hi j<=lo i)->wpList P ops Q ((t :: r).filterMap λi=>ops[i]?) (fr v) W)
  (fin2:∀ (v:Nat->Value) (lo hi:Nat->Nat) (W:World),Below w0.heap.size w0 W->S W->(∀ i,ph.contains i=true->i≠x0->w0.heap.size<=lo i/\lo i<=hi i/\hi i<=W.heap.size/\F i v lo hi W)->
   (∀ i j,ph.contains i=true->ph.contains j=true->i≠x0->j≠x0->i≠j->hi i<=lo j\/hi j<=lo i)->wpList P ops Q ((x0 :: t :: r).filterMap λi=>ops[i]?) (fr v) W/\wpList P ops Q ((t :: x0 :: r).filterMap λi=>ops[i]?) (fr v) W) :
  ∀ (fuel:Nat) (l:Array Bool) (done:List Nat) (v:Nat->Value) (lo hi:Nat->Nat) (a:Act) (W:World),JX w0 ph ops md fr F l done v lo hi a W->fuel+done.length=ops.size->wpAny P md ops Q fuel l a W:=by
 unfold Region.chkX at hc;simp only [Bool.and_eq_true,List.all_eq_true,List.mem_range,decide_eq_true_eq,bne_iff_ne,ne_eq] at hc;obtain ⟨⟨⟨⟨⟨jz,s8⟩,hback⟩,gT⟩,aR⟩,FN⟩:=hc;obtain ⟨⟨⟨PI,rz⟩,nu⟩,hrne⟩:=FN;have bV:∀ i∈ph,i<ops.size:=λi hi'=>by
  rcases Nat.lt_or_ge i ops.size with h|h
  .exact h
  have:=(s8 i hi').1;rw [Array.getElem?_eq_none h] at this;simp at this
 have bN:∀ i,i<ops.size->(i∈ph/\i ∉ t :: r)\/(i ∉ ph/\i∈t :: r):=λi hi'=>by
  have:=jz i hi';by_cases h1:i∈ph <;> by_cases h2:i∈t :: r <;> simp_all
 have full:∀ {l done v lo hi a W},JX w0 ph ops md fr F l done v lo hi a W->(∀ i∈ph,i∈done)->∀ fuel,(t :: r).length<=fuel->wpAny P md ops Q fuel l a W:=by
  intro l done v lo hi a W hd hall fuel hf;rw [hd.act];have hm:∀ i,ph.contains i=true->i∈done:=λi hi'=>hall i (by simpa using hi');refine Im (λi hi' j hj=>by simpa using hback i hi' j hj) (t :: r) fuel l _ W (λt' r' e=>?_) (λi hi=>by simpa using gT i hi) hf hd.size (λj hj=>?_) (fin v lo hi W hd.below (hS W hd.below) (λi hi'=>hd.facts i (hm i hi')) λi j hi' hj hne=>hd.apart i (hm i hi') j (hm j hj) hne)
  .cases e;exact aR.2
  rw [hd.iff];rcases bN j hj with ⟨h1,h2⟩|⟨h1,h2⟩
  .exact ⟨λ_=>h2,λ_=>hall j h1⟩
  exact ⟨λh=>absurd (hd.lt j h) h1,λh=>absurd h2 h⟩
 have o8:(t :: r).Nodup:=by
  have key:∀ (r:List Nat) (t:Nat),Region.chain md ops t r=true->(t :: r).Nodup:=by
   intro r;induction r with
   | nil=>intro t _;simp
   | cons t' r ih=>
    intro t h;have hlt:=El h;simp only [Region.chain,Bool.and_eq_true] at h;exact List.nodup_cons.2 ⟨λhx=>by have:=hlt t hx;omega,ih t' h.2⟩
  exact key r t aR.2
 have hsize:ph.length+(t :: r).length<=ops.size:=by
  have:(ph ++ (t :: r)).length<=(List.range ops.size).length:=lW (List.nodup_append.2 ⟨fR,o8,λx hx y hy e=>by
   subst e;rcases bN x (bV x hx) with h|h
   .exact h.2 hy
   exact h.1 hx⟩) λx hx=>List.mem_range.2 (by
   rcases List.mem_append.1 hx with h|h
   .exact bV x h
   have:=gT x h;simpa using this)
  simpa using this
 intro fuel;induction fuel with
 | zero=>
  intro l done v lo hi a W hd hlen;have h1:done.length<=ph.length:=lW hd.nd hd.lt;refine full hd (λi hi'=>?_) 0 aa;by_cases h:i∈done
  .exact h
  have h2:(i :: done).length<=ph.length:=lW (List.nodup_cons.2 ⟨h,hd.nd⟩) (λx hx=>by
   rcases List.mem_cons.1 hx with rfl|hx
   .exact hi'
   exact hd.lt x hx)
  simp at h2;omega
 | succ fuel ih=>
  intro l done v lo hi a W hd hlen;by_cases hfull:∀ i∈ph,i∈done
  .have h1:ph.length<=done.length:=lW fR hfull;have h2:done.length<=ph.length:=lW hd.nd hd.lt;exact full hd hfull _ aa
  by_cases hpart:∀ i∈ph,i≠x0->i∈done
  .have hx0:x0 ∉ done:=λh=>hfull λi hi'=>by
    by_cases e:i=x0
    .rw [e];exact h
    exact hpart i hi' e
   have pd:x0∈ph:=by simpa using PI
   have h1:(x0 :: done).length<=ph.length:=lW (List.nodup_cons.2 ⟨hx0,hd.nd⟩) (λx hx=>by
    rcases List.mem_cons.1 hx with rfl|hx
    .exact pd
    exact hd.lt x hx)
   simp only [List.length_cons] at h1 hsize;have hb':∀ i,i<ops.size->∀ j∈Region.deps md ops i,j<i:=λi hi' j hj=>by simpa using hback i hi' j hj
   have Gj:x0 ∉ t :: r:=by
    rcases bN x0 (bV x0 pd) with h|h
    .exact h.2
    exact absurd pd h.1
   have htn:t ∉ r:=(List.nodup_cons.1 o8).1;have T1:t<ops.size:=by have:=gT t ag;simpa using this
   have cP:∀ j,j<ops.size->(l.getD j false=true↔j ∉ x0 :: t :: r):=λj hj=>by
    rw [hd.iff,List.mem_cons,not_or];rcases bN j hj with ⟨h3,h4⟩|⟨h3,h4⟩
    .exact ⟨λh=>⟨λe=>hx0 (e ▸ h),h4⟩,λh=>hpart j h3 h.1⟩
    exact ⟨λh=>absurd (hd.lt j h) h3,λh=>absurd h4 h.2⟩
   have hf2:=fin2 v lo hi W hd.below (hS W hd.below) (λi hi' hne=>hd.facts i (hpart i (by simpa using hi') hne)) λi j hi' hj h3 h4 hne=>hd.apart i (hpart i (by simpa using hi') h3) j (hpart j (by simpa using hj) h4) hne;rw [hd.act];refine qr_ hb' x0 t r (fuel+1) l _ W (bV x0 pd) T1 (λe=>Gj (by rw [e];simp)) (λh=>Gj (List.mem_cons_of_mem _ h)) htn (λj hj hm=>?_) (λj hj hm=>?_) aR.2 rz (λi hi=>by have:=gT i (List.mem_cons_of_mem _ hi);simpa using this) aa hd.size cP hf2.1 hf2.2
   .have h3:j∈ph:=by have:=(s8 x0 pd).2 j hj;simpa using this
    have h4:=hb' x0 (bV x0 pd) j hj;rcases List.mem_cons.1 hm with h5|h5
    .omega
    rcases bN j (bV j h3) with h6|h6
    .exact h6.2 h5
    exact h6.1 h3
   have h4:=hb' t T1 j hj;rcases List.mem_cons.1 hm with h5|h5
   .have:=nu j hj;exact absurd h5 (by simpa using this)
   rcases List.mem_cons.1 h5 with h6|h6
   .omega
   have:=El aR.2 j h6;omega
  have fo:∀ x∈Region.ready md ops l,x∈ph:=λx hx=>by
   have hx':=(Region.ready_spec x).1 hx;rcases bN x hx'.1 with ⟨h,_⟩|⟨_,h⟩
   .exact h
   exfalso;rcases List.mem_cons.1 h with h5|h5
   .rw [h5] at hx';have hs:=PO hd.down ops.size _ hx'.2.2;exact hpart λi hi' hne=>(hd.iff i).1 (hs i (by
     have:=aR.1 i hi';simp only [Bool.or_eq_true,beq_iff_eq] at this;simpa using this.resolve_left hne))
   obtain ⟨y,h2,h3,h4⟩:=D5 aR.2 x h5;have h5:=hd.lt y ((hd.iff y).1 (hx'.2.2 y h4));rcases bN y aa with h6|h6
   .exact h6.2 h2
   exact h6.1 h5
  refine ⟨λhnil=>?_,λx hx=>?_⟩
  .exfalso;refine hfull ?_;intro i;induction i using Nat.strongRecOn with
   | _ i ihi=>
    intro hi';by_cases h:i∈done
    .exact h
    exfalso;have hin:i∈Region.ready md ops l:=by
     rw [Region.ready_spec];refine ⟨bV i hi',?_,λj hj=>?_⟩
     .rw [qP (by have:=hd.size;have:=bV i hi';omega)];cases hb:l.getD i false with
      | false=>rfl
      | true=>exact absurd ((hd.iff i).1 hb) h
     have rF:j<i:=by simpa using hback i (bV i hi') j hj
     exact (hd.iff j).2 (ihi j rF (by have:=(s8 i hi').2 j hj;simpa using this))
    rw [hnil] at hin;simp at hin
  have jS:=fo x hx;have hx':=(Region.ready_spec x).1 hx;have hstep:=steps.get x jS _ (Array.getElem?_eq_getElem hx'.1);have tf:x ∉ done:=λh=>by
   have h2:=(hd.iff x).2 h;rw [qP (by have:=hd.size;omega),h2] at hx';simp at hx'
  unfold wpOp;rw [Array.getElem?_eq_getElem hx'.1];simp only;obtain ⟨hw,hrun⟩:=hstep v lo hi W hd.below (hS W hd.below) (λj hj=>(hd.facts j ((hd.iff j).1 (hx'.2.2 j hj))).2);rw [hd.act,if_pos hw];refine .inl (hrun _ ?_);intro y W' hb hF;have bQ:Below w0.heap.size w0 W':=hd.below.trans (hb.mono hd.below.size);refine ih (l.setIfInBounds x true) (x :: done) _ (λj=>if j=x then W.heap.size else lo j) (λj=>if j=x then W'.heap.size else hi j) _ W' ⟨by simpa using hd.size,λi=>?_,List.nodup_cons.2 ⟨tf,hd.nd⟩,λi hi'=>?_,λi hi' j hj=>?_,rfl,bQ,λi hi'=>?_,λi hi' j hj hne=>?_⟩ aO
  .by_cases e:x=i
   .subst e;rw [wh (by have:=hd.size;omega)];simp
   rw [qM e,hd.iff,List.mem_cons];exact ⟨.inr,λh=>h.resolve_left (λe'=>e e'.symm)⟩
  .rcases List.mem_cons.1 hi' with rfl|h
   .exact jS
   exact hd.lt i h
  .have rF:l.getD j false=true:=by
    by_cases e:x=i
    .subst e;exact hx'.2.2 j hj
    rw [qM e] at hi';exact hd.down i hi' j hj
   by_cases e:x=j
   .subst e;exact wh (by have:=hd.size;omega)
   rw [qM e];exact rF
  .by_cases e:i=x
   .subst e;refine ⟨?_,?_,?_,hF⟩
    .simp only [if_true];exact hd.below.size
    .simp only [if_true];exact hb.size
    simp only [if_true];exact Nat.le_refl _
   have hid:i∈done:=by rcases List.mem_cons.1 hi' with h|h;exact absurd h e;exact h
   obtain ⟨f1,f2,f3,f4⟩:=hd.facts i hid;refine ⟨by simp only [if_neg e];exact f1,by simp only [if_neg e];exact f2,by simp only [if_neg e];exact Nat.le_trans f3 hb.size,hstab i _ _ _ W W' (hloc i v _ lo _ hi _ W (λj hj=>?_) f4) hb⟩;have FI:j≠x:=by
    rintro rfl;rcases hj with hj|hj
    .exact e hj.symm
    exact tf ((hd.iff j).1 (hd.down i ((hd.iff i).2 hid) j hj))
   simp only [if_neg FI];exact ⟨trivial,trivial,trivial⟩
  by_cases e1:i=x
  .subst e1;have rE:j∈done:=by rcases List.mem_cons.1 hj with h|h;exact absurd h.symm hne;exact h
   simp only [if_true,if_neg (λe=>hne (Eq.symm e):¬ j=i)];have:=(hd.facts j rE).2.2.1;omega
  have hid:i∈done:=by rcases List.mem_cons.1 hi' with h|h;exact absurd h e1;exact h
  by_cases e2:j=x
  .subst e2;simp only [if_true,if_neg e1];have:=(hd.facts i hid).2.2.1;omega
  have rE:j∈done:=by rcases List.mem_cons.1 hj with h|h;exact absurd h e2;exact h
  simp only [if_neg e1,if_neg e2];exact hd.apart i hid j rE hne
theorem ks_ {id:Nat} {a:Act} (ph:List Nat) (x0 t:Nat) (r:List Nat) (fr:(Nat->Value)->Act) (v0:Nat->Value) (F:Nat->(Nat->Value)->(Nat->Nat)->(Nat->Nat)->World->Prop) (S:World->Prop) (iB:P.follows .mixedOrders=true)
  (hc:Region.chkX .any ops ph x0 t r=true) (fR:ph.Nodup) (ha:a=fr v0)
  (hstab:∀ i v lo hi W W',F i v lo hi W->Below W.heap.size W W'->F i v lo hi W')
  (hloc:∀ i v v' lo lo' hi hi' W,(∀ j,j=i\/j∈Region.deps .any ops i->v j=v' j/\lo j=lo' j/\hi j=hi' j)->F i v lo hi W->F i v' lo' hi' W)
  (hS:∀ W,Below w0.heap.size w0 W->S W)
  (steps:BK P .any ops Q w0 fr F S ph)
  (fin:∀ (v:Nat->Value) (lo hi:Nat->Nat) (W:World),Below w0.heap.size w0 W->S W->(∀ i,ph.contains i=true->w0.heap.size<=lo i/\lo i<=hi i/\hi i<=W.heap.size/\F i v lo hi W)->
   (∀ i j,ph.contains i=true->ph.contains j=true->i≠j->hi i<=lo j\/hi j<=lo i)->wpList P ops Q ((t :: r).filterMap λi=>ops[i]?) (fr v) W)
  (fin2:∀ (v:Nat->Value) (lo hi:Nat->Nat) (W:World),Below w0.heap.size w0 W->S W->(∀ i,ph.contains i=true->i≠x0->w0.heap.size<=lo i/\lo i<=hi i/\hi i<=W.heap.size/\F i v lo hi W)->
   (∀ i j,ph.contains i=true->ph.contains j=true->i≠x0->j≠x0->i≠j->hi i<=lo j\/hi j<=lo i)->wpList P ops Q ((x0 :: t :: r).filterMap λi=>ops[i]?) (fr v) W/\wpList P ops Q ((t :: x0 :: r).filterMap λi=>ops[i]?) (fr v) W):(Code.region id ops true).wp P Q a w0:=by
 refine wp_region_any iB ?_;refine pq_ hc fR hstab hloc hS steps fin fin2 ops.size _ [] v0 (λ_=>0) (λ_=>0) a _ ⟨ag,λi=>?_,.nil,ag,λi hi'=>?_,ha,(Below.refl _ _).drew,ag,ag⟩ ag
 .simp [Array.getD]
 exfalso;revert hi';simp [Array.getD]
end
section
variable {P:Program} {ops:Array Oper} {Q:Exit->Act->World->Prop} {md:Region.Mode}
variable {w0:World} {ph tl:List Nat} {fr:(Nat->Value)->Act} {F:Nat->(Nat->Value)->(Nat->Nat)->(Nat->Nat)->World->Prop} {S:World->Prop}
def XX (P:Program) (md:Region.Mode) (ops:Array Oper) (Q:Exit->Act->World->Prop) (w0:World) (fr:(Nat->Value)->Act) (F:Nat->(Nat->Value)->(Nat->Nat)->(Nat->Nat)->World->Prop) (S:World->Prop) (k:Nat) (o:Oper):Prop:=
 ∀ (v:Nat->Value) (lo hi:Nat->Nat) (W:World),Below w0.heap.size w0 W->S W->(∀ j∈Region.deps md ops k,lo j<=hi j/\hi j<=W.heap.size/\F j v lo hi W)->
  (Region.wanted o (yielded ops (fr v).tmps)=true/\
  ∀ K:Act->World->Prop,(∀ x W',Below W.heap.size W W'->F k (λj=>if j=k then x else v j) (λj=>if j=k then W.heap.size else lo j) (λj=>if j=k then W'.heap.size else hi j) W'->K (fr (λj=>if j=k then x else v j)) W')->Oper.wp P o (fr v) W K Q) \/
  (Region.wanted o (yielded ops (fr v).tmps)=false/\
  ∀ K:Act->World->Prop,(∀ x W',Below W.heap.size W W'->F k (λj=>if j=k then x else v j) (λj=>if j=k then W.heap.size else lo j) (λj=>if j=k then W'.heap.size else hi j) W'->K (fr (λj=>if j=k then x else v j)) W')->K ((fr v).put o.dst undef) W)
def wD (P:Program) (md:Region.Mode) (ops:Array Oper) (Q:Exit->Act->World->Prop) (w0:World) (fr:(Nat->Value)->Act) (F:Nat->(Nat->Value)->(Nat->Nat)->(Nat->Nat)->World->Prop) (S:World->Prop):List Nat->Prop
 | []=>True
 | k :: r=>(∀ o,ops[k]? = some o->XX P md ops Q w0 fr F S k o)/\wD P md ops Q w0 fr F S r
theorem wD.get:∀ {l:List Nat},wD P md ops Q w0 fr F S l->∀ i∈l,∀ o,ops[i]? = some o->XX P md ops Q w0 fr F S i o:=by
 intro l;induction l with
 | nil=>intro _ i hi;simp at hi
 | cons k l ih=>
  intro h i hi;rcases List.mem_cons.1 hi with rfl|hi
  .exact h.1
  exact ih h.2 i hi
theorem pp_ (hc:Region.chkH md ops ph tl=true) (fR:ph.Nodup)
  (hstab:∀ i v lo hi W W',F i v lo hi W->Below W.heap.size W W'->F i v lo hi W')
  (hloc:∀ i v v' lo lo' hi hi' W,(∀ j,j=i\/j∈Region.deps md ops i->v j=v' j/\lo j=lo' j/\hi j=hi' j)->F i v lo hi W->F i v' lo' hi' W)
  (hS:∀ W,Below w0.heap.size w0 W->S W)
  (steps:wD P md ops Q w0 fr F S ph)
  (fin:∀ (v:Nat->Value) (lo hi:Nat->Nat) (W:World),Below w0.heap.size w0 W->S W->(∀ i,ph.contains i=true->w0.heap.size<=lo i/\lo i<=hi i/\hi i<=W.heap.size/\F i v lo hi W)->
   (∀ i j,ph.contains i=true->ph.contains j=true->i≠j->hi i<=lo j\/hi j<=lo i)->wpList P ops Q (tl.filterMap λi=>ops[i]?) (fr v) W) :
  ∀ (fuel:Nat) (l:Array Bool) (done:List Nat) (v:Nat->Value) (lo hi:Nat->Nat) (a:Act) (W:World),JX w0 ph ops md fr F l done v lo hi a W->fuel+done.length=ops.size->wpAny P md ops Q fuel l a W:=by
 unfold Region.chkH at hc;simp only [Bool.and_eq_true,List.all_eq_true,List.mem_range,decide_eq_true_eq,bne_iff_ne,ne_eq] at hc;obtain ⟨⟨⟨⟨jz,s8⟩,hback⟩,gT⟩,aR⟩:=hc;have bV:∀ i∈ph,i<ops.size:=λi hi'=>by
  rcases Nat.lt_or_ge i ops.size with h|h
  .exact h
  have:=(s8 i hi').1;rw [Array.getElem?_eq_none h] at this;simp at this
 have bN:∀ i,i<ops.size->(i∈ph/\i ∉ tl)\/(i ∉ ph/\i∈tl):=λi hi'=>by
  have:=jz i hi';by_cases h1:i∈ph <;> by_cases h2:i∈tl <;> simp_all
 have FO:ph.length+tl.eraseDups.length >= 0:=Nat.zero_le _;have full:∀ {l done v lo hi a W},JX w0 ph ops md fr F l done v lo hi a W->(∀ i∈ph,i∈done)->∀ fuel,tl.length<=fuel->wpAny P md ops Q fuel l a W:=by
  intro l done v lo hi a W hd hall fuel hf;rw [hd.act];have hm:∀ i,ph.contains i=true->i∈done:=λi hi'=>hall i (by simpa using hi');refine Im (λi hi' j hj=>by simpa using hback i hi' j hj) tl fuel l _ W (λt r e=>?_) gT hf hd.size (λj hj=>?_) (fin v lo hi W hd.below (hS W hd.below) (λi hi'=>hd.facts i (hm i hi')) λi j hi' hj hne=>hd.apart i (hm i hi') j (hm j hj) hne)
  .rw [e] at aR;simp only [Bool.and_eq_true] at aR;exact aR.2
  rw [hd.iff];rcases bN j hj with ⟨h1,h2⟩|⟨h1,h2⟩
  .exact ⟨λ_=>h2,λ_=>hall j h1⟩
  exact ⟨λh=>absurd (hd.lt j h) h1,λh=>absurd h2 h⟩
 have o8:tl.Nodup:=by
  cases tl with
  | nil=>exact .nil
  | cons t r=>
   simp only [Bool.and_eq_true] at aR;have key:∀ (r:List Nat) (t:Nat),Region.chain md ops t r=true->(t :: r).Nodup:=by
    intro r;induction r with
    | nil=>intro t _;simp
    | cons t' r ih=>
     intro t h;have hlt:=El h;simp only [Region.chain,Bool.and_eq_true] at h;exact List.nodup_cons.2 ⟨λhx=>by have:=hlt t hx;omega,ih t' h.2⟩
   exact key r t aR.2
 have hsize:ph.length+tl.length<=ops.size:=by
  have:(ph ++ tl).length<=(List.range ops.size).length:=lW (List.nodup_append.2 ⟨fR,o8,λx hx y hy e=>by
   subst e;rcases bN x (bV x hx) with h|h
   .exact h.2 hy
   exact h.1 hx⟩) λx hx=>List.mem_range.2 (by
   rcases List.mem_append.1 hx with h|h
   .exact bV x h
   exact gT x h)
  simpa using this
 intro fuel;induction fuel with
 | zero=>
  intro l done v lo hi a W hd hlen;have h1:done.length<=ph.length:=lW hd.nd hd.lt;refine full hd (λi hi'=>?_) 0 aa;by_cases h:i∈done
  .exact h
  have h2:(i :: done).length<=ph.length:=lW (List.nodup_cons.2 ⟨h,hd.nd⟩) (λx hx=>by
   rcases List.mem_cons.1 hx with rfl|hx
   .exact hi'
   exact hd.lt x hx)
  simp at h2;omega
 | succ fuel ih=>
  intro l done v lo hi a W hd hlen;by_cases hfull:∀ i∈ph,i∈done
  .have h1:ph.length<=done.length:=lW fR hfull;have h2:done.length<=ph.length:=lW hd.nd hd.lt;exact full hd hfull _ aa
  have fo:∀ x∈Region.ready md ops l,x∈ph:=λx hx=>by
   have hx':=(Region.ready_spec x).1 hx;rcases bN x hx'.1 with ⟨h,_⟩|⟨_,h⟩
   .exact h
   exfalso;cases htl':tl with
   | nil=>rw [htl'] at h;simp at h
   | cons t r=>
    rw [htl'] at h aR;simp only [Bool.and_eq_true,List.all_eq_true] at aR;rcases List.mem_cons.1 h with rfl|h
    .have hs:=PO hd.down ops.size _ hx'.2.2;exact hfull λi hi'=>(hd.iff i).1 (hs i (by have:=aR.1 i hi';simpa using this))
    obtain ⟨y,h2,h3,h4⟩:=D5 aR.2 x h;have h5:=hd.lt y ((hd.iff y).1 (hx'.2.2 y h4));rcases bN y aa with h6|h6
    .exact h6.2 (by rw [htl'];exact h2)
    exact h6.1 h5
  refine ⟨λhnil=>?_,λx hx=>?_⟩
  .exfalso;refine hfull ?_;intro i;induction i using Nat.strongRecOn with
   | _ i ihi=>
    intro hi';by_cases h:i∈done
    .exact h
    exfalso;have hin:i∈Region.ready md ops l:=by
     rw [Region.ready_spec];refine ⟨bV i hi',?_,λj hj=>?_⟩
     .rw [qP (by have:=hd.size;have:=bV i hi';omega)];cases hb:l.getD i false with
      | false=>rfl
      | true=>exact absurd ((hd.iff i).1 hb) h
     have rF:j<i:=by simpa using hback i (bV i hi') j hj
     exact (hd.iff j).2 (ihi j rF (by have:=(s8 i hi').2 j hj;simpa using this))
    rw [hnil] at hin;simp at hin
  have jS:=fo x hx;have hx':=(Region.ready_spec x).1 hx;have hstep:=steps.get x jS _ (Array.getElem?_eq_getElem hx'.1);have tf:x ∉ done:=λh=>by
   have h2:=(hd.iff x).2 h;rw [qP (by have:=hd.size;omega),h2] at hx';simp at hx'
  unfold wpOp;rw [Array.getElem?_eq_getElem hx'.1];simp only;have wR:∀ y W',Below W.heap.size W W'->F x (λj=>if j=x then y else v j) (λj=>if j=x then W.heap.size else lo j) (λj=>if j=x then W'.heap.size else hi j) W'->wpAny P md ops Q fuel (l.setIfInBounds x true) (fr (λj=>if j=x then y else v j)) W':=?cond
  .rcases hstep v lo hi W hd.below (hS W hd.below) (λj hj=>(hd.facts j ((hd.iff j).1 (hx'.2.2 j hj))).2) with ⟨hw,hrun⟩|⟨hw,hrun⟩
   .rw [hd.act,if_pos hw];exact .inl (hrun _ wR)
   rw [hd.act,if_neg (by rw [hw];simp)];exact hrun _ wR
  intro y W' hb hF;have bQ:Below w0.heap.size w0 W':=hd.below.trans (hb.mono hd.below.size);refine ih (l.setIfInBounds x true) (x :: done) _ (λj=>if j=x then W.heap.size else lo j) (λj=>if j=x then W'.heap.size else hi j) _ W' ⟨by simpa using hd.size,λi=>?_,List.nodup_cons.2 ⟨tf,hd.nd⟩,λi hi'=>?_,λi hi' j hj=>?_,rfl,bQ,λi hi'=>?_,λi hi' j hj hne=>?_⟩ aO
  .by_cases e:x=i
   .subst e;rw [wh (by have:=hd.size;omega)];simp
   rw [qM e,hd.iff,List.mem_cons];exact ⟨.inr,λh=>h.resolve_left (λe'=>e e'.symm)⟩
  .rcases List.mem_cons.1 hi' with rfl|h
   .exact jS
   exact hd.lt i h
  .have rF:l.getD j false=true:=by
    by_cases e:x=i
    .subst e;exact hx'.2.2 j hj
    rw [qM e] at hi';exact hd.down i hi' j hj
   by_cases e:x=j
   .subst e;exact wh (by have:=hd.size;omega)
   rw [qM e];exact rF
  .by_cases e:i=x
   .subst e;refine ⟨?_,?_,?_,hF⟩
    .simp only [if_true];exact hd.below.size
    .simp only [if_true];exact hb.size
    simp only [if_true];exact Nat.le_refl _
   have hid:i∈done:=by rcases List.mem_cons.1 hi' with h|h;exact absurd h e;exact h
   obtain ⟨f1,f2,f3,f4⟩:=hd.facts i hid;refine ⟨by simp only [if_neg e];exact f1,by simp only [if_neg e];exact f2,by simp only [if_neg e];exact Nat.le_trans f3 hb.size,hstab i _ _ _ W W' (hloc i v _ lo _ hi _ W (λj hj=>?_) f4) hb⟩;have FI:j≠x:=by
    rintro rfl;rcases hj with hj|hj
    .exact e hj.symm
    exact tf ((hd.iff j).1 (hd.down i ((hd.iff i).2 hid) j hj))
   simp only [if_neg FI];exact ⟨trivial,trivial,trivial⟩
  by_cases e1:i=x
  .subst e1;have rE:j∈done:=by rcases List.mem_cons.1 hj with h|h;exact absurd h.symm hne;exact h
   simp only [if_true,if_neg (λe=>hne (Eq.symm e):¬ j=i)];have:=(hd.facts j rE).2.2.1;omega
  have hid:i∈done:=by rcases List.mem_cons.1 hi' with h|h;exact absurd h e1;exact h
  by_cases e2:j=x
  .subst e2;simp only [if_true,if_neg e1];have:=(hd.facts i hid).2.2.1;omega
  have rE:j∈done:=by rcases List.mem_cons.1 hj with h|h;exact absurd h e2;exact h
  simp only [if_neg e1,if_neg e2];exact hd.apart i hid j rE hne
theorem SK {id:Nat} {a:Act} (ph tl:List Nat) (fr:(Nat->Value)->Act) (v0:Nat->Value) (F:Nat->(Nat->Value)->(Nat->Nat)->(Nat->Nat)->World->Prop) (S:World->Prop) (iB:P.follows .mixedOrders=true)
  (hc:Region.chkH .any ops ph tl=true) (fR:ph.Nodup) (ha:a=fr v0)
  (hstab:∀ i v lo hi W W',F i v lo hi W->Below W.heap.size W W'->F i v lo hi W')
  (hloc:∀ i v v' lo lo' hi hi' W,(∀ j,j=i\/j∈Region.deps .any ops i->v j=v' j/\lo j=lo' j/\hi j=hi' j)->F i v lo hi W->F i v' lo' hi' W)
  (hS:∀ W,Below w0.heap.size w0 W->S W)
  (steps:wD P .any ops Q w0 fr F S ph)
  (fin:∀ (v:Nat->Value) (lo hi:Nat->Nat) (W:World),Below w0.heap.size w0 W->S W->(∀ i,ph.contains i=true->w0.heap.size<=lo i/\lo i<=hi i/\hi i<=W.heap.size/\F i v lo hi W)->
   (∀ i j,ph.contains i=true->ph.contains j=true->i≠j->hi i<=lo j\/hi j<=lo i)->wpList P ops Q (tl.filterMap λi=>ops[i]?) (fr v) W):(Code.region id ops true).wp P Q a w0:=by
 refine wp_region_any iB ?_;refine pp_ hc fR hstab hloc hS steps fin ops.size _ [] v0 (λ_=>0) (λ_=>0) a _ ⟨ag,λi=>?_,.nil,ag,λi hi'=>?_,ha,(Below.refl _ _).drew,ag,ag⟩ ag
 .simp [Array.getD]
 exfalso;revert hi';simp [Array.getD]
end
def aD:List Value->Nat->Value
 | [],_=>undef
 | x :: _,0=>x
 | _ :: l,k+1=>aD l k
def ov (x:List Value):List Nat->(Nat->Value)->Nat->Value
 | [],u,j=>u j
 | d :: D,u,j=>bif j == d then aD x j else ov x D u j
theorem GO {x:List Value} {D:List Nat} {v:Nat->Value} (h:∀ j∈D,v j=aD x j):ov x D v=v:=by
 induction D with
 | nil=>rfl
 | cons d D ih=>
  funext j
  simp only [ov];cases hb:(j == d) with
  | true=>rw [eq_of_beq hb];exact (h d ag).symm
  | false=>exact congrFun (ih λj hj=>h j (by simp [hj])) j
section
variable {P:Program} {ops:Array Oper} {Q:Exit->Act->World->Prop} {md:Region.Mode}
variable {w0:World} {fr:(Nat->Value)->Act} {S:World->Prop} {x:List Value}
def zq (fr:(Nat->Value)->Act) (x:List Value) (D:List Nat) (v:Nat->Value) (W:World) (k:Nat) (K:Act->World->Prop):Prop:=∀ W',Below W.heap.size W W'->K (fr (ov x (k :: D) v)) W'
def J1 (P:Program) (ops:Array Oper) (Q:Exit->Act->World->Prop) (w0:World) (fr:(Nat->Value)->Act) (x:List Value) (S:World->Prop) (D:List Nat) (k:Nat) (o:Oper):Prop:=
 ∀ (v:Nat->Value) (W:World),Below w0.heap.size w0 W->S W->
  (Region.wanted o (yielded ops (fr (ov x D v)).tmps)=true/\
  ∀ K:Act->World->Prop,zq fr x D v W k K->Oper.wp P o (fr (ov x D v)) W K Q) \/
  (Region.wanted o (yielded ops (fr (ov x D v)).tmps)=false/\
  ∀ K:Act->World->Prop,zq fr x D v W k K->K ((fr (ov x D v)).put o.dst undef) W)
def ux (P:Program) (md:Region.Mode) (ops:Array Oper) (Q:Exit->Act->World->Prop) (w0:World) (fr:(Nat->Value)->Act) (x:List Value) (S:World->Prop):List Nat->Prop
 | []=>True
 | k :: r=>(∃ D o,ops[k]? = some o/\(D.all λj=>(Region.deps md ops k).contains j)=true/\J1 P ops Q w0 fr x S D k o)/\ux P md ops Q w0 fr x S r
theorem ux.c {k:Nat} {o:Oper} {r:List Nat} (D:List Nat) (e:ops[k]? = some o) (h:J1 P ops Q w0 fr x S D k o) (t:ux P md ops Q w0 fr x S r) (hD:(D.all λj=>(Region.deps md ops k).contains j)=true:=by kernel_rfl):ux P md ops Q w0 fr x S (k :: r):=⟨⟨D,o,e,hD,h⟩,t⟩
theorem ux.n:ux P md ops Q w0 fr x S []:=trivial
theorem Xo {D:List Nat} {k:Nat} {v:Nat->Value} (h:∀ j∈D,v j=aD x j):ov x (k :: D) v=λj=>if j=k then aD x k else v j:=by
 funext j
 show (bif j == k then aD x j else ov x D v j)=_;rw [GO h];by_cases e:j=k
 .subst e;simp
 rw [if_neg e,show (j == k)=false from Bool.eq_false_iff.2 λh=>e (eq_of_beq h)];rfl
theorem ux.to:∀ {l:List Nat},ux P md ops Q w0 fr x S l->wD P md ops Q w0 fr (λi v _ _ _=>v i=aD x i) S l
 | [],_=>trivial
 | k :: r,⟨⟨D,o,e,hD,h⟩,t⟩=>by
  refine ⟨λo' e'=>?_,t.to⟩;rw [e] at e';cases e';intro v lo hi W hb hs hd;have hj:∀ j∈D,v j=aD x j:=λj hj=>(hd j (by simpa using List.all_eq_true.1 hD j hj)).2.2;have h':=h v W hb hs;unfold zq at h';rw [GO hj,Xo hj] at h';rcases h' with ⟨h1,h2⟩|⟨h1,h2⟩
  .exact .inl ⟨h1,λK hK=>h2 K λW' hb'=>hK (aD x k) W' hb' ag⟩
  exact .inr ⟨h1,λK hK=>h2 K λW' hb'=>hK (aD x k) W' hb' ag⟩
theorem jZ {id:Nat} {a:Act} (ph tl:List Nat) (fr:(Nat->Value)->Act) (x:List Value) (S:World->Prop)
  (hS:∀ W,Below w0.heap.size w0 W->S W)
  (steps:ux P .any ops Q w0 fr x S ph)
  (fin:∀ W,Below w0.heap.size w0 W->S W->wpList P ops Q (tl.filterMap λi=>ops[i]?) (fr (aD x)) W)
  (v0:Nat->Value:=λ_=>undef) (ha:a=fr v0:=by rfl) (iB:P.follows .mixedOrders=true:=by rfl) (hc:Region.chkH .any ops ph tl=true:=by kernel_rfl) (fR:ph.Nodup:=by decide)
  (hfr:∀ v:Nat->Value,(∀ i,ph.contains i=true->v i=aD x i)->fr v=fr (aD x):=by intro v h;simp (decide:=true) only [h]):(Code.region id ops true).wp P Q a w0:=
 SK ph tl fr v0 (λi v _ _ _=>v i=aD x i) S iB hc fR ha (λ_ _ _ _ _ _ h _=>h) (λi v v' _ _ _ _ _ aC h=>(aC i (.inl rfl)).1 ▸ h) hS steps.to
  λv lo hi W h1 h2 h3 _=>by rw [hfr v λi hi'=>(h3 i hi').2.2.2];exact fin W h1 h2
theorem kq {D:List Nat} {k:Nat} {o:Oper} (h:J1 P ops Q w0 fr x S D k o:=by
  intro v W hb hS
  first
   | (
    refine .inr ⟨rfl,λK hK=>aU (hK W (Below.refl _ _)) ?_⟩;simp [Act.put,ov,aD]
    done)
   | (
    go_split_ands;refine .inl ⟨rfl,λK hK=>?_⟩;simp only [ov,aD,Nat.reduceBEq,cond_true,cond_false];go_wp2_with fail;refine aU (hK W (Below.refl _ _)) ?_
    first
     | (simp [ov,aD];done)
     | (simp [ov,aD, *];done)
    done)
   | fail):J1 P ops Q w0 fr x S D k o:=h
end
def so:=Nat->(Nat->Value)->(Nat->Nat)->(Nat->Nat)->World->Prop
def ix (p:Nat->Prop):List Nat->Prop
 | []=>True
 | k :: r=>p k/\ix p r
theorem ix.get {p:Nat->Prop}:∀ {l:List Nat},ix p l->∀ k,l.contains k=true->p k
 | k :: r,⟨h,t⟩,i,hi=>by
  by_cases e:i=k
  .subst e;exact h
  refine t.get i ?_;rw [List.contains_cons] at hi;simpa [e] using hi
theorem ix.of {p:Nat->Prop}:∀ {l:List Nat},(∀ k∈l,p k)->ix p l
 | [],_=>trivial
 | k :: r,h=>⟨h k ag,.of λj hj=>h j (by simp [hj])⟩
def ka (x:List Value) (cs:List Nat) (G:so) (i:Nat) (v:Nat->Value) (lo hi:Nat->Nat) (W:World):Prop:=match cs.contains i with
 | true=>G i v lo hi W
 | false=>v i=aD x i
def upd {α:Type} (f:Nat->α) (k:Nat) (y:α):Nat->α:=λj=>if j=k then y else f j
section
variable {P:Program} {ops:Array Oper} {Q:Exit->Act->World->Prop} {md:Region.Mode}
variable {w0:World} {fr:(Nat->Value)->Act} {S:World->Prop} {x:List Value} {cs:List Nat} {G:so}
def qW (fr:(Nat->Value)->Act) (x:List Value) (cs:List Nat) (G:so) (D:List Nat) (v:Nat->Value) (lo hi:Nat->Nat) (W:World) (k:Nat) (K:Act->World->Prop):Prop:=match cs.contains k with
 | false=>∀ W',Below W.heap.size W W'->K (fr (ov x (k :: D) v)) W'
 | true=>∀ y W',Below W.heap.size W W'->G k (λj=>if j=k then y else v j) (λj=>if j=k then W.heap.size else lo j) (λj=>if j=k then W'.heap.size else hi j) W'->K (fr (upd (ov x D v) k y)) W'
def J2 (P:Program) (ops:Array Oper) (Q:Exit->Act->World->Prop) (w0:World) (fr:(Nat->Value)->Act) (x:List Value) (cs:List Nat) (G:so) (S:World->Prop) (D C:List Nat) (k:Nat) (o:Oper):Prop:=
 ∀ (v:Nat->Value) (lo hi:Nat->Nat) (W:World),Below w0.heap.size w0 W->S W->ix (λj=>lo j<=hi j/\hi j<=W.heap.size/\G j v lo hi W) C->
  (Region.wanted o (yielded ops (fr (ov x D v)).tmps)=true/\∀ K:Act->World->Prop,qW fr x cs G D v lo hi W k K->Oper.wp P o (fr (ov x D v)) W K Q) \/
  (Region.wanted o (yielded ops (fr (ov x D v)).tmps)=false/\∀ K:Act->World->Prop,qW fr x cs G D v lo hi W k K->K ((fr (ov x D v)).put o.dst undef) W)
def sN (P:Program) (md:Region.Mode) (ops:Array Oper) (Q:Exit->Act->World->Prop) (w0:World) (fr:(Nat->Value)->Act) (x:List Value) (cs:List Nat) (G:so) (S:World->Prop):List Nat->Prop
 | []=>True
 | k :: r=>(∃ D C o,ops[k]? = some o/\((D.all λj=>(Region.deps md ops k).contains j && !cs.contains j) && C.all λj=>(Region.deps md ops k).contains j && cs.contains j)=true/\J2 P ops Q w0 fr x cs G S D C k o)/\sN P md ops Q w0 fr x cs G S r
theorem sN.c {k:Nat} {o:Oper} {r:List Nat} (D C:List Nat) (e:ops[k]? = some o) (h:J2 P ops Q w0 fr x cs G S D C k o) (t:sN P md ops Q w0 fr x cs G S r) (hD:((D.all λj=>(Region.deps md ops k).contains j && !cs.contains j) && C.all λj=>(Region.deps md ops k).contains j && cs.contains j)=true:=by kernel_rfl):sN P md ops Q w0 fr x cs G S (k :: r):=⟨⟨D,C,o,e,hD,h⟩,t⟩
theorem sN.n:sN P md ops Q w0 fr x cs G S []:=trivial
theorem sN.to:∀ {l:List Nat},sN P md ops Q w0 fr x cs G S l->wD P md ops Q w0 fr (ka x cs G) S l
 | [],_=>trivial
 | k :: r,⟨⟨D,C,o,e,hD,h⟩,t⟩=>by
  refine ⟨λo' e'=>?_,t.to⟩;rw [e] at e';cases e';intro v lo hi W hb hs hd;rw [Bool.and_eq_true,List.all_eq_true,List.all_eq_true] at hD;have hj:∀ j∈D,v j=aD x j:=λj hj=>by
   have h1:=hD.1 j hj;rw [Bool.and_eq_true] at h1;have h2:=(hd j (by simpa using h1.1)).2.2;rw [ka,show cs.contains j=false by simpa using h1.2] at h2;exact h2
  have h':=h v lo hi W hb hs (.of λj hj=>by
   have h1:=hD.2 j hj;rw [Bool.and_eq_true] at h1;have h2:=hd j (by simpa using h1.1);rw [ka,h1.2] at h2;exact h2)
  have key:∀ K:Act->World->Prop,(∀ y W',Below W.heap.size W W'->ka x cs G k (λj=>if j=k then y else v j) (λj=>if j=k then W.heap.size else lo j) (λj=>if j=k then W'.heap.size else hi j) W'->K (fr (λj=>if j=k then y else v j)) W')->qW fr x cs G D v lo hi W k K:=λK hK=>by
   unfold qW;cases hc:cs.contains k with
   | false=>exact λW' hb'=>by rw [Xo hj];exact hK (aD x k) W' hb' (by rw [ka,hc];simp)
   | true=>exact λy W' hb' hg=>by rw [GO hj];exact hK y W' hb' (by rw [ka,hc];exact hg)
  rw [GO hj] at h';exact h'.imp (λ⟨h1,h2⟩=>⟨h1,λK hK=>h2 K (key K hK)⟩) λ⟨h1,h2⟩=>⟨h1,λK hK=>h2 K (key K hK)⟩
theorem oK {id:Nat} {a:Act} (ph tl:List Nat) (fr:(Nat->Value)->Act) (x:List Value) (cs:List Nat) (G:so) (S:World->Prop)
  (hS:∀ W,Below w0.heap.size w0 W->S W)
  (stab:ix (λk=>∀ v lo hi W W',G k v lo hi W->Below W.heap.size W W'->G k v lo hi W') cs)
  (loc:ix (λk=>∀ v v' lo lo' hi hi' W,(∀ j,j=k\/j∈Region.deps .any ops k->v j=v' j/\lo j=lo' j/\hi j=hi' j)->G k v lo hi W->G k v' lo' hi' W) cs)
  (steps:sN P .any ops Q w0 fr x cs G S ph)
  (fin:∀ (v:Nat->Value) (lo hi:Nat->Nat) (W:World),Below w0.heap.size w0 W->S W->(∀ i,ph.contains i=true->w0.heap.size<=lo i/\lo i<=hi i/\hi i<=W.heap.size/\ka x cs G i v lo hi W)->
   (∀ i j,ph.contains i=true->ph.contains j=true->i≠j->hi i<=lo j\/hi j<=lo i)->wpList P ops Q (tl.filterMap λi=>ops[i]?) (fr v) W)
  (v0:Nat->Value:=λ_=>undef) (ha:a=fr v0:=by rfl) (iB:P.follows .mixedOrders=true:=by rfl) (hc:Region.chkH .any ops ph tl=true:=by kernel_rfl) (fR:ph.Nodup:=by decide):(Code.region id ops true).wp P Q a w0:=
 SK ph tl fr v0 (ka x cs G) S iB hc fR ha (λi v lo hi W W' h hb=>by
   unfold ka at h ⊢;cases e:cs.contains i with
   | true=>rw [e] at h;exact stab.get i e v lo hi W W' h hb
   | false=>rw [e] at h;exact h) (λi v v' lo lo' hi hi' W aC h=>by
   unfold ka at h ⊢;cases e:cs.contains i with
   | true=>rw [e] at h;exact loc.get i e v v' lo lo' hi hi' W aC h
   | false=>rw [e] at h;exact (aC i (.inl rfl)).1 ▸ h) hS steps.to fin
theorem pj {D C:List Nat} {k:Nat} {o:Oper} (h:J2 P ops Q w0 fr x cs G S D C k o:=by
  intro v lo hi W hb hS _
  first
   | (
    refine .inr ⟨rfl,λK hK=>aU (hK W (Below.refl _ _)) ?_⟩;simp [Act.put,ov,aD]
    done)
   | (
    go_split_ands;refine .inl ⟨rfl,λK hK=>?_⟩;simp only [ov,aD,Nat.reduceBEq,cond_true,cond_false];go_wp2_with fail;refine aU (hK W (Below.refl _ _)) ?_
    first
     | (simp [ov,aD];done)
     | (simp [ov,aD, *];done)
    done)
   | fail):J2 P ops Q w0 fr x cs G S D C k o:=h
end
section
variable {P:Program} {ops:Array Oper} {Q:Exit->Act->World->Prop} {md:Region.Mode}
variable {w0:World} {fr:(Nat->Value)->Act} {S:World->Prop} {x:List Value} {cs:List Nat} {G:so}
def J0 (P:Program) (ops:Array Oper) (Q:Exit->Act->World->Prop) (w0:World) (fr:(Nat->Value)->Act) (x:List Value) (cs:List Nat) (G:so) (S:World->Prop) (D C:List Nat) (k:Nat) (o:Oper):Prop:=
 ∀ (v:Nat->Value) (lo hi:Nat->Nat) (W:World),Below w0.heap.size w0 W->S W->ix (λj=>lo j<=hi j/\hi j<=W.heap.size/\G j v lo hi W) C->
  Region.wanted o (yielded ops (fr (ov x D v)).tmps)=true/\∀ K:Act->World->Prop,qW fr x cs G D v lo hi W k K->Oper.wp P o (fr (ov x D v)) W K Q
def uw (P:Program) (md:Region.Mode) (ops:Array Oper) (Q:Exit->Act->World->Prop) (w0:World) (fr:(Nat->Value)->Act) (x:List Value) (cs:List Nat) (G:so) (S:World->Prop):List Nat->Prop
 | []=>True
 | k :: r=>(∃ D C o,ops[k]? = some o/\((D.all λj=>(Region.deps md ops k).contains j && !cs.contains j) && C.all λj=>(Region.deps md ops k).contains j && cs.contains j)=true/\J0 P ops Q w0 fr x cs G S D C k o)/\uw P md ops Q w0 fr x cs G S r
theorem uw.c {k:Nat} {o:Oper} {r:List Nat} (D C:List Nat) (e:ops[k]? = some o) (h:J0 P ops Q w0 fr x cs G S D C k o) (t:uw P md ops Q w0 fr x cs G S r) (hD:((D.all λj=>(Region.deps md ops k).contains j && !cs.contains j) && C.all λj=>(Region.deps md ops k).contains j && cs.contains j)=true:=by kernel_rfl):uw P md ops Q w0 fr x cs G S (k :: r):=⟨⟨D,C,o,e,hD,h⟩,t⟩
theorem uw.n:uw P md ops Q w0 fr x cs G S []:=trivial
theorem uw.to:∀ {l:List Nat},uw P md ops Q w0 fr x cs G S l->BK P md ops Q w0 fr (ka x cs G) S l
 | [],_=>trivial
 | k :: r,⟨⟨D,C,o,e,hD,h⟩,t⟩=>by
  refine ⟨λo' e'=>?_,t.to⟩;have hs:wD P md ops Q w0 fr (ka x cs G) S [k]:=sN.to ⟨⟨D,C,o,e,hD,λv lo hi W h1 h2 h3=>.inl (h v lo hi W h1 h2 h3)⟩,trivial⟩;intro v lo hi W hb hS hd;rw [e] at e';cases e';have hw:=(h v lo hi W hb hS (.of λj hj=>by
   rw [Bool.and_eq_true,List.all_eq_true,List.all_eq_true] at hD;have h1:=hD.2 j hj;rw [Bool.and_eq_true] at h1;have h2:=hd j (by simpa using h1.1);rw [ka,h1.2] at h2;exact h2)).1
  rw [GO λj hj=>by
   rw [Bool.and_eq_true,List.all_eq_true,List.all_eq_true] at hD;have h1:=hD.1 j hj;rw [Bool.and_eq_true] at h1;have h2:=(hd j (by simpa using h1.1)).2.2;rw [ka,show cs.contains j=false by simpa using h1.2] at h2;exact h2] at hw
  rcases hs.1 o e v lo hi W hb hS hd with h1|⟨h1,_⟩
  .exact h1
  rw [h1] at hw;cases hw
theorem Ny {id:Nat} {a:Act} (ph:List Nat) (x0 t:Nat) (r:List Nat) (fr:(Nat->Value)->Act) (x:List Value) (cs:List Nat) (G:so) (S:World->Prop)
  (hS:∀ W,Below w0.heap.size w0 W->S W)
  (stab:ix (λk=>∀ v lo hi W W',G k v lo hi W->Below W.heap.size W W'->G k v lo hi W') cs)
  (loc:ix (λk=>∀ v v' lo lo' hi hi' W,(∀ j,j=k\/j∈Region.deps .any ops k->v j=v' j/\lo j=lo' j/\hi j=hi' j)->G k v lo hi W->G k v' lo' hi' W) cs)
  (steps:uw P .any ops Q w0 fr x cs G S ph)
  (fin:∀ (v:Nat->Value) (lo hi:Nat->Nat) (W:World),Below w0.heap.size w0 W->S W->(∀ i,ph.contains i=true->w0.heap.size<=lo i/\lo i<=hi i/\hi i<=W.heap.size/\ka x cs G i v lo hi W)->
   (∀ i j,ph.contains i=true->ph.contains j=true->i≠j->hi i<=lo j\/hi j<=lo i)->wpList P ops Q ((t :: r).filterMap λi=>ops[i]?) (fr v) W)
  (fin2:∀ (v:Nat->Value) (lo hi:Nat->Nat) (W:World),Below w0.heap.size w0 W->S W->(∀ i,ph.contains i=true->i≠x0->w0.heap.size<=lo i/\lo i<=hi i/\hi i<=W.heap.size/\ka x cs G i v lo hi W)->
   (∀ i j,ph.contains i=true->ph.contains j=true->i≠x0->j≠x0->i≠j->hi i<=lo j\/hi j<=lo i)->wpList P ops Q ((x0 :: t :: r).filterMap λi=>ops[i]?) (fr v) W/\wpList P ops Q ((t :: x0 :: r).filterMap λi=>ops[i]?) (fr v) W)
  (v0:Nat->Value:=λ_=>undef) (ha:a=fr v0:=by rfl) (iB:P.follows .mixedOrders=true:=by rfl) (hc:Region.chkX .any ops ph x0 t r=true:=by kernel_rfl) (fR:ph.Nodup:=by decide):(Code.region id ops true).wp P Q a w0:=
 ks_ ph x0 t r fr v0 (ka x cs G) S iB hc fR ha (λi v lo hi W W' h hb=>by
   unfold ka at h ⊢;cases e:cs.contains i with
   | true=>rw [e] at h;exact stab.get i e v lo hi W W' h hb
   | false=>rw [e] at h;exact h) (λi v v' lo lo' hi hi' W aC h=>by
   unfold ka at h ⊢;cases e:cs.contains i with
   | true=>rw [e] at h;exact loc.get i e v v' lo lo' hi hi' W aC h
   | false=>rw [e] at h;exact (aC i (.inl rfl)).1 ▸ h) hS steps.to fin fin2
theorem Q_ {D C:List Nat} {k:Nat} {o:Oper} (h:J0 P ops Q w0 fr x cs G S D C k o:=by
  intro v lo hi W hb hS _
  first
   | (
    go_split_ands;refine ⟨rfl,λK hK=>?_⟩;simp only [ov,aD,Nat.reduceBEq,cond_true,cond_false];go_wp2_with fail;refine aU (hK W (Below.refl _ _)) ?_
    first
     | (simp [ov,aD];done)
     | (simp [ov,aD, *];done)
    done)
   | fail):J0 P ops Q w0 fr x cs G S D C k o:=h
end
def Ez {β:Type} (x:Option Nat) (J:β->World->Prop):Prop:=
 ∀ (s:β) (W W':World) (row:Option Nat),J s W->W.grownBy W' row->(∀ r,row=some r->x=some r/\∃ o:Obj,W.heap[r]? = some o/\o.isCells=true)->J s W'
def e_ {β:Type} (B:Nat) (x:Option Nat) (J:β->World->Prop):Prop:=
 ∀ (s:β) (W W':World) (row:Option Nat),J s W->W.grownBy W' row->
  (∀ r,row=some r->(x=some r/\∃ o:Obj,W.heap[r]? = some o/\o.isCells=true)\/(B<=r/\∃ o:Obj,W.heap[r]? = some o/\o.isCells=false))->J s W'
def yR {α:Type} (P:Program) (g:Nat) (lb:Array Value) (encs:α->Array Value) (Kp:World->World->Prop) (x:Option Nat) (En Fin Bd:List α->Prop) (w:World):Prop:=
 ∀ (l:Nat) (J Jx:List α->World->Prop) (W:World),Below w.heap.size w W->Ez x J->Ez x Jx->(∀ pre W1,J pre W1->Bd pre)->
  (∀ pre y W1,J pre W1->En (pre ++ [y])->YieldAt Fence.wide 0 P l (encs y) W1 λe W'=>
   (e=.returned (.bool true)/\J (pre ++ [y]) W'/\Kp W1 W')\/(e=.returned (.bool false)/\Jx (pre ++ [y]) W'))->
  J [] W->
  CallsIn Fence.wide 0 P g (#[.func (.yield l) #[] #[]] ++ lb) W λe W'=>(∃ v,e=.returned v)/\((∃ xs,Fin xs/\J xs W')\/(∃ pre,En pre/\Jx pre W'))
variable {P:Program}
theorem e_.putObj {β:Type} {B:Nat} {x:Option Nat} {I:β->World->Prop} (h:e_ B x I) {s:β} {W:World} {l:Nat} {o:Obj} (o':Obj) (hs:I s W) (hB:B<=l) (hl:W.heap[l]? = some o) (ho:o.isCells=false):I s (W.putObj l o'):=
 h s W _ (some l) hs (grownBy_putObj' W l o') (λr e=>by cases e;exact .inr ⟨hB,o,hl,ho⟩)
theorem e_.alloc {β:Type} {B:Nat} {x:Option Nat} {I:β->World->Prop} (h:e_ B x I) {s:β} {W:World} (o:Obj) (hs:I s W):I s (W.alloc o):=
 h s W _ none hs (World.grownBy_alloc W o none) (λr e=>by cases e)
theorem Nx {α:Type} {g:Operand} {ps:Array Tmp} {assign body:Code} {Q:Exit->Act->World->Prop} {a:Act} {w:World}
  {gf:Nat} {lb:Array Value} (hg:a.eval g=.func (.func gf) #[] lb) (eg:∀ args w,(callFunc gf args).run P w=.ok (.enter gf args) w)
  {encs:α->Array Value} {Kp:World->World->Prop} {x:Option Nat} {En Fin Bd:List α->Prop} (hseq:yR P gf lb encs Kp x En Fin Bd w)
  (hKt:∀ {A B C:World},Kp A B->Kp B C->Kp A C) (hKb:∀ (W:World) (l:Nat) (o o':Obj),w.heap.size<=l->W.heap[l]? = some o->o.isCells=false->Kp W (W.putObj l o')) (oZ:∀ y,(encs y).size=ps.size)
  (I:List α->World->Prop) (Ix:Code->List α->World->Prop) (hI:e_ w.heap.size x I) (hIx:∀ c,e_ w.heap.size x (Ix c)) (hN:∀ pre W,I pre W->Bd pre) (h0:I [] w) (a₁:α->Act)
  (hassign:∀ (l:Nat) (y:α) (W:World) (K:Act->World->Prop),K (a₁ y) W->
   assign.wpIn (Fence.wide.inRound l) 0 P (Exit.then K (λ_ _ _=>False)) { tmps:=(ps.zip (encs y)).foldl (λt (p,v)=>t.setIfInBounds p v) a.tmps,defers:=[] } W)
  (hbody:∀ (l:Nat) (pre:List α) (y:α) (W:World),I pre W->En (pre ++ [y])->body.wpIn (Fence.wide.inRound l) 0 P (ownPostG w.heap.size Kp I Ix (pre ++ [y]) W) (a₁ y) W)
  (hdone:∀ (D:Nat) (xs:List α) (W:World),w.heap.size<=D->Fin xs->I xs W->W.heap[D]? = some (.deferred (some []))->Q .normal { a with defers:={ target:=.collected D,args:=#[] } :: a.defers } W)
  (hstop:∀ (D:Nat) (c:Code) (pre:List α) (W:World),w.heap.size<=D->En pre->Ix c pre W->W.heap[D]? = some (.deferred (some []))->c.wpIn Fence.wide 0 P Q { a with defers:={ target:=.collected D,args:=#[] } :: a.defers } W) :
  (Code.rangeFunc g ps assign body).wpIn Fence.wide 0 P Q a w:=by
 refine wpIn_rangeFunc ?_;intro fn hfn;obtain ⟨rec,bL⟩:∃ rec:LoopState->Option Code->Loop,rec=λst pe=>{ state:=st,pending:=pe,fn,tmps:=a.tmps,params:=ps,assign,body,defers:=w.heap.size }:=⟨_,rfl⟩;obtain ⟨W1,hW1⟩:∃ W1,(w.alloc (.deferred (some []))).alloc (.loop (rec .ready none))=W1:=⟨_,rfl⟩;have fO:W1.heap[w.heap.size+1]? = some (.loop (rec .ready none)):=by
  rw [<- hW1];have:=World.alloc_heap_new (w.alloc (.deferred (some []))) (.loop (rec .ready none));rwa [World.size_alloc] at this
 have EK:W1.heap[w.heap.size]? = some (.deferred (some [])):=by
  rw [<- hW1];exact (Below.heap_alloc _ _ _ ag).trans (World.alloc_heap_new w _)
 have EH:I [] W1:=by rw [<- hW1];exact hI.alloc _ (hI.alloc _ h0)
 have hb1:Below w.heap.size w W1:=by
  rw [<- hW1];exact (((Below.refl _ w).alloc (Nat.le_refl _) _).alloc ag _)
 refine ⟨w.heap.size+1,[{ target:=.collected w.heap.size,args:=#[] }],W1,{ target:=.fn (.func gf) lb,args:=#[.func (.yield (w.heap.size+1)) #[] #[]] },W1,gf,
  #[.func (.yield (w.heap.size+1)) #[] #[]] ++ lb,W1,?_,?_,?_,?_,(λh=>by cases h),?_⟩
 .rw [<- hW1,bL];exact run_enterLoop_outer _ _ _ _ _
 .simp only [resolve,hg];simp [go_sem]
 .intro f' _;trivial
 .simp [invoke,go_sem,eg]
 have dQ:∀ {A B:World} {row:Option Nat} {l:Nat} {o:Obj},A.grownBy B row->(∀ r,row=some r->x=some r/\∃ o:Obj,A.heap[r]? = some o/\o.isCells=true)->A.heap[l]? = some o->o.isCells=false->B.heap[l]? = some o:=
  λ{A B row l o} eL hr hl ho=>by
   refine (eL.block l (Array.getElem?_eq_some_iff.1 hl).1 λe=>?_).trans hl;obtain ⟨_,o2,ho2,hc⟩:=hr l e.symm;rw [hl] at ho2;cases ho2;rw [ho] at hc;cases hc
 refine (hseq (w.heap.size+1)
  (λpre W=>I pre W/\W.heap[w.heap.size+1]? = some (.loop (rec .ready none))/\W.heap[w.heap.size]? = some (.deferred (some [])))
  (λpre W=>∃ c,Ix c pre W/\W.heap[w.heap.size+1]? = some (.loop (rec .done (some c)))/\W.heap[w.heap.size]? = some (.deferred (some [])))
  W1 hb1
  (λs A B row hs eL hr=>⟨hI s A B row hs.1 eL (λr e=>.inl (hr r e)),dQ eL hr hs.2.1 rfl,dQ eL hr hs.2.2 rfl⟩)
  (λs A B row hs eL hr=>by
   obtain ⟨c,hc,hl,hk⟩:=hs;exact ⟨c,hIx c s A B row hc eL (λr e=>.inl (hr r e)),dQ eL hr hl rfl,dQ eL hr hk rfl⟩)
  (λpre W1 h=>hN pre W1 h.1) ?_ ⟨EH,fO,EK⟩).mono ?_
 .rintro pre y W ⟨hi,hl,hk⟩ hlen;have hlt:w.heap.size+1<W.heap.size:=(Array.getElem?_eq_some_iff.1 hl).1;have hy:=run_yield (P:=P) (args:=encs y) hl (by rw [bL];exact oZ y);rw [bL] at hy;refine ⟨fn,_,assign,body,hy,roundIn_of_wpIn hfn (hassign _ y W _ ?_)⟩;clear hy;refine ⟨_,run_beginRound hl (by rw [bL]),?_⟩;have hl2:(W.putObj (w.heap.size+1) (.loop { rec .ready none with state:=.busy })).heap[w.heap.size+1]? = some (.loop { rec .ready none with state:=.busy }):=World.putObj_heap_same hlt;have hk2:(W.putObj (w.heap.size+1) (.loop { rec .ready none with state:=.busy })).heap[w.heap.size]? = some (.deferred (some [])):=(World.putObj_heap_other aa).trans hk;have hw2:Kp W (W.putObj (w.heap.size+1) (.loop { rec .ready none with state:=.busy })):=hKb _ _ _ _ aa hl rfl;refine wpIn_mono (hbody _ pre y _ (hI.putObj _ hi aa hl rfl) hlen) ?_;have fin:∀ (jump:Option Code) (W3:World),KeepsFrom w.heap.size (W.putObj (w.heap.size+1) (.loop { rec .ready none with state:=.busy })) W3->
    (Instr.endRound (w.heap.size+1) jump).run P W3=.ok (.bool jump.isNone) (W3.putObj (w.heap.size+1) (.loop (rec (if jump.isNone then .ready else .done) jump)))/\
    W3.heap[w.heap.size+1]? = some (.loop { rec .ready none with state:=.busy })/\
    (W3.putObj (w.heap.size+1) (.loop (rec (if jump.isNone then .ready else .done) jump))).heap[w.heap.size+1]? = some (.loop (rec (if jump.isNone then .ready else .done) jump))/\
    (W3.putObj (w.heap.size+1) (.loop (rec (if jump.isNone then .ready else .done) jump))).heap[w.heap.size]? = some (.deferred (some [])):=λjump W3 hk3=>by
   have hl3:=hk3.same _ _ aa hl2 rfl;have:=run_endRound (P:=P) jump hl3;rw [bL] at this ⊢;exact ⟨this,by rw [bL] at hl3;exact hl3,World.putObj_heap_same (Array.getElem?_eq_some_iff.1 hl3).1,(World.putObj_heap_other aa).trans (hk3.same _ _ (Nat.le_refl _) hk2 rfl)⟩
  rintro e a3 W3 hp;cases e with
  | normal=>
   obtain ⟨hk3,rG,gP⟩:=hp;obtain ⟨hr,hl3,hl4,hk4⟩:=fin none W3 hk3;exact ⟨_,_,hr,.inl ⟨rfl,⟨hI.putObj _ gP aa hl3 rfl,hl4,hk4⟩,hKt (hKt hw2 rG) (hKb _ _ _ _ aa hl3 rfl)⟩⟩
  | ret=>
   obtain ⟨hk3,gP⟩:=hp;obtain ⟨hr,hl3,hl4,hk4⟩:=fin (some .ret) W3 hk3;exact ⟨_,_,hr,.inr ⟨rfl,.ret,(hIx _).putObj _ gP aa hl3 rfl,hl4,hk4⟩⟩
  | exit id=>
   obtain ⟨hk3,gP⟩:=hp;obtain ⟨hr,hl3,hl4,hk4⟩:=fin (some (.exit id)) W3 hk3;exact ⟨_,_,hr,.inr ⟨rfl,.exit id,(hIx _).putObj _ gP aa hl3 rfl,hl4,hk4⟩⟩
  | goto t=>
   obtain ⟨hk3,gP⟩:=hp;obtain ⟨hr,hl3,hl4,hk4⟩:=fin (some (.goto t)) W3 hk3;exact ⟨_,_,hr,.inr ⟨rfl,.goto t,(hIx _).putObj _ gP aa hl3 rfl,hl4,hk4⟩⟩
  | panic ch=>exact hp.elim
  | outgrown=>exact hp.elim
 rintro e W2 ⟨⟨v,rfl⟩,(⟨xs,hS,hi,hl,hk⟩|⟨pre,hSp,c,hi,hl,hk⟩)⟩
 .exact ⟨none,_,by have:=run_endLoop (P:=P) hl (by rw [bL];simp);rw [bL] at this;exact this,hdone _ xs _ (Nat.le_refl _) hS (hI.putObj _ hi aa hl rfl) ((World.putObj_heap_other aa).trans hk)⟩
 exact ⟨some c,_,by have:=run_endLoop (P:=P) hl (by rw [bL];simp);rw [bL] at this;exact this,hstop _ c pre _ (Nat.le_refl _) hSp ((hIx c).putObj _ hi aa hl rfl) ((World.putObj_heap_other aa).trans hk)⟩
def cL (B:Nat) (ds:List Deferred) (w:World):Prop:=
 ∃ Ds:List Nat,ds=Ds.map (λD=>{ target:=.collected D,args:=#[] })/\Ds.Nodup/\∀ D∈Ds,B<=D/\w.heap[D]? = some (.deferred (some []))
theorem cL.nil (B:Nat) (w:World):cL B [] w:=⟨[],rfl,.nil,ag⟩
theorem cL.cons {B D:Nat} {ds:List Deferred} {w w':World} (h:cL B ds w) (hB:B<=D) (hk:KeepsFrom B w w') (hlt:w.heap.size<=D) (hD:w'.heap[D]? = some (.deferred (some []))) :
  cL B ({ target:=.collected D,args:=#[] } :: ds) w':=by
 obtain ⟨Ds,rfl,hn,hall⟩:=h;refine ⟨D :: Ds,rfl,List.nodup_cons.2 ⟨λhm=>?_,hn⟩,λD' zv=>?_⟩
 .have:=(Array.getElem?_eq_some_iff.1 (hall D hm).2).1;omega
 rcases List.mem_cons.1 zv with rfl|hm
 .exact ⟨hB,hD⟩
 exact ⟨(hall D' hm).1,hk.same _ _ (hall D' hm).1 (hall D' hm).2 rfl⟩
theorem cL.keep {B:Nat} {ds:List Deferred} {w w':World} (h:cL B ds w) (hk:KeepsFrom B w w'):cL B ds w':=by
 obtain ⟨Ds,rfl,hn,hall⟩:=h;exact ⟨Ds,rfl,hn,λD hD=>⟨(hall D hD).1,hk.same _ _ (hall D hD).1 (hall D hD).2 rfl⟩⟩
structure Q4 (B:Nat) (w w':World):Prop where
 below:Below B w w'
 cells:∀ (k:Nat) (o:Obj),w.heap[k]? = some o->o.isCells=true->w'.heap[k]? = some o
theorem jY {B n:Nat} {fn:Func} {tmps:Array Value} {R:Ending->World->Prop}:∀ (ds:List Deferred) (w:World),cL B ds w->
  (∀ w',Q4 B w w'->∃ v,(results fn tmps).run P w'=.ok v w'/\R (.returned v) w')->LeavesInM Fence.wide n P fn tmps R ds .returning w:=by
 intro ds;induction ds with
 | nil=>
  intro w _ h;exact h w ⟨Below.refl _ _,λ_ _ h _=>h⟩
 | cons d ds ih=>
  intro w hM h;obtain ⟨Ds,OA,hn,hall⟩:=hM;cases Ds with
  | nil=>cases OA
  | cons D Ds=>
   simp only [List.map_cons,List.cons.injEq] at OA;obtain ⟨rfl,rfl⟩:=OA;have hD:=hall D ag;have fR:=List.nodup_cons.1 hn;refine ⟨ag,.inl ⟨_,_,rfl,run_takeDeferred hD.2,?_⟩⟩;have hlt:=(Array.getElem?_eq_some_iff.1 hD.2).1;refine ih _ ⟨Ds,rfl,fR.2,λD' zv=>⟨(hall D' (by simp [zv])).1,?_⟩⟩ λw' hs=>h w' ?_
   .have hne:D'≠D:=λe=>fR.1 (e ▸ zv);exact (World.putObj_heap_other aa).trans (hall D' (by simp [zv])).2
   refine ⟨((Below.refl B w).grown (grownBy_putObj' w D (.deferred none)) (by have:=hD.1;omega) (λk e=>by cases e;exact hD.1)).trans hs.below,λk o hk ho=>?_⟩;refine hs.cells k o ?_ ho;have hne:k≠D:=λe=>by subst e;rw [hD.2] at hk;cases hk;cases ho
   exact (World.putObj_heap_other aa).trans hk
section
variable {b:Frame} {a:Act} {k:List Item} {cs:List Frame} {w:World} {Q:Exit->Act->World->Prop} {F:Fence} {n:Nat}
theorem Br {c:Code}:step P (lone (b.atR a (.code (.scope c) :: k)) cs w)=.next (lone (b.atR a (.code c :: .inScope c :: k)) cs w):=
 step_lone_go (by simp [stepG,stepG.exec,Frame.atR])
theorem nq_ {c:Code}:step P (lone (b.atR a (.inScope c :: k)) cs w)=.next (lone (b.atR a k) cs w):=
 step_lone_go (by simp [stepG,stepG.exec,Frame.atR])
theorem ik_ {c:Code} (h:c.wpIn F n P (Exit.noGoto Q) a w):(Code.scope c).wpIn F n P Q a w:=by
 intro b k cs hro hb hr;have h0:(lone (b.atR a (.code (.scope c) :: k)) cs w).fenced P F:=fenced_calm hb hr rfl;obtain ⟨e,a₁,w₁,hq,harr⟩:=h b (.inScope c :: k) cs hro hb hr;cases e with
 | normal=>exact ⟨.normal,a₁,w₁,hq,.head h0 Br (StepsIn.trans harr (.one (fenced_calm hb hr rfl) nq_))⟩
 | exit id=>
  have hx:exitTo id (.inScope c :: k)=exitTo id k:=by simp [exitTo]
  exact ⟨.exit id,a₁,w₁,hq,λk' hk=>.head h0 Br (harr.1 k' (by rw [hx];exact hk)),
   λhr' hk=>let ⟨k₁,h1,h2⟩:=harr.2 hr' (by rw [hx];exact hk);⟨k₁,h1,.head h0 Br h2⟩⟩
 | goto l=>exact hq.elim
 | ret=>exact ⟨_,a₁,w₁,hq,.of_steps (.one h0 Br) harr⟩
 | panic ch=>exact ⟨_,a₁,w₁,hq,.of_steps (.one h0 Br) harr⟩
 | outgrown=>exact ⟨_,a₁,w₁,hq,.of_steps (.one h0 Br) harr⟩
end
end
end Go
namespace Go.Proofs.YtbmgmlbmgogeaaaGreat
section
open Go.RowKit Kal
theorem vh_ (lo y:Int) (w:World) (h0:0<=lo) (h1:lo<=18446744073709551615) (hy:1<=y) (hy1:y<=18446744073709551615) :
  Calls Tryz.prog 261 #[.int .u64 0,.int .u64 lo,.int .u64 y] w λe w'=>e=.returned (.int .u64 (lo % y))/\∃ n,w'=w.drewN n:=by
 have oq:0<y:=aa
 go_in
 go_wp2_with (go_at_call 220;refine (UP _ _ _ h0 h1 hy hy1).mono ?_;rintro e w' ⟨rfl,nq,rfl⟩)
 go_ret;exact ⟨rfl,_,rfl⟩
theorem VM {a b:Int} (a0:0<=a) (a1:a<=4294967295) (b0:0<=b) (b1:b<=4294967295):0<=a*b/\a*b<=18446744065119617025:=by
 have h1:=Int.mul_nonneg a0 b0;have h2:=Int.mul_le_mul a1 b1 b0 aa;omega
theorem Ia (a b:Int) (w:World) (a0:0<=a) (a1:a<=4294967295) (b0:0<=b) (b1:b<=4294967295) :
  Calls Tryz.prog 218 #[.int .u64 a,.int .u64 b] w λe w'=>e=.returned (.tuple #[.int .u64 0,.int .u64 (a*b)])/\w=w':=by
 obtain ⟨p0,p1⟩:=VM a0 a1 b0 b1;obtain ⟨x,rfl⟩:=Int.eq_ofNat_of_zero_le a0;obtain ⟨y,rfl⟩:=Int.eq_ofNat_of_zero_le b0;have e:((x*y:Nat):Int)=(x:Int)*y:=by push_cast;rfl
 rw [<- e] at p0 p1 ⊢;refine (Tryz.bits_Mul64 x y aa aa w).mono ?_;rintro e w' ⟨rfl,rfl⟩;rw [Nat.div_eq_of_lt aa,Nat.mod_eq_of_lt aa];exact ⟨rfl,rfl⟩
theorem VZ (a b m:Int) (w:World) (a0:0<=a) (a1:a<=4294967295) (b0:0<=b) (b1:b<=4294967295) (hm:1<=m) (hm1:m<=4611686018427387904) :
  Calls Tryz.prog 257 #[.int .i64 a,.int .i64 b,.int .i64 m] w λe w'=>e=.returned (.int .i64 ((a*b) % m))/\∃ n,w'=w.drewN n:=by
 obtain ⟨p0,p1⟩:=VM a0 a1 b0 b1;have r0:=Int.emod_nonneg (a*b) (show m≠0 by omega);have r1:=Int.emod_lt_of_pos (a*b) (show 0<m by omega)
 go_in
 go_wp2_with (first|(go_at_call 218;refine (Ia _ _ _ a0 a1 b0 b1).mono ?_;rintro e w' ⟨rfl,rfl⟩)|(go_at_call 261;refine (vh_ _ _ _ p0 aa hm aa).mono ?_;rintro e w' ⟨rfl,nq,rfl⟩))
 go_ret;exact ⟨rfl,_,rfl⟩
def pg (a b:Int):Value:=if aS a b<=1099511627776 then .tuple #[.int .i64 (aS a b),.int .i64 0] else .tuple #[.int .i64 0,.int .i64 2]
theorem Xh (a b:Int) (w:World) (ha:1<=a) (ha1:a<=9223372036854775807) (hb:1<=b) (hb1:b<=9223372036854775807) :
  Calls Tryz.prog 222 #[.int .i64 a,.int .i64 b] w λe w'=>e=.returned (pg a b)/\∃ n,w'=w.drewN n:=by
 have hg:=nL (b:=b) ha;have mh:0<=a / (Int.gcd a b:Nat):=Int.ediv_nonneg aa aa;have s9:a / (Int.gcd a b:Nat)<=a:=Int.ediv_le_self _ aa;have hlt:1099511627776 / b<a / (Int.gcd a b:Nat)↔1099511627776<aS a b:=Int.ediv_lt_iff_lt_mul aa;have nY:0<=1099511627776 / b:=Int.ediv_nonneg aa aa;have dX:=yX ha hb;have HL:=ad (show aS a b=a / (Int.gcd a b:Nat)*b from rfl);by_cases hbig:aS a b<=1099511627776
 .have hle:a / (Int.gcd a b:Nat)<=1099511627776 / b:=aa;have HV:=ad (show pg a b=_ from if_pos hbig);have hp:0<=a / (Int.gcd a b:Nat)*b/\a / (Int.gcd a b:Nat)*b<=1099511627776:=by rw [<- HL.o];omega
  obtain ⟨vm,fs⟩:=hp;clear hlt;generalize hgd:((Int.gcd a b:Nat):Int)=g at *;have HG:=ad hgd;clear hgd
  go_in
  go_wp2_with (go_at_call 176;refine (zf _ _ _ ha ha1 hb hb1).mono ?_;rintro e w' ⟨he,nq,rfl⟩;rw [HG.o] at he;subst he)
  go_ret2;exact ⟨by rw [HV.o,HL.o];rfl,_,rfl⟩
 have hle:1099511627776 / b<a / (Int.gcd a b:Nat):=aa;have HV:=ad (show pg a b=_ from if_neg hbig);clear hlt;generalize hgd:((Int.gcd a b:Nat):Int)=g at *;have HG:=ad hgd;clear hgd
 go_in
 go_wp2_with (go_at_call 176;refine (zf _ _ _ ha ha1 hb hb1).mono ?_;rintro e w' ⟨he,nq,rfl⟩;rw [HG.o] at he;subst he)
 go_ret2;exact ⟨by rw [HV.o];rfl,_,rfl⟩
theorem U4 {x g B:Int} (hg:1<=g) (hB:0<=B) (h1:-B<=x) (h2:x<=B):-B<=x / g/\x / g<=B:=by
 have hm:B*1<=B*g:=Int.mul_le_mul_of_nonneg_left hg hB;constructor
 .rw [Int.le_ediv_iff_mul_le aa,Int.neg_mul];omega
 exact Int.lt_add_one_iff.1 ((Int.ediv_lt_iff_lt_mul aa).2 (by rw [Int.add_mul];omega))
theorem ya_ {a g:Int} (hd:a % g=0):a.tdiv g=a / g:=Int.tdiv_eq_ediv_of_dvd (Int.dvd_of_emod_eq_zero hd)
theorem yb_ {a g:Int} (hd:a % g=0):a.tmod g=0:=Int.tmod_eq_zero_of_dvd (Int.dvd_of_emod_eq_zero hd)
theorem vq_ (a m b n:Int) (w:World) (ha:aP a) (hb:aP b) (hm:1<=m) (hm1:m<=4294967295) (hn:1<=n) (mf:n<=4294967295) (hL:aS m n<=1099511627776)
  (hd:(b % n-a % m) % (Int.gcd m n:Nat)=0) :
  Calls Tryz.prog 248 #[.int .i64 a,.int .i64 m,.int .i64 b,.int .i64 n] w λe w'=>e=.returned (.tuple #[.int .i64 (gx a m b n),.int .i64 (aS m n),.int .i64 0])/\∃ n,w'=w.drewN n:=by
 have hg:=nL (b:=n) hm;have hg2:=wi (a:=m) hn;have iA:=UH hm hn;have r0:=Int.emod_nonneg a (show m≠0 by omega);have r1:=Int.emod_lt_of_pos a (show 0<m by omega);have s0:=Int.emod_nonneg b (show n≠0 by omega);have s1:=Int.emod_lt_of_pos b (show 0<n by omega);have HV:=ad (show pg m n=_ from if_pos hL);have dX:=yX hm hn;have ki:=λi hi=>Wt hm hn rfl rfl rfl hd (i:=i) hi rfl;obtain ⟨g,hgd⟩:∃ g,g=((Int.gcd m n:Nat):Int):=⟨_,rfl⟩;rw [<- hgd] at hg hg2 iA hd ki;have HG:=ad hgd.symm;clear hgd;have q1:1<=n / g:=(Int.le_ediv_iff_mul_le aa).2 aa;have q2:n / g<=n:=Int.ediv_le_self _ aa;have p1:0<=m / g:=Int.ediv_nonneg aa aa;have p2:m / g<=m:=Int.ediv_le_self _ aa;have HC:Hid (Int.gcd (m / g % (n / g)) (n / g)=1):=by rw [Jq p1 q1];exact ad iA
 have u0:=Int.emod_nonneg (m / g) (show n / g≠0 by omega);have u1:=Int.emod_lt_of_pos (m / g) (show 0<n / g by omega);have v0:=Int.emod_nonneg ((b % n-a % m) / g) (show n / g≠0 by omega);have v1:=Int.emod_lt_of_pos ((b % n-a % m) / g) (show 0<n / g by omega);have Jn:=ya_ hd;obtain ⟨e0,e1⟩:=U4 (x:=b % n-a % m) (g:=g) (B:=4294967295) aa aa aa aa;have jR:((b % n-a % m).tmod g != 0)=false:=by rw [yb_ hd];rfl
 have hinv:sP (m / g % (n / g)) (n / g) (sc (m / g % (n / g)) (n / g)):=by
  have:=Classical.epsilon_spec (p:=λv=>sP (m / g % (n / g)) (n / g) v) (Va u0 u1 HC.o);exact this
 have hS:=ki _ hinv;have HS:=ad (Ej hm hn hS);have z0:=hS.1;have z1:=hS.2.1;obtain ⟨i0,i1,_⟩:=hinv;have k0:=Int.emod_nonneg ((b % n-a % m) / g % (n / g)*sc (m / g % (n / g)) (n / g)) (show n / g≠0 by omega);have k1:=Int.emod_lt_of_pos ((b % n-a % m) / g % (n / g)*sc (m / g % (n / g)) (n / g)) (show 0<n / g by omega);have mk0:=Int.mul_nonneg (show 0<=m by omega) k0;clear hS ki iA hd;unfold aP at ha hb
 go_in
 go_wp2_with (first|(go_at_call 176;refine (zf _ _ _ hm aa hn aa).mono ?_;rintro e w' ⟨he,nq,rfl⟩;rw [HG.o] at he;subst he)|(go_at_call 256;refine (JI _ _ _ aa aa).mono ?_;rintro e w' ⟨rfl,rfl⟩)|(go_at_call 222;refine (Xh _ _ _ hm aa hn aa).mono ?_;rintro e w' ⟨he,QR,rfl⟩;rw [HV.o] at he;subst he))
 go_quiet ((first|(go_at_call 256;(first|exact td_ (JI _ _ _ aa aa)|exact mc_ (JI _ _ _ aa aa)))|(go_at_call 258;(first|exact Calls.quiet_of (UK _ _ _ aa aa aa HC.o)|exact Iw (UK _ _ _ aa aa aa HC.o)))|(go_at_call 257;(first|exact Calls.quiet_of (VZ _ _ _ _ aa aa aa aa aa aa)|exact Iw (VZ _ _ _ _ aa aa aa aa aa aa)))))
 go_wp2
 go_ret3
 refine ⟨?_,_,rfl⟩;rw [HS.o];simp
structure ak (w:World) (base:Nat) (v:Value) (l:List Int):Prop where
 row:w.ownsRow base 3 1 v l.length (l.map (Value.int .i64))
 rng:∀ x∈l,aP x
 len:l.length<=17592186044416
theorem ak.nil (w:World) (base:Nat):ak w base (.slice none 0 0) []:=⟨World.ownsRow_nil w base _ 1,ag,ag⟩
theorem ak.ints {w:World} {base:Nat} {v:Value} {l:List Int} (h:ak w base v l):Ints w v l:=by
 obtain ⟨⟨h1,h2⟩,h3,h4⟩:=h;refine ⟨?_,h4,h3⟩;rcases h2 with ⟨rfl,h0⟩|⟨g,cap,cur,rfl,hg,hh,hn,hc,hs,ht⟩
 .have:l=[]:=List.eq_nil_of_length_eq_zero h0;subst this;exact ⟨none,0,rfl,ag,aa,.inl rfl⟩
 unfold maxLen at hc;refine ⟨_,cap,rfl,hn,aa,.inr ⟨g,0,rfl,λi hi=>?_⟩⟩;have e:(cur.toList.take (l.length*1))[i]? = (l.map (Value.int .i64))[i]?:=by rw [ht]
 rw [List.getElem?_take_of_lt aa] at e;simp only [World.cell?,hh,Nat.zero_add,Option.isSome_none,Bool.false_eq_true,if_false];rw [<- Array.getElem?_toList,e];simp [hi]
theorem ak.form {w:World} {base:Nat} {v:Value} {l:List Int} (h:ak w base v l):∃ a c,v=.slice a l.length c:=by
 obtain ⟨a,c,hv,_⟩:=h.ints.is;exact ⟨a,c,hv⟩
theorem ak.kept {w w':World} {base:Nat} {v:Value} {l:List Int} {row:Option Nat} (h:ak w base v l) (hg:w.grownBy w' row) (hne:v.ownBlock=none\/v.ownBlock≠row):ak w' base v l:=
 ⟨h.row.kept hg hne,h.rng,h.len⟩
theorem ak.lt {w:World} {base:Nat} {v:Value} {l:List Int} (h:ak w base v l):∀ k,v.ownBlock=some k->base<=k/\k<w.heap.size:=h.row.lt
theorem ak.ext {w w':World} {base:Nat} {v:Value} {l:List Int} (h:ak w base v l) (hb:Below w.heap.size w w'):ak w' base v l:=by
 obtain ⟨⟨h1,h2⟩,h3,h4⟩:=h;refine ⟨⟨h1,?_⟩,h3,h4⟩;rcases h2 with h2|⟨g,cap,cur,hv,hg,hh,hr⟩
 .exact .inl h2
 exact .inr ⟨g,cap,cur,hv,hg,by rw [hb.block g (Array.getElem?_eq_some_iff.1 hh).1];exact hh,hr⟩
theorem ak.mono {w:World} {base base':Nat} {v:Value} {l:List Int} (h:ak w base v l) (hb:base'<=base):ak w base' v l:=by
 obtain ⟨⟨h1,h2⟩,h3,h4⟩:=h;refine ⟨⟨h1,?_⟩,h3,h4⟩;rcases h2 with h2|⟨g,cap,cur,hv,hg,hr⟩
 .exact .inl h2
 exact .inr ⟨g,cap,cur,hv,aa,hr⟩
structure b7 (B:Nat) (w w':World):Prop where
 size:w.heap.size<=w'.heap.size
 block:∀ k,B<=k->k<w.heap.size->w'.heap[k]? = w.heap[k]?
theorem b7.refl (B:Nat) (w:World):b7 B w w:=⟨Nat.le_refl _,λ_ _ _=>rfl⟩
theorem b7.alloc {B:Nat} {w W:World} (h:b7 B w W) (o:Obj):b7 B w (W.alloc o):=
 ⟨by have:=h.size;simp;omega,λk h1 h2=>(Below.heap_alloc W o k (by have:=h.size;omega)).trans (h.block k h1 h2)⟩
theorem b7.setCell {B:Nat} {w W:World} (h:b7 B w W) {a:Addr} (ha:a.block<B) (v:Value):b7 B w (W.setCell a v):=
 ⟨by have:=h.size;simp [World.setCell];omega,λk h1 h2=>(Below.heap_setCell W a v k aa).trans (h.block k h1 h2)⟩
theorem ak.above {w w':World} {base:Nat} {v:Value} {l:List Int} (h:ak w base v l) (hb:b7 base w w'):ak w' base v l:=by
 obtain ⟨⟨h1,h2⟩,h3,h4⟩:=h;refine ⟨⟨h1,?_⟩,h3,h4⟩;rcases h2 with h2|⟨g,cap,cur,hv,hg,hh,hr⟩
 .exact .inl h2
 exact .inr ⟨g,cap,cur,hv,hg,by rw [hb.block g hg (Array.getElem?_eq_some_iff.1 hh).1];exact hh,hr⟩
def w6_ (w:World) (l:List Int) (e:Ending) (w':World):Prop:=∃ v',e=.returned v'/\ak w' w.heap.size v' l/\Below w.heap.size w w'
theorem Bw (v:Value) (l:List Int) (w:World) (hv:Ints w v l):Calls Tryz.prog 96 #[v] w (w6_ w l):=by
 obtain ⟨⟨a,c,rfl,h1,h2,h3⟩,h4,h5⟩:=hv;rcases h3 with h3|⟨b,o,rfl,hcell⟩
 .subst h3;cases a with
  | none=>exact (Tryz.slices_Clone_int_nil 0 c w).mono λe w' ⟨he,hw⟩=>⟨_,he,by rw [hw];exact ak.nil w _,by rw [hw];exact Below.refl _ _⟩
  | some a=>exact (Tryz.slices_Clone_int_zero a c w).mono λe w' ⟨v',he,ho,_,hb⟩=>⟨v',he,⟨ho,ag,ag⟩,hb⟩
 refine (Tryz.slices_Clone_int b o l.length c l w (Nat.le_refl _) aa hcell).mono λe w' ⟨v',he,ho,_,hb⟩=>⟨v',he,⟨?_,h5,h4⟩,hb⟩;rwa [List.take_length] at ho
def ar (l:List Int):List Int:=l.mergeSort (λx y=>decide (x<=y))
theorem PK (l:List Int):(ar l).Perm l:=List.mergeSort_perm l _
theorem Bx (l:List Int) (x:Int):x∈ar l↔x∈l:=(PK l).mem_iff
theorem Bp (l:List Int):(ar l).length=l.length:=(PK l).length_eq
theorem Wu (l:List Int):(ar l).Pairwise (·<=·):=by
 have:=List.pairwise_mergeSort (le:=λx y:Int=>decide (x<=y)) (λa b c h1 h2=>by simp at *;omega) (λa b=>by simp;omega) l;exact this.imp λh=>by simpa using h
theorem Jv {l:List Int} (h:l.Nodup):(ar l).Pairwise (· < ·):=by
 have h1:=Wu l;have h2:(ar l).Nodup:=(PK l).symm.nodup h;exact (h1.and h2).imp λ⟨a,b⟩=>aa
theorem JD (v:Value) (l:List Int) (base:Nat) (w:World) (hv:ak w base v l) :
  Calls Tryz.prog 69 #[v] w λe w'=>e=.returned (.tuple #[])/\ak w' base v (ar l)/\w.grownBy w' v.ownBlock:=by
 have hv0:=hv;obtain ⟨⟨h1,h2⟩,h3,h4⟩:=hv;rcases h2 with ⟨rfl,h0⟩|⟨g,cap,cur,rfl,hg,hh,hn,hc,hs,ht⟩
 .have hl:l=[]:=List.eq_nil_of_length_eq_zero h0;refine (Tryz.slices_Sort_int_none none 0 w).mono λe w' ⟨he,hw⟩=>⟨he,?_,?_⟩
  .subst hl;rw [hw,show ar []=[] from List.eq_nil_of_length_eq_zero (by simp [Bp])];exact ak.nil w base
  rw [hw];exact ⟨rfl,rfl,rfl,Nat.le_refl _,λ_ _ _=>rfl⟩
 rw [Nat.mul_one] at ht;refine (Tryz.slices_Sort_int g 0 cap l w (holds_of_blockI hh ht) (Array.getElem?_eq_some_iff.1 hh).1 aa).mono λe w' ⟨he,n,os,hw⟩=>⟨he,?_,?_⟩
 .have:=ownsRow_sortedI (n:=n) (os:=os) (ts:=ar l) (Bp l) hg hh hn hc hs;rw [hw];refine ⟨?_,λx hx=>h3 x ((Bx l x).1 hx),by rw [Bp];exact h4⟩;rw [Bp];exact this
 rw [hw];exact grownBy_sortedI _
theorem wB:∃ i,Tryz.prog.info? 3=some i/\i.zero=some (.int .i64 0)/\i.size=1/\i.bytes=8:=by
 have h:(Tryz.prog.info? 3).map (λi=>(i.zero,i.size,i.bytes))=some (some (.int .i64 0),1,8):=by kernel_rfl
 obtain ⟨i,hi,h1,h2,h3⟩:=info_parts h;exact ⟨i,hi,h1,h2,h3⟩
theorem ak.below_grown {W w1:World} {base:Nat} {v:Value} {l:List Int} (h:ak W base v l) {W0:World} (hW:W0.heap.size<=W.heap.size\/True) (hbase:base<=W.heap.size) (hg:W.grownBy w1 v.ownBlock):Below base W w1:=
 (Below.refl base W).grown hg hbase (λk e=>(h.lt k e).1)
theorem ak.appended {w':World} {base g cap:Nat} {l:List Int} {y:Int} (hl:∀ x∈l,aP x) (hy:aP y) (hlen:l.length+1<=17592186044416)
  (h:w'.ownsRow base 3 1 (.slice (some ⟨g,0,none⟩) (l.length+1) cap) (l.length+1) (l.map (Value.int .i64) ++ [.int .i64 y])):ak w' base (.slice (some ⟨g,0,none⟩) (l.length+1) cap) (l ++ [y]):=by
 refine ⟨?_,λx hx=>?_,by simpa using hlen⟩
 .rw [List.length_append,List.map_append];exact h
 rcases List.mem_append.1 hx with hx|hx
 .exact hl x hx
 obtain rfl:x=y:=by simpa using hx
 exact hy
theorem pu_ (w:World) {ops:Array Oper} {o:Oper} {a:Act} {K:Act->World->Prop} {Q:Exit->Act->World->Prop} {E:Prop} (hgd:o.guard=none) (s x:Operand)
  (ho:o.op=.call { callee:=.builtin .append,args:=#[s,x],argTypes:=#[35,35] }) (base:Nat) (v:Value) (l:List Int) (y:Int) (hs:a.eval s=v) (hown:ak w base v l)
  (blk c:Nat) (hx:a.eval x=.slice (some ⟨blk,0,none⟩) 1 c) (hnew:w.cell? ⟨blk,0,none⟩=some (.int .i64 y)) (hy:aP y) (hlen:l.length+1<=17592186044416) (hbase:base<=w.heap.size)
  (h:∀ g cap w',ak w' base (.slice (some ⟨g,0,none⟩) (l.length+1) cap) (l ++ [y])->w.grownBy w' v.ownBlock->Below base w w'->K (a.put o.dst (.slice (some ⟨g,0,none⟩) (l.length+1) cap)) w') :
  if Region.wanted o (yielded ops a.tmps)=true then Oper.wp Tryz.prog o a w K Q else E:=by
 obtain ⟨i,hi,h1,h2,h3⟩:=wB;refine step_append_lies w hgd s x 35 ho base 3 i (.int .i64 0) 1 8 Tryz.underlying35 hi h1 h2 h3 rfl aa v l.length (l.map (Value.int .i64)) hs hown.row ⟨blk,0,none⟩ 1 c [.int .i64 y] hx rfl ?_ (by simp [Value.oneCell']) aa (by unfold maxLen;omega) aa hbase _ rfl ?_
 .intro j u hu
  match j,hu with
  | 0,hu=>simp at hu;subst hu;exact hnew
 intro g cap w' hown' hgrow _ _;exact h g cap w' (ak.appended hown.rng hy hlen hown') hgrow (hown.below_grown (W0:=w) (.inr trivial) hbase hgrow)
theorem pA {w:World} {ops:Array Oper} {rest:List Oper} {o:Oper} {a:Act} {Q:Exit->Act->World->Prop} (hgd:o.guard=none) (s x:Operand)
  (ho:o.op=.call { callee:=.builtin .append,args:=#[s,x],argTypes:=#[35,35] }) (base:Nat) (v:Value) (l:List Int) (y:Int) (hs:a.eval s=v) (hown:ak w base v l)
  (blk c:Nat) (hx:a.eval x=.slice (some ⟨blk,0,none⟩) 1 c) (hnew:w.cell? ⟨blk,0,none⟩=some (.int .i64 y)) (hy:aP y) (hlen:l.length+1<=17592186044416) (hbase:base<=w.heap.size)
  (h:∀ g cap w',ak w' base (.slice (some ⟨g,0,none⟩) (l.length+1) cap) (l ++ [y])->w.grownBy w' v.ownBlock->Below base w w'->wpList Tryz.prog ops Q rest (a.put o.dst (.slice (some ⟨g,0,none⟩) (l.length+1) cap)) w') :
  wpList Tryz.prog ops Q (o :: rest) a w:=by
 obtain ⟨i,hi,h1,h2,h3⟩:=wB;refine wpList_append_lies w hgd s x 35 ho base 3 i (.int .i64 0) 1 8 Tryz.underlying35 hi h1 h2 h3 rfl aa v l.length (l.map (Value.int .i64)) hs hown.row ⟨blk,0,none⟩ 1 c [.int .i64 y] hx rfl ?_ (by simp [Value.oneCell']) aa (by unfold maxLen;omega) aa hbase _ rfl ?_
 .intro j u hu
  match j,hu with
  | 0,hu=>simp at hu;subst hu;exact hnew
 intro g cap w' hown' hgrow _ _;exact h g cap w' (ak.appended hown.rng hy hlen hown') hgrow (hown.below_grown (W0:=w) (.inr trivial) hbase hgrow)
theorem vv_ {i k:Nat}:((i:Int)-(k:Int)).toNat=i-k:=aa
open Classical in
noncomputable def BV (C:List Int) (d:Int) (k:Nat):Bool:=decide (sQ C d k)
theorem Ik {C:List Int} {d:Int} {k:Nat}:BV C d k=true↔sQ C d k:=by unfold BV;simp
theorem BB {C:List Int} {i:Nat} (h:i<C.length):C.getD i 0=C[i]:=by simp [h]
theorem y2_ (cv:Value) (C:List Int) (T:Int) (parts:Int) (d:Int) (k:Nat) (pb nb cb:Addr) (w:World)
  (wM:1<=T) (hT:T<=1125899906842624) (hC:aG 0 T C) (hcv:Ints w cv C) (hp:w.cell? pb=some (.int .i64 T)) (hn:w.cell? nb=some (.int .i64 C.length)) (hc:w.cell? cb=some cv)
  (hparts:1<=parts) (hd:T / parts=d) (hk:(C.length:Int) / parts=k) (Ac:1<=k) (hkn:k<=C.length) :
  Calls Tryz.prog 212 #[.int .i64 parts,.pointer (some pb),.pointer (some nb),.pointer (some cb)] w λe w'=>e=.returned (.bool (BV C d k))/\∃ n,w'=w.drewN n:=by
 have nY:0<=d:=hd ▸ Int.ediv_nonneg aa aa;have fm:d<=T:=hd ▸ Int.ediv_le_self _ aa;obtain ⟨⟨a,c,rfl,hlc,hcc,bY⟩,hlen,_⟩:=hcv;rcases bY with h|⟨b,o,rfl,hcell⟩
 .subst h;simp at hkn;omega
 have hE:∀ i,i<C.length->0<=C.getD i 0/\C.getD i 0<T:=λi hi=>by rw [BB hi];exact hC.get_bounds hi
 have HC:=ad hcell;have HE:=ad hE;clear hcell hE;have dX:(0:Int)<parts:=aa
 go_in
 go_wp2_with fail
 go_quiet (fail)
 go_wp2
 go_loopw [8] (λi wr=>∃ j:Nat,k<=j/\j<=C.length/\i=.int .i64 j/\(∀ x,k<=x->x<j->C.getD x 0=C.getD (x-k) 0+d)/\∃ n,wr=w.drewN n) (λi _=>C.length-(intOf i).toNat)
 .exact ⟨k,Nat.le_refl _,hkn,rfl,λx h1 h2=>aa,_,rfl⟩
 obtain ⟨j,hkj,hj,rfl,hall,n,rfl⟩:=hrel;have HA:=ad hall;clear hall;by_cases hlt:j<C.length
 .have h1:=HC.o j hlt;have h2:=HC.o (j-k) aa;have e1:=HE.o j hlt;have e2:=HE.o (j-k) aa;have hs:=@vv_ j k;obtain ⟨x,hx⟩:∃ x,x=C.getD j 0:=⟨_,rfl⟩;obtain ⟨y,hy⟩:∃ y,y=C.getD (j-k) 0:=⟨_,rfl⟩;rw [<- hx] at h1 e1;rw [<- hy] at h2 e2;have HX:=ad hx;have HY:=ad hy;clear hx hy;have FR:(j:Int)<C.length:=aa;go_wp2_with fail;go_quiet (fail)
  go_wp2_with fail
  .have hne:x≠y+d:=by simpa using ‹(x != y+d)=true›
   go_ret;refine ⟨bT ?_,_,World.drewN_drewN _ _ _⟩;have Al:¬ sQ C d k:=λh=>hne (by rw [HX.o,HY.o,BB hlt,BB (show j-k<C.length by omega)];exact h.1 j hlt hkj);have hf:BV C d k=false:=by rw [<- Bool.not_eq_true,Ik];exact Al
   rw [hf]
  have heq:x=y+d:=by simpa using ‹(x != y+d)=false›
  refine ⟨⟨j+1,aa,aa,by go_num,λz h1 h2=>?_,_,rfl⟩,by simp [intOf];try omega⟩;rcases Nat.lt_or_ge z j with h3|h3
  .exact HA.o z h1 h3
  obtain rfl:z=j:=aa;rw [<- HX.o,<- HY.o];exact heq
 have hjn:¬ (j:Int)<C.length:=aa;have h1:=HC.o (k-1) aa;have e1:=HE.o (k-1) aa;have hs:((k:Int)-1).toNat=k-1:=aa;obtain ⟨x,hx⟩:∃ x,x=C.getD (k-1) 0:=⟨_,rfl⟩;rw [<- hx] at h1 e1;have HX:=ad hx;have fM:(1:Int)<=k:=aa;have aL:BV C d k=decide (x<d):=by
  rw [Bool.eq_iff_iff,Ik,decide_eq_true_iff,hx,BB (show k-1<C.length by omega)];constructor
  .exact λh=>h.2.2
  refine λh=>⟨λi hi TD=>?_,aa,h⟩;have:=HA.o i TD aa;rwa [BB hi,BB (show i-k<C.length by omega)] at this
 have HF:=ad aL;clear hx aL;go_wp2;go_ret;exact ⟨bT HF.o.symm,_,rfl⟩
theorem Ints.take {w:World} {a:Option Addr} {n c k:Nat} {l:List Int} (h:Ints w (.slice a n c) l) (hk:k<=l.length):Ints w (.slice a k c) (l.take k):=by
 obtain ⟨⟨a',c',he,h1,h2,h3⟩,h4,h5⟩:=h;injection he with e1 e2 e3
 subst e1;subst e3;have hl:(l.take k).length=k:=by simp;omega
 refine ⟨⟨a,c,by rw [hl],by rw [hl];omega,h2,?_⟩,by rw [hl];omega,λx hx=>h5 x (List.mem_of_mem_take hx)⟩;rcases h3 with rfl|⟨b,o,rfl,hc⟩
 .exact .inl ag
 refine .inr ⟨b,o,rfl,λi hi=>?_⟩;rw [hl] at hi;rw [hc i aa];simp [hi]
def wi_ (p:Per) (a:Option Addr) (c:Nat) (w:World) (e:Ending) (w':World):Prop:=
 ∃ (d:Int) (B:List Int),e=.returned (.tuple #[.int .i64 d,.slice a B.length c])/\Ints w' (.slice a B.length c) B/\wH p d B/\Below w.heap.size w w'
theorem qm_ (a:Option Addr) (c:Nat) (p:Per) (w:World) (hw:p.WF) (hne:p.cycle≠[]) (hT:p.period<=1125899906842624) (hcv:Ints w (.slice a p.cycle.length c) p.cycle) :
  Calls Tryz.prog 177 #[.int .i64 p.period,.slice a p.cycle.length c] w (wi_ p a c w):=by
 have wM:=hw.per;have hl:∀ W,Below w.heap.size w W->Ints W (.slice a p.cycle.length c) p.cycle:=λW hb=>hcv.ext hb;have mf:1<=p.cycle.length:=by
  rcases Nat.eq_zero_or_pos p.cycle.length with h|h
  .exact absurd (List.eq_nil_of_length_eq_zero h) hne
  exact h
 obtain ⟨⟨a',c',he,hlc,hcc,bY⟩,hlen,_⟩:=hcv;injection he with cI eB dk
 subst cI;subst dk;have dh:(1:Int)<=p.cycle.length:=aa
 go_in
 go_wp2
 go_loopw [8,4,5] (λq _ _ wr=>∃ j:Nat,1<=j/\j<=p.cycle.length/\q=.int .i64 j/\(∀ q' d' k',j<q'->1<=d'->1<=k'->p.period=(q':Nat)*d'->p.cycle.length=q' * k'->¬ sQ p.cycle d' k')/\Below w.heap.size w wr/\wr.cell? ⟨w.heap.size,0,none⟩=some (.int .i64 p.period)/\wr.cell? ⟨w.heap.size+1,0,none⟩=some (.slice a p.cycle.length c)/\wr.cell? ⟨w.heap.size+1+1,0,none⟩=some (.int .i64 p.cycle.length)) (λq _ _ _=>(intOf q).toNat)
 .refine ⟨p.cycle.length,mf,Nat.le_refl _,rfl,λq' d' k' h1 h2 h3 h4 h5=>?_,by exact xE,by go_simp,by go_simp,by go_simp⟩;have:q' * 1<=q' * k':=Nat.mul_le_mul_left _ h3;omega
 obtain ⟨j,OS,hjn,rfl,hmax,hb,hc1,hc2,hc3⟩:=hrel;have HM:=ad hmax;clear hmax;by_cases I1:1<j
 .have rD:(1:Int)<j:=aa;by_cases fm:(p.cycle.length:Int) % j=0
  .by_cases kM:p.period % j=0
   .obtain ⟨d,hd⟩:∃ d,p.period / j=d:=⟨_,rfl⟩;obtain ⟨k,hk⟩:∃ k:Nat,(p.cycle.length:Int) / j=k:=⟨p.cycle.length / j,ag⟩;have Te:p.period=(j:Nat)*d:=by rw [<- hd];exact (Int.mul_ediv_cancel' (Int.dvd_of_emod_eq_zero kM)).symm
    have Je:p.cycle.length=j*k:=by
     have:=Int.mul_ediv_cancel' (Int.dvd_of_emod_eq_zero fm);rw [hk] at this;have e:((j*k:Nat):Int)=p.cycle.length:=by rw [<- this];push_cast;rfl
     omega
    have Ox:1<=d:=by
     rcases Int.lt_or_le 0 d with h|h
     .omega
     have:=Int.mul_nonpos_of_nonneg_of_nonpos (show (0:Int)<=(j:Nat) by omega) h;omega
    have FJ:1<=k:=by
     rcases Nat.eq_zero_or_pos k with h|h
     .subst h;exact absurd (by simpa using Je) hne
     exact h
    have hkn:k<=p.cycle.length:=by rw [Je];exact Nat.le_mul_of_pos_left k aa
    have hdT:d<=p.period:=hd ▸ Int.ediv_le_self _ aa;have V:=ad (λW hb h1 h2 h3=>y2_ (.slice a p.cycle.length c) p.cycle p.period j d k ⟨w.heap.size,0,none⟩ ⟨w.heap.size+1+1,0,none⟩ ⟨w.heap.size+1,0,none⟩ W wM hT hw.cyc (hl W hb) h1 h2 h3 aa hd hk FJ hkn);have HTd:=ad Te;have Dm:=ad Je;have hb1:((p.cycle.length:Int) % j == 0)=true:=by simpa using fm
    have hb2:(p.period % (j:Int) == 0)=true:=by simpa using kM
    clear Te Je fm kM;cases hP:BV p.cycle d k with
    | true=>
     have S9:=Ik.1 hP;have HS:=ad (Nb hw hne Ox aa HTd.o Dm.o FJ S9 (λq' d' k'=>HM.o q' d' k'));clear S9;go_wp2_with (go_at_call 212;refine (V.o _ xE (by assumption) (by assumption) (by assumption)).mono ?_;rintro e w' ⟨he,nq,rfl⟩;rw [hP] at he;subst he);go_quiet (fail)
     go_wp2
     go_ret2;have ng:(p.cycle.take k).length=k:=by simp;omega
     exact ⟨p.period / j,p.cycle.take k,by rw [ng];rfl,by rw [ng];exact ((hl _ xE).take hkn),by rw [hd];exact HS.o,xE⟩
    | false=>
     go_wp2_with (go_at_call 212;refine (V.o _ xE (by assumption) (by assumption) (by assumption)).mono ?_;rintro e w' ⟨he,nq,rfl⟩;rw [hP] at he;subst he)
     refine ⟨⟨j-1,aa,aa,by congr 1;omega,λq' d' k' h1 h2 h3 h4 h5 h6=>?_,by exact xE,hc1,hc2,hc3⟩,by simp [intOf];omega⟩;rcases Nat.lt_or_ge j q' with h7|h7
     .exact HM.o q' d' k' h7 h2 h3 h4 h5 h6
     obtain rfl:q'=j:=aa;have e1:d'=d:=Int.eq_of_mul_eq_mul_left (show ((q':Nat):Int)≠0 by omega) (h4.symm.trans HTd.o);have e2:k'=k:=Nat.eq_of_mul_eq_mul_left (show 0<q' by omega) (h5.symm.trans Dm.o);subst e1;subst e2;rw [Ik.2 h6] at hP;cases hP
   have hb1:((p.cycle.length:Int) % j == 0)=true:=by simpa using fm
   have hb2:(p.period % (j:Int) == 0)=false:=by simpa using kM
   have H2:=ad kM;clear fm kM;go_wp2_with fail;refine ⟨⟨j-1,aa,aa,by congr 1;omega,λq' d' k' h1 h2 h3 h4 h5 h6=>?_,by exact xE,hc1,hc2,hc3⟩,by simp [intOf];omega⟩;rcases Nat.lt_or_ge j q' with h7|h7
   .exact HM.o q' d' k' h7 h2 h3 h4 h5 h6
   obtain rfl:q'=j:=aa;exact H2.o (by rw [h4];exact Int.mul_emod_right _ _)
  have hb1:((p.cycle.length:Int) % j == 0)=false:=by simpa using fm
  have H1:=ad fm;clear fm;go_wp2_with fail;refine ⟨⟨j-1,aa,aa,by congr 1;omega,λq' d' k' h1 h2 h3 h4 h5 h6=>?_,by exact xE,hc1,hc2,hc3⟩,by simp [intOf];omega⟩;rcases Nat.lt_or_ge j q' with h7|h7
  .exact HM.o q' d' k' h7 h2 h3 h4 h5 h6
  obtain rfl:q'=j:=aa;exact H1.o (by rw [h5];push_cast;exact Int.mul_emod_right _ _)
 obtain rfl:j=1:=aa;have hP:sQ p.cycle p.period p.cycle.length:=⟨λi hi hk=>aa,aa,by have:=hw.cyc.get_bounds (i:=p.cycle.length-1) aa;exact this.2⟩;have HS:=ad (Nb hw hne wM (Nat.le_refl 1) ag ag mf hP (λq' d' k'=>HM.o q' d' k'));clear hP;go_wp2_with fail;go_quiet (fail)
 go_wp2
 go_ret2;have ng:=HS.o;rw [List.take_length] at ng;exact ⟨p.period,p.cycle,rfl,(hl _ xE),ng,xE⟩
end
section
open Go.RowKit Go.Shelf Kal
attribute [local go_sem] Oper.semAt_some
def cX (pb:Nat->Prop) (A B:World):Prop:=∀ k,pb k->B.heap[k]? = A.heap[k]?
theorem cX.refl (pb:Nat->Prop) (A:World):cX pb A A:=λ_ _=>rfl
theorem cX.trans {pb:Nat->Prop} {A B C:World} (h:cX pb A B) (h':cX pb B C):cX pb A C:=λk hk=>(h' k hk).trans (h k hk)
theorem cX.cell {pb:Nat->Prop} {A B:World} (h:cX pb A B) {a:Addr} {v:Value} (hp:pb a.block) (hc:A.cell? a=some v):B.cell? a=some v:=
 (World.cell?_of_block (h a.block hp)).trans hc
theorem cX.putObj {pb:Nat->Prop} {n:Nat} (bJ:∀ k,pb k->k<n) (W:World) (l:Nat) (o o':Obj) (hl:n<=l) (_:W.heap[l]? = some o) (_:o.isCells=false):cX pb W (W.putObj l o'):=
 λk hk=>World.putObj_heap_other (by have:=bJ k hk;omega)
def bk (l:List Int):List (Int × Int):=(List.range l.length).reverse.map λ(i:Nat)=>((i:Int),l.getD i 0)
theorem Bu (l:List Int):(bk l).length=l.length:=by simp [bk]
theorem Xz (l:List Int) (j:Nat) (h:j<l.length):(bk l)[j]'(by rw [Bu];exact h)=(((l.length-1-j:Nat):Int),l.getD (l.length-1-j) 0):=by
 simp [bk]
theorem WY (l:List Int) (j:Nat) (h:j<l.length):(bk l).take (j+1)=(bk l).take j ++ [(((l.length-1-j:Nat):Int),l.getD (l.length-1-j) 0)]:=by
 rw [List.take_succ_eq_append_getElem (by rw [Bu];exact h),Xz l j h]
theorem o7_ (sv:Value) (l:List Int) (bx:Nat) (w:World) (pb:Nat->Prop) (hs:Ints w sv l) (hbx:w.cell? ⟨bx,0,none⟩=some sv) (h1:pb bx)
  (h3:∀ b o n c,sv=.slice (some ⟨b,o,none⟩) n c->pb b) :
  yR Tryz.prog 213 #[.pointer (some ⟨bx,0,none⟩)] (λy:Int × Int=>#[.int .i64 y.1,.int .i64 y.2]) (cX pb) none (λpre=>pre <+: bk l) (λxs=>xs=bk l) (λ_=>True) w:=by
 intro l' J Jx W hW hJ zA hN hY h0;obtain ⟨⟨a,c,rfl,hlc,hcc,bY⟩,hlen,_⟩:=hs;have wP:W.cell? ⟨bx,0,none⟩=some (.slice a l.length c):=al.cell hW hbx;refine callsIn_of_wp Tryz.func213 rfl trivial ?_ rfl;simp only [Tryz.ntmps213,List.size_toArray,List.length_cons,List.length_nil,Nat.reduceAdd,Nat.reduceSub,Array.replicate_succ,Array.replicate_zero,List.push_toArray,List.append_toArray,List.nil_append,List.cons_append]
 gi_wp2
 gi_loopw [3] (λi wr=>∃ j:Nat,j<=l.length/\i=.int .i64 ((l.length:Int)-1-j)/\J ((bk l).take j) wr/\cX pb W wr) (λi _=>(intOf i+1).toNat)
 .exact ⟨0,Nat.zero_le _,ag,by simpa using h0,cX.refl _ _⟩
 obtain ⟨j,hj,rfl,dC,hK⟩:=hrel;by_cases hlt:j<l.length
 .rcases bY with h|⟨b,o,rfl,hcell⟩
  .subst h;simp at hlt
  have hb2:=hK.cell h1 wP;have hc2:=hK.cell (a:=⟨b,o+(l.length-1-j),none⟩) (h3 b o _ _ rfl) (al.cell hW (hcell (l.length-1-j) aa));have ht:=WY l j hlt;have hpre:(bk l).take j ++ [(((l.length-1-j:Nat):Int),l.getD (l.length-1-j) 0)] <+: bk l:=by rw [<- WY l j hlt];exact List.take_prefix _ _
  have od:((l.length:Int)-1-j).toNat=l.length-1-j:=aa;have hcast:((l.length-1-j:Nat):Int)=(l.length:Int)-1-j:=aa;obtain ⟨x,hx⟩:∃ x,x=l.getD (l.length-1-j) 0:=⟨_,rfl⟩;rw [hcast,<- hx] at ht hpre;rw [<- hx] at hc2;obtain ⟨fn,tmps,assign,body,hy,hR⟩:=hY _ _ wr dC hpre;dsimp only at hy;have HT:=ad ht;have HP:=ad hpre;clear hcast hpre hcell ht hx
  gi_wp2
  refine ⟨rfl,hR.mono ?_⟩;rintro e W' (⟨rfl,gz,hk⟩|⟨rfl,fh⟩)
  .gi_wp2
   go_roundw
   .exact ⟨j+1,aa,by go_num,by rw [HT.o];exact gz,hK.trans hk⟩
   simp [intOf];omega
  gi_wp2
  refine bodyPost_ret (results_none rfl _ _ _) rfl ?_;exact ⟨⟨_,rfl⟩,.inr ⟨_,HP.o,fh⟩⟩
 have Aj:(l.length:Int)-1-j<0:=aa
 gi_wp2
 go_end0
 exact ⟨⟨_,rfl⟩,.inl ⟨bk l,rfl,by rw [List.take_of_length_le (by rw [Bu];omega)] at dC;exact dC⟩⟩
end
section
open Go.RowKit Go.Shelf Kal
structure jg (w:World) (base:Nat) (h c:Value) (p:Per):Prop where
 hd:ak w base h p.head
 cy:ak w base c p.cycle
theorem jg.is {w:World} {base:Nat} {h c:Value} {p:Per} (hp:jg w base h c p):bX w h c p:=⟨hp.hd.ints,hp.cy.ints⟩
theorem jg.mono {w:World} {base base':Nat} {h c:Value} {p:Per} (hp:jg w base h c p) (hb:base'<=base):jg w base' h c p:=⟨hp.hd.mono hb,hp.cy.mono hb⟩
theorem jg.above {w w':World} {base:Nat} {h c:Value} {p:Per} (hp:jg w base h c p) (hb:b7 base w w'):jg w' base h c p:=⟨hp.hd.above hb,hp.cy.above hb⟩
theorem jg.form {w:World} {base:Nat} {h c:Value} {p:Per} (hp:jg w base h c p):∃ a1 c1 a2 c2,h=.slice a1 p.head.length c1/\c=.slice a2 p.cycle.length c2:=by
 obtain ⟨a1,c1,h1⟩:=hp.hd.form;obtain ⟨a2,c2,h2⟩:=hp.cy.form;exact ⟨a1,c1,a2,c2,h1,h2⟩
def IZ (S:Int->Prop) (w:World) (e:Ending) (w':World):Prop:=
 ∃ (h' c':Value) (q:Per),e=.returned (.agg #[h',.int .i64 q.frm,.int .i64 q.period,c'])/\bP q S/\jg w' w.heap.size h' c' q/\Below w.heap.size w w'
theorem ob_ (h c:Value) (p:Per) (w:World) (hp:bX w h c p) (hw:p.WF) (h1:p.frm<=1125899906842624) (aL:p.cycle=[]) :
  Calls Tryz.prog 129 #[.agg #[h,.int .i64 p.frm,.int .i64 p.period,c]] w (IZ p.mem w):=by
 have hl:∀ W,Below w.heap.size w W->Ints W h p.head:=λW hb=>hp.hd.ext hb;have HC:=ad (Vx hw aL);have hE:∀ i,i<p.head.length->0<=p.head.getD i 0/\p.head.getD i 0<p.frm:=λi hi=>jl hw.head hi;obtain ⟨⟨⟨a,cap,rfl,hlc,hcc,bY⟩,hlen,_⟩,⟨ca,aI,rfl,_,_,_⟩,_,_⟩:=hp;rw [aL];have HE:=ad hE;have qk:=ad aL;clear hE aL;simp only [List.length_nil];by_cases h0:p.head.length=0
 .have hn:¬ (0:Int)<p.head.length:=aa;have H0:=ad h0;clear h0
  go_in
  go_wp2
  go_step3
  go_wp2_with (go_at_call 96;refine (Bw _ p.head _ (hl _ xE)).mono ?_;rintro e w1 ⟨v',rfl,ho,hb1⟩;obtain ⟨va,vc,rfl⟩:=ho.form;obtain ⟨hc1,gh⟩:=fJ hb1;have hz:w.heap.size+1+1<w1.heap.size:=(by have:=hb1.size;simp at this;omega);have hz1:w.heap.size+1<w1.heap.size:=aa;have hz0:w.heap.size<w1.heap.size:=aa)
  rw [Exit.noGoto_ret];refine bodyPost_ret (v:=.agg #[.slice va p.head.length vc,.int .i64 0,.int .i64 1,.slice none 0 0]) ?_ rfl ?_
  .simp [results,Tryz.results129,go_sem, *]
  refine ⟨_,_,⟨p.head,0,1,[]⟩,rfl,?_,⟨?_,ak.nil _ _⟩,?_⟩
  .have:=HC.o;rwa [if_pos H0.o] at this
  .exact (ho.above (by (repeat' (with_reducible first|exact b7.refl _ _|refine b7.alloc ?_ _|refine b7.drew ?_|refine b7.drewN ?_ _|refine b7.setCell ?_ (by first|(simp;done)|(simp;omega)|omega) _)))).mono (by first|(simp;done)|(simp;omega)|omega)
  exact xE
 have hn:(0:Int)<p.head.length:=aa;have H0:=ad h0;rcases bY with hh|⟨b,o,rfl,hcell⟩
 .rw [hh] at h0;exact absurd rfl h0
 have hcl:=hcell (p.head.length-1) aa;have hx1:((p.head.length:Int)-1).toNat=p.head.length-1:=aa;have jK:=HE.o (p.head.length-1) aa;obtain ⟨x,hx⟩:∃ x,x=p.head.getD (p.head.length-1) 0:=⟨_,rfl⟩;rw [<- hx] at hcl jK;have HX:=ad hx;clear hcell h0 hx
 go_in
 go_wp2
 go_step3
 go_wp2_with (go_at_call 96;refine (Bw _ p.head _ (hl _ xE)).mono ?_;rintro e w1 ⟨v',rfl,ho,hb1⟩;obtain ⟨va,vc,rfl⟩:=ho.form;have hc4:=al.cell (w:=w) (W:=w1) xE hcl;have hblt:b<w1.heap.size:=World.block_lt_of_cell? _ _ hc4;obtain ⟨hc1,gh⟩:=fJ hb1;have hz:w.heap.size+1+1<w1.heap.size:=(by have:=hb1.size;simp at this;omega);have hz1:w.heap.size+1<w1.heap.size:=aa;have hz0:w.heap.size<w1.heap.size:=aa)
 rw [Exit.noGoto_ret];refine bodyPost_ret (v:=.agg #[.slice va p.head.length vc,.int .i64 (x+1),.int .i64 1,.slice none 0 0]) ?_ rfl ?_
 .simp [results,Tryz.results129,go_sem, *]
 refine ⟨_,_,⟨p.head,x+1,1,[]⟩,rfl,?_,⟨?_,ak.nil _ _⟩,?_⟩
 .have:=HC.o;rw [if_neg H0.o,<- HX.o] at this;exact this
 .exact (ho.above (by (repeat' (with_reducible first|exact b7.refl _ _|refine b7.alloc ?_ _|refine b7.drew ?_|refine b7.drewN ?_ _|refine b7.setCell ?_ (by first|(simp;done)|(simp;omega)|omega) _)))).mono (by first|(simp;done)|(simp;omega)|omega)
 exact xE
attribute [local go_sem] Oper.semAt_some
theorem o6_ (sv:Value) (w:World) (h:∃ a n c,sv=.slice a n c) :
  Calls Tryz.prog 178 #[sv] w λe w'=>e=.returned (.func (.func 213) #[] #[.pointer (some ⟨w.heap.size,0,none⟩)])/\w.alloc (.cells #[sv] 35)=w':=by
 obtain ⟨a,n,c,rfl⟩:=h
 go_in
 go_wp2;go_ret;exact ⟨rfl,rfl⟩
theorem Ei {A B:World} {row:Option Nat} {k:Nat} {c:Array Value} {t:TypeId} {f:Nat × Nat} (h:A.heap[k]? = some (.cells c t f)) (hg:A.grownBy B row)
  (hr:∀ r,row=some r->∃ o:Obj,A.heap[r]? = some o/\o.isCells=false):B.heap[k]? = some (.cells c t f):=by
 refine (hg.block k (Array.getElem?_eq_some_iff.1 h).1 λe=>?_).trans h;obtain ⟨o,ho,hc⟩:=hr k e.symm;rw [h] at ho;cases ho;cases hc
structure CI (w:World) (s0:Nat) (p:Per) (ha:Option Addr) (aQ:Nat) (ca:Option Addr) (aI:Nat) (j:Nat) (sv:Int) (bb:Nat) (bv:Int) (W:World):Prop where
 below:Below w.heap.size w W
 pbox:W.heap[w.heap.size]? = some (.cells #[.slice ha p.head.length aQ,.int .i64 p.frm,.int .i64 p.period,.slice ca p.cycle.length aI] 80 (0,0))
 rbox:W.heap[w.heap.size+1]? = some (.cells #[.slice none 0 0,.int .i64 0,.int .i64 0,.slice none 0 0] 80 (0,0))
 hbox:Boxed W (w.heap.size+1+1) 35 (.slice ha (p.head.length-j) aQ)
 sbox:Boxed W s0 3 (.int .i64 sv)
 bbox:Boxed W bb 3 (.int .i64 bv)
 hs:w.heap.size+1+1<s0
 bs:s0<bb
theorem CI.grow {w:World} {s0:Nat} {p:Per} {ha:Option Addr} {aQ:Nat} {ca:Option Addr} {aI j:Nat} {sv:Int} {bb:Nat} {bv:Int} {W W':World} {row:Option Nat} (h:CI w s0 p ha aQ ca aI j sv bb bv W)
  (hg:W.grownBy W' row) (hr:∀ r,row=some r->w.heap.size<=r/\∃ o:Obj,W.heap[r]? = some o/\o.isCells=false):CI w s0 p ha aQ ca aI j sv bb bv W':=
 ⟨h.below.grown hg h.below.size (λk e=>(hr k e).1),Ei h.pbox hg (λr e=>(hr r e).2),Ei h.rbox hg (λr e=>(hr r e).2),Ei h.hbox hg (λr e=>(hr r e).2),Ei h.sbox hg (λr e=>(hr r e).2),Ei h.bbox hg (λr e=>(hr r e).2),h.hs,h.bs⟩
theorem ji {W:World} {k:Nat} {c:Array Value} {t:TypeId} (h:W.heap[k]? = some (.cells c t (0,0))) (i:Nat):W.cell? ⟨k,i,none⟩=c[i]?/\W.frozen? ⟨k,i,none⟩=false:=by
 simp [World.cell?,World.frozen?,h]
def SC (w:World) (_:Act) (W:World):Nat:=match W.cell? ⟨w.heap.size+1+1,0,none⟩ with|some (.slice _ n _)=>n|_=>0
def CX (w:World) (s0:Nat) (p:Per) (d:Int) (B:List Int) (ha:Option Addr) (aQ:Nat) (ca:Option Addr) (aI:Nat) (W:World):Prop:=
 ∃ (s:Int) (j bb:Nat) (bv:Int),Kal.Start p d B s (p.head.length-j)/\CI w s0 p ha aQ ca aI j s bb bv W
theorem Ints.back {w w1:World} {b o n c:Nat} {l:List Int} (h:Ints w1 (.slice (some ⟨b,o,none⟩) n c) l) (hb:Below w.heap.size w w1) (hlt:b<w.heap.size):Ints w (.slice (some ⟨b,o,none⟩) n c) l:=by
 obtain ⟨⟨a',c',he,h1,h2,h3⟩,h4,h5⟩:=h;injection he with e1 e2 e3
 subst e1;subst e2;subst e3;refine ⟨⟨_,_,rfl,h1,h2,h3.imp id ?_⟩,h4,h5⟩;rintro ⟨b',o',he,hc⟩;injection he with he;injection he with e1 e2
 subst e1;subst e2;exact ⟨b,o,rfl,λi hi=>(hb.cell (p:=⟨b,o+i,none⟩) hlt).symm.trans (hc i hi)⟩
theorem KeepsOthers.grow {A B C:World} {row:Option Nat} (h:KeepsOthers A B) (hg:B.grownBy C row) (hr:∀ r,row=some r->A.heap.size<=r):KeepsOthers A C:=
 ⟨Nat.le_trans h.size hg.size,λk o hk ho=>(hg.block k (Array.getElem?_eq_some_iff.1 (h.same k o hk ho)).1 (λe=>by have:=hr k e.symm;have:=(Array.getElem?_eq_some_iff.1 hk).1;omega)).trans (h.same k o hk ho)⟩
theorem vy_ {w w1:World} {a b c:Obj} (hb:Below (((w.alloc a).alloc b).alloc c).heap.size (((w.alloc a).alloc b).alloc c) w1):w1.heap[w.heap.size]? = some a/\w1.heap[w.heap.size+1]? = some b/\w1.heap[w.heap.size+1+1]? = some c:=by
 have e1:=World.alloc_heap_new w a;have e2:=World.alloc_heap_new (w.alloc a) b;have e3:=World.alloc_heap_new ((w.alloc a).alloc b) c;simp only [World.size_alloc] at e2 e3 hb;refine ⟨?_,?_,?_⟩
 .rw [hb.block _ aa,Below.heap_alloc _ _ _ aO,Below.heap_alloc _ _ _ ag];exact e1
 .rw [hb.block _ aa,Below.heap_alloc _ _ _ ag];exact e2
 rw [hb.block _ aa];exact e3
section
variable {w:World} {s0:Nat} {p:Per} {ha:Option Addr} {aQ:Nat} {ca:Option Addr} {aI j:Nat} {sv:Int} {bb:Nat} {bv:Int} {W:World}
theorem qN {W:World} {k b:Nat} {v:Value} (h:k≠b):(W.setCell ⟨b,0,none⟩ v).heap[k]? = W.heap[k]?:=Below.heap_setCell W ⟨b,0,none⟩ v k h
theorem CI.setS (h:CI w s0 p ha aQ ca aI j sv bb bv W) (s:Int):CI w s0 p ha aQ ca aI j s bb bv (W.setCell ⟨s0,0,none⟩ (.int .i64 s)):=by
 have h1:=h.hs;have h2:=h.bs;exact ⟨h.below.setCell (p:=⟨s0,0,none⟩) aO _,(qN aa).trans h.pbox,(qN aa).trans h.rbox,(qN aa).trans h.hbox,h.sbox.set _,(qN aa).trans h.bbox,h1,h2⟩
theorem CI.setH (h:CI w s0 p ha aQ ca aI j sv bb bv W) (j':Nat):CI w s0 p ha aQ ca aI j' sv bb bv (W.setCell ⟨w.heap.size+1+1,0,none⟩ (.slice ha (p.head.length-j') aQ)):=by
 have h1:=h.hs;have h2:=h.bs;exact ⟨h.below.setCell (p:=⟨w.heap.size+1+1,0,none⟩) aO _,(qN aa).trans h.pbox,(qN aa).trans h.rbox,h.hbox.set _,(qN aa).trans h.sbox,(qN aa).trans h.bbox,h1,h2⟩
theorem CI.newB (h:CI w s0 p ha aQ ca aI j sv bb bv W) (v:Int):CI w s0 p ha aQ ca aI j sv W.heap.size v (W.alloc (.cells #[.int .i64 v] 3)):=by
 have hg:=World.grownBy_alloc W (.cells #[.int .i64 v] 3) none;have h':=h.grow hg (λr e=>by cases e);have:=h.bbox.lt;have:=h.bs;exact ⟨h'.below,h'.pbox,h'.rbox,h'.hbox,h'.sbox,Boxed.new _ _ _,h.hs,aa⟩
end
theorem z5_ {B:List Int} {pre:List (Int × Int)} {y:Int × Int} (h:pre ++ [y] <+: bk B):pre.length<B.length/\y=(((B.length-1-pre.length:Nat):Int),B.getD (B.length-1-pre.length) 0):=by
 have hlen:=h.length_le;rw [Bu] at hlen;simp at hlen;have hlt:pre.length<B.length:=aa;refine ⟨hlt,?_⟩;obtain ⟨t,ht⟩:=h;have e1:(bk B)[pre.length]? = some y:=by rw [<- ht];simp
 rw [List.getElem?_eq_getElem (by rw [Bu];exact hlt),Xz B _ hlt] at e1;exact (Option.some.inj e1).symm
theorem XB {B:List Int} {d f:Int} {m i:Nat} (hi:i<B.length):f-d*((m:Int)+1)+B.getD (B.length-1-i) 0=dg B d f (m*B.length+i):=by
 unfold dg;have h1:(m*B.length+i) / B.length=m:=by rw [Nat.mul_comm,Nat.mul_add_div aa,Nat.div_eq_of_lt hi];rfl
 have h2:(m*B.length+i) % B.length=i:=by rw [Nat.mul_comm,Nat.mul_add_mod,Nat.mod_eq_of_lt hi]
 rw [h1,h2]
end
section
open Go.RowKit Go.Shelf Kal
noncomputable def u8_:Code:=match Tryz.f129.body with
 | some (.seq _ (.scope (.seq _ (.seq _ (.seq _ (.seq _ (.seq _ (.seq _ t))))))))=>t
 | _=>.skip
theorem ak.kept_lt {w w':World} {base:Nat} {v:Value} {l:List Int} (h:ak w base v l) (hb:∀ k,v.ownBlock=some k->w'.heap[k]? = w.heap[k]?/\w.heap.size<=w'.heap.size):ak w' base v l:=by
 obtain ⟨⟨h1,h2⟩,h3,h4⟩:=h;refine ⟨⟨h1,?_⟩,h3,h4⟩;rcases h2 with h2|⟨g,cap,cur,hv,hg,hh,hr⟩
 .exact .inl h2
 refine .inr ⟨g,cap,cur,hv,hg,(hb g ?_).1.trans hh,hr⟩;subst hv;rfl
theorem ak.shut {B:Nat} {w w':World} {base:Nat} {v:Value} {l:List Int} (h:ak w base v l) (hs:Q4 B w w'):ak w' base v l:=by
 obtain ⟨⟨h1,h2⟩,h3,h4⟩:=h;refine ⟨⟨h1,?_⟩,h3,h4⟩;rcases h2 with h2|⟨g,cap,cur,hv,hg,hh,hr⟩
 .exact .inl h2
 exact .inr ⟨g,cap,cur,hv,hg,hs.cells g _ hh rfl,hr⟩
theorem Bv {w:World} {a:Addr} {v:Value} (h:w.cell? a=some v):w.drew.cell? a=some v:=h
structure TI (w:World) (s0 ob:Nat) (p:Per) (s d:Int) (ca:Option Addr) (aI:Nat) (B:List Int) (hv:Value) (hl:List Int) (ds:List Deferred) (base:Nat) (cyv:Value) (l:List Int) (W:World):Prop where
 below:Below w.heap.size w W
 pb:W.cell? ⟨w.heap.size,1,none⟩=some (.int .i64 p.frm)
 sb:W.cell? ⟨s0,0,none⟩=some (.int .i64 s)
 rb:W.heap[w.heap.size+1]? = some (.cells #[.slice none 0 0,.int .i64 0,.int .i64 0,.slice none 0 0] 80 (0,0))
 obx:W.heap[ob]? = some (.cells #[hv,.int .i64 s,.int .i64 d,cyv] 80 (0,0))
 own:ak W base cyv l
 hd:ak W (w.heap.size+1+1) hv hl
 hlt:∀ k,hv.ownBlock=some k->k<base/\k≠ob
 marks:∃ W0:World,cL w.heap.size ds W0/\W0.heap.size<=ob/\Below W0.heap.size W0 W
 o1:w.heap.size+1+1<s0
 o2:s0<ob
 o3:ob<base
 o4:base<=W.heap.size
theorem cL.below {B:Nat} {ds:List Deferred} {w w':World} (h:cL B ds w) (hb:Below w.heap.size w w'):cL B ds w':=by
 obtain ⟨Ds,rfl,hn,hall⟩:=h;exact ⟨Ds,rfl,hn,λD hD=>⟨(hall D hD).1,(hb.block D (Array.getElem?_eq_some_iff.1 (hall D hD).2).1).trans (hall D hD).2⟩⟩
theorem br {W:World} {b:Nat} {c:Array Value} {t:TypeId} {f:Nat × Nat} (i:Nat) (v:Value) (h:W.heap[b]? = some (.cells c t f)):(W.setCell ⟨b,i,none⟩ v).heap[b]? = some (.cells (c.setIfInBounds i v) t f):=by
 obtain ⟨hlt,hk⟩:=Array.getElem?_eq_some_iff.1 h;show (W.heap.modify b _)[b]? = _;rw [Array.getElem?_eq_getElem (by rw [Array.size_modify];exact hlt),Array.getElem_modify_self,hk];rfl
theorem set4 {W:World} {b:Nat} {x y z u v:Value} {t:TypeId} {f:Nat × Nat} (h:W.heap[b]? = some (.cells #[x,y,z,u] t f)):(W.setCell ⟨b,3,none⟩ v).heap[b]? = some (.cells #[x,y,z,v] t f):=br 3 v h
theorem BI {W:World} {b:Nat} {x y z u x' y' z' u':Value} {t:TypeId} {f:Nat × Nat} (h:W.heap[b]? = some (.cells #[x,y,z,u] t f)) :
  ((((W.setCell ⟨b,0,none⟩ x').setCell ⟨b,1,none⟩ y').setCell ⟨b,2,none⟩ z').setCell ⟨b,3,none⟩ u').heap[b]? = some (.cells #[x',y',z',u'] t f):=
 br 3 u' (br 2 z' (br 1 y' (br 0 x' h)))
theorem TI.step {w:World} {s0 ob:Nat} {p:Per} {s d:Int} {ca:Option Addr} {aI:Nat} {B:List Int} {hv:Value} {hl:List Int} {ds:List Deferred} {base:Nat} {cyv:Value} {l:List Int} {W:World}
  (h:TI w s0 ob p s d ca aI B hv hl ds base cyv l W) {W1:World} {v':Value} {l':List Int} (hb:Below base W W1) (ho:ak W1 base v' l') :
  TI w s0 ob p s d ca aI B hv hl ds base v' l' (W1.setCell ⟨ob,3,none⟩ v'):=by
 have h1:=h.o1;have h2:=h.o2;have h3:=h.o3;have h4:=h.o4;obtain ⟨W0,hm1,ic,O6⟩:=h.marks;have hz:=hb.size;refine ⟨(h.below.trans (hb.mono aa)).setCell (p:=⟨ob,3,none⟩) aO _,Bq (Below.cell' hb h.pb aa) aO _,Bq (Below.cell' hb h.sb aa) aO _,?_,set4 ((hb.block ob aa).trans h.obx),?_,?_,h.hlt,⟨W0,hm1,ic,?_⟩,h1,h2,h3,?_⟩
 .rw [Below.heap_setCell _ _ _ _ aO];exact (hb.block _ aa).trans h.rb
 .exact ho.above ((b7.refl base W1).setCell aO _)
 .refine ak.kept_lt (ak.kept_lt h.hd λk hk=>⟨(hb.block k (h.hlt k hk).1),hz⟩) λk hk=>⟨Below.heap_setCell _ _ _ _ (by simp;exact (h.hlt k hk).2),by simp [World.setCell]⟩
 .exact (O6.trans (hb.mono aa)).setCell (p:=⟨ob,3,none⟩) aO _
 simp [World.setCell];omega
theorem TI.start {w:World} {s0 ob bb:Nat} {p:Per} {s d bv:Int} {ha ca:Option Addr} {aQ aI j:Nat} {B:List Int} {hv:Value} {hl:List Int} {ds:List Deferred} {base:Nat} {W W':World}
  (iV:CI w s0 p ha aQ ca aI j s bb bv W) (hM:cL w.heap.size ds W) (hb:Below W.heap.size W W') (cG:W'.heap[ob]? = some (.cells #[hv,.int .i64 s,.int .i64 d,.slice none 0 0] 80 (0,0)))
  (ho:ak W' W.heap.size hv hl) (h1:W.heap.size<=ob) (hlt:∀ k,hv.ownBlock=some k->k<base/\k≠ob) (h2:ob<base) (h3:base<=W'.heap.size):TI w s0 ob p s d ca aI B hv hl ds base (.slice none 0 0) [] W':=by
 have a1:=iV.hs;have a2:=iV.sbox.lt;refine ⟨iV.below.trans (hb.mono aa),?_,Below.cell' hb iV.sbox.cell a2,(hb.block _ aa).trans iV.rbox,cG,ak.nil _ _,ho.mono aa,hlt,⟨W,hM,h1,hb⟩,a1,aa,h2,h3⟩;refine Below.cell' hb ?_ aa;rw [(ji iV.pbox 1).1];rfl
theorem ry_ {w W:World} {s0:Nat} {p:Per} {ha:Option Addr} {aQ:Nat} {ca:Option Addr} {aI j:Nat} {s:Int} {bb:Nat} {bv d:Int} {B:List Int} {ds:List Deferred} {u0 u4 u8 u9 u10 u11 u12 u13 u14 u15 u16 u17 u18 u19 u20 u21 u22 u23 u24 u25 u26 u27 u28 u29 u30 u31 u32 u33 u34 u35 u36 u37 u38 u39 u40 u41 u42 u43 u44 u45 u46 u47 u48 u49 u50 u51 u52 u53 u54 u55 u56 u57 u58 u59 u60 u61 u62 u63 u64 u65 u66 u67 u68 u69 u70 u71 u72 u73 u74 u75 u76 u77 u78 u79 u80 u81 u82 u83 u84 u85 u86 u87 u88 u89 u90 u91 u92 u93 u94 u95 u96 u97 u98 u99 u100 u101 u102 u103 u104 u105 u106 u107 u108 u109 u110 u111 u112 u113 u114 u115 u116 u117:Value}
  (hw:p.WF) (h1:p.frm<=1125899906842624) (h2:d<=1125899906842624) (hS:wH p d B) (hst:Kal.Start p d B s (p.head.length-j)) (iV:CI w s0 p ha aQ ca aI j s bb bv W) (hM:cL w.heap.size ds W)
  (hcv:Ints W (.slice ca B.length aI) B) (hhd:Ints W (.slice ha p.head.length aQ) p.head) :
  u8_.wp Tryz.prog (Exit.noGoto (bodyPostM Fence.wide 0 Tryz.prog Tryz.f129 (IZ p.mem w))) ⟨#[u0,.pointer (some ⟨w.heap.size,0,none⟩),.pointer (some ⟨w.heap.size+1,0,none⟩),.pointer (some ⟨w.heap.size+1+1,0,none⟩),u4,.int .i64 d,.slice ca B.length aI,.pointer (some ⟨s0,0,none⟩),u8,u9,u10,u11,u12,u13,u14,u15,u16,u17,u18,u19,u20,u21,u22,u23,u24,u25,u26,u27,u28,u29,u30,u31,u32,u33,u34,u35,u36,u37,u38,u39,u40,u41,u42,u43,u44,u45,u46,u47,u48,u49,u50,u51,u52,u53,u54,u55,u56,u57,u58,u59,u60,u61,u62,u63,u64,u65,u66,u67,u68,u69,u70,u71,u72,u73,u74,u75,u76,u77,u78,u79,u80,u81,u82,u83,u84,u85,u86,u87,u88,u89,u90,u91,u92,u93,u94,u95,u96,u97,u98,u99,u100,u101,u102,u103,u104,u105,u106,u107,u108,u109,u110,u111,u112,u113,u114,u115,u116,u117],ds⟩ W:=by
 have Fy:∀ W',Below W.heap.size W W'->Ints W' (.slice ca B.length aI) B:=λW' hb=>hcv.ext hb;have OP:∀ W',Below W.heap.size W W'->Ints W' (.slice ha (p.head.length-j) aQ) (p.head.take (p.head.length-j)):=λW' hb=>(hhd.ext hb).take aa;have I2:=iV.hbox.cell;have hs1:=iV.sbox.cell;have hs0:=hst.s0;have hsf:=hst.sf;have nY:=hS.pos;have hb1:=iV.hs;have hb2:=iV.sbox.lt;have fs:=(ji iV.pbox 1).1;have fs:W.cell? ⟨w.heap.size,1,none⟩=some (.int .i64 p.frm):=by rw [fs];rfl
 obtain ⟨nh,Ak⟩:∃ nh,nh=p.head.length-j:=⟨_,rfl⟩;rw [<- Ak] at I2 hst OP;have HC:=ad iV;have HM:=ad hM;have HS:=ad hS;have HST:=ad hst;have HN:=ad Ak;obtain ⟨hl,uZ⟩:∃ hl,hl=p.head.take nh:=⟨_,rfl⟩;rw [<- uZ] at OP;have pw:=ad uZ;have hnl:hl.length=nh:=by rw [uZ];simp;omega
 have G_:=ad hnl;clear iV hM hS hst Ak hcv hhd uZ hnl
 conv=>arg 2;whnf
 go_wp2_with fail
 refine Code.wp_mono (Q:=λe a' W'=>e=.normal/\∃ (ob base:Nat) (va:Option Addr) (vc:Nat) (XM XN v91 XO v93:Value),a'=⟨#[u0,.pointer (some ⟨w.heap.size,0,none⟩),.pointer (some ⟨w.heap.size+1,0,none⟩),.pointer (some ⟨w.heap.size+1+1,0,none⟩),u4,.int .i64 d,.slice ca B.length aI,.pointer (some ⟨s0,0,none⟩),u8,u9,u10,u11,u12,.pointer (some ⟨ob,0,none⟩),u14,u15,u16,u17,u18,u19,u20,u21,u22,u23,u24,u25,u26,u27,u28,u29,u30,u31,u32,u33,u34,u35,u36,u37,u38,u39,u40,u41,u42,u43,u44,u45,u46,u47,u48,u49,u50,u51,u52,u53,u54,u55,u56,u57,u58,u59,u60,u61,u62,u63,u64,u65,u66,u67,u68,u69,u70,u71,u72,u73,u74,u75,u76,u77,u78,u79,u80,u81,u82,u83,u84,u85,u86,u87,u88,XM,XN,v91,XO,v93,u94,u95,u96,u97,u98,u99,u100,u101,u102,u103,u104,u105,u106,u107,u108,u109,u110,u111,u112,u113,u114,u115,u116,u117],ds⟩/\TI w s0 ob p s d ca aI B (.slice va hl.length vc) hl ds base (.slice none 0 0) [] W'/\Below W.heap.size W W'/\W.heap.size<=ob) ?imp ?reg
 case reg=>
  go_region_held3 (λw'=>w'.cell? ⟨w.heap.size+1+1,0,none⟩=some (.slice ha nh aQ)/\w'.cell? ⟨s0,0,none⟩=some (.int .i64 s)/\w'.cell? ⟨w.heap.size,1,none⟩=some (.int .i64 p.frm)) ((go_split_ands;repeat' (with_reducible first|assumption|refine Bq ?_ ?_ _|refine fy ?_ _|refine Bv ?_|exact al.cell (by assumption) (by assumption)|apply And.intro|(exact Below.cell' (by assumption) (by assumption) (by first|(simp;done)|(simp;omega)|omega))|(refine Below.cell' (by assumption) ?_ (by first|(simp;done)|(simp;omega)|omega))|omega|(simp;done)|(simp;omega))))
   ((go_at_call 96;refine (Bw _ hl _ (OP _ (by repeat' (first|refine Ed ?_|refine En ?_ _|refine Ea ?_ _|exact Er _)))).mono ?_;rintro e w2 ⟨v',rfl,ho,hb3⟩;obtain ⟨va,vc,rfl⟩:=ho.form;obtain ⟨hc3,hf3⟩:=fJ hb3;have hb4:Below W.heap.size W w2:=Et (by repeat' (first|refine Ed ?_|refine En ?_ _|refine Ea ?_ _|exact Er _)) hb3))
  go_goals
  .have hl2:=ho.lt;have hz3:=hb4.size;exact ⟨rfl,_,w2.heap.size+1,va,vc,_,_,_,_,_,rfl,TI.start HC.o HM.o (Ea hb4 _) (World.alloc_heap_new _ _) ((ho.ext (Ea (Er _) _)).mono ag) hz3 (λk hk=>by have:=(hl2 k hk).2;omega) aa ag,Ea hb4 _,hz3⟩
  have hl2:=ho.lt;have hz3:=hb3.size;simp only [World.size_alloc,World.size_drew] at hl2 hz3;have e1:=(hb3.block W.heap.size ag).trans (World.alloc_heap_new W _);have hE:Below W.heap.size W ((((w2.setCell ⟨W.heap.size,0,none⟩ (.slice va hl.length vc)).setCell ⟨W.heap.size,1,none⟩ (.int .i64 s)).setCell ⟨W.heap.size,2,none⟩ (.int .i64 d)).setCell ⟨W.heap.size,3,none⟩ (.slice none 0 0)):=
   (((hb4.setCell (p:=⟨W.heap.size,0,none⟩) ag _).setCell (p:=⟨W.heap.size,1,none⟩) ag _).setCell (p:=⟨W.heap.size,2,none⟩) ag _).setCell (p:=⟨W.heap.size,3,none⟩) ag _
  refine ⟨rfl,_,w2.heap.size,va,vc,_,_,_,_,_,rfl,TI.start HC.o HM.o hE (BI e1) ((ak.kept_lt ho λk hk=>?_).mono ag) (Nat.le_refl _) (λk hk=>by have:=hl2 k hk;omega) aa (by simp [World.setCell]),hE,Nat.le_refl _⟩;have:=hl2 k hk;refine ⟨?_,by simp [World.setCell]⟩;rw [Below.heap_setCell _ _ _ _ aO,Below.heap_setCell _ _ _ _ aO,Below.heap_setCell _ _ _ _ aO,Below.heap_setCell _ _ _ _ aO]
 case imp=>
  rintro e a' W1 ⟨rfl,ob,base,va,vc,XM,XN,v91,XO,v93,rfl,zE,hb1,vl⟩;have o1:=zE.o1;have o2:=zE.o2;have o3:=zE.o3;have o4:=zE.o4;have Tl:B.length<=17592186044416:=(Fy W (Er _)).len;have HT:=ad zE;have bo:=ad hb1;clear zE;go_wp2;go_loopw [96] (λi wr=>∃ (k:Nat) (cyv:Value),k<=B.length/\i=.int .i64 k/\TI w s0 ob p s d ca aI B (.slice va hl.length vc) hl ds base cyv ((B.take k).map λc=>(p.frm+c-s) % d) wr/\Below W.heap.size W wr) (λi _=>B.length-(intOf i).toNat)
  .exact ⟨0,_,aa,rfl,HT.o,bo.o⟩
  obtain ⟨k,cyv,hk,rfl,jI,cq⟩:=hrel;have s9:=jI.pb;have F6:=jI.sb;have s_:=(ji jI.obx 3).1;have Jj:=(ji jI.obx 3).2;have s_:wr.cell? ⟨ob,3,none⟩=some cyv:=s_;have o5:=jI.o4;have EF:=Fy wr cq;have hown:=jI.own;have yJ:=ad jI;have bH:=ad cq;clear jI cq;by_cases hlt:k<B.length
  .obtain ⟨⟨a9,c9,zR,h19,h29,mW⟩,ZS,ZT⟩:=EF;injection zR with cI eB dk
   subst cI;subst dk;rcases mW with mW|⟨b9,f9,rfl,hcell⟩
   .rw [mW] at hlt;simp at hlt
   have hcl:=hcell k hlt;clear hcell;have fM:(k:Int)<B.length:=aa;obtain ⟨y,hy⟩:∃ y,y=B.getD k 0:=⟨_,rfl⟩;have hr1:=HS.o.rise.2 (B.getD k 0) (by rw [List.getD_eq_getElem?_getD,List.getElem?_eq_getElem hlt];exact List.getElem_mem hlt);rw [<- hy] at hcl hr1;have HY:=ad hy;clear hy ZS ZT;have hz0:0<=p.frm+y-s:=aa;have hw1:IntKind.i64.wrap (p.frm+y)=p.frm+y:=AO ⟨aa,aa⟩;have hw2:IntKind.i64.wrap (p.frm+y-s)=p.frm+y-s:=AO ⟨aa,aa⟩;have hm1:=Int.emod_nonneg (p.frm+y-s) (show d≠0 by omega);have ic:=Int.emod_lt_of_pos (p.frm+y-s) (show 0<d by omega);have hw3:Int.tmod (p.frm+y-s) d=(p.frm+y-s) % d:=Int.tmod_eq_emod_of_nonneg hz0;have hw4:IntKind.i64.wrap ((p.frm+y-s) % d)=(p.frm+y-s) % d:=AO ⟨aa,aa⟩;obtain ⟨z,hz⟩:∃ z,z=(p.frm+y-s) % d:=⟨_,rfl⟩;rw [<- hz] at hw3 hw4 hm1 ic;have HZ:=ad hz;clear hz;have Oy:d≠0:=aa;go_wp2_with fail;have rM:=World.new_ne wr ⟨ob,3,none⟩ s_;have hnp1:∀ o,(wr.drew.alloc o).cell? ⟨w.heap.size,1,none⟩=some (.int .i64 p.frm):=λo=>fy (Bv s9) o;have hnp2:∀ o,(wr.drew.alloc o).cell? ⟨s0,0,none⟩=some (.int .i64 s):=λo=>fy (Bv F6) o;have hnn1:∀ o,(wr.drew.alloc o).cell? ⟨ob,3,none⟩=some cyv:=λo=>fy (Bv s_) o;have hnn2:∀ o,(wr.alloc o).cell? ⟨ob,3,none⟩=some cyv:=λo=>fy s_ o;refine wp_region_noPanic ?_
   go_region_law
    ((refine pu_ _ az _ _ az base cyv _ z az (ak.ext hown (by repeat' (first|refine Ed ?_|refine En ?_ _|refine Ea ?_ _|exact Er _))) _ _ az (by simp [go_sem]) ⟨aa,aa⟩ aO aO ?_;intro g cap W2 hown2 hgrow bQ;have gA:Below base wr W2:=Below.trans (by repeat' (first|refine Below.drew ?_|refine Below.alloc ?_ (by first|omega|(simp;omega)) _|exact Below.refl _ _)) bQ;have Ph:W2.frozen? ⟨ob,3,none⟩=false:=(Below.frozen gA (p:=⟨ob,3,none⟩) o3).trans Jj;have Pg:W2.cell? ⟨ob,3,none⟩=some cyv:=Below.cell' gA s_ o3))
   all_goals simp only [NoPanic]
   all_goals
    go_wp2
    go_roundw
    .have hlen:((B.take k).map λc=>(p.frm+c-s) % d).length=k:=by simp;omega
     have oj:((B.take (k+1)).map λc=>(p.frm+c-s) % d)=((B.take k).map λc=>(p.frm+c-s) % d) ++ [z]:=by
      rw [List.take_succ_eq_append_getElem hlt,List.map_append,HZ.o,HY.o,List.getD_eq_getElem?_getD,List.getElem?_eq_getElem hlt];rfl
     rw [hlen] at hown2;refine ⟨k+1,.slice (some ⟨g,0,none⟩) (k+1) cap,aa,by go_num,?_,((bH.o.trans (gA.mono aa)).setCell (p:=⟨ob,3,none⟩) vl _)⟩;rw [oj];exact yJ.o.step gA hown2
    simp [intOf];omega
  obtain rfl:k=B.length:=aa;obtain ⟨cl,hcl⟩:∃ cl,cl=((B.take B.length).map λc=>(p.frm+c-s) % d):=⟨_,rfl⟩;have zF:=yJ.o;rw [<- hcl] at hown zF;have kX:=ad zF;have dw:=ad hcl;clear zF hcl yJ;go_wp2_with fail
  go_at_call 69
  refine (JD _ _ base _ hown).mono ?_;rintro e W2 ⟨rfl,hown2,hgrow⟩;have bQ:=hown.below_grown (W0:=wr) (.inr trivial) o5 hgrow;obtain ⟨ya,yc,rfl⟩:=hown.form;have eN:=(bQ.block ob o3).trans kX.o.obx;have eu:=(bQ.block (w.heap.size+1) aa).trans kX.o.rb;have hk0:W2.cell? ⟨ob,0,none⟩=some (.slice va hl.length vc):=(ji eN 0).1;have Ac:W2.cell? ⟨ob,1,none⟩=some (.int .i64 s):=(ji eN 1).1;have hk2:W2.cell? ⟨ob,2,none⟩=some (.int .i64 d):=(ji eN 2).1;have hk3:W2.cell? ⟨ob,3,none⟩=some (.slice ya cl.length yc):=(ji eN 3).1;have hj0:W2.cell? ⟨w.heap.size+1,0,none⟩=some (.slice none 0 0):=(ji eu 0).1;have OS:W2.cell? ⟨w.heap.size+1,1,none⟩=some (.int .i64 0):=(ji eu 1).1;have FH:W2.cell? ⟨w.heap.size+1,2,none⟩=some (.int .i64 0):=(ji eu 2).1;have hj3:W2.cell? ⟨w.heap.size+1,3,none⟩=some (.slice none 0 0):=(ji eu 3).1;have hf0:W2.frozen? ⟨w.heap.size+1,0,none⟩=false:=(ji eu 0).2;have gh:W2.frozen? ⟨w.heap.size+1,1,none⟩=false:=(ji eu 1).2;have hf2:W2.frozen? ⟨w.heap.size+1,2,none⟩=false:=(ji eu 2).2;have hf3:W2.frozen? ⟨w.heap.size+1,3,none⟩=false:=(ji eu 3).2;have tM:=ad eN;have kB:=ad eu;have HG:=ad hgrow;have LR:=ad hown2;have ij:=ad bQ;have hzz:=bQ.size;clear eN eu hgrow hown2 bQ;go_wp2_with fail;rw [Exit.noGoto_ret];have hA:b7 (w.heap.size+1+1) W2 ((((W2.setCell ⟨w.heap.size+1,0,none⟩ (.slice va hl.length vc)).setCell ⟨w.heap.size+1,1,none⟩ (.int .i64 s)).setCell ⟨w.heap.size+1,2,none⟩ (.int .i64 d)).setCell ⟨w.heap.size+1,3,none⟩ (.slice ya cl.length yc)):=
   ((((b7.refl _ W2).setCell ag _).setCell ag _).setCell ag _).setCell ag _
  have zu:Below w.heap.size w ((((W2.setCell ⟨w.heap.size+1,0,none⟩ (.slice va hl.length vc)).setCell ⟨w.heap.size+1,1,none⟩ (.int .i64 s)).setCell ⟨w.heap.size+1,2,none⟩ (.int .i64 d)).setCell ⟨w.heap.size+1,3,none⟩ (.slice ya cl.length yc)):=
   ((((kX.o.below.trans (ij.o.mono aa)).setCell (p:=⟨w.heap.size+1,0,none⟩) ag _).setCell (p:=⟨w.heap.size+1,1,none⟩) ag _).setCell (p:=⟨w.heap.size+1,2,none⟩) ag _).setCell (p:=⟨w.heap.size+1,3,none⟩) ag _
  have hR3:=BI (x':=.slice va hl.length vc) (y':=.int .i64 s) (z':=.int .i64 d) (u':=.slice ya cl.length yc) kB.o;have Z9:cL w.heap.size ds ((((W2.setCell ⟨w.heap.size+1,0,none⟩ (.slice va hl.length vc)).setCell ⟨w.heap.size+1,1,none⟩ (.int .i64 s)).setCell ⟨w.heap.size+1,2,none⟩ (.int .i64 d)).setCell ⟨w.heap.size+1,3,none⟩ (.slice ya cl.length yc)):=by
   obtain ⟨W0,hm1,ic,O6⟩:=kX.o.marks;refine cL.keep (cL.below hm1 (O6.trans (ij.o.mono aa))) ⟨hA.size,λk o _ hk ho=>?_⟩;have hne:k≠w.heap.size+1:=λe=>by subst e;rw [kB.o] at hk;cases hk;cases ho
   rw [Below.heap_setCell _ _ _ _ hne,Below.heap_setCell _ _ _ _ hne,Below.heap_setCell _ _ _ _ hne,Below.heap_setCell _ _ _ _ hne];exact hk
  have uV:=(ak.kept_lt (w':=W2) kX.o.hd λk hk=>⟨ij.o.block k (kX.o.hlt k hk).1,hzz⟩).above hA;have hc3:=(LR.o.mono (base':=w.heap.size+1+1) aa).above hA;refine jY (B:=w.heap.size) ds _ Z9 λw' hs=>?_;have IM:=hs.cells _ _ hR3 rfl;have hx0:w'.cell? ⟨w.heap.size+1,0,none⟩=some (.slice va hl.length vc):=(ji IM 0).1;have hx1:w'.cell? ⟨w.heap.size+1,1,none⟩=some (.int .i64 s):=(ji IM 1).1;have hx2:w'.cell? ⟨w.heap.size+1,2,none⟩=some (.int .i64 d):=(ji IM 2).1;have hx3:w'.cell? ⟨w.heap.size+1,3,none⟩=some (.slice ya cl.length yc):=(ji IM 3).1;refine ⟨.agg #[.slice va hl.length vc,.int .i64 s,.int .i64 d,.slice ya cl.length yc],by simp [results,Tryz.results129,go_sem,hx0,hx1,hx2,hx3],?_⟩;have lF:=HS.o.rise;have fR:cl.Nodup:=by
   rw [dw.o,List.take_length];refine List.pairwise_map.2 (lF.1.imp_of_mem λ{a b} ha hb hab e=>?_);have h1:=(Int.emod_eq_emod_iff_emod_sub_eq_zero).1 e;have ha':=lF.2 a ha;have hb':=lF.2 b hb;have h2:(p.frm+a-s-(p.frm+b-s)) % d=a-b+d:=by
    rw [show p.frm+a-s-(p.frm+b-s)=(a-b+d)+d*(-1) by omega,Int.add_mul_emod_self_left];exact Int.emod_eq_of_lt aa aa
   omega
  refine ⟨_,_,⟨hl,s,d,ar cl⟩,rfl,?_,⟨(uV.shut hs).mono aa,(hc3.shut hs).mono aa⟩,zu.trans hs.below⟩;rw [pw.o];refine Wb hw HS.o HST.o (Jv fR) λy=>?_;rw [Bx,dw.o,List.take_length];simp only [List.mem_map];exact ⟨λ⟨c,h1,h2⟩=>⟨c,h1,h2.symm⟩,λ⟨c,h1,h2⟩=>⟨c,h1,h2.symm⟩⟩
attribute [local go_sem] Oper.semAt_some
theorem m0_ (h c:Value) (p:Per) (w:World) (hp:bX w h c p) (hw:p.WF) (h1:p.frm<=1125899906842624) (h2:p.period<=1125899906842624) (oW:p.cycle≠[]) :
  Calls Tryz.prog 129 #[.agg #[h,.int .i64 p.frm,.int .i64 p.period,c]] w (IZ p.mem w):=by
 have f0:=hw.frm;have hl:∀ W,Below w.heap.size w W->Ints W h p.head:=λW hb=>hp.hd.ext hb;have hlc:∀ W,Below w.heap.size w W->Ints W c p.cycle:=λW hb=>hp.cy.ext hb;obtain ⟨⟨ha,aQ,rfl,hlc1,hcc1,bY⟩,hlen,_⟩:=hp.hd;obtain ⟨⟨ca,aI,rfl,_,_,ib⟩,ru,_⟩:=hp.cy;have hcne:((p.cycle.length:Int) == 0)=false:=by
  have:p.cycle.length≠0:=λh=>oW (List.eq_nil_of_length_eq_zero h);simpa using oW
 have Ft:∃ b o,ca=some ⟨b,o,none⟩/\b<w.heap.size:=by
  rcases ib with h0|⟨b,o,rfl,hcell⟩
  .exact absurd h0 oW
  exact ⟨b,o,rfl,World.block_lt_of_cell? _ _ (hcell 0 (by
   rcases Nat.eq_zero_or_pos p.cycle.length with h|h
   .exact absurd (List.eq_nil_of_length_eq_zero h) oW
   exact h))⟩
 have KD:=ad oW;clear oW hp ib;refine callsIn_wide (n:=0).1 ?_;refine callsIn_of_wp_marks Tryz.func129 rfl trivial ?_ rfl;simp only [Tryz.ntmps129,List.size_toArray,List.length_cons,List.length_nil,Nat.reduceAdd,Nat.reduceSub,Array.replicate_succ,Array.replicate_zero,List.push_toArray,List.append_toArray,List.nil_append,List.cons_append]
 gi_wp2
 refine ik_ ?_;gi_wp2_with (refine ⟨trivial,rfl,?_⟩;gi_at_call 177;refine (callsIn_wide.2 (qm_ ca aI p _ hw KD.o h2 (hlc _ xE))).mono ?_;rintro e w1 ⟨d,B,rfl,hcv,hS,hb1⟩;have nY:=hS.pos;have fm:=hS.le;obtain ⟨hc1,gh⟩:=fJ hb1;have hz:w.heap.size+1+1<w1.heap.size:=(by have:=hb1.size;simp at this;omega);have hz1:w.heap.size+1<w1.heap.size:=aa;have hz0:w.heap.size<w1.heap.size:=aa);refine wpIn_label ?_;gi_wp2_with fail;have Ac:1<=B.length:=aX.lenB hS;have hk2:B.length<=17592186044416:=hcv.len;have HS:=ad hS;obtain ⟨cb,co,On,hcb⟩:=Ft;have Kl:=ad On;have hB2:∀ W,Below w.heap.size w W->Ints W (.slice ca B.length aI) B:=by
  subst On;exact λW hb=>(hcv.back xE hcb).ext hb
 clear hS hcv hlc On;refine wpIn_loop (λa W=>∃ (m bb:Nat) (u49 u50 u51 u52 u53 u88:Value) (ds:List Deferred),a=⟨#[.agg #[.slice ha p.head.length aQ,.int .i64 p.frm,.int .i64 p.period,.slice ca p.cycle.length aI],.pointer (some ⟨w.heap.size,0,none⟩),.pointer (some ⟨w.heap.size+1,0,none⟩),.pointer (some ⟨w.heap.size+1+1,0,none⟩),undef,.int .i64 d,.slice ca B.length aI,.pointer (some ⟨w1.heap.size,0,none⟩),.pointer (some ⟨bb,0,none⟩),undef,undef,undef,undef,undef,undef,undef,.pointer (some ⟨w.heap.size,0,none⟩),.slice ha p.head.length aQ,.pointer (some ⟨w.heap.size,3,none⟩),.slice ca p.cycle.length aI,.int .i64 p.cycle.length,.bool false,undef,undef,undef,undef,undef,undef,undef,undef,undef,undef,undef,undef,undef,undef,undef,.tuple #[.int .i64 d,.slice ca B.length aI],.pointer (some ⟨w.heap.size,2,none⟩),.int .i64 p.period,.pointer (some ⟨w.heap.size,3,none⟩),.slice ca p.cycle.length aI,.tuple #[.int .i64 d,.slice ca B.length aI],.int .i64 d,.slice ca B.length aI,.pointer (some ⟨w.heap.size,1,none⟩),.int .i64 p.frm,.int .i64 d,.int .i64 (p.frm-d),u49,u50,u51,u52,u53,undef,undef,undef,undef,undef,undef,undef,undef,undef,undef,undef,undef,undef,undef,undef,undef,undef,undef,undef,undef,undef,undef,undef,undef,undef,undef,undef,undef,undef,undef,undef,undef,undef,undef,u88,undef,undef,undef,undef,undef,undef,undef,undef,undef,undef,undef,undef,undef,undef,undef,undef,undef,undef,undef,undef,undef,undef,undef,undef,undef,undef,undef,undef,undef],ds⟩/\aX p d B (m*B.length)/\CI w w1.heap.size p ha aQ ca aI (m*B.length) 0 bb (p.frm-d*(m+1)) W/\cL w.heap.size ds W) (SC w) ?start ?round
 case start=>
  refine ⟨0,w1.heap.size+1,undef,undef,undef,undef,undef,undef,[],rfl,?_,?_,cL.nil _ _⟩
  .rw [Nat.zero_mul];exact aX.zero hw HS.o
  obtain ⟨t1,t2,t3⟩:=vy_ hb1;have e0:p.frm-d*(((0:Nat):Int)+1)=p.frm-d:=by simp
  rw [Nat.zero_mul,e0];refine ⟨by exact xE,?_,?_,?_,?_,?_,hz,aa⟩
  .rw [Below.heap_alloc _ _ _ aO,Below.heap_alloc _ _ _ aa];exact t1
  .rw [Below.heap_alloc _ _ _ aO,Below.heap_alloc _ _ _ aa];exact t2
  .exact (Below.heap_alloc _ _ _ aO).trans ((Below.heap_alloc _ _ _ aa).trans t3)
  .exact (Boxed.new w1 _ _).alloc _
  have:=Boxed.new (w1.alloc (.cells #[.int .i64 0] 3)) 3 (.int .i64 (p.frm-d));rw [World.size_alloc] at this;exact this
 case round=>
  rintro _ W ⟨m,bb,u49,u50,u51,u52,u53,u88,ds,rfl,hB,iV,hM⟩;have HB:=ad hB;have HM:=ad hM;clear hB hM;have cq:=iV.below;have dD:=iV.bbox.lt;have ju:=iV.bs;have hhs:=iV.hs;gi_wp2_with (refine ⟨trivial,rfl,?_⟩;gi_at_call 178;refine (callsIn_wide.2 (o6_ _ _ ⟨_,_,_,rfl⟩)).mono ?_;rintro e w' ⟨rfl,rfl⟩);have hbx:(W.alloc (.cells #[.slice ca B.length aI] 35)).cell? ⟨W.heap.size,0,none⟩=some (.slice ca B.length aI):=by simp
  refine Nx (x:=none) (gf:=213) (lb:=#[.pointer (some ⟨W.heap.size,0,none⟩)]) rfl (enters_of Tryz.func213 (by kernel_rfl) rfl)
   (o7_ (.slice ca B.length aI) B W.heap.size _ (λk=>k<w.heap.size\/k=W.heap.size) (hB2 _ xE) hbx (.inr rfl) (λb o n c he=>by injection he with he;rw [Kl.o] at he;injection he with he;injection he with he;exact .inl (he ▸ hcb))) (λh k=>h.trans k) (cX.putObj (by intro k hk;simp;omega)) (λy=>rfl)
   (λpre W'=>aX p d B (m*B.length+pre.length)/\pre.length<=B.length/\CI w w1.heap.size p ha aQ ca aI (m*B.length+pre.length) 0 bb (p.frm-d*(m+1)) W'/\KeepsOthers W W')
   (λc' pre W'=>c'=.exit 0/\CX w w1.heap.size p d B ha aQ ca aI W'/\KeepsOthers W W')
   (λpre A C row hI hg hr=>by
    have hr':∀ r,row=some r->w.heap.size<=r/\∃ o:Obj,A.heap[r]? = some o/\o.isCells=false:=λr e=>by
     rcases hr r e with ⟨h,_⟩|⟨h,h'⟩
     .cases h
     refine ⟨?_,h'⟩;have:=cq.size;simp at h;omega
    refine ⟨hI.1,hI.2.1,hI.2.2.1.grow hg hr',KeepsOthers.grow hI.2.2.2 hg λr e=>?_⟩;rcases hr r e with ⟨h,_⟩|⟨h,_⟩
    .cases h
    simp at h;omega)
   (λc' pre A C row hI hg hr=>by
    have hr':∀ r,row=some r->w.heap.size<=r/\∃ o:Obj,A.heap[r]? = some o/\o.isCells=false:=λr e=>by
     rcases hr r e with ⟨h,_⟩|⟨h,h'⟩
     .cases h
     refine ⟨?_,h'⟩;have:=cq.size;simp at h;omega
    obtain ⟨h1,⟨s,j,b2,bv,h2,h3⟩,h4⟩:=hI;refine ⟨h1,⟨s,j,b2,bv,h2,h3.grow hg hr'⟩,KeepsOthers.grow h4 hg λr e=>?_⟩;rcases hr r e with ⟨h,_⟩|⟨h,_⟩
    .cases h
    simp at h;omega)
   (λ_ _ _=>trivial) ⟨HB.o,Nat.zero_le _,iV.grow (World.grownBy_alloc W _ none) (λr e=>by cases e),KeepsOthers.alloc _ _⟩
   (λy=>⟨#[.agg #[.slice ha p.head.length aQ,.int .i64 p.frm,.int .i64 p.period,.slice ca p.cycle.length aI],.pointer (some ⟨w.heap.size,0,none⟩),.pointer (some ⟨w.heap.size+1,0,none⟩),.pointer (some ⟨w.heap.size+1+1,0,none⟩),undef,.int .i64 d,.slice ca B.length aI,.pointer (some ⟨w1.heap.size,0,none⟩),.pointer (some ⟨bb,0,none⟩),undef,.int .i64 y.2,undef,undef,undef,undef,undef,.pointer (some ⟨w.heap.size,0,none⟩),.slice ha p.head.length aQ,.pointer (some ⟨w.heap.size,3,none⟩),.slice ca p.cycle.length aI,.int .i64 p.cycle.length,.bool false,undef,undef,undef,undef,undef,undef,undef,undef,undef,undef,undef,undef,undef,undef,undef,.tuple #[.int .i64 d,.slice ca B.length aI],.pointer (some ⟨w.heap.size,2,none⟩),.int .i64 p.period,.pointer (some ⟨w.heap.size,3,none⟩),.slice ca p.cycle.length aI,.tuple #[.int .i64 d,.slice ca B.length aI],.int .i64 d,.slice ca B.length aI,.pointer (some ⟨w.heap.size,1,none⟩),.int .i64 p.frm,.int .i64 d,.int .i64 (p.frm-d),u49,u50,u51,.slice ca B.length aI,.func (.func 213) #[] #[.pointer (some ⟨W.heap.size,0,none⟩)],.int .i64 y.1,.int .i64 y.2,undef,undef,undef,undef,undef,undef,undef,undef,undef,undef,undef,undef,undef,undef,undef,undef,undef,undef,undef,undef,undef,undef,undef,undef,undef,undef,undef,undef,undef,undef,undef,undef,u88,undef,undef,undef,undef,undef,undef,undef,undef,undef,undef,undef,undef,undef,undef,undef,undef,undef,undef,undef,undef,undef,undef,undef,undef,undef,undef,undef,undef,undef],[]⟩) ?assign ?body ?done ?stop
  case assign=>
   intro l y W' K hK
   gi_wp2
   exact hK
  case body=>
   rintro l pre ⟨y1,y2⟩ W' ⟨nU,hpl,dq,bR⟩ hen;obtain ⟨hlt,hy⟩:=z5_ hen;have he:=XB (B:=B) (d:=d) (f:=p.frm) (m:=m) hlt;injection hy with hy1 hy2
   rw [<- hy2] at he;have hyb:=jl HS.o.rise (i:=B.length-1-pre.length) aa;rw [<- hy2] at hyb;obtain ⟨j,hj⟩:∃ j,j=m*B.length+pre.length:=⟨_,rfl⟩;rw [<- hj] at nU dq he;have HJ:=ad (show m*B.length+(pre ++ [(y1,y2)]).length=j+1 by simp;omega);have F5:(pre ++ [(y1,y2)]).length<=B.length:=by simp;omega
   have Y_:=ad F5;have hel:=aX.e_lt HS.o nU;have heg:=aX.e_ge HS.o nU;have hif:=nU.hif;have fQ:=Iu hw (j:=j);obtain ⟨bv,mZ⟩:∃ bv,bv=p.frm-d*((m:Int)+1):=⟨_,rfl⟩;have CC:=ad mZ;rw [<- mZ] at dq he;obtain ⟨e,BW⟩:∃ e,e=dg B d p.frm j:=⟨_,rfl⟩;rw [<- BW] at he hel heg;have HE:=ad BW;have heU:e<p.frm:=aa;clear hel;have xO:=ad nU;have Of:=dq.hbox;have Og:=dq.sbox;have rj:=dq.bbox;have I2:=Of.cell;have hh2:=Of.frozen;have hs1:=Og.cell;have hs2:=Og.frozen;have hb1':=rj.cell;have HI:=ad (hl W' dq.below);obtain ⟨nh,Ak⟩:∃ nh,nh=p.head.length-j:=⟨_,rfl⟩;rw [<- Ak] at I2;have HN:=ad Ak;have dS:=ad bR;have AX:=ad dq;have hbB1:bv+y2=e:=he;have hnl:nh<=17592186044416:=aa;clear nU dq bR Of Og rj BW mZ hj hy1 hy2 Ak F5 hen hpl hif;have To:nh<=aQ:=by have:=HN.o;omega
   by_cases iD:nh=0
   .have ep:dT p j=-1:=by unfold dT;rw [if_pos (by rw [<- HN.o];exact iD)]
    subst iD;have HL:=ad ep;clear ep fQ;by_cases Aj:e<0
    .gi_wp2_with fail
     exact ⟨KeepsFrom.refl _ _,rfl,⟨0,j,bb,bv,aX.done0 hw HS.o xO.o (by rw [<- HE.o];exact Aj) (by rw [HL.o];omega),AX.o⟩,dS.o⟩
    have hge:0<=e:=aa;have hneb:(e != -1)=true:=by rw [bne_iff_ne];omega
    have hmax:max e (-1)=e:=aa;have HD:=ad (aX.done hw HS.o xO.o (by rw [<- HE.o,HL.o];omega) (by rw [<- HE.o,HL.o];omega));have jw:=AX.o.setS (e+1);have qh:=ad jw;clear Aj jw;gi_wp2_with fail;refine ⟨(KeepsOthers.setCell _ _ _).from _,rfl,⟨e+1,j,bb,bv,?_,qh.o⟩,KeepsOthers.trans dS.o (KeepsOthers.setCell _ _ _)⟩;have:=HD.o;rwa [<- HE.o,HL.o,hmax] at this
   obtain ⟨⟨ha',Tn,cI,_,_,hcl⟩,_,_⟩:=HI.o;injection cI with cI eB dk
   subst cI;rcases hcl with hcl|⟨b,o,hab,hcl⟩
   .exfalso;rw [hcl] at HN;have:=HN.o;simp at this;exact iD this
   have rz:=hcl (nh-1) (by have:=HN.o;omega);have ep:dT p j=p.head.getD (nh-1) 0:=by unfold dT;rw [if_neg (by rw [<- HN.o];exact iD),<- HN.o]
   rw [<- ep] at rz;have hx0:0<=dT p j:=by rw [ep];exact (jl hw.head (by have:=HN.o;omega)).1
   obtain ⟨x,hx⟩:∃ x,x=dT p j:=⟨_,rfl⟩;rw [<- hx] at rz hx0 fQ;have HX:=ad hx;have od:((nh:Int)-1).toNat=nh-1:=aa;have TJ:(0:Int)<nh:=aa;have hnI2:(nh:Int)-1<nh:=aa;subst hab;clear ep hx hcl eB dk iD;by_cases hex:e=x
   .have hne:(e != x)=false:=by simpa using hex
    have hge:0<=e:=aa;have HST:=ad (aX.step hw HS.o xO.o (by rw [<- HE.o,<- HX.o];exact hex) (by rw [<- HE.o,<- HX.o];omega));have jw:=AX.o.setH (j+1);have rM:p.head.length-(j+1)=nh-1:=by have:=HN.o;omega
    rw [rM] at jw;have qh:=ad jw;clear hex jw rM;gi_wp2_with fail;have e9:=HJ.o;exact ⟨(KeepsOthers.setCell _ _ _).from _,λk hk=>qN (by rcases hk with hk|hk <;> omega),by show aX p d B (m*B.length+(pre ++ [(y1,y2)]).length);rw [e9];exact HST.o.1,Y_.o,by show CI w w1.heap.size p _ aQ ca aI (m*B.length+(pre ++ [(y1,y2)]).length) 0 bb (p.frm-d*(↑m+1)) _;rw [e9,<- CC.o];exact qh.o,KeepsOthers.trans dS.o (KeepsOthers.setCell _ _ _)⟩
   have hne:(e != x)=true:=by rw [bne_iff_ne];exact hex
   have HD:=ad (aX.done hw HS.o xO.o (by rw [<- HE.o,<- HX.o];exact hex) (by rw [<- HE.o,<- HX.o];omega));have jw:=AX.o.setS (max e x+1);have qh:=ad jw;have hxlt:x<9007199254740992:=aa;clear hex jw;gi_wp2_with fail;all_goals exact ⟨(KeepsOthers.setCell _ _ _).from _,rfl,⟨max e x+1,j,bb,bv,by have:=HD.o;rwa [<- HE.o,<- HX.o] at this,qh.o⟩,KeepsOthers.trans dS.o (KeepsOthers.setCell _ _ _)⟩
  case done=>
   rintro D xs W' hD rfl ⟨nU,_,dq,bR⟩ aJ;have e1:m*B.length+(bk B).length=(m+1)*B.length:=by rw [Bu,Nat.succ_mul]
   rw [e1] at nU dq;obtain ⟨bv,mZ⟩:∃ bv,bv=p.frm-d*((m:Int)+1):=⟨_,rfl⟩;have fo:-1125899906842625<=bv/\bv<=p.frm:=by
    have g1:=aX.e_ge HS.o nU;have g2:=XB (B:=B) (d:=d) (f:=p.frm) (m:=m+1) (i:=0) aa;have g3:=jl HS.o.rise (i:=B.length-1-0) aa;simp only [Nat.add_zero,Nat.sub_zero] at g2 g3;rw [<- g2,show d*(((m+1:Nat):Int)+1)=d*((m:Int)+1)+d by push_cast;rw [Int.mul_add d ((m:Int)+1)];omega] at g1;have g4:0<=d*((m:Int)+1):=Int.mul_nonneg aa aa;omega
   rw [<- mZ] at dq;have CC:=ad mZ;have jw:=dq.bbox.cell;have hf1':=dq.bbox.frozen;have xO:=ad nU;have AX:=ad (dq.newB (bv-d));have HH:=ad dq.hbox.cell;have hW'W:W.heap.size<=W'.heap.size:=bR.size;have dS:=ad bR;have fC:=ad aJ;have K4:=ad iV.hbox.cell;clear nU dq mZ e1 bR aJ iV hbx;gi_wp2_with fail;refine ⟨⟨m+1,W'.heap.size,_,_,_,_,_,_,_,rfl,xO.o,?_,?_⟩,?_⟩
   .have e2:p.frm-d*(((m+1:Nat):Int)+1)=bv-d:=by rw [CC.o];push_cast;rw [Int.mul_add d ((m:Int)+1)];omega
    rw [e2];exact AX.o
   .have h9:=hD;have h7:=cq.size;simp only [World.size_alloc] at h9;have h8:=fC.o;refine cL.keep (cL.cons HM.o aa (dS.o.from _) aa h8) ?_;exact (KeepsOthers.alloc _ _).from _
   have h9:=xO.o.le;have h8:(m+1)*B.length=m*B.length+B.length:=Nat.succ_mul _ _;have e3:=al.cell (Ea (Er W') (.cells #[.int .i64 (bv-d)] 3)) HH.o;simp only [SC,K4.o,e3];omega
  case stop=>
   rintro D c' pre W' hD _ ⟨rfl,⟨s,j,b2,bv,hst,dq⟩,bR⟩ aJ;have h9:=hD;have h7:=cq.size;simp only [World.size_alloc] at h9;refine wpIn_exit ?_
   conv=>whnf
   apply_assumption
   exact wpIn_wide.2 (ry_ hw h1 aa HS.o hst dq (cL.cons HM.o aa (bR.from _) aa aJ) (hB2 _ dq.below) (hl _ dq.below))
end
section
open Go.RowKit Kal
def Xw (c:Per) (w:World) (e:Ending) (w':World):Prop:=
 ∃ (h' c':Value),e=.returned (an h' c' c.frm c.period)/\jg w' w.heap.size h' c' c/\Below w.heap.size w w'
theorem Ee (h c:Value) (p q:Per) (w:World) (hp:bX w h c p) (hw:p.WF) (h1:p.frm<=1125899906842624) (h2:p.period<=1125899906842624) (hq:bP q p.mem) :
  Calls Tryz.prog 129 #[an h c p.frm p.period] w (Xw q w):=by
 have key:Calls Tryz.prog 129 #[an h c p.frm p.period] w (IZ p.mem w):=by
  by_cases hc:p.cycle=[]
  .exact ob_ h c p w hp hw h1 hc
  exact m0_ h c p w hp hw h1 h2 hc
 refine key.mono λe w' hr=>?_;obtain ⟨h',c',q',rfl,hq',hp',hb⟩:=hr;obtain rfl:=hq'.unique hq;exact ⟨h',c',rfl,hp',hb⟩
def mO (c:Per) (w:World) (e:Ending) (w':World):Prop:=
 ∃ (h' c':Value),e=.returned (.tuple #[an h' c' c.frm c.period,.int .i64 0])/\jg w' w.heap.size h' c' c/\Below w.heap.size w w'
def QS (k:Int) (w:World) (e:Ending) (w':World):Prop:=
 e=.returned (.tuple #[an (.slice none 0 0) (.slice none 0 0) 0 0,.int .i64 k])/\Below w.heap.size w w'
theorem w5_ (h c:Value) (p q:Per) (w:World) (hp:bX w h c p) (hv:Valid p) (hq:bP q p.mem) :
  Calls Tryz.prog 98 #[an h c p.frm p.period] w (mO q w):=by
 have hl:∀ W,Below w.heap.size w W->bX W h c p:=λW hb=>hp.ext hb;have te:=(oL p).2 hv;have HV:=ad hv;have HF:Hid (p.frm<=1125899906842624):=by have:=hv.frm;exact ad aa
 have HP:Hid (p.period<=1125899906842624):=by have:=hv.per;exact ad aa
 have HQ:=ad hq;clear hv hp hq
 go_in
 go_wp2_with (first|(go_at_call 92;refine (qO h c p _ (hl _ xE)).mono ?_;rintro e w1 ⟨rfl,hb1⟩;obtain ⟨hc1,gh⟩:=fJ hb1;have hz1:w.heap.size+1<w1.heap.size:=(by have:=hb1.size;simp at this;omega))|(go_at_call 129;refine (Ee h c p q _ (hl _ xE) HV.o.wf HF.o HP.o HQ.o).mono ?_;rintro e w2 ⟨h',c',rfl,eO,hb2⟩;obtain ⟨a1,c1,a2,c2,rfl,rfl⟩:=eO.form;obtain ⟨hc2,hf2⟩:=fJ hb2;have kA:=ad eO;clear eO))
 exact bodyPost_ret (v:=.tuple #[an (.slice a1 q.head.length c1) (.slice a2 q.cycle.length c2) q.frm q.period,.int .i64 0]) (by simp [results,Tryz.results98,go_sem, *]) rfl ⟨_,_,rfl,(kA.o.above (by (repeat' (with_reducible first|exact b7.refl _ _|refine b7.alloc ?_ _|refine b7.drew ?_|refine b7.drewN ?_ _|refine b7.setCell ?_ (by first|(simp;done)|(simp;omega)|omega) _)))).mono (by have:=hb1.size;simp at this;omega),xE⟩
end
end Go.Proofs.YtbmgmlbmgogeaaaGreat
