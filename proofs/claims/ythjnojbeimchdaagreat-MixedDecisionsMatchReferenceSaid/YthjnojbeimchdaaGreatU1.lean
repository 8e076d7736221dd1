/- Part 1 of the proof of MixedDecisionsMatchReference_said. -/
import Derived.Lib.SlicesCompact
import Derived.Shelf.Small.Bits
import Derived.Shelf.Small.Wraps
import Derived.Shelf.Strconv.Itoa0
import Derived.Shelf.Sort.Plain
import Derived.Shelf.Bits.Mul64
import Derived.Shelf.Slices.Equal
import Derived.Ground.Names2Prog
import Derived.Shelf.Slices.Clone
import Derived.Shelf.Slices.CompactI
import Derived.Shelf.Slices.SearchI
import Derived.Shelf.Slices.Cells
import Derived.Shelf.Slices.In.SortNone
import Derived.Shelf.Slices.Empties
import Derived.Shelf.Slices.Empties2
import Derived.Test.YthjnojbeimchdaaGreatProg
import Derived.WalkKit
import Derived.WalkSpells
import Derived.WalkLawsBesides
import Derived.Lib.Hide
import Derived.Deep.QuietTactic
import Derived.BigQuiet
import Derived.IntWalk
import Derived.Deep.RegionHeld3
import Derived.Deep.DeepFit
set_option linter.unusedVariables false
set_option linter.unusedSimpArgs false
set_option maxRecDepth 100000
set_option maxHeartbeats 4000000
theorem oq_ {P:Prop} (h:P:=by omega):P:=h
theorem sq_ {P:Prop} (h:P:=by simp):P:=h
theorem rq_ {P:Prop} (h:P:=by rfl):P:=h
theorem dq_ {P:Prop} (h:P:=by decide):P:=h
theorem tq_ {P:Prop} (h:P:=by (simp;omega)):P:=h
theorem hq_ {P:Prop} (h:P):Go.RowKit.Hid P:=Go.Lib.hid h
namespace Kal
theorem ep_:∀ {l m:List Int},l.Pairwise (· < ·)->m.Pairwise (· < ·)->(∀ x,x∈l↔x∈m)->l=m:=by
 intro l
 induction l with
 | nil=>
  intro m _ _ h;cases m with
  | nil=>rfl
  | cons b m=>exact absurd ((h b).2 sq_) sq_
 | cons a l ih=>
  intro m hl hm h;cases m with
  | nil=>exact absurd ((h a).1 sq_) sq_
  | cons b m=>
   have hl':=List.pairwise_cons.1 hl;have hm':=List.pairwise_cons.1 hm;have hab:a=b:=by
    have h1:=(h a).1 sq_;have h2:=(h b).2 sq_;rcases List.mem_cons.1 h1 with h1|h1
    ·exact h1
    ·rcases List.mem_cons.1 h2 with h2|h2
     ·exact h2.symm
     ·have:=hl'.1 b h2;have:=hm'.1 a h1;omega
   subst hab;have:l=m:=by
    refine ih hl'.2 hm'.2 fun x=>?_;constructor
    ·intro hx;rcases List.mem_cons.1 ((h x).1 (List.mem_cons_of_mem _ hx)) with h1|h1
     ·have:=hl'.1 x hx;omega
     ·exact h1
    ·intro hx;rcases List.mem_cons.1 ((h x).2 (List.mem_cons_of_mem _ hx)) with h1|h1
     ·have:=hm'.1 x hx;omega
     ·exact h1
   rw [this]
def Rise (lo hi:Int) (l:List Int):Prop:=l.Pairwise (· < ·)∧∀ x∈l,lo≤x∧x<hi
theorem Rise.ext {lo hi lo' hi':Int} {l m:List Int} (hl:Rise lo hi l) (hm:Rise lo' hi' m) (h:∀ x,x∈l↔x∈m):l=m:=ep_ hl.1 hm.1 h
theorem Rise.nil {lo hi:Int}:Rise lo hi []:=⟨.nil,sq_⟩
theorem Rise.mono {lo hi lo' hi':Int} {l:List Int} (h:Rise lo hi l) (h1:lo'≤lo) (h2:hi≤hi'):Rise lo' hi' l:=⟨h.1,fun x hx=>by have:=h.2 x hx;omega⟩
theorem Rise.append {a b c d:Int} {l m:List Int} (hl:Rise a b l) (hm:Rise c d m) (h:b≤c) (h1:a≤c) (h2:b≤d):Rise a d (l ++ m):=by
 refine ⟨List.pairwise_append.2 ⟨hl.1,hm.1,fun x hx y hy=>?_⟩,fun x hx=>?_⟩
 ·have:=hl.2 x hx;have:=hm.2 y hy;omega
 ·rcases List.mem_append.1 hx with hx|hx
  ·have:=hl.2 x hx;omega
  ·have:=hm.2 x hx;omega
theorem Rise.map_add {a b:Int} {l:List Int} (hl:Rise a b l) (t:Int):Rise (a+t) (b+t) (l.map (·+t)):=by
 refine ⟨List.pairwise_map.2 (hl.1.imp fun h=>oq_),fun x hx=>?_⟩;obtain ⟨y,hy,rfl⟩:=List.mem_map.1 hx;have:=hl.2 y hy;omega
theorem Rise.filter {a b:Int} {l:List Int} (hl:Rise a b l) (p:Int->Bool):Rise a b (l.filter p):=
 ⟨hl.1.filter p,fun x hx=>hl.2 x (List.mem_filter.1 hx).1⟩
theorem Rise.get_lt {a b:Int} {l:List Int} (hl:Rise a b l) {i j:Nat} (hij:i<j) (hj:j<l.length):l[i]' oq_<l[j]:=
 List.pairwise_iff_getElem.1 hl.1 i j oq_ hj hij
theorem Rise.get_bounds {a b:Int} {l:List Int} (hl:Rise a b l) {i:Nat} (hi:i<l.length):a≤l[i]∧l[i]<b:=hl.2 _ (List.getElem_mem hi)
theorem Rise.get_ge {a b:Int} {l:List Int} (hl:Rise a b l):∀ {i:Nat} (hi:i<l.length),a+i≤l[i]:=by
 intro i
 induction i with
 | zero=>intro hi;have:=hl.get_bounds hi;simpa using this.1
 | succ i ih=>intro hi;have:=ih oq_;have:l[i]' oq_<l[i+1]:=hl.get_lt (Nat.lt_succ_self i) hi;omega
theorem Rise.length_le {a b:Int} {l:List Int} (hl:Rise a b l) (hab:a≤b):(l.length:Int)≤b-a:=by
 cases h:l.length with
 | zero=>simp;omega
 | succ n=>
  have:=hl.get_ge (i:=n) oq_;have:=hl.get_bounds (i:=n) oq_;push_cast;omega
structure Per where
 head:List Int
 frm:Int
 period:Int
 cycle:List Int
structure Per.WF (p:Per):Prop where
 frm:0≤p.frm
 per:1≤p.period
 head:Rise 0 p.frm p.head
 cyc:Rise 0 p.period p.cycle
def Per.mem (p:Per) (n:Int):Prop:=0≤n∧if n<p.frm then n∈p.head else (n-p.frm) % p.period∈p.cycle
instance (p:Per) (n:Int):Decidable (p.mem n):=by unfold Per.mem;infer_instance
theorem Per.mem_lo {p:Per} {n:Int} (h0:0≤n) (h:n<p.frm):p.mem n↔n∈p.head:=by unfold Per.mem;simp [h,h0]
theorem Per.mem_hi {p:Per} {n:Int} (h0:0≤n) (h:p.frm≤n):p.mem n↔(n-p.frm) % p.period∈p.cycle:=by
 unfold Per.mem;rw [if_neg oq_];simp [h0]
def EvP (S:Int->Prop) (d:Int):Prop:=∃ N,∀ n,N≤n->(S n↔S (n+d))
def am_ (S:Int->Prop) (f d:Int):Prop:=∀ n,f≤n->(S n↔S (n+d))
theorem am_.ev {S:Int->Prop} {f d:Int} (h:am_ S f d):EvP S d:=⟨f,h⟩
theorem am_.mul {S:Int->Prop} {f d:Int} (h:am_ S f d) (hd:0≤d) (k:Nat):am_ S f (k*d):=by
 intro n hn
 induction k with
 | zero=>simp
 | succ k ih=>
  have h0:0≤(k:Int)*d:=Int.mul_nonneg oq_ hd;rw [ih,h (n+k*d) oq_];rw [show n+(k:Int)*d+d=n+((k+1:Nat):Int)*d from by push_cast;rw [Int.add_mul];omega]
theorem EvP.sub {S:Int->Prop} {a b:Int} (ha:EvP S a) (hb:EvP S b):EvP S (a-b):=by
 obtain ⟨N,ha⟩:=ha;obtain ⟨M,hb⟩:=hb;refine ⟨max N (M+b-a)+max 0 (b-a),fun n hn=>?_⟩;rw [ha n oq_,hb (n+(a-b)) oq_,show n+(a-b)+b=n+a from by omega]
theorem EvP.mul {S:Int->Prop} {d:Int} (h:EvP S d) (hd:0≤d) (k:Nat):EvP S (k*d):=by
 obtain ⟨N,h⟩:=h;exact ⟨N,(show am_ S N d from h).mul hd k⟩
theorem fq_ (T x:Int) (hT:1≤T):∃ k:Nat,x≤(k:Int)*T∧0≤(k:Int)*T:=by
 refine ⟨x.toNat,?_⟩;generalize hq:((x.toNat:Nat):Int)=q;have hq0:0≤q:=oq_;have:q*1≤q*T:=Int.mul_le_mul_of_nonneg_left hT hq0;omega
theorem am_.of_ev {S:Int->Prop} {f T d:Int} (hT:am_ S f T) (h1:1≤T) (hd:0≤d) (h:EvP S d):am_ S f d:=by
 obtain ⟨N,h⟩:=h;intro n hn;obtain ⟨k,hk,hk0⟩:=fq_ T (N-n) h1;have e1:=hT.mul oq_ k n hn;have e2:=hT.mul oq_ k (n+d) oq_;rw [e1,h _ oq_,e2,show n+(k:Int)*T+d=n+d+(k:Int)*T from by omega]
structure a6_ (c:Per) (S:Int->Prop):Prop where
 wf:c.WF
 mem:∀ n,c.mem n↔S n
 minp:∀ d,1≤d->EvP S d->c.period≤d
 minf:∀ f,0≤f->am_ S f c.period->c.frm≤f
theorem Per.WF.pfrom {p:Per} (h:p.WF):am_ p.mem p.frm p.period:=by
 intro n hn;have:=h.frm;have:=h.per;rw [Per.mem_hi oq_ hn,Per.mem_hi oq_ oq_,show n+p.period-p.frm=n-p.frm+p.period from oq_,Int.add_emod_right]
theorem am_.congr {S S':Int->Prop} (h:∀ n,S n↔S' n) {f d:Int}:am_ S f d↔am_ S' f d:=by
 unfold am_;simp only [h]
theorem EvP.congr {S S':Int->Prop} (h:∀ n,S n↔S' n) {d:Int}:EvP S d↔EvP S' d:=by
 unfold EvP;simp only [h]
theorem a6_.congr {c:Per} {S S':Int->Prop} (h:a6_ c S) (hs:∀ n,S n↔S' n):a6_ c S':=
 ⟨h.wf,fun n=>(h.mem n).trans (hs n),fun d hd he=>h.minp d hd ((EvP.congr hs).2 he),fun f hf he=>h.minf f hf ((am_.congr hs).2 he)⟩
theorem a6_.pfrom {c:Per} {S:Int->Prop} (h:a6_ c S):am_ S c.frm c.period:=(am_.congr h.mem).1 h.wf.pfrom
theorem Per.ext' {a b:Per} (h1:a.head=b.head) (h2:a.frm=b.frm) (h3:a.period=b.period) (h4:a.cycle=b.cycle):a=b:=by
 cases a;cases b;simp_all
theorem Per.WF.cyc_mem {p:Per} (h:p.WF) (x:Int):x∈p.cycle↔0≤x∧x<p.period∧p.mem (p.frm+x):=by
 have:=h.frm;constructor
 ·intro hx;have hb:=h.cyc.2 x hx;refine ⟨hb.1,hb.2,(Per.mem_hi oq_ oq_).2 ?_⟩;rw [show p.frm+x-p.frm=x from oq_,Int.emod_eq_of_lt hb.1 hb.2];exact hx
 ·rintro ⟨h0,h1,hm⟩;rw [Per.mem_hi oq_ oq_,show p.frm+x-p.frm=x from oq_,Int.emod_eq_of_lt h0 h1] at hm;exact hm
theorem Per.WF.head_mem {p:Per} (h:p.WF) (x:Int):x∈p.head↔0≤x∧x<p.frm∧p.mem x:=by
 constructor
 ·intro hx;have hb:=h.head.2 x hx;exact ⟨hb.1,hb.2,(Per.mem_lo hb.1 hb.2).2 hx⟩
 ·rintro ⟨h0,h1,hm⟩;exact (Per.mem_lo h0 h1).1 hm
theorem a6_.unique {c c':Per} {S:Int->Prop} (h:a6_ c S) (h':a6_ c' S):c=c':=by
 have hp:c.period=c'.period:=Int.le_antisymm (h.minp _ h'.wf.per h'.pfrom.ev) (h'.minp _ h.wf.per h.pfrom.ev);have hf:c.frm=c'.frm:=by
  refine Int.le_antisymm (h.minf _ h'.wf.frm ?_) (h'.minf _ h.wf.frm ?_)
  ·rw [hp];exact h'.pfrom
  ·rw [<- hp];exact h.pfrom
 refine Per.ext' (h.wf.head.ext h'.wf.head fun x=>?_) hf hp (h.wf.cyc.ext h'.wf.cyc fun x=>?_)
 ·rw [h.wf.head_mem,h'.wf.head_mem,h.mem,h'.mem,hf]
 ·rw [h.wf.cyc_mem,h'.wf.cyc_mem,h.mem,h'.mem,hf,hp]
theorem ii_ {S:Int->Prop} {d T:Int} (hd:1≤d) (hev:EvP S d) (hmin:∀ e,1≤e->EvP S e->d≤e) (hT:1≤T) (h:EvP S T):d∣T:=by
 have h0:0≤T / d:=Int.ediv_nonneg oq_ oq_;have he:EvP S (T-(T / d).toNat*d):=h.sub (hev.mul oq_ _);rw [Int.toNat_of_nonneg h0] at he;have hm:T-T / d*d=T % d:=by have:=Int.emod_add_ediv_mul T d;omega
 rw [hm] at he;have hlt:=Int.emod_lt_of_pos T (show 0<d by omega);have hge:=Int.emod_nonneg T (show d≠0 by omega)
 by_cases hz:T % d=0
 ·exact Int.dvd_of_emod_eq_zero hz
 ·have:=hmin _ oq_ he;omega
theorem exists_least {S:Int->Prop} {T:Int} (hT:1≤T) (h:EvP S T):∃ d,1≤d∧EvP S d∧∀ e,1≤e->EvP S e->d≤e:=by
 have key:∀ n:Nat,∀ T:Int,T.toNat=n->1≤T->EvP S T->∃ d,1≤d∧EvP S d∧∀ e,1≤e->EvP S e->d≤e:=by
  intro n
  induction n using Nat.strongRecOn with
  | _ n ih=>
   intro T hn hT h
   by_cases hm:∃ e,1≤e∧EvP S e∧e<T
   ·obtain ⟨e,he1,he2,he3⟩:=hm;exact ih e.toNat oq_ e rfl he1 he2
   ·refine ⟨T,hT,h,fun e he1 he2=>?_⟩;exact Int.not_lt.1 fun hlt=>hm ⟨e,he1,he2,hlt⟩
 exact key _ T rfl hT h
def blocks (B:List Int) (d b:Int):Nat->List Int
 | 0=>[]
 | t+1=>blocks B d b t ++ B.map (·+(b+t*d))
theorem dd_ (B:List Int) (d b:Int) (t:Nat):(blocks B d b t).length=t*B.length:=by
 induction t with
 | zero=>simp [blocks]
 | succ t ih=>simp [blocks,ih,Nat.succ_mul]
theorem p0_ {B:List Int} {d b:Int} (hB:Rise 0 d B) (hd:0≤d) (t:Nat):Rise b (b+t*d) (blocks B d b t):=by
 induction t with
 | zero=>exact Rise.nil
 | succ t ih=>
  have h0:0≤(t:Int)*d:=Int.mul_nonneg oq_ hd;refine (ih.append (hB.map_add (b+t*d)) oq_ oq_ oq_).mono oq_ ?_;push_cast;rw [Int.add_mul];omega
theorem fz_ {B:List Int} {d b:Int} (hB:Rise 0 d B) (hd:1≤d) (t:Nat) (x:Int):x∈blocks B d b t↔b≤x∧x<b+t*d∧(x-b) % d∈B:=by
 induction t with
 | zero=>simp [blocks];omega
 | succ t ih=>
  have h0:0≤(t:Int)*d:=Int.mul_nonneg oq_ oq_;have hs:((t+1:Nat):Int)*d=t*d+d:=by push_cast;rw [Int.add_mul];omega
  rw [blocks,List.mem_append,ih,List.mem_map,hs];constructor
  ·rintro (⟨h1,h2,h3⟩|⟨y,hy,rfl⟩)
   ·exact ⟨h1,oq_,h3⟩
   ·have hb:=hB.2 y hy;refine ⟨oq_,oq_,?_⟩;rw [show y+(b+t*d)-b=y+t*d from oq_,Int.add_mul_emod_self_right,Int.emod_eq_of_lt hb.1 hb.2];exact hy
  ·rintro ⟨h1,h2,h3⟩
   by_cases hx:x<b+t*d
   ·exact .inl ⟨h1,hx,h3⟩
   ·refine .inr ⟨x-(b+t*d),?_,oq_⟩;have:(x-b) % d=x-(b+t*d):=by
     rw [show x-b=(x-(b+t*d))+t*d from oq_,Int.add_mul_emod_self_right,Int.emod_eq_of_lt oq_ oq_]
    rw [<- this];exact h3
theorem s2_ {B:List Int} {d b:Int} {t j i:Nat} (hj:j<t) (hi:i<B.length):(blocks B d b t)[j*B.length+i]? = some (B[i]+(b+j*d)):=by
 induction t with
 | zero=>omega
 | succ t ih=>
  rw [blocks]
  by_cases hjt:j<t
  ·have hlt:j*B.length+i<(blocks B d b t).length:=by
    rw [dd_];have:(j+1)*B.length≤t*B.length:=Nat.mul_le_mul_right _ hjt;rw [Nat.succ_mul] at this;omega
   rw [List.getElem?_append_left hlt];exact ih hjt
  ·obtain rfl:j=t:=oq_;rw [List.getElem?_append_right (by rw [dd_];omega),dd_,show j*B.length+i-j*B.length=i from by omega];simp [hi]
theorem f8_ {B:List Int} {d b:Int} {t j i k:Nat} (hk:B.length=k) (hj:j<t) (hi:i<k):(blocks B d b t)[j*k+i]? = some (B[i]' oq_+(b+j*d)):=by
 subst hk;exact s2_ hj hi
theorem k0_ {C:List Int} {d:Int} {parts k:Nat} (hn:C.length=parts*k) (h:∀ i (hi:i<C.length) (_:k≤i),C[i]=C[i-k]+d) (hk:1≤k) :
  C=blocks (C.take k) d 0 parts:=by
 rcases Nat.eq_zero_or_pos parts with rfl|hp
 ·have:C.length=0:=by rw [hn];simp
  rw [List.eq_nil_of_length_eq_zero this];rfl
 have hkl:k≤C.length:=by rw [hn];exact Nat.le_mul_of_pos_left k hp
 have hlen:(C.take k).length=k:=by simp;omega
 have key:∀ j i,i<k->j<parts->∀ hlt:j*k+i<C.length,C[j*k+i]=C[i]' oq_+j*d:=by
  intro j
  induction j with
  | zero=>intro i _ _ _;simp
  | succ j ih=>
   intro i hi hj hlt;have e1:=h ((j+1)*k+i) hlt (by rw [Nat.succ_mul];omega);have e2:(j+1)*k+i-k=j*k+i:=by rw [Nat.succ_mul];omega
   have hlt':j*k+i<C.length:=by rw [<- e2];omega
   have e3:C[(j+1)*k+i-k]' oq_=C[j*k+i]:=by congr 1
   rw [e1,e3,ih i hi oq_ hlt'];push_cast;rw [Int.add_mul];omega
 refine List.ext_getElem (by rw [dd_,hlen,hn]) fun i h1 h2=>?_;have hi:i % k<k:=Nat.mod_lt _ hk;have hj:i / k<parts:=by rw [hn] at h1;exact Nat.div_lt_of_lt_mul (by rw [Nat.mul_comm];exact h1)
 have hdm:i / k*k+i % k=i:=by rw [Nat.mul_comm];exact Nat.div_add_mod i k
 have g:=f8_ (B:=C.take k) (d:=d) (b:=0) (t:=parts) (j:=i / k) (i:=i % k) hlen hj hi;rw [hdm,List.getElem?_eq_getElem h2] at g;have g:=Option.some.inj g;rw [g,List.getElem_take];have kk:=key (i / k) (i % k) hi hj (by rw [hdm];exact h1);have e4:C[i / k*k+i % k]'(by rw [hdm];exact h1)=C[i]:=by congr 1
 rw [e4] at kk;rw [kk];omega
def db_ (C:List Int) (d:Int) (k:Nat):Prop:=(∀ i (hi:i<C.length) (_:k≤i),C[i]=C[i-k]+d)∧∃ h:k-1<C.length,C[k-1]<d
theorem ih_ {C:List Int} {T d:Int} {parts k:Nat} (hC:Rise 0 T C) (hn:C.length=parts*k) (hk:1≤k) (h:db_ C d k) :
  C=blocks (C.take k) d 0 parts∧Rise 0 d (C.take k):=by
 have hb:=k0_ hn h.1 hk;refine ⟨hb,hC.1.sublist (List.take_sublist k C),fun x hx=>?_⟩;obtain ⟨i,hi,rfl⟩:=List.getElem_of_mem hx;have hik:i<k∧i<C.length:=by simp at hi;omega
 rw [List.getElem_take];refine ⟨(hC.get_bounds hik.2).1,?_⟩;obtain ⟨hl,hlt⟩:=h.2;rcases Nat.lt_or_ge i (k-1) with hi'|hi'
 ·have:=hC.get_lt hi' hl;omega
 ·obtain rfl:i=k-1:=oq_;exact hlt
def CycP (C:List Int) (T d:Int):Prop:=∀ x,0≤x->x<T->(x∈C↔x % d∈C)
theorem e0_ {x d:Int} {parts:Nat} (hd:1≤d) (hp:1≤parts):0≤x % d∧x % d<d∧d≤parts*d:=by
 have h1:=Int.emod_lt_of_pos x (show 0<d by omega);have h2:=Int.emod_nonneg x (show d≠0 by omega);have h3:1*d≤parts*d:=Int.mul_le_mul_of_nonneg_right oq_ oq_;omega
theorem hx_ {C:List Int} {T d:Int} {parts k:Nat} (hC:Rise 0 T C) (hd:1≤d) (hp:1≤parts) (hT:T=parts*d) (hn:C.length=parts*k) (hk:1≤k) (h:db_ C d k):CycP C T d:=by
 obtain ⟨hb,hr⟩:=ih_ hC hn hk h;intro x h0 hx;have hm:=e0_ (x:=x) hd hp;rw [hb,fz_ hr hd,fz_ hr hd];simp only [Int.sub_zero,Int.zero_add,Int.emod_emod];constructor
 ·rintro ⟨_,_,h3⟩;exact ⟨hm.1,oq_,h3⟩
 ·rintro ⟨_,_,h3⟩;exact ⟨h0,oq_,h3⟩
theorem i4_ {C:List Int} {T d:Int} {parts:Nat} (hC:Rise 0 T C) (hd:1≤d) (hp:1≤parts) (hT:T=parts*d) (hne:C≠[]) (h:CycP C T d) :
  ∃ k,1≤k∧C.length=parts*k∧db_ C d k:=by
 have hdT:d≤T:=by have:=e0_ (x:=0) hd hp;omega
 obtain ⟨B,hBdef⟩:∃ B,B=C.filter (fun x=>decide (x<d)):=⟨_,rfl⟩;have hBm:∀ x,x∈B↔x∈C∧x<d:=fun x=>by rw [hBdef,List.mem_filter];simp
 have hB:Rise 0 d B:=⟨by rw [hBdef];exact hC.1.filter _,fun x hx=>⟨(hC.2 x ((hBm x).1 hx).1).1,((hBm x).1 hx).2⟩⟩;have hCb:C=blocks B d 0 parts:=by
  refine hC.ext (p0_ hB oq_ parts) fun x=>?_;rw [fz_ hB hd,hBm];simp only [Int.sub_zero,Int.zero_add,<- hT];constructor
  ·intro hx;have hb:=hC.2 x hx;exact ⟨hb.1,hb.2,(h x hb.1 hb.2).1 hx,(e0_ (x:=x) hd hp).2.1⟩
  ·rintro ⟨h0,h1,h2,_⟩;exact (h x h0 h1).2 h2
 have hlen:C.length=parts*B.length:=by rw [hCb,dd_]
 have hk:1≤B.length:=by
  rcases Nat.eq_zero_or_pos B.length with h0|h0
  ·rw [h0] at hlen;exact absurd (List.eq_nil_of_length_eq_zero (by simpa using hlen)) hne
  ·exact h0
 obtain ⟨k,hk'⟩:∃ k,B.length=k:=⟨_,rfl⟩;rw [hk'] at hlen hk;refine ⟨k,hk,hlen,fun i hi hki=>?_,?_⟩
 ·have hkp:0<k:=hk;have hi1:i % k<k:=Nat.mod_lt _ hkp;have hj:i / k<parts:=by rw [hlen] at hi;exact Nat.div_lt_of_lt_mul (by rw [Nat.mul_comm];exact hi)
  have hdm:i / k*k+i % k=i:=by rw [Nat.mul_comm];exact Nat.div_add_mod i k
  have hj1:1≤i / k:=(Nat.le_div_iff_mul_le hkp).2 oq_;obtain ⟨q,hq⟩:∃ q,i / k=q+1:=⟨i / k-1,oq_⟩;have hm2:q*k+i % k=i-k:=by rw [hq,Nat.succ_mul] at hdm;omega
  have g1:=f8_ (B:=B) (d:=d) (b:=0) (t:=parts) (j:=i / k) (i:=i % k) hk' hj hi1;have g2:=f8_ (B:=B) (d:=d) (b:=0) (t:=parts) (j:=q) (i:=i % k) hk' oq_ hi1;rw [hdm,<- hCb,List.getElem?_eq_getElem hi] at g1;rw [hm2,<- hCb,List.getElem?_eq_getElem oq_] at g2;rw [Option.some.inj g1,Option.some.inj g2,hq];push_cast;rw [Int.add_mul];omega
 ·have hl:k≤C.length:=by rw [hlen];exact Nat.le_mul_of_pos_left _ oq_
  refine ⟨oq_,?_⟩;have g1:=f8_ (B:=B) (d:=d) (b:=0) (t:=parts) (j:=0) (i:=k-1) hk' oq_ oq_;rw [<- hCb] at g1;simp only [Nat.zero_mul,Nat.zero_add] at g1;rw [List.getElem?_eq_getElem oq_] at g1;rw [Option.some.inj g1];have:=(hB.get_bounds (i:=k-1) oq_).2;simpa using this
theorem i2_ {p:Per} (h:p.WF) {d:Int} {parts:Nat} (hT:p.period=parts*d) (hc:CycP p.cycle p.period d) :
  ∀ n,p.frm≤n->(p.mem n↔(n-p.frm) % d∈p.cycle):=by
 intro n hn;have h0:=h.frm;have hper:=h.per;rw [Per.mem_hi oq_ hn];have h1:=Int.emod_lt_of_pos (n-p.frm) (show 0<p.period by omega);have h2:=Int.emod_nonneg (n-p.frm) (show p.period≠0 by omega);rw [hc _ h2 h1];rw [Int.emod_emod_of_dvd _ ⟨(parts:Int),by rw [hT,Int.mul_comm]⟩]
theorem ky_ {p:Per} (h:p.WF) {d:Int} (hd:1≤d) (he:EvP p.mem d) (hle:d≤p.period):CycP p.cycle p.period d:=by
 intro x h0 hx;have hf:=h.frm;have hp:=h.pfrom.of_ev h.per oq_ he;have h1:=Int.emod_lt_of_pos x (show 0<d by omega);have h2:=Int.emod_nonneg x (show d≠0 by omega);have hq0:0≤x / d:=Int.ediv_nonneg h0 oq_;have e:=hp.mul oq_ (x / d).toNat (p.frm+x % d) oq_;rw [Int.toNat_of_nonneg hq0] at e;have hm:p.frm+x % d+x / d*d=p.frm+x:=by have:=Int.emod_add_ediv_mul x d;omega
 rw [hm] at e;constructor
 ·intro hx';exact (h.cyc_mem _).2 ⟨h2,oq_,e.2 ((h.cyc_mem x).1 hx').2.2⟩
 ·intro hx';exact (h.cyc_mem x).2 ⟨h0,hx,e.1 ((h.cyc_mem _).1 hx').2.2⟩
structure e2_ (p:Per) (d:Int) (B:List Int):Prop where
 pos:1≤d
 le:d≤p.period
 rise:Rise 0 d B
 ne:B≠[]
 mem:∀ n,p.frm≤n->(p.mem n↔(n-p.frm) % d∈B)
 minp:∀ e,1≤e->EvP p.mem e->d≤e
 ev:EvP p.mem d
 len:B.length≤p.cycle.length
theorem d4_ {p:Per} (h:p.WF) (hne:p.cycle≠[]) {d:Int} {parts k:Nat} (hd:1≤d) (hp:1≤parts) (hT:p.period=parts*d) (hn:p.cycle.length=parts*k) (hk:1≤k)
  (hP:db_ p.cycle d k)
  (hmax:∀ parts' d' k',parts<parts'->1≤d'->1≤k'->p.period=(parts':Nat)*d'->p.cycle.length=parts' * k'->¬ db_ p.cycle d' k') :
  e2_ p d (p.cycle.take k):=by
 obtain ⟨hb,hr⟩:=ih_ h.cyc hn hk hP;have hc:=hx_ h.cyc hd hp hT hn hk hP;have hmem:∀ n,p.frm≤n->(p.mem n↔(n-p.frm) % d∈p.cycle.take k):=by
  intro n hn;rw [i2_ h hT hc n hn];have hm:=e0_ (x:=n-p.frm) hd hp;constructor
  ·intro hx;rw [hb,fz_ hr hd] at hx;simpa using hx.2.2
  ·exact fun hx=>List.mem_of_mem_take hx
 have hev:EvP p.mem d:=⟨p.frm,fun n hn=>by
  rw [hmem n hn,hmem _ oq_,show n+d-p.frm=n-p.frm+d from oq_,Int.add_emod_right]⟩
 have hle:d≤p.period:=by have:=e0_ (x:=0) hd hp;omega
 refine ⟨hd,hle,hr,?_,hmem,?_,hev,by rw [List.length_take];exact Nat.min_le_right _ _⟩
 ·intro h0;have:(p.cycle.take k).length=0:=by rw [h0];rfl
  have h1:k≤p.cycle.length:=by rw [hn];exact Nat.le_mul_of_pos_left k hp
  rw [List.length_take,Nat.min_eq_left h1] at this;omega
 ·obtain ⟨d0,h01,h02,h03⟩:=exists_least hd hev;have hd0d:d0≤d:=h03 d hd hev;have hdv:d0∣p.period:=ii_ h01 h02 h03 h.per h.pfrom.ev;obtain ⟨q,hq⟩:=hdv;have hq1:1≤q:=by
   rcases Int.lt_or_le 0 q with hq0|hq0
   ·omega
   ·have h5:d0*q≤d0*0:=Int.mul_le_mul_of_nonneg_left hq0 (show 0≤d0 by omega);have h6:=h.per;rw [hq] at h6;simp at h5;omega
  have hT0:p.period=(q.toNat:Nat)*d0:=by rw [Int.toNat_of_nonneg oq_,hq,Int.mul_comm]
  obtain ⟨k0,hk0,hn0,hP0⟩:=i4_ h.cyc h01 (show 1≤q.toNat by omega) hT0 hne (ky_ h h01 h02 oq_);have hle2:q.toNat≤parts:=Nat.le_of_not_lt fun hlt=>hmax _ _ _ hlt h01 hk0 hT0 hn0 hP0;have hdd:d=d0:=by
   refine Int.le_antisymm ?_ hd0d;rcases Int.lt_or_le d0 d with hlt|hge
   ·exfalso;have e1:(parts:Int)*d=(q.toNat:Nat)*d0:=hT ▸ hT0;have e2:(q.toNat:Int)*d0≤parts*d0:=Int.mul_le_mul_of_nonneg_right oq_ oq_;have e3:(parts:Int)*d0<parts*d:=Int.mul_lt_mul_of_pos_left hlt oq_;omega
   ·exact hge
  rw [hdd];exact h03
open Classical in
noncomputable def cnt (S:Int->Prop):Nat->Int
 | 0=>0
 | n+1=>cnt S n+if S n then 1 else 0
theorem md_ {S T:Int->Prop} (h:∀ n,S n↔T n) (n:Nat):cnt S n=cnt T n:=by
 induction n with
 | zero=>rfl
 | succ n ih=>simp only [cnt,ih];by_cases hs:S n <;> simp [hs,<- h]
theorem fj_ (S:Int->Prop) (n:Nat):0≤cnt S n∧cnt S n≤n:=by
 induction n with
 | zero=>simp [cnt]
 | succ n ih=>simp only [cnt];split <;> omega
theorem rk_ (S T:Int->Prop) (n:Nat):cnt S n+cnt T n=cnt (fun x=>S x∨T x) n+cnt (fun x=>S x∧T x) n:=by
 induction n with
 | zero=>rfl
 | succ n ih=>
  simp only [cnt]
  by_cases h1:S n <;> by_cases h2:T n <;> simp [h1,h2] <;> omega
theorem f2_ {l:List Int} (hl:l.Pairwise (· < ·)) (x:Int) :
  ((l.countP (fun y=>decide (y<x+1)):Nat):Int)=(l.countP (fun y=>decide (y<x)):Nat)+if x∈l then 1 else 0:=by
 induction l with
 | nil=>simp
 | cons a l ih=>
  have h:=List.pairwise_cons.1 hl;have:=ih h.2;simp only [List.countP_cons,List.mem_cons]
  by_cases hx:x∈l
  ·have:=h.1 x hx;simp only [hx,or_true,if_true] at *;have h1:a<x+1:=oq_;have h2:a<x:=oq_;simp [h1,h2];omega
  ·simp only [hx,or_false,if_false] at *
   by_cases hxa:x=a
   ·obtain rfl:x=a:=hxa;have h1:x<x+1:=oq_;have h2:¬ x<x:=oq_;rw [if_pos rfl,if_pos (decide_eq_true h1),if_neg sq_];omega
   ·by_cases h1:a<x
    ·have h2:a<x+1:=oq_;simp [h1,h2,hxa];omega
    ·have h2:¬ a<x+1:=oq_;simp [h1,h2,hxa];omega
theorem fn_ {l:List Int} {a b x:Int} (hl:Rise a b l) (h:b≤x):l.countP (fun y=>decide (y<x))=l.length:=by
 rw [List.countP_eq_length];intro y hy;have:=hl.2 y hy;simp;omega
theorem do_ {l:List Int} {a b x:Int} (hl:Rise a b l) (h:x≤a):l.countP (fun y=>decide (y<x))=0:=by
 rw [List.countP_eq_zero];intro y hy;have:=hl.2 y hy;simp;omega
def ay_ (p:Per) (n:Int):Int:=
 if n≤p.frm then ((p.head.countP (fun y=>decide (y<n)):Nat):Int)
 else p.head.length+(n-p.frm) / p.period*p.cycle.length+((p.cycle.countP (fun y=>decide (y<(n-p.frm) % p.period)):Nat):Int)
theorem gu_ {p:Per} (h:p.WF) {n:Int} (hn:p.frm≤n) :
  ay_ p n=p.head.length+(n-p.frm) / p.period*p.cycle.length+((p.cycle.countP (fun y=>decide (y<(n-p.frm) % p.period)):Nat):Int):=by
 unfold ay_
 split
 ·obtain rfl:n=p.frm:=oq_;rw [fn_ h.head (Int.le_refl _),Int.sub_self,Int.zero_ediv,Int.zero_emod,do_ h.cyc (Int.le_refl _)];simp
 ·rfl
theorem succ_div {x q:Int} (hq:1≤q):((x+1) % q=0∧(x+1) / q=x / q+1∧x % q=q-1)∨((x+1) % q=x % q+1∧(x+1) / q=x / q):=by
 have h1:=Int.emod_add_mul_ediv x q;have h2:=Int.emod_nonneg x (show q≠0 by omega);have h3:=Int.emod_lt_of_pos x (show 0<q by omega)
 by_cases h:x % q=q-1
 ·left;have e:x+1=q*(x / q+1):=by rw [Int.mul_add];omega
  refine ⟨by rw [e];exact Int.mul_emod_right _ _,?_,h⟩;rw [e];exact Int.mul_ediv_cancel_left _ oq_
 ·right;have e:x+1=(x % q+1)+q*(x / q):=oq_;constructor
  ·rw [e,Int.add_mul_emod_self_left,Int.emod_eq_of_lt oq_ oq_]
  ·rw [e,Int.add_mul_ediv_left _ _ oq_,Int.ediv_eq_zero_of_lt oq_ oq_];omega
theorem pc_ {p:Per} (h:p.WF) {n:Int} (hn:0≤n):ay_ p (n+1)=ay_ p n+if p.mem n then 1 else 0:=by
 by_cases hlt:n<p.frm
 ·unfold ay_;rw [if_pos oq_,if_pos oq_,f2_ h.head.1];simp only [Per.mem_lo hn hlt]
 ·have hp:=h.per;rw [gu_ h oq_,gu_ h oq_];simp only [Per.mem_hi hn (show p.frm≤n by omega)];rw [show n+1-p.frm=n-p.frm+1 from by omega];rcases succ_div (x:=n-p.frm) hp with ⟨h1,h2,h3⟩|⟨h1,h2⟩
  ·have e:=f2_ h.cyc.1 ((n-p.frm) % p.period);rw [h3,show p.period-1+1=p.period from oq_,fn_ h.cyc (Int.le_refl _)] at e;rw [h1,h2,h3,do_ h.cyc (Int.le_refl _),Int.add_mul];omega
  ·have e:=f2_ h.cyc.1 ((n-p.frm) % p.period);rw [h1,h2,e];omega
theorem rx_ {p:Per} (h:p.WF) (n:Nat):ay_ p n=cnt p.mem n:=by
 induction n with
 | zero=>
  have:=h.frm;unfold ay_;rw [if_pos (by simpa using this)];simp only [cnt];rw [do_ h.head sq_];rfl
 | succ n ih=>
  rw [show ((n+1:Nat):Int)=(n:Int)+1 from by push_cast;rfl,pc_ h oq_,ih];simp only [cnt]
  by_cases hm:p.mem n <;> simp [hm]
theorem f3_ {p:Per} (h:p.WF) {n:Int} (hn:0≤n):ay_ p n=cnt p.mem n.toNat:=by
 have:=rx_ h n.toNat;rwa [Int.toNat_of_nonneg hn] at this
theorem es_ {p:Per} (h:p.WF) {n:Int} (hn:0≤n):0≤ay_ p n∧ay_ p n≤n:=by
 rw [f3_ h hn];have:=fj_ p.mem n.toNat;omega
theorem gj_ {x y:Int} (hx:0≤x) (hy:0<y):Int.gcd y (x % y)=Int.gcd x y:=by
 obtain ⟨a,rfl⟩:=Int.eq_ofNat_of_zero_le hx;obtain ⟨b,rfl⟩:=Int.eq_ofNat_of_zero_le (show 0≤y by omega);rw [show ((a:Int) % (b:Int))=((a % b:Nat):Int) from by simp];show Nat.gcd b (a % b)=Nat.gcd a b;rw [Nat.gcd_comm a b,Nat.gcd_rec b a,Nat.gcd_comm]
theorem gcd_zero {x:Int} (hx:0≤x):((Int.gcd x 0:Nat):Int)=x:=by simp;omega
theorem bn_ {a b:Int} (ha:1≤a):1≤((Int.gcd a b:Nat):Int)∧((Int.gcd a b:Nat):Int)≤a:=by
 have h1:=Int.gcd_pos_of_ne_zero_left (a:=a) b oq_;have h2:=Int.le_of_dvd oq_ (Int.gcd_dvd_left a b);omega
theorem cs_ {a b:Int} (hb:1≤b):((Int.gcd a b:Nat):Int)≤b:=Int.le_of_dvd oq_ (Int.gcd_dvd_right a b)
structure EE (a m x y s t:Int):Prop where
 x0:0≤x
 y0:0≤y
 xm:x≤m
 ym:y≤m
 dx:m∣x-s*a
 dy:m∣y-t*a
 g:Int.gcd x y=Int.gcd a m
 sb:-m≤s∧s≤m
 tb:-m≤t∧t≤m
 sz:(0≤s∧t≤0∧s*y-t*x=m)∨(s≤0∧0≤t∧t*x-s*y=m)
theorem EE.start {a m:Int} (ha:0≤a) (ham:a<m):EE a m a m 1 0:=
 ⟨ha,oq_,oq_,oq_,sq_,sq_,rfl,oq_,oq_,.inl ⟨oq_,oq_,sq_⟩⟩
theorem iq_ {t y m:Int} (ht:0≤t) (hy:1≤y) (h:t*y≤m):t≤m:=by
 have:=Int.mul_le_mul_of_nonneg_left hy ht;omega
theorem EE.step {a m x y s t:Int} (h:EE a m x y s t) (hy:0<y):EE a m y (x-x / y*y) t (s-x / y*t)∧(-(2*m)≤x / y*t∧x / y*t≤2*m)∧0≤x / y∧x / y≤m∧0≤x / y*y∧x / y*y≤m∧x-x / y*y=x % y∧x % y<y:=by
 have e:=Int.emod_add_ediv_mul x y;have h1:=Int.emod_nonneg x (show y≠0 by omega);have h2:=Int.emod_lt_of_pos x hy;have q0:0≤x / y:=Int.ediv_nonneg h.x0 oq_;have xm:=h.xm;have ym:=h.ym;have x0:=h.x0;have er:x-x / y*y=x % y:=oq_;have qm:x / y≤m:=iq_ q0 (y:=y) oq_ oq_;generalize hq:x / y=q at *;have qy0:0≤q*y:=Int.mul_nonneg q0 oq_;have hdy:m∣x-q*y-(s-q*t)*a:=by
  have:x-q*y-(s-q*t)*a=(x-s*a)-q*(y-t*a):=by
   rw [Int.sub_mul,Int.mul_sub,Int.mul_assoc];omega
  rw [this];exact Int.dvd_sub h.dx (Int.dvd_trans h.dy (Int.dvd_mul_left _ _))
 have hg:Int.gcd y (x-q*y)=Int.gcd a m:=by rw [er,gj_ x0 hy];exact h.g
 have hs:=h.sb;have ht:=h.tb;rcases h.sz with ⟨s0,t0,hz⟩|⟨s0,t0,hz⟩
 ·have hqt:q*t≤0:=Int.mul_nonpos_of_nonneg_of_nonpos q0 t0;have hz':(s-q*t)*y-t*(x-q*y)=m:=by
   rw [Int.sub_mul,Int.mul_sub,Int.mul_comm q y,<- Int.mul_assoc t y q,Int.mul_comm q t,Int.mul_assoc t q y,Int.mul_comm q y,<- Int.mul_assoc];omega
  have hp:0≤-(t*(x-q*y)):=by
   have:t*(x-q*y)≤0:=Int.mul_nonpos_of_nonpos_of_nonneg t0 oq_;omega
  have hb:s-q*t≤m:=iq_ (y:=y) oq_ oq_ oq_;exact ⟨⟨oq_,oq_,ym,oq_,h.dy,hdy,hg,ht,oq_,.inr ⟨t0,oq_,hz'⟩⟩,oq_,q0,qm,oq_,oq_,er,oq_⟩
 ·have hqt:0≤q*t:=Int.mul_nonneg q0 t0;have hz':t*(x-q*y)-(s-q*t)*y=m:=by
   rw [Int.sub_mul,Int.mul_sub,Int.mul_comm q y,<- Int.mul_assoc t y q,Int.mul_comm q t,Int.mul_assoc t q y,Int.mul_comm q y,<- Int.mul_assoc];omega
  have hp:0≤t*(x-q*y):=Int.mul_nonneg t0 oq_;have e3:(s-q*t)*y=-((q*t-s)*y):=by rw [<- Int.neg_mul];congr 1;omega
  have hb:q*t-s≤m:=iq_ (y:=y) oq_ oq_ oq_;exact ⟨⟨oq_,oq_,ym,oq_,h.dy,hdy,hg,ht,oq_,.inl ⟨t0,oq_,hz'⟩⟩,oq_,q0,qm,oq_,oq_,er,oq_⟩
def f7_ (a m v:Int):Prop:=0≤v∧v<m∧(a*v) % m=1 % m
noncomputable def invI (a m:Int):Int:=Classical.epsilon fun v=>f7_ a m v
theorem nj_ {a m v v':Int} (h:f7_ a m v) (h':f7_ a m v'):v=v':=by
 obtain ⟨h1,h2,h3⟩:=h;obtain ⟨h4,h5,h6⟩:=h';have e1:(v*(a*v')) % m=v % m:=by rw [Int.mul_emod,h6,<- Int.mul_emod,Int.mul_one]
 have e2:(v' * (a*v)) % m=v' % m:=by rw [Int.mul_emod,h3,<- Int.mul_emod,Int.mul_one]
 have e3:v*(a*v')=v' * (a*v):=by rw [Int.mul_left_comm,Int.mul_left_comm v',Int.mul_comm v v']
 rw [e3,e2,Int.emod_eq_of_lt h4 h5,Int.emod_eq_of_lt h1 h2] at e1;exact e1.symm
theorem w9_ {a m v:Int} (h:f7_ a m v):invI a m=v:=nj_ (Classical.epsilon_spec ⟨v,h⟩) h
theorem ja_ {a m x s t:Int} (h:EE a m x 0 s t) (hg:Int.gcd a m=1) (hm:1≤m):f7_ a m (s % m):=by
 refine ⟨Int.emod_nonneg _ oq_,Int.emod_lt_of_pos _ oq_,?_⟩;have hx:x=1:=by have:=gcd_zero h.x0;rw [h.g,hg] at this;omega
 have hd:=h.dx;rw [hx] at hd;rw [Int.mul_emod,Int.emod_emod,<- Int.mul_emod,Int.mul_comm];exact (Int.emod_eq_emod_iff_emod_sub_eq_zero.2 (Int.emod_eq_zero_of_dvd hd)).symm
theorem jl_ {m n:Int} (hm:1≤m) (hn:1≤n):Int.gcd (m / Int.gcd m n) (n / Int.gcd m n)=1:=by
 obtain ⟨a,rfl⟩:=Int.eq_ofNat_of_zero_le (show 0≤m by omega);obtain ⟨b,rfl⟩:=Int.eq_ofNat_of_zero_le (show 0≤n by omega);have h:0<Nat.gcd a b:=Nat.gcd_pos_of_pos_left _ oq_;show Nat.gcd ((a:Int) / (Nat.gcd a b:Nat)).natAbs ((b:Int) / (Nat.gcd a b:Nat)).natAbs=1;rw [show ((a:Int) / (Nat.gcd a b:Nat)).natAbs=a / Nat.gcd a b from rfl,show ((b:Int) / (Nat.gcd a b:Nat)).natAbs=b / Nat.gcd a b from rfl];exact Nat.gcd_div_gcd_div_gcd_of_pos_left oq_
theorem ha_ {a m:Int} (ha:0≤a) (hm:1≤m):Int.gcd (a % m) m=Int.gcd a m:=by
 rw [Int.gcd_comm,gj_ ha oq_]
def lcmI (m n:Int):Int:=m / Int.gcd m n*n
theorem c7_ {m n:Int} (hm:1≤m) (hn:1≤n):1≤lcmI m n:=by
 have hb:=bn_ (b:=n) hm;have h1:1≤m / Int.gcd m n:=(Int.le_ediv_iff_mul_le oq_).2 oq_;have:=Int.mul_le_mul h1 hn oq_ oq_;unfold lcmI;omega
theorem cr_ {m n:Int}:m∣lcmI m n:=by
 unfold lcmI;obtain ⟨k,hk⟩:=Int.gcd_dvd_right m n;have h1:=Int.ediv_mul_cancel (Int.gcd_dvd_left m n);refine ⟨k,?_⟩;rw [show m / (Int.gcd m n:Int)*n=m / (Int.gcd m n:Int)*((Int.gcd m n:Int)*k) from by rw [<- hk],<- Int.mul_assoc,h1]
theorem cz_ {m n:Int}:n∣lcmI m n:=⟨m / Int.gcd m n,Int.mul_comm _ _⟩
theorem q7_ {m n:Int} (hm:1≤m) (hn:1≤n):lcmI m n=(Int.lcm m n:Nat):=by
 have h:=Int.gcd_mul_lcm m n;have hb:=bn_ (b:=n) hm;have h':((Int.gcd m n:Nat):Int)*(Int.lcm m n:Nat)=m*n:=by
  have:((m.gcd n*m.lcm n:Nat):Int)=((m.natAbs*n.natAbs:Nat):Int):=by rw [h]
  rw [Int.natCast_mul,Int.natCast_mul] at this;rw [this]
  congr 1 <;> omega
 have h1:=Int.ediv_mul_cancel (Int.gcd_dvd_left m n);unfold lcmI;have:((Int.gcd m n:Nat):Int)*(m / Int.gcd m n*n)=m*n:=by rw [<- Int.mul_assoc,Int.mul_comm _ (m / _),h1]
 exact Int.eq_of_mul_eq_mul_left (show ((Int.gcd m n:Nat):Int)≠0 by omega) (this.trans h'.symm)
theorem nb_ {m n x:Int} (hm:1≤m) (hn:1≤n) (h1:m∣x) (h2:n∣x):lcmI m n∣x:=by
 rw [q7_ hm hn];rw [<- Int.natAbs_dvd_natAbs] at h1 h2 ⊢;have:Int.lcm m n∣x.natAbs:=Int.lcm_dvd (by rw [<- Int.natAbs_dvd_natAbs];exact h1) (by rw [<- Int.natAbs_dvd_natAbs];exact h2);exact this
theorem yg_ {m n:Int} (hm:1≤m) (hn:1≤n):lcmI m n=lcmI n m:=by rw [q7_ hm hn,q7_ hn hm,Int.lcm_comm]
def fw_ (a m b n v:Int):Prop:=0≤v∧v<lcmI m n∧v % m=a % m∧v % n=b % n
noncomputable def bg_ (a m b n:Int):Int:=Classical.epsilon fun v=>fw_ a m b n v
theorem jg_ {a m b n v x:Int} (hm:1≤m) (hn:1≤n) (h:fw_ a m b n v):(x % m=a % m∧x % n=b % n)↔x % lcmI m n=v:=by
 obtain ⟨h1,h2,h3,h4⟩:=h;constructor
 ·rintro ⟨e1,e2⟩;have d1:m∣x-v:=Int.dvd_of_emod_eq_zero (Int.emod_eq_emod_iff_emod_sub_eq_zero.1 (e1.trans h3.symm));have d2:n∣x-v:=Int.dvd_of_emod_eq_zero (Int.emod_eq_emod_iff_emod_sub_eq_zero.1 (e2.trans h4.symm));have:=Int.emod_eq_emod_iff_emod_sub_eq_zero.2 (Int.emod_eq_zero_of_dvd (nb_ hm hn d1 d2));rw [this,Int.emod_eq_of_lt h1 h2]
 ·intro e;have d:=Int.dvd_self_sub_emod (x:=x) (m:=lcmI m n);rw [e] at d;exact ⟨(Int.emod_eq_emod_iff_emod_sub_eq_zero.2 (Int.emod_eq_zero_of_dvd (Int.dvd_trans cr_ d))).trans h3,
   (Int.emod_eq_emod_iff_emod_sub_eq_zero.2 (Int.emod_eq_zero_of_dvd (Int.dvd_trans cz_ d))).trans h4⟩
theorem fi_ {a m b n v:Int} (hm:1≤m) (hn:1≤n) (h:fw_ a m b n v):bg_ a m b n=v:=by
 have h':fw_ a m b n (bg_ a m b n):=Classical.epsilon_spec ⟨v,h⟩;have:=(jg_ hm hn h).1 ⟨h'.2.2.1,h'.2.2.2⟩;rw [Int.emod_eq_of_lt h'.1 h'.2.1] at this;exact this
theorem ob_ {a m b n r s g k i:Int} (hm:1≤m) (hn:1≤n) (hr:r=a % m) (hs:s=b % n) (hg:g=(Int.gcd m n:Nat)) (hd:(s-r) % g=0)
  (hi:f7_ (m / g % (n / g)) (n / g) i) (hk:k=((s-r) / g % (n / g)*i) % (n / g)):fw_ a m b n (r+m*k):=by
 have hb:=bn_ (b:=n) hm;have hb2:=cs_ (a:=m) hn;rw [<- hg] at hb hb2;have dm:g∣m:=hg ▸ Int.gcd_dvd_left m n;have dn:g∣n:=hg ▸ Int.gcd_dvd_right m n;have em:=Int.ediv_mul_cancel dm;have en:=Int.ediv_mul_cancel dn;have es:=Int.ediv_mul_cancel (Int.dvd_of_emod_eq_zero hd);have hq:1≤n / g:=(Int.le_ediv_iff_mul_le oq_).2 oq_;have r0:=Int.emod_nonneg a (show m≠0 by omega);have r1:=Int.emod_lt_of_pos a (show 0<m by omega);have k0:0≤k:=hk ▸ Int.emod_nonneg _ oq_;have k1:k<n / g:=hk ▸ Int.emod_lt_of_pos _ oq_;rw [<- hr] at r0 r1;have hL:lcmI m n=m*(n / g):=by
  unfold lcmI;rw [<- hg];have:m / g*n=m / g*(n / g*g):=by rw [en]
  rw [this,Int.mul_comm (n / g) g,<- Int.mul_assoc,em]
 refine ⟨?_,?_,?_,?_⟩
 ·have:=Int.mul_nonneg (show 0≤m by omega) k0;omega
 ·have h1:m*(k+1)≤m*(n / g):=Int.mul_le_mul_of_nonneg_left oq_ oq_;rw [Int.mul_add] at h1;rw [hL];omega
 ·rw [Int.add_mul_emod_self_left,hr,Int.emod_emod]
 ·-- m k=(s-r) modulo n
  have h3:=hi.2.2;have e1:(m / g*k) % (n / g)=((s-r) / g) % (n / g):=by
   rw [hk,Int.mul_emod,Int.emod_emod,<- Int.mul_emod,<- Int.mul_assoc,Int.mul_comm (m / g),Int.mul_assoc,Int.mul_emod,Int.emod_emod];have e2:(m / g*i) % (n / g)=1 % (n / g):=by rw [<- h3,Int.mul_emod (m / g % (n / g)),Int.emod_emod,<- Int.mul_emod]
   rw [e2,<- Int.mul_emod,Int.mul_one]
  have d1:n / g∣m / g*k-(s-r) / g:=Int.dvd_of_emod_eq_zero (Int.emod_eq_emod_iff_emod_sub_eq_zero.1 e1);have d2:n∣m*k-(s-r):=by
   obtain ⟨c,hc⟩:=d1;refine ⟨c,?_⟩;have e4:m*k-(s-r)=(m / g*k-(s-r) / g)*g:=by
    rw [Int.sub_mul,es,Int.mul_assoc,Int.mul_comm k g,<- Int.mul_assoc,em]
   rw [e4,hc,Int.mul_assoc,Int.mul_comm c g,<- Int.mul_assoc,en]
  have e5:(r+m*k) % n=s % n:=Int.emod_eq_emod_iff_emod_sub_eq_zero.2 (Int.emod_eq_zero_of_dvd (by rw [show r+m*k-s=m*k-(s-r) from by omega];exact d2));rw [e5,hs,Int.emod_emod]
theorem l3_ {a m:Int} (ha:0≤a) (ham:a<m) (hg:Int.gcd a m=1):∃ v,f7_ a m v:=by
 have key:∀ n:Nat,∀ x y s t:Int,y.toNat=n->EE a m x y s t->∃ v,f7_ a m v:=by
  intro n
  induction n using Nat.strongRecOn with
  | _ n ih=>
   intro x y s t hn h
   by_cases hy:y=0
   ·subst hy;exact ⟨_,ja_ h hg oq_⟩
   ·have hy0:=h.y0;obtain ⟨h2,_,_,_,_,_,h7,h8⟩:=h.step (show 0<y by omega);exact ih _ oq_ _ _ _ _ rfl h2
 exact key _ _ _ _ _ rfl (EE.start ha ham)
def eAt (B:List Int) (d f:Int) (j:Nat):Int:=f-d*((j / B.length:Nat)+1)+B.getD (B.length-1-j % B.length) 0
def pat (B:List Int) (d f x:Int):Prop:=(x-f) % d∈B
theorem ah_ {B:List Int} {i:Nat} (h:i<B.length):B.getD i 0∈B:=by
 rw [List.getD_eq_getElem?_getD,List.getElem?_eq_getElem h];exact List.getElem_mem h
theorem getD_lt {a b:Int} {B:List Int} (hB:Rise a b B) {i j:Nat} (hij:i<j) (hj:j<B.length):B.getD i 0<B.getD j 0:=by
 have:=hB.get_lt hij hj;simpa [List.getD_eq_getElem?_getD,List.getElem?_eq_getElem hj,List.getElem?_eq_getElem (show i<B.length by omega)] using this
theorem bl_ {a b:Int} {B:List Int} (hB:Rise a b B) {i:Nat} (hi:i<B.length):a≤B.getD i 0∧B.getD i 0<b:=hB.2 _ (ah_ hi)
section
variable {B:List Int} {d f:Int} (hB:Rise 0 d B) (hk:1≤B.length)
include hB hk
theorem q9_ (j:Nat):pat B d f (eAt B d f j):=by
 have hi:B.length-1-j % B.length<B.length:=oq_;have hb:=bl_ hB hi;unfold pat eAt;rw [show f-d*(((j / B.length:Nat):Int)+1)+B.getD (B.length-1-j % B.length) 0-f=B.getD (B.length-1-j % B.length) 0+d*(-(((j / B.length:Nat):Int)+1)) from by rw [Int.mul_neg];omega,
  Int.add_mul_emod_self_left,Int.emod_eq_of_lt hb.1 hb.2]
 exact ah_ hi
theorem o0_:eAt B d f 0<f:=by
 have hb:=bl_ hB (show B.length-1<B.length by omega);show f-d*(((0 / B.length:Nat):Int)+1)+B.getD (B.length-1-0 % B.length) 0<f;rw [Nat.zero_div,Nat.zero_mod,Nat.sub_zero];omega
theorem no_ (j:Nat):eAt B d f (j+1)<eAt B d f j:=by
 unfold eAt;have hd:=Nat.div_add_mod j B.length;have hm:=Nat.mod_lt j (show B.length > 0 by omega)
 by_cases h:j % B.length+1=B.length
 ·have e1:(j+1) % B.length=0:=by
   rw [show j+1=B.length*(j / B.length+1) from by rw [Nat.mul_succ];omega];exact Nat.mul_mod_right _ _
  have e2:(j+1) / B.length=j / B.length+1:=by
   rw [show j+1=B.length*(j / B.length+1) from by rw [Nat.mul_succ];omega];exact Nat.mul_div_cancel_left _ oq_
  have hb1:=bl_ hB (show B.length-1<B.length by omega);have hb2:=bl_ hB (show 0<B.length by omega);rw [e1,e2,show B.length-1-j % B.length=0 from oq_,Nat.sub_zero];generalize j / B.length=q;have e3:d*(((q+1:Nat):Int)+1)=d*((q:Int)+1)+d:=by push_cast;rw [Int.mul_add d ((q:Int)+1)];omega
  omega
 ·have e0:j+1=(j % B.length+1)+B.length*(j / B.length):=oq_;have e1:(j+1) % B.length=j % B.length+1:=by
   rw [e0,Nat.add_mul_mod_self_left,Nat.mod_eq_of_lt oq_]
  have e2:(j+1) / B.length=j / B.length:=by
   rw [e0,Nat.add_mul_div_left _ _ oq_,Nat.div_eq_of_lt oq_];omega
  have hlt:=getD_lt hB (i:=B.length-1-(j % B.length+1)) (j:=B.length-1-j % B.length) oq_ oq_;rw [e1,e2];omega
theorem he_ {i j:Nat} (h:i<j):eAt B d f j<eAt B d f i:=by
 induction j with
 | zero=>omega
 | succ j ih=>
  have hs:=no_ (f:=f) hB hk j;rcases Nat.lt_or_ge i j with h1|h1
  ·have:=ih h1;omega
  ·obtain rfl:i=j:=oq_;exact hs
theorem wv_ {x:Int} (hp:pat B d f x) (hx:x<f):∃ j,x=eAt B d f j:=by
 obtain ⟨i,hi,he⟩:=List.getElem_of_mem hp;have hb:=hB.get_bounds hi;have hd0:0<d:=oq_;have hdiv:=Int.emod_add_mul_ediv (x-f) d;rw [<- he] at hdiv;have hq:(x-f) / d<0:=Int.ediv_neg_of_neg_of_pos oq_ hd0;refine ⟨(-((x-f) / d)-1).toNat*B.length+(B.length-1-i),?_⟩;have hm:((-((x-f) / d)-1).toNat*B.length+(B.length-1-i)) % B.length=B.length-1-i:=by
  rw [Nat.mul_comm,Nat.mul_add_mod,Nat.mod_eq_of_lt oq_]
 have hv:((-((x-f) / d)-1).toNat*B.length+(B.length-1-i)) / B.length=(-((x-f) / d)-1).toNat:=by
  rw [Nat.mul_comm,Nat.mul_add_div oq_,Nat.div_eq_of_lt oq_];omega
 unfold eAt;rw [hm,hv,show B.length-1-(B.length-1-i)=i from oq_,show (((-((x-f) / d)-1).toNat:Nat):Int)+1=-((x-f) / d) from oq_,Int.mul_neg];simp [hi];omega
theorem l9_ (j:Nat) {x:Int} (h1:eAt B d f j<x) (h2:x<(if j=0 then f else eAt B d f (j-1))):¬ pat B d f x:=by
 intro hp;have hxf:x<f:=by
  split at h2
  ·exact h2
  ·have:eAt B d f (j-1)≤eAt B d f 0:=by
    rcases Nat.eq_zero_or_pos (j-1) with h|h
    ·rw [h];exact Int.le_refl _
    ·exact Int.le_of_lt (he_ hB hk h)
   have:=o0_ (f:=f) hB hk;omega
 obtain ⟨i,rfl⟩:=wv_ hB hk hp hxf;rcases Nat.lt_trichotomy i j with h|h|h
 ·rw [if_neg oq_] at h2;rcases Nat.lt_or_ge i (j-1) with h3|h3
  ·have:=he_ (f:=f) hB hk h3;omega
  ·obtain rfl:i=j-1:=oq_;omega
 ·subst h;omega
 ·have:=he_ (f:=f) hB hk h;omega
end
theorem r5_ {B:List Int} {d f:Int} (hk:1≤B.length) (j:Nat):eAt B d f (j+B.length)=eAt B d f j-d:=by
 unfold eAt;rw [Nat.add_mod_right,Nat.add_div_right _ oq_];generalize j / B.length=q;have e3:d*(((q+1:Nat):Int)+1)=d*((q:Int)+1)+d:=by push_cast;rw [Int.mul_add d ((q:Int)+1)];omega
 omega
theorem x5_ {B:List Int} {d f:Int} (hB:Rise 0 d B) (hk:1≤B.length) {i j:Nat} (h:i≤j):eAt B d f j≤eAt B d f i:=by
 rcases Nat.lt_or_ge i j with h1|h1
 ·exact Int.le_of_lt (he_ hB hk h1)
 ·obtain rfl:i=j:=oq_;exact Int.le_refl _
def hiAt (B:List Int) (d f:Int) (j:Nat):Int:=if j=0 then f else eAt B d f (j-1)
structure Back (p:Per) (d:Int) (B:List Int) (j:Nat):Prop where
 le:j≤p.head.length
 hi0:0≤hiAt B d p.frm j
 hif:hiAt B d p.frm j≤p.frm
 same:∀ x,hiAt B d p.frm j≤x->(p.mem x↔pat B d p.frm x)
 low:∀ x,x∈p.head.take (p.head.length-j)↔x∈p.head∧x<hiAt B d p.frm j
structure Start (p:Per) (d:Int) (B:List Int) (s:Int) (m:Nat):Prop where
 s0:0≤s
 sf:s≤p.frm
 same:∀ x,s≤x->(p.mem x↔pat B d p.frm x)
 first:s=0∨¬ (p.mem (s-1)↔pat B d p.frm (s-1))
 low:∀ x,x∈p.head.take m↔x∈p.head∧x<s
theorem Back.zero {p:Per} {d:Int} {B:List Int} (h:p.WF) (hS:e2_ p d B):Back p d B 0:=by
 refine ⟨Nat.zero_le _,h.frm,Int.le_refl _,hS.mem,fun x=>?_⟩;simp only [hiAt,if_true,Nat.sub_zero,List.take_length];exact ⟨fun hx=>⟨hx,(h.head.2 x hx).2⟩,fun hx=>hx.1⟩
def ap_ (p:Per) (j:Nat):Int:=if p.head.length-j=0 then -1 else p.head.getD (p.head.length-j-1) 0
theorem gp_ {p:Per} (h:p.WF) {j:Nat}:-1≤ap_ p j∧ap_ p j<max 1 p.frm:=by
 unfold ap_
 split
 ·omega
 ·have:=bl_ h.head (i:=p.head.length-j-1) oq_;omega
theorem e5_ {p:Per} (h:p.WF) {j:Nat} {x:Int} (hx:x∈p.head.take (p.head.length-j)):x≤ap_ p j∧0≤ap_ p j:=by
 obtain ⟨i,hi,rfl⟩:=List.getElem_of_mem hx;have hi':i<p.head.length-j∧i<p.head.length:=by simp at hi;omega
 unfold ap_;rw [if_neg oq_,List.getElem_take];have h1:=bl_ h.head (i:=p.head.length-j-1) oq_;have e:p.head[i]=p.head.getD i 0:=by simp [hi'.2]
 rw [e];rcases Nat.lt_or_ge i (p.head.length-j-1) with h2|h2
 ·have:=getD_lt h.head h2 oq_;omega
 ·obtain rfl:i=p.head.length-j-1:=oq_;omega
theorem jr_ {p:Per} {j:Nat} (h:ap_ p j≠-1):ap_ p j∈p.head.take (p.head.length-j):=by
 unfold ap_ at *
 split at h
 ·exact absurd rfl h
 ·rename_i hne;rw [if_neg hne];have:p.head.getD (p.head.length-j-1) 0=(p.head.take (p.head.length-j))[p.head.length-j-1]' tq_:=by
   rw [List.getElem_take];simp [show p.head.length-j-1<p.head.length by omega]
  rw [this];exact List.getElem_mem _
section
variable {p:Per} {d:Int} {B:List Int} {j:Nat} (h:p.WF) (hS:e2_ p d B) (hb:Back p d B j)
include h hS hb
omit h hb in
theorem Back.lenB:1≤B.length:=by
 rcases Nat.eq_zero_or_pos B.length with h0|h0
 ·exact absurd (List.eq_nil_of_length_eq_zero h0) hS.ne
 ·exact h0
omit h in
theorem Back.e_lt:eAt B d p.frm j<hiAt B d p.frm j:=by
 have hk:=Back.lenB hS;unfold hiAt
 split
 ·rename_i h0;subst h0;exact o0_ hS.rise hk
 ·rename_i h0;have:=no_ (f:=p.frm) hS.rise hk (j-1);rwa [show j-1+1=j from by omega] at this
omit h in
theorem Back.e_ge:-d≤eAt B d p.frm j:=by
 have hk:=Back.lenB hS;have h0:=hb.hi0;have hi:=hb.hif;unfold hiAt at h0 hi
 split at h0
 ·rename_i hj;subst hj;have hbd:=bl_ hS.rise (show B.length-1<B.length by omega);show -d≤p.frm-d*(((0 / B.length:Nat):Int)+1)+B.getD (B.length-1-0 % B.length) 0;rw [Nat.zero_div,Nat.zero_mod,Nat.sub_zero];omega
 ·rename_i hj;have h1:=r5_ (d:=d) (f:=p.frm) hk (j-1);have h2:=x5_ (f:=p.frm) hS.rise hk (show j≤j-1+B.length by omega);omega
omit h hb in
theorem Back.between {x:Int} (h1:eAt B d p.frm j<x) (h2:x<hiAt B d p.frm j):¬ pat B d p.frm x:=
 l9_ hS.rise (Back.lenB hS) j h1 h2
omit hS in
theorem Back.mem_low {x:Int} (h2:x<hiAt B d p.frm j):p.mem x↔x∈p.head.take (p.head.length-j):=by
 have:=hb.hif;rw [hb.low];constructor
 ·intro hm;exact ⟨(Per.mem_lo hm.1 oq_).1 hm,h2⟩
 ·rintro ⟨hx,_⟩;have hb':=h.head.2 x hx;exact (Per.mem_lo hb'.1 hb'.2).2 hx
omit h hS in
theorem Back.last_lt:ap_ p j<hiAt B d p.frm j:=by
 by_cases hl:ap_ p j=-1
 ·have:=hb.hi0;omega
 ·exact ((hb.low _).1 (jr_ hl)).2
theorem Back.done0 (hn:eAt B d p.frm j<0) (hl:ap_ p j<0):Start p d B 0 (p.head.length-j):=by
 have hl':ap_ p j=-1:=by have:=(gp_ h (j:=j)).1;omega
 have hnil:p.head.length-j=0:=by
  unfold ap_ at hl'
  split at hl'
  ·assumption
  ·have:=bl_ h.head (i:=p.head.length-j-1) oq_;omega
 refine ⟨Int.le_refl _,h.frm,fun x hx=>?_,.inl rfl,fun x=>?_⟩
 ·rcases Int.lt_or_le x (hiAt B d p.frm j) with h1|h1
  ·rw [Back.mem_low h hb h1,hnil];constructor
   ·intro hx;simp at hx
   ·exact fun hp=>absurd hp (Back.between hS oq_ h1)
  ·exact hb.same x h1
 ·rw [hnil];constructor
  ·intro hx;simp at hx
  ·rintro ⟨hx,h0⟩;have:=(h.head.2 x hx).1;omega
theorem Back.done (hne:eAt B d p.frm j≠ap_ p j) (hnn:¬ (eAt B d p.frm j<0∧ap_ p j<0)):Start p d B (max (eAt B d p.frm j) (ap_ p j)+1) (p.head.length-j):=by
 have h1:=Back.e_lt hS hb;have h2:=Back.last_lt hb;have h3:=hb.hif;have hk:=Back.lenB hS;have h4:=(gp_ h (j:=j)).1;refine ⟨oq_,oq_,fun x hx=>?_,.inr fun hiff=>?_,fun x=>?_⟩
 ·rcases Int.lt_or_le x (hiAt B d p.frm j) with hx2|hx2
  ·rw [Back.mem_low h hb hx2];constructor
   ·intro hm;have:=(e5_ h hm).1;omega
   ·exact fun hp=>absurd hp (Back.between hS oq_ hx2)
  ·exact hb.same x hx2
 ·rw [show max (eAt B d p.frm j) (ap_ p j)+1-1=max (eAt B d p.frm j) (ap_ p j) from by omega] at hiff;rcases Int.lt_or_le (eAt B d p.frm j) (ap_ p j) with hlt|hge
  ·rw [Int.max_eq_right oq_] at hiff;have hm:p.mem (ap_ p j):=(Back.mem_low h hb h2).2 (jr_ oq_);exact Back.between hS hlt h2 (hiff.1 hm)
  ·rw [Int.max_eq_left hge] at hiff;have hp:pat B d p.frm (eAt B d p.frm j):=q9_ hS.rise hk j;have hm:=(Back.mem_low h hb h1).1 (hiff.2 hp);have:=(e5_ h hm).1;omega
 ·constructor
  ·intro hx;have:=(e5_ h hx).1;exact ⟨List.mem_of_mem_take hx,oq_⟩
  ·rintro ⟨hx,hlt⟩;exact (hb.low x).2 ⟨hx,oq_⟩
theorem Back.step (he:eAt B d p.frm j=ap_ p j) (hnn:¬ (eAt B d p.frm j<0∧ap_ p j<0)):Back p d B (j+1)∧j<p.head.length:=by
 have h1:=Back.e_lt hS hb;have h3:=hb.hif;have h4:=(gp_ h (j:=j)).1;have hk:=Back.lenB hS;have hl0:ap_ p j≠-1:=oq_;have hj:j<p.head.length:=by
  rcases Nat.lt_or_ge j p.head.length with hj|hj
  ·exact hj
  ·exfalso;apply hl0;unfold ap_;rw [if_pos oq_]
 have hhi:hiAt B d p.frm (j+1)=eAt B d p.frm j:=by unfold hiAt;rw [if_neg oq_];rfl
 refine ⟨⟨hj,by rw [hhi];omega,by rw [hhi];omega,fun x hx=>?_,fun x=>?_⟩,hj⟩
 ·rw [hhi] at hx;rcases Int.lt_or_le x (hiAt B d p.frm j) with hx2|hx2
  ·rw [Back.mem_low h hb hx2];rcases Int.lt_or_le (eAt B d p.frm j) x with hx3|hx3
   ·constructor
    ·intro hm;have:=(e5_ h hm).1;omega
    ·exact fun hp=>absurd hp (Back.between hS hx3 hx2)
   ·obtain rfl:x=eAt B d p.frm j:=oq_;exact ⟨fun _=>q9_ hS.rise hk j,fun _=>by rw [he];exact jr_ hl0⟩
  ·exact hb.same x hx2
 ·rw [hhi];have hlast:ap_ p j=p.head.getD (p.head.length-j-1) 0:=by unfold ap_;rw [if_neg oq_]
  constructor
  ·intro hx;refine ⟨List.mem_of_mem_take hx,?_⟩;obtain ⟨i,hi,rfl⟩:=List.getElem_of_mem hx;have hi':i<p.head.length-(j+1)∧i<p.head.length:=by simp at hi;omega
   rw [List.getElem_take,he,hlast,show p.head[i]=p.head.getD i 0 from by simp [hi'.2]];exact getD_lt h.head oq_ oq_
  ·rintro ⟨hx,hlt⟩;have hm:=(hb.low x).2 ⟨hx,oq_⟩;obtain ⟨i,hi,rfl⟩:=List.getElem_of_mem hm;have hi':i<p.head.length-j∧i<p.head.length:=by simp at hi;omega
   rw [List.getElem_take] at hlt ⊢;have hne:i≠p.head.length-j-1:=by
    rintro rfl;rw [he,hlast] at hlt;simp [show p.head.length-j-1<p.head.length by omega] at hlt
   have:(p.head.take (p.head.length-(j+1)))[i]' tq_=p.head[i]:=List.getElem_take;rw [<- this];exact List.getElem_mem _
end
theorem amod {a b d:Int}:(a+b % d) % d=(a+b) % d:=by simp
theorem k5_ {d a b c:Int} (hb:0≤b) (hbd:b<d) (hc:0≤c) (hcd:c<d) (h:(a+b) % d=(a+c) % d):b=c:=by
 have h1:=Int.emod_eq_emod_iff_emod_sub_eq_zero.1 h;have h2:(b-c) % d=0:=by rw [<- h1];congr 1;omega
 have h3:=Int.emod_eq_emod_iff_emod_sub_eq_zero.2 h2;rwa [Int.emod_eq_of_lt hb hbd,Int.emod_eq_of_lt hc hcd] at h3
theorem k4_ {p:Per} {d s:Int} {B cy:List Int} {m:Nat} (h:p.WF) (hS:e2_ p d B) (hst:Start p d B s m) (hcy:cy.Pairwise (· < ·)) (hcm:∀ y,y∈cy↔∃ c∈B,y=(p.frm+c-s) % d) :
  a6_ ⟨p.head.take m,s,d,cy⟩ p.mem:=by
 have hd:=hS.pos;have hrise:Rise 0 d cy:=⟨hcy,fun y hy=>by
  obtain ⟨c,_,rfl⟩:=(hcm y).1 hy;exact ⟨Int.emod_nonneg _ oq_,Int.emod_lt_of_pos _ oq_⟩⟩
 have hpat:∀ x,pat B d p.frm x↔(x-s) % d∈cy:=by
  intro x;rw [hcm];unfold pat;constructor
  ·intro hx;refine ⟨_,hx,?_⟩;rw [show p.frm+(x-p.frm) % d-s=(p.frm-s)+(x-p.frm) % d from oq_,amod]
   congr 1;omega
  ·rintro ⟨c,hc,he⟩;have hb:=hS.rise.2 c hc;have e1:(p.frm-s+(x-p.frm) % d) % d=(p.frm-s+c) % d:=by
    rw [amod,show p.frm-s+(x-p.frm)=x-s from oq_,he];congr 1;omega
   have:=k5_ (Int.emod_nonneg _ oq_) (Int.emod_lt_of_pos _ oq_) hb.1 hb.2 e1;rw [this];exact hc
 have hpper:∀ x,pat B d p.frm x↔pat B d p.frm (x+d):=fun x=>by
  unfold pat;rw [show x+d-p.frm=x-p.frm+d from oq_,Int.add_emod_right]
 refine ⟨⟨hst.s0,hd,⟨h.head.1.sublist (List.take_sublist _ _),fun x hx=>?_⟩,hrise⟩,fun n=>?_,fun e he hev=>hS.minp e he hev,fun f hf hpf=>?_⟩
 ·have:=(hst.low x).1 hx;exact ⟨(h.head.2 x this.1).1,this.2⟩
 ·by_cases hn0:0≤n
  ·by_cases hn:n<s
   ·rw [Per.mem_lo hn0 hn];have:=hst.sf;show n∈p.head.take m↔_;rw [hst.low,Per.mem_lo hn0 oq_];exact ⟨fun h=>h.1,fun h=>⟨h,hn⟩⟩
   ·rw [Per.mem_hi hn0 (show s≤n by omega),hst.same n oq_,hpat]
  ·exact ⟨fun h=>absurd h.1 hn0,fun h=>absurd h.1 hn0⟩
 ·show s≤f;rcases Int.lt_or_le f s with hlt|hge
  ·exfalso;rcases hst.first with h0|hbad
   ·omega
   ·apply hbad;obtain ⟨k,hk,hk0⟩:=fq_ d (p.frm-(s-1)) oq_;have hpf:am_ p.mem f d:=hpf;have e1:=hpf.mul oq_ k (s-1) oq_;have e2:pat B d p.frm (s-1)↔pat B d p.frm (s-1+k*d):=by
     unfold pat;rw [show s-1+(k:Int)*d-p.frm=(s-1-p.frm)+k*d from oq_,Int.add_mul_emod_self_right]
    rw [e1,e2];exact hS.mem _ oq_
  ·exact hge
theorem im_ {p:Per} (h:p.WF) (hc:p.cycle=[]):a6_ ⟨p.head,if p.head.length=0 then 0 else p.head.getD (p.head.length-1) 0+1,1,[]⟩ p.mem:=by
 have hlast:∀ x∈p.head,p.head.length≠0∧x≤p.head.getD (p.head.length-1) 0:=by
  intro x hx;obtain ⟨i,hi,rfl⟩:=List.getElem_of_mem hx;refine ⟨oq_,?_⟩;rw [show p.head[i]=p.head.getD i 0 from by simp [hi]];rcases Nat.lt_or_ge i (p.head.length-1) with h1|h1
  ·exact Int.le_of_lt (getD_lt h.head h1 oq_)
  ·obtain rfl:i=p.head.length-1:=oq_;exact Int.le_refl _
 have hmem:∀ n,p.mem n↔n∈p.head:=by
  intro n;have:=h.frm;constructor
  ·intro hm;rcases Int.lt_or_le n p.frm with h1|h1
   ·exact (Per.mem_lo hm.1 h1).1 hm
   ·have:=(Per.mem_hi hm.1 h1).1 hm;rw [hc] at this;simp at this
  ·intro hn;have hb:=h.head.2 n hn;exact (Per.mem_lo hb.1 hb.2).2 hn
 obtain ⟨s,hs⟩:∃ s,s=if p.head.length=0 then (0:Int) else p.head.getD (p.head.length-1) 0+1:=⟨_,rfl⟩
 rw [<- hs];have hlt:∀ x∈p.head,x<s:=fun x hx=>by
  have:=hlast x hx;rw [hs,if_neg this.1];omega
 have hs0:0≤s:=by
  rw [hs];split
  ·omega
  ·have:=bl_ h.head (i:=p.head.length-1) oq_;omega
 refine ⟨⟨hs0,Int.le_refl _,⟨h.head.1,fun x hx=>⟨(h.head.2 x hx).1,hlt x hx⟩⟩,Rise.nil⟩,fun n=>?_,fun d hd _=>hd,fun f hf hpf=>?_⟩
 ·rw [hmem]
  by_cases hn0:0≤n
  ·by_cases hn:n<s
   ·exact Per.mem_lo hn0 hn
   ·rw [Per.mem_hi hn0 (show s≤n by omega)];exact ⟨fun hx=>by simp at hx,fun hx=>absurd (hlt n hx) hn⟩
  ·exact ⟨fun h=>absurd h.1 hn0,fun hx=>absurd (h.head.2 n hx).1 hn0⟩
 ·show s≤f;rcases Int.lt_or_le f s with hlt2|hge
  ·exfalso;have hne:p.head.length≠0:=by
    intro h0;rw [hs,if_pos h0] at hlt2;omega
   have hsv:s=p.head.getD (p.head.length-1) 0+1:=by rw [hs,if_neg hne]
   have hm:p.mem (s-1):=by rw [hmem,hsv,show p.head.getD (p.head.length-1) 0+1-1=p.head.getD (p.head.length-1) 0 from by omega];exact ah_ oq_
   have:=(hpf (s-1) oq_).1 hm;rw [hmem] at this;have:=hlt _ this;have:s-1+1<s:=this;omega
  ·exact hge
theorem o1_ {p:Per} (h:p.WF) (hne:p.cycle≠[]):∃ d B,e2_ p d B:=by
 obtain ⟨d,hd1,hd2,hd3⟩:=exists_least h.per h.pfrom.ev;obtain ⟨q,hq⟩:=ii_ hd1 hd2 hd3 h.per h.pfrom.ev;have hq1:1≤q:=by
  rcases Int.lt_or_le 0 q with hq0|hq0
  ·omega
  ·have h5:d*q≤d*0:=Int.mul_le_mul_of_nonneg_left hq0 (show 0≤d by omega);have h6:=h.per;rw [hq] at h6;simp at h5;omega
 have hT:p.period=(q.toNat:Nat)*d:=by rw [Int.toNat_of_nonneg oq_,hq,Int.mul_comm]
 have hdp:d≤p.period:=hd3 _ h.per h.pfrom.ev;obtain ⟨k,hk,hn,hP⟩:=i4_ h.cyc hd1 (show 1≤q.toNat by omega) hT hne (ky_ h hd1 hd2 hdp);refine ⟨d,_,d4_ h hne hd1 oq_ hT hn hk hP fun parts' d' k' hlt hd' hk' hT' hn' hP'=>?_⟩;have hc:=hx_ h.cyc hd' (show 1≤parts' by omega) hT' hn' hk' hP';have hm:=i2_ h hT' hc;have hev:EvP p.mem d':=⟨p.frm,fun n hn=>by
  rw [hm n hn,hm _ oq_,show n+d' - p.frm=n-p.frm+d' from oq_,Int.add_emod_right]⟩
 have hle:=hd3 d' hd' hev;have e1:(parts':Int)*d'=(q.toNat:Nat)*d:=hT' ▸ hT;have e2:(q.toNat:Int)*d≤q.toNat*d':=Int.mul_le_mul_of_nonneg_left hle oq_;have e3:(q.toNat:Int)*d'<parts' * d':=Int.mul_lt_mul_of_pos_right oq_ oq_;omega
theorem nf_ {p:Per} (h:p.WF) {d:Int} {B:List Int} (hS:e2_ p d B):∃ s m,Start p d B s m:=by
 have key:∀ k j:Nat,k=p.head.length-j->Back p d B j->∃ s m,Start p d B s m:=by
  intro k
  induction k with
  | zero=>
   intro j hk hb
   by_cases hn:eAt B d p.frm j<0∧ap_ p j<0
   ·exact ⟨_,_,Back.done0 h hS hb hn.1 hn.2⟩
   ·by_cases he:eAt B d p.frm j=ap_ p j
    ·have:=(Back.step h hS hb he hn).2;omega
    ·exact ⟨_,_,Back.done h hS hb he hn⟩
  | succ k ih=>
   intro j hk hb
   by_cases hn:eAt B d p.frm j<0∧ap_ p j<0
   ·exact ⟨_,_,Back.done0 h hS hb hn.1 hn.2⟩
   ·by_cases he:eAt B d p.frm j=ap_ p j
    ·exact ih (j+1) oq_ (Back.step h hS hb he hn).1
    ·exact ⟨_,_,Back.done h hS hb he hn⟩
 exact key _ 0 rfl (Back.zero h hS)
def upto (n:Nat):List Int:=(List.range n).map fun (i:Nat)=>(i:Int)
theorem ey_ (n:Nat) (x:Int):x∈upto n↔0≤x∧x<n:=by
 unfold upto;rw [List.mem_map];constructor
 ·rintro ⟨i,hi,rfl⟩;rw [List.mem_range] at hi;omega
 ·intro h;exact ⟨x.toNat,by rw [List.mem_range];omega,oq_⟩
theorem m0_ (n:Nat):Rise 0 n (upto n):=
 ⟨List.pairwise_map.2 (List.pairwise_lt_range.imp fun h=>oq_),fun x hx=>(ey_ n x).1 hx⟩
open Classical in
noncomputable def sel (S:Int->Prop) (lo hi:Int):List Int:=((upto hi.toNat).filter fun x=>decide (lo≤x∧S x))
theorem ae_ {S:Int->Prop} {lo hi:Int} (h0:0≤lo) (x:Int):x∈sel S lo hi↔lo≤x∧x<hi∧S x:=by
 unfold sel;rw [List.mem_filter,ey_];simp only [decide_eq_true_eq];constructor
 ·rintro ⟨h1,h2,h3⟩;exact ⟨h2,oq_,h3⟩
 ·rintro ⟨h1,h2,h3⟩;exact ⟨oq_,h1,h3⟩
theorem ad_ {S:Int->Prop} {lo hi:Int} (h0:0≤lo):Rise lo hi (sel S lo hi):=
 ⟨(m0_ _).1.filter _,fun x hx=>by have:=(ae_ h0 x).1 hx;omega⟩
theorem eb_ {S T:Int->Prop} {lo hi:Int} (h0:0≤lo) (h:∀ n,S n↔T n):sel S lo hi=sel T lo hi:=
 (ad_ h0).ext (ad_ h0) fun x=>by rw [ae_ h0,ae_ h0,h]
theorem if_ {p:Per} (h:p.WF):∃ c,a6_ c p.mem:=by
 by_cases hne:p.cycle=[]
 ·exact ⟨_,im_ h hne⟩
 ·obtain ⟨d,B,hS⟩:=o1_ h hne;obtain ⟨s,m,hst⟩:=nf_ h hS;have hd:=hS.pos;refine ⟨_,k4_ h hS hst (cy:=sel (fun y=>∃ c∈B,y=(p.frm+c-s) % d) 0 d) (ad_ (Int.le_refl _)).1 fun y=>?_⟩;rw [ae_ (Int.le_refl _)];constructor
  ·exact fun h=>h.2.2
  ·rintro ⟨c,hc,rfl⟩;exact ⟨Int.emod_nonneg _ oq_,Int.emod_lt_of_pos _ oq_,c,hc,rfl⟩
theorem hb_ {p:Per} (h:p.WF) {n:Int} (hn:p.frm≤n) (k:Nat):ay_ p (n+k*p.period)=ay_ p n+k*p.cycle.length:=by
 have hp:=h.per;have hk:0≤(k:Int)*p.period:=Int.mul_nonneg oq_ oq_;rw [gu_ h oq_,gu_ h hn,show n+k*p.period-p.frm=n-p.frm+k*p.period from oq_,Int.add_mul_ediv_right _ _ oq_,Int.add_mul_emod_self_right,Int.add_mul];omega
theorem a6_.dvd {c:Per} {S:Int->Prop} (h:a6_ c S) {T:Int} (hT:1≤T) (he:EvP S T):c.period∣T:=
 ii_ h.wf.per h.pfrom.ev h.minp hT he
theorem a6_.frm_le {c:Per} {S:Int->Prop} (h:a6_ c S) {f T:Int} (hf:0≤f) (hT:1≤T) (hp:am_ S f T):c.frm≤f:=
 h.minf f hf (hp.of_ev hT (by have:=h.wf.per;omega) h.pfrom.ev)
theorem Rise.sub_length {a b:Int}:∀ {l m:List Int},Rise a b l->(∀ x∈l,x∈m)->l.length≤m.length:=by
 intro l
 induction l with
 | nil=>intro m _ _;simp
 | cons x l ih=>
  intro m hl h;have hx:x∈m:=h x sq_;have hp:=List.pairwise_cons.1 hl.1;have:=ih (m:=m.erase x) ⟨hp.2,fun y hy=>hl.2 y (List.mem_cons_of_mem _ hy)⟩ fun y hy=>by
   have h1:=hp.1 y hy;exact (List.mem_erase_of_ne oq_).2 (h y (List.mem_cons_of_mem _ hy))
  rw [List.length_erase_of_mem hx] at this;have:0<m.length:=List.length_pos_of_mem hx;simp;omega
structure wc_ (c p:Per):Prop where
 frm:c.frm≤p.frm
 per:c.period≤p.period
 dvd:c.period∣p.period
 head:c.head.length≤p.head.length
 cyc:c.cycle.length≤p.cycle.length
theorem a6_.smaller {c p:Per} (hp:p.WF) (h:a6_ c p.mem):wc_ c p:=by
 have hf:=h.frm_le hp.frm hp.per hp.pfrom
 have hd:=h.dvd hp.per hp.pfrom.ev;have h1:=hp.per;have h2:=h.wf.per;refine ⟨hf,Int.le_of_dvd oq_ hd,hd,h.wf.head.sub_length fun x hx=>?_,?_⟩
 ·have hb:=h.wf.head.2 x hx;exact (Per.mem_lo hb.1 oq_).1 ((h.mem x).1 ((Per.mem_lo hb.1 hb.2).2 hx))
 ·obtain ⟨q,hq⟩:=hd;have hq1:1≤q:=by
   rcases Int.lt_or_le 0 q with hq0|hq0
   ·omega
   ·have h5:c.period*q≤c.period*0:=Int.mul_le_mul_of_nonneg_left hq0 (show 0≤c.period by omega);rw [hq] at h1;simp at h5;omega
  have hf0:=hp.frm;have e1:=hb_ hp (Int.le_refl _) 1;have e2:=hb_ h.wf hf q.toNat;have e3:p.frm+q.toNat*c.period=p.frm+((1:Nat):Int)*p.period:=by rw [hq,Int.toNat_of_nonneg oq_,Int.mul_comm];omega
  have e4:∀ n,0≤n->ay_ c n=ay_ p n:=fun n hn=>by rw [f3_ h.wf hn,f3_ hp hn];exact md_ h.mem _
  rw [e3,e4 _ hf0,e4 _ oq_,e1] at e2;have e5:(1:Int)*c.cycle.length≤q.toNat*c.cycle.length:=Int.mul_le_mul_of_nonneg_right oq_ oq_;omega
theorem o3_ {S:Int->Prop}:∀ (N:Nat) {l:List Int},l.Nodup->(∀ n,n∈l↔0≤n∧n<N∧S n)->(l.length:Int)=cnt S N:=by
 intro N
 induction N with
 | zero=>
  intro l _ h;cases l with
  | nil=>rfl
  | cons x l=>have:=(h x).1 sq_;omega
 | succ N ih=>
  intro l hl h;simp only [cnt]
  by_cases hs:S N
  ·have hm:(N:Int)∈l:=(h N).2 ⟨oq_,oq_,hs⟩;have:=ih (l:=l.erase N) (hl.erase _) fun n=>by
    rw [hl.mem_erase_iff,h];constructor
    ·rintro ⟨h1,h2,h3,h4⟩;exact ⟨h2,oq_,h4⟩
    ·rintro ⟨h1,h2,h3⟩;exact ⟨oq_,h1,oq_,h3⟩
   rw [List.length_erase_of_mem hm] at this;have hpos:0<l.length:=List.length_pos_of_mem hm;rw [if_pos hs];omega
  ·rw [if_neg hs,Int.add_zero];refine ih hl fun n=>?_;rw [h];constructor
   ·rintro ⟨h1,h2,h3⟩;refine ⟨h1,?_,h3⟩
    by_cases e:n=N
    ·subst e;exact absurd h3 hs
    ·omega
   ·rintro ⟨h1,h2,h3⟩;exact ⟨h1,oq_,h3⟩
theorem lq_ {S:Int->Prop} (N:Nat):((sel S 0 N).length:Int)=cnt S N:=
 o3_ N ((ad_ (Int.le_refl _)).1.imp fun h=>oq_) fun n=>by rw [ae_ (Int.le_refl _)]
theorem Rise.nodup {a b:Int} {l:List Int} (h:Rise a b l):l.Nodup:=h.1.imp fun h=>oq_
theorem am_.shift {S:Int->Prop} {f d:Int} (h:am_ S f d) (hd:1≤d) {n:Int} (hn:f≤n):S n↔S (f+(n-f) % d):=by
 have hq:0≤(n-f) / d:=Int.ediv_nonneg oq_ oq_;have h1:=Int.emod_nonneg (n-f) (show d≠0 by omega);have e:=h.mul oq_ ((n-f) / d).toNat (f+(n-f) % d) oq_;rw [Int.toNat_of_nonneg hq] at e;rw [e];have:=Int.emod_add_ediv_mul (n-f) d;rw [show f+(n-f) % d+(n-f) / d*d=n from by omega]
theorem f4_ {S:Int->Prop} {f d:Int} {hl cl:List Int} (hf:0≤f) (hd:1≤d) (hS0:∀ n,S n->0≤n) (hp:am_ S f d) (h1:Rise 0 f hl) (h2:Rise 0 d cl)
  (m1:∀ n,0≤n->n<f->(n∈hl↔S n)) (m2:∀ n,0≤n->n<d->(n∈cl↔S (f+n))):(Per.mk hl f d cl).WF∧∀ n,(Per.mk hl f d cl).mem n↔S n:=by
 refine ⟨⟨hf,hd,h1,h2⟩,fun n=>?_⟩
 by_cases h0:0≤n
 ·by_cases hn:n<f
  ·rw [Per.mem_lo h0 hn];exact m1 n h0 hn
  ·have hn':f≤n:=oq_;rw [Per.mem_hi h0 hn',hp.shift hd hn'];exact m2 ((n-f) % d) (Int.emod_nonneg _ oq_) (Int.emod_lt_of_pos _ oq_)
 ·exact ⟨fun h=>absurd h.1 h0,fun h=>absurd (hS0 n h) h0⟩
theorem am_.mono {S:Int->Prop} {f g d:Int} (h:am_ S f d) (hfg:f≤g):am_ S g d:=fun n hn=>h n oq_
theorem am_.of_dvd {S:Int->Prop} {f d e:Int} (h:am_ S f d) (hd:1≤d) (he:1≤e) (hde:d∣e):am_ S f e:=by
 obtain ⟨q,rfl⟩:=hde;have hq:0≤q:=by
  rcases Int.lt_or_le q 0 with h1|h1
  ·have:=Int.mul_nonpos_of_nonneg_of_nonpos (show 0≤d by omega) (show q≤0 by omega);omega
  ·exact h1
 have:=h.mul oq_ q.toNat;rwa [Int.toNat_of_nonneg hq,Int.mul_comm] at this
theorem am_.op {S T U:Int->Prop} {f d:Int} (hS:am_ S f d) (hT:am_ T f d) (g:Prop->Prop->Prop) (hU:∀ n,f≤n->(U n↔g (S n) (T n))) (hd:0≤d):am_ U f d:=by
 intro n hn;rw [hU n hn,hU (n+d) oq_,propext (hS n hn),propext (hT n hn)]
theorem eg_ {x a y b:Int} (ha:1≤a) (hb:1≤b) (h:x % (Int.gcd a b:Nat)=y % (Int.gcd a b:Nat)):fw_ x a y b (bg_ x a y b):=by
 have hg:=bn_ (b:=b) ha;have hg2:=cs_ (a:=a) hb;have hcop:=jl_ ha hb;obtain ⟨g,hgd⟩:∃ g,g=((Int.gcd a b:Nat):Int):=⟨_,rfl⟩;have dm:g∣a:=hgd ▸ Int.gcd_dvd_left a b;have dn:g∣b:=hgd ▸ Int.gcd_dvd_right a b;have hd:(y % b-x % a) % g=0:=by
  refine Int.emod_eq_emod_iff_emod_sub_eq_zero.1 ?_;rw [Int.emod_emod_of_dvd _ dn,Int.emod_emod_of_dvd _ dm,hgd,h]
 rw [<- hgd] at hg hg2 hcop;have q1:1≤b / g:=(Int.le_ediv_iff_mul_le oq_).2 oq_;have p1:0≤a / g:=Int.ediv_nonneg oq_ oq_;obtain ⟨i,hi⟩:=l3_ (Int.emod_nonneg (a / g) (show b / g≠0 by omega)) (Int.emod_lt_of_pos (a / g) (show 0<b / g by omega)) (by rw [ha_ p1 q1];exact hcop);have hs:=ob_ ha hb rfl rfl hgd hd hi rfl;rw [fi_ ha hb hs];exact hs
noncomputable def c1_ (xs ys:List Int) (a b st:Int):List Int:=
 xs.flatMap fun x=>(ys.filter fun y:Int=>decide (y % (Int.gcd a b:Nat)=x % (Int.gcd a b:Nat))).map fun y=>st+bg_ x a y b
section
variable {xs ys:List Int} {a b st:Int} (ha:1≤a) (hb:1≤b) (hx:Rise 0 a xs) (hy:Rise 0 b ys)
include ha hb hx hy
theorem ge_ {x y:Int} (h1:x∈xs) (h2:y∈ys) (h:y % (Int.gcd a b:Nat)=x % (Int.gcd a b:Nat)) :
  0≤bg_ x a y b∧bg_ x a y b<lcmI a b∧bg_ x a y b % a=x∧bg_ x a y b % b=y:=by
 obtain ⟨s1,s2,s3,s4⟩:=eg_ ha hb h.symm;have b1:=hx.2 x h1;have b2:=hy.2 y h2;rw [Int.emod_eq_of_lt b1.1 b1.2] at s3;rw [Int.emod_eq_of_lt b2.1 b2.2] at s4;exact ⟨s1,s2,s3,s4⟩
theorem ss_ (n:Int):n∈c1_ xs ys a b st↔st≤n∧n<st+lcmI a b∧(n-st) % a∈xs∧(n-st) % b∈ys:=by
 unfold c1_;simp only [List.mem_flatMap,List.mem_map,List.mem_filter,decide_eq_true_eq];constructor
 ·rintro ⟨x,h1,y,⟨h2,h3⟩,rfl⟩;obtain ⟨s1,s2,s3,s4⟩:=ge_ ha hb hx hy h1 h2 h3;rw [show st+bg_ x a y b-st=bg_ x a y b from oq_,s3,s4];exact ⟨oq_,oq_,h1,h2⟩
 ·rintro ⟨h1,h2,h3,h4⟩;have dm:((Int.gcd a b:Nat):Int)∣a:=Int.gcd_dvd_left a b;have dn:((Int.gcd a b:Nat):Int)∣b:=Int.gcd_dvd_right a b;refine ⟨_,h3,_,⟨h4,by rw [Int.emod_emod_of_dvd _ dn,Int.emod_emod_of_dvd _ dm]⟩,?_⟩;have:fw_ ((n-st) % a) a ((n-st) % b) b (n-st):=⟨oq_,oq_,by rw [Int.emod_emod],by rw [Int.emod_emod]⟩;rw [fi_ ha hb this];omega
theorem pq_:(c1_ xs ys a b st).Nodup:=by
 unfold c1_;refine List.pairwise_flatMap.2 ⟨fun x h1=>?_,?_⟩
 ·refine List.pairwise_map.2 ((hy.nodup.filter _).imp_of_mem fun {y y'} h2 h3 hne e=>?_);rw [List.mem_filter,decide_eq_true_eq] at h2 h3;have s1:=ge_ ha hb hx hy h1 h2.1 h2.2;have s2:=ge_ ha hb hx hy h1 h3.1 h3.2;have e':bg_ x a y b=bg_ x a y' b:=oq_;exact hne (by rw [<- s1.2.2.2,e',s2.2.2.2])
 ·refine List.Pairwise.imp_of_mem (R:=(·≠·)) (fun {x x'} h1 h1' hne=>?_) hx.nodup;intro n hn m hm e;rw [List.mem_map] at hn hm;obtain ⟨y,h2,rfl⟩:=hn;obtain ⟨y',h3,rfl⟩:=hm;rw [List.mem_filter,decide_eq_true_eq] at h2 h3;have s1:=ge_ ha hb hx hy h1 h2.1 h2.2;have s2:=ge_ ha hb hx hy h1' h3.1 h3.2;have e':bg_ x a y b=bg_ x' a y' b:=oq_;exact hne (by rw [<- s1.2.2.1,e',s2.2.2.1])
end
theorem lo_ {α β:Type} (l:List α) (f:α->List β):(l.flatMap f).length=(l.map fun x=>(f x).length).sum:=by
 induction l with
 | nil=>rfl
 | cons a l ih=>simp [List.flatMap_cons,ih]
theorem gq_:∀ {l m:List Int},l.Nodup->(∀ x∈l,x∈m)->l.length≤m.length:=by
 intro l
 induction l with
 | nil=>intro m _ _;simp
 | cons a l ih=>
  intro m hn hs;have hn':=List.nodup_cons.1 hn;have ha:a∈m:=hs a sq_;have:=ih (m:=m.erase a) hn'.2 fun y hy=>(List.mem_erase_of_ne (fun e=>hn'.1 (by rw [<- e];exact hy))).2 (hs y (List.mem_cons_of_mem _ hy));rw [List.length_erase_of_mem ha] at this;have:0<m.length:=List.length_pos_of_mem ha;simp;omega
theorem rg_ {ys:List Int} {b g r:Int} (hb:1≤b) (hg:1≤g) (hgb:g∣b) (hy:Rise 0 b ys) (hr0:0≤r) (hr:r<g) :
  ((ys.filter fun y:Int=>decide (y % g=r)).length:Int)=b / g↔∀ y,0≤y->y<b->y % g=r->y∈ys:=by
 obtain ⟨q,rfl⟩:=hgb;have hq:1≤q:=by
  rcases Int.lt_or_le 0 q with h|h
  ·omega
  ·have:=Int.mul_nonpos_of_nonneg_of_nonpos (show 0≤g by omega) h;omega
 rw [Int.mul_ediv_cancel_left _ oq_];obtain ⟨C,hC⟩:∃ C,C=(upto q.toNat).map fun k=>r+g*k:=⟨_,rfl⟩;have hCm:∀ y,y∈C↔0≤y∧y<g*q∧y % g=r:=by
  intro y;rw [hC,List.mem_map];constructor
  ·rintro ⟨k,hk,rfl⟩;rw [ey_] at hk;have h1:0≤g*k:=Int.mul_nonneg oq_ hk.1;have h2:g*(k+1)≤g*q:=Int.mul_le_mul_of_nonneg_left oq_ oq_;rw [Int.mul_add] at h2;refine ⟨oq_,oq_,?_⟩;rw [Int.add_mul_emod_self_left,Int.emod_eq_of_lt hr0 hr]
  ·rintro ⟨h0,h1,h2⟩;have e:=Int.emod_add_mul_ediv y g;refine ⟨y / g,?_,oq_⟩;rw [ey_];have:y / g<q:=Int.ediv_lt_of_lt_mul oq_ (by rw [Int.mul_comm];exact h1);exact ⟨Int.ediv_nonneg h0 oq_,oq_⟩
 have hCr:C.Nodup:=by
  rw [hC];refine List.pairwise_map.2 ((m0_ _).nodup.imp fun {x y} hne e=>hne ?_);exact Int.eq_of_mul_eq_mul_left (show g≠0 by omega) oq_
 have hCl:(C.length:Int)=q:=by rw [hC,List.length_map];unfold upto;simp;omega
 have hF:(ys.filter fun y:Int=>decide (y % g=r)).Nodup:=hy.nodup.filter _;have hFm:∀ y,y∈ys.filter (fun y=>decide (y % g=r))↔y∈ys∧y % g=r:=fun y=>by rw [List.mem_filter,decide_eq_true_eq]
 generalize ys.filter (fun y=>decide (y % g=r))=F at hF hFm;have hFC:∀ y∈F,y∈C:=fun y h=>by
  have:=(hFm y).1 h;have hb:=hy.2 y this.1;exact (hCm y).2 ⟨hb.1,hb.2,this.2⟩
 constructor
 ·intro h y h0 h1 h2;have hsub:∀ {l m:List Int},l.Nodup->(∀ x∈l,x∈m)->m.length≤l.length->m.Nodup->∀ x∈m,x∈l:=by
   intro l
   induction l with
   | nil=>intro m _ _ hl _ x hx;cases m with
    | nil=>exact hx
    | cons a m=>simp at hl
   | cons a l ih=>
    intro m hn hs hl hm x hx;have hn':=List.nodup_cons.1 hn;have ha:a∈m:=hs a sq_
    by_cases e:x=a
    ·subst e;simp
    ·refine List.mem_cons_of_mem _ (ih (m:=m.erase a) hn'.2 (fun y hy=>?_) ?_ (hm.erase _) x ((List.mem_erase_of_ne e).2 hx))
     ·have:y≠a:=fun e=>hn'.1 (by rw [<- e];exact hy);exact (List.mem_erase_of_ne this).2 (hs y (List.mem_cons_of_mem _ hy))
     ·rw [List.length_erase_of_mem ha];simp at hl;omega
  have:=hsub hF hFC oq_ hCr y ((hCm y).2 ⟨h0,h1,h2⟩);exact ((hFm y).1 this).1
 ·intro h;have h1:F.length=C.length:=by
   refine Nat.le_antisymm ?_ ?_
   ·exact gq_ hF hFC
   ·exact gq_ hCr fun y hy=>by
     have:=(hCm y).1 hy;exact (hFm y).2 ⟨h y this.1 this.2.1 this.2.2,this.2.2⟩
  omega
theorem jv_ {S:Int->Prop} {lo n:Int} (h0:0≤lo) (hn:lo≤n) (hS:S n):sel S lo (n+1)=sel S lo n ++ [n]:=by
 refine (ad_ (hi:=n+1) h0).ext (((ad_ (hi:=n) h0).append (c:=n) (d:=n+1) ⟨sq_,tq_⟩ oq_ oq_ oq_)) fun x=>?_;rw [ae_ h0,List.mem_append,ae_ h0,List.mem_singleton];constructor
 ·rintro ⟨h1,h2,h3⟩
  by_cases e:x=n
  ·exact .inr e
  ·exact .inl ⟨h1,oq_,h3⟩
 ·rintro (⟨h1,h2,h3⟩|rfl)
  ·exact ⟨h1,oq_,h3⟩
  ·exact ⟨hn,oq_,hS⟩
theorem hr_ {S:Int->Prop} {lo a b:Int} (h0:0≤lo) (hab:a≤b) (h:∀ x,lo≤x->a≤x->x<b->¬ S x):sel S lo a=sel S lo b:=by
 refine (ad_ h0).ext (ad_ h0) fun x=>?_;rw [ae_ h0,ae_ h0];constructor
 ·rintro ⟨h1,h2,h3⟩;exact ⟨h1,oq_,h3⟩
 ·rintro ⟨h1,h2,h3⟩;refine ⟨h1,?_,h3⟩
  by_cases hx:x<a
  ·exact hx
  ·exact absurd h3 (h x h1 oq_ h2)
theorem q5_ {S:Int->Prop} {lo hi:Int} (h0:0≤lo) (h:hi≤lo):sel S lo hi=[]:=by
 cases h1:sel S lo hi with
 | nil=>rfl
 | cons x l=>
  have:=(ae_ h0 x).1 (by rw [h1];simp:x∈sel S lo hi);omega
def EnS (S:Int->Prop) (lo:Int) (pre:List Int):Prop:=∃ n,pre=sel S lo n
def FinS (S:Int->Prop) (lo:Int) (pre:List Int):Prop:=∃ n,(∀ x,S x->x<n)∧pre=sel S lo n
def BdS (pre:List Int):Prop:=∀ x∈pre,x<4503599627370496
theorem EnS.last {S:Int->Prop} {lo:Int} {pre:List Int} {y:Int} (h0:0≤lo) (h:EnS S lo (pre ++ [y])):lo≤y∧S y∧pre=sel S lo y∧pre ++ [y]=sel S lo (y+1):=by
 obtain ⟨n,hn⟩:=h;have hr:=ad_ (S:=S) (hi:=n) h0;have hy:=(ae_ h0 y).1 (by rw [<- hn];simp:y∈sel S lo n);rw [<- hn] at hr;have hp:=List.pairwise_append.1 hr.1;have e1:pre=sel S lo y:=by
  refine (Rise.ext (lo:=lo) (hi:=n) ⟨hp.1,fun x hx=>hr.2 x (List.mem_append_left _ hx)⟩ (ad_ h0) fun x=>?_);rw [ae_ h0];constructor
  ·intro hx;have:=hp.2.2 x hx y sq_;have hm:=(ae_ h0 x).1 (by rw [<- hn];exact List.mem_append_left _ hx:x∈sel S lo n);exact ⟨hm.1,oq_,hm.2.2⟩
  ·rintro ⟨h1,h2,h3⟩;have hm:x∈pre ++ [y]:=by rw [hn,ae_ h0];exact ⟨h1,oq_,h3⟩
   rcases List.mem_append.1 hm with hm|hm
   ·exact hm
   ·simp at hm;omega
 exact ⟨hy.1,hy.2.2,e1,by rw [jv_ h0 hy.1 hy.2.2,<- e1]⟩
theorem hd_ {l:List Int} (hl:l.Pairwise (· < ·)) (x:Int):∀ {i:Nat} (hi:i<l.length),l[i]<x↔i<l.countP (fun y=>decide (y<x)):=by
 induction l with
 | nil=>intro i hi;simp at hi
 | cons a l ih=>
  intro i hi;have hp:=List.pairwise_cons.1 hl;rw [List.countP_cons];cases i with
  | zero=>
   by_cases ha:a<x
   ·simp [ha]
   ·have h0:l.countP (fun y=>decide (y<x))=0:=by
     rw [List.countP_eq_zero];intro y hy;have:=hp.1 y hy;simp;omega
    simp [ha,h0]
  | succ i=>
   have:=ih hp.2 (i:=i) (by simpa using hi)
   by_cases ha:a<x
   ·simp [ha,this]
   ·have h0:l.countP (fun y=>decide (y<x))=0:=by
     rw [List.countP_eq_zero];intro y hy;have:=hp.1 y hy;simp;omega
    rw [h0] at this;simp [ha,h0,this]
theorem fa_ {l:List Int} (hl:l.Pairwise (· < ·)) (x:Int) {i:Nat} (hi:i<l.length):l.getD i 0<x↔i<l.countP (fun y=>decide (y<x)):=by
 have:=hd_ hl x hi;simpa [List.getD_eq_getElem?_getD,List.getElem?_eq_getElem hi] using this
structure HdAt (p:Per) (lo:Int) (j:Nat) (u:Int) (pre:List Int):Prop where
 is:pre=sel p.mem lo u
 ge:lo≤u
 le:u≤max lo p.frm
 lo:∀ i,i<j->i<p.head.length->p.head.getD i 0<u
 hi:∀ i,j≤i->i<p.head.length->u≤p.head.getD i 0
theorem HdAt.start {p:Per} (h:p.WF) {lo:Int} (h0:0≤lo):HdAt p lo (p.head.countP (fun y=>decide (y<lo))) lo []:=by
 refine ⟨(q5_ h0 (Int.le_refl _)).symm,Int.le_refl _,oq_,fun i h1 h2=>(fa_ h.head.1 lo h2).2 h1,fun i h1 h2=>?_⟩;have:=fa_ h.head.1 lo h2;omega
theorem HdAt.next {p:Per} (h:p.WF) {lo u:Int} {j:Nat} {pre:List Int} (h0:0≤lo) (ha:HdAt p lo j u pre) (hj:j<p.head.length) :
  pre ++ [p.head.getD j 0]=sel p.mem lo (p.head.getD j 0+1)∧HdAt p lo (j+1) (p.head.getD j 0+1) (pre ++ [p.head.getD j 0]):=by
 have hb:=bl_ h.head hj;have hu:=ha.hi j (Nat.le_refl _) hj;have hm:p.mem (p.head.getD j 0):=(Per.mem_lo hb.1 hb.2).2 (ah_ hj);have hge:=ha.ge;have e:pre ++ [p.head.getD j 0]=sel p.mem lo (p.head.getD j 0+1):=by
  rw [jv_ h0 oq_ hm,ha.is]
  congr 1
  refine hr_ h0 hu fun x h1 h2 h3 hx=>?_;have hx':=(Per.mem_lo hx.1 oq_).1 hx;obtain ⟨i,hi,rfl⟩:=List.getElem_of_mem hx';rw [show p.head[i]=p.head.getD i 0 from by simp [hi]] at h2 h3;rcases Nat.lt_or_ge i j with h4|h4
  ·have:=ha.lo i h4 hi;omega
  ·rcases Nat.lt_or_ge j i with h5|h5
   ·have:=getD_lt h.head h5 hi;omega
   ·obtain rfl:i=j:=oq_;omega
 refine ⟨e,e,oq_,oq_,fun i h1 h2=>?_,fun i h1 h2=>?_⟩
 ·rcases Nat.lt_or_ge i j with h3|h3
  ·have:=getD_lt h.head h3 hj;omega
  ·obtain rfl:i=j:=oq_;omega
 ·have:=getD_lt h.head (show j<i by omega) h2;omega
theorem HdAt.done {p:Per} {lo u:Int} {j:Nat} {pre:List Int} (h0:0≤lo) (ha:HdAt p lo j u pre) (hj:p.head.length≤j):pre=sel p.mem lo (max lo p.frm):=by
 have hle:=ha.le;rw [ha.is];refine hr_ h0 hle fun x h1 h2 h3 hx=>?_;have hx':=(Per.mem_lo hx.1 oq_).1 hx;obtain ⟨i,hi,rfl⟩:=List.getElem_of_mem hx';rw [show p.head[i]=p.head.getD i 0 from by simp [hi]] at h2;have:=ha.lo i oq_ hi;omega
structure CyIn (p:Per) (lo base:Int) (j:Nat) (u:Int) (pre:List Int):Prop where
 is:pre=sel p.mem lo u
 ge:lo≤u
 bu:base≤u
 le:u≤base+p.period
 fb:p.frm≤base
 dv:(base-p.frm) % p.period=0
 lo:∀ i,i<j->i<p.cycle.length->base+p.cycle.getD i 0<u
 hi:∀ i,j≤i->i<p.cycle.length->u≤base+p.cycle.getD i 0
theorem hj_ {p:Per} (h:p.WF) {base x:Int} (fb:p.frm≤base) (dv:(base-p.frm) % p.period=0) (h1:base≤x) (h2:x<base+p.period):p.mem x↔x-base∈p.cycle:=by
 have:=h.frm;rw [Per.mem_hi oq_ oq_];have e:(x-p.frm) % p.period=x-base:=by
  have hd:=Int.mul_ediv_cancel' (Int.dvd_of_emod_eq_zero dv);rw [show x-p.frm=(x-base)+p.period*((base-p.frm) / p.period) from oq_,Int.add_mul_emod_self_left,Int.emod_eq_of_lt oq_ oq_]
 rw [e]
theorem CyIn.start {p:Per} (h:p.WF) {lo t base:Int} {pre:List Int} (hp:pre=sel p.mem lo t) (hlo:lo≤t) (hb:base=t-(t-p.frm) % p.period) (ht:p.frm≤t) :
  CyIn p lo base (p.cycle.countP fun y=>decide (y<t-base)) t pre:=by
 have h1:=h.per;have h2:=Int.emod_nonneg (t-p.frm) (show p.period≠0 by omega);have h3:=Int.emod_lt_of_pos (t-p.frm) (show 0<p.period by omega);have h4:=Int.emod_add_mul_ediv (t-p.frm) p.period;have h5:0≤p.period*((t-p.frm) / p.period):=Int.mul_nonneg oq_ (Int.ediv_nonneg oq_ oq_);refine ⟨hp,hlo,oq_,oq_,oq_,?_,fun i g1 g2=>?_,fun i g1 g2=>?_⟩
 ·rw [show base-p.frm=p.period*((t-p.frm) / p.period) from by omega];exact Int.mul_emod_right _ _
 ·have:=(fa_ h.cyc.1 (t-base) g2).2 g1;omega
 ·have:=fa_ h.cyc.1 (t-base) g2;omega
theorem CyIn.next {p:Per} (h:p.WF) {lo base u:Int} {j:Nat} {pre:List Int} (h0:0≤lo) (ha:CyIn p lo base j u pre) (hj:j<p.cycle.length) :
  pre ++ [base+p.cycle.getD j 0]=sel p.mem lo (base+p.cycle.getD j 0+1)∧CyIn p lo base (j+1) (base+p.cycle.getD j 0+1) (pre ++ [base+p.cycle.getD j 0]):=by
 have hb:=bl_ h.cyc hj;have hu:=ha.hi j (Nat.le_refl _) hj;have hge:=ha.ge;have hbu:=ha.bu;have hfb:=ha.fb;have hf0:=h.frm;have hm:p.mem (base+p.cycle.getD j 0):=by
  rw [hj_ h ha.fb ha.dv oq_ oq_,show base+p.cycle.getD j 0-base=p.cycle.getD j 0 from by omega];exact ah_ hj
 have e:pre ++ [base+p.cycle.getD j 0]=sel p.mem lo (base+p.cycle.getD j 0+1):=by
  rw [jv_ h0 oq_ hm,ha.is]
  congr 1
  refine hr_ h0 hu fun x h1 h2 h3 hx=>?_;rw [hj_ h ha.fb ha.dv oq_ oq_] at hx;obtain ⟨i,hi,hxi⟩:=List.getElem_of_mem hx;rw [show p.cycle[i]=p.cycle.getD i 0 from by simp [hi]] at hxi;rcases Nat.lt_or_ge i j with h4|h4
  ·have:=ha.lo i h4 hi;omega
  ·rcases Nat.lt_or_ge j i with h5|h5
   ·have:=getD_lt h.cyc h5 hi;omega
   ·obtain rfl:i=j:=oq_;omega
 refine ⟨e,e,oq_,oq_,oq_,hfb,ha.dv,fun i h1 h2=>?_,fun i h1 h2=>?_⟩
 ·rcases Nat.lt_or_ge i j with h3|h3
  ·have:=getD_lt h.cyc h3 hj;omega
  ·obtain rfl:i=j:=oq_;omega
 ·have:=getD_lt h.cyc (show j<i by omega) h2;omega
theorem CyIn.round {p:Per} (h:p.WF) {lo base u:Int} {j:Nat} {pre:List Int} (h0:0≤lo) (ha:CyIn p lo base j u pre) (hj:p.cycle.length≤j) :
  CyIn p lo (base+p.period) 0 (base+p.period) pre:=by
 have hge:=ha.ge;have hbu:=ha.bu;have hfb:=ha.fb;have hf0:=h.frm;have hle:=ha.le;have hper:=h.per;refine ⟨?_,oq_,Int.le_refl _,oq_,oq_,?_,fun i h1 h2=>oq_,fun i h1 h2=>?_⟩
 ·rw [ha.is];refine hr_ h0 hle fun x h1 h2 h3 hx=>?_;rw [hj_ h ha.fb ha.dv oq_ oq_] at hx;obtain ⟨i,hi,hxi⟩:=List.getElem_of_mem hx;rw [show p.cycle[i]=p.cycle.getD i 0 from by simp [hi]] at hxi;have:=ha.lo i oq_ hi;omega
 ·rw [show base+p.period-p.frm=base-p.frm+p.period from oq_,Int.add_emod_right];exact ha.dv
 ·have:=bl_ h.cyc h2;omega
theorem ub_ {p:Per} (hc:p.cycle=[]) {lo:Int} {pre:List Int} (hp:pre=sel p.mem lo (max lo p.frm)) (h0:0≤lo):FinS p.mem lo pre:=by
 have key:∀ x,p.mem x->x<p.frm:=fun x hx=>by
  rcases Int.lt_or_le x p.frm with h1|h1
  ·exact h1
  ·have:=(Per.mem_hi hx.1 h1).1 hx;rw [hc] at this;simp at this
 exact ⟨max lo p.frm,fun x hx=>by have:=key x hx;omega,hp⟩
theorem op_ {l:List Int} (hl:l.Pairwise (· < ·)) (d x:Int):x∈l.drop (l.countP fun y=>decide (y<d))↔x∈l∧d≤x:=by
 constructor
 ·intro h;obtain ⟨i,hi,rfl⟩:=List.getElem_of_mem h;have hi':l.countP (fun y=>decide (y<d))+i<l.length:=by simp at hi;omega
  rw [List.getElem_drop];refine ⟨List.getElem_mem _,?_⟩;have:=(hd_ hl d hi');omega
 ·rintro ⟨h,hd⟩;obtain ⟨i,hi,rfl⟩:=List.getElem_of_mem h;have hn:=(hd_ hl d hi);have hge:l.countP (fun y=>decide (y<d))≤i:=oq_;rw [List.mem_iff_getElem];refine ⟨i-l.countP (fun y=>decide (y<d)),tq_,?_⟩;rw [List.getElem_drop];congr 1;omega
def cycL (p:Per) (s:Int):List Int:=p.cycle.map fun c=>(p.frm+c-s) % p.period
theorem l0_ {p:Per} (h:p.WF) (s:Int):(cycL p s).Nodup:=by
 refine List.pairwise_map.2 (h.cyc.nodup.imp_of_mem fun {a b} ha hb hab e=>hab ?_);have ha':=h.cyc.2 a ha;have hb':=h.cyc.2 b hb;exact k5_ (a:=p.frm-s) ha'.1 ha'.2 hb'.1 hb'.2 (by rw [show p.frm-s+a=p.frm+a-s by omega,show p.frm-s+b=p.frm+b-s by omega];exact e)
theorem ju_ {p:Per} (h:p.WF) {s:Int} (hs:p.frm≤s) (y:Int):y∈cycL p s↔0≤y∧y<p.period∧p.mem (s+y):=by
 have hf:=h.frm;have hp:=h.per;unfold cycL;rw [List.mem_map];constructor
 ·rintro ⟨c,hc,rfl⟩;have h1:=Int.emod_nonneg (p.frm+c-s) (show p.period≠0 by omega);have h2:=Int.emod_lt_of_pos (p.frm+c-s) (show 0<p.period by omega);refine ⟨h1,h2,?_⟩;rw [Per.mem_hi oq_ oq_,show s+(p.frm+c-s) % p.period-p.frm=(s-p.frm)+(p.frm+c-s) % p.period by omega,amod,show s-p.frm+(p.frm+c-s)=c by omega];have hb:=h.cyc.2 c hc;rw [Int.emod_eq_of_lt hb.1 hb.2];exact hc
 ·rintro ⟨h0,h1,hm⟩;rw [Per.mem_hi oq_ oq_] at hm;refine ⟨_,hm,?_⟩;rw [show p.frm+(s+y-p.frm) % p.period-s=(p.frm-s)+(s+y-p.frm) % p.period by omega,amod,show p.frm-s+(s+y-p.frm)=y by omega,Int.emod_eq_of_lt h0 h1]
theorem uz_ {p:Per} (h:p.WF) {day:Int} (h0:0≤day) {cy:List Int} (hcy:cy.Pairwise (· < ·)) (hm:∀ y,y∈cy↔y∈cycL p (max p.frm day)) :
  (Per.mk (p.head.drop (p.head.countP fun y=>decide (y<day))) (max p.frm day) p.period cy).WF∧
  ∀ n,(Per.mk (p.head.drop (p.head.countP fun y=>decide (y<day))) (max p.frm day) p.period cy).mem n↔p.mem n∧day≤n:=by
 have hf:=h.frm;have hp:=h.per;have hpf:am_ (fun n=>p.mem n∧day≤n) (max p.frm day) p.period:=fun n hn=>by
  have:=h.pfrom n oq_;constructor
  ·rintro ⟨h1,h2⟩;exact ⟨this.1 h1,oq_⟩
  ·rintro ⟨h1,h2⟩;exact ⟨this.2 h1,oq_⟩
 refine f4_ (S:=fun n=>p.mem n∧day≤n) oq_ hp (fun n hn=>hn.1.1) hpf ⟨h.head.1.sublist (List.drop_sublist _ _),fun x hx=>?_⟩ ⟨hcy,fun x hx=>?_⟩ (fun n h1 h2=>?_) (fun n h1 h2=>?_)
 ·have:=(op_ h.head.1 day x).1 hx;have hb:=h.head.2 x this.1;omega
 ·have:=(ju_ h oq_ x).1 ((hm x).1 hx);omega
 ·rw [op_ h.head.1]
  by_cases hlt:n<p.frm
  ·rw [Per.mem_lo h1 hlt]
  ·constructor
   ·rintro ⟨hx,_⟩;have:=h.head.2 n hx;omega
   ·rintro ⟨_,hd⟩;omega
 ·rw [hm,ju_ h oq_];exact ⟨fun h=>⟨h.2.2,oq_⟩,fun h=>⟨h1,h2,h.1⟩⟩
theorem s6_ (S T:Int->Prop) (n:Nat):cnt S n=cnt (fun x=>S x∧T x) n+cnt (fun x=>S x∧¬ T x) n:=by
 induction n with
 | zero=>rfl
 | succ n ih=>
  simp only [cnt]
  by_cases h1:S n <;> by_cases h2:T n <;> simp [h1,h2] <;> omega
def opS (k:Int) (S T:Int->Prop) (n:Int):Prop:=if k=0 then S n∧T n else if k=1 then S n∨T n else S n∧¬ T n
theorem dr_ (S T:Int->Prop):opS 0 S T=fun n=>S n∧T n:=by funext n;simp [opS]
theorem fl_ (S T:Int->Prop):opS 1 S T=fun n=>S n∨T n:=by funext n;simp [opS]
theorem d5_ (S T:Int->Prop):opS 2 S T=fun n=>S n∧¬ T n:=by funext n;simp [opS]
theorem mk_ {k:Int} {S T:Int->Prop} {f d:Int} (h1:am_ S f d) (h2:am_ T f d):am_ (opS k S T) f d:=by
 intro n hn;unfold opS;rw [h1 n hn,h2 n hn]
section
variable {qa qb:Per} {S T:Int->Prop} (ha:a6_ qa S) (hb:a6_ qb T) {st:Int} (hs1:qa.frm≤st) (hs2:qb.frm≤st) {xs ys:List Int}
 (hx:Rise 0 qa.period xs) (hy:Rise 0 qb.period ys) (hxm:∀ y,y∈xs↔0≤y∧y<qa.period∧qa.mem (st+y)) (hym:∀ y,y∈ys↔0≤y∧y<qb.period∧qb.mem (st+y))
theorem ew_ {q:Per} (hq:q.WF) {st:Int} (hs:q.frm≤st) {xs:List Int} (hxm:∀ y,y∈xs↔0≤y∧y<q.period∧q.mem (st+y)) {n:Int} (hn:st≤n):(n-st) % q.period∈xs↔q.mem n:=by
 have hp:=hq.per;rw [hxm,(hq.pfrom.mono hs).shift hp hn];exact ⟨fun h=>h.2.2,fun h=>⟨Int.emod_nonneg _ oq_,Int.emod_lt_of_pos _ oq_,h⟩⟩
include ha hb hs1 hs2 hx hy hxm hym
theorem ka_ (n:Int):n∈c1_ xs ys qa.period qb.period st↔st≤n∧n<st+lcmI qa.period qb.period∧S n∧T n:=by
 rw [ss_ ha.wf.per hb.wf.per hx hy];constructor
 ·rintro ⟨h1,h2,h3,h4⟩;exact ⟨h1,h2,(ha.mem n).1 ((ew_ ha.wf hs1 hxm h1).1 h3),(hb.mem n).1 ((ew_ hb.wf hs2 hym h1).1 h4)⟩
 ·rintro ⟨h1,h2,h3,h4⟩;exact ⟨h1,h2,(ew_ ha.wf hs1 hxm h1).2 ((ha.mem n).2 h3),(ew_ hb.wf hs2 hym h1).2 ((hb.mem n).2 h4)⟩
theorem ue_ (h0:0≤st):((sel (fun n=>S n∧T n) 0 st).length:Int)+(c1_ xs ys qa.period qb.period st).length=cnt (fun n=>S n∧T n) (st+lcmI qa.period qb.period).toNat:=by
 have hl:=c7_ ha.wf.per hb.wf.per;rw [<- o3_ (S:=fun n=>S n∧T n) (st+lcmI qa.period qb.period).toNat (l:=sel (fun n=>S n∧T n) 0 st ++ c1_ xs ys qa.period qb.period st),List.length_append]
 ·omega
 ·refine List.nodup_append.2 ⟨(ad_ (Int.le_refl _)).nodup,pq_ ha.wf.per hb.wf.per hx hy,fun x hx' y hy' e=>?_⟩;have h1:=(ae_ (Int.le_refl _) x).1 hx';have h2:=(ka_ ha hb hs1 hs2 hx hy hxm hym y).1 hy';omega
 ·intro n;rw [List.mem_append,ae_ (Int.le_refl _),ka_ ha hb hs1 hs2 hx hy hxm hym,Int.toNat_of_nonneg oq_];constructor
  ·rintro (⟨h1,h2,h3⟩|⟨h1,h2,h3⟩)
   ·exact ⟨h1,oq_,h3⟩
   ·exact ⟨oq_,h2,h3⟩
  ·rintro ⟨h1,h2,h3⟩
   by_cases e:n<st
   ·exact .inl ⟨h1,e,h3⟩
   ·exact .inr ⟨oq_,h2,h3⟩
end
theorem sk_ {q:Per} {S:Int->Prop} (h:a6_ q S) {st L:Int} (hs:q.frm≤st) (hL:1≤L) (hd:q.period∣L):ay_ q st+q.cycle.length*(L / q.period)=cnt S (st+L).toNat:=by
 have hp:=h.wf.per;have hf:=h.wf.frm;have hq:0≤L / q.period:=Int.ediv_nonneg oq_ oq_;have e:=hb_ h.wf hs (L / q.period).toNat;rw [Int.toNat_of_nonneg hq,Int.ediv_mul_cancel hd,f3_ h.wf (show 0≤st+L by omega),md_ h.mem] at e;rw [e,Int.mul_comm]
theorem xa_ {U:Int->Prop} {st L:Int} (h0:0≤st) (hL:1≤L) (hU:∀ n,U n->0≤n) (hp:am_ U st L) :
  (Per.mk (sel U 0 st) st L ((sel U st (st+L)).map (· - st))).WF∧∀ n,(Per.mk (sel U 0 st) st L ((sel U st (st+L)).map (· - st))).mem n↔U n:=by
 have hr:=((ad_ (S:=U) (lo:=st) (hi:=st+L) h0).map_add (-st)).mono (lo':=0) (hi':=L) oq_ oq_;refine f4_ (S:=U) h0 hL hU hp (ad_ (Int.le_refl _)) hr (fun n h1 h2=>?_) (fun n h1 h2=>?_)
 ·rw [ae_ (Int.le_refl _)];exact ⟨fun h=>h.2.2,fun h=>⟨h1,h2,h⟩⟩
 ·rw [List.mem_map];constructor
  ·rintro ⟨x,hx,rfl⟩;have:=(ae_ h0 x).1 hx;rw [show st+(x-st)=x from by omega];exact this.2.2
  ·intro h;exact ⟨st+n,(ae_ h0 _).2 ⟨oq_,oq_,h⟩,oq_⟩
theorem si_ {U:Int->Prop} {a b c:Int} (h0:0≤a) (hab:a≤b) (hbc:b≤c):sel U a c=sel U a b ++ sel U b c:=by
 have h1:0≤b:=oq_;refine (ad_ (hi:=c) h0).ext ((ad_ (hi:=b) h0).append (ad_ (lo:=b) (hi:=c) h1) (Int.le_refl _) hab hbc) fun x=>?_;rw [ae_ h0,List.mem_append,ae_ h0,ae_ h1];constructor
 ·rintro ⟨g1,g2,g3⟩
  by_cases e:x<b
  ·exact .inl ⟨g1,e,g3⟩
  ·exact .inr ⟨oq_,g2,g3⟩
 ·rintro (⟨g1,g2,g3⟩|⟨g1,g2,g3⟩)
  ·exact ⟨g1,oq_,g3⟩
  ·exact ⟨oq_,g2,g3⟩
theorem ql_ {U:Int->Prop} {st c:Int} (h0:0≤st) (hc:st≤c):(sel U 0 c).countP (fun y=>decide (y<st))=(sel U 0 st).length∧(sel U 0 c).take (sel U 0 st).length=sel U 0 st∧(sel U 0 c).drop (sel U 0 st).length=sel U st c:=by
 rw [si_ (Int.le_refl _) h0 hc];refine ⟨?_,sq_,sq_⟩;rw [List.countP_append,fn_ (ad_ (Int.le_refl _)) (Int.le_refl _),do_ (ad_ h0) (Int.le_refl _)];omega
end Kal
namespace Kal
open Go.Lib
theorem o7_ {l:List Int} (h:l.Pairwise (·≤·)):∀ m,m≤l.length->(compactUpTo l.toArray m).Pairwise (· < ·)∧∀ x,x∈compactUpTo l.toArray m↔∃ j,j<m∧l.toArray[j]! = x:=by
 have hle:∀ i j,i≤j->j<l.length->l.toArray[i]!≤l.toArray[j]!:=fun i j hij hj=>by
  rcases Nat.lt_or_ge i j with h1|h1
  ·have:=List.pairwise_iff_getElem.1 h i j oq_ hj h1;rw [getElem!_pos l.toArray i tq_,getElem!_pos l.toArray j (by simpa using hj)];simpa using this
  ·obtain rfl:i=j:=oq_;exact Int.le_refl _
 intro m
 induction m with
 | zero=>intro _;exact ⟨by simp [compactUpTo],fun x=>by simp [compactUpTo]⟩
 | succ m ih=>
  intro hm;obtain ⟨h1,h2⟩:=ih oq_;rw [compactUpTo_succ]
  by_cases hk:keeps l.toArray m=true
  ·rw [if_pos hk];refine ⟨List.pairwise_append.2 ⟨h1,sq_,fun x hx y hy=>?_⟩,fun x=>?_⟩
   ·obtain rfl:y=l.toArray[m]!:=by simpa using hy
    obtain ⟨j,hj,rfl⟩:=(h2 x).1 hx;have hm0:m≠0:=oq_;have hne:l.toArray[m]!≠l.toArray[m-1]!:=by
     unfold keeps at hk;rcases of_decide_eq_true hk with h|h
     ·exact absurd h hm0
     ·exact h
    have g1:=hle j (m-1) oq_ oq_;have g2:=hle (m-1) m oq_ oq_;omega
   ·rw [List.mem_append,h2,List.mem_singleton];constructor
    ·rintro (⟨j,hj,rfl⟩|rfl)
     ·exact ⟨j,oq_,rfl⟩
     ·exact ⟨m,oq_,rfl⟩
    ·rintro ⟨j,hj,rfl⟩
     by_cases e:j=m
     ·subst e;exact .inr rfl
     ·exact .inl ⟨j,oq_,rfl⟩
  ·rw [if_neg hk,List.append_nil];refine ⟨h1,fun x=>?_⟩;rw [h2];have hn:¬ (m=0∨l.toArray[m]!≠l.toArray[m-1]!):=fun hh=>hk (by unfold keeps;exact decide_eq_true hh);have hm0:m≠0:=fun e=>hn (.inl e);have he:l.toArray[m]! = l.toArray[m-1]!:=Classical.byContradiction fun e=>hn (.inr e);constructor
   ·rintro ⟨j,hj,rfl⟩;exact ⟨j,oq_,rfl⟩
   ·rintro ⟨j,hj,rfl⟩
    by_cases e:j=m
    ·subst e;exact ⟨j-1,oq_,he.symm⟩
    ·exact ⟨j,oq_,rfl⟩
theorem lm_ {l:List Int} (h:l.Pairwise (·≤·)):(compact l).Pairwise (· < ·)∧∀ x,x∈compact l↔x∈l:=by
 obtain ⟨h1,h2⟩:=o7_ h l.length (Nat.le_refl _);refine ⟨h1,fun x=>(h2 x).trans ?_⟩;rw [List.mem_iff_getElem];constructor
 ·rintro ⟨j,hj,rfl⟩;exact ⟨j,hj,by rw [getElem!_pos l.toArray j (by simpa using hj)];simp⟩
 ·rintro ⟨j,hj,rfl⟩;exact ⟨j,hj,by rw [getElem!_pos l.toArray j (by simpa using hj)];simp⟩
theorem la_ {l:List Int}:(compact l).length≤l.length:=by
 unfold compact compactUpTo;rw [List.length_map];exact Nat.le_trans (List.length_filter_le _ _) sq_
end Kal
namespace Kal
theorem jp_ {p:Per} (hw:p.WF) (hper:∀ d,1≤d->d<p.period->¬ am_ p.mem p.frm d) (hfrm:p.frm=0∨¬ (p.mem (p.frm-1)↔p.mem (p.frm-1+p.period))):a6_ p p.mem:=by
 refine ⟨hw,fun _=>Iff.rfl,fun d hd he=>?_,fun f hf hp=>?_⟩
 ·rcases Int.lt_or_le d p.period with h|h
  ·exact absurd (hw.pfrom.of_ev hw.per oq_ he) (hper d hd h)
  ·exact h
 ·rcases Int.lt_or_le f p.frm with h|h
  ·rcases hfrm with h1|h1
   ·omega
   ·exact absurd (hp (p.frm-1) oq_) h1
  ·exact h
theorem w2_ {p:Per} {m:Int} (hw:p.WF) (hc:p.cycle=[m]):∀ d,1≤d->d<p.period->¬ am_ p.mem p.frm d:=by
 intro d h1 h2 hp;have h0:=hw.frm;have hm:=hw.cyc.2 m (by rw [hc];simp);have h3:=(hp (p.frm+m) oq_).1 (((hw.cyc_mem m).1 (by rw [hc];simp)).2.2);rw [Per.mem_hi oq_ oq_,hc,List.mem_singleton,show p.frm+m+d-p.frm=m+d from by omega] at h3;have h4:(m+d) % p.period=m % p.period:=by rw [h3,Int.emod_eq_of_lt hm.1 hm.2]
 have h5:d % p.period=0:=by
  have:=Int.emod_emod_of_dvd;have h6:=Int.emod_eq_emod_iff_emod_sub_eq_zero.1 h4;rwa [show m+d-m=d from by omega] at h6
 rw [Int.emod_eq_of_lt oq_ h2] at h5;omega
def ng_ (p:Per):Bool:=
 decide (0≤p.frm) && decide (1≤p.period) && (p.head.all fun x=>decide (0≤x∧x<p.frm)) && (p.cycle.all fun x=>decide (0≤x∧x<p.period)) && decide (p.head.Pairwise (· < ·)) && decide (p.cycle.Pairwise (· < ·))
theorem uu_ {p:Per} (h:ng_ p=true):p.WF:=by
 unfold ng_ at h;simp only [Bool.and_eq_true,decide_eq_true_eq,List.all_eq_true] at h;obtain ⟨⟨⟨⟨⟨h1,h2⟩,h3⟩,h4⟩,h5⟩,h6⟩:=h;exact ⟨h1,h2,⟨h5,h3⟩,⟨h6,h4⟩⟩
def oh_ (p:Per):Bool:=ng_ p && ((List.range (p.period.toNat-1)).all fun d=>(List.range p.period.toNat).any fun x=>decide (p.mem (p.frm+x)) != decide (p.mem (p.frm+x+(d+1:Nat)))) &&
 (decide (p.frm=0) || decide (p.mem (p.frm-1)) != decide (p.mem (p.frm-1+p.period)))
theorem c0_ {p:Per} (h:oh_ p=true):a6_ p p.mem:=by
 unfold oh_ at h;simp only [Bool.and_eq_true,List.all_eq_true,List.mem_range,List.any_eq_true,Bool.or_eq_true,decide_eq_true_eq] at h;obtain ⟨⟨h1,h2⟩,h3⟩:=h;refine jp_ (uu_ h1) (fun d hd hp hf=>?_) (h3.imp id fun h h'=>?_)
 ·obtain ⟨x,_,hx⟩:=h2 (d.toNat-1) oq_;have h4:=hf (p.frm+x) oq_;rw [show ((d.toNat-1+1:Nat):Int)=d from by omega] at hx;rw [bne_iff_ne] at hx;exact hx (decide_eq_decide.2 h4)
 ·rw [bne_iff_ne] at h;exact h (decide_eq_decide.2 h')
abbrev ev (m n:Int):Per:=⟨[],0,n,[m]⟩
abbrev odd:Per:=⟨[1,3],4,4,[1,3]⟩
abbrev nine:Per:=⟨[2,9],30,3,[]⟩
abbrev zer:Per:=⟨[0],1,3,[1]⟩
abbrev far:Per:=⟨[],0,549755813888,[5]⟩
theorem rc_ {m n:Int} (h0:0≤m) (h1:m<n):(ev m n).WF:=⟨Int.le_refl _,by show 1≤n;omega,Rise.nil,sq_,by simpa using ⟨h0,h1⟩⟩
theorem gk_ {m n:Int} (h0:0≤m) (h1:m<n):a6_ (ev m n) (ev m n).mem:=jp_ (rc_ h0 h1) (w2_ (rc_ h0 h1) rfl) (.inl rfl)
theorem bv_ {m n x:Int}:(ev m n).mem x↔0≤x∧x % n=m:=by
 unfold Per.mem;constructor
 ·rintro ⟨h0,h1⟩;rw [if_neg (by show ¬ x<0;omega)] at h1;exact ⟨h0,by simpa using h1⟩
 ·rintro ⟨h0,h1⟩;refine ⟨h0,?_⟩;rw [if_neg (by show ¬ x<0;omega)];simpa using h1
theorem s1:a6_ (ev 1 2) odd.mem:=(c0_ dq_).congr fun n=>by
 unfold Per.mem;simp only [List.mem_cons,List.not_mem_nil,or_false,odd,nine,zer,ev];(repeat' split) <;> first|omega|(simp only [and_false,iff_false,false_iff,not_and,not_or];omega)|(simp;done)|(simp;omega)
theorem s2:a6_ ⟨[],0,1,[]⟩ (Per.mk [] 5 7 []).mem:=(c0_ dq_).congr fun n=>by
 unfold Per.mem;simp
theorem s3:a6_ ⟨[2,9],10,1,[]⟩ nine.mem:=(c0_ dq_).congr fun n=>by
 unfold Per.mem;simp only [List.mem_cons,List.not_mem_nil,or_false,odd,nine,zer,ev];(repeat' split) <;> first|omega|(simp only [and_false,iff_false,false_iff,not_and,not_or];omega)|(simp;done)|(simp;omega)
theorem s4:a6_ zer zer.mem:=c0_ dq_
theorem s5:a6_ (ev 0 6) (fun n=>(ev 0 2).mem n∧(ev 0 3).mem n):=(gk_ oq_ oq_).congr fun n=>by
 simp only [bv_];omega
theorem s6:a6_ ⟨[],0,6,[2,4]⟩ (fun n=>(ev 0 2).mem n∧¬ (ev 0 3).mem n):=(c0_ dq_).congr fun n=>by
 simp only [bv_];unfold Per.mem;simp only [List.mem_cons,List.not_mem_nil,or_false,odd,nine,zer,ev];(repeat' split) <;> first|omega|(simp only [and_false,iff_false,false_iff,not_and,not_or];omega)|(simp;done)|(simp;omega)
theorem s7:a6_ (ev 2 3) (fun n=>0≤n∧(ev 0 3).mem (n-2)):=(gk_ oq_ oq_).congr fun n=>by
 simp only [bv_];omega
theorem s8:a6_ (ev 1 3) (fun n=>0≤n∧(ev 2 3).mem (n-(-4))):=(gk_ oq_ oq_).congr fun n=>by
 simp only [bv_];omega
theorem s9:a6_ ⟨[5,7],8,1,[]⟩ (fun n=>odd.mem n∧4≤n∧n<9):=(c0_ dq_).congr fun n=>by
 unfold Per.mem;simp only [List.mem_cons,List.not_mem_nil,or_false,odd,nine,zer,ev];(repeat' split) <;> first|omega|(simp only [and_false,iff_false,false_iff,not_and,not_or];omega)|(simp;done)|(simp;omega)
end Kal
section
variable {b:Bool}{a f n x:Int}{l:List Int}{B k:Nat}{h v:Go.Value}{W W' w w':Go.World}
namespace Go.Proofs
open Go.Shelf
def Tryz.lays189_ren:Go.Shelf.Ren:=⟨fun|189=>132|125=>163|257=>162|128=>192|129=>193|294=>184|295=>185|296=>186|297=>187|298=>188|299=>189|216=>158|300=>190|301=>191|328=>201|329=>202|330=>203|331=>204|332=>205|215=>183|343=>207|n=>n,fun|28=>37|3=>3|46=>150|0=>0|51=>50|53=>112|4=>4|183=>169|182=>168|131=>33|5=>5|9=>9|218=>179|222=>183|228=>186|229=>187|n=>n,fun|n=>n⟩
theorem Tryz.lays189:Go.Proofs.Lays.n189 Tryz.prog Tryz.lays189_ren:={
 mixed:=by kernel_rfl
 f125:=Tryz.func163.trans (congrArg some (by kernel_rfl))
 f128:=Tryz.func192.trans (congrArg some (by kernel_rfl))
 f129:=Tryz.func193.trans (congrArg some (by kernel_rfl))
 f189:=Tryz.func132.trans (congrArg some (by kernel_rfl))
 f215:=Tryz.func183.trans (congrArg some (by kernel_rfl))
 f216:=Tryz.func158.trans (congrArg some (by kernel_rfl))
 f257:=Tryz.func162.trans (congrArg some (by kernel_rfl))
 f294:=Tryz.func184.trans (congrArg some (by kernel_rfl))
 f295:=Tryz.func185.trans (congrArg some (by kernel_rfl))
 f296:=Tryz.func186.trans (congrArg some (by kernel_rfl))
 f297:=Tryz.func187.trans (congrArg some (by kernel_rfl))
 f298:=Tryz.func188.trans (congrArg some (by kernel_rfl))
 f299:=Tryz.func189.trans (congrArg some (by kernel_rfl))
 f300:=Tryz.func190.trans (congrArg some (by kernel_rfl))
 f301:=Tryz.func191.trans (congrArg some (by kernel_rfl))
 f328:=Tryz.func201.trans (congrArg some (by kernel_rfl))
 f329:=Tryz.func202.trans (congrArg some (by kernel_rfl))
 f330:=Tryz.func203.trans (congrArg some (by kernel_rfl))
 f331:=Tryz.func204.trans (congrArg some (by kernel_rfl))
 f332:=Tryz.func205.trans (congrArg some (by kernel_rfl))
 f343:=Tryz.func207.trans (congrArg some (by kernel_rfl))
 t0:=Tryz.underlying0
 a0:=Tryz.isAgg0
 z0:=Tryz.sizeOf0
 v0:=Tryz.zeroValue0
 t3:=Tryz.underlying3
 a3:=Tryz.isAgg3
 z3:=Tryz.sizeOf3
 v3:=Tryz.zeroValue3
 t4:=Tryz.underlying4
 a4:=Tryz.isAgg4
 z4:=Tryz.sizeOf4
 v4:=Tryz.zeroValue4
 t5:=Tryz.underlying5
 a5:=Tryz.isAgg5
 z5:=Tryz.sizeOf5
 v5:=Tryz.zeroValue5
 t9:=Tryz.underlying9
 a9:=Tryz.isAgg9
 z9:=Tryz.sizeOf9
 v9:=Tryz.zeroValue9
 t28:=Tryz.underlying37
 a28:=Tryz.isAgg37
 z28:=Tryz.sizeOf37
 v28:=Tryz.zeroValue37
 t46:=Tryz.underlying150
 a46:=Tryz.isAgg150
 z46:=Tryz.sizeOf150
 v46:=Tryz.zeroValue150
 t51:=Tryz.underlying50
 a51:=Tryz.isAgg50
 z51:=Tryz.sizeOf50
 v51:=Tryz.zeroValue50
 t53:=Tryz.underlying112
 a53:=Tryz.isAgg112
 z53:=Tryz.sizeOf112
 v53:=Tryz.zeroValue112
 t131:=Tryz.underlying33
 a131:=Tryz.isAgg33
 z131:=Tryz.sizeOf33
 v131:=Tryz.zeroValue33
 t182:=Tryz.underlying168
 a182:=Tryz.isAgg168
 z182:=Tryz.sizeOf168
 v182:=Tryz.zeroValue168
 t183:=Tryz.underlying169
 a183:=Tryz.isAgg169
 z183:=Tryz.sizeOf169
 v183:=Tryz.zeroValue169
 t218:=Tryz.underlying179
 a218:=Tryz.isAgg179
 z218:=Tryz.sizeOf179
 v218:=Tryz.zeroValue179
 t222:=Tryz.underlying183
 a222:=Tryz.isAgg183
 z222:=Tryz.sizeOf183
 v222:=Tryz.zeroValue183
 t228:=Tryz.underlying186
 a228:=Tryz.isAgg186
 z228:=Tryz.sizeOf186
 v228:=Tryz.zeroValue186
 t229:=Tryz.underlying187
 a229:=Tryz.isAgg187
 z229:=Tryz.sizeOf187
 v229:=Tryz.zeroValue187 }
open Go.Sort Go.RowKit in
theorem Tryz.slices_Sort_int (blk off cap:Nat) (zs:List Int) (w:World) (hH:Holds (Value.int .i64) w blk off zs.toArray) (hblk:blk<w.heap.size) (hsz:zs.length<4611686018427387904) :
  Calls Tryz.prog 132 #[.slice (some ⟨blk,off,none⟩) zs.length cap] w fun e w'=>
   e=.returned (.tuple #[])∧∃ n os,w'=grow (putRow (Value.int .i64) (Sort.ahead w n) blk off (zs.mergeSort fun x y=>decide (x≤y)).toArray) os:=Any.slices_Sort_int Tryz.lays189 blk off cap zs w hH hblk hsz
def Tryz.lays264_ren:Go.Shelf.Ren:=⟨fun|264=>175|n=>n,fun|53=>112|46=>150|n=>n,fun|n=>n⟩
theorem Tryz.lays264:Go.Proofs.Lays.n264 Tryz.prog Tryz.lays264_ren:={
 mixed:=by kernel_rfl
 f264:=Tryz.func175.trans (congrArg some (by kernel_rfl))
 t46:=Tryz.underlying150
 a46:=Tryz.isAgg150
 z46:=Tryz.sizeOf150
 v46:=Tryz.zeroValue150
 t53:=Tryz.underlying112
 a53:=Tryz.isAgg112
 z53:=Tryz.sizeOf112
 v53:=Tryz.zeroValue112 }
open Go.RowKit Go.Lib in
theorem Tryz.bits_Mul64 (x y:Nat) (hx:x<18446744073709551616) (hy:y<18446744073709551616) (w:World) :
  Calls Tryz.prog 175 #[.int .u64 x,.int .u64 y] w fun e w'=>e=.returned (.tuple #[.int .u64 ((x*y / 18446744073709551616:Nat):Int),.int .u64 ((x*y % 18446744073709551616:Nat):Int)])∧w'=w:=Any.bits_Mul64 Tryz.lays264 x y hx hy w
def Tryz.lays111_ren:Go.Shelf.Ren:=⟨fun|111=>89|n=>n,fun|28=>37|3=>3|4=>4|0=>0|n=>n,fun|n=>n⟩
theorem Tryz.lays111:Go.Proofs.Lays.n111 Tryz.prog Tryz.lays111_ren:={
 mixed:=by kernel_rfl
 f111:=Tryz.func89.trans (congrArg some (by kernel_rfl))
 t0:=Tryz.underlying0
 a0:=Tryz.isAgg0
 z0:=Tryz.sizeOf0
 v0:=Tryz.zeroValue0
 t3:=Tryz.underlying3
 a3:=Tryz.isAgg3
 z3:=Tryz.sizeOf3
 v3:=Tryz.zeroValue3
 t4:=Tryz.underlying4
 a4:=Tryz.isAgg4
 z4:=Tryz.sizeOf4
 v4:=Tryz.zeroValue4
 t28:=Tryz.underlying37
 a28:=Tryz.isAgg37
 z28:=Tryz.sizeOf37
 v28:=Tryz.zeroValue37 }
open Go.RowKit Go.Lib in
theorem Tryz.slices_Equal_int (b1 o1 n c b2 o2 m d:Nat) (xs ys:List Int) (w:World) (hx:n≤xs.length) (hy:m≤ys.length) (hbig:n≤9223372036854775807) (hbig2:m≤9223372036854775807) (hc1:∀ j,j<xs.length->w.cell? ⟨b1,o1+j,none⟩=some (.int .i64 (xs.getD j 0))) (hc2:∀ j,j<ys.length->w.cell? ⟨b2,o2+j,none⟩=some (.int .i64 (ys.getD j 0))) :
  Calls Tryz.prog 89 #[.slice (some ⟨b1,o1,none⟩) n c,.slice (some ⟨b2,o2,none⟩) m d] w fun e w'=>e=.returned (.bool (xs.take n == ys.take m))∧∃ q,w'=w.drewN q:=Any.slices_Equal_int Tryz.lays111 b1 o1 n c b2 o2 m d xs ys w hx hy hbig hbig2 hc1 hc2
open Go.RowKit Go.Lib in
theorem Tryz.slices_Equal_int_empty (a1 a2:Option Addr) (c m d:Nat) (w:World) (hbig2:m≤9223372036854775807) :
  Calls Tryz.prog 89 #[.slice a1 0 c,.slice a2 m d] w fun e w'=>e=.returned (.bool (decide (m=0)))∧w'=w:=Any.slices_Equal_int_empty Tryz.lays111 a1 a2 c m d w hbig2
def Tryz.laysNm215_ren:Go.Shelf.Ren:=⟨fun|15=>129|n=>n,fun|22=>37|3=>3|4=>4|n=>n,fun|n=>n⟩
theorem Tryz.laysNm215:Go.Proofs.Lays2.n15 Tryz.prog Tryz.laysNm215_ren:={
 mixed:=by kernel_rfl
 f15:=Tryz.func129.trans (congrArg some (by kernel_rfl))
 t3:=Tryz.underlying3
 a3:=Tryz.isAgg3
 z3:=Tryz.sizeOf3
 v3:=Tryz.zeroValue3
 t4:=Tryz.underlying4
 a4:=Tryz.isAgg4
 z4:=Tryz.sizeOf4
 v4:=Tryz.zeroValue4
 t22:=Tryz.underlying37
 a22:=Tryz.isAgg37
 z22:=Tryz.sizeOf37
 v22:=Tryz.zeroValue37
 i3:=by kernel_rfl }
open Go.RowKit Go.Lib in
theorem Tryz.slices_Clone_int (b off n c:Nat) (zs:List Int) (w:World) (hz:n≤zs.length) (hbig:n*8≤140737488355328) (hc:∀ j,j<zs.length->w.cell? ⟨b,off+j,none⟩=some (.int .i64 (zs.getD j 0))) :
  Calls Tryz.prog 129 #[.slice (some ⟨b,off,none⟩) n c] w fun e w'=>∃ v',e=.returned v'∧w'.ownsRow w.heap.size 3 1 v' n ((zs.take n).map (Value.int .i64))∧v'≠.slice none 0 0∧Below w.heap.size w w':=Any.slices_Clone_int Tryz.laysNm215 b off n c zs w hz hbig hc
open Go.RowKit Go.Lib in
theorem Tryz.slices_Clone_int_nil (n c:Nat) (w:World) :
  Calls Tryz.prog 129 #[.slice none n c] w fun e w'=>e=.returned (.slice none 0 0)∧w'=w:=Any.slices_Clone_int_nil Tryz.laysNm215 n c w
open Go.RowKit Go.Lib in
theorem Tryz.slices_Clone_int_zero (a:Addr) (c:Nat) (w:World) :
  Calls Tryz.prog 129 #[.slice (some a) 0 c] w fun e w'=>∃ v',e=.returned v'∧w'.ownsRow w.heap.size 3 1 v' 0 []∧v'≠.slice none 0 0∧Below w.heap.size w w':=Any.slices_Clone_int_zero Tryz.laysNm215 a c w
def Tryz.laysNm220_ren:Go.Shelf.Ren:=⟨fun|20=>154|n=>n,fun|22=>37|3=>3|4=>4|0=>0|n=>n,fun|n=>n⟩
theorem Tryz.laysNm220:Go.Proofs.Lays2.n20 Tryz.prog Tryz.laysNm220_ren:={
 mixed:=by kernel_rfl
 f20:=Tryz.func154.trans (congrArg some (by kernel_rfl))
 t0:=Tryz.underlying0
 a0:=Tryz.isAgg0
 z0:=Tryz.sizeOf0
 v0:=Tryz.zeroValue0
 t3:=Tryz.underlying3
 a3:=Tryz.isAgg3
 z3:=Tryz.sizeOf3
 v3:=Tryz.zeroValue3
 t4:=Tryz.underlying4
 a4:=Tryz.isAgg4
 z4:=Tryz.sizeOf4
 v4:=Tryz.zeroValue4
 t22:=Tryz.underlying37
 a22:=Tryz.isAgg37
 z22:=Tryz.sizeOf37
 v22:=Tryz.zeroValue37
 i3:=by kernel_rfl }
open Go.RowKit Go.Lib Go.Sort in
theorem Tryz.slices_Compact_int (blk off cap:Nat) (zs:List Int) (w:World) (hH:Holds (Value.int .i64) w blk off zs.toArray) (hsz:zs.length≤9223372036854775807) (hcap:zs.length≤cap) :
  Calls Tryz.prog 154 #[.slice (some ⟨blk,off,none⟩) zs.length cap] w fun e w'=>e=.returned (.slice (some ⟨blk,off,none⟩) (Lib.compact zs).length cap)∧∃ q,w'=putRow (Value.int .i64) (Sort.ahead w q) blk off (Lib.compact zs ++ List.replicate (zs.length-(Lib.compact zs).length) 0).toArray:=Any.slices_Compact_int Tryz.laysNm220 blk off cap zs w hH hsz hcap
open Go.RowKit Go.Lib Go.Sort in
theorem Tryz.slices_Compact_int_empty (a:Option Addr) (cap:Nat) (w:World) :
  Calls Tryz.prog 154 #[.slice a 0 cap] w fun e w'=>e=.returned (.slice a 0 cap)∧w'=w:=Any.slices_Compact_int_empty Tryz.laysNm220 a cap w
def Tryz.laysNm225_ren:Go.Shelf.Ren:=⟨fun|25=>128|31=>158|32=>159|37=>183|n=>n,fun|22=>37|3=>3|4=>4|40=>150|0=>0|n=>n,fun|n=>n⟩
theorem Tryz.laysNm225:Go.Proofs.Lays2.n25 Tryz.prog Tryz.laysNm225_ren:={
 mixed:=by kernel_rfl
 f25:=Tryz.func128.trans (congrArg some (by kernel_rfl))
 f31:=Tryz.func158.trans (congrArg some (by kernel_rfl))
 f32:=Tryz.func159.trans (congrArg some (by kernel_rfl))
 f37:=Tryz.func183.trans (congrArg some (by kernel_rfl))
 t0:=Tryz.underlying0
 a0:=Tryz.isAgg0
 z0:=Tryz.sizeOf0
 v0:=Tryz.zeroValue0
 t3:=Tryz.underlying3
 a3:=Tryz.isAgg3
 z3:=Tryz.sizeOf3
 v3:=Tryz.zeroValue3
 t4:=Tryz.underlying4
 a4:=Tryz.isAgg4
 z4:=Tryz.sizeOf4
 v4:=Tryz.zeroValue4
 t22:=Tryz.underlying37
 a22:=Tryz.isAgg37
 z22:=Tryz.sizeOf37
 v22:=Tryz.zeroValue37
 t40:=Tryz.underlying150
 a40:=Tryz.isAgg150
 z40:=Tryz.sizeOf150
 v40:=Tryz.zeroValue150 }
open Go.RowKit Go.Lib in
theorem Tryz.slices_BinarySearch_int (b off n c:Nat) (zs:List Int) (x:Int) (w:World) (hz:n≤zs.length) (hbig:n<4611686018427387904) (hc:∀ j,j<zs.length->w.cell? ⟨b,off+j,none⟩=some (.int .i64 (zs.getD j 0))) (hs:(zs.take n).Pairwise (·≤·)) :
  Calls Tryz.prog 128 #[.slice (some ⟨b,off,none⟩) n c,.int .i64 x] w fun e w'=>e=.returned (.tuple #[.int .i64 ((zs.take n).countP (·<x):Nat),.bool ((zs.take n).contains x)])∧∃ q,w'=w.drewN q:=Any.slices_BinarySearch_int Tryz.laysNm225 b off n c zs x w hz hbig hc hs
open Go.RowKit Go.Sort in
theorem Tryz.slices_Sort_int_none (p:Option Addr) (cap:Nat) (w:World) :
  Calls Tryz.prog 132 #[.slice p 0 cap] w fun e w'=>e=.returned (.tuple #[])∧w'=w:=Any.slices_Sort_int_none Tryz.lays189 p cap w
open Go.RowKit Go.Lib in
theorem Tryz.slices_BinarySearch_int_empty (a:Option Addr) (c:Nat) (x:Int) (w:World) :
  Calls Tryz.prog 128 #[.slice a 0 c,.int .i64 x] w fun e w'=>e=.returned (.tuple #[.int .i64 0,.bool false])∧w'=w:=Any.slices_BinarySearch_int_empty Tryz.laysNm225 a c x w
open Go.RowKit Go.Lib in
theorem Tryz.slices_Equal_int_lens (a1 a2:Option Addr) (n c m d:Nat) (w:World) (hnm:n≠m) :
  Calls Tryz.prog 89 #[.slice a1 n c,.slice a2 m d] w fun e w'=>e=.returned (.bool false)∧w'=w:=Any.slices_Equal_int_lens Tryz.lays111 a1 a2 n c m d w hnm
end Go.Proofs
namespace Go.Proofs.YthjnojbeimchdaaGreat
open Go.RowKit Kal
theorem Er (w:World):Below w.heap.size w w:=Below.refl _ _
theorem Ea (h:Below w.heap.size w W) (o:Obj):Below w.heap.size w (W.alloc o):=h.alloc h.size o
theorem Ed (h:Below w.heap.size w W):Below w.heap.size w W.drew:=h.drew
theorem Below.drewN (h:Below B w W) (n:Nat):Below B w (W.drewN n):=⟨h.os,h.tape,h.output,h.size,h.block⟩
theorem En (h:Below w.heap.size w W) (n:Nat):Below w.heap.size w (W.drewN n):=Below.drewN h n
theorem Es (h:Below w.heap.size w W) {a:Addr} (ha:w.heap.size≤a.block) (v:Value):Below w.heap.size w (W.setCell a v):=h.setCell ha v
theorem Et (h:Below w.heap.size w W) (h':Below W.heap.size W W'):Below w.heap.size w W':=h.trans (h'.mono h.size)
theorem xE (h:Below B w W:=by (repeat' (with_reducible first|assumption|apply Er|apply Ea|apply Ed|apply En|(refine Es ?_ (by first|(simp;done)|(simp;omega)|omega) _)|refine Et ?_ (by assumption)))):Below B w W:=h
theorem Ext.cell (h:Below w.heap.size w W) {a:Addr} (hc:w.cell? a=some v):W.cell? a=some v:=(h.cell (World.block_lt_of_cell? w _ hc)).trans hc
theorem ag_ {a:Addr} (h:w.cell? a=some v) (o:Obj):(w.alloc o).cell? a=some v:=Ext.cell (Ea (Er w) o) h
theorem bd_ {a b:Addr} (h:w.cell? a=some v) (hne:a.block≠b.block) (u:Value):(w.setCell b u).cell? a=some v:=
 (World.cell?_of_block (Below.heap_setCell w b u a.block hne)).trans h
theorem Below.cell' (h:Below B w w') {b o:Nat} (hc:w.cell? ⟨b,o,none⟩=some v) (hb:b<B):w'.cell? ⟨b,o,none⟩=some v:=(h.cell (p:=⟨b,o,none⟩) hb).trans hc
theorem au_ {w1:World} (hb:Below B W w1):(∀ b o,b<B->w1.cell? ⟨b,o,none⟩=W.cell? ⟨b,o,none⟩)∧(∀ b o,b<B->w1.frozen? ⟨b,o,none⟩=W.frozen? ⟨b,o,none⟩):=
 ⟨fun b o h=>hb.cell (p:=⟨b,o,none⟩) h,fun b o h=>hb.frozen (p:=⟨b,o,none⟩) h⟩
def InI (x:Int):Prop:=-9223372036854775808≤x∧x≤9223372036854775807
theorem f5_ (h:InI x):IntKind.i64.wrap x=x:=IntWalk.i64_in _ ⟨h.1,h.2⟩
structure Ints (w:World) (v:Value) (l:List Int):Prop where
 is:∃ a c,v=.slice a l.length c∧l.length≤c∧c≤9223372036854775807∧(l=[]∨∃ b o,a=some ⟨b,o,none⟩∧∀ i,i<l.length->w.cell? ⟨b,o+i,none⟩=some (.int .i64 (l.getD i 0)))
 len:l.length≤17592186044416
 rng:∀ x∈l,InI x
theorem Ints.ext (h:Ints w v l) (hb:Below w.heap.size w W):Ints W v l:=by
 obtain ⟨⟨a,c,rfl,h1,h2,h3⟩,h4,h5⟩:=h;refine ⟨⟨a,c,rfl,h1,h2,h3.imp id ?_⟩,h4,h5⟩;rintro ⟨b,o,rfl,hc⟩;exact ⟨b,o,rfl,fun i hi=>Ext.cell hb (hc i hi)⟩
theorem Ints.nil (w:World):Ints w (.slice none 0 0) []:=⟨⟨none,0,rfl,sq_,oq_,.inl rfl⟩,sq_,sq_⟩
structure a8_ (w:World) (h c:Value) (p:Per):Prop where
 hd:Ints w h p.head
 cy:Ints w c p.cycle
theorem a8_.ext {c:Value} {p:Per} (hp:a8_ w h c p) (hb:Below w.heap.size w W):a8_ W h c p:=⟨hp.hd.ext hb,hp.cy.ext hb⟩
theorem d2_ {k:IntKind} {b:Int} (h:a=b):Ending.returned (.int k a)=.returned (.int k b):=by rw [h]
theorem ac_ {a:Bool} (h:a=b):Ending.returned (.bool a)=.returned (.bool b):=by rw [h]
theorem lp_ {α:Type} [DecidableEq α] (l:List α):((l.length:Int) == 0)=decide (l=[]):=by
 cases l with
 | nil=>rfl
 | cons a l=>simp;omega
theorem or_ (n m:Int) (hm:1≤m):(n.tmod m<0->n.tmod m+m=n % m)∧(0≤n.tmod m->n.tmod m=n % m)∧-m<n.tmod m∧n.tmod m<m:=by
 have h0:=Int.emod_nonneg n (show m≠0 by omega);have h1:=Int.emod_lt_of_pos n (show 0<m by omega);rw [Int.tmod_eq_emod]
 split
 ·omega
 ·rw [show (m.natAbs:Int)=m from by omega];rename_i h;have h2:n % m≠0:=fun h3=>h (.inr (Int.dvd_of_emod_eq_zero h3));omega
theorem drop_cons (h:k<l.length):l.drop k=l.getD k 0 :: l.drop (k+1):=by
 rw [List.drop_eq_getElem_cons h];simp [h]
theorem hp_ {P:Program} {f:FuncId} {args:Array Value} {n:Nat}
  (h:Calls P f args (w.drewN n) fun e w'=>e=.returned v∧w.drewN n=w'):Calls P f args (w.drewN n) fun e w''=>e=.returned v∧∃ m,w''=w.drewN m:=
 h.mono fun _ _ ⟨he,hm⟩=>⟨he,n,hm.symm⟩
theorem d9_ {P:Program} {f:FuncId} {args:Array Value} {a n:Nat}
  (h:Calls P f args (w.drewN (a+n)) fun e w'=>e=.returned v∧∃ m,w'=(w.drewN (a+n)).drewN m) :
  Calls P f args (w.drewN (a+n)) fun e w''=>e=.returned v∧∃ m,w''=w.drewN (a+m):=
 h.mono fun _ _ ⟨he,m,hm⟩=>⟨he,n+m,by rw [hm,World.drewN_drewN,Nat.add_assoc]⟩
theorem ez_ {P:Program} {f:FuncId} {args:Array Value} {a n:Nat}
  (h:Calls P f args (w.drewN (a+n)) fun e w'=>e=.returned v∧w.drewN (a+n)=w') :
  Calls P f args (w.drewN (a+n)) fun e w''=>e=.returned v∧∃ m,w''=w.drewN (a+m):=
 h.mono fun _ _ ⟨he,hm⟩=>⟨he,n,hm.symm⟩
theorem p4_ (n m:Int) (w:World) (hm:1≤m) (hm2:m≤4611686018427387904) :
  Calls Tryz.prog 167 #[.int .i64 n,.int .i64 m] w fun e w'=>e=.returned (.int .i64 (n % m))∧w=w':=by
 obtain ⟨h1,h2,h3,h4⟩:=or_ n m hm;have H1:=hq_ h1;have H2:=hq_ h2;clear h1 h2
 go_enter Tryz.func167,Tryz.ntmps167
 go_wp2
 ·go_ret;exact ⟨d2_ (H1.out (by assumption)),rfl⟩
 ·go_ret;exact ⟨d2_ (H2.out (by assumption)),rfl⟩
def b7_:Int->Int->List Int->Bool
 | _,_,[]=>true
 | last,lim,n :: l=>if n≤last∨lim≤n then false else b7_ n lim l
theorem p3_ (last lim:Int) (l:List Int):b7_ last lim l=true↔Rise (last+1) lim l:=by
 induction l generalizing last with
 | nil=>simp [b7_,Rise.nil]
 | cons n l ih=>
  rw [b7_]
  split
  ·rename_i h;simp only [Bool.false_eq_true,false_iff];intro hr;have:=hr.2 n sq_;omega
  ·rename_i h;rw [ih];constructor
   ·intro hr;refine ⟨List.pairwise_cons.2 ⟨fun x hx=>by have:=hr.2 x hx;omega,hr.1⟩,fun x hx=>?_⟩;rcases List.mem_cons.1 hx with rfl|hx
    ·omega
    ·have:=hr.2 x hx;omega
   ·intro hr;have hp:=List.pairwise_cons.1 hr.1;exact ⟨hp.2,fun x hx=>⟨by have:=hp.1 x hx;omega,(hr.2 x (List.mem_cons_of_mem _ hx)).2⟩⟩
theorem kt_ (v:Value) (l:List Int) (lim:Int) (w:World) (hv:Ints w v l) :
  Calls Tryz.prog 106 #[v,.int .i64 lim] w fun e w'=>e=.returned (.bool (b7_ (-1) lim l))∧w=w':=by
 obtain ⟨⟨a,c,rfl,hlc,hc,hcells⟩,hlen,hb⟩:=hv
 go_enter Tryz.func106,Tryz.ntmps106
 go_wp2
 go_loop [5,7,10] (fun last n i=>∃ k:Nat,k≤l.length∧i=.int .i64 k∧∃ x y:Int,last=.int .i64 x∧b7_ (-1) lim l=b7_ x lim (l.drop k)∧True) (fun _ _ i=>l.length-(intOf i).toNat)
 case atStart=>exact ⟨0,oq_,rfl,-1,0,rfl,sq_,trivial⟩
 case round=>
  obtain ⟨k,hk,rfl,x,y,rfl,hr,_⟩:=hrel;have HR:=hq_ hr;clear hr
  by_cases hlt:k<l.length
  ·rcases hcells with h|⟨b,o,rfl,hcell⟩
   ·subst h;simp at hlt
   have hc1:=hcell k hlt;have hd:=hq_ (drop_cons hlt);have hm:=hb (l.getD k 0) (by simp [hlt]);unfold InI at hm;generalize l.getD k 0=z at *;clear hcell hb
   by_cases hz:z≤x∨lim≤z
   ·have hf:b7_ (-1) lim l=false:=by rw [HR.out,hd.out,b7_,if_pos hz]
    have HF:=hq_ hf;clear hf
    go_wp2
    all_goals (go_ret;exact ⟨ac_ HF.out.symm,rfl⟩)
   ·have hf:b7_ (-1) lim l=b7_ z lim (l.drop (k+1)):=by rw [HR.out,hd.out,b7_,if_neg hz]
    have HF:=hq_ hf;clear hf;have hz':x<z∧z<lim:=oq_;clear hz
    go_wp2
    go_round
    case rel=>exact ⟨k+1,oq_,by go_num,z,0,rfl,HF.out,trivial⟩
    case measure=>simp [intOf];omega
  ·go_wp2
   go_ret;exact ⟨ac_ (by rw [HR.out,List.drop_eq_nil_of_le oq_];rfl),rfl⟩
def validB (p:Per):Bool:=decide (0≤p.frm) && decide (p.frm≤1099511627776) && decide (1≤p.period) && decide (p.period≤1099511627776) && decide ((p.head.length+p.cycle.length:Int)≤1048576) && b7_ (-1) p.frm p.head && b7_ (-1) p.period p.cycle
structure Valid (p:Per):Prop where
 wf:p.WF
 frm:p.frm≤1099511627776
 per:p.period≤1099511627776
 len:p.head.length+p.cycle.length≤1048576
theorem as_ (p:Per):validB p=true↔Valid p:=by
 unfold validB;simp only [Bool.and_eq_true,decide_eq_true_eq,p3_];constructor
 ·rintro ⟨⟨⟨⟨⟨⟨h1,h2⟩,h3⟩,h4⟩,h5⟩,h6⟩,h7⟩;exact ⟨⟨h1,h3,h6,h7⟩,h2,h4,oq_⟩
 ·rintro ⟨⟨h1,h3,h6,h7⟩,h2,h4,h5⟩;exact ⟨⟨⟨⟨⟨⟨h1,h2⟩,h3⟩,h4⟩,oq_⟩,h6⟩,h7⟩
theorem cd_ (h c:Value) (p:Per) (w:World) (hp:a8_ w h c p) :
  Calls Tryz.prog 65 #[.agg #[h,.int .i64 p.frm,.int .i64 p.period,c]] w fun e w'=>e=.returned (.bool (validB p))∧Below w.heap.size w w':=by
 have hh':=fun o=>(hp.hd.ext (Ea (Er w) o));have hc':=fun o=>(hp.cy.ext (Ea (Er w) o));obtain ⟨⟨⟨ha,hcap,rfl,hh1,hh2,hh3⟩,hh4,_⟩,⟨ca,ccap,rfl,hc1,hc2,hc3⟩,hc4,_⟩:=hp;obtain ⟨head,frm,period,cycle⟩:=p;dsimp only at *;clear hh3 hc3
 go_enter Tryz.func65,Tryz.ntmps65
 go_wp2_with (go_at_call 106;first|((with_reducible refine (kt_ _ head _ _ (hh' _)).mono ?_);rintro e w' ⟨rfl,rfl⟩)|((with_reducible refine (kt_ _ cycle _ _ (hc' _)).mono ?_);rintro e w' ⟨rfl,rfl⟩))
 all_goals (go_ret;refine ⟨ac_ ?_,(Below.refl _ _).alloc (Nat.le_refl _) _⟩;simp [validB, *])
 all_goals omega
theorem c9_ (v:Value) (l:List Int) (x:Int) (w:World) (hv:Ints w v l) (hs:l.Pairwise (· < ·)) :
  Calls Tryz.prog 128 #[v,.int .i64 x] w fun e w'=>e=.returned (.tuple #[.int .i64 ((l.countP (fun y=>decide (y<x)):Nat):Int),.bool (decide (x∈l))])∧∃ n,w'=w.drewN n:=by
 obtain ⟨⟨a,c,rfl,h1,h2,h3⟩,h4,h5⟩:=hv;rcases h3 with h3|⟨b,o,rfl,hcell⟩
 ·subst h3;exact (Tryz.slices_BinarySearch_int_empty a c x w).mono fun e w' ⟨he,hw⟩=>⟨by rw [he];simp,0,hw⟩
 ·have:=Tryz.slices_BinarySearch_int b o l.length c l x w (Nat.le_refl _) oq_ hcell (by rw [List.take_length];exact hs.imp fun h=>oq_);rw [List.take_length] at this;exact this.mono fun e w' ⟨he,hw⟩=>⟨by rw [he];simp,hw⟩
abbrev perV (h c:Value) (f p:Int):Value:=.agg #[h,.int .i64 f,.int .i64 p,c]
def memB (p:Per) (n:Int):Bool:=if n<p.frm then decide (n∈p.head) else decide ((n-p.frm) % p.period∈p.cycle)
theorem gh_ {p:Per} (hn:0≤n):memB p n=true↔p.mem n:=by
 unfold memB Per.mem
 split <;> simp [*]
theorem ds_ (h c:Value) (p:Per) (n:Int) (w:World) (hp:a8_ w h c p) (hw:p.WF) (h1:p.frm≤1125899906842624) (h2:p.period≤1125899906842624) (hn:0≤n) (hn2:n≤9007199254740992) :
  Calls Tryz.prog 86 #[.agg #[h,.int .i64 p.frm,.int .i64 p.period,c],.int .i64 n] w fun e w'=>e=.returned (.bool (memB p n))∧Below w.heap.size w w':=by
 have f0:=hw.frm;have p0:=hw.per;have hs1:=hw.head.1;have hs2:=hw.cyc.1;have hl:∀ W,Below w.heap.size w W->Ints W h p.head:=fun W hb=>hp.hd.ext hb;have hc:∀ W,Below w.heap.size w W->Ints W c p.cycle:=fun W hb=>hp.cy.ext hb;obtain ⟨head,frm,period,cycle⟩:=p;dsimp only at *;clear hp
 by_cases hlt:n<frm
 ·have hm:memB ⟨head,frm,period,cycle⟩ n=decide (n∈head):=by unfold memB;rw [if_pos hlt]
  have HM:=hq_ hm;clear hm
  go_enter Tryz.func86,Tryz.ntmps86
  go_wp2_with (go_at_call 128;(refine (c9_ _ head _ _ (hl _ xE) hs1).mono ?_);rintro e w' ⟨rfl,nq,rfl⟩)
  go_ret;exact ⟨ac_ HM.out.symm,xE⟩
 ·have hm:memB ⟨head,frm,period,cycle⟩ n=decide ((n-frm) % period∈cycle):=by unfold memB;rw [if_neg hlt]
  have HM:=hq_ hm;clear hm;have hge:frm≤n:=oq_;clear hlt
  go_enter Tryz.func86,Tryz.ntmps86
  go_wp2_with fail
  go_quiet (fail)
  go_wp2_with (go_at_call 128;(refine (c9_ _ cycle _ _ (hc _ xE) hs2).mono ?_);rintro e w' ⟨rfl,nq,rfl⟩)
  go_ret;exact ⟨ac_ HM.out.symm,xE⟩
theorem prod_bound {q k:Int} (hq:1≤q) (h0:0≤n-f) (hk0:0≤k) (hk:k≤q):0≤(n-f) / q*k∧(n-f) / q*k≤n-f:=by
 have h1:0≤(n-f) / q:=Int.ediv_nonneg h0 oq_;have h2:=Int.mul_nonneg h1 hk0;have h3:(n-f) / q*k≤(n-f) / q*q:=Int.mul_le_mul_of_nonneg_left hk h1;have h4:=Int.emod_add_ediv_mul (n-f) q;have h5:=Int.emod_nonneg (n-f) (show q≠0 by omega);omega
theorem iu_ (h c:Value) (p:Per) (n:Int) (w:World) (hp:a8_ w h c p) (hw:p.WF) (h1:p.frm≤1125899906842624) (h2:p.period≤1125899906842624) (hn:0≤n) (hn2:n≤9007199254740992) :
  Calls Tryz.prog 85 #[.agg #[h,.int .i64 p.frm,.int .i64 p.period,c],.int .i64 n] w fun e w'=>e=.returned (.int .i64 (ay_ p n))∧Below w.heap.size w w':=by
 have f0:=hw.frm;have p0:=hw.per;have hs1:=hw.head.1;have hs2:=hw.cyc.1;have hlc:=hw.cyc.length_le oq_;have hl:∀ W,Below w.heap.size w W->Ints W h p.head:=fun W hb=>hp.hd.ext hb;have hc:∀ W,Below w.heap.size w W->Ints W c p.cycle:=fun W hb=>hp.cy.ext hb
 by_cases hlt:n≤p.frm
 ·have HM:=hq_ (show ay_ p n=_ by unfold ay_;rw [if_pos hlt]);clear hp
  go_enter Tryz.func85,Tryz.ntmps85
  go_wp2_with (go_at_call 128;(refine (c9_ _ p.head _ _ (hl _ xE) hs1).mono ?_);rintro e w' ⟨rfl,nq,rfl⟩)
  go_ret;exact ⟨d2_ HM.out.symm,xE⟩
 ·have HM:=hq_ (show ay_ p n=_ by unfold ay_;rw [if_neg hlt]);have hge:p.frm<n:=oq_;obtain ⟨hb1,hb2⟩:=prod_bound (n:=n) (f:=p.frm) (k:=p.cycle.length) p0 oq_ oq_ oq_;have hk2:=Int.ofNat_le.2 (List.countP_le_length (p:=fun y=>decide (y<(n-p.frm) % p.period)) (l:=p.cycle));have hl1:=hp.hd.len;have hl2:=hp.cy.len;obtain ⟨⟨⟨ha,hcap,rfl,_,_,_⟩,_,_⟩,⟨ca,ccap,rfl,_,_,_⟩,_,_⟩:=hp;clear hlt
  go_enter Tryz.func85,Tryz.ntmps85
  go_wp2_with fail
  go_quiet ((go_at_call 128;exact Calls.quiet_of (c9_ _ p.cycle _ _ (hc _ xE) hs2)))
  go_wp2_with fail
  go_quiet (fail)
  go_wp2_with fail
  go_ret;refine ⟨d2_ ?_,xE⟩;rw [HM.out]
theorem qp_ (h c:Value) (p:Per) (n:Int) (w:World) (hp:a8_ w h c p) (hw:p.WF) (h1:p.frm≤1125899906842624) (h2:p.period≤1125899906842624) (hn:0≤n) (hn2:n≤9223372036854775807) :
  Calls Tryz.prog 86 #[.agg #[h,.int .i64 p.frm,.int .i64 p.period,c],.int .i64 n] w fun e w'=>e=.returned (.bool (memB p n))∧Below w.heap.size w w':=by
 have f0:=hw.frm;have p0:=hw.per;have hs1:=hw.head.1;have hs2:=hw.cyc.1;have hl:∀ W,Below w.heap.size w W->Ints W h p.head:=fun W hb=>hp.hd.ext hb;have hc:∀ W,Below w.heap.size w W->Ints W c p.cycle:=fun W hb=>hp.cy.ext hb;obtain ⟨head,frm,period,cycle⟩:=p;dsimp only at *;clear hp
 by_cases hlt:n<frm
 ·have hm:memB ⟨head,frm,period,cycle⟩ n=decide (n∈head):=by unfold memB;rw [if_pos hlt]
  have HM:=hq_ hm;clear hm
  go_enter Tryz.func86,Tryz.ntmps86
  go_wp2_with (go_at_call 128;(refine (c9_ _ head _ _ (hl _ xE) hs1).mono ?_);rintro e w' ⟨rfl,nq,rfl⟩)
  go_ret;exact ⟨ac_ HM.out.symm,xE⟩
 ·have hm:memB ⟨head,frm,period,cycle⟩ n=decide ((n-frm) % period∈cycle):=by unfold memB;rw [if_neg hlt]
  have HM:=hq_ hm;clear hm;have hge:frm≤n:=oq_;clear hlt
  go_enter Tryz.func86,Tryz.ntmps86
  go_wp2_with fail
  go_quiet (fail)
  go_wp2_with (go_at_call 128;(refine (c9_ _ cycle _ _ (hc _ xE) hs2).mono ?_);rintro e w' ⟨rfl,nq,rfl⟩)
  go_ret;exact ⟨ac_ HM.out.symm,xE⟩
theorem vx_ (h c:Value) (p:Per) (n:Int) (w:World) (hp:a8_ w h c p) (hn:InI n) :
  Calls Tryz.prog 43 #[.agg #[h,.int .i64 p.frm,.int .i64 p.period,c],.int .i64 n] w fun e w'=>e=.returned (.bool (validB p && decide (0≤n) && memB p n))∧Below w.heap.size w w':=by
 have hl:∀ W,Below w.heap.size w W->a8_ W h c p:=fun W hb=>hp.ext hb;clear hp;unfold InI at hn
 by_cases hv:validB p=true
 ·have hV:=(as_ p).1 hv;have HV:=hq_ hV;clear hV
  by_cases h0:0≤n
  ·skip
   go_enter Tryz.func43,Tryz.ntmps43
   go_wp2_with (first|(go_at_call 65;refine (cd_ h c p _ (hl _ xE)).mono ?_;rintro e w1 ⟨rfl,hb1⟩;obtain ⟨hc1,hf1⟩:=au_ hb1)|(go_at_call 86;refine (qp_ h c p n _ (hl _ xE) HV.out.wf (by have:=HV.out.frm;omega) (by have:=HV.out.per;omega) h0 oq_).mono ?_;rintro e w2 ⟨rfl,hb2⟩))
   go_ret;exact ⟨ac_ (by simp [hv,h0]),xE⟩
  ·have h0':decide (0≤n)=false:=by simpa using h0
   go_enter Tryz.func43,Tryz.ntmps43
   go_wp2_with (go_at_call 65;refine (cd_ h c p _ (hl _ xE)).mono ?_;rintro e w1 ⟨rfl,hb1⟩;obtain ⟨hc1,hf1⟩:=au_ hb1)
   go_ret;exact ⟨ac_ (by simp [h0']),xE⟩
 ·have hv':validB p=false:=by simpa using hv
  clear hv
  go_enter Tryz.func43,Tryz.ntmps43
  go_wp2_with (go_at_call 65;refine (cd_ h c p _ (hl _ xE)).mono ?_;rintro e w1 ⟨rfl,hb1⟩;obtain ⟨hc1,hf1⟩:=au_ hb1)
  go_ret;exact ⟨ac_ (by simp [hv']),xE⟩
theorem ud_ (h c:Value) (p:Per) (a b:Int) (w:World) (hp:a8_ w h c p) (hv:Valid p) (h0:0≤a) (hab:a≤b) (hb:b≤1099511627776) :
  Calls Tryz.prog 42 #[.agg #[h,.int .i64 p.frm,.int .i64 p.period,c],.int .i64 a,.int .i64 b] w fun e w'=>e=.returned (.tuple #[.int .i64 (ay_ p b-ay_ p a),.int .i64 0])∧Below w.heap.size w w':=by
 have hl:∀ W,Below w.heap.size w W->a8_ W h c p:=fun W hb=>hp.ext hb;have hvb:=(as_ p).2 hv;have HV:=hq_ hv;have HF:Hid (p.frm≤1125899906842624):=by have:=hv.frm;exact hq_ oq_
 have HP:Hid (p.period≤1125899906842624):=by have:=hv.per;exact hq_ oq_
 clear hv hp;have ba:=es_ HV.out.wf h0;have bb:=es_ HV.out.wf (show 0≤b by omega);have hba:InI (ay_ p a):=⟨oq_,oq_⟩;have hbb:InI (ay_ p b):=⟨oq_,oq_⟩;have hbs:InI (ay_ p b-ay_ p a):=⟨oq_,oq_⟩;clear ba bb;have HW:=hq_ (f5_ hbs);unfold InI at hba hbb hbs
 go_enter Tryz.func42,Tryz.ntmps42
 go_wp2_with (go_at_call 65;refine (cd_ h c p _ (hl _ xE)).mono ?_;rintro e w1 ⟨rfl,hb1⟩;obtain ⟨hc1,hf1⟩:=au_ hb1)
 have hcA:w1.cell? ⟨w.heap.size,0,none⟩=some h∧w1.cell? ⟨w.heap.size,1,none⟩=some (.int .i64 p.frm)∧w1.cell? ⟨w.heap.size,2,none⟩=some (.int .i64 p.period)∧w1.cell? ⟨w.heap.size,3,none⟩=some c:=by
  refine ⟨?_,?_,?_,?_⟩ <;> (rw [hc1 _ _ sq_];simp)
 clear hc1 hf1;go_region_held3 (fun w'=>w'.cell? ⟨w.heap.size,0,none⟩=some h∧w'.cell? ⟨w.heap.size,1,none⟩=some (.int .i64 p.frm)∧w'.cell? ⟨w.heap.size,2,none⟩=some (.int .i64 p.period)∧w'.cell? ⟨w.heap.size,3,none⟩=some c) (first|go_keep|(go_split_ands;repeat' (first|exact Ext.cell (by assumption) (by assumption)|assumption|refine ag_ ?_ _|refine bd_ ?_ (by first|(simp;done)|(simp;omega)|omega) _|exact Below.cell' (by assumption) (by assumption) (by first|(simp;done)|(simp;omega)|omega)|apply And.intro)))
  ((go_at_call 85;refine (iu_ h c p _ _ (hl _ xE) HV.out.wf HF.out HP.out oq_ oq_).mono ?_;rintro e w2 ⟨rfl,hb2⟩))
 go_wp2
 go_ret2;exact ⟨by simp [HW.out],xE⟩
theorem km_ (h c:Value) (p:Per) (w:World) (hp:a8_ w h c p) :
  Calls Tryz.prog 140 #[.agg #[h,.int .i64 p.frm,.int .i64 p.period,c]] w fun e w'=>e=.returned (.bool (validB p && decide (p.cycle=[])))∧Below w.heap.size w w':=by
 have hl:∀ W,Below w.heap.size w W->a8_ W h c p:=fun W hb=>hp.ext hb;obtain ⟨_,⟨ca,ccap,rfl,_,_,_⟩,_,_⟩:=hp
 go_enter Tryz.func140,Tryz.ntmps140
 go_wp2_with (go_at_call 65;refine (cd_ _ _ p _ (hl _ xE)).mono ?_;rintro e w1 ⟨rfl,hb1⟩;obtain ⟨hc1,hf1⟩:=au_ hb1)
 all_goals (go_ret;refine ⟨ac_ ?_,xE⟩;simp [lp_, *])
def fe_ (p:Per):Bool:=validB p && decide (p.cycle=[]) && decide (p.head=[])
theorem sf_ (h c:Value) (p:Per) (w:World) (hp:a8_ w h c p) :
  Calls Tryz.prog 98 #[.agg #[h,.int .i64 p.frm,.int .i64 p.period,c]] w fun e w'=>e=.returned (.bool (fe_ p))∧Below w.heap.size w w':=by
 have hl:∀ W,Below w.heap.size w W->a8_ W h c p:=fun W hb=>hp.ext hb;obtain ⟨⟨ha,hcap,rfl,_,_,_⟩,_,_⟩:=hp.hd;clear hp;cases hv:(validB p && decide (p.cycle=[])) with
 | true=>
  go_enter Tryz.func98,Tryz.ntmps98
  go_wp2_with (go_at_call 140;refine (km_ _ _ p _ (hl _ xE)).mono ?_;rintro e w1 ⟨he,hb1⟩;rw [hv] at he;subst he;obtain ⟨hc1,hf1⟩:=au_ hb1)
  all_goals (go_ret;refine ⟨ac_ ?_,xE⟩;rw [fe_,hv];simp [lp_])
 | false=>
  go_enter Tryz.func98,Tryz.ntmps98
  go_wp2_with (go_at_call 140;refine (km_ _ _ p _ (hl _ xE)).mono ?_;rintro e w1 ⟨he,hb1⟩;rw [hv] at he;subst he;obtain ⟨hc1,hf1⟩:=au_ hb1)
  all_goals (go_ret;refine ⟨ac_ ?_,xE⟩;rw [fe_,hv];simp [lp_])
theorem iz_ (n m:Int) (w:World) (hm:1≤m) (hm2:m≤4611686018427387904) :
  Calls Tryz.prog 198 #[.int .i64 n,.int .i64 m] w fun e w'=>e=.returned (.int .i64 (n % m))∧w=w':=by
 obtain ⟨h1,h2,h3,h4⟩:=or_ n m hm;have H1:=hq_ h1;have H2:=hq_ h2;clear h1 h2
 go_enter Tryz.func198,Tryz.ntmps198
 go_wp2
 ·go_ret;exact ⟨d2_ (H1.out (by assumption)),rfl⟩
 ·go_ret;exact ⟨d2_ (H2.out (by assumption)),rfl⟩
theorem ml_ (n:Int) (w:World) (h0:0≤n) (h1:n≤9223372036854775807) :
  Calls Tryz.prog 122 #[.int .i64 n] w fun e w'=>e=.returned (.int .u64 n)∧w=w':=by
 go_enter Tryz.func122,Tryz.ntmps122
 go_wp2
 go_ret;exact ⟨sq_,rfl⟩
theorem g6_ (a b:Int) (w:World) (ha:1≤a) (ha1:a≤9223372036854775807) (hb:1≤b) (hb1:b≤9223372036854775807) :
  Calls Tryz.prog 77 #[.int .i64 a,.int .i64 b] w fun e w'=>e=.returned (.int .i64 (Int.gcd a b:Nat))∧∃ n,w'=w.drewN n:=by
 have hg:=bn_ (b:=b) ha;have hg2:=cs_ (a:=a) hb;generalize hgd:((Int.gcd a b:Nat):Int)=g at *;have HG:=hq_ hgd;clear hgd
 go_enter Tryz.func77,Tryz.ntmps77
 go_wp2_with (go_at_call 122;refine (ml_ _ _ oq_ oq_).mono ?_;rintro e w' ⟨rfl,rfl⟩)
 go_loopw [5,6] (fun vx vy wr=>∃ x y:Int,vx=.int .u64 x∧vy=.int .u64 y∧0≤x∧x≤9223372036854775807∧0≤y∧y≤9223372036854775807∧Int.gcd x y=Int.gcd a b∧∃ n,wr=w.drewN n) (fun _ vy _=>(intOf vy).toNat)
 case atStart=>exact ⟨a,b,rfl,rfl,oq_,ha1,oq_,hb1,rfl,0,rfl⟩
 case round=>
  obtain ⟨x,y,rfl,rfl,hx0,hx1,hy0,hy1,hgxy,n,rfl⟩:=hrel;have HX:=hq_ hgxy;clear hgxy
  by_cases hz:y=0
  ·subst hz;have hxg:x=g:=by have:=gcd_zero hx0;rw [HX.out,HG.out] at this;exact this.symm
   have HXG:=hq_ hxg;clear hxg;have hxb:¬ 9223372036854775807<x:=oq_;go_wp2_with fail
   go_ret;exact ⟨d2_ HXG.out,n,rfl⟩
  ·have hs:=gj_ hx0 (show 0<y by omega);rw [HX.out] at hs;have HS:=hq_ hs;clear hs;have hm0:=Int.emod_nonneg x (show y≠0 by omega);have hm1:=Int.emod_lt_of_pos x (show 0<y by omega);have hzb:(y != 0)=true:=by rw [bne_iff_ne];omega
   have hypos:0<y:=oq_;clear hz;go_wp2_with fail
   go_quiet (fail)
   go_wp2_with fail
   go_roundw
   case rel=>exact ⟨y,x % y,rfl,rfl,hy0,hy1,hm0,oq_,HS.out,_,World.drewN_drewN _ _ _⟩
   case measure=>simp [intOf];omega
theorem jd_ (a m:Int) (w:World) (ha:0≤a) (ham:a<m) (hm:m≤1152921504606846976) (hg:Int.gcd a m=1) :
  Calls Tryz.prog 200 #[.int .i64 a,.int .i64 m] w fun e w'=>e=.returned (.int .i64 (invI a m))∧∃ n,w'=w.drewN n:=by
 have HG:=hq_ hg;clear hg
 go_enter Tryz.func200,Tryz.ntmps200
 go_wp2_with fail
 go_loopw [5,6,7,8] (fun vx vy vs vt wr=>∃ x y s t:Int,vx=.int .i64 x∧vy=.int .i64 y∧vs=.int .i64 s∧vt=.int .i64 t∧EE a m x y s t∧∃ n,wr=w.drewN n) (fun _ vy _ _ _=>(intOf vy).toNat)
 case atStart=>exact ⟨a,m,1,0,rfl,rfl,rfl,rfl,EE.start ha ham,0,rfl⟩
 case round=>
  obtain ⟨x,y,s,t,rfl,rfl,rfl,rfl,hE,n,rfl⟩:=hrel;have hx0:=hE.x0;have hy0:=hE.y0;have hxm:=hE.xm;have hym:=hE.ym;obtain ⟨hs1,hs2⟩:=hE.sb;obtain ⟨ht1,ht2⟩:=hE.tb
  by_cases hz:y=0
  ·subst hz;have HI:=hq_ (w9_ (ja_ hE HG.out oq_));go_wp2_with (go_at_call 198;refine (iz_ _ _ _ oq_ oq_).mono ?_;rintro e w' ⟨rfl,rfl⟩)
   go_ret;exact ⟨d2_ HI.out.symm,n,rfl⟩
  ·have hypos:0<y:=oq_;obtain ⟨hE2,⟨h1,h2⟩,h3,h4,h5,h6,h7,h8⟩:=hE.step hypos;have hs3:=hE2.tb;have hzb:(y != 0)=true:=by rw [bne_iff_ne];omega
   have H7:=hq_ h7;clear hz h7;go_wp2_with fail
   repeat (go_quiet (fail);go_wp2_with fail)
   go_roundw
   case rel=>exact ⟨y,x-x / y*y,t,s-x / y*t,rfl,rfl,rfl,rfl,hE2,_,rfl⟩
   case measure=>have:=H7.out;simp [intOf];omega
theorem jm_ (lo y:Int) (w:World) (h0:0≤lo) (h1:lo≤18446744073709551615) (hy:1≤y) (hy1:y≤18446744073709551615) :
  Calls Tryz.prog 177 #[.int .u64 0,.int .u64 lo,.int .u64 y] w fun e w'=>e=.returned (.tuple #[.int .u64 (lo / y),.int .u64 (lo % y)])∧∃ n,w'=w.drewN n:=by
 have hyb:(y == 0)=false:=by rw [beq_eq_false_iff_ne];omega
 have hypos:0<y:=oq_;have hq0:0≤lo / y:=Int.ediv_nonneg h0 oq_;have hq1:lo / y≤lo:=Int.ediv_le_self _ h0
 go_enter Tryz.func177,Tryz.ntmps177
 go_wp2_with fail
 go_quiet (fail)
 go_wp2_with fail
 go_ret2;exact ⟨rfl,_,rfl⟩
end Go.Proofs.YthjnojbeimchdaaGreat
end
