/- Part 1 of the proof of the laws. -/
import Derived.Lib.SlicesCompact
import Derived.Shelf.Small.Bits
import Derived.Shelf.Small.Wraps
import Derived.Shelf.Strconv.Itoa0
import Derived.Shelf.Sort.Plain
import Derived.Shelf.Bits.Mul64
import Derived.Shelf.Slices.Equal
import Derived.Ground.Names2Prog
import Derived.Shelf.Slices.Clone
import Derived.Shelf.Slices.CompactI
import Derived.Shelf.Slices.SearchI
import Derived.Shelf.Slices.Cells
import Derived.Shelf.Slices.In.SortNone
import Derived.Shelf.Slices.Empties
import Derived.Shelf.Slices.Empties2
import Derived.Test.YtbmgmlbmgogeaaaGreatProg
import Derived.WalkKit
import Derived.WalkSpells
import Derived.WalkLawsBesides
import Derived.Lib.Hide
import Derived.Deep.QuietTactic
import Derived.BigQuiet
import Derived.IntWalk
import Derived.Deep.RegionHeld3
import Derived.Deep.DeepFit
set_option linter.unusedVariables false
set_option linter.unusedSimpArgs false
set_option maxRecDepth 100000
set_option maxHeartbeats 4000000
theorem Go.RowKit.Hid.o {p:Prop} (h:Go.RowKit.Hid p):p:=h.out
theorem aa {P:Prop} (h:P:=by omega):P:=h
theorem ag {P:Prop} (h:P:=by simp):P:=h
theorem az {P:Prop} (h:P:=by rfl):P:=h
theorem aF {P:Prop} (h:P:=by decide):P:=h
theorem aO {P:Prop} (h:P:=by (simp;omega)):P:=h
theorem ad {P:Prop} (h:P):Go.RowKit.Hid P:=Go.Lib.hid h
namespace Kal
section
theorem PP:∀ {l m:List Int},l.Pairwise (· < ·)->m.Pairwise (· < ·)->(∀ x,x∈l↔x∈m)->l=m:=by
 intro l;induction l with
 | nil=>
  intro m _ _ h;cases m with
  | nil=>rfl
  | cons b m=>exact absurd ((h b).2 ag) ag
 | cons a l ih=>
  intro m hl hm h;cases m with
  | nil=>exact absurd ((h a).1 ag) ag
  | cons b m=>
   have hl':=List.pairwise_cons.1 hl;have FU:=List.pairwise_cons.1 hm;have hab:a=b:=by
    have h1:=(h a).1 ag;have h2:=(h b).2 ag;rcases List.mem_cons.1 h1 with h1|h1
    .exact h1
    rcases List.mem_cons.1 h2 with h2|h2
    .exact h2.symm
    have:=hl'.1 b h2;have:=FU.1 a h1;omega
   subst hab;have:l=m:=by
    refine ih hl'.2 FU.2 λx=>?_;constructor
    .intro hx;rcases List.mem_cons.1 ((h x).1 (List.mem_cons_of_mem _ hx)) with h1|h1
     .have:=hl'.1 x hx;omega
     exact h1
    intro hx;rcases List.mem_cons.1 ((h x).2 (List.mem_cons_of_mem _ hx)) with h1|h1
    .have:=FU.1 x hx;omega
    exact h1
   rw [this]
def aG (lo hi:Int) (l:List Int):Prop:=l.Pairwise (· < ·)/\∀ x∈l,lo<=x/\x<hi
theorem aG.ext {lo hi lo' hi':Int} {l m:List Int} (hl:aG lo hi l) (hm:aG lo' hi' m) (h:∀ x,x∈l↔x∈m):l=m:=PP hl.1 hm.1 h
theorem aG.nil {lo hi:Int}:aG lo hi []:=⟨.nil,ag⟩
theorem aG.mono {lo hi lo' hi':Int} {l:List Int} (h:aG lo hi l) (h1:lo'<=lo) (h2:hi<=hi'):aG lo' hi' l:=⟨h.1,λx hx=>by have:=h.2 x hx;omega⟩
theorem aG.append {a b c d:Int} {l m:List Int} (hl:aG a b l) (hm:aG c d m) (h:b<=c) (h1:a<=c) (h2:b<=d):aG a d (l ++ m):=by
 refine ⟨List.pairwise_append.2 ⟨hl.1,hm.1,λx hx y hy=>?_⟩,λx hx=>?_⟩
 .have:=hl.2 x hx;have:=hm.2 y hy;omega
 rcases List.mem_append.1 hx with hx|hx
 .have:=hl.2 x hx;omega
 have:=hm.2 x hx;omega
theorem aG.map_add {a b:Int} {l:List Int} (hl:aG a b l) (t:Int):aG (a+t) (b+t) (l.map (·+t)):=by
 refine ⟨List.pairwise_map.2 (hl.1.imp λh=>aa),λx hx=>?_⟩;obtain ⟨y,hy,rfl⟩:=List.mem_map.1 hx;have:=hl.2 y hy;omega
theorem aG.filter {a b:Int} {l:List Int} (hl:aG a b l) (p:Int->Bool):aG a b (l.filter p):=
 ⟨hl.1.filter p,λx hx=>hl.2 x (List.mem_filter.1 hx).1⟩
theorem aG.get_lt {a b:Int} {l:List Int} (hl:aG a b l) {i j:Nat} (gD:i<j) (hj:j<l.length):l[i]' aa<l[j]:=
 List.pairwise_iff_getElem.1 hl.1 i j aa hj gD
theorem aG.get_bounds {a b:Int} {l:List Int} (hl:aG a b l) {i:Nat} (hi:i<l.length):a<=l[i]/\l[i]<b:=hl.2 _ (List.getElem_mem hi)
theorem aG.get_ge {a b:Int} {l:List Int} (hl:aG a b l):∀ {i:Nat} (hi:i<l.length),a+i<=l[i]:=by
 intro i;induction i with
 | zero=>intro hi;have:=hl.get_bounds hi;simpa using this.1
 | succ i ih=>intro hi;have:=ih aa;have:l[i]' aa<l[i+1]:=hl.get_lt (Nat.lt_succ_self i) hi;omega
theorem aG.length_le {a b:Int} {l:List Int} (hl:aG a b l) (hab:a<=b):(l.length:Int)<=b-a:=by
 cases h:l.length with
 | zero=>simp;omega
 | succ n=>
  have:=hl.get_ge (i:=n) aa;have:=hl.get_bounds (i:=n) aa;push_cast;omega
structure Per where
 head:List Int
 frm:Int
 period:Int
 cycle:List Int
structure Per.WF (p:Per):Prop where
 frm:0<=p.frm
 per:1<=p.period
 head:aG 0 p.frm p.head
 cyc:aG 0 p.period p.cycle
def Per.mem (p:Per) (n:Int):Prop:=0<=n/\if n<p.frm then n∈p.head else (n-p.frm) % p.period∈p.cycle
instance (p:Per) (n:Int):Decidable (p.mem n):=by unfold Per.mem;infer_instance
theorem Per.mem_lo {p:Per} {n:Int} (h0:0<=n) (h:n<p.frm):p.mem n↔n∈p.head:=by unfold Per.mem;simp [h,h0]
theorem Per.mem_hi {p:Per} {n:Int} (h0:0<=n) (h:p.frm<=n):p.mem n↔(n-p.frm) % p.period∈p.cycle:=by
 unfold Per.mem;rw [if_neg aa];simp [h0]
def eT (S:Int->Prop) (d:Int):Prop:=∃ N,∀ n,N<=n->(S n↔S (n+d))
def cH (S:Int->Prop) (f d:Int):Prop:=∀ n,f<=n->(S n↔S (n+d))
theorem cH.ev {S:Int->Prop} {f d:Int} (h:cH S f d):eT S d:=⟨f,h⟩
theorem cH.mul {S:Int->Prop} {f d:Int} (h:cH S f d) (hd:0<=d) (k:Nat):cH S f (k*d):=by
 intro n hn;induction k with
 | zero=>simp
 | succ k ih=>
  have h0:0<=(k:Int)*d:=Int.mul_nonneg aa hd;rw [ih,h (n+k*d) aa];rw [show n+(k:Int)*d+d=n+((k+1:Nat):Int)*d from by push_cast;rw [Int.add_mul];omega]
theorem eT.sub {S:Int->Prop} {a b:Int} (ha:eT S a) (hb:eT S b):eT S (a-b):=by
 obtain ⟨N,ha⟩:=ha;obtain ⟨M,hb⟩:=hb;refine ⟨max N (M+b-a)+max 0 (b-a),λn hn=>?_⟩;rw [ha n aa,hb (n+(a-b)) aa,show n+(a-b)+b=n+a from by omega]
theorem eT.mul {S:Int->Prop} {d:Int} (h:eT S d) (hd:0<=d) (k:Nat):eT S (k*d):=by
 obtain ⟨N,h⟩:=h;exact ⟨N,(show cH S N d from h).mul hd k⟩
theorem Nf (T x:Int) (hT:1<=T):∃ k:Nat,x<=(k:Int)*T/\0<=(k:Int)*T:=by
 refine ⟨x.toNat,?_⟩;generalize hq:((x.toNat:Nat):Int)=q;have mh:0<=q:=aa;have:q*1<=q*T:=Int.mul_le_mul_of_nonneg_left hT mh;omega
theorem cH.of_ev {S:Int->Prop} {f T d:Int} (hT:cH S f T) (h1:1<=T) (hd:0<=d) (h:eT S d):cH S f d:=by
 obtain ⟨N,h⟩:=h;intro n hn;obtain ⟨k,hk,hk0⟩:=Nf T (N-n) h1;have e1:=hT.mul aa k n hn;have e2:=hT.mul aa k (n+d) aa;rw [e1,h _ aa,e2,show n+(k:Int)*T+d=n+d+(k:Int)*T from by omega]
structure bP (c:Per) (S:Int->Prop):Prop where
 wf:c.WF
 mem:∀ n,c.mem n↔S n
 minp:∀ d,1<=d->eT S d->c.period<=d
 minf:∀ f,0<=f->cH S f c.period->c.frm<=f
theorem Per.WF.pfrom {p:Per} (h:p.WF):cH p.mem p.frm p.period:=by
 intro n hn;have:=h.frm;have:=h.per;rw [Per.mem_hi aa hn,Per.mem_hi aa aa,show n+p.period-p.frm=n-p.frm+p.period from aa,Int.add_emod_right]
theorem cH.congr {S S':Int->Prop} (h:∀ n,S n↔S' n) {f d:Int}:cH S f d↔cH S' f d:=by
 unfold cH;simp only [h]
theorem eT.congr {S S':Int->Prop} (h:∀ n,S n↔S' n) {d:Int}:eT S d↔eT S' d:=by
 unfold eT;simp only [h]
theorem bP.congr {c:Per} {S S':Int->Prop} (h:bP c S) (hs:∀ n,S n↔S' n):bP c S':=
 ⟨h.wf,λn=>(h.mem n).trans (hs n),λd hd he=>h.minp d hd ((eT.congr hs).2 he),λf hf he=>h.minf f hf ((cH.congr hs).2 he)⟩
theorem bP.pfrom {c:Per} {S:Int->Prop} (h:bP c S):cH S c.frm c.period:=(cH.congr h.mem).1 h.wf.pfrom
theorem Per.ext' {a b:Per} (h1:a.head=b.head) (h2:a.frm=b.frm) (h3:a.period=b.period) (h4:a.cycle=b.cycle):a=b:=by
 cases a;cases b;simp_all
theorem Per.WF.cyc_mem {p:Per} (h:p.WF) (x:Int):x∈p.cycle↔0<=x/\x<p.period/\p.mem (p.frm+x):=by
 have:=h.frm;constructor
 .intro hx;have hb:=h.cyc.2 x hx;refine ⟨hb.1,hb.2,(Per.mem_hi aa aa).2 ?_⟩;rw [show p.frm+x-p.frm=x from aa,Int.emod_eq_of_lt hb.1 hb.2];exact hx
 rintro ⟨h0,h1,hm⟩;rw [Per.mem_hi aa aa,show p.frm+x-p.frm=x from aa,Int.emod_eq_of_lt h0 h1] at hm;exact hm
theorem Per.WF.head_mem {p:Per} (h:p.WF) (x:Int):x∈p.head↔0<=x/\x<p.frm/\p.mem x:=by
 constructor
 .intro hx;have hb:=h.head.2 x hx;exact ⟨hb.1,hb.2,(Per.mem_lo hb.1 hb.2).2 hx⟩
 rintro ⟨h0,h1,hm⟩;exact (Per.mem_lo h0 h1).1 hm
theorem bP.unique {c c':Per} {S:Int->Prop} (h:bP c S) (h':bP c' S):c=c':=by
 have hp:c.period=c'.period:=Int.le_antisymm (h.minp _ h'.wf.per h'.pfrom.ev) (h'.minp _ h.wf.per h.pfrom.ev);have hf:c.frm=c'.frm:=by
  refine Int.le_antisymm (h.minf _ h'.wf.frm ?_) (h'.minf _ h.wf.frm ?_)
  .rw [hp];exact h'.pfrom
  rw [<- hp];exact h.pfrom
 refine Per.ext' (h.wf.head.ext h'.wf.head λx=>?_) hf hp (h.wf.cyc.ext h'.wf.cyc λx=>?_)
 .rw [h.wf.head_mem,h'.wf.head_mem,h.mem,h'.mem,hf]
 rw [h.wf.cyc_mem,h'.wf.cyc_mem,h.mem,h'.mem,hf,hp]
theorem PZ {S:Int->Prop} {d T:Int} (hd:1<=d) (hev:eT S d) (O9:∀ e,1<=e->eT S e->d<=e) (hT:1<=T) (h:eT S T):d∣T:=by
 have h0:0<=T / d:=Int.ediv_nonneg aa aa;have he:eT S (T-(T / d).toNat*d):=h.sub (hev.mul aa _);rw [Int.toNat_of_nonneg h0] at he;have hm:T-T / d*d=T % d:=by have:=Int.emod_add_ediv_mul T d;omega
 rw [hm] at he;have hlt:=Int.emod_lt_of_pos T (show 0<d by omega);have hge:=Int.emod_nonneg T (show d≠0 by omega);by_cases hz:T % d=0
 .exact Int.dvd_of_emod_eq_zero hz
 have:=O9 _ aa he;omega
theorem exists_least {S:Int->Prop} {T:Int} (hT:1<=T) (h:eT S T):∃ d,1<=d/\eT S d/\∀ e,1<=e->eT S e->d<=e:=by
 have key:∀ n:Nat,∀ T:Int,T.toNat=n->1<=T->eT S T->∃ d,1<=d/\eT S d/\∀ e,1<=e->eT S e->d<=e:=by
  intro n;induction n using Nat.strongRecOn with
  | _ n ih=>
   intro T hn hT h;by_cases hm:∃ e,1<=e/\eT S e/\e<T
   .obtain ⟨e,cI,eB,dk⟩:=hm;exact ih e.toNat aa e rfl cI eB
   refine ⟨T,hT,h,λe cI eB=>?_⟩;exact Int.not_lt.1 λhlt=>hm ⟨e,cI,eB,hlt⟩
 exact key _ T rfl hT h
def blocks (B:List Int) (d b:Int):Nat->List Int
 | 0=>[]
 | t+1=>blocks B d b t ++ B.map (·+(b+t*d))
theorem DW (B:List Int) (d b:Int) (t:Nat):(blocks B d b t).length=t*B.length:=by
 induction t with
 | zero=>simp [blocks]
 | succ t ih=>simp [blocks,ih,Nat.succ_mul]
theorem pw_ {B:List Int} {d b:Int} (hB:aG 0 d B) (hd:0<=d) (t:Nat):aG b (b+t*d) (blocks B d b t):=by
 induction t with
 | zero=>exact aG.nil
 | succ t ih=>
  have h0:0<=(t:Int)*d:=Int.mul_nonneg aa hd;refine (ih.append (hB.map_add (b+t*d)) aa aa aa).mono aa ?_;push_cast;rw [Int.add_mul];omega
theorem Ig {B:List Int} {d b:Int} (hB:aG 0 d B) (hd:1<=d) (t:Nat) (x:Int):x∈blocks B d b t↔b<=x/\x<b+t*d/\(x-b) % d∈B:=by
 induction t with
 | zero=>simp [blocks];omega
 | succ t ih=>
  have h0:0<=(t:Int)*d:=Int.mul_nonneg aa aa;have hs:((t+1:Nat):Int)*d=t*d+d:=by push_cast;rw [Int.add_mul];omega
  rw [blocks,List.mem_append,ih,List.mem_map,hs];constructor
  .rintro (⟨h1,h2,h3⟩|⟨y,hy,rfl⟩)
   .exact ⟨h1,aa,h3⟩
   have hb:=hB.2 y hy;refine ⟨aa,aa,?_⟩;rw [show y+(b+t*d)-b=y+t*d from aa,Int.add_mul_emod_self_right,Int.emod_eq_of_lt hb.1 hb.2];exact hy
  rintro ⟨h1,h2,h3⟩;by_cases hx:x<b+t*d
  .exact .inl ⟨h1,hx,h3⟩
  refine .inr ⟨x-(b+t*d),?_,aa⟩;have:(x-b) % d=x-(b+t*d):=by
   rw [show x-b=(x-(b+t*d))+t*d from aa,Int.add_mul_emod_self_right,Int.emod_eq_of_lt aa aa]
  rw [<- this];exact h3
theorem rx_ {B:List Int} {d b:Int} {t j i:Nat} (hj:j<t) (hi:i<B.length):(blocks B d b t)[j*B.length+i]? = some (B[i]+(b+j*d)):=by
 induction t with
 | zero=>omega
 | succ t ih=>
  rw [blocks];by_cases BY:j<t
  .have hlt:j*B.length+i<(blocks B d b t).length:=by
    rw [DW];have:(j+1)*B.length<=t*B.length:=Nat.mul_le_mul_right _ BY;rw [Nat.succ_mul] at this;omega
   rw [List.getElem?_append_left hlt];exact ih BY
  obtain rfl:j=t:=aa;rw [List.getElem?_append_right (by rw [DW];omega),DW,show j*B.length+i-j*B.length=i from by omega];simp [hi]
theorem H8 {B:List Int} {d b:Int} {t j i k:Nat} (hk:B.length=k) (hj:j<t) (hi:i<k):(blocks B d b t)[j*k+i]? = some (B[i]' aa+(b+j*d)):=by
 subst hk;exact rx_ hj hi
theorem k6_ {C:List Int} {d:Int} {parts k:Nat} (hn:C.length=parts*k) (h:∀ i (hi:i<C.length) (_:k<=i),C[i]=C[i-k]+d) (hk:1<=k) :
  C=blocks (C.take k) d 0 parts:=by
 rcases Nat.eq_zero_or_pos parts with rfl|hp
 .have:C.length=0:=by rw [hn];simp
  rw [List.eq_nil_of_length_eq_zero this];rfl
 have ng:k<=C.length:=by rw [hn];exact Nat.le_mul_of_pos_left k hp
 have hlen:(C.take k).length=k:=by simp;omega
 have key:∀ j i,i<k->j<parts->∀ hlt:j*k+i<C.length,C[j*k+i]=C[i]' aa+j*d:=by
  intro j;induction j with
  | zero=>intro i _ _ _;simp
  | succ j ih=>
   intro i hi hj hlt;have e1:=h ((j+1)*k+i) hlt (by rw [Nat.succ_mul];omega);have e2:(j+1)*k+i-k=j*k+i:=by rw [Nat.succ_mul];omega
   have O0:j*k+i<C.length:=by rw [<- e2];omega
   have e3:C[(j+1)*k+i-k]' aa=C[j*k+i]:=by congr 1
   rw [e1,e3,ih i hi aa O0];push_cast;rw [Int.add_mul];omega
 refine List.ext_getElem (by rw [DW,hlen,hn]) λi h1 h2=>?_;have hi:i % k<k:=Nat.mod_lt _ hk;have hj:i / k<parts:=by rw [hn] at h1;exact Nat.div_lt_of_lt_mul (by rw [Nat.mul_comm];exact h1)
 have pQ:i / k*k+i % k=i:=by rw [Nat.mul_comm];exact Nat.div_add_mod i k
 have g:=H8 (B:=C.take k) (d:=d) (b:=0) (t:=parts) (j:=i / k) (i:=i % k) hlen hj hi;rw [pQ,List.getElem?_eq_getElem h2] at g;have g:=Option.some.inj g;rw [g,List.getElem_take];have kk:=key (i / k) (i % k) hi hj (by rw [pQ];exact h1);have e4:C[i / k*k+i % k]'(by rw [pQ];exact h1)=C[i]:=by congr 1
 rw [e4] at kk;rw [kk];omega
def sQ (C:List Int) (d:Int) (k:Nat):Prop:=(∀ i (hi:i<C.length) (_:k<=i),C[i]=C[i-k]+d)/\∃ h:k-1<C.length,C[k-1]<d
theorem UB {C:List Int} {T d:Int} {parts k:Nat} (hC:aG 0 T C) (hn:C.length=parts*k) (hk:1<=k) (h:sQ C d k) :
  C=blocks (C.take k) d 0 parts/\aG 0 d (C.take k):=by
 have hb:=k6_ hn h.1 hk;refine ⟨hb,hC.1.sublist (List.take_sublist k C),λx hx=>?_⟩;obtain ⟨i,hi,rfl⟩:=List.getElem_of_mem hx;have hik:i<k/\i<C.length:=by simp at hi;omega
 rw [List.getElem_take];refine ⟨(hC.get_bounds hik.2).1,?_⟩;obtain ⟨hl,hlt⟩:=h.2;rcases Nat.lt_or_ge i (k-1) with hi'|hi'
 .have:=hC.get_lt hi' hl;omega
 obtain rfl:i=k-1:=aa;exact hlt
def tp (C:List Int) (T d:Int):Prop:=∀ x,0<=x->x<T->(x∈C↔x % d∈C)
theorem DY {x d:Int} {parts:Nat} (hd:1<=d) (hp:1<=parts):0<=x % d/\x % d<d/\d<=parts*d:=by
 have h1:=Int.emod_lt_of_pos x (show 0<d by omega);have h2:=Int.emod_nonneg x (show d≠0 by omega);have h3:1*d<=parts*d:=Int.mul_le_mul_of_nonneg_right aa aa;omega
theorem Um {C:List Int} {T d:Int} {parts k:Nat} (hC:aG 0 T C) (hd:1<=d) (hp:1<=parts) (hT:T=parts*d) (hn:C.length=parts*k) (hk:1<=k) (h:sQ C d k):tp C T d:=by
 obtain ⟨hb,hr⟩:=UB hC hn hk h;intro x h0 hx;have hm:=DY (x:=x) hd hp;rw [hb,Ig hr hd,Ig hr hd];simp only [Int.sub_zero,Int.zero_add,Int.emod_emod];constructor
 .rintro ⟨_,_,h3⟩;exact ⟨hm.1,aa,h3⟩
 rintro ⟨_,_,h3⟩;exact ⟨h0,aa,h3⟩
theorem Up {C:List Int} {T d:Int} {parts:Nat} (hC:aG 0 T C) (hd:1<=d) (hp:1<=parts) (hT:T=parts*d) (hne:C≠[]) (h:tp C T d) :
  ∃ k,1<=k/\C.length=parts*k/\sQ C d k:=by
 have hdT:d<=T:=by have:=DY (x:=0) hd hp;omega
 obtain ⟨B,wJ⟩:∃ B,B=C.filter (λx=>decide (x<d)):=⟨_,rfl⟩;have hBm:∀ x,x∈B↔x∈C/\x<d:=λx=>by rw [wJ,List.mem_filter];simp
 have hB:aG 0 d B:=⟨by rw [wJ];exact hC.1.filter _,λx hx=>⟨(hC.2 x ((hBm x).1 hx).1).1,((hBm x).1 hx).2⟩⟩;have IC:C=blocks B d 0 parts:=by
  refine hC.ext (pw_ hB aa parts) λx=>?_;rw [Ig hB hd,hBm];simp only [Int.sub_zero,Int.zero_add,<- hT];constructor
  .intro hx;have hb:=hC.2 x hx;exact ⟨hb.1,hb.2,(h x hb.1 hb.2).1 hx,(DY (x:=x) hd hp).2.1⟩
  rintro ⟨h0,h1,h2,_⟩;exact (h x h0 h1).2 h2
 have hlen:C.length=parts*B.length:=by rw [IC,DW]
 have hk:1<=B.length:=by
  rcases Nat.eq_zero_or_pos B.length with h0|h0
  .rw [h0] at hlen;exact absurd (List.eq_nil_of_length_eq_zero (by simpa using hlen)) hne
  exact h0
 obtain ⟨k,eC⟩:∃ k,B.length=k:=⟨_,rfl⟩;rw [eC] at hlen hk;refine ⟨k,hk,hlen,λi hi TD=>?_,?_⟩
 .have wW:0<k:=hk;have od:i % k<k:=Nat.mod_lt _ wW;have hj:i / k<parts:=by rw [hlen] at hi;exact Nat.div_lt_of_lt_mul (by rw [Nat.mul_comm];exact hi)
  have pQ:i / k*k+i % k=i:=by rw [Nat.mul_comm];exact Nat.div_add_mod i k
  have OS:1<=i / k:=(Nat.le_div_iff_mul_le wW).2 aa;obtain ⟨q,hq⟩:∃ q,i / k=q+1:=⟨i / k-1,aa⟩;have ic:q*k+i % k=i-k:=by rw [hq,Nat.succ_mul] at pQ;omega
  have g1:=H8 (B:=B) (d:=d) (b:=0) (t:=parts) (j:=i / k) (i:=i % k) eC hj od;have g2:=H8 (B:=B) (d:=d) (b:=0) (t:=parts) (j:=q) (i:=i % k) eC aa od;rw [pQ,<- IC,List.getElem?_eq_getElem hi] at g1;rw [ic,<- IC,List.getElem?_eq_getElem aa] at g2;rw [Option.some.inj g1,Option.some.inj g2,hq];push_cast;rw [Int.add_mul];omega
 have hl:k<=C.length:=by rw [hlen];exact Nat.le_mul_of_pos_left _ aa
 refine ⟨aa,?_⟩;have g1:=H8 (B:=B) (d:=d) (b:=0) (t:=parts) (j:=0) (i:=k-1) eC aa aa;rw [<- IC] at g1;simp only [Nat.zero_mul,Nat.zero_add] at g1;rw [List.getElem?_eq_getElem aa] at g1;rw [Option.some.inj g1];have:=(hB.get_bounds (i:=k-1) aa).2;simpa using this
theorem Uq {p:Per} (h:p.WF) {d:Int} {parts:Nat} (hT:p.period=parts*d) (hc:tp p.cycle p.period d) :
  ∀ n,p.frm<=n->(p.mem n↔(n-p.frm) % d∈p.cycle):=by
 intro n hn;have h0:=h.frm;have vp:=h.per;rw [Per.mem_hi aa hn];have h1:=Int.emod_lt_of_pos (n-p.frm) (show 0<p.period by omega);have h2:=Int.emod_nonneg (n-p.frm) (show p.period≠0 by omega);rw [hc _ h2 h1];rw [Int.emod_emod_of_dvd _ ⟨(parts:Int),by rw [hT,Int.mul_comm]⟩]
theorem U0 {p:Per} (h:p.WF) {d:Int} (hd:1<=d) (he:eT p.mem d) (hle:d<=p.period):tp p.cycle p.period d:=by
 intro x h0 hx;have hf:=h.frm;have hp:=h.pfrom.of_ev h.per aa he;have h1:=Int.emod_lt_of_pos x (show 0<d by omega);have h2:=Int.emod_nonneg x (show d≠0 by omega);have mh:0<=x / d:=Int.ediv_nonneg h0 aa;have e:=hp.mul aa (x / d).toNat (p.frm+x % d) aa;rw [Int.toNat_of_nonneg mh] at e;have hm:p.frm+x % d+x / d*d=p.frm+x:=by have:=Int.emod_add_ediv_mul x d;omega
 rw [hm] at e;constructor
 .intro hx';exact (h.cyc_mem _).2 ⟨h2,aa,e.2 ((h.cyc_mem x).1 hx').2.2⟩
 intro hx';exact (h.cyc_mem x).2 ⟨h0,hx,e.1 ((h.cyc_mem _).1 hx').2.2⟩
structure wH (p:Per) (d:Int) (B:List Int):Prop where
 pos:1<=d
 le:d<=p.period
 rise:aG 0 d B
 ne:B≠[]
 mem:∀ n,p.frm<=n->(p.mem n↔(n-p.frm) % d∈B)
 minp:∀ e,1<=e->eT p.mem e->d<=e
 ev:eT p.mem d
 len:B.length<=p.cycle.length
theorem Nb {p:Per} (h:p.WF) (hne:p.cycle≠[]) {d:Int} {parts k:Nat} (hd:1<=d) (hp:1<=parts) (hT:p.period=parts*d) (hn:p.cycle.length=parts*k) (hk:1<=k)
  (hP:sQ p.cycle d k)
  (hmax:∀ parts' d' k',parts<parts'->1<=d'->1<=k'->p.period=(parts':Nat)*d'->p.cycle.length=parts' * k'->¬ sQ p.cycle d' k') :
  wH p d (p.cycle.take k):=by
 obtain ⟨hb,hr⟩:=UB h.cyc hn hk hP;have hc:=Um h.cyc hd hp hT hn hk hP;have hmem:∀ n,p.frm<=n->(p.mem n↔(n-p.frm) % d∈p.cycle.take k):=by
  intro n hn;rw [Uq h hT hc n hn];have hm:=DY (x:=n-p.frm) hd hp;constructor
  .intro hx;rw [hb,Ig hr hd] at hx;simpa using hx.2.2
  exact λhx=>List.mem_of_mem_take hx
 have hev:eT p.mem d:=⟨p.frm,λn hn=>by
  rw [hmem n hn,hmem _ aa,show n+d-p.frm=n-p.frm+d from aa,Int.add_emod_right]⟩
 have hle:d<=p.period:=by have:=DY (x:=0) hd hp;omega
 refine ⟨hd,hle,hr,?_,hmem,?_,hev,by rw [List.length_take];exact Nat.min_le_right _ _⟩
 .intro h0;have:(p.cycle.take k).length=0:=by rw [h0];rfl
  have h1:k<=p.cycle.length:=by rw [hn];exact Nat.le_mul_of_pos_left k hp
  rw [List.length_take,Nat.min_eq_left h1] at this;omega
 obtain ⟨d0,Iz,SO,Nr⟩:=exists_least hd hev;have Ow:d0<=d:=Nr d hd hev;have BU:d0∣p.period:=PZ Iz SO Nr h.per h.pfrom.ev;obtain ⟨q,hq⟩:=BU;have s9:1<=q:=by
  rcases Int.lt_or_le 0 q with mh|mh
  .omega
  have h5:d0*q<=d0*0:=Int.mul_le_mul_of_nonneg_left mh (show 0<=d0 by omega);have h6:=h.per;rw [hq] at h6;simp at h5;omega
 have wM:p.period=(q.toNat:Nat)*d0:=by rw [Int.toNat_of_nonneg aa,hq,Int.mul_comm]
 obtain ⟨k0,hk0,iD,uM⟩:=Up h.cyc Iz (show 1<=q.toNat by omega) wM hne (U0 h Iz SO aa);have OY:q.toNat<=parts:=Nat.le_of_not_lt λhlt=>hmax _ _ _ hlt Iz hk0 wM iD uM;have hdd:d=d0:=by
  refine Int.le_antisymm ?_ Ow;rcases Int.lt_or_le d0 d with hlt|hge
  .exfalso;have e1:(parts:Int)*d=(q.toNat:Nat)*d0:=hT ▸ wM;have e2:(q.toNat:Int)*d0<=parts*d0:=Int.mul_le_mul_of_nonneg_right aa aa;have e3:(parts:Int)*d0<parts*d:=Int.mul_lt_mul_of_pos_left hlt aa;omega
  exact hge
 rw [hdd];exact Nr
open Classical in
noncomputable def cnt (S:Int->Prop):Nat->Int
 | 0=>0
 | n+1=>cnt S n+if S n then 1 else 0
theorem Vy {S T:Int->Prop} (h:∀ n,S n↔T n) (n:Nat):cnt S n=cnt T n:=by
 induction n with
 | zero=>rfl
 | succ n ih=>simp only [cnt,ih];by_cases hs:S n <;> simp [hs,<- h]
theorem Eg (S:Int->Prop) (n:Nat):0<=cnt S n/\cnt S n<=n:=by
 induction n with
 | zero=>simp [cnt]
 | succ n ih=>simp only [cnt];split <;> omega
theorem s4_ (S T:Int->Prop) (n:Nat):cnt S n+cnt T n=cnt (λx=>S x\/T x) n+cnt (λx=>S x/\T x) n:=by
 induction n with
 | zero=>rfl
 | succ n ih=>
  simp only [cnt];by_cases h1:S n <;> by_cases h2:T n <;> simp [h1,h2] <;> omega
theorem Na {l:List Int} (hl:l.Pairwise (· < ·)) (x:Int) :
  ((l.countP (λy=>decide (y<x+1)):Nat):Int)=(l.countP (λy=>decide (y<x)):Nat)+if x∈l then 1 else 0:=by
 induction l with
 | nil=>simp
 | cons a l ih=>
  have h:=List.pairwise_cons.1 hl;have:=ih h.2;simp only [List.countP_cons,List.mem_cons];by_cases hx:x∈l
  .have:=h.1 x hx;simp only [hx,or_true,if_true] at *;have h1:a<x+1:=aa;have h2:a<x:=aa;simp [h1,h2];omega
  simp only [hx,or_false,if_false] at *;by_cases hxa:x=a
  .obtain rfl:x=a:=hxa;have h1:x<x+1:=aa;have h2:¬ x<x:=aa;rw [if_pos rfl,if_pos (decide_eq_true h1),if_neg ag];omega
  by_cases h1:a<x
  .have h2:a<x+1:=aa;simp [h1,h2,hxa];omega
  have h2:¬ a<x+1:=aa;simp [h1,h2,hxa];omega
theorem Nd {l:List Int} {a b x:Int} (hl:aG a b l) (h:b<=x):l.countP (λy=>decide (y<x))=l.length:=by
 rw [List.countP_eq_length];intro y hy;have:=hl.2 y hy;simp;omega
theorem Hu {l:List Int} {a b x:Int} (hl:aG a b l) (h:x<=a):l.countP (λy=>decide (y<x))=0:=by
 rw [List.countP_eq_zero];intro y hy;have:=hl.2 y hy;simp;omega
def bd_ (p:Per) (n:Int):Int:=
 if n<=p.frm then ((p.head.countP (λy=>decide (y<n)):Nat):Int)
 else p.head.length+(n-p.frm) / p.period*p.cycle.length+((p.cycle.countP (λy=>decide (y<(n-p.frm) % p.period)):Nat):Int)
theorem Io {p:Per} (h:p.WF) {n:Int} (hn:p.frm<=n) :
  bd_ p n=p.head.length+(n-p.frm) / p.period*p.cycle.length+((p.cycle.countP (λy=>decide (y<(n-p.frm) % p.period)):Nat):Int):=by
 unfold bd_
 split
 .obtain rfl:n=p.frm:=aa;rw [Nd h.head (Int.le_refl _),Int.sub_self,Int.zero_ediv,Int.zero_emod,Hu h.cyc (Int.le_refl _)];simp
 rfl
theorem succ_div {x q:Int} (hq:1<=q):((x+1) % q=0/\(x+1) / q=x / q+1/\x % q=q-1)\/((x+1) % q=x % q+1/\(x+1) / q=x / q):=by
 have h1:=Int.emod_add_mul_ediv x q;have h2:=Int.emod_nonneg x (show q≠0 by omega);have h3:=Int.emod_lt_of_pos x (show 0<q by omega);by_cases h:x % q=q-1
 .left;have e:x+1=q*(x / q+1):=by rw [Int.mul_add];omega
  refine ⟨by rw [e];exact Int.mul_emod_right _ _,?_,h⟩;rw [e];exact Int.mul_ediv_cancel_left _ aa
 right;have e:x+1=(x % q+1)+q*(x / q):=aa;constructor
 .rw [e,Int.add_mul_emod_self_left,Int.emod_eq_of_lt aa aa]
 rw [e,Int.add_mul_ediv_left _ _ aa,Int.ediv_eq_zero_of_lt aa aa];omega
theorem pv_ {p:Per} (h:p.WF) {n:Int} (hn:0<=n):bd_ p (n+1)=bd_ p n+if p.mem n then 1 else 0:=by
 by_cases hlt:n<p.frm
 .unfold bd_;rw [if_pos aa,if_pos aa,Na h.head.1];simp only [Per.mem_lo hn hlt]
 have hp:=h.per;rw [Io h aa,Io h aa];simp only [Per.mem_hi hn (show p.frm<=n by omega)];rw [show n+1-p.frm=n-p.frm+1 from by omega];rcases succ_div (x:=n-p.frm) hp with ⟨h1,h2,h3⟩|⟨h1,h2⟩
 .have e:=Na h.cyc.1 ((n-p.frm) % p.period);rw [h3,show p.period-1+1=p.period from aa,Nd h.cyc (Int.le_refl _)] at e;rw [h1,h2,h3,Hu h.cyc (Int.le_refl _),Int.add_mul];omega
 have e:=Na h.cyc.1 ((n-p.frm) % p.period);rw [h1,h2,e];omega
theorem rw_ {p:Per} (h:p.WF) (n:Nat):bd_ p n=cnt p.mem n:=by
 induction n with
 | zero=>
  have:=h.frm;unfold bd_;rw [if_pos (by simpa using this)];simp only [cnt];rw [Hu h.head ag];rfl
 | succ n ih=>
  rw [show ((n+1:Nat):Int)=(n:Int)+1 from by push_cast;rfl,pv_ h aa,ih];simp only [cnt];by_cases hm:p.mem n <;> simp [hm]
theorem H5 {p:Per} (h:p.WF) {n:Int} (hn:0<=n):bd_ p n=cnt p.mem n.toNat:=by
 have:=rw_ h n.toNat;rwa [Int.toNat_of_nonneg hn] at this
theorem Ut {p:Per} (h:p.WF) {n:Int} (hn:0<=n):0<=bd_ p n/\bd_ p n<=n:=by
 rw [H5 h hn];have:=Eg p.mem n.toNat;omega
theorem Qg {x y:Int} (hx:0<=x) (hy:0<y):Int.gcd y (x % y)=Int.gcd x y:=by
 obtain ⟨a,rfl⟩:=Int.eq_ofNat_of_zero_le hx;obtain ⟨b,rfl⟩:=Int.eq_ofNat_of_zero_le (show 0<=y by omega);rw [show ((a:Int) % (b:Int))=((a % b:Nat):Int) from by simp];show Nat.gcd b (a % b)=Nat.gcd a b;rw [Nat.gcd_comm a b,Nat.gcd_rec b a,Nat.gcd_comm]
theorem gcd_zero {x:Int} (hx:0<=x):((Int.gcd x 0:Nat):Int)=x:=by simp;omega
theorem nL {a b:Int} (ha:1<=a):1<=((Int.gcd a b:Nat):Int)/\((Int.gcd a b:Nat):Int)<=a:=by
 have h1:=Int.gcd_pos_of_ne_zero_left (a:=a) b aa;have h2:=Int.le_of_dvd aa (Int.gcd_dvd_left a b);omega
theorem wi {a b:Int} (hb:1<=b):((Int.gcd a b:Nat):Int)<=b:=Int.le_of_dvd aa (Int.gcd_dvd_right a b)
structure EE (a m x y s t:Int):Prop where
 x0:0<=x
 y0:0<=y
 xm:x<=m
 ym:y<=m
 dx:m∣x-s*a
 dy:m∣y-t*a
 g:Int.gcd x y=Int.gcd a m
 sb:-m<=s/\s<=m
 tb:-m<=t/\t<=m
 sz:(0<=s/\t<=0/\s*y-t*x=m)\/(s<=0/\0<=t/\t*x-s*y=m)
theorem EE.start {a m:Int} (ha:0<=a) (IR:a<m):EE a m a m 1 0:=
 ⟨ha,aa,aa,aa,ag,ag,rfl,aa,aa,.inl ⟨aa,aa,ag⟩⟩
theorem P2 {t y m:Int} (ht:0<=t) (hy:1<=y) (h:t*y<=m):t<=m:=by
 have:=Int.mul_le_mul_of_nonneg_left hy ht;omega
theorem EE.step {a m x y s t:Int} (h:EE a m x y s t) (hy:0<y):EE a m y (x-x / y*y) t (s-x / y*t)/\(-(2*m)<=x / y*t/\x / y*t<=2*m)/\0<=x / y/\x / y<=m/\0<=x / y*y/\x / y*y<=m/\x-x / y*y=x % y/\x % y<y:=by
 have e:=Int.emod_add_ediv_mul x y;have h1:=Int.emod_nonneg x (show y≠0 by omega);have h2:=Int.emod_lt_of_pos x hy;have q0:0<=x / y:=Int.ediv_nonneg h.x0 aa;have xm:=h.xm;have ym:=h.ym;have x0:=h.x0;have er:x-x / y*y=x % y:=aa;have qm:x / y<=m:=P2 q0 (y:=y) aa aa;generalize hq:x / y=q at *;have qy0:0<=q*y:=Int.mul_nonneg q0 aa;have ke:m∣x-q*y-(s-q*t)*a:=by
  have:x-q*y-(s-q*t)*a=(x-s*a)-q*(y-t*a):=by
   rw [Int.sub_mul,Int.mul_sub,Int.mul_assoc];omega
  rw [this];exact Int.dvd_sub h.dx (Int.dvd_trans h.dy (Int.dvd_mul_left _ _))
 have hg:Int.gcd y (x-q*y)=Int.gcd a m:=by rw [er,Qg x0 hy];exact h.g
 have hs:=h.sb;have ht:=h.tb;rcases h.sz with ⟨s0,t0,hz⟩|⟨s0,t0,hz⟩
 .have hqt:q*t<=0:=Int.mul_nonpos_of_nonneg_of_nonpos q0 t0;have hz':(s-q*t)*y-t*(x-q*y)=m:=by
   rw [Int.sub_mul,Int.mul_sub,Int.mul_comm q y,<- Int.mul_assoc t y q,Int.mul_comm q t,Int.mul_assoc t q y,Int.mul_comm q y,<- Int.mul_assoc];omega
  have hp:0<=-(t*(x-q*y)):=by
   have:t*(x-q*y)<=0:=Int.mul_nonpos_of_nonpos_of_nonneg t0 aa;omega
  have hb:s-q*t<=m:=P2 (y:=y) aa aa aa;exact ⟨⟨aa,aa,ym,aa,h.dy,ke,hg,ht,aa,.inr ⟨t0,aa,hz'⟩⟩,aa,q0,qm,aa,aa,er,aa⟩
 have hqt:0<=q*t:=Int.mul_nonneg q0 t0;have hz':t*(x-q*y)-(s-q*t)*y=m:=by
  rw [Int.sub_mul,Int.mul_sub,Int.mul_comm q y,<- Int.mul_assoc t y q,Int.mul_comm q t,Int.mul_assoc t q y,Int.mul_comm q y,<- Int.mul_assoc];omega
 have hp:0<=t*(x-q*y):=Int.mul_nonneg t0 aa;have e3:(s-q*t)*y=-((q*t-s)*y):=by rw [<- Int.neg_mul];congr 1;omega
 have hb:q*t-s<=m:=P2 (y:=y) aa aa aa;exact ⟨⟨aa,aa,ym,aa,h.dy,ke,hg,ht,aa,.inl ⟨t0,aa,hz'⟩⟩,aa,q0,qm,aa,aa,er,aa⟩
def sP (a m v:Int):Prop:=0<=v/\v<m/\(a*v) % m=1 % m
noncomputable def sc (a m:Int):Int:=Classical.epsilon λv=>sP a m v
theorem p2_ {a m v v':Int} (h:sP a m v) (h':sP a m v'):v=v':=by
 obtain ⟨h1,h2,h3⟩:=h;obtain ⟨h4,h5,h6⟩:=h';have e1:(v*(a*v')) % m=v % m:=by rw [Int.mul_emod,h6,<- Int.mul_emod,Int.mul_one]
 have e2:(v' * (a*v)) % m=v' % m:=by rw [Int.mul_emod,h3,<- Int.mul_emod,Int.mul_one]
 have e3:v*(a*v')=v' * (a*v):=by rw [Int.mul_left_comm,Int.mul_left_comm v',Int.mul_comm v v']
 rw [e3,e2,Int.emod_eq_of_lt h4 h5,Int.emod_eq_of_lt h1 h2] at e1;exact e1.symm
theorem ze_ {a m v:Int} (h:sP a m v):sc a m=v:=p2_ (Classical.epsilon_spec ⟨v,h⟩) h
theorem UL {a m x s t:Int} (h:EE a m x 0 s t) (hg:Int.gcd a m=1) (hm:1<=m):sP a m (s % m):=by
 refine ⟨Int.emod_nonneg _ aa,Int.emod_lt_of_pos _ aa,?_⟩;have hx:x=1:=by have:=gcd_zero h.x0;rw [h.g,hg] at this;omega
 have hd:=h.dx;rw [hx] at hd;rw [Int.mul_emod,Int.emod_emod,<- Int.mul_emod,Int.mul_comm];exact (Int.emod_eq_emod_iff_emod_sub_eq_zero.2 (Int.emod_eq_zero_of_dvd hd)).symm
theorem UH {m n:Int} (hm:1<=m) (hn:1<=n):Int.gcd (m / Int.gcd m n) (n / Int.gcd m n)=1:=by
 obtain ⟨a,rfl⟩:=Int.eq_ofNat_of_zero_le (show 0<=m by omega);obtain ⟨b,rfl⟩:=Int.eq_ofNat_of_zero_le (show 0<=n by omega);have h:0<Nat.gcd a b:=Nat.gcd_pos_of_pos_left _ aa;show Nat.gcd ((a:Int) / (Nat.gcd a b:Nat)).natAbs ((b:Int) / (Nat.gcd a b:Nat)).natAbs=1;rw [show ((a:Int) / (Nat.gcd a b:Nat)).natAbs=a / Nat.gcd a b from rfl,show ((b:Int) / (Nat.gcd a b:Nat)).natAbs=b / Nat.gcd a b from rfl];exact Nat.gcd_div_gcd_div_gcd_of_pos_left aa
theorem Jq {a m:Int} (ha:0<=a) (hm:1<=m):Int.gcd (a % m) m=Int.gcd a m:=by
 rw [Int.gcd_comm,Qg ha aa]
def aS (m n:Int):Int:=m / Int.gcd m n*n
theorem yX {m n:Int} (hm:1<=m) (hn:1<=n):1<=aS m n:=by
 have hb:=nL (b:=n) hm;have h1:1<=m / Int.gcd m n:=(Int.le_ediv_iff_mul_le aa).2 aa;have:=Int.mul_le_mul h1 hn aa aa;unfold aS;omega
theorem DX {m n:Int}:m∣aS m n:=by
 unfold aS;obtain ⟨k,hk⟩:=Int.gcd_dvd_right m n;have h1:=Int.ediv_mul_cancel (Int.gcd_dvd_left m n);refine ⟨k,?_⟩;rw [show m / (Int.gcd m n:Int)*n=m / (Int.gcd m n:Int)*((Int.gcd m n:Int)*k) from by rw [<- hk],<- Int.mul_assoc,h1]
theorem Hv {m n:Int}:n∣aS m n:=⟨m / Int.gcd m n,Int.mul_comm _ _⟩
theorem Xg {m n:Int} (hm:1<=m) (hn:1<=n):aS m n=(Int.lcm m n:Nat):=by
 have h:=Int.gcd_mul_lcm m n;have hb:=nL (b:=n) hm;have h':((Int.gcd m n:Nat):Int)*(Int.lcm m n:Nat)=m*n:=by
  have:((m.gcd n*m.lcm n:Nat):Int)=((m.natAbs*n.natAbs:Nat):Int):=by rw [h]
  rw [Int.natCast_mul,Int.natCast_mul] at this;rw [this]
  congr 1 <;> omega
 have h1:=Int.ediv_mul_cancel (Int.gcd_dvd_left m n);unfold aS;have:((Int.gcd m n:Nat):Int)*(m / Int.gcd m n*n)=m*n:=by rw [<- Int.mul_assoc,Int.mul_comm _ (m / _),h1]
 exact Int.eq_of_mul_eq_mul_left (show ((Int.gcd m n:Nat):Int)≠0 by omega) (this.trans h'.symm)
theorem Ww {m n x:Int} (hm:1<=m) (hn:1<=n) (h1:m∣x) (h2:n∣x):aS m n∣x:=by
 rw [Xg hm hn];rw [<- Int.natAbs_dvd_natAbs] at h1 h2 ⊢;have:Int.lcm m n∣x.natAbs:=Int.lcm_dvd (by rw [<- Int.natAbs_dvd_natAbs];exact h1) (by rw [<- Int.natAbs_dvd_natAbs];exact h2);exact this
def uA (a m b n v:Int):Prop:=0<=v/\v<aS m n/\v % m=a % m/\v % n=b % n
noncomputable def gx (a m b n:Int):Int:=Classical.epsilon λv=>uA a m b n v
theorem UM {a m b n v x:Int} (hm:1<=m) (hn:1<=n) (h:uA a m b n v):(x % m=a % m/\x % n=b % n)↔x % aS m n=v:=by
 obtain ⟨h1,h2,h3,h4⟩:=h;constructor
 .rintro ⟨e1,e2⟩;have d1:m∣x-v:=Int.dvd_of_emod_eq_zero (Int.emod_eq_emod_iff_emod_sub_eq_zero.1 (e1.trans h3.symm));have d2:n∣x-v:=Int.dvd_of_emod_eq_zero (Int.emod_eq_emod_iff_emod_sub_eq_zero.1 (e2.trans h4.symm));have:=Int.emod_eq_emod_iff_emod_sub_eq_zero.2 (Int.emod_eq_zero_of_dvd (Ww hm hn d1 d2));rw [this,Int.emod_eq_of_lt h1 h2]
 intro e;have d:=Int.dvd_self_sub_emod (x:=x) (m:=aS m n);rw [e] at d;exact ⟨(Int.emod_eq_emod_iff_emod_sub_eq_zero.2 (Int.emod_eq_zero_of_dvd (Int.dvd_trans DX d))).trans h3,
  (Int.emod_eq_emod_iff_emod_sub_eq_zero.2 (Int.emod_eq_zero_of_dvd (Int.dvd_trans Hv d))).trans h4⟩
theorem Ej {a m b n v:Int} (hm:1<=m) (hn:1<=n) (h:uA a m b n v):gx a m b n=v:=by
 have h':uA a m b n (gx a m b n):=Classical.epsilon_spec ⟨v,h⟩;have:=(UM hm hn h).1 ⟨h'.2.2.1,h'.2.2.2⟩;rw [Int.emod_eq_of_lt h'.1 h'.2.1] at this;exact this
theorem Wt {a m b n r s g k i:Int} (hm:1<=m) (hn:1<=n) (hr:r=a % m) (hs:s=b % n) (hg:g=(Int.gcd m n:Nat)) (hd:(s-r) % g=0)
  (hi:sP (m / g % (n / g)) (n / g) i) (hk:k=((s-r) / g % (n / g)*i) % (n / g)):uA a m b n (r+m*k):=by
 have hb:=nL (b:=n) hm;have hb2:=wi (a:=m) hn;rw [<- hg] at hb hb2;have dm:g∣m:=hg ▸ Int.gcd_dvd_left m n;have dn:g∣n:=hg ▸ Int.gcd_dvd_right m n;have em:=Int.ediv_mul_cancel dm;have en:=Int.ediv_mul_cancel dn;have es:=Int.ediv_mul_cancel (Int.dvd_of_emod_eq_zero hd);have hq:1<=n / g:=(Int.le_ediv_iff_mul_le aa).2 aa;have r0:=Int.emod_nonneg a (show m≠0 by omega);have r1:=Int.emod_lt_of_pos a (show 0<m by omega);have k0:0<=k:=hk ▸ Int.emod_nonneg _ aa;have k1:k<n / g:=hk ▸ Int.emod_lt_of_pos _ aa;rw [<- hr] at r0 r1;have hL:aS m n=m*(n / g):=by
  unfold aS;rw [<- hg];have:m / g*n=m / g*(n / g*g):=by rw [en]
  rw [this,Int.mul_comm (n / g) g,<- Int.mul_assoc,em]
 refine ⟨?_,?_,?_,?_⟩
 .have:=Int.mul_nonneg (show 0<=m by omega) k0;omega
 .have h1:m*(k+1)<=m*(n / g):=Int.mul_le_mul_of_nonneg_left aa aa;rw [Int.mul_add] at h1;rw [hL];omega
 .rw [Int.add_mul_emod_self_left,hr,Int.emod_emod]
 -- m k=(s-r) modulo n
 have h3:=hi.2.2;have e1:(m / g*k) % (n / g)=((s-r) / g) % (n / g):=by
  rw [hk,Int.mul_emod,Int.emod_emod,<- Int.mul_emod,<- Int.mul_assoc,Int.mul_comm (m / g),Int.mul_assoc,Int.mul_emod,Int.emod_emod];have e2:(m / g*i) % (n / g)=1 % (n / g):=by rw [<- h3,Int.mul_emod (m / g % (n / g)),Int.emod_emod,<- Int.mul_emod]
  rw [e2,<- Int.mul_emod,Int.mul_one]
 have d1:n / g∣m / g*k-(s-r) / g:=Int.dvd_of_emod_eq_zero (Int.emod_eq_emod_iff_emod_sub_eq_zero.1 e1);have d2:n∣m*k-(s-r):=by
  obtain ⟨c,hc⟩:=d1;refine ⟨c,?_⟩;have e4:m*k-(s-r)=(m / g*k-(s-r) / g)*g:=by
   rw [Int.sub_mul,es,Int.mul_assoc,Int.mul_comm k g,<- Int.mul_assoc,em]
  rw [e4,hc,Int.mul_assoc,Int.mul_comm c g,<- Int.mul_assoc,en]
 have e5:(r+m*k) % n=s % n:=Int.emod_eq_emod_iff_emod_sub_eq_zero.2 (Int.emod_eq_zero_of_dvd (by rw [show r+m*k-s=m*k-(s-r) from by omega];exact d2));rw [e5,hs,Int.emod_emod]
theorem Va {a m:Int} (ha:0<=a) (IR:a<m) (hg:Int.gcd a m=1):∃ v,sP a m v:=by
 have key:∀ n:Nat,∀ x y s t:Int,y.toNat=n->EE a m x y s t->∃ v,sP a m v:=by
  intro n;induction n using Nat.strongRecOn with
  | _ n ih=>
   intro x y s t hn h;by_cases hy:y=0
   .subst hy;exact ⟨_,UL h hg aa⟩
   have xz:=h.y0;obtain ⟨h2,_,_,_,_,_,h7,h8⟩:=h.step (show 0<y by omega);exact ih _ aa _ _ _ _ rfl h2
 exact key _ _ _ _ _ rfl (EE.start ha IR)
def dg (B:List Int) (d f:Int) (j:Nat):Int:=f-d*((j / B.length:Nat)+1)+B.getD (B.length-1-j % B.length) 0
def pat (B:List Int) (d f x:Int):Prop:=(x-f) % d∈B
theorem kH {B:List Int} {i:Nat} (h:i<B.length):B.getD i 0∈B:=by
 rw [List.getD_eq_getElem?_getD,List.getElem?_eq_getElem h];exact List.getElem_mem h
theorem getD_lt {a b:Int} {B:List Int} (hB:aG a b B) {i j:Nat} (gD:i<j) (hj:j<B.length):B.getD i 0<B.getD j 0:=by
 have:=hB.get_lt gD hj;simpa [List.getD_eq_getElem?_getD,List.getElem?_eq_getElem hj,List.getElem?_eq_getElem (show i<B.length by omega)] using this
theorem jl {a b:Int} {B:List Int} (hB:aG a b B) {i:Nat} (hi:i<B.length):a<=B.getD i 0/\B.getD i 0<b:=hB.2 _ (kH hi)
section
variable {B:List Int} {d f:Int} (hB:aG 0 d B) (hk:1<=B.length)
include hB hk
theorem Xb (j:Nat):pat B d f (dg B d f j):=by
 have hi:B.length-1-j % B.length<B.length:=aa;have hb:=jl hB hi;unfold pat dg;rw [show f-d*(((j / B.length:Nat):Int)+1)+B.getD (B.length-1-j % B.length) 0-f=B.getD (B.length-1-j % B.length) 0+d*(-(((j / B.length:Nat):Int)+1)) from by rw [Int.mul_neg];omega,
  Int.add_mul_emod_self_left,Int.emod_eq_of_lt hb.1 hb.2]
 exact kH hi
theorem Wi:dg B d f 0<f:=by
 have hb:=jl hB (show B.length-1<B.length by omega);show f-d*(((0 / B.length:Nat):Int)+1)+B.getD (B.length-1-0 % B.length) 0<f;rw [Nat.zero_div,Nat.zero_mod,Nat.sub_zero];omega
theorem Wh (j:Nat):dg B d f (j+1)<dg B d f j:=by
 unfold dg;have hd:=Nat.div_add_mod j B.length;have hm:=Nat.mod_lt j (show B.length > 0 by omega);by_cases h:j % B.length+1=B.length
 .have e1:(j+1) % B.length=0:=by
   rw [show j+1=B.length*(j / B.length+1) from by rw [Nat.mul_succ];omega];exact Nat.mul_mod_right _ _
  have e2:(j+1) / B.length=j / B.length+1:=by
   rw [show j+1=B.length*(j / B.length+1) from by rw [Nat.mul_succ];omega];exact Nat.mul_div_cancel_left _ aa
  have hb1:=jl hB (show B.length-1<B.length by omega);have hb2:=jl hB (show 0<B.length by omega);rw [e1,e2,show B.length-1-j % B.length=0 from aa,Nat.sub_zero];generalize j / B.length=q;have e3:d*(((q+1:Nat):Int)+1)=d*((q:Int)+1)+d:=by push_cast;rw [Int.mul_add d ((q:Int)+1)];omega
  omega
 have e0:j+1=(j % B.length+1)+B.length*(j / B.length):=aa;have e1:(j+1) % B.length=j % B.length+1:=by
  rw [e0,Nat.add_mul_mod_self_left,Nat.mod_eq_of_lt aa]
 have e2:(j+1) / B.length=j / B.length:=by
  rw [e0,Nat.add_mul_div_left _ _ aa,Nat.div_eq_of_lt aa];omega
 have hlt:=getD_lt hB (i:=B.length-1-(j % B.length+1)) (j:=B.length-1-j % B.length) aa aa;rw [e1,e2];omega
theorem hs_ {i j:Nat} (h:i<j):dg B d f j<dg B d f i:=by
 induction j with
 | zero=>omega
 | succ j ih=>
  have hs:=Wh (f:=f) hB hk j;rcases Nat.lt_or_ge i j with h1|h1
  .have:=ih h1;omega
  obtain rfl:i=j:=aa;exact hs
theorem zw_ {x:Int} (hp:pat B d f x) (hx:x<f):∃ j,x=dg B d f j:=by
 obtain ⟨i,hi,he⟩:=List.getElem_of_mem hp;have hb:=hB.get_bounds hi;have nY:0<d:=aa;have hdiv:=Int.emod_add_mul_ediv (x-f) d;rw [<- he] at hdiv;have hq:(x-f) / d<0:=Int.ediv_neg_of_neg_of_pos aa nY;refine ⟨(-((x-f) / d)-1).toNat*B.length+(B.length-1-i),?_⟩;have hm:((-((x-f) / d)-1).toNat*B.length+(B.length-1-i)) % B.length=B.length-1-i:=by
  rw [Nat.mul_comm,Nat.mul_add_mod,Nat.mod_eq_of_lt aa]
 have hv:((-((x-f) / d)-1).toNat*B.length+(B.length-1-i)) / B.length=(-((x-f) / d)-1).toNat:=by
  rw [Nat.mul_comm,Nat.mul_add_div aa,Nat.div_eq_of_lt aa];omega
 unfold dg;rw [hm,hv,show B.length-1-(B.length-1-i)=i from aa,show (((-((x-f) / d)-1).toNat:Nat):Int)+1=-((x-f) / d) from aa,Int.mul_neg];simp [hi];omega
theorem mb_ (j:Nat) {x:Int} (h1:dg B d f j<x) (h2:x<(if j=0 then f else dg B d f (j-1))):¬ pat B d f x:=by
 intro hp;have hxf:x<f:=by
  split at h2
  .exact h2
  have:dg B d f (j-1)<=dg B d f 0:=by
   rcases Nat.eq_zero_or_pos (j-1) with h|h
   .rw [h];exact Int.le_refl _
   exact Int.le_of_lt (hs_ hB hk h)
  have:=Wi (f:=f) hB hk;omega
 obtain ⟨i,rfl⟩:=zw_ hB hk hp hxf;rcases Nat.lt_trichotomy i j with h|h|h
 .rw [if_neg aa] at h2;rcases Nat.lt_or_ge i (j-1) with h3|h3
  .have:=hs_ (f:=f) hB hk h3;omega
  obtain rfl:i=j-1:=aa;omega
 .subst h;omega
 have:=hs_ (f:=f) hB hk h;omega
end
theorem s8_ {B:List Int} {d f:Int} (hk:1<=B.length) (j:Nat):dg B d f (j+B.length)=dg B d f j-d:=by
 unfold dg;rw [Nat.add_mod_right,Nat.add_div_right _ aa];generalize j / B.length=q;have e3:d*(((q+1:Nat):Int)+1)=d*((q:Int)+1)+d:=by push_cast;rw [Int.mul_add d ((q:Int)+1)];omega
 omega
theorem MA {B:List Int} {d f:Int} (hB:aG 0 d B) (hk:1<=B.length) {i j:Nat} (h:i<=j):dg B d f j<=dg B d f i:=by
 rcases Nat.lt_or_ge i j with h1|h1
 .exact Int.le_of_lt (hs_ hB hk h1)
 obtain rfl:i=j:=aa;exact Int.le_refl _
def eM (B:List Int) (d f:Int) (j:Nat):Int:=if j=0 then f else dg B d f (j-1)
structure aX (p:Per) (d:Int) (B:List Int) (j:Nat):Prop where
 le:j<=p.head.length
 hi0:0<=eM B d p.frm j
 hif:eM B d p.frm j<=p.frm
 same:∀ x,eM B d p.frm j<=x->(p.mem x↔pat B d p.frm x)
 low:∀ x,x∈p.head.take (p.head.length-j)↔x∈p.head/\x<eM B d p.frm j
structure Start (p:Per) (d:Int) (B:List Int) (s:Int) (m:Nat):Prop where
 s0:0<=s
 sf:s<=p.frm
 same:∀ x,s<=x->(p.mem x↔pat B d p.frm x)
 first:s=0\/¬ (p.mem (s-1)↔pat B d p.frm (s-1))
 low:∀ x,x∈p.head.take m↔x∈p.head/\x<s
theorem aX.zero {p:Per} {d:Int} {B:List Int} (h:p.WF) (hS:wH p d B):aX p d B 0:=by
 refine ⟨Nat.zero_le _,h.frm,Int.le_refl _,hS.mem,λx=>?_⟩;simp only [eM,if_true,Nat.sub_zero,List.take_length];exact ⟨λhx=>⟨hx,(h.head.2 x hx).2⟩,λhx=>hx.1⟩
def dT (p:Per) (j:Nat):Int:=if p.head.length-j=0 then -1 else p.head.getD (p.head.length-j-1) 0
theorem Iu {p:Per} (h:p.WF) {j:Nat}:-1<=dT p j/\dT p j<max 1 p.frm:=by
 unfold dT
 split
 .omega
 have:=jl h.head (i:=p.head.length-j-1) aa;omega
theorem Hw {p:Per} (h:p.WF) {j:Nat} {x:Int} (hx:x∈p.head.take (p.head.length-j)):x<=dT p j/\0<=dT p j:=by
 obtain ⟨i,hi,rfl⟩:=List.getElem_of_mem hx;have hi':i<p.head.length-j/\i<p.head.length:=by simp at hi;omega
 unfold dT;rw [if_neg aa,List.getElem_take];have h1:=jl h.head (i:=p.head.length-j-1) aa;have e:p.head[i]=p.head.getD i 0:=by simp [hi'.2]
 rw [e];rcases Nat.lt_or_ge i (p.head.length-j-1) with h2|h2
 .have:=getD_lt h.head h2 aa;omega
 obtain rfl:i=p.head.length-j-1:=aa;omega
theorem Qn {p:Per} {j:Nat} (h:dT p j≠-1):dT p j∈p.head.take (p.head.length-j):=by
 unfold dT at *
 split at h
 .exact absurd rfl h
 rename_i hne;rw [if_neg hne];have:p.head.getD (p.head.length-j-1) 0=(p.head.take (p.head.length-j))[p.head.length-j-1]' aO:=by
  rw [List.getElem_take];simp [show p.head.length-j-1<p.head.length by omega]
 rw [this];exact List.getElem_mem _
section
variable {p:Per} {d:Int} {B:List Int} {j:Nat} (h:p.WF) (hS:wH p d B) (hb:aX p d B j)
include h hS hb
omit h hb in
theorem aX.lenB:1<=B.length:=by
 rcases Nat.eq_zero_or_pos B.length with h0|h0
 .exact absurd (List.eq_nil_of_length_eq_zero h0) hS.ne
 exact h0
omit h in
theorem aX.e_lt:dg B d p.frm j<eM B d p.frm j:=by
 have hk:=aX.lenB hS;unfold eM
 split
 .rename_i h0;subst h0;exact Wi hS.rise hk
 rename_i h0;have:=Wh (f:=p.frm) hS.rise hk (j-1);rwa [show j-1+1=j from by omega] at this
omit h in
theorem aX.e_ge:-d<=dg B d p.frm j:=by
 have hk:=aX.lenB hS;have h0:=hb.hi0;have hi:=hb.hif;unfold eM at h0 hi
 split at h0
 .rename_i hj;subst hj;have jK:=jl hS.rise (show B.length-1<B.length by omega);show -d<=p.frm-d*(((0 / B.length:Nat):Int)+1)+B.getD (B.length-1-0 % B.length) 0;rw [Nat.zero_div,Nat.zero_mod,Nat.sub_zero];omega
 rename_i hj;have h1:=s8_ (d:=d) (f:=p.frm) hk (j-1);have h2:=MA (f:=p.frm) hS.rise hk (show j<=j-1+B.length by omega);omega
omit h hb in
theorem aX.between {x:Int} (h1:dg B d p.frm j<x) (h2:x<eM B d p.frm j):¬ pat B d p.frm x:=
 mb_ hS.rise (aX.lenB hS) j h1 h2
omit hS in
theorem aX.mem_low {x:Int} (h2:x<eM B d p.frm j):p.mem x↔x∈p.head.take (p.head.length-j):=by
 have:=hb.hif;rw [hb.low];constructor
 .intro hm;exact ⟨(Per.mem_lo hm.1 aa).1 hm,h2⟩
 rintro ⟨hx,_⟩;have hb':=h.head.2 x hx;exact (Per.mem_lo hb'.1 hb'.2).2 hx
omit h hS in
theorem aX.last_lt:dT p j<eM B d p.frm j:=by
 by_cases hl:dT p j=-1
 .have:=hb.hi0;omega
 exact ((hb.low _).1 (Qn hl)).2
theorem aX.done0 (hn:dg B d p.frm j<0) (hl:dT p j<0):Start p d B 0 (p.head.length-j):=by
 have hl':dT p j=-1:=by have:=(Iu h (j:=j)).1;omega
 have hnil:p.head.length-j=0:=by
  unfold dT at hl'
  split at hl'
  .assumption
  have:=jl h.head (i:=p.head.length-j-1) aa;omega
 refine ⟨Int.le_refl _,h.frm,λx hx=>?_,.inl rfl,λx=>?_⟩
 .rcases Int.lt_or_le x (eM B d p.frm j) with h1|h1
  .rw [aX.mem_low h hb h1,hnil];constructor
   .intro hx;simp at hx
   exact λhp=>absurd hp (aX.between hS aa h1)
  exact hb.same x h1
 rw [hnil];constructor
 .intro hx;simp at hx
 rintro ⟨hx,h0⟩;have:=(h.head.2 x hx).1;omega
theorem aX.done (hne:dg B d p.frm j≠dT p j) (rM:¬ (dg B d p.frm j<0/\dT p j<0)):Start p d B (max (dg B d p.frm j) (dT p j)+1) (p.head.length-j):=by
 have h1:=aX.e_lt hS hb;have h2:=aX.last_lt hb;have h3:=hb.hif;have hk:=aX.lenB hS;have h4:=(Iu h (j:=j)).1;refine ⟨aa,aa,λx hx=>?_,.inr λjx=>?_,λx=>?_⟩
 .rcases Int.lt_or_le x (eM B d p.frm j) with hx2|hx2
  .rw [aX.mem_low h hb hx2];constructor
   .intro hm;have:=(Hw h hm).1;omega
   exact λhp=>absurd hp (aX.between hS aa hx2)
  exact hb.same x hx2
 .rw [show max (dg B d p.frm j) (dT p j)+1-1=max (dg B d p.frm j) (dT p j) from by omega] at jx;rcases Int.lt_or_le (dg B d p.frm j) (dT p j) with hlt|hge
  .rw [Int.max_eq_right aa] at jx;have hm:p.mem (dT p j):=(aX.mem_low h hb h2).2 (Qn aa);exact aX.between hS hlt h2 (jx.1 hm)
  rw [Int.max_eq_left hge] at jx;have hp:pat B d p.frm (dg B d p.frm j):=Xb hS.rise hk j;have hm:=(aX.mem_low h hb h1).1 (jx.2 hp);have:=(Hw h hm).1;omega
 constructor
 .intro hx;have:=(Hw h hx).1;exact ⟨List.mem_of_mem_take hx,aa⟩
 rintro ⟨hx,hlt⟩;exact (hb.low x).2 ⟨hx,aa⟩
theorem aX.step (he:dg B d p.frm j=dT p j) (rM:¬ (dg B d p.frm j<0/\dT p j<0)):aX p d B (j+1)/\j<p.head.length:=by
 have h1:=aX.e_lt hS hb;have h3:=hb.hif;have h4:=(Iu h (j:=j)).1;have hk:=aX.lenB hS;have hl0:dT p j≠-1:=aa;have hj:j<p.head.length:=by
  rcases Nat.lt_or_ge j p.head.length with hj|hj
  .exact hj
  exfalso;apply hl0;unfold dT;rw [if_pos aa]
 have ly:eM B d p.frm (j+1)=dg B d p.frm j:=by unfold eM;rw [if_neg aa];rfl
 refine ⟨⟨hj,by rw [ly];omega,by rw [ly];omega,λx hx=>?_,λx=>?_⟩,hj⟩
 .rw [ly] at hx;rcases Int.lt_or_le x (eM B d p.frm j) with hx2|hx2
  .rw [aX.mem_low h hb hx2];rcases Int.lt_or_le (dg B d p.frm j) x with hx3|hx3
   .constructor
    .intro hm;have:=(Hw h hm).1;omega
    exact λhp=>absurd hp (aX.between hS hx3 hx2)
   obtain rfl:x=dg B d p.frm j:=aa;exact ⟨λ_=>Xb hS.rise hk j,λ_=>by rw [he];exact Qn hl0⟩
  exact hb.same x hx2
 rw [ly];have ep:dT p j=p.head.getD (p.head.length-j-1) 0:=by unfold dT;rw [if_neg aa]
 constructor
 .intro hx;refine ⟨List.mem_of_mem_take hx,?_⟩;obtain ⟨i,hi,rfl⟩:=List.getElem_of_mem hx;have hi':i<p.head.length-(j+1)/\i<p.head.length:=by simp at hi;omega
  rw [List.getElem_take,he,ep,show p.head[i]=p.head.getD i 0 from by simp [hi'.2]];exact getD_lt h.head aa aa
 rintro ⟨hx,hlt⟩;have hm:=(hb.low x).2 ⟨hx,aa⟩;obtain ⟨i,hi,rfl⟩:=List.getElem_of_mem hm;have hi':i<p.head.length-j/\i<p.head.length:=by simp at hi;omega
 rw [List.getElem_take] at hlt ⊢;have hne:i≠p.head.length-j-1:=by
  rintro rfl;rw [he,ep] at hlt;simp [show p.head.length-j-1<p.head.length by omega] at hlt
 have:(p.head.take (p.head.length-(j+1)))[i]' aO=p.head[i]:=List.getElem_take;rw [<- this];exact List.getElem_mem _
end
theorem ue {a b d:Int}:(a+b % d) % d=(a+b) % d:=by simp
theorem Wj {d a b c:Int} (hb:0<=b) (jK:b<d) (hc:0<=c) (hcd:c<d) (h:(a+b) % d=(a+c) % d):b=c:=by
 have h1:=Int.emod_eq_emod_iff_emod_sub_eq_zero.1 h;have h2:(b-c) % d=0:=by rw [<- h1];congr 1;omega
 have h3:=Int.emod_eq_emod_iff_emod_sub_eq_zero.2 h2;rwa [Int.emod_eq_of_lt hb jK,Int.emod_eq_of_lt hc hcd] at h3
theorem Wb {p:Per} {d s:Int} {B cy:List Int} {m:Nat} (h:p.WF) (hS:wH p d B) (hst:Start p d B s m) (uT:cy.Pairwise (· < ·)) (hcm:∀ y,y∈cy↔∃ c∈B,y=(p.frm+c-s) % d) :
  bP ⟨p.head.take m,s,d,cy⟩ p.mem:=by
 have hd:=hS.pos;have lF:aG 0 d cy:=⟨uT,λy hy=>by
  obtain ⟨c,_,rfl⟩:=(hcm y).1 hy;exact ⟨Int.emod_nonneg _ aa,Int.emod_lt_of_pos _ aa⟩⟩
 have Pd:∀ x,pat B d p.frm x↔(x-s) % d∈cy:=by
  intro x;rw [hcm];unfold pat;constructor
  .intro hx;refine ⟨_,hx,?_⟩;rw [show p.frm+(x-p.frm) % d-s=(p.frm-s)+(x-p.frm) % d from aa,ue]
   congr 1;omega
  rintro ⟨c,hc,he⟩;have hb:=hS.rise.2 c hc;have e1:(p.frm-s+(x-p.frm) % d) % d=(p.frm-s+c) % d:=by
   rw [ue,show p.frm-s+(x-p.frm)=x-s from aa,he];congr 1;omega
  have:=Wj (Int.emod_nonneg _ aa) (Int.emod_lt_of_pos _ aa) hb.1 hb.2 e1;rw [this];exact hc
 have TO:∀ x,pat B d p.frm x↔pat B d p.frm (x+d):=λx=>by
  unfold pat;rw [show x+d-p.frm=x-p.frm+d from aa,Int.add_emod_right]
 refine ⟨⟨hst.s0,hd,⟨h.head.1.sublist (List.take_sublist _ _),λx hx=>?_⟩,lF⟩,λn=>?_,λe he hev=>hS.minp e he hev,λf hf gS=>?_⟩
 .have:=(hst.low x).1 hx;exact ⟨(h.head.2 x this.1).1,this.2⟩
 .by_cases iD:0<=n
  .by_cases hn:n<s
   .rw [Per.mem_lo iD hn];have:=hst.sf;show n∈p.head.take m↔_;rw [hst.low,Per.mem_lo iD aa];exact ⟨λh=>h.1,λh=>⟨h,hn⟩⟩
   rw [Per.mem_hi iD (show s<=n by omega),hst.same n aa,Pd]
  exact ⟨λh=>absurd h.1 iD,λh=>absurd h.1 iD⟩
 show s<=f;rcases Int.lt_or_le f s with hlt|hge
 .exfalso;rcases hst.first with h0|zM
  .omega
  apply zM;obtain ⟨k,hk,hk0⟩:=Nf d (p.frm-(s-1)) aa;have gS:cH p.mem f d:=gS;have e1:=gS.mul aa k (s-1) aa;have e2:pat B d p.frm (s-1)↔pat B d p.frm (s-1+k*d):=by
   unfold pat;rw [show s-1+(k:Int)*d-p.frm=(s-1-p.frm)+k*d from aa,Int.add_mul_emod_self_right]
  rw [e1,e2];exact hS.mem _ aa
 exact hge
theorem Vx {p:Per} (h:p.WF) (hc:p.cycle=[]):bP ⟨p.head,if p.head.length=0 then 0 else p.head.getD (p.head.length-1) 0+1,1,[]⟩ p.mem:=by
 have ep:∀ x∈p.head,p.head.length≠0/\x<=p.head.getD (p.head.length-1) 0:=by
  intro x hx;obtain ⟨i,hi,rfl⟩:=List.getElem_of_mem hx;refine ⟨aa,?_⟩;rw [show p.head[i]=p.head.getD i 0 from by simp [hi]];rcases Nat.lt_or_ge i (p.head.length-1) with h1|h1
  .exact Int.le_of_lt (getD_lt h.head h1 aa)
  obtain rfl:i=p.head.length-1:=aa;exact Int.le_refl _
 have hmem:∀ n,p.mem n↔n∈p.head:=by
  intro n;have:=h.frm;constructor
  .intro hm;rcases Int.lt_or_le n p.frm with h1|h1
   .exact (Per.mem_lo hm.1 h1).1 hm
   have:=(Per.mem_hi hm.1 h1).1 hm;rw [hc] at this;simp at this
  intro hn;have hb:=h.head.2 n hn;exact (Per.mem_lo hb.1 hb.2).2 hn
 obtain ⟨s,hs⟩:∃ s,s=if p.head.length=0 then (0:Int) else p.head.getD (p.head.length-1) 0+1:=⟨_,rfl⟩
 rw [<- hs];have hlt:∀ x∈p.head,x<s:=λx hx=>by
  have:=ep x hx;rw [hs,if_neg this.1];omega
 have hs0:0<=s:=by
  rw [hs];split
  .omega
  have:=jl h.head (i:=p.head.length-1) aa;omega
 refine ⟨⟨hs0,Int.le_refl _,⟨h.head.1,λx hx=>⟨(h.head.2 x hx).1,hlt x hx⟩⟩,aG.nil⟩,λn=>?_,λd hd _=>hd,λf hf gS=>?_⟩
 .rw [hmem];by_cases iD:0<=n
  .by_cases hn:n<s
   .exact Per.mem_lo iD hn
   rw [Per.mem_hi iD (show s<=n by omega)];exact ⟨λhx=>by simp at hx,λhx=>absurd (hlt n hx) hn⟩
  exact ⟨λh=>absurd h.1 iD,λhx=>absurd (h.head.2 n hx).1 iD⟩
 show s<=f;rcases Int.lt_or_le f s with hlt2|hge
 .exfalso;have hne:p.head.length≠0:=by
   intro h0;rw [hs,if_pos h0] at hlt2;omega
  have Gb:s=p.head.getD (p.head.length-1) 0+1:=by rw [hs,if_neg hne]
  have hm:p.mem (s-1):=by rw [hmem,Gb,show p.head.getD (p.head.length-1) 0+1-1=p.head.getD (p.head.length-1) 0 from by omega];exact kH aa
  have:=(gS (s-1) aa).1 hm;rw [hmem] at this;have:=hlt _ this;have:s-1+1<s:=this;omega
 exact hge
theorem op_ {p:Per} (h:p.WF) (hne:p.cycle≠[]):∃ d B,wH p d B:=by
 obtain ⟨d,fm,kM,uV⟩:=exists_least h.per h.pfrom.ev;obtain ⟨q,hq⟩:=PZ fm kM uV h.per h.pfrom.ev;have s9:1<=q:=by
  rcases Int.lt_or_le 0 q with mh|mh
  .omega
  have h5:d*q<=d*0:=Int.mul_le_mul_of_nonneg_left mh (show 0<=d by omega);have h6:=h.per;rw [hq] at h6;simp at h5;omega
 have hT:p.period=(q.toNat:Nat)*d:=by rw [Int.toNat_of_nonneg aa,hq,Int.mul_comm]
 have hdp:d<=p.period:=uV _ h.per h.pfrom.ev;obtain ⟨k,hk,hn,hP⟩:=Up h.cyc fm (show 1<=q.toNat by omega) hT hne (U0 h fm kM hdp);refine ⟨d,_,Nb h hne fm aa hT hn hk hP λparts' d' k' hlt IU eC N7 hn' hP'=>?_⟩;have hc:=Um h.cyc IU (show 1<=parts' by omega) N7 hn' eC hP';have hm:=Uq h N7 hc;have hev:eT p.mem d':=⟨p.frm,λn hn=>by
  rw [hm n hn,hm _ aa,show n+d' - p.frm=n-p.frm+d' from aa,Int.add_emod_right]⟩
 have hle:=uV d' IU hev;have e1:(parts':Int)*d'=(q.toNat:Nat)*d:=N7 ▸ hT;have e2:(q.toNat:Int)*d<=q.toNat*d':=Int.mul_le_mul_of_nonneg_left hle aa;have e3:(q.toNat:Int)*d'<parts' * d':=Int.mul_lt_mul_of_pos_right aa aa;omega
theorem or_ {p:Per} (h:p.WF) {d:Int} {B:List Int} (hS:wH p d B):∃ s m,Start p d B s m:=by
 have key:∀ k j:Nat,k=p.head.length-j->aX p d B j->∃ s m,Start p d B s m:=by
  intro k;induction k with
  | zero=>
   intro j hk hb;by_cases hn:dg B d p.frm j<0/\dT p j<0
   .exact ⟨_,_,aX.done0 h hS hb hn.1 hn.2⟩
   by_cases he:dg B d p.frm j=dT p j
   .have:=(aX.step h hS hb he hn).2;omega
   exact ⟨_,_,aX.done h hS hb he hn⟩
  | succ k ih=>
   intro j hk hb;by_cases hn:dg B d p.frm j<0/\dT p j<0
   .exact ⟨_,_,aX.done0 h hS hb hn.1 hn.2⟩
   by_cases he:dg B d p.frm j=dT p j
   .exact ih (j+1) aa (aX.step h hS hb he hn).1
   exact ⟨_,_,aX.done h hS hb he hn⟩
 exact key _ 0 rfl (aX.zero h hS)
def upto (n:Nat):List Int:=(List.range n).map λ(i:Nat)=>(i:Int)
theorem BD (n:Nat) (x:Int):x∈upto n↔0<=x/\x<n:=by
 unfold upto;rw [List.mem_map];constructor
 .rintro ⟨i,hi,rfl⟩;rw [List.mem_range] at hi;omega
 intro h;exact ⟨x.toNat,by rw [List.mem_range];omega,aa⟩
theorem V0 (n:Nat):aG 0 n (upto n):=
 ⟨List.pairwise_map.2 (List.pairwise_lt_range.imp λh=>aa),λx hx=>(BD n x).1 hx⟩
open Classical in
noncomputable def bC (S:Int->Prop) (lo hi:Int):List Int:=((upto hi.toNat).filter λx=>decide (lo<=x/\S x))
theorem dN {S:Int->Prop} {lo hi:Int} (h0:0<=lo) (x:Int):x∈bC S lo hi↔lo<=x/\x<hi/\S x:=by
 unfold bC;rw [List.mem_filter,BD];simp only [decide_eq_true_eq];constructor
 .rintro ⟨h1,h2,h3⟩;exact ⟨h2,aa,h3⟩
 rintro ⟨h1,h2,h3⟩;exact ⟨aa,h1,h3⟩
theorem ff {S:Int->Prop} {lo hi:Int} (h0:0<=lo):aG lo hi (bC S lo hi):=
 ⟨(V0 _).1.filter _,λx hx=>by have:=(dN h0 x).1 hx;omega⟩
theorem P5 {S T:Int->Prop} {lo hi:Int} (h0:0<=lo) (h:∀ n,S n↔T n):bC S lo hi=bC T lo hi:=
 (ff h0).ext (ff h0) λx=>by rw [dN h0,dN h0,h]
theorem Uv {p:Per} (h:p.WF):∃ c,bP c p.mem:=by
 by_cases hne:p.cycle=[]
 .exact ⟨_,Vx h hne⟩
 obtain ⟨d,B,hS⟩:=op_ h hne;obtain ⟨s,m,hst⟩:=or_ h hS;have hd:=hS.pos;refine ⟨_,Wb h hS hst (cy:=bC (λy=>∃ c∈B,y=(p.frm+c-s) % d) 0 d) (ff (Int.le_refl _)).1 λy=>?_⟩;rw [dN (Int.le_refl _)];constructor
 .exact λh=>h.2.2
 rintro ⟨c,hc,rfl⟩;exact ⟨Int.emod_nonneg _ aa,Int.emod_lt_of_pos _ aa,c,hc,rfl⟩
theorem O8 {p:Per} (h:p.WF) {n:Int} (hn:p.frm<=n) (k:Nat):bd_ p (n+k*p.period)=bd_ p n+k*p.cycle.length:=by
 have hp:=h.per;have hk:0<=(k:Int)*p.period:=Int.mul_nonneg aa aa;rw [Io h aa,Io h hn,show n+k*p.period-p.frm=n-p.frm+k*p.period from aa,Int.add_mul_ediv_right _ _ aa,Int.add_mul_emod_self_right,Int.add_mul];omega
theorem bP.dvd {c:Per} {S:Int->Prop} (h:bP c S) {T:Int} (hT:1<=T) (he:eT S T):c.period∣T:=
 PZ h.wf.per h.pfrom.ev h.minp hT he
theorem bP.frm_le {c:Per} {S:Int->Prop} (h:bP c S) {f T:Int} (hf:0<=f) (hT:1<=T) (hp:cH S f T):c.frm<=f:=
 h.minf f hf (hp.of_ev hT (by have:=h.wf.per;omega) h.pfrom.ev)
theorem aG.sub_length {a b:Int}:∀ {l m:List Int},aG a b l->(∀ x∈l,x∈m)->l.length<=m.length:=by
 intro l;induction l with
 | nil=>intro m _ _;simp
 | cons x l ih=>
  intro m hl h;have hx:x∈m:=h x ag;have hp:=List.pairwise_cons.1 hl.1;have:=ih (m:=m.erase x) ⟨hp.2,λy hy=>hl.2 y (List.mem_cons_of_mem _ hy)⟩ λy hy=>by
   have h1:=hp.1 y hy;exact (List.mem_erase_of_ne aa).2 (h y (List.mem_cons_of_mem _ hy))
  rw [List.length_erase_of_mem hx] at this;have:0<m.length:=List.length_pos_of_mem hx;simp;omega
structure yz_ (c p:Per):Prop where
 frm:c.frm<=p.frm
 per:c.period<=p.period
 dvd:c.period∣p.period
 head:c.head.length<=p.head.length
 cyc:c.cycle.length<=p.cycle.length
theorem bP.smaller {c p:Per} (hp:p.WF) (h:bP c p.mem):yz_ c p:=by
 have hf:=h.frm_le hp.frm hp.per hp.pfrom
 have hd:=h.dvd hp.per hp.pfrom.ev;have h1:=hp.per;have h2:=h.wf.per;refine ⟨hf,Int.le_of_dvd aa hd,hd,h.wf.head.sub_length λx hx=>?_,?_⟩
 .have hb:=h.wf.head.2 x hx;exact (Per.mem_lo hb.1 aa).1 ((h.mem x).1 ((Per.mem_lo hb.1 hb.2).2 hx))
 obtain ⟨q,hq⟩:=hd;have s9:1<=q:=by
  rcases Int.lt_or_le 0 q with mh|mh
  .omega
  have h5:c.period*q<=c.period*0:=Int.mul_le_mul_of_nonneg_left mh (show 0<=c.period by omega);rw [hq] at h1;simp at h5;omega
 have hf0:=hp.frm;have e1:=O8 hp (Int.le_refl _) 1;have e2:=O8 h.wf hf q.toNat;have e3:p.frm+q.toNat*c.period=p.frm+((1:Nat):Int)*p.period:=by rw [hq,Int.toNat_of_nonneg aa,Int.mul_comm];omega
 have e4:∀ n,0<=n->bd_ c n=bd_ p n:=λn hn=>by rw [H5 h.wf hn,H5 hp hn];exact Vy h.mem _
 rw [e3,e4 _ hf0,e4 _ aa,e1] at e2;have e5:(1:Int)*c.cycle.length<=q.toNat*c.cycle.length:=Int.mul_le_mul_of_nonneg_right aa aa;omega
theorem ws_ {S:Int->Prop}:∀ (N:Nat) {l:List Int},l.Nodup->(∀ n,n∈l↔0<=n/\n<N/\S n)->(l.length:Int)=cnt S N:=by
 intro N;induction N with
 | zero=>
  intro l _ h;cases l with
  | nil=>rfl
  | cons x l=>have:=(h x).1 ag;omega
 | succ N ih=>
  intro l hl h;simp only [cnt];by_cases hs:S N
  .have hm:(N:Int)∈l:=(h N).2 ⟨aa,aa,hs⟩;have:=ih (l:=l.erase N) (hl.erase _) λn=>by
    rw [hl.mem_erase_iff,h];constructor
    .rintro ⟨h1,h2,h3,h4⟩;exact ⟨h2,aa,h4⟩
    rintro ⟨h1,h2,h3⟩;exact ⟨aa,h1,aa,h3⟩
   rw [List.length_erase_of_mem hm] at this;have dX:0<l.length:=List.length_pos_of_mem hm;rw [if_pos hs];omega
  rw [if_neg hs,Int.add_zero];refine ih hl λn=>?_;rw [h];constructor
  .rintro ⟨h1,h2,h3⟩;refine ⟨h1,?_,h3⟩;by_cases e:n=N
   .subst e;exact absurd h3 hs
   omega
  rintro ⟨h1,h2,h3⟩;exact ⟨h1,aa,h3⟩
theorem aG.nodup {a b:Int} {l:List Int} (h:aG a b l):l.Nodup:=h.1.imp λh=>aa
theorem cH.shift {S:Int->Prop} {f d:Int} (h:cH S f d) (hd:1<=d) {n:Int} (hn:f<=n):S n↔S (f+(n-f) % d):=by
 have hq:0<=(n-f) / d:=Int.ediv_nonneg aa aa;have h1:=Int.emod_nonneg (n-f) (show d≠0 by omega);have e:=h.mul aa ((n-f) / d).toNat (f+(n-f) % d) aa;rw [Int.toNat_of_nonneg hq] at e;rw [e];have:=Int.emod_add_ediv_mul (n-f) d;rw [show f+(n-f) % d+(n-f) / d*d=n from by omega]
theorem Ic {S:Int->Prop} {f d:Int} {hl cl:List Int} (hf:0<=f) (hd:1<=d) (BO:∀ n,S n->0<=n) (hp:cH S f d) (h1:aG 0 f hl) (h2:aG 0 d cl)
  (m1:∀ n,0<=n->n<f->(n∈hl↔S n)) (m2:∀ n,0<=n->n<d->(n∈cl↔S (f+n))):(Per.mk hl f d cl).WF/\∀ n,(Per.mk hl f d cl).mem n↔S n:=by
 refine ⟨⟨hf,hd,h1,h2⟩,λn=>?_⟩;by_cases h0:0<=n
 .by_cases hn:n<f
  .rw [Per.mem_lo h0 hn];exact m1 n h0 hn
  have hn':f<=n:=aa;rw [Per.mem_hi h0 hn',hp.shift hd hn'];exact m2 ((n-f) % d) (Int.emod_nonneg _ aa) (Int.emod_lt_of_pos _ aa)
 exact ⟨λh=>absurd h.1 h0,λh=>absurd (BO n h) h0⟩
theorem cH.mono {S:Int->Prop} {f g d:Int} (h:cH S f d) (IY:f<=g):cH S g d:=λn hn=>h n aa
theorem cH.of_dvd {S:Int->Prop} {f d e:Int} (h:cH S f d) (hd:1<=d) (he:1<=e) (IW:d∣e):cH S f e:=by
 obtain ⟨q,rfl⟩:=IW;have hq:0<=q:=by
  rcases Int.lt_or_le q 0 with h1|h1
  .have:=Int.mul_nonpos_of_nonneg_of_nonpos (show 0<=d by omega) (show q<=0 by omega);omega
  exact h1
 have:=h.mul aa q.toNat;rwa [Int.toNat_of_nonneg hq,Int.mul_comm] at this
theorem cH.op {S T U:Int->Prop} {f d:Int} (hS:cH S f d) (hT:cH T f d) (g:Prop->Prop->Prop) (hU:∀ n,f<=n->(U n↔g (S n) (T n))) (hd:0<=d):cH U f d:=by
 intro n hn;rw [hU n hn,hU (n+d) aa,propext (hS n hn),propext (hT n hn)]
theorem Hy {x a y b:Int} (ha:1<=a) (hb:1<=b) (h:x % (Int.gcd a b:Nat)=y % (Int.gcd a b:Nat)):uA x a y b (gx x a y b):=by
 have hg:=nL (b:=b) ha;have hg2:=wi (a:=a) hb;have iA:=UH ha hb;obtain ⟨g,hgd⟩:∃ g,g=((Int.gcd a b:Nat):Int):=⟨_,rfl⟩;have dm:g∣a:=hgd ▸ Int.gcd_dvd_left a b;have dn:g∣b:=hgd ▸ Int.gcd_dvd_right a b;have hd:(y % b-x % a) % g=0:=by
  refine Int.emod_eq_emod_iff_emod_sub_eq_zero.1 ?_;rw [Int.emod_emod_of_dvd _ dn,Int.emod_emod_of_dvd _ dm,hgd,h]
 rw [<- hgd] at hg hg2 iA;have q1:1<=b / g:=(Int.le_ediv_iff_mul_le aa).2 aa;have p1:0<=a / g:=Int.ediv_nonneg aa aa;obtain ⟨i,hi⟩:=Va (Int.emod_nonneg (a / g) (show b / g≠0 by omega)) (Int.emod_lt_of_pos (a / g) (show 0<b / g by omega)) (by rw [Jq p1 q1];exact iA);have hs:=Wt ha hb rfl rfl hgd hd hi rfl;rw [Ej ha hb hs];exact hs
noncomputable def hZ (xs ys:List Int) (a b st:Int):List Int:=
 xs.flatMap λx=>(ys.filter λy:Int=>decide (y % (Int.gcd a b:Nat)=x % (Int.gcd a b:Nat))).map λy=>st+gx x a y b
section
variable {xs ys:List Int} {a b st:Int} (ha:1<=a) (hb:1<=b) (hx:aG 0 a xs) (hy:aG 0 b ys)
include ha hb hx hy
theorem Eo {x y:Int} (h1:x∈xs) (h2:y∈ys) (h:y % (Int.gcd a b:Nat)=x % (Int.gcd a b:Nat)) :
  0<=gx x a y b/\gx x a y b<aS a b/\gx x a y b % a=x/\gx x a y b % b=y:=by
 obtain ⟨s1,s2,s3,s4⟩:=Hy ha hb h.symm;have b1:=hx.2 x h1;have b2:=hy.2 y h2;rw [Int.emod_eq_of_lt b1.1 b1.2] at s3;rw [Int.emod_eq_of_lt b2.1 b2.2] at s4;exact ⟨s1,s2,s3,s4⟩
theorem v8_ (n:Int):n∈hZ xs ys a b st↔st<=n/\n<st+aS a b/\(n-st) % a∈xs/\(n-st) % b∈ys:=by
 unfold hZ;simp only [List.mem_flatMap,List.mem_map,List.mem_filter,decide_eq_true_eq];constructor
 .rintro ⟨x,h1,y,⟨h2,h3⟩,rfl⟩;obtain ⟨s1,s2,s3,s4⟩:=Eo ha hb hx hy h1 h2 h3;rw [show st+gx x a y b-st=gx x a y b from aa,s3,s4];exact ⟨aa,aa,h1,h2⟩
 rintro ⟨h1,h2,h3,h4⟩;have dm:((Int.gcd a b:Nat):Int)∣a:=Int.gcd_dvd_left a b;have dn:((Int.gcd a b:Nat):Int)∣b:=Int.gcd_dvd_right a b;refine ⟨_,h3,_,⟨h4,by rw [Int.emod_emod_of_dvd _ dn,Int.emod_emod_of_dvd _ dm]⟩,?_⟩;have:uA ((n-st) % a) a ((n-st) % b) b (n-st):=⟨aa,aa,by rw [Int.emod_emod],by rw [Int.emod_emod]⟩;rw [Ej ha hb this];omega
theorem q8_:(hZ xs ys a b st).Nodup:=by
 unfold hZ;refine List.pairwise_flatMap.2 ⟨λx h1=>?_,?_⟩
 .refine List.pairwise_map.2 ((hy.nodup.filter _).imp_of_mem λ{y y'} h2 h3 hne e=>?_);rw [List.mem_filter,decide_eq_true_eq] at h2 h3;have s1:=Eo ha hb hx hy h1 h2.1 h2.2;have s2:=Eo ha hb hx hy h1 h3.1 h3.2;have e':gx x a y b=gx x a y' b:=aa;exact hne (by rw [<- s1.2.2.2,e',s2.2.2.2])
 refine List.Pairwise.imp_of_mem (R:=(·≠·)) (λ{x x'} h1 h1' hne=>?_) hx.nodup;intro n hn m hm e;rw [List.mem_map] at hn hm;obtain ⟨y,h2,rfl⟩:=hn;obtain ⟨y',h3,rfl⟩:=hm;rw [List.mem_filter,decide_eq_true_eq] at h2 h3;have s1:=Eo ha hb hx hy h1 h2.1 h2.2;have s2:=Eo ha hb hx hy h1' h3.1 h3.2;have e':gx x a y b=gx x' a y' b:=aa;exact hne (by rw [<- s1.2.2.1,e',s2.2.2.1])
end
theorem m4_ {α β:Type} (l:List α) (f:α->List β):(l.flatMap f).length=(l.map λx=>(f x).length).sum:=by
 induction l with
 | nil=>rfl
 | cons a l ih=>simp [List.flatMap_cons,ih]
theorem SN:∀ {l m:List Int},l.Nodup->(∀ x∈l,x∈m)->l.length<=m.length:=by
 intro l;induction l with
 | nil=>intro m _ _;simp
 | cons a l ih=>
  intro m hn hs;have hn':=List.nodup_cons.1 hn;have ha:a∈m:=hs a ag;have:=ih (m:=m.erase a) hn'.2 λy hy=>(List.mem_erase_of_ne (λe=>hn'.1 (by rw [<- e];exact hy))).2 (hs y (List.mem_cons_of_mem _ hy));rw [List.length_erase_of_mem ha] at this;have:0<m.length:=List.length_pos_of_mem ha;simp;omega
theorem s1_ {ys:List Int} {b g r:Int} (hb:1<=b) (hg:1<=g) (hgb:g∣b) (hy:aG 0 b ys) (iY:0<=r) (hr:r<g) :
  ((ys.filter λy:Int=>decide (y % g=r)).length:Int)=b / g↔∀ y,0<=y->y<b->y % g=r->y∈ys:=by
 obtain ⟨q,rfl⟩:=hgb;have hq:1<=q:=by
  rcases Int.lt_or_le 0 q with h|h
  .omega
  have:=Int.mul_nonpos_of_nonneg_of_nonpos (show 0<=g by omega) h;omega
 rw [Int.mul_ediv_cancel_left _ aa];obtain ⟨C,hC⟩:∃ C,C=(upto q.toNat).map λk=>r+g*k:=⟨_,rfl⟩;have NH:∀ y,y∈C↔0<=y/\y<g*q/\y % g=r:=by
  intro y;rw [hC,List.mem_map];constructor
  .rintro ⟨k,hk,rfl⟩;rw [BD] at hk;have h1:0<=g*k:=Int.mul_nonneg aa hk.1;have h2:g*(k+1)<=g*q:=Int.mul_le_mul_of_nonneg_left aa aa;rw [Int.mul_add] at h2;refine ⟨aa,aa,?_⟩;rw [Int.add_mul_emod_self_left,Int.emod_eq_of_lt iY hr]
  rintro ⟨h0,h1,h2⟩;have e:=Int.emod_add_mul_ediv y g;refine ⟨y / g,?_,aa⟩;rw [BD];have:y / g<q:=Int.ediv_lt_of_lt_mul aa (by rw [Int.mul_comm];exact h1);exact ⟨Int.ediv_nonneg h0 aa,aa⟩
 have SU:C.Nodup:=by
  rw [hC];refine List.pairwise_map.2 ((V0 _).nodup.imp λ{x y} hne e=>hne ?_);exact Int.eq_of_mul_eq_mul_left (show g≠0 by omega) aa
 have hCl:(C.length:Int)=q:=by rw [hC,List.length_map];unfold upto;simp;omega
 have hF:(ys.filter λy:Int=>decide (y % g=r)).Nodup:=hy.nodup.filter _;have IG:∀ y,y∈ys.filter (λy=>decide (y % g=r))↔y∈ys/\y % g=r:=λy=>by rw [List.mem_filter,decide_eq_true_eq]
 generalize ys.filter (λy=>decide (y % g=r))=F at hF IG;have SW:∀ y∈F,y∈C:=λy h=>by
  have:=(IG y).1 h;have hb:=hy.2 y this.1;exact (NH y).2 ⟨hb.1,hb.2,this.2⟩
 constructor
 .intro h y h0 h1 h2;have Po:∀ {l m:List Int},l.Nodup->(∀ x∈l,x∈m)->m.length<=l.length->m.Nodup->∀ x∈m,x∈l:=by
   intro l;induction l with
   | nil=>intro m _ _ hl _ x hx;cases m with
    | nil=>exact hx
    | cons a m=>simp at hl
   | cons a l ih=>
    intro m hn hs hl hm x hx;have hn':=List.nodup_cons.1 hn;have ha:a∈m:=hs a ag;by_cases e:x=a
    .subst e;simp
    refine List.mem_cons_of_mem _ (ih (m:=m.erase a) hn'.2 (λy hy=>?_) ?_ (hm.erase _) x ((List.mem_erase_of_ne e).2 hx))
    .have:y≠a:=λe=>hn'.1 (by rw [<- e];exact hy);exact (List.mem_erase_of_ne this).2 (hs y (List.mem_cons_of_mem _ hy))
    rw [List.length_erase_of_mem ha];simp at hl;omega
  have:=Po hF SW aa SU y ((NH y).2 ⟨h0,h1,h2⟩);exact ((IG y).1 this).1
 intro h;have h1:F.length=C.length:=by
  refine Nat.le_antisymm ?_ ?_
  .exact SN hF SW
  exact SN SU λy hy=>by
   have:=(NH y).1 hy;exact (IG y).2 ⟨h y this.1 this.2.1 this.2.2,this.2.2⟩
 omega
theorem Qv {S:Int->Prop} {lo n:Int} (h0:0<=lo) (hn:lo<=n) (hS:S n):bC S lo (n+1)=bC S lo n ++ [n]:=by
 refine (ff (hi:=n+1) h0).ext (((ff (hi:=n) h0).append (c:=n) (d:=n+1) ⟨ag,aO⟩ aa aa aa)) λx=>?_;rw [dN h0,List.mem_append,dN h0,List.mem_singleton];constructor
 .rintro ⟨h1,h2,h3⟩;by_cases e:x=n
  .exact .inr e
  exact .inl ⟨h1,aa,h3⟩
 rintro (⟨h1,h2,h3⟩|rfl)
 .exact ⟨h1,aa,h3⟩
 exact ⟨hn,aa,hS⟩
theorem JC {S:Int->Prop} {lo a b:Int} (h0:0<=lo) (hab:a<=b) (h:∀ x,lo<=x->a<=x->x<b->¬ S x):bC S lo a=bC S lo b:=by
 refine (ff h0).ext (ff h0) λx=>?_;rw [dN h0,dN h0];constructor
 .rintro ⟨h1,h2,h3⟩;exact ⟨h1,aa,h3⟩
 rintro ⟨h1,h2,h3⟩;refine ⟨h1,?_,h3⟩;by_cases hx:x<a
 .exact hx
 exact absurd h3 (h x h1 aa h2)
theorem Mj {S:Int->Prop} {lo hi:Int} (h0:0<=lo) (h:hi<=lo):bC S lo hi=[]:=by
 cases h1:bC S lo hi with
 | nil=>rfl
 | cons x l=>
  have:=(dN h0 x).1 (by rw [h1];simp:x∈bC S lo hi);omega
def xN (S:Int->Prop) (lo:Int) (pre:List Int):Prop:=∃ n,pre=bC S lo n
def Ct (S:Int->Prop) (lo:Int) (pre:List Int):Prop:=∃ n,(∀ x,S x->x<n)/\pre=bC S lo n
def Yp (pre:List Int):Prop:=∀ x∈pre,x<4503599627370496
theorem xN.last {S:Int->Prop} {lo:Int} {pre:List Int} {y:Int} (h0:0<=lo) (h:xN S lo (pre ++ [y])):lo<=y/\S y/\pre=bC S lo y/\pre ++ [y]=bC S lo (y+1):=by
 obtain ⟨n,hn⟩:=h;have hr:=ff (S:=S) (hi:=n) h0;have hy:=(dN h0 y).1 (by rw [<- hn];simp:y∈bC S lo n);rw [<- hn] at hr;have hp:=List.pairwise_append.1 hr.1;have e1:pre=bC S lo y:=by
  refine (aG.ext (lo:=lo) (hi:=n) ⟨hp.1,λx hx=>hr.2 x (List.mem_append_left _ hx)⟩ (ff h0) λx=>?_);rw [dN h0];constructor
  .intro hx;have:=hp.2.2 x hx y ag;have hm:=(dN h0 x).1 (by rw [<- hn];exact List.mem_append_left _ hx:x∈bC S lo n);exact ⟨hm.1,aa,hm.2.2⟩
  rintro ⟨h1,h2,h3⟩;have hm:x∈pre ++ [y]:=by rw [hn,dN h0];exact ⟨h1,aa,h3⟩
  rcases List.mem_append.1 hm with hm|hm
  .exact hm
  simp at hm;omega
 exact ⟨hy.1,hy.2.2,e1,by rw [Qv h0 hy.1 hy.2.2,<- e1]⟩
theorem Pc {l:List Int} (hl:l.Pairwise (· < ·)) (x:Int):∀ {i:Nat} (hi:i<l.length),l[i]<x↔i<l.countP (λy=>decide (y<x)):=by
 induction l with
 | nil=>intro i hi;simp at hi
 | cons a l ih=>
  intro i hi;have hp:=List.pairwise_cons.1 hl;rw [List.countP_cons];cases i with
  | zero=>
   by_cases ha:a<x
   .simp [ha]
   have h0:l.countP (λy=>decide (y<x))=0:=by
    rw [List.countP_eq_zero];intro y hy;have:=hp.1 y hy;simp;omega
   simp [ha,h0]
  | succ i=>
   have:=ih hp.2 (i:=i) (by simpa using hi);by_cases ha:a<x
   .simp [ha,this]
   have h0:l.countP (λy=>decide (y<x))=0:=by
    rw [List.countP_eq_zero];intro y hy;have:=hp.1 y hy;simp;omega
   rw [h0] at this;simp [ha,h0,this]
theorem H9 {l:List Int} (hl:l.Pairwise (· < ·)) (x:Int) {i:Nat} (hi:i<l.length):l.getD i 0<x↔i<l.countP (λy=>decide (y<x)):=by
 have:=Pc hl x hi;simpa [List.getD_eq_getElem?_getD,List.getElem?_eq_getElem hi] using this
structure jU (p:Per) (lo:Int) (j:Nat) (u:Int) (pre:List Int):Prop where
 is:pre=bC p.mem lo u
 ge:lo<=u
 le:u<=max lo p.frm
 lo:∀ i,i<j->i<p.head.length->p.head.getD i 0<u
 hi:∀ i,j<=i->i<p.head.length->u<=p.head.getD i 0
theorem jU.start {p:Per} (h:p.WF) {lo:Int} (h0:0<=lo):jU p lo (p.head.countP (λy=>decide (y<lo))) lo []:=by
 refine ⟨(Mj h0 (Int.le_refl _)).symm,Int.le_refl _,aa,λi h1 h2=>(H9 h.head.1 lo h2).2 h1,λi h1 h2=>?_⟩;have:=H9 h.head.1 lo h2;omega
theorem jU.next {p:Per} (h:p.WF) {lo u:Int} {j:Nat} {pre:List Int} (h0:0<=lo) (ha:jU p lo j u pre) (hj:j<p.head.length) :
  pre ++ [p.head.getD j 0]=bC p.mem lo (p.head.getD j 0+1)/\jU p lo (j+1) (p.head.getD j 0+1) (pre ++ [p.head.getD j 0]):=by
 have hb:=jl h.head hj;have hu:=ha.hi j (Nat.le_refl _) hj;have hm:p.mem (p.head.getD j 0):=(Per.mem_lo hb.1 hb.2).2 (kH hj);have hge:=ha.ge;have e:pre ++ [p.head.getD j 0]=bC p.mem lo (p.head.getD j 0+1):=by
  rw [Qv h0 aa hm,ha.is]
  congr 1
  refine JC h0 hu λx h1 h2 h3 hx=>?_;have hx':=(Per.mem_lo hx.1 aa).1 hx;obtain ⟨i,hi,rfl⟩:=List.getElem_of_mem hx';rw [show p.head[i]=p.head.getD i 0 from by simp [hi]] at h2 h3;rcases Nat.lt_or_ge i j with h4|h4
  .have:=ha.lo i h4 hi;omega
  rcases Nat.lt_or_ge j i with h5|h5
  .have:=getD_lt h.head h5 hi;omega
  obtain rfl:i=j:=aa;omega
 refine ⟨e,e,aa,aa,λi h1 h2=>?_,λi h1 h2=>?_⟩
 .rcases Nat.lt_or_ge i j with h3|h3
  .have:=getD_lt h.head h3 hj;omega
  obtain rfl:i=j:=aa;omega
 have:=getD_lt h.head (show j<i by omega) h2;omega
theorem jU.done {p:Per} {lo u:Int} {j:Nat} {pre:List Int} (h0:0<=lo) (ha:jU p lo j u pre) (hj:p.head.length<=j):pre=bC p.mem lo (max lo p.frm):=by
 have hle:=ha.le;rw [ha.is];refine JC h0 hle λx h1 h2 h3 hx=>?_;have hx':=(Per.mem_lo hx.1 aa).1 hx;obtain ⟨i,hi,rfl⟩:=List.getElem_of_mem hx';rw [show p.head[i]=p.head.getD i 0 from by simp [hi]] at h2;have:=ha.lo i aa hi;omega
structure ig (p:Per) (lo base:Int) (j:Nat) (u:Int) (pre:List Int):Prop where
 is:pre=bC p.mem lo u
 ge:lo<=u
 bu:base<=u
 le:u<=base+p.period
 fb:p.frm<=base
 dv:(base-p.frm) % p.period=0
 lo:∀ i,i<j->i<p.cycle.length->base+p.cycle.getD i 0<u
 hi:∀ i,j<=i->i<p.cycle.length->u<=base+p.cycle.getD i 0
theorem JA {p:Per} (h:p.WF) {base x:Int} (fb:p.frm<=base) (dv:(base-p.frm) % p.period=0) (h1:base<=x) (h2:x<base+p.period):p.mem x↔x-base∈p.cycle:=by
 have:=h.frm;rw [Per.mem_hi aa aa];have e:(x-p.frm) % p.period=x-base:=by
  have hd:=Int.mul_ediv_cancel' (Int.dvd_of_emod_eq_zero dv);rw [show x-p.frm=(x-base)+p.period*((base-p.frm) / p.period) from aa,Int.add_mul_emod_self_left,Int.emod_eq_of_lt aa aa]
 rw [e]
theorem ig.start {p:Per} (h:p.WF) {lo t base:Int} {pre:List Int} (hp:pre=bC p.mem lo t) (hlo:lo<=t) (hb:base=t-(t-p.frm) % p.period) (ht:p.frm<=t) :
  ig p lo base (p.cycle.countP λy=>decide (y<t-base)) t pre:=by
 have h1:=h.per;have h2:=Int.emod_nonneg (t-p.frm) (show p.period≠0 by omega);have h3:=Int.emod_lt_of_pos (t-p.frm) (show 0<p.period by omega);have h4:=Int.emod_add_mul_ediv (t-p.frm) p.period;have h5:0<=p.period*((t-p.frm) / p.period):=Int.mul_nonneg aa (Int.ediv_nonneg aa aa);refine ⟨hp,hlo,aa,aa,aa,?_,λi g1 g2=>?_,λi g1 g2=>?_⟩
 .rw [show base-p.frm=p.period*((t-p.frm) / p.period) from by omega];exact Int.mul_emod_right _ _
 .have:=(H9 h.cyc.1 (t-base) g2).2 g1;omega
 have:=H9 h.cyc.1 (t-base) g2;omega
theorem ig.next {p:Per} (h:p.WF) {lo base u:Int} {j:Nat} {pre:List Int} (h0:0<=lo) (ha:ig p lo base j u pre) (hj:j<p.cycle.length) :
  pre ++ [base+p.cycle.getD j 0]=bC p.mem lo (base+p.cycle.getD j 0+1)/\ig p lo base (j+1) (base+p.cycle.getD j 0+1) (pre ++ [base+p.cycle.getD j 0]):=by
 have hb:=jl h.cyc hj;have hu:=ha.hi j (Nat.le_refl _) hj;have hge:=ha.ge;have eo:=ha.bu;have hfb:=ha.fb;have hf0:=h.frm;have hm:p.mem (base+p.cycle.getD j 0):=by
  rw [JA h ha.fb ha.dv aa aa,show base+p.cycle.getD j 0-base=p.cycle.getD j 0 from by omega];exact kH hj
 have e:pre ++ [base+p.cycle.getD j 0]=bC p.mem lo (base+p.cycle.getD j 0+1):=by
  rw [Qv h0 aa hm,ha.is]
  congr 1
  refine JC h0 hu λx h1 h2 h3 hx=>?_;rw [JA h ha.fb ha.dv aa aa] at hx;obtain ⟨i,hi,pV⟩:=List.getElem_of_mem hx;rw [show p.cycle[i]=p.cycle.getD i 0 from by simp [hi]] at pV;rcases Nat.lt_or_ge i j with h4|h4
  .have:=ha.lo i h4 hi;omega
  rcases Nat.lt_or_ge j i with h5|h5
  .have:=getD_lt h.cyc h5 hi;omega
  obtain rfl:i=j:=aa;omega
 refine ⟨e,e,aa,aa,aa,hfb,ha.dv,λi h1 h2=>?_,λi h1 h2=>?_⟩
 .rcases Nat.lt_or_ge i j with h3|h3
  .have:=getD_lt h.cyc h3 hj;omega
  obtain rfl:i=j:=aa;omega
 have:=getD_lt h.cyc (show j<i by omega) h2;omega
theorem ig.round {p:Per} (h:p.WF) {lo base u:Int} {j:Nat} {pre:List Int} (h0:0<=lo) (ha:ig p lo base j u pre) (hj:p.cycle.length<=j) :
  ig p lo (base+p.period) 0 (base+p.period) pre:=by
 have hge:=ha.ge;have eo:=ha.bu;have hfb:=ha.fb;have hf0:=h.frm;have hle:=ha.le;have vp:=h.per;refine ⟨?_,aa,Int.le_refl _,aa,aa,?_,λi h1 h2=>aa,λi h1 h2=>?_⟩
 .rw [ha.is];refine JC h0 hle λx h1 h2 h3 hx=>?_;rw [JA h ha.fb ha.dv aa aa] at hx;obtain ⟨i,hi,pV⟩:=List.getElem_of_mem hx;rw [show p.cycle[i]=p.cycle.getD i 0 from by simp [hi]] at pV;have:=ha.lo i aa hi;omega
 .rw [show base+p.period-p.frm=base-p.frm+p.period from aa,Int.add_emod_right];exact ha.dv
 have:=jl h.cyc h2;omega
theorem x0_ {p:Per} (hc:p.cycle=[]) {lo:Int} {pre:List Int} (hp:pre=bC p.mem lo (max lo p.frm)) (h0:0<=lo):Ct p.mem lo pre:=by
 have key:∀ x,p.mem x->x<p.frm:=λx hx=>by
  rcases Int.lt_or_le x p.frm with h1|h1
  .exact h1
  have:=(Per.mem_hi hx.1 h1).1 hx;rw [hc] at this;simp at this
 exact ⟨max lo p.frm,λx hx=>by have:=key x hx;omega,hp⟩
theorem Wg {l:List Int} (hl:l.Pairwise (· < ·)) (d x:Int):x∈l.drop (l.countP λy=>decide (y<d))↔x∈l/\d<=x:=by
 constructor
 .intro h;obtain ⟨i,hi,rfl⟩:=List.getElem_of_mem h;have hi':l.countP (λy=>decide (y<d))+i<l.length:=by simp at hi;omega
  rw [List.getElem_drop];refine ⟨List.getElem_mem _,?_⟩;have:=(Pc hl d hi');omega
 rintro ⟨h,hd⟩;obtain ⟨i,hi,rfl⟩:=List.getElem_of_mem h;have hn:=(Pc hl d hi);have hge:l.countP (λy=>decide (y<d))<=i:=aa;rw [List.mem_iff_getElem];refine ⟨i-l.countP (λy=>decide (y<d)),aO,?_⟩;rw [List.getElem_drop];congr 1;omega
def aj (p:Per) (s:Int):List Int:=p.cycle.map λc=>(p.frm+c-s) % p.period
theorem UZ {p:Per} (h:p.WF) (s:Int):(aj p s).Nodup:=by
 refine List.pairwise_map.2 (h.cyc.nodup.imp_of_mem λ{a b} ha hb hab e=>hab ?_);have ha':=h.cyc.2 a ha;have hb':=h.cyc.2 b hb;exact Wj (a:=p.frm-s) ha'.1 ha'.2 hb'.1 hb'.2 (by rw [show p.frm-s+a=p.frm+a-s by omega,show p.frm-s+b=p.frm+b-s by omega];exact e)
theorem Qc {p:Per} (h:p.WF) {s:Int} (hs:p.frm<=s) (y:Int):y∈aj p s↔0<=y/\y<p.period/\p.mem (s+y):=by
 have hf:=h.frm;have hp:=h.per;unfold aj;rw [List.mem_map];constructor
 .rintro ⟨c,hc,rfl⟩;have h1:=Int.emod_nonneg (p.frm+c-s) (show p.period≠0 by omega);have h2:=Int.emod_lt_of_pos (p.frm+c-s) (show 0<p.period by omega);refine ⟨h1,h2,?_⟩;rw [Per.mem_hi aa aa,show s+(p.frm+c-s) % p.period-p.frm=(s-p.frm)+(p.frm+c-s) % p.period by omega,ue,show s-p.frm+(p.frm+c-s)=c by omega];have hb:=h.cyc.2 c hc;rw [Int.emod_eq_of_lt hb.1 hb.2];exact hc
 rintro ⟨h0,h1,hm⟩;rw [Per.mem_hi aa aa] at hm;refine ⟨_,hm,?_⟩;rw [show p.frm+(s+y-p.frm) % p.period-s=(p.frm-s)+(s+y-p.frm) % p.period by omega,ue,show p.frm-s+(s+y-p.frm)=y by omega,Int.emod_eq_of_lt h0 h1]
theorem xj_ {p:Per} (h:p.WF) {day:Int} (h0:0<=day) {cy:List Int} (uT:cy.Pairwise (· < ·)) (hm:∀ y,y∈cy↔y∈aj p (max p.frm day)) :
  (Per.mk (p.head.drop (p.head.countP λy=>decide (y<day))) (max p.frm day) p.period cy).WF/\
  ∀ n,(Per.mk (p.head.drop (p.head.countP λy=>decide (y<day))) (max p.frm day) p.period cy).mem n↔p.mem n/\day<=n:=by
 have hf:=h.frm;have hp:=h.per;have gS:cH (λn=>p.mem n/\day<=n) (max p.frm day) p.period:=λn hn=>by
  have:=h.pfrom n aa;constructor
  .rintro ⟨h1,h2⟩;exact ⟨this.1 h1,aa⟩
  rintro ⟨h1,h2⟩;exact ⟨this.2 h1,aa⟩
 refine Ic (S:=λn=>p.mem n/\day<=n) aa hp (λn hn=>hn.1.1) gS ⟨h.head.1.sublist (List.drop_sublist _ _),λx hx=>?_⟩ ⟨uT,λx hx=>?_⟩ (λn h1 h2=>?_) (λn h1 h2=>?_)
 .have:=(Wg h.head.1 day x).1 hx;have hb:=h.head.2 x this.1;omega
 .have:=(Qc h aa x).1 ((hm x).1 hx);omega
 .rw [Wg h.head.1];by_cases hlt:n<p.frm
  .rw [Per.mem_lo h1 hlt]
  constructor
  .rintro ⟨hx,_⟩;have:=h.head.2 n hx;omega
  rintro ⟨_,hd⟩;omega
 rw [hm,Qc h aa];exact ⟨λh=>⟨h.2.2,aa⟩,λh=>⟨h1,h2,h.1⟩⟩
theorem ub_ (S T:Int->Prop) (n:Nat):cnt S n=cnt (λx=>S x/\T x) n+cnt (λx=>S x/\¬ T x) n:=by
 induction n with
 | zero=>rfl
 | succ n ih=>
  simp only [cnt];by_cases h1:S n <;> by_cases h2:T n <;> simp [h1,h2] <;> omega
def gn (k:Int) (S T:Int->Prop) (n:Int):Prop:=if k=0 then S n/\T n else if k=1 then S n\/T n else S n/\¬ T n
theorem Fz (S T:Int->Prop):gn 0 S T=λn=>S n/\T n:=by funext n;simp [gn]
theorem JR (S T:Int->Prop):gn 1 S T=λn=>S n\/T n:=by funext n;simp [gn]
theorem VN (S T:Int->Prop):gn 2 S T=λn=>S n/\¬ T n:=by funext n;simp [gn]
theorem VP {k:Int} {S T:Int->Prop} {f d:Int} (h1:cH S f d) (h2:cH T f d):cH (gn k S T) f d:=by
 intro n hn;unfold gn;rw [h1 n hn,h2 n hn]
section
variable {qa qb:Per} {S T:Int->Prop} (ha:bP qa S) (hb:bP qb T) {st:Int} (hs1:qa.frm<=st) (hs2:qb.frm<=st) {xs ys:List Int}
 (hx:aG 0 qa.period xs) (hy:aG 0 qb.period ys) (jS:∀ y,y∈xs↔0<=y/\y<qa.period/\qa.mem (st+y)) (sa:∀ y,y∈ys↔0<=y/\y<qb.period/\qb.mem (st+y))
theorem zi {q:Per} (hq:q.WF) {st:Int} (hs:q.frm<=st) {xs:List Int} (jS:∀ y,y∈xs↔0<=y/\y<q.period/\q.mem (st+y)) {n:Int} (hn:st<=n):(n-st) % q.period∈xs↔q.mem n:=by
 have hp:=hq.per;rw [jS,(hq.pfrom.mono hs).shift hp hn];exact ⟨λh=>h.2.2,λh=>⟨Int.emod_nonneg _ aa,Int.emod_lt_of_pos _ aa,h⟩⟩
include ha hb hs1 hs2 hx hy jS sa
theorem Qq (n:Int):n∈hZ xs ys qa.period qb.period st↔st<=n/\n<st+aS qa.period qb.period/\S n/\T n:=by
 rw [v8_ ha.wf.per hb.wf.per hx hy];constructor
 .rintro ⟨h1,h2,h3,h4⟩;exact ⟨h1,h2,(ha.mem n).1 ((zi ha.wf hs1 jS h1).1 h3),(hb.mem n).1 ((zi hb.wf hs2 sa h1).1 h4)⟩
 rintro ⟨h1,h2,h3,h4⟩;exact ⟨h1,h2,(zi ha.wf hs1 jS h1).2 ((ha.mem n).2 h3),(zi hb.wf hs2 sa h1).2 ((hb.mem n).2 h4)⟩
theorem xq_ (h0:0<=st):((bC (λn=>S n/\T n) 0 st).length:Int)+(hZ xs ys qa.period qb.period st).length=cnt (λn=>S n/\T n) (st+aS qa.period qb.period).toNat:=by
 have hl:=yX ha.wf.per hb.wf.per;rw [<- ws_ (S:=λn=>S n/\T n) (st+aS qa.period qb.period).toNat (l:=bC (λn=>S n/\T n) 0 st ++ hZ xs ys qa.period qb.period st),List.length_append]
 .omega
 .refine List.nodup_append.2 ⟨(ff (Int.le_refl _)).nodup,q8_ ha.wf.per hb.wf.per hx hy,λx hx' y hy' e=>?_⟩;have h1:=(dN (Int.le_refl _) x).1 hx';have h2:=(Qq ha hb hs1 hs2 hx hy jS sa y).1 hy';omega
 intro n;rw [List.mem_append,dN (Int.le_refl _),Qq ha hb hs1 hs2 hx hy jS sa,Int.toNat_of_nonneg aa];constructor
 .rintro (⟨h1,h2,h3⟩|⟨h1,h2,h3⟩)
  .exact ⟨h1,aa,h3⟩
  exact ⟨aa,h2,h3⟩
 rintro ⟨h1,h2,h3⟩;by_cases e:n<st
 .exact .inl ⟨h1,e,h3⟩
 exact .inr ⟨aa,h2,h3⟩
end
theorem XF {q:Per} {S:Int->Prop} (h:bP q S) {st L:Int} (hs:q.frm<=st) (hL:1<=L) (hd:q.period∣L):bd_ q st+q.cycle.length*(L / q.period)=cnt S (st+L).toNat:=by
 have hp:=h.wf.per;have hf:=h.wf.frm;have hq:0<=L / q.period:=Int.ediv_nonneg aa aa;have e:=O8 h.wf hs (L / q.period).toNat;rw [Int.toNat_of_nonneg hq,Int.ediv_mul_cancel hd,H5 h.wf (show 0<=st+L by omega),Vy h.mem] at e;rw [e,Int.mul_comm]
theorem MO {U:Int->Prop} {st L:Int} (h0:0<=st) (hL:1<=L) (hU:∀ n,U n->0<=n) (hp:cH U st L) :
  (Per.mk (bC U 0 st) st L ((bC U st (st+L)).map (· - st))).WF/\∀ n,(Per.mk (bC U 0 st) st L ((bC U st (st+L)).map (· - st))).mem n↔U n:=by
 have hr:=((ff (S:=U) (lo:=st) (hi:=st+L) h0).map_add (-st)).mono (lo':=0) (hi':=L) aa aa;refine Ic (S:=U) h0 hL hU hp (ff (Int.le_refl _)) hr (λn h1 h2=>?_) (λn h1 h2=>?_)
 .rw [dN (Int.le_refl _)];exact ⟨λh=>h.2.2,λh=>⟨h1,h2,h⟩⟩
 rw [List.mem_map];constructor
 .rintro ⟨x,hx,rfl⟩;have:=(dN h0 x).1 hx;rw [show st+(x-st)=x from by omega];exact this.2.2
 intro h;exact ⟨st+n,(dN h0 _).2 ⟨aa,aa,h⟩,aa⟩
theorem vl_ {U:Int->Prop} {a b c:Int} (h0:0<=a) (hab:a<=b) (hbc:b<=c):bC U a c=bC U a b ++ bC U b c:=by
 have h1:0<=b:=aa;refine (ff (hi:=c) h0).ext ((ff (hi:=b) h0).append (ff (lo:=b) (hi:=c) h1) (Int.le_refl _) hab hbc) λx=>?_;rw [dN h0,List.mem_append,dN h0,dN h1];constructor
 .rintro ⟨g1,g2,g3⟩;by_cases e:x<b
  .exact .inl ⟨g1,e,g3⟩
  exact .inr ⟨aa,g2,g3⟩
 rintro (⟨g1,g2,g3⟩|⟨g1,g2,g3⟩)
 .exact ⟨g1,aa,g3⟩
 exact ⟨aa,g2,g3⟩
theorem ti_ {U:Int->Prop} {st c:Int} (h0:0<=st) (hc:st<=c):(bC U 0 c).countP (λy=>decide (y<st))=(bC U 0 st).length/\(bC U 0 c).take (bC U 0 st).length=bC U 0 st/\(bC U 0 c).drop (bC U 0 st).length=bC U st c:=by
 rw [vl_ (Int.le_refl _) h0 hc];refine ⟨?_,ag,ag⟩;rw [List.countP_append,Nd (ff (Int.le_refl _)) (Int.le_refl _),Hu (ff h0) (Int.le_refl _)];omega
end
section
open Go.Lib
theorem of_ {l:List Int} (h:l.Pairwise (·<=·)):∀ m,m<=l.length->(compactUpTo l.toArray m).Pairwise (· < ·)/\∀ x,x∈compactUpTo l.toArray m↔∃ j,j<m/\l.toArray[j]! = x:=by
 have hle:∀ i j,i<=j->j<l.length->l.toArray[i]!<=l.toArray[j]!:=λi j gD hj=>by
  rcases Nat.lt_or_ge i j with h1|h1
  .have:=List.pairwise_iff_getElem.1 h i j aa hj h1;rw [getElem!_pos l.toArray i aO,getElem!_pos l.toArray j (by simpa using hj)];simpa using this
  obtain rfl:i=j:=aa;exact Int.le_refl _
 intro m;induction m with
 | zero=>intro _;exact ⟨by simp [compactUpTo],λx=>by simp [compactUpTo]⟩
 | succ m ih=>
  intro hm;obtain ⟨h1,h2⟩:=ih aa;rw [compactUpTo_succ];by_cases hk:keeps l.toArray m=true
  .rw [if_pos hk];refine ⟨List.pairwise_append.2 ⟨h1,ag,λx hx y hy=>?_⟩,λx=>?_⟩
   .obtain rfl:y=l.toArray[m]!:=by simpa using hy
    obtain ⟨j,hj,rfl⟩:=(h2 x).1 hx;have hm0:m≠0:=aa;have hne:l.toArray[m]!≠l.toArray[m-1]!:=by
     unfold keeps at hk;rcases of_decide_eq_true hk with h|h
     .exact absurd h hm0
     exact h
    have g1:=hle j (m-1) aa aa;have g2:=hle (m-1) m aa aa;omega
   rw [List.mem_append,h2,List.mem_singleton];constructor
   .rintro (⟨j,hj,rfl⟩|rfl)
    .exact ⟨j,aa,rfl⟩
    exact ⟨m,aa,rfl⟩
   rintro ⟨j,hj,rfl⟩;by_cases e:j=m
   .subst e;exact .inr rfl
   exact .inl ⟨j,aa,rfl⟩
  rw [if_neg hk,List.append_nil];refine ⟨h1,λx=>?_⟩;rw [h2];have hn:¬ (m=0\/l.toArray[m]!≠l.toArray[m-1]!):=λhh=>hk (by unfold keeps;exact decide_eq_true hh);have hm0:m≠0:=λe=>hn (.inl e);have he:l.toArray[m]! = l.toArray[m-1]!:=Classical.byContradiction λe=>hn (.inr e);constructor
  .rintro ⟨j,hj,rfl⟩;exact ⟨j,aa,rfl⟩
  rintro ⟨j,hj,rfl⟩;by_cases e:j=m
  .subst e;exact ⟨j-1,aa,he.symm⟩
  exact ⟨j,aa,rfl⟩
theorem m2_ {l:List Int} (h:l.Pairwise (·<=·)):(compact l).Pairwise (· < ·)/\∀ x,x∈compact l↔x∈l:=by
 obtain ⟨h1,h2⟩:=of_ h l.length (Nat.le_refl _);refine ⟨h1,λx=>(h2 x).trans ?_⟩;rw [List.mem_iff_getElem];constructor
 .rintro ⟨j,hj,rfl⟩;exact ⟨j,hj,by rw [getElem!_pos l.toArray j (by simpa using hj)];simp⟩
 rintro ⟨j,hj,rfl⟩;exact ⟨j,hj,by rw [getElem!_pos l.toArray j (by simpa using hj)];simp⟩
theorem m1_ {l:List Int}:(compact l).length<=l.length:=by
 unfold compact compactUpTo;rw [List.length_map];exact Nat.le_trans (List.length_filter_le _ _) ag
end
section
theorem UF {p:Per} (hw:p.WF) (vp:∀ d,1<=d->d<p.period->¬ cH p.mem p.frm d) (OG:p.frm=0\/¬ (p.mem (p.frm-1)↔p.mem (p.frm-1+p.period))):bP p p.mem:=by
 refine ⟨hw,λ_=>Iff.rfl,λd hd he=>?_,λf hf hp=>?_⟩
 .rcases Int.lt_or_le d p.period with h|h
  .exact absurd (hw.pfrom.of_ev hw.per aa he) (vp d hd h)
  exact h
 rcases Int.lt_or_le f p.frm with h|h
 .rcases OG with h1|h1
  .omega
  exact absurd (hp (p.frm-1) aa) h1
 exact h
theorem zt_ {p:Per} {m:Int} (hw:p.WF) (hc:p.cycle=[m]):∀ d,1<=d->d<p.period->¬ cH p.mem p.frm d:=by
 intro d h1 h2 hp;have h0:=hw.frm;have hm:=hw.cyc.2 m (by rw [hc];simp);have h3:=(hp (p.frm+m) aa).1 (((hw.cyc_mem m).1 (by rw [hc];simp)).2.2);rw [Per.mem_hi aa aa,hc,List.mem_singleton,show p.frm+m+d-p.frm=m+d from by omega] at h3;have h4:(m+d) % p.period=m % p.period:=by rw [h3,Int.emod_eq_of_lt hm.1 hm.2]
 have h5:d % p.period=0:=by
  have:=Int.emod_emod_of_dvd;have h6:=Int.emod_eq_emod_iff_emod_sub_eq_zero.1 h4;rwa [show m+d-m=d from by omega] at h6
 rw [Int.emod_eq_of_lt aa h2] at h5;omega
def QY (p:Per):Bool:=
 decide (0<=p.frm) && decide (1<=p.period) && (p.head.all λx=>decide (0<=x/\x<p.frm)) && (p.cycle.all λx=>decide (0<=x/\x<p.period)) && decide (p.head.Pairwise (· < ·)) && decide (p.cycle.Pairwise (· < ·))
theorem y7_ {p:Per} (h:QY p=true):p.WF:=by
 unfold QY at h;simp only [Bool.and_eq_true,decide_eq_true_eq,List.all_eq_true] at h;obtain ⟨⟨⟨⟨⟨h1,h2⟩,h3⟩,h4⟩,h5⟩,h6⟩:=h;exact ⟨h1,h2,⟨h5,h3⟩,⟨h6,h4⟩⟩
def XA (p:Per):Bool:=QY p && ((List.range (p.period.toNat-1)).all λd=>(List.range p.period.toNat).any λx=>decide (p.mem (p.frm+x)) != decide (p.mem (p.frm+x+(d+1:Nat)))) &&
 (decide (p.frm=0) || decide (p.mem (p.frm-1)) != decide (p.mem (p.frm-1+p.period)))
theorem Ef {p:Per} (h:XA p=true):bP p p.mem:=by
 unfold XA at h;simp only [Bool.and_eq_true,List.all_eq_true,List.mem_range,List.any_eq_true,Bool.or_eq_true,decide_eq_true_eq] at h;obtain ⟨⟨h1,h2⟩,h3⟩:=h;refine UF (y7_ h1) (λd hd hp hf=>?_) (h3.imp id λh h'=>?_)
 .obtain ⟨x,_,hx⟩:=h2 (d.toNat-1) aa;have h4:=hf (p.frm+x) aa;rw [show ((d.toNat-1+1:Nat):Int)=d from by omega] at hx;rw [bne_iff_ne] at hx;exact hx (decide_eq_decide.2 h4)
 rw [bne_iff_ne] at h;exact h (decide_eq_decide.2 h')
abbrev ev (m n:Int):Per:=⟨[],0,n,[m]⟩
abbrev J4:Per:=⟨[1,3],4,4,[1,3]⟩
abbrev nine:Per:=⟨[2,9],30,3,[]⟩
abbrev GQ:Per:=⟨[0],1,3,[1]⟩
abbrev far:Per:=⟨[],0,549755813888,[5]⟩
theorem Q8 {m n:Int} (h0:0<=m) (h1:m<n):(ev m n).WF:=⟨Int.le_refl _,by show 1<=n;omega,aG.nil,ag,by simpa using ⟨h0,h1⟩⟩
theorem Qe {m n:Int} (h0:0<=m) (h1:m<n):bP (ev m n) (ev m n).mem:=UF (Q8 h0 h1) (zt_ (Q8 h0 h1) rfl) (.inl rfl)
theorem GD {m n x:Int}:(ev m n).mem x↔0<=x/\x % n=m:=by
 unfold Per.mem;constructor
 .rintro ⟨h0,h1⟩;rw [if_neg (by show ¬ x<0;omega)] at h1;exact ⟨h0,by simpa using h1⟩
 rintro ⟨h0,h1⟩;refine ⟨h0,?_⟩;rw [if_neg (by show ¬ x<0;omega)];simpa using h1
theorem s1:bP (ev 1 2) J4.mem:=(Ef aF).congr λn=>by
 unfold Per.mem;simp only [List.mem_cons,List.not_mem_nil,or_false,J4,nine,GQ,ev];(repeat' split) <;> first|omega|(simp only [and_false,iff_false,false_iff,not_and,not_or];omega)|(simp;done)|(simp;omega)
theorem s2:bP ⟨[],0,1,[]⟩ (Per.mk [] 5 7 []).mem:=(Ef aF).congr λn=>by
 unfold Per.mem;simp
theorem s3:bP ⟨[2,9],10,1,[]⟩ nine.mem:=(Ef aF).congr λn=>by
 unfold Per.mem;simp only [List.mem_cons,List.not_mem_nil,or_false,J4,nine,GQ,ev];(repeat' split) <;> first|omega|(simp only [and_false,iff_false,false_iff,not_and,not_or];omega)|(simp;done)|(simp;omega)
theorem s4:bP GQ GQ.mem:=Ef aF
theorem s5:bP (ev 0 6) (λn=>(ev 0 2).mem n/\(ev 0 3).mem n):=(Qe aa aa).congr λn=>by
 simp only [GD];omega
theorem s6:bP ⟨[],0,6,[2,4]⟩ (λn=>(ev 0 2).mem n/\¬ (ev 0 3).mem n):=(Ef aF).congr λn=>by
 simp only [GD];unfold Per.mem;simp only [List.mem_cons,List.not_mem_nil,or_false,J4,nine,GQ,ev];(repeat' split) <;> first|omega|(simp only [and_false,iff_false,false_iff,not_and,not_or];omega)|(simp;done)|(simp;omega)
theorem s7:bP (ev 2 3) (λn=>0<=n/\(ev 0 3).mem (n-2)):=(Qe aa aa).congr λn=>by
 simp only [GD];omega
end
end Kal
section
variable {b:Bool}{a f x:Int}{l:List Int}{B k n:Nat}{h v:Go.Value}{W W' w w':Go.World}
namespace Go.Proofs
section
open Go.Shelf
def Tryz.lays189_ren:Go.Shelf.Ren:=⟨fun|189=>69|125=>114|257=>115|128=>156|129=>157|294=>158|295=>159|296=>160|297=>161|298=>162|299=>163|216=>164|300=>165|301=>166|328=>197|329=>193|330=>194|331=>198|332=>199|215=>127|343=>232|n=>n,fun|28=>35|3=>3|46=>171|0=>0|51=>198|53=>200|4=>4|183=>192|182=>191|131=>119|5=>5|9=>9|218=>231|222=>235|228=>258|229=>259|n=>n,fun|n=>n⟩
theorem Tryz.lays189:Go.Proofs.Lays.n189 Tryz.prog Tryz.lays189_ren:={
 mixed:=by kernel_rfl
 f125:=Tryz.func114.trans (congrArg some (by kernel_rfl))
 f128:=Tryz.func156.trans (congrArg some (by kernel_rfl))
 f129:=Tryz.func157.trans (congrArg some (by kernel_rfl))
 f189:=Tryz.func69.trans (congrArg some (by kernel_rfl))
 f215:=Tryz.func127.trans (congrArg some (by kernel_rfl))
 f216:=Tryz.func164.trans (congrArg some (by kernel_rfl))
 f257:=Tryz.func115.trans (congrArg some (by kernel_rfl))
 f294:=Tryz.func158.trans (congrArg some (by kernel_rfl))
 f295:=Tryz.func159.trans (congrArg some (by kernel_rfl))
 f296:=Tryz.func160.trans (congrArg some (by kernel_rfl))
 f297:=Tryz.func161.trans (congrArg some (by kernel_rfl))
 f298:=Tryz.func162.trans (congrArg some (by kernel_rfl))
 f299:=Tryz.func163.trans (congrArg some (by kernel_rfl))
 f300:=Tryz.func165.trans (congrArg some (by kernel_rfl))
 f301:=Tryz.func166.trans (congrArg some (by kernel_rfl))
 f328:=Tryz.func197.trans (congrArg some (by kernel_rfl))
 f329:=Tryz.func193.trans (congrArg some (by kernel_rfl))
 f330:=Tryz.func194.trans (congrArg some (by kernel_rfl))
 f331:=Tryz.func198.trans (congrArg some (by kernel_rfl))
 f332:=Tryz.func199.trans (congrArg some (by kernel_rfl))
 f343:=Tryz.func232.trans (congrArg some (by kernel_rfl))
 t0:=Tryz.underlying0
 a0:=Tryz.isAgg0
 z0:=Tryz.sizeOf0
 v0:=Tryz.zeroValue0
 t3:=Tryz.underlying3
 a3:=Tryz.isAgg3
 z3:=Tryz.sizeOf3
 v3:=Tryz.zeroValue3
 t4:=Tryz.underlying4
 a4:=Tryz.isAgg4
 z4:=Tryz.sizeOf4
 v4:=Tryz.zeroValue4
 t5:=Tryz.underlying5
 a5:=Tryz.isAgg5
 z5:=Tryz.sizeOf5
 v5:=Tryz.zeroValue5
 t9:=Tryz.underlying9
 a9:=Tryz.isAgg9
 z9:=Tryz.sizeOf9
 v9:=Tryz.zeroValue9
 t28:=Tryz.underlying35
 a28:=Tryz.isAgg35
 z28:=Tryz.sizeOf35
 v28:=Tryz.zeroValue35
 t46:=Tryz.underlying171
 a46:=Tryz.isAgg171
 z46:=Tryz.sizeOf171
 v46:=Tryz.zeroValue171
 t51:=Tryz.underlying198
 a51:=Tryz.isAgg198
 z51:=Tryz.sizeOf198
 v51:=Tryz.zeroValue198
 t53:=Tryz.underlying200
 a53:=Tryz.isAgg200
 z53:=Tryz.sizeOf200
 v53:=Tryz.zeroValue200
 t131:=Tryz.underlying119
 a131:=Tryz.isAgg119
 z131:=Tryz.sizeOf119
 v131:=Tryz.zeroValue119
 t182:=Tryz.underlying191
 a182:=Tryz.isAgg191
 z182:=Tryz.sizeOf191
 v182:=Tryz.zeroValue191
 t183:=Tryz.underlying192
 a183:=Tryz.isAgg192
 z183:=Tryz.sizeOf192
 v183:=Tryz.zeroValue192
 t218:=Tryz.underlying231
 a218:=Tryz.isAgg231
 z218:=Tryz.sizeOf231
 v218:=Tryz.zeroValue231
 t222:=Tryz.underlying235
 a222:=Tryz.isAgg235
 z222:=Tryz.sizeOf235
 v222:=Tryz.zeroValue235
 t228:=Tryz.underlying258
 a228:=Tryz.isAgg258
 z228:=Tryz.sizeOf258
 v228:=Tryz.zeroValue258
 t229:=Tryz.underlying259
 a229:=Tryz.isAgg259
 z229:=Tryz.sizeOf259
 v229:=Tryz.zeroValue259 }
open Go.Sort Go.RowKit in
theorem Tryz.slices_Sort_int (blk off cap:Nat) (zs:List Int) (w:World) (hH:Holds (Value.int .i64) w blk off zs.toArray) (hblk:blk<w.heap.size) (hsz:zs.length<4611686018427387904) :
  Calls Tryz.prog 69 #[.slice (some ⟨blk,off,none⟩) zs.length cap] w λe w'=>
   e=.returned (.tuple #[])/\∃ n os,w'=grow (putRow (Value.int .i64) (Sort.ahead w n) blk off (zs.mergeSort λx y=>decide (x<=y)).toArray) os:=Any.slices_Sort_int Tryz.lays189 blk off cap zs w hH hblk hsz
def Tryz.lays264_ren:Go.Shelf.Ren:=⟨fun|264=>218|n=>n,fun|53=>200|46=>171|n=>n,fun|n=>n⟩
theorem Tryz.lays264:Go.Proofs.Lays.n264 Tryz.prog Tryz.lays264_ren:={
 mixed:=by kernel_rfl
 f264:=Tryz.func218.trans (congrArg some (by kernel_rfl))
 t46:=Tryz.underlying171
 a46:=Tryz.isAgg171
 z46:=Tryz.sizeOf171
 v46:=Tryz.zeroValue171
 t53:=Tryz.underlying200
 a53:=Tryz.isAgg200
 z53:=Tryz.sizeOf200
 v53:=Tryz.zeroValue200 }
open Go.RowKit Go.Lib in
theorem Tryz.bits_Mul64 (x y:Nat) (hx:x<18446744073709551616) (hy:y<18446744073709551616) (w:World) :
  Calls Tryz.prog 218 #[.int .u64 x,.int .u64 y] w λe w'=>e=.returned (.tuple #[.int .u64 ((x*y / 18446744073709551616:Nat):Int),.int .u64 ((x*y % 18446744073709551616:Nat):Int)])/\w'=w:=Any.bits_Mul64 Tryz.lays264 x y hx hy w
def Tryz.lays111_ren:Go.Shelf.Ren:=⟨fun|111=>191|n=>n,fun|28=>35|3=>3|4=>4|0=>0|n=>n,fun|n=>n⟩
theorem Tryz.lays111:Go.Proofs.Lays.n111 Tryz.prog Tryz.lays111_ren:={
 mixed:=by kernel_rfl
 f111:=Tryz.func191.trans (congrArg some (by kernel_rfl))
 t0:=Tryz.underlying0
 a0:=Tryz.isAgg0
 z0:=Tryz.sizeOf0
 v0:=Tryz.zeroValue0
 t3:=Tryz.underlying3
 a3:=Tryz.isAgg3
 z3:=Tryz.sizeOf3
 v3:=Tryz.zeroValue3
 t4:=Tryz.underlying4
 a4:=Tryz.isAgg4
 z4:=Tryz.sizeOf4
 v4:=Tryz.zeroValue4
 t28:=Tryz.underlying35
 a28:=Tryz.isAgg35
 z28:=Tryz.sizeOf35
 v28:=Tryz.zeroValue35 }
open Go.RowKit Go.Lib in
theorem Tryz.slices_Equal_int (b1 o1 n c b2 o2 m d:Nat) (xs ys:List Int) (w:World) (hx:n<=xs.length) (hy:m<=ys.length) (hbig:n<=9223372036854775807) (rn:m<=9223372036854775807) (hc1:∀ j,j<xs.length->w.cell? ⟨b1,o1+j,none⟩=some (.int .i64 (xs.getD j 0))) (hc2:∀ j,j<ys.length->w.cell? ⟨b2,o2+j,none⟩=some (.int .i64 (ys.getD j 0))) :
  Calls Tryz.prog 191 #[.slice (some ⟨b1,o1,none⟩) n c,.slice (some ⟨b2,o2,none⟩) m d] w λe w'=>e=.returned (.bool (xs.take n == ys.take m))/\∃ q,w'=w.drewN q:=Any.slices_Equal_int Tryz.lays111 b1 o1 n c b2 o2 m d xs ys w hx hy hbig rn hc1 hc2
open Go.RowKit Go.Lib in
theorem Tryz.slices_Equal_int_empty (a1 a2:Option Addr) (c m d:Nat) (w:World) (rn:m<=9223372036854775807) :
  Calls Tryz.prog 191 #[.slice a1 0 c,.slice a2 m d] w λe w'=>e=.returned (.bool (decide (m=0)))/\w'=w:=Any.slices_Equal_int_empty Tryz.lays111 a1 a2 c m d w rn
def Tryz.laysNm215_ren:Go.Shelf.Ren:=⟨fun|15=>96|n=>n,fun|22=>35|3=>3|4=>4|n=>n,fun|n=>n⟩
theorem Tryz.laysNm215:Go.Proofs.Lays2.n15 Tryz.prog Tryz.laysNm215_ren:={
 mixed:=by kernel_rfl
 f15:=Tryz.func96.trans (congrArg some (by kernel_rfl))
 t3:=Tryz.underlying3
 a3:=Tryz.isAgg3
 z3:=Tryz.sizeOf3
 v3:=Tryz.zeroValue3
 t4:=Tryz.underlying4
 a4:=Tryz.isAgg4
 z4:=Tryz.sizeOf4
 v4:=Tryz.zeroValue4
 t22:=Tryz.underlying35
 a22:=Tryz.isAgg35
 z22:=Tryz.sizeOf35
 v22:=Tryz.zeroValue35
 i3:=by kernel_rfl }
open Go.RowKit Go.Lib in
theorem Tryz.slices_Clone_int (b off n c:Nat) (zs:List Int) (w:World) (hz:n<=zs.length) (hbig:n*8<=140737488355328) (hc:∀ j,j<zs.length->w.cell? ⟨b,off+j,none⟩=some (.int .i64 (zs.getD j 0))) :
  Calls Tryz.prog 96 #[.slice (some ⟨b,off,none⟩) n c] w λe w'=>∃ v',e=.returned v'/\w'.ownsRow w.heap.size 3 1 v' n ((zs.take n).map (Value.int .i64))/\v'≠.slice none 0 0/\Below w.heap.size w w':=Any.slices_Clone_int Tryz.laysNm215 b off n c zs w hz hbig hc
open Go.RowKit Go.Lib in
theorem Tryz.slices_Clone_int_nil (n c:Nat) (w:World) :
  Calls Tryz.prog 96 #[.slice none n c] w λe w'=>e=.returned (.slice none 0 0)/\w'=w:=Any.slices_Clone_int_nil Tryz.laysNm215 n c w
open Go.RowKit Go.Lib in
theorem Tryz.slices_Clone_int_zero (a:Addr) (c:Nat) (w:World) :
  Calls Tryz.prog 96 #[.slice (some a) 0 c] w λe w'=>∃ v',e=.returned v'/\w'.ownsRow w.heap.size 3 1 v' 0 []/\v'≠.slice none 0 0/\Below w.heap.size w w':=Any.slices_Clone_int_zero Tryz.laysNm215 a c w
def Tryz.laysNm220_ren:Go.Shelf.Ren:=⟨fun|20=>230|n=>n,fun|22=>35|3=>3|4=>4|0=>0|n=>n,fun|n=>n⟩
theorem Tryz.laysNm220:Go.Proofs.Lays2.n20 Tryz.prog Tryz.laysNm220_ren:={
 mixed:=by kernel_rfl
 f20:=Tryz.func230.trans (congrArg some (by kernel_rfl))
 t0:=Tryz.underlying0
 a0:=Tryz.isAgg0
 z0:=Tryz.sizeOf0
 v0:=Tryz.zeroValue0
 t3:=Tryz.underlying3
 a3:=Tryz.isAgg3
 z3:=Tryz.sizeOf3
 v3:=Tryz.zeroValue3
 t4:=Tryz.underlying4
 a4:=Tryz.isAgg4
 z4:=Tryz.sizeOf4
 v4:=Tryz.zeroValue4
 t22:=Tryz.underlying35
 a22:=Tryz.isAgg35
 z22:=Tryz.sizeOf35
 v22:=Tryz.zeroValue35
 i3:=by kernel_rfl }
open Go.RowKit Go.Lib Go.Sort in
theorem Tryz.slices_Compact_int (blk off cap:Nat) (zs:List Int) (w:World) (hH:Holds (Value.int .i64) w blk off zs.toArray) (hsz:zs.length<=9223372036854775807) (aQ:zs.length<=cap) :
  Calls Tryz.prog 230 #[.slice (some ⟨blk,off,none⟩) zs.length cap] w λe w'=>e=.returned (.slice (some ⟨blk,off,none⟩) (Lib.compact zs).length cap)/\∃ q,w'=putRow (Value.int .i64) (Sort.ahead w q) blk off (Lib.compact zs ++ List.replicate (zs.length-(Lib.compact zs).length) 0).toArray:=Any.slices_Compact_int Tryz.laysNm220 blk off cap zs w hH hsz aQ
open Go.RowKit Go.Lib Go.Sort in
theorem Tryz.slices_Compact_int_empty (a:Option Addr) (cap:Nat) (w:World) :
  Calls Tryz.prog 230 #[.slice a 0 cap] w λe w'=>e=.returned (.slice a 0 cap)/\w'=w:=Any.slices_Compact_int_empty Tryz.laysNm220 a cap w
def Tryz.laysNm225_ren:Go.Shelf.Ren:=⟨fun|25=>216|31=>164|32=>246|37=>127|n=>n,fun|22=>35|3=>3|4=>4|40=>171|0=>0|n=>n,fun|n=>n⟩
theorem Tryz.laysNm225:Go.Proofs.Lays2.n25 Tryz.prog Tryz.laysNm225_ren:={
 mixed:=by kernel_rfl
 f25:=Tryz.func216.trans (congrArg some (by kernel_rfl))
 f31:=Tryz.func164.trans (congrArg some (by kernel_rfl))
 f32:=Tryz.func246.trans (congrArg some (by kernel_rfl))
 f37:=Tryz.func127.trans (congrArg some (by kernel_rfl))
 t0:=Tryz.underlying0
 a0:=Tryz.isAgg0
 z0:=Tryz.sizeOf0
 v0:=Tryz.zeroValue0
 t3:=Tryz.underlying3
 a3:=Tryz.isAgg3
 z3:=Tryz.sizeOf3
 v3:=Tryz.zeroValue3
 t4:=Tryz.underlying4
 a4:=Tryz.isAgg4
 z4:=Tryz.sizeOf4
 v4:=Tryz.zeroValue4
 t22:=Tryz.underlying35
 a22:=Tryz.isAgg35
 z22:=Tryz.sizeOf35
 v22:=Tryz.zeroValue35
 t40:=Tryz.underlying171
 a40:=Tryz.isAgg171
 z40:=Tryz.sizeOf171
 v40:=Tryz.zeroValue171 }
open Go.RowKit Go.Lib in
theorem Tryz.slices_BinarySearch_int (b off n c:Nat) (zs:List Int) (x:Int) (w:World) (hz:n<=zs.length) (hbig:n<4611686018427387904) (hc:∀ j,j<zs.length->w.cell? ⟨b,off+j,none⟩=some (.int .i64 (zs.getD j 0))) (hs:(zs.take n).Pairwise (·<=·)) :
  Calls Tryz.prog 216 #[.slice (some ⟨b,off,none⟩) n c,.int .i64 x] w λe w'=>e=.returned (.tuple #[.int .i64 ((zs.take n).countP (·<x):Nat),.bool ((zs.take n).contains x)])/\∃ q,w'=w.drewN q:=Any.slices_BinarySearch_int Tryz.laysNm225 b off n c zs x w hz hbig hc hs
open Go.RowKit Go.Sort in
theorem Tryz.slices_Sort_int_none (p:Option Addr) (cap:Nat) (w:World) :
  Calls Tryz.prog 69 #[.slice p 0 cap] w λe w'=>e=.returned (.tuple #[])/\w'=w:=Any.slices_Sort_int_none Tryz.lays189 p cap w
open Go.RowKit Go.Lib in
theorem Tryz.slices_BinarySearch_int_empty (a:Option Addr) (c:Nat) (x:Int) (w:World) :
  Calls Tryz.prog 216 #[.slice a 0 c,.int .i64 x] w λe w'=>e=.returned (.tuple #[.int .i64 0,.bool false])/\w'=w:=Any.slices_BinarySearch_int_empty Tryz.laysNm225 a c x w
open Go.RowKit Go.Lib in
theorem Tryz.slices_Equal_int_lens (a1 a2:Option Addr) (n c m d:Nat) (w:World) (hnm:n≠m) :
  Calls Tryz.prog 191 #[.slice a1 n c,.slice a2 m d] w λe w'=>e=.returned (.bool false)/\w'=w:=Any.slices_Equal_int_lens Tryz.lays111 a1 a2 n c m d w hnm
end
end Go.Proofs
namespace Go.Proofs.YtbmgmlbmgogeaaaGreat
section
open Go.RowKit Kal
theorem Er (w:World):Below w.heap.size w w:=Below.refl _ _
theorem Ea (h:Below w.heap.size w W) (o:Obj):Below w.heap.size w (W.alloc o):=h.alloc h.size o
theorem Ed (h:Below w.heap.size w W):Below w.heap.size w W.drew:=h.drew
theorem Below.drewN (h:Below B w W) (n:Nat):Below B w (W.drewN n):=⟨h.os,h.tape,h.output,h.size,h.block⟩
theorem En (h:Below w.heap.size w W) (n:Nat):Below w.heap.size w (W.drewN n):=Below.drewN h n
theorem Es (h:Below w.heap.size w W) {a:Addr} (ha:w.heap.size<=a.block) (v:Value):Below w.heap.size w (W.setCell a v):=h.setCell ha v
theorem Et (h:Below w.heap.size w W) (h':Below W.heap.size W W'):Below w.heap.size w W':=h.trans (h'.mono h.size)
theorem xE (h:Below B w W:=by (repeat' (with_reducible first|assumption|apply Er|apply Ea|apply Ed|apply En|(refine Es ?_ (by first|(simp;done)|(simp;omega)|omega) _)|refine Et ?_ (by assumption)))):Below B w W:=h
theorem al.cell (h:Below w.heap.size w W) {a:Addr} (hc:w.cell? a=some v):W.cell? a=some v:=(h.cell (World.block_lt_of_cell? w _ hc)).trans hc
theorem fy {a:Addr} (h:w.cell? a=some v) (o:Obj):(w.alloc o).cell? a=some v:=al.cell (Ea (Er w) o) h
theorem Bq {a b:Addr} (h:w.cell? a=some v) (hne:a.block≠b.block) (u:Value):(w.setCell b u).cell? a=some v:=
 (World.cell?_of_block (Below.heap_setCell w b u a.block hne)).trans h
theorem Below.cell' (h:Below B w w') {b o:Nat} (hc:w.cell? ⟨b,o,none⟩=some v) (hb:b<B):w'.cell? ⟨b,o,none⟩=some v:=(h.cell (p:=⟨b,o,none⟩) hb).trans hc
theorem fJ {w1:World} (hb:Below B W w1):(∀ b o,b<B->w1.cell? ⟨b,o,none⟩=W.cell? ⟨b,o,none⟩)/\(∀ b o,b<B->w1.frozen? ⟨b,o,none⟩=W.frozen? ⟨b,o,none⟩):=
 ⟨λb o h=>hb.cell (p:=⟨b,o,none⟩) h,λb o h=>hb.frozen (p:=⟨b,o,none⟩) h⟩
def aP (x:Int):Prop:=-9223372036854775808<=x/\x<=9223372036854775807
theorem AO (h:aP x):IntKind.i64.wrap x=x:=IntWalk.i64_in _ ⟨h.1,h.2⟩
structure Ints (w:World) (v:Value) (l:List Int):Prop where
 is:∃ a c,v=.slice a l.length c/\l.length<=c/\c<=9223372036854775807/\(l=[]\/∃ b o,a=some ⟨b,o,none⟩/\∀ i,i<l.length->w.cell? ⟨b,o+i,none⟩=some (.int .i64 (l.getD i 0)))
 len:l.length<=17592186044416
 rng:∀ x∈l,aP x
theorem Ints.ext (h:Ints w v l) (hb:Below w.heap.size w W):Ints W v l:=by
 obtain ⟨⟨a,c,rfl,h1,h2,h3⟩,h4,h5⟩:=h;refine ⟨⟨a,c,rfl,h1,h2,h3.imp id ?_⟩,h4,h5⟩;rintro ⟨b,o,rfl,hc⟩;exact ⟨b,o,rfl,λi hi=>al.cell hb (hc i hi)⟩
theorem Ints.nil (w:World):Ints w (.slice none 0 0) []:=⟨⟨none,0,rfl,ag,aa,.inl rfl⟩,ag,ag⟩
structure bX (w:World) (h c:Value) (p:Per):Prop where
 hd:Ints w h p.head
 cy:Ints w c p.cycle
theorem bX.ext {c:Value} {p:Per} (hp:bX w h c p) (hb:Below w.heap.size w W):bX W h c p:=⟨hp.hd.ext hb,hp.cy.ext hb⟩
theorem sL {k:IntKind} {b:Int} (h:a=b):Ending.returned (.int k a)=.returned (.int k b):=by rw [h]
theorem bT {a:Bool} (h:a=b):Ending.returned (.bool a)=.returned (.bool b):=by rw [h]
theorem QI {α:Type} [DecidableEq α] (l:List α):((l.length:Int) == 0)=decide (l=[]):=by
 cases l with
 | nil=>rfl
 | cons a l=>simp;omega
theorem JF (n m:Int) (hm:1<=m):(n.tmod m<0->n.tmod m+m=n % m)/\(0<=n.tmod m->n.tmod m=n % m)/\-m<n.tmod m/\n.tmod m<m:=by
 have h0:=Int.emod_nonneg n (show m≠0 by omega);have h1:=Int.emod_lt_of_pos n (show 0<m by omega);rw [Int.tmod_eq_emod]
 split
 .omega
 rw [show (m.natAbs:Int)=m from by omega];rename_i h;have h2:n % m≠0:=λh3=>h (.inr (Int.dvd_of_emod_eq_zero h3));omega
theorem drop_cons (h:k<l.length):l.drop k=l.getD k 0 :: l.drop (k+1):=by
 rw [List.drop_eq_getElem_cons h];simp [h]
theorem td_ {P:Program} {f:FuncId} {args:Array Value}
  (h:Calls P f args (w.drewN n) λe w'=>e=.returned v/\w.drewN n=w'):Calls P f args (w.drewN n) λe w''=>e=.returned v/\∃ m,w''=w.drewN m:=
 h.mono λ_ _ ⟨he,hm⟩=>⟨he,n,hm.symm⟩
theorem Iw {P:Program} {f:FuncId} {args:Array Value} {a:Nat}
  (h:Calls P f args (w.drewN (a+n)) λe w'=>e=.returned v/\∃ m,w'=(w.drewN (a+n)).drewN m) :
  Calls P f args (w.drewN (a+n)) λe w''=>e=.returned v/\∃ m,w''=w.drewN (a+m):=
 h.mono λ_ _ ⟨he,m,hm⟩=>⟨he,n+m,by rw [hm,World.drewN_drewN,Nat.add_assoc]⟩
theorem mc_ {P:Program} {f:FuncId} {args:Array Value} {a:Nat}
  (h:Calls P f args (w.drewN (a+n)) λe w'=>e=.returned v/\w.drewN (a+n)=w') :
  Calls P f args (w.drewN (a+n)) λe w''=>e=.returned v/\∃ m,w''=w.drewN (a+m):=
 h.mono λ_ _ ⟨he,hm⟩=>⟨he,n,hm.symm⟩
theorem qh_ (n m:Int) (w:World) (hm:1<=m) (ic:m<=4611686018427387904) :
  Calls Tryz.prog 217 #[.int .i64 n,.int .i64 m] w λe w'=>e=.returned (.int .i64 (n % m))/\w=w':=by
 obtain ⟨h1,h2,h3,h4⟩:=JF n m hm;have H1:=ad h1;have H2:=ad h2;clear h1 h2
 go_in
 go_wp2
 .go_ret;exact ⟨sL (H1.o (by assumption)),rfl⟩
 go_ret;exact ⟨sL (H2.o (by assumption)),rfl⟩
def gw:Int->Int->List Int->Bool
 | _,_,[]=>true
 | last,lim,n :: l=>if n<=last\/lim<=n then false else gw n lim l
theorem qi_ (last lim:Int) (l:List Int):gw last lim l=true↔aG (last+1) lim l:=by
 induction l generalizing last with
 | nil=>simp [gw,aG.nil]
 | cons n l ih=>
  rw [gw]
  split
  .rename_i h;simp only [Bool.false_eq_true,false_iff];intro hr;have:=hr.2 n ag;omega
  rename_i h;rw [ih];constructor
  .intro hr;refine ⟨List.pairwise_cons.2 ⟨λx hx=>by have:=hr.2 x hx;omega,hr.1⟩,λx hx=>?_⟩;rcases List.mem_cons.1 hx with rfl|hx
   .omega
   have:=hr.2 x hx;omega
  intro hr;have hp:=List.pairwise_cons.1 hr.1;exact ⟨hp.2,λx hx=>⟨by have:=hp.1 x hx;omega,(hr.2 x (List.mem_cons_of_mem _ hx)).2⟩⟩
theorem Vk (v:Value) (l:List Int) (lim:Int) (w:World) (hv:Ints w v l) :
  Calls Tryz.prog 126 #[v,.int .i64 lim] w λe w'=>e=.returned (.bool (gw (-1) lim l))/\w=w':=by
 obtain ⟨⟨a,c,rfl,hlc,hc,bY⟩,hlen,hb⟩:=hv
 go_in
 go_wp2
 go_loop [5,7,10] (λlast n i=>∃ k:Nat,k<=l.length/\i=.int .i64 k/\∃ x y:Int,last=.int .i64 x/\gw (-1) lim l=gw x lim (l.drop k)/\True) (λ_ _ i=>l.length-(intOf i).toNat)
 .exact ⟨0,aa,rfl,-1,0,rfl,ag,trivial⟩
 obtain ⟨k,hk,rfl,x,y,rfl,hr,_⟩:=hrel;have HR:=ad hr;clear hr;by_cases hlt:k<l.length
 .rcases bY with h|⟨b,o,rfl,hcell⟩
  .subst h;simp at hlt
  have hc1:=hcell k hlt;have hd:=ad (drop_cons hlt);have hm:=hb (l.getD k 0) (by simp [hlt]);unfold aP at hm;generalize l.getD k 0=z at *;clear hcell hb;by_cases hz:z<=x\/lim<=z
  .have hf:gw (-1) lim l=false:=by rw [HR.o,hd.o,gw,if_pos hz]
   have HF:=ad hf;clear hf;go_wp2;all_goals (go_ret;exact ⟨bT HF.o.symm,rfl⟩)
  have hf:gw (-1) lim l=gw z lim (l.drop (k+1)):=by rw [HR.o,hd.o,gw,if_neg hz]
  have HF:=ad hf;clear hf;have hz':x<z/\z<lim:=aa;clear hz;go_wp2
  go_round
  .exact ⟨k+1,aa,by go_num,z,0,rfl,HF.o,trivial⟩
  simp [intOf];omega
 go_wp2;go_ret;exact ⟨bT (by rw [HR.o,List.drop_eq_nil_of_le aa];rfl),rfl⟩
def validB (p:Per):Bool:=decide (0<=p.frm) && decide (p.frm<=1099511627776) && decide (1<=p.period) && decide (p.period<=1099511627776) && decide ((p.head.length+p.cycle.length:Int)<=1048576) && gw (-1) p.frm p.head && gw (-1) p.period p.cycle
structure Valid (p:Per):Prop where
 wf:p.WF
 frm:p.frm<=1099511627776
 per:p.period<=1099511627776
 len:p.head.length+p.cycle.length<=1048576
theorem oL (p:Per):validB p=true↔Valid p:=by
 unfold validB;simp only [Bool.and_eq_true,decide_eq_true_eq,qi_];constructor
 .rintro ⟨⟨⟨⟨⟨⟨h1,h2⟩,h3⟩,h4⟩,h5⟩,h6⟩,h7⟩;exact ⟨⟨h1,h3,h6,h7⟩,h2,h4,aa⟩
 rintro ⟨⟨h1,h3,h6,h7⟩,h2,h4,h5⟩;exact ⟨⟨⟨⟨⟨⟨h1,h2⟩,h3⟩,h4⟩,aa⟩,h6⟩,h7⟩
theorem qO (h c:Value) (p:Per) (w:World) (hp:bX w h c p) :
  Calls Tryz.prog 92 #[.agg #[h,.int .i64 p.frm,.int .i64 p.period,c]] w λe w'=>e=.returned (.bool (validB p))/\Below w.heap.size w w':=by
 have OM:=λo=>(hp.hd.ext (Ea (Er w) o));have hc':=λo=>(hp.cy.ext (Ea (Er w) o));obtain ⟨⟨⟨ha,aQ,rfl,I2,hh2,hh3⟩,hh4,_⟩,⟨ca,aI,rfl,hc1,hc2,hc3⟩,hc4,_⟩:=hp;obtain ⟨head,frm,period,cycle⟩:=p;dsimp only at *;clear hh3 hc3
 go_in
 go_wp2_with (go_at_call 126;first|((with_reducible refine (Vk _ head _ _ (OM _)).mono ?_);rintro e w' ⟨rfl,rfl⟩)|((with_reducible refine (Vk _ cycle _ _ (hc' _)).mono ?_);rintro e w' ⟨rfl,rfl⟩))
 all_goals (go_ret;refine ⟨bT ?_,(Below.refl _ _).alloc (Nat.le_refl _) _⟩;simp [validB, *])
 all_goals omega
theorem sJ (v:Value) (l:List Int) (x:Int) (w:World) (hv:Ints w v l) (hs:l.Pairwise (· < ·)) :
  Calls Tryz.prog 216 #[v,.int .i64 x] w λe w'=>e=.returned (.tuple #[.int .i64 ((l.countP (λy=>decide (y<x)):Nat):Int),.bool (decide (x∈l))])/\∃ n,w'=w.drewN n:=by
 obtain ⟨⟨a,c,rfl,h1,h2,h3⟩,h4,h5⟩:=hv;rcases h3 with h3|⟨b,o,rfl,hcell⟩
 .subst h3;exact (Tryz.slices_BinarySearch_int_empty a c x w).mono λe w' ⟨he,hw⟩=>⟨by rw [he];simp,0,hw⟩
 have:=Tryz.slices_BinarySearch_int b o l.length c l x w (Nat.le_refl _) aa hcell (by rw [List.take_length];exact hs.imp λh=>aa);rw [List.take_length] at this;exact this.mono λe w' ⟨he,hw⟩=>⟨by rw [he];simp,hw⟩
abbrev an (h c:Value) (f p:Int):Value:=.agg #[h,.int .i64 f,.int .i64 p,c]
def bW (p:Per) (n:Int):Bool:=if n<p.frm then decide (n∈p.head) else decide ((n-p.frm) % p.period∈p.cycle)
theorem Ep {p:Per} {n:Int} (hn:0<=n):bW p n=true↔p.mem n:=by
 unfold bW Per.mem
 split <;> simp [*]
theorem Bt (h c:Value) (p:Per) (n:Int) (w:World) (hp:bX w h c p) (hw:p.WF) (h1:p.frm<=1125899906842624) (h2:p.period<=1125899906842624) (hn:0<=n) (B7:n<=9007199254740992) :
  Calls Tryz.prog 245 #[.agg #[h,.int .i64 p.frm,.int .i64 p.period,c],.int .i64 n] w λe w'=>e=.returned (.bool (bW p n))/\Below w.heap.size w w':=by
 have f0:=hw.frm;have p0:=hw.per;have hs1:=hw.head.1;have hs2:=hw.cyc.1;have hl:∀ W,Below w.heap.size w W->Ints W h p.head:=λW hb=>hp.hd.ext hb;have hc:∀ W,Below w.heap.size w W->Ints W c p.cycle:=λW hb=>hp.cy.ext hb;obtain ⟨head,frm,period,cycle⟩:=p;dsimp only at *;clear hp;by_cases hlt:n<frm
 .have hm:bW ⟨head,frm,period,cycle⟩ n=decide (n∈head):=by unfold bW;rw [if_pos hlt]
  have HM:=ad hm;clear hm
  go_in
  go_wp2_with (go_at_call 216;(refine (sJ _ head _ _ (hl _ xE) hs1).mono ?_);rintro e w' ⟨rfl,nq,rfl⟩)
  go_ret;exact ⟨bT HM.o.symm,xE⟩
 have hm:bW ⟨head,frm,period,cycle⟩ n=decide ((n-frm) % period∈cycle):=by unfold bW;rw [if_neg hlt]
 have HM:=ad hm;clear hm;have hge:frm<=n:=aa;clear hlt
 go_in
 go_wp2_with fail
 go_quiet (fail)
 go_wp2_with (go_at_call 216;(refine (sJ _ cycle _ _ (hc _ xE) hs2).mono ?_);rintro e w' ⟨rfl,nq,rfl⟩)
 go_ret;exact ⟨bT HM.o.symm,xE⟩
theorem prod_bound {n q k:Int} (hq:1<=q) (h0:0<=n-f) (hk0:0<=k) (hk:k<=q):0<=(n-f) / q*k/\(n-f) / q*k<=n-f:=by
 have h1:0<=(n-f) / q:=Int.ediv_nonneg h0 aa;have h2:=Int.mul_nonneg h1 hk0;have h3:(n-f) / q*k<=(n-f) / q*q:=Int.mul_le_mul_of_nonneg_left hk h1;have h4:=Int.emod_add_ediv_mul (n-f) q;have h5:=Int.emod_nonneg (n-f) (show q≠0 by omega);omega
theorem Vv (h c:Value) (p:Per) (n:Int) (w:World) (hp:bX w h c p) (hw:p.WF) (h1:p.frm<=1125899906842624) (h2:p.period<=1125899906842624) (hn:0<=n) (B7:n<=9007199254740992) :
  Calls Tryz.prog 225 #[.agg #[h,.int .i64 p.frm,.int .i64 p.period,c],.int .i64 n] w λe w'=>e=.returned (.int .i64 (bd_ p n))/\Below w.heap.size w w':=by
 have f0:=hw.frm;have p0:=hw.per;have hs1:=hw.head.1;have hs2:=hw.cyc.1;have hlc:=hw.cyc.length_le aa;have hl:∀ W,Below w.heap.size w W->Ints W h p.head:=λW hb=>hp.hd.ext hb;have hc:∀ W,Below w.heap.size w W->Ints W c p.cycle:=λW hb=>hp.cy.ext hb;by_cases hlt:n<=p.frm
 .have HM:=ad (show bd_ p n=_ by unfold bd_;rw [if_pos hlt]);clear hp
  go_in
  go_wp2_with (go_at_call 216;(refine (sJ _ p.head _ _ (hl _ xE) hs1).mono ?_);rintro e w' ⟨rfl,nq,rfl⟩)
  go_ret;exact ⟨sL HM.o.symm,xE⟩
 have HM:=ad (show bd_ p n=_ by unfold bd_;rw [if_neg hlt]);have hge:p.frm<n:=aa;obtain ⟨hb1,hb2⟩:=prod_bound (n:=n) (f:=p.frm) (k:=p.cycle.length) p0 aa aa aa;have hk2:=Int.ofNat_le.2 (List.countP_le_length (p:=λy=>decide (y<(n-p.frm) % p.period)) (l:=p.cycle));have fA:=hp.hd.len;have hl2:=hp.cy.len;obtain ⟨⟨⟨ha,aQ,rfl,_,_,_⟩,_,_⟩,⟨ca,aI,rfl,_,_,_⟩,_,_⟩:=hp;clear hlt
 go_in
 go_wp2_with fail
 go_quiet ((go_at_call 216;exact Calls.quiet_of (sJ _ p.cycle _ _ (hc _ xE) hs2)))
 go_wp2_with fail
 go_quiet (fail)
 go_wp2
 go_ret;refine ⟨sL ?_,xE⟩;rw [HM.o]
theorem t1_ (h c:Value) (p:Per) (n:Int) (w:World) (hp:bX w h c p) (hw:p.WF) (h1:p.frm<=1125899906842624) (h2:p.period<=1125899906842624) (hn:0<=n) (B7:n<=9223372036854775807) :
  Calls Tryz.prog 245 #[.agg #[h,.int .i64 p.frm,.int .i64 p.period,c],.int .i64 n] w λe w'=>e=.returned (.bool (bW p n))/\Below w.heap.size w w':=by
 have f0:=hw.frm;have p0:=hw.per;have hs1:=hw.head.1;have hs2:=hw.cyc.1;have hl:∀ W,Below w.heap.size w W->Ints W h p.head:=λW hb=>hp.hd.ext hb;have hc:∀ W,Below w.heap.size w W->Ints W c p.cycle:=λW hb=>hp.cy.ext hb;obtain ⟨head,frm,period,cycle⟩:=p;dsimp only at *;clear hp;by_cases hlt:n<frm
 .have hm:bW ⟨head,frm,period,cycle⟩ n=decide (n∈head):=by unfold bW;rw [if_pos hlt]
  have HM:=ad hm;clear hm
  go_in
  go_wp2_with (go_at_call 216;(refine (sJ _ head _ _ (hl _ xE) hs1).mono ?_);rintro e w' ⟨rfl,nq,rfl⟩)
  go_ret;exact ⟨bT HM.o.symm,xE⟩
 have hm:bW ⟨head,frm,period,cycle⟩ n=decide ((n-frm) % period∈cycle):=by unfold bW;rw [if_neg hlt]
 have HM:=ad hm;clear hm;have hge:frm<=n:=aa;clear hlt
 go_in
 go_wp2_with fail
 go_quiet (fail)
 go_wp2_with (go_at_call 216;(refine (sJ _ cycle _ _ (hc _ xE) hs2).mono ?_);rintro e w' ⟨rfl,nq,rfl⟩)
 go_ret;exact ⟨bT HM.o.symm,xE⟩
theorem za_ (h c:Value) (p:Per) (n:Int) (w:World) (hp:bX w h c p) (hn:aP n) :
  Calls Tryz.prog 215 #[.agg #[h,.int .i64 p.frm,.int .i64 p.period,c],.int .i64 n] w λe w'=>e=.returned (.bool (validB p && decide (0<=n) && bW p n))/\Below w.heap.size w w':=by
 have hl:∀ W,Below w.heap.size w W->bX W h c p:=λW hb=>hp.ext hb;clear hp;unfold aP at hn;by_cases hv:validB p=true
 .have hV:=(oL p).1 hv;have HV:=ad hV;clear hV;by_cases h0:0<=n
  .skip
   go_in
   go_wp2_with (first|(go_at_call 92;refine (qO h c p _ (hl _ xE)).mono ?_;rintro e w1 ⟨rfl,hb1⟩;obtain ⟨hc1,gh⟩:=fJ hb1)|(go_at_call 245;refine (t1_ h c p n _ (hl _ xE) HV.o.wf (by have:=HV.o.frm;omega) (by have:=HV.o.per;omega) h0 aa).mono ?_;rintro e w2 ⟨rfl,hb2⟩))
   go_ret;exact ⟨bT (by simp [hv,h0]),xE⟩
  have Nq:decide (0<=n)=false:=by simpa using h0
  go_in
  go_wp2_with (go_at_call 92;refine (qO h c p _ (hl _ xE)).mono ?_;rintro e w1 ⟨rfl,hb1⟩;obtain ⟨hc1,gh⟩:=fJ hb1)
  go_ret;exact ⟨bT (by simp [Nq]),xE⟩
 have hv':validB p=false:=by simpa using hv
 clear hv
 go_in
 go_wp2_with (go_at_call 92;refine (qO h c p _ (hl _ xE)).mono ?_;rintro e w1 ⟨rfl,hb1⟩;obtain ⟨hc1,gh⟩:=fJ hb1)
 go_ret;exact ⟨bT (by simp [hv']),xE⟩
theorem U6 (h c:Value) (p:Per) (w:World) (hp:bX w h c p) :
  Calls Tryz.prog 130 #[.agg #[h,.int .i64 p.frm,.int .i64 p.period,c]] w λe w'=>e=.returned (.bool (validB p && decide (p.cycle=[])))/\Below w.heap.size w w':=by
 have hl:∀ W,Below w.heap.size w W->bX W h c p:=λW hb=>hp.ext hb;obtain ⟨_,⟨ca,aI,rfl,_,_,_⟩,_,_⟩:=hp
 go_in
 go_wp2_with (go_at_call 92;refine (qO _ _ p _ (hl _ xE)).mono ?_;rintro e w1 ⟨rfl,hb1⟩;obtain ⟨hc1,gh⟩:=fJ hb1)
 all_goals (go_ret;refine ⟨bT ?_,xE⟩;simp [QI, *])
def zl (p:Per):Bool:=validB p && decide (p.cycle=[]) && decide (p.head=[])
theorem uh_ (h c:Value) (p:Per) (w:World) (hp:bX w h c p) :
  Calls Tryz.prog 99 #[.agg #[h,.int .i64 p.frm,.int .i64 p.period,c]] w λe w'=>e=.returned (.bool (zl p))/\Below w.heap.size w w':=by
 have hl:∀ W,Below w.heap.size w W->bX W h c p:=λW hb=>hp.ext hb;obtain ⟨⟨ha,aQ,rfl,_,_,_⟩,_,_⟩:=hp.hd;clear hp;cases hv:(validB p && decide (p.cycle=[])) with
 | true=>
  go_in
  go_wp2_with (go_at_call 130;refine (U6 _ _ p _ (hl _ xE)).mono ?_;rintro e w1 ⟨he,hb1⟩;rw [hv] at he;subst he;obtain ⟨hc1,gh⟩:=fJ hb1)
  all_goals (go_ret;refine ⟨bT ?_,xE⟩;rw [zl,hv];simp [QI])
 | false=>
  go_in
  go_wp2_with (go_at_call 130;refine (U6 _ _ p _ (hl _ xE)).mono ?_;rintro e w1 ⟨he,hb1⟩;rw [hv] at he;subst he;obtain ⟨hc1,gh⟩:=fJ hb1)
  all_goals (go_ret;refine ⟨bT ?_,xE⟩;rw [zl,hv];simp [QI])
theorem JI (n m:Int) (w:World) (hm:1<=m) (ic:m<=4611686018427387904) :
  Calls Tryz.prog 256 #[.int .i64 n,.int .i64 m] w λe w'=>e=.returned (.int .i64 (n % m))/\w=w':=by
 obtain ⟨h1,h2,h3,h4⟩:=JF n m hm;have H1:=ad h1;have H2:=ad h2;clear h1 h2
 go_in
 go_wp2
 .go_ret;exact ⟨sL (H1.o (by assumption)),rfl⟩
 go_ret;exact ⟨sL (H2.o (by assumption)),rfl⟩
theorem no_ (n:Int) (w:World) (h0:0<=n) (h1:n<=9223372036854775807) :
  Calls Tryz.prog 211 #[.int .i64 n] w λe w'=>e=.returned (.int .u64 n)/\w=w':=by
 go_in
 go_wp2;go_ret;exact ⟨ag,rfl⟩
theorem zf (a b:Int) (w:World) (ha:1<=a) (ha1:a<=9223372036854775807) (hb:1<=b) (hb1:b<=9223372036854775807) :
  Calls Tryz.prog 176 #[.int .i64 a,.int .i64 b] w λe w'=>e=.returned (.int .i64 (Int.gcd a b:Nat))/\∃ n,w'=w.drewN n:=by
 have hg:=nL (b:=b) ha;have hg2:=wi (a:=a) hb;generalize hgd:((Int.gcd a b:Nat):Int)=g at *;have HG:=ad hgd;clear hgd
 go_in
 go_wp2_with (go_at_call 211;refine (no_ _ _ aa aa).mono ?_;rintro e w' ⟨rfl,rfl⟩)
 go_loopw [5,6] (λvx vy wr=>∃ x y:Int,vx=.int .u64 x/\vy=.int .u64 y/\0<=x/\x<=9223372036854775807/\0<=y/\y<=9223372036854775807/\Int.gcd x y=Int.gcd a b/\∃ n,wr=w.drewN n) (λ_ vy _=>(intOf vy).toNat)
 .exact ⟨a,b,rfl,rfl,aa,ha1,aa,hb1,rfl,0,rfl⟩
 obtain ⟨x,y,rfl,rfl,hx0,hx1,xz,hy1,FD,n,rfl⟩:=hrel;have HX:=ad FD;clear FD;by_cases hz:y=0
 .subst hz;have Cb:x=g:=by have:=gcd_zero hx0;rw [HX.o,HG.o] at this;exact this.symm
  have Bo:=ad Cb;clear Cb;have hxb:¬ 9223372036854775807<x:=aa;go_wp2;go_ret;exact ⟨sL Bo.o,n,rfl⟩
 have hs:=Qg hx0 (show 0<y by omega);rw [HX.o] at hs;have HS:=ad hs;clear hs;have hm0:=Int.emod_nonneg x (show y≠0 by omega);have hm1:=Int.emod_lt_of_pos x (show 0<y by omega);have hzb:(y != 0)=true:=by rw [bne_iff_ne];omega
 have oq:0<y:=aa;clear hz;go_wp2_with fail;go_quiet (fail)
 go_wp2
 go_roundw
 .exact ⟨y,x % y,rfl,rfl,xz,hy1,hm0,aa,HS.o,_,World.drewN_drewN _ _ _⟩
 simp [intOf];omega
theorem UK (a m:Int) (w:World) (ha:0<=a) (IR:a<m) (hm:m<=1152921504606846976) (hg:Int.gcd a m=1) :
  Calls Tryz.prog 258 #[.int .i64 a,.int .i64 m] w λe w'=>e=.returned (.int .i64 (sc a m))/\∃ n,w'=w.drewN n:=by
 have HG:=ad hg;clear hg
 go_in
 go_wp2
 go_loopw [5,6,7,8] (λvx vy vs vt wr=>∃ x y s t:Int,vx=.int .i64 x/\vy=.int .i64 y/\vs=.int .i64 s/\vt=.int .i64 t/\EE a m x y s t/\∃ n,wr=w.drewN n) (λ_ vy _ _ _=>(intOf vy).toNat)
 .exact ⟨a,m,1,0,rfl,rfl,rfl,rfl,EE.start ha IR,0,rfl⟩
 obtain ⟨x,y,s,t,rfl,rfl,rfl,rfl,hE,n,rfl⟩:=hrel;have hx0:=hE.x0;have xz:=hE.y0;have jS:=hE.xm;have sa:=hE.ym;obtain ⟨hs1,hs2⟩:=hE.sb;obtain ⟨oi,xq⟩:=hE.tb;by_cases hz:y=0
 .subst hz;have HI:=ad (ze_ (UL hE HG.o aa));go_wp2_with (go_at_call 256;refine (JI _ _ _ aa aa).mono ?_;rintro e w' ⟨rfl,rfl⟩);go_ret;exact ⟨sL HI.o.symm,n,rfl⟩
 have oq:0<y:=aa;obtain ⟨cz,⟨h1,h2⟩,h3,h4,h5,h6,h7,h8⟩:=hE.step oq;have hs3:=cz.tb;have hzb:(y != 0)=true:=by rw [bne_iff_ne];omega
 have H7:=ad h7;clear hz h7;go_wp2_with fail
 repeat (go_quiet (fail);go_wp2_with fail)
 go_roundw
 .exact ⟨y,x-x / y*y,t,s-x / y*t,rfl,rfl,rfl,rfl,cz,_,rfl⟩
 have:=H7.o;simp [intOf];omega
theorem UP (lo y:Int) (w:World) (h0:0<=lo) (h1:lo<=18446744073709551615) (hy:1<=y) (hy1:y<=18446744073709551615) :
  Calls Tryz.prog 220 #[.int .u64 0,.int .u64 lo,.int .u64 y] w λe w'=>e=.returned (.tuple #[.int .u64 (lo / y),.int .u64 (lo % y)])/\∃ n,w'=w.drewN n:=by
 have hyb:(y == 0)=false:=by rw [beq_eq_false_iff_ne];omega
 have oq:0<y:=aa;have mh:0<=lo / y:=Int.ediv_nonneg h0 aa;have s9:lo / y<=lo:=Int.ediv_le_self _ h0
 go_in
 go_wp2_with fail
 go_quiet (fail)
 go_wp2
 go_ret2;exact ⟨rfl,_,rfl⟩
end
end Go.Proofs.YtbmgmlbmgogeaaaGreat
end
