/- Part 7 of the proof of the laws. -/
import Derived.Test.YtbmgmlbmgogeaaaGreatB6
import Derived.Test.YtbmgmlbmgogeaaaGreatB4
import Derived.Deep.Slices
import Derived.Deep.Strs
import Derived.ChangeSame
import Derived.Maps.AppendAt
import Derived.Test.YtbmgmlbmgogeaaaGreatB2
import Derived.Deep.Cut
import Derived.Deep.CutBlock
import Derived.Deep.DeepCutAuto
set_option linter.unusedVariables false
set_option linter.unusedSimpArgs false
set_option maxRecDepth 100000
set_option maxHeartbeats 4000000
section
variable {b:Bool}{a d e f i len s:Int}{m:List (List Kal.Per)}{l ml:List Int}{L:List Go.Proofs.YtbmgmlbmgogeaaaGreat.PV}{B c k n:Nat}{cv ev v:Go.Value}{A C W W' w:Go.World}
namespace Kal
section
structure ai where
 day:Int
 frm:Int
 fin:Int
instance:Inhabited ai:=⟨⟨0,0,0⟩⟩
structure eA where
 days:List (List Per)
 min:Int
instance:Inhabited eA:=⟨⟨[],0⟩⟩
structure aE where
 cls:List eA
 len:Int
 ext:List ai
instance:Inhabited aE:=⟨⟨[],0,[]⟩⟩
theorem ai.ext' {x y:ai} (h1:x.day=y.day) (h2:x.frm=y.frm) (h3:x.fin=y.fin):x=y:=by
 cases x;cases y;simp_all
def bK (x y:ai):Prop:=x.frm<y.frm\/(x.frm=y.frm/\(x.day<y.day\/(x.day=y.day/\x.fin<y.fin)))
theorem bK.irrefl {x:ai}:¬ bK x x:=by unfold bK;omega
theorem bK.trans {x y z:ai} (h:bK x y) (g:bK y z):bK x z:=by unfold bK at *;omega
theorem bK.tri (x y:ai):bK x y\/x=y\/bK y x:=by
 by_cases h:x.frm=y.frm/\x.day=y.day/\x.fin=y.fin
 .exact .inr (.inl (ai.ext' h.2.1 h.1 h.2.2))
 unfold bK;omega
theorem bK.eq_of {x y:ai} (h:¬ bK x y) (g:¬ bK y x):x=y:=by
 rcases bK.tri x y with h1|h1|h1
 .exact absurd h1 h
 .exact h1
 exact absurd h1 g
noncomputable def gV (x y:ai):Int:=if x.frm<y.frm then -1 else if y.frm<x.frm then 1 else if x.day<y.day then -1 else if y.day<x.day then 1 else if x.fin<y.fin then -1 else if y.fin<x.fin then 1 else 0
theorem Qs {x y:ai}:gV x y<0↔bK x y:=by unfold gV bK;repeat' split <;> omega
theorem UO {x y:ai}:gV x y >= 0↔¬ bK x y:=by rw [<- Qs];omega
def fI (a b c d:Int):Prop:=a<d/\c<b
instance (a b c d:Int):Decidable (fI a b c d):=inferInstanceAs (Decidable (_/\_))
def j9 (x:ai):Prop:=(0<=x.day/\x.day<=1099511627776)/\(-2251799813685248<=x.frm/\x.frm<=1583296743997439)/\(x.frm+1<=x.fin/\x.fin<=x.frm+10080)
def GI (val:List (List Per)->Bool) (l:List eA) (i:Nat):Prop:=val (l.getD i default).days=true/\(-4320<=(l.getD i default).min/\(l.getD i default).min<=4320)/\∀ j,i=j+1->(l.getD j default).min<(l.getD i default).min
def Q1 (l:List ai) (i:Nat):Prop:=j9 (l.getD i default)/\∀ j,i=j+1->bK (l.getD j default) (l.getD i default)
structure mN (val:List (List Per)->Bool) (s:aE):Prop where
 ncls:s.cls.length<=64
 len:1<=s.len/\s.len<=10080
 next:s.ext.length<=4096
 cls:∀ i,i<s.cls.length->GI val s.cls i
 ext:∀ i,i<s.ext.length->Q1 s.ext i
open Classical in
noncomputable def GF (val:List (List Per)->Bool) (s:aE):Bool:=decide (mN val s)
theorem yV {val:List (List Per)->Bool} {s:aE}:GF val s=true↔mN val s:=by simp [GF]
theorem wy {val:List (List Per)->Bool} {s:aE} (h:¬ mN val s):GF val s=false:=by simp [GF,h]
theorem fG {α:Type} {l:List α} {i:Nat} {d:α} (h:i<l.length):l.getD i d=l[i]:=by
 rw [List.getD_eq_getElem?_getD,List.getElem?_eq_getElem h];rfl
theorem wt {α:Type} {l:List α} {d x:α} (h:x∈l):∃ i,i<l.length/\l.getD i d=x:=by
 obtain ⟨i,hi,rfl⟩:=List.mem_iff_getElem.1 h;exact ⟨i,hi,fG hi⟩
theorem mN.ins {val:List (List Per)->Bool} {s:aE} (h:mN val s) {x:ai} (hx:x∈s.ext):j9 x:=by
 obtain ⟨i,hi,rfl⟩:=wt (d:=default) hx;exact (h.ext i hi).1
theorem mN.cl {val:List (List Per)->Bool} {s:aE} (h:mN val s) {c:eA} (hc:c∈s.cls):val c.days=true/\-4320<=c.min/\c.min<=4320:=by
 obtain ⟨i,hi,rfl⟩:=wt (d:=default) hc;exact ⟨(h.cls i hi).1,(h.cls i hi).2.1⟩
theorem mN.rise {val:List (List Per)->Bool} {s:aE} (h:mN val s):∀ {i j:Nat},i<j->j<s.ext.length->bK (s.ext.getD i default) (s.ext.getD j default):=by
 intro i j gD;induction j with
 | zero=>omega
 | succ j ih=>
  intro hj;have h1:=(h.ext (j+1) hj).2 j rfl;by_cases e:i=j
  .subst e;exact h1
  exact (ih aa aa).trans h1
def nP (s:aE) (c:eA) (d:Int):ai:=⟨d,d*1440+c.min,d*1440+c.min+s.len⟩
def JN (s:aE) (c:eA) (d:Int):Prop:=d*1440+c.min+s.len<=2251799813685248
def kE (s:aE) (c:eA) (x:ai):Prop:=aT c.days x.day/\x=nP s c x.day
def XU (s:aE) (x:ai):Prop:=∃ c∈s.cls,kE s c x
def gq (s:aE) (x:ai):Prop:=(∃ c∈s.cls,kE s c x/\x.fin<=2251799813685248)\/x∈s.ext
theorem H_ (hne:∀ t∈m,t≠[]) {n:Int} (h:aT m n):0<=n:=by
 obtain ⟨t,ht,h⟩:=h;obtain ⟨p,hp⟩:=List.exists_mem_of_ne_nil t (hne t ht);exact (h p hp).1
def gE (s:aE) (c:eA) (a b:Int) (d:Int):Prop:=aT c.days d/\JN s c d/\a<d*1440+c.min+s.len/\d*1440+c.min<b
structure wF (S:Int->Prop) (l:List Int):Prop where
 rise:l.Pairwise (· < ·)
 all:∀ d∈l,S d
 low:∀ d e,S d->e∈l->d<=e->d∈l
structure XT (S:Int->Prop) (l:List Int):Prop where
 rise:l.Pairwise (· < ·)
 iff:∀ d,d∈l↔S d
theorem wF.nil {S:Int->Prop}:wF S []:=⟨.nil,ag,ag⟩
theorem wF.snoc {S:Int->Prop} (h:wF S l) (hl:∀ e∈l,e<f) (hs:∀ x,S x->x<f->x∈l) (hf:f<=d) (hd:S d) (hn:∀ x,f<=x->x<d->¬ S x):wF S (l ++ [d]):=by
 refine ⟨List.pairwise_append.2 ⟨h.rise,List.pairwise_singleton _ _,λa ha b hb=>?_⟩,λx hx=>?_,λx e hx he hle=>?_⟩
 .obtain rfl:b=d:=by simpa using hb
  have:=hl a ha;omega
 .rcases List.mem_append.1 hx with hx|hx
  .exact h.all x hx
  obtain rfl:x=d:=by simpa using hx
  exact hd
 rcases Int.lt_trichotomy x d with h1|h1|h1
 .by_cases h2:x<f
  .exact List.mem_append_left _ (hs x hx h2)
  exact absurd hx (hn x aa h1)
 .subst h1;simp
 rcases List.mem_append.1 he with he|he
 .have:=hl e he;omega
 obtain rfl:e=d:=by simpa using he
 omega
def df (S:ai->Prop) (f:Int) (x:ai) (b:Bool):Prop:=(b=true/\S x/\f<=x.frm/\∀ y,S y->f<=y.frm->¬ bK y x)\/(b=false/\x=⟨0,0,0⟩/\∀ y,S y->¬ f<=y.frm)
theorem df.unique {S:ai->Prop} {x y:ai} {c:Bool} (h:df S f x b) (g:df S f y c):x=y/\b=c:=by
 rcases h with ⟨rfl,h1,h2,h3⟩|⟨rfl,rfl,h1⟩ <;> rcases g with ⟨rfl,g1,g2,g3⟩|⟨rfl,rfl,g1⟩
 .exact ⟨bK.eq_of (g3 x h1 h2) (h3 y g1 g2),rfl⟩
 .exact absurd h2 (g1 x h1)
 .exact absurd g2 (h1 y g1)
 exact ⟨rfl,rfl⟩
theorem df.congr {S T:ai->Prop} {x:ai} (h:df S f x b) (hs:∀ y,T y↔S y):df T f x b:=by
 rcases h with ⟨rfl,h1,h2,h3⟩|⟨rfl,rfl,h1⟩
 .exact .inl ⟨rfl,(hs x).2 h1,h2,λy hy=>h3 y ((hs y).1 hy)⟩
 exact .inr ⟨rfl,rfl,λy hy=>h1 y ((hs y).1 hy)⟩
theorem df.start:df (λ_=>False) f ⟨0,0,0⟩ false:=.inr ⟨rfl,rfl,λ_ h=>h.elim⟩
theorem df.take {S:ai->Prop} {x d:ai} (h:df S f x b) (h1:f<=d.frm) (h2:b=false\/bK d x) {T:ai->Prop} (hT:T d/\∀ y,T y->f<=y.frm->¬ bK y d):df (λy=>S y\/T y) f d true:=by
 refine .inl ⟨rfl,.inr hT.1,h1,λy hy hf=>?_⟩;rcases hy with hy|hy
 .rcases h with ⟨rfl,g1,g2,g3⟩|⟨rfl,rfl,g1⟩
  .rcases h2 with h2|h2
   .cases h2
   exact λh3=>g3 y hy hf (h3.trans h2)
  exact absurd hf (g1 y hy)
 exact hT.2 y hy hf
theorem df.pass {S T:ai->Prop} {x d:ai} (h:df S f x b) (h2:b=true/\¬ bK d x) (hT:∀ y,T y->f<=y.frm->¬ bK y d):df (λy=>S y\/T y) f x b:=by
 obtain ⟨rfl,h2⟩:=h2;rcases h with ⟨_,g1,g2,g3⟩|⟨h,_⟩
 .refine .inl ⟨rfl,.inl g1,g2,λy hy hf=>?_⟩;rcases hy with hy|hy
  .exact g3 y hy hf
  intro h3;rcases bK.tri d x with e|e|e
  .exact h2 e
  .subst e;exact hT y hy hf h3
  exact hT y hy hf (h3.trans e)
 cases h
theorem df.none {S T:ai->Prop} {x:ai} (h:df S f x b) (hT:∀ y,T y->¬ f<=y.frm):df (λy=>S y\/T y) f x b:=by
 rcases h with ⟨rfl,g1,g2,g3⟩|⟨rfl,rfl,g1⟩
 .exact .inl ⟨rfl,.inl g1,g2,λy hy hf=>hy.elim (λhy=>g3 y hy hf) (λhy=>absurd hf (hT y hy))⟩
 exact .inr ⟨rfl,rfl,λy hy hf=>hy.elim (λhy=>g1 y hy hf) (λhy=>hT y hy hf)⟩
theorem ul_ {val:List (List Per)->Bool} {s:aE} (h:mN val s) {i:Nat} (hi:i<s.ext.length) (hf:f<=(s.ext.getD i default).frm) (fo:∀ j,j<i->(s.ext.getD j default).frm<f):∀ y,y∈s.ext->f<=y.frm->¬ bK y (s.ext.getD i default):=by
 intro y hy rB hlt;obtain ⟨j,hj,rfl⟩:=wt (d:=default) hy;rcases Nat.lt_trichotomy j i with h1|h1|h1
 .have:=fo j h1;omega
 .subst h1;exact bK.irrefl hlt
 exact bK.irrefl (hlt.trans (h.rise h1 hj))
end
end Kal
namespace Go.Proofs.YtbmgmlbmgogeaaaGreat
section
open Go.RowKit Kal
theorem lX {α:Type} {f:α->List Value} (hf:∀ x,(f x).length=n) (d:α) {L:List α}:∀ {j i:Nat} {u:Value},j<L.length->(f (L.getD j d))[i]? = some u->(L.flatMap f)[j*n+i]? = some u:=by
 induction L with
 | nil=>intro j i u h;simp at h
 | cons x L ih=>
  intro j i u hj hi;rw [List.flatMap_cons];cases j with
  | zero=>
   have h4:i<(f x).length:=(List.getElem?_eq_some_iff.1 hi).1;rw [List.getElem?_append_left (by simpa using h4)];simpa using hi
  | succ j=>
   rw [List.getElem?_append_right (by rw [hf,Nat.succ_mul];omega),hf,show (j+1)*n+i-n=j*n+i by rw [Nat.succ_mul];omega];exact ih (by simpa using hj) (by simpa using hi)
theorem Eh {α:Type} {f:α->List Value} (hf:∀ x,(f x).length=n) (L:List α):(L.flatMap f).length=L.length*n:=by
 induction L with
 | nil=>simp
 | cons x L ih=>rw [List.flatMap_cons,List.length_append,hf,ih,List.length_cons,Nat.succ_mul,Nat.add_comm]
def cV (x:ai):List Value:=[.int .i64 x.day,.int .i64 x.frm,.int .i64 x.fin]
abbrev bZ (x:ai):Value:=.agg #[.int .i64 x.day,.int .i64 x.frm,.int .i64 x.fin]
theorem Jr (x:ai):(cV x).length=3:=rfl
structure qG (x:ai):Prop where
 day:aP x.day
 frm:aP x.frm
 fin:aP x.fin
structure bl where
 v:Value
 m:List (List Per)
 min:Int
instance:Inhabited bl:=⟨⟨.slice none 0 0,[],0⟩⟩
def bl.enc (x:bl):List Value:=[x.v,.int .i64 x.min]
def bl.cls (x:bl):eA:=⟨x.m,x.min⟩
theorem bl.enc_len (x:bl):x.enc.length=2:=rfl
structure dR (W:World) (F:Nat->Prop) (v:Value) (L:List bl):Prop where
 row:bS W F v L.length (L.flatMap bl.enc)
 len:L.length<=17592186044416
 all:∀ x∈L,aA W F x.v x.m/\aP x.min
structure b_ (W:World) (F:Nat->Prop) (v:Value) (l:List ai):Prop where
 row:bS W F v l.length (l.flatMap cV)
 len:l.length<=17592186044416
 all:∀ x∈l,qG x
structure eG (W:World) (F:Nat->Prop) (cv ev:Value) (L:List bl) (s:aE):Prop where
 eq:L.map bl.cls=s.cls
 cl:dR W F cv L
 ex:b_ W F ev s.ext
 len:aP s.len
def bq (W:World) (F:Nat->Prop) (cv ev:Value) (s:aE):Prop:=∃ L,eG W F cv ev L s
theorem dR.keep {F:Nat->Prop} {L:List bl} (h:dR W F v L) (hk:aN F W W') (hs:W.heap.size<=W'.heap.size):dR W' F v L:=⟨h.row.keep hk hs,h.len,λx hx=>⟨(h.all x hx).1.keep hk hs,(h.all x hx).2⟩⟩
theorem dR.mono {F G:Nat->Prop} {L:List bl} (h:dR W F v L) (hF:∀ b,F b->G b):dR W G v L:=⟨h.row.mono hF,h.len,λx hx=>⟨(h.all x hx).1.mono hF,(h.all x hx).2⟩⟩
theorem b_.keep {F:Nat->Prop} {l:List ai} (h:b_ W F v l) (hk:aN F W W') (hs:W.heap.size<=W'.heap.size):b_ W' F v l:=⟨h.row.keep hk hs,h.len,h.all⟩
theorem b_.mono {F G:Nat->Prop} {l:List ai} (h:b_ W F v l) (hF:∀ b,F b->G b):b_ W G v l:=⟨h.row.mono hF,h.len,h.all⟩
theorem b_.ext {F:Nat->Prop} {l:List ai} (h:b_ W F v l) (hb:Below W.heap.size W W'):b_ W' F v l:=h.keep (aN.below hb) hb.size
theorem eG.keep {F:Nat->Prop} {L:List bl} {s:aE} (h:eG W F cv ev L s) (hk:aN F W W') (hs:W.heap.size<=W'.heap.size):eG W' F cv ev L s:=⟨h.eq,h.cl.keep hk hs,h.ex.keep hk hs,h.len⟩
theorem eG.mono {F G:Nat->Prop} {L:List bl} {s:aE} (h:eG W F cv ev L s) (hF:∀ b,F b->G b):eG W G cv ev L s:=⟨h.eq,h.cl.mono hF,h.ex.mono hF,h.len⟩
theorem eG.below {F:Nat->Prop} {L:List bl} {s:aE} (h:eG W F cv ev L s) (hb:Below W.heap.size W W'):eG W' F cv ev L s:=h.keep (aN.below hb) hb.size
theorem bq.keep {F:Nat->Prop} {s:aE} (h:bq W F cv ev s) (hk:aN F W W') (hs:W.heap.size<=W'.heap.size):bq W' F cv ev s:=by obtain ⟨L,h⟩:=h;exact ⟨L,h.keep hk hs⟩
theorem bq.mono {F G:Nat->Prop} {s:aE} (h:bq W F cv ev s) (hF:∀ b,F b->G b):bq W G cv ev s:=by obtain ⟨L,h⟩:=h;exact ⟨L,h.mono hF⟩
theorem bq.ext {F:Nat->Prop} {s:aE} (h:bq W F cv ev s) (hb:Below W.heap.size W W'):bq W' F cv ev s:=h.keep (aN.below hb) hb.size
theorem aA.keep2 {F:Nat->Prop} (h:aA W F v m) (hk:aN F W W'):aA W' F v m:=by obtain ⟨L,e,g⟩:=h;exact ⟨L,e,g.keep2 hk⟩
theorem dR.keep2 {F:Nat->Prop} {L:List bl} (h:dR W F v L) (hk:aN F W W'):dR W' F v L:=⟨h.row.keep2 hk,h.len,λx hx=>⟨(h.all x hx).1.keep2 hk,(h.all x hx).2⟩⟩
theorem dR.lt {F:Nat->Prop} {L:List bl} (h:dR W F v L):dR W (λb=>F b/\b<W.heap.size) v L:=⟨h.row.lt,h.len,λx hx=>⟨(h.all x hx).1.lt,(h.all x hx).2⟩⟩
theorem b_.lt {F:Nat->Prop} {l:List ai} (h:b_ W F v l):b_ W (λb=>F b/\b<W.heap.size) v l:=⟨h.row.lt,h.len,h.all⟩
theorem eG.lt {F:Nat->Prop} {L:List bl} {s:aE} (h:eG W F cv ev L s):eG W (λb=>F b/\b<W.heap.size) cv ev L s:=⟨h.eq,h.cl.lt,h.ex.lt,h.len⟩
theorem bq.lt {F:Nat->Prop} {s:aE} (h:bq W F cv ev s):bq W (λb=>F b/\b<W.heap.size) cv ev s:=by obtain ⟨L,h⟩:=h;exact ⟨L,h.lt⟩
theorem dR.form {F:Nat->Prop} {L:List bl} (h:dR W F v L):∃ a c,v=.slice a L.length c:=by
 obtain ⟨a,c,rfl,_⟩:=h.row.is;exact ⟨a,c,rfl⟩
theorem b_.form {F:Nat->Prop} {l:List ai} (h:b_ W F v l):∃ a c,v=.slice a l.length c:=by
 obtain ⟨a,c,rfl,_⟩:=h.row.is;exact ⟨a,c,rfl⟩
theorem bq.form {F:Nat->Prop} {s:aE} (h:bq W F cv ev s):∃ a c a' c',cv=.slice a s.cls.length c/\ev=.slice a' s.ext.length c':=by
 obtain ⟨L,h⟩:=h;obtain ⟨a,c,rfl⟩:=h.cl.form;obtain ⟨a',c',rfl⟩:=h.ex.form;exact ⟨a,c,a',c',by rw [<- h.eq,List.length_map],rfl⟩
theorem dR.get {F:Nat->Prop} {a:Option Addr} {L:List bl} (h:dR W F (.slice a n c) L) (hk:k<L.length) :
  ∃ b o a1 c1,∃ m mi,a=some ⟨b,o,none⟩/\b<W.heap.size/\W.cell? ⟨b,o+k*2,none⟩=some (.slice a1 m.length c1)/\W.cell? ⟨b,o+k*2+1,none⟩=some (.int .i64 mi)/\aA W F (.slice a1 m.length c1) m/\aP mi/\(L.map bl.cls).getD k default=⟨m,mi⟩:=by
 obtain ⟨a',c',he,h1,h2,h3⟩:=h.row.is;injection he with e1 _ e2
 subst e1;subst e2;rcases h3 with h3|⟨b,o,rfl,hF,hl,hc⟩
 .omega
 have hx:=h.all _ (dz (d:=default) hk);obtain ⟨a1,c1,e⟩:=hx.1.form;refine ⟨b,o,a1,c1,(L.getD k default).m,(L.getD k default).min,rfl,hl,?_,hc (k*2+1) _ (lX bl.enc_len default hk rfl),?_,hx.2,?_⟩
 .rw [<- e];exact hc (k*2+0) _ (lX bl.enc_len default hk rfl)
 .rw [<- e];exact hx.1
 simp [List.getD_eq_getElem?_getD,hk];rfl
theorem b_.get {F:Nat->Prop} {a:Option Addr} {l:List ai} (h:b_ W F (.slice a n c) l) (hk:k<l.length) :
  ∃ b o x,a=some ⟨b,o,none⟩/\b<W.heap.size/\l.getD k default=x/\qG x/\W.cell? ⟨b,o+k*3,none⟩=some (.int .i64 x.day)/\W.cell? ⟨b,o+k*3+1,none⟩=some (.int .i64 x.frm)/\W.cell? ⟨b,o+k*3+2,none⟩=some (.int .i64 x.fin):=by
 obtain ⟨a',c',he,h1,h2,h3⟩:=h.row.is;injection he with e1 _ e2
 subst e1;subst e2;rcases h3 with h3|⟨b,o,rfl,hF,hl,hc⟩
 .omega
 exact ⟨b,o,l.getD k default,rfl,hl,rfl,h.all _ (dz hk),hc (k*3+0) _ (lX Jr default hk rfl),hc (k*3+1) _ (lX Jr default hk rfl),hc (k*3+2) _ (lX Jr default hk rfl)⟩
end
section
open Go.RowKit Go.Maps Kal
structure qL (w:World) (v:Value) (l:List Int):Prop where
 is:∃ a c,v=.slice a l.length c/\(l=[]\/∃ b o,a=some ⟨b,o,none⟩/\∀ i,i<l.length->w.cell? ⟨b,o+i,none⟩=some (.int .u16 (l.getD i 0)))
 len:l.length<=9223372036854775807
 rng:∀ x∈l,0<=x/\x<=65535
theorem qL.ext (h:qL w v l) (hb:Below w.heap.size w W):qL W v l:=by
 obtain ⟨⟨a,c,rfl,h3⟩,h4,h5⟩:=h;refine ⟨⟨a,c,rfl,h3.imp id ?_⟩,h4,h5⟩;rintro ⟨b,o,rfl,hc⟩;exact ⟨b,o,rfl,λi hi=>al.cell hb (hc i hi)⟩
structure jh where
 dv:Value
 mv:Value
 ln:Int
 ev:Value
instance:Inhabited jh:=⟨⟨.slice none 0 0,.slice none 0 0,0,.slice none 0 0⟩⟩
structure qK (w:World) (x:jh) (ll:List (List Int)) (ml el:List Int):Prop where
 days:wj w x.dv ll
 cap:∃ a c,x.dv=.slice a ll.length c/\ll.length<=c/\c<=9223372036854775807
 mins:pI w x.mv ml
 l0:0<=x.ln
 l1:x.ln<=255
 ext:qL w x.ev el
theorem qK.below {x:jh} {ll:List (List Int)} {el:List Int} (h:qK w x ll ml el) (hb:Below w.heap.size w W):qK W x ll ml el:=⟨h.days.ext hb,h.cap,h.mins.ext hb,h.l0,h.l1,h.ext.ext hb⟩
def Ad (w:World) (x:jh):Prop:=∃ ll ml el,qK w x ll ml el
theorem Ad.below {x:jh} (h:Ad w x) (hb:Below w.heap.size w W):Ad W x:=by obtain ⟨ll,ml,el,h⟩:=h;exact ⟨ll,ml,el,h.below hb⟩
abbrev jh.val (x:jh):Value:=.agg #[x.dv,x.mv,.int .u8 x.ln,x.ev]
structure cB where
 id:Int
 rm:Bool
 s:jh
instance:Inhabited cB:=⟨⟨0,false,default⟩⟩
def cB.enc (x:cB):List Value:=[.int .i8 x.id,.bool x.rm,x.s.dv,x.s.mv,.int .u8 x.s.ln,x.s.ev]
theorem cB.enc_len (x:cB):x.enc.length=6:=rfl
structure wE (w:World) (v:Value) (L:List cB):Prop where
 row:bS w (λ_=>True) v L.length (L.flatMap cB.enc)
 all:∀ x∈L,Ad w x.s/\-128<=x.id/\x.id<=127
theorem wE.below {L:List cB} (h:wE w v L) (hb:Below w.heap.size w W):wE W v L:=⟨h.row.keep (aN.below hb) hb.size,λx hx=>⟨(h.all x hx).1.below hb,(h.all x hx).2⟩⟩
theorem wE.get {a:Option Addr} {L:List cB} (h:wE w (.slice a n c) L) (hk:k<L.length) :
  ∃ b o x,a=some ⟨b,o,none⟩/\b<w.heap.size/\x=L.getD k default/\Ad w x.s/\(-128<=x.id/\x.id<=127)/\w.cell? ⟨b,o+k*6,none⟩=some (.int .i8 x.id)/\w.cell? ⟨b,o+k*6+1,none⟩=some (.bool x.rm)/\w.cell? ⟨b,o+k*6+2,none⟩=some x.s.dv/\w.cell? ⟨b,o+k*6+3,none⟩=some x.s.mv/\w.cell? ⟨b,o+k*6+4,none⟩=some (.int .u8 x.s.ln)/\w.cell? ⟨b,o+k*6+5,none⟩=some x.s.ev:=by
 obtain ⟨a',c',he,h1,h2,h3⟩:=h.row.is;injection he with e1 _ e2
 subst e1;subst e2;rcases h3 with h3|⟨b,o,rfl,hF,hl,hc⟩
 .omega
 have hx:=h.all _ (dz (d:=default) hk);exact ⟨b,o,L.getD k default,rfl,hl,rfl,hx.1,hx.2,hc (k*6+0) _ (lX cB.enc_len default hk rfl),hc (k*6+1) _ (lX cB.enc_len default hk rfl),hc (k*6+2) _ (lX cB.enc_len default hk rfl),hc (k*6+3) _ (lX cB.enc_len default hk rfl),hc (k*6+4) _ (lX cB.enc_len default hk rfl),hc (k*6+5) _ (lX cB.enc_len default hk rfl)⟩
end
end Go.Proofs.YtbmgmlbmgogeaaaGreat
end
namespace Go.Proofs.YtbmgmlbmgogeaaaGreat
section
open Go.ChangeShapes Go.WideShapes Go.ChangeAt Go.RowKit Go.Joins Kal
theorem I9 {b o n:Nat}:((⟨b,o,none⟩:Addr).add n)=⟨b,o+n,none⟩:=by
 rcases Nat.eq_zero_or_pos n with h|h
 .subst h;simp [Addr.add]
 simp [Addr.add];omega
theorem Mg {α:Type} [Inhabited α] {w:World} {f:α->List Value} {n:Nat} (hf:∀ x,(f x).length=n) (hn:0<n) {a:Addr} {len cap:Nat} (hl:len<=cap) (hm:cap<=9223372036854775807) {P:α->Prop}
  (each:∀ i,i<len->∃ x,P x/\∀ j u,(f x)[j]? = some u->w.cell? ((a.add (i*n)).add j)=some u):∃ L:List α,bS w (λ_=>True) (.slice (some a) len cap) L.length (L.flatMap f)/\L.length=len/\∀ x∈L,P x:=by
 have hch:∃ X:Nat->α,∀ i,i<len->P (X i)/\∀ j u,(f (X i))[j]? = some u->w.cell? ((a.add (i*n)).add j)=some u:=by
  refine ⟨λi=>if hi:i<len then (each i hi).choose else default,λi hi=>?_⟩;simp only [dif_pos hi];exact (each i hi).choose_spec
 obtain ⟨X,hX⟩:=hch;have jN:((List.range len).map X).length=len:=by simp
 refine ⟨(List.range len).map X,⟨some a,cap,by rw [jN],by rw [jN];exact hl,hm,?_⟩,jN,λx hx'=>?_⟩
 .rw [jN];by_cases h0:len=0
  .exact .inl h0
  refine .inr ?_;obtain ⟨b,off,spot⟩:=a;have ZM:(f (X 0))[0]? = some ((f (X 0))[0]'(by rw [hf];exact hn)):=List.getElem?_eq_getElem _;have hc:=(hX 0 aa).2 0 _ ZM;have hspot:spot=none:=by simpa [Addr.add] using World.cell?_spot hc
  subst hspot;refine ⟨b,off,rfl,trivial,?_,λi u hu=>?_⟩
  .have:=World.block_lt_of_cell? w _ hc;simpa [Addr.add] using this
  have hi:i<len*n:=by
   have:=(List.getElem?_eq_some_iff.1 hu).1;rw [Eh hf,jN] at this;exact this
  have hq:i / n<len:=Nat.div_lt_of_lt_mul (by rw [Nat.mul_comm];exact hi);have e:i=i / n*n+i % n:=by rw [Nat.mul_comm];exact (Nat.div_add_mod i n).symm
  have hr:i % n<n:=Nat.mod_lt _ hn;have hu2:(f (X (i / n)))[i % n]? = some u:=by
   obtain ⟨u',B_⟩:∃ u',(f (X (i / n)))[i % n]? = some u':=⟨_,List.getElem?_eq_getElem (by rw [hf];exact hr)⟩;have:=lX hf default (L:=(List.range len).map X) (j:=i / n) (i:=i % n) (u:=u') (by rw [jN];exact hq) (by rw [List.getD_eq_getElem?_getD];simpa [hq] using B_);rw [<- e,hu] at this;rw [B_,<- this]
  have:=(hX _ hq).2 _ u hu2;rw [I9,I9] at this;rw [e,<- Nat.add_assoc];exact this
 obtain ⟨i,hi,rfl⟩:=List.mem_map.1 hx';exact (hX i (by simpa using hi)).1
section
variable {H:Type} {enc:TypeId × Value->H} {w:World} {base:Nat} {spare:Nat->Bool} {held:Bool}
theorem Mm {n:Nat} {v:Value} {y:DataW H × List MemPlace} (h:DataW.trod enc Tryz.prog w base spare held n 25 [v]=some y):∃ l,qL w v l:=by
 rcases open_ints Tryz.underlying25 Tryz.underlying74 (by kernel_rfl) h with ⟨hcs,_⟩|⟨a,len,cap,zs,hcs,_,hl,hm,hz,_,hcell,jA⟩
 .simp at hcs;subst hcs;exact ⟨[],⟨none,0,rfl,.inl rfl⟩,ag,ag⟩
 simp at hcs;subst hcs;have FT:len<=zs.length:=by rw [hz];split <;> omega
 have hlen:(zs.take len).length=len:=by rw [List.length_take];omega
 refine ⟨zs.take len,⟨some a,cap,by rw [hlen],?_⟩,?_,?_⟩
 .by_cases h0:len=0
  .exact .inl (by rw [h0];rfl)
  refine .inr ?_;obtain ⟨b,off,spot⟩:=a;have hc:=hcell 0 aa;have hspot:spot=none:=by simpa [Addr.add] using World.cell?_spot hc
  subst hspot;refine ⟨b,off,rfl,λi hi=>?_⟩;rw [hlen] at hi;have h9:=hcell i aa;have e:(zs.take len).getD i 0=zs.getD i 0:=by
   rw [List.getD_eq_getElem?_getD,List.getD_eq_getElem?_getD,List.getElem?_take_of_lt hi]
  rw [e];rwa [I9] at h9
 .rw [hlen];unfold maxLen at hm;omega
 intro x hx;exact bounds_u16 (jA x (List.mem_of_mem_take hx))
theorem Mh {n:Nat} {v:Value} {y:DataW H × List MemPlace} (h:DataW.trod enc Tryz.prog w base spare held n 23 [v]=some y):∃ n,P8 w v n/\∃ a c,v=.slice a n c/\n<=c/\c<=9223372036854775807:=by
 rcases Go.Deep.open_slice1 Tryz.underlying23 (by kernel_rfl) h with ⟨hcs,_⟩|⟨a',len',cap',m,n,V,D,Pl,hcs,_,hl,hm,hmm,_,hx⟩
 .simp only [List.cons.injEq,and_true] at hcs;subst hcs;exact ⟨0,⟨⟨none,0,rfl,.inl rfl⟩,aa⟩,none,0,rfl,aa,aa⟩
 simp only [List.cons.injEq,and_true] at hcs;subst hcs;have rK:len'<=m:=by rw [hmm];split <;> omega
 refine ⟨len',⟨⟨some a',cap',rfl,?_⟩,by unfold maxLen at hm;omega⟩,_,_,rfl,hl,by unfold maxLen at hm;omega⟩;by_cases h0:len'=0
 .exact .inl h0
 refine .inr ?_;obtain ⟨b,off,spot⟩:=a';have hc:=(hx 0 aa).1;have hspot:spot=none:=by simpa [Addr.add] using World.cell?_spot hc
 subst hspot;refine ⟨b,off,rfl,λi hi=>?_⟩;obtain ⟨h1,h2⟩:=hx i aa;obtain ⟨l,hb⟩:=V_ h2;rw [I9] at h1;exact ⟨V i,l,h1,hb⟩
theorem wm_ {n:Nat} {v:Value} {y:DataW H × List MemPlace} (h:DataW.trod enc Tryz.prog w base spare held n 4 [v]=some y):∃ b,v=.bool b:=by
 obtain ⟨b,hcs,_⟩:=DataW.trod_bool Tryz.underlying4 h;simp at hcs;exact ⟨b,hcs⟩
theorem xz_ {n:Nat} {u0 u1 u2 u3:Value} {y:DataW H × List MemPlace} (h:DataW.trod enc Tryz.prog w base spare held n 27 [u0,u1,u2,u3]=some y):∃ x:jh,x.val=.agg #[u0,u1,u2,u3]/\Ad w x:=by
 obtain ⟨y0,y1,y2,y3,k,_,_,g0,g1,g2,g3⟩:=trod_struct4 Tryz.underlying27 h;obtain ⟨n0,Nq,ZE⟩:=Mh (show DataW.trod enc Tryz.prog w base spare held k 23 [u0]=some y0 from g0);obtain ⟨ll,rJ,h0⟩:=Nq.rows;have c0:=ZE;rw [<- rJ] at c0;obtain ⟨l1,h1⟩:=V_ (show DataW.trod enc Tryz.prog w base spare held k 24 [u1]=some y1 from g1);obtain ⟨f,rfl,wf⟩:=XH Tryz.underlying5 (show DataW.trod enc Tryz.prog w base spare held k 5 [u2]=some y2 from g2);obtain ⟨l3,h3⟩:=Mm (show DataW.trod enc Tryz.prog w base spare held k 25 [u3]=some y3 from g3);have:=bounds_u8 wf;exact ⟨⟨u0,u1,f,u3⟩,rfl,ll,l1,l3,h0,c0,h1,by show 0<=f;omega,by show f<=255;omega,h3⟩
theorem a1h_ {r:Reach} {b0:Nat} {v:Value} {d:DataW H} {p:List MemPlace} (hv:Value.okWide Tryz.prog w r b0 27 v) (h:DataW.Trod enc Tryz.prog w base spare held 27 v d p):∃ x:jh,v=x.val/\Ad w x:=by
 obtain ⟨cs,rfl,hsz⟩:=okWide_struct Tryz.underlying27 hv;have h1:Tryz.prog.cellsOf 27=4:=by kernel_rfl
 rw [h1] at hsz;obtain ⟨c0,c1,c2,c3,rfl⟩:∃ c0 c1 c2 c3,cs=#[c0,c1,c2,c3]:=by
  obtain ⟨l⟩:=cs
  match l,hsz with
  | [c0,c1,c2,c3],_=>exact ⟨c0,c1,c2,c3,rfl⟩
 obtain ⟨fuel,hf⟩:=h;obtain ⟨x,hx,ho⟩:=xz_ (show DataW.trod enc Tryz.prog w base spare held fuel 27 [c0,c1,c2,c3]=some (d,p) from hf);exact ⟨x,hx.symm,ho⟩
theorem ve_ {r:Reach} {b0:Nat} {v:Value} {d:DataW H} {p:List MemPlace} (hv:Value.okWide Tryz.prog w r b0 22 v) (h:DataW.Trod enc Tryz.prog w base spare held 22 v d p):∃ L,wE w v L:=by
 obtain ⟨a,len,cap,rfl⟩:=okWide_slice Tryz.underlying22 hv;obtain ⟨fuel,hf⟩:=h;have hf:DataW.trod enc Tryz.prog w base spare held fuel 22 [.slice a len cap]=some (d,p):=hf;rcases Go.Deep.open_slice Tryz.underlying22 hf with ⟨hcs,_⟩|⟨a',len',cap',m,n,D,Pl,hcs,_,hl,hm,hmm,_,hx⟩
 .simp only [List.cons.injEq,Value.slice.injEq,and_true] at hcs;obtain ⟨rfl,rfl,rfl⟩:=hcs;exact ⟨[],⟨none,0,rfl,ag,aa,.inl rfl⟩,ag⟩
 simp only [List.cons.injEq,Value.slice.injEq,and_true] at hcs;obtain ⟨rfl,rfl,rfl⟩:=hcs;have rK:len<=m:=by rw [hmm];split <;> omega
 have h6:Tryz.prog.cellsOf 90=6:=by kernel_rfl
 have each:∀ i,i<len->∃ x:cB,(Ad w x.s/\-128<=x.id/\x.id<=127)/\∀ j u,x.enc[j]? = some u->w.cell? ((a'.add (i*6)).add j)=some u:=λi hi=>by
  obtain ⟨cs',h1,h2⟩:=hx i aa;rw [h6] at h1;obtain ⟨_,hlen,hcell⟩:=World.cells?_some h1;obtain ⟨y0,y1,y2,k,_,_,g0,g1,g2⟩:=Go.Deep.trod_struct3 Tryz.underlying90 h2
  match cs',hlen with
  | [u0,u1,u2,u3,u4,u5],_=>
   obtain ⟨f,rfl,wf⟩:=XH Tryz.underlying88 (show DataW.trod enc Tryz.prog w base spare held k 88 [u0]=some y0 from g0);obtain ⟨b,hb⟩:=wm_ (show DataW.trod enc Tryz.prog w base spare held k 4 [u1]=some y1 from g1);obtain ⟨x,hx,ho⟩:=xz_ (show DataW.trod enc Tryz.prog w base spare held k 27 [u2,u3,u4,u5]=some y2 from g2);subst hb;obtain ⟨x0,x1,x2,x3⟩:=x;injection hx with hx
   have e0:x0=u2:=congrArg (λa:Array Value=>a.getD 0 default) hx;have e1:x1=u3:=congrArg (λa:Array Value=>a.getD 1 default) hx;have e2:Value.int .u8 x2=u4:=congrArg (λa:Array Value=>a.getD 2 default) hx;have e3:x3=u5:=congrArg (λa:Array Value=>a.getD 3 default) hx;subst e0;subst e1;subst e2;subst e3;have bf:=bounds_i8 wf;refine ⟨⟨f,b,⟨x0,x1,x2,x3⟩⟩,⟨ho,bf.1,bf.2⟩,λj u hj=>?_⟩;have TB:j<6:=(List.getElem?_eq_some_iff.1 hj).1;have hc:=hcell j TB
   match j,TB with
   | 0,_=>simp [cB.enc] at hj;subst hj;simpa using hc
   | 1,_=>simp [cB.enc] at hj;subst hj;simpa using hc
   | 2,_=>simp [cB.enc] at hj;subst hj;simpa using hc
   | 3,_=>simp [cB.enc] at hj;subst hj;simpa using hc
   | 4,_=>simp [cB.enc] at hj;subst hj;simpa using hc
   | 5,_=>simp [cB.enc] at hj;subst hj;simpa using hc
 obtain ⟨L,hL,hlen,hall⟩:=Mg (f:=cB.enc) cB.enc_len aa hl (by unfold maxLen at hm;omega) each;exact ⟨L,by rw [<- hlen] at hL ⊢;exact hL,hall⟩
end
end
section
open Go.RowKit Go.Maps Kal
structure uB {α:Type} (R:World->(Nat->Prop)->α->Prop):Prop where
 keep:∀ {W W':World} {F:Nat->Prop} {x:α},R W F x->aN F W W'->W.heap.size<=W'.heap.size->R W' F x
 lt:∀ {W:World} {F:Nat->Prop} {x:α},R W F x->R W (λb=>F b/\b<W.heap.size) x
 mono:∀ {W:World} {F G:Nat->Prop} {x:α},R W F x->(∀ b,F b->G b)->R W G x
structure aV {α:Type} (e:TypeId) (sz:Nat) (enc:α->List Value) (R:World->(Nat->Prop)->α->Prop) (B:Nat) (A:Nat->Prop) (W:World) (v:Value) (L:List α):Prop where
 row:W.ownsRow B e sz v L.length (L.flatMap enc)
 all:∀ x∈L,R W (cN B A v) x
 ne:∀ g,v.ownBlock=some g->¬ A g
 len:L.length<=1000000
section
variable {α:Type} {e:TypeId} {sz:Nat} {enc:α->List Value} {R:World->(Nat->Prop)->α->Prop} {B:Nat} {A:Nat->Prop} {W W':World} {v v':Value} {L:List α}
theorem aV.nil:aV e sz enc R B A W (.slice none 0 0) []:=⟨World.ownsRow_nil W B e sz,ag,by simp [Value.ownBlock],ag⟩
theorem aV.form (h:aV e sz enc R B A W v L):∃ a c,v=.slice a L.length c/\L.length<=c/\c<=9223372036854775807/\(L.length=0\/∃ g,a=some ⟨g,0,none⟩):=by
 obtain ⟨_,⟨rfl,h2⟩|⟨g,cap,cur,rfl,_,_,h3,h4,_⟩⟩:=h.row
 .exact ⟨none,0,by rw [h2],aa,aa,.inl h2⟩
 exact ⟨_,cap,rfl,h3,h4,.inr ⟨g,rfl⟩⟩
theorem aV.below (hR:uB R) (h:aV e sz enc R B A W v L) (hb:Below W.heap.size W W'):aV e sz enc R B A W' v L:=
 ⟨h.row.kept (row:=none) (World.grownBy.of_below hb _) (by cases v.ownBlock <;> simp),λx hx=>hR.keep (h.all x hx) (aN.below hb) hb.size,h.ne,h.len⟩
theorem aV.base (hR:uB R) {C:Nat} (h:aV e sz enc R B A W v L) (hC:C<=B):aV e sz enc R C A W v L:=by
 refine ⟨⟨h.row.1,?_⟩,λx hx=>hR.mono (h.all x hx) λb hb=>⟨Nat.le_trans hC hb.1,hb.2⟩,h.ne,h.len⟩;rcases h.row.2 with h2|⟨g,cap,cur,e,hb,rest⟩
 .exact .inl h2
 exact .inr ⟨g,cap,cur,e,Nat.le_trans hC hb,rest⟩
theorem aV.push (hR:uB R) {y:α} (h:aV e sz enc R B A W v L) (hy:R W (cN B A v) y) (hr:W'.ownsRow B e sz v' (L.length+1) (L.flatMap enc ++ enc y)) (hg:W.grownBy W' v.ownBlock)
  (hb:v'.ownBlock=v.ownBlock\/v'.ownBlock=some W.heap.size) (hA:¬ A W.heap.size) (hl:L.length<1000000):aV e sz enc R B A W' v' (L ++ [y]):=by
 have key:∀ {z:α},R W (cN B A v) z->R W' (cN B A v') z:=λht=>by
  refine hR.mono (hR.keep (hR.lt ht) (λb hb hl=>hg.block b hl λe=>hb.1.2.2 e.symm) hg.size) λb hb'=>⟨hb'.1.1,hb'.1.2.1,?_⟩;rcases hb with e|e
  .rw [e];exact hb'.1.2.2
  rw [e];rintro ⟨⟩;have:=hb'.2;omega
 refine ⟨by rw [List.length_append,List.flatMap_append,List.flatMap_singleton];exact hr,λx hx=>?_,λg eL=>?_,aO⟩
 .rcases List.mem_append.1 hx with hx|hx
  .exact key (h.all x hx)
  obtain rfl:x=y:=by simpa using hx
  exact key hy
 rcases hb with e|e
 .exact h.ne g (e ▸ eL)
 rw [e] at eL;cases eL;exact hA
theorem aV.rowR (h:aV e sz enc R B A W v L):bS W (λb=>B<=b/\¬ A b) v L.length (L.flatMap enc):=by
 obtain ⟨hl,⟨rfl,h2⟩|⟨g,cap,cur,rfl,hb,hg,h3,h4,h5,h6⟩⟩:=h.row
 .rw [h2];exact ⟨none,0,rfl,aa,aa,.inl rfl⟩
 refine ⟨_,cap,rfl,h3,h4,.inr ⟨g,0,rfl,⟨hb,h.ne g rfl⟩,(h.row.lt g rfl).2,λi u hi=>?_⟩⟩;rw [Nat.zero_add];have:=(List.getElem?_eq_some_iff.1 hi).1;exact (h.row.cellAt i (by rw [<- hl];exact this)).trans hi
end
theorem nK {w:World} {ops:Array Oper} {rest:List Oper} {o:Oper} {a:Act} {Q:Exit->Act->World->Prop} (hgd:o.guard=none) (s x:Operand) (t e:TypeId)
  (ho:o.op=.call { callee:=.builtin .append,args:=#[s,x],argTypes:=#[t,t] }) (i:TypeInfo) (z:Value) (sz bytes:Nat) (ht:Tryz.prog.underlying t=some (.slice e)) (hi:Tryz.prog.info? e=some i) (h1:i.zero=some z) (h2:i.size=sz) (h3:i.bytes=bytes) (hzs:z.cells.size=sz) (hsz:0<sz) (hby:bytes<=1000)
  (base:Nat) (v:Value) (n:Nat) (xs:List Value) (ys:List Value) (vF:ys.length=sz) (hs:a.eval s=v) (hown:w.ownsRow base e sz v n xs)
  (blk c:Nat) (hx:a.eval x=.slice (some ⟨blk,0,none⟩) 1 c) (hnew:∀ j u,ys[j]? = some u->w.cell? ⟨blk,j,none⟩=some u) (h1c:∀ u∈ys,u.oneCell'=true) (hlen:n+1<=1000000) (hbase:base<=w.heap.size)
  (h:∀ v' w',w'.ownsRow base e sz v' (n+1) (xs ++ ys)->w.grownBy w' v.ownBlock->(v'.ownBlock=v.ownBlock\/v'.ownBlock=some w.heap.size)->wpList Tryz.prog ops Q rest (a.put o.dst v') w') :
  wpList Tryz.prog ops Q (o :: rest) a w:=by
 refine wpList_plain hgd λK hK=>?_;obtain ⟨v',w',hrun,k2,k3,_,k5⟩:=run_append_own_at (P:=Tryz.prog) w base t o.type e i z sz bytes ht hi h1 h2 h3 hzs hsz v n xs hown ⟨blk,0,none⟩ 1 c ys (by rw [vF,Nat.one_mul])
  (λj u hu=>by rw [show (⟨blk,0,none⟩:Addr).add j=⟨blk,j,none⟩ from by
   rcases Nat.eq_zero_or_pos j with h0|h0
   .subst h0;simp [Addr.add]
   simp [Addr.add];omega];exact hnew j u hu) h1c (by unfold maxLen;omega) (by
   have:(n+1)*bytes<=1000000*1000:=Nat.mul_le_mul hlen hby;omega) hbase
 unfold Oper.wp execOp;simp only [ho,resolve,invoke,builtin,Sem.run_bind,Sem.run_pure,Result.andThen_ok,List.map_toArray,List.map_cons,List.map_nil,hs,hx,hrun];exact hK _ _ (h v' w' k2 k3 k5)
theorem Nn {w:World} {ops:Array Oper} {rest:List Oper} {o:Oper} {a:Act} {Q:Exit->Act->World->Prop} (hgd:o.guard=none) (s x:Operand) (t e:TypeId)
  (ho:o.op=.call { callee:=.builtin .append,args:=#[s,x],argTypes:=#[t,t] }) (i:TypeInfo) (z:Value) (sz bytes:Nat) (ht:Tryz.prog.underlying t=some (.slice e)) (hi:Tryz.prog.info? e=some i) (h1:i.zero=some z) (h2:i.size=sz) (h3:i.bytes=bytes) (hzs:z.cells.size=sz) (hsz:0<sz) (hby:bytes<=1000)
  (base:Nat) (v xv:Value) (n m:Nat) (xs ys:List Value) (F:Nat->Prop) (hs:a.eval s=v) (hown:w.ownsRow base e sz v n xs)
  (hx:a.eval x=xv) (mm:bS w F xv m ys) (xA:ys.length=m*sz) (h1c:∀ u∈ys,u.oneCell'=true) (hlen:n+m<=1000000) (hbase:base<=w.heap.size)
  (h:∀ v' w',w'.ownsRow base e sz v' (n+m) (xs ++ ys)->w.grownBy w' v.ownBlock->(v'.ownBlock=v.ownBlock\/v'.ownBlock=some w.heap.size)->wpList Tryz.prog ops Q rest (a.put o.dst v') w') :
  wpList Tryz.prog ops Q (o :: rest) a w:=by
 obtain ⟨xa,xc,rfl,g1,g2,g3⟩:=mm;refine wpList_plain hgd λK hK=>?_;rcases g3 with rfl|⟨b,off,rfl,_,_,hcell⟩
 .have xz:ys=[]:=List.eq_nil_of_length_eq_zero aa;subst xz;have hrun:(Builtin.append_ #[t,t] o.type #[v,.slice xa 0 xc]).run Tryz.prog w=.ok v w:=by
   obtain ⟨r1,r2⟩:=hown;rcases r2 with ⟨rfl,r0⟩|⟨g,cap,cur,rfl,r5,r6,r7,r8,r9,WZ⟩
   .cases xa <;> simp [Builtin.append_,run_underlying ht,sizeOf,typeInfo,hi,Builtin.lenOf,Builtin.firstCells,loadCells,loadCellsFrom,storeCells]
   cases xa <;> simp [Builtin.append_,run_underlying ht,sizeOf,typeInfo,hi,Builtin.lenOf,Builtin.firstCells,r7,loadCells,loadCellsFrom,storeCells]
  unfold Oper.wp execOp;simp only [ho,resolve,invoke,builtin,Sem.run_bind,Sem.run_pure,Result.andThen_ok,List.map_toArray,List.map_cons,List.map_nil,hs,hx,hrun];exact hK _ _ (h v w (by simpa using hown) (World.grownBy.refl w _) (.inl rfl))
 obtain ⟨v',w',hrun,k2,k3,_,k5⟩:=run_append_own_at (P:=Tryz.prog) w base t o.type e i z sz bytes ht hi h1 h2 h3 hzs hsz v n xs hown ⟨b,off,none⟩ m xc ys xA
  (λj u hu=>by rw [show (⟨b,off,none⟩:Addr).add j=⟨b,off+j,none⟩ from by simp [Addr.add]];exact hcell j u hu) h1c (by unfold maxLen;omega) (by
   have:(n+m)*bytes<=1000000*1000:=Nat.mul_le_mul hlen hby;omega) hbase
 unfold Oper.wp execOp;simp only [ho,resolve,invoke,builtin,Sem.run_bind,Sem.run_pure,Result.andThen_ok,List.map_toArray,List.map_cons,List.map_nil,hs,hx,hrun];exact hK _ _ (h v' w' k2 k3 k5)
theorem k_ {w:World} {base:Nat} {e:TypeId} {sz:Nat} {v:Value} {n:Nat} {xs:List Value} (h:w.ownsRow base e sz v n xs):∃ a c,v=.slice a n c:=by
 rcases h.2 with ⟨rfl,h0⟩|⟨g,cap,cur,rfl,_⟩
 .exact ⟨none,0,by rw [h0]⟩
 exact ⟨_,cap,rfl⟩
end
end Go.Proofs.YtbmgmlbmgogeaaaGreat
section
variable {b:Bool}{a d e f i len s:Int}{m:List (List Kal.Per)}{l ml:List Int}{L:List Go.Proofs.YtbmgmlbmgogeaaaGreat.PV}{B c k n:Nat}{cv ev v:Go.Value}{A C W W' w:Go.World}
namespace Kal
section
theorem VK {P:Nat->Prop} (h:∃ n,P n):∃ n,P n/\∀ m,m<n->¬ P m:=by
 have key:∀ n,P n->∃ n,P n/\∀ m,m<n->¬ P m:=by
  intro n;induction n using Nat.strongRecOn with
  | _ n ih=>
   intro hn;by_cases h:∃ m,m<n/\P m
   .obtain ⟨m,h1,h2⟩:=h;exact ih m h1 h2
   exact ⟨n,hn,λm hm hp=>h ⟨m,hm,hp⟩⟩
 obtain ⟨n,hn⟩:=h;exact key n hn
theorem Uw (P:Nat->Nat->Prop) (n:Nat):GC P n\/∃ i j,wm P n i j:=by
 by_cases h:∃ i,∃ j,i<j/\j<n/\P i j
 .obtain ⟨i,⟨j0,hj0⟩,hi⟩:=VK h;obtain ⟨j,⟨h1,h2,h3⟩,hj⟩:=VK (P:=λj=>i<j/\j<n/\P i j) ⟨j0,hj0⟩;exact .inr ⟨i,j,h1,h2,h3,λi' j' a b c d=>hi i' a ⟨j',b,c,d⟩,λj' a b c=>hj j' b ⟨a,aa,c⟩⟩
 exact .inl λi j a b c=>h ⟨i,j,a,b,c⟩
theorem t4_:∀ (k:Nat) (t:List Per),t.length<=k->∃ u,mK t u:=by
 intro k;induction k with
 | zero=>intro t ht;exact ⟨t,.done λi j a b=>aa⟩
 | succ k ih=>
  intro t ht;rcases Uw (Av t) t.length with h|⟨i,j,h⟩
  .exact ⟨t,.done h⟩
  have h2:=h.lt;have h3:=h.lim;obtain ⟨u,hu⟩:=ih (uj t i j) (by rw [Ti h.lim];omega);exact ⟨u,.step h hu⟩
theorem v1_:∀ (k:Nat) (l:List (List Per)),l.length<=k->∃ m,ld l m:=by
 intro k;induction k with
 | zero=>intro l hl;exact ⟨l,.done λi j a b=>aa⟩
 | succ k ih=>
  intro l hl;rcases Uw (oN l) l.length with h|⟨i,j,h⟩
  .exact ⟨l,.done h⟩
  have h2:=h.lt;have h3:=h.lim;obtain ⟨m,hm⟩:=ih (qQ l i j) (by unfold qQ;rw [List.length_eraseIdx,List.length_set,if_pos h.lim];omega);exact ⟨m,.step h hm⟩
theorem UN:∀ L:List (List Per),∃ l,g_ L l
 | []=>⟨[],.nil⟩
 | t :: L=>by
  obtain ⟨l,hl⟩:=UN L;obtain ⟨u,hu⟩:=t4_ _ (t.map λp=>canonC p.mem) (Nat.le_refl _);by_cases hb:jk u
  .exact ⟨l,.skip hu hb hl⟩
  exact ⟨u :: l,.keep hu hb hl⟩
theorem Xk (L:List (List Per)):∃ m,pG L m:=by
 obtain ⟨l,hl⟩:=UN L;obtain ⟨k,hk⟩:=v1_ _ l (Nat.le_refl _);exact ⟨_,l,k,hl,hk,rfl⟩
noncomputable def Cd (L:List (List Per)):List (List Per):=Classical.choose (Xk L)
theorem Qr (L:List (List Per)):pG L (Cd L):=Classical.choose_spec (Xk L)
theorem yY {L:List (List Per)} (h:pG L m):m=Cd L:=h.unique (Qr L)
theorem a27_ {L:List (List Per)} (h:∀ t∈L,pJ s t) (n:Int):aT (Cd L) n↔aT L n:=((Qr L).ok h).2.1 n
structure Pr where
 c:eA
 d:eA
 k:Int
instance:Inhabited Pr:=⟨⟨default,default,0⟩⟩
def tg (c d:eA) (lb:Int):Int:=(c.min-d.min-lb) / 1440+1
def xD (c d:eA) (la:Int):Int:=(c.min-d.min+la-1) / 1440
def pf (lo hi:Int):List Int:=(List.range (hi+1-lo).toNat).map λi=>lo+((i:Nat):Int)
theorem zg_ {lo hi k:Int}:k∈pf lo hi↔lo<=k/\k<=hi:=by
 unfold pf;rw [List.mem_map];constructor
 .rintro ⟨i,hi,rfl⟩;rw [List.mem_range] at hi;omega
 rintro ⟨h1,h2⟩;exact ⟨(k-lo).toNat,by rw [List.mem_range];omega,aa⟩
theorem QH {lo hi:Int} (h:hi<lo):pf lo hi=[]:=by
 unfold pf;rw [show (hi+1-lo).toNat=0 by omega];rfl
theorem Qm {lo k:Int} (h:lo<=k):pf lo k=pf lo (k-1) ++ [k]:=by
 unfold pf;rw [show (k+1-lo).toNat=(k-1+1-lo).toNat+1 by omega,List.range_succ,List.map_append]
 congr 1
 simp;omega
def lJ (la lb:Int) (c d:eA):List Pr:=(pf (tg c d lb) (xD c d la)).map λk=>⟨c,d,k⟩
def nN (a b:aE):List Pr:=a.cls.flatMap λc=>b.cls.flatMap λd=>lJ a.len b.len c d
theorem tb_ {a b:aE} {p:Pr}:p∈nN a b↔p.c∈a.cls/\p.d∈b.cls/\tg p.c p.d b.len<=p.k/\p.k<=xD p.c p.d a.len:=by
 unfold nN lJ;simp only [List.mem_flatMap,List.mem_map,zg_];constructor
 .rintro ⟨c,hc,d,hd,k,hk,rfl⟩;exact ⟨hc,hd,hk⟩
 rintro ⟨hc,hd,hk⟩;exact ⟨p.c,hc,p.d,hd,p.k,hk,rfl⟩
theorem xv_ {a b:aE} {c d:eA} {k:Int}:(tg c d b.len<=k/\k<=xD c d a.len)↔fI c.min (c.min+a.len) (k*1440+d.min) (k*1440+d.min+b.len):=by
 unfold tg xD fI;omega
noncomputable def lM (m:List (List Per)) (b:Int):List (List Per):=Cd (lN m b)
noncomputable def i7 (p:Pr):List (List Per):=if p.k<0 then lM p.c.days p.k else p.c.days
noncomputable def i_ (p:Pr):List (List Per):=if 0<p.k then lM p.d.days (-p.k) else p.d.days
def beS (p:Pr):Int:=max 0 (-p.k)
theorem a1z_ {b:Int} (h:∀ t∈m,pJ 0 t) (n:Int):aT (lM m b) n↔0<=n/\aT m (n-b):=
 (a27_ (MQ h).1 n).trans ((MQ h).2 n)
theorem a1a_ (h:∀ t∈m,pJ s t) {n:Int} (hn:aT m n):0<=n:=H_ (λt ht=>(h t ht).1) hn
theorem a1o_ {p:Pr} (hc:∀ t∈p.c.days,pJ 0 t) (hd:∀ t∈p.d.days,pJ 0 t) (n:Int) :
  (aT (i7 p) n/\aT (i_ p) n)↔0<=n/\aT p.c.days (n+beS p)/\aT p.d.days (n+beS p+p.k):=by
 unfold i7 i_ beS;by_cases h1:p.k<0
 .rw [if_pos h1,if_neg aa,a1z_ hc,show max 0 (-p.k)=-p.k by omega,show n+-p.k+p.k=n by omega,show n-p.k=n+-p.k by omega];exact ⟨λ⟨⟨a,b⟩,c⟩=>⟨a,b,c⟩,λ⟨a,b,c⟩=>⟨⟨a,b⟩,c⟩⟩
 rw [if_neg h1,show max 0 (-p.k)=0 by omega,Int.add_zero];by_cases h2:0<p.k
 .rw [if_pos h2,a1z_ hd,show n - -p.k=n+p.k by omega];exact ⟨λ⟨b,a,c⟩=>⟨a,b,c⟩,λ⟨a,b,c⟩=>⟨b,a,c⟩⟩
 rw [if_neg h2,show n+p.k=n by omega];exact ⟨λ⟨b,c⟩=>⟨a1a_ hc b,b,c⟩,λ⟨_,b,c⟩=>⟨b,c⟩⟩
def yZ (p:Pr) (n:Int):Prop:=aT (dO (i7 p) (i_ p)) n
def jo (p:Pr):Prop:=¬ zk (Cd (dO (i7 p) (i_ p)))
def oO (a b:aE):Prop:=∃ x∈a.ext,(∃ y,XU b y/\fI x.frm x.fin y.frm y.fin)\/∃ y∈b.ext,fI x.frm x.fin y.frm y.fin
def Eb (a b:aE):Prop:=∃ p∈nN a b,∃ n,0<=n/\n<=cC/\yZ p n
def BG (a b:aE):Prop:=∃ p∈nN a b,jo p
def I3 (a b:aE):Prop:=∃ p∈nN a b,∃ n,yZ p n
def nM (a b:aE) (r:Bool) (e:Int):Prop:=
 ((oO a b\/oO b a\/Eb a b)/\r=true/\e=0) \/
 (¬ (oO a b\/oO b a\/Eb a b)/\((BG a b/\r=false/\e=2)\/(¬ BG a b/\e=0/\(r=true↔I3 a b))))
theorem nM.unique {a b:aE} {r r':Bool} {e':Int} (h:nM a b r e) (g:nM a b r' e'):r=r'/\e=e':=by
 rcases h with ⟨h0,rfl,rfl⟩|⟨h0,⟨h1,rfl,rfl⟩|⟨h1,rfl,h2⟩⟩ <;> rcases g with ⟨g0,rfl,rfl⟩|⟨g0,⟨g1,rfl,rfl⟩|⟨g1,rfl,g2⟩⟩
 .exact ⟨rfl,rfl⟩
 .exact absurd h0 g0
 .exact absurd h0 g0
 .exact absurd g0 h0
 .exact ⟨rfl,rfl⟩
 .exact absurd h1 g1
 .exact absurd g0 h0
 .exact absurd g1 h1
 exact ⟨by rw [Bool.eq_iff_iff,h2,g2],rfl⟩
abbrev IL:=List (Int × aE)
def ids (L:IL):List Int:=L.map Prod.fst
def ja (L:IL):Prop:=(ids L).Pairwise (· < ·)
def di:IL->Int->aE->IL
 | [],i,s=>[(i,s)]
 | (j,t) :: r,i,s=>if i<j then (i,s) :: (j,t) :: r else (j,t) :: di r i s
def dF (L:IL) (i:Int):IL:=L.filter λx=>!(x.1 == i)
theorem BC {L:IL} {s:aE} {x:Int × aE}:x∈di L i s↔x=(i,s)\/x∈L:=by
 induction L with
 | nil=>simp [di]
 | cons y r ih=>
  obtain ⟨j,t⟩:=y;unfold di
  split
  .simp
  rw [List.mem_cons,ih,List.mem_cons];constructor
  .rintro (h|h|h)
   .exact .inr (.inl h)
   .exact .inl h
   exact .inr (.inr h)
  rintro (h|h|h)
  .exact .inr (.inl h)
  .exact .inl h
  exact .inr (.inr h)
theorem x8_ {L:IL} {k:Int} {s:aE}:k∈ids (di L i s)↔k=i\/k∈ids L:=by
 unfold ids;simp only [List.mem_map];constructor
 .rintro ⟨x,hx,rfl⟩;rcases BC.1 hx with rfl|hx
  .exact .inl rfl
  exact .inr ⟨x,hx,rfl⟩
 rintro (rfl|⟨x,hx,rfl⟩)
 .exact ⟨_,BC.2 (.inl rfl),rfl⟩
 exact ⟨x,BC.2 (.inr hx),rfl⟩
theorem a1w_ {L:IL} {s:aE}:(di L i s).length=L.length+1:=by
 induction L with
 | nil=>rfl
 | cons y r ih=>
  obtain ⟨j,t⟩:=y;unfold di
  split
  .rfl
  rw [List.length_cons,ih,List.length_cons]
theorem Qi {L:IL} {s:aE} (h:ja L) (hn:i ∉ ids L):ja (di L i s):=by
 induction L with
 | nil=>unfold ja ids di;simp
 | cons y r ih=>
  obtain ⟨j,t⟩:=y;have h1:ids ((j,t) :: r)=j :: ids r:=rfl;unfold ja at h;rw [h1,List.pairwise_cons] at h;have hnj:i≠j:=λe=>hn (by rw [h1,e];simp);have Am:i ∉ ids r:=λe=>hn (by rw [h1];exact List.mem_cons_of_mem _ e);unfold di
  split
  .rename_i hlt;show (i :: j :: ids r).Pairwise (· < ·);refine List.pairwise_cons.2 ⟨λk hk=>?_,List.pairwise_cons.2 h⟩;rcases List.mem_cons.1 hk with rfl|hk
   .exact hlt
   have:=h.1 k hk;omega
  show (j :: ids (di r i s)).Pairwise (· < ·);refine List.pairwise_cons.2 ⟨λk hk=>?_,ih h.2 Am⟩;rcases x8_.1 hk with rfl|hk
  .omega
  exact h.1 k hk
theorem We {L:IL} {x:Int × aE}:x∈dF L i↔x∈L/\x.1≠i:=by
 unfold dF;rw [List.mem_filter];simp
theorem Wd {L:IL} (h:ja L):ja (dF L i):=by
 unfold ja ids dF at *;exact h.sublist (List.Sublist.map _ List.filter_sublist)
theorem a22_ {L:IL} (h:i ∉ ids L):dF L i=L:=by
 unfold dF;rw [List.filter_eq_self];intro x hx;have:x.1≠i:=λe=>h (List.mem_map.2 ⟨x,hx,e⟩);simpa using this
theorem UW {L:IL} (h:ja L) {x y:Int × aE} (hx:x∈L) (hy:y∈L) (e:x.1=y.1):x=y:=by
 obtain ⟨i,hi,rfl⟩:=List.mem_iff_getElem.1 hx;obtain ⟨j,hj,rfl⟩:=List.mem_iff_getElem.1 hy;unfold ja ids at h;rw [List.pairwise_map,List.pairwise_iff_getElem] at h;rcases Nat.lt_trichotomy i j with h1|h1|h1
 .have:=h i j hi hj h1;omega
 .subst h1;rfl
 have:=h j i hj hi h1;omega
theorem a1y_ {L M:IL} (hL:ja L) (hM:ja M) (h:∀ x,x∈L↔x∈M):L=M:=by
 have FF:ids L=ids M:=PP hL hM λk=>by
  unfold ids;simp only [List.mem_map];exact ⟨λ⟨x,hx,e⟩=>⟨x,(h x).1 hx,e⟩,λ⟨x,hx,e⟩=>⟨x,(h x).2 hx,e⟩⟩
 have hlen:L.length=M.length:=by have:=congrArg List.length FF;simpa [ids] using this
 refine List.ext_getElem hlen λi h1 h2=>?_;have e1:(ids L)[i]? = (ids M)[i]?:=by rw [FF]
 unfold ids at e1;rw [List.getElem?_map,List.getElem?_map,List.getElem?_eq_getElem h1,List.getElem?_eq_getElem h2] at e1;exact UW hM ((h _).1 (List.getElem_mem h1)) (List.getElem_mem h2) (by simpa using e1)
def gJ (s:aE) (a b:Int):Prop:=a<b/\∃ x,gq s x/\x.frm<b/\a<x.fin
open Classical in
noncomputable def oQ (L:IL) (a b:Int):List Int:=ids (L.filter λx=>decide (gJ x.2 a b))
theorem a1j_ {L:IL} {b k:Int}:k∈oQ L a b↔∃ s,(k,s)∈L/\gJ s a b:=by
 unfold oQ ids;simp only [List.mem_map,List.mem_filter,decide_eq_true_eq];constructor
 .rintro ⟨⟨k',s⟩,⟨h1,h2⟩,rfl⟩;exact ⟨s,h1,h2⟩
 rintro ⟨s,h1,h2⟩;exact ⟨(k,s),⟨h1,h2⟩,rfl⟩
theorem a23_ {L:IL} (h:ja L) (a b:Int):(oQ L a b).Pairwise (· < ·):=by
 unfold oQ ja ids at *;exact h.sublist (List.Sublist.map _ List.filter_sublist)
inductive jq (s:aE):IL->List Int->Int->Prop
 | nil:jq s [] [] 0
 | yes {i:Int} {t:aE} {L:IL} {l:List Int} (h:nM t s true 0) (hl:jq s L l 0):jq s ((i,t) :: L) (i :: l) 0
 | no {i:Int} {t:aE} {L:IL} {l:List Int} (h:nM t s false 0) (hl:jq s L l 0):jq s ((i,t) :: L) l 0
 | bad {i:Int} {t:aE} {L:IL} {r:Bool} {e:Int} (h:nM t s r e) (he:e≠0):jq s ((i,t) :: L) [] e
 | late {i:Int} {t:aE} {L:IL} {r:Bool} {e:Int} (h:nM t s r 0) (hl:jq s L [] e) (he:e≠0):jq s ((i,t) :: L) [] e
theorem jq.unique {s:aE} {L:IL} {l':List Int} {e':Int} (h:jq s L l e) (g:jq s L l' e'):l=l'/\e=e':=by
 induction h generalizing l' e' with
 | nil=>cases g;exact ⟨rfl,rfl⟩
 | yes h hl ih=>
  cases g with
  | yes g gl=>have:=ih gl;exact ⟨by rw [this.1],rfl⟩
  | no g gl=>exact absurd (h.unique g).1 aF
  | bad g ge=>exact absurd (h.unique g).2.symm ge
  | late g gl ge=>exact absurd (ih gl).2.symm ge
 | no h hl ih=>
  cases g with
  | yes g gl=>exact absurd (h.unique g).1 aF
  | no g gl=>have:=ih gl;exact ⟨this.1,rfl⟩
  | bad g ge=>exact absurd (h.unique g).2.symm ge
  | late g gl ge=>exact absurd (ih gl).2.symm ge
 | bad h he=>
  cases g with
  | yes g gl=>exact absurd (h.unique g).2 he
  | no g gl=>exact absurd (h.unique g).2 he
  | bad g ge=>exact ⟨rfl,(h.unique g).2⟩
  | late g gl ge=>exact absurd (h.unique g).2 he
 | late h hl he ih=>
  cases g with
  | yes g gl=>exact absurd (ih gl).2 he
  | no g gl=>exact absurd (ih gl).2 he
  | bad g ge=>exact absurd (h.unique g).2.symm ge
  | late g gl ge=>exact ⟨rfl,(ih gl).2⟩
def fN (L:IL) (f:Int) (i:Int) (x:ai) (b:Bool):Prop:=
 (b=true/\(∃ s,(i,s)∈L/\df (gq s) f x true/\∀ j t y,(j,t)∈L->df (gq t) f y true->¬ bK y x/\(j<i->bK x y))) \/
 (b=false/\i=0/\x=⟨0,0,0⟩/\∀ j t y,(j,t)∈L->¬ df (gq t) f y true)
theorem fN.unique {L:IL} {j:Int} {x y:ai} {c:Bool} (h:fN L f i x b) (g:fN L f j y c):i=j/\x=y/\b=c:=by
 rcases h with ⟨rfl,s,h1,h2,h3⟩|⟨rfl,rfl,rfl,h1⟩ <;> rcases g with ⟨rfl,t,g1,g2,g3⟩|⟨rfl,rfl,rfl,g1⟩
 .have a:=h3 j t y g1 g2;have b:=g3 i s x h1 h2;have ZJ:x=y:=bK.eq_of b.1 a.1;subst ZJ;refine ⟨?_,rfl,rfl⟩;rcases Int.lt_trichotomy i j with e|e|e
  .exact absurd (b.2 e) bK.irrefl
  .exact e
  exact absurd (a.2 e) bK.irrefl
 .exact absurd h2 (g1 i s x h1)
 .exact absurd g2 (h1 j t y g1)
 exact ⟨rfl,rfl,rfl⟩
end
end Kal
namespace Go.Proofs.YtbmgmlbmgogeaaaGreat
section
open Go.RowKit Go.Maps Kal
theorem y9_ (n:Int):(n.tmod 1440<0->n.tdiv 1440-1=n / 1440)/\(0<=n.tmod 1440->n.tdiv 1440=n / 1440):=by
 have hq:=Int.mul_tdiv_add_tmod n 1440;have hr:=(JF n 1440 aF).2.2;generalize n.tdiv 1440=q at *;generalize n.tmod 1440=r at *;omega
theorem wz_ (n:Int) (w:World) (hn:aP n) :
  Calls Tryz.prog 111 #[.int .i64 n,.int .i64 1440] w λe w'=>e=.returned (.tuple #[.int .i64 (n / 1440),.int .i64 0])/\w=w':=by
 obtain ⟨k1,k2⟩:=hn;obtain ⟨h1,h2⟩:=y9_ n;have H1:=ad h1;have H2:=ad h2;have b1:-9223372036854775807<=n.tdiv 1440/\n.tdiv 1440<=9223372036854775807:=by
  by_cases h:n.tmod 1440<0
  .have:=h1 h;omega
  have:=h2 aa;omega
 obtain ⟨b2,b3⟩:=b1;clear h1 h2
 go_in
 go_wp2
 .go_ret2;exact ⟨by rw [H1.o (by assumption)];rfl,rfl⟩
 go_ret2;exact ⟨by rw [H2.o (by assumption)];rfl,rfl⟩
theorem y_ (x lo hi:Int) (w:World) :
  Calls Tryz.prog 48 #[.int .i64 x,.int .i64 lo,.int .i64 hi] w λe w'=>e=.returned (.bool (decide (lo<=x/\x<=hi)))/\w=w':=by
 by_cases h1:lo<=x
 .by_cases h2:x<=hi
  .go_in
   go_wp2;go_ret;exact ⟨bT (by simp [h1,h2]),rfl⟩
  go_in
  go_wp2;go_ret;exact ⟨bT (by simp [h1,h2]),rfl⟩
 go_in
 go_wp2;go_ret;exact ⟨bT aO,rfl⟩
theorem D_ (n:Int) (w:World) (hn:aP n) :
  Calls Tryz.prog 62 #[.int .i64 n] w λe w'=>e=.returned (.int .i64 (n / 1440))/\w=w':=by
 have H:=λW=>wz_ n W hn;obtain ⟨k1,k2⟩:=hn;generalize n / 1440=q at *
 go_in
 go_wp2_with (go_at_call 111;refine (H _).mono ?_;rintro e w1 ⟨rfl,rfl⟩)
 go_ret;exact ⟨rfl,rfl⟩
theorem Vm (a1 a2 a3:Option Addr) (n1 c1 n2 c2 n3 c3:Nat) (len mi d:Int) (w:World) (h1:1<=len) (h2:len<=10080) (h3:-4320<=mi) (h4:mi<=4320) (hd:aP d) :
  Calls Tryz.prog 63 #[.agg #[.slice a1 n1 c1,.int .i64 len,.slice a2 n2 c2],.agg #[.slice a3 n3 c3,.int .i64 mi],.int .i64 d] w λe w'=>e=.returned (.bool (decide (d*1440+mi+len<=2251799813685248)))/\Below w.heap.size w w':=by
 obtain ⟨k1,k2⟩:=hd;have e:decide (d*1440+mi+len<=2251799813685248)=decide (d<=(2251799813685248-mi-len) / 1440):=by
  rw [decide_eq_decide];omega
 rw [e];clear e;have g0:0<=2251799813685248-mi-len:=aa
 go_in
 go_wp2;go_ret;exact ⟨rfl,xE⟩
theorem Ux (a1 a2 a3:Option Addr) (n1 c1 n2 c2 n3 c3:Nat) (len mi d:Int) (w:World) (h1:1<=len) (h2:len<=10080) (h3:-4320<=mi) (h4:mi<=4320) (h5:-4503599627370496<=d) (h6:d<=4503599627370496) :
  Calls Tryz.prog 64 #[.agg #[.slice a1 n1 c1,.int .i64 len,.slice a2 n2 c2],.agg #[.slice a3 n3 c3,.int .i64 mi],.int .i64 d] w λe w'=>e=.returned (.agg #[.int .i64 d,.int .i64 (d*1440+mi),.int .i64 (d*1440+mi+len)])/\Below w.heap.size w w':=by
 go_in
 go_wp2;exact bodyPost_ret (v:=.agg #[.int .i64 d,.int .i64 (d*1440+mi),.int .i64 (d*1440+mi+len)]) (by simp [results,Tryz.results64,go_sem]) rfl ⟨rfl,xE⟩
theorem UG (a b c d:Int) (w:World) :
  Calls Tryz.prog 66 #[.agg #[.int .i64 a,.int .i64 b],.agg #[.int .i64 c,.int .i64 d]] w λe w'=>e=.returned (.bool (decide (fI a b c d)))/\Below w.heap.size w w':=by
 by_cases h1:a<d
 .by_cases h2:c<b
  .go_in
   go_wp2;go_ret;exact ⟨bT (by simp [fI,h1,h2]),xE⟩
  go_in
  go_wp2;go_ret;exact ⟨bT (by simp [fI,h1,h2]),xE⟩
 go_in
 go_wp2;go_ret;exact ⟨bT (decide_eq_false (by unfold fI;omega)).symm,xE⟩
def ek (x y:Int):Int:=if x<y then -1 else if y<x then 1 else 0
theorem Qb (x:Int) (w:World) :
  Calls Tryz.prog 127 #[.int .i64 x] w λe w'=>e=.returned (.bool false)/\w=w':=by
 go_in
 go_wp2;go_ret;exact ⟨bT ag,rfl⟩
theorem No (x y:Int) (w:World) :
  Calls Tryz.prog 94 #[.int .i64 x,.int .i64 y] w λe w'=>e=.returned (.int .i64 (ek x y))/\w=w':=by
 by_cases h1:x<y
 .have e:ek x y=-1:=by unfold ek;rw [if_pos h1]
  rw [e];clear e
  go_in
  go_wp2_with (go_at_call 127;refine (Qb _ _).mono ?_;rintro e w1 ⟨rfl,rfl⟩)
  go_ret;exact ⟨rfl,rfl⟩
 by_cases h2:y<x
 .have e:ek x y=1:=by unfold ek;rw [if_neg h1,if_pos h2]
  rw [e];clear e
  go_in
  go_wp2_with (go_at_call 127;refine (Qb _ _).mono ?_;rintro e w1 ⟨rfl,rfl⟩)
  go_ret;exact ⟨rfl,rfl⟩
 have e:ek x y=0:=by unfold ek;rw [if_neg h1,if_neg h2]
 rw [e];clear e
 go_in
 go_wp2_with (go_at_call 127;refine (Qb _ _).mono ?_;rintro e w1 ⟨rfl,rfl⟩)
 go_ret;exact ⟨rfl,rfl⟩
def Ch (x y z:Int):Int:=if x≠0 then x else if y≠0 then y else z
theorem zv_ (x y:ai):Ch (ek x.frm y.frm) (ek x.day y.day) (ek x.fin y.fin)=gV x y:=by
 unfold Ch ek gV
 repeat' split
 all_goals omega
theorem MD (b c:Nat) (x y z:Int) (w:World) (hb:tm w b #[.int .i64 x,.int .i64 y,.int .i64 z]) :
  Calls Tryz.prog 93 #[.slice (some ⟨b,0,none⟩) 3 c] w λe w'=>e=.returned (.int .i64 (Ch x y z))/\Below w.heap.size w w':=by
 have c0:w.cell? ⟨b,0,none⟩=some (.int .i64 x):=hb 0;have c1:w.cell? ⟨b,0+1,none⟩=some (.int .i64 y):=hb 1;have c2:w.cell? ⟨b,0+2,none⟩=some (.int .i64 z):=hb 2;clear hb
 go_in
 go_wp2
 go_loopw [8] (λi wr=>∃ k:Nat,k<=3/\i=.int .i64 k/\Hid ((0<k->x=0)/\(1<k->y=0)/\(2<k->z=0))/\Below w.heap.size w wr) (λi _=>3-(intOf i).toNat)
 .exact ⟨0,aa,rfl,ad ⟨aa,aa,aa⟩,xE⟩
 obtain ⟨k,hk,rfl,HK,hb⟩:=hrel;have c0:=al.cell hb c0;have c1:=al.cell hb c1;have c2:=al.cell hb c2;by_cases hlt:k<3
 .have dh:(k:Int)<3:=aa;obtain ⟨u,hu,hcell⟩:∃ u,Hid ((k=0->u=x)/\(k=1->u=y)/\(k=2->u=z))/\wr.cell? ⟨b,0+k,none⟩=some (.int .i64 u):=by
   match k,hlt with
   | 0,_=>exact ⟨x,ad ⟨λ_=>rfl,aa,aa⟩,c0⟩
   | 1,_=>exact ⟨y,ad ⟨aa,λ_=>rfl,aa⟩,c1⟩
   | 2,_=>exact ⟨z,ad ⟨aa,aa,λ_=>rfl⟩,c2⟩
  simp only [Nat.zero_add] at hcell;clear c0 c1 c2;by_cases h0:u=0
  .have e0:(u == 0)=true:=by simpa using h0
   have e1:(u != 0)=false:=by simp [h0]
   have H0:=ad h0;clear h0;go_wp2;go_roundw
   .refine ⟨k+1,aa,by go_num,ad ?_,xE⟩;obtain ⟨g1,g2,g3⟩:=hu.o;obtain ⟨f1,f2,f3⟩:=HK.o;have:=H0.o;refine ⟨λh=>?_,λh=>?_,λh=>?_⟩
    .by_cases e:k=0
     .rw [<- g1 e];exact this
     exact f1 aa
    .by_cases e:k=1
     .rw [<- g2 e];exact this
     exact f2 aa
    by_cases e:k=2
    .rw [<- g3 e];exact this
    exact f3 aa
   simp [intOf];omega
  have e0:(u == 0)=false:=by simpa using h0
  have e1:(u != 0)=true:=by simp [h0]
  have H0:=ad h0;clear h0;go_wp2;go_ret;refine ⟨sL ?_,xE⟩;obtain ⟨g1,g2,g3⟩:=hu.o;obtain ⟨f1,f2,f3⟩:=HK.o;have h0:=H0.o;unfold Ch
  match k,hlt with
  | 0,_=>rw [<- g1 rfl,if_pos h0]
  | 1,_=>rw [if_neg (by have:=f1 aa;omega),<- g2 rfl,if_pos h0]
  | 2,_=>rw [if_neg (by have:=f1 aa;omega),if_neg (by have:=f2 aa;omega),g3 rfl]
 obtain rfl:k=3:=aa;go_wp2;go_ret;refine ⟨sL ?_,xE⟩;obtain ⟨f1,f2,f3⟩:=HK.o;unfold Ch;rw [if_neg (by have:=f1 aa;omega),if_neg (by have:=f2 aa;omega),f3 aa]
theorem VQ (x y:ai) (w:World) :
  Calls Tryz.prog 50 #[bZ x,bZ y] w λe w'=>e=.returned (.int .i64 (gV x y))/\Below w.heap.size w w':=by
 rw [<- zv_];obtain ⟨xd,xf,xt⟩:=x;obtain ⟨yd,yf,yt⟩:=y;have H1:=ad (λW=>No xf yf W);have H2:=ad (λW=>No xd yd W);have H3:=ad (λW=>No xt yt W);have HO:=ad (λb c p q r W h=>MD b c p q r W h);show Calls _ _ #[.agg #[.int .i64 xd,.int .i64 xf,.int .i64 xt],.agg #[.int .i64 yd,.int .i64 yf,.int .i64 yt]] _ λe w'=>e=.returned (.int .i64 (Ch (ek xf yf) (ek xd yd) (ek xt yt)))/\_;generalize ek xf yf=p at *;generalize ek xd yd=q at *;generalize ek xt yt=r at *
 go_in
 go_upto_region 1 with (fail)
 generalize hW:(w.alloc _).alloc _=w2;have hE:Below w.heap.size w w2:=by rw [<- hW];exact xE
 have hbx:af w2 w.heap.size #[.int .i64 xd,.int .i64 xf,.int .i64 xt] 46:=by rw [<- hW];exact (af.at rfl).alloc _
 have hby:af w2 (w.heap.size+1) #[.int .i64 yd,.int .i64 yf,.int .i64 yt] 46:=by rw [<- hW];exact af.at ag
 have x0:=(hbx.cells 0).1;have x1:=(hbx.cells 1).1;have x2:=(hbx.cells 2).1;have y0:=(hby.cells 0).1;have y1:=(hby.cells 1).1;have y2:=(hby.cells 2).1;have HE:=ad hE;clear hW hbx hby hE;refine jZ (w0:=w2) [0,1,2,3,4,5,6,7,8,9,10,11,12,13,14,15,16,17,18] [19,20,21] (λv=>⟨#[.agg #[.int .i64 xd,.int .i64 xf,.int .i64 xt],.agg #[.int .i64 yd,.int .i64 yf,.int .i64 yt],.pointer (some ⟨w.heap.size,0,none⟩),.pointer (some ⟨w.heap.size+1,0,none⟩),.int .i64 0,v 0,v 1,v 2,v 3,v 4,v 5,v 6,v 7,v 8,v 9,v 10,v 11,v 12,v 13,v 14,v 15,v 16,v 17,v 18,undef,undef],[]⟩) [.pointer (some ⟨w.heap.size,1,none⟩),.pointer (some ⟨w.heap.size,1,none⟩),.int .i64 xf,.pointer (some ⟨w.heap.size+1,1,none⟩),.pointer (some ⟨w.heap.size+1,1,none⟩),.int .i64 yf,.int .i64 p,.pointer (some ⟨w.heap.size,0,none⟩),.int .i64 xd,.pointer (some ⟨w.heap.size+1,0,none⟩),.int .i64 yd,.int .i64 q,.pointer (some ⟨w.heap.size,1,none⟩),.pointer (some ⟨w.heap.size,2,none⟩),.int .i64 xt,.pointer (some ⟨w.heap.size+1,1,none⟩),.pointer (some ⟨w.heap.size+1,2,none⟩),.int .i64 yt,.int .i64 r] (λW=>W.cell? ⟨w.heap.size,0,none⟩=some (.int .i64 xd)/\W.cell? ⟨w.heap.size,1,none⟩=some (.int .i64 xf)/\W.cell? ⟨w.heap.size,2,none⟩=some (.int .i64 xt)/\W.cell? ⟨w.heap.size+1,0,none⟩=some (.int .i64 yd)/\W.cell? ⟨w.heap.size+1,1,none⟩=some (.int .i64 yf)/\W.cell? ⟨w.heap.size+1,2,none⟩=some (.int .i64 yt)) (λW hb=>⟨al.cell hb x0,al.cell hb x1,al.cell hb x2,al.cell hb y0,al.cell hb y1,al.cell hb y2⟩) ?steps ?fin
 case steps=>
  refine .c [] rfl ?_ (.c [0] rfl ?_ (.c [1] rfl ?_ (.c [] rfl ?_ (.c [3] rfl ?_ (.c [4] rfl ?_ (.c [2,5] rfl ?_ (.c [] rfl ?_ (.c [7] rfl ?_ (.c [] rfl ?_ (.c [9] rfl ?_ (.c [8,10] rfl ?_ (.c [] rfl ?_ (.c [12] rfl ?_ (.c [13] rfl ?_ (.c [] rfl ?_ (.c [15] rfl ?_ (.c [16] rfl ?_ (.c [14,17] rfl ?_ (.n)))))))))))))))))));all_goals try exact kq
  all_goals
   rintro v W hb ⟨g0,g1,g2,g3,g4,g5⟩;refine .inl ⟨rfl,λK hK=>?_⟩;simp only [ov,aD,Nat.reduceBEq,cond_true,cond_false];go_wp2_with (first|(go_at_call 94;(with_reducible refine (H1.o _).mono ?_);rintro e w9 ⟨rfl,h9⟩;have bg:Below W.heap.size W w9:=h9 ▸ Below.refl _ _;clear h9)|(go_at_call 94;(with_reducible refine (H2.o _).mono ?_);rintro e w9 ⟨rfl,h9⟩;have bg:Below W.heap.size W w9:=h9 ▸ Below.refl _ _;clear h9)|(go_at_call 94;(with_reducible refine (H3.o _).mono ?_);rintro e w9 ⟨rfl,h9⟩;have bg:Below W.heap.size W w9:=h9 ▸ Below.refl _ _;clear h9));exact aU (hK w9 bg) (by simp [ov,aD])
 case fin=>
  rintro W2 hb2 g0;show wpList _ _ _ [_,_,_] _ _;simp only [aD];go_wp2_with (go_at_call 93;(refine (HO.o _ _ _ _ _ _ (λi=>((af.new _ _ _).cells i).1)).mono ?_);rintro e w5 ⟨rfl,hb5⟩);go_ret;exact ⟨rfl,Et HE.o xE⟩
end
end Go.Proofs.YtbmgmlbmgogeaaaGreat
end
namespace Go
section
open Go.RowKit
variable {P:Program}
def ud {α:Type} (P:Program) (g:Nat) (lb:Array Value) (encs:α->Array Value) (Kp:World->World->Prop) (x:Option Nat) (Ey:List α->α->World->Prop) (Fin:List α->Prop) (w:World):Prop:=
 ∀ (l:Nat) (J Jx:List α->World->Prop) (W:World),Below w.heap.size w W->Ez x J->Ez x Jx->
  (∀ pre y W1,J pre W1->Ey pre y W1->YieldAt Fence.wide 0 P l (encs y) W1 λe W'=>
   (e=.returned (.bool true)/\J (pre ++ [y]) W'/\Kp W1 W')\/(e=.returned (.bool false)/\Jx (pre ++ [y]) W'))->
  J [] W->
  CallsIn Fence.wide 0 P g (#[.func (.yield l) #[] #[]] ++ lb) W λe W'=>(∃ v,e=.returned v)/\((∃ xs,Fin xs/\J xs W')\/(∃ pre,Jx pre W'))
theorem If {α:Type} {g:Operand} {ps:Array Tmp} {assign body:Code} {Q:Exit->Act->World->Prop} {a:Act} {w:World}
  {gf:Nat} {lb:Array Value} (hg:a.eval g=.func (.func gf) #[] lb) (eg:∀ args w,(callFunc gf args).run P w=.ok (.enter gf args) w)
  {encs:α->Array Value} {Kp:World->World->Prop} {x:Option Nat} {Ey:List α->α->World->Prop} {Fin:List α->Prop} (hseq:ud P gf lb encs Kp x Ey Fin w)
  (hKt:∀ {A B C:World},Kp A B->Kp B C->Kp A C) (hKb:∀ (W:World) (l:Nat) (o o':Obj),w.heap.size<=l->W.heap[l]? = some o->o.isCells=false->Kp W (W.putObj l o')) (hKg:∀ (W W':World),w.heap.size<=W.heap.size->W.grownBy W' none->Kp W W') (oZ:∀ y,(encs y).size=ps.size)
  (I:List α->World->Prop) (Ix:Code->List α->World->Prop) (hI:e_ w.heap.size x I) (hIx:∀ c,e_ w.heap.size x (Ix c))
  (uI:∀ pre y (W:World) (l:Nat) (o o':Obj),W.heap[l]? = some o->o.isCells=false->Ey pre y W->Ey pre y (W.putObj l o')) (hEg:∀ pre y (W W':World),W.grownBy W' none->Ey pre y W->Ey pre y W') (h0:I [] w)
  (Ax:α->Act->World->Prop) (hAx:∀ y a' (W:World) (l:Nat) (o o':Obj),w.heap.size<=l->W.heap[l]? = some o->o.isCells=false->Ax y a' W->Ax y a' (W.putObj l o'))
  (hassign:∀ (l:Nat) (pre:List α) (y:α) (W:World) (K:Act->World->Prop),w.heap.size<=W.heap.size->I pre W->Ey pre y W->(∀ a' W',W.grownBy W' none->Ax y a' W'->K a' W')->
   assign.wpIn (Fence.wide.inRound l) 0 P (Exit.then K (λ_ _ _=>False)) { tmps:=(ps.zip (encs y)).foldl (λt (p,v)=>t.setIfInBounds p v) a.tmps,defers:=[] } W)
  (hbody:∀ (l:Nat) (pre:List α) (y:α) (a':Act) (W:World),I pre W->Ey pre y W->Ax y a' W->body.wpIn (Fence.wide.inRound l) 0 P (ownPostG w.heap.size Kp I Ix (pre ++ [y]) W) a' W)
  (hdone:∀ (D:Nat) (xs:List α) (W:World),w.heap.size<=D->Fin xs->I xs W->W.heap[D]? = some (.deferred (some []))->Q .normal { a with defers:={ target:=.collected D,args:=#[] } :: a.defers } W)
  (hstop:∀ (D:Nat) (c:Code) (pre:List α) (W:World),w.heap.size<=D->Ix c pre W->W.heap[D]? = some (.deferred (some []))->c.wpIn Fence.wide 0 P Q { a with defers:={ target:=.collected D,args:=#[] } :: a.defers } W) :
  (Code.rangeFunc g ps assign body).wpIn Fence.wide 0 P Q a w:=by
 refine wpIn_rangeFunc ?_;intro fn hfn;obtain ⟨rec,bL⟩:∃ rec:LoopState->Option Code->Loop,rec=λst pe=>{ state:=st,pending:=pe,fn,tmps:=a.tmps,params:=ps,assign,body,defers:=w.heap.size }:=⟨_,rfl⟩;obtain ⟨W1,hW1⟩:∃ W1,(w.alloc (.deferred (some []))).alloc (.loop (rec .ready none))=W1:=⟨_,rfl⟩;have fO:W1.heap[w.heap.size+1]? = some (.loop (rec .ready none)):=by
  rw [<- hW1];have:=World.alloc_heap_new (w.alloc (.deferred (some []))) (.loop (rec .ready none));rwa [World.size_alloc] at this
 have EK:W1.heap[w.heap.size]? = some (.deferred (some [])):=by
  rw [<- hW1];exact (Below.heap_alloc _ _ _ ag).trans (World.alloc_heap_new w _)
 have EH:I [] W1:=by rw [<- hW1];exact hI.alloc _ (hI.alloc _ h0)
 have hb1:Below w.heap.size w W1:=by
  rw [<- hW1];exact (((Below.refl _ w).alloc (Nat.le_refl _) _).alloc ag _)
 refine ⟨w.heap.size+1,[{ target:=.collected w.heap.size,args:=#[] }],W1,{ target:=.fn (.func gf) lb,args:=#[.func (.yield (w.heap.size+1)) #[] #[]] },W1,gf,
  #[.func (.yield (w.heap.size+1)) #[] #[]] ++ lb,W1,?_,?_,?_,?_,(λh=>by cases h),?_⟩
 .rw [<- hW1,bL];exact run_enterLoop_outer _ _ _ _ _
 .simp only [resolve,hg];simp [go_sem]
 .intro f' _;trivial
 .simp [invoke,go_sem,eg]
 have dQ:∀ {A B:World} {row:Option Nat} {l:Nat} {o:Obj},A.grownBy B row->(∀ r,row=some r->x=some r/\∃ o:Obj,A.heap[r]? = some o/\o.isCells=true)->A.heap[l]? = some o->o.isCells=false->B.heap[l]? = some o:=
  λ{A B row l o} eL hr hl ho=>by
   refine (eL.block l (Array.getElem?_eq_some_iff.1 hl).1 λe=>?_).trans hl;obtain ⟨_,o2,ho2,hc⟩:=hr l e.symm;rw [hl] at ho2;cases ho2;rw [ho] at hc;cases hc
 refine (hseq (w.heap.size+1)
  (λpre W=>I pre W/\W.heap[w.heap.size+1]? = some (.loop (rec .ready none))/\W.heap[w.heap.size]? = some (.deferred (some [])))
  (λpre W=>∃ c,Ix c pre W/\W.heap[w.heap.size+1]? = some (.loop (rec .done (some c)))/\W.heap[w.heap.size]? = some (.deferred (some [])))
  W1 hb1
  (λs A B row hs eL hr=>⟨hI s A B row hs.1 eL (λr e=>.inl (hr r e)),dQ eL hr hs.2.1 rfl,dQ eL hr hs.2.2 rfl⟩)
  (λs A B row hs eL hr=>by
   obtain ⟨c,hc,hl,hk⟩:=hs;exact ⟨c,hIx c s A B row hc eL (λr e=>.inl (hr r e)),dQ eL hr hl rfl,dQ eL hr hk rfl⟩)
  ?_ ⟨EH,fO,EK⟩).mono ?_
 .rintro pre y W ⟨hi,hl,hk⟩ hlen;have hlt:w.heap.size+1<W.heap.size:=(Array.getElem?_eq_some_iff.1 hl).1;have hy:=run_yield (P:=P) (args:=encs y) hl (by rw [bL];exact oZ y);rw [bL] at hy;refine ⟨fn,_,assign,body,hy,roundIn_of_wpIn hfn (hassign _ pre y W _ aa hi hlen ?_)⟩;clear hy;intro a' Wa zW hax;have hka:Kp W Wa:=hKg W Wa aa zW;have hia:=hI pre W Wa none hi zW (λr e=>by cases e);have OF:=hEg pre y W Wa zW hlen;have wX:Wa.heap[w.heap.size+1]? = some (.loop (rec .ready none)):=(zW.block _ hlt ag).trans hl;have OU:Wa.heap[w.heap.size]? = some (.deferred (some [])):=(zW.block _ aa ag).trans hk;have O2:w.heap.size+1<Wa.heap.size:=(Array.getElem?_eq_some_iff.1 wX).1;clear hi hl hk hlen hlt;refine ⟨_,run_beginRound wX (by rw [bL]),?_⟩;have hl2:(Wa.putObj (w.heap.size+1) (.loop { rec .ready none with state:=.busy })).heap[w.heap.size+1]? = some (.loop { rec .ready none with state:=.busy }):=World.putObj_heap_same O2;have hk2:(Wa.putObj (w.heap.size+1) (.loop { rec .ready none with state:=.busy })).heap[w.heap.size]? = some (.deferred (some [])):=(World.putObj_heap_other aa).trans OU;have hw2:Kp W (Wa.putObj (w.heap.size+1) (.loop { rec .ready none with state:=.busy })):=hKt hka (hKb _ _ _ _ aa wX rfl);refine wpIn_mono (hbody _ pre y a' _ (hI.putObj _ hia aa wX rfl) (uI _ _ _ _ _ _ wX rfl OF) (hAx _ _ _ _ _ _ aa wX rfl hax)) ?_;have fin:∀ (jump:Option Code) (W3:World),KeepsFrom w.heap.size (Wa.putObj (w.heap.size+1) (.loop { rec .ready none with state:=.busy })) W3->
    (Instr.endRound (w.heap.size+1) jump).run P W3=.ok (.bool jump.isNone) (W3.putObj (w.heap.size+1) (.loop (rec (if jump.isNone then .ready else .done) jump)))/\
    W3.heap[w.heap.size+1]? = some (.loop { rec .ready none with state:=.busy })/\
    (W3.putObj (w.heap.size+1) (.loop (rec (if jump.isNone then .ready else .done) jump))).heap[w.heap.size+1]? = some (.loop (rec (if jump.isNone then .ready else .done) jump))/\
    (W3.putObj (w.heap.size+1) (.loop (rec (if jump.isNone then .ready else .done) jump))).heap[w.heap.size]? = some (.deferred (some [])):=λjump W3 hk3=>by
   have hl3:=hk3.same _ _ aa hl2 rfl;have:=run_endRound (P:=P) jump hl3;rw [bL] at this ⊢;exact ⟨this,by rw [bL] at hl3;exact hl3,World.putObj_heap_same (Array.getElem?_eq_some_iff.1 hl3).1,(World.putObj_heap_other aa).trans (hk3.same _ _ (Nat.le_refl _) hk2 rfl)⟩
  rintro e a3 W3 hp;cases e with
  | normal=>
   obtain ⟨hk3,rG,gP⟩:=hp;obtain ⟨hr,hl3,hl4,hk4⟩:=fin none W3 hk3;exact ⟨_,_,hr,.inl ⟨rfl,⟨hI.putObj _ gP aa hl3 rfl,hl4,hk4⟩,hKt (hKt hw2 rG) (hKb _ _ _ _ aa hl3 rfl)⟩⟩
  | ret=>
   obtain ⟨hk3,gP⟩:=hp;obtain ⟨hr,hl3,hl4,hk4⟩:=fin (some .ret) W3 hk3;exact ⟨_,_,hr,.inr ⟨rfl,.ret,(hIx _).putObj _ gP aa hl3 rfl,hl4,hk4⟩⟩
  | exit id=>
   obtain ⟨hk3,gP⟩:=hp;obtain ⟨hr,hl3,hl4,hk4⟩:=fin (some (.exit id)) W3 hk3;exact ⟨_,_,hr,.inr ⟨rfl,.exit id,(hIx _).putObj _ gP aa hl3 rfl,hl4,hk4⟩⟩
  | goto t=>
   obtain ⟨hk3,gP⟩:=hp;obtain ⟨hr,hl3,hl4,hk4⟩:=fin (some (.goto t)) W3 hk3;exact ⟨_,_,hr,.inr ⟨rfl,.goto t,(hIx _).putObj _ gP aa hl3 rfl,hl4,hk4⟩⟩
  | panic ch=>exact hp.elim
  | outgrown=>exact hp.elim
 rintro e W2 ⟨⟨v,rfl⟩,(⟨xs,hS,hi,hl,hk⟩|⟨pre,c,hi,hl,hk⟩)⟩
 .exact ⟨none,_,by have:=run_endLoop (P:=P) hl (by rw [bL];simp);rw [bL] at this;exact this,hdone _ xs _ (Nat.le_refl _) hS (hI.putObj _ hi aa hl rfl) ((World.putObj_heap_other aa).trans hk)⟩
 exact ⟨some c,_,by have:=run_endLoop (P:=P) hl (by rw [bL];simp);rw [bL] at this;exact this,hstop _ c pre _ (Nat.le_refl _) ((hIx c).putObj _ hi aa hl rfl) ((World.putObj_heap_other aa).trans hk)⟩
end
end Go
section
variable {b:Bool}{a d e f i len s:Int}{m:List (List Kal.Per)}{l ml:List Int}{L:List Go.Proofs.YtbmgmlbmgogeaaaGreat.PV}{B c k n:Nat}{cv ev v:Go.Value}{A C W W' w:Go.World}
namespace Go.Proofs.YtbmgmlbmgogeaaaGreat
section
open Go.RowKit Go.Shelf Go.Maps Kal
attribute [local go_sem] Oper.semAt_some
theorem wt_ (a1 a2 a3:Option Addr) (n1 c1 n2 c2 n3 c3:Nat) (len mi a b:Int) (w:World) :
  Calls Tryz.prog 65 #[.agg #[.slice a1 n1 c1,.int .i64 len,.slice a2 n2 c2],.agg #[.slice a3 n3 c3,.int .i64 mi],.agg #[.int .i64 a,.int .i64 b]] w λe w'=>
   e=.returned (.func (.func 112) #[] #[.pointer (some ⟨w.heap.size+2,0,none⟩),.pointer (some ⟨w.heap.size,0,none⟩),.pointer (some ⟨w.heap.size+1,0,none⟩)])/\
   w'=((w.alloc (.cells #[.slice a1 n1 c1,.int .i64 len,.slice a2 n2 c2] 43)).alloc (.cells #[.slice a3 n3 c3,.int .i64 mi] 59)).alloc (.cells #[.int .i64 a,.int .i64 b] 29):=by
 go_in
 go_wp2;go_ret;exact ⟨rfl,rfl⟩
theorem Wz (s:Int) (F:Nat->Prop) (v:Value) (m:List (List Per)) (f d:Int) (ok:Bool) (w:World) (h1:aA w F v m) (k1:MV s m) (hf:aP f) (h0:0<=f) (hN:dV cC (aT m) f d ok) :
  Calls Tryz.prog 61 #[.agg #[v],.int .i64 f] w λe w'=>e=.returned (.tuple #[.int .i64 d,.bool ok])/\Below w.heap.size w w':=
 (vb_ s F v m f w h1 k1 hf).mono λe w' ⟨n,b,he,hn,hb⟩=>by
  rw [show max f 0=f by omega] at hn;obtain ⟨rfl,rfl⟩:=hn.unique hN;exact ⟨he,hb⟩
theorem aA.kp {pb F:Nat->Prop} {B:World} (h:aA A F v m) (hF:∀ k,F k->pb k) (hk:cX pb A B):aA B F v m:=h.keep2 (λb hb _=>hk b (hF b hb))
structure uz (S:Int->Prop) (t:Int) (pre:List Int):Prop where
 en:wF S pre
 lt:∀ e∈pre,e<t
 all:∀ x,S x->x<t->x∈pre
theorem uz.start {S:Int->Prop} {t:Int} (h:∀ x,S x->t<=x):uz S t []:=⟨wF.nil,ag,λx hx hlt=>by have:=h x hx;omega⟩
theorem uz.next {S:Int->Prop} {t:Int} {pre:List Int} (h:uz S t pre) (hd:S d) (ht:t<=d) (hn:∀ x,t<=x->x<d->¬ S x):uz S (d+1) (pre ++ [d]):=by
 refine ⟨h.en.snoc h.lt h.all ht hd hn,λe he=>?_,λx hx hlt=>?_⟩
 .rcases List.mem_append.1 he with he|he
  .have:=h.lt e he;omega
  obtain rfl:e=d:=by simpa using he
  omega
 by_cases h1:x<t
 .exact List.mem_append_left _ (h.all x hx h1)
 rcases Int.lt_trichotomy x d with h2|h2|h2
 .exact absurd hx (hn x aa h2)
 .subst h2;simp
 omega
theorem uz.done {S:Int->Prop} {t:Int} {pre:List Int} (h:uz S t pre) (hn:∀ x,t<=x->¬ S x):XT S pre:=
 ⟨h.en.rise,λd=>⟨h.en.all d,λhd=>by
  by_cases h1:d<t
  .exact h.all d hd h1
  exact absurd hd (hn d aa)⟩⟩
theorem wu_ (F pb:Nat->Prop) (a1 a2 a3:Option Addr) (n1 c1 n2 c2 c3 sb cb wb:Nat) (w:World) (s:aE) (c:eA) (a b:Int)
  (hm:aA w F (.slice a3 c.days.length c3) c.days) (km:MV 0 c.days) (hF:∀ k,F k->pb k) (bJ:∀ k,pb k->k<w.heap.size)
  (hs:af w sb #[.slice a1 n1 c1,.int .i64 s.len,.slice a2 n2 c2] 43) (hc:af w cb #[.slice a3 c.days.length c3,.int .i64 c.min] 59) (hw:af w wb #[.int .i64 a,.int .i64 b] 29)
  (g1:pb sb) (g2:pb cb) (g3:pb wb) (fA:1<=s.len) (hl2:s.len<=10080) (hm1:-4320<=c.min) (ic:c.min<=4320) (ha1:-2251799813700000<=a) (ha2:a<=2251799813700000) (hb1:-2251799813700000<=b) (hb2:b<=2251799813700000) :
  ud Tryz.prog 112 #[.pointer (some ⟨wb,0,none⟩),.pointer (some ⟨sb,0,none⟩),.pointer (some ⟨cb,0,none⟩)] (λd:Int=>#[.int .i64 d]) (cX pb) none (λpre d _=>wF (gE s c a b) (pre ++ [d])) (XT (gE s c a b)) w:=by
 intro l' J Jx W hW hJ zA hY qY;have Az:af W sb _ _:=hs.below hW;have Om:af W cb _ _:=hc.below hW;have PG:af W wb _ _:=hw.below hW;have TH:aA W F (.slice a3 c.days.length c3) c.days:=hm.ext hW;clear hs hc hw hm;have fV:=ad (λk (h:pb k)=>Nat.lt_of_lt_of_le (bJ k h) hW.size);have hne:∀ t∈c.days,t≠[]:=λt ht=>(km.vt t ht).ne;have HJ:=ad hJ;have HY:=ad hY;have HM:=ad TH;have YW:=ad km;have jE:=ad hne;have HF:=ad hF;have HS:=ad Az;have HC:=ad Om;have HW:=ad PG;have s1:=(Az.cells 1).1;have w0:=(PG.cells 0).1;have m1:=(Om.cells 1).1;obtain ⟨f0,hf0⟩:∃ f0,f0=max 0 ((a-s.len-c.min) / 1440+1):=⟨_,rfl⟩;have hfb:0<=f0/\f0<=4398046511104:=aa;have HST:=ad (uz.start (S:=gE s c a b) (t:=f0) (λx hx=>by
  have h0:=H_ hne hx.1;have h1:=hx.2.2.1;rw [hf0];omega))
 have RR:=ad hf0;have qk:=ad (show aP (a-s.len-c.min) from ⟨aa,aa⟩);clear hJ hY TH km hne hF Az Om PG zA hf0 bJ hW;obtain ⟨gh,hf2⟩:=hfb;refine callsIn_of_wp Tryz.func112 rfl trivial ?_ rfl;simp only [Tryz.ntmps112,List.size_toArray,List.length_cons,List.length_nil,Nat.reduceAdd,Nat.reduceSub,Array.replicate_succ,Array.replicate_zero,List.push_toArray,List.append_toArray,List.nil_append,List.cons_append];gi_wp2_with (refine ⟨trivial,rfl,?_⟩;gi_at_call 62;refine (callsIn_wide.2 (D_ _ _ qk.o)).mono ?_;rintro e w' ⟨rfl,rfl⟩);rw [<- RR.o];gi_loopw [5] (λvf wr=>∃ (t:Int) (pre:List Int),vf=.int .i64 t/\0<=t/\t<=4398046511104/\f0<=t/\Hid (uz (gE s c a b) t pre)/\J pre wr/\cX pb W wr) (λvf _=>(4398046511104-intOf vf).toNat)
 .exact ⟨f0,[],rfl,gh,hf2,Int.le_refl _,HST,qY,λ_ _=>rfl⟩
 obtain ⟨t,pre,rfl,oi,xq,rW,HD,dC,hK⟩:=hrel;have HK:=ad hK;have qz:=ad (λk (h:pb k)=>show k<wr.heap.size from by
  have h1:=hK k h;rw [Array.getElem?_eq_getElem (fV.o k h)] at h1;exact (Array.getElem?_eq_some_iff.1 h1).1)
 have jd:=ad dC;have r0:=hK.cell (a:=⟨wb,0,none⟩) g3 w0;have r1:=hK.cell (a:=⟨wb,1,none⟩) g3 (HW.o.cells 1).1;have r2:=hK.cell (a:=⟨sb,0,none⟩) g1 (HS.o.cells 0).1;have r3:=hK.cell (a:=⟨sb,1,none⟩) g1 s1;have r4:=hK.cell (a:=⟨sb,2,none⟩) g1 (HS.o.cells 2).1;have r5:=hK.cell (a:=⟨cb,0,none⟩) g2 (HC.o.cells 0).1;have r6:=hK.cell (a:=⟨cb,1,none⟩) g2 m1;have kN:=HM.o.kp HF.o hK;obtain ⟨d,ok,hN⟩:=WB cC t (aT c.days);have dZ:=ad (Wz 0 F _ _ t d ok wr kN YW.o ⟨aa,aa⟩ oi hN);have HN:=ad hN;clear hK dC kN hN s1 w0 m1;have EJ:=λw1 (hb:Below wr.heap.size wr w1)=>HJ.o pre wr w1 none jd.o (World.grownBy.of_below hb none) (λr e=>by cases e);have ql:=ad EJ;clear EJ;cases ok with
 | false=>
  have hno:∀ x,t<=x->¬ gE s c a b x:=λx hx hS=>by
   rcases HN.o with ⟨h,_⟩|⟨_,_,h⟩
   .cases h
   have h1:=hS.2.1;unfold JN at h1;exact h x hx (by unfold cC;omega) hS.1
  have gX:=ad hno;clear hno;gi_wp2_with (first|(refine ⟨trivial,rfl,?_⟩;gi_at_call 61;refine (callsIn_wide.2 dZ.o).mono ?_;rintro e w1 ⟨rfl,hb1⟩;have bo:=ad hb1;have q0:=al.cell hb1 r0;have q1:=al.cell hb1 r1;have q2:=al.cell hb1 r2;have q3:=al.cell hb1 r3;have q4:=al.cell hb1 r4;have q5:=al.cell hb1 r5;have q6:=al.cell hb1 r6;clear hb1)|(refine ⟨trivial,?_⟩;apply_assumption));refine ⟨λ_ h=>(by cases h),?_⟩
  apply_assumption
  gi_wp2_with fail
  refine bodyPost_ret (results_none rfl _ _ _) rfl ?_;exact ⟨⟨_,rfl⟩,.inl ⟨pre,HD.o.done gX.o,ql.o _ bo.o⟩⟩
 | true=>
  have hn:=HN.o;rcases hn with ⟨_,fm,kM,uV,Tq⟩|⟨h,_⟩
  rotate_left
  .cases h
  have hd2':d<=1152921504606846976:=kM;have sA:=ad uV;have Dd:=ad Tq;have BS:aP d:=⟨aa,aa⟩;have hta:a<d*1440+c.min+s.len:=by have:=RR.o;omega
  have Bl:=ad (λW=>Vm a1 a2 a3 n1 c1 n2 c2 c.days.length c3 s.len c.min d W fA hl2 hm1 ic BS);clear kM uV Tq BS;by_cases hT:d*1440+c.min+s.len<=2251799813685248
  .have HT:=Bl.o;rw [decide_eq_true hT] at HT;have HT:=ad HT;clear Bl;by_cases hB:d*1440+c.min<b
   .have hS:gE s c a b d:=⟨sA.o,hT,hta,hB⟩;have iE:=HD.o.next hS fm λx h1 h2 h3=>Dd.o x h1 h2 h3.1;have K9:=ad iE;have CR:=ad iE.en;clear iE hS;gi_wp2_with (first|(refine ⟨trivial,rfl,?_⟩;gi_at_call 61;refine (callsIn_wide.2 dZ.o).mono ?_;rintro e w1 ⟨rfl,hb1⟩;have bo:=ad hb1;have q0:=al.cell hb1 r0;have q1:=al.cell hb1 r1;have q2:=al.cell hb1 r2;have q3:=al.cell hb1 r3;have q4:=al.cell hb1 r4;have q5:=al.cell hb1 r5;have q6:=al.cell hb1 r6;clear hb1)|(refine ⟨trivial,rfl,?_⟩;gi_at_call 63;refine (callsIn_wide.2 (HT.o _)).mono ?_;rintro e w2 ⟨rfl,hb2⟩;have bj:=ad (Et bo.o hb2);have p0:=al.cell hb2 q0;have p1:=al.cell hb2 q1;have p2:=al.cell hb2 q2;have p3:=al.cell hb2 q3;have p4:=al.cell hb2 q4;have p5:=al.cell hb2 q5;have p6:=al.cell hb2 q6;have hJ2:=ql.o w2 bj.o;obtain ⟨fn,tmps,assign,body,iF,hR⟩:=HY.o pre d w2 hJ2 CR.o;have HR:=ad hR;clear hR hJ2;clear hb2));refine ⟨rfl,HR.o.mono ?_⟩;rintro e W' (⟨rfl,gz,eC⟩|⟨rfl,fh⟩)
    .have tD:=ad gz;have ss:=ad eC;clear gz eC
     gi_wp2
     go_roundw
     .exact ⟨d+1,pre ++ [d],rfl,aa,aa,aa,K9,tD.o,(HK.o.trans (λk h=>bj.o.block k (qz.o k h))).trans ss.o⟩
     simp [intOf];omega
    gi_wp2
    refine bodyPost_ret (results_none rfl _ _ _) rfl ?_;exact ⟨⟨_,rfl⟩,.inr ⟨_,fh⟩⟩
   have hno:∀ x,t<=x->¬ gE s c a b x:=λx hx hS=>by
    by_cases hxd:x<d
    .exact Dd.o x hx hxd hS.1
    have:=hS.2.2.2;omega
   have gX:=ad hno;clear hno;gi_wp2_with (first|(refine ⟨trivial,rfl,?_⟩;gi_at_call 61;refine (callsIn_wide.2 dZ.o).mono ?_;rintro e w1 ⟨rfl,hb1⟩;have bo:=ad hb1;have q0:=al.cell hb1 r0;have q1:=al.cell hb1 r1;have q2:=al.cell hb1 r2;have q3:=al.cell hb1 r3;have q4:=al.cell hb1 r4;have q5:=al.cell hb1 r5;have q6:=al.cell hb1 r6;clear hb1)|(refine ⟨trivial,rfl,?_⟩;gi_at_call 63;refine (callsIn_wide.2 (HT.o _)).mono ?_;rintro e w2 ⟨rfl,hb2⟩;have bj:=ad (Et bo.o hb2);have p0:=al.cell hb2 q0;have p1:=al.cell hb2 q1;have p2:=al.cell hb2 q2;have p3:=al.cell hb2 q3;have p4:=al.cell hb2 q4;have p5:=al.cell hb2 q5;have p6:=al.cell hb2 q6;clear hb2)|(refine ⟨trivial,?_⟩;apply_assumption));refine ⟨λ_ h=>(by cases h),?_⟩
   apply_assumption
   gi_wp2_with fail
   refine bodyPost_ret (results_none rfl _ _ _) rfl ?_;exact ⟨⟨_,rfl⟩,.inl ⟨pre,HD.o.done gX.o,ql.o _ bj.o⟩⟩
  have HT:=Bl.o;rw [decide_eq_false hT] at HT;have HT:=ad HT;have hno:∀ x,t<=x->¬ gE s c a b x:=λx hx hS=>by
   by_cases hxd:x<d
   .exact Dd.o x hx hxd hS.1
   have h1:=hS.2.1;unfold JN at h1;omega
  have gX:=ad hno;clear hno Bl;gi_wp2_with (first|(refine ⟨trivial,rfl,?_⟩;gi_at_call 61;refine (callsIn_wide.2 dZ.o).mono ?_;rintro e w1 ⟨rfl,hb1⟩;have bo:=ad hb1;have q0:=al.cell hb1 r0;have q1:=al.cell hb1 r1;have q2:=al.cell hb1 r2;have q3:=al.cell hb1 r3;have q4:=al.cell hb1 r4;have q5:=al.cell hb1 r5;have q6:=al.cell hb1 r6;clear hb1)|(refine ⟨trivial,rfl,?_⟩;gi_at_call 63;refine (callsIn_wide.2 (HT.o _)).mono ?_;rintro e w2 ⟨rfl,hb2⟩;have bj:=ad (Et bo.o hb2);have p0:=al.cell hb2 q0;have p1:=al.cell hb2 q1;have p2:=al.cell hb2 q2;have p3:=al.cell hb2 q3;have p4:=al.cell hb2 q4;have p5:=al.cell hb2 q5;have p6:=al.cell hb2 q6;clear hb2)|(refine ⟨trivial,?_⟩;apply_assumption));refine ⟨λ_ h=>(by cases h),?_⟩
  apply_assumption
  gi_wp2_with fail
  refine bodyPost_ret (results_none rfl _ _ _) rfl ?_;exact ⟨⟨_,rfl⟩,.inl ⟨pre,HD.o.done gX.o,ql.o _ bj.o⟩⟩
end
section
open Go.RowKit Go.Shelf Go.Maps Kal
attribute [local go_sem] Oper.semAt_some
structure cF (pb:Nat->Prop) (n:Nat) (A B:World):Prop where
 pb:cX pb A B
 own:∀ (k:Nat) (o:Obj),n<=k->A.heap[k]? = some o->o.isCells=true->B.heap[k]? = some o
 size:A.heap.size<=B.heap.size
theorem cF.refl {pb:Nat->Prop}:cF pb n A A:=⟨cX.refl _ _,λ_ _ _ h _=>h,Nat.le_refl _⟩
theorem cF.trans {pb:Nat->Prop} {B:World} (h:cF pb n A B) (g:cF pb n B C):cF pb n A C:=⟨h.pb.trans g.pb,λk o hk ho hc=>g.own k o hk (h.own k o hk ho hc) hc,Nat.le_trans h.size g.size⟩
theorem cF.below {pb:Nat->Prop} {B:World} (h:Below A.heap.size A B) (hp:∀ k,pb k->k<A.heap.size):cF pb n A B:=
 ⟨λk hk=>h.block k (hp k hk),λk o hk ho hc=>(h.block k (Array.getElem?_eq_some_iff.1 ho).1).trans ho,h.size⟩
theorem cF.putObj {pb:Nat->Prop} (bJ:∀ k,pb k->k<n) (W:World) (l:Nat) (o o':Obj) (hl:n<=l) (ho:W.heap[l]? = some o) (hc:o.isCells=false):cF pb n W (W.putObj l o'):=
 ⟨cX.putObj bJ W l o o' hl ho hc,λk o2 hk ho2 hc2=>by
  have hne:k≠l:=λe=>by subst e;rw [ho] at ho2;cases ho2;rw [hc] at hc2;cases hc2
  exact (World.putObj_heap_other hne).trans ho2,by simp [World.putObj]⟩
theorem cF.grown {pb:Nat->Prop} (bJ:∀ k,pb k->k<n) (W W':World) (hn:n<=W.heap.size) (hg:W.grownBy W' none):cF pb n W W':=
 ⟨λk hk=>hg.block k (by have:=bJ k hk;omega) ag,λk o hk ho hc=>(hg.block k (Array.getElem?_eq_some_iff.1 ho).1 ag).trans ho,hg.size⟩
theorem cF.box {pb:Nat->Prop} {b:Nat} {B:World} {c:Array Value} {t:TypeId} (h:cF pb n A B) (hb:n<=b) (hx:af A b c t):af B b c t:=h.own b _ hb hx rfl
theorem cF.boxP {pb:Nat->Prop} {b:Nat} {B:World} {c:Array Value} {t:TypeId} (h:cF pb n A B) (hb:pb b) (hx:af A b c t):af B b c t:=(h.pb b hb).trans hx
theorem tk_ (a1 a2:Option Addr) (n1 c1 n2 c2:Nat) (len:Int) (x:ai) (w:World) :
  Calls Tryz.prog 100 #[.agg #[.slice a1 n1 c1,.int .i64 len,.slice a2 n2 c2],bZ x] w λe w'=>
   e=.returned (.func (.func 131) #[] #[.pointer (some ⟨w.heap.size,0,none⟩),.pointer (some ⟨w.heap.size+1,0,none⟩)])/\
   w'=(w.alloc (.cells #[.slice a1 n1 c1,.int .i64 len,.slice a2 n2 c2] 43)).alloc (.cells #[.int .i64 x.day,.int .i64 x.frm,.int .i64 x.fin] 46):=by
 go_in
 go_wp2;go_ret;exact ⟨rfl,rfl⟩
def sR (s:aE) (x y:ai):Prop:=XU s y/\fI x.frm x.fin y.frm y.fin
structure lZ (s:aE) (x:ai) (k:Nat) (t:Int) (pre:List ai):Prop where
 is:∀ y∈pre,sR s x y
 all:∀ j y,j<k->j<s.cls.length->kE s (s.cls.getD j default) y->fI x.frm x.fin y.frm y.fin->y∈pre
 row:∀ y,kE s (s.cls.getD k default) y->fI x.frm x.fin y.frm y.fin->y.day<t->y∈pre
theorem lZ.start {s:aE} {x:ai} {t:Int} (ht:∀ y,kE s (s.cls.getD 0 default) y->fI x.frm x.fin y.frm y.fin->t<=y.day):lZ s x 0 t []:=
 ⟨ag,λj y h=>aa,λy h1 h2 h3=>by have:=ht y h1 h2;omega⟩
theorem lZ.skip {s:aE} {x:ai} {t:Int} {pre:List ai} (h:lZ s x k t pre) (hn:¬ aT (s.cls.getD k default).days t):lZ s x k (t+1) pre:=
 ⟨h.is,h.all,λy h1 h2 h3=>by
  by_cases e:y.day=t
  .exact absurd (e ▸ h1.1) hn
  exact h.row y h1 h2 aa⟩
theorem lZ.take {s:aE} {x:ai} {t:Int} {pre:List ai} (h:lZ s x k t pre) (hk:k<s.cls.length) (hm:aT (s.cls.getD k default).days t) (hc:fI x.frm x.fin (t*1440+(s.cls.getD k default).min) (t*1440+(s.cls.getD k default).min+s.len)) :
  sR s x (nP s (s.cls.getD k default) t)/\lZ s x k (t+1) (pre ++ [nP s (s.cls.getD k default) t]):=by
 have h0:sR s x (nP s (s.cls.getD k default) t):=⟨⟨_,by rw [fG hk];exact List.getElem_mem hk,hm,rfl⟩,hc⟩;refine ⟨h0,λy hy=>?_,λj y h1 h2 h3 h4=>List.mem_append_left _ (h.all j y h1 h2 h3 h4),λy h1 h2 h3=>?_⟩
 .rcases List.mem_append.1 hy with hy|hy
  .exact h.is y hy
  obtain rfl:y=_:=by simpa using hy
  exact h0
 by_cases e:y.day=t
 .refine List.mem_append_right _ ?_;have:=h1.2;rw [e] at this;simp [this]
 exact List.mem_append_left _ (h.row y h1 h2 aa)
theorem lZ.round {s:aE} {x:ai} {t t':Int} {pre:List ai} (h:lZ s x k t pre) (hd:∀ y,kE s (s.cls.getD k default) y->fI x.frm x.fin y.frm y.fin->y.day<t) (ht:∀ y,kE s (s.cls.getD (k+1) default) y->fI x.frm x.fin y.frm y.fin->t'<=y.day):lZ s x (k+1) t' pre:=
 ⟨h.is,λj y h1 h2 h3 h4=>by
  by_cases e:j=k
  .subst e;exact h.row y h3 h4 (hd y h3 h4)
  exact h.all j y aa h2 h3 h4,λy h1 h2 h3=>by have:=ht y h1 h2;omega⟩
theorem lZ.done {s:aE} {x:ai} {t:Int} {pre:List ai} (h:lZ s x s.cls.length t pre):∀ y,y∈pre↔sR s x y:=λy=>by
 refine ⟨h.is y,λ⟨⟨c,hc,ho⟩,hcl⟩=>?_⟩;obtain ⟨j,hj,rfl⟩:=wt (d:=default) hc;exact h.all j y hj hj ho hcl
theorem x7_ (h:MV s m) (n:Int):oT m n=true↔aT m n:=by
 have hv:=h.val;unfold oT;rw [hv,Bool.true_and,List.any_eq_true];constructor
 .rintro ⟨t,ht,h1⟩;exact ⟨t,ht,(BH λp hp=>((h.vt t ht).fv p hp).validB).1 h1⟩
 rintro ⟨t,ht,h1⟩;exact ⟨t,ht,(BH λp hp=>((h.vt t ht).fv p hp).validB).2 h1⟩
def ny (s:aE) (x:ai) (k:Nat):Int:=max 0 ((x.frm-s.len-(s.cls.getD k default).min) / 1440+1)
structure bM (s:aE):Prop where
 val:mN dU s
 mv:∀ c∈s.cls,MV 0 c.days
theorem bM.min {s:aE} (h:bM s) {c:eA} (hc:c∈s.cls):-4320<=c.min/\c.min<=4320:=(h.val.cl hc).2
theorem bM.ne {s:aE} (h:bM s) {c:eA} (hc:c∈s.cls):∀ t∈c.days,t≠[]:=λt ht=>((h.mv c hc).vt t ht).ne
theorem bM.lows {s:aE} (h:bM s) (x:ai) (k:Nat):∀ y,kE s (s.cls.getD k default) y->fI x.frm x.fin y.frm y.fin->ny s x k<=y.day:=by
 intro y hy hc;by_cases hk:k<s.cls.length
 .have h0:=H_ (h.ne (c:=s.cls.getD k default) (by rw [fG hk];exact List.getElem_mem hk)) hy.1;have h1:=hc.1;rw [hy.2] at h1;have:x.frm<y.day*1440+(s.cls.getD k default).min+s.len:=h1;unfold ny;omega
 have:s.cls.getD k default=default:=by rw [List.getD_eq_getElem?_getD,List.getElem?_eq_none aa];rfl
 rw [this] at hy;exact absurd hy.1 Wy
theorem tl_ (F pb:Nat->Prop) (a1 a2:Option Addr) (c1 n2 c2 sb xb n:Nat) (L:List bl) (w:World) (s:aE) (x:ai)
  (hS:eG w F (.slice a1 L.length c1) (.slice a2 n2 c2) L s) (hv:bM s) (hF:∀ k,F k->pb k) (bJ:∀ k,pb k->k<n) (hn:n<=w.heap.size)
  (hs:af w sb #[.slice a1 L.length c1,.int .i64 s.len,.slice a2 n2 c2] 43) (hx:af w xb #[.int .i64 x.day,.int .i64 x.frm,.int .i64 x.fin] 46)
  (g1:pb sb) (g2:pb xb) (ha1:-2251799813700000<=x.frm) (ha2:x.frm<=2251799813700000) (hb1:-2251799813700000<=x.fin) (hb2:x.fin<=2251799813700000) :
  ud Tryz.prog 131 #[.pointer (some ⟨sb,0,none⟩),.pointer (some ⟨xb,0,none⟩)] (λy:ai=>#[bZ y]) (cF pb n) none (λpre y _=>sR s x y/\∀ z∈pre,sR s x z) (λxs=>∀ y,y∈xs↔sR s x y) w:=by
 intro l' J Jx W hW hJ zA hY qY;have fA:=hv.val.len.1;have hl2:=hv.val.len.2;have Tc:=hS.below hW;have Az:af W sb _ _:=hs.below hW;have T5:af W xb _ _:=hx.below hW;have Jb:n<=W.heap.size:=Nat.le_trans hn hW.size;have hlen:s.cls.length=L.length:=by rw [<- hS.eq];exact List.length_map _
 have rJ:=hS.cl.len;have HJ:=ad hJ;have HY:=ad hY;have HST:=ad Tc;have HV:=ad hv;have HF:=ad hF;have fV:=ad bJ;have HS:=ad Az;have HX:=ad T5;have fD:=ad hlen;have KT:=ad (hv.lows x);have s0:=(Az.cells 0).1;have KJ:=ad (lZ.start (s:=s) (x:=x) (hv.lows x 0));clear hJ hY zA hS Tc hv hF bJ hs hx Az T5 hlen hW hn;refine callsIn_of_wp Tryz.func131 rfl trivial ?_ rfl;simp only [Tryz.ntmps131,List.size_toArray,List.length_cons,List.length_nil,Nat.reduceAdd,Nat.reduceSub,Array.replicate_succ,Array.replicate_zero,List.push_toArray,List.append_toArray,List.nil_append,List.cons_append];gi_wp2_with fail;clear s0;gi_loopw [5,6,10] (λ_ _ vi wr=>∃ (k:Nat) (pre:List ai),k<=L.length/\vi=.int .i64 k/\Hid (lZ s x k (ny s x k) pre)/\J pre wr/\cF pb n W wr) (λ_ _ vi _=>L.length-(intOf vi).toNat)
 .exact ⟨0,[],aa,rfl,KJ,qY,cF.refl⟩
 obtain ⟨k,pre,hk,rfl,HK,dC,bR⟩:=hrel;have dS:=ad bR;have jd:=ad dC;by_cases hlt:k<L.length
 .have dh:(k:Int)<L.length:=aa;obtain ⟨b,o,a3,c3,m,mi,rfl,dD,e0,e1,hm,oe,hcl⟩:=(HST.o.cl.keep2 (W':=wr) (λb hb _=>bR.pb b (HF.o b hb))).get hlt;rw [HST.o.eq] at hcl;have hcm:(⟨m,mi⟩:eA)∈s.cls:=by rw [<- hcl,fG (by rw [fD.o];exact hlt)];exact List.getElem_mem _
  obtain ⟨lz,nj⟩:-4320<=mi/\mi<=4320:=HV.o.min hcm;have je:=ad (HV.o.mv _ hcm);have dw:=ad hcl;have nD:=ad (show ny s x k=max 0 ((x.frm-s.len-mi) / 1440+1) by unfold ny;rw [hcl]);have qk:=ad (show aP (x.frm-s.len-mi) from ⟨aa,aa⟩);have HM:=ad hm;have r1:=(bR.boxP g1 HS.o).cells 1;have r2:=(bR.boxP g2 HX.o).cells 1;have r1:=r1.1;have r2:=r2.1;have r1:=fy r1 (.cells #[.slice a3 m.length c3,.int .i64 mi] 59);have r2:=fy r2 (.cells #[.slice a3 m.length c3,.int .i64 mi] 59);have Am:n<=wr.heap.size:=Nat.le_trans Jb bR.size;clear hm hcm hcl oe bR dC;gi_wp2_with (refine ⟨trivial,rfl,?_⟩;gi_at_call 62;refine (callsIn_wide.2 (D_ _ _ qk.o)).mono ?_;rintro e w' ⟨rfl,rfl⟩);rw [<- nD.o];obtain ⟨t0,xo⟩:∃ t0,t0=ny s x k:=⟨_,rfl⟩;have Ge:0<=t0/\t0<=4398046511104:=by rw [xo,nD.o];omega
  rw [<- xo] at HK ⊢;have Bl:=ad (xo.trans nD.o);obtain ⟨htb1,Py⟩:=Ge;have hJ1:=HJ.o pre wr (wr.alloc (.cells #[.slice a3 m.length c3,.int .i64 mi] 59)) none jd.o (World.grownBy_alloc _ _ _) (λr e=>by cases e);have hbx:af (wr.alloc (.cells #[.slice a3 m.length c3,.int .i64 mi] 59)) wr.heap.size #[.slice a3 m.length c3,.int .i64 mi] 59:=af.at rfl;have cw:=ad hbx;have R1:Hid (cF pb n W (wr.alloc (.cells #[.slice a3 m.length c3,.int .i64 mi] 59))):=ad (dS.o.trans (cF.below (Ea (Er wr) _) (λk hk=>by have:=fV.o k hk;omega)));have Y4:=ad (λ(W':World) (h:cX pb wr W')=>HM.o.kp HF.o h);clear hbx e0 e1 r1 r2 xo;obtain ⟨wo,rfl⟩:∃ wo:World,wo=wr:=⟨_,rfl⟩;gi_loopw [6] (λvt wr=>∃ (t:Int) (pre:List ai),vt=.int .i64 t/\t0<=t/\t<=4398046511104/\Hid (lZ s x k t pre)/\J pre wr/\Hid (cF pb n wo wr)/\Hid (af wr wo.heap.size #[.slice a3 m.length c3,.int .i64 mi] 59)) (λvt _=>(4398046511104-intOf vt).toNat)
  .exact ⟨t0,pre,rfl,Int.le_refl _,Py,HK,hJ1,ad (cF.below (Ea (Er wo) _) (λk hk=>by have:=fV.o k hk;omega)),cw⟩
  obtain ⟨t,pre,rfl,oi,xq,ss,dC,KH,HB⟩:=hrel;have yi:=KH;have mC:=ad dC;have kb:=KH.o;have p0:=((kb.boxP g1 (dS.o.boxP g1 HS.o)).cells 0).1;have p1:=((kb.boxP g1 (dS.o.boxP g1 HS.o)).cells 1).1;have p2:=((kb.boxP g1 (dS.o.boxP g1 HS.o)).cells 2).1;have p3:=((kb.boxP g2 (dS.o.boxP g2 HX.o)).cells 0).1;have p4:=((kb.boxP g2 (dS.o.boxP g2 HX.o)).cells 1).1;have p5:=((kb.boxP g2 (dS.o.boxP g2 HX.o)).cells 2).1;have p6:=(HB.o.cells 0).1;have p7:=(HB.o.cells 1).1;have kN:=Y4.o wr kb.pb;have qz:=ad (λk (h:pb k)=>show k<wr.heap.size from by have:=fV.o k h;have:=kb.size;omega);have EJ:=λw1 (hb:Below wr.heap.size wr w1)=>HJ.o pre wr w1 none mC.o (World.grownBy.of_below hb none) (λr e=>by cases e);have ql:=ad EJ;clear EJ kb dC KH;by_cases hf:t*1440+mi<x.fin
  .have hH:=xs_ F (.slice a3 m.length c3) m t wr kN ⟨aa,aa⟩;have hin:oT m t=true↔aT m t:=x7_ je.o t;obtain ⟨bh,Tj⟩:∃ bh,oT m t=bh:=⟨_,rfl⟩;rw [Tj] at hH hin;have HH:=ad hH;have C6:=ad hin;clear hH hin Tj kN;cases bh
   .have hsk:=ss.o.skip (by rw [dw.o];exact λh=>absurd (C6.o.2 h) aF);have Zg:=ad hsk;clear hsk;gi_wp2_with (first|(refine ⟨trivial,rfl,?_⟩;gi_at_call 132;refine (callsIn_wide.2 HH.o).mono ?_;rintro e w1 ⟨rfl,hb1⟩;have bo:=ad hb1;have q0:=al.cell hb1 p0;have q1:=al.cell hb1 p1;have q2:=al.cell hb1 p2;have q3:=al.cell hb1 p3;have q4:=al.cell hb1 p4;have q5:=al.cell hb1 p5;have q6:=al.cell hb1 p6;have q7:=al.cell hb1 p7;clear hb1)|(refine ⟨trivial,?_⟩;apply_assumption));refine ⟨λ_ h=>(by cases h),?_⟩
    apply_assumption
    gi_wp2_with fail
    go_roundw
    .exact ⟨t+1,pre,rfl,aa,aa,Zg,ql.o _ bo.o,ad (yi.o.trans (cF.below bo.o qz.o)),ad (HB.o.below bo.o)⟩
    simp [intOf];omega
   have oj:=ss.o.take (by rw [fD.o];exact hlt) (by rw [dw.o];exact C6.o.1 rfl) (by rw [dw.o];exact ⟨by have:=Bl.o;show x.frm<t*1440+mi+s.len;omega,hf⟩);rw [dw.o] at oj;have gZ:=ad oj;have dL:=ad (λW=>Ux (some ⟨b,o,none⟩) a2 a3 L.length c1 n2 c2 m.length c3 s.len mi t W fA hl2 lz nj aa aa);clear oj;gi_wp2_with (first|(refine ⟨trivial,rfl,?_⟩;gi_at_call 132;refine (callsIn_wide.2 HH.o).mono ?_;rintro e w1 ⟨rfl,hb1⟩;have bo:=ad hb1;have q0:=al.cell hb1 p0;have q1:=al.cell hb1 p1;have q2:=al.cell hb1 p2;have q3:=al.cell hb1 p3;have q4:=al.cell hb1 p4;have q5:=al.cell hb1 p5;have q6:=al.cell hb1 p6;have q7:=al.cell hb1 p7;clear hb1)|(refine ⟨trivial,rfl,?_⟩;gi_at_call 64;refine (callsIn_wide.2 (dL.o _)).mono ?_;rintro e w2 ⟨rfl,hb2⟩;have bj:=ad (Et bo.o hb2);have hJ2:=ql.o w2 bj.o;obtain ⟨fn,tmps,assign,body,iF,hR⟩:=HY.o pre (nP s ⟨m,mi⟩ t) w2 hJ2 ⟨gZ.o.1,ss.o.is⟩;have HR:=ad hR;unfold nP at iF;clear hb2 hJ2 hR));refine ⟨rfl,HR.o.mono ?_⟩;rintro e W' (⟨rfl,gz,eC⟩|⟨rfl,fh⟩)
   .have tD:=ad gz;have nC:=ad eC;clear gz eC
    gi_wp2
    go_roundw
    .exact ⟨t+1,pre ++ [nP s ⟨m,mi⟩ t],rfl,aa,aa,ad gZ.o.2,tD.o,ad ((yi.o.trans (cF.below bj.o qz.o)).trans nC.o),ad (nC.o.box Am (HB.o.below bj.o))⟩
    simp [intOf];omega
   gi_wp2
   refine bodyPost_ret (results_none rfl _ _ _) rfl ?_;exact ⟨⟨_,rfl⟩,.inr ⟨_,fh⟩⟩
  have kO:=ss.o.round (t':=ny s x (k+1)) (λy hy hc=>by
   rw [dw.o] at hy;have h1:=hc.2;rw [hy.2] at h1;have:y.day*1440+mi<x.fin:=h1;omega) (KT.o (k+1))
  have Lu:=ad kO;clear kO kN;gi_wp2_with fail;go_roundw
  .exact ⟨k+1,pre,aa,by go_num,Lu,mC.o,dS.o.trans yi.o⟩
  simp [intOf];omega
 obtain rfl:k=L.length:=aa;have hd:=HK.o;have fM:¬ (L.length:Int)<L.length:=aa;gi_wp2_with fail;refine bodyPost_end (results_none rfl _ _ _) rfl ?_;refine ⟨⟨_,rfl⟩,.inl ⟨pre,?_,jd.o⟩⟩;rw [<- fD.o] at hd;exact hd.done
end
section
open Go.RowKit Go.Maps Kal
def DO (W:World) (F:Nat->Prop) (x:bl):Prop:=aA W F x.v x.m/\aP x.min
theorem lY:uB DO:=⟨λh hk hs=>⟨h.1.keep hk hs,h.2⟩,λh=>⟨h.1.lt,h.2⟩,λh hF=>⟨h.1.mono hF,h.2⟩⟩
def DP (W:World) (F:Nat->Prop) (x:ai):Prop:=qG x
theorem j7:uB DP:=⟨λh _ _=>h,λh=>h,λh _=>h⟩
structure a_ where
 id:Int
 cv:Value
 ev:Value
 s:aE
instance:Inhabited a_:=⟨⟨0,.slice none 0 0,.slice none 0 0,default⟩⟩
def a_.enc (x:a_):List Value:=[.int .i64 x.id,x.cv,.int .i64 x.s.len,x.ev]
theorem a_.enc_len (x:a_):x.enc.length=4:=rfl
def qJ (W:World) (F:Nat->Prop) (x:a_):Prop:=bq W F x.cv x.ev x.s/\aP x.id
theorem wu:uB qJ:=⟨λh hk hs=>⟨h.1.keep hk hs,h.2⟩,λh=>⟨h.1.lt,h.2⟩,λh hF=>⟨h.1.mono hF,h.2⟩⟩
theorem Iv:uB bp:=⟨λh hk _=>h.keep hk,λh=>h.lt,λh hF=>h.mono hF⟩
def DQ (W:World) (F:Nat->Prop) (x:Value × List Per):Prop:=bG W F x.1 x.2
theorem By:uB DQ:=⟨λh hk hs=>bG.keep h hk hs,λh=>bG.lt h,λh hF=>bG.mono h hF⟩
theorem Xa:∃ i,Tryz.prog.info? 59=some i/\i.zero=some (.agg #[.slice none 0 0,.int .i64 0])/\i.size=2/\i.bytes=32:=by
 have h:(Tryz.prog.info? 59).map (λi=>(i.zero,i.size,i.bytes))=some (some (.agg #[.slice none 0 0,.int .i64 0]),2,32):=by kernel_rfl
 obtain ⟨i,hi,h1,h2,h3⟩:=info_parts h;exact ⟨i,hi,h1,h2,h3⟩
theorem Xe:∃ i,Tryz.prog.info? 46=some i/\i.zero=some (.agg #[.int .i64 0,.int .i64 0,.int .i64 0])/\i.size=3/\i.bytes=24:=by
 have h:(Tryz.prog.info? 46).map (λi=>(i.zero,i.size,i.bytes))=some (some (.agg #[.int .i64 0,.int .i64 0,.int .i64 0]),3,24):=by kernel_rfl
 obtain ⟨i,hi,h1,h2,h3⟩:=info_parts h;exact ⟨i,hi,h1,h2,h3⟩
theorem Xf:∃ i,Tryz.prog.info? 68=some i/\i.zero=some (.agg #[.int .i64 0,.slice none 0 0,.int .i64 0,.slice none 0 0])/\i.size=4/\i.bytes=64:=by
 have h:(Tryz.prog.info? 68).map (λi=>(i.zero,i.size,i.bytes))=some (some (.agg #[.int .i64 0,.slice none 0 0,.int .i64 0,.slice none 0 0]),4,64):=by kernel_rfl
 obtain ⟨i,hi,h1,h2,h3⟩:=info_parts h;exact ⟨i,hi,h1,h2,h3⟩
abbrev qI:=aV 59 2 bl.enc DO
abbrev e_:=aV 46 3 cV DP
abbrev DM:=aV 80 4 PV.enc bp
theorem x1_ (L:List (Value × List Per)):L.flatMap (λx=>[x.1])=L.map Prod.fst:=by
 induction L with
 | nil=>rfl
 | cons x L ih=>rw [List.flatMap_cons,ih];rfl
abbrev DN:=aV 78 1 (λx:Value × List Per=>[x.1]) DQ
theorem aV.clsL {A:Nat->Prop} {L:List bl} (h:qI B A W v L):dR W (λb=>B<=b/\¬ A b) v L:=
 ⟨h.rowR,by have:=h.len;omega,λx hx=>⟨(h.all x hx).1.mono λb hb=>⟨hb.1,hb.2.1⟩,(h.all x hx).2⟩⟩
theorem aV.extL {A:Nat->Prop} {L:List ai} (h:e_ B A W v L):b_ W (λb=>B<=b/\¬ A b) v L:=
 ⟨h.rowR,by have:=h.len;omega,λx hx=>h.all x hx⟩
theorem aV.termL {A:Nat->Prop} (h:DM B A W v L):gy W (λb=>B<=b/\¬ A b) v L:=
 ⟨h.rowR,by have:=h.len;omega,λx hx=>(h.all x hx).mono λb hb=>⟨hb.1,hb.2.1⟩⟩
theorem aV.mixL {A:Nat->Prop} {L:List (Value × List Per)} (h:DN B A W v L):cE W (λb=>B<=b/\¬ A b) v L:=
 ⟨by have:=h.rowR;rw [x1_] at this;exact this,by have:=h.len;omega,λx hx=>bG.mono (h.all x hx) λb hb=>⟨hb.1,hb.2.1⟩⟩
end
end Go.Proofs.YtbmgmlbmgogeaaaGreat
namespace Kal
section
instance (x y:ai):Decidable (bK x y):=by unfold bK;infer_instance
instance:DecidableEq ai:=λx y=>decidable_of_iff (x.day=y.day/\x.frm=y.frm/\x.fin=y.fin) ⟨λh=>ai.ext' h.1 h.2.1 h.2.2,λh=>by subst h;exact ⟨rfl,rfl,rfl⟩⟩
def dj:List ai->ai->List ai
 | [],x=>[x]
 | y :: l,x=>if bK x y then x :: y :: l else y :: dj l x
theorem WD {a:List ai} {x:ai} (h:∀ y∈a,¬ bK x y) (b:List ai):dj (a ++ b) x=a ++ dj b x:=by
 induction a with
 | nil=>rfl
 | cons y a ih=>
  rw [List.cons_append,dj,if_neg (h y ag),ih (λz hz=>h z (by simp [hz]))];rfl
theorem vg_ {a:List ai} {x y:ai} (h:∃ z∈a,bK x z):dj (a ++ [y]) x=dj a x ++ [y]:=by
 induction a with
 | nil=>obtain ⟨z,hz,_⟩:=h;simp at hz
 | cons u a ih=>
  rw [List.cons_append,dj,dj];by_cases e:bK x u
  .rw [if_pos e,if_pos e];rfl
  rw [if_neg e,if_neg e];obtain ⟨z,hz,hl⟩:=h;rcases List.mem_cons.1 hz with rfl|hz
  .exact absurd hl e
  rw [ih ⟨z,hz,hl⟩];rfl
structure gK (l:List ai) (x:ai) (k:Nat) (done:Bool) (out:List ai):Prop where
 no:x ∉ l.take k
 out:out=if done then dj (l.take k) x else l.take k
 iff:done=true↔∃ z∈l.take k,bK x z
theorem gK.start (l:List ai) (x:ai):gK l x 0 false []:=⟨ag,ag,ag⟩
theorem gK.here {l:List ai} {x:ai} {out:List ai} (h:gK l x k false out) (hk:k<l.length) (hne:l.getD k default≠x) (hlt:bK x (l.getD k default)):gK l x (k+1) true (out ++ [x] ++ [l.getD k default]):=by
 have e:l.take (k+1)=l.take k ++ [l.getD k default]:=by rw [List.take_succ_eq_append_getElem hk,fG hk]
 have hn:∀ y∈l.take k,¬ bK x y:=λy hy hl=>by have:=h.iff.2 ⟨y,hy,hl⟩;cases this
 refine ⟨?_,?_,?_⟩
 .rw [e];intro hm;rcases List.mem_append.1 hm with hm|hm
  .exact h.no hm
  exact hne (List.mem_singleton.1 hm).symm
 .have h1:=h.out;rw [if_neg ag] at h1;rw [if_pos rfl,e,WD hn,h1,dj,if_pos hlt,List.append_assoc];rfl
 rw [e];exact ⟨λ_=>⟨_,ag,hlt⟩,λ_=>rfl⟩
theorem gK.next {l:List ai} {x:ai} {done:Bool} {out:List ai} (h:gK l x k done out) (hk:k<l.length) (hne:l.getD k default≠x) (hlt:done=true\/¬ bK x (l.getD k default)):gK l x (k+1) done (out ++ [l.getD k default]):=by
 have e:l.take (k+1)=l.take k ++ [l.getD k default]:=by rw [List.take_succ_eq_append_getElem hk,fG hk]
 refine ⟨?_,?_,?_⟩
 .rw [e];intro hm;rcases List.mem_append.1 hm with hm|hm
  .exact h.no hm
  exact hne (List.mem_singleton.1 hm).symm
 .cases done with
  | true=>
   have h1:=h.out;rw [if_pos rfl] at h1;rw [if_pos rfl,e,vg_ (h.iff.1 rfl),h1]
  | false=>
   have h1:=h.out;rw [if_neg ag] at h1;rw [if_neg ag,e,h1]
 rw [e,h.iff];constructor
 .rintro ⟨z,hz,hl⟩;exact ⟨z,by simp [hz],hl⟩
 rintro ⟨z,hz,hl⟩;rcases List.mem_append.1 hz with hz|hz
 .exact ⟨z,hz,hl⟩
 obtain rfl:z=_:=by simpa using hz
 rcases hlt with h1|h1
 .exact h.iff.1 h1
 exact absurd hl h1
theorem gK.done {l:List ai} {x:ai} {done:Bool} {out:List ai} (h:gK l x l.length done out):x ∉ l/\dj l x=if done then out else out ++ [x]:=by
 obtain ⟨h1,h2,h3⟩:=h;rw [List.take_length] at h1 h2 h3;refine ⟨h1,?_⟩;cases done with
 | true=>rw [if_pos rfl] at h2 ⊢;exact h2.symm
 | false=>
  rw [if_neg ag] at h2 ⊢;rw [h2];have:=WD (a:=l) (x:=x) (λy hy hl=>by have:=h3.2 ⟨y,hy,hl⟩;cases this) [];rw [List.append_nil] at this;rw [this];rfl
def du (l:List ai) (x:ai):List ai:=if x∈l then l else dj l x
theorem WE {l:List ai} {x y:ai}:y∈dj l x↔y=x\/y∈l:=by
 induction l with
 | nil=>simp [dj]
 | cons u l ih=>
  unfold dj
  split
  .simp
  rw [List.mem_cons,ih,List.mem_cons];constructor
  .rintro (h|h|h)
   .exact .inr (.inl h)
   .exact .inl h
   exact .inr (.inr h)
  rintro (h|h|h)
  .exact .inr (.inl h)
  .exact .inl h
  exact .inr (.inr h)
theorem xc_ {l:List ai} {x y:ai}:y∈du l x↔y=x\/y∈l:=by
 unfold du
 split
 .rename_i h;exact ⟨.inr,λh1=>h1.elim (λe=>e ▸ h) id⟩
 exact WE
theorem xx_ {l:List ai} {x:ai}:(dj l x).length=l.length+1:=by
 induction l with
 | nil=>rfl
 | cons u l ih=>
  unfold dj
  split
  .rfl
  rw [List.length_cons,ih,List.length_cons]
theorem Ws {l:List ai} {x:ai}:(du l x).length<=l.length+1:=by
 unfold du
 split
 .omega
 rw [xx_];omega
def ie (l:List ai):Prop:=l.Pairwise bK
theorem xw_ {l:List ai} {x:ai} (h:ie l) (hx:x ∉ l):ie (dj l x):=by
 induction l with
 | nil=>exact List.pairwise_singleton _ _
 | cons u l ih=>
  unfold ie at h;rw [List.pairwise_cons] at h;unfold dj
  split
  .rename_i hl;refine List.pairwise_cons.2 ⟨λy hy=>?_,List.pairwise_cons.2 h⟩;rcases List.mem_cons.1 hy with rfl|hy
   .exact hl
   exact hl.trans (h.1 y hy)
  rename_i hl;refine List.pairwise_cons.2 ⟨λy hy=>?_,ih h.2 (λhm=>hx (by simp [hm]))⟩;rcases WE.1 hy with rfl|hy
  .rcases bK.tri u y with e|e|e
   .exact e
   .exact absurd (by simp [e]) hx
   exact absurd e hl
  exact h.1 y hy
theorem xb_ {l:List ai} {x:ai} (h:ie l):ie (du l x):=by
 unfold du
 split
 .exact h
 rename_i hx;exact xw_ h hx
theorem ie.good {l:List ai} (h:ie l) (hg:∀ x∈l,j9 x):∀ i,i<l.length->Q1 l i:=λi hi=>by
 refine ⟨hg _ (by rw [fG hi];exact List.getElem_mem hi),λj e=>?_⟩;subst e;unfold ie at h;rw [fG hi,fG aa];exact (List.pairwise_iff_getElem.1 h) j (j+1) aa hi aa
structure jb (val:List (List Per)->Bool) (l:List eA) (m:Int):Prop where
 good:∀ i,i<l.length->GI val l i
 last:∀ i,i<l.length->(l.getD i default).min<=m
theorem jb.nil {val:List (List Per)->Bool} {m:Int}:jb val [] m:=⟨λi h=>by simp at h,λi h=>by simp at h⟩
theorem jb.le {val:List (List Per)->Bool} {l:List eA} {m m':Int} (h:jb val l m) (hm:m<=m'):jb val l m':=⟨h.good,λi hi=>Int.le_trans (h.last i hi) hm⟩
theorem jb.snoc {val:List (List Per)->Bool} {l:List eA} {m m':Int} {d:List (List Per)} (h:jb val l m) (hm:m<m') (hd:val d=true) (h1:-4320<=m') (h2:m'<=4320):jb val (l ++ [⟨d,m'⟩]) m':=by
 have e1:∀ i,i<l.length->(l ++ [(⟨d,m'⟩:eA)]).getD i default=l.getD i default:=λi hi=>by
  rw [List.getD_eq_getElem?_getD,List.getD_eq_getElem?_getD,List.getElem?_append_left hi]
 have e2:(l ++ [(⟨d,m'⟩:eA)]).getD l.length default=⟨d,m'⟩:=by
  rw [List.getD_eq_getElem?_getD,List.getElem?_append_right (Nat.le_refl _)];simp
 refine ⟨λi hi=>?_,λi hi=>?_⟩
 .rw [List.length_append,List.length_singleton] at hi;by_cases hl:i<l.length
  .obtain ⟨g1,g2,g3⟩:=h.good i hl;unfold GI;rw [e1 i hl];exact ⟨g1,g2,λj e=>by rw [e1 j aa];exact g3 j e⟩
  obtain rfl:i=l.length:=aa;unfold GI;rw [e2];exact ⟨hd,⟨h1,h2⟩,λj e=>by rw [e1 j aa];have:=h.last j aa;exact Int.lt_of_le_of_lt this hm⟩
 rw [List.length_append,List.length_singleton] at hi;by_cases hl:i<l.length
 .rw [e1 i hl];have:=h.last i hl;omega
 obtain rfl:i=l.length:=aa;rw [e2];exact Int.le_refl _
end
end Kal
namespace Go.Proofs.YtbmgmlbmgogeaaaGreat
section
open Go.RowKit Go.Maps Kal
theorem uq_ {x y:ai} (h:bK x y):decide (gV x y >= 0)=false:=decide_eq_false λg=>UO.1 g h
theorem ur_ {x y:ai} (h:¬ bK x y):decide (gV x y >= 0)=true:=decide_eq_true (UO.2 h)
theorem Bs (F:Nat->Prop) (cv ev:Value) (s:aE) (w:World) (h:bq w F cv ev s) :
  Calls Tryz.prog 23 #[.agg #[cv,.int .i64 s.len,ev]] w λe w'=>e=.returned (.bool (GF dU s))/\Below w.heap.size w w':=by
 obtain ⟨L,h⟩:=h;have NK:=h.eq;have ni:s.cls.length=L.length:=by rw [<- NK];exact List.length_map _
 obtain ⟨ac,cc,rfl⟩:=h.cl.form;obtain ⟨ae,ce,rfl⟩:=h.ex.form;have fA:=h.cl.len;have hl2:=h.ex.len;obtain ⟨od,zZ⟩:=h.len;have HC:=ad h.cl;have HX:=ad h.ex;have oC:=ad NK;have fD:=ad ni;have dL:=λx lo hi W=>y_ x lo hi W;clear h NK ni;by_cases n1:L.length<=64
 rotate_left
 .have VO:¬ (L.length:Int)<=64:=aa;have JV:(64:Int)<L.length:=aa
  go_in
  go_wp2_with (go_at_call 48;refine (dL _ _ _ _).mono ?_;rintro e w1 ⟨rfl,rfl⟩)
  go_ret;exact ⟨bT (wy λg=>n1 (by have:=g.ncls;have:=fD.o;omega)).symm,xE⟩
 by_cases n2:1<=s.len/\s.len<=10080
 rotate_left
 .have VO:(L.length:Int)<=64:=aa;have JV:¬ (64:Int)<L.length:=aa;have n3:decide (1<=s.len/\s.len<=10080)=false:=decide_eq_false n2
  go_in
  go_wp2_with (go_at_call 48;refine (dL _ _ _ _).mono ?_;rw [n3];rintro e w1 ⟨rfl,rfl⟩)
  go_ret;exact ⟨bT (wy λg=>n2 g.len).symm,xE⟩
 by_cases n4:s.ext.length<=4096
 rotate_left
 .have VO:(L.length:Int)<=64:=aa;have JV:¬ (64:Int)<L.length:=aa;have n3:decide (1<=s.len/\s.len<=10080)=true:=decide_eq_true n2;have JW:(4096:Int)<s.ext.length:=aa
  go_in
  go_wp2_with (go_at_call 48;refine (dL _ _ _ _).mono ?_;rw [n3];rintro e w1 ⟨rfl,rfl⟩)
  go_ret;exact ⟨bT (wy λg=>n4 g.next).symm,xE⟩
 have JV:¬ (64:Int)<L.length:=aa;have n3:decide (1<=s.len/\s.len<=10080)=true:=decide_eq_true n2;have JW:¬ (4096:Int)<s.ext.length:=aa;have QO:decide ((4096:Int)<(s.ext.length:Int))=false:=decide_eq_false JW;have px:=ad n2;clear n2
 go_in
 go_wp2_with (go_at_call 48;refine (dL _ _ _ _).mono ?_;rw [n3];rintro e w1 ⟨rfl,rfl⟩)
 clear n3 QO;have hb0:af (w.alloc (.cells #[.slice ac L.length cc,.int .i64 s.len,.slice ae s.ext.length ce] 43)) w.heap.size #[.slice ac L.length cc,.int .i64 s.len,.slice ae s.ext.length ce] 43:=af.at rfl;have cw:=ad hb0;clear hb0;go_loopw [3,4,27] (λ_ _ i wr=>∃ k:Nat,k<=L.length/\i=.int .i64 k/\Hid (∀ j,j<k->GI dU s.cls j)/\Below w.heap.size w wr/\Hid (af wr w.heap.size #[.slice ac L.length cc,.int .i64 s.len,.slice ae s.ext.length ce] 43)) (λ_ _ i _=>L.length-(intOf i).toNat)
 .exact ⟨0,aa,rfl,ad (by intro j hj;omega),by exact xE,cw⟩
 obtain ⟨k,hk,rfl,HK,hb,HB⟩:=hrel;have xx:=hb.size;by_cases hlt:k<L.length
 .have dh:(k:Int)<L.length:=aa;obtain ⟨b,o,a1,c1,m,mi,rfl,dD,e0,e1,hm,oe,hcl⟩:=(HC.o.keep (aN.below hb) hb.size).get hlt;rw [oC.o] at hcl;have dw:=ad hcl;have Bc:Hid (∀ j,k=j+1->∃ pm,wr.cell? ⟨b,o+j*2+1,none⟩=some (.int .i64 pm)/\(s.cls.getD j default).min=pm):=ad λj hj=>by
   obtain ⟨b',o',_,_,m',pm,iW,_,_,g1,_,_,g2⟩:=(HC.o.keep (aN.below hb) hb.size).get (show j<L.length by omega);injection iW with iW
   injection iW with q1 q2
   subst q1 q2;exact ⟨pm,g1,by rw [<- oC.o,g2]⟩
  have fw:=ad hb;have q0:=(HB.o.cells 0).1;obtain ⟨mi1,mi2⟩:=oe;have eF:=ad (And.intro mi1 mi2);go_upto_region 6 with (fail)
  generalize hW:wr.alloc _=w2;have cz:Below wr.heap.size wr w2:=by rw [<- hW];exact xE
  have hE:Below w.heap.size w w2:=Et hb cz;have hbx:af w2 wr.heap.size #[.slice a1 m.length c1,.int .i64 mi] 59:=by rw [<- hW];exact af.at rfl
  have x0:=(hbx.cells 0).1;have x1:=(hbx.cells 1).1;have s0:=((HB.o.below cz).cells 0).1;have HV:=ad (λW (g:Below w2.heap.size w2 W)=>sI _ (.slice a1 m.length c1) m W ((hm.ext cz).ext g));have HE:=ad hE;have dL:=ad (λW=>y_ mi (-4320) 4320 W);have eY:=ad (HB.o.below cz);have lQ:=ad cz;clear hW hbx hE hm HB hb q0 e0 e1 cz;cases kj:dU m with
  | false=>
   rw [kj] at HV;have Bm:=ad kj;clear kj;refine jZ (w0:=w2) [0,1,2,3,4,5,6,7,8,9,10,11,12,13,14,15,16,17,18,19,20,21,22,23,24,25] [] (λv=>⟨#[.agg #[.slice (some ⟨b,o,none⟩) L.length cc,.int .i64 s.len,.slice ae s.ext.length ce],.pointer (some ⟨w.heap.size,0,none⟩),u2,.int .i64 ↑k,.pointer (some ⟨wr.heap.size,0,none⟩),undef,undef,undef,.pointer (some ⟨w.heap.size,0,none⟩),.slice (some ⟨b,o,none⟩) L.length cc,.int .i64 ↑L.length,.bool false,.bool false,.pointer (some ⟨w.heap.size,1,none⟩),.int .i64 s.len,.bool true,.bool false,.bool false,.bool false,.pointer (some ⟨w.heap.size,2,none⟩),.slice ae s.ext.length ce,.int .i64 ↑s.ext.length,.bool false,.bool false,.pointer (some ⟨w.heap.size,0,none⟩),.slice (some ⟨b,o,none⟩) L.length cc,.int .i64 ↑L.length,.int .i64 ↑k,.bool true,.int .i64 ↑k,.pointer (some ⟨b,o+k*2,none⟩),.agg #[.slice a1 m.length c1,.int .i64 mi],v 0,v 1,v 2,v 3,v 4,v 5,v 6,v 7,v 8,v 9,v 10,v 11,v 12,v 13,v 14,v 15,v 16,v 17,v 18,v 19,v 20,v 21,v 22,v 23,v 24,v 25,u58,undef,undef,undef,undef,undef,undef,undef,undef,undef,undef,undef,undef,undef,undef,undef,undef,undef,undef,undef,undef,undef,undef,undef,undef,undef,undef,undef,undef,undef,undef,undef,undef,undef,undef,undef,undef,undef,undef,undef,undef,undef,undef,undef,undef,undef,undef,undef,undef,undef],[]⟩) [.pointer (some ⟨wr.heap.size,0,none⟩),.agg #[.slice a1 m.length c1],.bool false,.bool true,.bool true,undef,undef,undef,undef,.bool true,.bool true,undef,undef,undef,undef,undef,undef,undef,undef,undef,undef,undef,undef,undef,undef,.bool true] (λW=>W.cell? ⟨wr.heap.size,0,none⟩=some (.slice a1 m.length c1)/\W.cell? ⟨wr.heap.size,1,none⟩=some (.int .i64 mi)/\Below w2.heap.size w2 W) (λW hb=>⟨al.cell hb x0,al.cell hb x1,hb⟩) ?steps ?fin (λj=>match j with|0=>u32|1=>u33|2=>u34|3=>u35|4=>u36|5=>u37|6=>u38|7=>u39|8=>u40|9=>u41|10=>u42|11=>u43|12=>u44|13=>u45|14=>u46|15=>u47|16=>u48|17=>u49|18=>u50|19=>u51|20=>u52|21=>u53|22=>u54|23=>u55|24=>u56|25=>u57|_=>undef)
   case steps=>
    refine .c [] rfl ?_ (.c [0] rfl ?_ (.c [1] rfl ?_ (.c [2] rfl ?_ (.c [3] rfl ?_ (.c [4] rfl ?_ (.c [4,5] rfl ?_ (.c [4,6] rfl ?_ (.c [4,7] rfl ?_ (.c [4,8] rfl ?_ (.c [9] rfl ?_ (.c [10] rfl ?_ (.c [10,11] rfl ?_ (.c [10,12] rfl ?_ (.c [13] rfl ?_ (.c [13,14] rfl ?_ (.c [13] rfl ?_ (.c [13,16] rfl ?_ (.c [13,15,17] rfl ?_ (.c [13,18] rfl ?_ (.c [13,19] rfl ?_ (.c [13] rfl ?_ (.c [13,21] rfl ?_ (.c [13,20,22] rfl ?_ (.c [10,13,23] rfl ?_ (.c [10,24] rfl ?_ (.n))))))))))))))))))))))))));all_goals try exact kq
    all_goals
     rintro v W hb ⟨g0,g1,g2⟩;refine .inl ⟨rfl,λK hK=>?_⟩;simp only [ov,aD,Nat.reduceBEq,cond_true,cond_false];go_wp2_with (go_at_call 49;(with_reducible refine (HV.o _ g2).mono ?_);rintro e w9 ⟨rfl,bg⟩);exact aU (hK w9 bg) (by simp [ov,aD])
   case fin=>
    rintro W3 hb3 ⟨g0,g1,g2⟩;show wpList _ _ _ [] _ _;simp only [aD];go_wp2;go_ret;refine ⟨bT (wy λg=>?_).symm,Et HE.o hb3⟩;have g3:=(g.cls k (by have:=fD.o;omega)).1;rw [dw.o] at g3;rw [Bm.o] at g3;exact absurd g3 aF
  | true=>
   rw [kj] at HV;have Bm:=ad kj;clear kj;by_cases rL:-4320<=mi/\mi<=4320
   rotate_left
   .have hd:decide (-4320<=mi/\mi<=4320)=false:=decide_eq_false rL;rw [hd] at dL;have vT:=ad rL;clear hd rL;refine jZ (w0:=w2) [0,1,2,3,4,5,6,7,8,9,10,11,12,13,14,15,16,17,18,19,20,21,22,23,24,25] [] (λv=>⟨#[.agg #[.slice (some ⟨b,o,none⟩) L.length cc,.int .i64 s.len,.slice ae s.ext.length ce],.pointer (some ⟨w.heap.size,0,none⟩),u2,.int .i64 ↑k,.pointer (some ⟨wr.heap.size,0,none⟩),undef,undef,undef,.pointer (some ⟨w.heap.size,0,none⟩),.slice (some ⟨b,o,none⟩) L.length cc,.int .i64 ↑L.length,.bool false,.bool false,.pointer (some ⟨w.heap.size,1,none⟩),.int .i64 s.len,.bool true,.bool false,.bool false,.bool false,.pointer (some ⟨w.heap.size,2,none⟩),.slice ae s.ext.length ce,.int .i64 ↑s.ext.length,.bool false,.bool false,.pointer (some ⟨w.heap.size,0,none⟩),.slice (some ⟨b,o,none⟩) L.length cc,.int .i64 ↑L.length,.int .i64 ↑k,.bool true,.int .i64 ↑k,.pointer (some ⟨b,o+k*2,none⟩),.agg #[.slice a1 m.length c1,.int .i64 mi],v 0,v 1,v 2,v 3,v 4,v 5,v 6,v 7,v 8,v 9,v 10,v 11,v 12,v 13,v 14,v 15,v 16,v 17,v 18,v 19,v 20,v 21,v 22,v 23,v 24,v 25,u58,undef,undef,undef,undef,undef,undef,undef,undef,undef,undef,undef,undef,undef,undef,undef,undef,undef,undef,undef,undef,undef,undef,undef,undef,undef,undef,undef,undef,undef,undef,undef,undef,undef,undef,undef,undef,undef,undef,undef,undef,undef,undef,undef,undef,undef,undef,undef,undef,undef],[]⟩) [.pointer (some ⟨wr.heap.size,0,none⟩),.agg #[.slice a1 m.length c1],.bool true,.bool false,.bool false,.pointer (some ⟨wr.heap.size,1,none⟩),.int .i64 mi,.bool false,.bool true,.bool true,.bool true,undef,undef,undef,undef,undef,undef,undef,undef,undef,undef,undef,undef,undef,undef,.bool true] (λW=>W.cell? ⟨wr.heap.size,0,none⟩=some (.slice a1 m.length c1)/\W.cell? ⟨wr.heap.size,1,none⟩=some (.int .i64 mi)/\Below w2.heap.size w2 W) (λW hb=>⟨al.cell hb x0,al.cell hb x1,hb⟩) ?steps ?fin (λj=>match j with|0=>u32|1=>u33|2=>u34|3=>u35|4=>u36|5=>u37|6=>u38|7=>u39|8=>u40|9=>u41|10=>u42|11=>u43|12=>u44|13=>u45|14=>u46|15=>u47|16=>u48|17=>u49|18=>u50|19=>u51|20=>u52|21=>u53|22=>u54|23=>u55|24=>u56|25=>u57|_=>undef)
    case steps=>
     refine .c [] rfl ?_ (.c [0] rfl ?_ (.c [1] rfl ?_ (.c [2] rfl ?_ (.c [3] rfl ?_ (.c [4] rfl ?_ (.c [4,5] rfl ?_ (.c [4,6] rfl ?_ (.c [4,7] rfl ?_ (.c [4,8] rfl ?_ (.c [9] rfl ?_ (.c [10] rfl ?_ (.c [10,11] rfl ?_ (.c [10,12] rfl ?_ (.c [13] rfl ?_ (.c [13,14] rfl ?_ (.c [13] rfl ?_ (.c [13,16] rfl ?_ (.c [13,15,17] rfl ?_ (.c [13,18] rfl ?_ (.c [13,19] rfl ?_ (.c [13] rfl ?_ (.c [13,21] rfl ?_ (.c [13,20,22] rfl ?_ (.c [10,13,23] rfl ?_ (.c [10,24] rfl ?_ (.n))))))))))))))))))))))))));all_goals try exact kq
     all_goals
      rintro v W hb ⟨g0,g1,g2⟩;refine .inl ⟨rfl,λK hK=>?_⟩;simp only [ov,aD,Nat.reduceBEq,cond_true,cond_false];go_wp2_with (first|(go_at_call 49;(with_reducible refine (HV.o _ g2).mono ?_);rintro e w9 ⟨rfl,bg⟩)|(go_at_call 48;(with_reducible refine (dL.o _).mono ?_);rintro e w9 ⟨rfl,h9⟩;have bg:Below W.heap.size W w9:=h9 ▸ Below.refl _ _;clear h9));exact aU (hK w9 bg) (by simp [ov,aD])
    case fin=>
     rintro W3 hb3 ⟨g0,g1,g2⟩;show wpList _ _ _ [] _ _;simp only [aD];go_wp2;go_ret;refine ⟨bT (wy λg=>?_).symm,Et HE.o hb3⟩;have g3:=(g.cls k (by have:=fD.o;omega)).2.1;rw [dw.o] at g3;exact vT.o g3
   have hd:decide (-4320<=mi/\mi<=4320)=true:=decide_eq_true rL;rw [hd] at dL;have vT:=ad rL;clear hd rL;rcases Nat.eq_zero_or_pos k with rfl|dX
   .clear s0;refine jZ (w0:=w2) [0,1,2,3,4,5,6,7,8,9,10,11,12,13,14,15,16,17,18,19,20,21,22,23,24,25] [] (λv=>⟨#[.agg #[.slice (some ⟨b,o,none⟩) L.length cc,.int .i64 s.len,.slice ae s.ext.length ce],.pointer (some ⟨w.heap.size,0,none⟩),u2,.int .i64 ↑0,.pointer (some ⟨wr.heap.size,0,none⟩),undef,undef,undef,.pointer (some ⟨w.heap.size,0,none⟩),.slice (some ⟨b,o,none⟩) L.length cc,.int .i64 ↑L.length,.bool false,.bool false,.pointer (some ⟨w.heap.size,1,none⟩),.int .i64 s.len,.bool true,.bool false,.bool false,.bool false,.pointer (some ⟨w.heap.size,2,none⟩),.slice ae s.ext.length ce,.int .i64 ↑s.ext.length,.bool false,.bool false,.pointer (some ⟨w.heap.size,0,none⟩),.slice (some ⟨b,o,none⟩) L.length cc,.int .i64 ↑L.length,.int .i64 ↑0,.bool true,.int .i64 ↑0,.pointer (some ⟨b,o+0*2,none⟩),.agg #[.slice a1 m.length c1,.int .i64 mi],v 0,v 1,v 2,v 3,v 4,v 5,v 6,v 7,v 8,v 9,v 10,v 11,v 12,v 13,v 14,v 15,v 16,v 17,v 18,v 19,v 20,v 21,v 22,v 23,v 24,v 25,u58,undef,undef,undef,undef,undef,undef,undef,undef,undef,undef,undef,undef,undef,undef,undef,undef,undef,undef,undef,undef,undef,undef,undef,undef,undef,undef,undef,undef,undef,undef,undef,undef,undef,undef,undef,undef,undef,undef,undef,undef,undef,undef,undef,undef,undef,undef,undef,undef,undef],[]⟩) [.pointer (some ⟨wr.heap.size,0,none⟩),.agg #[.slice a1 m.length c1],.bool true,.bool false,.bool false,.pointer (some ⟨wr.heap.size,1,none⟩),.int .i64 mi,.bool true,.bool false,.bool false,.bool false,.int .i64 0,.bool false,.bool false,undef,undef,undef,undef,undef,undef,undef,undef,undef,undef,.bool false,.bool false] (λW=>W.cell? ⟨wr.heap.size,0,none⟩=some (.slice a1 m.length c1)/\W.cell? ⟨wr.heap.size,1,none⟩=some (.int .i64 mi)/\Below w2.heap.size w2 W) (λW hb=>⟨al.cell hb x0,al.cell hb x1,hb⟩) ?steps ?fin (λj=>match j with|0=>u32|1=>u33|2=>u34|3=>u35|4=>u36|5=>u37|6=>u38|7=>u39|8=>u40|9=>u41|10=>u42|11=>u43|12=>u44|13=>u45|14=>u46|15=>u47|16=>u48|17=>u49|18=>u50|19=>u51|20=>u52|21=>u53|22=>u54|23=>u55|24=>u56|25=>u57|_=>undef)
    case steps=>
     refine .c [] rfl ?_ (.c [0] rfl ?_ (.c [1] rfl ?_ (.c [2] rfl ?_ (.c [3] rfl ?_ (.c [4] rfl ?_ (.c [4,5] rfl ?_ (.c [4,6] rfl ?_ (.c [4,7] rfl ?_ (.c [4,8] rfl ?_ (.c [9] rfl ?_ (.c [10] rfl ?_ (.c [10,11] rfl ?_ (.c [10,12] rfl ?_ (.c [13] rfl ?_ (.c [13,14] rfl ?_ (.c [13] rfl ?_ (.c [13,16] rfl ?_ (.c [13,15,17] rfl ?_ (.c [13,18] rfl ?_ (.c [13,19] rfl ?_ (.c [13] rfl ?_ (.c [13,21] rfl ?_ (.c [13,20,22] rfl ?_ (.c [10,13,23] rfl ?_ (.c [10,24] rfl ?_ (.n))))))))))))))))))))))))));all_goals try exact kq
     all_goals
      rintro v W hb ⟨g0,g1,g2⟩;refine .inl ⟨rfl,λK hK=>?_⟩;simp only [ov,aD,Nat.reduceBEq,cond_true,cond_false];go_wp2_with (first|(go_at_call 49;(with_reducible refine (HV.o _ g2).mono ?_);rintro e w9 ⟨rfl,bg⟩)|(go_at_call 48;(with_reducible refine (dL.o _).mono ?_);rintro e w9 ⟨rfl,h9⟩;have bg:Below W.heap.size W w9:=h9 ▸ Below.refl _ _;clear h9));exact aU (hK w9 bg) (by simp [ov,aD])
    case fin=>
     rintro W3 hb3 ⟨g0,g1,g2⟩;show wpList _ _ _ [] _ _;simp only [aD];go_wp2;go_roundw
     .refine ⟨1,aa,by go_num,ad λj hj=>?_,Et HE.o hb3,ad (eY.o.below hb3)⟩;obtain rfl:j=0:=aa;refine ⟨?_,?_,λj e=>aa⟩
      .rw [dw.o];exact Bm.o
      rw [dw.o];exact vT.o
     simp [intOf];omega
   obtain ⟨j,rfl⟩:∃ j,k=j+1:=⟨k-1,aa⟩;obtain ⟨pm,p1,B8⟩:=Bc.o j rfl;have p1:=al.cell lQ.o p1;have tR:=ad B8;clear B8;obtain ⟨bd,jK⟩:∃ bd,decide (mi<=pm)=bd:=⟨_,rfl⟩;rw [show (((j+1:Nat)):Int)=(j:Int)+1 from rfl];refine jZ (w0:=w2) [0,1,2,3,4,5,6,7,8,9,10,11,12,13,14,15,16,17,18,19,20,21,22,23,24,25] [] (λv=>⟨#[.agg #[.slice (some ⟨b,o,none⟩) L.length cc,.int .i64 s.len,.slice ae s.ext.length ce],.pointer (some ⟨w.heap.size,0,none⟩),u2,.int .i64 (↑j+1),.pointer (some ⟨wr.heap.size,0,none⟩),undef,undef,undef,.pointer (some ⟨w.heap.size,0,none⟩),.slice (some ⟨b,o,none⟩) L.length cc,.int .i64 ↑L.length,.bool false,.bool false,.pointer (some ⟨w.heap.size,1,none⟩),.int .i64 s.len,.bool true,.bool false,.bool false,.bool false,.pointer (some ⟨w.heap.size,2,none⟩),.slice ae s.ext.length ce,.int .i64 ↑s.ext.length,.bool false,.bool false,.pointer (some ⟨w.heap.size,0,none⟩),.slice (some ⟨b,o,none⟩) L.length cc,.int .i64 ↑L.length,.int .i64 (↑j+1),.bool true,.int .i64 (↑j+1),.pointer (some ⟨b,o+(j+1)*2,none⟩),.agg #[.slice a1 m.length c1,.int .i64 mi],v 0,v 1,v 2,v 3,v 4,v 5,v 6,v 7,v 8,v 9,v 10,v 11,v 12,v 13,v 14,v 15,v 16,v 17,v 18,v 19,v 20,v 21,v 22,v 23,v 24,v 25,u58,undef,undef,undef,undef,undef,undef,undef,undef,undef,undef,undef,undef,undef,undef,undef,undef,undef,undef,undef,undef,undef,undef,undef,undef,undef,undef,undef,undef,undef,undef,undef,undef,undef,undef,undef,undef,undef,undef,undef,undef,undef,undef,undef,undef,undef,undef,undef,undef,undef],[]⟩) [.pointer (some ⟨wr.heap.size,0,none⟩),.agg #[.slice a1 m.length c1],.bool true,.bool false,.bool false,.pointer (some ⟨wr.heap.size,1,none⟩),.int .i64 mi,.bool true,.bool false,.bool false,.bool false,.int .i64 ((j:Int)+1),.bool true,.bool true,.pointer (some ⟨w.heap.size,0,none⟩),.slice (some ⟨b,o,none⟩) L.length cc,.int .i64 ((j:Int)+1),.int .i64 (j:Int),.pointer (some ⟨b,o+j*2,none⟩),.pointer (some ⟨b,o+j*2+1,none⟩),.int .i64 pm,.pointer (some ⟨wr.heap.size,1,none⟩),.int .i64 mi,.bool bd,.bool bd,.bool bd] (λW=>W.cell? ⟨w.heap.size,0,none⟩=some (.slice (some ⟨b,o,none⟩) L.length cc)/\W.cell? ⟨b,o+j*2+1,none⟩=some (.int .i64 pm)/\W.cell? ⟨wr.heap.size,0,none⟩=some (.slice a1 m.length c1)/\W.cell? ⟨wr.heap.size,1,none⟩=some (.int .i64 mi)/\Below w2.heap.size w2 W) (λW hb=>⟨al.cell hb s0,al.cell hb p1,al.cell hb x0,al.cell hb x1,hb⟩) ?steps ?fin (λj=>match j with|0=>u32|1=>u33|2=>u34|3=>u35|4=>u36|5=>u37|6=>u38|7=>u39|8=>u40|9=>u41|10=>u42|11=>u43|12=>u44|13=>u45|14=>u46|15=>u47|16=>u48|17=>u49|18=>u50|19=>u51|20=>u52|21=>u53|22=>u54|23=>u55|24=>u56|25=>u57|_=>undef)
   case steps=>
    refine .c [] rfl ?_ (.c [0] rfl ?_ (.c [1] rfl ?_ (.c [2] rfl ?_ (.c [3] rfl ?_ (.c [4] rfl ?_ (.c [4,5] rfl ?_ (.c [4,6] rfl ?_ (.c [4,7] rfl ?_ (.c [4,8] rfl ?_ (.c [9] rfl ?_ (.c [10] rfl ?_ (.c [10,11] rfl ?_ (.c [10,12] rfl ?_ (.c [13] rfl ?_ (.c [13,14] rfl ?_ (.c [13] rfl ?_ (.c [13,16] rfl ?_ (.c [13,15,17] rfl ?_ (.c [13,18] rfl ?_ (.c [13,19] rfl ?_ (.c [13] rfl ?_ (.c [13,21] rfl ?_ (.c [13,20,22] rfl ?_ (.c [10,13,23] rfl ?_ (.c [10,24] rfl ?_ (.n))))))))))))))))))))))))));all_goals try exact kq
    all_goals
     rintro v W hb ⟨g3,g4,g0,g1,g2⟩;refine .inl ⟨rfl,λK hK=>?_⟩;simp only [ov,aD,Nat.reduceBEq,cond_true,cond_false];go_wp2_with (first|(go_at_call 49;(with_reducible refine (HV.o _ g2).mono ?_);rintro e w9 ⟨rfl,bg⟩)|(go_at_call 48;(with_reducible refine (dL.o _).mono ?_);rintro e w9 ⟨rfl,h9⟩;have bg:Below W.heap.size W w9:=h9 ▸ Below.refl _ _;clear h9));exact aU (hK w9 bg) (by simp [ov,aD])
   case fin=>
    rintro W3 hb3 ⟨g3,g4,g0,g1,g2⟩;show wpList _ _ _ [] _ _;simp only [aD];have sq:=ad jK;clear jK;cases bd
    .go_wp2
     go_roundw
     .refine ⟨j+1+1,aa,by go_num,ad λi hi=>?_,Et HE.o hb3,ad (eY.o.below hb3)⟩;by_cases gD:i<j+1
      .exact HK.o i gD
      obtain rfl:i=j+1:=aa;refine ⟨?_,?_,λj' e=>?_⟩
      .rw [dw.o];exact Bm.o
      .rw [dw.o];exact vT.o
      obtain rfl:j'=j:=aa;rw [dw.o,tR.o];have:=of_decide_eq_false sq.o;show pm<mi;omega
     simp [intOf];omega
    go_wp2
    go_ret;refine ⟨bT (wy λg=>?_).symm,Et HE.o hb3⟩;have g3:=(g.cls (j+1) (by have:=fD.o;omega)).2.2 j rfl;rw [dw.o,tR.o] at g3;have:=of_decide_eq_true sq.o;have:pm<mi:=g3;omega
 obtain rfl:k=L.length:=aa;have fM:¬ (L.length:Int)<L.length:=aa;have q2:=(HB.o.cells 2).1;have KI:=HK;go_wp2_with fail;clear fM q2;go_loopw [5,6,7,62] (λ_ _ _ i wr=>∃ k:Nat,k<=s.ext.length/\i=.int .i64 k/\Hid (∀ j,j<k->Q1 s.ext j)/\Below w.heap.size w wr/\Hid (af wr w.heap.size #[.slice ac L.length cc,.int .i64 s.len,.slice ae s.ext.length ce] 43)) (λ_ _ _ i _=>s.ext.length-(intOf i).toNat)
 .exact ⟨0,aa,rfl,ad (by intro j hj;omega),by exact xE,by first|exact HB|exact ad (HB.o.below xE)⟩
 obtain ⟨k,hk,rfl,St,hb,HB⟩:=hrel;have xx:=hb.size;by_cases hlt:k<s.ext.length
 .have dh:(k:Int)<s.ext.length:=aa;obtain ⟨b,o,y,rfl,dD,hy,oo,e0,e1,e2⟩:=(HX.o.keep (aN.below hb) hb.size).get hlt;have HY:=ad hy;have Bc:Hid (∀ j,k=j+1->∃ x,s.ext.getD j default=x/\wr.cell? ⟨b,o+j*3,none⟩=some (.int .i64 x.day)/\wr.cell? ⟨b,o+j*3+1,none⟩=some (.int .i64 x.frm)/\wr.cell? ⟨b,o+j*3+2,none⟩=some (.int .i64 x.fin)):=ad λj hj=>by
   obtain ⟨b',o',x,iW,_,hx,_,g0,g1,g2⟩:=(HX.o.keep (aN.below hb) hb.size).get (show j<s.ext.length by omega);injection iW with iW
   injection iW with q1 q2
   subst q1 q2;exact ⟨x,hx,g0,g1,g2⟩
  obtain ⟨⟨y1,y2⟩,⟨y3,y4⟩,y5,y6⟩:=oo;obtain ⟨b1,hb1⟩:∃ b1,decide (0<=y.day/\y.day<=1099511627776)=b1:=⟨_,rfl⟩;obtain ⟨b2,hb2⟩:∃ b2,decide (-2251799813685248<=y.frm/\y.frm<=1583296743997439)=b2:=⟨_,rfl⟩;obtain ⟨b3,hb3⟩:∃ b3,decide (y.frm+1<=y.fin/\y.fin<=y.frm+10080)=b3:=⟨_,rfl⟩;have C1:=λW=>y_ y.day 0 1099511627776 W;have C2:=λW=>y_ y.frm (-2251799813685248) 1583296743997439 W;have C3:=λW=>y_ y.fin (y.frm+1) (y.frm+10080) W;rw [hb1] at C1;rw [hb2] at C2;rw [hb3] at C3;have C1:=ad C1;have C2:=ad C2;have C3:=ad C3;have hfb:b2=true->-2251799813685248<=y.frm/\y.frm<=1583296743997439:=λh=>of_decide_eq_true (hb2.trans h);have GW:=ad hfb;have bo:=ad hb1;have bj:=ad hb2;have cm:=ad hb3;have q2:=(HB.o.cells 2).1;have bH:=ad hb;clear hb1 hb2 hb3 hfb hy hb;have hg:Hid ((b1=true/\b2=true/\b3=true)->j9 y):=ad λ⟨g1,g2,g3⟩=>⟨of_decide_eq_true (bo.o.trans g1),of_decide_eq_true (bj.o.trans g2),of_decide_eq_true (cm.o.trans g3)⟩;have hgn:Hid ((b1=false\/b2=false\/b3=false)->¬ j9 y):=ad λg h=>by
   rcases g with g|g|g
   .exact absurd h.1 (of_decide_eq_false (bo.o.trans g))
   .exact absurd h.2.1 (of_decide_eq_false (bj.o.trans g))
   exact absurd h.2.2 (of_decide_eq_false (cm.o.trans g))
  have Kw:Hid ((b1 && b2 && b3)=true↔j9 y):=ad (by
   constructor
   .intro h;rw [Bool.and_eq_true,Bool.and_eq_true] at h;exact hg.o ⟨h.1.1,h.1.2,h.2⟩
   intro h;cases b1 <;> cases b2 <;> cases b3 <;> first|rfl|exact absurd h (hgn.o ag))
  clear hg hgn;go_upto_region 12 with (fail)
  generalize hW:wr.alloc _=w2;have cz:Below wr.heap.size wr w2:=by rw [<- hW];exact xE
  have hbx:af w2 wr.heap.size #[.int .i64 y.day,.int .i64 y.frm,.int .i64 y.fin] 46:=by rw [<- hW];exact af.at rfl
  have x0:=(hbx.cells 0).1;have x1:=(hbx.cells 1).1;have x2:=(hbx.cells 2).1;have HE:=ad (Et bH.o cz);have eY:=ad (HB.o.below cz);have tR:Hid (∀ j,k=j+1->∃ x,s.ext.getD j default=x/\w2.cell? ⟨b,o+j*3,none⟩=some (.int .i64 x.day)/\w2.cell? ⟨b,o+j*3+1,none⟩=some (.int .i64 x.frm)/\w2.cell? ⟨b,o+j*3+2,none⟩=some (.int .i64 x.fin)):=ad λj hj=>by
   obtain ⟨x,h1,h2,h3,h4⟩:=Bc.o j hj;exact ⟨x,h1,al.cell cz h2,al.cell cz h3,al.cell cz h4⟩
  clear hW hbx cz e0 e1 e2 HB q2 Bc
  go_cut [7] (λv7 wx=>v7=.bool (b1 && b2 && b3)/\w2=wx)
  case first=>
   cases b1
   .go_wp2_with (go_at_call 48;(first|((with_reducible refine (C1.o _).mono ?_);rintro e w1 ⟨rfl,rfl⟩)|((with_reducible refine (C2.o _).mono ?_);rintro e w1 ⟨rfl,rfl⟩)|((with_reducible refine (C3.o _).mono ?_);rintro e w1 ⟨rfl,rfl⟩)))
    go_meet
    exact ⟨rfl,rfl⟩
   cases b2
   .go_wp2_with (go_at_call 48;(first|((with_reducible refine (C1.o _).mono ?_);rintro e w1 ⟨rfl,rfl⟩)|((with_reducible refine (C2.o _).mono ?_);rintro e w1 ⟨rfl,rfl⟩)|((with_reducible refine (C3.o _).mono ?_);rintro e w1 ⟨rfl,rfl⟩)))
    go_meet
    exact ⟨rfl,rfl⟩
   obtain ⟨f1,f2⟩:=GW.o rfl;go_wp2_with (go_at_call 48;(first|((with_reducible refine (C1.o _).mono ?_);rintro e w1 ⟨rfl,rfl⟩)|((with_reducible refine (C2.o _).mono ?_);rintro e w1 ⟨rfl,rfl⟩)|((with_reducible refine (C3.o _).mono ?_);rintro e w1 ⟨rfl,rfl⟩)))
   go_meet
   exact ⟨rfl,rfl⟩
  case rest=>
   obtain ⟨rfl,rfl⟩:=hcut;obtain ⟨gb,hgb⟩:∃ gb,(b1 && b2 && b3)=gb:=⟨_,rfl⟩;rw [hgb] at Kw ⊢;clear hgb C1 C2 C3 bo bj cm GW;cases gb
   .have Kc:Hid (¬ j9 y):=ad (λh=>absurd (Kw.o.2 h) aF);go_upto_region 13 with (fail)
    refine jZ (w0:=w2) [0,1,2,3,4,5,6,7,8,9,10,11,12,13,14,15,16] [] (λv=>⟨#[.agg #[.slice ac L.length cc,.int .i64 s.len,.slice (some ⟨b,o,none⟩) s.ext.length ce],.pointer (some ⟨w.heap.size,0,none⟩),u2,u3,u4,.int .i64 ↑k,.pointer (some ⟨wr.heap.size,0,none⟩),.bool false,.pointer (some ⟨w.heap.size,0,none⟩),.slice ac L.length cc,.int .i64 ↑L.length,.bool false,.bool false,.pointer (some ⟨w.heap.size,1,none⟩),.int .i64 s.len,.bool true,.bool false,.bool false,.bool false,.pointer (some ⟨w.heap.size,2,none⟩),.slice (some ⟨b,o,none⟩) s.ext.length ce,.int .i64 ↑s.ext.length,.bool false,.bool false,.pointer (some ⟨w.heap.size,0,none⟩),.slice ac L.length cc,.int .i64 ↑L.length,.int .i64 ↑L.length,.bool false,u29,u30,u31,u32,u33,u34,u35,u36,u37,u38,u39,u40,u41,u42,u43,u44,u45,u46,u47,u48,u49,u50,u51,u52,u53,u54,u55,u56,u57,u58,.pointer (some ⟨w.heap.size,2,none⟩),.slice (some ⟨b,o,none⟩) s.ext.length ce,.int .i64 ↑s.ext.length,.int .i64 ↑k,u63,u64,u65,u66,u67,u68,u69,u70,u71,u72,u73,u74,u75,u76,u77,u78,u79,u80,u81,u82,u83,u84,u85,u86,u87,u88,u89,v 0,v 1,v 2,v 3,v 4,v 5,v 6,v 7,v 8,v 9,v 10,v 11,v 12,v 13,v 14,v 15,v 16,u107],[]⟩) [.bool false,.bool true,.bool true,undef,undef,undef,undef,undef,undef,undef,undef,undef,undef,undef,undef,undef,.bool true] (λW=>W.cell? ⟨wr.heap.size,0,none⟩=some (.int .i64 y.day)/\W.cell? ⟨wr.heap.size,1,none⟩=some (.int .i64 y.frm)/\W.cell? ⟨wr.heap.size,2,none⟩=some (.int .i64 y.fin)) (λW hb=>⟨al.cell hb x0,al.cell hb x1,al.cell hb x2⟩) ?steps ?fin (λj=>match j with|0=>u90|1=>u91|2=>u92|3=>u93|4=>u94|5=>u95|6=>u96|7=>u97|8=>u98|9=>u99|10=>u100|11=>u101|12=>u102|13=>u103|14=>u104|15=>u105|16=>u106|_=>undef)
    case steps=>
     refine .c [] rfl ?_ (.c [0] rfl ?_ (.c [1] rfl ?_ (.c [2] rfl ?_ (.c [2,3] rfl ?_ (.c [2,4] rfl ?_ (.c [5] rfl ?_ (.c [5,6] rfl ?_ (.c [5] rfl ?_ (.c [5,8] rfl ?_ (.c [5,7,9] rfl ?_ (.c [5,10] rfl ?_ (.c [5] rfl ?_ (.c [5,11,12] rfl ?_ (.c [5,13] rfl ?_ (.c [2,5,14] rfl ?_ (.c [2,15] rfl ?_ (.n)))))))))))))))));all_goals try exact kq
    case fin=>
     rintro W3 hb3 ⟨g0,g1,g2⟩;show wpList _ _ _ [] _ _;simp only [aD];go_wp2;go_ret;refine ⟨bT (wy λg=>?_).symm,Et HE.o hb3⟩;have g3:=(g.ext k hlt).1;rw [HY.o] at g3;exact Kc.o g3
   have RV:=ad (Kw.o.1 rfl);rcases Nat.eq_zero_or_pos k with rfl|dX
   .go_upto_region 13 with (fail)
    refine jZ (w0:=w2) [0,1,2,3,4,5,6,7,8,9,10,11,12,13,14,15,16] [] (λv=>⟨#[.agg #[.slice ac L.length cc,.int .i64 s.len,.slice (some ⟨b,o,none⟩) s.ext.length ce],.pointer (some ⟨w.heap.size,0,none⟩),u2,u3,u4,.int .i64 ↑0,.pointer (some ⟨wr.heap.size,0,none⟩),.bool true,.pointer (some ⟨w.heap.size,0,none⟩),.slice ac L.length cc,.int .i64 ↑L.length,.bool false,.bool false,.pointer (some ⟨w.heap.size,1,none⟩),.int .i64 s.len,.bool true,.bool false,.bool false,.bool false,.pointer (some ⟨w.heap.size,2,none⟩),.slice (some ⟨b,o,none⟩) s.ext.length ce,.int .i64 ↑s.ext.length,.bool false,.bool false,.pointer (some ⟨w.heap.size,0,none⟩),.slice ac L.length cc,.int .i64 ↑L.length,.int .i64 ↑L.length,.bool false,u29,u30,u31,u32,u33,u34,u35,u36,u37,u38,u39,u40,u41,u42,u43,u44,u45,u46,u47,u48,u49,u50,u51,u52,u53,u54,u55,u56,u57,u58,.pointer (some ⟨w.heap.size,2,none⟩),.slice (some ⟨b,o,none⟩) s.ext.length ce,.int .i64 ↑s.ext.length,.int .i64 ↑0,u63,u64,u65,u66,u67,u68,u69,u70,u71,u72,u73,u74,u75,u76,u77,u78,u79,u80,u81,u82,u83,u84,u85,u86,u87,u88,u89,v 0,v 1,v 2,v 3,v 4,v 5,v 6,v 7,v 8,v 9,v 10,v 11,v 12,v 13,v 14,v 15,v 16,u107],[]⟩) [.bool true,.bool false,.bool false,.int .i64 0,.bool false,.bool false,undef,undef,undef,undef,undef,undef,undef,undef,undef,.bool false,.bool false] (λW=>W.cell? ⟨wr.heap.size,0,none⟩=some (.int .i64 y.day)/\W.cell? ⟨wr.heap.size,1,none⟩=some (.int .i64 y.frm)/\W.cell? ⟨wr.heap.size,2,none⟩=some (.int .i64 y.fin)) (λW hb=>⟨al.cell hb x0,al.cell hb x1,al.cell hb x2⟩) ?steps ?fin (λj=>match j with|0=>u90|1=>u91|2=>u92|3=>u93|4=>u94|5=>u95|6=>u96|7=>u97|8=>u98|9=>u99|10=>u100|11=>u101|12=>u102|13=>u103|14=>u104|15=>u105|16=>u106|_=>undef)
    case steps=>
     refine .c [] rfl ?_ (.c [0] rfl ?_ (.c [1] rfl ?_ (.c [2] rfl ?_ (.c [2,3] rfl ?_ (.c [2,4] rfl ?_ (.c [5] rfl ?_ (.c [5,6] rfl ?_ (.c [5] rfl ?_ (.c [5,8] rfl ?_ (.c [5,7,9] rfl ?_ (.c [5,10] rfl ?_ (.c [5] rfl ?_ (.c [5,11,12] rfl ?_ (.c [5,13] rfl ?_ (.c [2,5,14] rfl ?_ (.c [2,15] rfl ?_ (.n)))))))))))))))));all_goals try exact kq
    case fin=>
     rintro W3 hb3 ⟨g0,g1,g2⟩;show wpList _ _ _ [] _ _;simp only [aD];go_wp2;go_roundw
     .refine ⟨1,aa,by go_num,ad λj hj=>?_,Et HE.o hb3,ad (eY.o.below hb3)⟩;obtain rfl:j=0:=aa;exact ⟨by rw [HY.o];exact RV.o,λj e=>aa⟩
     simp [intOf];omega
   obtain ⟨j,rfl⟩:∃ j,k=j+1:=⟨k-1,aa⟩;obtain ⟨x,hx,p0,p1,p2⟩:=tR.o j rfl;have Hd:=ad hx;have Lc:=ad (λW=>VQ x y W);obtain ⟨bd,jK⟩:∃ bd,decide (gV x y >= 0)=bd:=⟨_,rfl⟩;have Oh:decide (0<=gV x y)=bd:=jK;have sq:=ad jK;have s0:=(eY.o.cells 2).1;clear hx jK;rw [show (((j+1:Nat)):Int)=(j:Int)+1 from rfl];go_upto_region 13 with (fail)
   refine jZ (w0:=w2) [0,1,2,3,4,5,6,7,8,9,10,11,12,13,14,15,16] [] (λv=>⟨#[.agg #[.slice ac L.length cc,.int .i64 s.len,.slice (some ⟨b,o,none⟩) s.ext.length ce],.pointer (some ⟨w.heap.size,0,none⟩),u2,u3,u4,.int .i64 (↑j+1),.pointer (some ⟨wr.heap.size,0,none⟩),.bool true,.pointer (some ⟨w.heap.size,0,none⟩),.slice ac L.length cc,.int .i64 ↑L.length,.bool false,.bool false,.pointer (some ⟨w.heap.size,1,none⟩),.int .i64 s.len,.bool true,.bool false,.bool false,.bool false,.pointer (some ⟨w.heap.size,2,none⟩),.slice (some ⟨b,o,none⟩) s.ext.length ce,.int .i64 ↑s.ext.length,.bool false,.bool false,.pointer (some ⟨w.heap.size,0,none⟩),.slice ac L.length cc,.int .i64 ↑L.length,.int .i64 ↑L.length,.bool false,u29,u30,u31,u32,u33,u34,u35,u36,u37,u38,u39,u40,u41,u42,u43,u44,u45,u46,u47,u48,u49,u50,u51,u52,u53,u54,u55,u56,u57,u58,.pointer (some ⟨w.heap.size,2,none⟩),.slice (some ⟨b,o,none⟩) s.ext.length ce,.int .i64 ↑s.ext.length,.int .i64 (↑j+1),u63,u64,u65,u66,u67,u68,u69,u70,u71,u72,u73,u74,u75,u76,u77,u78,u79,u80,u81,u82,u83,u84,u85,u86,u87,u88,u89,v 0,v 1,v 2,v 3,v 4,v 5,v 6,v 7,v 8,v 9,v 10,v 11,v 12,v 13,v 14,v 15,v 16,u107],[]⟩) [.bool true,.bool false,.bool false,.int .i64 ((j:Int)+1),.bool true,.bool true,.pointer (some ⟨w.heap.size,2,none⟩),.slice (some ⟨b,o,none⟩) s.ext.length ce,.int .i64 ((j:Int)+1),.int .i64 (j:Int),.pointer (some ⟨b,o+j*3,none⟩),bZ x,bZ y,.int .i64 (gV x y),.bool bd,.bool bd,.bool bd] (λW=>W.cell? ⟨w.heap.size,2,none⟩=some (.slice (some ⟨b,o,none⟩) s.ext.length ce)/\W.cell? ⟨b,o+j*3,none⟩=some (.int .i64 x.day)/\W.cell? ⟨b,o+j*3+1,none⟩=some (.int .i64 x.frm)/\W.cell? ⟨b,o+j*3+2,none⟩=some (.int .i64 x.fin)/\W.cell? ⟨wr.heap.size,0,none⟩=some (.int .i64 y.day)/\W.cell? ⟨wr.heap.size,1,none⟩=some (.int .i64 y.frm)/\W.cell? ⟨wr.heap.size,2,none⟩=some (.int .i64 y.fin)) (λW hb=>⟨al.cell hb s0,al.cell hb p0,al.cell hb p1,al.cell hb p2,al.cell hb x0,al.cell hb x1,al.cell hb x2⟩) ?steps ?fin (λj=>match j with|0=>u90|1=>u91|2=>u92|3=>u93|4=>u94|5=>u95|6=>u96|7=>u97|8=>u98|9=>u99|10=>u100|11=>u101|12=>u102|13=>u103|14=>u104|15=>u105|16=>u106|_=>undef)
   case steps=>
    refine .c [] rfl ?_ (.c [0] rfl ?_ (.c [1] rfl ?_ (.c [2] rfl ?_ (.c [2,3] rfl ?_ (.c [2,4] rfl ?_ (.c [5] rfl ?_ (.c [5,6] rfl ?_ (.c [5] rfl ?_ (.c [5,8] rfl ?_ (.c [5,7,9] rfl ?_ (.c [5,10] rfl ?_ (.c [5] rfl ?_ (.c [5,11,12] rfl ?_ (.c [5,13] rfl ?_ (.c [2,5,14] rfl ?_ (.c [2,15] rfl ?_ (.n)))))))))))))))));all_goals try exact kq
    all_goals
     rintro v W hb ⟨g3,g4,g5,g6,g0,g1,g2⟩;refine .inl ⟨rfl,λK hK=>?_⟩;simp only [ov,aD,Nat.reduceBEq,cond_true,cond_false];go_wp2_with (go_at_call 50;(with_reducible refine (Lc.o _).mono ?_);rintro e w9 ⟨rfl,bg⟩);exact aU (hK w9 bg) (by simp [ov,aD])
   case fin=>
    rintro W3 hb3 ⟨g3,g4,g5,g6,g0,g1,g2⟩;show wpList _ _ _ [] _ _;simp only [aD];clear Oh;cases bd
    .go_wp2
     go_roundw
     .refine ⟨j+1+1,aa,by go_num,ad λi hi=>?_,Et HE.o hb3,ad (eY.o.below hb3)⟩;by_cases gD:i<j+1
      .exact St.o i gD
      obtain rfl:i=j+1:=aa;refine ⟨by rw [HY.o];exact RV.o,λj' e=>?_⟩;obtain rfl:j'=j:=aa;rw [HY.o,Hd.o];refine Classical.byContradiction λh=>?_;have:=ur_ h;rw [sq.o] at this;exact absurd this aF
     simp [intOf];omega
    go_wp2
    go_ret;refine ⟨bT (wy λg=>?_).symm,Et HE.o hb3⟩;have g3:=(g.ext (j+1) hlt).2 j rfl;rw [HY.o,Hd.o] at g3;have:=uq_ g3;rw [sq.o] at this;exact absurd this aF
 obtain rfl:k=s.ext.length:=aa;go_wp2;go_ret;refine ⟨bT (yV.2 ⟨by have:=fD.o;omega,px.o,aa,λi hi=>KI.o i (by have:=fD.o;omega),St.o⟩).symm,xE⟩
def z0_ (fb bb:Nat) (x jn:ai) (found:Bool) (w:World) (e:Ending) (w':World):Prop:=
 e=.returned (.tuple #[])/\∃ best' found',af w' fb #[.bool found'] 4/\af w' bb #[.int .i64 best'.day,.int .i64 best'.frm,.int .i64 best'.fin] 46/\aN (λk=>k≠fb/\k≠bb) w w'/\w.heap.size<=w'.heap.size/\w'.os=w.os/\w'.tape=w.tape/\w'.output=w.output/\
  (((found=false\/bK x jn)/\best'=x/\found'=true)\/((found=true/\¬ bK x jn)/\best'=jn/\found'=found))
theorem VI {fb bb:Nat} (vf:Value) (x y z:Value) (hb:Below w.heap.size w W):aN (λk=>k≠fb/\k≠bb) w ((((W.setCell ⟨bb,0,none⟩ x).setCell ⟨bb,1,none⟩ y).setCell ⟨bb,2,none⟩ z).setCell ⟨fb,0,none⟩ vf):=λb h hl=>
 ((((Below.heap_setCell _ ⟨fb,0,none⟩ vf b h.1).trans (Below.heap_setCell _ ⟨bb,2,none⟩ z b h.2)).trans (Below.heap_setCell _ ⟨bb,1,none⟩ y b h.2)).trans (Below.heap_setCell _ ⟨bb,0,none⟩ x b h.2)).trans (hb.block b hl)
theorem wC {b:Nat} {x y z x' y' z':Value} {t:TypeId} (h:af W b #[x,y,z] t):af (((W.setCell ⟨b,0,none⟩ x').setCell ⟨b,1,none⟩ y').setCell ⟨b,2,none⟩ z') b #[x',y',z'] t:=by
 have h1:=br 2 z' (br 1 y' (br 0 x' h));simpa [af] using h1
theorem WH (fb bb:Nat) (x jn:ai) (found:Bool) (w:World) (hne:fb≠bb) (hf:af w fb #[.bool found] 4) (hb:af w bb #[.int .i64 jn.day,.int .i64 jn.frm,.int .i64 jn.fin] 46) :
  Calls Tryz.prog 60 #[bZ x,.pointer (some ⟨fb,0,none⟩),.pointer (some ⟨bb,0,none⟩)] w (z0_ fb bb x jn found w):=by
 have HO:=λW=>VQ x jn W;obtain ⟨xd,xf,xt⟩:=x;obtain ⟨yd,yf,yt⟩:=jn;show Calls _ _ #[.agg #[.int .i64 xd,.int .i64 xf,.int .i64 xt],_,_] _ _;change ∀ W,Calls _ _ #[.agg #[.int .i64 xd,.int .i64 xf,.int .i64 xt],.agg #[.int .i64 yd,.int .i64 yf,.int .i64 yt]] _ _ at HO;have HF:=ad hf;have HB:=ad hb;have f0:=(hf.cells 0).1;have lf:=hf.lt;have lb:=hb.lt;have NJ:Below w.heap.size w (w.alloc (.cells #[.int .i64 xd,.int .i64 xf,.int .i64 xt] 46)):=Ea (Er w) _;cases found with
 | false=>
  have jB:=ad (hf.alloc (.cells #[.int .i64 xd,.int .i64 xf,.int .i64 xt] 46));have iL:=ad (hb.alloc (.cells #[.int .i64 xd,.int .i64 xf,.int .i64 xt] 46));have k0:=(jB.o.cells 0).1;have k1:=(jB.o.cells 0).2;have b0:=(iL.o.cells 0).1;have b1:=(iL.o.cells 1).1;have b2:=(iL.o.cells 2).1;have c0:=(iL.o.cells 0).2;have c1:=(iL.o.cells 1).2;have c2:=(iL.o.cells 2).2;have HE:=ad NJ;have d0:=(hb.cells 0).1;have d1:=(hb.cells 1).1;have d2:=(hb.cells 2).1;have e0:=(hb.cells 0).2;have e1:=(hb.cells 1).2;have e2:=(hb.cells 2).2;have f1:=(hf.cells 0).2;clear HO hf hb NJ
  go_in
  go_wp2_with fail
  go_end0
  refine ⟨rfl,⟨xd,xf,xt⟩,true,?_,?_,λb h hl=>(Below.heap_alloc _ _ _ (by simp [World.size_setCell];exact hl)).trans (VI _ _ _ _ (Below.refl _ _) b h hl),by simp [World.size_setCell],rfl,rfl,rfl,.inl ⟨.inl rfl,rfl,rfl⟩⟩
  .exact af.alloc (br 0 _ (((HF.o.setNe _ hne).setNe _ hne).setNe _ hne)) _
  exact af.alloc ((wC HB.o).setNe _ hne.symm) _
 | true=>
  have HO:=ad HO;obtain ⟨bt,uR⟩:∃ bt,decide (gV ⟨xd,xf,xt⟩ ⟨yd,yf,yt⟩<0)=bt:=⟨_,rfl⟩;have xQ:=ad uR;have b0:=(hb.cells 0).1;have b1:=(hb.cells 1).1;have b2:=(hb.cells 2).1;clear hf hb NJ;cases bt
  .go_in
   go_wp2_with (go_at_call 50;refine (HO.o _).mono ?_;rintro e w1 ⟨rfl,hb1⟩;have HE:=ad (Et (Ea (Er w) _) hb1);clear hb1)
   go_end0
   refine ⟨rfl,⟨yd,yf,yt⟩,true,HF.o.below HE.o,HB.o.below HE.o,λk h hl=>HE.o.block k hl,HE.o.size,HE.o.os,HE.o.tape,HE.o.output,.inr ⟨⟨rfl,λh=>?_⟩,rfl,rfl⟩⟩;exact of_decide_eq_false xQ.o (Qs.2 h)
  go_in
  go_wp2_with (go_at_call 50;refine (HO.o _).mono ?_;rintro e w1 ⟨rfl,hb1⟩;have hE:=Et (Ea (Er w) _) hb1;have HE:=ad hE;have HX:=ad (af.below (af.at (w:=w) rfl:af (w.alloc (.cells #[.int .i64 xd,.int .i64 xf,.int .i64 xt] 46)) w.heap.size #[.int .i64 xd,.int .i64 xf,.int .i64 xt] 46) hb1);have x0:=(HX.o.cells 0).1;have x1:=(HX.o.cells 1).1;have x2:=(HX.o.cells 2).1;have jB:=ad (HF.o.below hE);have iL:=ad (HB.o.below hE);have k0:=(jB.o.cells 0).1;have k1:=(jB.o.cells 0).2;have b0:=(iL.o.cells 0).1;have b1:=(iL.o.cells 1).1;have b2:=(iL.o.cells 2).1;have c0:=(iL.o.cells 0).2;have c1:=(iL.o.cells 1).2;have c2:=(iL.o.cells 2).2;clear hb1 hE)
  go_end0
  refine ⟨rfl,⟨xd,xf,xt⟩,true,?_,?_,VI _ _ _ _ HE.o,by simp [World.size_setCell];exact HE.o.size,HE.o.os,HE.o.tape,HE.o.output,.inl ⟨.inr (Qs.1 (of_decide_eq_true xQ.o)),rfl,rfl⟩⟩
  .exact br 0 _ (((jB.o.setNe _ hne).setNe _ hne).setNe _ hne)
  exact (wC iL.o).setNe _ hne.symm
structure ub (w:World) (sb rb bb fb:Nat) (cv ev:Value) (len:Int) (x:ai) (b:Bool) (W:World):Prop where
 below:Below w.heap.size w W
 sbx:af W sb #[cv,.int .i64 len,ev] 43
 rbx:af W rb #[.int .i64 0,.int .i64 0,.int .i64 0] 46
 bbx:af W bb #[.int .i64 x.day,.int .i64 x.frm,.int .i64 x.fin] 46
 fbx:af W fb #[.bool b] 4
theorem ub.ext {sb rb bb fb:Nat} {x:ai} (h:ub w sb rb bb fb cv ev len x b W) (hb:Below W.heap.size W W'):ub w sb rb bb fb cv ev len x b W':=
 ⟨Et h.below hb,h.sbx.below hb,h.rbx.below hb,h.bbx.below hb,h.fbx.below hb⟩
theorem ub.take {sb rb bb fb:Nat} {x:ai} {x':ai} {b':Bool} (h:ub w sb rb bb fb cv ev len x b W) (h1:w.heap.size<=fb) (h2:w.heap.size<=bb) (n1:sb≠fb) (n2:sb≠bb) (n3:rb≠fb) (n4:rb≠bb)
  (hf:af W' fb #[.bool b'] 4) (hb:af W' bb #[.int .i64 x'.day,.int .i64 x'.frm,.int .i64 x'.fin] 46) (hk:aN (λk=>k≠fb/\k≠bb) W W') (hs:W.heap.size<=W'.heap.size) (ho:W'.os=W.os) (ht:W'.tape=W.tape) (hu:W'.output=W.output):ub w sb rb bb fb cv ev len x' b' W':=
 ⟨h.below.trans ⟨ho,ht,hu,hs,λk eC=>hk k ⟨aa,aa⟩ (Nat.lt_of_lt_of_le eC h.below.size)⟩,(hk sb ⟨n1,n2⟩ h.sbx.lt).trans h.sbx,(hk rb ⟨n3,n4⟩ h.rbx.lt).trans h.rbx,hb,hf⟩
theorem df.from {S:ai->Prop} {g:Int} {x:ai} (h:df S f x b) (IY:∀ y,S y->(g<=y.frm↔f<=y.frm)):df S g x b:=by
 rcases h with ⟨rfl,h1,h2,h3⟩|⟨rfl,rfl,h1⟩
 .exact .inl ⟨rfl,h1,(IY x h1).2 h2,λy hy hf=>h3 y hy ((IY y hy).1 hf)⟩
 exact .inr ⟨rfl,rfl,λy hy hf=>h1 y hy ((IY y hy).1 hf)⟩
def oJ (s:aE) (k:Nat) (y:ai):Prop:=∃ j,j<k/\j<s.cls.length/\kE s (s.cls.getD j default) y/\y.fin<=2251799813685248
theorem wj_ {s:aE} {y:ai}:oJ s 0 y↔False:=by unfold oJ;simp
theorem P9 {s:aE} (hk:k<s.cls.length) {y:ai}:oJ s (k+1) y↔oJ s k y\/(kE s (s.cls.getD k default) y/\y.fin<=2251799813685248):=by
 unfold oJ;constructor
 .rintro ⟨j,h1,h2,h3⟩;by_cases e:j=k
  .subst e;exact .inr h3
  exact .inl ⟨j,aa,h2,h3⟩
 rintro (⟨j,h1,h2,h3⟩|h)
 .exact ⟨j,aa,h2,h3⟩
 exact ⟨k,aa,hk,h⟩
theorem z1_ {s:aE} {y:ai}:oJ s s.cls.length y↔∃ c∈s.cls,kE s c y/\y.fin<=2251799813685248:=by
 unfold oJ;constructor
 .rintro ⟨j,h1,h2,h3⟩;exact ⟨_,by rw [fG h2];exact List.getElem_mem h2,h3⟩
 rintro ⟨c,hc,h⟩;obtain ⟨j,hj,rfl⟩:=wt (d:=default) hc;exact ⟨j,hj,hj,h⟩
theorem wq_ {s:aE} {c:eA} {t:Int} {ok:Bool} (hne:∀ u∈c.days,u≠[]) (ht:t=max 0 ((f-c.min-1) / 1440+1)) (fA:1<=s.len) (hl2:s.len<=10080) (hm1:-4320<=c.min) (hN:dV cC (aT c.days) t d ok) :
  (ok=true/\d*1440+c.min+s.len<=2251799813685248->(kE s c (nP s c d)/\(nP s c d).fin<=2251799813685248)/\f<=(nP s c d).frm/\∀ y,kE s c y/\y.fin<=2251799813685248->f<=y.frm->¬ bK y (nP s c d))/\
  (ok=false\/¬ d*1440+c.min+s.len<=2251799813685248->∀ y,kE s c y/\y.fin<=2251799813685248->¬ f<=y.frm):=by
 have key:∀ y,kE s c y/\y.fin<=2251799813685248->f<=y.frm->t<=y.day/\y.day<=cC/\y.frm=y.day*1440+c.min/\y.fin=y.day*1440+c.min+s.len:=λy ⟨h1,h2⟩ h3=>by
  have h0:=H_ hne h1.1;have e:=h1.2;have e1:y.frm=y.day*1440+c.min:=congrArg ai.frm e;have e2:y.fin=y.day*1440+c.min+s.len:=congrArg ai.fin e;unfold cC;refine ⟨aa,aa,e1,e2⟩
 refine ⟨λ⟨h1,h2⟩=>?_,λh y hy hf=>?_⟩
 .rcases hN with ⟨_,g1,g2,g3,g4⟩|⟨h,_⟩
  .refine ⟨⟨⟨g3,rfl⟩,h2⟩,?_,λy hy hf hlt=>?_⟩
   .show f<=d*1440+c.min;omega
   obtain ⟨k1,k2,k3,k4⟩:=key y hy hf;have h5:¬ y.day<d:=λh=>g4 y.day k1 h hy.1.1;unfold bK nP at hlt;dsimp only at hlt;omega
  rw [h1] at h;cases h
 obtain ⟨k1,k2,k3,k4⟩:=key y hy hf;have:=hy.2;rcases hN with ⟨h1,g1,g2,g3,g4⟩|⟨_,_,g⟩
 .rcases h with h|h
  .rw [h1] at h;cases h
  have h5:¬ y.day<d:=λh=>g4 y.day k1 h hy.1.1;omega
 exact g y.day k1 k2 hy.1.1
theorem MB {s:aE} {y:ai}:gq s y↔oJ s s.cls.length y\/y∈s.ext:=by unfold gq;rw [z1_]
theorem bM.low {s:aE} (h:bM s) {y:ai} (hy:gq s y):-2251799813685248<=y.frm/\y.frm<2251799813685248:=by
 rcases hy with ⟨c,hc,ho,hf⟩|hy
 .have h0:=H_ (h.ne hc) ho.1;have h1:=h.min hc;have h2:=h.val.len;have e1:y.frm=y.day*1440+c.min:=congrArg ai.frm ho.2;have e2:y.fin=y.day*1440+c.min+s.len:=congrArg ai.fin ho.2;omega
 have:=h.val.ins hy;unfold j9 at this;omega
theorem bM.next {s:aE} (h:bM s) {f':Int} (hf:max f (-2251799813685248)=f') {x:ai} (hN:df (λy=>oJ s s.cls.length y\/y∈s.ext) f' x b):df (gq s) f x b:=
 df.from (hN.congr λy=>MB) λy hy=>by have:=h.low hy;omega
def Zz (S:ai->Prop) (f:Int) (w:World) (sb rb bb fb:Nat) (cv ev:Value) (len:Int) (W:World):Prop:=∃ x b,df S f x b/\ub w sb rb bb fb cv ev len x b W
theorem Iq (F:Nat->Prop) (cv ev:Value) (s:aE) (f:Int) (w:World) (h:bq w F cv ev s) (gR:bM s) (hf:aP f) :
  Calls Tryz.prog 30 #[.agg #[cv,.int .i64 s.len,ev],.int .i64 f] w λe w'=>∃ x b,e=.returned (.tuple #[bZ x,.bool b])/\df (gq s) f x b/\Below w.heap.size w w':=by
 obtain ⟨gh,hf2⟩:=hf;have HV:=λW (hb:Below w.heap.size w W)=>Bs F cv ev s W (h.ext hb);rw [yV.2 gR.val] at HV;obtain ⟨L,h⟩:=h;have ni:s.cls.length=L.length:=by rw [<- h.eq];exact List.length_map _
 obtain ⟨ac,cc,rfl⟩:=h.cl.form;obtain ⟨ae,ce,rfl⟩:=h.ex.form;have fA:=h.cl.len;have hl2:=h.ex.len;obtain ⟨Cf,Cg⟩:=gR.val.len;have HV:=ad HV;have oG:=ad h;have fU:=ad gR;have fD:=ad ni;clear h gR ni;by_cases hbig:2251799813685248<f
 .go_in
  go_wp2_with (go_at_call 23;refine (HV.o _ xE).mono ?_;rintro e w1 ⟨rfl,hb1⟩;have hx:=af.below (af.at (w:=w.alloc (.cells #[.slice ac L.length cc,.int .i64 s.len,.slice ae s.ext.length ce] 43)) (b:=w.heap.size+1) (c:=#[.int .i64 0,.int .i64 0,.int .i64 0]) (t:=46) ag) hb1;have x0:=(hx.cells 0).1;have x1:=(hx.cells 1).1;have x2:=(hx.cells 2).1;have y0:=(hx.cells 0).2;have y1:=(hx.cells 1).2;have y2:=(hx.cells 2).2)
  exact bodyPost_ret (v:=.tuple #[bZ ⟨0,0,0⟩,.bool false]) (by simp [results,Tryz.results30,go_sem,x0,x1,x2,y0,y1,y2]) rfl ⟨⟨0,0,0⟩,false,rfl,.inr ⟨rfl,rfl,λy hy hf=>by have:=fU.o.low hy;omega⟩,xE⟩
 have jP:f<=2251799813685248:=aa;have fR:decide ((2251799813685248:Int)<f)=false:=decide_eq_false hbig;obtain ⟨f',hf'⟩:∃ f',max f (-2251799813685248)=f':=⟨_,rfl⟩;have hfb:-2251799813685248<=f'/\f'<=2251799813685248:=aa;obtain ⟨hf3,hf4⟩:=hfb
 go_in
 go_wp2_with (go_at_call 23;refine (HV.o _ xE).mono ?_;rintro e w1 ⟨rfl,hb1⟩;have hW1:Below w.heap.size w w1:=Et (Ea (Ea (Er w) _) _) hb1;have Pq:=af.below ((af.at (w:=w) (b:=w.heap.size) (c:=#[.slice ac L.length cc,.int .i64 s.len,.slice ae s.ext.length ce]) (t:=43) rfl).alloc (.cells #[.int .i64 0,.int .i64 0,.int .i64 0] 46)) hb1;have eP:=af.below (af.at (w:=w.alloc (.cells #[.slice ac L.length cc,.int .i64 s.len,.slice ae s.ext.length ce] 43)) (b:=w.heap.size+1) (c:=#[.int .i64 0,.int .i64 0,.int .i64 0]) (t:=46) ag) hb1;have x0:=(Pq.cells 0).1;have hz1:w.heap.size+1<w1.heap.size:=(by have:=hb1.size;simp at this;omega);have hz0:w.heap.size<w1.heap.size:=aa;have Bj:=ad Pq;have Hf:=ad eP;have qD:=ad hW1;clear hb1 Pq eP hW1)
 have HST:Hid (ub w w.heap.size (w.heap.size+1) w1.heap.size (w1.heap.size+1) (.slice ac L.length cc) (.slice ae s.ext.length ce) s.len ⟨0,0,0⟩ false ((w1.alloc (.cells #[.int .i64 0,.int .i64 0,.int .i64 0] 46)).alloc (.cells #[.bool false] 4))):=
  ad ⟨Ea (Ea qD.o _) _,(Bj.o.alloc _).alloc _,(Hf.o.alloc _).alloc _,(af.at rfl).alloc _,af.at ag⟩
 have CU:=ad hf';have eg:∀ args w,(callFunc 60 args).run Tryz.prog w=.ok (.enter 60 args) w:=enters_of Tryz.func60 (by kernel_rfl) rfl;clear x0 fR hf';go_loopw [10,11,12,29] (λ_ _ _ vi wr=>∃ (k:Nat),k<=L.length/\vi=.int .i64 k/\Hid (Zz (oJ s k) f' w w.heap.size (w.heap.size+1) w1.heap.size (w1.heap.size+1) (.slice ac L.length cc) (.slice ae s.ext.length ce) s.len wr)) (λ_ _ _ vi _=>L.length-(intOf vi).toNat)
 .exact ⟨0,aa,rfl,ad ⟨⟨0,0,0⟩,false,df.start.congr λy=>wj_,HST.o⟩⟩
 obtain ⟨k,hk,rfl,⟨x,b,S6,BO⟩⟩:=hrel;have HN:=ad S6;have HS:=ad BO;clear S6 BO;have xx:=HS.o.below.size;have pT:=HS.o.bbx.lt;have xw:=HS.o.fbx.lt;by_cases hlt:k<L.length
 .have dh:(k:Int)<L.length:=aa;obtain ⟨b',o,a1,c1,m,mi,Od,dD,e0,e1,hm,oe,hcl⟩:=(oG.o.cl.keep (aN.below HS.o.below) HS.o.below.size).get hlt;subst Od;rw [oG.o.eq] at hcl;have hcm:(⟨m,mi⟩:eA)∈s.cls:=by rw [<- hcl,fG (by rw [fD.o];exact hlt)];exact List.getElem_mem _
  obtain ⟨lz,nj⟩:-4320<=mi/\mi<=4320:=fU.o.min hcm;have je:=ad (fU.o.mv _ hcm);have jE:=ad (fU.o.ne hcm);have dw:=ad hcl;obtain ⟨q,hq⟩:∃ q,(f' - mi-1) / 1440=q:=⟨_,rfl⟩;have eX:-4398046511104<=q:=aa;have ef:q<=4398046511104:=aa;obtain ⟨t,ht⟩:∃ t,max 0 (q+1)=t:=⟨_,rfl⟩;have Ge:0<=t/\t<=4398046511104:=aa;obtain ⟨oi,xq⟩:=Ge;obtain ⟨d,ok,hN⟩:=WB cC t (aT m);have mu:=ad (wq_ (s:=s) (c:=⟨m,mi⟩) (f:=f') jE.o (by rw [<- ht,<- hq]) Cf Cg lz hN);go_upto_region 10 with (fail)
  generalize hW:wr.alloc _=w2;have cz:Below wr.heap.size wr w2:=by rw [<- hW];exact xE
  have hbx:af w2 wr.heap.size #[.slice a1 m.length c1,.int .i64 mi] 59:=by rw [<- hW];exact af.at rfl
  have x0:=(hbx.cells 0).1;have x1:=(hbx.cells 1).1;have cw:=ad hbx;have dM:=ad (HS.o.ext cz);have kt:=λW=>D_ (f' - mi-1) W ⟨aa,aa⟩;rw [hq] at kt;have kt:=ad kt;have dZ:=ad (λW (g:Below w2.heap.size w2 W)=>Wz 0 _ (.slice a1 m.length c1) m t d ok W ((hm.ext cz).ext g) je.o ⟨aa,aa⟩ oi hN);rw [<- ht] at dZ;have Hj:=ad ht;have R_:=ad hN;have HQ:=ad hq;clear hW hbx hm e0 e1 cz hcm hcl oe hN hq dD ht;refine jZ (w0:=w2) [0,1,2,3,4,5,6,7,8,9,10,11,12,13,14,15] [] (λv=>⟨#[.agg #[.slice (some ⟨b',o,none⟩) L.length cc,.int .i64 s.len,.slice ae s.ext.length ce],.int .i64 f',.pointer (some ⟨w.heap.size,0,none⟩),undef,.pointer (some ⟨w.heap.size+1,0,none⟩),.bool false,.pointer (some ⟨w1.heap.size,0,none⟩),.pointer (some ⟨w1.heap.size+1,0,none⟩),.func (Fn.func 60) #[] #[.pointer (some ⟨w1.heap.size+1,0,none⟩),.pointer (some ⟨w1.heap.size,0,none⟩)],undef,.pointer (some ⟨wr.heap.size,0,none⟩),v 14,v 15,undef,undef,.agg #[.slice (some ⟨b',o,none⟩) L.length cc,.int .i64 s.len,.slice ae s.ext.length ce],.bool true,.bool false,.bool false,.int .i64 f,.bool false,.bool false,undef,.int .i64 f,.int .i64 f',.func (Fn.func 60) #[] #[.pointer (some ⟨w1.heap.size+1,0,none⟩),.pointer (some ⟨w1.heap.size,0,none⟩)],.pointer (some ⟨w.heap.size,0,none⟩),.slice (some ⟨b',o,none⟩) L.length cc,.int .i64 ↑L.length,.int .i64 ↑k,.bool true,.pointer (some ⟨b',o+k*2,none⟩),.agg #[.slice a1 m.length c1,.int .i64 mi],v 11,v 0,v 1,v 2,v 3,v 4,v 5,v 6,v 7,v 8,v 9,v 10,v 12,v 13,u47,u48,u49,u50,u51,u52,u53,u54,u55,u56,u57,u58,u59,u60,undef,undef,undef,undef,undef,undef,undef,undef,undef,undef,undef,undef,undef,undef,undef,undef,undef,undef],[]⟩) [.pointer (some ⟨wr.heap.size,0,none⟩),.agg #[.slice a1 m.length c1],.int .i64 f',.pointer (some ⟨wr.heap.size,1,none⟩),.int .i64 mi,.int .i64 (f' - mi),.int .i64 (f' - mi-1),.int .i64 q,.int .i64 (q+1),.int .i64 (max 0 (q+1)),.tuple #[.int .i64 d,.bool ok],.tuple #[.int .i64 d,.bool ok],.int .i64 d,.bool ok,.int .i64 d,.bool ok] (λW=>W.cell? ⟨wr.heap.size,0,none⟩=some (.slice a1 m.length c1)/\W.cell? ⟨wr.heap.size,1,none⟩=some (.int .i64 mi)/\Below w2.heap.size w2 W) (λW hb=>⟨al.cell hb x0,al.cell hb x1,hb⟩) ?steps ?fin (λj=>match j with|0=>u34|1=>u35|2=>u36|3=>u37|4=>u38|5=>u39|6=>u40|7=>u41|8=>u42|9=>u43|10=>u44|11=>u33|12=>u45|13=>u46|14=>u11|15=>u12|_=>undef)
  case steps=>
   refine .c [] rfl ?_ (.c [0] rfl ?_ (.c [] rfl ?_ (.c [] rfl ?_ (.c [3] rfl ?_ (.c [2,4] rfl ?_ (.c [5] rfl ?_ (.c [6] rfl ?_ (.c [7] rfl ?_ (.c [8] rfl ?_ (.c [1,9] rfl ?_ (.c [10] rfl ?_ (.c [11] rfl ?_ (.c [11] rfl ?_ (.c [12] rfl ?_ (.c [13] rfl ?_ (.n))))))))))))))));all_goals try exact kq
   all_goals
    rintro v W hb ⟨g0,g1,g2⟩;refine .inl ⟨rfl,λK hK=>?_⟩;simp only [ov,aD,Nat.reduceBEq,cond_true,cond_false];go_wp2_with (first|(go_at_call 62;(with_reducible refine (kt.o _).mono ?_);rintro e w9 ⟨rfl,h9⟩;have bg:Below W.heap.size W w9:=h9 ▸ Below.refl _ _;clear h9)|(go_at_call 61;(with_reducible refine (dZ.o _ g2).mono ?_);rintro e w9 ⟨rfl,bg⟩));exact aU (hK w9 bg) (by simp [ov,aD])
  case fin=>
   rintro W3 hb3 ⟨g0,g1,g2⟩;show wpList _ _ _ [] _ _;simp only [aD];have fx:=ad (dM.o.ext hb3);have cm:=ad hb3;have mh:=(fx.o.sbx.cells 0).1;have s9:=(fx.o.sbx.cells 1).1;have F6:=(fx.o.sbx.cells 2).1;have lU:=ad (λW (hd:aP d)=>Vm (some ⟨b',o,none⟩) ae a1 L.length cc s.ext.length ce m.length c1 s.len mi d W Cf Cg lz nj hd);have BS:aP d:=by
    rcases R_.o with ⟨_,g1,g2,_⟩|⟨_,g,_⟩
    .have:d<=1152921504606846976:=g2;exact ⟨aa,aa⟩
    subst g;exact ⟨aa,aa⟩
   have lU:=ad (λW=>lU.o W BS);have HDI:=ad BS;clear BS;have y0:=((cw.o.below hb3).cells 0).1;have y1:=((cw.o.below hb3).cells 1).1;cases ok with
   | false=>
    have rM:=HN.o.none (T:=λy=>kE s ⟨m,mi⟩ y/\y.fin<=2251799813685248) (mu.o.2 (.inl rfl));have Dn:=ad rM;clear rM;go_wp2;go_roundw
    .exact ⟨_,_,_,_,⟨k+1,aa,by go_num,ad ⟨x,b,Dn.o.congr λy=>by rw [P9 (by rw [fD.o];exact hlt),dw.o],fx.o⟩⟩,rfl,rfl,rfl,rfl⟩
    simp [intOf];omega
   | true=>
    by_cases hT:d*1440+mi+s.len<=2251799813685248
    .have lU:=lU.o;rw [decide_eq_true hT] at lU;have lU:=ad lU;have zQ:0<=d:=by
      rcases R_.o with ⟨_,g1,_⟩|⟨h,_⟩
      .omega
      cases h
     have dL:=ad (λW=>Ux (some ⟨b',o,none⟩) ae a1 L.length cc s.ext.length ce m.length c1 s.len mi d W Cf Cg lz nj aa aa);have qh:=ad (mu.o.1 ⟨rfl,hT⟩);clear g0 g1 g2 x0 x1;go_wp2_with (first|(go_at_call 63;refine (lU.o _).mono ?_;rintro e w4 ⟨rfl,hb4⟩;have cD:=ad hb4;have rf:=fx.o.ext hb4;have kW:=ad rf;have z0:=(rf.sbx.cells 0).1;have z1:=(rf.sbx.cells 1).1;have z2:=(rf.sbx.cells 2).1;have fS:=(cw.o.below cm.o).below hb4;have y0:=(fS.cells 0).1;have y1:=(fS.cells 1).1;clear hb4 rf fS)|(go_at_call 64;refine (dL.o _).mono ?_;rintro e w5 ⟨rfl,hb5⟩;have Tb:=kW.o.ext hb5;have nH:=ad Tb;clear hb5 Tb)|(go_at_fn 60;(refine (WH (w1.heap.size+1) w1.heap.size (nP s ⟨m,mi⟩ d) x b _ aa nH.o.fbx nH.o.bbx).mono ?_);rintro e w6 ⟨rfl,x',b2,hfb,dD,wW,hsz,ho,ht,hu,hres⟩;have kC:=ad (nH.o.take (x':=x') (b':=b2) aa aa aa aa aa aa hfb dD wW hsz ho ht hu);have Lv:=ad hres;clear hfb dD wW hsz ho ht hu hres));go_roundw
     .have hc:=qh.o;have key:df (λy=>oJ s k y\/(kE s ⟨m,mi⟩ y/\y.fin<=2251799813685248)) f' x' b2:=by
       rcases Lv.o with ⟨h1,rfl,rfl⟩|⟨⟨rfl,h2⟩,rfl,rfl⟩
       .exact HN.o.take hc.2.1 h1 ⟨hc.1,hc.2.2⟩
       exact HN.o.pass ⟨rfl,h2⟩ hc.2.2
      have AP:=key.congr (T:=oJ s (k+1)) λy=>by rw [P9 (by rw [fD.o];exact hlt),dw.o]
      (repeat apply Exists.intro)
      refine ⟨⟨k+1,aa,?num,ad ⟨x',b2,AP,kC.o⟩⟩,?eqs⟩
      case eqs=>repeat' (first|exact rfl|refine ⟨rfl,?_⟩)
      case num=>go_num
     simp [intOf];omega
    have lU:=lU.o;rw [decide_eq_false hT] at lU;have lU:=ad lU;have rM:=HN.o.none (T:=λy=>kE s ⟨m,mi⟩ y/\y.fin<=2251799813685248) (mu.o.2 (.inr hT));have Dn:=ad rM;clear rM g0 g1 g2 x0 x1;go_wp2_with (go_at_call 63;refine (lU.o _).mono ?_;rintro e w4 ⟨rfl,hb4⟩;have cD:=ad hb4;have rf:=fx.o.ext hb4;have kW:=ad rf;have z0:=(rf.sbx.cells 0).1;have z1:=(rf.sbx.cells 1).1;have z2:=(rf.sbx.cells 2).1;have fS:=(cw.o.below cm.o).below hb4;have y0:=(fS.cells 0).1;have y1:=(fS.cells 1).1;clear hb4 rf fS);go_roundw
    ·(repeat apply Exists.intro)
     refine ⟨⟨k+1,aa,?num,ad ⟨x,b,Dn.o.congr λy=>by rw [P9 (by rw [fD.o];exact hlt),dw.o],kW.o⟩⟩,?eqs⟩
     case eqs=>repeat' (first|exact rfl|refine ⟨rfl,?_⟩)
     case num=>go_num
    simp [intOf];omega
 obtain rfl:k=L.length:=aa;have fM:¬ (L.length:Int)<L.length:=aa;have q2:=(HS.o.sbx.cells 2).1;have K5:=ad (show df (oJ s s.cls.length) f' x b by rw [fD.o];exact HN.o);go_wp2_with fail;clear fM q2 HN;go_loopw [14,64] (λ_ vi wr=>∃ (k:Nat),k<=s.ext.length/\vi=.int .i64 k/\Hid (∀ j,j<k->(s.ext.getD j default).frm<f')/\Hid (ub w w.heap.size (w.heap.size+1) w1.heap.size (w1.heap.size+1) (.slice ac L.length cc) (.slice ae s.ext.length ce) s.len x b wr)) (λ_ vi _=>s.ext.length-(intOf vi).toNat)
 .exact ⟨0,aa,rfl,ad (by intro j hj;omega),by first|exact HS|exact ad (HS.o.ext xE)⟩
 obtain ⟨k,hk,rfl,b6,HS⟩:=hrel;have xx:=HS.o.below.size;have pT:=HS.o.bbx.lt;have xw:=HS.o.fbx.lt;by_cases hlt:k<s.ext.length
 .have dh:(k:Int)<s.ext.length:=aa;obtain ⟨b',o,y,Fb,dD,hy,oo,e0,e1,e2⟩:=(oG.o.ex.keep (aN.below HS.o.below) HS.o.below.size).get hlt;subst Fb;have HY:=ad hy;clear hy oo;have cz:Below wr.heap.size wr (wr.alloc (.cells #[.int .i64 y.day,.int .i64 y.frm,.int .i64 y.fin] 46)):=Ea (Er wr) _;have dM:=ad (HS.o.ext cz);clear cz;by_cases hge:f'<=y.frm
  .have OE:=ul_ fU.o.val hlt (f:=f') (by rw [HY.o];exact hge) b6.o;rw [HY.o] at OE;have RQ:=ad OE;have qt:=ad (show y∈s.ext by rw [<- HY.o,fG hlt];exact List.getElem_mem hlt);clear OE;go_upto_region 20 with (go_at_fn 60;(refine (WH (w1.heap.size+1) w1.heap.size y x b _ aa dM.o.fbx dM.o.bbx).mono ?_);rintro e w6 ⟨rfl,x',b2,hfb,dD,wW,hsz,ho,ht,hu,hres⟩;have kC:=ad (dM.o.take (x':=x') (b':=b2) aa aa aa aa aa aa hfb dD wW hsz ho ht hu);have Lv:=ad hres;clear hfb dD wW hsz ho ht hu hres)
   have mz:=ad (fU.o.next CU.o (x:=x') (b:=b2) (by
    rcases Lv.o with ⟨h1,rfl,rfl⟩|⟨⟨rfl,h2⟩,rfl,rfl⟩
    .exact K5.o.take hge h1 ⟨qt.o,RQ.o⟩
    exact K5.o.pass ⟨rfl,h2⟩ RQ.o))
   have k0:=(kC.o.bbx.cells 0).1;have k1:=(kC.o.bbx.cells 1).1;have k2:=(kC.o.bbx.cells 2).1;have k3:=(kC.o.fbx.cells 0).1;have k4:=(kC.o.rbx.cells 0).1;have k5:=(kC.o.rbx.cells 1).1;have k6:=(kC.o.rbx.cells 2).1;have j4:=(kC.o.rbx.cells 0).2;have j5:=(kC.o.rbx.cells 1).2;have j6:=(kC.o.rbx.cells 2).2;have hbl:=kC.o.below
   go_region
   all_goals
    go_wp2_with fail
    have c0:af _ _ _ 46:=br 0 (.int .i64 x'.day) kC.o.rbx;have c1:af _ _ _ 46:=br 1 (.int .i64 x'.frm) c0;have c2:af _ _ _ 46:=br 2 (.int .i64 x'.fin) c1;have s0:=(c0.cells 0).1;have s1:=(c1.cells 1).1;have s2:=(c2.cells 2).1;exact bodyPost_ret (v:=.tuple #[bZ x',.bool b2]) (by simp [results,Tryz.results30,go_sem,s0,s1,s2,bZ]) rfl ⟨x',b2,rfl,mz.o,xE⟩
  go_wp2
  go_roundw
  .exact ⟨k+1,aa,by go_num,ad λj hj=>by
   by_cases e:j<k
   .exact b6.o j e
   obtain rfl:j=k:=aa;rw [HY.o];omega,dM⟩
  simp [intOf];omega
 obtain rfl:k=s.ext.length:=aa;have mz:=ad (fU.o.next CU.o (x:=x) (b:=b) (K5.o.none λy hy hf=>by
  obtain ⟨j,hj,rfl⟩:=wt (d:=default) hy;have:=b6.o j hj;omega))
 go_upto_region 20 with (fail)
 have k0:=(HS.o.bbx.cells 0).1;have k1:=(HS.o.bbx.cells 1).1;have k2:=(HS.o.bbx.cells 2).1;have k3:=(HS.o.fbx.cells 0).1;have k4:=(HS.o.rbx.cells 0).1;have k5:=(HS.o.rbx.cells 1).1;have k6:=(HS.o.rbx.cells 2).1;have j4:=(HS.o.rbx.cells 0).2;have j5:=(HS.o.rbx.cells 1).2;have j6:=(HS.o.rbx.cells 2).2;have hbl:=HS.o.below
 go_region
 all_goals
  go_wp2_with fail
  have c0:af _ _ _ 46:=br 0 (.int .i64 x.day) HS.o.rbx;have c1:af _ _ _ 46:=br 1 (.int .i64 x.frm) c0;have c2:af _ _ _ 46:=br 2 (.int .i64 x.fin) c1;have s0:=(c0.cells 0).1;have s1:=(c1.cells 1).1;have s2:=(c2.cells 2).1;exact bodyPost_ret (v:=.tuple #[bZ x,.bool b]) (by simp [results,Tryz.results30,go_sem,s0,s1,s2,bZ]) rfl ⟨x,b,rfl,mz.o,xE⟩
theorem Ie (d:Int) (w:World) (h1:-4611686018427387904<=d) (h2:d<=4611686018427387904) :
  Calls Tryz.prog 71 #[.int .i64 d] w λe w'=>e=.returned (.int .i64 (d % 7))/\w=w':=by
 have hr:=JF d 7 aF;have hq:=Int.mul_tdiv_add_tmod d 7;obtain ⟨r,Jk⟩:∃ r,d.tmod 7=r:=⟨_,rfl⟩;have hb:-7<r/\r<7:=by
  have:=Int.tmod_lt_of_pos d (show (0:Int)<7 by decide);have:=hr.2.2;omega
 have hf:(r+7).tmod 7=d % 7:=by
  rw [Int.tmod_eq_emod_of_nonneg aa];rw [Jk] at hq;omega
 obtain ⟨b1,b2⟩:=hb;have HF:=ad hf
 go_in
 go_wp2;go_ret;exact ⟨rfl,rfl⟩
theorem Ih (n:Int) (w:World) (h1:-4611686018427387904<=n) (h2:n<=4611686018427387904) :
  Calls Tryz.prog 70 #[.int .i64 n] w λe w'=>e=.returned (.int .i64 (n / 1440))/\w=w':=by
 by_cases h:n<0
 .have hq:-((-n+1440-1).tdiv 1440)=n / 1440:=by rw [Int.tdiv_eq_ediv_of_nonneg aa];omega
  have hb:0<=(-n+1440-1).tdiv 1440/\(-n+1440-1).tdiv 1440<=4611686018427387904:=by rw [Int.tdiv_eq_ediv_of_nonneg aa];omega
  obtain ⟨b1,b2⟩:=hb;have HQ:=ad hq;clear hq
  go_in
  go_wp2;go_ret;rw [HQ.o];exact ⟨rfl,rfl⟩
 have hq:n.tdiv 1440=n / 1440:=by rw [Int.tdiv_eq_ediv_of_nonneg aa]
 have hb:0<=n.tdiv 1440/\n.tdiv 1440<=4611686018427387904:=by rw [Int.tdiv_eq_ediv_of_nonneg aa];omega
 obtain ⟨b1,b2⟩:=hb;have HQ:=ad hq;clear hq
 go_in
 go_wp2;go_ret;rw [HQ.o];exact ⟨rfl,rfl⟩
theorem sm_ (x y:ai) (w:World) :
  Calls Tryz.prog 46 #[bZ x,bZ y] w λe w'=>∃ b:Bool,e=.returned (.bool b)/\(b=true↔bK x y)/\Below w.heap.size w w':=by
 obtain ⟨xd,xf,xt⟩:=x;obtain ⟨yd,yf,yt⟩:=y;show Calls _ _ #[.agg #[.int .i64 xd,.int .i64 xf,.int .i64 xt],.agg #[.int .i64 yd,.int .i64 yf,.int .i64 yt]] _ _;obtain ⟨B,hB⟩:∃ B:Bool,(B=true↔bK ⟨xd,xf,xt⟩ ⟨yd,yf,yt⟩):=by
  by_cases h:bK ⟨xd,xf,xt⟩ ⟨yd,yf,yt⟩
  .exact ⟨true,λ_=>h,λ_=>rfl⟩
  exact ⟨false,λe=>(by cases e),λe=>absurd e h⟩
 have key:Calls Tryz.prog 46 #[.agg #[.int .i64 xd,.int .i64 xf,.int .i64 xt],.agg #[.int .i64 yd,.int .i64 yf,.int .i64 yt]] w λe w'=>e=.returned (.bool B)/\Below w.heap.size w w':=by
  have HB:=ad hB;clear hB;by_cases h1:xf=yf
  .by_cases h2:xd<yd
   .go_in
    go_wp2;go_ret;exact ⟨bT (Eq.symm (HB.o.2 (by unfold bK;simp only;omega))),xE⟩
   by_cases h3:xd=yd
   .go_in
    go_wp2;go_ret;exact ⟨bT (by rw [Bool.eq_iff_iff,HB.o,decide_eq_true_iff];unfold bK;simp only;omega),xE⟩
   go_in
   go_wp2;go_ret;exact ⟨bT (Eq.symm (by rw [Bool.eq_false_iff];intro h;have:=HB.o.1 h;unfold bK at this;simp only at this;omega)),xE⟩
  go_in
  go_wp2;go_ret;exact ⟨bT (by rw [Bool.eq_iff_iff,HB.o,decide_eq_true_iff];unfold bK;simp only;omega),xE⟩
 exact key.mono λe w' h=>⟨B,h.1,hB,h.2⟩
def iU (len:Int) (l:List ai):Int:=l.foldl (λa x=>max a (x.fin-x.frm)) len
theorem sx_ {l:List ai} (h:k<l.length):iU len (l.take (k+1))=max (iU len (l.take k)) ((l.getD k default).fin-(l.getD k default).frm):=by
 unfold iU;rw [List.take_succ_eq_append_getElem h,List.foldl_append,fG h];rfl
theorem q7_ (F:Nat->Prop) (cv ev:Value) (s:aE) (w:World) (h:bq w F cv ev s) (gR:bM s) :
  Calls Tryz.prog 38 #[.agg #[cv,.int .i64 s.len,ev]] w λe w'=>e=.returned (.int .i64 (iU s.len s.ext))/\Below w.heap.size w w':=by
 have h:=h.lt;obtain ⟨L,h⟩:=h;obtain ⟨a1,c1,rfl⟩:=h.cl.form;obtain ⟨a2,c2,rfl⟩:=h.ex.form;have hl2:=h.ex.len;obtain ⟨Cf,Cg⟩:=gR.val.len;have oG:=ad h;have fU:=ad gR;clear h gR
 go_in
 go_wp2
 go_loopw [3,5,11] (λv _ vi wr=>∃ k:Nat,k<=s.ext.length/\vi=.int .i64 k/\v=.int .i64 (iU s.len (s.ext.take k))/\Hid (0<=iU s.len (s.ext.take k)/\iU s.len (s.ext.take k)<=10080)/\Hid (Below w.heap.size w wr)) (λ_ _ vi _=>s.ext.length-(intOf vi).toNat)
 .exact ⟨0,aa,rfl,rfl,ad ⟨by show 0<=s.len;omega,by show s.len<=10080;omega⟩,ad xE⟩
 obtain ⟨k,hk,rfl,rfl,HG,HB⟩:=hrel;have xx:=HB.o.size;by_cases hlt:k<s.ext.length
 .have dh:(k:Int)<s.ext.length:=aa;obtain ⟨b',o,y,Fb,dD,hy,oo,e0,e1,e2⟩:=(oG.o.below HB.o).ex.get hlt;subst Fb;have hg:=fU.o.val.ins (x:=y) (by rw [<- hy,fG hlt];exact List.getElem_mem hlt);obtain ⟨_,⟨g1,g2⟩,g3,g4⟩:=hg;have HT:=ad (sx_ (len:=s.len) hlt);rw [hy] at HT;obtain ⟨m,hm⟩:∃ m,iU s.len (s.ext.take k)=m:=⟨_,rfl⟩;rw [hm] at HT HG ⊢;obtain ⟨m1,m2⟩:=HG.o;clear hy oo hm;go_wp2;go_roundw
  .exact ⟨k+1,aa,by go_num,by rw [HT.o],ad (by rw [HT.o];omega),ad (by have:=HB.o;exact xE)⟩
  simp [intOf];omega
 obtain rfl:k=s.ext.length:=aa;go_wp2;go_ret;rw [List.take_length];exact ⟨rfl,HB.o⟩
theorem P4 (x y:ai) (w:World) :
  Calls Tryz.prog 47 #[bZ x,bZ y] w λe w'=>e=.returned (.bool (decide (bK x y)))/\Below w.heap.size w w':=by
 obtain ⟨xd,xf,xt⟩:=x;obtain ⟨yd,yf,yt⟩:=y;show Calls _ _ #[.agg #[.int .i64 xd,.int .i64 xf,.int .i64 xt],.agg #[.int .i64 yd,.int .i64 yf,.int .i64 yt]] _ _;obtain ⟨B,hB⟩:∃ B:Bool,decide (bK ⟨xd,xf,xt⟩ ⟨yd,yf,yt⟩)=B:=⟨_,rfl⟩;rw [hB];have nU:B=true↔(xf<yf\/(xf=yf/\(xd<yd\/(xd=yd/\xt<yt)))):=by rw [<- hB,decide_eq_true_iff];rfl
 have HB:=ad nU;clear hB nU;by_cases h1:xf=yf
 .by_cases h2:xd=yd
  .go_in
   go_wp2;go_ret;exact ⟨bT (by rw [Bool.eq_iff_iff,HB.o,decide_eq_true_iff];omega),xE⟩
  go_in
  go_wp2;go_ret;exact ⟨bT (by rw [Bool.eq_iff_iff,HB.o,decide_eq_true_iff];omega),xE⟩
 go_in
 go_wp2;go_ret;exact ⟨bT (by rw [Bool.eq_iff_iff,HB.o,decide_eq_true_iff];omega),xE⟩
theorem zj (x y:ai) (W:World):(binOp .eql 46 (bZ x) (bZ y)).run Tryz.prog W=.ok (.bool (decide (x=y))) W:=by
 have e:decide (x=y)=(decide (x.day=y.day) && (decide (x.frm=y.frm) && decide (x.fin=y.fin))):=by
  rw [Bool.eq_iff_iff];simp only [Bool.and_eq_true,decide_eq_true_eq];exact ⟨λh=>by subst h;exact ⟨rfl,rfl,rfl⟩,λh=>ai.ext' h.1 h.2.1 h.2.2⟩
 rw [e];simp [go_sem];by_cases h1:x.day=y.day <;> by_cases h2:x.frm=y.frm <;> by_cases h3:x.fin=y.fin <;> simp [h1,h2,h3]
def tv_ (lv:Value) (l:List ai) (x:ai) (w:World) (e:Ending) (w':World):Prop:=
 Below w.heap.size w w'/\∃ v',e=.returned v'/\((x∈l/\v'=lv)\/(x ∉ l/\e_ w.heap.size (λ_=>False) w' v' (dj l x)))
theorem Ev {b:Nat} {c:Array Value} {t:TypeId} (h:af W b c t):∀ j u,c.toList[j]? = some u->W.cell? ⟨b,j,none⟩=some u:=λj u hu=>by
 rw [(h.cells j).1,<- hu];simp
def yr_ (lv:Value) (l:List ai) (x:ai) (w:World) (e:Ending) (w':World):Prop:=tv_ lv l x w e w'
theorem sr_ (F:Nat->Prop) (lv:Value) (l:List ai) (x:ai) (w:World) (h:b_ w F lv l) (hx:qG x) (hl:l.length<=1000) :
  Calls Tryz.prog 43 #[lv,bZ x] w (yr_ lv l x w):=by
 obtain ⟨a1,c1,rfl⟩:=h.form;have HE:=ad h;have Ss:=ad hx;obtain ⟨iI,T9,T_,Ua,Ub⟩:=Xe;have HI:=ad (And.intro T9 (And.intro T_ (And.intro Ua Ub)));clear h hx T9 T_ Ua Ub;have ky:=ad (λy W=>P4 x y W);obtain ⟨xd,xf,xt⟩:=x;show Calls _ _ #[_,.agg #[.int .i64 xd,.int .i64 xf,.int .i64 xt]] _ _
 go_in
 go_wp2_with fail
 have Fo:af (w.alloc (.cells #[.int .i64 xd,.int .i64 xf,.int .i64 xt] 46)) w.heap.size #[.int .i64 xd,.int .i64 xf,.int .i64 xt] 46:=af.new _ _ _;have cw:=ad Fo;have eW:e_ (w.heap.size+1) (λ_=>False) ((w.alloc (.cells #[.int .i64 xd,.int .i64 xf,.int .i64 xt] 46)).alloc (.cells #[] 46)) (.slice (some ⟨w.heap.size+1,0,none⟩) 0 0) []:=
  ⟨⟨rfl,.inr ⟨w.heap.size+1,0,#[],rfl,Nat.le_refl _,by rw [show w.heap.size+1=(w.alloc (.cells #[.int .i64 xd,.int .i64 xf,.int .i64 xt] 46)).heap.size by simp];exact World.alloc_heap_new _ _,Nat.le_refl _,by simp [maxLen],rfl,rfl⟩⟩,ag,λ_ _ h=>h,ag⟩
 have Do:=ad eW;clear Fo eW;go_loopw [5,6,7] (λov dv iv wr=>∃ (k:Nat) (done:Bool) (out:List ai),k<=l.length/\iv=.int .i64 k/\dv=.bool done/\out.length<=k+1/\Hid (gK l ⟨xd,xf,xt⟩ k done out)/\Hid (e_ (w.heap.size+1) (λ_=>False) wr ov out)/\Hid (Below (w.heap.size+1) (w.alloc (.cells #[.int .i64 xd,.int .i64 xf,.int .i64 xt] 46)) wr)) (λ_ _ iv _=>l.length-(intOf iv).toNat)
 .exact ⟨0,false,[],aa,rfl,rfl,ag,ad (gK.start _ _),Do,ad ((Ea (Er _) _).mono ag)⟩
 obtain ⟨k,done,out,hk,rfl,rfl,hol,HP,HO,HB⟩:=hrel;obtain ⟨oa,oc,rfl,-⟩:=HO.o.form;have hxb:af wr w.heap.size #[.int .i64 xd,.int .i64 xf,.int .i64 xt] 46:=cw.o.upto HB.o aa;have x0:=(hxb.cells 0).1;have x1:=(hxb.cells 1).1;have x2:=(hxb.cells 2).1;have sH:=ad hxb;have bH:Hid (Below w.heap.size w wr):=ad ((Ea (Er w) _).trans (HB.o.mono aa));have hwr:=hxb.lt;clear hxb;by_cases hlt:k<l.length
 .have dh:(k:Int)<l.length:=aa;obtain ⟨b,o,y,rfl,hbl,hy,oo,e0,e1,e2⟩:=HE.o.get hlt;have HY:=ad hy;have L5:=ad oo;obtain ⟨yd,yf,yt⟩:=y;dsimp only at e0 e1 e2;have CG:=ad (λW (hb:Below w.heap.size w W)=>And.intro (al.cell hb e0) (And.intro (al.cell hb e1) (al.cell hb e2)));clear e0 e1 e2;obtain ⟨e0,e1,e2⟩:=CG.o _ bH.o;obtain ⟨E,hE⟩:∃ E:Bool,decide ((⟨yd,yf,yt⟩:ai)=⟨xd,xf,xt⟩)=E:=⟨_,rfl⟩;have oC:=ad hE;have heq:=λW=>zj ⟨yd,yf,yt⟩ ⟨xd,xf,xt⟩ W;rw [hE] at heq;clear hE hy oo;go_upto_region 6 with (fail)
  refine jZ (w0:=wr) [0,1,2,3,4,5] [] (λv=>⟨#[.slice (some ⟨b,o,none⟩) l.length c1,.agg #[.int .i64 xd,.int .i64 xf,.int .i64 xt],undef,.pointer (some ⟨w.heap.size,0,none⟩),u4,.slice oa out.length oc,.bool done,.int .i64 ↑k,.slice (some ⟨w.heap.size+1,0,none⟩) 0 0,.int .i64 ↑k,.slice (some ⟨b,o,none⟩) l.length c1,.int .i64 ↑l.length,.bool true,u13,u14,v 0,v 1,v 2,v 3,v 4,v 5,u21,u22,u23,u24,u25,u26,u27,u28,u29,u30,u31,u32,u33,u34,u35,u36,u37,u38,u39,u40,u41,u42,undef,undef,undef,undef,undef,undef,undef],[]⟩) [.slice (some ⟨b,o,none⟩) l.length c1,.int .i64 k,.pointer (some ⟨b,o+k*3,none⟩),.agg #[.int .i64 yd,.int .i64 yf,.int .i64 yt],.agg #[.int .i64 xd,.int .i64 xf,.int .i64 xt],.bool E] (λW=>W.cell? ⟨b,o+k*3,none⟩=some (Value.int .i64 yd)/\W.cell? ⟨b,o+k*3+1,none⟩=some (Value.int .i64 yf)/\W.cell? ⟨b,o+k*3+2,none⟩=some (Value.int .i64 yt)/\W.cell? ⟨w.heap.size,0,none⟩=some (Value.int .i64 xd)/\W.cell? ⟨w.heap.size,1,none⟩=some (Value.int .i64 xf)/\W.cell? ⟨w.heap.size,2,none⟩=some (Value.int .i64 xt)) (λW hb=>⟨al.cell hb e0,al.cell hb e1,al.cell hb e2,al.cell hb x0,al.cell hb x1,al.cell hb x2⟩) ?steps ?fin (λj=>match j with|0=>u15|1=>u16|2=>u17|3=>u18|4=>u19|5=>u20|_=>undef)
  case steps=>
   refine .c [] rfl ?_ (.c [] rfl ?_ (.c [0,1] rfl ?_ (.c [2] rfl ?_ (.c [] rfl ?_ (.c [3,4] rfl ?_ (.n))))));all_goals try exact kq
  case fin=>
   rintro W6 bD ⟨g0,g1,g2,g3,g4,g5⟩;show wpList _ _ _ [] _ _;simp only [aD];have bO:=ad bD;clear bD e0 e1 e2 x0 x1 x2;cases E
   .have hne:l.getD k default≠⟨xd,xf,xt⟩:=by rw [HY.o];exact of_decide_eq_false oC.o
    have jE:=ad hne;clear hne;cases done
    .obtain ⟨E2,cz⟩:∃ E:Bool,decide (bK ⟨xd,xf,xt⟩ ⟨yd,yf,yt⟩)=E:=⟨_,rfl⟩;have lQ:=ad cz;have Df:=ad (λW=>ky.o ⟨yd,yf,yt⟩ W);rw [cz] at Df;have e0:=g0;have e1:=g1;have e2:=g2;have x0:=g3;have x1:=g4;have x2:=g5;clear g0 g1 g2 g3 g4 g5 cz;go_upto_region 8 with (fail)
     refine jZ (w0:=W6) [0,1,2,3,4,5,6,7,8,9] [] (λv=>⟨#[.slice (some ⟨b,o,none⟩) l.length c1,.agg #[.int .i64 xd,.int .i64 xf,.int .i64 xt],undef,.pointer (some ⟨w.heap.size,0,none⟩),u4,.slice oa out.length oc,.bool false,.int .i64 ↑k,.slice (some ⟨w.heap.size+1,0,none⟩) 0 0,.int .i64 ↑k,.slice (some ⟨b,o,none⟩) l.length c1,.int .i64 ↑l.length,.bool true,u13,u14,.slice (some ⟨b,o,none⟩) l.length c1,.int .i64 ↑k,.pointer (some ⟨b,o+k*3,none⟩),.agg #[.int .i64 yd,.int .i64 yf,.int .i64 yt],.agg #[.int .i64 xd,.int .i64 xf,.int .i64 xt],.bool false,u21,v 0,v 1,v 2,v 3,v 4,v 5,v 6,v 7,v 8,v 9,u32,u33,u34,u35,u36,u37,u38,u39,u40,u41,u42,undef,undef,undef,undef,undef,undef,undef],[]⟩) [.bool false,.bool true,.bool true,.agg #[.int .i64 xd,.int .i64 xf,.int .i64 xt],.slice (some ⟨b,o,none⟩) l.length c1,.int .i64 k,.pointer (some ⟨b,o+k*3,none⟩),.agg #[.int .i64 yd,.int .i64 yf,.int .i64 yt],.bool E2,.bool E2] (λW=>W.cell? ⟨b,o+k*3,none⟩=some (Value.int .i64 yd)/\W.cell? ⟨b,o+k*3+1,none⟩=some (Value.int .i64 yf)/\W.cell? ⟨b,o+k*3+2,none⟩=some (Value.int .i64 yt)/\W.cell? ⟨w.heap.size,0,none⟩=some (Value.int .i64 xd)/\W.cell? ⟨w.heap.size,1,none⟩=some (Value.int .i64 xf)/\W.cell? ⟨w.heap.size,2,none⟩=some (Value.int .i64 xt)) (λW hb=>⟨al.cell hb e0,al.cell hb e1,al.cell hb e2,al.cell hb x0,al.cell hb x1,al.cell hb x2⟩) ?stepsB ?finB (λj=>match j with|0=>u22|1=>u23|2=>u24|3=>u25|4=>u26|5=>u27|6=>u28|7=>u29|8=>u30|9=>u31|_=>undef)
     case stepsB=>
      refine .c [] rfl ?_ (.c [0] rfl ?_ (.c [1] rfl ?_ (.c [2] rfl ?_ (.c [2] rfl ?_ (.c [2] rfl ?_ (.c [2,4,5] rfl ?_ (.c [2,6] rfl ?_ (.c [2,3,7] rfl ?_ (.c [2,8] rfl ?_ (.n))))))))));all_goals try exact kq
      all_goals
       rintro v W hb ⟨g0,g1,g2,g3,g4,g5⟩;refine .inl ⟨rfl,λK hK=>?_⟩;simp only [ov,aD,Nat.reduceBEq,cond_true,cond_false];go_wp2_with (go_at_call 47;(with_reducible refine (Df.o _).mono ?_);rintro e w9 ⟨rfl,bg⟩);exact aU (hK w9 bg) (by simp [ov,aD])
     case finB=>
      rintro W7 dW ⟨g0,g1,g2,g3,g4,g5⟩;show wpList _ _ _ [] _ _;simp only [aD];have gF:=ad (HB.o.trans ((Et bO.o dW).mono aa));have iq:=ad (aV.below j7 HO.o (Et bO.o dW));have b6:=ad (show k+1<=l.length by omega);clear dW hlt;cases E2
      .have nE:=ad (HP.o.next (by have:=b6.o;omega) jE.o (.inr (by rw [HY.o];exact of_decide_eq_false lQ.o)));rw [HY.o] at nE;clear g3 g4 g5;go_wp2_with (at_builtin;(refine nK az _ _ _ _ az iI _ 3 24 Tryz.underlying41 HI.o.1 HI.o.2.1 HI.o.2.2.1 HI.o.2.2.2 rfl aF aF (w.heap.size+1) (.slice oa out.length oc) (out.length) ((out).flatMap cV) (cV (⟨yd,yf,yt⟩:ai)) rfl az (aV.below j7 iq.o (Ea (Er _) _)).row W7.heap.size 1 az (Ev (af.new W7 #[.int .i64 yd,.int .i64 yf,.int .i64 yt] 46)) (by simp [cV,Value.oneCell']) aa (by rw [World.size_alloc];have:=gF.o.size;simp at this;omega) ?_);intro v' w9 au aq aK;obtain ⟨na,nc,rfl⟩:=k_ au;have kU:=ad (aV.push (y:=(⟨yd,yf,yt⟩:ai)) j7 (aV.below j7 iq.o (Ea (Er _) _)) L5.o au aq aK (λh=>h) aa);have jc:=ad ((gF.o.alloc (by have:=gF.o.size;simp at this;omega) _).grown aq (by rw [World.size_alloc];have:=gF.o.size;simp at this;omega) λq e=>(iq.o.row.lt q e).1);clear au aq aK);go_roundw
       .exact ⟨k+1,false,out ++ [⟨yd,yf,yt⟩],b6.o,by go_num,rfl,aO,nE,kU,jc⟩
       have:=b6.o;simp [intOf];omega
      have nE:=ad (HP.o.here (by have:=b6.o;omega) jE.o (by rw [HY.o];exact of_decide_eq_true lQ.o));rw [HY.o] at nE;go_upto_region 11 with (at_builtin;(refine nK az _ _ _ _ az iI _ 3 24 Tryz.underlying41 HI.o.1 HI.o.2.1 HI.o.2.2.1 HI.o.2.2.2 rfl aF aF (w.heap.size+1) (.slice oa out.length oc) (out.length) ((out).flatMap cV) (cV (⟨xd,xf,xt⟩:ai)) rfl az (aV.below j7 iq.o (Ea (Er _) _)).row W7.heap.size 1 az (Ev (af.new W7 #[.int .i64 xd,.int .i64 xf,.int .i64 xt] 46)) (by simp [cV,Value.oneCell']) aa (by rw [World.size_alloc];have:=gF.o.size;simp at this;omega) ?_);intro v' W8 au aq aK;obtain ⟨na,nc,rfl⟩:=k_ au;have Bb:=ad (aV.push (y:=(⟨xd,xf,xt⟩:ai)) j7 (aV.below j7 iq.o (Ea (Er _) _)) Ss.o au aq aK (λh=>h) aa);have gG:=ad ((gF.o.alloc (by have:=gF.o.size;simp at this;omega) _).grown aq (by rw [World.size_alloc];have:=gF.o.size;simp at this;omega) λq e=>(iq.o.row.lt q e).1);clear au aq aK)
      have Fj:Below w.heap.size w W8:=(Ea (Er w) _).trans (gG.o.mono aa);obtain ⟨e0,e1,e2⟩:=CG.o _ Fj;clear g0 g1 g2 g3 g4 g5 Fj;go_wp2_with (at_builtin;(refine nK az _ _ _ _ az iI _ 3 24 Tryz.underlying41 HI.o.1 HI.o.2.1 HI.o.2.2.1 HI.o.2.2.2 rfl aF aF (w.heap.size+1) (.slice na (out.length+1) nc) ((out ++ [(⟨xd,xf,xt⟩:ai)]).length) ((out ++ [(⟨xd,xf,xt⟩:ai)]).flatMap cV) (cV (⟨yd,yf,yt⟩:ai)) rfl az (aV.below j7 Bb.o (Ea (Er _) _)).row W8.heap.size 1 az (Ev (af.new W8 #[.int .i64 yd,.int .i64 yf,.int .i64 yt] 46)) (by simp [cV,Value.oneCell']) aO (by rw [World.size_alloc];have:=gG.o.size;simp at this;omega) ?_);intro v' w9 au aq aK;obtain ⟨na2,nc2,rfl⟩:=k_ au;have kU:=ad (aV.push (y:=(⟨yd,yf,yt⟩:ai)) j7 (aV.below j7 Bb.o (Ea (Er _) _)) L5.o au aq aK (λh=>h) aO);have jc:=ad ((gG.o.alloc (by have:=gG.o.size;simp at this;omega) _).grown aq (by rw [World.size_alloc];have:=gG.o.size;simp at this;omega) λq e=>(Bb.o.row.lt q e).1);clear au aq aK);go_roundw
      .have Jg:out.length<=k:=by have h1:=HP.o.out;rw [if_neg ag] at h1;rw [h1,List.length_take];omega
       exact ⟨k+1,true,out ++ [⟨xd,xf,xt⟩] ++ [⟨yd,yf,yt⟩],b6.o,by go_num,rfl,aO,nE,ad (by have h2:=kU.o;rw [List.length_append,List.length_singleton] at h2;exact h2),jc⟩
      have:=b6.o;simp [intOf];omega
    have e0:=g0;have e1:=g1;have e2:=g2;have x0:=g3;have x1:=g4;have x2:=g5;clear g0 g1 g2 g3 g4 g5;go_upto_region 8 with (fail)
    refine jZ (w0:=W6) [0,1,2,3,4,5,6,7,8,9] [] (λv=>⟨#[.slice (some ⟨b,o,none⟩) l.length c1,.agg #[.int .i64 xd,.int .i64 xf,.int .i64 xt],undef,.pointer (some ⟨w.heap.size,0,none⟩),u4,.slice oa out.length oc,.bool true,.int .i64 ↑k,.slice (some ⟨w.heap.size+1,0,none⟩) 0 0,.int .i64 ↑k,.slice (some ⟨b,o,none⟩) l.length c1,.int .i64 ↑l.length,.bool true,u13,u14,.slice (some ⟨b,o,none⟩) l.length c1,.int .i64 ↑k,.pointer (some ⟨b,o+k*3,none⟩),.agg #[.int .i64 yd,.int .i64 yf,.int .i64 yt],.agg #[.int .i64 xd,.int .i64 xf,.int .i64 xt],.bool false,u21,v 0,v 1,v 2,v 3,v 4,v 5,v 6,v 7,v 8,v 9,u32,u33,u34,u35,u36,u37,u38,u39,u40,u41,u42,undef,undef,undef,undef,undef,undef,undef],[]⟩) [.bool true,.bool false,.bool false,undef,undef,undef,undef,undef,undef,.bool false] (λW=>W.cell? ⟨b,o+k*3,none⟩=some (Value.int .i64 yd)/\W.cell? ⟨b,o+k*3+1,none⟩=some (Value.int .i64 yf)/\W.cell? ⟨b,o+k*3+2,none⟩=some (Value.int .i64 yt)/\W.cell? ⟨w.heap.size,0,none⟩=some (Value.int .i64 xd)/\W.cell? ⟨w.heap.size,1,none⟩=some (Value.int .i64 xf)/\W.cell? ⟨w.heap.size,2,none⟩=some (Value.int .i64 xt)) (λW hb=>⟨al.cell hb e0,al.cell hb e1,al.cell hb e2,al.cell hb x0,al.cell hb x1,al.cell hb x2⟩) ?stepsA ?finA (λj=>match j with|0=>u22|1=>u23|2=>u24|3=>u25|4=>u26|5=>u27|6=>u28|7=>u29|8=>u30|9=>u31|_=>undef)
    case stepsA=>
     refine .c [] rfl ?_ (.c [0] rfl ?_ (.c [1] rfl ?_ (.c [2] rfl ?_ (.c [2] rfl ?_ (.c [2] rfl ?_ (.c [2,4,5] rfl ?_ (.c [2,6] rfl ?_ (.c [2,3,7] rfl ?_ (.c [2,8] rfl ?_ (.n))))))))));all_goals try exact kq
    case finA=>
     rintro W7 dW ⟨g0,g1,g2,g3,g4,g5⟩;show wpList _ _ _ [] _ _;simp only [aD];have gF:=ad (HB.o.trans ((Et bO.o dW).mono aa));have iq:=ad (aV.below j7 HO.o (Et bO.o dW));have b6:=ad (show k+1<=l.length by omega);clear dW hlt g3 g4 g5;have nE:=ad (HP.o.next (by have:=b6.o;omega) jE.o (.inl rfl));rw [HY.o] at nE;go_wp2_with (at_builtin;(refine nK az _ _ _ _ az iI _ 3 24 Tryz.underlying41 HI.o.1 HI.o.2.1 HI.o.2.2.1 HI.o.2.2.2 rfl aF aF (w.heap.size+1) (.slice oa out.length oc) (out.length) ((out).flatMap cV) (cV (⟨yd,yf,yt⟩:ai)) rfl az (aV.below j7 iq.o (Ea (Er _) _)).row W7.heap.size 1 az (Ev (af.new W7 #[.int .i64 yd,.int .i64 yf,.int .i64 yt] 46)) (by simp [cV,Value.oneCell']) aa (by rw [World.size_alloc];have:=gF.o.size;simp at this;omega) ?_);intro v' w9 au aq aK;obtain ⟨na,nc,rfl⟩:=k_ au;have kU:=ad (aV.push (y:=(⟨yd,yf,yt⟩:ai)) j7 (aV.below j7 iq.o (Ea (Er _) _)) L5.o au aq aK (λh=>h) aa);have jc:=ad ((gF.o.alloc (by have:=gF.o.size;simp at this;omega) _).grown aq (by rw [World.size_alloc];have:=gF.o.size;simp at this;omega) λq e=>(iq.o.row.lt q e).1);clear au aq aK);go_roundw
     .exact ⟨k+1,true,out ++ [⟨yd,yf,yt⟩],b6.o,by go_num,rfl,aO,nE,kU,jc⟩
     have:=b6.o;simp [intOf];omega
   have jT:Hid ((⟨xd,xf,xt⟩:ai)∈l):=ad (by
    have h1:l.getD k default=⟨xd,xf,xt⟩:=by rw [HY.o];exact of_decide_eq_true oC.o
    rw [<- h1,fG hlt];exact List.getElem_mem hlt)
   have Ke:=ad (Et bH.o bO.o);clear g0 g1 g2 g3 g4 g5;go_wp2;go_ret;exact ⟨Ke.o,_,rfl,.inl ⟨jT.o,rfl⟩⟩
 obtain rfl:k=l.length:=aa;obtain ⟨fm,kM⟩:=HP.o.done;have AZ:=ad fm;have oA:=ad kM;clear fm kM;cases done
 .go_wp2_with (at_builtin;(refine nK az _ _ _ _ az iI _ 3 24 Tryz.underlying41 HI.o.1 HI.o.2.1 HI.o.2.2.1 HI.o.2.2.2 rfl aF aF (w.heap.size+1) (.slice oa out.length oc) (out.length) ((out).flatMap cV) (cV (⟨xd,xf,xt⟩:ai)) rfl az (aV.below j7 HO.o (Ea (Er _) _)).row wr.heap.size 1 az (Ev (af.new wr #[.int .i64 xd,.int .i64 xf,.int .i64 xt] 46)) (by simp [cV,Value.oneCell']) aa (by rw [World.size_alloc];have:=HB.o.size;simp at this;omega) ?_);intro v' w9 au aq aK;obtain ⟨na,nc,rfl⟩:=k_ au;have kU:=ad (aV.push (y:=(⟨xd,xf,xt⟩:ai)) j7 (aV.below j7 HO.o (Ea (Er _) _)) Ss.o au aq aK (λh=>h) aa);have jc:=ad ((HB.o.alloc (by have:=HB.o.size;simp at this;omega) _).grown aq (by rw [World.size_alloc];have:=HB.o.size;simp at this;omega) λq e=>(HO.o.row.lt q e).1);clear au aq aK)
  go_ret;refine ⟨(Ea (Er w) _).trans (jc.o.mono aa),_,rfl,.inr ⟨AZ.o,?_⟩⟩;rw [oA.o];exact kU.o.base j7 aa
 go_wp2
 go_ret;refine ⟨bH.o,_,rfl,.inr ⟨AZ.o,?_⟩⟩;rw [oA.o];exact HO.o.base j7 aa
end
end Go.Proofs.YtbmgmlbmgogeaaaGreat
end
