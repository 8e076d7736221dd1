/- Part 7 of the proof of the laws. -/
import Derived.Test.YtbmgmlbmgogeaaaGreatW6
import Derived.Deep.Slices
import Derived.Deep.Strs
import Derived.ChangeSame
import Derived.Maps.AppendAt
import Derived.Test.YtbmgmlbmgogeaaaGreatW2
import Derived.Deep.Cut
import Derived.Deep.CutBlock
import Derived.Deep.DeepCutAuto
set_option linter.unusedVariables false
set_option linter.unusedSimpArgs false
set_option maxRecDepth 100000
set_option maxHeartbeats 4000000
set_option linter.defProp false
abbrev q8t:=@List.filter_sublist
abbrev NH:=@of_decide_eq_false
section
variable {b:Bool}{a d e f i len s:Int}{m:List (List Kal.Per)}{l ml:List Int}{L:List Go.Proofs.YtbmgmlbmgogeaaaGreat.PV}{B c k n:Nat}{cv v:Go.Value}{A C W W' w:Go.World}
namespace Kal
section
structure ai where
 day:Int
 frm:Int
 fin:Int
instance:Inhabited ai:=⟨⟨0,0,0⟩⟩
structure ey where
 days:List (List Per)
 min:Int
instance:Inhabited ey:=⟨⟨[],0⟩⟩
structure aE where
 cls:List ey
 len:Int
 ext:List ai
instance:Inhabited aE:=⟨⟨[],0,[]⟩⟩
theorem ai.ext' {x y:ai} (h1:x.day=y.day) (h2:x.frm=y.frm) (h3:x.fin=y.fin):x=y:=by
 cases x;cases y;simp_all
def bo (x y:ai):Prop:=x.frm<y.frm\/(x.frm=y.frm/\(x.day<y.day\/(x.day=y.day/\x.fin<y.fin)))
theorem bo.irrefl {x:ai}:¬ bo x x:=by unfold bo;omega
theorem bo.trans {x y z:ai} (h:bo x y) (g:bo y z):bo x z:=by unfold bo at *;omega
theorem bo.tri (x y:ai):bo x y\/x=y\/bo y x:=by
 by_cases h:x.frm=y.frm/\x.day=y.day/\x.fin=y.fin
 .exact .inr (.inl (ai.ext' h.2.1 h.1 h.2.2))
 unfold bo;omega
theorem bo.eq_of {x y:ai} (h:¬ bo x y) (g:¬ bo y x):x=y:=by
 rcases bo.tri x y with h1|h1|h1
 .exact absurd h1 h
 .exact h1
 exact absurd h1 g
noncomputable def dH (x y:ai):Int:=if x.frm<y.frm then -1 else if y.frm<x.frm then 1 else if x.day<y.day then -1 else if y.day<x.day then 1 else if x.fin<y.fin then -1 else if y.fin<x.fin then 1 else 0
theorem Ku {x y:ai}:dH x y<0↔bo x y:=by unfold dH bo;repeat' split <;> omega
theorem WE {x y:ai}:dH x y >= 0↔¬ bo x y:=by rw [<- Ku];omega
def eH (a b c d:Int):Prop:=a<d/\c<b
instance (a b c d:Int):Decidable (eH a b c d):=inferInstanceAs (Decidable (_/\_))
def j_ (x:ai):Prop:=(0<=x.day/\x.day<=1099511627776)/\(-2251799813685248<=x.frm/\x.frm<=1583296743997439)/\(x.frm+1<=x.fin/\x.fin<=x.frm+10080)
def Ia (val:List (List Per)->Bool) (l:List ey) (i:Nat):Prop:=val (l.getD i default).days=true/\(-4320<=(l.getD i default).min/\(l.getD i default).min<=4320)/\∀ j,i=j+1->(l.getD j default).min<(l.getD i default).min
def SK (l:List ai) (i:Nat):Prop:=j_ (l.getD i default)/\∀ j,i=j+1->bo (l.getD j default) (l.getD i default)
structure nE (val:List (List Per)->Bool) (s:aE):Prop where
 ncls:s.cls.length<=64
 len:1<=s.len/\s.len<=10080
 next:s.ext.length<=4096
 cls:∀ i,i<s.cls.length->Ia val s.cls i
 ext:∀ i,i<s.ext.length->SK s.ext i
open Classical in
noncomputable def H8 (val:List (List Per)->Bool) (s:aE):Bool:=decide (nE val s)
theorem xx {val:List (List Per)->Bool} {s:aE}:H8 val s=true↔nE val s:=by simp [H8]
theorem xF {val:List (List Per)->Bool} {s:aE} (h:¬ nE val s):H8 val s=false:=by simp [H8,h]
theorem fx {α:Type} {l:List α} {i:Nat} {d:α} (h:i<l.length):l.getD i d=l[i]:=by
 rw [VS,U2 h];rfl
theorem tu {α:Type} {l:List α} {d x:α} (h:x∈l):∃ i,i<l.length/\l.getD i d=x:=by
 obtain ⟨i,hi,rfl⟩:=MA.1 h;exact ⟨i,hi,fx hi⟩
theorem nE.ins {val:List (List Per)->Bool} {s:aE} (h:nE val s) {x:ai} (hx:x∈s.ext):j_ x:=by
 obtain ⟨i,hi,rfl⟩:=tu (d:=default) hx;exact (h.ext i hi).1
theorem nE.cl {val:List (List Per)->Bool} {s:aE} (h:nE val s) {c:ey} (hc:c∈s.cls):val c.days=true/\-4320<=c.min/\c.min<=4320:=by
 obtain ⟨i,hi,rfl⟩:=tu (d:=default) hc;exact ⟨(h.cls i hi).1,(h.cls i hi).2.1⟩
theorem nE.rise {val:List (List Per)->Bool} {s:aE} (h:nE val s):∀ {i j:Nat},i<j->j<s.ext.length->bo (s.ext.getD i default) (s.ext.getD j default):=by
 intro i j gq;induction j with
 | zero=>omega
 | succ j ih=>
  intro hj;have h1:=(h.ext (j+1) hj).2 j rfl;by_cases e:i=j
  .subst e;exact h1
  exact (ih ad ad).trans h1
def lM (s:aE) (c:ey) (d:Int):ai:=⟨d,d*1440+c.min,d*1440+c.min+s.len⟩
def Hy (s:aE) (c:ey) (d:Int):Prop:=d*1440+c.min+s.len<=2251799813685248
def kX (s:aE) (c:ey) (x:ai):Prop:=aW c.days x.day/\x=lM s c x.day
def Z3 (s:aE) (x:ai):Prop:=∃ c∈s.cls,kX s c x
def iN (s:aE) (x:ai):Prop:=(∃ c∈s.cls,kX s c x/\x.fin<=2251799813685248)\/x∈s.ext
theorem E5 (hne:∀ t∈m,t≠[]) {n:Int} (h:aW m n):0<=n:=by
 obtain ⟨t,ht,h⟩:=h;obtain ⟨p,hp⟩:=List.exists_mem_of_ne_nil t (hne t ht);exact (h p hp).1
def fD (s:aE) (c:ey) (a b:Int) (d:Int):Prop:=aW c.days d/\Hy s c d/\a<d*1440+c.min+s.len/\d*1440+c.min<b
structure xN (S:Int->Prop) (l:List Int):Prop where
 rise:l.Pairwise (· < ·)
 all:∀ d∈l,S d
 low:∀ d e,S d->e∈l->d<=e->d∈l
structure Z2 (S:Int->Prop) (l:List Int):Prop where
 rise:l.Pairwise (· < ·)
 iff:∀ d,d∈l↔S d
theorem xN.nil {S:Int->Prop}:xN S []:=⟨.nil,aj,aj⟩
theorem xN.snoc {S:Int->Prop} (h:xN S l) (hl:∀ e∈l,e<f) (hs:∀ x,S x->x<f->x∈l) (hf:f<=d) (hd:S d) (hn:∀ x,f<=x->x<d->¬ S x):xN S (l ++ [d]):=by
 refine ⟨N9.2 ⟨h.rise,q8x _ _,λa ha b hb=>?_⟩,λx hx=>?_,λx e hx he hle=>?_⟩
 .obtain rfl:b=d:=by simpa using hb
  have:=hl a ha;omega
 .rcases VJ.1 hx with hx|hx
  .exact h.all x hx
  obtain rfl:x=d:=by simpa using hx
  exact hd
 rcases XD x d with h1|h1|h1
 .by_cases h2:x<f
  .exact MK _ (hs x hx h2)
  exact absurd hx (hn x ad h1)
 .subst h1;simp
 rcases VJ.1 he with he|he
 .have:=hl e he;omega
 obtain rfl:e=d:=by simpa using he
 omega
def ez (S:ai->Prop) (f:Int) (x:ai) (b:Bool):Prop:=(b=true/\S x/\f<=x.frm/\∀ y,S y->f<=y.frm->¬ bo y x)\/(b=false/\x=⟨0,0,0⟩/\∀ y,S y->¬ f<=y.frm)
theorem ez.unique {S:ai->Prop} {x y:ai} {c:Bool} (h:ez S f x b) (g:ez S f y c):x=y/\b=c:=by
 rcases h with ⟨rfl,h1,h2,h3⟩|⟨rfl,rfl,h1⟩ <;> rcases g with ⟨rfl,g1,g2,g3⟩|⟨rfl,rfl,g1⟩
 .exact ⟨bo.eq_of (g3 x h1 h2) (h3 y g1 g2),rfl⟩
 .exact absurd h2 (g1 x h1)
 .exact absurd g2 (h1 y g1)
 exact ⟨rfl,rfl⟩
theorem ez.congr {S T:ai->Prop} {x:ai} (h:ez S f x b) (hs:∀ y,T y↔S y):ez T f x b:=by
 rcases h with ⟨rfl,h1,h2,h3⟩|⟨rfl,rfl,h1⟩
 .exact .inl ⟨rfl,(hs x).2 h1,h2,λy hy=>h3 y ((hs y).1 hy)⟩
 exact .inr ⟨rfl,rfl,λy hy=>h1 y ((hs y).1 hy)⟩
theorem ez.start:ez (λ_=>False) f ⟨0,0,0⟩ false:=.inr ⟨rfl,rfl,λ_ h=>h.elim⟩
theorem ez.take {S:ai->Prop} {x d:ai} (h:ez S f x b) (h1:f<=d.frm) (h2:b=false\/bo d x) {T:ai->Prop} (hT:T d/\∀ y,T y->f<=y.frm->¬ bo y d):ez (λy=>S y\/T y) f d true:=by
 refine .inl ⟨rfl,.inr hT.1,h1,λy hy hf=>?_⟩;rcases hy with hy|hy
 .rcases h with ⟨rfl,g1,g2,g3⟩|⟨rfl,rfl,g1⟩
  .rcases h2 with h2|h2
   .cases h2
   exact λh3=>g3 y hy hf (h3.trans h2)
  exact absurd hf (g1 y hy)
 exact hT.2 y hy hf
theorem ez.pass {S T:ai->Prop} {x d:ai} (h:ez S f x b) (h2:b=true/\¬ bo d x) (hT:∀ y,T y->f<=y.frm->¬ bo y d):ez (λy=>S y\/T y) f x b:=by
 obtain ⟨rfl,h2⟩:=h2;rcases h with ⟨_,g1,g2,g3⟩|⟨h,_⟩
 .refine .inl ⟨rfl,.inl g1,g2,λy hy hf=>?_⟩;rcases hy with hy|hy
  .exact g3 y hy hf
  intro h3;rcases bo.tri d x with e|e|e
  .exact h2 e
  .subst e;exact hT y hy hf h3
  exact hT y hy hf (h3.trans e)
 cases h
theorem ez.none {S T:ai->Prop} {x:ai} (h:ez S f x b) (hT:∀ y,T y->¬ f<=y.frm):ez (λy=>S y\/T y) f x b:=by
 rcases h with ⟨rfl,g1,g2,g3⟩|⟨rfl,rfl,g1⟩
 .exact .inl ⟨rfl,.inl g1,g2,λy hy hf=>hy.elim (λhy=>g3 y hy hf) (λhy=>absurd hf (hT y hy))⟩
 exact .inr ⟨rfl,rfl,λy hy hf=>hy.elim (λhy=>g1 y hy hf) (λhy=>hT y hy hf)⟩
theorem vb_ {val:List (List Per)->Bool} {s:aE} (h:nE val s) {i:Nat} (hi:i<s.ext.length) (hf:f<=(s.ext.getD i default).frm) (fL:∀ j,j<i->(s.ext.getD j default).frm<f):∀ y,y∈s.ext->f<=y.frm->¬ bo y (s.ext.getD i default):=by
 intro y hy sk hlt;obtain ⟨j,hj,rfl⟩:=tu (d:=default) hy;rcases U4 j i with h1|h1|h1
 .have:=fL j h1;omega
 .subst h1;exact bo.irrefl hlt
 exact bo.irrefl (hlt.trans (h.rise h1 hj))
end
end Kal
namespace Go.Proofs.YtbmgmlbmgogeaaaGreat
section
open Go.RowKit Kal
theorem k_ {α:Type} {f:α->List Value} (hf:∀ x,(f x).length=n) (d:α) {L:List α}:∀ {j i:Nat} {u:Value},j<L.length->(f (L.getD j d))[i]? = some u->(L.flatMap f)[j*n+i]? = some u:=by
 induction L with
 | nil=>intro j i u h;simp at h
 | cons x L ih=>
  intro j i u hj hi;rw [S3];cases j with
  | zero=>
   have h4:i<(f x).length:=(GD.1 hi).1;rw [M_ (by simpa using h4)];simpa using hi
  | succ j=>
   rw [ND (by rw [hf,Q_];omega),hf,show (j+1)*n+i-n=j*n+i by rw [Q_];omega];exact ih (by simpa using hj) (by simpa using hi)
theorem Co {α:Type} {f:α->List Value} (hf:∀ x,(f x).length=n) (L:List α):(L.flatMap f).length=L.length*n:=by
 induction L with
 | nil=>simp
 | cons x L ih=>rw [S3,MB,hf,ih,MH,Q_,Nat.add_comm]
def bH (x:ai):List Value:=[.int .i64 x.day,.int .i64 x.frm,.int .i64 x.fin]
abbrev bQ (x:ai):Value:=.agg #[.int .i64 x.day,.int .i64 x.frm,.int .i64 x.fin]
theorem xG (x:ai):(bH x).length=3:=rfl
structure jB (x:ai):Prop where
 day:aS x.day
 frm:aS x.frm
 fin:aS x.fin
structure br where
 v:Value
 m:List (List Per)
 min:Int
instance:Inhabited br:=⟨⟨.slice none 0 0,[],0⟩⟩
def br.enc (x:br):List Value:=[x.v,.int .i64 x.min]
def br.cls (x:br):ey:=⟨x.m,x.min⟩
theorem br.enc_len (x:br):x.enc.length=2:=rfl
structure ed (W:World) (F:Nat->Prop) (v:Value) (L:List br):Prop where
 row:b7 W F v L.length (L.flatMap br.enc)
 len:L.length<=17592186044416
 all:∀ x∈L,aF W F x.v x.m/\aS x.min
structure bZ (W:World) (F:Nat->Prop) (v:Value) (l:List ai):Prop where
 row:b7 W F v l.length (l.flatMap bH)
 len:l.length<=17592186044416
 all:∀ x∈l,jB x
structure eV (W:World) (F:Nat->Prop) (cv ev:Value) (L:List br) (s:aE):Prop where
 eq:L.map br.cls=s.cls
 cl:ed W F cv L
 ex:bZ W F ev s.ext
 len:aS s.len
def bq (W:World) (F:Nat->Prop) (cv ev:Value) (s:aE):Prop:=∃ L,eV W F cv ev L s
theorem ed.keep {F:Nat->Prop} {L:List br} (h:ed W F v L) (hk:aP F W W') (hs:W.heap.size<=W'.heap.size):ed W' F v L:=⟨h.row.keep hk hs,h.len,λx hx=>⟨(h.all x hx).1.keep hk hs,(h.all x hx).2⟩⟩
theorem ed.mono {F G:Nat->Prop} {L:List br} (h:ed W F v L) (hF:∀ b,F b->G b):ed W G v L:=⟨h.row.mono hF,h.len,λx hx=>⟨(h.all x hx).1.mono hF,(h.all x hx).2⟩⟩
theorem bZ.keep {F:Nat->Prop} {l:List ai} (h:bZ W F v l) (hk:aP F W W') (hs:W.heap.size<=W'.heap.size):bZ W' F v l:=⟨h.row.keep hk hs,h.len,h.all⟩
theorem bZ.mono {F G:Nat->Prop} {l:List ai} (h:bZ W F v l) (hF:∀ b,F b->G b):bZ W G v l:=⟨h.row.mono hF,h.len,h.all⟩
theorem bZ.ext {F:Nat->Prop} {l:List ai} (h:bZ W F v l) (hb:Below W.heap.size W W'):bZ W' F v l:=h.keep (aP.below hb) hb.size
theorem eV.keep {F:Nat->Prop} {ev:Value} {L:List br} {s:aE} (h:eV W F cv ev L s) (hk:aP F W W') (hs:W.heap.size<=W'.heap.size):eV W' F cv ev L s:=⟨h.eq,h.cl.keep hk hs,h.ex.keep hk hs,h.len⟩
theorem eV.mono {F G:Nat->Prop} {ev:Value} {L:List br} {s:aE} (h:eV W F cv ev L s) (hF:∀ b,F b->G b):eV W G cv ev L s:=⟨h.eq,h.cl.mono hF,h.ex.mono hF,h.len⟩
theorem eV.below {F:Nat->Prop} {ev:Value} {L:List br} {s:aE} (h:eV W F cv ev L s) (hb:Below W.heap.size W W'):eV W' F cv ev L s:=h.keep (aP.below hb) hb.size
theorem bq.keep {F:Nat->Prop} {ev:Value} {s:aE} (h:bq W F cv ev s) (hk:aP F W W') (hs:W.heap.size<=W'.heap.size):bq W' F cv ev s:=by obtain ⟨L,h⟩:=h;exact ⟨L,h.keep hk hs⟩
theorem bq.mono {F G:Nat->Prop} {ev:Value} {s:aE} (h:bq W F cv ev s) (hF:∀ b,F b->G b):bq W G cv ev s:=by obtain ⟨L,h⟩:=h;exact ⟨L,h.mono hF⟩
theorem bq.ext {F:Nat->Prop} {ev:Value} {s:aE} (h:bq W F cv ev s) (hb:Below W.heap.size W W'):bq W' F cv ev s:=h.keep (aP.below hb) hb.size
theorem aF.keep2 {F:Nat->Prop} (h:aF W F v m) (hk:aP F W W'):aF W' F v m:=by obtain ⟨L,e,g⟩:=h;exact ⟨L,e,g.keep2 hk⟩
theorem ed.keep2 {F:Nat->Prop} {L:List br} (h:ed W F v L) (hk:aP F W W'):ed W' F v L:=⟨h.row.keep2 hk,h.len,λx hx=>⟨(h.all x hx).1.keep2 hk,(h.all x hx).2⟩⟩
theorem ed.lt {F:Nat->Prop} {L:List br} (h:ed W F v L):ed W (λb=>F b/\b<W.heap.size) v L:=⟨h.row.lt,h.len,λx hx=>⟨(h.all x hx).1.lt,(h.all x hx).2⟩⟩
theorem bZ.lt {F:Nat->Prop} {l:List ai} (h:bZ W F v l):bZ W (λb=>F b/\b<W.heap.size) v l:=⟨h.row.lt,h.len,h.all⟩
theorem eV.lt {F:Nat->Prop} {ev:Value} {L:List br} {s:aE} (h:eV W F cv ev L s):eV W (λb=>F b/\b<W.heap.size) cv ev L s:=⟨h.eq,h.cl.lt,h.ex.lt,h.len⟩
theorem bq.lt {F:Nat->Prop} {ev:Value} {s:aE} (h:bq W F cv ev s):bq W (λb=>F b/\b<W.heap.size) cv ev s:=by obtain ⟨L,h⟩:=h;exact ⟨L,h.lt⟩
theorem ed.form {F:Nat->Prop} {L:List br} (h:ed W F v L):∃ a c,v=.slice a L.length c:=by
 obtain ⟨a,c,rfl,_⟩:=h.row.is;exact ⟨a,c,rfl⟩
theorem bZ.form {F:Nat->Prop} {l:List ai} (h:bZ W F v l):∃ a c,v=.slice a l.length c:=by
 obtain ⟨a,c,rfl,_⟩:=h.row.is;exact ⟨a,c,rfl⟩
theorem bq.form {F:Nat->Prop} {ev:Value} {s:aE} (h:bq W F cv ev s):∃ a c a' c',cv=.slice a s.cls.length c/\ev=.slice a' s.ext.length c':=by
 obtain ⟨L,h⟩:=h;obtain ⟨a,c,rfl⟩:=h.cl.form;obtain ⟨a',c',rfl⟩:=h.ex.form;exact ⟨a,c,a',c',by rw [<- h.eq,U6],rfl⟩
theorem ed.get {F:Nat->Prop} {a:Option Addr} {L:List br} (h:ed W F (.slice a n c) L) (hk:k<L.length) :
  ∃ b o a1 c1,∃ m mi,a=some ⟨b,o,none⟩/\b<W.heap.size/\W.cell? ⟨b,o+k*2,none⟩=some (.slice a1 m.length c1)/\W.cell? ⟨b,o+k*2+1,none⟩=some (.int .i64 mi)/\aF W F (.slice a1 m.length c1) m/\aS mi/\(L.map br.cls).getD k default=⟨m,mi⟩:=by
 obtain ⟨a',c',he,h1,h2,h3⟩:=h.row.is;injection he with e1 _ e2
 subst e1;subst e2;rcases h3 with h3|⟨b,o,rfl,hF,hl,hc⟩
 .omega
 have hx:=h.all _ (dI (d:=default) hk);obtain ⟨a1,c1,e⟩:=hx.1.form;refine ⟨b,o,a1,c1,(L.getD k default).m,(L.getD k default).min,rfl,hl,?_,hc (k*2+1) _ (k_ br.enc_len default hk rfl),?_,hx.2,?_⟩
 .rw [<- e];exact hc (k*2+0) _ (k_ br.enc_len default hk rfl)
 .rw [<- e];exact hx.1
 simp [VS,hk];rfl
theorem bZ.get {F:Nat->Prop} {a:Option Addr} {l:List ai} (h:bZ W F (.slice a n c) l) (hk:k<l.length) :
  ∃ b o x,a=some ⟨b,o,none⟩/\b<W.heap.size/\l.getD k default=x/\jB x/\W.cell? ⟨b,o+k*3,none⟩=some (.int .i64 x.day)/\W.cell? ⟨b,o+k*3+1,none⟩=some (.int .i64 x.frm)/\W.cell? ⟨b,o+k*3+2,none⟩=some (.int .i64 x.fin):=by
 obtain ⟨a',c',he,h1,h2,h3⟩:=h.row.is;injection he with e1 _ e2
 subst e1;subst e2;rcases h3 with h3|⟨b,o,rfl,hF,hl,hc⟩
 .omega
 exact ⟨b,o,l.getD k default,rfl,hl,rfl,h.all _ (dI hk),hc (k*3+0) _ (k_ xG default hk rfl),hc (k*3+1) _ (k_ xG default hk rfl),hc (k*3+2) _ (k_ xG default hk rfl)⟩
end
section
open Go.RowKit Go.Maps Kal
structure rz (w:World) (v:Value) (l:List Int):Prop where
 is:∃ a c,v=.slice a l.length c/\(l=[]\/∃ b o,a=some ⟨b,o,none⟩/\∀ i,i<l.length->w.cell? ⟨b,o+i,none⟩=some (.int .u16 (l.getD i 0)))
 len:l.length<=9223372036854775807
 rng:∀ x∈l,0<=x/\x<=65535
theorem rz.ext (h:rz w v l) (hb:Below w.heap.size w W):rz W v l:=by
 obtain ⟨⟨a,c,rfl,h3⟩,h4,h5⟩:=h;refine ⟨⟨a,c,rfl,h3.imp id ?_⟩,h4,h5⟩;rintro ⟨b,o,rfl,hc⟩;exact ⟨b,o,rfl,λi hi=>an.cell hb (hc i hi)⟩
structure jD where
 dv:Value
 mv:Value
 ln:Int
 ev:Value
instance:Inhabited jD:=⟨⟨.slice none 0 0,.slice none 0 0,0,.slice none 0 0⟩⟩
structure ru (w:World) (x:jD) (ll:List (List Int)) (ml el:List Int):Prop where
 days:xz w x.dv ll
 cap:∃ a c,x.dv=.slice a ll.length c/\ll.length<=c/\c<=9223372036854775807
 mins:qn w x.mv ml
 l0:0<=x.ln
 l1:x.ln<=255
 ext:rz w x.ev el
theorem ru.below {x:jD} {ll:List (List Int)} {el:List Int} (h:ru w x ll ml el) (hb:Below w.heap.size w W):ru W x ll ml el:=⟨h.days.ext hb,h.cap,h.mins.ext hb,h.l0,h.l1,h.ext.ext hb⟩
def Bu (w:World) (x:jD):Prop:=∃ ll ml el,ru w x ll ml el
theorem Bu.below {x:jD} (h:Bu w x) (hb:Below w.heap.size w W):Bu W x:=by obtain ⟨ll,ml,el,h⟩:=h;exact ⟨ll,ml,el,h.below hb⟩
abbrev jD.val (x:jD):Value:=.agg #[x.dv,x.mv,.int .u8 x.ln,x.ev]
structure cG where
 id:Int
 rm:Bool
 s:jD
instance:Inhabited cG:=⟨⟨0,false,default⟩⟩
def cG.enc (x:cG):List Value:=[.int .i8 x.id,.bool x.rm,x.s.dv,x.s.mv,.int .u8 x.s.ln,x.s.ev]
theorem cG.enc_len (x:cG):x.enc.length=6:=rfl
structure xM (w:World) (v:Value) (L:List cG):Prop where
 row:b7 w (λ_=>True) v L.length (L.flatMap cG.enc)
 all:∀ x∈L,Bu w x.s/\-128<=x.id/\x.id<=127
theorem xM.below {L:List cG} (h:xM w v L) (hb:Below w.heap.size w W):xM W v L:=⟨h.row.keep (aP.below hb) hb.size,λx hx=>⟨(h.all x hx).1.below hb,(h.all x hx).2⟩⟩
theorem xM.get {a:Option Addr} {L:List cG} (h:xM w (.slice a n c) L) (hk:k<L.length) :
  ∃ b o x,a=some ⟨b,o,none⟩/\b<w.heap.size/\x=L.getD k default/\Bu w x.s/\(-128<=x.id/\x.id<=127)/\w.cell? ⟨b,o+k*6,none⟩=some (.int .i8 x.id)/\w.cell? ⟨b,o+k*6+1,none⟩=some (.bool x.rm)/\w.cell? ⟨b,o+k*6+2,none⟩=some x.s.dv/\w.cell? ⟨b,o+k*6+3,none⟩=some x.s.mv/\w.cell? ⟨b,o+k*6+4,none⟩=some (.int .u8 x.s.ln)/\w.cell? ⟨b,o+k*6+5,none⟩=some x.s.ev:=by
 obtain ⟨a',c',he,h1,h2,h3⟩:=h.row.is;injection he with e1 _ e2
 subst e1;subst e2;rcases h3 with h3|⟨b,o,rfl,hF,hl,hc⟩
 .omega
 have hx:=h.all _ (dI (d:=default) hk);exact ⟨b,o,L.getD k default,rfl,hl,rfl,hx.1,hx.2,hc (k*6+0) _ (k_ cG.enc_len default hk rfl),hc (k*6+1) _ (k_ cG.enc_len default hk rfl),hc (k*6+2) _ (k_ cG.enc_len default hk rfl),hc (k*6+3) _ (k_ cG.enc_len default hk rfl),hc (k*6+4) _ (k_ cG.enc_len default hk rfl),hc (k*6+5) _ (k_ cG.enc_len default hk rfl)⟩
end
end Go.Proofs.YtbmgmlbmgogeaaaGreat
end
namespace Go.Proofs.YtbmgmlbmgogeaaaGreat
section
open Go.ChangeShapes Go.WideShapes Go.ChangeAt Go.RowKit Go.Joins Kal
theorem Kf {b o n:Nat}:((⟨b,o,none⟩:Addr).add n)=⟨b,o+n,none⟩:=by
 rcases NR n with h|h
 .subst h;simp [Addr.add]
 simp [Addr.add];omega
theorem q0p {α:Type} [Inhabited α] {w:World} {f:α->List Value} {n:Nat} (hf:∀ x,(f x).length=n) (hn:0<n) {a:Addr} {len cap:Nat} (hl:len<=cap) (hm:cap<=9223372036854775807) {P:α->Prop}
  (each:∀ i,i<len->∃ x,P x/\∀ j u,(f x)[j]? = some u->w.cell? ((a.add (i*n)).add j)=some u):∃ L:List α,b7 w (λ_=>True) (.slice (some a) len cap) L.length (L.flatMap f)/\L.length=len/\∀ x∈L,P x:=by
 have hch:∃ X:Nat->α,∀ i,i<len->P (X i)/\∀ j u,(f (X i))[j]? = some u->w.cell? ((a.add (i*n)).add j)=some u:=by
  refine ⟨λi=>if hi:i<len then (each i hi).choose else default,λi hi=>?_⟩;simp only [dif_pos hi];exact (each i hi).choose_spec
 obtain ⟨X,hX⟩:=hch;have ko:((List.range len).map X).length=len:=by simp
 refine ⟨(List.range len).map X,⟨some a,cap,by rw [ko],by rw [ko];exact hl,hm,?_⟩,ko,λx hx'=>?_⟩
 .rw [ko];by_cases h0:len=0
  .exact .inl h0
  refine .inr ?_;obtain ⟨b,off,spot⟩:=a;have h00:(f (X 0))[0]? = some ((f (X 0))[0]'(by rw [hf];exact hn)):=U2 _;have hc:=(hX 0 ad).2 0 _ h00;have hspot:spot=none:=by simpa [Addr.add] using q8e hc
  subst hspot;refine ⟨b,off,rfl,trivial,?_,λi u hu=>?_⟩
  .have:=N8 w _ hc;simpa [Addr.add] using this
  have hi:i<len*n:=by
   have:=(GD.1 hu).1;rw [Co hf,ko] at this;exact this
  have hq:i / n<len:=q8y (by rw [OH];exact hi);have e:i=i / n*n+i % n:=by rw [OH];exact (q8a i n).symm
  have hr:i % n<n:=XK _ hn;have hu2:(f (X (i / n)))[i % n]? = some u:=by
   obtain ⟨u',tT⟩:∃ u',(f (X (i / n)))[i % n]? = some u':=⟨_,U2 (by rw [hf];exact hr)⟩;have:=k_ hf default (L:=(List.range len).map X) (j:=i / n) (i:=i % n) (u:=u') (by rw [ko];exact hq) (by rw [VS];simpa [hq] using tT);rw [<- e,hu] at this;rw [tT,<- this]
  have:=(hX _ hq).2 _ u hu2;rw [Kf,Kf] at this;rw [e,<- OE];exact this
 obtain ⟨i,hi,rfl⟩:=VC.1 hx';exact (hX i (by simpa using hi)).1
section
variable {H:Type} {enc:TypeId × Value->H} {w:World} {base:Nat} {spare:Nat->Bool} {held:Bool}
theorem q2g {n:Nat} {v:Value} {y:DataW H × List MemPlace} (h:DataW.trod enc Tryz.prog w base spare held n 25 [v]=some y):∃ l,rz w v l:=by
 rcases open_ints Tryz.underlying25 Tryz.underlying74 (by kernel_rfl) h with ⟨hcs,_⟩|⟨a,len,cap,zs,hcs,_,hl,hm,hz,_,hcell,jV⟩
 .simp at hcs;subst hcs;exact ⟨[],⟨none,0,rfl,.inl rfl⟩,aj,aj⟩
 simp at hcs;subst hcs;have GH:len<=zs.length:=by rw [hz];split <;> omega
 have hlen:(zs.take len).length=len:=by rw [MO];omega
 refine ⟨zs.take len,⟨some a,cap,by rw [hlen],?_⟩,?_,?_⟩
 .by_cases h0:len=0
  .exact .inl (by rw [h0];rfl)
  refine .inr ?_;obtain ⟨b,off,spot⟩:=a;have hc:=hcell 0 ad;have hspot:spot=none:=by simpa [Addr.add] using q8e hc
  subst hspot;refine ⟨b,off,rfl,λi hi=>?_⟩;rw [hlen] at hi;have h9:=hcell i ad;have e:(zs.take len).getD i 0=zs.getD i 0:=by
   rw [VS,VS,LJ hi]
  rw [e];rwa [Kf] at h9
 .rw [hlen];unfold maxLen at hm;omega
 intro x hx;exact bounds_u16 (jV x (S8 hx))
theorem q5q {n:Nat} {v:Value} {y:DataW H × List MemPlace} (h:DataW.trod enc Tryz.prog w base spare held n 23 [v]=some y):∃ n,RS w v n/\∃ a c,v=.slice a n c/\n<=c/\c<=9223372036854775807:=by
 rcases Go.Deep.open_slice1 Tryz.underlying23 (by kernel_rfl) h with ⟨hcs,_⟩|⟨a',len',cap',m,n,V,D,Pl,hcs,_,hl,hm,hmm,_,hx⟩
 .simp only [MQ,and_true] at hcs;subst hcs;exact ⟨0,⟨⟨none,0,rfl,.inl rfl⟩,ad⟩,none,0,rfl,ad,ad⟩
 simp only [MQ,and_true] at hcs;subst hcs;have pB:len'<=m:=by rw [hmm];split <;> omega
 refine ⟨len',⟨⟨some a',cap',rfl,?_⟩,by unfold maxLen at hm;omega⟩,_,_,rfl,hl,by unfold maxLen at hm;omega⟩;by_cases h0:len'=0
 .exact .inl h0
 refine .inr ?_;obtain ⟨b,off,spot⟩:=a';have hc:=(hx 0 ad).1;have hspot:spot=none:=by simpa [Addr.add] using q8e hc
 subst hspot;refine ⟨b,off,rfl,λi hi=>?_⟩;obtain ⟨h1,h2⟩:=hx i ad;obtain ⟨l,hb⟩:=Yi h2;rw [Kf] at h1;exact ⟨V i,l,h1,hb⟩
theorem xh_ {n:Nat} {v:Value} {y:DataW H × List MemPlace} (h:DataW.trod enc Tryz.prog w base spare held n 4 [v]=some y):∃ b,v=.bool b:=by
 obtain ⟨b,hcs,_⟩:=DataW.trod_bool Tryz.underlying4 h;simp at hcs;exact ⟨b,hcs⟩
theorem ys_ {n:Nat} {u0 u1 u2 u3:Value} {y:DataW H × List MemPlace} (h:DataW.trod enc Tryz.prog w base spare held n 27 [u0,u1,u2,u3]=some y):∃ x:jD,x.val=.agg #[u0,u1,u2,u3]/\Bu w x:=by
 obtain ⟨y0,y1,y2,y3,k,_,_,g0,g1,g2,g3⟩:=trod_struct4 Tryz.underlying27 h;obtain ⟨n0,O6,c0'⟩:=q5q (show DataW.trod enc Tryz.prog w base spare held k 23 [u0]=some y0 from g0);obtain ⟨ll,sy,h0⟩:=O6.rows;have c0:=c0';rw [<- sy] at c0;obtain ⟨l1,h1⟩:=Yi (show DataW.trod enc Tryz.prog w base spare held k 24 [u1]=some y1 from g1);obtain ⟨f,rfl,wf⟩:=ZJ Tryz.underlying5 (show DataW.trod enc Tryz.prog w base spare held k 5 [u2]=some y2 from g2);obtain ⟨l3,h3⟩:=q2g (show DataW.trod enc Tryz.prog w base spare held k 25 [u3]=some y3 from g3);have:=bounds_u8 wf;exact ⟨⟨u0,u1,f,u3⟩,rfl,ll,l1,l3,h0,c0,h1,by show 0<=f;omega,by show f<=255;omega,h3⟩
theorem w7_ {r:Reach} {b0:Nat} {v:Value} {d:DataW H} {p:List MemPlace} (hv:Value.okWide Tryz.prog w r b0 22 v) (h:DataW.Trod enc Tryz.prog w base spare held 22 v d p):∃ L,xM w v L:=by
 obtain ⟨a,len,cap,rfl⟩:=okWide_slice Tryz.underlying22 hv;obtain ⟨fuel,hf⟩:=h;have hf:DataW.trod enc Tryz.prog w base spare held fuel 22 [.slice a len cap]=some (d,p):=hf;rcases Go.Deep.open_slice Tryz.underlying22 hf with ⟨hcs,_⟩|⟨a',len',cap',m,n,D,Pl,hcs,_,hl,hm,hmm,_,hx⟩
 .simp only [MQ,Value.slice.injEq,and_true] at hcs;obtain ⟨rfl,rfl,rfl⟩:=hcs;exact ⟨[],⟨none,0,rfl,aj,ad,.inl rfl⟩,aj⟩
 simp only [MQ,Value.slice.injEq,and_true] at hcs;obtain ⟨rfl,rfl,rfl⟩:=hcs;have pB:len<=m:=by rw [hmm];split <;> omega
 have h6:Tryz.prog.cellsOf 90=6:=by kernel_rfl
 have each:∀ i,i<len->∃ x:cG,(Bu w x.s/\-128<=x.id/\x.id<=127)/\∀ j u,x.enc[j]? = some u->w.cell? ((a'.add (i*6)).add j)=some u:=λi hi=>by
  obtain ⟨cs',h1,h2⟩:=hx i ad;rw [h6] at h1;obtain ⟨_,hlen,hcell⟩:=World.cells?_some h1;obtain ⟨y0,y1,y2,k,_,_,g0,g1,g2⟩:=Go.Deep.trod_struct3 Tryz.underlying90 h2
  match cs',hlen with
  | [u0,u1,u2,u3,u4,u5],_=>
   obtain ⟨f,rfl,wf⟩:=ZJ Tryz.underlying88 (show DataW.trod enc Tryz.prog w base spare held k 88 [u0]=some y0 from g0);obtain ⟨b,hb⟩:=xh_ (show DataW.trod enc Tryz.prog w base spare held k 4 [u1]=some y1 from g1);obtain ⟨x,hx,ho⟩:=ys_ (show DataW.trod enc Tryz.prog w base spare held k 27 [u2,u3,u4,u5]=some y2 from g2);subst hb;obtain ⟨x0,x1,x2,x3⟩:=x;injection hx with hx
   have e0:x0=u2:=congrArg (λa:Array Value=>a.getD 0 default) hx;have e1:x1=u3:=congrArg (λa:Array Value=>a.getD 1 default) hx;have e2:Value.int .u8 x2=u4:=congrArg (λa:Array Value=>a.getD 2 default) hx;have e3:x3=u5:=congrArg (λa:Array Value=>a.getD 3 default) hx;subst e0;subst e1;subst e2;subst e3;have bf:=bounds_i8 wf;refine ⟨⟨f,b,⟨x0,x1,x2,x3⟩⟩,⟨ho,bf.1,bf.2⟩,λj u hj=>?_⟩;have Vk:j<6:=(GD.1 hj).1;have hc:=hcell j Vk
   match j,Vk with
   | 0,_=>simp [cG.enc] at hj;subst hj;simpa using hc
   | 1,_=>simp [cG.enc] at hj;subst hj;simpa using hc
   | 2,_=>simp [cG.enc] at hj;subst hj;simpa using hc
   | 3,_=>simp [cG.enc] at hj;subst hj;simpa using hc
   | 4,_=>simp [cG.enc] at hj;subst hj;simpa using hc
   | 5,_=>simp [cG.enc] at hj;subst hj;simpa using hc
 obtain ⟨L,hL,hlen,hall⟩:=q0p (f:=cG.enc) cG.enc_len ad hl (by unfold maxLen at hm;omega) each;exact ⟨L,by rw [<- hlen] at hL ⊢;exact hL,hall⟩
end
end
section
open Go.RowKit Go.Maps Kal
structure rH {α:Type} (R:World->(Nat->Prop)->α->Prop):Prop where
 keep:∀ {W W':World} {F:Nat->Prop} {x:α},R W F x->aP F W W'->W.heap.size<=W'.heap.size->R W' F x
 lt:∀ {W:World} {F:Nat->Prop} {x:α},R W F x->R W (λb=>F b/\b<W.heap.size) x
 mono:∀ {W:World} {F G:Nat->Prop} {x:α},R W F x->(∀ b,F b->G b)->R W G x
structure aN {α:Type} (e:TypeId) (sz:Nat) (enc:α->List Value) (R:World->(Nat->Prop)->α->Prop) (B:Nat) (A:Nat->Prop) (W:World) (v:Value) (L:List α):Prop where
 row:W.ownsRow B e sz v L.length (L.flatMap enc)
 all:∀ x∈L,R W (cU B A v) x
 ne:∀ g,v.ownBlock=some g->¬ A g
 len:L.length<=1000000
section
variable {α:Type} {e:TypeId} {sz:Nat} {enc:α->List Value} {R:World->(Nat->Prop)->α->Prop} {B:Nat} {A:Nat->Prop} {W W':World} {v v':Value} {L:List α}
theorem aN.nil:aN e sz enc R B A W (.slice none 0 0) []:=⟨q8f W B e sz,aj,by simp [Value.ownBlock],aj⟩
theorem aN.form (h:aN e sz enc R B A W v L):∃ a c,v=.slice a L.length c/\L.length<=c/\c<=9223372036854775807/\(L.length=0\/∃ g,a=some ⟨g,0,none⟩):=by
 obtain ⟨_,⟨rfl,h2⟩|⟨g,cap,cur,rfl,_,_,h3,h4,_⟩⟩:=h.row
 .exact ⟨none,0,by rw [h2],ad,ad,.inl h2⟩
 exact ⟨_,cap,rfl,h3,h4,.inr ⟨g,rfl⟩⟩
theorem aN.below (hR:rH R) (h:aN e sz enc R B A W v L) (hb:Below W.heap.size W W'):aN e sz enc R B A W' v L:=
 ⟨h.row.kept (row:=none) (World.grownBy.of_below hb _) (by cases v.ownBlock <;> simp),λx hx=>hR.keep (h.all x hx) (aP.below hb) hb.size,h.ne,h.len⟩
theorem aN.box (hR:rH R) {k:Nat} (h:aN e sz enc R B A W v L) (hg:W.grownBy W' (some k)) (hA:A k):aN e sz enc R B A W' v L:=
 ⟨h.row.kept hg (.inr λe=>h.ne k e hA),λx hx=>hR.keep (h.all x hx) (aP.grown hg λhf=>hf.2.1 hA) hg.size,h.ne,h.len⟩
theorem aN.mono (hR:rH R) {A':Nat->Prop} (h:aN e sz enc R B A W v L) (hs:∀ k,A' k->A k\/W.heap.size<=k):aN e sz enc R B A' W v L:=
 ⟨h.row,λx hx=>hR.mono (hR.lt (h.all x hx)) λb hb=>⟨hb.1.1,λha=>(hs b ha).elim hb.1.2.1 λhl=>by have:=hb.2;omega,hb.1.2.2⟩,λg hg ha=>(hs g ha).elim (h.ne g hg) λhl=>by have:=(h.row.lt g hg).2;omega,h.len⟩
theorem aN.base (hR:rH R) {C:Nat} (h:aN e sz enc R B A W v L) (hC:C<=B):aN e sz enc R C A W v L:=by
 refine ⟨⟨h.row.1,?_⟩,λx hx=>hR.mono (h.all x hx) λb hb=>⟨NN hC hb.1,hb.2⟩,h.ne,h.len⟩;rcases h.row.2 with h2|⟨g,cap,cur,e,hb,rest⟩
 .exact .inl h2
 exact .inr ⟨g,cap,cur,e,NN hC hb,rest⟩
theorem aN.push (hR:rH R) {y:α} (h:aN e sz enc R B A W v L) (hy:R W (cU B A v) y) (hr:W'.ownsRow B e sz v' (L.length+1) (L.flatMap enc ++ enc y)) (hg:W.grownBy W' v.ownBlock)
  (hb:v'.ownBlock=v.ownBlock\/v'.ownBlock=some W.heap.size) (hA:¬ A W.heap.size) (hl:L.length<1000000):aN e sz enc R B A W' v' (L ++ [y]):=by
 have key:∀ {z:α},R W (cU B A v) z->R W' (cU B A v') z:=λht=>by
  refine hR.mono (hR.keep (hR.lt ht) (λb hb hl=>hg.block b hl λe=>hb.1.2.2 e.symm) hg.size) λb hb'=>⟨hb'.1.1,hb'.1.2.1,?_⟩;rcases hb with e|e
  .rw [e];exact hb'.1.2.2
  rw [e];rintro ⟨⟩;have:=hb'.2;omega
 refine ⟨by rw [MB,MC,List.flatMap_singleton];exact hr,λx hx=>?_,λg fe=>?_,aR⟩
 .rcases VJ.1 hx with hx|hx
  .exact key (h.all x hx)
  obtain rfl:x=y:=by simpa using hx
  exact key hy
 rcases hb with e|e
 .exact h.ne g (e ▸ fe)
 rw [e] at fe;cases fe;exact hA
theorem aN.rowR (h:aN e sz enc R B A W v L):b7 W (λb=>B<=b/\¬ A b) v L.length (L.flatMap enc):=by
 obtain ⟨hl,⟨rfl,h2⟩|⟨g,cap,cur,rfl,hb,hg,h3,h4,h5,h6⟩⟩:=h.row
 .rw [h2];exact ⟨none,0,rfl,ad,ad,.inl rfl⟩
 refine ⟨_,cap,rfl,h3,h4,.inr ⟨g,0,rfl,⟨hb,h.ne g rfl⟩,(h.row.lt g rfl).2,λi u hi=>?_⟩⟩;rw [S1];have:=(GD.1 hi).1;exact (h.row.cellAt i (by rw [<- hl];exact this)).trans hi
end
theorem mL {w:World} {ops:Array Oper} {rest:List Oper} {o:Oper} {a:Act} {Q:Exit->Act->World->Prop} (hgd:o.guard=none) (s x:Operand) (t e:TypeId)
  (ho:o.op=.call { callee:=.builtin .append,args:=#[s,x],argTypes:=#[t,t] }) (i:TypeInfo) (z:Value) (sz bytes:Nat) (ht:Tryz.prog.underlying t=some (.slice e)) (hi:Tryz.prog.info? e=some i) (h1:i.zero=some z) (h2:i.size=sz) (h3:i.bytes=bytes) (hzs:z.cells.size=sz) (hsz:0<sz) (hby:bytes<=1000)
  (base:Nat) (v:Value) (n:Nat) (xs:List Value) (ys:List Value) (wI:ys.length=sz) (hs:a.eval s=v) (hown:w.ownsRow base e sz v n xs)
  (blk c:Nat) (hx:a.eval x=.slice (some ⟨blk,0,none⟩) 1 c) (hnew:∀ j u,ys[j]? = some u->w.cell? ⟨blk,j,none⟩=some u) (h1c:∀ u∈ys,u.oneCell'=true) (hlen:n+1<=1000000) (hbase:base<=w.heap.size)
  (h:∀ v' w',w'.ownsRow base e sz v' (n+1) (xs ++ ys)->w.grownBy w' v.ownBlock->(v'.ownBlock=v.ownBlock\/v'.ownBlock=some w.heap.size)->wpList Tryz.prog ops Q rest (a.put o.dst v') w') :
  wpList Tryz.prog ops Q (o :: rest) a w:=by
 refine wpList_plain hgd λK hK=>?_;obtain ⟨v',w',hrun,k2,k3,_,k5⟩:=q8g (P:=Tryz.prog) w base t o.type e i z sz bytes ht hi h1 h2 h3 hzs hsz v n xs hown ⟨blk,0,none⟩ 1 c ys (by rw [wI,Nat.one_mul])
  (λj u hu=>by rw [show (⟨blk,0,none⟩:Addr).add j=⟨blk,j,none⟩ from by
   rcases NR j with h0|h0
   .subst h0;simp [Addr.add]
   simp [Addr.add];omega];exact hnew j u hu) h1c (by unfold maxLen;omega) (by
   have:(n+1)*bytes<=1000000*1000:=Nat.mul_le_mul hlen hby;omega) hbase
 unfold Oper.wp execOp;simp only [ho,resolve,invoke,builtin,NM,L_,MM,QE,GB,Q6,hs,hx,hrun];exact hK _ _ (h v' w' k2 k3 k5)
theorem O_ {w:World} {ops:Array Oper} {rest:List Oper} {o:Oper} {a:Act} {Q:Exit->Act->World->Prop} (hgd:o.guard=none) (s x:Operand) (t e:TypeId)
  (ho:o.op=.call { callee:=.builtin .append,args:=#[s,x],argTypes:=#[t,t] }) (i:TypeInfo) (z:Value) (sz bytes:Nat) (ht:Tryz.prog.underlying t=some (.slice e)) (hi:Tryz.prog.info? e=some i) (h1:i.zero=some z) (h2:i.size=sz) (h3:i.bytes=bytes) (hzs:z.cells.size=sz) (hsz:0<sz) (hby:bytes<=1000)
  (base:Nat) (v xv:Value) (n m:Nat) (xs ys:List Value) (F:Nat->Prop) (hs:a.eval s=v) (hown:w.ownsRow base e sz v n xs)
  (hx:a.eval x=xv) (mW:b7 w F xv m ys) (yG:ys.length=m*sz) (h1c:∀ u∈ys,u.oneCell'=true) (hlen:n+m<=1000000) (hbase:base<=w.heap.size)
  (h:∀ v' w',w'.ownsRow base e sz v' (n+m) (xs ++ ys)->w.grownBy w' v.ownBlock->(v'.ownBlock=v.ownBlock\/v'.ownBlock=some w.heap.size)->wpList Tryz.prog ops Q rest (a.put o.dst v') w') :
  wpList Tryz.prog ops Q (o :: rest) a w:=by
 obtain ⟨xa,xc,rfl,g1,g2,g3⟩:=mW;refine wpList_plain hgd λK hK=>?_;rcases g3 with rfl|⟨b,off,rfl,_,_,hcell⟩
 .have yF:ys=[]:=NL ad;subst yF;have hrun:(Builtin.append_ #[t,t] o.type #[v,.slice xa 0 xc]).run Tryz.prog w=.ok v w:=by
   obtain ⟨r1,r2⟩:=hown;rcases r2 with ⟨rfl,r0⟩|⟨g,cap,cur,rfl,r5,r6,r7,r8,r9,YX⟩
   .cases xa <;> simp [Builtin.append_,run_underlying ht,sizeOf,typeInfo,hi,Builtin.lenOf,Builtin.firstCells,loadCells,loadCellsFrom,storeCells]
   cases xa <;> simp [Builtin.append_,run_underlying ht,sizeOf,typeInfo,hi,Builtin.lenOf,Builtin.firstCells,r7,loadCells,loadCellsFrom,storeCells]
  unfold Oper.wp execOp;simp only [ho,resolve,invoke,builtin,NM,L_,MM,QE,GB,Q6,hs,hx,hrun];exact hK _ _ (h v w (by simpa using hown) (P7 w _) (.inl rfl))
 obtain ⟨v',w',hrun,k2,k3,_,k5⟩:=q8g (P:=Tryz.prog) w base t o.type e i z sz bytes ht hi h1 h2 h3 hzs hsz v n xs hown ⟨b,off,none⟩ m xc ys yG
  (λj u hu=>by rw [show (⟨b,off,none⟩:Addr).add j=⟨b,off+j,none⟩ from by simp [Addr.add]];exact hcell j u hu) h1c (by unfold maxLen;omega) (by
   have:(n+m)*bytes<=1000000*1000:=Nat.mul_le_mul hlen hby;omega) hbase
 unfold Oper.wp execOp;simp only [ho,resolve,invoke,builtin,NM,L_,MM,QE,GB,Q6,hs,hx,hrun];exact hK _ _ (h v' w' k2 k3 k5)
theorem kF {w:World} {base:Nat} {e:TypeId} {sz:Nat} {v:Value} {n:Nat} {xs:List Value} (h:w.ownsRow base e sz v n xs):∃ a c,v=.slice a n c:=by
 rcases h.2 with ⟨rfl,h0⟩|⟨g,cap,cur,rfl,_⟩
 .exact ⟨none,0,by rw [h0]⟩
 exact ⟨_,cap,rfl⟩
end
end Go.Proofs.YtbmgmlbmgogeaaaGreat
section
variable {b:Bool}{a d e f i len s:Int}{m:List (List Kal.Per)}{l ml:List Int}{L:List Go.Proofs.YtbmgmlbmgogeaaaGreat.PV}{B c k n:Nat}{cv v:Go.Value}{A C W W' w:Go.World}
namespace Kal
section
theorem XR {P:Nat->Prop} (h:∃ n,P n):∃ n,P n/\∀ m,m<n->¬ P m:=by
 have key:∀ n,P n->∃ n,P n/\∀ m,m<n->¬ P m:=by
  intro n;induction n using Nat.strongRecOn with
  | _ n ih=>
   intro hn;by_cases h:∃ m,m<n/\P m
   .obtain ⟨m,h1,h2⟩:=h;exact ih m h1 h2
   exact ⟨n,hn,λm hm hp=>h ⟨m,hm,hp⟩⟩
 obtain ⟨n,hn⟩:=h;exact key n hn
theorem Wk (P:Nat->Nat->Prop) (n:Nat):Hx P n\/∃ i j,xA P n i j:=by
 by_cases h:∃ i,∃ j,i<j/\j<n/\P i j
 .obtain ⟨i,⟨j0,hj0⟩,hi⟩:=XR h;obtain ⟨j,⟨h1,h2,h3⟩,hj⟩:=XR (P:=λj=>i<j/\j<n/\P i j) ⟨j0,hj0⟩;exact .inr ⟨i,j,h1,h2,h3,λi' j' a b c d=>hi i' a ⟨j',b,c,d⟩,λj' a b c=>hj j' b ⟨a,ad,c⟩⟩
 exact .inl λi j a b c=>h ⟨i,j,a,b,c⟩
theorem tr_:∀ (k:Nat) (t:List Per),t.length<=k->∃ u,nB t u:=by
 intro k;induction k with
 | zero=>intro t ht;exact ⟨t,.done λi j a b=>ad⟩
 | succ k ih=>
  intro t ht;rcases Wk (BE t) t.length with h|⟨i,j,h⟩
  .exact ⟨t,.done h⟩
  have h2:=h.lt;have h3:=h.lim;obtain ⟨u,hu⟩:=ih (vh t i j) (by rw [Vn h.lim];omega);exact ⟨u,.step h hu⟩
theorem vt_:∀ (k:Nat) (l:List (List Per)),l.length<=k->∃ m,lL l m:=by
 intro k;induction k with
 | zero=>intro l hl;exact ⟨l,.done λi j a b=>ad⟩
 | succ k ih=>
  intro l hl;rcases Wk (pk l) l.length with h|⟨i,j,h⟩
  .exact ⟨l,.done h⟩
  have h2:=h.lt;have h3:=h.lim;obtain ⟨m,hm⟩:=ih (rG l i j) (by unfold rG;rw [q8v,OF,if_pos h.lim];omega);exact ⟨m,.step h hm⟩
theorem WD:∀ L:List (List Per),∃ l,il L l
 | []=>⟨[],.nil⟩
 | t :: L=>by
  obtain ⟨l,hl⟩:=WD L;obtain ⟨u,hu⟩:=tr_ _ (t.map λp=>canonC p.mem) (TZ _);by_cases hb:jG u
  .exact ⟨l,.skip hu hb hl⟩
  exact ⟨u :: l,.keep hu hb hl⟩
theorem Zg (L:List (List Per)):∃ m,qk L m:=by
 obtain ⟨l,hl⟩:=WD L;obtain ⟨k,hk⟩:=vt_ _ l (TZ _);exact ⟨_,l,k,hl,hk,rfl⟩
noncomputable def C8 (L:List (List Per)):List (List Per):=Classical.choose (Zg L)
theorem Sb (L:List (List Per)):qk L (C8 L):=Classical.choose_spec (Zg L)
theorem Ag {L:List (List Per)} (h:qk L m):m=C8 L:=h.unique (Sb L)
structure Pr where
 c:ey
 d:ey
 k:Int
instance:Inhabited Pr:=⟨⟨default,default,0⟩⟩
def tW (c d:ey) (lb:Int):Int:=(c.min-d.min-lb) / 1440+1
def yI (c d:ey) (la:Int):Int:=(c.min-d.min+la-1) / 1440
def pK (lo hi:Int):List Int:=(List.range (hi+1-lo).toNat).map λi=>lo+((i:Nat):Int)
theorem Nw {lo hi k:Int}:k∈pK lo hi↔lo<=k/\k<=hi:=by
 unfold pK;rw [VC];constructor
 .rintro ⟨i,hi,rfl⟩;rw [MN] at hi;omega
 rintro ⟨h1,h2⟩;exact ⟨(k-lo).toNat,by rw [MN];omega,ad⟩
theorem So {lo hi:Int} (h:hi<lo):pK lo hi=[]:=by
 unfold pK;rw [show (hi+1-lo).toNat=0 by omega];rfl
theorem R7 {lo k:Int} (h:lo<=k):pK lo k=pK lo (k-1) ++ [k]:=by
 unfold pK;rw [show (k+1-lo).toNat=(k-1+1-lo).toNat+1 by omega,q7x,UZ]
 congr 1
 simp;omega
def mm (la lb:Int) (c d:ey):List Pr:=(pK (tW c d lb) (yI c d la)).map λk=>⟨c,d,k⟩
def oC (a b:aE):List Pr:=a.cls.flatMap λc=>b.cls.flatMap λd=>mm a.len b.len c d
theorem tz_ {a b:aE} {p:Pr}:p∈oC a b↔p.c∈a.cls/\p.d∈b.cls/\tW p.c p.d b.len<=p.k/\p.k<=yI p.c p.d a.len:=by
 unfold oC mm;simp only [M7,VC,Nw];constructor
 .rintro ⟨c,hc,d,hd,k,hk,rfl⟩;exact ⟨hc,hd,hk⟩
 rintro ⟨hc,hd,hk⟩;exact ⟨p.c,hc,p.d,hd,p.k,hk,rfl⟩
theorem yo_ {a b:aE} {c d:ey} {k:Int}:(tW c d b.len<=k/\k<=yI c d a.len)↔eH c.min (c.min+a.len) (k*1440+d.min) (k*1440+d.min+b.len):=by
 unfold tW yI eH;omega
noncomputable def mr (m:List (List Per)) (b:Int):List (List Per):=C8 (mu m b)
noncomputable def js (p:Pr):List (List Per):=if p.k<0 then mr p.c.days p.k else p.c.days
noncomputable def jt (p:Pr):List (List Per):=if 0<p.k then mr p.d.days (-p.k) else p.d.days
def Ai (p:Pr) (n:Int):Prop:=aW (dY (js p) (jt p)) n
def jK (p:Pr):Prop:=¬ Ao (C8 (dY (js p) (jt p)))
def pn (a b:aE):Prop:=∃ x∈a.ext,(∃ y,Z3 b y/\eH x.frm x.fin y.frm y.fin)\/∃ y∈b.ext,eH x.frm x.fin y.frm y.fin
def Fe (a b:aE):Prop:=∃ p∈oC a b,∃ n,0<=n/\n<=cH/\Ai p n
def Cz (a b:aE):Prop:=∃ p∈oC a b,jK p
def hs_ (a b:aE):Prop:=∃ p∈oC a b,∃ n,Ai p n
def oB (a b:aE) (r:Bool) (e:Int):Prop:=
 ((pn a b\/pn b a\/Fe a b)/\r=true/\e=0) \/
 (¬ (pn a b\/pn b a\/Fe a b)/\((Cz a b/\r=false/\e=2)\/(¬ Cz a b/\e=0/\(r=true↔hs_ a b))))
theorem oB.unique {a b:aE} {r r':Bool} {e':Int} (h:oB a b r e) (g:oB a b r' e'):r=r'/\e=e':=by
 rcases h with ⟨h0,rfl,rfl⟩|⟨h0,⟨h1,rfl,rfl⟩|⟨h1,rfl,h2⟩⟩ <;> rcases g with ⟨g0,rfl,rfl⟩|⟨g0,⟨g1,rfl,rfl⟩|⟨g1,rfl,g2⟩⟩
 .exact ⟨rfl,rfl⟩
 .exact absurd h0 g0
 .exact absurd h0 g0
 .exact absurd g0 h0
 .exact ⟨rfl,rfl⟩
 .exact absurd h1 g1
 .exact absurd g0 h0
 .exact absurd g1 h1
 exact ⟨by rw [ML,h2,g2],rfl⟩
abbrev IL:=List (Int × aE)
def ids (L:IL):List Int:=L.map Prod.fst
def je (L:IL):Prop:=(ids L).Pairwise (· < ·)
def du:IL->Int->aE->IL
 | [],i,s=>[(i,s)]
 | (j,t) :: r,i,s=>if i<j then (i,s) :: (j,t) :: r else (j,t) :: du r i s
def dP (L:IL) (i:Int):IL:=L.filter λx=>!(x.1 == i)
theorem Cu {L:IL} {s:aE} {x:Int × aE}:x∈du L i s↔x=(i,s)\/x∈L:=by
 induction L with
 | nil=>simp [du]
 | cons y r ih=>
  obtain ⟨j,t⟩:=y;unfold du
  split
  .simp
  rw [U3,ih,U3];constructor
  .rintro (h|h|h)
   .exact .inr (.inl h)
   .exact .inl h
   exact .inr (.inr h)
  rintro (h|h|h)
  .exact .inr (.inl h)
  .exact .inl h
  exact .inr (.inr h)
theorem y1_ {L:IL} {k:Int} {s:aE}:k∈ids (du L i s)↔k=i\/k∈ids L:=by
 unfold ids;simp only [VC];constructor
 .rintro ⟨x,hx,rfl⟩;rcases Cu.1 hx with rfl|hx
  .exact .inl rfl
  exact .inr ⟨x,hx,rfl⟩
 rintro (rfl|⟨x,hx,rfl⟩)
 .exact ⟨_,Cu.2 (.inl rfl),rfl⟩
 exact ⟨x,Cu.2 (.inr hx),rfl⟩
theorem R3 {L:IL} {s:aE} (h:je L) (hn:i ∉ ids L):je (du L i s):=by
 induction L with
 | nil=>unfold je ids du;simp
 | cons y r ih=>
  obtain ⟨j,t⟩:=y;have h1:ids ((j,t) :: r)=j :: ids r:=rfl;unfold je at h;rw [h1,N4] at h;have hnj:i≠j:=λe=>hn (by rw [h1,e];simp);have Bc:i ∉ ids r:=λe=>hn (by rw [h1];exact P5 _ e);unfold du
  split
  .rename_i hlt;show (i :: j :: ids r).Pairwise (· < ·);refine N4.2 ⟨λk hk=>?_,N4.2 h⟩;rcases U3.1 hk with rfl|hk
   .exact hlt
   have:=h.1 k hk;omega
  show (j :: ids (du r i s)).Pairwise (· < ·);refine N4.2 ⟨λk hk=>?_,ih h.2 Bc⟩;rcases y1_.1 hk with rfl|hk
  .omega
  exact h.1 k hk
theorem Yp {L:IL} {x:Int × aE}:x∈dP L i↔x∈L/\x.1≠i:=by
 unfold dP;rw [N7];simp
theorem Yo {L:IL} (h:je L):je (dP L i):=by
 unfold je ids dP at *;exact h.sublist (List.Sublist.map _ q8t)
theorem WM {L:IL} (h:je L) {x y:Int × aE} (hx:x∈L) (hy:y∈L) (e:x.1=y.1):x=y:=by
 obtain ⟨i,hi,rfl⟩:=MA.1 hx;obtain ⟨j,hj,rfl⟩:=MA.1 hy;unfold je ids at h;rw [zf,yJ] at h;rcases U4 i j with h1|h1|h1
 .have:=h i j hi hj h1;omega
 .subst h1;rfl
 have:=h j i hj hi h1;omega
def eG (s:aE) (a b:Int):Prop:=a<b/\∃ x,iN s x/\x.frm<b/\a<x.fin
open Classical in
noncomputable def ka (L:IL) (a b:Int):List Int:=ids (L.filter λx=>decide (eG x.2 a b))
theorem ve_ {L:IL} {b k:Int}:k∈ka L a b↔∃ s,(k,s)∈L/\eG s a b:=by
 unfold ka ids;simp only [VC,N7,OB];constructor
 .rintro ⟨⟨k',s⟩,⟨h1,h2⟩,rfl⟩;exact ⟨s,h1,h2⟩
 rintro ⟨s,h1,h2⟩;exact ⟨(k,s),⟨h1,h2⟩,rfl⟩
inductive jL (s:aE):IL->List Int->Int->Prop
 | nil:jL s [] [] 0
 | yes {i:Int} {t:aE} {L:IL} {l:List Int} (h:oB t s true 0) (hl:jL s L l 0):jL s ((i,t) :: L) (i :: l) 0
 | no {i:Int} {t:aE} {L:IL} {l:List Int} (h:oB t s false 0) (hl:jL s L l 0):jL s ((i,t) :: L) l 0
 | bad {i:Int} {t:aE} {L:IL} {r:Bool} {e:Int} (h:oB t s r e) (he:e≠0):jL s ((i,t) :: L) [] e
 | late {i:Int} {t:aE} {L:IL} {r:Bool} {e:Int} (h:oB t s r 0) (hl:jL s L [] e) (he:e≠0):jL s ((i,t) :: L) [] e
theorem jL.unique {s:aE} {L:IL} {l':List Int} {e':Int} (h:jL s L l e) (g:jL s L l' e'):l=l'/\e=e':=by
 induction h generalizing l' e' with
 | nil=>cases g;exact ⟨rfl,rfl⟩
 | yes h hl ih=>
  cases g with
  | yes g gl=>have:=ih gl;exact ⟨by rw [this.1],rfl⟩
  | no g gl=>exact absurd (h.unique g).1 aG
  | bad g ge=>exact absurd (h.unique g).2.symm ge
  | late g gl ge=>exact absurd (ih gl).2.symm ge
 | no h hl ih=>
  cases g with
  | yes g gl=>exact absurd (h.unique g).1 aG
  | no g gl=>have:=ih gl;exact ⟨this.1,rfl⟩
  | bad g ge=>exact absurd (h.unique g).2.symm ge
  | late g gl ge=>exact absurd (ih gl).2.symm ge
 | bad h he=>
  cases g with
  | yes g gl=>exact absurd (h.unique g).2 he
  | no g gl=>exact absurd (h.unique g).2 he
  | bad g ge=>exact ⟨rfl,(h.unique g).2⟩
  | late g gl ge=>exact absurd (h.unique g).2 he
 | late h hl he ih=>
  cases g with
  | yes g gl=>exact absurd (ih gl).2 he
  | no g gl=>exact absurd (ih gl).2 he
  | bad g ge=>exact absurd (h.unique g).2.symm ge
  | late g gl ge=>exact ⟨rfl,(ih gl).2⟩
def jk (L:IL) (f:Int) (i:Int) (x:ai) (b:Bool):Prop:=
 (b=true/\(∃ s,(i,s)∈L/\ez (iN s) f x true/\∀ j t y,(j,t)∈L->ez (iN t) f y true->¬ bo y x/\(j<i->bo x y))) \/
 (b=false/\i=0/\x=⟨0,0,0⟩/\∀ j t y,(j,t)∈L->¬ ez (iN t) f y true)
theorem jk.unique {L:IL} {j:Int} {x y:ai} {c:Bool} (h:jk L f i x b) (g:jk L f j y c):i=j/\x=y/\b=c:=by
 rcases h with ⟨rfl,s,h1,h2,h3⟩|⟨rfl,rfl,rfl,h1⟩ <;> rcases g with ⟨rfl,t,g1,g2,g3⟩|⟨rfl,rfl,rfl,g1⟩
 .have a:=h3 j t y g1 g2;have b:=g3 i s x h1 h2;have exy:x=y:=bo.eq_of b.1 a.1;subst exy;refine ⟨?_,rfl,rfl⟩;rcases XD i j with e|e|e
  .exact absurd (b.2 e) bo.irrefl
  .exact e
  exact absurd (a.2 e) bo.irrefl
 .exact absurd h2 (g1 i s x h1)
 .exact absurd g2 (h1 j t y g1)
 exact ⟨rfl,rfl,rfl⟩
end
end Kal
namespace Go.Proofs.YtbmgmlbmgogeaaaGreat
section
open Go.RowKit Go.Maps Kal
theorem z2_ (n:Int):(n.tmod 1440<0->n.tdiv 1440-1=n / 1440)/\(0<=n.tmod 1440->n.tdiv 1440=n / 1440):=by
 have hq:=q7q n 1440;have hr:=(Ky n 1440 aG).2.2;generalize n.tdiv 1440=q at *;generalize n.tmod 1440=r at *;omega
theorem xs_ (n:Int) (w:World) (hn:aS n) :
  Calls Tryz.prog 111 #[.int .i64 n,.int .i64 1440] w λe w'=>e=.returned (.tuple #[.int .i64 (n / 1440),.int .i64 0])/\w=w':=by
 obtain ⟨k1,k2⟩:=hn;obtain ⟨h1,h2⟩:=z2_ n;have H1:=af h1;have H2:=af h2;have b1:-9223372036854775807<=n.tdiv 1440/\n.tdiv 1440<=9223372036854775807:=by
  by_cases h:n.tmod 1440<0
  .have:=h1 h;omega
  have:=h2 ad;omega
 obtain ⟨b2,b3⟩:=b1;clear h1 h2
 go_in
 go_wp2
 .go_ret2;exact ⟨by rw [H1.o (by assumption)];rfl,rfl⟩
 go_ret2;exact ⟨by rw [H2.o (by assumption)];rfl,rfl⟩
theorem Aj (x lo hi:Int) (w:World) :
  Calls Tryz.prog 48 #[.int .i64 x,.int .i64 lo,.int .i64 hi] w λe w'=>e=.returned (.bool (decide (lo<=x/\x<=hi)))/\w=w':=by
 by_cases h1:lo<=x
 .by_cases h2:x<=hi
  .go_in
   go_wp2;go_ret;exact ⟨bX (by simp [h1,h2]),rfl⟩
  go_in
  go_wp2;go_ret;exact ⟨bX (by simp [h1,h2]),rfl⟩
 go_in
 go_wp2;go_ret;exact ⟨bX aR,rfl⟩
theorem Fb (n:Int) (w:World) (hn:aS n) :
  Calls Tryz.prog 62 #[.int .i64 n] w λe w'=>e=.returned (.int .i64 (n / 1440))/\w=w':=by
 have H:=λW=>xs_ n W hn;obtain ⟨k1,k2⟩:=hn;generalize n / 1440=q at *
 go_in
 go_wp2_with (go_at_call 111;refine (H _).mono ?_;rintro e w1 ⟨rfl,rfl⟩)
 go_ret;exact ⟨rfl,rfl⟩
theorem Xs (a1 a2 a3:Option Addr) (n1 c1 n2 c2 n3 c3:Nat) (len mi d:Int) (w:World) (h1:1<=len) (h2:len<=10080) (h3:-4320<=mi) (h4:mi<=4320) (hd:aS d) :
  Calls Tryz.prog 63 #[.agg #[.slice a1 n1 c1,.int .i64 len,.slice a2 n2 c2],.agg #[.slice a3 n3 c3,.int .i64 mi],.int .i64 d] w λe w'=>e=.returned (.bool (decide (d*1440+mi+len<=2251799813685248)))/\Below w.heap.size w w':=by
 obtain ⟨k1,k2⟩:=hd;have e:decide (d*1440+mi+len<=2251799813685248)=decide (d<=(2251799813685248-mi-len) / 1440):=by
  rw [decide_eq_decide];omega
 rw [e];clear e;have g0:0<=2251799813685248-mi-len:=ad
 go_in
 go_wp2;go_ret;exact ⟨rfl,xE⟩
theorem O3 (a1 a2 a3:Option Addr) (n1 c1 n2 c2 n3 c3:Nat) (len mi d:Int) (w:World) (h1:1<=len) (h2:len<=10080) (h3:-4320<=mi) (h4:mi<=4320) (h5:-4503599627370496<=d) (h6:d<=4503599627370496) :
  Calls Tryz.prog 64 #[.agg #[.slice a1 n1 c1,.int .i64 len,.slice a2 n2 c2],.agg #[.slice a3 n3 c3,.int .i64 mi],.int .i64 d] w λe w'=>e=.returned (.agg #[.int .i64 d,.int .i64 (d*1440+mi),.int .i64 (d*1440+mi+len)])/\Below w.heap.size w w':=by
 go_in
 go_wp2;exact VN (v:=.agg #[.int .i64 d,.int .i64 (d*1440+mi),.int .i64 (d*1440+mi+len)]) (by simp [results,Tryz.results64,go_sem]) rfl ⟨rfl,xE⟩
theorem Pb (a b c d:Int) (w:World) :
  Calls Tryz.prog 66 #[.agg #[.int .i64 a,.int .i64 b],.agg #[.int .i64 c,.int .i64 d]] w λe w'=>e=.returned (.bool (decide (eH a b c d)))/\Below w.heap.size w w':=by
 by_cases h1:a<d
 .by_cases h2:c<b
  .go_in
   go_wp2;go_ret;exact ⟨bX (by simp [eH,h1,h2]),xE⟩
  go_in
  go_wp2;go_ret;exact ⟨bX (by simp [eH,h1,h2]),xE⟩
 go_in
 go_wp2;go_ret;exact ⟨bX (P9 (by unfold eH;omega)).symm,xE⟩
def cV (x y:Int):Int:=if x<y then -1 else if y<x then 1 else 0
theorem RW (x:Int) (w:World) :
  Calls Tryz.prog 127 #[.int .i64 x] w λe w'=>e=.returned (.bool false)/\w=w':=by
 go_in
 go_wp2;go_ret;exact ⟨bX aj,rfl⟩
theorem Cj (x y:Int) (w:World) :
  Calls Tryz.prog 94 #[.int .i64 x,.int .i64 y] w λe w'=>e=.returned (.int .i64 (cV x y))/\w=w':=by
 by_cases h1:x<y
 .have e:cV x y=-1:=by unfold cV;rw [if_pos h1]
  rw [e];clear e
  go_in
  go_wp2_with (go_at_call 127;refine (RW _ _).mono ?_;rintro e w1 ⟨rfl,rfl⟩)
  go_ret;exact ⟨rfl,rfl⟩
 by_cases h2:y<x
 .have e:cV x y=1:=by unfold cV;rw [if_neg h1,if_pos h2]
  rw [e];clear e
  go_in
  go_wp2_with (go_at_call 127;refine (RW _ _).mono ?_;rintro e w1 ⟨rfl,rfl⟩)
  go_ret;exact ⟨rfl,rfl⟩
 have e:cV x y=0:=by unfold cV;rw [if_neg h1,if_neg h2]
 rw [e];clear e
 go_in
 go_wp2_with (go_at_call 127;refine (RW _ _).mono ?_;rintro e w1 ⟨rfl,rfl⟩)
 go_ret;exact ⟨rfl,rfl⟩
def tX (x y z:Int):Int:=if x≠0 then x else if y≠0 then y else z
theorem Zk (x y:ai):tX (cV x.frm y.frm) (cV x.day y.day) (cV x.fin y.fin)=dH x y:=by
 unfold tX cV dH
 repeat' split
 all_goals omega
theorem Oj (b c:Nat) (x y z:Int) (w:World) (hb:qK w b #[.int .i64 x,.int .i64 y,.int .i64 z]) :
  Calls Tryz.prog 93 #[.slice (some ⟨b,0,none⟩) 3 c] w λe w'=>e=.returned (.int .i64 (tX x y z))/\Below w.heap.size w w':=by
 have c0:w.cell? ⟨b,0,none⟩=some (.int .i64 x):=hb 0;have c1:w.cell? ⟨b,0+1,none⟩=some (.int .i64 y):=hb 1;have c2:w.cell? ⟨b,0+2,none⟩=some (.int .i64 z):=hb 2;clear hb
 go_in
 go_wp2
 go_loopw [8] (λi wr=>∃ k:Nat,k<=3/\i=.int .i64 k/\Hid ((0<k->x=0)/\(1<k->y=0)/\(2<k->z=0))/\Below w.heap.size w wr) (λi _=>3-(intOf i).toNat)
 .exact ⟨0,ad,rfl,af ⟨ad,ad,ad⟩,xE⟩
 obtain ⟨k,hk,rfl,HK,hb⟩:=hrel;have c0:=an.cell hb c0;have c1:=an.cell hb c1;have c2:=an.cell hb c2;by_cases hlt:k<3
 .have cP:(k:Int)<3:=ad;obtain ⟨u,hu,hcell⟩:∃ u,Hid ((k=0->u=x)/\(k=1->u=y)/\(k=2->u=z))/\wr.cell? ⟨b,0+k,none⟩=some (.int .i64 u):=by
   match k,hlt with
   | 0,_=>exact ⟨x,af ⟨λ_=>rfl,ad,ad⟩,c0⟩
   | 1,_=>exact ⟨y,af ⟨ad,λ_=>rfl,ad⟩,c1⟩
   | 2,_=>exact ⟨z,af ⟨ad,ad,λ_=>rfl⟩,c2⟩
  simp only [S1] at hcell;clear c0 c1 c2;by_cases h0:u=0
  .have e0:(u == 0)=true:=by simpa using h0
   have e1:(u != 0)=false:=by simp [h0]
   have H0:=af h0;clear h0;go_wp2;go_roundw
   .refine ⟨k+1,ad,by go_num,af ?_,xE⟩;obtain ⟨g1,g2,g3⟩:=hu.o;obtain ⟨f1,f2,f3⟩:=HK.o;have:=H0.o;refine ⟨λh=>?_,λh=>?_,λh=>?_⟩
    .by_cases e:k=0
     .rw [<- g1 e];exact this
     exact f1 ad
    .by_cases e:k=1
     .rw [<- g2 e];exact this
     exact f2 ad
    by_cases e:k=2
    .rw [<- g3 e];exact this
    exact f3 ad
   simp [intOf];omega
  have e0:(u == 0)=false:=by simpa using h0
  have e1:(u != 0)=true:=by simp [h0]
  have H0:=af h0;clear h0;go_wp2;go_ret;refine ⟨qg ?_,xE⟩;obtain ⟨g1,g2,g3⟩:=hu.o;obtain ⟨f1,f2,f3⟩:=HK.o;have h0:=H0.o;unfold tX
  match k,hlt with
  | 0,_=>rw [<- g1 rfl,if_pos h0]
  | 1,_=>rw [if_neg (by have:=f1 ad;omega),<- g2 rfl,if_pos h0]
  | 2,_=>rw [if_neg (by have:=f1 ad;omega),if_neg (by have:=f2 ad;omega),g3 rfl]
 obtain rfl:k=3:=ad;go_wp2;go_ret;refine ⟨qg ?_,xE⟩;obtain ⟨f1,f2,f3⟩:=HK.o;unfold tX;rw [if_neg (by have:=f1 ad;omega),if_neg (by have:=f2 ad;omega),f3 ad]
theorem XV (x y:ai) (w:World) :
  Calls Tryz.prog 50 #[bQ x,bQ y] w λe w'=>e=.returned (.int .i64 (dH x y))/\Below w.heap.size w w':=by
 rw [<- Zk];obtain ⟨xd,xf,xt⟩:=x;obtain ⟨yd,yf,yt⟩:=y;have H1:=af (λW=>Cj xf yf W);have H2:=af (λW=>Cj xd yd W);have H3:=af (λW=>Cj xt yt W);have HO:=af (λb c p q r W h=>Oj b c p q r W h);show Calls _ _ #[.agg #[.int .i64 xd,.int .i64 xf,.int .i64 xt],.agg #[.int .i64 yd,.int .i64 yf,.int .i64 yt]] _ λe w'=>e=.returned (.int .i64 (tX (cV xf yf) (cV xd yd) (cV xt yt)))/\_;generalize cV xf yf=p at *;generalize cV xd yd=q at *;generalize cV xt yt=r at *
 go_in
 go_upto_region 1 with (fail)
 generalize hW:(w.alloc _).alloc _=w2;have hE:Below w.heap.size w w2:=by rw [<- hW];exact xE
 have hbx:ag w2 w.heap.size #[.int .i64 xd,.int .i64 xf,.int .i64 xt] 46:=by rw [<- hW];exact (ag.at rfl).alloc _
 have hby:ag w2 (w.heap.size+1) #[.int .i64 yd,.int .i64 yf,.int .i64 yt] 46:=by rw [<- hW];exact ag.at aj
 have x0:=(hbx.cells 0).1;have x1:=(hbx.cells 1).1;have x2:=(hbx.cells 2).1;have y0:=(hby.cells 0).1;have y1:=(hby.cells 1).1;have y2:=(hby.cells 2).1;have HE:=af hE;clear hW hbx hby hE;refine jE (w0:=w2) [0,1,2,3,4,5,6,7,8,9,10,11,12,13,14,15,16,17,18] [19,20,21] (λv=>⟨#[.agg #[.int .i64 xd,.int .i64 xf,.int .i64 xt],.agg #[.int .i64 yd,.int .i64 yf,.int .i64 yt],.pointer (some ⟨w.heap.size,0,none⟩),.pointer (some ⟨w.heap.size+1,0,none⟩),.int .i64 0,v 0,v 1,v 2,v 3,v 4,v 5,v 6,v 7,v 8,v 9,v 10,v 11,v 12,v 13,v 14,v 15,v 16,v 17,v 18,undef,undef],[]⟩) [.pointer (some ⟨w.heap.size,1,none⟩),.pointer (some ⟨w.heap.size,1,none⟩),.int .i64 xf,.pointer (some ⟨w.heap.size+1,1,none⟩),.pointer (some ⟨w.heap.size+1,1,none⟩),.int .i64 yf,.int .i64 p,.pointer (some ⟨w.heap.size,0,none⟩),.int .i64 xd,.pointer (some ⟨w.heap.size+1,0,none⟩),.int .i64 yd,.int .i64 q,.pointer (some ⟨w.heap.size,1,none⟩),.pointer (some ⟨w.heap.size,2,none⟩),.int .i64 xt,.pointer (some ⟨w.heap.size+1,1,none⟩),.pointer (some ⟨w.heap.size+1,2,none⟩),.int .i64 yt,.int .i64 r] (λW=>W.cell? ⟨w.heap.size,0,none⟩=some (.int .i64 xd)/\W.cell? ⟨w.heap.size,1,none⟩=some (.int .i64 xf)/\W.cell? ⟨w.heap.size,2,none⟩=some (.int .i64 xt)/\W.cell? ⟨w.heap.size+1,0,none⟩=some (.int .i64 yd)/\W.cell? ⟨w.heap.size+1,1,none⟩=some (.int .i64 yf)/\W.cell? ⟨w.heap.size+1,2,none⟩=some (.int .i64 yt)) (λW hb=>⟨an.cell hb x0,an.cell hb x1,an.cell hb x2,an.cell hb y0,an.cell hb y1,an.cell hb y2⟩) ?steps ?fin
 case steps=>
  refine .c [] rfl ?_ (.c [0] rfl ?_ (.c [1] rfl ?_ (.c [] rfl ?_ (.c [3] rfl ?_ (.c [4] rfl ?_ (.c [2,5] rfl ?_ (.c [] rfl ?_ (.c [7] rfl ?_ (.c [] rfl ?_ (.c [9] rfl ?_ (.c [8,10] rfl ?_ (.c [] rfl ?_ (.c [12] rfl ?_ (.c [13] rfl ?_ (.c [] rfl ?_ (.c [15] rfl ?_ (.c [16] rfl ?_ (.c [14,17] rfl ?_ (.n)))))))))))))))))));all_goals try exact jX
  all_goals
   rintro v W hb ⟨g0,g1,g2,g3,g4,g5⟩;refine .inl ⟨rfl,λK hK=>?_⟩;simp only [ov,aD,Nat.reduceBEq,cond_true,cond_false];go_wp2_with (first|(go_at_call 94;(with_reducible refine (H1.o _).mono ?_);rintro e w9 ⟨rfl,h9⟩;have bg:Below W.heap.size W w9:=h9 ▸ JV _ _;clear h9)|(go_at_call 94;(with_reducible refine (H2.o _).mono ?_);rintro e w9 ⟨rfl,h9⟩;have bg:Below W.heap.size W w9:=h9 ▸ JV _ _;clear h9)|(go_at_call 94;(with_reducible refine (H3.o _).mono ?_);rintro e w9 ⟨rfl,h9⟩;have bg:Below W.heap.size W w9:=h9 ▸ JV _ _;clear h9));exact aQ (hK w9 bg) (by simp [ov,aD])
 case fin=>
  rintro W2 hb2 g0;show wpList _ _ _ [_,_,_] _ _;simp only [aD];go_wp2_with (go_at_call 93;(refine (HO.o _ _ _ _ _ _ (λi=>((ag.new _ _ _).cells i).1)).mono ?_);rintro e w5 ⟨rfl,hb5⟩);go_ret;exact ⟨rfl,Et HE.o xE⟩
end
end Go.Proofs.YtbmgmlbmgogeaaaGreat
end
namespace Go
section
open Go.RowKit
variable {P:Program}
def uY {α:Type} (P:Program) (g:Nat) (lb:Array Value) (encs:α->Array Value) (Kp:World->World->Prop) (x:Option Nat) (Ey:List α->α->World->Prop) (Fin:List α->Prop) (w:World):Prop:=
 ∀ (l:Nat) (J Jx:List α->World->Prop) (W:World),Below w.heap.size w W->F4 x J->F4 x Jx->
  (∀ pre y W1,J pre W1->Ey pre y W1->YieldAt Fence.wide 0 P l (encs y) W1 λe W'=>
   (e=.returned (.bool true)/\J (pre ++ [y]) W'/\Kp W1 W')\/(e=.returned (.bool false)/\Jx (pre ++ [y]) W'))->
  J [] W->
  CallsIn Fence.wide 0 P g (#[.func (.yield l) #[] #[]] ++ lb) W λe W'=>(∃ v,e=.returned v)/\((∃ xs,Fin xs/\J xs W')\/(∃ pre,Jx pre W'))
theorem E6 {α:Type} {g:Operand} {ps:Array Tmp} {assign body:Code} {Q:Exit->Act->World->Prop} {a:Act} {w:World}
  {gf:Nat} {lb:Array Value} (hg:a.eval g=.func (.func gf) #[] lb) (eg:∀ args w,(callFunc gf args).run P w=.ok (.enter gf args) w)
  {encs:α->Array Value} {Kp:World->World->Prop} {x:Option Nat} {Ey:List α->α->World->Prop} {Fin:List α->Prop} (hseq:uY P gf lb encs Kp x Ey Fin w)
  (hKt:∀ {A B C:World},Kp A B->Kp B C->Kp A C) (hKb:∀ (W:World) (l:Nat) (o o':Obj),w.heap.size<=l->W.heap[l]? = some o->o.isCells=false->Kp W (W.putObj l o')) (hKg:∀ (W W':World),w.heap.size<=W.heap.size->W.grownBy W' none->Kp W W') (pE:∀ y,(encs y).size=ps.size)
  (I:List α->World->Prop) (Ix:Code->List α->World->Prop) (hI:dO w.heap.size x I) (hIx:∀ c,dO w.heap.size x (Ix c))
  (vL:∀ pre y (W:World) (l:Nat) (o o':Obj),W.heap[l]? = some o->o.isCells=false->Ey pre y W->Ey pre y (W.putObj l o')) (hEg:∀ pre y (W W':World),W.grownBy W' none->Ey pre y W->Ey pre y W') (h0:I [] w)
  (Ax:α->Act->World->Prop) (hAx:∀ y a' (W:World) (l:Nat) (o o':Obj),w.heap.size<=l->W.heap[l]? = some o->o.isCells=false->Ax y a' W->Ax y a' (W.putObj l o'))
  (hassign:∀ (l:Nat) (pre:List α) (y:α) (W:World) (K:Act->World->Prop),w.heap.size<=W.heap.size->I pre W->Ey pre y W->(∀ a' W',W.grownBy W' none->Ax y a' W'->K a' W')->
   assign.wpIn (Fence.wide.inRound l) 0 P (Exit.then K (λ_ _ _=>False)) { tmps:=(ps.zip (encs y)).foldl (λt (p,v)=>t.setIfInBounds p v) a.tmps,defers:=[] } W)
  (hbody:∀ (l:Nat) (pre:List α) (y:α) (a':Act) (W:World),I pre W->Ey pre y W->Ax y a' W->body.wpIn (Fence.wide.inRound l) 0 P (ownPostG w.heap.size Kp I Ix (pre ++ [y]) W) a' W)
  (hdone:∀ (D:Nat) (xs:List α) (W:World),w.heap.size<=D->Fin xs->I xs W->W.heap[D]? = some (.deferred (some []))->Q .normal { a with defers:={ target:=.collected D,args:=#[] } :: a.defers } W)
  (hstop:∀ (D:Nat) (c:Code) (pre:List α) (W:World),w.heap.size<=D->Ix c pre W->W.heap[D]? = some (.deferred (some []))->c.wpIn Fence.wide 0 P Q { a with defers:={ target:=.collected D,args:=#[] } :: a.defers } W) :
  (Code.rangeFunc g ps assign body).wpIn Fence.wide 0 P Q a w:=by
 refine wpIn_rangeFunc ?_;intro fn hfn;obtain ⟨rec,bS⟩:∃ rec:LoopState->Option Code->Loop,rec=λst pe=>{ state:=st,pending:=pe,fn,tmps:=a.tmps,params:=ps,assign,body,defers:=w.heap.size }:=⟨_,rfl⟩;obtain ⟨W1,hW1⟩:∃ W1,(w.alloc (.deferred (some []))).alloc (.loop (rec .ready none))=W1:=⟨_,rfl⟩;have gn:W1.heap[w.heap.size+1]? = some (.loop (rec .ready none)):=by
  rw [<- hW1];have:=DP (w.alloc (.deferred (some []))) (.loop (rec .ready none));rwa [U7] at this
 have FC:W1.heap[w.heap.size]? = some (.deferred (some [])):=by
  rw [<- hW1];exact (DN _ _ _ aj).trans (DP w _)
 have Fz:I [] W1:=by rw [<- hW1];exact hI.alloc _ (hI.alloc _ h0)
 have hb1:Below w.heap.size w W1:=by
  rw [<- hW1];exact (((JV _ w).alloc (TZ _) _).alloc aj _)
 refine ⟨w.heap.size+1,[{ target:=.collected w.heap.size,args:=#[] }],W1,{ target:=.fn (.func gf) lb,args:=#[.func (.yield (w.heap.size+1)) #[] #[]] },W1,gf,
  #[.func (.yield (w.heap.size+1)) #[] #[]] ++ lb,W1,?_,?_,?_,?_,(λh=>by cases h),?_⟩
 .rw [<- hW1,bS];exact q9a _ _ _ _ _
 .simp only [resolve,hg];simp [go_sem]
 .intro f' _;trivial
 .simp [invoke,go_sem,eg]
 have d_:∀ {A B:World} {row:Option Nat} {l:Nat} {o:Obj},A.grownBy B row->(∀ r,row=some r->x=some r/\∃ o:Obj,A.heap[r]? = some o/\o.isCells=true)->A.heap[l]? = some o->o.isCells=false->B.heap[l]? = some o:=
  λ{A B row l o} fe hr hl ho=>by
   refine (fe.block l (Q0.1 hl).1 λe=>?_).trans hl;obtain ⟨_,o2,ho2,hc⟩:=hr l e.symm;rw [hl] at ho2;cases ho2;rw [ho] at hc;cases hc
 refine (hseq (w.heap.size+1)
  (λpre W=>I pre W/\W.heap[w.heap.size+1]? = some (.loop (rec .ready none))/\W.heap[w.heap.size]? = some (.deferred (some [])))
  (λpre W=>∃ c,Ix c pre W/\W.heap[w.heap.size+1]? = some (.loop (rec .done (some c)))/\W.heap[w.heap.size]? = some (.deferred (some [])))
  W1 hb1
  (λs A B row hs fe hr=>⟨hI s A B row hs.1 fe (λr e=>.inl (hr r e)),d_ fe hr hs.2.1 rfl,d_ fe hr hs.2.2 rfl⟩)
  (λs A B row hs fe hr=>by
   obtain ⟨c,hc,hl,hk⟩:=hs;exact ⟨c,hIx c s A B row hc fe (λr e=>.inl (hr r e)),d_ fe hr hl rfl,d_ fe hr hk rfl⟩)
  ?_ ⟨Fz,gn,FC⟩).mono ?_
 .rintro pre y W ⟨hi,hl,hk⟩ hlen;have hlt:w.heap.size+1<W.heap.size:=(Q0.1 hl).1;have hy:=run_yield (P:=P) (args:=encs y) hl (by rw [bS];exact pE y);rw [bS] at hy;refine ⟨fn,_,assign,body,hy,roundIn_of_wpIn hfn (hassign _ pre y W _ ad hi hlen ?_)⟩;clear hy;intro a' Wa AY hax;have hka:Kp W Wa:=hKg W Wa ad AY;have hia:=hI pre W Wa none hi AY (λr e=>by cases e);have Qp:=hEg pre y W Wa AY hlen;have yq:Wa.heap[w.heap.size+1]? = some (.loop (rec .ready none)):=(AY.block _ hlt aj).trans hl;have q2o:Wa.heap[w.heap.size]? = some (.deferred (some [])):=(AY.block _ ad aj).trans hk;have q4f:w.heap.size+1<Wa.heap.size:=(Q0.1 yq).1;clear hi hl hk hlen hlt;refine ⟨_,run_beginRound yq (by rw [bS]),?_⟩;have hl2:(Wa.putObj (w.heap.size+1) (.loop { rec .ready none with state:=.busy })).heap[w.heap.size+1]? = some (.loop { rec .ready none with state:=.busy }):=Z5 q4f;have hk2:(Wa.putObj (w.heap.size+1) (.loop { rec .ready none with state:=.busy })).heap[w.heap.size]? = some (.deferred (some [])):=(N3 ad).trans q2o;have hw2:Kp W (Wa.putObj (w.heap.size+1) (.loop { rec .ready none with state:=.busy })):=hKt hka (hKb _ _ _ _ ad yq rfl);refine wpIn_mono (hbody _ pre y a' _ (hI.putObj _ hia ad yq rfl) (vL _ _ _ _ _ _ yq rfl Qp) (hAx _ _ _ _ _ _ ad yq rfl hax)) ?_;have fin:∀ (jump:Option Code) (W3:World),KeepsFrom w.heap.size (Wa.putObj (w.heap.size+1) (.loop { rec .ready none with state:=.busy })) W3->
    (Instr.endRound (w.heap.size+1) jump).run P W3=.ok (.bool jump.isNone) (W3.putObj (w.heap.size+1) (.loop (rec (if jump.isNone then .ready else .done) jump)))/\
    W3.heap[w.heap.size+1]? = some (.loop { rec .ready none with state:=.busy })/\
    (W3.putObj (w.heap.size+1) (.loop (rec (if jump.isNone then .ready else .done) jump))).heap[w.heap.size+1]? = some (.loop (rec (if jump.isNone then .ready else .done) jump))/\
    (W3.putObj (w.heap.size+1) (.loop (rec (if jump.isNone then .ready else .done) jump))).heap[w.heap.size]? = some (.deferred (some [])):=λjump W3 hk3=>by
   have hl3:=hk3.same _ _ ad hl2 rfl;have:=run_endRound (P:=P) jump hl3;rw [bS] at this ⊢;exact ⟨this,by rw [bS] at hl3;exact hl3,Z5 (Q0.1 hl3).1,(N3 ad).trans (hk3.same _ _ (TZ _) hk2 rfl)⟩
  rintro e a3 W3 hp;cases e with
  | normal=>
   obtain ⟨hk3,ss,gp⟩:=hp;obtain ⟨hr,hl3,hl4,hk4⟩:=fin none W3 hk3;exact ⟨_,_,hr,.inl ⟨rfl,⟨hI.putObj _ gp ad hl3 rfl,hl4,hk4⟩,hKt (hKt hw2 ss) (hKb _ _ _ _ ad hl3 rfl)⟩⟩
  | ret=>
   obtain ⟨hk3,gp⟩:=hp;obtain ⟨hr,hl3,hl4,hk4⟩:=fin (some .ret) W3 hk3;exact ⟨_,_,hr,.inr ⟨rfl,.ret,(hIx _).putObj _ gp ad hl3 rfl,hl4,hk4⟩⟩
  | exit id=>
   obtain ⟨hk3,gp⟩:=hp;obtain ⟨hr,hl3,hl4,hk4⟩:=fin (some (.exit id)) W3 hk3;exact ⟨_,_,hr,.inr ⟨rfl,.exit id,(hIx _).putObj _ gp ad hl3 rfl,hl4,hk4⟩⟩
  | goto t=>
   obtain ⟨hk3,gp⟩:=hp;obtain ⟨hr,hl3,hl4,hk4⟩:=fin (some (.goto t)) W3 hk3;exact ⟨_,_,hr,.inr ⟨rfl,.goto t,(hIx _).putObj _ gp ad hl3 rfl,hl4,hk4⟩⟩
  | panic ch=>exact hp.elim
  | outgrown=>exact hp.elim
 rintro e W2 ⟨⟨v,rfl⟩,(⟨xs,hS,hi,hl,hk⟩|⟨pre,c,hi,hl,hk⟩)⟩
 .exact ⟨none,_,by have:=run_endLoop (P:=P) hl (by rw [bS];simp);rw [bS] at this;exact this,hdone _ xs _ (TZ _) hS (hI.putObj _ hi ad hl rfl) ((N3 ad).trans hk)⟩
 exact ⟨some c,_,by have:=run_endLoop (P:=P) hl (by rw [bS];simp);rw [bS] at this;exact this,hstop _ c pre _ (TZ _) ((hIx c).putObj _ hi ad hl rfl) ((N3 ad).trans hk)⟩
end
end Go
section
variable {b:Bool}{a d e f i len s:Int}{m:List (List Kal.Per)}{l ml:List Int}{L:List Go.Proofs.YtbmgmlbmgogeaaaGreat.PV}{B c k n:Nat}{cv v:Go.Value}{A C W W' w:Go.World}
namespace Go.Proofs.YtbmgmlbmgogeaaaGreat
section
open Go.RowKit Go.Shelf Go.Maps Kal
attribute [local go_sem] GC
theorem Yl (a1 a2 a3:Option Addr) (n1 c1 n2 c2 n3 c3:Nat) (len mi a b:Int) (w:World) :
  Calls Tryz.prog 65 #[.agg #[.slice a1 n1 c1,.int .i64 len,.slice a2 n2 c2],.agg #[.slice a3 n3 c3,.int .i64 mi],.agg #[.int .i64 a,.int .i64 b]] w λe w'=>
   e=.returned (.func (.func 112) #[] #[.pointer (some ⟨w.heap.size+2,0,none⟩),.pointer (some ⟨w.heap.size,0,none⟩),.pointer (some ⟨w.heap.size+1,0,none⟩)])/\
   w'=((w.alloc (.cells #[.slice a1 n1 c1,.int .i64 len,.slice a2 n2 c2] 43)).alloc (.cells #[.slice a3 n3 c3,.int .i64 mi] 59)).alloc (.cells #[.int .i64 a,.int .i64 b] 29):=by
 go_in
 go_wp2;go_ret;exact ⟨rfl,rfl⟩
theorem YJ (s:Int) (F:Nat->Prop) (v:Value) (m:List (List Per)) (f d:Int) (ok:Bool) (w:World) (h1:aF w F v m) (k1:MV s m) (hf:aS f) (h0:0<=f) (hN:eh cH (aW m) f d ok) :
  Calls Tryz.prog 61 #[.agg #[v],.int .i64 f] w λe w'=>e=.returned (.tuple #[.int .i64 d,.bool ok])/\Below w.heap.size w w':=
 (w4_ s F v m f w h1 k1 hf).mono λe w' ⟨n,b,he,hn,hb⟩=>by
  rw [show max f 0=f by omega] at hn;obtain ⟨rfl,rfl⟩:=hn.unique hN;exact ⟨he,hb⟩
theorem aF.kp {pb F:Nat->Prop} {B:World} (h:aF A F v m) (hF:∀ k,F k->pb k) (hk:de pb A B):aF B F v m:=h.keep2 (λb hb _=>hk b (hF b hb))
structure vC (S:Int->Prop) (t:Int) (pre:List Int):Prop where
 en:xN S pre
 lt:∀ e∈pre,e<t
 all:∀ x,S x->x<t->x∈pre
theorem vC.start {S:Int->Prop} {t:Int} (h:∀ x,S x->t<=x):vC S t []:=⟨xN.nil,aj,λx hx hlt=>by have:=h x hx;omega⟩
theorem vC.next {S:Int->Prop} {t:Int} {pre:List Int} (h:vC S t pre) (hd:S d) (ht:t<=d) (hn:∀ x,t<=x->x<d->¬ S x):vC S (d+1) (pre ++ [d]):=by
 refine ⟨h.en.snoc h.lt h.all ht hd hn,λe he=>?_,λx hx hlt=>?_⟩
 .rcases VJ.1 he with he|he
  .have:=h.lt e he;omega
  obtain rfl:e=d:=by simpa using he
  omega
 by_cases h1:x<t
 .exact MK _ (h.all x hx h1)
 rcases XD x d with h2|h2|h2
 .exact absurd hx (hn x ad h2)
 .subst h2;simp
 omega
theorem vC.done {S:Int->Prop} {t:Int} {pre:List Int} (h:vC S t pre) (hn:∀ x,t<=x->¬ S x):Z2 S pre:=
 ⟨h.en.rise,λd=>⟨h.en.all d,λhd=>by
  by_cases h1:d<t
  .exact h.all d hd h1
  exact absurd hd (hn d ad)⟩⟩
theorem Yn (F pb:Nat->Prop) (a1 a2 a3:Option Addr) (n1 c1 n2 c2 c3 sb cb wb:Nat) (w:World) (s:aE) (c:ey) (a b:Int)
  (hm:aF w F (.slice a3 c.days.length c3) c.days) (km:MV 0 c.days) (hF:∀ k,F k->pb k) (bN:∀ k,pb k->k<w.heap.size)
  (hs:ag w sb #[.slice a1 n1 c1,.int .i64 s.len,.slice a2 n2 c2] 43) (hc:ag w cb #[.slice a3 c.days.length c3,.int .i64 c.min] 59) (hw:ag w wb #[.int .i64 a,.int .i64 b] 29)
  (g1:pb sb) (g2:pb cb) (g3:pb wb) (fA:1<=s.len) (hl2:s.len<=10080) (hm1:-4320<=c.min) (ix:c.min<=4320) (ha1:-2251799813700000<=a) (ha2:a<=2251799813700000) (hb1:-2251799813700000<=b) (hb2:b<=2251799813700000) :
  uY Tryz.prog 112 #[.pointer (some ⟨wb,0,none⟩),.pointer (some ⟨sb,0,none⟩),.pointer (some ⟨cb,0,none⟩)] (λd:Int=>#[.int .i64 d]) (de pb) none (λpre d _=>xN (fD s c a b) (pre ++ [d])) (Z2 (fD s c a b)) w:=by
 intro l' J Jx W hW hJ AC hY rP;have Bp:ag W sb _ _:=hs.below hW;have P_:ag W cb _ _:=hc.below hW;have Ro:ag W wb _ _:=hw.below hW;have Vt:aF W F (.slice a3 c.days.length c3) c.days:=hm.ext hW;clear hs hc hw hm;have gA:=af (λk (h:pb k)=>N6 (bN k h) hW.size);have hne:∀ t∈c.days,t≠[]:=λt ht=>(km.vt t ht).ne;have HJ:=af hJ;have HY:=af hY;have HM:=af Vt;have HKM:=af km;have jg:=af hne;have HF:=af hF;have HS:=af Bp;have HC:=af P_;have HW:=af Ro;have s1:=(Bp.cells 1).1;have w0:=(Ro.cells 0).1;have m1:=(P_.cells 1).1;obtain ⟨f0,hf0⟩:∃ f0,f0=max 0 ((a-s.len-c.min) / 1440+1):=⟨_,rfl⟩;have hfb:0<=f0/\f0<=4398046511104:=ad;have HST:=af (vC.start (S:=fD s c a b) (t:=f0) (λx hx=>by
  have h0:=E5 hne hx.1;have h1:=hx.2.2.1;rw [hf0];omega))
 have Tw:=af hf0;have zj:=af (show aS (a-s.len-c.min) from ⟨ad,ad⟩);clear hJ hY Vt km hne hF Bp P_ Ro AC hf0 bN hW;obtain ⟨gG,hf2⟩:=hfb;refine K6 Tryz.func112 rfl trivial ?_ rfl;simp only [Tryz.ntmps112,NG,MH,M4,Nat.reduceAdd,Nat.reduceSub,N0,K7,Q3,QG,L4,S5];gi_wp2_with (refine ⟨trivial,rfl,?_⟩;gi_at_call 62;refine (VL.2 (Fb _ _ zj.o)).mono ?_;rintro e w' ⟨rfl,rfl⟩);rw [<- Tw.o];gi_loopw [5] (λvf wr=>∃ (t:Int) (pre:List Int),vf=.int .i64 t/\0<=t/\t<=4398046511104/\f0<=t/\Hid (vC (fD s c a b) t pre)/\J pre wr/\de pb W wr) (λvf _=>(4398046511104-intOf vf).toNat)
 .exact ⟨f0,[],rfl,gG,hf2,VI _,HST,rP,λ_ _=>rfl⟩
 obtain ⟨t,pre,rfl,oO,yC,sL,HD,dK,hK⟩:=hrel;have HK:=af hK;have ri:=af (λk (h:pb k)=>show k<wr.heap.size from by
  have h1:=hK k h;rw [zo (gA.o k h)] at h1;exact (Q0.1 h1).1)
 have jy:=af dK;have r0:=hK.cell (a:=⟨wb,0,none⟩) g3 w0;have r1:=hK.cell (a:=⟨wb,1,none⟩) g3 (HW.o.cells 1).1;have r2:=hK.cell (a:=⟨sb,0,none⟩) g1 (HS.o.cells 0).1;have r3:=hK.cell (a:=⟨sb,1,none⟩) g1 s1;have r4:=hK.cell (a:=⟨sb,2,none⟩) g1 (HS.o.cells 2).1;have r5:=hK.cell (a:=⟨cb,0,none⟩) g2 (HC.o.cells 0).1;have r6:=hK.cell (a:=⟨cb,1,none⟩) g2 m1;have ly:=HM.o.kp HF.o hK;obtain ⟨d,ok,hN⟩:=YL cH t (aW c.days);have fu:=af (YJ 0 F _ _ t d ok wr ly HKM.o ⟨ad,ad⟩ oO hN);have HN:=af hN;clear hK dK ly hN s1 w0 m1;have FB:=λw1 (hb:Below wr.heap.size wr w1)=>HJ.o pre wr w1 none jy.o (World.grownBy.of_below hb none) (λr e=>by cases e);have qU:=af FB;clear FB;cases ok with
 | false=>
  have hno:∀ x,t<=x->¬ fD s c a b x:=λx hx hS=>by
   rcases HN.o with ⟨h,_⟩|⟨_,_,h⟩
   .cases h
   have h1:=hS.2.1;unfold Hy at h1;exact h x hx (by unfold cH;omega) hS.1
  have gO:=af hno;clear hno;gi_wp2_with (first|(refine ⟨trivial,rfl,?_⟩;gi_at_call 61;refine (VL.2 fu.o).mono ?_;rintro e w1 ⟨rfl,hb1⟩;have bm:=af hb1;have q0:=an.cell hb1 r0;have q1:=an.cell hb1 r1;have q2:=an.cell hb1 r2;have q3:=an.cell hb1 r3;have q4:=an.cell hb1 r4;have q5:=an.cell hb1 r5;have q6:=an.cell hb1 r6;clear hb1)|(refine ⟨trivial,?_⟩;apply_assumption));refine ⟨λ_ h=>(by cases h),?_⟩
  apply_assumption
  gi_wp2_with fail
  refine VN (QX rfl _ _ _) rfl ?_;exact ⟨⟨_,rfl⟩,.inl ⟨pre,HD.o.done gO.o,qU.o _ bm.o⟩⟩
 | true=>
  have hn:=HN.o;rcases hn with ⟨_,e_,ki,qx,Gj⟩|⟨h,_⟩
  rotate_left
  .cases h
  have hd2':d<=1152921504606846976:=ki;have mD:=af qx;have DZ:=af Gj;have CK:aS d:=⟨ad,ad⟩;have hta:a<d*1440+c.min+s.len:=by have:=Tw.o;omega
  have Cd:=af (λW=>Xs a1 a2 a3 n1 c1 n2 c2 c.days.length c3 s.len c.min d W fA hl2 hm1 ix CK);clear ki qx Gj CK;by_cases hT:d*1440+c.min+s.len<=2251799813685248
  .have HT:=Cd.o;rw [PH hT] at HT;have HT:=af HT;clear Cd;by_cases hB:d*1440+c.min<b
   .have hS:fD s c a b d:=⟨mD.o,hT,hta,hB⟩;have iy:=HD.o.next hS e_ λx h1 h2 h3=>DZ.o x h1 h2 h3.1;have Mj:=af iy;have DF:=af iy.en;clear iy hS;gi_wp2_with (first|(refine ⟨trivial,rfl,?_⟩;gi_at_call 61;refine (VL.2 fu.o).mono ?_;rintro e w1 ⟨rfl,hb1⟩;have bm:=af hb1;have q0:=an.cell hb1 r0;have q1:=an.cell hb1 r1;have q2:=an.cell hb1 r2;have q3:=an.cell hb1 r3;have q4:=an.cell hb1 r4;have q5:=an.cell hb1 r5;have q6:=an.cell hb1 r6;clear hb1)|(refine ⟨trivial,rfl,?_⟩;gi_at_call 63;refine (VL.2 (HT.o _)).mono ?_;rintro e w2 ⟨rfl,hb2⟩;have bl:=af (Et bm.o hb2);have p0:=an.cell hb2 q0;have p1:=an.cell hb2 q1;have p2:=an.cell hb2 q2;have p3:=an.cell hb2 q3;have p4:=an.cell hb2 q4;have p5:=an.cell hb2 q5;have p6:=an.cell hb2 q6;have hJ2:=qU.o w2 bl.o;obtain ⟨fn,tmps,assign,body,i_,hR⟩:=HY.o pre d w2 hJ2 DF.o;have HR:=af hR;clear hR hJ2;clear hb2));refine ⟨rfl,HR.o.mono ?_⟩;rintro e W' (⟨rfl,gS,eQ⟩|⟨rfl,fK⟩)
    .have uy:=af gS;have te:=af eQ;clear gS eQ
     gi_wp2
     go_roundw
     .exact ⟨d+1,pre ++ [d],rfl,ad,ad,ad,Mj,uy.o,(HK.o.trans (λk h=>bl.o.block k (ri.o k h))).trans te.o⟩
     simp [intOf];omega
    gi_wp2
    refine VN (QX rfl _ _ _) rfl ?_;exact ⟨⟨_,rfl⟩,.inr ⟨_,fK⟩⟩
   have hno:∀ x,t<=x->¬ fD s c a b x:=λx hx hS=>by
    by_cases hxd:x<d
    .exact DZ.o x hx hxd hS.1
    have:=hS.2.2.2;omega
   have gO:=af hno;clear hno;gi_wp2_with (first|(refine ⟨trivial,rfl,?_⟩;gi_at_call 61;refine (VL.2 fu.o).mono ?_;rintro e w1 ⟨rfl,hb1⟩;have bm:=af hb1;have q0:=an.cell hb1 r0;have q1:=an.cell hb1 r1;have q2:=an.cell hb1 r2;have q3:=an.cell hb1 r3;have q4:=an.cell hb1 r4;have q5:=an.cell hb1 r5;have q6:=an.cell hb1 r6;clear hb1)|(refine ⟨trivial,rfl,?_⟩;gi_at_call 63;refine (VL.2 (HT.o _)).mono ?_;rintro e w2 ⟨rfl,hb2⟩;have bl:=af (Et bm.o hb2);have p0:=an.cell hb2 q0;have p1:=an.cell hb2 q1;have p2:=an.cell hb2 q2;have p3:=an.cell hb2 q3;have p4:=an.cell hb2 q4;have p5:=an.cell hb2 q5;have p6:=an.cell hb2 q6;clear hb2)|(refine ⟨trivial,?_⟩;apply_assumption));refine ⟨λ_ h=>(by cases h),?_⟩
   apply_assumption
   gi_wp2_with fail
   refine VN (QX rfl _ _ _) rfl ?_;exact ⟨⟨_,rfl⟩,.inl ⟨pre,HD.o.done gO.o,qU.o _ bl.o⟩⟩
  have HT:=Cd.o;rw [P9 hT] at HT;have HT:=af HT;have hno:∀ x,t<=x->¬ fD s c a b x:=λx hx hS=>by
   by_cases hxd:x<d
   .exact DZ.o x hx hxd hS.1
   have h1:=hS.2.1;unfold Hy at h1;omega
  have gO:=af hno;clear hno Cd;gi_wp2_with (first|(refine ⟨trivial,rfl,?_⟩;gi_at_call 61;refine (VL.2 fu.o).mono ?_;rintro e w1 ⟨rfl,hb1⟩;have bm:=af hb1;have q0:=an.cell hb1 r0;have q1:=an.cell hb1 r1;have q2:=an.cell hb1 r2;have q3:=an.cell hb1 r3;have q4:=an.cell hb1 r4;have q5:=an.cell hb1 r5;have q6:=an.cell hb1 r6;clear hb1)|(refine ⟨trivial,rfl,?_⟩;gi_at_call 63;refine (VL.2 (HT.o _)).mono ?_;rintro e w2 ⟨rfl,hb2⟩;have bl:=af (Et bm.o hb2);have p0:=an.cell hb2 q0;have p1:=an.cell hb2 q1;have p2:=an.cell hb2 q2;have p3:=an.cell hb2 q3;have p4:=an.cell hb2 q4;have p5:=an.cell hb2 q5;have p6:=an.cell hb2 q6;clear hb2)|(refine ⟨trivial,?_⟩;apply_assumption));refine ⟨λ_ h=>(by cases h),?_⟩
  apply_assumption
  gi_wp2_with fail
  refine VN (QX rfl _ _ _) rfl ?_;exact ⟨⟨_,rfl⟩,.inl ⟨pre,HD.o.done gO.o,qU.o _ bl.o⟩⟩
end
section
open Go.RowKit Go.Shelf Go.Maps Kal
attribute [local go_sem] GC
structure cK (pb:Nat->Prop) (n:Nat) (A B:World):Prop where
 pb:de pb A B
 own:∀ (k:Nat) (o:Obj),n<=k->A.heap[k]? = some o->o.isCells=true->B.heap[k]? = some o
 size:A.heap.size<=B.heap.size
theorem cK.refl {pb:Nat->Prop}:cK pb n A A:=⟨de.refl _ _,λ_ _ _ h _=>h,TZ _⟩
theorem cK.trans {pb:Nat->Prop} {B:World} (h:cK pb n A B) (g:cK pb n B C):cK pb n A C:=⟨h.pb.trans g.pb,λk o hk ho hc=>g.own k o hk (h.own k o hk ho hc) hc,NN h.size g.size⟩
theorem cK.below {pb:Nat->Prop} {B:World} (h:Below A.heap.size A B) (hp:∀ k,pb k->k<A.heap.size):cK pb n A B:=
 ⟨λk hk=>h.block k (hp k hk),λk o hk ho hc=>(h.block k (Q0.1 ho).1).trans ho,h.size⟩
theorem cK.putObj {pb:Nat->Prop} (bN:∀ k,pb k->k<n) (W:World) (l:Nat) (o o':Obj) (hl:n<=l) (ho:W.heap[l]? = some o) (hc:o.isCells=false):cK pb n W (W.putObj l o'):=
 ⟨de.putObj bN W l o o' hl ho hc,λk o2 hk ho2 hc2=>by
  have hne:k≠l:=λe=>by subst e;rw [ho] at ho2;cases ho2;rw [hc] at hc2;cases hc2
  exact (N3 hne).trans ho2,by simp [World.putObj]⟩
theorem cK.grown {pb:Nat->Prop} (bN:∀ k,pb k->k<n) (W W':World) (hn:n<=W.heap.size) (hg:W.grownBy W' none):cK pb n W W':=
 ⟨λk hk=>hg.block k (by have:=bN k hk;omega) aj,λk o hk ho hc=>(hg.block k (Q0.1 ho).1 aj).trans ho,hg.size⟩
theorem cK.box {pb:Nat->Prop} {b:Nat} {B:World} {c:Array Value} {t:TypeId} (h:cK pb n A B) (hb:n<=b) (hx:ag A b c t):ag B b c t:=h.own b _ hb hx rfl
theorem cK.boxP {pb:Nat->Prop} {b:Nat} {B:World} {c:Array Value} {t:TypeId} (h:cK pb n A B) (hb:pb b) (hx:ag A b c t):ag B b c t:=(h.pb b hb).trans hx
theorem ua_ (a1 a2:Option Addr) (n1 c1 n2 c2:Nat) (len:Int) (x:ai) (w:World) :
  Calls Tryz.prog 100 #[.agg #[.slice a1 n1 c1,.int .i64 len,.slice a2 n2 c2],bQ x] w λe w'=>
   e=.returned (.func (.func 131) #[] #[.pointer (some ⟨w.heap.size,0,none⟩),.pointer (some ⟨w.heap.size+1,0,none⟩)])/\
   w'=(w.alloc (.cells #[.slice a1 n1 c1,.int .i64 len,.slice a2 n2 c2] 43)).alloc (.cells #[.int .i64 x.day,.int .i64 x.frm,.int .i64 x.fin] 46):=by
 go_in
 go_wp2;go_ret;exact ⟨rfl,rfl⟩
def tC (s:aE) (x y:ai):Prop:=Z3 s y/\eH x.frm x.fin y.frm y.fin
structure mN (s:aE) (x:ai) (k:Nat) (t:Int) (pre:List ai):Prop where
 is:∀ y∈pre,tC s x y
 all:∀ j y,j<k->j<s.cls.length->kX s (s.cls.getD j default) y->eH x.frm x.fin y.frm y.fin->y∈pre
 row:∀ y,kX s (s.cls.getD k default) y->eH x.frm x.fin y.frm y.fin->y.day<t->y∈pre
theorem mN.start {s:aE} {x:ai} {t:Int} (ht:∀ y,kX s (s.cls.getD 0 default) y->eH x.frm x.fin y.frm y.fin->t<=y.day):mN s x 0 t []:=
 ⟨aj,λj y h=>ad,λy h1 h2 h3=>by have:=ht y h1 h2;omega⟩
theorem mN.skip {s:aE} {x:ai} {t:Int} {pre:List ai} (h:mN s x k t pre) (hn:¬ aW (s.cls.getD k default).days t):mN s x k (t+1) pre:=
 ⟨h.is,h.all,λy h1 h2 h3=>by
  by_cases e:y.day=t
  .exact absurd (e ▸ h1.1) hn
  exact h.row y h1 h2 ad⟩
theorem mN.take {s:aE} {x:ai} {t:Int} {pre:List ai} (h:mN s x k t pre) (hk:k<s.cls.length) (hm:aW (s.cls.getD k default).days t) (hc:eH x.frm x.fin (t*1440+(s.cls.getD k default).min) (t*1440+(s.cls.getD k default).min+s.len)) :
  tC s x (lM s (s.cls.getD k default) t)/\mN s x k (t+1) (pre ++ [lM s (s.cls.getD k default) t]):=by
 have h0:tC s x (lM s (s.cls.getD k default) t):=⟨⟨_,by rw [fx hk];exact NS hk,hm,rfl⟩,hc⟩;refine ⟨h0,λy hy=>?_,λj y h1 h2 h3 h4=>MK _ (h.all j y h1 h2 h3 h4),λy h1 h2 h3=>?_⟩
 .rcases VJ.1 hy with hy|hy
  .exact h.is y hy
  obtain rfl:y=_:=by simpa using hy
  exact h0
 by_cases e:y.day=t
 .refine q7w _ ?_;have:=h1.2;rw [e] at this;simp [this]
 exact MK _ (h.row y h1 h2 ad)
theorem mN.round {s:aE} {x:ai} {t t':Int} {pre:List ai} (h:mN s x k t pre) (hd:∀ y,kX s (s.cls.getD k default) y->eH x.frm x.fin y.frm y.fin->y.day<t) (ht:∀ y,kX s (s.cls.getD (k+1) default) y->eH x.frm x.fin y.frm y.fin->t'<=y.day):mN s x (k+1) t' pre:=
 ⟨h.is,λj y h1 h2 h3 h4=>by
  by_cases e:j=k
  .subst e;exact h.row y h3 h4 (hd y h3 h4)
  exact h.all j y ad h2 h3 h4,λy h1 h2 h3=>by have:=ht y h1 h2;omega⟩
theorem mN.done {s:aE} {x:ai} {t:Int} {pre:List ai} (h:mN s x s.cls.length t pre):∀ y,y∈pre↔tC s x y:=λy=>by
 refine ⟨h.is y,λ⟨⟨c,hc,ho⟩,hcl⟩=>?_⟩;obtain ⟨j,hj,rfl⟩:=tu (d:=default) hc;exact h.all j y hj hj ho hcl
theorem y0_ (h:MV s m) (n:Int):pt m n=true↔aW m n:=by
 have hv:=h.val;unfold pt;rw [hv,Bool.true_and,G8];constructor
 .rintro ⟨t,ht,h1⟩;exact ⟨t,ht,(CA λp hp=>((h.vt t ht).fv p hp).validB).1 h1⟩
 rintro ⟨t,ht,h1⟩;exact ⟨t,ht,(CA λp hp=>((h.vt t ht).fv p hp).validB).2 h1⟩
def oe (s:aE) (x:ai) (k:Nat):Int:=max 0 ((x.frm-s.len-(s.cls.getD k default).min) / 1440+1)
structure bO (s:aE):Prop where
 val:nE ef s
 mv:∀ c∈s.cls,MV 0 c.days
theorem bO.min {s:aE} (h:bO s) {c:ey} (hc:c∈s.cls):-4320<=c.min/\c.min<=4320:=(h.val.cl hc).2
theorem bO.ne {s:aE} (h:bO s) {c:ey} (hc:c∈s.cls):∀ t∈c.days,t≠[]:=λt ht=>((h.mv c hc).vt t ht).ne
theorem bO.lows {s:aE} (h:bO s) (x:ai) (k:Nat):∀ y,kX s (s.cls.getD k default) y->eH x.frm x.fin y.frm y.fin->oe s x k<=y.day:=by
 intro y hy hc;by_cases hk:k<s.cls.length
 .have h0:=E5 (h.ne (c:=s.cls.getD k default) (by rw [fx hk];exact NS hk)) hy.1;have h1:=hc.1;rw [hy.2] at h1;have:x.frm<y.day*1440+(s.cls.getD k default).min+s.len:=h1;unfold oe;omega
 have:s.cls.getD k default=default:=by rw [VS,DS ad];rfl
 rw [this] at hy;exact absurd hy.1 YI
theorem ub_ (F pb:Nat->Prop) (a1 a2:Option Addr) (c1 n2 c2 sb xb n:Nat) (L:List br) (w:World) (s:aE) (x:ai)
  (hS:eV w F (.slice a1 L.length c1) (.slice a2 n2 c2) L s) (hv:bO s) (hF:∀ k,F k->pb k) (bN:∀ k,pb k->k<n) (hn:n<=w.heap.size)
  (hs:ag w sb #[.slice a1 L.length c1,.int .i64 s.len,.slice a2 n2 c2] 43) (hx:ag w xb #[.int .i64 x.day,.int .i64 x.frm,.int .i64 x.fin] 46)
  (g1:pb sb) (g2:pb xb) (ha1:-2251799813700000<=x.frm) (ha2:x.frm<=2251799813700000) (hb1:-2251799813700000<=x.fin) (hb2:x.fin<=2251799813700000) :
  uY Tryz.prog 131 #[.pointer (some ⟨sb,0,none⟩),.pointer (some ⟨xb,0,none⟩)] (λy:ai=>#[bQ y]) (cK pb n) none (λpre y _=>tC s x y/\∀ z∈pre,tC s x z) (λxs=>∀ y,y∈xs↔tC s x y) w:=by
 intro l' J Jx W hW hJ AC hY rP;have fA:=hv.val.len.1;have hl2:=hv.val.len.2;have UV:=hS.below hW;have Bp:ag W sb _ _:=hs.below hW;have VR:ag W xb _ _:=hx.below hW;have J5:n<=W.heap.size:=NN hn hW.size;have hlen:s.cls.length=L.length:=by rw [<- hS.eq];exact U6 _
 have sy:=hS.cl.len;have HJ:=af hJ;have HY:=af hY;have HST:=af UV;have HV:=af hv;have HF:=af hF;have gA:=af bN;have HS:=af Bp;have HX:=af VR;have eU:=af hlen;have q1z:=af (hv.lows x);have s0:=(Bp.cells 0).1;have LQ:=af (mN.start (s:=s) (x:=x) (hv.lows x 0));clear hJ hY AC hS UV hv hF bN hs hx Bp VR hlen hW hn;refine K6 Tryz.func131 rfl trivial ?_ rfl;simp only [Tryz.ntmps131,NG,MH,M4,Nat.reduceAdd,Nat.reduceSub,N0,K7,Q3,QG,L4,S5];gi_wp2_with fail;clear s0;gi_loopw [5,6,10] (λ_ _ vi wr=>∃ (k:Nat) (pre:List ai),k<=L.length/\vi=.int .i64 k/\Hid (mN s x k (oe s x k) pre)/\J pre wr/\cK pb n W wr) (λ_ _ vi _=>L.length-(intOf vi).toNat)
 .exact ⟨0,[],ad,rfl,LQ,rP,cK.refl⟩
 obtain ⟨k,pre,hk,rfl,HK,dK,bP⟩:=hrel;have dM:=af bP;have jy:=af dK;by_cases hlt:k<L.length
 .have cP:(k:Int)<L.length:=ad;obtain ⟨b,o,a3,c3,m,mi,rfl,dL,e0,e1,hm,mQ,hcl⟩:=(HST.o.cl.keep2 (W':=wr) (λb hb _=>bP.pb b (HF.o b hb))).get hlt;rw [HST.o.eq] at hcl;have hcm:(⟨m,mi⟩:ey)∈s.cls:=by rw [<- hcl,fx (by rw [eU.o];exact hlt)];exact NS _
  obtain ⟨iZ,jS⟩:-4320<=mi/\mi<=4320:=HV.o.min hcm;have iG:=af (HV.o.mv _ hcm);have cS:=af hcl;have oj:=af (show oe s x k=max 0 ((x.frm-s.len-mi) / 1440+1) by unfold oe;rw [hcl]);have zj:=af (show aS (x.frm-s.len-mi) from ⟨ad,ad⟩);have HM:=af hm;have r1:=(bP.boxP g1 HS.o).cells 1;have r2:=(bP.boxP g2 HX.o).cells 1;have r1:=r1.1;have r2:=r2.1;have r1:=dW r1 (.cells #[.slice a3 m.length c3,.int .i64 mi] 59);have r2:=dW r2 (.cells #[.slice a3 m.length c3,.int .i64 mi] 59);have Bc:n<=wr.heap.size:=NN J5 bP.size;clear hm hcm hcl mQ bP dK;gi_wp2_with (refine ⟨trivial,rfl,?_⟩;gi_at_call 62;refine (VL.2 (Fb _ _ zj.o)).mono ?_;rintro e w' ⟨rfl,rfl⟩);rw [<- oj.o];obtain ⟨t0,yB⟩:∃ t0,t0=oe s x k:=⟨_,rfl⟩;have G9:0<=t0/\t0<=4398046511104:=by rw [yB,oj.o];omega
  rw [<- yB] at HK ⊢;have Cd:=af (yB.trans oj.o);obtain ⟨htb1,Rj⟩:=G9;have hJ1:=HJ.o pre wr (wr.alloc (.cells #[.slice a3 m.length c3,.int .i64 mi] 59)) none jy.o (NK _ _ _) (λr e=>by cases e);have hbx:ag (wr.alloc (.cells #[.slice a3 m.length c3,.int .i64 mi] 59)) wr.heap.size #[.slice a3 m.length c3,.int .i64 mi] 59:=ag.at rfl;have cD:=af hbx;have TH:Hid (cK pb n W (wr.alloc (.cells #[.slice a3 m.length c3,.int .i64 mi] 59))):=af (dM.o.trans (cK.below (Ea (Er wr) _) (λk hk=>by have:=gA.o k hk;omega)));have HMW:=af (λ(W':World) (h:de pb wr W')=>HM.o.kp HF.o h);clear hbx e0 e1 r1 r2 yB;obtain ⟨wo,rfl⟩:∃ wo:World,wo=wr:=⟨_,rfl⟩;gi_loopw [6] (λvt wr=>∃ (t:Int) (pre:List ai),vt=.int .i64 t/\t0<=t/\t<=4398046511104/\Hid (mN s x k t pre)/\J pre wr/\Hid (cK pb n wo wr)/\Hid (ag wr wo.heap.size #[.slice a3 m.length c3,.int .i64 mi] 59)) (λvt _=>(4398046511104-intOf vt).toNat)
  .exact ⟨t0,pre,rfl,VI _,Rj,HK,hJ1,af (cK.below (Ea (Er wo) _) (λk hk=>by have:=gA.o k hk;omega)),cD⟩
  obtain ⟨t,pre,rfl,oO,yC,te,dK,DV,HB⟩:=hrel;have zq:=DV;have nk:=af dK;have kI:=DV.o;have p0:=((kI.boxP g1 (dM.o.boxP g1 HS.o)).cells 0).1;have p1:=((kI.boxP g1 (dM.o.boxP g1 HS.o)).cells 1).1;have p2:=((kI.boxP g1 (dM.o.boxP g1 HS.o)).cells 2).1;have p3:=((kI.boxP g2 (dM.o.boxP g2 HX.o)).cells 0).1;have p4:=((kI.boxP g2 (dM.o.boxP g2 HX.o)).cells 1).1;have p5:=((kI.boxP g2 (dM.o.boxP g2 HX.o)).cells 2).1;have p6:=(HB.o.cells 0).1;have p7:=(HB.o.cells 1).1;have ly:=HMW.o wr kI.pb;have ri:=af (λk (h:pb k)=>show k<wr.heap.size from by have:=gA.o k h;have:=kI.size;omega);have FB:=λw1 (hb:Below wr.heap.size wr w1)=>HJ.o pre wr w1 none nk.o (World.grownBy.of_below hb none) (λr e=>by cases e);have qU:=af FB;clear FB kI dK DV;by_cases hf:t*1440+mi<x.fin
  .have hH:=yl_ F (.slice a3 m.length c3) m t wr ly ⟨ad,ad⟩;have hin:pt m t=true↔aW m t:=y0_ iG.o t;obtain ⟨bh,U1⟩:∃ bh,pt m t=bh:=⟨_,rfl⟩;rw [U1] at hH hin;have HH:=af hH;have DQ:=af hin;clear hH hin U1 ly;cases bh
   .have hsk:=te.o.skip (by rw [cS.o];exact λh=>absurd (DQ.o.2 h) aG);have HSK:=af hsk;clear hsk;gi_wp2_with (first|(refine ⟨trivial,rfl,?_⟩;gi_at_call 132;refine (VL.2 HH.o).mono ?_;rintro e w1 ⟨rfl,hb1⟩;have bm:=af hb1;have q0:=an.cell hb1 p0;have q1:=an.cell hb1 p1;have q2:=an.cell hb1 p2;have q3:=an.cell hb1 p3;have q4:=an.cell hb1 p4;have q5:=an.cell hb1 p5;have q6:=an.cell hb1 p6;have q7:=an.cell hb1 p7;clear hb1)|(refine ⟨trivial,?_⟩;apply_assumption));refine ⟨λ_ h=>(by cases h),?_⟩
    apply_assumption
    gi_wp2_with fail
    go_roundw
    .exact ⟨t+1,pre,rfl,ad,ad,HSK,qU.o _ bm.o,af (zq.o.trans (cK.below bm.o ri.o)),af (HB.o.below bm.o)⟩
    simp [intOf];omega
   have oP:=te.o.take (by rw [eU.o];exact hlt) (by rw [cS.o];exact DQ.o.1 rfl) (by rw [cS.o];exact ⟨by have:=Cd.o;show x.frm<t*1440+mi+s.len;omega,hf⟩);rw [cS.o] at oP;have ij:=af oP;have dq:=af (λW=>O3 (some ⟨b,o,none⟩) a2 a3 L.length c1 n2 c2 m.length c3 s.len mi t W fA hl2 iZ jS ad ad);clear oP;gi_wp2_with (first|(refine ⟨trivial,rfl,?_⟩;gi_at_call 132;refine (VL.2 HH.o).mono ?_;rintro e w1 ⟨rfl,hb1⟩;have bm:=af hb1;have q0:=an.cell hb1 p0;have q1:=an.cell hb1 p1;have q2:=an.cell hb1 p2;have q3:=an.cell hb1 p3;have q4:=an.cell hb1 p4;have q5:=an.cell hb1 p5;have q6:=an.cell hb1 p6;have q7:=an.cell hb1 p7;clear hb1)|(refine ⟨trivial,rfl,?_⟩;gi_at_call 64;refine (VL.2 (dq.o _)).mono ?_;rintro e w2 ⟨rfl,hb2⟩;have bl:=af (Et bm.o hb2);have hJ2:=qU.o w2 bl.o;obtain ⟨fn,tmps,assign,body,i_,hR⟩:=HY.o pre (lM s ⟨m,mi⟩ t) w2 hJ2 ⟨ij.o.1,te.o.is⟩;have HR:=af hR;unfold lM at i_;clear hb2 hJ2 hR));refine ⟨rfl,HR.o.mono ?_⟩;rintro e W' (⟨rfl,gS,eQ⟩|⟨rfl,fK⟩)
   .have uy:=af gS;have oi:=af eQ;clear gS eQ
    gi_wp2
    go_roundw
    .exact ⟨t+1,pre ++ [lM s ⟨m,mi⟩ t],rfl,ad,ad,af ij.o.2,uy.o,af ((zq.o.trans (cK.below bl.o ri.o)).trans oi.o),af (oi.o.box Bc (HB.o.below bl.o))⟩
    simp [intOf];omega
   gi_wp2
   refine VN (QX rfl _ _ _) rfl ?_;exact ⟨⟨_,rfl⟩,.inr ⟨_,fK⟩⟩
  have lz:=te.o.round (t':=oe s x (k+1)) (λy hy hc=>by
   rw [cS.o] at hy;have h1:=hc.2;rw [hy.2] at h1;have:y.day*1440+mi<x.fin:=h1;omega) (q1z.o (k+1))
  have MD:=af lz;clear lz ly;gi_wp2_with fail;go_roundw
  .exact ⟨k+1,pre,ad,by go_num,MD,nk.o,dM.o.trans zq.o⟩
  simp [intOf];omega
 obtain rfl:k=L.length:=ad;have hd:=HK.o;have fg:¬ (L.length:Int)<L.length:=ad;gi_wp2_with fail;refine bodyPost_end (QX rfl _ _ _) rfl ?_;refine ⟨⟨_,rfl⟩,.inl ⟨pre,?_,jy.o⟩⟩;rw [<- eU.o] at hd;exact hd.done
end
section
open Go.RowKit Go.Maps Kal
def EP (W:World) (F:Nat->Prop) (x:br):Prop:=aF W F x.v x.m/\aS x.min
theorem mM:rH EP:=⟨λh hk hs=>⟨h.1.keep hk hs,h.2⟩,λh=>⟨h.1.lt,h.2⟩,λh hF=>⟨h.1.mono hF,h.2⟩⟩
def ER (W:World) (F:Nat->Prop) (x:ai):Prop:=jB x
theorem iQ:rH ER:=⟨λh _ _=>h,λh=>h,λh _=>h⟩
structure ba where
 id:Int
 cv:Value
 ev:Value
 s:aE
instance:Inhabited ba:=⟨⟨0,.slice none 0 0,.slice none 0 0,default⟩⟩
def ba.enc (x:ba):List Value:=[.int .i64 x.id,x.cv,.int .i64 x.s.len,x.ev]
theorem ba.enc_len (x:ba):x.enc.length=4:=rfl
def rr (W:World) (F:Nat->Prop) (x:ba):Prop:=bq W F x.cv x.ev x.s/\aS x.id
theorem xC:rH rr:=⟨λh hk hs=>⟨h.1.keep hk hs,h.2⟩,λh=>⟨h.1.lt,h.2⟩,λh hF=>⟨h.1.mono hF,h.2⟩⟩
theorem Jv:rH bD:=⟨λh hk _=>h.keep hk,λh=>h.lt,λh hF=>h.mono hF⟩
def ES (W:World) (F:Nat->Prop) (x:Value × List Per):Prop:=bK W F x.1 x.2
theorem Cq:rH ES:=⟨λh hk hs=>bK.keep h hk hs,λh=>bK.lt h,λh hF=>bK.mono h hF⟩
theorem q7a:∃ i,Tryz.prog.info? 59=some i/\i.zero=some (.agg #[.slice none 0 0,.int .i64 0])/\i.size=2/\i.bytes=32:=by
 have h:(Tryz.prog.info? 59).map (λi=>(i.zero,i.size,i.bytes))=some (some (.agg #[.slice none 0 0,.int .i64 0]),2,32):=by kernel_rfl
 obtain ⟨i,hi,h1,h2,h3⟩:=info_parts h;exact ⟨i,hi,h1,h2,h3⟩
theorem KC:∃ i,Tryz.prog.info? 46=some i/\i.zero=some (.agg #[.int .i64 0,.int .i64 0,.int .i64 0])/\i.size=3/\i.bytes=24:=by
 have h:(Tryz.prog.info? 46).map (λi=>(i.zero,i.size,i.bytes))=some (some (.agg #[.int .i64 0,.int .i64 0,.int .i64 0]),3,24):=by kernel_rfl
 obtain ⟨i,hi,h1,h2,h3⟩:=info_parts h;exact ⟨i,hi,h1,h2,h3⟩
theorem Zb:∃ i,Tryz.prog.info? 68=some i/\i.zero=some (.agg #[.int .i64 0,.slice none 0 0,.int .i64 0,.slice none 0 0])/\i.size=4/\i.bytes=64:=by
 have h:(Tryz.prog.info? 68).map (λi=>(i.zero,i.size,i.bytes))=some (some (.agg #[.int .i64 0,.slice none 0 0,.int .i64 0,.slice none 0 0]),4,64):=by kernel_rfl
 obtain ⟨i,hi,h1,h2,h3⟩:=info_parts h;exact ⟨i,hi,h1,h2,h3⟩
abbrev rq:=aN 59 2 br.enc EP
abbrev dO:=aN 46 3 bH ER
abbrev EN:=aN 80 4 PV.enc bD
theorem xu_ (L:List (Value × List Per)):L.flatMap (λx=>[x.1])=L.map Prod.fst:=by
 induction L with
 | nil=>rfl
 | cons x L ih=>rw [S3,ih];rfl
abbrev EO:=aN 78 1 (λx:Value × List Per=>[x.1]) ES
theorem aN.clsL {A:Nat->Prop} {L:List br} (h:rq B A W v L):ed W (λb=>B<=b/\¬ A b) v L:=
 ⟨h.rowR,by have:=h.len;omega,λx hx=>⟨(h.all x hx).1.mono λb hb=>⟨hb.1,hb.2.1⟩,(h.all x hx).2⟩⟩
theorem aN.extL {A:Nat->Prop} {L:List ai} (h:dO B A W v L):bZ W (λb=>B<=b/\¬ A b) v L:=
 ⟨h.rowR,by have:=h.len;omega,λx hx=>h.all x hx⟩
theorem aN.termL {A:Nat->Prop} (h:EN B A W v L):gR W (λb=>B<=b/\¬ A b) v L:=
 ⟨h.rowR,by have:=h.len;omega,λx hx=>(h.all x hx).mono λb hb=>⟨hb.1,hb.2.1⟩⟩
theorem aN.mixL {A:Nat->Prop} {L:List (Value × List Per)} (h:EO B A W v L):cI W (λb=>B<=b/\¬ A b) v L:=
 ⟨by have:=h.rowR;rw [xu_] at this;exact this,by have:=h.len;omega,λx hx=>bK.mono (h.all x hx) λb hb=>⟨hb.1,hb.2.1⟩⟩
end
end Go.Proofs.YtbmgmlbmgogeaaaGreat
namespace Kal
section
instance (x y:ai):Decidable (bo x y):=by unfold bo;infer_instance
instance:DecidableEq ai:=λx y=>decidable_of_iff (x.day=y.day/\x.frm=y.frm/\x.fin=y.fin) ⟨λh=>ai.ext' h.1 h.2.1 h.2.2,λh=>by subst h;exact ⟨rfl,rfl,rfl⟩⟩
def dw:List ai->ai->List ai
 | [],x=>[x]
 | y :: l,x=>if bo x y then x :: y :: l else y :: dw l x
theorem q5w {a:List ai} {x:ai} (h:∀ y∈a,¬ bo x y) (b:List ai):dw (a ++ b) x=a ++ dw b x:=by
 induction a with
 | nil=>rfl
 | cons y a ih=>
  rw [S5,dw,if_neg (h y aj),ih (λz hz=>h z (by simp [hz]))];rfl
theorem w9_ {a:List ai} {x y:ai} (h:∃ z∈a,bo x z):dw (a ++ [y]) x=dw a x ++ [y]:=by
 induction a with
 | nil=>obtain ⟨z,hz,_⟩:=h;simp at hz
 | cons u a ih=>
  rw [S5,dw,dw];by_cases e:bo x u
  .rw [if_pos e,if_pos e];rfl
  rw [if_neg e,if_neg e];obtain ⟨z,hz,hl⟩:=h;rcases U3.1 hz with rfl|hz
  .exact absurd hl e
  rw [ih ⟨z,hz,hl⟩];rfl
structure gX (l:List ai) (x:ai) (k:Nat) (done:Bool) (out:List ai):Prop where
 no:x ∉ l.take k
 oeq:out=if done then dw (l.take k) x else l.take k
 iff:done=true↔∃ z∈l.take k,bo x z
theorem gX.start (l:List ai) (x:ai):gX l x 0 false []:=⟨aj,aj,aj⟩
theorem gX.here {l:List ai} {x:ai} {out:List ai} (h:gX l x k false out) (hk:k<l.length) (hne:l.getD k default≠x) (hlt:bo x (l.getD k default)):gX l x (k+1) true (out ++ [x] ++ [l.getD k default]):=by
 have e:l.take (k+1)=l.take k ++ [l.getD k default]:=by rw [LF hk,fx hk]
 have hn:∀ y∈l.take k,¬ bo x y:=λy hy hl=>by have:=h.iff.2 ⟨y,hy,hl⟩;cases this
 refine ⟨?_,?_,?_⟩
 .rw [e];intro hm;rcases VJ.1 hm with hm|hm
  .exact h.no hm
  exact hne (N2.1 hm).symm
 .have h1:=h.oeq;rw [if_neg aj] at h1;rw [if_pos rfl,e,q5w hn,h1,dw,if_pos hlt,QL];rfl
 rw [e];exact ⟨λ_=>⟨_,aj,hlt⟩,λ_=>rfl⟩
theorem gX.next {l:List ai} {x:ai} {done:Bool} {out:List ai} (h:gX l x k done out) (hk:k<l.length) (hne:l.getD k default≠x) (hlt:done=true\/¬ bo x (l.getD k default)):gX l x (k+1) done (out ++ [l.getD k default]):=by
 have e:l.take (k+1)=l.take k ++ [l.getD k default]:=by rw [LF hk,fx hk]
 refine ⟨?_,?_,?_⟩
 .rw [e];intro hm;rcases VJ.1 hm with hm|hm
  .exact h.no hm
  exact hne (N2.1 hm).symm
 .cases done with
  | true=>
   have h1:=h.oeq;rw [if_pos rfl] at h1;rw [if_pos rfl,e,w9_ (h.iff.1 rfl),h1]
  | false=>
   have h1:=h.oeq;rw [if_neg aj] at h1;rw [if_neg aj,e,h1]
 rw [e,h.iff];constructor
 .rintro ⟨z,hz,hl⟩;exact ⟨z,by simp [hz],hl⟩
 rintro ⟨z,hz,hl⟩;rcases VJ.1 hz with hz|hz
 .exact ⟨z,hz,hl⟩
 obtain rfl:z=_:=by simpa using hz
 rcases hlt with h1|h1
 .exact h.iff.1 h1
 exact absurd hl h1
theorem gX.done {l:List ai} {x:ai} {done:Bool} {out:List ai} (h:gX l x l.length done out):x ∉ l/\dw l x=if done then out else out ++ [x]:=by
 obtain ⟨h1,h2,h3⟩:=h;rw [OC] at h1 h2 h3;refine ⟨h1,?_⟩;cases done with
 | true=>rw [if_pos rfl] at h2 ⊢;exact h2.symm
 | false=>
  rw [if_neg aj] at h2 ⊢;rw [h2];have:=q5w (a:=l) (x:=x) (λy hy hl=>by have:=h3.2 ⟨y,hy,hl⟩;cases this) [];rw [Q4] at this;rw [this];rfl
def dG (l:List ai) (x:ai):List ai:=if x∈l then l else dw l x
theorem YR {l:List ai} {x y:ai}:y∈dw l x↔y=x\/y∈l:=by
 induction l with
 | nil=>simp [dw]
 | cons u l ih=>
  unfold dw
  split
  .simp
  rw [U3,ih,U3];constructor
  .rintro (h|h|h)
   .exact .inr (.inl h)
   .exact .inl h
   exact .inr (.inr h)
  rintro (h|h|h)
  .exact .inr (.inl h)
  .exact .inl h
  exact .inr (.inr h)
theorem y5_ {l:List ai} {x y:ai}:y∈dG l x↔y=x\/y∈l:=by
 unfold dG
 split
 .rename_i h;exact ⟨.inr,λh1=>h1.elim (λe=>e ▸ h) id⟩
 exact YR
theorem yq_ {l:List ai} {x:ai}:(dw l x).length=l.length+1:=by
 induction l with
 | nil=>rfl
 | cons u l ih=>
  unfold dw
  split
  .rfl
  rw [MH,ih,MH]
theorem YC {l:List ai} {x:ai}:(dG l x).length<=l.length+1:=by
 unfold dG
 split
 .omega
 rw [yq_];omega
def iz (l:List ai):Prop:=l.Pairwise bo
theorem yp_ {l:List ai} {x:ai} (h:iz l) (hx:x ∉ l):iz (dw l x):=by
 induction l with
 | nil=>exact q8x _ _
 | cons u l ih=>
  unfold iz at h;rw [N4] at h;unfold dw
  split
  .rename_i hl;refine N4.2 ⟨λy hy=>?_,N4.2 h⟩;rcases U3.1 hy with rfl|hy
   .exact hl
   exact hl.trans (h.1 y hy)
  rename_i hl;refine N4.2 ⟨λy hy=>?_,ih h.2 (λhm=>hx (by simp [hm]))⟩;rcases YR.1 hy with rfl|hy
  .rcases bo.tri u y with e|e|e
   .exact e
   .exact absurd (by simp [e]) hx
   exact absurd e hl
  exact h.1 y hy
theorem y4_ {l:List ai} {x:ai} (h:iz l):iz (dG l x):=by
 unfold dG
 split
 .exact h
 rename_i hx;exact yp_ h hx
theorem iz.good {l:List ai} (h:iz l) (hg:∀ x∈l,j_ x):∀ i,i<l.length->SK l i:=λi hi=>by
 refine ⟨hg _ (by rw [fx hi];exact NS hi),λj e=>?_⟩;subst e;unfold iz at h;rw [fx hi,fx ad];exact (yJ.1 h) j (j+1) ad hi ad
structure ju (val:List (List Per)->Bool) (l:List ey) (m:Int):Prop where
 good:∀ i,i<l.length->Ia val l i
 last:∀ i,i<l.length->(l.getD i default).min<=m
theorem ju.nil {val:List (List Per)->Bool} {m:Int}:ju val [] m:=⟨λi h=>by simp at h,λi h=>by simp at h⟩
theorem ju.le {val:List (List Per)->Bool} {l:List ey} {m m':Int} (h:ju val l m) (hm:m<=m'):ju val l m':=⟨h.good,λi hi=>ZN (h.last i hi) hm⟩
theorem ju.snoc {val:List (List Per)->Bool} {l:List ey} {m m':Int} {d:List (List Per)} (h:ju val l m) (hm:m<m') (hd:val d=true) (h1:-4320<=m') (h2:m'<=4320):ju val (l ++ [⟨d,m'⟩]) m':=by
 have e1:∀ i,i<l.length->(l ++ [(⟨d,m'⟩:ey)]).getD i default=l.getD i default:=λi hi=>by
  rw [VS,VS,M_ hi]
 have e2:(l ++ [(⟨d,m'⟩:ey)]).getD l.length default=⟨d,m'⟩:=by
  rw [VS,ND (TZ _)];simp
 refine ⟨λi hi=>?_,λi hi=>?_⟩
 .rw [MB,NF] at hi;by_cases hl:i<l.length
  .obtain ⟨g1,g2,g3⟩:=h.good i hl;unfold Ia;rw [e1 i hl];exact ⟨g1,g2,λj e=>by rw [e1 j ad];exact g3 j e⟩
  obtain rfl:i=l.length:=ad;unfold Ia;rw [e2];exact ⟨hd,⟨h1,h2⟩,λj e=>by rw [e1 j ad];have:=h.last j ad;exact Int.lt_of_le_of_lt this hm⟩
 rw [MB,NF] at hi;by_cases hl:i<l.length
 .rw [e1 i hl];have:=h.last i hl;omega
 obtain rfl:i=l.length:=ad;rw [e2];exact VI _
end
end Kal
namespace Go.Proofs.YtbmgmlbmgogeaaaGreat
section
open Go.RowKit Go.Maps Kal
theorem vi_ {x y:ai} (h:bo x y):decide (dH x y >= 0)=false:=P9 λg=>WE.1 g h
theorem vj_ {x y:ai} (h:¬ bo x y):decide (dH x y >= 0)=true:=PH (WE.2 h)
theorem Ab (F:Nat->Prop) (cv ev:Value) (s:aE) (w:World) (h:bq w F cv ev s) :
  Calls Tryz.prog 23 #[.agg #[cv,.int .i64 s.len,ev]] w λe w'=>e=.returned (.bool (H8 ef s))/\Below w.heap.size w w':=by
 obtain ⟨L,h⟩:=h;have Pp:=h.eq;have lx:s.cls.length=L.length:=by rw [<- Pp];exact U6 _
 obtain ⟨ac,cc,rfl⟩:=h.cl.form;obtain ⟨ae,ce,rfl⟩:=h.ex.form;have fA:=h.cl.len;have hl2:=h.ex.len;obtain ⟨lX,tI⟩:=h.len;have HC:=af h.cl;have HX:=af h.ex;have uo:=af Pp;have eU:=af lx;have dq:=λx lo hi W=>Aj x lo hi W;clear h Pp lx;by_cases n1:L.length<=64
 rotate_left
 .have XH:¬ (L.length:Int)<=64:=ad;have KQ:(64:Int)<L.length:=ad
  go_in
  go_wp2_with (go_at_call 48;refine (dq _ _ _ _).mono ?_;rintro e w1 ⟨rfl,rfl⟩)
  go_ret;exact ⟨bX (xF λg=>n1 (by have:=g.ncls;have:=eU.o;omega)).symm,xE⟩
 by_cases n2:1<=s.len/\s.len<=10080
 rotate_left
 .have XH:(L.length:Int)<=64:=ad;have KQ:¬ (64:Int)<L.length:=ad;have n3:decide (1<=s.len/\s.len<=10080)=false:=P9 n2
  go_in
  go_wp2_with (go_at_call 48;refine (dq _ _ _ _).mono ?_;rw [n3];rintro e w1 ⟨rfl,rfl⟩)
  go_ret;exact ⟨bX (xF λg=>n2 g.len).symm,xE⟩
 by_cases n4:s.ext.length<=4096
 rotate_left
 .have XH:(L.length:Int)<=64:=ad;have KQ:¬ (64:Int)<L.length:=ad;have n3:decide (1<=s.len/\s.len<=10080)=true:=PH n2;have KR:(4096:Int)<s.ext.length:=ad
  go_in
  go_wp2_with (go_at_call 48;refine (dq _ _ _ _).mono ?_;rw [n3];rintro e w1 ⟨rfl,rfl⟩)
  go_ret;exact ⟨bX (xF λg=>n4 g.next).symm,xE⟩
 have KQ:¬ (64:Int)<L.length:=ad;have n3:decide (1<=s.len/\s.len<=10080)=true:=PH n2;have KR:¬ (4096:Int)<s.ext.length:=ad;have Sv:decide ((4096:Int)<(s.ext.length:Int))=false:=P9 KR;have pW:=af n2;clear n2
 go_in
 go_wp2_with (go_at_call 48;refine (dq _ _ _ _).mono ?_;rw [n3];rintro e w1 ⟨rfl,rfl⟩)
 clear n3 Sv;have hb0:ag (w.alloc (.cells #[.slice ac L.length cc,.int .i64 s.len,.slice ae s.ext.length ce] 43)) w.heap.size #[.slice ac L.length cc,.int .i64 s.len,.slice ae s.ext.length ce] 43:=ag.at rfl;have cD:=af hb0;clear hb0;go_loopw [3,4,27] (λ_ _ i wr=>∃ k:Nat,k<=L.length/\i=.int .i64 k/\Hid (∀ j,j<k->Ia ef s.cls j)/\Below w.heap.size w wr/\Hid (ag wr w.heap.size #[.slice ac L.length cc,.int .i64 s.len,.slice ae s.ext.length ce] 43)) (λ_ _ i _=>L.length-(intOf i).toNat)
 .exact ⟨0,ad,rfl,af (by intro j hj;omega),by exact xE,cD⟩
 obtain ⟨k,hk,rfl,HK,hb,HB⟩:=hrel;have wG:=hb.size;by_cases hlt:k<L.length
 .have cP:(k:Int)<L.length:=ad;obtain ⟨b,o,a1,c1,m,mi,rfl,dL,e0,e1,hm,mQ,hcl⟩:=(HC.o.keep (aP.below hb) hb.size).get hlt;rw [uo.o] at hcl;have cS:=af hcl;have B6:Hid (∀ j,k=j+1->∃ pm,wr.cell? ⟨b,o+j*2+1,none⟩=some (.int .i64 pm)/\(s.cls.getD j default).min=pm):=af λj hj=>by
   obtain ⟨b',o',_,_,m',pm,jn,_,_,g1,_,_,g2⟩:=(HC.o.keep (aP.below hb) hb.size).get (show j<L.length by omega);injection jn with jn
   injection jn with q1 q2
   subst q1 q2;exact ⟨pm,g1,by rw [<- uo.o,g2]⟩
  have fQ:=af hb;have q0:=(HB.o.cells 0).1;obtain ⟨mi1,mi2⟩:=mQ;have eT:=af (And.intro mi1 mi2);go_upto_region 6 with (fail)
  generalize hW:wr.alloc _=w2;have cE:Below wr.heap.size wr w2:=by rw [<- hW];exact xE
  have hE:Below w.heap.size w w2:=Et hb cE;have hbx:ag w2 wr.heap.size #[.slice a1 m.length c1,.int .i64 mi] 59:=by rw [<- hW];exact ag.at rfl
  have x0:=(hbx.cells 0).1;have x1:=(hbx.cells 1).1;have s0:=((HB.o.below cE).cells 0).1;have HV:=af (λW (g:Below w2.heap.size w2 W)=>tr _ (.slice a1 m.length c1) m W ((hm.ext cE).ext g));have HE:=af hE;have dq:=af (λW=>Aj mi (-4320) 4320 W);have fE:=af (HB.o.below cE);have mB:=af cE;clear hW hbx hE hm HB hb q0 e0 e1 cE;cases kP:ef m with
  | false=>
   rw [kP] at HV;have Ce:=af kP;clear kP;refine jE (w0:=w2) [0,1,2,3,4,5,6,7,8,9,10,11,12,13,14,15,16,17,18,19,20,21,22,23,24,25] [] (λv=>⟨#[.agg #[.slice (some ⟨b,o,none⟩) L.length cc,.int .i64 s.len,.slice ae s.ext.length ce],.pointer (some ⟨w.heap.size,0,none⟩),u2,.int .i64 ↑k,.pointer (some ⟨wr.heap.size,0,none⟩),undef,undef,undef,.pointer (some ⟨w.heap.size,0,none⟩),.slice (some ⟨b,o,none⟩) L.length cc,.int .i64 ↑L.length,.bool false,.bool false,.pointer (some ⟨w.heap.size,1,none⟩),.int .i64 s.len,.bool true,.bool false,.bool false,.bool false,.pointer (some ⟨w.heap.size,2,none⟩),.slice ae s.ext.length ce,.int .i64 ↑s.ext.length,.bool false,.bool false,.pointer (some ⟨w.heap.size,0,none⟩),.slice (some ⟨b,o,none⟩) L.length cc,.int .i64 ↑L.length,.int .i64 ↑k,.bool true,.int .i64 ↑k,.pointer (some ⟨b,o+k*2,none⟩),.agg #[.slice a1 m.length c1,.int .i64 mi],v 0,v 1,v 2,v 3,v 4,v 5,v 6,v 7,v 8,v 9,v 10,v 11,v 12,v 13,v 14,v 15,v 16,v 17,v 18,v 19,v 20,v 21,v 22,v 23,v 24,v 25,u58,undef,undef,undef,undef,undef,undef,undef,undef,undef,undef,undef,undef,undef,undef,undef,undef,undef,undef,undef,undef,undef,undef,undef,undef,undef,undef,undef,undef,undef,undef,undef,undef,undef,undef,undef,undef,undef,undef,undef,undef,undef,undef,undef,undef,undef,undef,undef,undef,undef],[]⟩) [.pointer (some ⟨wr.heap.size,0,none⟩),.agg #[.slice a1 m.length c1],.bool false,.bool true,.bool true,undef,undef,undef,undef,.bool true,.bool true,undef,undef,undef,undef,undef,undef,undef,undef,undef,undef,undef,undef,undef,undef,.bool true] (λW=>W.cell? ⟨wr.heap.size,0,none⟩=some (.slice a1 m.length c1)/\W.cell? ⟨wr.heap.size,1,none⟩=some (.int .i64 mi)/\Below w2.heap.size w2 W) (λW hb=>⟨an.cell hb x0,an.cell hb x1,hb⟩) ?steps ?fin (λj=>match j with|0=>u32|1=>u33|2=>u34|3=>u35|4=>u36|5=>u37|6=>u38|7=>u39|8=>u40|9=>u41|10=>u42|11=>u43|12=>u44|13=>u45|14=>u46|15=>u47|16=>u48|17=>u49|18=>u50|19=>u51|20=>u52|21=>u53|22=>u54|23=>u55|24=>u56|25=>u57|_=>undef)
   case steps=>
    refine .c [] rfl ?_ (.c [0] rfl ?_ (.c [1] rfl ?_ (.c [2] rfl ?_ (.c [3] rfl ?_ (.c [4] rfl ?_ (.c [4,5] rfl ?_ (.c [4,6] rfl ?_ (.c [4,7] rfl ?_ (.c [4,8] rfl ?_ (.c [9] rfl ?_ (.c [10] rfl ?_ (.c [10,11] rfl ?_ (.c [10,12] rfl ?_ (.c [13] rfl ?_ (.c [13,14] rfl ?_ (.c [13] rfl ?_ (.c [13,16] rfl ?_ (.c [13,15,17] rfl ?_ (.c [13,18] rfl ?_ (.c [13,19] rfl ?_ (.c [13] rfl ?_ (.c [13,21] rfl ?_ (.c [13,20,22] rfl ?_ (.c [10,13,23] rfl ?_ (.c [10,24] rfl ?_ (.n))))))))))))))))))))))))));all_goals try exact jX
    all_goals
     rintro v W hb ⟨g0,g1,g2⟩;refine .inl ⟨rfl,λK hK=>?_⟩;simp only [ov,aD,Nat.reduceBEq,cond_true,cond_false];go_wp2_with (go_at_call 49;(with_reducible refine (HV.o _ g2).mono ?_);rintro e w9 ⟨rfl,bg⟩);exact aQ (hK w9 bg) (by simp [ov,aD])
   case fin=>
    rintro W3 hb3 ⟨g0,g1,g2⟩;show wpList _ _ _ [] _ _;simp only [aD];go_wp2;go_ret;refine ⟨bX (xF λg=>?_).symm,Et HE.o hb3⟩;have g3:=(g.cls k (by have:=eU.o;omega)).1;rw [cS.o] at g3;rw [Ce.o] at g3;exact absurd g3 aG
  | true=>
   rw [kP] at HV;have Ce:=af kP;clear kP;by_cases qA:-4320<=mi/\mi<=4320
   rotate_left
   .have hd:decide (-4320<=mi/\mi<=4320)=false:=P9 qA;rw [hd] at dq;have uE:=af qA;clear hd qA;refine jE (w0:=w2) [0,1,2,3,4,5,6,7,8,9,10,11,12,13,14,15,16,17,18,19,20,21,22,23,24,25] [] (λv=>⟨#[.agg #[.slice (some ⟨b,o,none⟩) L.length cc,.int .i64 s.len,.slice ae s.ext.length ce],.pointer (some ⟨w.heap.size,0,none⟩),u2,.int .i64 ↑k,.pointer (some ⟨wr.heap.size,0,none⟩),undef,undef,undef,.pointer (some ⟨w.heap.size,0,none⟩),.slice (some ⟨b,o,none⟩) L.length cc,.int .i64 ↑L.length,.bool false,.bool false,.pointer (some ⟨w.heap.size,1,none⟩),.int .i64 s.len,.bool true,.bool false,.bool false,.bool false,.pointer (some ⟨w.heap.size,2,none⟩),.slice ae s.ext.length ce,.int .i64 ↑s.ext.length,.bool false,.bool false,.pointer (some ⟨w.heap.size,0,none⟩),.slice (some ⟨b,o,none⟩) L.length cc,.int .i64 ↑L.length,.int .i64 ↑k,.bool true,.int .i64 ↑k,.pointer (some ⟨b,o+k*2,none⟩),.agg #[.slice a1 m.length c1,.int .i64 mi],v 0,v 1,v 2,v 3,v 4,v 5,v 6,v 7,v 8,v 9,v 10,v 11,v 12,v 13,v 14,v 15,v 16,v 17,v 18,v 19,v 20,v 21,v 22,v 23,v 24,v 25,u58,undef,undef,undef,undef,undef,undef,undef,undef,undef,undef,undef,undef,undef,undef,undef,undef,undef,undef,undef,undef,undef,undef,undef,undef,undef,undef,undef,undef,undef,undef,undef,undef,undef,undef,undef,undef,undef,undef,undef,undef,undef,undef,undef,undef,undef,undef,undef,undef,undef],[]⟩) [.pointer (some ⟨wr.heap.size,0,none⟩),.agg #[.slice a1 m.length c1],.bool true,.bool false,.bool false,.pointer (some ⟨wr.heap.size,1,none⟩),.int .i64 mi,.bool false,.bool true,.bool true,.bool true,undef,undef,undef,undef,undef,undef,undef,undef,undef,undef,undef,undef,undef,undef,.bool true] (λW=>W.cell? ⟨wr.heap.size,0,none⟩=some (.slice a1 m.length c1)/\W.cell? ⟨wr.heap.size,1,none⟩=some (.int .i64 mi)/\Below w2.heap.size w2 W) (λW hb=>⟨an.cell hb x0,an.cell hb x1,hb⟩) ?steps ?fin (λj=>match j with|0=>u32|1=>u33|2=>u34|3=>u35|4=>u36|5=>u37|6=>u38|7=>u39|8=>u40|9=>u41|10=>u42|11=>u43|12=>u44|13=>u45|14=>u46|15=>u47|16=>u48|17=>u49|18=>u50|19=>u51|20=>u52|21=>u53|22=>u54|23=>u55|24=>u56|25=>u57|_=>undef)
    case steps=>
     refine .c [] rfl ?_ (.c [0] rfl ?_ (.c [1] rfl ?_ (.c [2] rfl ?_ (.c [3] rfl ?_ (.c [4] rfl ?_ (.c [4,5] rfl ?_ (.c [4,6] rfl ?_ (.c [4,7] rfl ?_ (.c [4,8] rfl ?_ (.c [9] rfl ?_ (.c [10] rfl ?_ (.c [10,11] rfl ?_ (.c [10,12] rfl ?_ (.c [13] rfl ?_ (.c [13,14] rfl ?_ (.c [13] rfl ?_ (.c [13,16] rfl ?_ (.c [13,15,17] rfl ?_ (.c [13,18] rfl ?_ (.c [13,19] rfl ?_ (.c [13] rfl ?_ (.c [13,21] rfl ?_ (.c [13,20,22] rfl ?_ (.c [10,13,23] rfl ?_ (.c [10,24] rfl ?_ (.n))))))))))))))))))))))))));all_goals try exact jX
     all_goals
      rintro v W hb ⟨g0,g1,g2⟩;refine .inl ⟨rfl,λK hK=>?_⟩;simp only [ov,aD,Nat.reduceBEq,cond_true,cond_false];go_wp2_with (first|(go_at_call 49;(with_reducible refine (HV.o _ g2).mono ?_);rintro e w9 ⟨rfl,bg⟩)|(go_at_call 48;(with_reducible refine (dq.o _).mono ?_);rintro e w9 ⟨rfl,h9⟩;have bg:Below W.heap.size W w9:=h9 ▸ JV _ _;clear h9));exact aQ (hK w9 bg) (by simp [ov,aD])
    case fin=>
     rintro W3 hb3 ⟨g0,g1,g2⟩;show wpList _ _ _ [] _ _;simp only [aD];go_wp2;go_ret;refine ⟨bX (xF λg=>?_).symm,Et HE.o hb3⟩;have g3:=(g.cls k (by have:=eU.o;omega)).2.1;rw [cS.o] at g3;exact uE.o g3
   have hd:decide (-4320<=mi/\mi<=4320)=true:=PH qA;rw [hd] at dq;have uE:=af qA;clear hd qA;rcases NR k with rfl|ep
   .clear s0;refine jE (w0:=w2) [0,1,2,3,4,5,6,7,8,9,10,11,12,13,14,15,16,17,18,19,20,21,22,23,24,25] [] (λv=>⟨#[.agg #[.slice (some ⟨b,o,none⟩) L.length cc,.int .i64 s.len,.slice ae s.ext.length ce],.pointer (some ⟨w.heap.size,0,none⟩),u2,.int .i64 ↑0,.pointer (some ⟨wr.heap.size,0,none⟩),undef,undef,undef,.pointer (some ⟨w.heap.size,0,none⟩),.slice (some ⟨b,o,none⟩) L.length cc,.int .i64 ↑L.length,.bool false,.bool false,.pointer (some ⟨w.heap.size,1,none⟩),.int .i64 s.len,.bool true,.bool false,.bool false,.bool false,.pointer (some ⟨w.heap.size,2,none⟩),.slice ae s.ext.length ce,.int .i64 ↑s.ext.length,.bool false,.bool false,.pointer (some ⟨w.heap.size,0,none⟩),.slice (some ⟨b,o,none⟩) L.length cc,.int .i64 ↑L.length,.int .i64 ↑0,.bool true,.int .i64 ↑0,.pointer (some ⟨b,o+0*2,none⟩),.agg #[.slice a1 m.length c1,.int .i64 mi],v 0,v 1,v 2,v 3,v 4,v 5,v 6,v 7,v 8,v 9,v 10,v 11,v 12,v 13,v 14,v 15,v 16,v 17,v 18,v 19,v 20,v 21,v 22,v 23,v 24,v 25,u58,undef,undef,undef,undef,undef,undef,undef,undef,undef,undef,undef,undef,undef,undef,undef,undef,undef,undef,undef,undef,undef,undef,undef,undef,undef,undef,undef,undef,undef,undef,undef,undef,undef,undef,undef,undef,undef,undef,undef,undef,undef,undef,undef,undef,undef,undef,undef,undef,undef],[]⟩) [.pointer (some ⟨wr.heap.size,0,none⟩),.agg #[.slice a1 m.length c1],.bool true,.bool false,.bool false,.pointer (some ⟨wr.heap.size,1,none⟩),.int .i64 mi,.bool true,.bool false,.bool false,.bool false,.int .i64 0,.bool false,.bool false,undef,undef,undef,undef,undef,undef,undef,undef,undef,undef,.bool false,.bool false] (λW=>W.cell? ⟨wr.heap.size,0,none⟩=some (.slice a1 m.length c1)/\W.cell? ⟨wr.heap.size,1,none⟩=some (.int .i64 mi)/\Below w2.heap.size w2 W) (λW hb=>⟨an.cell hb x0,an.cell hb x1,hb⟩) ?steps ?fin (λj=>match j with|0=>u32|1=>u33|2=>u34|3=>u35|4=>u36|5=>u37|6=>u38|7=>u39|8=>u40|9=>u41|10=>u42|11=>u43|12=>u44|13=>u45|14=>u46|15=>u47|16=>u48|17=>u49|18=>u50|19=>u51|20=>u52|21=>u53|22=>u54|23=>u55|24=>u56|25=>u57|_=>undef)
    case steps=>
     refine .c [] rfl ?_ (.c [0] rfl ?_ (.c [1] rfl ?_ (.c [2] rfl ?_ (.c [3] rfl ?_ (.c [4] rfl ?_ (.c [4,5] rfl ?_ (.c [4,6] rfl ?_ (.c [4,7] rfl ?_ (.c [4,8] rfl ?_ (.c [9] rfl ?_ (.c [10] rfl ?_ (.c [10,11] rfl ?_ (.c [10,12] rfl ?_ (.c [13] rfl ?_ (.c [13,14] rfl ?_ (.c [13] rfl ?_ (.c [13,16] rfl ?_ (.c [13,15,17] rfl ?_ (.c [13,18] rfl ?_ (.c [13,19] rfl ?_ (.c [13] rfl ?_ (.c [13,21] rfl ?_ (.c [13,20,22] rfl ?_ (.c [10,13,23] rfl ?_ (.c [10,24] rfl ?_ (.n))))))))))))))))))))))))));all_goals try exact jX
     all_goals
      rintro v W hb ⟨g0,g1,g2⟩;refine .inl ⟨rfl,λK hK=>?_⟩;simp only [ov,aD,Nat.reduceBEq,cond_true,cond_false];go_wp2_with (first|(go_at_call 49;(with_reducible refine (HV.o _ g2).mono ?_);rintro e w9 ⟨rfl,bg⟩)|(go_at_call 48;(with_reducible refine (dq.o _).mono ?_);rintro e w9 ⟨rfl,h9⟩;have bg:Below W.heap.size W w9:=h9 ▸ JV _ _;clear h9));exact aQ (hK w9 bg) (by simp [ov,aD])
    case fin=>
     rintro W3 hb3 ⟨g0,g1,g2⟩;show wpList _ _ _ [] _ _;simp only [aD];go_wp2;go_roundw
     .refine ⟨1,ad,by go_num,af λj hj=>?_,Et HE.o hb3,af (fE.o.below hb3)⟩;obtain rfl:j=0:=ad;refine ⟨?_,?_,λj e=>ad⟩
      .rw [cS.o];exact Ce.o
      rw [cS.o];exact uE.o
     simp [intOf];omega
   obtain ⟨j,rfl⟩:∃ j,k=j+1:=⟨k-1,ad⟩;obtain ⟨pm,p1,C0⟩:=B6.o j rfl;have p1:=an.cell mB.o p1;have uN:=af C0;clear C0;obtain ⟨bd,kg⟩:∃ bd,decide (mi<=pm)=bd:=⟨_,rfl⟩;rw [show (((j+1:Nat)):Int)=(j:Int)+1 from rfl];refine jE (w0:=w2) [0,1,2,3,4,5,6,7,8,9,10,11,12,13,14,15,16,17,18,19,20,21,22,23,24,25] [] (λv=>⟨#[.agg #[.slice (some ⟨b,o,none⟩) L.length cc,.int .i64 s.len,.slice ae s.ext.length ce],.pointer (some ⟨w.heap.size,0,none⟩),u2,.int .i64 (↑j+1),.pointer (some ⟨wr.heap.size,0,none⟩),undef,undef,undef,.pointer (some ⟨w.heap.size,0,none⟩),.slice (some ⟨b,o,none⟩) L.length cc,.int .i64 ↑L.length,.bool false,.bool false,.pointer (some ⟨w.heap.size,1,none⟩),.int .i64 s.len,.bool true,.bool false,.bool false,.bool false,.pointer (some ⟨w.heap.size,2,none⟩),.slice ae s.ext.length ce,.int .i64 ↑s.ext.length,.bool false,.bool false,.pointer (some ⟨w.heap.size,0,none⟩),.slice (some ⟨b,o,none⟩) L.length cc,.int .i64 ↑L.length,.int .i64 (↑j+1),.bool true,.int .i64 (↑j+1),.pointer (some ⟨b,o+(j+1)*2,none⟩),.agg #[.slice a1 m.length c1,.int .i64 mi],v 0,v 1,v 2,v 3,v 4,v 5,v 6,v 7,v 8,v 9,v 10,v 11,v 12,v 13,v 14,v 15,v 16,v 17,v 18,v 19,v 20,v 21,v 22,v 23,v 24,v 25,u58,undef,undef,undef,undef,undef,undef,undef,undef,undef,undef,undef,undef,undef,undef,undef,undef,undef,undef,undef,undef,undef,undef,undef,undef,undef,undef,undef,undef,undef,undef,undef,undef,undef,undef,undef,undef,undef,undef,undef,undef,undef,undef,undef,undef,undef,undef,undef,undef,undef],[]⟩) [.pointer (some ⟨wr.heap.size,0,none⟩),.agg #[.slice a1 m.length c1],.bool true,.bool false,.bool false,.pointer (some ⟨wr.heap.size,1,none⟩),.int .i64 mi,.bool true,.bool false,.bool false,.bool false,.int .i64 ((j:Int)+1),.bool true,.bool true,.pointer (some ⟨w.heap.size,0,none⟩),.slice (some ⟨b,o,none⟩) L.length cc,.int .i64 ((j:Int)+1),.int .i64 (j:Int),.pointer (some ⟨b,o+j*2,none⟩),.pointer (some ⟨b,o+j*2+1,none⟩),.int .i64 pm,.pointer (some ⟨wr.heap.size,1,none⟩),.int .i64 mi,.bool bd,.bool bd,.bool bd] (λW=>W.cell? ⟨w.heap.size,0,none⟩=some (.slice (some ⟨b,o,none⟩) L.length cc)/\W.cell? ⟨b,o+j*2+1,none⟩=some (.int .i64 pm)/\W.cell? ⟨wr.heap.size,0,none⟩=some (.slice a1 m.length c1)/\W.cell? ⟨wr.heap.size,1,none⟩=some (.int .i64 mi)/\Below w2.heap.size w2 W) (λW hb=>⟨an.cell hb s0,an.cell hb p1,an.cell hb x0,an.cell hb x1,hb⟩) ?steps ?fin (λj=>match j with|0=>u32|1=>u33|2=>u34|3=>u35|4=>u36|5=>u37|6=>u38|7=>u39|8=>u40|9=>u41|10=>u42|11=>u43|12=>u44|13=>u45|14=>u46|15=>u47|16=>u48|17=>u49|18=>u50|19=>u51|20=>u52|21=>u53|22=>u54|23=>u55|24=>u56|25=>u57|_=>undef)
   case steps=>
    refine .c [] rfl ?_ (.c [0] rfl ?_ (.c [1] rfl ?_ (.c [2] rfl ?_ (.c [3] rfl ?_ (.c [4] rfl ?_ (.c [4,5] rfl ?_ (.c [4,6] rfl ?_ (.c [4,7] rfl ?_ (.c [4,8] rfl ?_ (.c [9] rfl ?_ (.c [10] rfl ?_ (.c [10,11] rfl ?_ (.c [10,12] rfl ?_ (.c [13] rfl ?_ (.c [13,14] rfl ?_ (.c [13] rfl ?_ (.c [13,16] rfl ?_ (.c [13,15,17] rfl ?_ (.c [13,18] rfl ?_ (.c [13,19] rfl ?_ (.c [13] rfl ?_ (.c [13,21] rfl ?_ (.c [13,20,22] rfl ?_ (.c [10,13,23] rfl ?_ (.c [10,24] rfl ?_ (.n))))))))))))))))))))))))));all_goals try exact jX
    all_goals
     rintro v W hb ⟨g3,g4,g0,g1,g2⟩;refine .inl ⟨rfl,λK hK=>?_⟩;simp only [ov,aD,Nat.reduceBEq,cond_true,cond_false];go_wp2_with (first|(go_at_call 49;(with_reducible refine (HV.o _ g2).mono ?_);rintro e w9 ⟨rfl,bg⟩)|(go_at_call 48;(with_reducible refine (dq.o _).mono ?_);rintro e w9 ⟨rfl,h9⟩;have bg:Below W.heap.size W w9:=h9 ▸ JV _ _;clear h9));exact aQ (hK w9 bg) (by simp [ov,aD])
   case fin=>
    rintro W3 hb3 ⟨g3,g4,g0,g1,g2⟩;show wpList _ _ _ [] _ _;simp only [aD];have s9:=af kg;clear kg;cases bd
    .go_wp2
     go_roundw
     .refine ⟨j+1+1,ad,by go_num,af λi hi=>?_,Et HE.o hb3,af (fE.o.below hb3)⟩;by_cases gq:i<j+1
      .exact HK.o i gq
      obtain rfl:i=j+1:=ad;refine ⟨?_,?_,λj' e=>?_⟩
      .rw [cS.o];exact Ce.o
      .rw [cS.o];exact uE.o
      obtain rfl:j'=j:=ad;rw [cS.o,uN.o];have:=NH s9.o;show pm<mi;omega
     simp [intOf];omega
    go_wp2
    go_ret;refine ⟨bX (xF λg=>?_).symm,Et HE.o hb3⟩;have g3:=(g.cls (j+1) (by have:=eU.o;omega)).2.2 j rfl;rw [cS.o,uN.o] at g3;have:=LX s9.o;have:pm<mi:=g3;omega
 obtain rfl:k=L.length:=ad;have fg:¬ (L.length:Int)<L.length:=ad;have q2:=(HB.o.cells 2).1;have LP:=HK;go_wp2_with fail;clear fg q2;go_loopw [5,6,7,62] (λ_ _ _ i wr=>∃ k:Nat,k<=s.ext.length/\i=.int .i64 k/\Hid (∀ j,j<k->SK s.ext j)/\Below w.heap.size w wr/\Hid (ag wr w.heap.size #[.slice ac L.length cc,.int .i64 s.len,.slice ae s.ext.length ce] 43)) (λ_ _ _ i _=>s.ext.length-(intOf i).toNat)
 .exact ⟨0,ad,rfl,af (by intro j hj;omega),by exact xE,by first|exact HB|exact af (HB.o.below xE)⟩
 obtain ⟨k,hk,rfl,Ud,hb,HB⟩:=hrel;have wG:=hb.size;by_cases hlt:k<s.ext.length
 .have cP:(k:Int)<s.ext.length:=ad;obtain ⟨b,o,y,rfl,dL,hy,oS,e0,e1,e2⟩:=(HX.o.keep (aP.below hb) hb.size).get hlt;have HY:=af hy;have B6:Hid (∀ j,k=j+1->∃ x,s.ext.getD j default=x/\wr.cell? ⟨b,o+j*3,none⟩=some (.int .i64 x.day)/\wr.cell? ⟨b,o+j*3+1,none⟩=some (.int .i64 x.frm)/\wr.cell? ⟨b,o+j*3+2,none⟩=some (.int .i64 x.fin)):=af λj hj=>by
   obtain ⟨b',o',x,jn,_,hx,_,g0,g1,g2⟩:=(HX.o.keep (aP.below hb) hb.size).get (show j<s.ext.length by omega);injection jn with jn
   injection jn with q1 q2
   subst q1 q2;exact ⟨x,hx,g0,g1,g2⟩
  obtain ⟨⟨y1,y2⟩,⟨y3,y4⟩,y5,y6⟩:=oS;obtain ⟨b1,hb1⟩:∃ b1,decide (0<=y.day/\y.day<=1099511627776)=b1:=⟨_,rfl⟩;obtain ⟨b2,hb2⟩:∃ b2,decide (-2251799813685248<=y.frm/\y.frm<=1583296743997439)=b2:=⟨_,rfl⟩;obtain ⟨b3,hb3⟩:∃ b3,decide (y.frm+1<=y.fin/\y.fin<=y.frm+10080)=b3:=⟨_,rfl⟩;have C1:=λW=>Aj y.day 0 1099511627776 W;have C2:=λW=>Aj y.frm (-2251799813685248) 1583296743997439 W;have C3:=λW=>Aj y.fin (y.frm+1) (y.frm+10080) W;rw [hb1] at C1;rw [hb2] at C2;rw [hb3] at C3;have C1:=af C1;have C2:=af C2;have C3:=af C3;have hfb:b2=true->-2251799813685248<=y.frm/\y.frm<=1583296743997439:=λh=>LX (hb2.trans h);have Iu:=af hfb;have bm:=af hb1;have bl:=af hb2;have cq:=af hb3;have q2:=(HB.o.cells 2).1;have bL:=af hb;clear hb1 hb2 hb3 hfb hy hb;have hg:Hid ((b1=true/\b2=true/\b3=true)->j_ y):=af λ⟨g1,g2,g3⟩=>⟨LX (bm.o.trans g1),LX (bl.o.trans g2),LX (cq.o.trans g3)⟩;have hgn:Hid ((b1=false\/b2=false\/b3=false)->¬ j_ y):=af λg h=>by
   rcases g with g|g|g
   .exact absurd h.1 (NH (bm.o.trans g))
   .exact absurd h.2.1 (NH (bl.o.trans g))
   exact absurd h.2.2 (NH (cq.o.trans g))
  have Ly:Hid ((b1 && b2 && b3)=true↔j_ y):=af (by
   constructor
   .intro h;rw [NU,NU] at h;exact hg.o ⟨h.1.1,h.1.2,h.2⟩
   intro h;cases b1 <;> cases b2 <;> cases b3 <;> first|rfl|exact absurd h (hgn.o aj))
  clear hg hgn;go_upto_region 12 with (fail)
  generalize hW:wr.alloc _=w2;have cE:Below wr.heap.size wr w2:=by rw [<- hW];exact xE
  have hbx:ag w2 wr.heap.size #[.int .i64 y.day,.int .i64 y.frm,.int .i64 y.fin] 46:=by rw [<- hW];exact ag.at rfl
  have x0:=(hbx.cells 0).1;have x1:=(hbx.cells 1).1;have x2:=(hbx.cells 2).1;have HE:=af (Et bL.o cE);have fE:=af (HB.o.below cE);have uN:Hid (∀ j,k=j+1->∃ x,s.ext.getD j default=x/\w2.cell? ⟨b,o+j*3,none⟩=some (.int .i64 x.day)/\w2.cell? ⟨b,o+j*3+1,none⟩=some (.int .i64 x.frm)/\w2.cell? ⟨b,o+j*3+2,none⟩=some (.int .i64 x.fin)):=af λj hj=>by
   obtain ⟨x,h1,h2,h3,h4⟩:=B6.o j hj;exact ⟨x,h1,an.cell cE h2,an.cell cE h3,an.cell cE h4⟩
  clear hW hbx cE e0 e1 e2 HB q2 B6
  go_cut [7] (λv7 wx=>v7=.bool (b1 && b2 && b3)/\w2=wx)
  case first=>
   cases b1
   .go_wp2_with (go_at_call 48;(first|((with_reducible refine (C1.o _).mono ?_);rintro e w1 ⟨rfl,rfl⟩)|((with_reducible refine (C2.o _).mono ?_);rintro e w1 ⟨rfl,rfl⟩)|((with_reducible refine (C3.o _).mono ?_);rintro e w1 ⟨rfl,rfl⟩)))
    go_meet
    exact ⟨rfl,rfl⟩
   cases b2
   .go_wp2_with (go_at_call 48;(first|((with_reducible refine (C1.o _).mono ?_);rintro e w1 ⟨rfl,rfl⟩)|((with_reducible refine (C2.o _).mono ?_);rintro e w1 ⟨rfl,rfl⟩)|((with_reducible refine (C3.o _).mono ?_);rintro e w1 ⟨rfl,rfl⟩)))
    go_meet
    exact ⟨rfl,rfl⟩
   obtain ⟨f1,f2⟩:=Iu.o rfl;go_wp2_with (go_at_call 48;(first|((with_reducible refine (C1.o _).mono ?_);rintro e w1 ⟨rfl,rfl⟩)|((with_reducible refine (C2.o _).mono ?_);rintro e w1 ⟨rfl,rfl⟩)|((with_reducible refine (C3.o _).mono ?_);rintro e w1 ⟨rfl,rfl⟩)))
   go_meet
   exact ⟨rfl,rfl⟩
  case rest=>
   obtain ⟨rfl,rfl⟩:=hcut;obtain ⟨gb,hgb⟩:∃ gb,(b1 && b2 && b3)=gb:=⟨_,rfl⟩;rw [hgb] at Ly ⊢;clear hgb C1 C2 C3 bm bl cq Iu;cases gb
   .have Lb:Hid (¬ j_ y):=af (λh=>absurd (Ly.o.2 h) aG);go_upto_region 13 with (fail)
    refine jE (w0:=w2) [0,1,2,3,4,5,6,7,8,9,10,11,12,13,14,15,16] [] (λv=>⟨#[.agg #[.slice ac L.length cc,.int .i64 s.len,.slice (some ⟨b,o,none⟩) s.ext.length ce],.pointer (some ⟨w.heap.size,0,none⟩),u2,u3,u4,.int .i64 ↑k,.pointer (some ⟨wr.heap.size,0,none⟩),.bool false,.pointer (some ⟨w.heap.size,0,none⟩),.slice ac L.length cc,.int .i64 ↑L.length,.bool false,.bool false,.pointer (some ⟨w.heap.size,1,none⟩),.int .i64 s.len,.bool true,.bool false,.bool false,.bool false,.pointer (some ⟨w.heap.size,2,none⟩),.slice (some ⟨b,o,none⟩) s.ext.length ce,.int .i64 ↑s.ext.length,.bool false,.bool false,.pointer (some ⟨w.heap.size,0,none⟩),.slice ac L.length cc,.int .i64 ↑L.length,.int .i64 ↑L.length,.bool false,u29,u30,u31,u32,u33,u34,u35,u36,u37,u38,u39,u40,u41,u42,u43,u44,u45,u46,u47,u48,u49,u50,u51,u52,u53,u54,u55,u56,u57,u58,.pointer (some ⟨w.heap.size,2,none⟩),.slice (some ⟨b,o,none⟩) s.ext.length ce,.int .i64 ↑s.ext.length,.int .i64 ↑k,u63,u64,u65,u66,u67,u68,u69,u70,u71,u72,u73,u74,u75,u76,u77,u78,u79,u80,u81,u82,u83,u84,u85,u86,u87,u88,u89,v 0,v 1,v 2,v 3,v 4,v 5,v 6,v 7,v 8,v 9,v 10,v 11,v 12,v 13,v 14,v 15,v 16,u107],[]⟩) [.bool false,.bool true,.bool true,undef,undef,undef,undef,undef,undef,undef,undef,undef,undef,undef,undef,undef,.bool true] (λW=>W.cell? ⟨wr.heap.size,0,none⟩=some (.int .i64 y.day)/\W.cell? ⟨wr.heap.size,1,none⟩=some (.int .i64 y.frm)/\W.cell? ⟨wr.heap.size,2,none⟩=some (.int .i64 y.fin)) (λW hb=>⟨an.cell hb x0,an.cell hb x1,an.cell hb x2⟩) ?steps ?fin (λj=>match j with|0=>u90|1=>u91|2=>u92|3=>u93|4=>u94|5=>u95|6=>u96|7=>u97|8=>u98|9=>u99|10=>u100|11=>u101|12=>u102|13=>u103|14=>u104|15=>u105|16=>u106|_=>undef)
    case steps=>
     refine .c [] rfl ?_ (.c [0] rfl ?_ (.c [1] rfl ?_ (.c [2] rfl ?_ (.c [2,3] rfl ?_ (.c [2,4] rfl ?_ (.c [5] rfl ?_ (.c [5,6] rfl ?_ (.c [5] rfl ?_ (.c [5,8] rfl ?_ (.c [5,7,9] rfl ?_ (.c [5,10] rfl ?_ (.c [5] rfl ?_ (.c [5,11,12] rfl ?_ (.c [5,13] rfl ?_ (.c [2,5,14] rfl ?_ (.c [2,15] rfl ?_ (.n)))))))))))))))));all_goals try exact jX
    case fin=>
     rintro W3 hb3 ⟨g0,g1,g2⟩;show wpList _ _ _ [] _ _;simp only [aD];go_wp2;go_ret;refine ⟨bX (xF λg=>?_).symm,Et HE.o hb3⟩;have g3:=(g.ext k hlt).1;rw [HY.o] at g3;exact Lb.o g3
   have Tz:=af (Ly.o.1 rfl);rcases NR k with rfl|ep
   .go_upto_region 13 with (fail)
    refine jE (w0:=w2) [0,1,2,3,4,5,6,7,8,9,10,11,12,13,14,15,16] [] (λv=>⟨#[.agg #[.slice ac L.length cc,.int .i64 s.len,.slice (some ⟨b,o,none⟩) s.ext.length ce],.pointer (some ⟨w.heap.size,0,none⟩),u2,u3,u4,.int .i64 ↑0,.pointer (some ⟨wr.heap.size,0,none⟩),.bool true,.pointer (some ⟨w.heap.size,0,none⟩),.slice ac L.length cc,.int .i64 ↑L.length,.bool false,.bool false,.pointer (some ⟨w.heap.size,1,none⟩),.int .i64 s.len,.bool true,.bool false,.bool false,.bool false,.pointer (some ⟨w.heap.size,2,none⟩),.slice (some ⟨b,o,none⟩) s.ext.length ce,.int .i64 ↑s.ext.length,.bool false,.bool false,.pointer (some ⟨w.heap.size,0,none⟩),.slice ac L.length cc,.int .i64 ↑L.length,.int .i64 ↑L.length,.bool false,u29,u30,u31,u32,u33,u34,u35,u36,u37,u38,u39,u40,u41,u42,u43,u44,u45,u46,u47,u48,u49,u50,u51,u52,u53,u54,u55,u56,u57,u58,.pointer (some ⟨w.heap.size,2,none⟩),.slice (some ⟨b,o,none⟩) s.ext.length ce,.int .i64 ↑s.ext.length,.int .i64 ↑0,u63,u64,u65,u66,u67,u68,u69,u70,u71,u72,u73,u74,u75,u76,u77,u78,u79,u80,u81,u82,u83,u84,u85,u86,u87,u88,u89,v 0,v 1,v 2,v 3,v 4,v 5,v 6,v 7,v 8,v 9,v 10,v 11,v 12,v 13,v 14,v 15,v 16,u107],[]⟩) [.bool true,.bool false,.bool false,.int .i64 0,.bool false,.bool false,undef,undef,undef,undef,undef,undef,undef,undef,undef,.bool false,.bool false] (λW=>W.cell? ⟨wr.heap.size,0,none⟩=some (.int .i64 y.day)/\W.cell? ⟨wr.heap.size,1,none⟩=some (.int .i64 y.frm)/\W.cell? ⟨wr.heap.size,2,none⟩=some (.int .i64 y.fin)) (λW hb=>⟨an.cell hb x0,an.cell hb x1,an.cell hb x2⟩) ?steps ?fin (λj=>match j with|0=>u90|1=>u91|2=>u92|3=>u93|4=>u94|5=>u95|6=>u96|7=>u97|8=>u98|9=>u99|10=>u100|11=>u101|12=>u102|13=>u103|14=>u104|15=>u105|16=>u106|_=>undef)
    case steps=>
     refine .c [] rfl ?_ (.c [0] rfl ?_ (.c [1] rfl ?_ (.c [2] rfl ?_ (.c [2,3] rfl ?_ (.c [2,4] rfl ?_ (.c [5] rfl ?_ (.c [5,6] rfl ?_ (.c [5] rfl ?_ (.c [5,8] rfl ?_ (.c [5,7,9] rfl ?_ (.c [5,10] rfl ?_ (.c [5] rfl ?_ (.c [5,11,12] rfl ?_ (.c [5,13] rfl ?_ (.c [2,5,14] rfl ?_ (.c [2,15] rfl ?_ (.n)))))))))))))))));all_goals try exact jX
    case fin=>
     rintro W3 hb3 ⟨g0,g1,g2⟩;show wpList _ _ _ [] _ _;simp only [aD];go_wp2;go_roundw
     .refine ⟨1,ad,by go_num,af λj hj=>?_,Et HE.o hb3,af (fE.o.below hb3)⟩;obtain rfl:j=0:=ad;exact ⟨by rw [HY.o];exact Tz.o,λj e=>ad⟩
     simp [intOf];omega
   obtain ⟨j,rfl⟩:∃ j,k=j+1:=⟨k-1,ad⟩;obtain ⟨x,hx,p0,p1,p2⟩:=uN.o j rfl;have IP:=af hx;have Mn:=af (λW=>XV x y W);obtain ⟨bd,kg⟩:∃ bd,decide (dH x y >= 0)=bd:=⟨_,rfl⟩;have q2h:decide (0<=dH x y)=bd:=kg;have s9:=af kg;have s0:=(fE.o.cells 2).1;clear hx kg;rw [show (((j+1:Nat)):Int)=(j:Int)+1 from rfl];go_upto_region 13 with (fail)
   refine jE (w0:=w2) [0,1,2,3,4,5,6,7,8,9,10,11,12,13,14,15,16] [] (λv=>⟨#[.agg #[.slice ac L.length cc,.int .i64 s.len,.slice (some ⟨b,o,none⟩) s.ext.length ce],.pointer (some ⟨w.heap.size,0,none⟩),u2,u3,u4,.int .i64 (↑j+1),.pointer (some ⟨wr.heap.size,0,none⟩),.bool true,.pointer (some ⟨w.heap.size,0,none⟩),.slice ac L.length cc,.int .i64 ↑L.length,.bool false,.bool false,.pointer (some ⟨w.heap.size,1,none⟩),.int .i64 s.len,.bool true,.bool false,.bool false,.bool false,.pointer (some ⟨w.heap.size,2,none⟩),.slice (some ⟨b,o,none⟩) s.ext.length ce,.int .i64 ↑s.ext.length,.bool false,.bool false,.pointer (some ⟨w.heap.size,0,none⟩),.slice ac L.length cc,.int .i64 ↑L.length,.int .i64 ↑L.length,.bool false,u29,u30,u31,u32,u33,u34,u35,u36,u37,u38,u39,u40,u41,u42,u43,u44,u45,u46,u47,u48,u49,u50,u51,u52,u53,u54,u55,u56,u57,u58,.pointer (some ⟨w.heap.size,2,none⟩),.slice (some ⟨b,o,none⟩) s.ext.length ce,.int .i64 ↑s.ext.length,.int .i64 (↑j+1),u63,u64,u65,u66,u67,u68,u69,u70,u71,u72,u73,u74,u75,u76,u77,u78,u79,u80,u81,u82,u83,u84,u85,u86,u87,u88,u89,v 0,v 1,v 2,v 3,v 4,v 5,v 6,v 7,v 8,v 9,v 10,v 11,v 12,v 13,v 14,v 15,v 16,u107],[]⟩) [.bool true,.bool false,.bool false,.int .i64 ((j:Int)+1),.bool true,.bool true,.pointer (some ⟨w.heap.size,2,none⟩),.slice (some ⟨b,o,none⟩) s.ext.length ce,.int .i64 ((j:Int)+1),.int .i64 (j:Int),.pointer (some ⟨b,o+j*3,none⟩),bQ x,bQ y,.int .i64 (dH x y),.bool bd,.bool bd,.bool bd] (λW=>W.cell? ⟨w.heap.size,2,none⟩=some (.slice (some ⟨b,o,none⟩) s.ext.length ce)/\W.cell? ⟨b,o+j*3,none⟩=some (.int .i64 x.day)/\W.cell? ⟨b,o+j*3+1,none⟩=some (.int .i64 x.frm)/\W.cell? ⟨b,o+j*3+2,none⟩=some (.int .i64 x.fin)/\W.cell? ⟨wr.heap.size,0,none⟩=some (.int .i64 y.day)/\W.cell? ⟨wr.heap.size,1,none⟩=some (.int .i64 y.frm)/\W.cell? ⟨wr.heap.size,2,none⟩=some (.int .i64 y.fin)) (λW hb=>⟨an.cell hb s0,an.cell hb p0,an.cell hb p1,an.cell hb p2,an.cell hb x0,an.cell hb x1,an.cell hb x2⟩) ?steps ?fin (λj=>match j with|0=>u90|1=>u91|2=>u92|3=>u93|4=>u94|5=>u95|6=>u96|7=>u97|8=>u98|9=>u99|10=>u100|11=>u101|12=>u102|13=>u103|14=>u104|15=>u105|16=>u106|_=>undef)
   case steps=>
    refine .c [] rfl ?_ (.c [0] rfl ?_ (.c [1] rfl ?_ (.c [2] rfl ?_ (.c [2,3] rfl ?_ (.c [2,4] rfl ?_ (.c [5] rfl ?_ (.c [5,6] rfl ?_ (.c [5] rfl ?_ (.c [5,8] rfl ?_ (.c [5,7,9] rfl ?_ (.c [5,10] rfl ?_ (.c [5] rfl ?_ (.c [5,11,12] rfl ?_ (.c [5,13] rfl ?_ (.c [2,5,14] rfl ?_ (.c [2,15] rfl ?_ (.n)))))))))))))))));all_goals try exact jX
    all_goals
     rintro v W hb ⟨g3,g4,g5,g6,g0,g1,g2⟩;refine .inl ⟨rfl,λK hK=>?_⟩;simp only [ov,aD,Nat.reduceBEq,cond_true,cond_false];go_wp2_with (go_at_call 50;(with_reducible refine (Mn.o _).mono ?_);rintro e w9 ⟨rfl,bg⟩);exact aQ (hK w9 bg) (by simp [ov,aD])
   case fin=>
    rintro W3 hb3 ⟨g3,g4,g5,g6,g0,g1,g2⟩;show wpList _ _ _ [] _ _;simp only [aD];clear q2h;cases bd
    .go_wp2
     go_roundw
     .refine ⟨j+1+1,ad,by go_num,af λi hi=>?_,Et HE.o hb3,af (fE.o.below hb3)⟩;by_cases gq:i<j+1
      .exact Ud.o i gq
      obtain rfl:i=j+1:=ad;refine ⟨by rw [HY.o];exact Tz.o,λj' e=>?_⟩;obtain rfl:j'=j:=ad;rw [HY.o,IP.o];refine q8j λh=>?_;have:=vj_ h;rw [s9.o] at this;exact absurd this aG
     simp [intOf];omega
    go_wp2
    go_ret;refine ⟨bX (xF λg=>?_).symm,Et HE.o hb3⟩;have g3:=(g.ext (j+1) hlt).2 j rfl;rw [HY.o,IP.o] at g3;have:=vi_ g3;rw [s9.o] at this;exact absurd this aG
 obtain rfl:k=s.ext.length:=ad;go_wp2;go_ret;refine ⟨bX (xx.2 ⟨by have:=eU.o;omega,pW.o,ad,λi hi=>LP.o i (by have:=eU.o;omega),Ud.o⟩).symm,xE⟩
def zy_ (fb bb:Nat) (x jJ:ai) (found:Bool) (w:World) (e:Ending) (w':World):Prop:=
 e=.returned (.tuple #[])/\∃ best' found',ag w' fb #[.bool found'] 4/\ag w' bb #[.int .i64 best'.day,.int .i64 best'.frm,.int .i64 best'.fin] 46/\aP (λk=>k≠fb/\k≠bb) w w'/\w.heap.size<=w'.heap.size/\w'.os=w.os/\w'.tape=w.tape/\w'.output=w.output/\
  (((found=false\/bo x jJ)/\best'=x/\found'=true)\/((found=true/\¬ bo x jJ)/\best'=jJ/\found'=found))
theorem XP {fb bb:Nat} (vf:Value) (x y z:Value) (hb:Below w.heap.size w W):aP (λk=>k≠fb/\k≠bb) w ((((W.setCell ⟨bb,0,none⟩ x).setCell ⟨bb,1,none⟩ y).setCell ⟨bb,2,none⟩ z).setCell ⟨fb,0,none⟩ vf):=λb h hl=>
 ((((DO _ ⟨fb,0,none⟩ vf b h.1).trans (DO _ ⟨bb,2,none⟩ z b h.2)).trans (DO _ ⟨bb,1,none⟩ y b h.2)).trans (DO _ ⟨bb,0,none⟩ x b h.2)).trans (hb.block b hl)
theorem xK {b:Nat} {x y z x' y' z':Value} {t:TypeId} (h:ag W b #[x,y,z] t):ag (((W.setCell ⟨b,0,none⟩ x').setCell ⟨b,1,none⟩ y').setCell ⟨b,2,none⟩ z') b #[x',y',z'] t:=by
 have h1:=bE 2 z' (bE 1 y' (bE 0 x' h));simpa [ag] using h1
theorem YV (fb bb:Nat) (x jJ:ai) (found:Bool) (w:World) (hne:fb≠bb) (hf:ag w fb #[.bool found] 4) (hb:ag w bb #[.int .i64 jJ.day,.int .i64 jJ.frm,.int .i64 jJ.fin] 46) :
  Calls Tryz.prog 60 #[bQ x,.pointer (some ⟨fb,0,none⟩),.pointer (some ⟨bb,0,none⟩)] w (zy_ fb bb x jJ found w):=by
 have HO:=λW=>XV x jJ W;obtain ⟨xd,xf,xt⟩:=x;obtain ⟨yd,yf,yt⟩:=jJ;show Calls _ _ #[.agg #[.int .i64 xd,.int .i64 xf,.int .i64 xt],_,_] _ _;change ∀ W,Calls _ _ #[.agg #[.int .i64 xd,.int .i64 xf,.int .i64 xt],.agg #[.int .i64 yd,.int .i64 yf,.int .i64 yt]] _ _ at HO;have HF:=af hf;have HB:=af hb;have f0:=(hf.cells 0).1;have lf:=hf.lt;have lb:=hb.lt;have Po:Below w.heap.size w (w.alloc (.cells #[.int .i64 xd,.int .i64 xf,.int .i64 xt] 46)):=Ea (Er w) _;cases found with
 | false=>
  have iE:=af (hf.alloc (.cells #[.int .i64 xd,.int .i64 xf,.int .i64 xt] 46));have jf:=af (hb.alloc (.cells #[.int .i64 xd,.int .i64 xf,.int .i64 xt] 46));have k0:=(iE.o.cells 0).1;have k1:=(iE.o.cells 0).2;have b0:=(jf.o.cells 0).1;have b1:=(jf.o.cells 1).1;have b2:=(jf.o.cells 2).1;have c0:=(jf.o.cells 0).2;have c1:=(jf.o.cells 1).2;have c2:=(jf.o.cells 2).2;have HE:=af Po;have d0:=(hb.cells 0).1;have d1:=(hb.cells 1).1;have d2:=(hb.cells 2).1;have e0:=(hb.cells 0).2;have e1:=(hb.cells 1).2;have e2:=(hb.cells 2).2;have f1:=(hf.cells 0).2;clear HO hf hb Po
  go_in
  go_wp2_with fail
  go_end0
  refine ⟨rfl,⟨xd,xf,xt⟩,true,?_,?_,λb h hl=>(DN _ _ _ (by simp [O1];exact hl)).trans (XP _ _ _ _ (JV _ _) b h hl),by simp [O1],rfl,rfl,rfl,.inl ⟨.inl rfl,rfl,rfl⟩⟩
  .exact ag.alloc (bE 0 _ (((HF.o.setNe _ hne).setNe _ hne).setNe _ hne)) _
  exact ag.alloc ((xK HB.o).setNe _ hne.symm) _
 | true=>
  have HO:=af HO;obtain ⟨bt,Ga⟩:∃ bt,decide (dH ⟨xd,xf,xt⟩ ⟨yd,yf,yt⟩<0)=bt:=⟨_,rfl⟩;have yW:=af Ga;have b0:=(hb.cells 0).1;have b1:=(hb.cells 1).1;have b2:=(hb.cells 2).1;clear hf hb Po;cases bt
  .go_in
   go_wp2_with (go_at_call 50;refine (HO.o _).mono ?_;rintro e w1 ⟨rfl,hb1⟩;have HE:=af (Et (Ea (Er w) _) hb1);clear hb1)
   go_end0
   refine ⟨rfl,⟨yd,yf,yt⟩,true,HF.o.below HE.o,HB.o.below HE.o,λk h hl=>HE.o.block k hl,HE.o.size,HE.o.os,HE.o.tape,HE.o.output,.inr ⟨⟨rfl,λh=>?_⟩,rfl,rfl⟩⟩;exact NH yW.o (Ku.2 h)
  go_in
  go_wp2_with (go_at_call 50;refine (HO.o _).mono ?_;rintro e w1 ⟨rfl,hb1⟩;have hE:=Et (Ea (Er w) _) hb1;have HE:=af hE;have HX:=af (ag.below (ag.at (w:=w) rfl:ag (w.alloc (.cells #[.int .i64 xd,.int .i64 xf,.int .i64 xt] 46)) w.heap.size #[.int .i64 xd,.int .i64 xf,.int .i64 xt] 46) hb1);have x0:=(HX.o.cells 0).1;have x1:=(HX.o.cells 1).1;have x2:=(HX.o.cells 2).1;have iE:=af (HF.o.below hE);have jf:=af (HB.o.below hE);have k0:=(iE.o.cells 0).1;have k1:=(iE.o.cells 0).2;have b0:=(jf.o.cells 0).1;have b1:=(jf.o.cells 1).1;have b2:=(jf.o.cells 2).1;have c0:=(jf.o.cells 0).2;have c1:=(jf.o.cells 1).2;have c2:=(jf.o.cells 2).2;clear hb1 hE)
  go_end0
  refine ⟨rfl,⟨xd,xf,xt⟩,true,?_,?_,XP _ _ _ _ HE.o,by simp [O1];exact HE.o.size,HE.o.os,HE.o.tape,HE.o.output,.inl ⟨.inr (Ku.1 (LX yW.o)),rfl,rfl⟩⟩
  .exact bE 0 _ (((iE.o.setNe _ hne).setNe _ hne).setNe _ hne)
  exact (xK jf.o).setNe _ hne.symm
structure uX (w:World) (sb rb bb fb:Nat) (cv ev:Value) (len:Int) (x:ai) (b:Bool) (W:World):Prop where
 below:Below w.heap.size w W
 sbx:ag W sb #[cv,.int .i64 len,ev] 43
 rbx:ag W rb #[.int .i64 0,.int .i64 0,.int .i64 0] 46
 bbx:ag W bb #[.int .i64 x.day,.int .i64 x.frm,.int .i64 x.fin] 46
 fbx:ag W fb #[.bool b] 4
theorem uX.ext {sb rb bb fb:Nat} {ev:Value} {x:ai} (h:uX w sb rb bb fb cv ev len x b W) (hb:Below W.heap.size W W'):uX w sb rb bb fb cv ev len x b W':=
 ⟨Et h.below hb,h.sbx.below hb,h.rbx.below hb,h.bbx.below hb,h.fbx.below hb⟩
theorem uX.take {sb rb bb fb:Nat} {ev:Value} {x:ai} {x':ai} {b':Bool} (h:uX w sb rb bb fb cv ev len x b W) (h1:w.heap.size<=fb) (h2:w.heap.size<=bb) (n1:sb≠fb) (n2:sb≠bb) (n3:rb≠fb) (n4:rb≠bb)
  (hf:ag W' fb #[.bool b'] 4) (hb:ag W' bb #[.int .i64 x'.day,.int .i64 x'.frm,.int .i64 x'.fin] 46) (hk:aP (λk=>k≠fb/\k≠bb) W W') (hs:W.heap.size<=W'.heap.size) (ho:W'.os=W.os) (ht:W'.tape=W.tape) (hu:W'.output=W.output):uX w sb rb bb fb cv ev len x' b' W':=
 ⟨h.below.trans ⟨ho,ht,hu,hs,λk eQ=>hk k ⟨ad,ad⟩ (N6 eQ h.below.size)⟩,(hk sb ⟨n1,n2⟩ h.sbx.lt).trans h.sbx,(hk rb ⟨n3,n4⟩ h.rbx.lt).trans h.rbx,hb,hf⟩
theorem ez.from {S:ai->Prop} {g:Int} {x:ai} (h:ez S f x b) (JU:∀ y,S y->(g<=y.frm↔f<=y.frm)):ez S g x b:=by
 rcases h with ⟨rfl,h1,h2,h3⟩|⟨rfl,rfl,h1⟩
 .exact .inl ⟨rfl,h1,(JU x h1).2 h2,λy hy hf=>h3 y hy ((JU y hy).1 hf)⟩
 exact .inr ⟨rfl,rfl,λy hy hf=>h1 y hy ((JU y hy).1 hf)⟩
def pf (s:aE) (k:Nat) (y:ai):Prop:=∃ j,j<k/\j<s.cls.length/\kX s (s.cls.getD j default) y/\y.fin<=2251799813685248
theorem xe_ {s:aE} {y:ai}:pf s 0 y↔False:=by unfold pf;simp
theorem RT {s:aE} (hk:k<s.cls.length) {y:ai}:pf s (k+1) y↔pf s k y\/(kX s (s.cls.getD k default) y/\y.fin<=2251799813685248):=by
 unfold pf;constructor
 .rintro ⟨j,h1,h2,h3⟩;by_cases e:j=k
  .subst e;exact .inr h3
  exact .inl ⟨j,ad,h2,h3⟩
 rintro (⟨j,h1,h2,h3⟩|h)
 .exact ⟨j,ad,h2,h3⟩
 exact ⟨k,ad,hk,h⟩
theorem zz_ {s:aE} {y:ai}:pf s s.cls.length y↔∃ c∈s.cls,kX s c y/\y.fin<=2251799813685248:=by
 unfold pf;constructor
 .rintro ⟨j,h1,h2,h3⟩;exact ⟨_,by rw [fx h2];exact NS h2,h3⟩
 rintro ⟨c,hc,h⟩;obtain ⟨j,hj,rfl⟩:=tu (d:=default) hc;exact ⟨j,hj,hj,h⟩
theorem xl_ {s:aE} {c:ey} {t:Int} {ok:Bool} (hne:∀ u∈c.days,u≠[]) (ht:t=max 0 ((f-c.min-1) / 1440+1)) (fA:1<=s.len) (hl2:s.len<=10080) (hm1:-4320<=c.min) (hN:eh cH (aW c.days) t d ok) :
  (ok=true/\d*1440+c.min+s.len<=2251799813685248->(kX s c (lM s c d)/\(lM s c d).fin<=2251799813685248)/\f<=(lM s c d).frm/\∀ y,kX s c y/\y.fin<=2251799813685248->f<=y.frm->¬ bo y (lM s c d))/\
  (ok=false\/¬ d*1440+c.min+s.len<=2251799813685248->∀ y,kX s c y/\y.fin<=2251799813685248->¬ f<=y.frm):=by
 have key:∀ y,kX s c y/\y.fin<=2251799813685248->f<=y.frm->t<=y.day/\y.day<=cH/\y.frm=y.day*1440+c.min/\y.fin=y.day*1440+c.min+s.len:=λy ⟨h1,h2⟩ h3=>by
  have h0:=E5 hne h1.1;have e:=h1.2;have e1:y.frm=y.day*1440+c.min:=congrArg ai.frm e;have e2:y.fin=y.day*1440+c.min+s.len:=congrArg ai.fin e;unfold cH;refine ⟨ad,ad,e1,e2⟩
 refine ⟨λ⟨h1,h2⟩=>?_,λh y hy hf=>?_⟩
 .rcases hN with ⟨_,g1,g2,g3,g4⟩|⟨h,_⟩
  .refine ⟨⟨⟨g3,rfl⟩,h2⟩,?_,λy hy hf hlt=>?_⟩
   .show f<=d*1440+c.min;omega
   obtain ⟨k1,k2,k3,k4⟩:=key y hy hf;have h5:¬ y.day<d:=λh=>g4 y.day k1 h hy.1.1;unfold bo lM at hlt;dsimp only at hlt;omega
  rw [h1] at h;cases h
 obtain ⟨k1,k2,k3,k4⟩:=key y hy hf;have:=hy.2;rcases hN with ⟨h1,g1,g2,g3,g4⟩|⟨_,_,g⟩
 .rcases h with h|h
  .rw [h1] at h;cases h
  have h5:¬ y.day<d:=λh=>g4 y.day k1 h hy.1.1;omega
 exact g y.day k1 k2 hy.1.1
theorem Oh {s:aE} {y:ai}:iN s y↔pf s s.cls.length y\/y∈s.ext:=by unfold iN;rw [zz_]
theorem bO.low {s:aE} (h:bO s) {y:ai} (hy:iN s y):-2251799813685248<=y.frm/\y.frm<2251799813685248:=by
 rcases hy with ⟨c,hc,ho,hf⟩|hy
 .have h0:=E5 (h.ne hc) ho.1;have h1:=h.min hc;have h2:=h.val.len;have e1:y.frm=y.day*1440+c.min:=congrArg ai.frm ho.2;have e2:y.fin=y.day*1440+c.min+s.len:=congrArg ai.fin ho.2;omega
 have:=h.val.ins hy;unfold j_ at this;omega
theorem bO.next {s:aE} (h:bO s) {f':Int} (hf:max f (-2251799813685248)=f') {x:ai} (hN:ez (λy=>pf s s.cls.length y\/y∈s.ext) f' x b):ez (iN s) f x b:=
 ez.from (hN.congr λy=>Oh) λy hy=>by have:=h.low hy;omega
def NxQ (S:ai->Prop) (f:Int) (w:World) (sb rb bb fb:Nat) (cv ev:Value) (len:Int) (W:World):Prop:=∃ x b,ez S f x b/\uX w sb rb bb fb cv ev len x b W
theorem XI (F:Nat->Prop) (cv ev:Value) (s:aE) (f:Int) (w:World) (h:bq w F cv ev s) (eC:bO s) (hf:aS f) :
  Calls Tryz.prog 30 #[.agg #[cv,.int .i64 s.len,ev],.int .i64 f] w λe w'=>∃ x b,e=.returned (.tuple #[bQ x,.bool b])/\ez (iN s) f x b/\Below w.heap.size w w':=by
 obtain ⟨gG,hf2⟩:=hf;have HV:=λW (hb:Below w.heap.size w W)=>Ab F cv ev s W (h.ext hb);rw [xx.2 eC.val] at HV;obtain ⟨L,h⟩:=h;have lx:s.cls.length=L.length:=by rw [<- h.eq];exact U6 _
 obtain ⟨ac,cc,rfl⟩:=h.cl.form;obtain ⟨ae,ce,rfl⟩:=h.ex.form;have fA:=h.cl.len;have hl2:=h.ex.len;obtain ⟨sS,sT⟩:=eC.val.len;have HV:=af HV;have lI:=af h;have eN:=af eC;have eU:=af lx;clear h eC lx;by_cases hbig:2251799813685248<f
 .go_in
  go_wp2_with (go_at_call 23;refine (HV.o _ xE).mono ?_;rintro e w1 ⟨rfl,hb1⟩;have hx:=ag.below (ag.at (w:=w.alloc (.cells #[.slice ac L.length cc,.int .i64 s.len,.slice ae s.ext.length ce] 43)) (b:=w.heap.size+1) (c:=#[.int .i64 0,.int .i64 0,.int .i64 0]) (t:=46) aj) hb1;have x0:=(hx.cells 0).1;have x1:=(hx.cells 1).1;have x2:=(hx.cells 2).1;have y0:=(hx.cells 0).2;have y1:=(hx.cells 1).2;have y2:=(hx.cells 2).2)
  exact VN (v:=.tuple #[bQ ⟨0,0,0⟩,.bool false]) (by simp [results,Tryz.results30,go_sem,x0,x1,x2,y0,y1,y2]) rfl ⟨⟨0,0,0⟩,false,rfl,.inr ⟨rfl,rfl,λy hy hf=>by have:=eN.o.low hy;omega⟩,xE⟩
 have kr:f<=2251799813685248:=ad;have fT:decide ((2251799813685248:Int)<f)=false:=P9 hbig;obtain ⟨f',hf'⟩:∃ f',max f (-2251799813685248)=f':=⟨_,rfl⟩;have hfb:-2251799813685248<=f'/\f'<=2251799813685248:=ad;obtain ⟨hf3,hf4⟩:=hfb
 go_in
 go_wp2_with (go_at_call 23;refine (HV.o _ xE).mono ?_;rintro e w1 ⟨rfl,hb1⟩;have hW1:Below w.heap.size w w1:=Et (Ea (Ea (Er w) _) _) hb1;have Rb:=ag.below ((ag.at (w:=w) (b:=w.heap.size) (c:=#[.slice ac L.length cc,.int .i64 s.len,.slice ae s.ext.length ce]) (t:=43) rfl).alloc (.cells #[.int .i64 0,.int .i64 0,.int .i64 0] 46)) hb1;have fm:=ag.below (ag.at (w:=w.alloc (.cells #[.slice ac L.length cc,.int .i64 s.len,.slice ae s.ext.length ce] 43)) (b:=w.heap.size+1) (c:=#[.int .i64 0,.int .i64 0,.int .i64 0]) (t:=46) aj) hb1;have x0:=(Rb.cells 0).1;have hz1:w.heap.size+1<w1.heap.size:=(by have:=hb1.size;simp at this;omega);have hz0:w.heap.size<w1.heap.size:=ad;have Cb:=af Rb;have IR:=af fm;have nx:=af hW1;clear hb1 Rb fm hW1)
 have HST:Hid (uX w w.heap.size (w.heap.size+1) w1.heap.size (w1.heap.size+1) (.slice ac L.length cc) (.slice ae s.ext.length ce) s.len ⟨0,0,0⟩ false ((w1.alloc (.cells #[.int .i64 0,.int .i64 0,.int .i64 0] 46)).alloc (.cells #[.bool false] 4))):=
  af ⟨Ea (Ea nx.o _) _,(Cb.o.alloc _).alloc _,(IR.o.alloc _).alloc _,(ag.at rfl).alloc _,ag.at aj⟩
 have DI:=af hf';have eg:∀ args w,(callFunc 60 args).run Tryz.prog w=.ok (.enter 60 args) w:=enters_of Tryz.func60 (by kernel_rfl) rfl;clear x0 fT hf';go_loopw [10,11,12,29] (λ_ _ _ vi wr=>∃ (k:Nat),k<=L.length/\vi=.int .i64 k/\Hid (NxQ (pf s k) f' w w.heap.size (w.heap.size+1) w1.heap.size (w1.heap.size+1) (.slice ac L.length cc) (.slice ae s.ext.length ce) s.len wr)) (λ_ _ _ vi _=>L.length-(intOf vi).toNat)
 .exact ⟨0,ad,rfl,af ⟨⟨0,0,0⟩,false,ez.start.congr λy=>xe_,HST.o⟩⟩
 obtain ⟨k,hk,rfl,⟨x,b,UO,vS⟩⟩:=hrel;have HN:=af UO;have HS:=af vS;clear UO vS;have wG:=HS.o.below.size;have nY:=HS.o.bbx.lt;have yE:=HS.o.fbx.lt;by_cases hlt:k<L.length
 .have cP:(k:Int)<L.length:=ad;obtain ⟨b',o,a1,c1,m,mi,PY,dL,e0,e1,hm,mQ,hcl⟩:=(lI.o.cl.keep (aP.below HS.o.below) HS.o.below.size).get hlt;subst PY;rw [lI.o.eq] at hcl;have hcm:(⟨m,mi⟩:ey)∈s.cls:=by rw [<- hcl,fx (by rw [eU.o];exact hlt)];exact NS _
  obtain ⟨iZ,jS⟩:-4320<=mi/\mi<=4320:=eN.o.min hcm;have iG:=af (eN.o.mv _ hcm);have jg:=af (eN.o.ne hcm);have cS:=af hcl;obtain ⟨q,hq⟩:∃ q,(f' - mi-1) / 1440=q:=⟨_,rfl⟩;have fC:-4398046511104<=q:=ad;have eD:q<=4398046511104:=ad;obtain ⟨t,ht⟩:∃ t,max 0 (q+1)=t:=⟨_,rfl⟩;have G9:0<=t/\t<=4398046511104:=ad;obtain ⟨oO,yC⟩:=G9;obtain ⟨d,ok,hN⟩:=YL cH t (aW m);have m_:=af (xl_ (s:=s) (c:=⟨m,mi⟩) (f:=f') jg.o (by rw [<- ht,<- hq]) sS sT iZ hN);go_upto_region 10 with (fail)
  generalize hW:wr.alloc _=w2;have cE:Below wr.heap.size wr w2:=by rw [<- hW];exact xE
  have hbx:ag w2 wr.heap.size #[.slice a1 m.length c1,.int .i64 mi] 59:=by rw [<- hW];exact ag.at rfl
  have x0:=(hbx.cells 0).1;have x1:=(hbx.cells 1).1;have cD:=af hbx;have dV:=af (HS.o.ext cE);have kS:=λW=>Fb (f' - mi-1) W ⟨ad,ad⟩;rw [hq] at kS;have kS:=af kS;have fu:=af (λW (g:Below w2.heap.size w2 W)=>YJ 0 _ (.slice a1 m.length c1) m t d ok W ((hm.ext cE).ext g) iG.o ⟨ad,ad⟩ oO hN);rw [<- ht] at fu;have IV:=af ht;have TR:=af hN;have HQ:=af hq;clear hW hbx hm e0 e1 cE hcm hcl mQ hN hq dL ht;refine jE (w0:=w2) [0,1,2,3,4,5,6,7,8,9,10,11,12,13,14,15] [] (λv=>⟨#[.agg #[.slice (some ⟨b',o,none⟩) L.length cc,.int .i64 s.len,.slice ae s.ext.length ce],.int .i64 f',.pointer (some ⟨w.heap.size,0,none⟩),undef,.pointer (some ⟨w.heap.size+1,0,none⟩),.bool false,.pointer (some ⟨w1.heap.size,0,none⟩),.pointer (some ⟨w1.heap.size+1,0,none⟩),.func (Fn.func 60) #[] #[.pointer (some ⟨w1.heap.size+1,0,none⟩),.pointer (some ⟨w1.heap.size,0,none⟩)],undef,.pointer (some ⟨wr.heap.size,0,none⟩),v 14,v 15,undef,undef,.agg #[.slice (some ⟨b',o,none⟩) L.length cc,.int .i64 s.len,.slice ae s.ext.length ce],.bool true,.bool false,.bool false,.int .i64 f,.bool false,.bool false,undef,.int .i64 f,.int .i64 f',.func (Fn.func 60) #[] #[.pointer (some ⟨w1.heap.size+1,0,none⟩),.pointer (some ⟨w1.heap.size,0,none⟩)],.pointer (some ⟨w.heap.size,0,none⟩),.slice (some ⟨b',o,none⟩) L.length cc,.int .i64 ↑L.length,.int .i64 ↑k,.bool true,.pointer (some ⟨b',o+k*2,none⟩),.agg #[.slice a1 m.length c1,.int .i64 mi],v 11,v 0,v 1,v 2,v 3,v 4,v 5,v 6,v 7,v 8,v 9,v 10,v 12,v 13,u47,u48,u49,u50,u51,u52,u53,u54,u55,u56,u57,u58,u59,u60,undef,undef,undef,undef,undef,undef,undef,undef,undef,undef,undef,undef,undef,undef,undef,undef,undef,undef],[]⟩) [.pointer (some ⟨wr.heap.size,0,none⟩),.agg #[.slice a1 m.length c1],.int .i64 f',.pointer (some ⟨wr.heap.size,1,none⟩),.int .i64 mi,.int .i64 (f' - mi),.int .i64 (f' - mi-1),.int .i64 q,.int .i64 (q+1),.int .i64 (max 0 (q+1)),.tuple #[.int .i64 d,.bool ok],.tuple #[.int .i64 d,.bool ok],.int .i64 d,.bool ok,.int .i64 d,.bool ok] (λW=>W.cell? ⟨wr.heap.size,0,none⟩=some (.slice a1 m.length c1)/\W.cell? ⟨wr.heap.size,1,none⟩=some (.int .i64 mi)/\Below w2.heap.size w2 W) (λW hb=>⟨an.cell hb x0,an.cell hb x1,hb⟩) ?steps ?fin (λj=>match j with|0=>u34|1=>u35|2=>u36|3=>u37|4=>u38|5=>u39|6=>u40|7=>u41|8=>u42|9=>u43|10=>u44|11=>u33|12=>u45|13=>u46|14=>u11|15=>u12|_=>undef)
  case steps=>
   refine .c [] rfl ?_ (.c [0] rfl ?_ (.c [] rfl ?_ (.c [] rfl ?_ (.c [3] rfl ?_ (.c [2,4] rfl ?_ (.c [5] rfl ?_ (.c [6] rfl ?_ (.c [7] rfl ?_ (.c [8] rfl ?_ (.c [1,9] rfl ?_ (.c [10] rfl ?_ (.c [11] rfl ?_ (.c [11] rfl ?_ (.c [12] rfl ?_ (.c [13] rfl ?_ (.n))))))))))))))));all_goals try exact jX
   all_goals
    rintro v W hb ⟨g0,g1,g2⟩;refine .inl ⟨rfl,λK hK=>?_⟩;simp only [ov,aD,Nat.reduceBEq,cond_true,cond_false];go_wp2_with (first|(go_at_call 62;(with_reducible refine (kS.o _).mono ?_);rintro e w9 ⟨rfl,h9⟩;have bg:Below W.heap.size W w9:=h9 ▸ JV _ _;clear h9)|(go_at_call 61;(with_reducible refine (fu.o _ g2).mono ?_);rintro e w9 ⟨rfl,bg⟩));exact aQ (hK w9 bg) (by simp [ov,aD])
  case fin=>
   rintro W3 hb3 ⟨g0,g1,g2⟩;show wpList _ _ _ [] _ _;simp only [aD];have fR:=af (dV.o.ext hb3);have cq:=af hb3;have mU:=(fR.o.sbx.cells 0).1;have qD:=(fR.o.sbx.cells 1).1;have GW:=(fR.o.sbx.cells 2).1;have mG:=af (λW (hd:aS d)=>Xs (some ⟨b',o,none⟩) ae a1 L.length cc s.ext.length ce m.length c1 s.len mi d W sS sT iZ jS hd);have CK:aS d:=by
    rcases TR.o with ⟨_,g1,g2,_⟩|⟨_,g,_⟩
    .have:d<=1152921504606846976:=g2;exact ⟨ad,ad⟩
    subst g;exact ⟨ad,ad⟩
   have mG:=af (λW=>mG.o W CK);have HDI:=af CK;clear CK;have y0:=((cD.o.below hb3).cells 0).1;have y1:=((cD.o.below hb3).cells 1).1;cases ok with
   | false=>
    have sB:=HN.o.none (T:=λy=>kX s ⟨m,mi⟩ y/\y.fin<=2251799813685248) (m_.o.2 (.inl rfl));have Ei:=af sB;clear sB;go_wp2;go_roundw
    .exact ⟨_,_,_,_,⟨k+1,ad,by go_num,af ⟨x,b,Ei.o.congr λy=>by rw [RT (by rw [eU.o];exact hlt),cS.o],fR.o⟩⟩,rfl,rfl,rfl,rfl⟩
    simp [intOf];omega
   | true=>
    by_cases hT:d*1440+mi+s.len<=2251799813685248
    .have mG:=mG.o;rw [PH hT] at mG;have mG:=af mG;have AT:0<=d:=by
      rcases TR.o with ⟨_,g1,_⟩|⟨h,_⟩
      .omega
      cases h
     have dq:=af (λW=>O3 (some ⟨b',o,none⟩) ae a1 L.length cc s.ext.length ce m.length c1 s.len mi d W sS sT iZ jS ad ad);have qR:=af (m_.o.1 ⟨rfl,hT⟩);clear g0 g1 g2 x0 x1;go_wp2_with (first|(go_at_call 63;refine (mG.o _).mono ?_;rintro e w4 ⟨rfl,hb4⟩;have cR:=af hb4;have rT:=fR.o.ext hb4;have lH:=af rT;have z0:=(rT.sbx.cells 0).1;have z1:=(rT.sbx.cells 1).1;have z2:=(rT.sbx.cells 2).1;have gx:=(cD.o.below cq.o).below hb4;have y0:=(gx.cells 0).1;have y1:=(gx.cells 1).1;clear hb4 rT gx)|(go_at_call 64;refine (dq.o _).mono ?_;rintro e w5 ⟨rfl,hb5⟩;have UU:=lH.o.ext hb5;have oq:=af UU;clear hb5 UU)|(go_at_fn 60;(refine (YV (w1.heap.size+1) w1.heap.size (lM s ⟨m,mi⟩ d) x b _ ad oq.o.fbx oq.o.bbx).mono ?_);rintro e w6 ⟨rfl,x',b2,hfb,dL,yl,hsz,ho,ht,hu,hres⟩;have kV:=af (oq.o.take (x':=x') (b':=b2) ad ad ad ad ad ad hfb dL yl hsz ho ht hu);have MF:=af hres;clear hfb dL yl hsz ho ht hu hres));go_roundw
     .have hc:=qR.o;have key:ez (λy=>pf s k y\/(kX s ⟨m,mi⟩ y/\y.fin<=2251799813685248)) f' x' b2:=by
       rcases MF.o with ⟨h1,rfl,rfl⟩|⟨⟨rfl,h2⟩,rfl,rfl⟩
       .exact HN.o.take hc.2.1 h1 ⟨hc.1,hc.2.2⟩
       exact HN.o.pass ⟨rfl,h2⟩ hc.2.2
      have BH:=key.congr (T:=pf s (k+1)) λy=>by rw [RT (by rw [eU.o];exact hlt),cS.o]
      (repeat apply Exists.intro)
      refine ⟨⟨k+1,ad,?num,af ⟨x',b2,BH,kV.o⟩⟩,?eqs⟩
      case eqs=>repeat' (first|exact rfl|refine ⟨rfl,?_⟩)
      case num=>go_num
     simp [intOf];omega
    have mG:=mG.o;rw [P9 hT] at mG;have mG:=af mG;have sB:=HN.o.none (T:=λy=>kX s ⟨m,mi⟩ y/\y.fin<=2251799813685248) (m_.o.2 (.inr hT));have Ei:=af sB;clear sB g0 g1 g2 x0 x1;go_wp2_with (go_at_call 63;refine (mG.o _).mono ?_;rintro e w4 ⟨rfl,hb4⟩;have cR:=af hb4;have rT:=fR.o.ext hb4;have lH:=af rT;have z0:=(rT.sbx.cells 0).1;have z1:=(rT.sbx.cells 1).1;have z2:=(rT.sbx.cells 2).1;have gx:=(cD.o.below cq.o).below hb4;have y0:=(gx.cells 0).1;have y1:=(gx.cells 1).1;clear hb4 rT gx);go_roundw
    ·(repeat apply Exists.intro)
     refine ⟨⟨k+1,ad,?num,af ⟨x,b,Ei.o.congr λy=>by rw [RT (by rw [eU.o];exact hlt),cS.o],lH.o⟩⟩,?eqs⟩
     case eqs=>repeat' (first|exact rfl|refine ⟨rfl,?_⟩)
     case num=>go_num
    simp [intOf];omega
 obtain rfl:k=L.length:=ad;have fg:¬ (L.length:Int)<L.length:=ad;have q2:=(HS.o.sbx.cells 2).1;have Mf:=af (show ez (pf s s.cls.length) f' x b by rw [eU.o];exact HN.o);go_wp2_with fail;clear fg q2 HN;go_loopw [14,64] (λ_ vi wr=>∃ (k:Nat),k<=s.ext.length/\vi=.int .i64 k/\Hid (∀ j,j<k->(s.ext.getD j default).frm<f')/\Hid (uX w w.heap.size (w.heap.size+1) w1.heap.size (w1.heap.size+1) (.slice ac L.length cc) (.slice ae s.ext.length ce) s.len x b wr)) (λ_ vi _=>s.ext.length-(intOf vi).toNat)
 .exact ⟨0,ad,rfl,af (by intro j hj;omega),by first|exact HS|exact af (HS.o.ext xE)⟩
 obtain ⟨k,hk,rfl,bU,HS⟩:=hrel;have wG:=HS.o.below.size;have nY:=HS.o.bbx.lt;have yE:=HS.o.fbx.lt;by_cases hlt:k<s.ext.length
 .have cP:(k:Int)<s.ext.length:=ad;obtain ⟨b',o,y,FW,dL,hy,oS,e0,e1,e2⟩:=(lI.o.ex.keep (aP.below HS.o.below) HS.o.below.size).get hlt;subst FW;have HY:=af hy;clear hy oS;have cE:Below wr.heap.size wr (wr.alloc (.cells #[.int .i64 y.day,.int .i64 y.frm,.int .i64 y.fin] 46)):=Ea (Er wr) _;have dV:=af (HS.o.ext cE);clear cE;by_cases hge:f'<=y.frm
  .have Qo:=vb_ eN.o.val hlt (f:=f') (by rw [HY.o];exact hge) bU.o;rw [HY.o] at Qo;have Tv:=af Qo;have qZ:=af (show y∈s.ext by rw [<- HY.o,fx hlt];exact NS hlt);clear Qo;go_upto_region 20 with (go_at_fn 60;(refine (YV (w1.heap.size+1) w1.heap.size y x b _ ad dV.o.fbx dV.o.bbx).mono ?_);rintro e w6 ⟨rfl,x',b2,hfb,dL,yl,hsz,ho,ht,hu,hres⟩;have kV:=af (dV.o.take (x':=x') (b':=b2) ad ad ad ad ad ad hfb dL yl hsz ho ht hu);have MF:=af hres;clear hfb dL yl hsz ho ht hu hres)
   have ng:=af (eN.o.next DI.o (x:=x') (b:=b2) (by
    rcases MF.o with ⟨h1,rfl,rfl⟩|⟨⟨rfl,h2⟩,rfl,rfl⟩
    .exact Mf.o.take hge h1 ⟨qZ.o,Tv.o⟩
    exact Mf.o.pass ⟨rfl,h2⟩ Tv.o))
   have k0:=(kV.o.bbx.cells 0).1;have k1:=(kV.o.bbx.cells 1).1;have k2:=(kV.o.bbx.cells 2).1;have k3:=(kV.o.fbx.cells 0).1;have k4:=(kV.o.rbx.cells 0).1;have k5:=(kV.o.rbx.cells 1).1;have k6:=(kV.o.rbx.cells 2).1;have j4:=(kV.o.rbx.cells 0).2;have j5:=(kV.o.rbx.cells 1).2;have j6:=(kV.o.rbx.cells 2).2;have hbl:=kV.o.below
   go_region
   all_goals
    go_wp2_with fail
    have c0:ag _ _ _ 46:=bE 0 (.int .i64 x'.day) kV.o.rbx;have c1:ag _ _ _ 46:=bE 1 (.int .i64 x'.frm) c0;have c2:ag _ _ _ 46:=bE 2 (.int .i64 x'.fin) c1;have s0:=(c0.cells 0).1;have s1:=(c1.cells 1).1;have s2:=(c2.cells 2).1;exact VN (v:=.tuple #[bQ x',.bool b2]) (by simp [results,Tryz.results30,go_sem,s0,s1,s2,bQ]) rfl ⟨x',b2,rfl,ng.o,xE⟩
  go_wp2
  go_roundw
  .exact ⟨k+1,ad,by go_num,af λj hj=>by
   by_cases e:j<k
   .exact bU.o j e
   obtain rfl:j=k:=ad;rw [HY.o];omega,dV⟩
  simp [intOf];omega
 obtain rfl:k=s.ext.length:=ad;have ng:=af (eN.o.next DI.o (x:=x) (b:=b) (Mf.o.none λy hy hf=>by
  obtain ⟨j,hj,rfl⟩:=tu (d:=default) hy;have:=bU.o j hj;omega))
 go_upto_region 20 with (fail)
 have k0:=(HS.o.bbx.cells 0).1;have k1:=(HS.o.bbx.cells 1).1;have k2:=(HS.o.bbx.cells 2).1;have k3:=(HS.o.fbx.cells 0).1;have k4:=(HS.o.rbx.cells 0).1;have k5:=(HS.o.rbx.cells 1).1;have k6:=(HS.o.rbx.cells 2).1;have j4:=(HS.o.rbx.cells 0).2;have j5:=(HS.o.rbx.cells 1).2;have j6:=(HS.o.rbx.cells 2).2;have hbl:=HS.o.below
 go_region
 all_goals
  go_wp2_with fail
  have c0:ag _ _ _ 46:=bE 0 (.int .i64 x.day) HS.o.rbx;have c1:ag _ _ _ 46:=bE 1 (.int .i64 x.frm) c0;have c2:ag _ _ _ 46:=bE 2 (.int .i64 x.fin) c1;have s0:=(c0.cells 0).1;have s1:=(c1.cells 1).1;have s2:=(c2.cells 2).1;exact VN (v:=.tuple #[bQ x,.bool b]) (by simp [results,Tryz.results30,go_sem,s0,s1,s2,bQ]) rfl ⟨x,b,rfl,ng.o,xE⟩
theorem Jh (d:Int) (w:World) (h1:-4611686018427387904<=d) (h2:d<=4611686018427387904) :
  Calls Tryz.prog 71 #[.int .i64 d] w λe w'=>e=.returned (.int .i64 (d % 7))/\w=w':=by
 have hr:=Ky d 7 aG;have hq:=q7q d 7;obtain ⟨r,Ka⟩:∃ r,d.tmod 7=r:=⟨_,rfl⟩;have hb:-7<r/\r<7:=by
  have:=q8p d (show (0:Int)<7 by decide);have:=hr.2.2;omega
 have hf:(r+7).tmod 7=d % 7:=by
  rw [NY ad];rw [Ka] at hq;omega
 obtain ⟨b1,b2⟩:=hb;have HF:=af hf
 go_in
 go_wp2;go_ret;exact ⟨rfl,rfl⟩
theorem Jj (n:Int) (w:World) (h1:-4611686018427387904<=n) (h2:n<=4611686018427387904) :
  Calls Tryz.prog 70 #[.int .i64 n] w λe w'=>e=.returned (.int .i64 (n / 1440))/\w=w':=by
 by_cases h:n<0
 .have hq:-((-n+1440-1).tdiv 1440)=n / 1440:=by rw [DL ad];omega
  have hb:0<=(-n+1440-1).tdiv 1440/\(-n+1440-1).tdiv 1440<=4611686018427387904:=by rw [DL ad];omega
  obtain ⟨b1,b2⟩:=hb;have HQ:=af hq;clear hq
  go_in
  go_wp2;go_ret;rw [HQ.o];exact ⟨rfl,rfl⟩
 have hq:n.tdiv 1440=n / 1440:=by rw [DL ad]
 have hb:0<=n.tdiv 1440/\n.tdiv 1440<=4611686018427387904:=by rw [DL ad];omega
 obtain ⟨b1,b2⟩:=hb;have HQ:=af hq;clear hq
 go_in
 go_wp2;go_ret;rw [HQ.o];exact ⟨rfl,rfl⟩
theorem t9_ (x y:ai) (w:World) :
  Calls Tryz.prog 46 #[bQ x,bQ y] w λe w'=>∃ b:Bool,e=.returned (.bool b)/\(b=true↔bo x y)/\Below w.heap.size w w':=by
 obtain ⟨xd,xf,xt⟩:=x;obtain ⟨yd,yf,yt⟩:=y;show Calls _ _ #[.agg #[.int .i64 xd,.int .i64 xf,.int .i64 xt],.agg #[.int .i64 yd,.int .i64 yf,.int .i64 yt]] _ _;obtain ⟨B,hB⟩:∃ B:Bool,(B=true↔bo ⟨xd,xf,xt⟩ ⟨yd,yf,yt⟩):=by
  by_cases h:bo ⟨xd,xf,xt⟩ ⟨yd,yf,yt⟩
  .exact ⟨true,λ_=>h,λ_=>rfl⟩
  exact ⟨false,λe=>(by cases e),λe=>absurd e h⟩
 have key:Calls Tryz.prog 46 #[.agg #[.int .i64 xd,.int .i64 xf,.int .i64 xt],.agg #[.int .i64 yd,.int .i64 yf,.int .i64 yt]] w λe w'=>e=.returned (.bool B)/\Below w.heap.size w w':=by
  have HB:=af hB;clear hB;by_cases h1:xf=yf
  .by_cases h2:xd<yd
   .go_in
    go_wp2;go_ret;exact ⟨bX (Eq.symm (HB.o.2 (by unfold bo;simp only;omega))),xE⟩
   by_cases h3:xd=yd
   .go_in
    go_wp2;go_ret;exact ⟨bX (by rw [ML,HB.o,QN];unfold bo;simp only;omega),xE⟩
   go_in
   go_wp2;go_ret;exact ⟨bX (Eq.symm (by rw [Bool.eq_false_iff];intro h;have:=HB.o.1 h;unfold bo at this;simp only at this;omega)),xE⟩
  go_in
  go_wp2;go_ret;exact ⟨bX (by rw [ML,HB.o,QN];unfold bo;simp only;omega),xE⟩
 exact key.mono λe w' h=>⟨B,h.1,hB,h.2⟩
def jl (len:Int) (l:List ai):Int:=l.foldl (λa x=>max a (x.fin-x.frm)) len
theorem tj_ {l:List ai} (h:k<l.length):jl len (l.take (k+1))=max (jl len (l.take k)) ((l.getD k default).fin-(l.getD k default).frm):=by
 unfold jl;rw [LF h,GQ,fx h];rfl
theorem qq_ (F:Nat->Prop) (cv ev:Value) (s:aE) (w:World) (h:bq w F cv ev s) (eC:bO s) :
  Calls Tryz.prog 38 #[.agg #[cv,.int .i64 s.len,ev]] w λe w'=>e=.returned (.int .i64 (jl s.len s.ext))/\Below w.heap.size w w':=by
 have h:=h.lt;obtain ⟨L,h⟩:=h;obtain ⟨a1,c1,rfl⟩:=h.cl.form;obtain ⟨a2,c2,rfl⟩:=h.ex.form;have hl2:=h.ex.len;obtain ⟨sS,sT⟩:=eC.val.len;have lI:=af h;have eN:=af eC;clear h eC
 go_in
 go_wp2
 go_loopw [3,5,11] (λv _ vi wr=>∃ k:Nat,k<=s.ext.length/\vi=.int .i64 k/\v=.int .i64 (jl s.len (s.ext.take k))/\Hid (0<=jl s.len (s.ext.take k)/\jl s.len (s.ext.take k)<=10080)/\Hid (Below w.heap.size w wr)) (λ_ _ vi _=>s.ext.length-(intOf vi).toNat)
 .exact ⟨0,ad,rfl,rfl,af ⟨by show 0<=s.len;omega,by show s.len<=10080;omega⟩,af xE⟩
 obtain ⟨k,hk,rfl,rfl,HG,HB⟩:=hrel;have wG:=HB.o.size;by_cases hlt:k<s.ext.length
 .have cP:(k:Int)<s.ext.length:=ad;obtain ⟨b',o,y,FW,dL,hy,oS,e0,e1,e2⟩:=(lI.o.below HB.o).ex.get hlt;subst FW;have hg:=eN.o.val.ins (x:=y) (by rw [<- hy,fx hlt];exact NS hlt);obtain ⟨_,⟨g1,g2⟩,g3,g4⟩:=hg;have HT:=af (tj_ (len:=s.len) hlt);rw [hy] at HT;obtain ⟨m,hm⟩:∃ m,jl s.len (s.ext.take k)=m:=⟨_,rfl⟩;rw [hm] at HT HG ⊢;obtain ⟨m1,m2⟩:=HG.o;clear hy oS hm;go_wp2;go_roundw
  .exact ⟨k+1,ad,by go_num,by rw [HT.o],af (by rw [HT.o];omega),af (by have:=HB.o;exact xE)⟩
  simp [intOf];omega
 obtain rfl:k=s.ext.length:=ad;go_wp2;go_ret;rw [OC];exact ⟨rfl,HB.o⟩
theorem RN (x y:ai) (w:World) :
  Calls Tryz.prog 47 #[bQ x,bQ y] w λe w'=>e=.returned (.bool (decide (bo x y)))/\Below w.heap.size w w':=by
 obtain ⟨xd,xf,xt⟩:=x;obtain ⟨yd,yf,yt⟩:=y;show Calls _ _ #[.agg #[.int .i64 xd,.int .i64 xf,.int .i64 xt],.agg #[.int .i64 yd,.int .i64 yf,.int .i64 yt]] _ _;obtain ⟨B,hB⟩:∃ B:Bool,decide (bo ⟨xd,xf,xt⟩ ⟨yd,yf,yt⟩)=B:=⟨_,rfl⟩;rw [hB];have oH:B=true↔(xf<yf\/(xf=yf/\(xd<yd\/(xd=yd/\xt<yt)))):=by rw [<- hB,QN];rfl
 have HB:=af oH;clear hB oH;by_cases h1:xf=yf
 .by_cases h2:xd=yd
  .go_in
   go_wp2;go_ret;exact ⟨bX (by rw [ML,HB.o,QN];omega),xE⟩
  go_in
  go_wp2;go_ret;exact ⟨bX (by rw [ML,HB.o,QN];omega),xE⟩
 go_in
 go_wp2;go_ret;exact ⟨bX (by rw [ML,HB.o,QN];omega),xE⟩
theorem Fc (x y:ai) (W:World):(binOp .eql 46 (bQ x) (bQ y)).run Tryz.prog W=.ok (.bool (decide (x=y))) W:=by
 have e:decide (x=y)=(decide (x.day=y.day) && (decide (x.frm=y.frm) && decide (x.fin=y.fin))):=by
  rw [ML];simp only [NU,OB];exact ⟨λh=>by subst h;exact ⟨rfl,rfl,rfl⟩,λh=>ai.ext' h.1 h.2.1 h.2.2⟩
 rw [e];simp [go_sem];by_cases h1:x.day=y.day <;> by_cases h2:x.frm=y.frm <;> by_cases h3:x.fin=y.fin <;> simp [h1,h2,h3]
def uk_ (lv:Value) (l:List ai) (x:ai) (w:World) (e:Ending) (w':World):Prop:=
 Below w.heap.size w w'/\∃ v',e=.returned v'/\((x∈l/\v'=lv)\/(x ∉ l/\dO w.heap.size (λ_=>False) w' v' (dw l x)))
theorem Ah {b:Nat} {c:Array Value} {t:TypeId} (h:ag W b c t):∀ j u,c.toList[j]? = some u->W.cell? ⟨b,j,none⟩=some u:=λj u hu=>by
 rw [(h.cells j).1,<- hu];simp
def zn_ (lv:Value) (l:List ai) (x:ai) (w:World) (e:Ending) (w':World):Prop:=uk_ lv l x w e w'
theorem td_ (F:Nat->Prop) (lv:Value) (l:List ai) (x:ai) (w:World) (h:bZ w F lv l) (hx:jB x) (hl:l.length<=1000) :
  Calls Tryz.prog 43 #[lv,bQ x] w (zn_ lv l x w):=by
 obtain ⟨a1,c1,rfl⟩:=h.form;have HE:=af h;have IX:=af hx;obtain ⟨iI,VV,VW,VX,VY⟩:=KC;have HI:=af (And.intro VV (And.intro VW (And.intro VX VY)));clear h hx VV VW VX VY;have j7:=af (λy W=>RN x y W);obtain ⟨xd,xf,xt⟩:=x;show Calls _ _ #[_,.agg #[.int .i64 xd,.int .i64 xf,.int .i64 xt]] _ _
 go_in
 go_wp2_with fail
 have Gb:ag (w.alloc (.cells #[.int .i64 xd,.int .i64 xf,.int .i64 xt] 46)) w.heap.size #[.int .i64 xd,.int .i64 xf,.int .i64 xt] 46:=ag.new _ _ _;have cD:=af Gb;have fB:dO (w.heap.size+1) (λ_=>False) ((w.alloc (.cells #[.int .i64 xd,.int .i64 xf,.int .i64 xt] 46)).alloc (.cells #[] 46)) (.slice (some ⟨w.heap.size+1,0,none⟩) 0 0) []:=
  ⟨⟨rfl,.inr ⟨w.heap.size+1,0,#[],rfl,TZ _,by rw [show w.heap.size+1=(w.alloc (.cells #[.int .i64 xd,.int .i64 xf,.int .i64 xt] 46)).heap.size by simp];exact DP _ _,TZ _,by simp [maxLen],rfl,rfl⟩⟩,aj,λ_ _ h=>h,aj⟩
 have Ej:=af fB;clear Gb fB;go_loopw [5,6,7] (λov dv iv wr=>∃ (k:Nat) (done:Bool) (out:List ai),k<=l.length/\iv=.int .i64 k/\dv=.bool done/\out.length<=k+1/\Hid (gX l ⟨xd,xf,xt⟩ k done out)/\Hid (dO (w.heap.size+1) (λ_=>False) wr ov out)/\Hid (Below (w.heap.size+1) (w.alloc (.cells #[.int .i64 xd,.int .i64 xf,.int .i64 xt] 46)) wr)) (λ_ _ iv _=>l.length-(intOf iv).toNat)
 .exact ⟨0,false,[],ad,rfl,rfl,aj,af (gX.start _ _),Ej,af ((Ea (Er _) _).mono aj)⟩
 obtain ⟨k,done,out,hk,rfl,rfl,hol,HP,HO,HB⟩:=hrel;obtain ⟨oa,oc,rfl,-⟩:=HO.o.form;have hxb:ag wr w.heap.size #[.int .i64 xd,.int .i64 xf,.int .i64 xt] 46:=cD.o.upto HB.o ad;have x0:=(hxb.cells 0).1;have x1:=(hxb.cells 1).1;have x2:=(hxb.cells 2).1;have tq:=af hxb;have bL:Hid (Below w.heap.size w wr):=af ((Ea (Er w) _).trans (HB.o.mono ad));have hwr:=hxb.lt;clear hxb;by_cases hlt:k<l.length
 .have cP:(k:Int)<l.length:=ad;obtain ⟨b,o,y,rfl,hbl,hy,oS,e0,e1,e2⟩:=HE.o.get hlt;have HY:=af hy;have M8:=af oS;obtain ⟨yd,yf,yt⟩:=y;dsimp only at e0 e1 e2;have Dw:=af (λW (hb:Below w.heap.size w W)=>And.intro (an.cell hb e0) (And.intro (an.cell hb e1) (an.cell hb e2)));clear e0 e1 e2;obtain ⟨e0,e1,e2⟩:=Dw.o _ bL.o;obtain ⟨E,hE⟩:∃ E:Bool,decide ((⟨yd,yf,yt⟩:ai)=⟨xd,xf,xt⟩)=E:=⟨_,rfl⟩;have uo:=af hE;have heq:=λW=>Fc ⟨yd,yf,yt⟩ ⟨xd,xf,xt⟩ W;rw [hE] at heq;clear hE hy oS;go_upto_region 6 with (fail)
  refine jE (w0:=wr) [0,1,2,3,4,5] [] (λv=>⟨#[.slice (some ⟨b,o,none⟩) l.length c1,.agg #[.int .i64 xd,.int .i64 xf,.int .i64 xt],undef,.pointer (some ⟨w.heap.size,0,none⟩),u4,.slice oa out.length oc,.bool done,.int .i64 ↑k,.slice (some ⟨w.heap.size+1,0,none⟩) 0 0,.int .i64 ↑k,.slice (some ⟨b,o,none⟩) l.length c1,.int .i64 ↑l.length,.bool true,u13,u14,v 0,v 1,v 2,v 3,v 4,v 5,u21,u22,u23,u24,u25,u26,u27,u28,u29,u30,u31,u32,u33,u34,u35,u36,u37,u38,u39,u40,u41,u42,undef,undef,undef,undef,undef,undef,undef],[]⟩) [.slice (some ⟨b,o,none⟩) l.length c1,.int .i64 k,.pointer (some ⟨b,o+k*3,none⟩),.agg #[.int .i64 yd,.int .i64 yf,.int .i64 yt],.agg #[.int .i64 xd,.int .i64 xf,.int .i64 xt],.bool E] (λW=>W.cell? ⟨b,o+k*3,none⟩=some (Value.int .i64 yd)/\W.cell? ⟨b,o+k*3+1,none⟩=some (Value.int .i64 yf)/\W.cell? ⟨b,o+k*3+2,none⟩=some (Value.int .i64 yt)/\W.cell? ⟨w.heap.size,0,none⟩=some (Value.int .i64 xd)/\W.cell? ⟨w.heap.size,1,none⟩=some (Value.int .i64 xf)/\W.cell? ⟨w.heap.size,2,none⟩=some (Value.int .i64 xt)) (λW hb=>⟨an.cell hb e0,an.cell hb e1,an.cell hb e2,an.cell hb x0,an.cell hb x1,an.cell hb x2⟩) ?steps ?fin (λj=>match j with|0=>u15|1=>u16|2=>u17|3=>u18|4=>u19|5=>u20|_=>undef)
  case steps=>
   refine .c [] rfl ?_ (.c [] rfl ?_ (.c [0,1] rfl ?_ (.c [2] rfl ?_ (.c [] rfl ?_ (.c [3,4] rfl ?_ (.n))))));all_goals try exact jX
  case fin=>
   rintro W6 bG ⟨g0,g1,g2,g3,g4,g5⟩;show wpList _ _ _ [] _ _;simp only [aD];have bR:=af bG;clear bG e0 e1 e2 x0 x1 x2;cases E
   .have hne:l.getD k default≠⟨xd,xf,xt⟩:=by rw [HY.o];exact NH uo.o
    have jg:=af hne;clear hne;cases done
    .obtain ⟨E2,cE⟩:∃ E:Bool,decide (bo ⟨xd,xf,xt⟩ ⟨yd,yf,yt⟩)=E:=⟨_,rfl⟩;have mB:=af cE;have D5:=af (λW=>j7.o ⟨yd,yf,yt⟩ W);rw [cE] at D5;have e0:=g0;have e1:=g1;have e2:=g2;have x0:=g3;have x1:=g4;have x2:=g5;clear g0 g1 g2 g3 g4 g5 cE;go_upto_region 8 with (fail)
     refine jE (w0:=W6) [0,1,2,3,4,5,6,7,8,9] [] (λv=>⟨#[.slice (some ⟨b,o,none⟩) l.length c1,.agg #[.int .i64 xd,.int .i64 xf,.int .i64 xt],undef,.pointer (some ⟨w.heap.size,0,none⟩),u4,.slice oa out.length oc,.bool false,.int .i64 ↑k,.slice (some ⟨w.heap.size+1,0,none⟩) 0 0,.int .i64 ↑k,.slice (some ⟨b,o,none⟩) l.length c1,.int .i64 ↑l.length,.bool true,u13,u14,.slice (some ⟨b,o,none⟩) l.length c1,.int .i64 ↑k,.pointer (some ⟨b,o+k*3,none⟩),.agg #[.int .i64 yd,.int .i64 yf,.int .i64 yt],.agg #[.int .i64 xd,.int .i64 xf,.int .i64 xt],.bool false,u21,v 0,v 1,v 2,v 3,v 4,v 5,v 6,v 7,v 8,v 9,u32,u33,u34,u35,u36,u37,u38,u39,u40,u41,u42,undef,undef,undef,undef,undef,undef,undef],[]⟩) [.bool false,.bool true,.bool true,.agg #[.int .i64 xd,.int .i64 xf,.int .i64 xt],.slice (some ⟨b,o,none⟩) l.length c1,.int .i64 k,.pointer (some ⟨b,o+k*3,none⟩),.agg #[.int .i64 yd,.int .i64 yf,.int .i64 yt],.bool E2,.bool E2] (λW=>W.cell? ⟨b,o+k*3,none⟩=some (Value.int .i64 yd)/\W.cell? ⟨b,o+k*3+1,none⟩=some (Value.int .i64 yf)/\W.cell? ⟨b,o+k*3+2,none⟩=some (Value.int .i64 yt)/\W.cell? ⟨w.heap.size,0,none⟩=some (Value.int .i64 xd)/\W.cell? ⟨w.heap.size,1,none⟩=some (Value.int .i64 xf)/\W.cell? ⟨w.heap.size,2,none⟩=some (Value.int .i64 xt)) (λW hb=>⟨an.cell hb e0,an.cell hb e1,an.cell hb e2,an.cell hb x0,an.cell hb x1,an.cell hb x2⟩) ?stepsB ?finB (λj=>match j with|0=>u22|1=>u23|2=>u24|3=>u25|4=>u26|5=>u27|6=>u28|7=>u29|8=>u30|9=>u31|_=>undef)
     case stepsB=>
      refine .c [] rfl ?_ (.c [0] rfl ?_ (.c [1] rfl ?_ (.c [2] rfl ?_ (.c [2] rfl ?_ (.c [2] rfl ?_ (.c [2,4,5] rfl ?_ (.c [2,6] rfl ?_ (.c [2,3,7] rfl ?_ (.c [2,8] rfl ?_ (.n))))))))));all_goals try exact jX
      all_goals
       rintro v W hb ⟨g0,g1,g2,g3,g4,g5⟩;refine .inl ⟨rfl,λK hK=>?_⟩;simp only [ov,aD,Nat.reduceBEq,cond_true,cond_false];go_wp2_with (go_at_call 47;(with_reducible refine (D5.o _).mono ?_);rintro e w9 ⟨rfl,bg⟩);exact aQ (hK w9 bg) (by simp [ov,aD])
     case finB=>
      rintro W7 ek ⟨g0,g1,g2,g3,g4,g5⟩;show wpList _ _ _ [] _ _;simp only [aD];have gV:=af (HB.o.trans ((Et bR.o ek).mono ad));have iJ:=af (aN.below iQ HO.o (Et bR.o ek));have bU:=af (show k+1<=l.length by omega);clear ek hlt;cases E2
      .have om:=af (HP.o.next (by have:=bU.o;omega) jg.o (.inr (by rw [HY.o];exact NH mB.o)));rw [HY.o] at om;clear g3 g4 g5;go_wp2_with (at_builtin;(refine mL aC _ _ _ _ aC iI _ 3 24 Tryz.underlying41 HI.o.1 HI.o.2.1 HI.o.2.2.1 HI.o.2.2.2 rfl aG aG (w.heap.size+1) (.slice oa out.length oc) (out.length) ((out).flatMap bH) (bH (⟨yd,yf,yt⟩:ai)) rfl aC (aN.below iQ iJ.o (Ea (Er _) _)).row W7.heap.size 1 aC (Ah (ag.new W7 #[.int .i64 yd,.int .i64 yf,.int .i64 yt] 46)) (by simp [bH,Value.oneCell']) ad (by rw [U7];have:=gV.o.size;simp at this;omega) ?_);intro v' w9 au aq aI;obtain ⟨na,nc,rfl⟩:=kF au;have jz:=af (aN.push (y:=(⟨yd,yf,yt⟩:ai)) iQ (aN.below iQ iJ.o (Ea (Er _) _)) M8.o au aq aI (λh=>h) ad);have jx:=af ((gV.o.alloc (by have:=gV.o.size;simp at this;omega) _).grown aq (by rw [U7];have:=gV.o.size;simp at this;omega) λq e=>(iJ.o.row.lt q e).1);clear au aq aI);go_roundw
       .exact ⟨k+1,false,out ++ [⟨yd,yf,yt⟩],bU.o,by go_num,rfl,aR,om,jz,jx⟩
       have:=bU.o;simp [intOf];omega
      have om:=af (HP.o.here (by have:=bU.o;omega) jg.o (by rw [HY.o];exact LX mB.o));rw [HY.o] at om;go_upto_region 11 with (at_builtin;(refine mL aC _ _ _ _ aC iI _ 3 24 Tryz.underlying41 HI.o.1 HI.o.2.1 HI.o.2.2.1 HI.o.2.2.2 rfl aG aG (w.heap.size+1) (.slice oa out.length oc) (out.length) ((out).flatMap bH) (bH (⟨xd,xf,xt⟩:ai)) rfl aC (aN.below iQ iJ.o (Ea (Er _) _)).row W7.heap.size 1 aC (Ah (ag.new W7 #[.int .i64 xd,.int .i64 xf,.int .i64 xt] 46)) (by simp [bH,Value.oneCell']) ad (by rw [U7];have:=gV.o.size;simp at this;omega) ?_);intro v' W8 au aq aI;obtain ⟨na,nc,rfl⟩:=kF au;have uI:=af (aN.push (y:=(⟨xd,xf,xt⟩:ai)) iQ (aN.below iQ iJ.o (Ea (Er _) _)) IX.o au aq aI (λh=>h) ad);have fV:=af ((gV.o.alloc (by have:=gV.o.size;simp at this;omega) _).grown aq (by rw [U7];have:=gV.o.size;simp at this;omega) λq e=>(iJ.o.row.lt q e).1);clear au aq aI)
      have F7:Below w.heap.size w W8:=(Ea (Er w) _).trans (fV.o.mono ad);obtain ⟨e0,e1,e2⟩:=Dw.o _ F7;clear g0 g1 g2 g3 g4 g5 F7;go_wp2_with (at_builtin;(refine mL aC _ _ _ _ aC iI _ 3 24 Tryz.underlying41 HI.o.1 HI.o.2.1 HI.o.2.2.1 HI.o.2.2.2 rfl aG aG (w.heap.size+1) (.slice na (out.length+1) nc) ((out ++ [(⟨xd,xf,xt⟩:ai)]).length) ((out ++ [(⟨xd,xf,xt⟩:ai)]).flatMap bH) (bH (⟨yd,yf,yt⟩:ai)) rfl aC (aN.below iQ uI.o (Ea (Er _) _)).row W8.heap.size 1 aC (Ah (ag.new W8 #[.int .i64 yd,.int .i64 yf,.int .i64 yt] 46)) (by simp [bH,Value.oneCell']) aR (by rw [U7];have:=fV.o.size;simp at this;omega) ?_);intro v' w9 au aq aI;obtain ⟨na2,nc2,rfl⟩:=kF au;have jz:=af (aN.push (y:=(⟨yd,yf,yt⟩:ai)) iQ (aN.below iQ uI.o (Ea (Er _) _)) M8.o au aq aI (λh=>h) aR);have jx:=af ((fV.o.alloc (by have:=fV.o.size;simp at this;omega) _).grown aq (by rw [U7];have:=fV.o.size;simp at this;omega) λq e=>(uI.o.row.lt q e).1);clear au aq aI);go_roundw
      .have J6:out.length<=k:=by have h1:=HP.o.oeq;rw [if_neg aj] at h1;rw [h1,MO];omega
       exact ⟨k+1,true,out ++ [⟨xd,xf,xt⟩] ++ [⟨yd,yf,yt⟩],bU.o,by go_num,rfl,aR,om,af (by have h2:=jz.o;rw [MB,NF] at h2;exact h2),jx⟩
      have:=bU.o;simp [intOf];omega
    have e0:=g0;have e1:=g1;have e2:=g2;have x0:=g3;have x1:=g4;have x2:=g5;clear g0 g1 g2 g3 g4 g5;go_upto_region 8 with (fail)
    refine jE (w0:=W6) [0,1,2,3,4,5,6,7,8,9] [] (λv=>⟨#[.slice (some ⟨b,o,none⟩) l.length c1,.agg #[.int .i64 xd,.int .i64 xf,.int .i64 xt],undef,.pointer (some ⟨w.heap.size,0,none⟩),u4,.slice oa out.length oc,.bool true,.int .i64 ↑k,.slice (some ⟨w.heap.size+1,0,none⟩) 0 0,.int .i64 ↑k,.slice (some ⟨b,o,none⟩) l.length c1,.int .i64 ↑l.length,.bool true,u13,u14,.slice (some ⟨b,o,none⟩) l.length c1,.int .i64 ↑k,.pointer (some ⟨b,o+k*3,none⟩),.agg #[.int .i64 yd,.int .i64 yf,.int .i64 yt],.agg #[.int .i64 xd,.int .i64 xf,.int .i64 xt],.bool false,u21,v 0,v 1,v 2,v 3,v 4,v 5,v 6,v 7,v 8,v 9,u32,u33,u34,u35,u36,u37,u38,u39,u40,u41,u42,undef,undef,undef,undef,undef,undef,undef],[]⟩) [.bool true,.bool false,.bool false,undef,undef,undef,undef,undef,undef,.bool false] (λW=>W.cell? ⟨b,o+k*3,none⟩=some (Value.int .i64 yd)/\W.cell? ⟨b,o+k*3+1,none⟩=some (Value.int .i64 yf)/\W.cell? ⟨b,o+k*3+2,none⟩=some (Value.int .i64 yt)/\W.cell? ⟨w.heap.size,0,none⟩=some (Value.int .i64 xd)/\W.cell? ⟨w.heap.size,1,none⟩=some (Value.int .i64 xf)/\W.cell? ⟨w.heap.size,2,none⟩=some (Value.int .i64 xt)) (λW hb=>⟨an.cell hb e0,an.cell hb e1,an.cell hb e2,an.cell hb x0,an.cell hb x1,an.cell hb x2⟩) ?stepsA ?finA (λj=>match j with|0=>u22|1=>u23|2=>u24|3=>u25|4=>u26|5=>u27|6=>u28|7=>u29|8=>u30|9=>u31|_=>undef)
    case stepsA=>
     refine .c [] rfl ?_ (.c [0] rfl ?_ (.c [1] rfl ?_ (.c [2] rfl ?_ (.c [2] rfl ?_ (.c [2] rfl ?_ (.c [2,4,5] rfl ?_ (.c [2,6] rfl ?_ (.c [2,3,7] rfl ?_ (.c [2,8] rfl ?_ (.n))))))))));all_goals try exact jX
    case finA=>
     rintro W7 ek ⟨g0,g1,g2,g3,g4,g5⟩;show wpList _ _ _ [] _ _;simp only [aD];have gV:=af (HB.o.trans ((Et bR.o ek).mono ad));have iJ:=af (aN.below iQ HO.o (Et bR.o ek));have bU:=af (show k+1<=l.length by omega);clear ek hlt g3 g4 g5;have om:=af (HP.o.next (by have:=bU.o;omega) jg.o (.inl rfl));rw [HY.o] at om;go_wp2_with (at_builtin;(refine mL aC _ _ _ _ aC iI _ 3 24 Tryz.underlying41 HI.o.1 HI.o.2.1 HI.o.2.2.1 HI.o.2.2.2 rfl aG aG (w.heap.size+1) (.slice oa out.length oc) (out.length) ((out).flatMap bH) (bH (⟨yd,yf,yt⟩:ai)) rfl aC (aN.below iQ iJ.o (Ea (Er _) _)).row W7.heap.size 1 aC (Ah (ag.new W7 #[.int .i64 yd,.int .i64 yf,.int .i64 yt] 46)) (by simp [bH,Value.oneCell']) ad (by rw [U7];have:=gV.o.size;simp at this;omega) ?_);intro v' w9 au aq aI;obtain ⟨na,nc,rfl⟩:=kF au;have jz:=af (aN.push (y:=(⟨yd,yf,yt⟩:ai)) iQ (aN.below iQ iJ.o (Ea (Er _) _)) M8.o au aq aI (λh=>h) ad);have jx:=af ((gV.o.alloc (by have:=gV.o.size;simp at this;omega) _).grown aq (by rw [U7];have:=gV.o.size;simp at this;omega) λq e=>(iJ.o.row.lt q e).1);clear au aq aI);go_roundw
     .exact ⟨k+1,true,out ++ [⟨yd,yf,yt⟩],bU.o,by go_num,rfl,aR,om,jz,jx⟩
     have:=bU.o;simp [intOf];omega
   have ky:Hid ((⟨xd,xf,xt⟩:ai)∈l):=af (by
    have h1:l.getD k default=⟨xd,xf,xt⟩:=by rw [HY.o];exact LX uo.o
    rw [<- h1,fx hlt];exact NS hlt)
   have Ld:=af (Et bL.o bR.o);clear g0 g1 g2 g3 g4 g5;go_wp2;go_ret;exact ⟨Ld.o,_,rfl,.inl ⟨ky.o,rfl⟩⟩
 obtain rfl:k=l.length:=ad;obtain ⟨e_,ki⟩:=HP.o.done;have BS:=af e_;have mA:=af ki;clear e_ ki;cases done
 .go_wp2_with (at_builtin;(refine mL aC _ _ _ _ aC iI _ 3 24 Tryz.underlying41 HI.o.1 HI.o.2.1 HI.o.2.2.1 HI.o.2.2.2 rfl aG aG (w.heap.size+1) (.slice oa out.length oc) (out.length) ((out).flatMap bH) (bH (⟨xd,xf,xt⟩:ai)) rfl aC (aN.below iQ HO.o (Ea (Er _) _)).row wr.heap.size 1 aC (Ah (ag.new wr #[.int .i64 xd,.int .i64 xf,.int .i64 xt] 46)) (by simp [bH,Value.oneCell']) ad (by rw [U7];have:=HB.o.size;simp at this;omega) ?_);intro v' w9 au aq aI;obtain ⟨na,nc,rfl⟩:=kF au;have jz:=af (aN.push (y:=(⟨xd,xf,xt⟩:ai)) iQ (aN.below iQ HO.o (Ea (Er _) _)) IX.o au aq aI (λh=>h) ad);have jx:=af ((HB.o.alloc (by have:=HB.o.size;simp at this;omega) _).grown aq (by rw [U7];have:=HB.o.size;simp at this;omega) λq e=>(HO.o.row.lt q e).1);clear au aq aI)
  go_ret;refine ⟨(Ea (Er w) _).trans (jx.o.mono ad),_,rfl,.inr ⟨BS.o,?_⟩⟩;rw [mA.o];exact jz.o.base iQ ad
 go_wp2
 go_ret;refine ⟨bL.o,_,rfl,.inr ⟨BS.o,?_⟩⟩;rw [mA.o];exact HO.o.base iQ ad
end
end Go.Proofs.YtbmgmlbmgogeaaaGreat
end
