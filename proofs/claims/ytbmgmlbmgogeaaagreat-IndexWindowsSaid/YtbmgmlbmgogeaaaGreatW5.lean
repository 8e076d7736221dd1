/- Part 5 of the proof of the laws. -/
import Derived.Test.YtbmgmlbmgogeaaaGreatW1
import Derived.Test.YtbmgmlbmgogeaaaGreatW4
import Derived.Laws.EntriesVeiled
import Derived.Deep.RegionLaw
import Derived.Lib.SliceRun
import Derived.ScopeJumps
import Derived.Test.YtbmgmlbmgogeaaaGreatW2
set_option linter.unusedVariables false
set_option linter.unusedSimpArgs false
set_option maxRecDepth 100000
set_option maxHeartbeats 4000000
set_option linter.defProp false
abbrev OJ:=@Nat.dvd_trans
abbrev wZ:=@Nat.gcd_dvd_left
abbrev F9:=@Nat.gcd_dvd_right
abbrev yx:=@Nat.dvd_gcd
abbrev TA:=@Int.natCast_dvd_natCast
abbrev q8x:=@List.pairwise_singleton
abbrev ZN:=@Int.le_trans
abbrev Y_:=@List.mem_of_mem_eraseIdx
abbrev q8v:=@List.length_eraseIdx
abbrev q8w:=@List.map_eq_nil_iff
abbrev q7w:=@List.mem_append_right
abbrev GQ:=@List.foldl_append
abbrev XD:=@Int.lt_trichotomy
abbrev q7t:=@List.append_eq_nil_iff
abbrev N6:=@Nat.lt_of_lt_of_le
abbrev NF:=@List.length_singleton
abbrev q8i:=@Array.size_setIfInBounds
abbrev q8u:=@List.getElem?_drop
abbrev q7v:=@List.eraseIdx_eq_take_drop_succ
abbrev YD:=@List.length_eraseIdx_of_lt
section
variable {b:Bool}{F P a at_ d f r s step x y:Int}{m out:List (List Kal.Per)}{l:List Int}{L:List Go.Proofs.YtbmgmlbmgogeaaaGreat.PV}{t u:List Kal.Per}{cs xs:List Go.Value}{B base c cap g hi j k lo n sz:Nat}{row:Option Nat}{p q:Kal.Per}{h v v':Go.Value}{A C W W' w:Go.World}
namespace Kal
section
theorem qo_ {a b d:Nat} (oL:0<d) (hd:d∣Nat.lcm a b):d∣Nat.lcm (Nat.gcd d a) (Nat.gcd d b):=by
 have hg:0<Nat.gcd (Nat.gcd d a) (Nat.gcd d b):=q8c _ (q8c _ oL);have e1:Nat.gcd (Nat.gcd d a) (Nat.gcd d b)*Nat.lcm (Nat.gcd d a) (Nat.gcd d b)=Nat.gcd d a*Nat.gcd d b:=Nat.gcd_mul_lcm _ _;refine Nat.dvd_of_mul_dvd_mul_left hg ?_;rw [e1];have g1:Nat.gcd (Nat.gcd d a) (Nat.gcd d b)∣d:=OJ (wZ _ _) (wZ _ _);have g2:Nat.gcd (Nat.gcd d a) (Nat.gcd d b)∣a:=OJ (wZ _ _) (F9 _ _);have g3:Nat.gcd (Nat.gcd d a) (Nat.gcd d b)∣b:=OJ (F9 _ _) (F9 _ _);generalize Nat.gcd (Nat.gcd d a) (Nat.gcd d b)=g at *;rw [<- Nat.gcd_mul_left];refine yx ?_ ?_
 .rw [OH (Nat.gcd d a),OH g];exact Nat.mul_dvd_mul_left _ (yx g1 g2)
 rw [<- Nat.gcd_mul_right];refine yx ?_ ?_
 .rw [OH g];exact Nat.mul_dvd_mul_left _ g3
 have h:=Nat.mul_dvd_mul (yx g2 g3) hd;rwa [Nat.gcd_mul_lcm] at h
def cQ (l:List Nat):Nat:=l.foldr Nat.lcm 1
theorem R_:∀ {l:List Nat},(∀ a∈l,0<a)->0<cQ l
 | [],_=>by decide
 | a :: l,h=>Nat.lcm_pos (h a aj) (R_ λb hb=>h b (by simp [hb]))
theorem R9:∀ {l:List Nat} {a:Nat},a∈l->a∣cQ l
 | b :: l,a,h=>by
  rcases U3.1 h with rfl|h
  .exact Nat.dvd_lcm_left _ _
  exact OJ (R9 h) (Nat.dvd_lcm_right _ _)
theorem Wi {m z:Nat} (hm:0<m):∀ {l:List Nat},(∀ a∈l,Nat.gcd m a∣z)->Nat.gcd m (cQ l)∣z
 | [],_=>by simp [cQ]
 | a :: l,h=>by
  have ih:=Wi hm (l:=l) λb hb=>h b (by simp [hb]);have ha:=h a aj;have oL:0<Nat.gcd m (cQ (a :: l)):=q8c _ hm;have hd:Nat.gcd m (cQ (a :: l))∣Nat.lcm a (cQ l):=F9 _ _;have qz:Nat.gcd m (cQ (a :: l))∣m:=wZ _ _;generalize Nat.gcd m (cQ (a :: l))=d at *;refine OJ (qo_ oL hd) (Nat.lcm_dvd (OJ ?_ ha) (OJ ?_ ih))
  .exact yx (OJ (wZ _ _) qz) (F9 _ _)
  exact yx (OJ (wZ _ _) qz) (F9 _ _)
theorem u_ {m:Int} (h:x % m=y % m):m∣x-y:=NB (zB.1 h)
theorem ve {m:Int} (h:m∣x-y):x % m=y % m:=zB.2 (NA h)
theorem Yk:∀ (l:List (Int × Int)),(∀ x∈l,1<=x.1)->l.Pairwise (λx y=>((Int.gcd x.1 y.1:Nat):Int)∣x.2-y.2)->∃ n:Int,∀ x∈l,n % x.1=x.2 % x.1
 | [],_,_=>⟨0,aj⟩
 | (m,r) :: l,h,hp=>by
  obtain ⟨n,hn⟩:=Yk l (λx hx=>h x (by simp [hx])) (N4.1 hp).2;have hm:1<=m:=h (m,r) aj;have hL:0<cQ (l.map λx=>x.1.natAbs):=R_ λa ha=>by
   obtain ⟨x,hx,rfl⟩:=VC.1 ha;have:=h x (by simp [hx]);omega
  have key:Nat.gcd m.natAbs (cQ (l.map λx=>x.1.natAbs))∣(r-n).natAbs:=Wi ad λa ha=>by
   obtain ⟨x,hx,rfl⟩:=VC.1 ha;have h1:((Int.gcd m x.1:Nat):Int)∣r-x.2:=(N4.1 hp).1 x hx;have h2:x.1∣n-x.2:=u_ (hn x hx);have h3:((Int.gcd m x.1:Nat):Int)∣n-x.2:=QO (M0 _ _) h2;have h4:((Int.gcd m x.1:Nat):Int)∣r-n:=by
    have:=XB h1 h3;rwa [show r-x.2-(n-x.2)=r-n from by omega] at this
   exact TA.1 (Int.dvd_natAbs.2 h4)
  have BH:r % (Int.gcd m (cQ (l.map λx=>x.1.natAbs)):Nat)=n % (Int.gcd m (cQ (l.map λx=>x.1.natAbs)):Nat):=ve (Int.dvd_natAbs.1 (TA.2 (by simpa [Int.gcd] using key)));obtain ⟨v,hv⟩:∃ v,vD r m n (cQ (l.map λx=>x.1.natAbs)) v:=⟨_,I_ hm ad BH⟩;refine ⟨v,λx hx=>?_⟩;rcases U3.1 hx with rfl|hx
  .exact hv.2.2.1
  rw [<- hn x hx];have h5:((cQ (l.map λx=>x.1.natAbs):Nat):Int)∣v-n:=u_ hv.2.2.2;have h6:x.1∣((cQ (l.map λx=>x.1.natAbs):Nat):Int):=by
   have h7:x.1.natAbs∣cQ (l.map λx=>x.1.natAbs):=R9 (VC.2 ⟨x,hx,rfl⟩);exact Int.natAbs_dvd.1 (TA.2 h7)
  exact ve (QO h6 h5)
def bj (t:List Per) (n:Int):Prop:=∀ p∈t,p.mem n
def aW (m:List (List Per)) (n:Int):Prop:=∃ t∈m,bj t n
def lh (a:Int) (t:List Per):Int:=t.foldl (λa p=>max a p.frm) a
def f_ (t:List Per):Int:=lh 0 t
theorem X5:∀ (t:List Per) (a:Int),a<=lh a t/\∀ p∈t,p.frm<=lh a t
 | [],a=>⟨VI _,aj⟩
 | q :: t,a=>by
  obtain ⟨h1,h2⟩:=X5 t (max a q.frm);refine ⟨by show a<=lh (max a q.frm) t;omega,λp hp=>?_⟩;show p.frm<=lh (max a q.frm) t;rcases U3.1 hp with rfl|hp
  .omega
  exact h2 p hp
theorem RQ:∀ (t:List Per) (a:Int),lh a t=a\/∃ p∈t,lh a t=p.frm
 | [],a=>.inl rfl
 | q :: t,a=>by
  rcases RQ t (max a q.frm) with h|⟨p,hp,h⟩
  .by_cases hq:q.frm<=a
   .left;show lh (max a q.frm) t=a;omega
   right;exact ⟨q,aj,by show lh (max a q.frm) t=q.frm;omega⟩
  exact .inr ⟨p,by simp [hp],h⟩
theorem Fl:0<=f_ t/\∀ p∈t,p.frm<=f_ t:=X5 t 0
theorem X6 {b:Int} (h0:a<=b) (h:∀ p∈t,p.frm<=b):lh a t<=b:=by
 rcases RQ t a with h1|⟨p,hp,h1⟩
 .omega
 have:=h p hp;omega
def cF (p:Per) (c:Int):Int:=(p.frm % p.period+c) % p.period
theorem Kt (h:p.WF) {n:Int} (hn:p.frm<=n):p.mem n↔∃ c∈p.cycle,n % p.period=cF p c:=by
 have h0:=h.frm;have h1:=h.per;rw [Per.mem_hi ad hn];constructor
 .intro hm;refine ⟨_,hm,?_⟩;unfold cF;rw [<- Int.add_emod,show p.frm+(n-p.frm)=n from by omega]
 rintro ⟨c,hc,he⟩;have hb:=h.cyc.2 c hc;unfold cF at he;rw [show (p.frm % p.period+c) % p.period=(p.frm+c) % p.period from by rw [Int.add_emod,O8,<- Int.add_emod]] at he;have hd:(n-p.frm) % p.period=c:=by
  have h2:p.period∣n-(p.frm+c):=u_ he;have h3:(n-p.frm) % p.period=c % p.period:=ve (by rw [show n-p.frm-c=n-(p.frm+c) from by omega];exact h2);rw [h3,LV hb.1 hb.2]
 rw [hd];exact hc
theorem KE (h:p.WF) (c:Int):0<=cF p c/\cF p c<p.period:=
 ⟨VK _ (by have:=h.per;omega),VM _ (by have:=h.per;omega)⟩
def H_ (done:List (Int × Int)) (P r:Int):Prop:=∀ x∈done,(r-x.2) % ((Int.gcd P x.1:Nat):Int)=0
def an:List (Int × Int)->List Per->Prop
 | _,[]=>True
 | done,p :: t=>∃ c∈p.cycle,H_ done p.period (cF p c)/\an (done ++ [(p.period,cF p c)]) t
theorem ZE {n:Int}:∀ (t:List Per) (done:List (Int × Int)),(∀ x∈done,x.2=n % x.1)->(∀ p∈t,p.WF/\p.frm<=n/\p.mem n)->an done t
 | [],_,_,_=>trivial
 | p :: t,done,hd,ht=>by
  obtain ⟨hw,hf,hm⟩:=ht p aj;obtain ⟨c,hc,he⟩:=(Kt hw hf).1 hm;refine ⟨c,hc,λx hx=>?_,ZE t _ (λx hx=>?_) (λq hq=>ht q (by simp [hq]))⟩
  .rw [hd x hx,<- he];have h1:((Int.gcd p.period x.1:Nat):Int)∣n % p.period-n:=by
    have:=OG n p.period;refine QO (MP _ _) ⟨-(n / p.period),?_⟩;rw [OI];omega
   have h2:((Int.gcd p.period x.1:Nat):Int)∣n % x.1-n:=by
    have:=OG n x.1;refine QO (M0 _ _) ⟨-(n / x.1),?_⟩;rw [OI];omega
   have:=XB h1 h2;exact NA (by rwa [show n % p.period-n-(n % x.1-n)=n % p.period-n % x.1 from by omega] at this)
  rcases VJ.1 hx with hx|hx
  .exact hd x hx
  obtain rfl:x=(p.period,cF p c):=by simpa using hx
  exact he.symm
theorem ZL:∀ (t:List Per) (done:List (Int × Int)),an done t->done.Pairwise (λx y=>((Int.gcd x.1 y.1:Nat):Int)∣x.2-y.2)->(∀ x∈done,1<=x.1)->(∀ p∈t,1<=p.period)->
  ∃ L:List (Int × Int),L.Pairwise (λx y=>((Int.gcd x.1 y.1:Nat):Int)∣x.2-y.2)/\(∀ x∈L,1<=x.1)/\(∀ x∈done,x∈L)/\∀ p∈t,∃ c∈p.cycle,(p.period,cF p c)∈L
 | [],done,_,hp,h1,_=>⟨done,hp,h1,λx hx=>hx,aj⟩
 | p :: t,done,⟨c,hc,ha,he⟩,hp,h1,h2=>by
  obtain ⟨L,l1,l2,l3,l4⟩:=ZL t _ he (N9.2 ⟨hp,q8x _ _,λx hx y hy=>by
   obtain rfl:y=(p.period,cF p c):=by simpa using hy
   have h3:=NB (ha x hx);rw [Int.gcd_comm];have h4:=Int.dvd_neg.2 h3;rwa [show -(cF p c-x.2)=x.2-cF p c from by omega] at h4⟩) (λx hx=>by
   rcases VJ.1 hx with hx|hx
   .exact h1 x hx
   obtain rfl:x=(p.period,cF p c):=by simpa using hx
   exact h2 p aj) (λq hq=>h2 q (by simp [hq]))
  refine ⟨L,l1,l2,λx hx=>l3 x (by simp [hx]),λq hq=>?_⟩;rcases U3.1 hq with rfl|hq
  .exact ⟨c,hc,l3 _ aj⟩
  exact l4 q hq
def mo (t:List Per):Prop:=∃ n,f_ t<=n/\bj t n
theorem Zm (hw:∀ p∈t,p.WF):an [] t↔mo t:=by
 constructor
 .intro h;obtain ⟨L,l1,l2,_,l4⟩:=ZL t [] h List.Pairwise.nil aj (λp hp=>(hw p hp).per);obtain ⟨n,hn⟩:=Yk L l2 l1;have hL:0<cQ (L.map λx=>x.1.natAbs):=R_ λa ha=>by
   obtain ⟨x,hx,rfl⟩:=VC.1 ha;have:=l2 x hx;omega
  obtain ⟨k,hk,_⟩:=OW (cQ (L.map λx=>x.1.natAbs)) (f_ t-n) ad;refine ⟨n+k*(cQ (L.map λx=>x.1.natAbs):Nat),ad,λp hp=>?_⟩;have hs:=(Fl (t:=t)).2 p hp;obtain ⟨c,hc,hm⟩:=l4 p hp;refine (Kt (hw p hp) ad).2 ⟨c,hc,?_⟩;have h1:=hn _ hm;have h2:p.period∣((cQ (L.map λx=>x.1.natAbs):Nat):Int):=by
   have h7:p.period.natAbs∣cQ (L.map λx=>x.1.natAbs):=R9 (VC.2 ⟨_,hm,rfl⟩);exact Int.natAbs_dvd.1 (TA.2 h7)
  have h3:=KE (hw p hp) c;rw [LV h3.1 h3.2] at h1;rw [<- h1];exact ve (by rw [show n+(k:Int)*(cQ (L.map λx=>x.1.natAbs):Nat)-n=k*(cQ (L.map λx=>x.1.natAbs):Nat) from by omega];exact QO h2 (r_ _ _))
 rintro ⟨n,h1,h2⟩;exact ZE t [] aj λp hp=>⟨hw p hp,by have:=(Fl (t:=t)).2 p hp;omega,h2 p hp⟩
theorem WJ (hne:t≠[]) {n:Int} (h:bj t n):0<=n:=by
 cases t with
 | nil=>exact absurd rfl hne
 | cons p t=>exact (h p aj).1
theorem sw_ (hne:t≠[]) {n:Int} (h:bj t n) (hn:n<f_ t):∃ p∈t,n∈p.head:=by
 have h0:=WJ hne h;rcases RQ t 0 with h1|⟨p,hp,h1⟩
 .have:f_ t=0:=h1;omega
 have h2:f_ t=p.frm:=h1;exact ⟨p,hp,(Per.mem_lo h0 ad).1 (h p hp)⟩
theorem t7_ (hw:∀ p∈t,p.WF) (hp:p∈t) {n:Int} (h:n∈p.head):n<f_ t:=by
 have h1:=(hw p hp).head.2 n h;have h2:=(Fl (t:=t)).2 p hp;omega
def jG (t:List Per):Prop:=∀ n,¬ bj t n
theorem sg_:jG t↔(∀ n,n<f_ t->¬ bj t n)/\¬ mo t:=by
 constructor
 .exact λh=>⟨λn _=>h n,λ⟨n,_,hn⟩=>h n hn⟩
 rintro ⟨h1,h2⟩ n hn;by_cases h:n<f_ t
 .exact h1 n h hn
 exact h2 ⟨n,ad,hn⟩
instance:Inhabited Per:=⟨⟨[],0,0,[]⟩⟩
noncomputable def canonC (S:Int->Prop):Per:=Classical.epsilon λc=>bV c S
theorem Ff {S:Int->Prop} (h:∃ c,bV c S):bV (canonC S) S:=q7n h
theorem uw_ {S:Int->Prop} {c:Per} (h:bV c S):canonC S=c:=(Ff ⟨c,h⟩).unique h
theorem OR {S:Int->Prop} (hf:0<=f) (hd:1<=d) (vS:∀ n,S n->0<=n) (hp:cM S f d):∃ c,bV c S:=by
 have h:=Jg (S:=S) (f:=f) (d:=d) (hl:=bF S 0 f) (cl:=bF (λn=>S (f+n)) 0 d) hf hd vS hp (fJ (VI _)) (fJ (VI _))
  (λn h1 h2=>by rw [dX (VI _)];exact ⟨λh=>h.2.2,λh=>⟨h1,h2,h⟩⟩) (λn h1 h2=>by rw [dX (VI _)];exact ⟨λh=>h.2.2,λh=>⟨h1,h2,h⟩⟩)
 obtain ⟨q,hq⟩:=Wj h.1;exact ⟨q,hq.congr h.2⟩
structure dU (s:Int) (p:Per):Prop where
 wf:p.WF
 low:∀ n,p.mem n->s<=n
 frm:p.frm<=s+9
 dvd:p.period∣27720
theorem dU.per (h:dU s p):p.period<=27720:=QV aG h.dvd
theorem Jr {S:Int->Prop} {c:Per} (h:bV c S) (fL:∀ n,S n->s<=n) (hf:0<=f) (Ve:f<=s+9) (hd:1<=d) (CN:d∣27720) (hp:cM S f d):dU s c:=
 ⟨h.wf,λn hn=>fL n ((h.mem n).1 hn),ZN (h.frm_le hf hd hp) Ve,QO (h.dvd hd hp.ev) CN⟩
theorem dU.canon (h:dU s p):bV (canonC p.mem) p.mem/\dU s (canonC p.mem):=by
 have h1:=Ff (Wj h.wf);exact ⟨h1,Jr h1 h.low h.wf.frm h.frm h.wf.per h.dvd h.wf.pfrom⟩
theorem dU.op (hp:dU s p) (hq:dU s q) {U:Int->Prop} (g:Prop->Prop->Prop) (hU:∀ n,U n↔g (p.mem n) (q.mem n)) (fL:∀ n,U n->s<=n) (h0:∀ n,U n->0<=n):bV (canonC U) U/\dU s (canonC U)/\cM U (max p.frm q.frm) (aV p.period q.period)/\aV p.period q.period∣27720:=by
 have a1:=hp.wf.per;have b1:=hq.wf.per;have f1:=hp.wf.frm;have hl:=Ae a1 b1;have CN:aV p.period q.period∣27720:=by
  rw [Zc a1 b1];have h1:p.period.natAbs∣27720:=X9.2 hp.dvd;have h2:q.period.natAbs∣27720:=X9.2 hq.dvd;exact TA.2 (Nat.lcm_dvd h1 h2)
 have h_:cM U (max p.frm q.frm) (aV p.period q.period):=((hp.wf.pfrom.mono (show p.frm<=max p.frm q.frm by omega)).of_dvd a1 hl EY).op ((hq.wf.pfrom.mono (show q.frm<=max p.frm q.frm by omega)).of_dvd b1 hl I7) g (λn _=>hU n) ad;have hc:=Ff (OR (show 0<=max p.frm q.frm by omega) hl h0 h_);exact ⟨hc,Jr hc fL ad (by have:=hp.frm;have:=hq.frm;omega) hl CN h_,h_,CN⟩
noncomputable def lK (p q:Per):Per:=canonC λn=>p.mem n/\q.mem n
noncomputable def wJ (p q:Per):Per:=canonC λn=>p.mem n\/q.mem n
theorem dU.and (hp:dU s p) (hq:dU s q):bV (lK p q) (λn=>p.mem n/\q.mem n)/\dU s (lK p q):=by
 have h:=hp.op hq And (λn=>MT) (λn h=>hp.low n h.1) (λn h=>h.1.1);exact ⟨h.1,h.2.1⟩
theorem dU.or (hp:dU s p) (hq:dU s q):bV (wJ p q) (λn=>p.mem n\/q.mem n)/\dU s (wJ p q):=by
 have h:=hp.op hq Or (λn=>MT) (λn h=>h.elim (hp.low n) (hq.low n)) (λn h=>h.elim (λh=>h.1) (λh=>h.1));exact ⟨h.1,h.2.1⟩
structure xA (P:Nat->Nat->Prop) (n i j:Nat):Prop where
 lt:i<j
 lim:j<n
 is:P i j
 rows:∀ i' j',i'<i->i'<j'->j'<n->¬ P i' j'
 row:∀ j',i<j'->j'<j->¬ P i j'
def Hx (P:Nat->Nat->Prop) (n:Nat):Prop:=∀ i j,i<j->j<n->¬ P i j
theorem xA.unique {P:Nat->Nat->Prop} {i i' j':Nat} (h:xA P n i j) (g:xA P n i' j'):i=i'/\j=j':=by
 have hi:i=i':=by
  rcases U4 i i' with h1|h1|h1
  .exact absurd h.is (g.rows i j h1 h.lt h.lim)
  .exact h1
  exact absurd g.is (h.rows i' j' h1 g.lt g.lim)
 subst hi;refine ⟨rfl,?_⟩;rcases U4 j j' with h1|h1|h1
 .exact absurd h.is (g.row j h.lt h1)
 .exact h1
 exact absurd g.is (h.row j' g.lt h1)
theorem xA.no {P:Nat->Nat->Prop} {i:Nat} (h:xA P n i j) (g:Hx P n):False:=g i j h.lt h.lim h.is
def jN (p q:Per):Bool:=p.period % q.period == 0 || q.period % p.period == 0
def BE (t:List Per) (i j:Nat):Prop:=jN (t.getD i default) (t.getD j default)=true
noncomputable def vh (t:List Per) (i j:Nat):List Per:=(t.set i (lK (t.getD i default) (t.getD j default))).eraseIdx j
inductive nB:List Per->List Per->Prop
 | done {t:List Per} (h:Hx (BE t) t.length):nB t t
 | step {t u:List Per} {i j:Nat} (h:xA (BE t) t.length i j) (hu:nB (vh t i j) u):nB t u
theorem nB.unique {v:List Per} (h:nB t u) (g:nB t v):u=v:=by
 induction h generalizing v with
 | done h=>
  cases g with
  | done _=>rfl
  | step g _=>exact (g.no h).elim
 | step h _ ih=>
  cases g with
  | done g=>exact (h.no g).elim
  | step g gu=>
   obtain ⟨rfl,rfl⟩:=h.unique g;exact ih gu
structure eR (s:Int) (p:Per):Prop where
 fac:dU s p
 can:bV p p.mem
theorem eR.canonC (h:eR s p):Kal.canonC p.mem=p:=uw_ h.can
theorem dU.ccanon (h:dU s p):eR s (Kal.canonC p.mem):=⟨h.canon.2,h.canon.1.congr λn=>(h.canon.1.mem n).symm⟩
theorem dU.cand (hp:dU s p) (hq:dU s q):eR s (lK p q):=⟨(hp.and hq).2,(hp.and hq).1.congr λn=>((hp.and hq).1.mem n).symm⟩
theorem dU.cor (hp:dU s p) (hq:dU s q):eR s (wJ p q):=⟨(hp.or hq).2,(hp.or hq).1.congr λn=>((hp.or hq).1.mem n).symm⟩
theorem qe {α:Type} {l:List α} {i:Nat} {d:α} (h:i<l.length):l.getD i d∈l:=by
 rw [VS,U2 h];exact NS h
theorem OX {α:Type} {l:List α} {i:Nat} {v x:α} (h:x∈(l.set i v).eraseIdx j):x=v\/x∈l:=by
 have h1:=Y_ h;rcases YM h1 with h2|h2
 .exact .inr h2
 exact .inl h2
theorem Aa {α:Type} {l:List α} {i:Nat} {d:α} (gq:i<j) (hj:j<l.length) (v:α) (x:α):x∈(l.set i v).eraseIdx j↔x=v\/∃ k,k<l.length/\k≠i/\k≠j/\x=l.getD k d:=by
 rw [List.mem_eraseIdx_iff_getElem];constructor
 .rintro ⟨k,hk,hkj,rfl⟩;rw [OF] at hk;by_cases e:k=i
  .subst e;left;rw [List.getElem_set_self]
  right;exact ⟨k,hk,e,hkj,by rw [List.getElem_set_ne (λh=>e h.symm),VS,U2 hk];rfl⟩
 rintro (rfl|⟨k,hk,h1,h2,rfl⟩)
 .exact ⟨i,by rw [OF];omega,ad,by rw [List.getElem_set_self]⟩
 exact ⟨k,by rw [OF];exact hk,h2,by rw [List.getElem_set_ne (λh=>h1 h.symm),VS,U2 hk];rfl⟩
theorem Wl {α:Type} {l:List α} {d x:α}:x∈l↔∃ k,k<l.length/\x=l.getD k d:=by
 rw [MA];constructor
 .rintro ⟨k,hk,rfl⟩;exact ⟨k,hk,by rw [VS,U2 hk];rfl⟩
 rintro ⟨k,hk,rfl⟩;exact ⟨k,hk,by rw [VS,U2 hk];rfl⟩
theorem Vn {i:Nat} (h:j<t.length):(vh t i j).length=t.length-1:=by
 unfold vh;rw [q8v,OF,if_pos h]
theorem qu_ {i:Nat} (gq:i<j) (hj:j<t.length) (hf:∀ p∈t,dU s p) (n:Int):bj (vh t i j) n↔bj t n:=by
 have fi:=hf _ (qe (d:=default) (show i<t.length by omega));have fj:=hf _ (qe (d:=default) hj);have hc:=(fi.and fj).1;unfold bj vh;constructor
 .intro h p hp;obtain ⟨k,hk,rfl⟩:=(Wl (d:=default)).1 hp;have h1:=(hc.mem n).1 (h _ ((Aa (d:=default) gq hj _ _).2 (.inl rfl)));by_cases e1:k=i
  .subst e1;exact h1.1
  by_cases e2:k=j
  .subst e2;exact h1.2
  exact h _ ((Aa (d:=default) gq hj _ _).2 (.inr ⟨k,hk,e1,e2,rfl⟩))
 intro h p hp;rcases (Aa (d:=default) gq hj _ _).1 hp with rfl|⟨k,hk,_,_,rfl⟩
 .exact (hc.mem n).2 ⟨h _ (qe ad),h _ (qe hj)⟩
 exact h _ (qe hk)
theorem qt_ {i:Nat} (gq:i<j) (hj:j<t.length) (hf:∀ p∈t,eR s p):∀ p∈vh t i j,eR s p:=λp hp=>by
 rcases OX hp with rfl|hp
 .exact (hf _ (qe ad)).fac.cand (hf _ (qe hj)).fac
 exact hf p hp
theorem nB.ok (h:nB t u) (hf:∀ p∈t,eR s p):(∀ p∈u,eR s p)/\(∀ n,bj u n↔bj t n)/\u.length<=t.length/\(t≠[]->u≠[]):=by
 induction h with
 | done h=>exact ⟨hf,λn=>MT,TZ _,id⟩
 | @step t u i j h _ ih=>
  have h1:=qt_ h.lt h.lim hf;obtain ⟨a,b,c,d⟩:=ih h1;have hl:=Vn (t:=t) (i:=i) h.lim;refine ⟨a,λn=>(b n).trans (qu_ h.lt h.lim (λp hp=>(hf p hp).fac) n),ad,λ_=>d λe=>?_⟩;rw [e] at hl;have:=h.lt;have:=h.lim;simp at hl;omega
def Bf (s:Int) (t:List Per):Prop:=t≠[]/\∀ p∈t,eR s p
def qo (s:Int) (t:List Per):Prop:=t≠[]/\∀ p∈t,dU s p
def pj (t u:List Per):Prop:=nB (t.map λp=>canonC p.mem) u
theorem pj.unique {v:List Per} (h:pj t u) (g:pj t v):u=v:=nB.unique h g
theorem pj.ok (h:pj t u) (hf:qo s t):Bf s u/\(∀ n,bj u n↔bj t n)/\u.length<=t.length:=by
 obtain ⟨h1,h2,h3,h4⟩:=nB.ok h (s:=s) λp hp=>by
  obtain ⟨q,hq,rfl⟩:=VC.1 hp;exact (hf.2 q hq).ccanon
 refine ⟨⟨h4 λe=>hf.1 (q8w.1 e),h1⟩,λn=>(h2 n).trans ?_,by simpa using h3⟩;unfold bj;constructor
 .intro h p hp;exact ((hf.2 p hp).canon.1.mem n).1 (h _ (VC.2 ⟨p,hp,rfl⟩))
 intro h p hp;obtain ⟨q,hq,rfl⟩:=VC.1 hp;exact ((hf.2 q hq).canon.1.mem n).2 (h q hq)
inductive il:List (List Per)->List (List Per)->Prop
 | nil:il [] []
 | skip {t u:List Per} {L l:List (List Per)} (h:pj t u) (hb:jG u) (hl:il L l):il (t :: L) l
 | keep {t u:List Per} {L l:List (List Per)} (h:pj t u) (hb:¬ jG u) (hl:il L l):il (t :: L) (u :: l)
theorem il.app {L l L' l':List (List Per)} (h:il L l) (g:il L' l'):il (L ++ L') (l ++ l'):=by
 induction h with
 | nil=>exact g
 | skip h hb _ ih=>exact .skip h hb ih
 | keep h hb _ ih=>exact .keep h hb ih
theorem il.skip1 {L l:List (List Per)} (h:il L l) (g:pj t u) (hb:jG u):il (L ++ [t]) l:=by
 have:=h.app (.skip g hb .nil);rwa [Q4] at this
theorem il.keep1 {L l:List (List Per)} (h:il L l) (g:pj t u) (hb:¬ jG u):il (L ++ [t]) (l ++ [u]):=h.app (.keep g hb .nil)
theorem il.unique {L l:List (List Per)} (h:il L l) (g:il L m):l=m:=by
 induction h generalizing m with
 | nil=>cases g;rfl
 | skip h hb _ ih=>
  cases g with
  | skip g gb gl=>exact ih gl
  | keep g gb gl=>rw [h.unique g] at hb;exact absurd hb gb
 | keep h hb _ ih=>
  cases g with
  | skip g gb gl=>rw [h.unique g] at hb;exact absurd gb hb
  | keep g gb gl=>rw [h.unique g,ih gl]
theorem RL {L:List (List Per)} {n:Int}:aW (t :: L) n↔bj t n\/aW L n:=by
 unfold aW;simp
theorem YI {n:Int}:¬ aW [] n:=by unfold aW;simp
theorem qv_ {L M:List (List Per)} {n:Int}:aW (L ++ M) n↔aW L n\/aW M n:=by
 unfold aW;constructor
 .rintro ⟨t,ht,h⟩;rcases VJ.1 ht with ht|ht
  .exact .inl ⟨t,ht,h⟩
  exact .inr ⟨t,ht,h⟩
 rintro (⟨t,ht,h⟩|⟨t,ht,h⟩)
 .exact ⟨t,MK _ ht,h⟩
 exact ⟨t,q7w _ ht,h⟩
theorem il.ok {L l:List (List Per)} (h:il L l) (hf:∀ t∈L,qo s t):(∀ t∈l,Bf s t/\¬ jG t)/\(∀ n,aW l n↔aW L n)/\l.length<=L.length/\∀ K:Nat,(∀ t∈L,t.length<=K)->∀ t∈l,t.length<=K:=by
 induction h with
 | nil=>exact ⟨aj,λn=>MT,TZ _,λK h=>h⟩
 | skip h hb _ ih=>
  obtain ⟨a,b,c,d⟩:=ih λt ht=>hf t (by simp [ht]);obtain ⟨h1,h2,h3⟩:=h.ok (hf _ aj);refine ⟨a,λn=>?_,aR,λK hK=>d K λt ht=>hK t (by simp [ht])⟩;rw [RL,b n,<- h2 n];exact ⟨.inr,λh=>h.elim (λh=>absurd h (hb n)) id⟩
 | keep h hb _ ih=>
  obtain ⟨a,b,c,d⟩:=ih λt ht=>hf t (by simp [ht]);obtain ⟨h1,h2,h3⟩:=h.ok (hf _ aj);refine ⟨λt ht=>?_,λn=>?_,aR,λK hK t ht=>?_⟩
  .rcases U3.1 ht with rfl|ht
   .exact ⟨h1,hb⟩
   exact a t ht
  .rw [RL,RL,b n,h2 n]
  rcases U3.1 ht with rfl|ht
  .exact NN h3 (hK _ aj)
  exact d K (λt ht=>hK t (by simp [ht])) t ht
def pk (l:List (List Per)) (i j:Nat):Prop:=(l.getD i []).length=1/\(l.getD j []).length=1/\jN ((l.getD i []).getD 0 default) ((l.getD j []).getD 0 default)=true
noncomputable def rG (l:List (List Per)) (i j:Nat):List (List Per):=(l.set i [wJ ((l.getD i []).getD 0 default) ((l.getD j []).getD 0 default)]).eraseIdx j
inductive lL:List (List Per)->List (List Per)->Prop
 | done {l:List (List Per)} (h:Hx (pk l) l.length):lL l l
 | step {l m:List (List Per)} {i j:Nat} (h:xA (pk l) l.length i j) (hm:lL (rG l i j) m):lL l m
theorem lL.unique {t u v:List (List Per)} (h:lL t u) (g:lL t v):u=v:=by
 induction h generalizing v with
 | done h=>
  cases g with
  | done _=>rfl
  | step g _=>exact (g.no h).elim
 | step h _ ih=>
  cases g with
  | done g=>exact (h.no g).elim
  | step g gu=>
   obtain ⟨rfl,rfl⟩:=h.unique g;exact ih gu
theorem Zj (h:t.length=1):t=[t.getD 0 default]:=by
 match t,h with
 | [p],_=>rfl
theorem vg {n:Int}:bj [p] n↔p.mem n:=by unfold bj;simp
theorem vs_ {l:List (List Per)} {i:Nat} (gq:i<j) (hj:j<l.length) (hJ:pk l i j) (hf:∀ t∈l,Bf s t/\¬ jG t):(∀ t∈rG l i j,Bf s t/\¬ jG t)/\(∀ n,aW (rG l i j) n↔aW l n):=by
 obtain ⟨h1,h2,h3⟩:=hJ;have mi:=qe (l:=l) (d:=[]) (show i<l.length by omega);have mj:=qe (l:=l) (d:=[]) hj;have fi:=(hf _ mi).1.2 _ (qe (d:=default) (show 0<(l.getD i []).length by omega));have fj:=(hf _ mj).1.2 _ (qe (d:=default) (show 0<(l.getD j []).length by omega));have ei:=Zj h1;have ej:=Zj h2;have hc:=fi.fac.or fj.fac;unfold rG;generalize hp:(l.getD i []).getD 0 default=p at *;generalize hq:(l.getD j []).getD 0 default=q at *;refine ⟨λt ht=>?_,λn=>?_⟩
 .rcases OX ht with rfl|ht
  .refine ⟨⟨aj,λr hr=>?_⟩,λhb=>?_⟩
   .obtain rfl:r=wJ p q:=by simpa using hr
    exact fi.fac.cor fj.fac
   refine (hf _ mi).2 λn hn=>hb n ?_;rw [ei,vg] at hn;rw [vg];exact (hc.1.mem n).2 (.inl hn)
  exact hf t ht
 unfold aW;constructor
 .rintro ⟨t,ht,hn⟩;rcases (Aa (d:=[]) gq hj _ _).1 ht with rfl|⟨k,hk,_,_,rfl⟩
  .rw [vg,hc.1.mem n] at hn;rcases hn with hn|hn
   .exact ⟨_,mi,by rw [ei,vg];exact hn⟩
   exact ⟨_,mj,by rw [ej,vg];exact hn⟩
  exact ⟨_,qe hk,hn⟩
 rintro ⟨t,ht,hn⟩;obtain ⟨k,hk,rfl⟩:=(Wl (d:=[])).1 ht;by_cases e1:k=i
 .subst e1;refine ⟨_,(Aa (d:=[]) gq hj _ _).2 (.inl rfl),?_⟩;rw [ei,vg] at hn;rw [vg];exact (hc.1.mem n).2 (.inl hn)
 by_cases e2:k=j
 .subst e2;refine ⟨_,(Aa (d:=[]) gq hj _ _).2 (.inl rfl),?_⟩;rw [ej,vg] at hn;rw [vg];exact (hc.1.mem n).2 (.inr hn)
 exact ⟨_,(Aa (d:=[]) gq hj _ _).2 (.inr ⟨k,hk,e1,e2,rfl⟩),hn⟩
theorem ny_ {l:List (List Per)} {i:Nat} (h:j<l.length):(rG l i j).length=l.length-1:=by
 unfold rG;rw [q8v,OF,if_pos h]
theorem tf_ {l:List (List Per)} {i K:Nat} (hK:1<=K) (h:∀ t∈l,t.length<=K):∀ t∈rG l i j,t.length<=K:=λt ht=>by
 rcases OX ht with rfl|ht
 .simpa using hK
 exact h t ht
theorem lL.ok {l:List (List Per)} (h:lL l m) (hf:∀ t∈l,Bf s t/\¬ jG t):(∀ t∈m,Bf s t/\¬ jG t)/\(∀ n,aW m n↔aW l n)/\m.length<=l.length/\∀ K:Nat,1<=K->(∀ t∈l,t.length<=K)->∀ t∈m,t.length<=K:=by
 induction h with
 | done h=>exact ⟨hf,λn=>MT,TZ _,λK _ h=>h⟩
 | @step l m i j h _ ih=>
  obtain ⟨h1,h2⟩:=vs_ h.lt h.lim h.is hf;obtain ⟨a,b,c,d⟩:=ih h1;have hl:=ny_ (l:=l) (i:=i) h.lim;exact ⟨a,λn=>(b n).trans (h2 n),ad,λK hK hh=>d K hK (tf_ hK hh)⟩
open Classical in
noncomputable def tx (out:List (List Per)) (t:List Per):List (List Per):=if t∈out then out else out ++ [t]
noncomputable def nJ (out l:List (List Per)):List (List Per):=l.foldl tx out
theorem xo_ {l:List (List Per)}:nJ out (l ++ [t])=tx (nJ out l) t:=by unfold nJ;rw [GQ];rfl
theorem SA (h:t∈out):tx out t=out:=if_pos h
theorem Sl (h:t ∉ out):tx out t=out ++ [t]:=if_neg h
theorem q1i {x:List Per}:x∈tx out t↔x∈out\/x=t:=by
 by_cases h:t∈out
 .rw [SA h];exact ⟨.inl,λg=>g.elim id λe=>e ▸ h⟩
 rw [Sl h];simp
theorem Sq:∀ {l out:List (List Per)} {x:List Per},x∈nJ out l↔x∈out\/x∈l
 | [],out,x=>by simp [nJ]
 | t :: l,out,x=>by
  show x∈nJ (tx out t) l↔_;rw [Sq,q1i,U3,or_assoc]
theorem WY:∀ {l out:List (List Per)},(nJ out l).length<=out.length+l.length
 | [],out=>by simp [nJ]
 | t :: l,out=>by
  have h1:=WY (l:=l) (out:=tx out t);have h2:(tx out t).length<=out.length+1:=by
   by_cases h:t∈out
   .rw [SA h];omega
   rw [Sl h];simp
  show (nJ (tx out t) l).length<=_;simp;omega
def qk (L m:List (List Per)):Prop:=∃ l k,il L l/\lL l k/\m=nJ [] k
theorem qk.unique {L m':List (List Per)} (h:qk L m) (g:qk L m'):m=m':=by
 obtain ⟨l,k,h1,h2,rfl⟩:=h;obtain ⟨l',k',g1,g2,rfl⟩:=g;obtain rfl:=h1.unique g1;rw [h2.unique g2]
theorem qk.ok {L:List (List Per)} (h:qk L m) (hf:∀ t∈L,qo s t):(∀ t∈m,Bf s t/\¬ jG t)/\(∀ n,aW m n↔aW L n)/\m.length<=L.length/\∀ K:Nat,1<=K->(∀ t∈L,t.length<=K)->∀ t∈m,t.length<=K:=by
 obtain ⟨l,k,h1,h2,rfl⟩:=h;obtain ⟨a1,a2,a3,a4⟩:=h1.ok hf;obtain ⟨b1,b2,b3,b4⟩:=h2.ok a1;have hm:∀ x,x∈nJ [] k↔x∈k:=λx=>by rw [Sq];simp
 refine ⟨λt ht=>b1 t ((hm t).1 ht),λn=>?_,?_,λK hK hh t ht=>b4 K hK (a4 K hh) t ((hm t).1 ht)⟩
 .rw [<- a2 n,<- b2 n];unfold aW;exact ⟨λ⟨t,ht,h⟩=>⟨t,(hm t).1 ht,h⟩,λ⟨t,ht,h⟩=>⟨t,(hm t).2 ht,h⟩⟩
 have:=WY (l:=k) (out:=[]);simp at this;omega
def Ao (m:List (List Per)):Prop:=m.length<=64/\∀ t∈m,t.length<=4
def eh (F:Int) (S:Int->Prop) (f n:Int) (b:Bool):Prop:=(b=true/\f<=n/\n<=F/\S n/\∀ x,f<=x->x<n->¬ S x)\/(b=false/\n=0/\∀ x,f<=x->x<=F->¬ S x)
theorem eh.unique {n m:Int} {S:Int->Prop} {c:Bool} (h:eh F S f n b) (g:eh F S f m c):n=m/\b=c:=by
 rcases h with ⟨rfl,h1,h2,h3,h4⟩|⟨rfl,rfl,h1⟩ <;> rcases g with ⟨rfl,g1,g2,g3,g4⟩|⟨rfl,rfl,g1⟩
 .refine ⟨?_,rfl⟩;rcases XD n m with h|h|h
  .exact absurd h3 (g4 n h1 h)
  .exact h
  exact absurd g3 (h4 m g1 h)
 .exact absurd h3 (g1 n h1 h2)
 .exact absurd g3 (h1 m g1 g2)
 exact ⟨rfl,rfl⟩
theorem eh.congr {n:Int} {S T:Int->Prop} (h:eh F S f n b) (hs:∀ x,f<=x->x<=F->(T x↔S x)):eh F T f n b:=by
 rcases h with ⟨rfl,h1,h2,h3,h4⟩|⟨rfl,rfl,h1⟩
 .exact .inl ⟨rfl,h1,h2,(hs n h1 h2).2 h3,λx a c=>by rw [hs x a ad];exact h4 x a c⟩
 exact .inr ⟨rfl,rfl,λx a c=>by rw [hs x a c];exact h1 x a c⟩
theorem YL (F f:Int) (S:Int->Prop):∃ n b,eh F S f n b:=by
 by_cases h:∃ x,f<=x/\x<=F/\S x
 .obtain ⟨x,h1,h2,h3⟩:=h;have key:∀ k:Nat,∀ x,(x-f).toNat=k->f<=x->x<=F->S x->∃ n,f<=n/\n<=F/\S n/\∀ y,f<=y->y<n->¬ S y:=by
   intro k;induction k using Nat.strongRecOn with
   | _ k ih=>
    intro x hk a1 a2 a3;by_cases hy:∃ y,f<=y/\y<x/\S y
    .obtain ⟨y,b1,b2,b3⟩:=hy;exact ih _ ad y rfl b1 ad b3
    exact ⟨x,a1,a2,a3,λy c1 c2 c3=>hy ⟨y,c1,c2,c3⟩⟩
  obtain ⟨n,g1,g2,g3,g4⟩:=key _ x rfl h1 h2 h3;exact ⟨n,true,.inl ⟨rfl,g1,g2,g3,g4⟩⟩
 exact ⟨0,false,.inr ⟨rfl,rfl,λx a b c=>h ⟨x,a,b,c⟩⟩⟩
def ji (S:Int->Prop) (f n:Int) (b:Bool):Prop:=(b=true/\f<=n/\S n/\∀ x,f<=x->x<n->¬ S x)\/(b=false/\n=0/\∀ x,f<=x->¬ S x)
theorem ji.start:ji (λ_=>False) f 0 false:=.inr ⟨rfl,rfl,λ_ _ h=>h⟩
theorem ji.congr {n:Int} {S T:Int->Prop} (h:ji S f n b) (hs:∀ x,f<=x->(T x↔S x)):ji T f n b:=by
 rcases h with ⟨rfl,h1,h3,h4⟩|⟨rfl,rfl,h1⟩
 .exact .inl ⟨rfl,h1,(hs n h1).2 h3,λx a c=>by rw [hs x a];exact h4 x a c⟩
 exact .inr ⟨rfl,rfl,λx a=>by rw [hs x a];exact h1 x a⟩
theorem ji.take {n:Int} {S:Int->Prop} (h:ji S f n b) (h1:f<=d) (h2:b=false\/d<n):ji (λx=>S x\/x=d) f d true:=by
 refine .inl ⟨rfl,h1,.inr rfl,λx a c e=>?_⟩;rcases e with e|rfl
 .rcases h with ⟨rfl,g1,g2,g3⟩|⟨rfl,rfl,g1⟩
  .rcases h2 with h2|h2
   .cases h2
   exact g3 x a ad e
  exact g1 x a e
 omega
theorem ji.pass {n:Int} {S:Int->Prop} (h:ji S f n b) (h1:¬ (f<=d/\(b=false\/d<n))):ji (λx=>S x\/x=d) f n b:=by
 rcases h with ⟨rfl,g1,g2,g3⟩|⟨rfl,rfl,g1⟩
 .refine .inl ⟨rfl,g1,.inl g2,λx a c e=>?_⟩;rcases e with e|rfl
  .exact g3 x a c e
  exact h1 ⟨a,.inr c⟩
 refine .inr ⟨rfl,rfl,λx a e=>?_⟩;rcases e with e|rfl
 .exact g1 x a e
 exact h1 ⟨a,.inl rfl⟩
def nH (t:List Per) (i k:Nat) (x:Int):Prop:=bj t x/\((∃ p∈t.take i,x∈p.head)\/x∈((t.getD i default).head.take k))
theorem t6_:nH t 0 0 x↔False:=by simp [nH]
theorem vl_ {i:Nat} (hi:i<t.length):nH t (i+1) 0 x↔nH t i (t.getD i default).head.length x:=by
 unfold nH;have e:t.getD i default=t[i]:=by rw [VS,U2 hi];rfl
 rw [LF hi,OC,e];constructor
 .rintro ⟨h1,⟨p,hp,hx⟩|hx⟩
  .rcases VJ.1 hp with hp|hp
   .exact ⟨h1,.inl ⟨p,hp,hx⟩⟩
   obtain rfl:p=t[i]:=by simpa using hp
   exact ⟨h1,.inr hx⟩
  simp at hx
 rintro ⟨h1,⟨p,hp,hx⟩|hx⟩
 .exact ⟨h1,.inl ⟨p,MK _ hp,hx⟩⟩
 exact ⟨h1,.inl ⟨t[i],q7w _ aj,hx⟩⟩
theorem t5_ {i:Nat} (hk:k<(t.getD i default).head.length):nH t i (k+1) x↔nH t i k x\/(x=(t.getD i default).head.getD k 0/\bj t x):=by
 unfold nH;rw [LF hk,VJ];have e:(t.getD i default).head.getD k 0=(t.getD i default).head[k]:=by rw [VS,U2 hk];rfl
 rw [e];simp only [N2];constructor
 .rintro ⟨h1,h2|h2|h2⟩
  .exact .inl ⟨h1,.inl h2⟩
  .exact .inl ⟨h1,.inr h2⟩
  exact .inr ⟨h2,h1⟩
 rintro (⟨h1,h2|h2⟩|⟨h1,h2⟩)
 .exact ⟨h1,.inl h2⟩
 .exact ⟨h1,.inr (.inl h2)⟩
 exact ⟨h2,.inr (.inr h1)⟩
theorem q7i (hne:t≠[]) (hw:∀ p∈t,p.WF):nH t t.length 0 x↔bj t x/\x<f_ t:=by
 unfold nH;rw [OC];constructor
 .rintro ⟨h1,⟨p,hp,hx⟩|h2⟩
  .exact ⟨h1,t7_ hw hp hx⟩
  simp at h2
 rintro ⟨h1,h2⟩;exact ⟨h1,.inl (sw_ hne h1 h2)⟩
def YZ (t:List Per) (f n:Int) (b:Bool):Prop:=ji (λx=>bj t x/\x<f_ t) f n b
def dA (t:List Per) (at_ step x:Int):Prop:=x % step=at_/\∀ p∈t,∃ c∈p.cycle,x % p.period=cF p c
def kG (F:Int) (S:Int->Prop) (f n:Int) (b:Bool):Prop:=(b=true/\f<=n/\n<=F/\S n/\∀ x,f<=x->x<n->¬ S x)\/(b=false/\n=F/\∀ x,f<=x->x<=F->¬ S x)
theorem kG.start:kG F (λ_=>False) f F false:=.inr ⟨rfl,rfl,λ_ _ _ h=>h⟩
theorem kG.le {n:Int} {S:Int->Prop} (h:kG F S f n b):n<=F:=by
 rcases h with ⟨_,_,h,_⟩|⟨_,h,_⟩ <;> omega
theorem kG.congr {n:Int} {S T:Int->Prop} (h:kG F S f n b) (hs:∀ x,f<=x->(T x↔S x)):kG F T f n b:=by
 rcases h with ⟨rfl,h1,h2,h3,h4⟩|⟨rfl,rfl,h1⟩
 .exact .inl ⟨rfl,h1,h2,(hs n h1).2 h3,λx a c=>by rw [hs x a];exact h4 x a c⟩
 exact .inr ⟨rfl,rfl,λx a c=>by rw [hs x a];exact h1 x a c⟩
theorem kG.next {n:Int} {S:Int->Prop} (h:kG F S f n b):eh F S f (if b=true then n else 0) b:=by
 rcases h with ⟨rfl,h1,h2,h3,h4⟩|⟨rfl,rfl,h1⟩
 .exact .inl ⟨rfl,h1,h2,h3,h4⟩
 exact .inr ⟨rfl,rfl,h1⟩
def upTo (f at_ step:Int):Int:=if at_<f then at_+(f-at_+step-1) / step*step else at_
theorem q2c (hs:1<=step) (h0:0<=at_) (h1:at_<step) (hf:0<=f):f<=upTo f at_ step/\upTo f at_ step<f+step/\upTo f at_ step % step=at_/\(∀ x,f<=x->x % step=at_->upTo f at_ step<=x):=by
 have key:f<=upTo f at_ step/\upTo f at_ step<f+step/\upTo f at_ step % step=at_:=by
  unfold upTo
  split
  .rename_i h;have e:=OG (f-at_+step-1) step;have e0:=VK (f-at_+step-1) (show step≠0 by omega);have e1:=VM (f-at_+step-1) (show 0<step by omega);rw [LY step] at e;refine ⟨ad,ad,?_⟩;rw [ON,LV h0 h1]
  exact ⟨ad,ad,LV h0 h1⟩
 refine ⟨key.1,key.2.1,key.2.2,λx hx he=>?_⟩;obtain ⟨k1,k2,k3⟩:=key;generalize upTo f at_ step=u at *;rcases NC x u with h|h
 .have hd:step∣u-x:=u_ (k3.trans he.symm);have:=QV ad hd;omega
 exact h
theorem kG.leaf {n:Int} {S:Int->Prop} (h:kG F S f n b) (hs:1<=step) (h0:0<=at_) (h1:at_<step) (hf:0<=f) :
  (upTo f at_ step<=n->kG F (λx=>S x\/x % step=at_) f (upTo f at_ step) true)/\(n<upTo f at_ step->kG F (λx=>S x\/x % step=at_) f n b):=by
 obtain ⟨k1,k2,k3,k4⟩:=q2c hs h0 h1 hf;have hle:=h.le;generalize upTo f at_ step=u at *;constructor
 .intro hu;refine .inl ⟨rfl,k1,ad,.inr k3,λx a c e=>?_⟩;rcases e with e|e
  .rcases h with ⟨_,g1,g2,g3,g4⟩|⟨_,rfl,g1⟩
   .exact g4 x a ad e
   exact g1 x a ad e
  have:=k4 x a e;omega
 intro hu;rcases h with ⟨rfl,g1,g2,g3,g4⟩|⟨rfl,rfl,g1⟩
 .refine .inl ⟨rfl,g1,g2,.inl g3,λx a c e=>?_⟩;rcases e with e|e
  .exact g4 x a c e
  have:=k4 x a e;omega
 refine .inr ⟨rfl,rfl,λx a c e=>?_⟩;rcases e with e|e
 .exact g1 x a c e
 have:=k4 x a e;omega
def nD (at_ step r P:Int) (a2 s2:Int) (b:Bool):Prop:=(b=true/\s2=aV step P/\vD at_ step r P a2)\/(b=false/\a2=0/\s2=0/\∀ x,¬ (x % step=at_ % step/\x % P=r % P))
theorem uy_:dA (p :: t) at_ step x↔∃ c∈p.cycle,x % p.period=cF p c/\dA t at_ step x:=by
 unfold dA;constructor
 .rintro ⟨h1,h2⟩;obtain ⟨c,hc,he⟩:=h2 p aj;exact ⟨c,hc,he,h1,λq hq=>h2 q (by simp [hq])⟩
 rintro ⟨c,hc,he,h1,h2⟩;refine ⟨h1,λq hq=>?_⟩;rcases U3.1 hq with rfl|hq
 .exact ⟨c,hc,he⟩
 exact h2 q hq
theorem nD.cls (hw:p.WF) {a2 s2 c:Int} (hs:1<=step) (h0:0<=at_) (h1:at_<step) (h:nD at_ step (cF p c) p.period a2 s2 b) (x:Int) :
  (x % p.period=cF p c/\dA t at_ step x)↔b=true/\dA t a2 s2 x:=by
 have hr:=KE hw c;have er:=LV hr.1 hr.2;have ea:=LV h0 h1;have hP:=hw.per;rcases h with ⟨rfl,rfl,kO⟩|⟨rfl,rfl,rfl,hno⟩
 .have hc:=WC (x:=x) hs hP kO;rw [er,ea] at hc;unfold dA;constructor
  .rintro ⟨g1,g2,g3⟩;exact ⟨rfl,hc.1 ⟨g2,g1⟩,g3⟩
  rintro ⟨_,g2,g3⟩;obtain ⟨k1,k2⟩:=hc.2 g2;exact ⟨k2,k1,g3⟩
 refine ⟨λ⟨g1,g2,_⟩=>absurd ?_ (hno x),λh=>by cases h.1⟩;rw [er,ea];exact ⟨g2,g1⟩
theorem so_ (hw:∀ p∈t,p.WF) (hx:f_ t<=x):dA t 0 1 x↔bj t x:=by
 unfold dA bj;have hs:=(Fl (t:=t)).2;constructor
 .rintro ⟨_,h⟩ p hp;exact (Kt (hw p hp) (by have:=hs p hp;omega)).2 (h p hp)
 intro h;exact ⟨ad,λp hp=>(Kt (hw p hp) (by have:=hs p hp;omega)).1 (h p hp)⟩
theorem wr_ (hne:t≠[]) (hw:∀ p∈t,p.WF) (hF:f_ t<=F) {n:Int} (h:YZ t f n b) :
  (b=true->eh F (bj t) f n true)/\(b=false->(F<f\/¬ mo t)->eh F (bj t) f 0 false)/\(b=false->∀ m c,eh F (bj t) (max f (f_ t)) m c->eh F (bj t) f m c):=by
 refine ⟨λhb=>?_,λhb hno=>?_,λhb m c hm=>?_⟩
 .subst hb;rcases h with ⟨_,h1,h2,h3⟩|⟨h,_⟩
  .exact .inl ⟨rfl,h1,ad,h2.1,λx a c e=>h3 x a c ⟨e,ad⟩⟩
  cases h
 .subst hb;rcases h with ⟨h,_⟩|⟨_,_,h1⟩
  .cases h
  refine .inr ⟨rfl,rfl,λx a c e=>?_⟩;by_cases hx:x<f_ t
  .exact h1 x a ⟨e,hx⟩
  rcases hno with h2|h2
  .omega
  exact h2 ⟨x,ad,e⟩
 subst hb;rcases h with ⟨h,_⟩|⟨_,_,h1⟩
 .cases h
 have low:∀ x,f<=x->x<max f (f_ t)->¬ bj t x:=λx a c e=>h1 x a ⟨e,ad⟩;rcases hm with ⟨rfl,g1,g2,g3,g4⟩|⟨rfl,rfl,g1⟩
 .refine .inl ⟨rfl,ad,g2,g3,λx a c=>?_⟩;by_cases hx:x<max f (f_ t)
  .exact low x a hx
  exact g4 x ad c
 refine .inr ⟨rfl,rfl,λx a c=>?_⟩;by_cases hx:x<max f (f_ t)
 .exact low x a hx
 exact g1 x ad c
theorem Xh {n m:Int} {S T:Int->Prop} {c:Bool} (h:eh F S f n b) (g:eh F T f m c) :
  eh F (λx=>S x\/T x) f (if c=true/\(b=false\/m<n) then m else n) (b || c):=by
 rcases h with ⟨rfl,h1,h2,h3,h4⟩|⟨rfl,rfl,h1⟩ <;> rcases g with ⟨rfl,g1,g2,g3,g4⟩|⟨rfl,rfl,g1⟩
 .by_cases hm:m<n
  .rw [if_pos ⟨rfl,.inr hm⟩];exact .inl ⟨rfl,g1,g2,.inr g3,λx a c e=>e.elim (h4 x a ad) (g4 x a c)⟩
  rw [if_neg (λe=>by rcases e.2 with e|e;cases e;exact hm e)];exact .inl ⟨rfl,h1,h2,.inl h3,λx a c e=>e.elim (h4 x a c) (g4 x a ad)⟩
 .rw [if_neg (λe=>by cases e.1)];exact .inl ⟨rfl,h1,h2,.inl h3,λx a c e=>e.elim (h4 x a c) (g1 x a ad)⟩
 .rw [if_pos ⟨rfl,.inl rfl⟩];exact .inl ⟨rfl,g1,g2,.inr g3,λx a c e=>e.elim (h1 x a ad) (g4 x a c)⟩
 rw [if_neg (λe=>by cases e.1)];exact .inr ⟨rfl,rfl,λx a c e=>e.elim (h1 x a c) (g1 x a c)⟩
def dY (a b:List (List Per)):List (List Per):=a.flatMap λs=>b.map λt=>s ++ t
theorem Jk {a b:List (List Per)}:u∈dY a b↔∃ s∈a,∃ t∈b,u=s ++ t:=by
 unfold dY;rw [M7];constructor
 .rintro ⟨s,hs,h⟩;obtain ⟨t,ht,rfl⟩:=VC.1 h;exact ⟨s,hs,t,ht,rfl⟩
 rintro ⟨s,hs,t,ht,rfl⟩;exact ⟨s,hs,VC.2 ⟨t,ht,rfl⟩⟩
theorem qz_ {a b:List (List Per)} (ha:∀ t∈a,qo s t) (hb:∀ t∈b,qo s t):∀ t∈dY a b,qo s t:=λu hu=>by
 obtain ⟨x,hx,y,hy,rfl⟩:=Jk.1 hu;refine ⟨λe=>(ha x hx).1 (q7t.1 e).1,λp hp=>?_⟩;rcases VJ.1 hp with hp|hp
 .exact (ha x hx).2 p hp
 exact (hb y hy).2 p hp
def tZ (p:Per) (b:Int) (n:Int):Prop:=0<=n/\p.mem (n-b)
noncomputable def jd (p:Per) (b:Int):Per:=canonC (tZ p b)
theorem SF {b:Int} (h:dU 0 p):bV (jd p b) (tZ p b)/\dU (max b 0) (jd p b):=by
 have hf:=h.wf.frm;have hp:=h.wf.per;have h_:cM (tZ p b) (max (p.frm+b) 0) p.period:=λn hn=>by
  unfold tZ;have:=h.wf.pfrom (n-b) ad;rw [this,show n-b+p.period=n+p.period-b from by omega];constructor <;> rintro ⟨_,h⟩ <;> exact ⟨ad,h⟩
 have hc:=Ff (OR (S:=tZ p b) (f:=max (p.frm+b) 0) ad hp (λn hn=>hn.1) h_);refine ⟨hc,Jr hc (λn hn=>?_) ad (by have:=h.frm;omega) hp h.dvd h_⟩;have:=hn.1;have:=hn.2.1;omega
noncomputable def mu (m:List (List Per)) (b:Int):List (List Per):=m.map λt=>t.map λp=>jd p b
theorem Oz {b:Int} (h:∀ t∈m,qo 0 t):(∀ t∈mu m b,qo (max b 0) t)/\∀ n,aW (mu m b) n↔0<=n/\aW m (n-b):=by
 refine ⟨λt ht=>?_,λn=>?_⟩
 .obtain ⟨u,hu,rfl⟩:=VC.1 ht;refine ⟨λe=>(h u hu).1 (q8w.1 e),λp hp=>?_⟩;obtain ⟨q,hq,rfl⟩:=VC.1 hp;exact (SF ((h u hu).2 q hq)).2
 unfold aW mu;constructor
 .rintro ⟨t,ht,hn⟩;obtain ⟨u,hu,rfl⟩:=VC.1 ht;have key:∀ q∈u,0<=n/\q.mem (n-b):=λq hq=>((SF ((h u hu).2 q hq)).1.mem n).1 (hn _ (VC.2 ⟨q,hq,rfl⟩));obtain ⟨p,hp⟩:=List.exists_mem_of_ne_nil _ (h u hu).1;exact ⟨(key p hp).1,u,hu,λq hq=>(key q hq).2⟩
 rintro ⟨h0,u,hu,hn⟩;refine ⟨_,VC.2 ⟨u,hu,rfl⟩,λp hp=>?_⟩;obtain ⟨q,hq,rfl⟩:=VC.1 hp;exact ((SF ((h u hu).2 q hq)).1.mem n).2 ⟨h0,hn q hq⟩
end
end Kal
namespace Go.Proofs.YtbmgmlbmgogeaaaGreat
section
open Go.RowKit Go.Maps Kal
theorem xz_ (F:Nat->Prop) (v:Value) (t:List Per) (n:Int) (db:Nat) (w:World) (ht:bK w F v t) (hc:w.cell? ⟨db,0,none⟩=some (.int .i64 n)) (hn:aS n) :
  Calls Tryz.prog 179 #[v,.pointer (some ⟨db,0,none⟩)] w λe w'=>e=.returned (.bool (inB t n))/\Below w.heap.size w w':=by
 have H:=ZG F v t n w ht hn;have hlt:=N8 w _ hc;clear ht;generalize inB t n=b at H ⊢
 go_in
 go_wp2_with (go_at_call 180;refine H.mono ?_;rintro e w1 ⟨rfl,hb1⟩)
 go_ret;exact ⟨rfl,xE⟩
theorem vk_ (F:Nat->Prop) (L:List (Value × List Per)) (n:Int) (db:Nat) (w:World) (hL:∀ x∈L,bK w F x.1 x.2) (hc:w.cell? ⟨db,0,none⟩=some (.int .i64 n)) (hn:aS n) :
  SM 179 #[.pointer (some ⟨db,0,none⟩)] L (λx=>inB x.2 n) w:=λW x hW hx=>by
 have h:=xz_ F x.1 x.2 n db W ((hL x hx).ext hW) (an.cell hW hc) hn;have e:(#[x.1] ++ #[Value.pointer (some ⟨db,0,none⟩)])=#[x.1,.pointer (some ⟨db,0,none⟩)]:=by simp
 rw [e];exact h.mono λe w' ⟨h1,h2⟩=>⟨h1,hW.trans (h2.mono hW.size)⟩
theorem Nh (F:Nat->Prop) (v:Value) (m:List (List Per)) (n:Int) (db:Nat) (w:World) (hm:aF w F v m) (hc:w.cell? ⟨db,0,none⟩=some (.int .i64 n)) (hn:aS n) :
  Calls Tryz.prog 107 #[v,.func (.func 179) #[] #[.pointer (some ⟨db,0,none⟩)]] w λe w'=>e=.returned (.bool (m.any λt=>inB t n))/\Below w.heap.size w w':=by
 obtain ⟨L,rfl,hL⟩:=hm;have h:=OU F v L (λx=>inB x.2 n) 179 #[.pointer (some ⟨db,0,none⟩)] (enters_of Tryz.func179 (by kernel_rfl) rfl) w hL.row hL.len (vk_ F L n db w hL.all hc hn);have he:((L.map Prod.snd).any λt=>inB t n)=L.any λx=>inB x.2 n:=by rw [List.any_map];rfl
 rw [he];exact h
theorem yl_ (F:Nat->Prop) (v:Value) (m:List (List Per)) (n:Int) (w:World) (hm:aF w F v m) (hn:aS n) :
  Calls Tryz.prog 132 #[.agg #[v],.int .i64 n] w λe w'=>e=.returned (.bool (pt m n))/\Below w.heap.size w w':=by
 have HV:=λW h=>tr F v m W (hm.ext h);have HA:=λW h db hc=>Nh F v m n db W (hm.ext h) hc hn;unfold pt;obtain ⟨L,_,hL⟩:=hm;obtain ⟨a,c,rfl,_⟩:=hL.row;clear hL;generalize (m.any λt=>inB t n)=y at *;cases hq:ef m with
 | false=>
  rw [hq] at HV;clear hq
  go_in
  go_wp2_with (go_at_call 49;refine (HV _ xE).mono ?_;rintro e w1 ⟨rfl,hb1⟩)
  go_ret;exact ⟨rfl,xE⟩
 | true=>
  rw [hq] at HV;clear hq
  go_in
  go_wp2_with (first|(go_at_call 49;refine (HV _ xE).mono ?_;rintro e w1 ⟨rfl,hb1⟩;obtain ⟨hc1,gG⟩:=bd_ hb1;(try simp only [U7,Q1,fZ,O1] at hc1 gG))|(go_at_call 107;refine (HA _ xE (w.heap.size+1) (by rw [hc1 _ _ ad];simp)).mono ?_;rintro e w2 ⟨rfl,hb2⟩))
  go_ret;exact ⟨rfl,xE⟩
theorem Wy (x y:PV) (w:World) (hx:1<=x.p.period) (hx1:x.p.period<=1099511627776) (hy:1<=y.p.period) (hy1:y.p.period<=1099511627776) :
  Calls Tryz.prog 140 #[x.val,y.val] w λe w'=>e=.returned (.bool (jN x.p y.p))/\Below w.heap.size w w':=by
 have n1:x.p.period≠0:=ad;have n2:y.p.period≠0:=ad;have b1:=VK x.p.period n2;have b2:=VM x.p.period (show 0<y.p.period by omega);have b3:=VK y.p.period n1;have b4:=VM y.p.period (show 0<x.p.period by omega)
 go_in
 go_wp2_with fail
 all_goals
  go_ret;refine ⟨bX ?_,xE⟩;unfold jN
  first|rfl|(simp_all;done)
theorem tp_ (F G:Nat->Prop) (x y:PV) (w:World) (hx:bD w F x) (hy:bD w G y) :
  Calls Tryz.prog 145 #[x.val,y.val] w λe w'=>e=.returned (.bool (oF x.p y.p))/\Below w.heap.size w w':=by
 have H1:=λW (h:Below w.heap.size w W)=>XJ x.h y.h x.p.head y.p.head W (hx.is.hd.ext h) (hy.is.hd.ext h);have H2:=λW (h:Below w.heap.size w W)=>XJ x.c y.c x.p.cycle y.p.cycle W (hx.is.cy.ext h) (hy.is.cy.ext h);clear hx hy;obtain ⟨xh,xc,xp⟩:=x;obtain ⟨yh,yc,yp⟩:=y;change Calls _ _ #[ar xh xc xp.frm xp.period,ar yh yc yp.frm yp.period] _ λe w'=>e=.returned (.bool (oF xp yp))/\_;change ∀ W,_->Calls _ _ #[xh,yh] W λe w'=>e=.returned (.bool (decide (xp.head=yp.head)))/\_ at H1;change ∀ W,_->Calls _ _ #[xc,yc] W λe w'=>e=.returned (.bool (decide (xp.cycle=yp.cycle)))/\_ at H2;by_cases h1:xp.frm=yp.frm
 .by_cases h2:xp.period=yp.period
  .by_cases h3:xp.head=yp.head
   .rw [PH h3] at H1;have e:oF xp yp=decide (xp.cycle=yp.cycle):=by unfold oF;simp [h1,h2,h3]
    rw [e];clear e h3;generalize decide (xp.cycle=yp.cycle)=b at *
    go_in
    go_wp2_with (go_at_call 191;first|((with_reducible refine (H1 _ xE).mono ?_);rintro e w1 ⟨rfl,n1,rfl⟩)|((with_reducible refine (H2 _ xE).mono ?_);rintro e w1 ⟨rfl,n1,rfl⟩))
    go_ret;exact ⟨rfl,xE⟩
   rw [P9 h3] at H1;have e:oF xp yp=false:=by unfold oF;simp [h3]
   rw [e];clear e h3
   go_in
   go_wp2_with (go_at_call 191;first|((with_reducible refine (H1 _ xE).mono ?_);rintro e w1 ⟨rfl,n1,rfl⟩)|((with_reducible refine (H2 _ xE).mono ?_);rintro e w1 ⟨rfl,n1,rfl⟩))
   go_ret;exact ⟨rfl,xE⟩
  have e:oF xp yp=false:=by unfold oF;simp [h2]
  rw [e];clear e
  go_in
  go_wp2
  go_ret;exact ⟨rfl,xE⟩
 have e:oF xp yp=false:=by unfold oF;simp [h1]
 rw [e];clear e
 go_in
 go_wp2
 go_ret;exact ⟨rfl,xE⟩
open Classical in
noncomputable def xQ (t u:List Per):Bool:=decide (t=u)
theorem Xr (h:t=u):xQ t u=true:=by unfold xQ;simp [h]
theorem Pd (h:t≠u):xQ t u=false:=by unfold xQ;simp [h]
theorem bD.form {F:Nat->Prop} {c:Value} (hx:bD w F ⟨h,c,p⟩):∃ a1 n1 c1 a2 n2 c2,h=.slice a1 n1 c1/\c=.slice a2 n2 c2:=by
 obtain ⟨⟨⟨⟨a1,c1,h1,_⟩,_,_⟩,⟨a2,c2,h2,_⟩,_,_⟩,_,_,_,_⟩:=hx;exact ⟨a1,_,c1,a2,_,c2,h1,h2⟩
theorem gR.get {F:Nat->Prop} {a:Option Addr} (h:gR w F (.slice a n c) L) (hk:k<L.length) :
  ∃ b o x,a=some ⟨b,o,none⟩/\bD w F x/\x.p=(L.map PV.p).getD k default/\b<w.heap.size/\w.cell? ⟨b,o+k*4,none⟩=some x.h/\w.cell? ⟨b,o+k*4+1,none⟩=some (.int .i64 x.p.frm)/\
   w.cell? ⟨b,o+k*4+2,none⟩=some (.int .i64 x.p.period)/\w.cell? ⟨b,o+k*4+3,none⟩=some x.c:=by
 obtain ⟨a',c',he,h1,h2,h3⟩:=h.row;injection he with e1 _ e2
 subst e1;subst e2;rcases h3 with h3|⟨b,o,rfl,hF,hl,hc⟩
 .omega
 exact ⟨b,o,L.getD k default,rfl,h.all _ (dI hk),by simp [VS,hk],hl,hc (k*4+0) _ (nA hk rfl),hc (k*4+1) _ (nA hk rfl),hc (k*4+2) _ (nA hk rfl),hc (k*4+3) _ (nA hk rfl)⟩
theorem nw_ (F G:Nat->Prop) (v1 v2:Value) (t u:List Per) (w:World) (h1:bK w F v1 t) (h2:bK w G v2 u) :
  Calls Tryz.prog 144 #[v1,v2,.func (.func 145) #[] #[]] w λe w'=>e=.returned (.bool (xQ t u))/\Below w.heap.size w w':=by
 obtain ⟨L,rQ,hL⟩:=h1;obtain ⟨M,PI,hM⟩:=h2;obtain ⟨a1,c1,rfl,_⟩:=hL.row;obtain ⟨a2,c2,rfl,_⟩:=hM.row;have HL:=af hL;have HM:=af hM;have fA:=hL.len;have hl2:=hM.len;have ht:t.length=L.length:=by rw [<- rQ,U6]
 have hu:u.length=M.length:=by rw [<- PI,U6]
 have HT:=af ht;have HU:=af hu;have bU:=af rQ;have Me:=af PI;clear hL hM ht hu rQ PI;have eg:∀ args w,(callFunc 145 args).run Tryz.prog w=.ok (.enter 145 args) w:=enters_of Tryz.func145 (by kernel_rfl) rfl;by_cases hne:L.length=M.length
 .have jg:=af hne;rw [<- hne];clear hne hl2
  go_in
  go_wp2
  go_loopw [6,7,8,9,17] (λ_ _ _ _ i wr=>∃ k:Nat,k<=L.length/\i=.int .i64 k/\(∀ j,j<k->t.getD j default=u.getD j default)/\Below w.heap.size w wr) (λ_ _ _ _ i _=>L.length-(intOf i).toNat)
  .exact ⟨0,ad,rfl,by intro j hj;omega,xE⟩
  obtain ⟨k,hk,rfl,hpre,hb⟩:=hrel;have cT:=af hpre;clear hpre;by_cases hlt:k<L.length
  .have cP:(k:Int)<L.length:=ad;obtain ⟨b1,o1,x,rfl,hx,c_,hb1,e0,e1,e2,e3⟩:=(HL.o.keep (aP.below hb) hb.size).get hlt;obtain ⟨b2,o2,y,rfl,hy,hyp,hb2,g0,g1,g2,g3⟩:=(HM.o.keep (aP.below hb) hb.size).get (show k<M.length by have:=jg.o;omega);rw [bU.o] at c_;rw [Me.o] at hyp;have HE:=λW (h:Below wr.heap.size wr W)=>tp_ F G x y W (hx.keep (aP.below h)) (hy.keep (aP.below h));have jA:=af c_;have I0:=af hyp;obtain ⟨xh,xc,xp⟩:=x;obtain ⟨yh,yc,yp⟩:=y;obtain ⟨eA,eE,eB,eW,fq,dZ,rfl,rfl⟩:=hx.form;obtain ⟨kY,lC,lk,kZ,lD,lq,rfl,rfl⟩:=hy.form;clear c_ hyp hx hy;change ∀ W,_->Calls _ _ #[ar (.slice eA eE eB) (.slice eW fq dZ) xp.frm xp.period,ar (.slice kY lC lk) (.slice kZ lD lq) yp.frm yp.period] W λe w'=>e=.returned (.bool (oF xp yp))/\_ at HE;change Hid (xp=_) at jA;change Hid (yp=_) at I0;dsimp only at e0 e1 e2 e3 g0 g1 g2 g3;cases hq:oF xp yp with
   | true=>
    rw [hq] at HE;have HQ:=af hq;clear hq;go_wp2_with (go_at_fn 145;refine (HE _ xE).mono ?_;rintro e w1 ⟨rfl,hb3⟩);go_roundw
    .refine ⟨k+1,ad,by go_num,?_,xE⟩;intro j hj;by_cases h:j<k
     .exact cT.o j h
     obtain rfl:j=k:=ad;rw [<- jA.o,<- I0.o];exact (X1 _ _).1 HQ.o
    simp [intOf];omega
   | false=>
    rw [hq] at HE;have HQ:=af hq;clear hq;go_wp2_with (go_at_fn 145;refine (HE _ xE).mono ?_;rintro e w1 ⟨rfl,hb3⟩);go_ret;refine ⟨bX (Pd ?_).symm,xE⟩;rintro rfl;have:=HQ.o;rw [(X1 _ _).2 (jA.o.trans I0.o.symm)] at this;exact absurd this aG
  obtain rfl:k=L.length:=ad;go_wp2;go_ret;refine ⟨bX (Xr ?_).symm,xE⟩;refine QB (by have:=HT.o;have:=HU.o;have:=jg.o;omega) λj h1 h2=>?_;have:=cT.o j (by have:=HT.o;omega);rw [VS,VS,U2 h1,U2 h2] at this;exact this
 have hneI:¬ (L.length:Int)=M.length:=ad
 go_in
 go_wp2
 go_ret;refine ⟨bX (Pd ?_).symm,xE⟩;rintro rfl;have:=HT.o;have:=HU.o;omega
theorem r8_ (a:Int) (t:List Per) (p:Per):lh a (t ++ [p])=max (lh a t) p.frm:=by unfold lh;rw [GQ];rfl
theorem wm_ (F:Nat->Prop) (v:Value) (t:List Per) (w:World) (ht:bK w F v t) :
  Calls Tryz.prog 184 #[v] w λe w'=>e=.returned (.int .i64 (f_ t))/\Below w.heap.size w w':=by
 obtain ⟨L,rQ,hL⟩:=ht;obtain ⟨a1,c1,rfl,_⟩:=hL.row;have HL:=af hL;have fA:=hL.len;have ia:t.length=L.length:=by rw [<- rQ,U6]
 have HT:=af ia;have bU:=af rQ;clear hL ia rQ
 go_in
 go_wp2
 go_loopw [3,5,8] (λm _ i wr=>∃ k:Nat,k<=L.length/\i=.int .i64 k/\m=.int .i64 (lh 0 (t.take k))/\Below w.heap.size w wr) (λ_ _ i _=>L.length-(intOf i).toNat)
 .exact ⟨0,ad,rfl,by simp [lh],xE⟩
 obtain ⟨k,hk,rfl,rfl,hb⟩:=hrel;by_cases hlt:k<L.length
 .have cP:(k:Int)<L.length:=ad;obtain ⟨b1,o1,x,rfl,hx,c_,hb1,e0,e1,e2,e3⟩:=(HL.o.keep (aP.below hb) hb.size).get hlt;rw [bU.o] at c_;have hS:lh 0 (t.take (k+1))=max (lh 0 (t.take k)) x.p.frm:=by
   have oP:k<t.length:=by have:=HT.o;omega
   rw [LF oP,r8_,c_,VS,U2 oP];rfl
  have HS:=af hS;have hfr:=hx.fr;obtain ⟨xh,xc,xp⟩:=x;obtain ⟨eA,eE,eB,eW,fq,dZ,rfl,rfl⟩:=hx.form;dsimp only at e0 e1 e2 e3 hfr HS;clear c_ hx hS;generalize lh 0 (t.take k)=s0 at *;go_wp2_with fail;all_goals
   go_roundw
   .exact ⟨k+1,ad,by go_num,by rw [HS.o],xE⟩
   simp [intOf];omega
 obtain rfl:k=L.length:=ad;go_wp2;go_ret;refine ⟨?_,xE⟩;have:=HT.o;rw [PM ad];rfl
theorem Wm (h c:Value) (p:Per) (n:Int) (w:World) (hf:0<=p.frm) (gG:p.frm<=1125899906842624) (hp:1<=p.period) (fN:p.period<=1125899906842624) (hn:0<=n) (mS:n<=1125899906842624) :
  Calls Tryz.prog 183 #[ar h c p.frm p.period,.int .i64 n] w λe w'=>e=.returned (.int .i64 (cF p n))/\Below w.heap.size w w':=by
 have n1:p.period≠0:=ad;have b1:=VK p.frm n1;have b2:=VM p.frm (show 0<p.period by omega);have q1:p.frm.tmod p.period=p.frm % p.period:=NY hf;have q2:(p.frm % p.period+n).tmod p.period=(p.frm % p.period+n) % p.period:=NY ad;unfold cF;generalize p.frm % p.period=r at *;have HR:Hid (0<=(r+n) % p.period/\(r+n) % p.period<p.period):=af ⟨VK _ n1,VM _ ad⟩
 go_in
 go_wp2_with fail
 go_region
 go_wp2
 go_ret;exact ⟨rfl,xE⟩
def TV (t:List Per):Prop:=∀ p∈t,validB p=true
theorem Yy {n:Int} (h:validB p=true):hasB p n=true↔p.mem n:=by
 unfold hasB;rw [h,Bool.true_and,NU,QN];exact ⟨λ⟨h0,h1⟩=>(Fq h0).1 h1,λh1=>⟨h1.1,(Fq h1.1).2 h1⟩⟩
theorem CA {n:Int} (h:TV t):inB t n=true↔bj t n:=by
 unfold inB bj;rw [MI];exact ⟨λg p hp=>(Yy (h p hp)).1 (g p hp),λg p hp=>(Yy (h p hp)).2 (g p hp)⟩
theorem XC {n:Int} {S T:Int->Prop} (h:ji S f n b) (hs:∀ x,T x↔S x\/(x=d/\bj t x)) (h1:f<=d) (h2:b=false\/d<n) (h3:bj t d):ji T f d true:=
 (h.take h1 h2).congr λx _=>by rw [hs];exact or_congr MT ⟨λg=>g.1,λg=>⟨g,g ▸ h3⟩⟩
theorem Jq {n:Int} {S T:Int->Prop} (h:ji S f n b) (hs:∀ x,T x↔S x\/(x=d/\bj t x)) (h1:¬ (f<=d/\(b=false\/d<n)/\bj t d)):ji T f n b:=by
 by_cases h3:bj t d
 .exact (h.pass λg=>h1 ⟨g.1,g.2,h3⟩).congr λx _=>by rw [hs];exact or_congr MT ⟨λg=>g.1,λg=>⟨g,g ▸ h3⟩⟩
 exact h.congr λx _=>by rw [hs];exact ⟨λg=>g.elim id λg=>absurd (g.1 ▸ g.2) h3,.inl⟩
theorem XG (F:Nat->Prop) (v:Value) (t:List Per) (f:Int) (w:World) (ht:bK w F v t) (hv:TV t) (hf:aS f) :
  Calls Tryz.prog 134 #[v,.int .i64 f] w λe w'=>∃ (n:Int) (b:Bool),e=.returned (.tuple #[.int .i64 n,.bool b])/\ji (nH t t.length 0) f n b/\Below w.heap.size w w':=by
 have dq:=λW d (h:Below w.heap.size w W) (hd:aS d)=>ZG F v t d W (ht.ext h) hd;obtain ⟨L,rQ,hL⟩:=ht;obtain ⟨a1,c1,rfl,_⟩:=hL.row;have HL:=af hL;have fA:=hL.len;have ia:t.length=L.length:=by rw [<- rQ,U6]
 have HT:=af ia;have bU:=af rQ;have HV:=af hv;clear hL ia rQ hv
 go_in
 go_wp2
 go_loopw [6,7,9,11,14] (λnv bv _ _ i wr=>∃ (k:Nat) (n:Int) (b:Bool),k<=L.length/\i=.int .i64 k/\nv=.int .i64 n/\bv=.bool b/\Hid (ji (nH t k 0) f n b)/\Below w.heap.size w wr) (λ_ _ _ _ i _=>L.length-(intOf i).toNat)
 .exact ⟨0,0,false,ad,rfl,rfl,rfl,af (ji.start.congr λx _=>t6_),xE⟩
 obtain ⟨k,n,b,hk,rfl,rfl,rfl,gj,hb⟩:=hrel;by_cases hlt:k<L.length
 .have cP:(k:Int)<L.length:=ad;obtain ⟨b1,o1,x,rfl,hx,c_,hb1,e0,e1,e2,e3⟩:=(HL.o.keep (aP.below hb) hb.size).get hlt;rw [bU.o] at c_;have hkt:k<t.length:=by have:=HT.o;omega
  have jA:=af c_;have mV:=hx.is.hd;obtain ⟨xh,xc,xp⟩:=x;obtain ⟨eA,eE,eB,eW,fq,dZ,rfl,rfl⟩:=hx.form;dsimp only at e0 e1 e2 e3 mV;change Hid (xp=_) at jA;obtain ⟨⟨ah,ch,he,_,_,hcl⟩,lx,hrg⟩:=mV;injection he with cN eP dz
  subst cN;subst eP;subst dz;have cS:=af hcl;have rj:=af hrg;have HB:=af hb;clear hcl hrg c_ hx;go_wp2;go_loopw [6,7,11,21] (λnv bv _ i wq=>∃ (j:Nat) (n:Int) (b:Bool),j<=xp.head.length/\i=.int .i64 j/\nv=.int .i64 n/\bv=.bool b/\Hid (ji (nH t k j) f n b)/\Below wr.heap.size wr wq) (λ_ _ _ i _=>xp.head.length-(intOf i).toNat)
  .exact ⟨0,n,b,ad,rfl,rfl,rfl,gj,xE⟩
  obtain ⟨j,n,b,hj,rfl,rfl,rfl,mZ,hb2⟩:=hrel;by_cases dE:j<xp.head.length
  .have sm:(j:Int)<xp.head.length:=ad;rcases cS.o with h0|⟨b4,o4,rfl,hc4⟩
   .rw [h0] at dE;simp at dE
   have c0:=an.cell hb2 (hc4 j dE);have hd:=rj.o _ (dI (d:=0) dE);have HS:=λx=>t5_ (t:=t) (i:=k) (k:=j) (x:=x) (by rw [<- jA.o];exact dE);rw [<- jA.o] at HS;have HS:=af HS;generalize xp.head.getD j 0=d at *;by_cases h1:f<=d
   .cases b with
    | false=>
     cases hq:inB t d with
     | true=>
      have HI:=λW h=>dq W d h hd;rw [hq] at HI;have tm:=af ((CA HV.o).1 hq);clear hq;go_wp2_with (go_at_call 180;refine (HI _ xE).mono ?_;rintro e w1 ⟨rfl,hb3⟩);go_roundw
      .exact ⟨j+1,d,true,ad,by go_num,rfl,rfl,af (XC mZ.o HS.o h1 (by first|exact .inl rfl|exact .inr (by assumption)) tm.o),xE⟩
      simp [intOf];omega
     | false=>
      have HI:=λW h=>dq W d h hd;rw [hq] at HI;have tm:Hid (¬ bj t d):=af λg=>by rw [(CA HV.o).2 g] at hq;exact absurd hq aG
      clear hq;go_wp2_with (go_at_call 180;refine (HI _ xE).mono ?_;rintro e w1 ⟨rfl,hb3⟩);go_roundw
      .exact ⟨j+1,n,_,ad,by go_num,rfl,rfl,af (Jq mZ.o HS.o λg=>tm.o g.2.2),xE⟩
      simp [intOf];omega
    | true=>
     by_cases h2:d<n
     .
      cases hq:inB t d with
      | true=>
       have HI:=λW h=>dq W d h hd;rw [hq] at HI;have tm:=af ((CA HV.o).1 hq);clear hq;go_wp2_with (go_at_call 180;refine (HI _ xE).mono ?_;rintro e w1 ⟨rfl,hb3⟩);go_roundw
       .exact ⟨j+1,d,true,ad,by go_num,rfl,rfl,af (XC mZ.o HS.o h1 (by first|exact .inl rfl|exact .inr (by assumption)) tm.o),xE⟩
       simp [intOf];omega
      | false=>
       have HI:=λW h=>dq W d h hd;rw [hq] at HI;have tm:Hid (¬ bj t d):=af λg=>by rw [(CA HV.o).2 g] at hq;exact absurd hq aG
       clear hq;go_wp2_with (go_at_call 180;refine (HI _ xE).mono ?_;rintro e w1 ⟨rfl,hb3⟩);go_roundw
       .exact ⟨j+1,n,_,ad,by go_num,rfl,rfl,af (Jq mZ.o HS.o λg=>tm.o g.2.2),xE⟩
       simp [intOf];omega
     go_wp2
     go_roundw
     .exact ⟨j+1,n,true,ad,by go_num,rfl,rfl,af (Jq mZ.o HS.o λg=>g.2.1.elim (λg=>absurd g aG) h2),xE⟩
     simp [intOf];omega
   go_wp2
   go_roundw
   .exact ⟨j+1,n,b,ad,by go_num,rfl,rfl,af (Jq mZ.o HS.o λg=>h1 g.1),xE⟩
   simp [intOf];omega
  obtain rfl:j=xp.head.length:=ad;go_wp2;go_roundw
  .exact ⟨k+1,n,b,ad,by go_num,rfl,rfl,af (mZ.o.congr λx _=>by rw [vl_ hkt,<- jA.o]),xE⟩
  simp [intOf];omega
 obtain rfl:k=L.length:=ad;go_wp2;go_ret2;exact ⟨n,b,rfl,by rw [HT.o];exact gj.o,xE⟩
theorem aP.grown {F:Nat->Prop} (h:W.grownBy W' (some g)) (hF:¬ F g):aP F W W':=λb hb hl=>h.block b hl (by rintro ⟨⟩;exact hF hb)
theorem World.grownBy.trans' {B:World} {r:Option Nat} (h:A.grownBy B r) (k:B.grownBy C r):A.grownBy C r:=
 ⟨k.os.trans h.os,k.tape.trans h.tape,k.output.trans h.output,NN h.size k.size,λb hb hn=>(k.block b (N6 hb h.size) hn).trans (h.block b hb hn)⟩
theorem World.grownBy.set' {B:World} {i:Nat} (h:A.grownBy B (some g)) (v:Value):A.grownBy (B.setCell ⟨g,i,none⟩ v) (some g):=
 ⟨h.os,h.tape,h.output,by rw [O1];exact h.size,λb hb hn=>(DO B ⟨g,i,none⟩ v b (by rintro rfl;exact hn rfl)).trans (h.block b hb hn)⟩
theorem World.grownBy.below' {B:World} {B0:Nat} (h:A.grownBy B (some g)) (hg:B0<=g) (hB:B0<=A.heap.size):Below B0 A B:=
 ⟨h.os,h.tape,h.output,h.size,λb hb=>h.block b ad (by rintro ⟨⟩;omega)⟩
def Fits (xs:List Value) (done:List (Int × Int)):Prop:=∀ k,k<done.length->xs[k]? = some (.int .i64 (done.getD k (0,0)).2)
theorem Fits.snoc {done:List (Int × Int)} {a:Int × Int} (h:Fits xs done) (hl:done.length<xs.length):Fits (xs.set done.length (.int .i64 a.2)) (done ++ [a]):=by
 intro k hk;rw [MB] at hk;simp only [NF] at hk;by_cases hk2:k<done.length
 .rw [List.getElem?_set_ne ad,h k hk2,VS,VS,M_ hk2]
 obtain rfl:k=done.length:=ad;rw [List.getElem?_set_self hl,VS,ND ad];simp
theorem Fits.pre {done:List (Int × Int)} {a:Int × Int} (h:Fits xs (done ++ [a])):Fits xs done:=λk hk=>by
 have:=h k aR;rwa [VS,M_ hk,<- VS] at this
def SP (done:List (Int × Int)) (p:Per) (t:List Per) (c:Int):Prop:=H_ done p.period (cF p c)/\an (done ++ [(p.period,cF p c)]) t
theorem Yu {i:Nat} {done:List (Int × Int)} (h:i<t.length):an done (t.drop i)↔∃ c∈(t.getD i default).cycle,SP done (t.getD i default) (t.drop (i+1)) c:=by
 rw [GE h,VS,U2 h];rfl
def CJ (done:List (Int × Int)) (P r:Int) (k:Nat):Prop:=∀ j,j<k->(r-(done.getD j (0,0)).2) % ((Int.gcd P (done.getD j (0,0)).1:Nat):Int)=0
theorem Y4 {done:List (Int × Int)}:H_ done P r↔CJ done P r done.length:=by
 constructor
 .exact λh j hj=>h _ (dI hj)
 intro h x hx;obtain ⟨j,hj,rfl⟩:=MA.1 hx;have:=h j hj;rwa [VS,U2 hj] at this
theorem CJ.succ {done:List (Int × Int)} (h:CJ done P r k) (h1:(r-(done.getD k (0,0)).2) % ((Int.gcd P (done.getD k (0,0)).1:Nat):Int)=0):CJ done P r (k+1):=λj hj=>by
 by_cases CR:j<k
 .exact h j CR
 obtain rfl:j=k:=ad;exact h1
structure s8 (g:Nat) (F:Nat->Prop) (v:Value) (L:List PV) (b1 b2 b3:Nat) (done:List (Int × Int)) (w:World) (xs:List Value):Prop where
 term:gR w F v L
 c1:w.cell? ⟨b1,0,none⟩=some v
 c2:w.cell? ⟨b2,0,none⟩=some (.slice (some ⟨g,0,none⟩) L.length L.length)
 c3:w.cell? ⟨b3,0,none⟩=some (.func (.func 182) #[] #[.pointer (some ⟨b1,0,none⟩),.pointer (some ⟨b2,0,none⟩),.pointer (some ⟨b3,0,none⟩)])
 row:w.ownsRow g 3 1 (.slice (some ⟨g,0,none⟩) L.length L.length) L.length xs
 fits:Fits xs done
theorem s8.grow {F:Nat->Prop} {b1 b2 b3:Nat} {done done':List (Int × Int)} {xs':List Value} (h:s8 g F v L b1 b2 b3 done w xs) (hg:w.grownBy W (some g)) (hF:¬ F g) (h1:b1≠g) (h2:b2≠g) (h3:b3≠g)
  (hr:W.ownsRow g 3 1 (.slice (some ⟨g,0,none⟩) L.length L.length) L.length xs') (hf:Fits xs' done'):s8 g F v L b1 b2 b3 done' W xs':=
 ⟨h.term.keep (aP.grown hg hF) hg.size,hg.cell h.c1 (by rintro ⟨⟩;exact h1 rfl),hg.cell h.c2 (by rintro ⟨⟩;exact h2 rfl),hg.cell h.c3 (by rintro ⟨⟩;exact h3 rfl),hr,hf⟩
theorem s8.below {F:Nat->Prop} {b1 b2 b3:Nat} {done:List (Int × Int)} (h:s8 g F v L b1 b2 b3 done w xs) (hb:Below w.heap.size w W):s8 g F v L b1 b2 b3 done W xs:=
 ⟨h.term.keep (aP.below hb) hb.size,an.cell hb h.c1,an.cell hb h.c2,an.cell hb h.c3,h.row.kept (row:=none) ⟨hb.os,hb.tape,hb.output,hb.size,λb hl _=>hb.block b hl⟩ (by right;simp [Value.ownBlock]),h.fits⟩
def q2d (g:Nat) (F:Nat->Prop) (v:Value) (L:List PV) (b1 b2 b3:Nat) (done:List (Int × Int)) (i:Nat) (w:World) (e:Ending) (w':World):Prop:=
 ∃ b xs',e=.returned (.bool b)/\(b=true↔an done ((L.map PV.p).drop i))/\s8 g F v L b1 b2 b3 done w' xs'/\w.grownBy w' (some g)
theorem sk_ (g:Nat) (F:Nat->Prop) (v:Value) (L:List PV) (b1 b2 b3:Nat) (hF:¬ F g) (h1:b1≠g) (h2:b2≠g) (h3:b3≠g) (hv:TV (L.map PV.p)) :
  ∀ (n i:Nat) (done:List (Int × Int)) (xs:List Value) (w:World),i+n=L.length->done.length=i->(∀ k,k<i->(done.getD k (0,0)).1=((L.map PV.p).getD k default).period/\0<=(done.getD k (0,0)).2/\(done.getD k (0,0)).2<=1099511627776)->
   s8 g F v L b1 b2 b3 done w xs->
   Calls Tryz.prog 182 #[.int .i64 i,.pointer (some ⟨b1,0,none⟩),.pointer (some ⟨b2,0,none⟩),.pointer (some ⟨b3,0,none⟩)] w (q2d g F v L b1 b2 b3 done i w):=by
 intro n;induction n with
 | zero=>
  intro i done xs w hi hd GV hc;have fA:=hc.term.len;obtain rfl:i=L.length:=ad;obtain ⟨a1,c1,rfl,hx1,hx2,_⟩:=hc.term.row.is;have k1:=hc.c1;have HC:=af hc;clear hc GV hd
  go_in
  go_wp2_with fail
  go_step3
  go_wp2_with fail
  try rw [QP]
  go_ret;exact ⟨true,xs,rfl,by rw [N5 aj];exact ⟨λ_=>trivial,λ_=>rfl⟩,HC.o,⟨rfl,rfl,rfl,TZ _,λ_ _ _=>rfl⟩⟩
 | succ n ih=>
  intro i done xs w hi hd GV hc;have IH:=af ih;clear ih;have fA:=hc.term.len;have tK:i<L.length:=ad;have tJ:(i:Int)<L.length:=ad;obtain ⟨a1,OL,rfl,hx1,hx2,_⟩:=hc.term.row.is;have k1:=hc.c1;obtain ⟨tb,o1,x,ha,hx,c_,hb1,e0,e1,e2,e3⟩:=hc.term.get tK;subst ha;have jA:=af c_;have VP:validB x.p=true:=hv _ (by rw [c_];exact dI (by simpa using tK));have Bx:=(pg x.p).1 VP;have mV:=hx.is.cy;obtain ⟨xh,xc,xp⟩:=x;obtain ⟨eA,eE,eB,eW,fq,dZ,rfl,rfl⟩:=hx.form;dsimp only at e0 e1 e2 e3 mV Bx;change Hid (xp=_) at jA;obtain ⟨⟨ah,ch,he,_,_,hcl⟩,lx,hrg⟩:=mV;injection he with cN eP dz
  subst cN;subst eP;subst dz;have f0:=Bx.wf.frm;have f1:xp.frm<=1099511627776:=Bx.frm;have p0:=Bx.wf.per;have p1:xp.period<=1099511627776:=Bx.per;have ze:=af Bx.wf.cyc;have cS:=af hcl;have HC:=af hc;have ri:=af GV;have HX:=af hx;have HD:=af hd;have HI:=af hi;have HV:=af hv;clear hcl hc GV hx Bx VP hrg c_ hd hv hi
  go_in
  go_wp2_with fail
  go_step3
  go_wp2_with fail
  go_step3
  go_wp2_with fail
  generalize ((i:Int) == (L.length:Int))=qH;go_loopw [5,7,8,9,20] (λ_ _ _ _ idx wr=>∃ (j:Nat) (ys:List Value),j<=xp.cycle.length/\idx=.int .i64 j/\Hid (∀ q,q<j->¬ SP done xp ((L.map PV.p).drop (i+1)) (xp.cycle.getD q 0))/\Hid (s8 g F (.slice (some ⟨tb,o1,none⟩) L.length OL) L b1 b2 b3 done wr ys)/\Hid (w.grownBy wr (some g))) (λ_ _ _ _ idx _=>xp.cycle.length-(intOf idx).toNat)
  .exact ⟨0,xs,ad,rfl,af (λq hq=>ad),HC,af ⟨rfl,rfl,rfl,TZ _,λ_ _ _=>rfl⟩⟩
  obtain ⟨j,ys,hj,rfl,gO,BP,HG⟩:=hrel;by_cases dE:j<xp.cycle.length
  .have sm:(j:Int)<xp.cycle.length:=ad;have q1:=BP.o.c1;obtain ⟨_,_,y,FZ,hy,hyp,hyb,g0,g1,g2,g3⟩:=BP.o.term.get tK;cases FZ;obtain ⟨yh,yc,yp⟩:=y;obtain ⟨kY,lC,lk,kZ,lD,lq,rfl,rfl⟩:=hy.form;obtain rfl:yp=xp:=hyp.trans jA.o.symm;dsimp only at g0 g1 g2 g3;have Qf:=(HX.o.keep (aP.grown HG.o hF)).is.cy;obtain ⟨⟨ah,ch,he,_,_,hcl⟩,_,_⟩:=Qf;injection he with cN eP dz
   subst cN;subst dz;rcases hcl with h0|⟨b4,o4,rfl,hc4⟩
   .rw [h0] at dE;simp at dE
   have c0:=hc4 j dE;have hcb:=ze.o.2 _ (dI (d:=0) dE);have HJ:Hid (yp.cycle.getD j 0∈yp.cycle):=af (dI dE);generalize hcc:yp.cycle.getD j 0=c at *;have wV:=af hcc;have hr:=KE ((pg yp).1 (HV.o _ (by rw [jA.o];exact dI (by simpa using tK)))).wf c;have iL:=λW=>Wm (.slice kY lC lk) (.slice kZ lD lq) yp c W f0 ad p0 ad hcb.1 ad;generalize Ka:cF yp c=r at *;have B9:=af Ka;have I0:=af hyp;clear hc4 hcc Ka hy hyp;go_wp2_with (go_at_call 183;refine (iL _).mono ?_;rintro e w1 ⟨rfl,hbr⟩);have qR:=af (BP.o.below hbr);have bm:=af hbr;go_loopw [9,31] (λ_ idx wq=>∃ k:Nat,k<=i/\idx=.int .i64 k/\Hid (CJ done yp.period r k)/\Hid (Below w1.heap.size w1 wq)) (λ_ idx _=>i-(intOf idx).toNat)
   .exact ⟨0,ad,rfl,af (λ_ h=>absurd h ad),af (JV _ _)⟩
   obtain ⟨k,hk,rfl,Tm,HB⟩:=hrel;have mz:=af (qR.o.below HB.o);have q1:=mz.o.c1;have q2:=mz.o.c2;by_cases lu:k<i
   .have fg:(k:Int)<i:=ad;have q4:=(mz.o.row.cellAt k ad).trans (mz.o.fits k (by have:=HD.o;omega));obtain ⟨e_,ki,qx⟩:=ri.o k lu;obtain ⟨_,_,y,FZ,hy,hyp,hyb,g0,g1,g2,g3⟩:=mz.o.term.get tK;cases FZ;obtain ⟨yh,yc,wO⟩:=y;obtain ⟨kY,lC,lk,kZ,lD,lq,rfl,rfl⟩:=hy.form;obtain rfl:wO=yp:=hyp.trans jA.o.symm;obtain ⟨_,_,z,FZ,hz,Hn,hzb,z0,z1,z2,z3⟩:=mz.o.term.get (show k<L.length by omega);cases FZ;obtain ⟨zh,zc,zp⟩:=z;obtain ⟨az1,nz1,dz1,az2,nz2,dz2,rfl,rfl⟩:=hz.form;dsimp only at g0 g1 g2 g3 z0 z1 z2 z3;change zp=_ at Hn;rw [<- Hn] at e_;have Kk:=(pg zp).1 (HV.o _ (by rw [Hn];exact dI aR));have z5:=Kk.wf.per;have z6:zp.period<=1099511627776:=Kk.per;have hgb:=oA (a:=wO.period) (b:=zp.period) p0;have Iz:=λW=>Al wO.period zp.period W ad ad ad ad;have rk:Hid ((r-(done.getD k (0,0)).2) % ((Int.gcd wO.period (done.getD k (0,0)).1:Nat):Int)=0->CJ done wO.period r (k+1)):=af Tm.o.succ;have DH:Hid (H_ done wO.period r->(r-(done.getD k (0,0)).2) % ((Int.gcd wO.period (done.getD k (0,0)).1:Nat):Int)=0):=af λh=>Y4.1 h k (by have:=HD.o;omega);rw [e_] at rk DH;generalize ((Int.gcd wO.period zp.period:Nat):Int)=G at *;generalize (done.getD k (0,0)).2=d2 at *;have kt:(r-d2).tmod G=0↔(r-d2) % G=0:=by
     constructor
     .exact λh=>NA (Int.dvd_of_tmod_eq_zero h)
     exact λh=>q8o (NB h)
    by_cases ha:(r-d2) % G=0
    .have hT:=kt.2 ha;have HN:=af (rk.o ha);clear kt ha hy hz e_ Kk hyp Hn;go_wp2_with fail;go_quiet ((go_at_call 176;(first|exact VU (Iz _)|exact Jz (Iz _))))
     go_wp2
     go_roundw
     .exact ⟨k+1,ad,by go_num,HN,af (Below.drewN HB.o _)⟩
     simp [intOf];omega
    have hT:(r-d2).tmod G≠0:=λh=>ha (kt.1 h);have Mi:Hid (¬ SP done wO ((L.map PV.p).drop (i+1)) c):=af λh=>ha (DH.o (by have:=h.1;rwa [B9.o] at this));clear kt ha hy hz e_ Kk hyp Hn;go_wp2_with fail;go_quiet ((go_at_call 176;(first|exact VU (Iz _)|exact Jz (Iz _))))
    go_wp2
    go_roundw
    .exact ⟨j+1,ys,ad,by go_num,af (λq hq=>by
     by_cases hqj:q<j
     .exact gO.o q hqj
     obtain rfl:q=j:=ad;rw [wV.o];exact Mi.o),af (mz.o.below (Below.drewN (JV _ _) _)),af (World.grownBy.trans' HG.o (World.grownBy.of_below ((bm.o.trans ((Below.drewN HB.o _).mono bm.o.size))) _))⟩
    simp [intOf];omega
   obtain rfl:k=i:=ad;have q5:=(mz.o.row.cellAt k ad);have yG:ys.length=L.length:=by have:=mz.o.row.1;omega
   rw [U2 ad] at q5;have q6:=mz.o.row.frozenAt k;have hgr:wr.grownBy (wr.setCell ⟨g,k,none⟩ (.int .i64 r)) (some g):=World.grownBy.set' ⟨rfl,rfl,rfl,TZ _,λ_ _ _=>rfl⟩ _;have HFD:Hid (Fits (ys.set k (.int .i64 r)) (done ++ [(yp.period,r)])):=af (by have h:=mz.o.fits.snoc (a:=(yp.period,r)) (by rw [HD.o];omega);rwa [HD.o] at h);have HST:=af (mz.o.grow hgr hF h1 h2 h3 (mz.o.row.stored k (.int .i64 r)).1 HFD.o);have Ex:=IH.o (k+1) (done ++ [(yp.period,r)]) _ _ (by have:=HI.o;omega) (by simp [HD.o]) (λq hq=>by
    by_cases hqk:q<k
    .have h:=ri.o q hqk;have e:(done ++ [(yp.period,r)]).getD q (0,0)=done.getD q (0,0):=by rw [VS,M_ (by have:=HD.o;omega),<- VS]
     rw [e];exact h
    obtain rfl:q=k:=ad;have e:(done ++ [(yp.period,r)]).getD q (0,0)=(yp.period,r):=by rw [VS,ND (by have:=HD.o;omega),HD.o];simp
    rw [e];exact ⟨by rw [<- jA.o],ad,ad⟩) HST.o
   rw [show ((k+1:Nat):Int)=(k:Int)+1 from by omega] at Ex;have q1f:Hid (H_ done yp.period r):=af (Y4.2 (by rw [HD.o];exact Tm.o));have q5u:=af (World.grownBy.trans' HG.o (World.grownBy.of_below (bm.o.trans (HB.o.mono bm.o.size)) _));have q7:=HST.o.c3;have q8:=HST.o.c1;clear hgr;go_wp2_with (go_at_call 182;refine Ex.mono ?_;rintro e w2 ⟨bb,zs,rfl,jR,Ge,hg2⟩;have TF:=af jR;have ie:=af Ge;have mC:=af hg2;clear jR Ge hg2;cases bb)
   .
    go_roundw
    .exact ⟨j+1,zs,ad,by go_num,af (λq hq=>by
     by_cases hqj:q<j
     .exact gO.o q hqj
     obtain rfl:q=j:=ad;rw [wV.o];rintro ⟨h7,h8⟩;rw [B9.o] at h8;exact absurd h8 (by simpa using TF.o)),af ⟨ie.o.term,ie.o.c1,ie.o.c2,ie.o.c3,ie.o.row,ie.o.fits.pre⟩,af (World.grownBy.trans' (World.grownBy.set' q5u.o _) mC.o)⟩
    simp [intOf];omega
   
   try rw [QP]
   go_ret;refine ⟨true,zs,rfl,?_,⟨ie.o.term,ie.o.c1,ie.o.c2,ie.o.c3,ie.o.row,ie.o.fits.pre⟩,World.grownBy.trans' (World.grownBy.set' q5u.o _) mC.o⟩;refine ⟨λ_=>(Yu aR).2 ⟨c,?_,?_⟩,λ_=>rfl⟩
   .rw [<- jA.o];exact HJ.o
   rw [<- jA.o];exact ⟨by rw [B9.o];exact q1f.o,by rw [B9.o];exact TF.o.1 (by first|rfl|trivial|simp)⟩
  obtain rfl:j=xp.cycle.length:=ad;go_wp2_with fail;try rw [QP]
  go_ret;refine ⟨false,ys,rfl,⟨λh=>absurd h aG,λh=>?_⟩,BP.o,HG.o⟩;obtain ⟨c,hc1,hc2⟩:=(Yu aR).1 h;rw [<- jA.o] at hc1 hc2;obtain ⟨q,hq,rfl⟩:=MA.1 hc1;exact absurd (by rw [VS,U2 hq];exact hc2) (gO.o q hq)
theorem Ints.lt (h:Ints W v l) (hl:l≠[]) (hk:v.ownBlock=some k):k<W.heap.size:=by
 obtain ⟨⟨a,c,rfl,h1,h2,h3⟩,h4,h5⟩:=h;rcases h3 with h3|⟨b,o,rfl,hc⟩
 .exact absurd h3 hl
 simp [Value.ownBlock] at hk;subst hk;exact N8 W _ (hc 0 (YA.2 hl))
theorem bD.lt {F:Nat->Prop} {x:PV} (h:bD W F x):bD W (λb=>F b/\b<W.heap.size) x:=
 ⟨h.is,h.fr,h.pe,λe k hk=>⟨h.bh e k hk,h.is.hd.lt e hk⟩,λe k hk=>⟨h.bc e k hk,h.is.cy.lt e hk⟩⟩
theorem b7.lt {F:Nat->Prop} (h:b7 W F v n cs):b7 W (λb=>F b/\b<W.heap.size) v n cs:=by
 obtain ⟨a,c,rfl,h1,h2,h3⟩:=h;refine ⟨a,c,rfl,h1,h2,h3.imp id ?_⟩;rintro ⟨b,o,rfl,hb,hl,hc⟩;exact ⟨b,o,rfl,⟨hb,hl⟩,hl,hc⟩
theorem gR.lt {F:Nat->Prop} (h:gR W F v L):gR W (λb=>F b/\b<W.heap.size) v L:=⟨h.row.lt,h.len,λx hx=>(h.all x hx).lt⟩
theorem bK.lt {F:Nat->Prop} (h:bK W F v t):bK W (λb=>F b/\b<W.heap.size) v t:=by
 obtain ⟨L,e,g⟩:=h;exact ⟨L,e,g.lt⟩
theorem cI.lt {F:Nat->Prop} {L:List (Value × List Per)} (h:cI W F v L):cI W (λb=>F b/\b<W.heap.size) v L:=⟨h.row.lt,h.len,λx hx=>(h.all x hx).lt⟩
theorem aF.lt {F:Nat->Prop} (h:aF W F v m):aF W (λb=>F b/\b<W.heap.size) v m:=by
 obtain ⟨L,e,g⟩:=h;exact ⟨L,e,g.lt⟩
theorem TV.wf (h:TV t):∀ p∈t,p.WF:=λp hp=>((pg p).1 (h p hp)).wf
theorem sl_ (F:Nat->Prop) (v:Value) (L:List PV) (w w3:World) (xs:List Value) (hv:TV (L.map PV.p)) (hT:gR w (λb=>F b/\b<w.heap.size) v L) (hb:Below w.heap.size w w3) (hs:w.heap.size+1<w3.heap.size)
  (hc:w3.cell? ⟨w.heap.size,0,none⟩=some v) (ho:w3.ownsRow (w.heap.size+1) 3 1 (.slice (some ⟨w.heap.size+1,0,none⟩) L.length L.length) L.length xs) :
  Calls Tryz.prog 182 #[.int .i64 0,.pointer (some ⟨w.heap.size,0,none⟩),.pointer (some ⟨w3.heap.size,0,none⟩),.pointer (some ⟨w3.heap.size+1,0,none⟩)]
   ((w3.alloc (.cells #[.slice (some ⟨w.heap.size+1,0,none⟩) L.length L.length] 35)).alloc (.cells #[.func (.func 182) #[] #[.pointer (some ⟨w.heap.size,0,none⟩),.pointer (some ⟨w3.heap.size,0,none⟩),.pointer (some ⟨w3.heap.size+1,0,none⟩)]] 168))
   λe w'=>∃ b,e=.returned (.bool b)/\(b=true↔mo (L.map PV.p))/\Below w.heap.size w w':=by
 have Qb:s8 (w.heap.size+1) (λb=>F b/\b<w.heap.size) v L w.heap.size w3.heap.size (w3.heap.size+1) []
   ((w3.alloc (.cells #[.slice (some ⟨w.heap.size+1,0,none⟩) L.length L.length] 35)).alloc (.cells #[.func (.func 182) #[] #[.pointer (some ⟨w.heap.size,0,none⟩),.pointer (some ⟨w3.heap.size,0,none⟩),.pointer (some ⟨w3.heap.size+1,0,none⟩)]] 168)) xs:=by
  refine ⟨hT.keep (aP.below ((Ea (Ea hb _) _))) (Ea (Ea hb _) _).size,dW (dW hc _) _,dW ?_ _,?_,(ho.alloc _).alloc _,λk hk=>absurd hk aj⟩
  .exact ((ag.new _ _ _).cells 0).1
  have h:=((ag.at (w:=w3.alloc (.cells #[.slice (some ⟨w.heap.size+1,0,none⟩) L.length L.length] 35)) (b:=w3.heap.size+1) (c:=#[.func (.func 182) #[] #[.pointer (some ⟨w.heap.size,0,none⟩),.pointer (some ⟨w3.heap.size,0,none⟩),.pointer (some ⟨w3.heap.size+1,0,none⟩)]]) (t:=168) (by rw [U7])).cells 0).1;exact h
 have h:=sk_ (w.heap.size+1) _ v L w.heap.size w3.heap.size (w3.heap.size+1) ad ad ad ad hv L.length 0 [] xs _ ad rfl (λk hk=>ad) Qb;refine h.mono ?_;rintro e w' ⟨b,zs,rfl,jR,-,hg⟩;refine ⟨b,rfl,?_,(Ea (Ea hb _) _).trans (World.grownBy.below' hg ad (by simp [U7];omega))⟩;rw [jR,List.drop_zero];exact Zm hv.wf
theorem Xn (F:Nat->Prop) (v:Value) (t:List Per) (w:World) (ht:bK w F v t) (hv:TV t) :
  Calls Tryz.prog 135 #[v] w λe w'=>∃ b,e=.returned (.bool b)/\(b=true↔mo t)/\Below w.heap.size w w':=by
 obtain ⟨L,rfl,hL⟩:=ht;obtain ⟨a1,OL,rfl,hx1,hx2,_⟩:=hL.row.is;have fA:=hL.len;have HRC:=af (Zm hv.wf);have HT:=λW (h:Below w.heap.size w W)=>(hL.lt.keep (aP.below h) h.size);have HV:=af hv;have xj:=af HT;obtain ⟨bi,pw,kJ,jP,hby⟩:=xJ;clear hL HT hv
 go_in
 go_wp2_with (first|(at_make;refine q8h _ rfl _ _ 35 rfl (w.heap.size+1) 3 bi (.int .i64 0) 1 Tryz.underlying35 pw kJ jP .i64 .i64 _ _ L.length rfl rfl rfl rfl (by rw [hby];omega) (by unfold maxLen;omega) aj ?_;intro w3 cY cW;have hb3:Below w.heap.size w w3:=(Below.trans (Ea (Er w) _) ((JV _ _).grown cW aj (λk e=>by cases e))))|(go_at_call 182;have hs3:=(cY.lt _ rfl).2;have hc3:=cW.cell ((ag.new w _ _).cells 0).1 aj;rw [U7] at cY hs3;refine (sl_ F _ L w w3 _ HV.o (xj.o w (Er w)) hb3 hs3 hc3 cY).mono ?_;rintro e w4 ⟨b,rfl,hb4⟩))
 go_ret;exact ⟨b,rfl,hb4⟩
theorem ut_ {n:Int} (hw:∀ p∈t,p.WF) (h:ji (nH t t.length 0) 0 n b):jG t↔b=false/\¬ mo t:=by
 by_cases hne:t=[]
 .subst hne;exact ⟨λh=>absurd (λp hp=>by simp at hp) (h 0),λ⟨_,h⟩=>absurd ⟨0,aG,λp hp=>by simp at hp⟩ h⟩
 rw [sg_];refine and_congr ?_ MT;have h2:=h.congr (T:=λx=>bj t x/\x<f_ t) λx _=>(q7i hne hw).symm;rcases h2 with ⟨rfl,h1,h3,_⟩|⟨rfl,rfl,h1⟩
 .exact ⟨λg=>absurd h3.1 (g n h3.2),λg=>absurd g aG⟩
 exact ⟨λ_=>rfl,λ_ x hx hm=>h1 x (WJ hne hm) ⟨hm,hx⟩⟩
theorem q7j (F:Nat->Prop) (v:Value) (t:List Per) (w:World) (ht:bK w F v t) (hv:TV t) :
  Calls Tryz.prog 109 #[v] w λe w'=>∃ b,e=.returned (.bool b)/\(b=true↔jG t)/\Below w.heap.size w w':=by
 have H1:=XG F v t 0 w ht hv (by constructor <;> decide);have H2:=λW (h:Below w.heap.size w W)=>Xn F v t W (ht.ext h) hv;have HW:=af hv.wf;obtain ⟨L,rfl,hL⟩:=ht;obtain ⟨a1,OL,rfl,hx1,hx2,_⟩:=hL.row.is;clear hL hv
 go_in
 go_wp2_with (first|(go_at_call 134;refine H1.mono ?_;rintro e w1 ⟨n,b,rfl,hE,hb1⟩;have HE:=af hE;clear hE;cases b)|(go_at_call 135;refine (H2 _ xE).mono ?_;rintro e w2 ⟨r,rfl,hR,hb2⟩;have HR:=af hR;clear hR;cases r))
 all_goals go_ret
 all_goals
  refine ⟨_,rfl,?_,xE⟩;rw [ut_ HW.o HE.o]
  first|(simp;done)|(have:=HR.o;simp at this ⊢;exact this)
theorem O2 {t:TypeId}:∀ (vs:List Value) (o:Nat) (w:World) (cur:Array Value),ag w g cur t->o+vs.length<=cur.size->
  ∃ cur',ag (w.setCells g o vs) g cur' t/\cur'.size=cur.size/\(∀ i,i<cur.size->cur'[i]? = if o<=i/\i<o+vs.length then vs[i-o]? else cur[i]?)/\w.grownBy (w.setCells g o vs) (some g)
 | [],o,w,cur,h,_=>⟨cur,h,rfl,λi hi=>by rw [if_neg aj],⟨rfl,rfl,rfl,TZ _,λ_ _ _=>rfl⟩⟩
 | v :: vs,o,w,cur,h,hl=>by
  rw [MH] at hl;have h1:ag (w.setCell ⟨g,o,none⟩ v) g (cur.setIfInBounds o v) t:=bE o v h;obtain ⟨cur',g1,g2,g3,g4⟩:=O2 vs (o+1) _ _ h1 (by rw [q8i];omega);refine ⟨cur',g1,by rw [g2,q8i],λi hi=>?_,World.grownBy.trans' (World.grownBy.set' ⟨rfl,rfl,rfl,TZ _,λ_ _ _=>rfl⟩ v) g4⟩;rw [g3 i (by rw [q8i];exact hi)];by_cases h5:o=i
  .subst h5;rw [if_neg ad,if_pos aj,Array.getElem?_setIfInBounds_self_of_lt hi];simp
  rw [Array.getElem?_setIfInBounds_ne h5];by_cases h6:o+1<=i/\i<o+1+vs.length
  .rw [if_pos h6,if_pos aR];obtain ⟨k,rfl⟩:∃ k,i=o+1+k:=⟨i-(o+1),ad⟩;rw [show o+1+k-(o+1)=k by omega,show o+1+k-o=k+1 by omega,List.getElem?_cons_succ]
  rw [if_neg h6,if_neg aR]
theorem WH {i:Nat} {e:TypeId} (h:w.ownsRow base e sz (.slice (some ⟨g,0,none⟩) n cap) n xs) (hi:i<n) (zs:List Value) (hz:zs.length=sz) :
  ((
   w.setCells g (i*sz) (xs.drop ((i+1)*sz))).setCells g ((n-1)*sz) zs).ownsRow base e sz (.slice (some ⟨g,0,none⟩) (n-1) cap) (n-1) (xs.take (i*sz) ++ xs.drop ((i+1)*sz))/\
   w.grownBy ((w.setCells g (i*sz) (xs.drop ((i+1)*sz))).setCells g ((n-1)*sz) zs) (some g):=by
 obtain ⟨hl,h|⟨g',cap',cur,he,hb,hg,GO,hcm,hcs,ht⟩⟩:=h
 .cases h.1
 cases he;obtain ⟨m,rfl⟩:∃ m,n=m+1:=⟨n-1,ad⟩;have hb1:i*sz<=m*sz:=q8z _ ad;have hb2:(m+1)*sz<=cap*sz:=q8z _ GO;rw [Q_] at hl ht hb2;rw [Q_,show m+1-1=m from by omega];have hmm:(m+1-1)*sz=m*sz:=by rw [show m+1-1=m from by omega]
 generalize i*sz=a at *;generalize hc:m*sz=c at *;have sj:(xs.drop (a+sz)).length=c-a:=by rw [S2];omega
 obtain ⟨q2z,a1,a2,a3,a4⟩:=O2 (xs.drop (a+sz)) a w cur hg ad;obtain ⟨q5a,b1,b2,b3,b4⟩:=O2 zs c _ q2z a1 ad;refine ⟨⟨by rw [MB,MO,sj];omega,.inr ⟨g,cap,q5a,rfl,hb,b1,ad,hcm,ad,?_⟩⟩,World.grownBy.trans' a4 b4⟩;rw [hc];refine List.ext_getElem? λk=>?_;by_cases hk:k<c
 .rw [LJ hk,q7m,b3 k ad,if_neg ad,a3 k ad];by_cases hka:k<a
  .rw [if_neg ad,M_ (by rw [MO];omega),LJ hka,<- ht,LJ ad,q7m]
  rw [if_pos ad,ND (by rw [MO];omega),MO,EB ad]
 rw [DS (by rw [MO];omega),DS (by rw [MB,MO,sj];omega)]
theorem We {P:Program} (w:World) (t e ty:TypeId) (z:Value) (ht:P.underlying t=some (.slice e)) (hv:∀ w,(zeroValue e).run P w=.ok z w) (h1:∀ v∈z.cells.toList,v.oneCell'=true) (b o c:Nat)
  (hc:∀ j,j<z.cells.size->(w.cell? ⟨b,o+j,none⟩).isSome=true/\w.frozen? ⟨b,o+j,none⟩=false) :
  (Builtin.clear_ #[t] ty #[.slice (some ⟨b,o,none⟩) 1 c]).run P w=.ok (.tuple #[]) (w.setCells b o z.cells.toList):=by
 have hzc:(Builtin.zeroCells z.cells 1).toList=z.cells.toList:=by
  refine QB (by simp [Builtin.zeroCells]) λi g1 g2=>?_;have h3:i<z.cells.size:=by simpa using g2
  simp [Builtin.zeroCells,ZV h3,h3]
 have hst:=run_storeCells_cells (P:=P) b o z.cells.toList 0 w (λj hj=>(hc j (by simpa using hj)).1) (λj hj=>(hc j (by simpa using hj)).2) h1;simp only [Nat.add_zero] at hst;simp [Builtin.clear_,run_underlying ht,hv,hzc,hst]
theorem Am:∃ i,Tryz.prog.info? 80=some i/\i.zero=some (.agg #[.slice none 0 0,.int .i64 0,.int .i64 0,.slice none 0 0])/\i.size=4/\i.bytes=64:=by
 have h:(Tryz.prog.info? 80).map (λi=>(i.zero,i.size,i.bytes))=some (some (.agg #[.slice none 0 0,.int .i64 0,.int .i64 0,.slice none 0 0]),4,64):=by kernel_rfl
 obtain ⟨i,hi,h1,h2,h3⟩:=info_parts h;exact ⟨i,hi,h1,h2,h3⟩
theorem Kx:∃ i,Tryz.prog.info? 78=some i/\i.zero=some (.slice none 0 0)/\i.size=1/\i.bytes=24:=by
 have h:(Tryz.prog.info? 78).map (λi=>(i.zero,i.size,i.bytes))=some (some (.slice none 0 0),1,24):=by kernel_rfl
 obtain ⟨i,hi,h1,h2,h3⟩:=info_parts h;exact ⟨i,hi,h1,h2,h3⟩
theorem RO {P:Program} {t:TypeId} {i:TypeInfo} {z:Value} (h:P.info? t=some i) (hz:i.zero=some z) (w:World):(zeroValue t).run P w=.ok z w:=by
 simp [zeroValue,typeInfo,h,hz]
theorem qk_ (base g n cap i:Nat) (xs:List Value) (w:World) (h:w.ownsRow base 80 4 (.slice (some ⟨g,0,none⟩) n cap) n xs) (hi:i<n) (h1c:∀ u∈xs,u.oneCell'=true) :
  Calls Tryz.prog 189 #[.slice (some ⟨g,0,none⟩) n cap,.int .i64 i,.int .i64 (i+1)] w λe w'=>e=.returned (.slice (some ⟨g,0,none⟩) (n-1) cap)/\w'.ownsRow base 80 4 (.slice (some ⟨g,0,none⟩) (n-1) cap) (n-1) (xs.take (i*4) ++ xs.drop ((i+1)*4))/\w.grownBy w' (some g):=by
 obtain ⟨bi,pw,kJ,jP,hby⟩:=Am;obtain ⟨n_,GO,hcm⟩:xs.length=n*4/\n<=cap/\cap<=9223372036854775807:=by
  obtain ⟨h1,h2|⟨_,_,_,he,_,_,h3,h4,_⟩⟩:=h
  .cases h2.1
  cases he;exact ⟨h1,h3,h4⟩
 have hcl:∀ j,j<n*4->(w.drew.cell? ⟨g,j,none⟩).isSome=true/\w.drew.frozen? ⟨g,j,none⟩=false:=λj hj=>
  ⟨by have h2:=h.drew.cellAt j hj;rw [U2 ad] at h2;rw [h2];rfl,h.drew.frozenAt j⟩
 obtain ⟨news,hnews⟩:∃ news,news=xs.drop ((i+1)*4):=⟨_,rfl⟩;have hlen:news.length=(n-(i+1))*4:=by rw [hnews,S2,n_];omega
 obtain ⟨A,hA,Bq⟩:∃ A:Addr,(if cap=i+1 then some (⟨g,0,none⟩:Addr) else some ⟨g,(i+1)*4,none⟩)=some A/\Hid (∀ t u,news[t]? = some u->w.drew.cell? (A.add t)=some u):=by
  by_cases hc:cap=i+1
  .refine ⟨⟨g,0,none⟩,by simp [hc],af λt u hu=>?_⟩;have h0:news.length=0:=by rw [hlen];omega
   rw [List.length_eq_zero_iff.1 h0] at hu;simp at hu
  refine ⟨⟨g,(i+1)*4,none⟩,by simp [hc],af λt u hu=>?_⟩;have ht:t<(n-(i+1))*4:=by
   have:=(GD.1 hu).1;omega
  rw [hnews,q8u] at hu;rw [Addr.add_lit];exact (h.drew.cellAt _ ad).trans hu
 have s1:=af hlen;have s2:Hid (∀ u∈news,u.oneCell'=true):=af λu hu=>h1c u (by rw [hnews] at hu;exact rX hu);have s3:Hid (∀ t,t<news.length->(w.drew.cell? ⟨g,0+i*4+t,none⟩).isSome=true/\w.drew.frozen? ⟨g,0+i*4+t,none⟩=false):=af λt ht=>hcl _ ad;have iL:=af (WH h.drew hi [.slice none 0 0,.int .i64 0,.int .i64 0,.slice none 0 0] rfl);obtain ⟨W1,hW1⟩:∃ W1,W1=w.drew.setCells g (0+i*4) news:=⟨_,rfl⟩;have lU:∀ ty c,(Builtin.clear_ #[78] ty #[.slice (some ⟨g,(n-1)*4,none⟩) 1 c]).run Tryz.prog W1=.ok (.tuple #[]) (W1.setCells g ((n-1)*4) [.slice none 0 0,.int .i64 0,.int .i64 0,.slice none 0 0]):=
  λty c=>We W1 78 80 ty _ rfl (RO pw kJ) (by simp [Value.cells];try decide) g ((n-1)*4) c (λj hj=>by
   have CR:j<4:=hj;rw [hW1];refine ⟨?_,by rw [World.frozen?_setCells];exact (hcl _ ad).2⟩;by_cases hin:(n-1)*4+j<i*4+news.length
   .rw [show (n-1)*4+j=0+i*4+((n-1)*4+j-i*4) by omega,World.cell?_setCells_in g _ _ _ (λt ht=>(s3.o t ht).1) _ ad];rfl
   rw [World.cell?_setCells_out g _ _ _ _ (λ_ _=>.inr aR)];exact (hcl _ ad).1)
 have hW:=af hW1;have HN:=af hnews;clear hnews hlen h h1c n_ hcl hW1;rw [show (i:Int)+1=((i+1:Nat):Int) from rfl];obtain ⟨j,hj⟩:∃ j,j=i+1:=⟨_,rfl⟩;have Qe:∀ ty,(Builtin.clear_ #[78] ty #[.slice (some ⟨g,(i+(n-j))*4,none⟩) (n-(i+(n-j))) (cap-(i+(n-j)))]).run Tryz.prog W1=.ok (.tuple #[]) (W1.setCells g ((n-1)*4) [.slice none 0 0,.int .i64 0,.int .i64 0,.slice none 0 0]):=λty=>by
  rw [show i+(n-j)=n-1 by omega,show n-(n-1)=1 by omega];first|exact lU ty _|(have h:=lU ty (cap-(n-1));rw [QJ] at h ⊢;exact h)
 rw [<- hj] at hA ⊢;have SH:Hid (news.length=(n-j)*4):=af (by rw [hj];exact s1.o);have hic:i<=cap:=ad;have hjc:j<=cap:=ad;have hjn:j<=n:=ad;have gq:i<j:=ad;have HJ:=af hj;clear hj lU
 go_in
 go_wp2_with fail
 go_region_law (refine step_append_room rfl (.tmp 22) (.tmp 25) 78 rfl 80 bi 4 rfl pw jP g 0 i cap (by simp [Act.eval,Act.put]) A (n-j) (cap-j) news (by simp [Act.eval,Act.put]) SH.o Bq.o s2.o ad s3.o ?_;rw [<- hW.o])
 go_wp2
 go_ret;have hj:=HJ.o;have e1:i+(n-j)=n-1:=ad;refine ⟨by rw [e1];rfl,?_⟩;have h1:=iL.o;rw [hW.o,HN.o,S1,hj];try simp only [QJ] at h1 ⊢
 exact ⟨h1.1,World.grownBy.trans' (World.grownBy.drewR w _) h1.2⟩
theorem ql_ (base g n cap i:Nat) (xs:List Value) (w:World) (h:w.ownsRow base 78 1 (.slice (some ⟨g,0,none⟩) n cap) n xs) (hi:i<n) (h1c:∀ u∈xs,u.oneCell'=true) :
  Calls Tryz.prog 142 #[.slice (some ⟨g,0,none⟩) n cap,.int .i64 i,.int .i64 (i+1)] w λe w'=>e=.returned (.slice (some ⟨g,0,none⟩) (n-1) cap)/\w'.ownsRow base 78 1 (.slice (some ⟨g,0,none⟩) (n-1) cap) (n-1) (xs.take (i*1) ++ xs.drop ((i+1)*1))/\w.grownBy w' (some g):=by
 obtain ⟨bi,pw,kJ,jP,hby⟩:=Kx;obtain ⟨n_,GO,hcm⟩:xs.length=n*1/\n<=cap/\cap<=9223372036854775807:=by
  obtain ⟨h1,h2|⟨_,_,_,he,_,_,h3,h4,_⟩⟩:=h
  .cases h2.1
  cases he;exact ⟨h1,h3,h4⟩
 have hcl:∀ j,j<n*1->(w.drew.cell? ⟨g,j,none⟩).isSome=true/\w.drew.frozen? ⟨g,j,none⟩=false:=λj hj=>
  ⟨by have h2:=h.drew.cellAt j hj;rw [U2 ad] at h2;rw [h2];rfl,h.drew.frozenAt j⟩
 obtain ⟨news,hnews⟩:∃ news,news=xs.drop ((i+1)*1):=⟨_,rfl⟩;have hlen:news.length=(n-(i+1))*1:=by rw [hnews,S2,n_];omega
 obtain ⟨A,hA,Bq⟩:∃ A:Addr,(if cap=i+1 then some (⟨g,0,none⟩:Addr) else some ⟨g,i+1,none⟩)=some A/\Hid (∀ t u,news[t]? = some u->w.drew.cell? (A.add t)=some u):=by
  by_cases hc:cap=i+1
  .refine ⟨⟨g,0,none⟩,by simp [hc],af λt u hu=>?_⟩;have h0:news.length=0:=by rw [hlen];omega
   rw [List.length_eq_zero_iff.1 h0] at hu;simp at hu
  refine ⟨⟨g,(i+1)*1,none⟩,by simp [hc],af λt u hu=>?_⟩;have ht:t<(n-(i+1))*1:=by
   have:=(GD.1 hu).1;omega
  rw [hnews,q8u] at hu;rw [Addr.add_lit];exact (h.drew.cellAt _ ad).trans hu
 have s1:=af hlen;have s2:Hid (∀ u∈news,u.oneCell'=true):=af λu hu=>h1c u (by rw [hnews] at hu;exact rX hu);have s3:Hid (∀ t,t<news.length->(w.drew.cell? ⟨g,0+i*1+t,none⟩).isSome=true/\w.drew.frozen? ⟨g,0+i*1+t,none⟩=false):=af λt ht=>hcl _ ad;have iL:=af (WH h.drew hi [.slice none 0 0] rfl);obtain ⟨W1,hW1⟩:∃ W1,W1=w.drew.setCells g (0+i*1) news:=⟨_,rfl⟩;have lU:∀ ty c,(Builtin.clear_ #[55] ty #[.slice (some ⟨g,(n-1)*1,none⟩) 1 c]).run Tryz.prog W1=.ok (.tuple #[]) (W1.setCells g ((n-1)*1) [.slice none 0 0]):=
  λty c=>We W1 55 78 ty _ rfl (RO pw kJ) (by simp [Value.cells];try decide) g ((n-1)*1) c (λj hj=>by
   have CR:j<1:=hj;rw [hW1];refine ⟨?_,by rw [World.frozen?_setCells];exact (hcl _ ad).2⟩;by_cases hin:(n-1)*1+j<i*1+news.length
   .rw [show (n-1)*1+j=0+i*1+((n-1)*1+j-i*1) by omega,World.cell?_setCells_in g _ _ _ (λt ht=>(s3.o t ht).1) _ ad];rfl
   rw [World.cell?_setCells_out g _ _ _ _ (λ_ _=>.inr aR)];exact (hcl _ ad).1)
 have hW:=af hW1;have HN:=af hnews;clear hnews hlen h h1c n_ hcl hW1;rw [show (i:Int)+1=((i+1:Nat):Int) from rfl];obtain ⟨j,hj⟩:∃ j,j=i+1:=⟨_,rfl⟩;have Qe:∀ ty,(Builtin.clear_ #[55] ty #[.slice (some ⟨g,i+(n-j),none⟩) (n-(i+(n-j))) (cap-(i+(n-j)))]).run Tryz.prog W1=.ok (.tuple #[]) (W1.setCells g ((n-1)*1) [.slice none 0 0]):=λty=>by
  rw [show i+(n-j)=n-1 by omega,show n-(n-1)=1 by omega];first|exact lU ty _|(have h:=lU ty (cap-(n-1));rw [QJ] at h ⊢;exact h)
 rw [<- hj] at hA ⊢;have SH:Hid (news.length=(n-j)*1):=af (by rw [hj];exact s1.o);have hic:i<=cap:=ad;have hjc:j<=cap:=ad;have hjn:j<=n:=ad;have gq:i<j:=ad;have HJ:=af hj;clear hj lU
 go_in
 go_wp2_with fail
 go_region_law (refine step_append_room rfl (.tmp 22) (.tmp 25) 55 rfl 78 bi 1 rfl pw jP g 0 i cap (by simp [Act.eval,Act.put]) A (n-j) (cap-j) news (by simp [Act.eval,Act.put]) SH.o Bq.o s2.o ad s3.o ?_;rw [<- hW.o])
 go_wp2
 go_ret;have hj:=HJ.o;have e1:i+(n-j)=n-1:=ad;refine ⟨by rw [e1];rfl,?_⟩;have h1:=iL.o;rw [hW.o,HN.o,S1,hj];try simp only [QJ] at h1 ⊢
 exact ⟨h1.1,World.grownBy.trans' (World.grownBy.drewR w _) h1.2⟩
end
end Go.Proofs.YtbmgmlbmgogeaaaGreat
namespace Kal
section
theorem dU.of (h:p.WF) (hf:p.frm<=9) (hd:p.period∣27720):dU 0 p:=⟨h,λn hn=>hn.1,ad,hd⟩
theorem vz {m n:Int} (h0:0<=m) (h1:m<n) (hd:n∣27720):eR 0 (ev m n):=⟨dU.of (SR h0 h1) (by show (0:Int)<=9;omega) hd,RZ h0 h1⟩
theorem x1:eR 0 (ev 1 4):=vz ad ad ⟨6930,aG⟩
theorem x2:eR 0 (ev 3 6):=vz ad ad ⟨4620,aG⟩
theorem x3:eR 0 (ev 2 6):=vz ad ad ⟨4620,aG⟩
theorem x4:eR 0 (ev 0 2):=vz ad ad ⟨13860,aG⟩
theorem x5:eR 0 (ev 0 6):=vz ad ad ⟨4620,aG⟩
theorem ok_one (h:t.length<=4):Ao [t]:=⟨aj,λu hu=>by simp at hu;subst hu;exact h⟩
def tri:Per:=⟨[0,2,4],5,1,[]⟩
end
end Kal
namespace Go.Proofs.YtbmgmlbmgogeaaaGreat
section
open Go.RowKit Go.Maps Kal
structure FV (s:Int) (p:Per):Prop where
 fac:dU s p
 far:p.frm<=1099511627776
theorem FV.valid (h:FV s p):Valid p:=by
 have hw:=h.fac.wf;have hf:=h.fac.frm;have h0:=hw.frm;have hp:=hw.per;have wA:=h.fac.per;have h3:=hw.cyc.length_le (show (0:Int)<=p.period by omega);have h4:(p.head.length:Int)<=9:=by
  by_cases hs:s<=p.frm
  .by_cases h0s:0<=s
   .have hr:aH s p.frm p.head:=⟨hw.head.1,λx hx=>⟨h.fac.low x ((hw.head_mem x).1 hx).2.2,(hw.head.2 x hx).2⟩⟩;have:=hr.length_le hs;omega
   have:=hw.head.length_le h0;omega
  have:p.head=[]:=List.eq_nil_iff_forall_not_mem.2 λx hx=>by
   have h1:=h.fac.low x ((hw.head_mem x).1 hx).2.2;have h2:=(hw.head.2 x hx).2;omega
  rw [this];simp
 exact ⟨hw,h.far,ad,ad⟩
theorem FV.validB (h:FV s p):validB p=true:=(pg p).2 h.valid
theorem FV.canon (h:FV s p):bV (canonC p.mem) p.mem/\FV s (canonC p.mem):=
 ⟨h.fac.canon.1,h.fac.canon.2,ZN (h.fac.canon.1.frm_le h.fac.wf.frm h.fac.wf.per h.fac.wf.pfrom) h.far⟩
theorem Nm {S:Int->Prop} (hs:∀ x,S x->s<=x) (n:Nat):cnt S n<=max (n-s) 0:=by
 induction n with
 | zero=>simp [cnt];omega
 | succ n ih=>
  simp only [cnt]
  split
  .rename_i h;have:=hs _ h;omega
  omega
theorem FV.op (hp:FV s p) (hq:FV s q) {U:Int->Prop} (g:Prop->Prop->Prop) (hU:∀ n,U n↔g (p.mem n) (q.mem n)) (fL:∀ n,U n->s<=n) (h0:∀ n,U n->0<=n) :
  bV (canonC U) U/\FV s (canonC U)/\aV (canonC p.mem).period (canonC q.mem).period<=27720/\cnt U (max (canonC p.mem).frm (canonC q.mem).frm+aV (canonC p.mem).period (canonC q.mem).period).toNat<=1048576:=by
 obtain ⟨ca,fa⟩:=hp.canon;obtain ⟨cb,fb⟩:=hq.canon;have hop:=fa.fac.op fb.fac g (U:=U) (λn=>by rw [hU,ca.mem,cb.mem]) fL h0;have hl:=QV aG hop.2.2.2;have ep:=Ae fa.fac.wf.per fb.fac.wf.per;refine ⟨hop.1,⟨hop.2.1,?_⟩,hl,?_⟩
 .exact ZN (hop.1.frm_le (by have:=fa.fac.wf.frm;omega) ep hop.2.2.1) (by have:=fa.far;have:=fb.far;omega)
 have h1:=Nm fL (max (canonC p.mem).frm (canonC q.mem).frm+aV (canonC p.mem).period (canonC q.mem).period).toNat;have a1:=fa.fac.frm;have b1:=fb.fac.frm;have a0:=fa.fac.wf.frm;omega
theorem FV.and (hp:FV s p) (hq:FV s q):FV s (lK p q):=(hp.op hq And (λn=>MT) (λn h=>hp.fac.low n h.1) (λn h=>h.1.1)).2.1
theorem FV.or (hp:FV s p) (hq:FV s q):FV s (wJ p q):=(hp.op hq Or (λn=>MT) (λn h=>h.elim (hp.fac.low n) (hq.fac.low n)) (λn h=>h.elim (λh=>h.1) (λh=>h.1))).2.1
theorem Ya (s:Int) (h c:Value) (p:Per) (w:World) (hp:cj w h c p) (hv:FV s p):Calls Tryz.prog 98 #[ar h c p.frm p.period] w (nG (canonC p.mem) w):=
 x1_ h c p _ w hp hv.valid hv.canon.1
theorem q2y (s:Int) (h1 c1 h2 c2:Value) (p1 p2:Per) (w:World) (fN:cj w h1 c1 p1) (fk:cj w h2 c2 p2) (v1:FV s p1) (v2:FV s p2) :
  Calls Tryz.prog 188 #[ar h1 c1 p1.frm p1.period,ar h2 c2 p2.frm p2.period] w (nG (lK p1 p2) w):=by
 have h:=v1.op v2 And (λn=>MT) (λn h=>v1.fac.low n h.1) (λn h=>h.1.1);have a:=v1.canon.2.fac.per;have b:=v2.canon.2.fac.per;exact q3z h1 c1 h2 c2 p1 p2 _ _ _ w fN fk v1.valid v2.valid v1.canon.1 v2.canon.1 ad ad ad h.1 h.2.2.2
theorem q5l (s:Int) (h1 c1 h2 c2:Value) (p1 p2:Per) (w:World) (fN:cj w h1 c1 p1) (fk:cj w h2 c2 p2) (v1:FV s p1) (v2:FV s p2) :
  Calls Tryz.prog 141 #[ar h1 c1 p1.frm p1.period,ar h2 c2 p2.frm p2.period] w (nG (wJ p1 p2) w):=by
 have h:=v1.op v2 Or (λn=>MT) (λn h=>h.elim (v1.fac.low n) (v2.fac.low n)) (λn h=>h.elim (λh=>h.1) (λh=>h.1));have a:=v1.canon.2.fac.per;have b:=v2.canon.2.fac.per;exact q1j h1 c1 h2 c2 p1 p2 _ _ _ w fN fk v1.valid v2.valid v1.canon.1 v2.canon.1 ad h.1 h.2.2.2
theorem jC.pv {c:Value} (hp:jC w base h c p) (hv:FV s p):bD w (λb=>base<=b/\b<w.heap.size) ⟨h,c,p⟩:=by
 have h1:=hv.valid;have h2:=h1.wf.frm;have h3:p.frm<=1099511627776:=h1.frm;have h4:=h1.wf.per;have h5:p.period<=1099511627776:=h1.per;exact ⟨hp.is,⟨by show _<=p.frm;omega,by show p.frm<=_;omega⟩,⟨by show _<=p.period;omega,by show p.period<=_;omega⟩,λ_ k hk=>hp.hd.lt k hk,λ_ k hk=>hp.cy.lt k hk⟩
theorem PV.enc_one (x:PV) (hh:x.h.oneCell'=true) (hc:x.c.oneCell'=true):∀ u∈x.enc,u.oneCell'=true:=by
 intro u hu;simp only [PV.enc,U3,UN,or_false] at hu;rcases hu with rfl|rfl|rfl|rfl
 .exact hh
 .rfl
 .rfl
 exact hc
theorem bD.one {F:Nat->Prop} {x:PV} (h:bD w F x):∀ u∈x.enc,u.oneCell'=true:=by
 obtain ⟨xh,xc,xp⟩:=x;obtain ⟨_,_,_,_,_,_,rfl,rfl⟩:=h.form;exact PV.enc_one _ rfl rfl
theorem vg_:∀ {j:Nat},(L.flatMap PV.enc).take (j*4)=(L.take j).flatMap PV.enc:=by
 induction L with
 | nil=>intro j;simp
 | cons x L ih=>
  intro j;cases j with
  | zero=>simp
  | succ j=>rw [List.take_succ_cons,S3,S3,List.take_append,PM (by rw [PV.enc_len];omega),PV.enc_len,show (j+1)*4-4=j*4 by omega,ih]
theorem vf_:∀ {j:Nat},(L.flatMap PV.enc).drop (j*4)=(L.drop j).flatMap PV.enc:=by
 induction L with
 | nil=>intro j;simp
 | cons x L ih=>
  intro j;cases j with
  | zero=>simp
  | succ j=>rw [List.drop_succ_cons,S3,List.drop_append,N5 (by rw [PV.enc_len];omega),PV.enc_len,show (j+1)*4-4=j*4 by omega,ih,L4]
theorem Cs:(L.flatMap PV.enc).length=L.length*4:=by
 induction L with
 | nil=>rfl
 | cons x L ih=>rw [S3,MB,ih,PV.enc_len,MH];omega
theorem t2_:(L.flatMap PV.enc).take (j*4) ++ (L.flatMap PV.enc).drop ((j+1)*4)=(L.eraseIdx j).flatMap PV.enc:=by
 rw [vg_,vf_,<- MC,q7v]
theorem xv_ {x:PV}:∀ {j:Nat},j<L.length->((((L.flatMap PV.enc).set (j*4) x.h).set (j*4+1) (.int .i64 x.p.frm)).set (j*4+2) (.int .i64 x.p.period)).set (j*4+3) x.c=(L.set j x).flatMap PV.enc:=by
 induction L with
 | nil=>intro j h;simp at h
 | cons y L ih=>
  intro j h;cases j with
  | zero=>simp [PV.enc]
  | succ j=>
   have e:∀ (l:List Value) (i:Nat) (v:Value),(y.enc ++ l).set (i+4) v=y.enc ++ l.set i v:=λl i v=>by rw [q7y _ _ (by rw [PV.enc_len];omega),PV.enc_len,Nat.add_sub_cancel]
   rw [S3,List.set_cons_succ,S3,<- ih (by simpa using h),show (j+1)*4=j*4+4 by omega,e,show j*4+4+1=j*4+1+4 by omega,e,show j*4+4+2=j*4+2+4 by omega,e,show j*4+4+3=j*4+3+4 by omega,e]
structure cC (B g cap:Nat) (W:World) (L:List PV):Prop where
 row:W.ownsRow B 80 4 (.slice (some ⟨g,0,none⟩) L.length cap) L.length (L.flatMap PV.enc)
 all:∀ x∈L,bD W (λb=>B<=b/\b≠g) x
 len:L.length<=cap
 cap:cap<=17592186044416
theorem cC.le (h:cC B g cap W L):B<=g/\g<W.heap.size:=h.row.lt g rfl
theorem cC.below (h:cC B g cap W L) (hb:Below W.heap.size W W'):cC B g cap W' L:=
 ⟨h.row.kept (row:=none) (World.grownBy.of_below hb _) (by right;simp [Value.ownBlock]),λx hx=>(h.all x hx).keep (aP.below hb),h.len,h.cap⟩
theorem cC.set (h:cC B g cap W L) (hj:j<L.length) {x:PV} (hx:bD W (λb=>B<=b/\b≠g) x) :
  cC B g cap ((((W.setCell ⟨g,j*4,none⟩ x.h).setCell ⟨g,j*4+1,none⟩ (.int .i64 x.p.frm)).setCell ⟨g,j*4+2,none⟩ (.int .i64 x.p.period)).setCell ⟨g,j*4+3,none⟩ x.c) (L.set j x):=by
 have hg:W.grownBy ((((W.setCell ⟨g,j*4,none⟩ x.h).setCell ⟨g,j*4+1,none⟩ (.int .i64 x.p.frm)).setCell ⟨g,j*4+2,none⟩ (.int .i64 x.p.period)).setCell ⟨g,j*4+3,none⟩ x.c) (some g):=
  World.grownBy.set' (World.grownBy.set' (World.grownBy.set' (World.grownBy.set' ⟨rfl,rfl,rfl,TZ _,λ_ _ _=>rfl⟩ _) _) _) _
 refine ⟨?_,λy hy=>?_,by rw [OF];exact h.len,h.cap⟩
 .rw [OF,<- xv_ hj];exact ((((h.row.stored _ _).1.stored _ _).1.stored _ _).1.stored _ _).1
 refine bD.keep ?_ (aP.grown hg λh=>h.2 rfl);rcases YM hy with hy|rfl
 .exact h.all y hy
 exact hx
theorem cC.erase (h:cC B g cap W L) (hj:j<L.length) (hr:W'.ownsRow B 80 4 (.slice (some ⟨g,0,none⟩) (L.length-1) cap) (L.length-1) ((L.flatMap PV.enc).take (j*4) ++ (L.flatMap PV.enc).drop ((j+1)*4))) (hg:W.grownBy W' (some g)):cC B g cap W' (L.eraseIdx j):=by
 have hl:(L.eraseIdx j).length=L.length-1:=by rw [YD hj]
 refine ⟨by rw [hl,<- t2_];exact hr,λx hx=>(h.all x (Y_ hx)).keep (aP.grown hg λh=>h.2 rfl),by rw [hl];have:=h.len;omega,h.cap⟩
theorem cC.get (h:cC B g cap W L) (hk:k<L.length) :
  bD W (λb=>B<=b/\b≠g) (L.getD k default)/\W.cell? ⟨g,k*4,none⟩=some (L.getD k default).h/\W.cell? ⟨g,k*4+1,none⟩=some (.int .i64 (L.getD k default).p.frm)/\
   W.cell? ⟨g,k*4+2,none⟩=some (.int .i64 (L.getD k default).p.period)/\W.cell? ⟨g,k*4+3,none⟩=some (L.getD k default).c/\∀ i,W.frozen? ⟨g,i,none⟩=false:=by
 have c:=λi (hi:i<4)=>h.row.cellAt (k*4+i) ad;refine ⟨h.all _ (dI hk),(c 0 ad).trans (nA hk rfl),(c 1 ad).trans (nA hk rfl),(c 2 ad).trans (nA hk rfl),(c 3 ad).trans (nA hk rfl),λi=>h.row.frozenAt i⟩
theorem cC.term (h:cC B g cap W L):gR W (λb=>B<=b) (.slice (some ⟨g,0,none⟩) L.length cap) L:=by
 refine ⟨⟨_,_,rfl,h.len,NN h.cap ad,.inr ⟨g,0,rfl,h.le.1,h.le.2,λi u hi=>?_⟩⟩,NN h.len h.cap,λx hx=>(h.all x hx).mono λb hb=>hb.1⟩;rw [S1];have:=(GD.1 hi).1;rw [Cs] at this;exact (h.row.cellAt i this).trans hi
theorem cC.one (h:cC B g cap W L):∀ u∈L.flatMap PV.enc,u.oneCell'=true:=λu hu=>by
 obtain ⟨x,hx,hu⟩:=M7.1 hu;exact (h.all x hx).one u hu
theorem WZ (W:World) (F:Nat->Prop):bD W F default:=
 ⟨⟨Ints.nil W,Ints.nil W⟩,by constructor <;> decide,by constructor <;> decide,λh=>absurd rfl h,λh=>absurd rfl h⟩
theorem mr_ {P:Program} {a:Act} {Q:Exit->Act->World->Prop} {x y rest:Code} (l:Nat) (J:Act->World->Prop) (μ:Act->World->Nat) (hf:findLabel (x.seq (y.seq ((Code.label l).seq rest))) l=some (Code.skip.seq rest))
  (first:x.wp P (Exit.then (λa w=>y.wp P (Exit.then J (Exit.jump l J Q)) a w) (Exit.jump l J Q)) a w)
  (pass:∀ a w,J a w->rest.wp P (Exit.jump l (λa' w'=>J a' w'/\μ a' w'<μ a w) Q) a w):(Code.scope (x.seq (y.seq ((Code.label l).seq rest)))).wp P Q a w:=by
 refine wp_scope_jumps l J μ hf (wp_seq (wp_mono first λe a w h=>?_)) λa w h=>wp_seq (wp_skip (pass a w h));cases e <;> first|exact h|skip
 refine wp_seq (wp_mono h λe a w h=>?_);cases e <;> first|exact h|skip
 refine wp_seq (wp_label ?_);refine wp_mono (pass a w h) λe a w h=>?_;cases e <;> first|exact h|exact ⟨h.1,h.2.1⟩
theorem Ze (n:Nat):(madeCells (Value.agg #[.slice none 0 0,.int .i64 0,.int .i64 0,.slice none 0 0]).cells (n*4)).toList=(List.replicate n (default:PV)).flatMap PV.enc:=by
 refine List.ext_getElem? λi=>?_;by_cases hi:i<n*4
 .have h1:i=i / 4*4+i % 4:=ad;have h2:i % 4<4:=ad;have h3:(List.replicate n (default:PV)).getD (i / 4) default=default:=by
   rw [VS,List.getElem?_replicate];split <;> rfl
  have h4:(default:PV).enc[i % 4]? = some ((default:PV).enc[i % 4]'h2):=U2 h2;have h5:=nA (L:=List.replicate n (default:PV)) (j:=i / 4) (i:=i % 4) (u:=(default:PV).enc[i % 4]'h2) aR (by rw [h3];exact h4);rw [<- h1] at h5;rw [h5,q7m];have h6:∀ r (hr:r<4),(Value.agg #[.slice none 0 0,.int .i64 0,.int .i64 0,.slice none 0 0]).cells[r]! = (default:PV).enc[r]'hr:=by
   intro r hr
   match r,hr with
   | 0,_=>rfl
   | 1,_=>rfl
   | 2,_=>rfl
   | 3,_=>rfl
  rw [<- h6];unfold madeCells;simp [hi,Value.cells]
 rw [DS (by simp [madeCells];omega),DS (by rw [Cs];simp;omega)]
structure Nc (w:World) (s:Int) (L:List PV) (g cap:Nat) (M:List PV) (W:World):Prop where
 row:cC w.heap.size g cap W M
 bel:Below w.heap.size w W
 fv:∀ x∈M,FV s x.p
 tom:∀ u,nB (M.map PV.p) u->pj (L.map PV.p) u
def MJ (w:World) (s:Int) (L:List PV) (g cap:Nat) (v:Value) (a:Act) (W:World):Prop:=
 ∃ (M:List PV) (n:Nat) (u1 u4 u5 u6 u7 u8 u9 u10 u11 u12 u13 u14 u15 u16 u17 u18 u19 u20 u21 u22 u23 u24 u25 u26 u27 u28 u29 u30 u31 u32 u33 u34 u35 u36 u37 u38 u39 u40 u41 u42 u43 u44 u45 u46 u47 u48 u49 u50 u51 u52 u53 u54 u55 u56 u57 u58 u59 u60 u61 u62 u63 u64 u65 u66 u67 u68 u69 u70 u71 u72 u73 u74 u75 u76:Value),a=⟨#[v,u1,.slice none 0 0,.slice (some ⟨g,0,none⟩) n cap,u4,u5,u6,u7,u8,u9,u10,u11,u12,u13,u14,u15,u16,u17,u18,u19,u20,u21,u22,u23,u24,u25,u26,u27,u28,u29,u30,u31,u32,u33,u34,u35,u36,u37,u38,u39,u40,u41,u42,u43,u44,u45,u46,u47,u48,u49,u50,u51,u52,u53,u54,u55,u56,u57,u58,u59,u60,u61,u62,u63,u64,u65,u66,u67,u68,u69,u70,u71,u72,u73,u74,u75,u76],[]⟩/\n=M.length/\Nc w s L g cap M W
structure xr (B:Nat) (q:Per) (nb:Nat) (h c:Value) (W:World):Prop where
 ok:bD W (λb=>B<=b/\b≠B) ⟨h,c,q⟩
 ne:nb≠B
 c0:W.cell? ⟨nb,0,none⟩=some h
 c1:W.cell? ⟨nb,1,none⟩=some (.int .i64 q.frm)
 c2:W.cell? ⟨nb,2,none⟩=some (.int .i64 q.period)
 c3:W.cell? ⟨nb,3,none⟩=some c
theorem xr.of {nb:Nat} {c:Value} (hp:dg W lo hi h c q) (hv:FV s q) (hB:B<lo) (hb:ag W nb #[.slice none 0 0,.int .i64 0,.int .i64 0,.slice none 0 0] 80) (hn:nb<lo\/hi<=nb) (hne:nb≠B) :
  xr B q nb h c ((((W.setCell ⟨nb,0,none⟩ h).setCell ⟨nb,1,none⟩ (.int .i64 q.frm)).setCell ⟨nb,2,none⟩ (.int .i64 q.period)).setCell ⟨nb,3,none⟩ c):=by
 have h1:=(((hp.set (i:=0) h hn).set (i:=1) (.int .i64 q.frm) hn).set (i:=2) (.int .i64 q.period) hn).set (i:=3) c hn;have h2:=CB hb (x':=h) (y':=.int .i64 q.frm) (z':=.int .i64 q.period) (u':=c);have v1:=hv.valid;have v2:=v1.wf.frm;have v3:q.frm<=1099511627776:=v1.frm;have v4:=v1.wf.per;have v5:q.period<=1099511627776:=v1.per;refine ⟨⟨h1.is,⟨by show _<=q.frm;omega,by show q.frm<=_;omega⟩,⟨by show _<=q.period;omega,by show q.period<=_;omega⟩,λhh k hk=>?_,λhh k hk=>?_⟩,hne,(ag.cells h2 0).1,(ag.cells h2 1).1,(ag.cells h2 2).1,(ag.cells h2 3).1⟩
 .have:=h1.hd.blk hh k hk;omega
 have:=h1.cy.blk hh k hk;omega
theorem u5_ (B g cap jj:Nat) (M:List PV) (W:World) (h:cC B g cap W M) (hj:jj<M.length) :
  Calls Tryz.prog 189 #[.slice (some ⟨g,0,none⟩) M.length cap,.int .i64 jj,.int .i64 (jj+1)] W λe w'=>e=.returned (.slice (some ⟨g,0,none⟩) (M.length-1) cap)/\cC B g cap w' (M.eraseIdx jj)/\W.grownBy w' (some g):=
 (qk_ B g M.length cap jj _ W h.row hj h.one).mono λe w' ⟨h1,h2,h3⟩=>⟨h1,h.erase hj h2 h3,h3⟩
theorem map_merge {M:List PV} {ii jj:Nat} {x:PV} (hi:ii<M.length) (hj:jj<M.length) (hx:x.p=lK ((M.map PV.p).getD ii default) ((M.map PV.p).getD jj default)):((M.set ii x).eraseIdx jj).map PV.p=vh (M.map PV.p) ii jj:=by
 unfold vh;rw [<- hx,<- yg];simp [q7v]
theorem WT {i:Nat} (W:World) (h:B<=g) (v0 v1 v2 v3:Value):Below B W ((((W.setCell ⟨g,i,none⟩ v0).setCell ⟨g,i+1,none⟩ v1).setCell ⟨g,i+2,none⟩ v2).setCell ⟨g,i+3,none⟩ v3):=
 ((((JV B W).setCell (p:=⟨g,i,none⟩) h v0).setCell (p:=⟨g,i+1,none⟩) h v1).setCell (p:=⟨g,i+2,none⟩) h v2).setCell (p:=⟨g,i+3,none⟩) h v3
def Si:Value->Nat|.slice _ n _=>n|_=>0
theorem ts_ (F:Nat->Prop) (s:Int) (v:Value) (t:List Per) (w:World) (ht:bK w F v t) (hv:∀ p∈t,FV s p) (hn:t.length<=1000000) :
  Calls Tryz.prog 139 #[v] w λe w'=>∃ (v':Value) (u:List Per),e=.returned v'/\pj t u/\(∀ p∈u,FV s p)/\bK w' (λb=>w.heap.size<=b) v' u/\Below w.heap.size w w':=by
 obtain ⟨L,rfl,hL⟩:=ht;obtain ⟨a1,c1,rfl,hx1,hx2,_⟩:=hL.row.is;have fA:=hL.len;obtain ⟨bi,pw,kJ,jP,hby⟩:=Am;rw [U6] at hn;have HL:=af hL;have HV:=af hv;clear hL hv
 go_in
 go_wp2_with fail
 refine mr_ 0 (MJ w s L w.heap.size L.length (.slice a1 L.length c1)) (λa _=>Si (a.tmps.getD 3 undef)) rfl ?first ?pass
 case first=>
  go_wp2_with (at_make;refine q8h _ rfl _ _ 78 rfl w.heap.size 80 bi (.agg #[.slice none 0 0,.int .i64 0,.int .i64 0,.slice none 0 0]) 4 Tryz.underlying78 pw kJ jP .i64 .i64 _ _ L.length rfl rfl rfl rfl (by rw [hby];omega) (by unfold maxLen;omega) aj ?_;intro w3 cY cW;have hb3:Below w.heap.size w w3:=((JV _ _).grown cW aj (λk e=>by cases e)))
  rw [Ze] at cY;have mf:cC w.heap.size w.heap.size L.length w3 (List.replicate L.length (default:PV)):=⟨by rw [List.length_replicate];exact cY,λx hx=>by rw [List.eq_of_mem_replicate hx];exact WZ _ _,aj,fA⟩;have tj:=af mf;have iB:=af hb3;clear cY cW mf hb3;go_loopw [4,5,15] (λ_ _ i wr=>∃ (k:Nat) (M:List PV),k<=L.length/\i=.int .i64 k/\Hid (M.length=L.length)/\Hid (∀ q,q<k->(M.getD q default).p=canonC (L.getD q default).p.mem)/\Hid (cC w.heap.size w.heap.size L.length wr M)/\Hid (Below w.heap.size w wr)) (λ_ _ i _=>L.length-(intOf i).toNat)
  .exact ⟨0,_,ad,rfl,af aj,af (λq h=>absurd h ad),tj,iB⟩
  obtain ⟨k,M,hk,rfl,eF,HP,HR,HB⟩:=hrel;by_cases hlt:k<L.length
  .have cP:(k:Int)<L.length:=ad;obtain ⟨b1,o1,x,ha,hx,c_,hb1,e0,e1,e2,e3⟩:=(HL.o.keep (aP.below HB.o) HB.o.size).get hlt;subst ha;have kn:FV s x.p:=HV.o _ (by rw [c_];exact dI (by simpa using hlt));have Bl:(L.getD k default).p=x.p:=by rw [c_];simp [VS,hlt]
   obtain ⟨xh,xc,xp⟩:=x;obtain ⟨eA,eE,eB,eW,fq,dZ,rfl,rfl⟩:=hx.form;dsimp only at e0 e1 e2 e3 kn Bl;have HX:=af hx;have T1:=af Bl;have HC:=λW (h:Below _ _ W)=>Ya s _ _ xp W (hx.is.ext h) kn;have td:=af kn;dsimp only at HC;clear hx c_ Bl kn;have hle:=HR.o.le;go_wp2_with (go_at_call 98;refine (HC _ xE).mono ?_;rintro e w2 ⟨h',c',rfl,ho,hb2⟩;obtain ⟨a5,m5,a6,m6,rfl,rfl⟩:=ho.form;have yz:=HR.o.below (show Below wr.heap.size wr w2 by exact xE);obtain ⟨-,g0,g1,g2,g3,g4⟩:=yz.get (show k<M.length by have:=eF.o;omega);obtain ⟨hc2,hf2⟩:=bd_ hb2;(try simp only [U7,Q1,fZ,O1] at hc2 hf2);have zJ:=af yz;have HO:=af ho;have bl:=af (show Below wr.heap.size wr w2 by exact xE);clear yz ho);have cB:Below w.heap.size w w2:=Et HB.o bl.o;go_roundw
   .refine ⟨k+1,M.set k ⟨.slice a5 (canonC xp.mem).head.length m5,.slice a6 (canonC xp.mem).cycle.length m6,canonC xp.mem⟩,ad,by go_num,af (by rw [OF];exact eF.o),af (λq hq=>?_),af (zJ.o.set (x:=⟨_,_,canonC xp.mem⟩) (by have:=eF.o;omega) ?_),af xE⟩
    .by_cases hqk:q=k
     .subst hqk;rw [T1.o,VS,List.getElem?_set_self (by have:=eF.o;omega)];rfl
     rw [VS,List.getElem?_set_ne ad,<- VS];exact HP.o q ad
    refine (HO.o.pv td.o.canon.2).mono λb hb=>?_;have:=hb.1;have:=HB.o.size;simp [U7] at *;omega
   simp [intOf];omega
  obtain rfl:k=L.length:=ad;go_wp2_with fail;have hmap:M.map PV.p=(L.map PV.p).map λp=>canonC p.mem:=QB (by simp [eF.o]) λi h1 h2=>by
   have h3:=HP.o i (by simpa using h2);have h4:i<M.length:=by simpa using h1
   have h5:i<L.length:=by simpa using h2
   rw [VS,VS,U2 h4,U2 h5] at h3;simpa using h3
  refine ⟨M,_,_,_,_,_,_,_,_,_,_,_,_,_,_,_,_,_,_,_,_,_,_,_,_,_,_,_,_,_,_,_,_,_,_,_,_,_,_,_,_,_,_,_,_,_,_,_,_,_,_,_,_,_,_,_,_,_,_,_,_,_,_,_,_,_,_,_,_,_,_,_,_,_,_,_,rfl,eF.o.symm,HR.o,HB.o,λx hx=>?_,λu hu=>?_⟩
  .have h1:x.p∈M.map PV.p:=VC.2 ⟨x,hx,rfl⟩;rw [hmap] at h1;obtain ⟨p,hp,he⟩:=VC.1 h1;rw [<- he];exact (HV.o p hp).canon.2
  unfold pj;rw [<- hmap];exact hu
 case pass=>
  rintro a W ⟨M,n,u1,u4,u5,u6,u7,u8,u9,u10,u11,u12,u13,u14,u15,u16,u17,u18,u19,u20,u21,u22,u23,u24,u25,u26,u27,u28,u29,u30,u31,u32,u33,u34,u35,u36,u37,u38,u39,u40,u41,u42,u43,u44,u45,u46,u47,u48,u49,u50,u51,u52,u53,u54,u55,u56,u57,u58,u59,u60,u61,u62,u63,u64,u65,u66,u67,u68,u69,u70,u71,u72,u73,u74,u75,u76,rfl,rfl,hinv⟩;have hrow:=hinv.row;have hM:=hrow.len;have HI:=af hinv;have HR:=af hrow;clear hinv hrow;go_wp2;go_loopw [3,6,7,8,9,31] (λs3 _ _ _ _ idx wr=>∃ ii:Nat,ii<=M.length/\s3=.slice (some ⟨w.heap.size,0,none⟩) M.length L.length/\idx=.int .i64 ii/\Hid (∀ i' j',i'<ii->i'<j'->j'<M.length->¬ BE (M.map PV.p) i' j')/\Hid (cC w.heap.size w.heap.size L.length wr M)/\Hid (Below w.heap.size w wr)) (λ_ _ _ _ _ idx _=>M.length-(intOf idx).toNat)
  .exact ⟨0,ad,rfl,rfl,af (λ_ _ h=>absurd h ad),HR,af HI.o.bel⟩
  obtain ⟨ii,hi,rfl,rfl,pW,jh,bl⟩:=hrel;by_cases hlt:ii<M.length
  .have tJ:(ii:Int)<M.length:=ad;go_wp2;go_loopw [3,7,8,9] (λs3 jv _ _ wr=>∃ jj:Nat,ii<jj/\jj<=M.length/\s3=.slice (some ⟨w.heap.size,0,none⟩) M.length L.length/\jv=.int .i64 jj/\Hid (∀ j',ii<j'->j'<jj->¬ BE (M.map PV.p) ii j')/\Hid (cC w.heap.size w.heap.size L.length wr M)/\Hid (Below w.heap.size w wr)) (λ_ jv _ _ _=>M.length-(intOf jv).toNat)
   .exact ⟨ii+1,ad,ad,rfl,by go_num,af (λ_ h1 h2=>absurd h2 ad),jh,bl⟩
   obtain ⟨jj,gq,hj,rfl,rfl,q_,B8,cq⟩:=hrel;by_cases dE:jj<M.length
   .have sm:(jj:Int)<M.length:=ad;obtain ⟨hx,i0,i1,i2,i3,hfz⟩:=B8.o.get hlt;obtain ⟨hy,j0,j1,j2,j3,-⟩:=B8.o.get dE;have kn:=HI.o.fv _ (dI (d:=default) hlt);have sk:=HI.o.fv _ (dI (d:=default) dE);have mP:(M.map PV.p).getD ii default=(M.getD ii default).p:=by simp [VS,hlt]
    have kK:(M.map PV.p).getD jj default=(M.getD jj default).p:=by simp [VS,dE]
    generalize M.getD ii default=x at *;generalize M.getD jj default=y at *;obtain ⟨xh,xc,xp⟩:=x;obtain ⟨yh,yc,yp⟩:=y;obtain ⟨eA,eE,eB,eW,fq,dZ,rfl,rfl⟩:=hx.form;obtain ⟨kY,lC,lk,kZ,lD,lq,rfl,rfl⟩:=hy.form;dsimp only at i0 i1 i2 i3 j0 j1 j2 j3 kn sk mP kK;have nf:=λW=>Wy ⟨.slice eA eE eB,.slice eW fq dZ,xp⟩ ⟨.slice kY lC lk,.slice kZ lD lq,yp⟩ W kn.valid.wf.per kn.valid.per sk.valid.wf.per sk.valid.per;change ∀ W,Calls _ _ #[ar _ _ xp.frm xp.period,ar _ _ yp.frm yp.period] W λe w'=>e=.returned (.bool (jN xp yp))/\_ at nf;have Tp:Hid (BE (M.map PV.p) ii jj↔jN xp yp=true):=af (by unfold BE;rw [mP,kK]);have td:=af kn;have DJ:=af sk;have HX:=af hx;have HY:=af hy;have Lt:=af mP;have It:=af kK;generalize jN xp yp=dd at *;clear kn sk hx hy mP kK;go_wp2_with fail;refine oz (w0:=wr) [0,1,2,3,4,5,6,7,8] [9] (λv=>⟨#[.slice a1 L.length c1,u1,.slice none 0 0,.slice (some ⟨w.heap.size,0,none⟩) M.length L.length,u4,u5,.int .i64 ↑ii,.int .i64 ↑jj,u8,u9,u10,u11,u12,u13,u14,u15,u16,u17,u18,u19,u20,u21,u22,u23,u24,u25,u26,u27,u28,.slice (some ⟨w.heap.size,0,none⟩) M.length L.length,.int .i64 ↑M.length,.int .i64 ↑ii,.bool true,.int .i64 ↑ii,.int .i64 ↑ii,.int .i64 (↑ii+1),.int .i64 ↑jj,.slice (some ⟨w.heap.size,0,none⟩) M.length L.length,.int .i64 ↑M.length,.bool true,u40,u41,v 0,v 1,v 2,v 3,v 4,v 5,v 6,v 7,v 8,u51,u52,u53,u54,u55,u56,u57,u58,u59,u60,u61,u62,u63,u64,u65,u66,u67,u68,u69,u70,u71,u72,u73,u74,u75,u76],[]⟩) [.slice (some ⟨w.heap.size,0,none⟩) M.length L.length,.int .i64 ii,.pointer (some ⟨w.heap.size,ii*4,none⟩),ar (.slice eA eE eB) (.slice eW fq dZ) xp.frm xp.period,.slice (some ⟨w.heap.size,0,none⟩) M.length L.length,.int .i64 jj,.pointer (some ⟨w.heap.size,jj*4,none⟩),ar (.slice kY lC lk) (.slice kZ lD lq) yp.frm yp.period,.bool dd] [] (λ_ _ _ _ _=>True) (λW=>cC w.heap.size w.heap.size L.length W M/\(W.cell? ⟨w.heap.size,ii*4,none⟩=some (.slice eA eE eB)/\W.cell? ⟨w.heap.size,ii*4+1,none⟩=some (.int .i64 xp.frm)/\W.cell? ⟨w.heap.size,ii*4+2,none⟩=some (.int .i64 xp.period)/\W.cell? ⟨w.heap.size,ii*4+3,none⟩=some (.slice eW fq dZ))/\(W.cell? ⟨w.heap.size,jj*4,none⟩=some (.slice kY lC lk)/\W.cell? ⟨w.heap.size,jj*4+1,none⟩=some (.int .i64 yp.frm)/\W.cell? ⟨w.heap.size,jj*4+2,none⟩=some (.int .i64 yp.period)/\W.cell? ⟨w.heap.size,jj*4+3,none⟩=some (.slice kZ lD lq))) (λW hb=>⟨B8.o.below hb,⟨bJ i0 hb,bJ i1 hb,bJ i2 hb,bJ i3 hb⟩,bJ j0 hb,bJ j1 hb,bJ j2 hb,bJ j3 hb⟩) trivial trivial ?steps ?fin (λj=>match j with|0=>u42|1=>u43|2=>u44|3=>u45|4=>u46|5=>u47|6=>u48|7=>u49|8=>u50|_=>undef)
    case steps=>
     refine .c [] [] rfl ?_ (.c [] [] rfl ?_ (.c [0,1] [] rfl ?_ (.c [2] [] rfl ?_ (.c [] [] rfl ?_ (.c [] [] rfl ?_ (.c [4,5] [] rfl ?_ (.c [6] [] rfl ?_ (.c [3,7] [] rfl ?_ (.n)))))))));all_goals try exact oh
     rintro v lo hi W hb ⟨hR,⟨g0,g1,g2,g3⟩,k0,k1,k2,k3⟩ _;refine .inl ⟨rfl,λK hK=>?_⟩;simp only [ov,aD,Nat.reduceBEq,cond_true,cond_false];go_wp2_with (go_at_call 140;refine (nf _).mono ?_;rintro e w9 ⟨rfl,bg⟩);exact aQ (hK w9 bg) (by simp [ov,aD,upd])
    case fin=>
     rintro v lo gU W2 hb ⟨hR,⟨g0,g1,g2,g3⟩,k0,k1,k2,k3⟩ hf hap;show wpList _ _ _ [_] _ _;have e8:v 8=.bool dd:=(hf 8 rfl).2.2.2;clear hf hap;dsimp only;rw [e8];clear e8;generalize v 0=y0,v 1=y1,v 2=y2,v 3=y3,v 4=y4,v 5=y5,v 6=y6,v 7=y7;have cR:=af hb;clear hb;cases dd with
     | false=>
      have zJ:=af hR;clear hR g0 g1 g2 g3 k0 k1 k2 k3;go_wp2;go_roundw
      .exact ⟨jj+1,ad,ad,rfl,by go_num,af (λj' h1 h2=>by
       by_cases h3:j'<jj
       .exact q_.o j' h1 h3
       obtain rfl:j'=jj:=ad;rw [Tp.o];decide),zJ,af (Et cq.o cR.o)⟩
      simp [intOf];omega
     | true=>
      obtain ⟨q,hq⟩:∃ q,q=lK xp yp:=⟨_,rfl⟩;have HQ:=af hq;have zk:Hid (FV s q):=af (by rw [hq];exact td.o.and DJ.o);have HAND:∀ W,Below W2.heap.size W2 W->Calls Tryz.prog 188 #[ar (.slice eA eE eB) (.slice eW fq dZ) xp.frm xp.period,ar (.slice kY lC lk) (.slice kZ lD lq) yp.frm yp.period] W (nG q W):=λW h=>by
       rw [hq];exact q2y s _ _ _ _ xp yp W (HX.o.is.ext (Et cR.o h)) (HY.o.is.ext (Et cR.o h)) td.o DJ.o
      clear hq;have zJ:=af hR;have hW2:=cR.o.size;have hle:=hR.le;go_wp2_with fail;refine D0 (Q:=λe a' W'=>e=.normal/\(∃ (nb:Nat) (h c:Value) (q6p z53 z54 z55 ZO ZP z58 z59 z60 ZQ ZR ZS:Value),a'=⟨#[.slice a1 L.length c1,u1,.slice none 0 0,.slice (some ⟨w.heap.size,0,none⟩) M.length L.length,u4,u5,.int .i64 ↑ii,.int .i64 ↑jj,.pointer (some ⟨nb,0,none⟩),.int .i64 0,u10,u11,u12,u13,u14,u15,u16,u17,u18,u19,u20,u21,u22,u23,u24,u25,u26,u27,u28,.slice (some ⟨w.heap.size,0,none⟩) M.length L.length,.int .i64 ↑M.length,.int .i64 ↑ii,.bool true,.int .i64 ↑ii,.int .i64 ↑ii,.int .i64 (↑ii+1),.int .i64 ↑jj,.slice (some ⟨w.heap.size,0,none⟩) M.length L.length,.int .i64 ↑M.length,.bool true,u40,u41,y0,y1,y2,y3,y4,y5,y6,y7,.bool true,.bool false,q6p,z53,z54,z55,ZO,ZP,z58,z59,z60,ZQ,ZR,ZS,u64,u65,u66,u67,u68,u69,u70,u71,u72,u73,u74,u75,u76],[]⟩/\xr w.heap.size q nb h c W')/\Below W2.heap.size W2 W') ?imp ?reg
      case reg=>
       refine PX (w0:=W2) [0,1,2,3,4,5,6,7,8,9,10,11,12] 11 13 [14] (λv=>⟨#[.slice a1 L.length c1,u1,.slice none 0 0,.slice (some ⟨w.heap.size,0,none⟩) M.length L.length,u4,u5,.int .i64 ↑ii,.int .i64 ↑jj,v 12,u9,u10,u11,u12,u13,u14,u15,u16,u17,u18,u19,u20,u21,u22,u23,u24,u25,u26,u27,u28,.slice (some ⟨w.heap.size,0,none⟩) M.length L.length,.int .i64 ↑M.length,.int .i64 ↑ii,.bool true,.int .i64 ↑ii,.int .i64 ↑ii,.int .i64 (↑ii+1),.int .i64 ↑jj,.slice (some ⟨w.heap.size,0,none⟩) M.length L.length,.int .i64 ↑M.length,.bool true,u40,u41,y0,y1,y2,y3,y4,y5,y6,y7,.bool true,.bool false,v 9,v 0,v 1,v 2,v 3,v 4,v 5,v 6,v 7,v 8,v 10,v 11,u64,u65,u66,u67,u68,u69,u70,u71,u72,u73,u74,u75,u76],[]⟩) [.slice (some ⟨w.heap.size,0,none⟩) M.length L.length,.int .i64 ii,.pointer (some ⟨w.heap.size,ii*4,none⟩),ar (.slice eA eE eB) (.slice eW fq dZ) xp.frm xp.period,.slice (some ⟨w.heap.size,0,none⟩) M.length L.length,.int .i64 jj,.pointer (some ⟨w.heap.size,jj*4,none⟩),ar (.slice kY lC lk) (.slice kZ lD lq) yp.frm yp.period,undef,undef,undef,.int .i64 0,undef] [8,9,10,12] (λi v lo hi W=>match i with|8=>∃ h c,v 8=.tuple #[ar h c q.frm q.period,.int .i64 0]/\xO W (lo 8) (hi 8) h c q|9=>v 9=v 8/\∃ h c,v 9=.tuple #[ar h c q.frm q.period,.int .i64 0]|10=>∃ h c,v 9=.tuple #[ar h c q.frm q.period,.int .i64 0]/\v 10=ar h c q.frm q.period|12=>v 12=.pointer (some ⟨lo 12,0,none⟩)/\lo 12<hi 12/\ag W (lo 12) #[.slice none 0 0,.int .i64 0,.int .i64 0,.slice none 0 0] 80|_=>True) (λW=>cC w.heap.size w.heap.size L.length W M/\(W.cell? ⟨w.heap.size,ii*4,none⟩=some (.slice eA eE eB)/\W.cell? ⟨w.heap.size,ii*4+1,none⟩=some (.int .i64 xp.frm)/\W.cell? ⟨w.heap.size,ii*4+2,none⟩=some (.int .i64 xp.period)/\W.cell? ⟨w.heap.size,ii*4+3,none⟩=some (.slice eW fq dZ))/\(W.cell? ⟨w.heap.size,jj*4,none⟩=some (.slice kY lC lk)/\W.cell? ⟨w.heap.size,jj*4+1,none⟩=some (.int .i64 yp.frm)/\W.cell? ⟨w.heap.size,jj*4+2,none⟩=some (.int .i64 yp.period)/\W.cell? ⟨w.heap.size,jj*4+3,none⟩=some (.slice kZ lD lq))) (λW hb=>⟨hR.below hb,⟨bJ g0 hb,bJ g1 hb,bJ g2 hb,bJ g3 hb⟩,bJ k0 hb,bJ k1 hb,bJ k2 hb,bJ k3 hb⟩) ?stab ?loc ?steps ?fin ?fin2 (λj=>match j with|0=>u53|1=>u54|2=>u55|3=>u56|4=>u57|5=>u58|6=>u59|7=>u60|8=>u61|9=>u52|10=>u62|11=>u63|12=>u8|_=>undef)
       case stab=>
        refine ⟨?_,?_,?_,?_,trivial⟩
        .intro v lo hi W W' h hb;exact (let ⟨x1,x2,e,hp⟩:=h;⟨x1,x2,e,hp.below hb⟩)
        .intro v lo hi W W' h hb;exact h
        .intro v lo hi W W' h hb;exact h
        intro v lo hi W W' h hb;exact ⟨h.1,h.2.1,h.2.2.below hb⟩
       case loc=>
        refine ⟨?_,?_,?_,?_,trivial⟩
        .intro v v' lo lo' hi hi' W aA h;have q:=aA 8 (.inl rfl)
         (try dsimp only at h ⊢)
         simp only [q.1,q.2.1,q.2.2] at h;exact h
        .intro v v' lo lo' hi hi' W aA h;have q:=aA 9 (.inl rfl);have q8:=aA 8 (.inr (bM (by kernel_rfl)))
         (try dsimp only at h ⊢)
         simp only [q.1,q.2.1,q.2.2,q8.1,q8.2.1,q8.2.2] at h;exact h
        .intro v v' lo lo' hi hi' W aA h;have q:=aA 10 (.inl rfl);have q9:=aA 9 (.inr (bM (by kernel_rfl)))
         (try dsimp only at h ⊢)
         simp only [q.1,q.2.1,q.2.2,q9.1,q9.2.1,q9.2.2] at h;exact h
        intro v v' lo lo' hi hi' W aA h;have q:=aA 12 (.inl rfl)
        (try dsimp only at h ⊢)
        simp only [q.1,q.2.1,q.2.2] at h;exact h
       case steps=>
        clear hR g0 g1 g2 g3 k0 k1 k2 k3;refine .c [] [] rfl ?_ (.c [] [] rfl ?_ (.c [0,1] [] rfl ?_ (.c [2] [] rfl ?_ (.c [] [] rfl ?_ (.c [] [] rfl ?_ (.c [4,5] [] rfl ?_ (.c [6] [] rfl ?_ (.c [3,7] [] rfl ?_ (.c [] [8] rfl ?_ (.c [] [9] rfl ?_ (.c [] [9] rfl ?_ (.c [] [] rfl ?_ (.n)))))))))))));all_goals try exact SQ
        .rintro v lo hi W hb ⟨_,⟨g0,g1,g2,g3⟩,k0,k1,k2,k3⟩ _;refine ⟨rfl,λK hK=>?_⟩;simp only [ov,aD,Nat.reduceBEq,cond_true,cond_false];go_wp2_with (go_at_call 188;refine (HAND _ xE).mono ?_;rintro e w9 ⟨h',c',rfl,ho,bg⟩);exact aQ (hK (.tuple #[ar h' c' q.frm q.period,.int .i64 0]) w9 bg ⟨h',c',rfl,ho.at⟩) (by simp [ov,aD,upd])
        .rintro v lo hi W hb ⟨_,⟨g0,g1,g2,g3⟩,k0,k1,k2,k3⟩ ⟨⟨la8,lb8,D8⟩,_⟩;refine ⟨rfl,λK hK=>?_⟩;simp only [ov,aD,Nat.reduceBEq,cond_true,cond_false]
         (try dsimp only at D8)
         obtain ⟨h8,c8,e8,_⟩:=D8;go_wp2;exact aQ (hK (v 8) W (JV _ _) ⟨rfl,h8,c8,e8⟩) (by simp [ov,aD,upd,e8])
        .rintro v lo hi W hb ⟨_,⟨g0,g1,g2,g3⟩,k0,k1,k2,k3⟩ ⟨⟨WS,WV,D9⟩,_⟩;refine ⟨rfl,λK hK=>?_⟩;simp only [ov,aD,Nat.reduceBEq,cond_true,cond_false]
         (try dsimp only at D9)
         obtain ⟨-,h9,c9,e9⟩:=D9;simp only [e9];go_wp2;exact aQ (hK (ar h9 c9 q.frm q.period) W (JV _ _) ⟨h9,c9,e9,rfl⟩) (by simp [ov,aD,upd,e9])
        .rintro v lo hi W hb ⟨_,⟨g0,g1,g2,g3⟩,k0,k1,k2,k3⟩ ⟨⟨WS,WV,D9⟩,_⟩;refine ⟨rfl,λK hK=>?_⟩;simp only [ov,aD,Nat.reduceBEq,cond_true,cond_false]
         (try dsimp only at D9)
         obtain ⟨-,h9,c9,e9⟩:=D9;simp only [e9];go_wp2;exact aQ (hK W (JV _ _)) (by simp [ov,aD,upd,e9])
        rintro v lo hi W hb ⟨_,⟨g0,g1,g2,g3⟩,k0,k1,k2,k3⟩ _;refine ⟨rfl,λK hK=>?_⟩;simp only [ov,aD,Nat.reduceBEq,cond_true,cond_false];go_wp2;exact hK (.pointer (some ⟨W.heap.size,0,none⟩)) _ (Ea (Er _) _) ⟨rfl,aj,ag.new _ _ _⟩
       case fin=>
        rintro v lo gU W5 hb5 ⟨PL,-,-⟩ hf hap;show wpList _ _ _ [_,_] _ _;obtain ⟨l8,-,h8,h,c,e8,sE⟩:=hf 8 rfl;obtain ⟨-,-,-,e9,-⟩:=hf 9 rfl;obtain ⟨-,-,-,h',c',nL,ir⟩:=hf 10 rfl;have e11:v 11=.int .i64 0:=(hf 11 rfl).2.2.2;obtain ⟨sR,-,oG,gi,jc,hbox⟩:=hf 12 rfl;have hd:=hap 8 12 rfl rfl aG;clear hf hap;rw [e9,e8] at nL;obtain ⟨rfl,rfl⟩:h=h'/\c=c':=by simpa [ar] using nL
        dsimp only;rw [ir,e11,gi];clear ir e11 gi e9 nL e8;obtain ⟨nb,kr⟩:∃ nb,nb=lo 12:=⟨_,rfl⟩;rw [<- kr] at hd hbox sR jc ⊢;have nV:=sE.inn;generalize lo 8=BI at *;generalize gU 8=Pg at *;generalize gU 12=Au at *;clear kr sE;obtain ⟨a5,m5,a6,m6,rfl,rfl⟩:=nV.form;have g0:=hbox.cells 0;have g1:=hbox.cells 1;have g2:=hbox.cells 2;have g3:=hbox.cells 3;have uD:=af (xr.of nV zk.o (show w.heap.size<BI by omega) hbox ad ad);have bW:=af hb5;clear hbox nV hd PL;generalize v 0=z0,v 1=z1,v 2=z2,v 3=z3,v 4=z4,v 5=z5,v 6=z6,v 7=z7,v 8=z8,v 9=z9;go_wp2;exact ⟨⟨_,_,uD.o⟩,by have hb5:=bW.o;exact xE⟩
       case fin2=>
        rintro v lo gU W5 hb5 ⟨PL,-,-⟩ hf hap;obtain ⟨l8,-,h8,h,c,e8,sE⟩:=hf 8 rfl aG;obtain ⟨-,-,-,e9,-⟩:=hf 9 rfl aG;obtain ⟨-,-,-,h',c',nL,ir⟩:=hf 10 rfl aG;obtain ⟨sR,-,oG,gi,jc,hbox⟩:=hf 12 rfl aG;have hd:=hap 8 12 rfl rfl aG aG aG;clear hf hap;rw [e9,e8] at nL;obtain ⟨rfl,rfl⟩:h=h'/\c=c':=by simpa [ar] using nL
        have E_:=e9.trans e8;dsimp only;rw [ir,gi,E_];clear ir gi e9 nL e8 E_;obtain ⟨nb,kr⟩:∃ nb,nb=lo 12:=⟨_,rfl⟩;rw [<- kr] at hd hbox sR jc ⊢;have nV:=sE.inn;generalize lo 8=BI at *;generalize gU 8=Pg at *;generalize gU 12=Au at *;clear kr sE;obtain ⟨a5,m5,a6,m6,rfl,rfl⟩:=nV.form;have g0:=hbox.cells 0;have g1:=hbox.cells 1;have g2:=hbox.cells 2;have g3:=hbox.cells 3;have uD:=af (xr.of nV zk.o (show w.heap.size<BI by omega) hbox ad ad);have bW:=af hb5;clear hbox nV hd PL;generalize v 0=z0,v 1=z1,v 2=z2,v 3=z3,v 4=z4,v 5=z5,v 6=z6,v 7=z7,v 8=z8,v 11=yQ;constructor
        .show wpList _ _ _ [_,_,_] _ _;go_wp2;exact ⟨⟨_,_,uD.o⟩,by have hb5:=bW.o;exact xE⟩
        show wpList _ _ _ [_,_,_] _ _;go_wp2;exact ⟨⟨_,_,uD.o⟩,by have hb5:=bW.o;exact xE⟩
      case imp=>
       rintro e a' W6 ⟨rfl,⟨nb,h,c,q6p,z53,z54,z55,ZO,ZP,z58,z59,z60,ZQ,ZR,ZS,rfl,hP⟩,bG⟩;obtain ⟨a5,n5,m5,a6,n6,m6,rfl,rfl⟩:=hP.ok.form;have p0:=hP.c0;have p1:=hP.c1;have p2:=hP.c2;have p3:=hP.c3;have hrow:=zJ.o.below bG;obtain ⟨-,r0,r1,r2,r3,r4⟩:=hrow.get hlt;have cr:=hrow.set (x:=⟨_,_,q⟩) hlt hP.ok;have hdel:=u5_ _ _ _ jj _ _ cr (by rw [OF];exact dE);rw [OF] at hdel;have hgr:=WT W6 (i:=ii*4) (TZ w.heap.size) (.slice a5 n5 m5) (.int .i64 q.frm) (.int .i64 q.period) (.slice a6 n6 m6);have BW:=af hgr;have bR:=af bG;clear hP hrow cr hgr bG;go_wp2_with (go_at_call 189;refine hdel.mono ?_;rintro e w8 ⟨rfl,nW,jo⟩)
       go_step3
       have eo:Below w.heap.size w w8:=by
        have h1:Below w.heap.size w W6:=Et (Et cq.o cR.o) bR.o;exact h1.trans (BW.o.trans (World.grownBy.below' jo (TZ _) (h1.trans BW.o).size))
       refine ⟨rfl,⟨_,_,_,_,_,_,_,_,_,_,_,_,_,_,_,_,_,_,_,_,_,_,_,_,_,_,_,_,_,_,_,_,_,_,_,_,_,_,_,_,_,_,_,_,_,_,_,_,_,_,_,_,_,_,_,_,_,_,_,_,_,_,_,_,_,_,_,_,_,_,_,_,_,_,_,_,rfl,?_,nW,eo,?_,?_⟩,?_⟩
       .rw [YD (by rw [OF];exact dE),OF]
       .intro z hz;have h1:=Y_ hz;rcases YM h1 with h2|rfl
        .exact HI.o.fv z h2
        exact zk.o
       .intro u hu;refine HI.o.tom u (nB.step (i:=ii) (j:=jj) ⟨gq,by rw [U6];exact dE,(by have:=Tp.o;simpa using this),λi' j' h1 h2 h3=>pW.o i' j' h1 h2 (by rwa [U6] at h3),q_.o⟩ ?_);rw [<- map_merge hlt dE (x:=⟨.slice a5 n5 m5,.slice a6 n6 m6,q⟩) (by rw [Lt.o,It.o];exact HQ.o)];exact hu
       show M.length-1<M.length;omega
   obtain rfl:jj=M.length:=ad;go_wp2;go_roundw
   .exact ⟨ii+1,ad,rfl,by go_num,af (λi' j' h1 h2 h3=>by
    by_cases h4:i'<ii
    .exact pW.o i' j' h4 h2 h3
    obtain rfl:i'=ii:=ad;exact q_.o j' h2 h3),B8,cq⟩
   simp [intOf];omega
  obtain rfl:ii=M.length:=ad;go_wp2_with fail;simp only [Exit.jump];go_ret;refine ⟨_,M.map PV.p,rfl,HI.o.tom _ (nB.done λi' j' h1 h2=>pW.o i' j' (by rw [U6] at h2;omega) h1 (by rwa [U6] at h2)),λp hp=>?_,⟨M,rfl,jh.o.term⟩,bl.o⟩;obtain ⟨z,hz,rfl⟩:=VC.1 hp;exact HI.o.fv z hz
end
end Go.Proofs.YtbmgmlbmgogeaaaGreat
end
namespace Go
section
open Go.RowKit
variable {P:Program}
def EU {α:Type} (P:Program) (g:Nat) (lb:Array Value) (encs:α->Array Value) (Kp:World->World->Prop) (x:Option Nat) (Ey:List α->α->World->Prop) (Fin:List α->Prop) (w:World):Prop:=
 ∀ (l:Nat) (J:List α->World->Prop) (W:World),Below w.heap.size w W->F4 x J->
  (∀ pre y W1,J pre W1->Ey pre y W1->YieldAt Fence.wide 0 P l (encs y) W1 λe W'=>e=.returned (.bool true)/\J (pre ++ [y]) W'/\Kp W1 W')->
  J [] W->
  CallsIn Fence.wide 0 P g (#[.func (.yield l) #[] #[]] ++ lb) W λe W'=>(∃ v,e=.returned v)/\∃ xs,Fin xs/\J xs W'
def K2 (B:Nat) (Kp:World->World->Prop) (I:World->Prop) (W:World):Exit->Act->World->Prop
 | .normal,_,W3=>KeepsFrom B W W3/\Kp W W3/\I W3
 | _,_,_=>False
theorem WK {α:Type} {g:Operand} {ps:Array Tmp} {assign body:Code} {Q:Exit->Act->World->Prop} {a:Act} {w:World}
  {gf:Nat} {lb:Array Value} (hg:a.eval g=.func (.func gf) #[] lb) (eg:∀ args w,(callFunc gf args).run P w=.ok (.enter gf args) w)
  {encs:α->Array Value} {Kp:World->World->Prop} {x:Option Nat} {Ey:List α->α->World->Prop} {Fin:List α->Prop} (hseq:EU P gf lb encs Kp x Ey Fin w)
  (hKt:∀ {A B C:World},Kp A B->Kp B C->Kp A C) (hKb:∀ (W:World) (l:Nat) (o o':Obj),w.heap.size<=l->W.heap[l]? = some o->o.isCells=false->Kp W (W.putObj l o')) (pE:∀ y,(encs y).size=ps.size)
  (I:List α->World->Prop) (hI:dO w.heap.size x I) (vL:∀ pre y (W:World) (l:Nat) (o o':Obj),W.heap[l]? = some o->o.isCells=false->Ey pre y W->Ey pre y (W.putObj l o')) (h0:I [] w) (a₁:α->Act)
  (hassign:∀ (l:Nat) (y:α) (W:World) (K:Act->World->Prop),K (a₁ y) W->
   assign.wpIn (Fence.wide.inRound l) 0 P (Exit.then K (λ_ _ _=>False)) { tmps:=(ps.zip (encs y)).foldl (λt (p,v)=>t.setIfInBounds p v) a.tmps,defers:=[] } W)
  (hbody:∀ (l:Nat) (pre:List α) (y:α) (W:World),I pre W->Ey pre y W->body.wpIn (Fence.wide.inRound l) 0 P (K2 w.heap.size Kp (I (pre ++ [y])) W) (a₁ y) W)
  (hdone:∀ (D:Nat) (xs:List α) (W:World),w.heap.size<=D->Fin xs->I xs W->W.heap[D]? = some (.deferred (some []))->Q .normal { a with defers:={ target:=.collected D,args:=#[] } :: a.defers } W) :
  (Code.rangeFunc g ps assign body).wpIn Fence.wide 0 P Q a w:=by
 refine wpIn_rangeFunc ?_;intro fn hfn;obtain ⟨rec,bS⟩:∃ rec:LoopState->Option Code->Loop,rec=λst pe=>{ state:=st,pending:=pe,fn,tmps:=a.tmps,params:=ps,assign,body,defers:=w.heap.size }:=⟨_,rfl⟩;obtain ⟨W1,hW1⟩:∃ W1,(w.alloc (.deferred (some []))).alloc (.loop (rec .ready none))=W1:=⟨_,rfl⟩;have gn:W1.heap[w.heap.size+1]? = some (.loop (rec .ready none)):=by
  rw [<- hW1];have:=DP (w.alloc (.deferred (some []))) (.loop (rec .ready none));rwa [U7] at this
 have FC:W1.heap[w.heap.size]? = some (.deferred (some [])):=by
  rw [<- hW1];exact (DN _ _ _ aj).trans (DP w _)
 have Fz:I [] W1:=by rw [<- hW1];exact hI.alloc _ (hI.alloc _ h0)
 have hb1:Below w.heap.size w W1:=by
  rw [<- hW1];exact (((JV _ w).alloc (TZ _) _).alloc aj _)
 refine ⟨w.heap.size+1,[{ target:=.collected w.heap.size,args:=#[] }],W1,{ target:=.fn (.func gf) lb,args:=#[.func (.yield (w.heap.size+1)) #[] #[]] },W1,gf,
  #[.func (.yield (w.heap.size+1)) #[] #[]] ++ lb,W1,?_,?_,?_,?_,(λh=>by cases h),?_⟩
 .rw [<- hW1,bS];exact q9a _ _ _ _ _
 .simp only [resolve,hg];simp [go_sem]
 .intro f' _;trivial
 .simp [invoke,go_sem,eg]
 have d_:∀ {A B:World} {row:Option Nat} {l:Nat} {o:Obj},A.grownBy B row->(∀ r,row=some r->x=some r/\∃ o:Obj,A.heap[r]? = some o/\o.isCells=true)->A.heap[l]? = some o->o.isCells=false->B.heap[l]? = some o:=
  λ{A B row l o} fe hr hl ho=>by
   refine (fe.block l (Q0.1 hl).1 λe=>?_).trans hl;obtain ⟨_,o2,ho2,hc⟩:=hr l e.symm;rw [hl] at ho2;cases ho2;rw [ho] at hc;cases hc
 refine (hseq (w.heap.size+1)
  (λpre W=>I pre W/\W.heap[w.heap.size+1]? = some (.loop (rec .ready none))/\W.heap[w.heap.size]? = some (.deferred (some [])))
  W1 hb1
  (λs A B row hs fe hr=>⟨hI s A B row hs.1 fe (λr e=>.inl (hr r e)),d_ fe hr hs.2.1 rfl,d_ fe hr hs.2.2 rfl⟩)
  ?_ ⟨Fz,gn,FC⟩).mono ?_
 .rintro pre y W ⟨hi,hl,hk⟩ hlen;have hlt:w.heap.size+1<W.heap.size:=(Q0.1 hl).1;have hy:=run_yield (P:=P) (args:=encs y) hl (by rw [bS];exact pE y);rw [bS] at hy;refine ⟨fn,_,assign,body,hy,roundIn_of_wpIn hfn (hassign _ y W _ ?_)⟩;clear hy;refine ⟨_,run_beginRound hl (by rw [bS]),?_⟩;have hl2:(W.putObj (w.heap.size+1) (.loop { rec .ready none with state:=.busy })).heap[w.heap.size+1]? = some (.loop { rec .ready none with state:=.busy }):=Z5 hlt;have hk2:(W.putObj (w.heap.size+1) (.loop { rec .ready none with state:=.busy })).heap[w.heap.size]? = some (.deferred (some [])):=(N3 ad).trans hk;have hw2:Kp W (W.putObj (w.heap.size+1) (.loop { rec .ready none with state:=.busy })):=hKb _ _ _ _ ad hl rfl;refine wpIn_mono (hbody _ pre y _ (hI.putObj _ hi ad hl rfl) (vL _ _ _ _ _ _ hl rfl hlen)) ?_;have fin:∀ (jump:Option Code) (W3:World),KeepsFrom w.heap.size (W.putObj (w.heap.size+1) (.loop { rec .ready none with state:=.busy })) W3->
    (Instr.endRound (w.heap.size+1) jump).run P W3=.ok (.bool jump.isNone) (W3.putObj (w.heap.size+1) (.loop (rec (if jump.isNone then .ready else .done) jump)))/\
    W3.heap[w.heap.size+1]? = some (.loop { rec .ready none with state:=.busy })/\
    (W3.putObj (w.heap.size+1) (.loop (rec (if jump.isNone then .ready else .done) jump))).heap[w.heap.size+1]? = some (.loop (rec (if jump.isNone then .ready else .done) jump))/\
    (W3.putObj (w.heap.size+1) (.loop (rec (if jump.isNone then .ready else .done) jump))).heap[w.heap.size]? = some (.deferred (some [])):=λjump W3 hk3=>by
   have hl3:=hk3.same _ _ ad hl2 rfl;have:=run_endRound (P:=P) jump hl3;rw [bS] at this ⊢;exact ⟨this,by rw [bS] at hl3;exact hl3,Z5 (Q0.1 hl3).1,(N3 ad).trans (hk3.same _ _ (TZ _) hk2 rfl)⟩
  rintro e a3 W3 hp;cases e with
  | normal=>
   obtain ⟨hk3,ss,gp⟩:=hp;obtain ⟨hr,hl3,hl4,hk4⟩:=fin none W3 hk3;exact ⟨_,_,hr,rfl,⟨hI.putObj _ gp ad hl3 rfl,hl4,hk4⟩,hKt (hKt hw2 ss) (hKb _ _ _ _ ad hl3 rfl)⟩
  | _=>exact hp.elim
 rintro e W2 ⟨⟨v,rfl⟩,xs,hS,hi,hl,hk⟩;exact ⟨none,_,by have:=run_endLoop (P:=P) hl (by rw [bS];simp);rw [bS] at this;exact this,hdone _ xs _ (TZ _) hS (hI.putObj _ hi ad hl rfl) ((N3 ad).trans hk)⟩
end
end Go
section
variable {b:Bool}{F P a at_ d f r s step x y:Int}{m out:List (List Kal.Per)}{l:List Int}{L:List Go.Proofs.YtbmgmlbmgogeaaaGreat.PV}{t u:List Kal.Per}{cs xs:List Go.Value}{B base c cap g hi j k lo n sz:Nat}{row:Option Nat}{p q:Kal.Per}{h v v':Go.Value}{A C W W' w:Go.World}
namespace Go.Proofs.YtbmgmlbmgogeaaaGreat
section
open Go.RowKit Go.Shelf Kal
attribute [local go_sem] GC
theorem b7.keep2 {F:Nat->Prop} (h:b7 W F v n cs) (hk:aP F W W'):b7 W' F v n cs:=by
 obtain ⟨a,c,rfl,h1,h2,h3⟩:=h;refine ⟨a,c,rfl,h1,h2,h3.imp id ?_⟩;rintro ⟨b,o,rfl,hF,hl,hc⟩;refine ⟨b,o,rfl,hF,?_,λi u hi=>(QM (hk b hF hl)).trans (hc i u hi)⟩;have h1:=hk b hF hl;rw [zo hl] at h1;exact (Q0.1 h1).1
theorem gR.keep2 {F:Nat->Prop} (h:gR W F v L) (hk:aP F W W'):gR W' F v L:=⟨h.row.keep2 hk,h.len,λx hx=>(h.all x hx).keep hk⟩
theorem bK.keep2 {F:Nat->Prop} (h:bK W F v t) (hk:aP F W W'):bK W' F v t:=by
 obtain ⟨L,e,g⟩:=h;exact ⟨L,e,g.keep2 hk⟩
theorem cI.keep2 {F:Nat->Prop} {L:List (Value × List Per)} (h:cI W F v L) (hk:aP F W W'):cI W' F v L:=⟨h.row.keep2 hk,h.len,λx hx=>(h.all x hx).keep2 hk⟩
def Bm (W:World) (b:Nat):Prop:=∃ o:Obj,W.heap[b]? = some o/\o.isCells=true
theorem Kh {b o:Nat} {u:Value} (h:W.cell? ⟨b,o,none⟩=some u):Bm W b:=by
 unfold World.cell? at h;cases hb:W.heap[b]? with
 | none=>simp [hb] at h
 | some x=>
  simp only [hb] at h;cases x with
  | cells c t f=>exact ⟨_,hb,rfl⟩
  | _=>simp at h
theorem Ints.cellB (h:Ints W v l) (hl:l≠[]) (hk:v.ownBlock=some k):Bm W k:=by
 obtain ⟨⟨a,c,rfl,h1,h2,h3⟩,h4,h5⟩:=h;rcases h3 with h3|⟨b,o,rfl,hc⟩
 .exact absurd h3 hl
 simp [Value.ownBlock] at hk;subst hk;exact Kh (hc 0 (YA.2 hl))
theorem bD.cellB {F:Nat->Prop} {x:PV} (h:bD W F x):bD W (Bm W) x:=
 ⟨h.is,h.fr,h.pe,λe k hk=>h.is.hd.cellB e hk,λe k hk=>h.is.cy.cellB e hk⟩
theorem gR.cellB {F:Nat->Prop} (h:gR W F v L):gR W (Bm W) v L:=by
 refine ⟨?_,h.len,λx hx=>(h.all x hx).cellB⟩;obtain ⟨a,c,rfl,h1,h2,h3⟩:=h.row;refine ⟨a,c,rfl,h1,h2,?_⟩;by_cases hL:L.length=0
 .exact .inl hL
 rcases h3 with h3|⟨b,o,rfl,hb,hl,hc⟩
 .exact .inl h3
 exact .inr ⟨b,o,rfl,Kh (hc (0*4+0) _ (nA ad rfl)),hl,hc⟩
theorem bK.put {F:Nat->Prop} {l:Nat} {o o':Obj} (h:bK W F v t) (hl:W.heap[l]? = some o) (ho:o.isCells=false):bK (W.putObj l o') (Bm W) v t:=by
 obtain ⟨L,e,g⟩:=h;refine ⟨L,e,g.cellB.keep2 λb hb _=>N3 ?_⟩;obtain ⟨x,hx,hc⟩:=hb;rintro rfl;rw [hl] at hx;cases hx;rw [ho] at hc;cases hc
def sX (y:Value × List Per):Array Value:=#[y.1]
def wT (T:List (List Per)) (pre:List (Value × List Per)) (y:Value × List Per) (W:World):Prop:=(∃ r,T=pre.map Prod.snd ++ y.2 :: r)/\∃ F,bK W F y.1 y.2
def q0s (T:List (List Per)) (xs:List (Value × List Per)):Prop:=xs.map Prod.snd=T
def KT (g:Nat) (lb:Array Value) (T:List (List Per)) (w:World):Prop:=
 (∀ args w,(callFunc g args).run Tryz.prog w=.ok (.enter g args) w)/\∀ W,Below w.heap.size w W->EU Tryz.prog g lb sX (de λk=>k<w.heap.size) none (wT T) (q0s T) W
theorem Xu (v:Value) (w:World) (hv:∃ a n c,v=.slice a n c) :
  Calls Tryz.prog 110 #[v] w λe w'=>e=.returned (.func (.func 147) #[] #[.pointer (some ⟨w.heap.size,0,none⟩)])/\w'=w.alloc (.cells #[v] 55):=by
 obtain ⟨a,n,c,rfl⟩:=hv
 go_in
 go_wp2;go_ret;exact ⟨rfl,rfl⟩
theorem o2_ {L:List (Value × List Per)} {T:List (List Per)} (hT:L.map Prod.snd=T) (hk:k<L.length):T=T.take k ++ (L.getD k default).2 :: T.drop (k+1)/\T.take (k+1)=T.take k ++ [(L.getD k default).2]:=by
 subst hT;have h1:k<(L.map Prod.snd).length:=by simpa using hk
 have h2:(L.getD k default).2=(L.map Prod.snd)[k]:=by simp [VS,hk]
 rw [h2];exact ⟨by rw [<- GE h1,S0],LF h1⟩
theorem Xv (F:Nat->Prop) (v:Value) (T:List (List Per)) (b:Nat) (w:World) (hm:aF w F v T) (hb:w.cell? ⟨b,0,none⟩=some v) :
  KT 147 #[.pointer (some ⟨b,0,none⟩)] T w:=by
 refine ⟨enters_of Tryz.func147 (by kernel_rfl) rfl,λW0 hW0=>?_⟩;obtain ⟨L,UK,hL⟩:=hm;intro l' J W hW hJ hY rP;have hlt:=N8 w _ hb;have xV:Below w.heap.size w W:=hW0.trans (hW.mono hW0.size);have hb1:=an.cell xV hb;obtain ⟨a1,c1,rfl,hx1,hx2,_⟩:=hL.row.is;have fA:=hL.len;have HL:Hid (∀ wr,de (λk=>k<w.heap.size) W wr->cI wr (λb=>F b/\b<w.heap.size) (.slice a1 L.length c1) L):=af λwr h=>hL.lt.keep2 λb hb _=>(h b hb.2).trans (xV.block b hb.2);have bU:=af UK;have HJ:=af hJ;have HY:=af hY;clear hL UK hJ hY hb;refine K6 Tryz.func147 rfl trivial ?_ rfl;simp only [Tryz.ntmps147,NG,MH,M4,Nat.reduceAdd,Nat.reduceSub,N0,K7,Q3,QG,L4,S5];gi_wp2_with fail;gi_loopw [4,7] (λ_ i wr=>∃ (k:Nat) (pre:List (Value × List Per)),k<=L.length/\i=.int .i64 k/\Hid (pre.map Prod.snd=T.take k)/\J pre wr/\de (λk=>k<w.heap.size) W wr) (λ_ i _=>L.length-(intOf i).toNat)
 .exact ⟨0,[],ad,rfl,af rfl,rP,λ_ _=>rfl⟩
 obtain ⟨k,pre,hk,rfl,HP,dK,hK⟩:=hrel;have HK:=af hK;have jy:=af dK;have dF:=HL.o wr hK;clear hK dK;by_cases hlt2:k<L.length
 .have cP:(k:Int)<L.length:=ad;obtain ⟨a',c',he,_,_,h3⟩:=dF.row.is;injection he with e1 e2 e3
  subst e1;subst e3;rcases h3 with h0|⟨b8,f8,rfl,hF,eo,hcell⟩
  .omega
  have e0:wr.cell? ⟨b8,f8+k,none⟩=some (L.getD k default).1:=hcell k _ (by rw [OA,VS,U2 hlt2];rfl);have kR:=dF.all _ (dI (d:=default) hlt2);obtain ⟨t1,t2⟩:=o2_ bU.o hlt2;have T2:=af t2;generalize L.getD k default=y at *;have vL:wT T pre y wr:=⟨⟨_,by rw [HP.o];exact t1⟩,_,kR⟩;obtain ⟨fn,tmps,assign,body,i_,hR⟩:=HY.o pre y wr jy.o vL;clear hcell kR t1 t2 vL dF;unfold sX at i_
  gi_wp2
  refine ⟨rfl,hR.mono ?_⟩;rintro e W' ⟨rfl,gS,eQ⟩
  gi_wp2
  go_roundw
  .exact ⟨k+1,pre ++ [y],ad,by go_num,af (by rw [UZ,HP.o,T2.o];rfl),gS,HK.o.trans eQ⟩
  simp [intOf];omega
 obtain rfl:k=L.length:=ad;clear dF
 gi_wp2
 refine bodyPost_end (QX rfl _ _ _) rfl ?_;refine ⟨⟨_,rfl⟩,pre,?_,jy.o⟩;show _=T;rw [HP.o,<- bU.o,PM aj]
end
section
open Go.RowKit Go.Maps Kal
def cU (B:Nat) (A:Nat->Prop) (v:Value) (b:Nat):Prop:=B<=b/\¬ A b/\v.ownBlock≠some b
structure aZ (B:Nat) (A:Nat->Prop) (W:World) (v:Value) (L:List (Value × List Per)):Prop where
 row:W.ownsRow B 78 1 v L.length (L.map Prod.fst)
 all:∀ x∈L,bK W (cU B A v) x.1 x.2
 ne:∀ g,v.ownBlock=some g->¬ A g
 len:L.length<=1000000
theorem aZ.nil (B:Nat) (A:Nat->Prop) (W:World):aZ B A W (.slice none 0 0) []:=⟨q8f W B 78 1,aj,by simp [Value.ownBlock],aj⟩
theorem aZ.form {A:Nat->Prop} {L:List (Value × List Per)} (h:aZ B A W v L):∃ a c,v=.slice a L.length c/\L.length<=c/\c<=9223372036854775807/\(L.length=0\/∃ g,a=some ⟨g,0,none⟩):=by
 obtain ⟨_,⟨rfl,h2⟩|⟨g,cap,cur,rfl,_,_,h3,h4,_⟩⟩:=h.row
 .exact ⟨none,0,by rw [h2],ad,ad,.inl h2⟩
 exact ⟨_,cap,rfl,h3,h4,.inr ⟨g,rfl⟩⟩
theorem aZ.below {A:Nat->Prop} {L:List (Value × List Per)} (h:aZ B A W v L) (hb:Below W.heap.size W W'):aZ B A W' v L:=
 ⟨h.row.kept (row:=none) (World.grownBy.of_below hb _) (by cases v.ownBlock <;> simp),λx hx=>(h.all x hx).ext hb,h.ne,h.len⟩
theorem aZ.box {A:Nat->Prop} {L:List (Value × List Per)} (h:aZ B A W v L) (hg:W.grownBy W' (some k)) (hA:A k):aZ B A W' v L:=
 ⟨h.row.kept hg (.inr λe=>h.ne k e hA),λx hx=>(h.all x hx).keep (aP.grown hg λhf=>hf.2.1 hA) hg.size,h.ne,h.len⟩
theorem aZ.mono {A A':Nat->Prop} {L:List (Value × List Per)} (h:aZ B A W v L) (hs:∀ k,A' k->A k\/W.heap.size<=k):aZ B A' W v L:=
 ⟨h.row,λx hx=>((h.all x hx).lt).mono λb hb=>⟨hb.1.1,λha=>(hs b ha).elim hb.1.2.1 λhl=>by have:=hb.2;omega,hb.1.2.2⟩,λg hg ha=>(hs g ha).elim (h.ne g hg) λhl=>by have:=(h.row.lt g hg).2;omega,h.len⟩
theorem aZ.push {A:Nat->Prop} {L:List (Value × List Per)} {y:Value × List Per} (h:aZ B A W v L) (hy:bK W (cU B A v) y.1 y.2) (hr:W'.ownsRow B 78 1 v' (L.length+1) (L.map Prod.fst ++ [y.1])) (hg:W.grownBy W' v.ownBlock)
  (hb:v'.ownBlock=v.ownBlock\/v'.ownBlock=some W.heap.size) (hA:¬ A W.heap.size) (hl:L.length<1000000):aZ B A W' v' (L ++ [y]):=by
 have key:∀ {u:Value} {t:List Per},bK W (cU B A v) u t->bK W' (cU B A v') u t:=λht=>by
  refine (ht.lt.keep (λb hb hl=>hg.block b hl λe=>hb.1.2.2 e.symm) hg.size).mono λb hb'=>⟨hb'.1.1,hb'.1.2.1,?_⟩;rcases hb with e|e
  .rw [e];exact hb'.1.2.2
  rw [e];rintro ⟨⟩;have:=hb'.2;omega
 refine ⟨by rw [MB,UZ];exact hr,λx hx=>?_,λg fe=>?_,aR⟩
 .rcases VJ.1 hx with hx|hx
  .exact key (h.all x hx)
  obtain rfl:x=y:=by simpa using hx
  exact key hy
 rcases hb with e|e
 .exact h.ne g (e ▸ fe)
 rw [e] at fe;cases fe;exact hA
theorem aZ.get {A:Nat->Prop} {L:List (Value × List Per)} (h:aZ B A W v L) (hv:v=.slice (some ⟨g,0,none⟩) n c) (hk:k<L.length) :
  bK W (cU B A v) (L.getD k default).1 (L.getD k default).2/\W.cell? ⟨g,k,none⟩=some (L.getD k default).1/\∀ i,W.frozen? ⟨g,i,none⟩=false:=by
 have hn:n=L.length:=by
  obtain ⟨_,_,e,_⟩:=h.form;rw [hv] at e;cases e;rfl
 subst hn;subst hv;refine ⟨h.all _ (dI hk),(h.row.cellAt k ad).trans ?_,λi=>h.row.frozenAt i⟩;rw [OA,VS,U2 hk];rfl
theorem aZ.set {A:Nat->Prop} {L:List (Value × List Per)} {y:Value × List Per} (h:aZ B A W (.slice (some ⟨g,0,none⟩) n c) L) (k:Nat) (hy:bK W (cU B A (.slice (some ⟨g,0,none⟩) n c)) y.1 y.2) :
  aZ B A (W.setCell ⟨g,k,none⟩ y.1) (.slice (some ⟨g,0,none⟩) n c) (L.set k y):=by
 have hn:n=L.length:=by
  obtain ⟨_,_,e,_⟩:=h.form;cases e;rfl
 subst hn;have hg:W.grownBy (W.setCell ⟨g,k,none⟩ y.1) (some g):=World.grownBy.set' ⟨rfl,rfl,rfl,TZ _,λ_ _ _=>rfl⟩ _;have key:∀ {u:Value} {t:List Per},bK W (cU B A (.slice (some ⟨g,0,none⟩) L.length c)) u t->bK (W.setCell ⟨g,k,none⟩ y.1) (cU B A (.slice (some ⟨g,0,none⟩) L.length c)) u t:=λht=>ht.keep (aP.grown hg λhf=>hf.2.2 rfl) hg.size;refine ⟨?_,λx hx=>?_,h.ne,by rw [OF];exact h.len⟩
 .rw [OF,yg];exact (h.row.stored k y.1).1
 rcases YM hx with hx|rfl
 .exact key (h.all x hx)
 exact key hy
theorem bK.one {F:Nat->Prop} (h:bK W F v t):v.oneCell'=true:=by
 obtain ⟨L,_,hL⟩:=h;obtain ⟨a,c,rfl,_⟩:=hL.row.is;rfl
theorem r3_ (B:Nat) (A:Nat->Prop) (g n c jj:Nat) (L:List (Value × List Per)) (W:World) (h:aZ B A W (.slice (some ⟨g,0,none⟩) n c) L) (hj:jj<L.length) :
  Calls Tryz.prog 142 #[.slice (some ⟨g,0,none⟩) n c,.int .i64 jj,.int .i64 (jj+1)] W λe w'=>e=.returned (.slice (some ⟨g,0,none⟩) (L.length-1) c)/\aZ B A w' (.slice (some ⟨g,0,none⟩) (L.length-1) c) (L.eraseIdx jj)/\W.grownBy w' (some g):=by
 have hn:n=L.length:=by
  obtain ⟨_,_,e,_⟩:=h.form;cases e;rfl
 subst hn;refine (ql_ B g L.length c jj _ W h.row hj λu hu=>?_).mono λe w' ⟨h1,h2,h3⟩=>⟨h1,⟨?_,λx hx=>?_,h.ne,?_⟩,h3⟩
 .obtain ⟨x,hx,rfl⟩:=VC.1 hu;exact (h.all x hx).one
 .have hl:(L.eraseIdx jj).length=L.length-1:=YD hj;have hm:(L.eraseIdx jj).map Prod.fst=(L.map Prod.fst).take (jj*1) ++ (L.map Prod.fst).drop ((jj+1)*1):=by
   rw [q7v,UZ,Y8,List.map_drop,QJ,QJ]
  rw [hl,hm];exact h2
 .exact (h.all x (Y_ hx)).keep (aP.grown h3 λhf=>hf.2.2 rfl) h3.size
 have:=h.len;have:=YD hj;omega
theorem bK.cellF {F:Nat->Prop} (h:bK W F v t):bK W (λb=>F b/\Bm W b) v t:=by
 obtain ⟨L,e,g⟩:=h;refine ⟨L,e,?_,g.len,λx hx=>⟨(g.all x hx).is,(g.all x hx).fr,(g.all x hx).pe,λe k hk=>⟨(g.all x hx).bh e k hk,(g.all x hx).is.hd.cellB e hk⟩,λe k hk=>⟨(g.all x hx).bc e k hk,(g.all x hx).is.cy.cellB e hk⟩⟩⟩;obtain ⟨a,c,rfl,h1,h2,h3⟩:=g.row;refine ⟨a,c,rfl,h1,h2,?_⟩;by_cases hL:L.length=0
 .exact .inl hL
 rcases h3 with h3|⟨b,o,rfl,hb,hl,hc⟩
 .exact .inl h3
 exact .inr ⟨b,o,rfl,⟨hb,Kh (hc (0*4+0) _ (nA ad rfl))⟩,hl,hc⟩
theorem aZ.grow {A:Nat->Prop} {L:List (Value × List Per)} (h:aZ B A W v L) (hg:W.grownBy W' row) (hr:∀ r,row=some r->∃ o:Obj,W.heap[r]? = some o/\o.isCells=false):aZ B A W' v L:=by
 refine ⟨h.row.kept hg ?_,λx hx=>((h.all x hx).cellF.keep (λb hb hl=>hg.block b hl ?_) hg.size).mono λb hb=>hb.1,h.ne,h.len⟩
 .rcases cL:v.ownBlock with _|g
  .exact .inl rfl
  refine .inr λe=>?_;obtain ⟨o,h1,h2⟩:=hr g e.symm;obtain ⟨_,⟨rfl,_⟩|⟨g',cap,cur,rfl,_,hh,_⟩⟩:=h.row
  .simp [Value.ownBlock] at cL
  simp [Value.ownBlock] at cL;subst cL;rw [hh] at h1;cases h1;cases h2
 rintro e;obtain ⟨o,h1,h2⟩:=hr b e.symm;obtain ⟨o',h3,h4⟩:=hb.2;rw [h1] at h3;cases h3;rw [h2] at h4;cases h4
theorem aZ.mix {A:Nat->Prop} {L:List (Value × List Per)} (h:aZ B A W v L):cI W (λb=>B<=b) v L:=by
 refine ⟨?_,by have:=h.len;omega,λx hx=>(h.all x hx).mono λb hb=>hb.1⟩;obtain ⟨hl,⟨rfl,h2⟩|⟨g,cap,cur,rfl,hb,hg,h3,h4,h5,h6⟩⟩:=h.row
 .rw [h2];exact ⟨none,0,rfl,ad,ad,.inl rfl⟩
 refine ⟨_,cap,rfl,h3,h4,.inr ⟨g,0,rfl,hb,(h.row.lt g rfl).2,λi u hi=>?_⟩⟩;rw [S1];have:=(GD.1 hi).1;rw [U6] at this;exact (h.row.cellAt i ad).trans hi
theorem aZ.shut {C:Nat} {A:Nat->Prop} {L:List (Value × List Per)} (h:aZ B A W v L) (hs:SN C W W'):aZ B A W' v L:=by
 refine ⟨⟨h.row.1,?_⟩,λx hx=>((h.all x hx).cellF.keep2 λb hb _=>?_).mono λb hb=>hb.1,h.ne,h.len⟩
 .rcases h.row.2 with h2|⟨g,cap,cur,e,hb,hg,rest⟩
  .exact .inl h2
  exact .inr ⟨g,cap,cur,e,hb,hs.cells _ _ hg rfl,rest⟩
 obtain ⟨o,h1,h2⟩:=hb.2;exact (hs.cells _ _ h1 h2).trans h1.symm
theorem qx_ (F G:Nat->Prop) (v tv:Value) (t u:List Per) (tb:Nat) (w:World) (hv:bK w F v t) (ht:bK w G tv u) (hc:w.cell? ⟨tb,0,none⟩=some tv) :
  Calls Tryz.prog 143 #[v,.pointer (some ⟨tb,0,none⟩)] w λe w'=>e=.returned (.bool (xQ t u))/\Below w.heap.size w w':=by
 have H:=nw_ F G v tv t u w hv ht;have hlt:=N8 w _ hc;obtain ⟨a1,c1,rfl,_⟩:=hv.form;obtain ⟨a2,c2,rfl,_⟩:=ht.form;clear hv ht;generalize xQ t u=b at H ⊢
 go_in
 go_wp2_with (go_at_call 144;refine H.mono ?_;rintro e w1 ⟨rfl,hb1⟩)
 go_ret;exact ⟨rfl,xE⟩
theorem nv_ (F G:Nat->Prop) (ov:Value) (LO:List (Value × List Per)) (tv:Value) (u:List Per) (tb:Nat) (w:World) (hL:cI w F ov LO) (ht:bK w G tv u) (hc:w.cell? ⟨tb,0,none⟩=some tv) :
  Calls Tryz.prog 107 #[ov,.func (.func 143) #[] #[.pointer (some ⟨tb,0,none⟩)]] w λe w'=>∃ b,e=.returned (.bool b)/\(b=true↔u∈LO.map Prod.snd)/\Below w.heap.size w w':=by
 have h:=OU F ov LO (λx=>xQ x.2 u) 143 #[.pointer (some ⟨tb,0,none⟩)] (enters_of Tryz.func143 (by kernel_rfl) rfl) w hL.row hL.len (λW x hW hx=>by
  have h:=qx_ F G x.1 tv x.2 u tb W ((hL.all x hx).ext hW) (ht.ext hW) (an.cell hW hc);have e:(#[x.1] ++ #[Value.pointer (some ⟨tb,0,none⟩)])=#[x.1,.pointer (some ⟨tb,0,none⟩)]:=by simp
  rw [e];exact h.mono λe w' ⟨h1,h2⟩=>⟨h1,hW.trans (h2.mono hW.size)⟩)
 refine h.mono λe w' ⟨h1,h2⟩=>⟨_,h1,?_,h2⟩;rw [G8,VC];constructor
 .rintro ⟨x,hx,hs⟩;refine ⟨x,hx,?_⟩;by_cases he:x.2=u
  .exact he
  rw [Pd he] at hs;cases hs
 rintro ⟨x,hx,he⟩;exact ⟨x,hx,Xr he⟩
end
end Go.Proofs.YtbmgmlbmgogeaaaGreat
end
