/- Part 5 of the proof of MixedMatchesReference_said. -/
import Derived.Test.YthjnojbeimchdaaGreatQ1
import Derived.Test.YthjnojbeimchdaaGreatQ4
import Derived.Laws.EntriesVeiled
import Derived.Deep.RegionLaw
import Derived.Lib.SliceRun
import Derived.ScopeJumps
import Derived.Test.YthjnojbeimchdaaGreatQ2
set_option linter.unusedVariables false
set_option linter.unusedSimpArgs false
set_option maxRecDepth 100000
set_option maxHeartbeats 4000000
section
variable {b:Bool}{F P a at_ d f n r s step x y:Int}{T m out:List (List Kal.Per)}{l:List Int}{L:List Go.Proofs.YthjnojbeimchdaaGreat.PV}{t u:List Kal.Per}{cs xs:List Go.Value}{B base c cap g hi i j k:Nat}{row:Option Nat}{p q:Kal.Per}{h v:Go.Value}{A W W' w:Go.World}
namespace Kal
theorem p1_ {a b d:Nat} (hd0:0<d) (hd:d∣Nat.lcm a b):d∣Nat.lcm (Nat.gcd d a) (Nat.gcd d b):=by
 have hg:0<Nat.gcd (Nat.gcd d a) (Nat.gcd d b):=Nat.gcd_pos_of_pos_left _ (Nat.gcd_pos_of_pos_left _ hd0);have e1:Nat.gcd (Nat.gcd d a) (Nat.gcd d b)*Nat.lcm (Nat.gcd d a) (Nat.gcd d b)=Nat.gcd d a*Nat.gcd d b:=Nat.gcd_mul_lcm _ _;refine Nat.dvd_of_mul_dvd_mul_left hg ?_;rw [e1];have g1:Nat.gcd (Nat.gcd d a) (Nat.gcd d b)∣d:=Nat.dvd_trans (Nat.gcd_dvd_left _ _) (Nat.gcd_dvd_left _ _);have g2:Nat.gcd (Nat.gcd d a) (Nat.gcd d b)∣a:=Nat.dvd_trans (Nat.gcd_dvd_left _ _) (Nat.gcd_dvd_right _ _);have g3:Nat.gcd (Nat.gcd d a) (Nat.gcd d b)∣b:=Nat.dvd_trans (Nat.gcd_dvd_right _ _) (Nat.gcd_dvd_right _ _);generalize Nat.gcd (Nat.gcd d a) (Nat.gcd d b)=g at *;rw [<- Nat.gcd_mul_left];refine Nat.dvd_gcd ?_ ?_
 ·rw [Nat.mul_comm (Nat.gcd d a),Nat.mul_comm g];exact Nat.mul_dvd_mul_left _ (Nat.dvd_gcd g1 g2)
 ·rw [<- Nat.gcd_mul_right];refine Nat.dvd_gcd ?_ ?_
  ·rw [Nat.mul_comm g];exact Nat.mul_dvd_mul_left _ g3
  ·have h:=Nat.mul_dvd_mul (Nat.dvd_gcd g2 g3) hd;rwa [Nat.gcd_mul_lcm] at h
def lcmL (l:List Nat):Nat:=l.foldr Nat.lcm 1
theorem k3_:∀ {l:List Nat},(∀ a∈l,0<a)->0<lcmL l
 | [],_=>by decide
 | a :: l,h=>Nat.lcm_pos (h a sq_) (k3_ fun b hb=>h b (by simp [hb]))
theorem k2_:∀ {l:List Nat} {a:Nat},a∈l->a∣lcmL l
 | b :: l,a,h=>by
  rcases List.mem_cons.1 h with rfl|h
  ·exact Nat.dvd_lcm_left _ _
  ·exact Nat.dvd_trans (k2_ h) (Nat.dvd_lcm_right _ _)
theorem ix_ {m z:Nat} (hm:0<m):∀ {l:List Nat},(∀ a∈l,Nat.gcd m a∣z)->Nat.gcd m (lcmL l)∣z
 | [],_=>by simp [lcmL]
 | a :: l,h=>by
  have ih:=ix_ hm (l:=l) fun b hb=>h b (by simp [hb]);have ha:=h a sq_;have hd0:0<Nat.gcd m (lcmL (a :: l)):=Nat.gcd_pos_of_pos_left _ hm;have hd:Nat.gcd m (lcmL (a :: l))∣Nat.lcm a (lcmL l):=Nat.gcd_dvd_right _ _;have hdm:Nat.gcd m (lcmL (a :: l))∣m:=Nat.gcd_dvd_left _ _;generalize Nat.gcd m (lcmL (a :: l))=d at *;refine Nat.dvd_trans (p1_ hd0 hd) (Nat.lcm_dvd (Nat.dvd_trans ?_ ha) (Nat.dvd_trans ?_ ih))
  ·exact Nat.dvd_gcd (Nat.dvd_trans (Nat.gcd_dvd_left _ _) hdm) (Nat.gcd_dvd_right _ _)
  ·exact Nat.dvd_gcd (Nat.dvd_trans (Nat.gcd_dvd_left _ _) hdm) (Nat.gcd_dvd_right _ _)
theorem bq_ {m:Int} (h:x % m=y % m):m∣x-y:=Int.dvd_of_emod_eq_zero (Int.emod_eq_emod_iff_emod_sub_eq_zero.1 h)
theorem bp_ {m:Int} (h:m∣x-y):x % m=y % m:=Int.emod_eq_emod_iff_emod_sub_eq_zero.2 (Int.emod_eq_zero_of_dvd h)
theorem oo_:∀ (l:List (Int × Int)),(∀ x∈l,1≤x.1)->l.Pairwise (fun x y=>((Int.gcd x.1 y.1:Nat):Int)∣x.2-y.2)->∃ n:Int,∀ x∈l,n % x.1=x.2 % x.1
 | [],_,_=>⟨0,sq_⟩
 | (m,r) :: l,h,hp=>by
  obtain ⟨n,hn⟩:=oo_ l (fun x hx=>h x (by simp [hx])) (List.pairwise_cons.1 hp).2;have hm:1≤m:=h (m,r) sq_;have hL:0<lcmL (l.map fun x=>x.1.natAbs):=k3_ fun a ha=>by
   obtain ⟨x,hx,rfl⟩:=List.mem_map.1 ha;have:=h x (by simp [hx]);omega
  have key:Nat.gcd m.natAbs (lcmL (l.map fun x=>x.1.natAbs))∣(r-n).natAbs:=ix_ oq_ fun a ha=>by
   obtain ⟨x,hx,rfl⟩:=List.mem_map.1 ha;have h1:((Int.gcd m x.1:Nat):Int)∣r-x.2:=(List.pairwise_cons.1 hp).1 x hx;have h2:x.1∣n-x.2:=bq_ (hn x hx);have h3:((Int.gcd m x.1:Nat):Int)∣n-x.2:=Int.dvd_trans (Int.gcd_dvd_right _ _) h2;have h4:((Int.gcd m x.1:Nat):Int)∣r-n:=by
    have:=Int.dvd_sub h1 h3;rwa [show r-x.2-(n-x.2)=r-n from by omega] at this
   exact Int.natCast_dvd_natCast.1 (Int.dvd_natAbs.2 h4)
  have key2:r % (Int.gcd m (lcmL (l.map fun x=>x.1.natAbs)):Nat)=n % (Int.gcd m (lcmL (l.map fun x=>x.1.natAbs)):Nat):=bp_ (Int.dvd_natAbs.1 (Int.natCast_dvd_natCast.2 (by simpa [Int.gcd] using key)));obtain ⟨v,hv⟩:∃ v,fw_ r m n (lcmL (l.map fun x=>x.1.natAbs)) v:=⟨_,eg_ hm oq_ key2⟩;refine ⟨v,fun x hx=>?_⟩;rcases List.mem_cons.1 hx with rfl|hx
  ·exact hv.2.2.1
  ·rw [<- hn x hx];have h5:((lcmL (l.map fun x=>x.1.natAbs):Nat):Int)∣v-n:=bq_ hv.2.2.2;have h6:x.1∣((lcmL (l.map fun x=>x.1.natAbs):Nat):Int):=by
    have h7:x.1.natAbs∣lcmL (l.map fun x=>x.1.natAbs):=k2_ (List.mem_map.2 ⟨x,hx,rfl⟩);exact Int.natAbs_dvd.1 (Int.natCast_dvd_natCast.2 h7)
   exact bp_ (Int.dvd_trans h6 h5)
def tmem (t:List Per) (n:Int):Prop:=∀ p∈t,p.mem n
def mmem (m:List (List Per)) (n:Int):Prop:=∃ t∈m,tmem t n
def c6_ (a:Int) (t:List Per):Int:=t.foldl (fun a p=>max a p.frm) a
def ba_ (t:List Per):Int:=c6_ 0 t
theorem lx_:∀ (t:List Per) (a:Int),a≤c6_ a t∧∀ p∈t,p.frm≤c6_ a t
 | [],a=>⟨Int.le_refl _,sq_⟩
 | q :: t,a=>by
  obtain ⟨h1,h2⟩:=lx_ t (max a q.frm);refine ⟨by show a≤c6_ (max a q.frm) t;omega,fun p hp=>?_⟩;show p.frm≤c6_ (max a q.frm) t;rcases List.mem_cons.1 hp with rfl|hp
  ·omega
  ·exact h2 p hp
theorem is_:∀ (t:List Per) (a:Int),c6_ a t=a∨∃ p∈t,c6_ a t=p.frm
 | [],a=>.inl rfl
 | q :: t,a=>by
  rcases is_ t (max a q.frm) with h|⟨p,hp,h⟩
  ·by_cases hq:q.frm≤a
   ·left;show c6_ (max a q.frm) t=a;omega
   ·right;exact ⟨q,sq_,by show c6_ (max a q.frm) t=q.frm;omega⟩
  ·exact .inr ⟨p,by simp [hp],h⟩
theorem fg_:0≤ba_ t∧∀ p∈t,p.frm≤ba_ t:=lx_ t 0
theorem lv_ {b:Int} (h0:a≤b) (h:∀ p∈t,p.frm≤b):c6_ a t≤b:=by
 rcases is_ t a with h1|⟨p,hp,h1⟩
 ·omega
 ·have:=h p hp;omega
def resP (p:Per) (c:Int):Int:=(p.frm % p.period+c) % p.period
theorem ht_ (h:p.WF) (hn:p.frm≤n):p.mem n↔∃ c∈p.cycle,n % p.period=resP p c:=by
 have h0:=h.frm;have h1:=h.per;rw [Per.mem_hi oq_ hn];constructor
 ·intro hm;refine ⟨_,hm,?_⟩;unfold resP;rw [<- Int.add_emod,show p.frm+(n-p.frm)=n from by omega]
 ·rintro ⟨c,hc,he⟩;have hb:=h.cyc.2 c hc;unfold resP at he;rw [show (p.frm % p.period+c) % p.period=(p.frm+c) % p.period from by rw [Int.add_emod,Int.emod_emod,<- Int.add_emod]] at he;have hd:(n-p.frm) % p.period=c:=by
   have h2:p.period∣n-(p.frm+c):=bq_ he;have h3:(n-p.frm) % p.period=c % p.period:=bp_ (by rw [show n-p.frm-c=n-(p.frm+c) from by omega];exact h2);rw [h3,Int.emod_eq_of_lt hb.1 hb.2]
  rw [hd];exact hc
theorem h2_ (h:p.WF) (c:Int):0≤resP p c∧resP p c<p.period:=
 ⟨Int.emod_nonneg _ (by have:=h.per;omega),Int.emod_lt_of_pos _ (by have:=h.per;omega)⟩
def fr_ (done:List (Int × Int)) (P r:Int):Prop:=∀ x∈done,(r-x.2) % ((Int.gcd P x.1:Nat):Int)=0
def Ext:List (Int × Int)->List Per->Prop
 | _,[]=>True
 | done,p :: t=>∃ c∈p.cycle,fr_ done p.period (resP p c)∧Ext (done ++ [(p.period,resP p c)]) t
theorem su_:∀ (t:List Per) (done:List (Int × Int)),(∀ x∈done,x.2=n % x.1)->(∀ p∈t,p.WF∧p.frm≤n∧p.mem n)->Ext done t
 | [],_,_,_=>trivial
 | p :: t,done,hd,ht=>by
  obtain ⟨hw,hf,hm⟩:=ht p sq_;obtain ⟨c,hc,he⟩:=(ht_ hw hf).1 hm;refine ⟨c,hc,fun x hx=>?_,su_ t _ (fun x hx=>?_) (fun q hq=>ht q (by simp [hq]))⟩
  ·rw [hd x hx,<- he];have h1:((Int.gcd p.period x.1:Nat):Int)∣n % p.period-n:=by
    have:=Int.emod_add_mul_ediv n p.period;refine Int.dvd_trans (Int.gcd_dvd_left _ _) ⟨-(n / p.period),?_⟩;rw [Int.mul_neg];omega
   have h2:((Int.gcd p.period x.1:Nat):Int)∣n % x.1-n:=by
    have:=Int.emod_add_mul_ediv n x.1;refine Int.dvd_trans (Int.gcd_dvd_right _ _) ⟨-(n / x.1),?_⟩;rw [Int.mul_neg];omega
   have:=Int.dvd_sub h1 h2;exact Int.emod_eq_zero_of_dvd (by rwa [show n % p.period-n-(n % x.1-n)=n % p.period-n % x.1 from by omega] at this)
  ·rcases List.mem_append.1 hx with hx|hx
   ·exact hd x hx
   ·obtain rfl:x=(p.period,resP p c):=by simpa using hx
    exact he.symm
theorem sp_:∀ (t:List Per) (done:List (Int × Int)),Ext done t->done.Pairwise (fun x y=>((Int.gcd x.1 y.1:Nat):Int)∣x.2-y.2)->(∀ x∈done,1≤x.1)->(∀ p∈t,1≤p.period)->
  ∃ L:List (Int × Int),L.Pairwise (fun x y=>((Int.gcd x.1 y.1:Nat):Int)∣x.2-y.2)∧(∀ x∈L,1≤x.1)∧(∀ x∈done,x∈L)∧∀ p∈t,∃ c∈p.cycle,(p.period,resP p c)∈L
 | [],done,_,hp,h1,_=>⟨done,hp,h1,fun x hx=>hx,sq_⟩
 | p :: t,done,⟨c,hc,ha,he⟩,hp,h1,h2=>by
  obtain ⟨L,l1,l2,l3,l4⟩:=sp_ t _ he (List.pairwise_append.2 ⟨hp,List.pairwise_singleton _ _,fun x hx y hy=>by
   obtain rfl:y=(p.period,resP p c):=by simpa using hy
   have h3:=Int.dvd_of_emod_eq_zero (ha x hx);rw [Int.gcd_comm];have h4:=Int.dvd_neg.2 h3;rwa [show -(resP p c-x.2)=x.2-resP p c from by omega] at h4⟩) (fun x hx=>by
   rcases List.mem_append.1 hx with hx|hx
   ·exact h1 x hx
   ·obtain rfl:x=(p.period,resP p c):=by simpa using hx
    exact h2 p sq_) (fun q hq=>h2 q (by simp [hq]))
  refine ⟨L,l1,l2,fun x hx=>l3 x (by simp [hx]),fun q hq=>?_⟩;rcases List.mem_cons.1 hq with rfl|hq
  ·exact ⟨c,hc,l3 _ sq_⟩
  ·exact l4 q hq
def recT (t:List Per):Prop:=∃ n,ba_ t≤n∧tmem t n
theorem ls_ (hw:∀ p∈t,p.WF):Ext [] t↔recT t:=by
 constructor
 ·intro h;obtain ⟨L,l1,l2,_,l4⟩:=sp_ t [] h List.Pairwise.nil sq_ (fun p hp=>(hw p hp).per);obtain ⟨n,hn⟩:=oo_ L l2 l1;have hL:0<lcmL (L.map fun x=>x.1.natAbs):=k3_ fun a ha=>by
   obtain ⟨x,hx,rfl⟩:=List.mem_map.1 ha;have:=l2 x hx;omega
  obtain ⟨k,hk,_⟩:=fq_ (lcmL (L.map fun x=>x.1.natAbs)) (ba_ t-n) oq_;refine ⟨n+k*(lcmL (L.map fun x=>x.1.natAbs):Nat),oq_,fun p hp=>?_⟩;have hs:=(fg_ (t:=t)).2 p hp;obtain ⟨c,hc,hm⟩:=l4 p hp;refine (ht_ (hw p hp) oq_).2 ⟨c,hc,?_⟩;have h1:=hn _ hm;have h2:p.period∣((lcmL (L.map fun x=>x.1.natAbs):Nat):Int):=by
   have h7:p.period.natAbs∣lcmL (L.map fun x=>x.1.natAbs):=k2_ (List.mem_map.2 ⟨_,hm,rfl⟩);exact Int.natAbs_dvd.1 (Int.natCast_dvd_natCast.2 h7)
  have h3:=h2_ (hw p hp) c;rw [Int.emod_eq_of_lt h3.1 h3.2] at h1;rw [<- h1];exact bp_ (by rw [show n+(k:Int)*(lcmL (L.map fun x=>x.1.natAbs):Nat)-n=k*(lcmL (L.map fun x=>x.1.natAbs):Nat) from by omega];exact Int.dvd_trans h2 (Int.dvd_mul_left _ _))
 ·rintro ⟨n,h1,h2⟩;exact su_ t [] sq_ fun p hp=>⟨hw p hp,by have:=(fg_ (t:=t)).2 p hp;omega,h2 p hp⟩
theorem jb_ (hne:t≠[]) (h:tmem t n):0≤n:=by
 cases t with
 | nil=>exact absurd rfl hne
 | cons p t=>exact (h p sq_).1
theorem qv_ (hne:t≠[]) (h:tmem t n) (hn:n<ba_ t):∃ p∈t,n∈p.head:=by
 have h0:=jb_ hne h;rcases is_ t 0 with h1|⟨p,hp,h1⟩
 ·have:ba_ t=0:=h1;omega
 ·have h2:ba_ t=p.frm:=h1;exact ⟨p,hp,(Per.mem_lo h0 oq_).1 (h p hp)⟩
theorem ry_ (hw:∀ p∈t,p.WF) (hp:p∈t) (h:n∈p.head):n<ba_ t:=by
 have h1:=(hw p hp).head.2 n h;have h2:=(fg_ (t:=t)).2 p hp;omega
def bt_ (t:List Per):Prop:=∀ n,¬ tmem t n
theorem rh_:bt_ t↔(∀ n,n<ba_ t->¬ tmem t n)∧¬ recT t:=by
 constructor
 ·exact fun h=>⟨fun n _=>h n,fun ⟨n,_,hn⟩=>h n hn⟩
 ·rintro ⟨h1,h2⟩ n hn
  by_cases h:n<ba_ t
  ·exact h1 n h hn
  ·exact h2 ⟨n,oq_,hn⟩
instance:Inhabited Per:=⟨⟨[],0,0,[]⟩⟩
noncomputable def canonC (S:Int->Prop):Per:=Classical.epsilon fun c=>a6_ c S
theorem gv_ {S:Int->Prop} (h:∃ c,a6_ c S):a6_ (canonC S) S:=Classical.epsilon_spec h
theorem d7_ {S:Int->Prop} {c:Per} (h:a6_ c S):canonC S=c:=(gv_ ⟨c,h⟩).unique h
theorem h3_ {S:Int->Prop} (hf:0≤f) (hd:1≤d) (hS0:∀ n,S n->0≤n) (hp:am_ S f d):∃ c,a6_ c S:=by
 have h:=f4_ (S:=S) (f:=f) (d:=d) (hl:=sel S 0 f) (cl:=sel (fun n=>S (f+n)) 0 d) hf hd hS0 hp (ad_ (Int.le_refl _)) (ad_ (Int.le_refl _))
  (fun n h1 h2=>by rw [ae_ (Int.le_refl _)];exact ⟨fun h=>h.2.2,fun h=>⟨h1,h2,h⟩⟩) (fun n h1 h2=>by rw [ae_ (Int.le_refl _)];exact ⟨fun h=>h.2.2,fun h=>⟨h1,h2,h⟩⟩)
 obtain ⟨q,hq⟩:=if_ h.1;exact ⟨q,hq.congr h.2⟩
structure Fac (s:Int) (p:Per):Prop where
 wf:p.WF
 low:∀ n,p.mem n->s≤n
 frm:p.frm≤s+9
 dvd:p.period∣27720
theorem Fac.per (h:Fac s p):p.period≤27720:=Int.le_of_dvd dq_ h.dvd
theorem ie_ {S:Int->Prop} {c:Per} (h:a6_ c S) (hlow:∀ n,S n->s≤n) (hf:0≤f) (hfs:f≤s+9) (hd:1≤d) (hdv:d∣27720) (hp:am_ S f d):Fac s c:=
 ⟨h.wf,fun n hn=>hlow n ((h.mem n).1 hn),Int.le_trans (h.frm_le hf hd hp) hfs,Int.dvd_trans (h.dvd hd hp.ev) hdv⟩
theorem Fac.canon (h:Fac s p):a6_ (canonC p.mem) p.mem∧Fac s (canonC p.mem):=by
 have h1:=gv_ (if_ h.wf);exact ⟨h1,ie_ h1 h.low h.wf.frm h.frm h.wf.per h.dvd h.wf.pfrom⟩
theorem Fac.op (hp:Fac s p) (hq:Fac s q) {U:Int->Prop} (g:Prop->Prop->Prop) (hU:∀ n,U n↔g (p.mem n) (q.mem n)) (hlow:∀ n,U n->s≤n) (h0:∀ n,U n->0≤n):a6_ (canonC U) U∧Fac s (canonC U)∧am_ U (max p.frm q.frm) (lcmI p.period q.period)∧lcmI p.period q.period∣27720:=by
 have a1:=hp.wf.per;have b1:=hq.wf.per;have f1:=hp.wf.frm;have hl:=c7_ a1 b1;have hdv:lcmI p.period q.period∣27720:=by
  rw [q7_ a1 b1];have h1:p.period.natAbs∣27720:=Int.natAbs_dvd_natAbs.2 hp.dvd;have h2:q.period.natAbs∣27720:=Int.natAbs_dvd_natAbs.2 hq.dvd;exact Int.natCast_dvd_natCast.2 (Nat.lcm_dvd h1 h2)
 have hpf:am_ U (max p.frm q.frm) (lcmI p.period q.period):=((hp.wf.pfrom.mono (show p.frm≤max p.frm q.frm by omega)).of_dvd a1 hl cr_).op ((hq.wf.pfrom.mono (show q.frm≤max p.frm q.frm by omega)).of_dvd b1 hl cz_) g (fun n _=>hU n) oq_;have hc:=gv_ (h3_ (show 0≤max p.frm q.frm by omega) hl h0 hpf);exact ⟨hc,ie_ hc hlow oq_ (by have:=hp.frm;have:=hq.frm;omega) hl hdv hpf,hpf,hdv⟩
noncomputable def andP (p q:Per):Per:=canonC fun n=>p.mem n∧q.mem n
noncomputable def orP (p q:Per):Per:=canonC fun n=>p.mem n∨q.mem n
noncomputable def bu_ (p q:Per):Per:=canonC fun n=>p.mem n∧¬ q.mem n
theorem Fac.and (hp:Fac s p) (hq:Fac s q):a6_ (andP p q) (fun n=>p.mem n∧q.mem n)∧Fac s (andP p q):=by
 have h:=hp.op hq And (fun n=>Iff.rfl) (fun n h=>hp.low n h.1) (fun n h=>h.1.1);exact ⟨h.1,h.2.1⟩
structure cf_ (P:Nat->Nat->Prop) (n i j:Nat):Prop where
 lt:i<j
 lim:j<n
 is:P i j
 rows:∀ i' j',i'<i->i'<j'->j'<n->¬ P i' j'
 row:∀ j',i<j'->j'<j->¬ P i j'
def cj_ (P:Nat->Nat->Prop) (n:Nat):Prop:=∀ i j,i<j->j<n->¬ P i j
theorem cf_.unique {P:Nat->Nat->Prop} {n i' j':Nat} (h:cf_ P n i j) (g:cf_ P n i' j'):i=i'∧j=j':=by
 have hi:i=i':=by
  rcases Nat.lt_trichotomy i i' with h1|h1|h1
  ·exact absurd h.is (g.rows i j h1 h.lt h.lim)
  ·exact h1
  ·exact absurd g.is (h.rows i' j' h1 g.lt g.lim)
 subst hi;refine ⟨rfl,?_⟩;rcases Nat.lt_trichotomy j j' with h1|h1|h1
 ·exact absurd h.is (g.row j h.lt h1)
 ·exact h1
 ·exact absurd g.is (h.row j' g.lt h1)
theorem cf_.no {P:Nat->Nat->Prop} {n:Nat} (h:cf_ P n i j) (g:cj_ P n):False:=g i j h.lt h.lim h.is
def divB (p q:Per):Bool:=p.period % q.period == 0 || q.period % p.period == 0
def ch_ (t:List Per) (i j:Nat):Prop:=divB (t.getD i default) (t.getD j default)=true
noncomputable def ci_ (t:List Per) (i j:Nat):List Per:=(t.set i (andP (t.getD i default) (t.getD j default))).eraseIdx j
inductive c4_:List Per->List Per->Prop
 | done {t:List Per} (h:cj_ (ch_ t) t.length):c4_ t t
 | step {t u:List Per} {i j:Nat} (h:cf_ (ch_ t) t.length i j) (hu:c4_ (ci_ t i j) u):c4_ t u
theorem c4_.unique {v:List Per} (h:c4_ t u) (g:c4_ t v):u=v:=by
 induction h generalizing v with
 | done h=>
  cases g with
  | done _=>rfl
  | step g _=>exact (g.no h).elim
 | step h _ ih=>
  cases g with
  | done g=>exact (h.no g).elim
  | step g gu=>
   obtain ⟨rfl,rfl⟩:=h.unique g;exact ih gu
structure CFac (s:Int) (p:Per):Prop where
 fac:Fac s p
 can:a6_ p p.mem
theorem CFac.canonC (h:CFac s p):Kal.canonC p.mem=p:=d7_ h.can
theorem Fac.ccanon (h:Fac s p):CFac s (Kal.canonC p.mem):=⟨h.canon.2,h.canon.1.congr fun n=>(h.canon.1.mem n).symm⟩
theorem Fac.cand (hp:Fac s p) (hq:Fac s q):CFac s (andP p q):=⟨(hp.and hq).2,(hp.and hq).1.congr fun n=>((hp.and hq).1.mem n).symm⟩
theorem e6_ {α:Type} {l:List α} {d:α} (h:i<l.length):l.getD i d∈l:=by
 rw [List.getD_eq_getElem?_getD,List.getElem?_eq_getElem h];exact List.getElem_mem h
theorem i5_ {α:Type} {l:List α} {v x:α} (h:x∈(l.set i v).eraseIdx j):x=v∨x∈l:=by
 have h1:=List.mem_of_mem_eraseIdx h;rcases List.mem_or_eq_of_mem_set h1 with h2|h2
 ·exact .inr h2
 ·exact .inl h2
theorem gy_ {α:Type} {l:List α} {d:α} (hij:i<j) (hj:j<l.length) (v:α) (x:α):x∈(l.set i v).eraseIdx j↔x=v∨∃ k,k<l.length∧k≠i∧k≠j∧x=l.getD k d:=by
 rw [List.mem_eraseIdx_iff_getElem];constructor
 ·rintro ⟨k,hk,hkj,rfl⟩;rw [List.length_set] at hk
  by_cases e:k=i
  ·subst e;left;rw [List.getElem_set_self]
  ·right;exact ⟨k,hk,e,hkj,by rw [List.getElem_set_ne (fun h=>e h.symm),List.getD_eq_getElem?_getD,List.getElem?_eq_getElem hk];rfl⟩
 ·rintro (rfl|⟨k,hk,h1,h2,rfl⟩)
  ·exact ⟨i,by rw [List.length_set];omega,oq_,by rw [List.getElem_set_self]⟩
  ·exact ⟨k,by rw [List.length_set];exact hk,h2,by rw [List.getElem_set_ne (fun h=>h1 h.symm),List.getD_eq_getElem?_getD,List.getElem?_eq_getElem hk];rfl⟩
theorem o8_ {α:Type} {l:List α} {d x:α}:x∈l↔∃ k,k<l.length∧x=l.getD k d:=by
 rw [List.mem_iff_getElem];constructor
 ·rintro ⟨k,hk,rfl⟩;exact ⟨k,hk,by rw [List.getD_eq_getElem?_getD,List.getElem?_eq_getElem hk];rfl⟩
 ·rintro ⟨k,hk,rfl⟩;exact ⟨k,hk,by rw [List.getD_eq_getElem?_getD,List.getElem?_eq_getElem hk];rfl⟩
theorem lr_ (h:j<t.length):(ci_ t i j).length=t.length-1:=by
 unfold ci_;rw [List.length_eraseIdx,List.length_set,if_pos h]
theorem pn_ (hij:i<j) (hj:j<t.length) (hf:∀ p∈t,Fac s p) (n:Int):tmem (ci_ t i j) n↔tmem t n:=by
 have fi:=hf _ (e6_ (d:=default) (show i<t.length by omega));have fj:=hf _ (e6_ (d:=default) hj);have hc:=(fi.and fj).1;unfold tmem ci_;constructor
 ·intro h p hp;obtain ⟨k,hk,rfl⟩:=(o8_ (d:=default)).1 hp;have h1:=(hc.mem n).1 (h _ ((gy_ (d:=default) hij hj _ _).2 (.inl rfl)))
  by_cases e1:k=i
  ·subst e1;exact h1.1
  ·by_cases e2:k=j
   ·subst e2;exact h1.2
   ·exact h _ ((gy_ (d:=default) hij hj _ _).2 (.inr ⟨k,hk,e1,e2,rfl⟩))
 ·intro h p hp;rcases (gy_ (d:=default) hij hj _ _).1 hp with rfl|⟨k,hk,_,_,rfl⟩
  ·exact (hc.mem n).2 ⟨h _ (e6_ oq_),h _ (e6_ hj)⟩
  ·exact h _ (e6_ hk)
theorem ow_ (hij:i<j) (hj:j<t.length) (hf:∀ p∈t,CFac s p):∀ p∈ci_ t i j,CFac s p:=fun p hp=>by
 rcases i5_ hp with rfl|hp
 ·exact (hf _ (e6_ oq_)).fac.cand (hf _ (e6_ hj)).fac
 ·exact hf p hp
theorem c4_.ok (h:c4_ t u) (hf:∀ p∈t,CFac s p):(∀ p∈u,CFac s p)∧(∀ n,tmem u n↔tmem t n)∧u.length≤t.length∧(t≠[]->u≠[]):=by
 induction h with
 | done h=>exact ⟨hf,fun n=>Iff.rfl,Nat.le_refl _,id⟩
 | @step t u i j h _ ih=>
  have h1:=ow_ h.lt h.lim hf;obtain ⟨a,b,c,d⟩:=ih h1;have hl:=lr_ (t:=t) (i:=i) h.lim;refine ⟨a,fun n=>(b n).trans (pn_ h.lt h.lim (fun p hp=>(hf p hp).fac) n),oq_,fun _=>d fun e=>?_⟩;rw [e] at hl;have:=h.lt;have:=h.lim;simp at hl;omega
def xc_ (s:Int) (t:List Per):Prop:=t≠[]∧∀ p∈t,CFac s p
def vn_ (s:Int) (t:List Per):Prop:=t≠[]∧∀ p∈t,Fac s p
def b8_ (t u:List Per):Prop:=c4_ (t.map fun p=>canonC p.mem) u
theorem b8_.unique {v:List Per} (h:b8_ t u) (g:b8_ t v):u=v:=c4_.unique h g
theorem b8_.ok (h:b8_ t u) (hf:vn_ s t):xc_ s u∧(∀ n,tmem u n↔tmem t n)∧u.length≤t.length:=by
 obtain ⟨h1,h2,h3,h4⟩:=c4_.ok h (s:=s) fun p hp=>by
  obtain ⟨q,hq,rfl⟩:=List.mem_map.1 hp;exact (hf.2 q hq).ccanon
 refine ⟨⟨h4 fun e=>hf.1 (List.map_eq_nil_iff.1 e),h1⟩,fun n=>(h2 n).trans ?_,by simpa using h3⟩;unfold tmem;constructor
 ·intro h p hp;exact ((hf.2 p hp).canon.1.mem n).1 (h _ (List.mem_map.2 ⟨p,hp,rfl⟩))
 ·intro h p hp;obtain ⟨q,hq,rfl⟩:=List.mem_map.1 hp;exact ((hf.2 q hq).canon.1.mem n).2 (h q hq)
inductive b0_:List (List Per)->List (List Per)->Prop
 | nil:b0_ [] []
 | skip {t u:List Per} {L l:List (List Per)} (h:b8_ t u) (hb:bt_ u) (hl:b0_ L l):b0_ (t :: L) l
 | keep {t u:List Per} {L l:List (List Per)} (h:b8_ t u) (hb:¬ bt_ u) (hl:b0_ L l):b0_ (t :: L) (u :: l)
theorem b0_.app {L l L' l':List (List Per)} (h:b0_ L l) (g:b0_ L' l'):b0_ (L ++ L') (l ++ l'):=by
 induction h with
 | nil=>exact g
 | skip h hb _ ih=>exact .skip h hb ih
 | keep h hb _ ih=>exact .keep h hb ih
theorem b0_.skip1 {L l:List (List Per)} (h:b0_ L l) (g:b8_ t u) (hb:bt_ u):b0_ (L ++ [t]) l:=by
 have:=h.app (.skip g hb .nil);rwa [List.append_nil] at this
theorem b0_.keep1 {L l:List (List Per)} (h:b0_ L l) (g:b8_ t u) (hb:¬ bt_ u):b0_ (L ++ [t]) (l ++ [u]):=h.app (.keep g hb .nil)
theorem b0_.unique {L l:List (List Per)} (h:b0_ L l) (g:b0_ L m):l=m:=by
 induction h generalizing m with
 | nil=>cases g;rfl
 | skip h hb _ ih=>
  cases g with
  | skip g gb gl=>exact ih gl
  | keep g gb gl=>rw [h.unique g] at hb;exact absurd hb gb
 | keep h hb _ ih=>
  cases g with
  | skip g gb gl=>rw [h.unique g] at hb;exact absurd gb hb
  | keep g gb gl=>rw [h.unique g,ih gl]
theorem lu_ {L:List (List Per)}:mmem (t :: L) n↔tmem t n∨mmem L n:=by
 unfold mmem;simp
theorem k7_:¬ mmem [] n:=by unfold mmem;simp
theorem p5_ {L M:List (List Per)}:mmem (L ++ M) n↔mmem L n∨mmem M n:=by
 unfold mmem;constructor
 ·rintro ⟨t,ht,h⟩;rcases List.mem_append.1 ht with ht|ht
  ·exact .inl ⟨t,ht,h⟩
  ·exact .inr ⟨t,ht,h⟩
 ·rintro (⟨t,ht,h⟩|⟨t,ht,h⟩)
  ·exact ⟨t,List.mem_append_left _ ht,h⟩
  ·exact ⟨t,List.mem_append_right _ ht,h⟩
def az_ (l:List (List Per)) (i j:Nat):Prop:=(l.getD i []).length=1∧(l.getD j []).length=1∧divB ((l.getD i []).getD 0 default) ((l.getD j []).getD 0 default)=true
noncomputable def ct_ (l:List (List Per)) (i j:Nat):List (List Per):=(l.set i [orP ((l.getD i []).getD 0 default) ((l.getD j []).getD 0 default)]).eraseIdx j
inductive ck_:List (List Per)->List (List Per)->Prop
 | done {l:List (List Per)} (h:cj_ (az_ l) l.length):ck_ l l
 | step {l m:List (List Per)} {i j:Nat} (h:cf_ (az_ l) l.length i j) (hm:ck_ (ct_ l i j) m):ck_ l m
theorem ck_.unique {t u v:List (List Per)} (h:ck_ t u) (g:ck_ t v):u=v:=by
 induction h generalizing v with
 | done h=>
  cases g with
  | done _=>rfl
  | step g _=>exact (g.no h).elim
 | step h _ ih=>
  cases g with
  | done g=>exact (h.no g).elim
  | step g gu=>
   obtain ⟨rfl,rfl⟩:=h.unique g;exact ih gu
theorem g9_:tmem [p] n↔p.mem n:=by unfold tmem;simp
theorem hn_ {l:List (List Per)} {K:Nat} (hK:1≤K) (h:∀ t∈l,t.length≤K):∀ t∈ct_ l i j,t.length≤K:=fun t ht=>by
 rcases i5_ ht with rfl|ht
 ·simpa using hK
 ·exact h t ht
open Classical in
noncomputable def dd1 (out:List (List Per)) (t:List Per):List (List Per):=if t∈out then out else out ++ [t]
noncomputable def ddL (out l:List (List Per)):List (List Per):=l.foldl dd1 out
theorem oc_ {l:List (List Per)}:ddL out (l ++ [t])=dd1 (ddL out l) t:=by unfold ddL;rw [List.foldl_append];rfl
theorem nv_ (h:t∈out):dd1 out t=out:=if_pos h
theorem g5_ (h:t ∉ out):dd1 out t=out ++ [t]:=if_neg h
theorem w5_ {x:List Per}:x∈dd1 out t↔x∈out∨x=t:=by
 by_cases h:t∈out
 ·rw [nv_ h];exact ⟨.inl,fun g=>g.elim id fun e=>e ▸ h⟩
 ·rw [g5_ h];simp
theorem lc_:∀ {l out:List (List Per)} {x:List Per},x∈ddL out l↔x∈out∨x∈l
 | [],out,x=>by simp [ddL]
 | t :: l,out,x=>by
  show x∈ddL (dd1 out t) l↔_;rw [lc_,w5_,List.mem_cons,or_assoc]
def bf_ (L m:List (List Per)):Prop:=∃ l k,b0_ L l∧ck_ l k∧m=ddL [] k
theorem bf_.unique {L m':List (List Per)} (h:bf_ L m) (g:bf_ L m'):m=m':=by
 obtain ⟨l,k,h1,h2,rfl⟩:=h;obtain ⟨l',k',g1,g2,rfl⟩:=g;obtain rfl:=h1.unique g1;rw [h2.unique g2]
def cv_ (m:List (List Per)):Prop:=m.length≤64∧∀ t∈m,t.length≤4
def ax_ (F:Int) (S:Int->Prop) (f n:Int) (b:Bool):Prop:=(b=true∧f≤n∧n≤F∧S n∧∀ x,f≤x->x<n->¬ S x)∨(b=false∧n=0∧∀ x,f≤x->x≤F->¬ S x)
theorem ax_.unique {m:Int} {S:Int->Prop} {c:Bool} (h:ax_ F S f n b) (g:ax_ F S f m c):n=m∧b=c:=by
 rcases h with ⟨rfl,h1,h2,h3,h4⟩|⟨rfl,rfl,h1⟩ <;> rcases g with ⟨rfl,g1,g2,g3,g4⟩|⟨rfl,rfl,g1⟩
 ·refine ⟨?_,rfl⟩;rcases Int.lt_trichotomy n m with h|h|h
  ·exact absurd h3 (g4 n h1 h)
  ·exact h
  ·exact absurd g3 (h4 m g1 h)
 ·exact absurd h3 (g1 n h1 h2)
 ·exact absurd g3 (h1 m g1 g2)
 ·exact ⟨rfl,rfl⟩
theorem ax_.congr {S T:Int->Prop} (h:ax_ F S f n b) (hs:∀ x,f≤x->x≤F->(T x↔S x)):ax_ F T f n b:=by
 rcases h with ⟨rfl,h1,h2,h3,h4⟩|⟨rfl,rfl,h1⟩
 ·exact .inl ⟨rfl,h1,h2,(hs n h1 h2).2 h3,fun x a c=>by rw [hs x a oq_];exact h4 x a c⟩
 ·exact .inr ⟨rfl,rfl,fun x a c=>by rw [hs x a c];exact h1 x a c⟩
def bs_ (S:Int->Prop) (f n:Int) (b:Bool):Prop:=(b=true∧f≤n∧S n∧∀ x,f≤x->x<n->¬ S x)∨(b=false∧n=0∧∀ x,f≤x->¬ S x)
theorem bs_.start:bs_ (fun _=>False) f 0 false:=.inr ⟨rfl,rfl,fun _ _ h=>h⟩
theorem bs_.congr {S T:Int->Prop} (h:bs_ S f n b) (hs:∀ x,f≤x->(T x↔S x)):bs_ T f n b:=by
 rcases h with ⟨rfl,h1,h3,h4⟩|⟨rfl,rfl,h1⟩
 ·exact .inl ⟨rfl,h1,(hs n h1).2 h3,fun x a c=>by rw [hs x a];exact h4 x a c⟩
 ·exact .inr ⟨rfl,rfl,fun x a=>by rw [hs x a];exact h1 x a⟩
theorem bs_.take {S:Int->Prop} (h:bs_ S f n b) (h1:f≤d) (h2:b=false∨d<n):bs_ (fun x=>S x∨x=d) f d true:=by
 refine .inl ⟨rfl,h1,.inr rfl,fun x a c e=>?_⟩;rcases e with e|rfl
 ·rcases h with ⟨rfl,g1,g2,g3⟩|⟨rfl,rfl,g1⟩
  ·rcases h2 with h2|h2
   ·cases h2
   ·exact g3 x a oq_ e
  ·exact g1 x a e
 ·omega
theorem bs_.pass {S:Int->Prop} (h:bs_ S f n b) (h1:¬ (f≤d∧(b=false∨d<n))):bs_ (fun x=>S x∨x=d) f n b:=by
 rcases h with ⟨rfl,g1,g2,g3⟩|⟨rfl,rfl,g1⟩
 ·refine .inl ⟨rfl,g1,.inl g2,fun x a c e=>?_⟩;rcases e with e|rfl
  ·exact g3 x a c e
  ·exact h1 ⟨a,.inr c⟩
 ·refine .inr ⟨rfl,rfl,fun x a e=>?_⟩;rcases e with e|rfl
  ·exact g1 x a e
  ·exact h1 ⟨a,.inl rfl⟩
def cq_ (t:List Per) (i k:Nat) (x:Int):Prop:=tmem t x∧((∃ p∈t.take i,x∈p.head)∨x∈((t.getD i default).head.take k))
theorem kp_:cq_ t 0 0 x↔False:=by simp [cq_]
theorem mf_ (hi:i<t.length):cq_ t (i+1) 0 x↔cq_ t i (t.getD i default).head.length x:=by
 unfold cq_;have e:t.getD i default=t[i]:=by rw [List.getD_eq_getElem?_getD,List.getElem?_eq_getElem hi];rfl
 rw [List.take_succ_eq_append_getElem hi,List.take_length,e];constructor
 ·rintro ⟨h1,⟨p,hp,hx⟩|hx⟩
  ·rcases List.mem_append.1 hp with hp|hp
   ·exact ⟨h1,.inl ⟨p,hp,hx⟩⟩
   ·obtain rfl:p=t[i]:=by simpa using hp
    exact ⟨h1,.inr hx⟩
  ·simp at hx
 ·rintro ⟨h1,⟨p,hp,hx⟩|hx⟩
  ·exact ⟨h1,.inl ⟨p,List.mem_append_left _ hp,hx⟩⟩
  ·exact ⟨h1,.inl ⟨t[i],List.mem_append_right _ sq_,hx⟩⟩
theorem l8_ (hk:k<(t.getD i default).head.length):cq_ t i (k+1) x↔cq_ t i k x∨(x=(t.getD i default).head.getD k 0∧tmem t x):=by
 unfold cq_;rw [List.take_succ_eq_append_getElem hk,List.mem_append];have e:(t.getD i default).head.getD k 0=(t.getD i default).head[k]:=by rw [List.getD_eq_getElem?_getD,List.getElem?_eq_getElem hk];rfl
 rw [e];simp only [List.mem_singleton];constructor
 ·rintro ⟨h1,h2|h2|h2⟩
  ·exact .inl ⟨h1,.inl h2⟩
  ·exact .inl ⟨h1,.inr h2⟩
  ·exact .inr ⟨h2,h1⟩
 ·rintro (⟨h1,h2|h2⟩|⟨h1,h2⟩)
  ·exact ⟨h1,.inl h2⟩
  ·exact ⟨h1,.inr (.inl h2)⟩
  ·exact ⟨h2,.inr (.inr h1)⟩
theorem mi_ (hne:t≠[]) (hw:∀ p∈t,p.WF):cq_ t t.length 0 x↔tmem t x∧x<ba_ t:=by
 unfold cq_;rw [List.take_length];constructor
 ·rintro ⟨h1,⟨p,hp,hx⟩|h2⟩
  ·exact ⟨h1,ry_ hw hp hx⟩
  ·simp at h2
 ·rintro ⟨h1,h2⟩;exact ⟨h1,.inl (qv_ hne h1 h2)⟩
def q6_ (t:List Per) (f n:Int) (b:Bool):Prop:=bs_ (fun x=>tmem t x∧x<ba_ t) f n b
def ClsS (t:List Per) (at_ step x:Int):Prop:=x % step=at_∧∀ p∈t,∃ c∈p.cycle,x % p.period=resP p c
def cn_ (F:Int) (S:Int->Prop) (f n:Int) (b:Bool):Prop:=(b=true∧f≤n∧n≤F∧S n∧∀ x,f≤x->x<n->¬ S x)∨(b=false∧n=F∧∀ x,f≤x->x≤F->¬ S x)
theorem cn_.start:cn_ F (fun _=>False) f F false:=.inr ⟨rfl,rfl,fun _ _ _ h=>h⟩
theorem cn_.le {S:Int->Prop} (h:cn_ F S f n b):n≤F:=by
 rcases h with ⟨_,_,h,_⟩|⟨_,h,_⟩ <;> omega
theorem cn_.congr {S T:Int->Prop} (h:cn_ F S f n b) (hs:∀ x,f≤x->(T x↔S x)):cn_ F T f n b:=by
 rcases h with ⟨rfl,h1,h2,h3,h4⟩|⟨rfl,rfl,h1⟩
 ·exact .inl ⟨rfl,h1,h2,(hs n h1).2 h3,fun x a c=>by rw [hs x a];exact h4 x a c⟩
 ·exact .inr ⟨rfl,rfl,fun x a c=>by rw [hs x a];exact h1 x a c⟩
theorem cn_.next {S:Int->Prop} (h:cn_ F S f n b):ax_ F S f (if b=true then n else 0) b:=by
 rcases h with ⟨rfl,h1,h2,h3,h4⟩|⟨rfl,rfl,h1⟩
 ·exact .inl ⟨rfl,h1,h2,h3,h4⟩
 ·exact .inr ⟨rfl,rfl,h1⟩
def upTo (f at_ step:Int):Int:=if at_<f then at_+(f-at_+step-1) / step*step else at_
theorem wf_ (hs:1≤step) (h0:0≤at_) (h1:at_<step) (hf:0≤f):f≤upTo f at_ step∧upTo f at_ step<f+step∧upTo f at_ step % step=at_∧(∀ x,f≤x->x % step=at_->upTo f at_ step≤x):=by
 have key:f≤upTo f at_ step∧upTo f at_ step<f+step∧upTo f at_ step % step=at_:=by
  unfold upTo
  split
  ·rename_i h;have e:=Int.emod_add_mul_ediv (f-at_+step-1) step;have e0:=Int.emod_nonneg (f-at_+step-1) (show step≠0 by omega);have e1:=Int.emod_lt_of_pos (f-at_+step-1) (show 0<step by omega);rw [Int.mul_comm step] at e;refine ⟨oq_,oq_,?_⟩;rw [Int.add_mul_emod_self_right,Int.emod_eq_of_lt h0 h1]
  ·exact ⟨oq_,oq_,Int.emod_eq_of_lt h0 h1⟩
 refine ⟨key.1,key.2.1,key.2.2,fun x hx he=>?_⟩;obtain ⟨k1,k2,k3⟩:=key;generalize upTo f at_ step=u at *;rcases Int.lt_or_le x u with h|h
 ·have hd:step∣u-x:=bq_ (k3.trans he.symm);have:=Int.le_of_dvd oq_ hd;omega
 ·exact h
theorem cn_.leaf {S:Int->Prop} (h:cn_ F S f n b) (hs:1≤step) (h0:0≤at_) (h1:at_<step) (hf:0≤f) :
  (upTo f at_ step≤n->cn_ F (fun x=>S x∨x % step=at_) f (upTo f at_ step) true)∧(n<upTo f at_ step->cn_ F (fun x=>S x∨x % step=at_) f n b):=by
 obtain ⟨k1,k2,k3,k4⟩:=wf_ hs h0 h1 hf;have hle:=h.le;generalize upTo f at_ step=u at *;constructor
 ·intro hu;refine .inl ⟨rfl,k1,oq_,.inr k3,fun x a c e=>?_⟩;rcases e with e|e
  ·rcases h with ⟨_,g1,g2,g3,g4⟩|⟨_,rfl,g1⟩
   ·exact g4 x a oq_ e
   ·exact g1 x a oq_ e
  ·have:=k4 x a e;omega
 ·intro hu;rcases h with ⟨rfl,g1,g2,g3,g4⟩|⟨rfl,rfl,g1⟩
  ·refine .inl ⟨rfl,g1,g2,.inl g3,fun x a c e=>?_⟩;rcases e with e|e
   ·exact g4 x a c e
   ·have:=k4 x a e;omega
  ·refine .inr ⟨rfl,rfl,fun x a c e=>?_⟩;rcases e with e|e
   ·exact g1 x a c e
   ·have:=k4 x a e;omega
def cp_ (at_ step r P:Int) (a2 s2:Int) (b:Bool):Prop:=(b=true∧s2=lcmI step P∧fw_ at_ step r P a2)∨(b=false∧a2=0∧s2=0∧∀ x,¬ (x % step=at_ % step∧x % P=r % P))
theorem t0_:ClsS (p :: t) at_ step x↔∃ c∈p.cycle,x % p.period=resP p c∧ClsS t at_ step x:=by
 unfold ClsS;constructor
 ·rintro ⟨h1,h2⟩;obtain ⟨c,hc,he⟩:=h2 p sq_;exact ⟨c,hc,he,h1,fun q hq=>h2 q (by simp [hq])⟩
 ·rintro ⟨c,hc,he,h1,h2⟩;refine ⟨h1,fun q hq=>?_⟩;rcases List.mem_cons.1 hq with rfl|hq
  ·exact ⟨c,hc,he⟩
  ·exact h2 q hq
theorem cp_.cls (hw:p.WF) {a2 s2 c:Int} (hs:1≤step) (h0:0≤at_) (h1:at_<step) (h:cp_ at_ step (resP p c) p.period a2 s2 b) (x:Int) :
  (x % p.period=resP p c∧ClsS t at_ step x)↔b=true∧ClsS t a2 s2 x:=by
 have hr:=h2_ hw c;have er:=Int.emod_eq_of_lt hr.1 hr.2;have ea:=Int.emod_eq_of_lt h0 h1;have hP:=hw.per;rcases h with ⟨rfl,rfl,hsol⟩|⟨rfl,rfl,rfl,hno⟩
 ·have hc:=jg_ (x:=x) hs hP hsol;rw [er,ea] at hc;unfold ClsS;constructor
  ·rintro ⟨g1,g2,g3⟩;exact ⟨rfl,hc.1 ⟨g2,g1⟩,g3⟩
  ·rintro ⟨_,g2,g3⟩;obtain ⟨k1,k2⟩:=hc.2 g2;exact ⟨k2,k1,g3⟩
 ·refine ⟨fun ⟨g1,g2,_⟩=>absurd ?_ (hno x),fun h=>by cases h.1⟩;rw [er,ea];exact ⟨g2,g1⟩
theorem ri_ (hw:∀ p∈t,p.WF) (hx:ba_ t≤x):ClsS t 0 1 x↔tmem t x:=by
 unfold ClsS tmem;have hs:=(fg_ (t:=t)).2;constructor
 ·rintro ⟨_,h⟩ p hp;exact (ht_ (hw p hp) (by have:=hs p hp;omega)).2 (h p hp)
 ·intro h;exact ⟨oq_,fun p hp=>(ht_ (hw p hp) (by have:=hs p hp;omega)).1 (h p hp)⟩
theorem sg_ (hne:t≠[]) (hw:∀ p∈t,p.WF) (hF:ba_ t≤F) (h:q6_ t f n b) :
  (b=true->ax_ F (tmem t) f n true)∧(b=false->(F<f∨¬ recT t)->ax_ F (tmem t) f 0 false)∧(b=false->∀ m c,ax_ F (tmem t) (max f (ba_ t)) m c->ax_ F (tmem t) f m c):=by
 refine ⟨fun hb=>?_,fun hb hno=>?_,fun hb m c hm=>?_⟩
 ·subst hb;rcases h with ⟨_,h1,h2,h3⟩|⟨h,_⟩
  ·exact .inl ⟨rfl,h1,oq_,h2.1,fun x a c e=>h3 x a c ⟨e,oq_⟩⟩
  ·cases h
 ·subst hb;rcases h with ⟨h,_⟩|⟨_,_,h1⟩
  ·cases h
  ·refine .inr ⟨rfl,rfl,fun x a c e=>?_⟩
   by_cases hx:x<ba_ t
   ·exact h1 x a ⟨e,hx⟩
   ·rcases hno with h2|h2
    ·omega
    ·exact h2 ⟨x,oq_,e⟩
 ·subst hb;rcases h with ⟨h,_⟩|⟨_,_,h1⟩
  ·cases h
  ·have low:∀ x,f≤x->x<max f (ba_ t)->¬ tmem t x:=fun x a c e=>h1 x a ⟨e,oq_⟩;rcases hm with ⟨rfl,g1,g2,g3,g4⟩|⟨rfl,rfl,g1⟩
   ·refine .inl ⟨rfl,oq_,g2,g3,fun x a c=>?_⟩
    by_cases hx:x<max f (ba_ t)
    ·exact low x a hx
    ·exact g4 x oq_ c
   ·refine .inr ⟨rfl,rfl,fun x a c=>?_⟩
    by_cases hx:x<max f (ba_ t)
    ·exact low x a hx
    ·exact g1 x oq_ c
theorem l6_ {m:Int} {S T:Int->Prop} {c:Bool} (h:ax_ F S f n b) (g:ax_ F T f m c) :
  ax_ F (fun x=>S x∨T x) f (if c=true∧(b=false∨m<n) then m else n) (b || c):=by
 rcases h with ⟨rfl,h1,h2,h3,h4⟩|⟨rfl,rfl,h1⟩ <;> rcases g with ⟨rfl,g1,g2,g3,g4⟩|⟨rfl,rfl,g1⟩
 ·by_cases hm:m<n
  ·rw [if_pos ⟨rfl,.inr hm⟩];exact .inl ⟨rfl,g1,g2,.inr g3,fun x a c e=>e.elim (h4 x a oq_) (g4 x a c)⟩
  ·rw [if_neg (fun e=>by rcases e.2 with e|e;cases e;exact hm e)];exact .inl ⟨rfl,h1,h2,.inl h3,fun x a c e=>e.elim (h4 x a c) (g4 x a oq_)⟩
 ·rw [if_neg (fun e=>by cases e.1)];exact .inl ⟨rfl,h1,h2,.inl h3,fun x a c e=>e.elim (h4 x a c) (g1 x a oq_)⟩
 ·rw [if_pos ⟨rfl,.inl rfl⟩];exact .inl ⟨rfl,g1,g2,.inr g3,fun x a c e=>e.elim (h1 x a oq_) (g4 x a c)⟩
 ·rw [if_neg (fun e=>by cases e.1)];exact .inr ⟨rfl,rfl,fun x a c e=>e.elim (h1 x a c) (g1 x a c)⟩
def ao_ (a b:List (List Per)):List (List Per):=a.flatMap fun s=>b.map fun t=>s ++ t
theorem hi_ {a b:List (List Per)}:u∈ao_ a b↔∃ s∈a,∃ t∈b,u=s ++ t:=by
 unfold ao_;rw [List.mem_flatMap];constructor
 ·rintro ⟨s,hs,h⟩;obtain ⟨t,ht,rfl⟩:=List.mem_map.1 h;exact ⟨s,hs,t,ht,rfl⟩
 ·rintro ⟨s,hs,t,ht,rfl⟩;exact ⟨s,hs,List.mem_map.2 ⟨t,ht,rfl⟩⟩
noncomputable def wiP (s:List Per) (f:Per):List Per:=match s with|[]=>[]|p :: r=>bu_ p f :: r
noncomputable def minL (m:List (List Per)) (t:List Per):List (List Per):=m.flatMap fun s=>t.map fun f=>wiP s f
theorem k1_:u∈minL m t↔∃ s∈m,∃ f∈t,u=wiP s f:=by
 unfold minL;rw [List.mem_flatMap];constructor
 ·rintro ⟨s,hs,h⟩;obtain ⟨f,hf,rfl⟩:=List.mem_map.1 h;exact ⟨s,hs,f,hf,rfl⟩
 ·rintro ⟨s,hs,f,hf,rfl⟩;exact ⟨s,hs,List.mem_map.2 ⟨f,hf,rfl⟩⟩
inductive fy_:List (List Per)->List (List Per)->Option (List (List Per))->Prop
 | nil {m:List (List Per)}:fy_ m [] (some m)
 | big {m m' b:List (List Per)} {t:List Per} (h:bf_ (minL m t) m') (hb:¬ cv_ m'):fy_ m (t :: b) none
 | step {m m' b:List (List Per)} {t:List Per} {r:Option (List (List Per))} (h:bf_ (minL m t) m') (hb:cv_ m') (hr:fy_ m' b r):fy_ m (t :: b) r
theorem fy_.unique {b:List (List Per)} {r r':Option (List (List Per))} (h:fy_ m b r) (g:fy_ m b r'):r=r':=by
 induction h generalizing r' with
 | nil=>cases g;rfl
 | big h hb=>
  cases g with
  | big _ _=>rfl
  | step g gb _=>rw [h.unique g] at hb;exact absurd gb hb
 | step h hb _ ih=>
  cases g with
  | big g gb=>rw [h.unique g] at hb;exact absurd hb gb
  | step g gb gr=>obtain rfl:=h.unique g;exact ih gr
def b4_ (a b:List (List Per)) (r:Option (List (List Per))):Prop:=∃ m,bf_ a m∧((cv_ m∧fy_ m b r)∨(¬ cv_ m∧r=none))
theorem b4_.unique {a b:List (List Per)} {r r':Option (List (List Per))} (h:b4_ a b r) (g:b4_ a b r'):r=r':=by
 obtain ⟨m,h1,h2⟩:=h;obtain ⟨m',g1,g2⟩:=g;obtain rfl:=h1.unique g1;rcases h2 with ⟨h2,h3⟩|⟨h2,rfl⟩ <;> rcases g2 with ⟨g2,g3⟩|⟨g2,rfl⟩
 ·exact h3.unique g3
 ·exact absurd h2 g2
 ·exact absurd g2 h2
 ·rfl
noncomputable def andL (p:Per) (t:List Per):Per:=t.foldl andP p
noncomputable def f6_ (t:List Per):Per:=match t with|[]=>default|p :: r=>andL p r
noncomputable def aq_ (all:Per) (m:List (List Per)):Per:=m.foldl (fun a t=>orP a (f6_ t)) all
def shS (p:Per) (b:Int) (n:Int):Prop:=0≤n∧p.mem (n-b)
noncomputable def shP (p:Per) (b:Int):Per:=canonC (shS p b)
noncomputable def shL (m:List (List Per)) (b:Int):List (List Per):=m.map fun t=>t.map fun p=>shP p b
end Kal
namespace Go.Proofs.YthjnojbeimchdaaGreat
open Go.RowKit Go.Maps Kal
theorem je_ (x y:PV) (w:World) (hx:1≤x.p.period) (hx1:x.p.period≤1099511627776) (hy:1≤y.p.period) (hy1:y.p.period≤1099511627776) :
  Calls Tryz.prog 109 #[x.val,y.val] w fun e w'=>e=.returned (.bool (divB x.p y.p))∧Below w.heap.size w w':=by
 have n1:x.p.period≠0:=oq_;have n2:y.p.period≠0:=oq_;have b1:=Int.emod_nonneg x.p.period n2;have b2:=Int.emod_lt_of_pos x.p.period (show 0<y.p.period by omega);have b3:=Int.emod_nonneg y.p.period n1;have b4:=Int.emod_lt_of_pos y.p.period (show 0<x.p.period by omega)
 go_enter Tryz.func109,Tryz.ntmps109
 go_wp2_with fail
 all_goals
  go_ret;refine ⟨ac_ ?_,xE⟩;unfold divB
  first|rfl|(simp_all;done)
theorem qz_ (F G:Nat->Prop) (x y:PV) (w:World) (hx:PVok w F x) (hy:PVok w G y) :
  Calls Tryz.prog 113 #[x.val,y.val] w fun e w'=>e=.returned (.bool (bi_ x.p y.p))∧Below w.heap.size w w':=by
 have H1:=fun W (h:Below w.heap.size w W)=>mh_ x.h y.h x.p.head y.p.head W (hx.is.hd.ext h) (hy.is.hd.ext h);have H2:=fun W (h:Below w.heap.size w W)=>mh_ x.c y.c x.p.cycle y.p.cycle W (hx.is.cy.ext h) (hy.is.cy.ext h);clear hx hy;obtain ⟨xh,xc,xp⟩:=x;obtain ⟨yh,yc,yp⟩:=y;change Calls _ _ #[perV xh xc xp.frm xp.period,perV yh yc yp.frm yp.period] _ fun e w'=>e=.returned (.bool (bi_ xp yp))∧_;change ∀ W,_->Calls _ _ #[xh,yh] W fun e w'=>e=.returned (.bool (decide (xp.head=yp.head)))∧_ at H1;change ∀ W,_->Calls _ _ #[xc,yc] W fun e w'=>e=.returned (.bool (decide (xp.cycle=yp.cycle)))∧_ at H2
 by_cases h1:xp.frm=yp.frm
 ·by_cases h2:xp.period=yp.period
  ·by_cases h3:xp.head=yp.head
   ·rw [decide_eq_true h3] at H1;have e:bi_ xp yp=decide (xp.cycle=yp.cycle):=by unfold bi_;simp [h1,h2,h3]
    rw [e];clear e h3;generalize decide (xp.cycle=yp.cycle)=b at *
    go_enter Tryz.func113,Tryz.ntmps113
    go_wp2_with (go_at_call 89;first|((with_reducible refine (H1 _ xE).mono ?_);rintro e w1 ⟨rfl,n1,rfl⟩)|((with_reducible refine (H2 _ xE).mono ?_);rintro e w1 ⟨rfl,n1,rfl⟩))
    go_ret;exact ⟨rfl,xE⟩
   ·rw [decide_eq_false h3] at H1;have e:bi_ xp yp=false:=by unfold bi_;simp [h3]
    rw [e];clear e h3
    go_enter Tryz.func113,Tryz.ntmps113
    go_wp2_with (go_at_call 89;first|((with_reducible refine (H1 _ xE).mono ?_);rintro e w1 ⟨rfl,n1,rfl⟩)|((with_reducible refine (H2 _ xE).mono ?_);rintro e w1 ⟨rfl,n1,rfl⟩))
    go_ret;exact ⟨rfl,xE⟩
  ·have e:bi_ xp yp=false:=by unfold bi_;simp [h2]
   rw [e];clear e
   go_enter Tryz.func113,Tryz.ntmps113
   go_wp2_with fail
   go_ret;exact ⟨rfl,xE⟩
 ·have e:bi_ xp yp=false:=by unfold bi_;simp [h1]
  rw [e];clear e
  go_enter Tryz.func113,Tryz.ntmps113
  go_wp2_with fail
  go_ret;exact ⟨rfl,xE⟩
open Classical in
noncomputable def cm_ (t u:List Per):Bool:=decide (t=u)
theorem eq_ (h:t=u):cm_ t u=true:=by unfold cm_;simp [h]
theorem cy_ (h:t≠u):cm_ t u=false:=by unfold cm_;simp [h]
theorem PVok.form {F:Nat->Prop} {c:Value} (hx:PVok w F ⟨h,c,p⟩):∃ a1 n1 c1 a2 n2 c2,h=.slice a1 n1 c1∧c=.slice a2 n2 c2:=by
 obtain ⟨⟨⟨⟨a1,c1,h1,_⟩,_,_⟩,⟨a2,c2,h2,_⟩,_,_⟩,_,_,_,_⟩:=hx;exact ⟨a1,_,c1,a2,_,c2,h1,h2⟩
theorem be_.get {F:Nat->Prop} {a:Option Addr} {n:Nat} (h:be_ w F (.slice a n c) L) (hk:k<L.length) :
  ∃ b o x,a=some ⟨b,o,none⟩∧PVok w F x∧x.p=(L.map PV.p).getD k default∧b<w.heap.size∧w.cell? ⟨b,o+k*4,none⟩=some x.h∧w.cell? ⟨b,o+k*4+1,none⟩=some (.int .i64 x.p.frm)∧
   w.cell? ⟨b,o+k*4+2,none⟩=some (.int .i64 x.p.period)∧w.cell? ⟨b,o+k*4+3,none⟩=some x.c:=by
 obtain ⟨a',c',he,h1,h2,h3⟩:=h.row;injection he with e1 _ e2
 subst e1;subst e2;rcases h3 with h3|⟨b,o,rfl,hF,hl,hc⟩
 ·omega
 ·exact ⟨b,o,L.getD k default,rfl,h.all _ (aa_ hk),by simp [List.getD_eq_getElem?_getD,hk],hl,hc (k*4+0) _ (av_ hk rfl),hc (k*4+1) _ (av_ hk rfl),hc (k*4+2) _ (av_ hk rfl),hc (k*4+3) _ (av_ hk rfl)⟩
theorem mv_ (F G:Nat->Prop) (v1 v2:Value) (t u:List Per) (w:World) (h1:ab_ w F v1 t) (h2:ab_ w G v2 u) :
  Calls Tryz.prog 112 #[v1,v2,.func (.func 113) #[] #[]] w fun e w'=>e=.returned (.bool (cm_ t u))∧Below w.heap.size w w':=by
 obtain ⟨L,hLt,hL⟩:=h1;obtain ⟨M,hMu,hM⟩:=h2;obtain ⟨a1,c1,rfl,_⟩:=hL.row;obtain ⟨a2,c2,rfl,_⟩:=hM.row;have HL:=hq_ hL;have HM:=hq_ hM;have hl1:=hL.len;have hl2:=hM.len;have ht:t.length=L.length:=by rw [<- hLt,List.length_map]
 have hu:u.length=M.length:=by rw [<- hMu,List.length_map]
 have HT:=hq_ ht;have HU:=hq_ hu;have HLT:=hq_ hLt;have HMU:=hq_ hMu;clear hL hM ht hu hLt hMu;have eg:∀ args w,(callFunc 113 args).run Tryz.prog w=.ok (.enter 113 args) w:=enters_of Tryz.func113 (by kernel_rfl) rfl
 by_cases hne:L.length=M.length
 ·have HNE:=hq_ hne;rw [<- hne];clear hne hl2
  go_enter Tryz.func112,Tryz.ntmps112
  go_wp2_with fail
  go_loopw [6,7,8,9,17] (fun _ _ _ _ i wr=>∃ k:Nat,k≤L.length∧i=.int .i64 k∧(∀ j,j<k->t.getD j default=u.getD j default)∧Below w.heap.size w wr) (fun _ _ _ _ i _=>L.length-(intOf i).toNat)
  case atStart=>exact ⟨0,oq_,rfl,by intro j hj;omega,xE⟩
  case round=>
   obtain ⟨k,hk,rfl,hpre,hb⟩:=hrel;have HPRE:=hq_ hpre;clear hpre
   by_cases hlt:k<L.length
   ·have hlI:(k:Int)<L.length:=oq_;obtain ⟨b1,o1,x,rfl,hx,hxp,hb1,e0,e1,e2,e3⟩:=(HL.out.keep (a5_.below hb) hb.size).get hlt;obtain ⟨b2,o2,y,rfl,hy,hyp,hb2,g0,g1,g2,g3⟩:=(HM.out.keep (a5_.below hb) hb.size).get (show k<M.length by have:=HNE.out;omega);rw [HLT.out] at hxp;rw [HMU.out] at hyp;have HE:=fun W (h:Below wr.heap.size wr W)=>qz_ F G x y W (hx.keep (a5_.below h)) (hy.keep (a5_.below h));have HXP:=hq_ hxp;have HYP:=hq_ hyp;obtain ⟨xh,xc,xp⟩:=x;obtain ⟨yh,yc,yp⟩:=y;obtain ⟨ax1,nx1,cx1,ax2,nx2,cx2,rfl,rfl⟩:=hx.form;obtain ⟨ay1,ny1,cy1,ay2,ny2,cy2,rfl,rfl⟩:=hy.form;clear hxp hyp hx hy;change ∀ W,_->Calls _ _ #[perV (.slice ax1 nx1 cx1) (.slice ax2 nx2 cx2) xp.frm xp.period,perV (.slice ay1 ny1 cy1) (.slice ay2 ny2 cy2) yp.frm yp.period] W fun e w'=>e=.returned (.bool (bi_ xp yp))∧_ at HE;change Hid (xp=_) at HXP;change Hid (yp=_) at HYP;dsimp only at e0 e1 e2 e3 g0 g1 g2 g3;cases hq:bi_ xp yp with
    | true=>
     rw [hq] at HE;have HQ:=hq_ hq;clear hq;go_wp2_with (go_at_fn 113;refine (HE _ xE).mono ?_;rintro e w1 ⟨rfl,hb3⟩)
     go_roundw
     case rel=>
      refine ⟨k+1,oq_,by go_num,?_,xE⟩;intro j hj
      by_cases h:j<k
      ·exact HPRE.out j h
      ·obtain rfl:j=k:=oq_;rw [<- HXP.out,<- HYP.out];exact (gr_ _ _).1 HQ.out
     case measure=>simp [intOf];omega
    | false=>
     rw [hq] at HE;have HQ:=hq_ hq;clear hq;go_wp2_with (go_at_fn 113;refine (HE _ xE).mono ?_;rintro e w1 ⟨rfl,hb3⟩)
     go_ret;refine ⟨ac_ (cy_ ?_).symm,xE⟩;rintro rfl;have:=HQ.out;rw [(gr_ _ _).2 (HXP.out.trans HYP.out.symm)] at this;exact absurd this dq_
   ·obtain rfl:k=L.length:=oq_;go_wp2_with fail
    go_ret;refine ⟨ac_ (eq_ ?_).symm,xE⟩;refine List.ext_getElem (by have:=HT.out;have:=HU.out;have:=HNE.out;omega) fun j h1 h2=>?_;have:=HPRE.out j (by have:=HT.out;omega);rw [List.getD_eq_getElem?_getD,List.getD_eq_getElem?_getD,List.getElem?_eq_getElem h1,List.getElem?_eq_getElem h2] at this;exact this
 ·have hneI:¬ (L.length:Int)=M.length:=oq_
  go_enter Tryz.func112,Tryz.ntmps112
  go_wp2_with fail
  go_ret;refine ⟨ac_ (cy_ ?_).symm,xE⟩;rintro rfl;have:=HT.out;have:=HU.out;omega
theorem oy_ (a:Int) (t:List Per) (p:Per):c6_ a (t ++ [p])=max (c6_ a t) p.frm:=by unfold c6_;rw [List.foldl_append];rfl
theorem sz_ (F:Nat->Prop) (v:Value) (t:List Per) (w:World) (ht:ab_ w F v t) :
  Calls Tryz.prog 141 #[v] w fun e w'=>e=.returned (.int .i64 (ba_ t))∧Below w.heap.size w w':=by
 obtain ⟨L,hLt,hL⟩:=ht;obtain ⟨a1,c1,rfl,_⟩:=hL.row;have HL:=hq_ hL;have hl1:=hL.len;have htl:t.length=L.length:=by rw [<- hLt,List.length_map]
 have HT:=hq_ htl;have HLT:=hq_ hLt;clear hL htl hLt
 go_enter Tryz.func141,Tryz.ntmps141
 go_wp2_with fail
 go_loopw [3,5,8] (fun m _ i wr=>∃ k:Nat,k≤L.length∧i=.int .i64 k∧m=.int .i64 (c6_ 0 (t.take k))∧Below w.heap.size w wr) (fun _ _ i _=>L.length-(intOf i).toNat)
 case atStart=>exact ⟨0,oq_,rfl,by simp [c6_],xE⟩
 case round=>
  obtain ⟨k,hk,rfl,rfl,hb⟩:=hrel
  by_cases hlt:k<L.length
  ·have hlI:(k:Int)<L.length:=oq_;obtain ⟨b1,o1,x,rfl,hx,hxp,hb1,e0,e1,e2,e3⟩:=(HL.out.keep (a5_.below hb) hb.size).get hlt;rw [HLT.out] at hxp;have hS:c6_ 0 (t.take (k+1))=max (c6_ 0 (t.take k)) x.p.frm:=by
    have htk:k<t.length:=by have:=HT.out;omega
    rw [List.take_succ_eq_append_getElem htk,oy_,hxp,List.getD_eq_getElem?_getD,List.getElem?_eq_getElem htk];rfl
   have HS:=hq_ hS;have hfr:=hx.fr;obtain ⟨xh,xc,xp⟩:=x;obtain ⟨ax1,nx1,cx1,ax2,nx2,cx2,rfl,rfl⟩:=hx.form;dsimp only at e0 e1 e2 e3 hfr HS;clear hxp hx hS;generalize c6_ 0 (t.take k)=s0 at *;go_wp2_with fail
   all_goals
    go_roundw
    case rel=>exact ⟨k+1,oq_,by go_num,by rw [HS.out],xE⟩
    case measure=>simp [intOf];omega
  ·obtain rfl:k=L.length:=oq_;go_wp2_with fail
   go_ret;refine ⟨?_,xE⟩;have:=HT.out;rw [List.take_of_length_le oq_];rfl
theorem ia_ (h c:Value) (p:Per) (n:Int) (w:World) (hf:0≤p.frm) (hf1:p.frm≤1125899906842624) (hp:1≤p.period) (hp1:p.period≤1125899906842624) (hn:0≤n) (hn1:n≤1125899906842624) :
  Calls Tryz.prog 121 #[perV h c p.frm p.period,.int .i64 n] w fun e w'=>e=.returned (.int .i64 (resP p n))∧Below w.heap.size w w':=by
 have n1:p.period≠0:=oq_;have b1:=Int.emod_nonneg p.frm n1;have b2:=Int.emod_lt_of_pos p.frm (show 0<p.period by omega);have q1:p.frm.tmod p.period=p.frm % p.period:=Int.tmod_eq_emod_of_nonneg hf;have q2:(p.frm % p.period+n).tmod p.period=(p.frm % p.period+n) % p.period:=Int.tmod_eq_emod_of_nonneg oq_;unfold resP;generalize p.frm % p.period=r at *;have HR:Hid (0≤(r+n) % p.period∧(r+n) % p.period<p.period):=hq_ ⟨Int.emod_nonneg _ n1,Int.emod_lt_of_pos _ oq_⟩
 go_enter Tryz.func121,Tryz.ntmps121
 go_wp2_with fail
 go_region
 go_wp2_with fail
 go_ret;exact ⟨rfl,xE⟩
def TV (t:List Per):Prop:=∀ p∈t,validB p=true
theorem n8_ (h:validB p=true):hasB p n=true↔p.mem n:=by
 unfold hasB;rw [h,Bool.true_and,Bool.and_eq_true,decide_eq_true_iff];exact ⟨fun ⟨h0,h1⟩=>(gh_ h0).1 h1,fun h1=>⟨h1.1,(gh_ h1.1).2 h1⟩⟩
theorem ea_ (h:TV t):inB t n=true↔tmem t n:=by
 unfold inB tmem;rw [List.all_eq_true];exact ⟨fun g p hp=>(n8_ (h p hp)).1 (g p hp),fun g p hp=>(n8_ (h p hp)).2 (g p hp)⟩
theorem go_ {S T:Int->Prop} (h:bs_ S f n b) (hs:∀ x,T x↔S x∨(x=d∧tmem t x)) (h1:f≤d) (h2:b=false∨d<n) (h3:tmem t d):bs_ T f d true:=
 (h.take h1 h2).congr fun x _=>by rw [hs];exact or_congr Iff.rfl ⟨fun g=>g.1,fun g=>⟨g,g ▸ h3⟩⟩
theorem d6_ {S T:Int->Prop} (h:bs_ S f n b) (hs:∀ x,T x↔S x∨(x=d∧tmem t x)) (h1:¬ (f≤d∧(b=false∨d<n)∧tmem t d)):bs_ T f n b:=by
 by_cases h3:tmem t d
 ·exact (h.pass fun g=>h1 ⟨g.1,g.2,h3⟩).congr fun x _=>by rw [hs];exact or_congr Iff.rfl ⟨fun g=>g.1,fun g=>⟨g,g ▸ h3⟩⟩
 ·exact h.congr fun x _=>by rw [hs];exact ⟨fun g=>g.elim id fun g=>absurd (g.1 ▸ g.2) h3,.inl⟩
theorem mb_ (F:Nat->Prop) (v:Value) (t:List Per) (f:Int) (w:World) (ht:ab_ w F v t) (hv:TV t) (hf:InI f) :
  Calls Tryz.prog 101 #[v,.int .i64 f] w fun e w'=>∃ (n:Int) (b:Bool),e=.returned (.tuple #[.int .i64 n,.bool b])∧bs_ (cq_ t t.length 0) f n b∧Below w.heap.size w w':=by
 have HIN:=fun W d (h:Below w.heap.size w W) (hd:InI d)=>x7_ F v t d W (ht.ext h) hd;obtain ⟨L,hLt,hL⟩:=ht;obtain ⟨a1,c1,rfl,_⟩:=hL.row;have HL:=hq_ hL;have hl1:=hL.len;have htl:t.length=L.length:=by rw [<- hLt,List.length_map]
 have HT:=hq_ htl;have HLT:=hq_ hLt;have HV:=hq_ hv;clear hL htl hLt hv
 go_enter Tryz.func101,Tryz.ntmps101
 go_wp2_with fail
 go_loopw [6,7,9,11,14] (fun nv bv _ _ i wr=>∃ (k:Nat) (n:Int) (b:Bool),k≤L.length∧i=.int .i64 k∧nv=.int .i64 n∧bv=.bool b∧Hid (bs_ (cq_ t k 0) f n b)∧Below w.heap.size w wr) (fun _ _ _ _ i _=>L.length-(intOf i).toNat)
 case atStart=>exact ⟨0,0,false,oq_,rfl,rfl,rfl,hq_ (bs_.start.congr fun x _=>kp_),xE⟩
 case round=>
  obtain ⟨k,n,b,hk,rfl,rfl,rfl,HBE,hb⟩:=hrel
  by_cases hlt:k<L.length
  ·have hlI:(k:Int)<L.length:=oq_;obtain ⟨b1,o1,x,rfl,hx,hxp,hb1,e0,e1,e2,e3⟩:=(HL.out.keep (a5_.below hb) hb.size).get hlt;rw [HLT.out] at hxp;have hkt:k<t.length:=by have:=HT.out;omega
   have HXP:=hq_ hxp;have hxi:=hx.is.hd;obtain ⟨xh,xc,xp⟩:=x;obtain ⟨ax1,nx1,cx1,ax2,nx2,cx2,rfl,rfl⟩:=hx.form;dsimp only at e0 e1 e2 e3 hxi;change Hid (xp=_) at HXP;obtain ⟨⟨ah,ch,he,_,_,hcl⟩,hln,hrg⟩:=hxi;injection he with he1 he2 he3
   subst he1;subst he2;subst he3;have HCL:=hq_ hcl;have HRG:=hq_ hrg;have HB:=hq_ hb;clear hcl hrg hxp hx;go_wp2_with fail
   go_loopw [6,7,11,21] (fun nv bv _ i wq=>∃ (j:Nat) (n:Int) (b:Bool),j≤xp.head.length∧i=.int .i64 j∧nv=.int .i64 n∧bv=.bool b∧Hid (bs_ (cq_ t k j) f n b)∧Below wr.heap.size wr wq) (fun _ _ _ i _=>xp.head.length-(intOf i).toNat)
   case atStart=>exact ⟨0,n,b,oq_,rfl,rfl,rfl,HBE,xE⟩
   case round=>
    obtain ⟨j,n,b,hj,rfl,rfl,rfl,HBE2,hb2⟩:=hrel
    by_cases hjl:j<xp.head.length
    ·have hjI:(j:Int)<xp.head.length:=oq_;rcases HCL.out with h0|⟨b4,o4,rfl,hc4⟩
     ·rw [h0] at hjl;simp at hjl
     have c0:=Ext.cell hb2 (hc4 j hjl);have hd:=HRG.out _ (aa_ (d:=0) hjl);have HS:=fun x=>l8_ (t:=t) (i:=k) (k:=j) (x:=x) (by rw [<- HXP.out];exact hjl);rw [<- HXP.out] at HS;have HS:=hq_ HS;generalize xp.head.getD j 0=d at *
     by_cases h1:f≤d
     ·cases b with
      | false=>
       cases hq:inB t d with
       | true=>
        have HI:=fun W h=>HIN W d h hd;rw [hq] at HI;have HTM:=hq_ ((ea_ HV.out).1 hq);clear hq;go_wp2_with (go_at_call 59;refine (HI _ xE).mono ?_;rintro e w1 ⟨rfl,hb3⟩)
        go_roundw
        case rel=>exact ⟨j+1,d,true,oq_,by go_num,rfl,rfl,hq_ (go_ HBE2.out HS.out h1 (by first|exact .inl rfl|exact .inr (by assumption)) HTM.out),xE⟩
        case measure=>simp [intOf];omega
       | false=>
        have HI:=fun W h=>HIN W d h hd;rw [hq] at HI;have HTM:Hid (¬ tmem t d):=hq_ fun g=>by rw [(ea_ HV.out).2 g] at hq;exact absurd hq dq_
        clear hq;go_wp2_with (go_at_call 59;refine (HI _ xE).mono ?_;rintro e w1 ⟨rfl,hb3⟩)
        go_roundw
        case rel=>exact ⟨j+1,n,_,oq_,by go_num,rfl,rfl,hq_ (d6_ HBE2.out HS.out fun g=>HTM.out g.2.2),xE⟩
        case measure=>simp [intOf];omega
      | true=>
       by_cases h2:d<n
       ·
        cases hq:inB t d with
        | true=>
         have HI:=fun W h=>HIN W d h hd;rw [hq] at HI;have HTM:=hq_ ((ea_ HV.out).1 hq);clear hq;go_wp2_with (go_at_call 59;refine (HI _ xE).mono ?_;rintro e w1 ⟨rfl,hb3⟩)
         go_roundw
         case rel=>exact ⟨j+1,d,true,oq_,by go_num,rfl,rfl,hq_ (go_ HBE2.out HS.out h1 (by first|exact .inl rfl|exact .inr (by assumption)) HTM.out),xE⟩
         case measure=>simp [intOf];omega
        | false=>
         have HI:=fun W h=>HIN W d h hd;rw [hq] at HI;have HTM:Hid (¬ tmem t d):=hq_ fun g=>by rw [(ea_ HV.out).2 g] at hq;exact absurd hq dq_
         clear hq;go_wp2_with (go_at_call 59;refine (HI _ xE).mono ?_;rintro e w1 ⟨rfl,hb3⟩)
         go_roundw
         case rel=>exact ⟨j+1,n,_,oq_,by go_num,rfl,rfl,hq_ (d6_ HBE2.out HS.out fun g=>HTM.out g.2.2),xE⟩
         case measure=>simp [intOf];omega
       ·go_wp2_with fail
        go_roundw
        case rel=>exact ⟨j+1,n,true,oq_,by go_num,rfl,rfl,hq_ (d6_ HBE2.out HS.out fun g=>g.2.1.elim (fun g=>absurd g dq_) h2),xE⟩
        case measure=>simp [intOf];omega
     ·go_wp2_with fail
      go_roundw
      case rel=>exact ⟨j+1,n,b,oq_,by go_num,rfl,rfl,hq_ (d6_ HBE2.out HS.out fun g=>h1 g.1),xE⟩
      case measure=>simp [intOf];omega
    ·obtain rfl:j=xp.head.length:=oq_;go_wp2_with fail
     go_roundw
     case rel=>exact ⟨k+1,n,b,oq_,by go_num,rfl,rfl,hq_ (HBE2.out.congr fun x _=>by rw [mf_ hkt,<- HXP.out]),xE⟩
     case measure=>simp [intOf];omega
  ·obtain rfl:k=L.length:=oq_;go_wp2_with fail
   go_ret2;exact ⟨n,b,rfl,by rw [HT.out];exact HBE.out,xE⟩
theorem a5_.grown {F:Nat->Prop} (h:W.grownBy W' (some g)) (hF:¬ F g):a5_ F W W':=fun b hb hl=>h.block b hl (by rintro ⟨⟩;exact hF hb)
theorem World.grownBy.trans' {B C:World} {r:Option Nat} (h:A.grownBy B r) (k:B.grownBy C r):A.grownBy C r:=
 ⟨k.os.trans h.os,k.tape.trans h.tape,k.output.trans h.output,Nat.le_trans h.size k.size,fun b hb hn=>(k.block b (Nat.lt_of_lt_of_le hb h.size) hn).trans (h.block b hb hn)⟩
theorem World.grownBy.set' {B:World} (h:A.grownBy B (some g)) (v:Value):A.grownBy (B.setCell ⟨g,i,none⟩ v) (some g):=
 ⟨h.os,h.tape,h.output,by rw [World.size_setCell];exact h.size,fun b hb hn=>(Below.heap_setCell B ⟨g,i,none⟩ v b (by rintro rfl;exact hn rfl)).trans (h.block b hb hn)⟩
theorem World.grownBy.below' {B:World} {B0:Nat} (h:A.grownBy B (some g)) (hg:B0≤g) (hB:B0≤A.heap.size):Below B0 A B:=
 ⟨h.os,h.tape,h.output,h.size,fun b hb=>h.block b oq_ (by rintro ⟨⟩;omega)⟩
def Fits (xs:List Value) (done:List (Int × Int)):Prop:=∀ k,k<done.length->xs[k]? = some (.int .i64 (done.getD k (0,0)).2)
theorem Fits.snoc {done:List (Int × Int)} {a:Int × Int} (h:Fits xs done) (hl:done.length<xs.length):Fits (xs.set done.length (.int .i64 a.2)) (done ++ [a]):=by
 intro k hk;rw [List.length_append] at hk;simp only [List.length_singleton] at hk
 by_cases hk2:k<done.length
 ·rw [List.getElem?_set_ne oq_,h k hk2,List.getD_eq_getElem?_getD,List.getD_eq_getElem?_getD,List.getElem?_append_left hk2]
 ·obtain rfl:k=done.length:=oq_;rw [List.getElem?_set_self hl,List.getD_eq_getElem?_getD,List.getElem?_append_right oq_];simp
theorem Fits.pre {done:List (Int × Int)} {a:Int × Int} (h:Fits xs (done ++ [a])):Fits xs done:=fun k hk=>by
 have:=h k tq_;rwa [List.getD_eq_getElem?_getD,List.getElem?_append_left hk,<- List.getD_eq_getElem?_getD] at this
def el_ (done:List (Int × Int)) (p:Per) (t:List Per) (c:Int):Prop:=fr_ done p.period (resP p c)∧Ext (done ++ [(p.period,resP p c)]) t
theorem jy_ {done:List (Int × Int)} (h:i<t.length):Ext done (t.drop i)↔∃ c∈(t.getD i default).cycle,el_ done (t.getD i default) (t.drop (i+1)) c:=by
 rw [List.drop_eq_getElem_cons h,List.getD_eq_getElem?_getD,List.getElem?_eq_getElem h];rfl
def ff_ (done:List (Int × Int)) (P r:Int) (k:Nat):Prop:=∀ j,j<k->(r-(done.getD j (0,0)).2) % ((Int.gcd P (done.getD j (0,0)).1:Nat):Int)=0
theorem j3_ {done:List (Int × Int)}:fr_ done P r↔ff_ done P r done.length:=by
 constructor
 ·exact fun h j hj=>h _ (aa_ hj)
 ·intro h x hx;obtain ⟨j,hj,rfl⟩:=List.mem_iff_getElem.1 hx;have:=h j hj;rwa [List.getD_eq_getElem?_getD,List.getElem?_eq_getElem hj] at this
theorem ff_.succ {done:List (Int × Int)} (h:ff_ done P r k) (h1:(r-(done.getD k (0,0)).2) % ((Int.gcd P (done.getD k (0,0)).1:Nat):Int)=0):ff_ done P r (k+1):=fun j hj=>by
 by_cases hj2:j<k
 ·exact h j hj2
 ·obtain rfl:j=k:=oq_;exact h1
structure Cho (g:Nat) (F:Nat->Prop) (v:Value) (L:List PV) (b1 b2 b3:Nat) (done:List (Int × Int)) (w:World) (xs:List Value):Prop where
 term:be_ w F v L
 c1:w.cell? ⟨b1,0,none⟩=some v
 c2:w.cell? ⟨b2,0,none⟩=some (.slice (some ⟨g,0,none⟩) L.length L.length)
 c3:w.cell? ⟨b3,0,none⟩=some (.func (.func 120) #[] #[.pointer (some ⟨b1,0,none⟩),.pointer (some ⟨b2,0,none⟩),.pointer (some ⟨b3,0,none⟩)])
 row:w.ownsRow g 3 1 (.slice (some ⟨g,0,none⟩) L.length L.length) L.length xs
 fits:Fits xs done
theorem Cho.grow {F:Nat->Prop} {b1 b2 b3:Nat} {done done':List (Int × Int)} {xs':List Value} (h:Cho g F v L b1 b2 b3 done w xs) (hg:w.grownBy W (some g)) (hF:¬ F g) (h1:b1≠g) (h2:b2≠g) (h3:b3≠g)
  (hr:W.ownsRow g 3 1 (.slice (some ⟨g,0,none⟩) L.length L.length) L.length xs') (hf:Fits xs' done'):Cho g F v L b1 b2 b3 done' W xs':=
 ⟨h.term.keep (a5_.grown hg hF) hg.size,hg.cell h.c1 (by rintro ⟨⟩;exact h1 rfl),hg.cell h.c2 (by rintro ⟨⟩;exact h2 rfl),hg.cell h.c3 (by rintro ⟨⟩;exact h3 rfl),hr,hf⟩
theorem Cho.below {F:Nat->Prop} {b1 b2 b3:Nat} {done:List (Int × Int)} (h:Cho g F v L b1 b2 b3 done w xs) (hb:Below w.heap.size w W):Cho g F v L b1 b2 b3 done W xs:=
 ⟨h.term.keep (a5_.below hb) hb.size,Ext.cell hb h.c1,Ext.cell hb h.c2,Ext.cell hb h.c3,h.row.kept (row:=none) ⟨hb.os,hb.tape,hb.output,hb.size,fun b hl _=>hb.block b hl⟩ (by right;simp [Value.ownBlock]),h.fits⟩
def xe_ (g:Nat) (F:Nat->Prop) (v:Value) (L:List PV) (b1 b2 b3:Nat) (done:List (Int × Int)) (i:Nat) (w:World) (e:Ending) (w':World):Prop:=
 ∃ b xs',e=.returned (.bool b)∧(b=true↔Ext done ((L.map PV.p).drop i))∧Cho g F v L b1 b2 b3 done w' xs'∧w.grownBy w' (some g)
theorem qj_ (g:Nat) (F:Nat->Prop) (v:Value) (L:List PV) (b1 b2 b3:Nat) (hF:¬ F g) (h1:b1≠g) (h2:b2≠g) (h3:b3≠g) (hv:TV (L.map PV.p)) :
  ∀ (n i:Nat) (done:List (Int × Int)) (xs:List Value) (w:World),i+n=L.length->done.length=i->(∀ k,k<i->(done.getD k (0,0)).1=((L.map PV.p).getD k default).period∧0≤(done.getD k (0,0)).2∧(done.getD k (0,0)).2≤1099511627776)->
   Cho g F v L b1 b2 b3 done w xs->
   Calls Tryz.prog 120 #[.int .i64 i,.pointer (some ⟨b1,0,none⟩),.pointer (some ⟨b2,0,none⟩),.pointer (some ⟨b3,0,none⟩)] w (xe_ g F v L b1 b2 b3 done i w):=by
 intro n
 induction n with
 | zero=>
  intro i done xs w hi hd hpr hc;have hl1:=hc.term.len;obtain rfl:i=L.length:=oq_;obtain ⟨a1,c1,rfl,hx1,hx2,_⟩:=hc.term.row.is;have k1:=hc.c1;have HC:=hq_ hc;clear hc hpr hd
  go_enter Tryz.func120,Tryz.ntmps120
  go_wp2_with fail
  go_step3
  go_wp2_with fail
  try rw [Exit.noGoto_ret]
  go_ret;exact ⟨true,xs,rfl,by rw [List.drop_of_length_le sq_];exact ⟨fun _=>trivial,fun _=>rfl⟩,HC.out,⟨rfl,rfl,rfl,Nat.le_refl _,fun _ _ _=>rfl⟩⟩
 | succ n ih=>
  intro i done xs w hi hd hpr hc;have IH:=hq_ ih;clear ih;have hl1:=hc.term.len;have hli:i<L.length:=oq_;have hiI:(i:Int)<L.length:=oq_;obtain ⟨a1,cc1,rfl,hx1,hx2,_⟩:=hc.term.row.is;have k1:=hc.c1;obtain ⟨tb,o1,x,ha,hx,hxp,hb1,e0,e1,e2,e3⟩:=hc.term.get hli;subst ha;have HXP:=hq_ hxp;have hvx:validB x.p=true:=hv _ (by rw [hxp];exact aa_ (by simpa using hli));have hvv:=(as_ x.p).1 hvx;have hxi:=hx.is.cy;obtain ⟨xh,xc,xp⟩:=x;obtain ⟨ax1,nx1,cx1,ax2,nx2,cx2,rfl,rfl⟩:=hx.form;dsimp only at e0 e1 e2 e3 hxi hvv;change Hid (xp=_) at HXP;obtain ⟨⟨ah,ch,he,_,_,hcl⟩,hln,hrg⟩:=hxi;injection he with he1 he2 he3
  subst he1;subst he2;subst he3;have f0:=hvv.wf.frm;have f1:xp.frm≤1099511627776:=hvv.frm;have p0:=hvv.wf.per;have p1:xp.period≤1099511627776:=hvv.per;have HCY:=hq_ hvv.wf.cyc;have HCL:=hq_ hcl;have HC:=hq_ hc;have HPR:=hq_ hpr;have HX:=hq_ hx;have HD:=hq_ hd;have HI:=hq_ hi;have HV:=hq_ hv;clear hcl hc hpr hx hvv hvx hrg hxp hd hv hi
  go_enter Tryz.func120,Tryz.ntmps120
  go_wp2_with fail
  go_step3
  go_wp2_with fail
  go_step3
  go_wp2_with fail
  generalize ((i:Int) == (L.length:Int))=q13
  go_loopw [5,7,8,9,20] (fun _ _ _ _ idx wr=>∃ (j:Nat) (ys:List Value),j≤xp.cycle.length∧idx=.int .i64 j∧Hid (∀ q,q<j->¬ el_ done xp ((L.map PV.p).drop (i+1)) (xp.cycle.getD q 0))∧Hid (Cho g F (.slice (some ⟨tb,o1,none⟩) L.length cc1) L b1 b2 b3 done wr ys)∧Hid (w.grownBy wr (some g))) (fun _ _ _ _ idx _=>xp.cycle.length-(intOf idx).toNat)
  case atStart=>exact ⟨0,xs,oq_,rfl,hq_ (fun q hq=>oq_),HC,hq_ ⟨rfl,rfl,rfl,Nat.le_refl _,fun _ _ _=>rfl⟩⟩
  case round=>
   obtain ⟨j,ys,hj,rfl,HNO,HCH,HG⟩:=hrel
   by_cases hjl:j<xp.cycle.length
   ·have hjI:(j:Int)<xp.cycle.length:=oq_;have q1:=HCH.out.c1;obtain ⟨_,_,y,hay,hy,hyp,hyb,g0,g1,g2,g3⟩:=HCH.out.term.get hli;cases hay;obtain ⟨yh,yc,yp⟩:=y;obtain ⟨ay1,ny1,cy1,ay2,ny2,cy2,rfl,rfl⟩:=hy.form;obtain rfl:yp=xp:=hyp.trans HXP.out.symm;dsimp only at g0 g1 g2 g3;have hcyr:=(HX.out.keep (a5_.grown HG.out hF)).is.cy;obtain ⟨⟨ah,ch,he,_,_,hcl⟩,_,_⟩:=hcyr;injection he with he1 he2 he3
    subst he1;subst he3;rcases hcl with h0|⟨b4,o4,rfl,hc4⟩
    ·rw [h0] at hjl;simp at hjl
    have c0:=hc4 j hjl;have hcb:=HCY.out.2 _ (aa_ (d:=0) hjl);have HJ:Hid (yp.cycle.getD j 0∈yp.cycle):=hq_ (aa_ hjl);generalize hcc:yp.cycle.getD j 0=c at *;have HCC:=hq_ hcc;have hr:=h2_ ((as_ yp).1 (HV.out _ (by rw [HXP.out];exact aa_ (by simpa using hli)))).wf c;have HRES:=fun W=>ia_ (.slice ay1 ny1 cy1) (.slice ay2 ny2 cy2) yp c W f0 oq_ p0 oq_ hcb.1 oq_;generalize hrr:resP yp c=r at *;have HRR:=hq_ hrr;have HYP:=hq_ hyp;clear hc4 hcc hrr hy hyp;go_wp2_with (go_at_call 121;refine (HRES _).mono ?_;rintro e w1 ⟨rfl,hbr⟩)
    have HC1:=hq_ (HCH.out.below hbr);have HB1:=hq_ hbr
    go_loopw [9,31] (fun _ idx wq=>∃ k:Nat,k≤i∧idx=.int .i64 k∧Hid (ff_ done yp.period r k)∧Hid (Below w1.heap.size w1 wq)) (fun _ idx _=>i-(intOf idx).toNat)
    case atStart=>exact ⟨0,oq_,rfl,hq_ (fun _ h=>absurd h oq_),hq_ (Below.refl _ _)⟩
    case round=>
     obtain ⟨k,hk,rfl,HAG,HB⟩:=hrel;have HCQ:=hq_ (HC1.out.below HB.out);have q1:=HCQ.out.c1;have q2:=HCQ.out.c2
     by_cases hkl:k<i
     ·have hkI:(k:Int)<i:=oq_;have q4:=(HCQ.out.row.cellAt k oq_).trans (HCQ.out.fits k (by have:=HD.out;omega));obtain ⟨hd1,hd2,hd3⟩:=HPR.out k hkl;obtain ⟨_,_,y,hay,hy,hyp,hyb,g0,g1,g2,g3⟩:=HCQ.out.term.get hli;cases hay;obtain ⟨yh,yc,yp'⟩:=y;obtain ⟨ay1,ny1,cy1,ay2,ny2,cy2,rfl,rfl⟩:=hy.form;obtain rfl:yp'=yp:=hyp.trans HXP.out.symm;obtain ⟨_,_,z,hay,hz,hzp,hzb,z0,z1,z2,z3⟩:=HCQ.out.term.get (show k<L.length by omega);cases hay;obtain ⟨zh,zc,zp⟩:=z;obtain ⟨az1,nz1,dz1,az2,nz2,dz2,rfl,rfl⟩:=hz.form;dsimp only at g0 g1 g2 g3 z0 z1 z2 z3;change zp=_ at hzp;rw [<- hzp] at hd1;have hzv:=(as_ zp).1 (HV.out _ (by rw [hzp];exact aa_ tq_));have z5:=hzv.wf.per;have z6:zp.period≤1099511627776:=hzv.per;have hgb:=bn_ (a:=yp'.period) (b:=zp.period) p0;have HGC:=fun W=>g6_ yp'.period zp.period W oq_ oq_ oq_ oq_;have HSUC:Hid ((r-(done.getD k (0,0)).2) % ((Int.gcd yp'.period (done.getD k (0,0)).1:Nat):Int)=0->ff_ done yp'.period r (k+1)):=hq_ HAG.out.succ;have HFAI:Hid (fr_ done yp'.period r->(r-(done.getD k (0,0)).2) % ((Int.gcd yp'.period (done.getD k (0,0)).1:Nat):Int)=0):=hq_ fun h=>j3_.1 h k (by have:=HD.out;omega);rw [hd1] at HSUC HFAI;generalize ((Int.gcd yp'.period zp.period:Nat):Int)=G at *;generalize (done.getD k (0,0)).2=d2 at *;have htm:(r-d2).tmod G=0↔(r-d2) % G=0:=by
       constructor
       ·exact fun h=>Int.emod_eq_zero_of_dvd (Int.dvd_of_tmod_eq_zero h)
       ·exact fun h=>Int.tmod_eq_zero_of_dvd (Int.dvd_of_emod_eq_zero h)
      by_cases ha:(r-d2) % G=0
      ·have hT:=htm.2 ha;have HN:=hq_ (HSUC.out ha);clear htm ha hy hz hd1 hzv hyp hzp;go_wp2_with fail
       go_quiet ((go_at_call 77;(first|exact Calls.quiet_of (HGC _)|exact d9_ (HGC _))))
       go_wp2_with fail
       go_roundw
       case rel=>exact ⟨k+1,oq_,by go_num,HN,hq_ (Below.drewN HB.out _)⟩
       case measure=>simp [intOf];omega
      ·have hT:(r-d2).tmod G≠0:=fun h=>ha (htm.1 h);have HNT:Hid (¬ el_ done yp' ((L.map PV.p).drop (i+1)) c):=hq_ fun h=>ha (HFAI.out (by have:=h.1;rwa [HRR.out] at this));clear htm ha hy hz hd1 hzv hyp hzp;go_wp2_with fail
       go_quiet ((go_at_call 77;(first|exact Calls.quiet_of (HGC _)|exact d9_ (HGC _))))
       go_wp2_with fail
       go_roundw
       case rel=>exact ⟨j+1,ys,oq_,by go_num,hq_ (fun q hq=>by
        by_cases hqj:q<j
        ·exact HNO.out q hqj
        ·obtain rfl:q=j:=oq_;rw [HCC.out];exact HNT.out),hq_ (HCQ.out.below (Below.drewN (Below.refl _ _) _)),hq_ (World.grownBy.trans' HG.out (World.grownBy.of_below ((HB1.out.trans ((Below.drewN HB.out _).mono HB1.out.size))) _))⟩
       case measure=>simp [intOf];omega
     ·obtain rfl:k=i:=oq_;have q5:=(HCQ.out.row.cellAt k oq_);have hyl:ys.length=L.length:=by have:=HCQ.out.row.1;omega
      rw [List.getElem?_eq_getElem oq_] at q5;have q6:=HCQ.out.row.frozenAt k;have hgr:wr.grownBy (wr.setCell ⟨g,k,none⟩ (.int .i64 r)) (some g):=World.grownBy.set' ⟨rfl,rfl,rfl,Nat.le_refl _,fun _ _ _=>rfl⟩ _;have HFD:Hid (Fits (ys.set k (.int .i64 r)) (done ++ [(yp.period,r)])):=hq_ (by have h:=HCQ.out.fits.snoc (a:=(yp.period,r)) (by rw [HD.out];omega);rwa [HD.out] at h);have HST:=hq_ (HCQ.out.grow hgr hF h1 h2 h3 (HCQ.out.row.stored k (.int .i64 r)).1 HFD.out);have HREC:=IH.out (k+1) (done ++ [(yp.period,r)]) _ _ (by have:=HI.out;omega) (by simp [HD.out]) (fun q hq=>by
       by_cases hqk:q<k
       ·have h:=HPR.out q hqk;have e:(done ++ [(yp.period,r)]).getD q (0,0)=done.getD q (0,0):=by rw [List.getD_eq_getElem?_getD,List.getElem?_append_left (by have:=HD.out;omega),<- List.getD_eq_getElem?_getD]
        rw [e];exact h
       ·obtain rfl:q=k:=oq_;have e:(done ++ [(yp.period,r)]).getD q (0,0)=(yp.period,r):=by rw [List.getD_eq_getElem?_getD,List.getElem?_append_right (by have:=HD.out;omega),HD.out];simp
        rw [e];exact ⟨by rw [<- HXP.out],oq_,oq_⟩) HST.out
      rw [show ((k+1:Nat):Int)=(k:Int)+1 from by omega] at HREC;have HAG2:Hid (fr_ done yp.period r):=hq_ (j3_.2 (by rw [HD.out];exact HAG.out));have HGW:=hq_ (World.grownBy.trans' HG.out (World.grownBy.of_below (HB1.out.trans (HB.out.mono HB1.out.size)) _));have q7:=HST.out.c3;have q8:=HST.out.c1;clear hgr;go_wp2_with (go_at_call 120;refine HREC.mono ?_;rintro e w2 ⟨bb,zs,rfl,hiff,hch2,hg2⟩;have HIF:=hq_ hiff;have HC2:=hq_ hch2;have HG2:=hq_ hg2;clear hiff hch2 hg2;cases bb)
      ·
       go_roundw
       case rel=>exact ⟨j+1,zs,oq_,by go_num,hq_ (fun q hq=>by
        by_cases hqj:q<j
        ·exact HNO.out q hqj
        ·obtain rfl:q=j:=oq_;rw [HCC.out];rintro ⟨h7,h8⟩;rw [HRR.out] at h8;exact absurd h8 (by simpa using HIF.out)),hq_ ⟨HC2.out.term,HC2.out.c1,HC2.out.c2,HC2.out.c3,HC2.out.row,HC2.out.fits.pre⟩,hq_ (World.grownBy.trans' (World.grownBy.set' HGW.out _) HG2.out)⟩
       case measure=>simp [intOf];omega
      ·
       try rw [Exit.noGoto_ret]
       go_ret;refine ⟨true,zs,rfl,?_,⟨HC2.out.term,HC2.out.c1,HC2.out.c2,HC2.out.c3,HC2.out.row,HC2.out.fits.pre⟩,World.grownBy.trans' (World.grownBy.set' HGW.out _) HG2.out⟩;refine ⟨fun _=>(jy_ tq_).2 ⟨c,?_,?_⟩,fun _=>rfl⟩
       ·rw [<- HXP.out];exact HJ.out
       ·rw [<- HXP.out];exact ⟨by rw [HRR.out];exact HAG2.out,by rw [HRR.out];exact HIF.out.1 (by first|rfl|trivial|simp)⟩
   ·obtain rfl:j=xp.cycle.length:=oq_;go_wp2_with fail
    try rw [Exit.noGoto_ret]
    go_ret;refine ⟨false,ys,rfl,⟨fun h=>absurd h dq_,fun h=>?_⟩,HCH.out,HG.out⟩;obtain ⟨c,hc1,hc2⟩:=(jy_ tq_).1 h;rw [<- HXP.out] at hc1 hc2;obtain ⟨q,hq,rfl⟩:=List.mem_iff_getElem.1 hc1;exact absurd (by rw [List.getD_eq_getElem?_getD,List.getElem?_eq_getElem hq];exact hc2) (HNO.out q hq)
theorem Ints.lt (h:Ints W v l) (hl:l≠[]) (hk:v.ownBlock=some k):k<W.heap.size:=by
 obtain ⟨⟨a,c,rfl,h1,h2,h3⟩,h4,h5⟩:=h;rcases h3 with h3|⟨b,o,rfl,hc⟩
 ·exact absurd h3 hl
 ·simp [Value.ownBlock] at hk;subst hk;exact World.block_lt_of_cell? W _ (hc 0 (List.length_pos_iff.2 hl))
theorem PVok.lt {F:Nat->Prop} {x:PV} (h:PVok W F x):PVok W (fun b=>F b∧b<W.heap.size) x:=
 ⟨h.is,h.fr,h.pe,fun e k hk=>⟨h.bh e k hk,h.is.hd.lt e hk⟩,fun e k hk=>⟨h.bc e k hk,h.is.cy.lt e hk⟩⟩
theorem RowR.lt {F:Nat->Prop} {n:Nat} (h:RowR W F v n cs):RowR W (fun b=>F b∧b<W.heap.size) v n cs:=by
 obtain ⟨a,c,rfl,h1,h2,h3⟩:=h;refine ⟨a,c,rfl,h1,h2,h3.imp id ?_⟩;rintro ⟨b,o,rfl,hb,hl,hc⟩;exact ⟨b,o,rfl,⟨hb,hl⟩,hl,hc⟩
theorem be_.lt {F:Nat->Prop} (h:be_ W F v L):be_ W (fun b=>F b∧b<W.heap.size) v L:=⟨h.row.lt,h.len,fun x hx=>(h.all x hx).lt⟩
theorem ab_.lt {F:Nat->Prop} (h:ab_ W F v t):ab_ W (fun b=>F b∧b<W.heap.size) v t:=by
 obtain ⟨L,e,g⟩:=h;exact ⟨L,e,g.lt⟩
theorem MixL.lt {F:Nat->Prop} {L:List (Value × List Per)} (h:MixL W F v L):MixL W (fun b=>F b∧b<W.heap.size) v L:=⟨h.row.lt,h.len,fun x hx=>(h.all x hx).lt⟩
theorem MixR.lt {F:Nat->Prop} (h:MixR W F v m):MixR W (fun b=>F b∧b<W.heap.size) v m:=by
 obtain ⟨L,e,g⟩:=h;exact ⟨L,e,g.lt⟩
theorem TV.wf (h:TV t):∀ p∈t,p.WF:=fun p hp=>((as_ p).1 (h p hp)).wf
theorem r4_ (F:Nat->Prop) (v:Value) (L:List PV) (w w3:World) (xs:List Value) (hv:TV (L.map PV.p)) (hT:be_ w (fun b=>F b∧b<w.heap.size) v L) (hb:Below w.heap.size w w3) (hs:w.heap.size+1<w3.heap.size)
  (hc:w3.cell? ⟨w.heap.size,0,none⟩=some v) (ho:w3.ownsRow (w.heap.size+1) 3 1 (.slice (some ⟨w.heap.size+1,0,none⟩) L.length L.length) L.length xs) :
  Calls Tryz.prog 120 #[.int .i64 0,.pointer (some ⟨w.heap.size,0,none⟩),.pointer (some ⟨w3.heap.size,0,none⟩),.pointer (some ⟨w3.heap.size+1,0,none⟩)]
   ((w3.alloc (.cells #[.slice (some ⟨w.heap.size+1,0,none⟩) L.length L.length] 37)).alloc (.cells #[.func (.func 120) #[] #[.pointer (some ⟨w.heap.size,0,none⟩),.pointer (some ⟨w3.heap.size,0,none⟩),.pointer (some ⟨w3.heap.size+1,0,none⟩)]] 111))
   fun e w'=>∃ b,e=.returned (.bool b)∧(b=true↔recT (L.map PV.p))∧Below w.heap.size w w':=by
 have hcho:Cho (w.heap.size+1) (fun b=>F b∧b<w.heap.size) v L w.heap.size w3.heap.size (w3.heap.size+1) []
   ((w3.alloc (.cells #[.slice (some ⟨w.heap.size+1,0,none⟩) L.length L.length] 37)).alloc (.cells #[.func (.func 120) #[] #[.pointer (some ⟨w.heap.size,0,none⟩),.pointer (some ⟨w3.heap.size,0,none⟩),.pointer (some ⟨w3.heap.size+1,0,none⟩)]] 111)) xs:=by
  refine ⟨hT.keep (a5_.below ((Ea (Ea hb _) _))) (Ea (Ea hb _) _).size,ag_ (ag_ hc _) _,ag_ ?_ _,?_,(ho.alloc _).alloc _,fun k hk=>absurd hk sq_⟩
  ·exact ((Bxx.new _ _ _).cells 0).1
  ·have h:=((Bxx.at (w:=w3.alloc (.cells #[.slice (some ⟨w.heap.size+1,0,none⟩) L.length L.length] 37)) (b:=w3.heap.size+1) (c:=#[.func (.func 120) #[] #[.pointer (some ⟨w.heap.size,0,none⟩),.pointer (some ⟨w3.heap.size,0,none⟩),.pointer (some ⟨w3.heap.size+1,0,none⟩)]]) (t:=111) (by rw [World.size_alloc])).cells 0).1;exact h
 have h:=qj_ (w.heap.size+1) _ v L w.heap.size w3.heap.size (w3.heap.size+1) oq_ oq_ oq_ oq_ hv L.length 0 [] xs _ oq_ rfl (fun k hk=>oq_) hcho;refine h.mono ?_;rintro e w' ⟨b,zs,rfl,hiff,-,hg⟩;refine ⟨b,rfl,?_,(Ea (Ea hb _) _).trans (World.grownBy.below' hg oq_ (by simp [World.size_alloc];omega))⟩;rw [hiff,List.drop_zero];exact ls_ hv.wf
theorem hg_ (F:Nat->Prop) (v:Value) (t:List Per) (w:World) (ht:ab_ w F v t) (hv:TV t) :
  Calls Tryz.prog 76 #[v] w fun e w'=>∃ b,e=.returned (.bool b)∧(b=true↔recT t)∧Below w.heap.size w w':=by
 obtain ⟨L,rfl,hL⟩:=ht;obtain ⟨a1,cc1,rfl,hx1,hx2,_⟩:=hL.row.is;have hl1:=hL.len;have HRC:=hq_ (ls_ hv.wf);have HT:=fun W (h:Below w.heap.size w W)=>(hL.lt.keep (a5_.below h) h.size);have HV:=hq_ hv;have HTL:=hq_ HT;obtain ⟨bi,hbi,hbz,hbs,hby⟩:=dt_;clear hL HT hv
 go_enter Tryz.func76,Tryz.ntmps76
 go_wp2_with (first|(at_make;refine wpList_make_full _ rfl _ _ 37 rfl (w.heap.size+1) 3 bi (.int .i64 0) 1 Tryz.underlying37 hbi hbz hbs .i64 .i64 _ _ L.length rfl rfl rfl rfl (by rw [hby];omega) (by unfold maxLen;omega) sq_ ?_;intro w3 hown3 hgrow3;have hb3:Below w.heap.size w w3:=(Below.trans (Ea (Er w) _) ((Below.refl _ _).grown hgrow3 sq_ (fun k e=>by cases e))))|(go_at_call 120;have hs3:=(hown3.lt _ rfl).2;have hc3:=hgrow3.cell ((Bxx.new w _ _).cells 0).1 sq_;rw [World.size_alloc] at hown3 hs3;refine (r4_ F _ L w w3 _ HV.out (HTL.out w (Er w)) hb3 hs3 hc3 hown3).mono ?_;rintro e w4 ⟨b,rfl,hb4⟩))
 go_ret;exact ⟨b,rfl,hb4⟩
theorem m1_ (hw:∀ p∈t,p.WF) (h:bs_ (cq_ t t.length 0) 0 n b):bt_ t↔b=false∧¬ recT t:=by
 by_cases hne:t=[]
 ·subst hne;exact ⟨fun h=>absurd (fun p hp=>by simp at hp) (h 0),fun ⟨_,h⟩=>absurd ⟨0,dq_,fun p hp=>by simp at hp⟩ h⟩
 ·rw [rh_];refine and_congr ?_ Iff.rfl;have h2:=h.congr (T:=fun x=>tmem t x∧x<ba_ t) fun x _=>(mi_ hne hw).symm;rcases h2 with ⟨rfl,h1,h3,_⟩|⟨rfl,rfl,h1⟩
  ·exact ⟨fun g=>absurd h3.1 (g n h3.2),fun g=>absurd g dq_⟩
  ·exact ⟨fun _=>rfl,fun _ x hx hm=>h1 x (jb_ hne hm) ⟨hm,hx⟩⟩
theorem kz_ (F:Nat->Prop) (v:Value) (t:List Per) (w:World) (ht:ab_ w F v t) (hv:TV t) :
  Calls Tryz.prog 75 #[v] w fun e w'=>∃ b,e=.returned (.bool b)∧(b=true↔bt_ t)∧Below w.heap.size w w':=by
 have H1:=mb_ F v t 0 w ht hv (by constructor <;> decide);have H2:=fun W (h:Below w.heap.size w W)=>hg_ F v t W (ht.ext h) hv;have HW:=hq_ hv.wf;obtain ⟨L,rfl,hL⟩:=ht;obtain ⟨a1,cc1,rfl,hx1,hx2,_⟩:=hL.row.is;clear hL hv
 go_enter Tryz.func75,Tryz.ntmps75
 go_wp2_with (first|(go_at_call 101;refine H1.mono ?_;rintro e w1 ⟨n,b,rfl,hE,hb1⟩;have HE:=hq_ hE;clear hE;cases b)|(go_at_call 76;refine (H2 _ xE).mono ?_;rintro e w2 ⟨r,rfl,hR,hb2⟩;have HR:=hq_ hR;clear hR;cases r))
 all_goals go_ret
 all_goals
  refine ⟨_,rfl,?_,xE⟩;rw [m1_ HW.out HE.out]
  first|(simp;done)|(have:=HR.out;simp at this ⊢;exact this)
theorem gb_ {t:TypeId}:∀ (vs:List Value) (o:Nat) (w:World) (cur:Array Value),Bxx w g cur t->o+vs.length≤cur.size->
  ∃ cur',Bxx (w.setCells g o vs) g cur' t∧cur'.size=cur.size∧(∀ i,i<cur.size->cur'[i]? = if o≤i∧i<o+vs.length then vs[i-o]? else cur[i]?)∧w.grownBy (w.setCells g o vs) (some g)
 | [],o,w,cur,h,_=>⟨cur,h,rfl,fun i hi=>by rw [if_neg sq_],⟨rfl,rfl,rfl,Nat.le_refl _,fun _ _ _=>rfl⟩⟩
 | v :: vs,o,w,cur,h,hl=>by
  rw [List.length_cons] at hl;have h1:Bxx (w.setCell ⟨g,o,none⟩ v) g (cur.setIfInBounds o v) t:=a4_ o v h;obtain ⟨cur',g1,g2,g3,g4⟩:=gb_ vs (o+1) _ _ h1 (by rw [Array.size_setIfInBounds];omega);refine ⟨cur',g1,by rw [g2,Array.size_setIfInBounds],fun i hi=>?_,World.grownBy.trans' (World.grownBy.set' ⟨rfl,rfl,rfl,Nat.le_refl _,fun _ _ _=>rfl⟩ v) g4⟩;rw [g3 i (by rw [Array.size_setIfInBounds];exact hi)]
  by_cases h5:o=i
  ·subst h5;rw [if_neg oq_,if_pos sq_,Array.getElem?_setIfInBounds_self_of_lt hi];simp
  ·rw [Array.getElem?_setIfInBounds_ne h5]
   by_cases h6:o+1≤i∧i<o+1+vs.length
   ·rw [if_pos h6,if_pos tq_];obtain ⟨k,rfl⟩:∃ k,i=o+1+k:=⟨i-(o+1),oq_⟩;rw [show o+1+k-(o+1)=k by omega,show o+1+k-o=k+1 by omega,List.getElem?_cons_succ]
   ·rw [if_neg h6,if_neg tq_]
theorem jj_ {sz n:Nat} {e:TypeId} (h:w.ownsRow base e sz (.slice (some ⟨g,0,none⟩) n cap) n xs) (hi:i<n) (zs:List Value) (hz:zs.length=sz) :
  ((
   w.setCells g (i*sz) (xs.drop ((i+1)*sz))).setCells g ((n-1)*sz) zs).ownsRow base e sz (.slice (some ⟨g,0,none⟩) (n-1) cap) (n-1) (xs.take (i*sz) ++ xs.drop ((i+1)*sz))∧
   w.grownBy ((w.setCells g (i*sz) (xs.drop ((i+1)*sz))).setCells g ((n-1)*sz) zs) (some g):=by
 obtain ⟨hl,h|⟨g',cap',cur,he,hb,hg,hnc,hcm,hcs,ht⟩⟩:=h
 ·cases h.1
 cases he;obtain ⟨m,rfl⟩:∃ m,n=m+1:=⟨n-1,oq_⟩;have hb1:i*sz≤m*sz:=Nat.mul_le_mul_right _ oq_;have hb2:(m+1)*sz≤cap*sz:=Nat.mul_le_mul_right _ hnc;rw [Nat.succ_mul] at hl ht hb2;rw [Nat.succ_mul,show m+1-1=m from by omega];have hmm:(m+1-1)*sz=m*sz:=by rw [show m+1-1=m from by omega]
 generalize i*sz=a at *;generalize hc:m*sz=c at *;have hdl:(xs.drop (a+sz)).length=c-a:=by rw [List.length_drop];omega
 obtain ⟨cur1,a1,a2,a3,a4⟩:=gb_ (xs.drop (a+sz)) a w cur hg oq_;obtain ⟨cur2,b1,b2,b3,b4⟩:=gb_ zs c _ cur1 a1 oq_;refine ⟨⟨by rw [List.length_append,List.length_take,hdl];omega,.inr ⟨g,cap,cur2,rfl,hb,b1,oq_,hcm,oq_,?_⟩⟩,World.grownBy.trans' a4 b4⟩;rw [hc];refine List.ext_getElem? fun k=>?_
 by_cases hk:k<c
 ·rw [List.getElem?_take_of_lt hk,Array.getElem?_toList,b3 k oq_,if_neg oq_,a3 k oq_]
  by_cases hka:k<a
  ·rw [if_neg oq_,List.getElem?_append_left (by rw [List.length_take];omega),List.getElem?_take_of_lt hka,<- ht,List.getElem?_take_of_lt oq_,Array.getElem?_toList]
  ·rw [if_pos oq_,List.getElem?_append_right (by rw [List.length_take];omega),List.length_take,Nat.min_eq_left oq_]
 ·rw [List.getElem?_eq_none (by rw [List.length_take];omega),List.getElem?_eq_none (by rw [List.length_append,List.length_take,hdl];omega)]
theorem hz_ {P:Program} (w:World) (t e ty:TypeId) (z:Value) (ht:P.underlying t=some (.slice e)) (hv:∀ w,(zeroValue e).run P w=.ok z w) (h1:∀ v∈z.cells.toList,v.oneCell'=true) (b o c:Nat)
  (hc:∀ j,j<z.cells.size->(w.cell? ⟨b,o+j,none⟩).isSome=true∧w.frozen? ⟨b,o+j,none⟩=false) :
  (Builtin.clear_ #[t] ty #[.slice (some ⟨b,o,none⟩) 1 c]).run P w=.ok (.tuple #[]) (w.setCells b o z.cells.toList):=by
 have hzc:(Builtin.zeroCells z.cells 1).toList=z.cells.toList:=by
  refine List.ext_getElem (by simp [Builtin.zeroCells]) fun i g1 g2=>?_;have h3:i<z.cells.size:=by simpa using g2
  simp [Builtin.zeroCells,Nat.mod_eq_of_lt h3,h3]
 have hst:=run_storeCells_cells (P:=P) b o z.cells.toList 0 w (fun j hj=>(hc j (by simpa using hj)).1) (fun j hj=>(hc j (by simpa using hj)).2) h1;simp only [Nat.add_zero] at hst;simp [Builtin.clear_,run_underlying ht,hv,hzc,hst]
theorem f1_:∃ i,Tryz.prog.info? 39=some i∧i.zero=some (.agg #[.slice none 0 0,.int .i64 0,.int .i64 0,.slice none 0 0])∧i.size=4∧i.bytes=64:=by
 have h:(Tryz.prog.info? 39).map (fun i=>(i.zero,i.size,i.bytes))=some (some (.agg #[.slice none 0 0,.int .i64 0,.int .i64 0,.slice none 0 0]),4,64):=by kernel_rfl
 obtain ⟨i,hi,h1,h2,h3⟩:=info_parts h;exact ⟨i,hi,h1,h2,h3⟩
theorem gi_:∃ i,Tryz.prog.info? 36=some i∧i.zero=some (.slice none 0 0)∧i.size=1∧i.bytes=24:=by
 have h:(Tryz.prog.info? 36).map (fun i=>(i.zero,i.size,i.bytes))=some (some (.slice none 0 0),1,24):=by kernel_rfl
 obtain ⟨i,hi,h1,h2,h3⟩:=info_parts h;exact ⟨i,hi,h1,h2,h3⟩
theorem m9_ {P:Program} {t:TypeId} {i:TypeInfo} {z:Value} (h:P.info? t=some i) (hz:i.zero=some z) (w:World):(zeroValue t).run P w=.ok z w:=by
 simp [zeroValue,typeInfo,h,hz]
theorem pf_ (base g n cap i:Nat) (xs:List Value) (w:World) (h:w.ownsRow base 39 4 (.slice (some ⟨g,0,none⟩) n cap) n xs) (hi:i<n) (h1c:∀ u∈xs,u.oneCell'=true) :
  Calls Tryz.prog 145 #[.slice (some ⟨g,0,none⟩) n cap,.int .i64 i,.int .i64 (i+1)] w fun e w'=>e=.returned (.slice (some ⟨g,0,none⟩) (n-1) cap)∧w'.ownsRow base 39 4 (.slice (some ⟨g,0,none⟩) (n-1) cap) (n-1) (xs.take (i*4) ++ xs.drop ((i+1)*4))∧w.grownBy w' (some g):=by
 obtain ⟨bi,hbi,hbz,hbs,hby⟩:=f1_;obtain ⟨hxl,hnc,hcm⟩:xs.length=n*4∧n≤cap∧cap≤9223372036854775807:=by
  obtain ⟨h1,h2|⟨_,_,_,he,_,_,h3,h4,_⟩⟩:=h
  ·cases h2.1
  ·cases he;exact ⟨h1,h3,h4⟩
 have hcl:∀ j,j<n*4->(w.drew.cell? ⟨g,j,none⟩).isSome=true∧w.drew.frozen? ⟨g,j,none⟩=false:=fun j hj=>
  ⟨by have h2:=h.drew.cellAt j hj;rw [List.getElem?_eq_getElem oq_] at h2;rw [h2];rfl,h.drew.frozenAt j⟩
 obtain ⟨news,hnews⟩:∃ news,news=xs.drop ((i+1)*4):=⟨_,rfl⟩;have hlen:news.length=(n-(i+1))*4:=by rw [hnews,List.length_drop,hxl];omega
 obtain ⟨A,hA,hsrc⟩:∃ A:Addr,(if cap=i+1 then some (⟨g,0,none⟩:Addr) else some ⟨g,(i+1)*4,none⟩)=some A∧Hid (∀ t u,news[t]? = some u->w.drew.cell? (A.add t)=some u):=by
  by_cases hc:cap=i+1
  ·refine ⟨⟨g,0,none⟩,by simp [hc],hq_ fun t u hu=>?_⟩;have h0:news.length=0:=by rw [hlen];omega
   rw [List.length_eq_zero_iff.1 h0] at hu;simp at hu
  ·refine ⟨⟨g,(i+1)*4,none⟩,by simp [hc],hq_ fun t u hu=>?_⟩;have ht:t<(n-(i+1))*4:=by
    have:=(List.getElem?_eq_some_iff.1 hu).1;omega
   rw [hnews,List.getElem?_drop] at hu;rw [Addr.add_lit];exact (h.drew.cellAt _ oq_).trans hu
 have s1:=hq_ hlen;have s2:Hid (∀ u∈news,u.oneCell'=true):=hq_ fun u hu=>h1c u (by rw [hnews] at hu;exact List.mem_of_mem_drop hu);have s3:Hid (∀ t,t<news.length->(w.drew.cell? ⟨g,0+i*4+t,none⟩).isSome=true∧w.drew.frozen? ⟨g,0+i*4+t,none⟩=false):=hq_ fun t ht=>hcl _ oq_;have HRES:=hq_ (jj_ h.drew hi [.slice none 0 0,.int .i64 0,.int .i64 0,.slice none 0 0] rfl);obtain ⟨W1,hW1⟩:∃ W1,W1=w.drew.setCells g (0+i*4) news:=⟨_,rfl⟩;have hcl1:∀ ty c,(Builtin.clear_ #[36] ty #[.slice (some ⟨g,(n-1)*4,none⟩) 1 c]).run Tryz.prog W1=.ok (.tuple #[]) (W1.setCells g ((n-1)*4) [.slice none 0 0,.int .i64 0,.int .i64 0,.slice none 0 0]):=
  fun ty c=>hz_ W1 36 39 ty _ rfl (m9_ hbi hbz) (by simp [Value.cells];try decide) g ((n-1)*4) c (fun j hj=>by
   have hj2:j<4:=hj;rw [hW1];refine ⟨?_,by rw [World.frozen?_setCells];exact (hcl _ oq_).2⟩
   by_cases hin:(n-1)*4+j<i*4+news.length
   ·rw [show (n-1)*4+j=0+i*4+((n-1)*4+j-i*4) by omega,World.cell?_setCells_in g _ _ _ (fun t ht=>(s3.out t ht).1) _ oq_];rfl
   ·rw [World.cell?_setCells_out g _ _ _ _ (fun _ _=>.inr tq_)];exact (hcl _ oq_).1)
 have hW:=hq_ hW1;have HN:=hq_ hnews;clear hnews hlen h h1c hxl hcl hW1;rw [show (i:Int)+1=((i+1:Nat):Int) from rfl];obtain ⟨j,hj⟩:∃ j,j=i+1:=⟨_,rfl⟩;have hclr:∀ ty,(Builtin.clear_ #[36] ty #[.slice (some ⟨g,(i+(n-j))*4,none⟩) (n-(i+(n-j))) (cap-(i+(n-j)))]).run Tryz.prog W1=.ok (.tuple #[]) (W1.setCells g ((n-1)*4) [.slice none 0 0,.int .i64 0,.int .i64 0,.slice none 0 0]):=fun ty=>by
  rw [show i+(n-j)=n-1 by omega,show n-(n-1)=1 by omega];first|exact hcl1 ty _|(have h:=hcl1 ty (cap-(n-1));rw [Nat.mul_one] at h ⊢;exact h)
 rw [<- hj] at hA ⊢;have s3':Hid (news.length=(n-j)*4):=hq_ (by rw [hj];exact s1.out);have hic:i≤cap:=oq_;have hjc:j≤cap:=oq_;have hjn:j≤n:=oq_;have hij:i<j:=oq_;have HJ:=hq_ hj;clear hj hcl1
 go_enter Tryz.func145,Tryz.ntmps145
 go_wp2_with fail
 go_region_law (refine step_append_room rfl (.tmp 22) (.tmp 25) 36 rfl 39 bi 4 rfl hbi hbs g 0 i cap (by simp [Act.eval,Act.put]) A (n-j) (cap-j) news (by simp [Act.eval,Act.put]) s3'.out hsrc.out s2.out oq_ s3.out ?_;rw [<- hW.out])
 go_wp2_with fail
 go_ret;have hj:=HJ.out;have e1:i+(n-j)=n-1:=oq_;refine ⟨by rw [e1];rfl,?_⟩;have h1:=HRES.out;rw [hW.out,HN.out,Nat.zero_add,hj];try simp only [Nat.mul_one] at h1 ⊢
 exact ⟨h1.1,World.grownBy.trans' (World.grownBy.drewR w _) h1.2⟩
theorem po_ (base g n cap i:Nat) (xs:List Value) (w:World) (h:w.ownsRow base 36 1 (.slice (some ⟨g,0,none⟩) n cap) n xs) (hi:i<n) (h1c:∀ u∈xs,u.oneCell'=true) :
  Calls Tryz.prog 110 #[.slice (some ⟨g,0,none⟩) n cap,.int .i64 i,.int .i64 (i+1)] w fun e w'=>e=.returned (.slice (some ⟨g,0,none⟩) (n-1) cap)∧w'.ownsRow base 36 1 (.slice (some ⟨g,0,none⟩) (n-1) cap) (n-1) (xs.take (i*1) ++ xs.drop ((i+1)*1))∧w.grownBy w' (some g):=by
 obtain ⟨bi,hbi,hbz,hbs,hby⟩:=gi_;obtain ⟨hxl,hnc,hcm⟩:xs.length=n*1∧n≤cap∧cap≤9223372036854775807:=by
  obtain ⟨h1,h2|⟨_,_,_,he,_,_,h3,h4,_⟩⟩:=h
  ·cases h2.1
  ·cases he;exact ⟨h1,h3,h4⟩
 have hcl:∀ j,j<n*1->(w.drew.cell? ⟨g,j,none⟩).isSome=true∧w.drew.frozen? ⟨g,j,none⟩=false:=fun j hj=>
  ⟨by have h2:=h.drew.cellAt j hj;rw [List.getElem?_eq_getElem oq_] at h2;rw [h2];rfl,h.drew.frozenAt j⟩
 obtain ⟨news,hnews⟩:∃ news,news=xs.drop ((i+1)*1):=⟨_,rfl⟩;have hlen:news.length=(n-(i+1))*1:=by rw [hnews,List.length_drop,hxl];omega
 obtain ⟨A,hA,hsrc⟩:∃ A:Addr,(if cap=i+1 then some (⟨g,0,none⟩:Addr) else some ⟨g,i+1,none⟩)=some A∧Hid (∀ t u,news[t]? = some u->w.drew.cell? (A.add t)=some u):=by
  by_cases hc:cap=i+1
  ·refine ⟨⟨g,0,none⟩,by simp [hc],hq_ fun t u hu=>?_⟩;have h0:news.length=0:=by rw [hlen];omega
   rw [List.length_eq_zero_iff.1 h0] at hu;simp at hu
  ·refine ⟨⟨g,(i+1)*1,none⟩,by simp [hc],hq_ fun t u hu=>?_⟩;have ht:t<(n-(i+1))*1:=by
    have:=(List.getElem?_eq_some_iff.1 hu).1;omega
   rw [hnews,List.getElem?_drop] at hu;rw [Addr.add_lit];exact (h.drew.cellAt _ oq_).trans hu
 have s1:=hq_ hlen;have s2:Hid (∀ u∈news,u.oneCell'=true):=hq_ fun u hu=>h1c u (by rw [hnews] at hu;exact List.mem_of_mem_drop hu);have s3:Hid (∀ t,t<news.length->(w.drew.cell? ⟨g,0+i*1+t,none⟩).isSome=true∧w.drew.frozen? ⟨g,0+i*1+t,none⟩=false):=hq_ fun t ht=>hcl _ oq_;have HRES:=hq_ (jj_ h.drew hi [.slice none 0 0] rfl);obtain ⟨W1,hW1⟩:∃ W1,W1=w.drew.setCells g (0+i*1) news:=⟨_,rfl⟩;have hcl1:∀ ty c,(Builtin.clear_ #[26] ty #[.slice (some ⟨g,(n-1)*1,none⟩) 1 c]).run Tryz.prog W1=.ok (.tuple #[]) (W1.setCells g ((n-1)*1) [.slice none 0 0]):=
  fun ty c=>hz_ W1 26 36 ty _ rfl (m9_ hbi hbz) (by simp [Value.cells];try decide) g ((n-1)*1) c (fun j hj=>by
   have hj2:j<1:=hj;rw [hW1];refine ⟨?_,by rw [World.frozen?_setCells];exact (hcl _ oq_).2⟩
   by_cases hin:(n-1)*1+j<i*1+news.length
   ·rw [show (n-1)*1+j=0+i*1+((n-1)*1+j-i*1) by omega,World.cell?_setCells_in g _ _ _ (fun t ht=>(s3.out t ht).1) _ oq_];rfl
   ·rw [World.cell?_setCells_out g _ _ _ _ (fun _ _=>.inr tq_)];exact (hcl _ oq_).1)
 have hW:=hq_ hW1;have HN:=hq_ hnews;clear hnews hlen h h1c hxl hcl hW1;rw [show (i:Int)+1=((i+1:Nat):Int) from rfl];obtain ⟨j,hj⟩:∃ j,j=i+1:=⟨_,rfl⟩;have hclr:∀ ty,(Builtin.clear_ #[26] ty #[.slice (some ⟨g,i+(n-j),none⟩) (n-(i+(n-j))) (cap-(i+(n-j)))]).run Tryz.prog W1=.ok (.tuple #[]) (W1.setCells g ((n-1)*1) [.slice none 0 0]):=fun ty=>by
  rw [show i+(n-j)=n-1 by omega,show n-(n-1)=1 by omega];first|exact hcl1 ty _|(have h:=hcl1 ty (cap-(n-1));rw [Nat.mul_one] at h ⊢;exact h)
 rw [<- hj] at hA ⊢;have s3':Hid (news.length=(n-j)*1):=hq_ (by rw [hj];exact s1.out);have hic:i≤cap:=oq_;have hjc:j≤cap:=oq_;have hjn:j≤n:=oq_;have hij:i<j:=oq_;have HJ:=hq_ hj;clear hj hcl1
 go_enter Tryz.func110,Tryz.ntmps110
 go_wp2_with fail
 go_region_law (refine step_append_room rfl (.tmp 22) (.tmp 25) 26 rfl 36 bi 1 rfl hbi hbs g 0 i cap (by simp [Act.eval,Act.put]) A (n-j) (cap-j) news (by simp [Act.eval,Act.put]) s3'.out hsrc.out s2.out oq_ s3.out ?_;rw [<- hW.out])
 go_wp2_with fail
 go_ret;have hj:=HJ.out;have e1:i+(n-j)=n-1:=oq_;refine ⟨by rw [e1];rfl,?_⟩;have h1:=HRES.out;rw [hW.out,HN.out,Nat.zero_add,hj];try simp only [Nat.mul_one] at h1 ⊢
 exact ⟨h1.1,World.grownBy.trans' (World.grownBy.drewR w _) h1.2⟩
end Go.Proofs.YthjnojbeimchdaaGreat
namespace Kal
theorem Fac.of (h:p.WF) (hf:p.frm≤9) (hd:p.period∣27720):Fac 0 p:=⟨h,fun n hn=>hn.1,oq_,hd⟩
theorem h6_ {m:Int} (h0:0≤m) (h1:m<n) (hd:n∣27720):CFac 0 (ev m n):=⟨Fac.of (rc_ h0 h1) (by show (0:Int)≤9;omega) hd,gk_ h0 h1⟩
theorem js_ (h:oh_ p=true) (hf:p.frm≤9) (hd:p.period∣27720):CFac 0 p:=⟨Fac.of (c0_ h).wf hf hd,c0_ h⟩
theorem t6_ (h:∀ p∈t,CFac s p):t.map (fun p=>canonC p.mem)=t:=by
 rw [List.map_congr_left (g:=id) fun p hp=>(h p hp).canonC,List.map_id]
theorem fc_ (h:∀ p∈t,CFac s p) (hn:cj_ (ch_ t) t.length):b8_ t t:=by
 unfold b8_;rw [t6_ h];exact .done hn
theorem dc_ {P:Nat->Nat->Prop}:cj_ P 1:=fun i j h1 h2=>oq_
theorem jo_ {P:Nat->Nat->Prop}:cj_ P 0:=fun i j h1 h2=>oq_
theorem ho_ {P:Nat->Nat->Prop} (h:¬ P 0 1):cj_ P 2:=fun i j h1 h2=>by
 obtain rfl:i=0:=oq_;obtain rfl:j=1:=oq_;exact h
theorem n7_:ddL [] [t]=[t]:=by
 show dd1 [] t=[t];rw [g5_ sq_];rfl
theorem wz_ (h:u≠t):ddL [] [t,u]=[t,u]:=by
 show dd1 (dd1 [] t) u=_;rw [g5_ (out:=[]) sq_];rw [g5_ (by simpa using h)];rfl
theorem un_ (h:∀ p∈t,CFac s p) (hn:cj_ (ch_ t) t.length) (hb:¬ bt_ t):bf_ [t] [t]:=
 ⟨[t],[t],.keep (fc_ h hn) hb .nil,.done dc_,n7_.symm⟩
theorem tn_ (h:∀ p∈t,CFac s p) (hn:cj_ (ch_ t) t.length) (hb:bt_ t):bf_ [t] []:=
 ⟨[],[],.skip (fc_ h hn) hb .nil,.done jo_,rfl⟩
theorem ov_ {c:Per} (h:a6_ c p.mem) (hb:∃ n,p.mem n):bf_ [[p]] [[c]]:=by
 refine ⟨[[c]],[[c]],.keep (u:=[c]) ?_ ?_ .nil,.done dc_,n7_.symm⟩
 ·unfold b8_;rw [show [p].map (fun p=>canonC p.mem)=[c] from by rw [List.map_singleton,d7_ h]];exact .done dc_
 ·obtain ⟨n,hn⟩:=hb;exact fun g=>g n (g9_.2 ((h.mem n).2 hn))
theorem jz_ {c:Per} (h:a6_ c p.mem) (hb:∀ n,¬ p.mem n):bf_ [[p]] []:=by
 refine ⟨[],[],.skip (u:=[c]) ?_ ?_ .nil,.done jo_,rfl⟩
 ·unfold b8_;rw [show [p].map (fun p=>canonC p.mem)=[c] from by rw [List.map_singleton,d7_ h]];exact .done dc_
 ·exact fun n hn=>hb n ((h.mem n).1 (g9_.1 hn))
theorem v6_ (hp:CFac s p) (hq:CFac s q) (hd:divB p q=false) (hne:p≠q) (h1:∃ n,p.mem n) (h2:∃ n,q.mem n):bf_ [[p],[q]] [[p],[q]]:=by
 have one:∀ {r:Per},CFac s r->b8_ [r] [r]:=fun {r} hr=>fc_ (fun x hx=>by simp at hx;subst hx;exact hr) dc_;have nb:∀ {r:Per},(∃ n,r.mem n)->¬ bt_ [r]:=fun {r} ⟨n,hn⟩ g=>g n (g9_.2 hn);refine ⟨[[p],[q]],[[p],[q]],.keep (one hp) (nb h1) (.keep (one hq) (nb h2) .nil),.done (ho_ ?_),(wz_ ?_).symm⟩
 ·rintro ⟨_,_,h⟩;simp at h;rw [hd] at h;cases h
 ·intro e;injection e with e _;exact hne e.symm
theorem ts_ {c:Per} (hp:CFac s p) (hq:CFac s q) (hd:divB p q=true) (hc:a6_ c (fun n=>p.mem n∨q.mem n)) (h1:∃ n,p.mem n) (h2:∃ n,q.mem n):bf_ [[p],[q]] [[c]]:=by
 have one:∀ {r:Per},CFac s r->b8_ [r] [r]:=fun {r} hr=>fc_ (fun x hx=>by simp at hx;subst hx;exact hr) dc_;have nb:∀ {r:Per},(∃ n,r.mem n)->¬ bt_ [r]:=fun {r} ⟨n,hn⟩ g=>g n (g9_.2 hn);refine ⟨[[p],[q]],[[c]],.keep (one hp) (nb h1) (.keep (one hq) (nb h2) .nil),.step (i:=0) (j:=1) ⟨oq_,sq_,⟨rfl,rfl,by simpa using hd⟩,fun i' j' h=>oq_,fun j' h h'=>oq_⟩ ?_,n7_.symm⟩;have e:ct_ [[p],[q]] 0 1=[[c]]:=by
  show ([[p],[q]].set 0 [orP p q]).eraseIdx 1=[[c]];unfold orP;rw [d7_ hc];rfl
 rw [e];exact .done dc_
theorem x1:CFac 0 (ev 1 4):=h6_ oq_ oq_ ⟨6930,dq_⟩
theorem x2:CFac 0 (ev 3 6):=h6_ oq_ oq_ ⟨4620,dq_⟩
theorem x3:CFac 0 (ev 2 6):=h6_ oq_ oq_ ⟨4620,dq_⟩
theorem x4:CFac 0 (ev 0 2):=h6_ oq_ oq_ ⟨13860,dq_⟩
theorem x5:CFac 0 (ev 0 6):=h6_ oq_ oq_ ⟨4620,dq_⟩
theorem hw_ (n:Int):tmem [ev 1 4,ev 3 6] n↔0≤n∧n % 12=9:=by
 unfold tmem;simp only [List.forall_mem_cons,List.not_mem_nil,bv_];constructor
 ·rintro ⟨h1,h2,_⟩;omega
 ·intro h;exact ⟨oq_,oq_,fun x hx=>absurd hx sq_⟩
theorem n9_ (hp:CFac 0 p) (hq:CFac 0 q):∀ r∈[p,q],CFac 0 r:=fun r hr=>by
 simp at hr;rcases hr with rfl|rfl
 ·exact hp
 ·exact hq
theorem v1_:bf_ (ao_ [[ev 1 4]] [[ev 3 6]]) [[ev 1 4,ev 3 6]]:=
 un_ (n9_ x1 x2) (ho_ (by unfold ch_;decide)) fun h=>h 9 ((hw_ 9).2 oq_)
theorem v3_:bf_ (ao_ [[ev 1 4]] [[ev 2 6]]) []:=
 tn_ (n9_ x1 x3) (ho_ (by unfold ch_;decide)) fun n h=>by
  unfold tmem at h;have h:∀ p∈[ev 1 4,ev 2 6],p.mem n:=h;simp only [List.forall_mem_cons,List.not_mem_nil,bv_] at h;obtain ⟨h1,h2,_⟩:=h;omega
theorem w4_:bf_ [[ev 0 2],[ev 1 4]] [[⟨[],0,4,[0,1,2]⟩]]:=
 ts_ x4 x1 dq_ ((c0_ dq_).congr fun n=>by
  rw [bv_,bv_];show (0≤n∧if n<0 then n∈[] else (n-0) % 4∈[0,1,2])↔_
  by_cases h:n<0
  ·rw [if_pos h];simp;omega
  ·rw [if_neg h];simp;omega) ⟨0,by rw [bv_];omega⟩ ⟨1,by rw [bv_];omega⟩
theorem w6_:bf_ [[ev 1 4],[ev 3 6]] [[ev 1 4],[ev 3 6]]:=
 v6_ x1 x2 dq_ (fun e=>by have:=congrArg Per.period e;simp [ev] at this) ⟨1,by rw [bv_];omega⟩ ⟨3,by rw [bv_];omega⟩
theorem sn_:a6_ ⟨[],0,6,[2,4]⟩ (fun n=>(ev 0 2).mem n∧¬ (ev 0 6).mem n):=(c0_ dq_).congr fun n=>by
 rw [bv_,bv_];show (0≤n∧if n<0 then n∈[] else (n-0) % 6∈[2,4])↔_
 by_cases h:n<0
 ·rw [if_pos h];simp;omega
 ·rw [if_neg h];simp;omega
theorem i7_ (h:CFac 0 p) (hb:∃ n,p.mem n):bf_ [[p]] [[p]]:=ov_ h.can hb
theorem ok_one (h:t.length≤4):cv_ [t]:=⟨sq_,fun u hu=>by simp at hu;subst hu;exact h⟩
theorem t1_:cv_ []:=⟨sq_,sq_⟩
theorem uy_:b4_ [[ev 0 2]] [[ev 0 6]] (some [[⟨[],0,6,[2,4]⟩]]):=by
 refine ⟨_,i7_ x4 ⟨0,by rw [bv_];omega⟩,.inl ⟨ok_one sq_,.step (m':=[[⟨[],0,6,[2,4]⟩]]) ?_ (ok_one sq_) .nil⟩⟩;have e:minL [[ev 0 2]] [ev 0 6]=[[(⟨[],0,6,[2,4]⟩:Per)]]:=by
  show [[bu_ (ev 0 2) (ev 0 6)]]=_;unfold bu_;rw [d7_ sn_]
 rw [e];exact i7_ (js_ dq_ dq_ ⟨4620,dq_⟩) ⟨2,dq_⟩
def tri:Per:=⟨[0,2,4],5,1,[]⟩
theorem kv_:CFac 0 tri:=js_ dq_ dq_ ⟨27720,dq_⟩
theorem j7_ (n:Int):tri.mem n↔n=0∨n=2∨n=4:=by
 show (0≤n∧if n<5 then n∈[0,2,4] else (n-5) % 1∈[])↔_
 by_cases h:n<5
 ·rw [if_pos h];simp;omega
 ·rw [if_neg h];simp;omega
theorem ks_:a6_ ⟨[],5,2,[1]⟩ (fun n=>(ev 0 2).mem n∧¬ tri.mem n):=(c0_ dq_).congr fun n=>by
 rw [bv_,j7_];show (0≤n∧if n<5 then n∈[] else (n-5) % 2∈[1])↔_
 by_cases h:n<5
 ·rw [if_pos h];simp;omega
 ·rw [if_neg h];simp;omega
theorem jn_:a6_ ⟨[],0,1,[]⟩ (fun n=>tri.mem n∧¬ (ev 0 2).mem n):=(c0_ dq_).congr fun n=>by
 rw [bv_,j7_];show (0≤n∧if n<0 then n∈[] else (n-0) % 1∈[])↔_
 by_cases h:n<0
 ·rw [if_pos h];simp;omega
 ·rw [if_neg h];simp;omega
theorem ww_:b4_ [[ev 0 2]] [[tri]] (some [[⟨[],5,2,[1]⟩]]):=by
 refine ⟨_,i7_ x4 ⟨0,by rw [bv_];omega⟩,.inl ⟨ok_one sq_,.step (m':=[[⟨[],5,2,[1]⟩]]) ?_ (ok_one sq_) .nil⟩⟩;have e:minL [[ev 0 2]] [tri]=[[(⟨[],5,2,[1]⟩:Per)]]:=by
  show [[bu_ (ev 0 2) tri]]=_;unfold bu_;rw [d7_ ks_]
 rw [e];exact i7_ (js_ dq_ dq_ ⟨13860,dq_⟩) ⟨6,dq_⟩
theorem x3_:b4_ [[tri]] [[ev 0 2]] (some []):=by
 refine ⟨_,i7_ kv_ ⟨0,dq_⟩,.inl ⟨ok_one sq_,.step (m':=[]) ?_ t1_ .nil⟩⟩;have e:minL [[tri]] [ev 0 2]=[[(⟨[],0,1,[]⟩:Per)]]:=by
  show [[bu_ tri (ev 0 2)]]=_;unfold bu_;rw [d7_ jn_]
 rw [e];exact jz_ (c0_ dq_:a6_ (⟨[],0,1,[]⟩:Per) _) (fun n hn=>by
  have:=(jn_.mem n).1 hn;rw [bv_,j7_] at this;omega)
theorem m4_ (n:Int):mmem ([[(⟨[],5,2,[1]⟩:Per)]] ++ []) n↔6≤n∧n % 2=0:=by
 rw [List.append_nil,lu_,g9_,ks_.mem n,bv_,j7_];constructor
 ·rintro (h|h)
  ·omega
  ·exact absurd h k7_
 ·intro h;left;omega
end Kal
namespace Go.Proofs.YthjnojbeimchdaaGreat
open Go.RowKit Go.Maps Kal
structure FV (s:Int) (p:Per):Prop where
 fac:Fac s p
 far:p.frm≤1099511627776
theorem FV.valid (h:FV s p):Valid p:=by
 have hw:=h.fac.wf;have hf:=h.fac.frm;have h0:=hw.frm;have hp:=hw.per;have hper:=h.fac.per;have h3:=hw.cyc.length_le (show (0:Int)≤p.period by omega);have h4:(p.head.length:Int)≤9:=by
  by_cases hs:s≤p.frm
  ·by_cases h0s:0≤s
   ·have hr:Rise s p.frm p.head:=⟨hw.head.1,fun x hx=>⟨h.fac.low x ((hw.head_mem x).1 hx).2.2,(hw.head.2 x hx).2⟩⟩;have:=hr.length_le hs;omega
   ·have:=hw.head.length_le h0;omega
  ·have:p.head=[]:=List.eq_nil_iff_forall_not_mem.2 fun x hx=>by
    have h1:=h.fac.low x ((hw.head_mem x).1 hx).2.2;have h2:=(hw.head.2 x hx).2;omega
   rw [this];simp
 exact ⟨hw,h.far,oq_,oq_⟩
theorem FV.validB (h:FV s p):validB p=true:=(as_ p).2 h.valid
theorem FV.canon (h:FV s p):a6_ (canonC p.mem) p.mem∧FV s (canonC p.mem):=
 ⟨h.fac.canon.1,h.fac.canon.2,Int.le_trans (h.fac.canon.1.frm_le h.fac.wf.frm h.fac.wf.per h.fac.wf.pfrom) h.far⟩
theorem w8_ {S:Int->Prop} (hs:∀ x,S x->s≤x) (n:Nat):cnt S n≤max (n-s) 0:=by
 induction n with
 | zero=>simp [cnt];omega
 | succ n ih=>
  simp only [cnt]
  split
  ·rename_i h;have:=hs _ h;omega
  ·omega
theorem FV.op (hp:FV s p) (hq:FV s q) {U:Int->Prop} (g:Prop->Prop->Prop) (hU:∀ n,U n↔g (p.mem n) (q.mem n)) (hlow:∀ n,U n->s≤n) (h0:∀ n,U n->0≤n) :
  a6_ (canonC U) U∧FV s (canonC U)∧lcmI (canonC p.mem).period (canonC q.mem).period≤27720∧cnt U (max (canonC p.mem).frm (canonC q.mem).frm+lcmI (canonC p.mem).period (canonC q.mem).period).toNat≤1048576:=by
 obtain ⟨ca,fa⟩:=hp.canon;obtain ⟨cb,fb⟩:=hq.canon;have hop:=fa.fac.op fb.fac g (U:=U) (fun n=>by rw [hU,ca.mem,cb.mem]) hlow h0;have hl:=Int.le_of_dvd dq_ hop.2.2.2;have hpos:=c7_ fa.fac.wf.per fb.fac.wf.per;refine ⟨hop.1,⟨hop.2.1,?_⟩,hl,?_⟩
 ·exact Int.le_trans (hop.1.frm_le (by have:=fa.fac.wf.frm;omega) hpos hop.2.2.1) (by have:=fa.far;have:=fb.far;omega)
 ·have h1:=w8_ hlow (max (canonC p.mem).frm (canonC q.mem).frm+lcmI (canonC p.mem).period (canonC q.mem).period).toNat;have a1:=fa.fac.frm;have b1:=fb.fac.frm;have a0:=fa.fac.wf.frm;omega
theorem FV.and (hp:FV s p) (hq:FV s q):FV s (andP p q):=(hp.op hq And (fun n=>Iff.rfl) (fun n h=>hp.fac.low n h.1) (fun n h=>h.1.1)).2.1
theorem FV.or (hp:FV s p) (hq:FV s q):FV s (orP p q):=(hp.op hq Or (fun n=>Iff.rfl) (fun n h=>h.elim (hp.fac.low n) (hq.fac.low n)) (fun n h=>h.elim (fun h=>h.1) (fun h=>h.1))).2.1
theorem FV.minus (hp:FV s p) (hq:FV s q):FV s (bu_ p q):=(hp.op hq (fun a b=>a∧¬ b) (fun n=>Iff.rfl) (fun n h=>hp.fac.low n h.1) (fun n h=>h.1.1)).2.1
theorem nq_ (s:Int) (h c:Value) (p:Per) (w:World) (hp:a8_ w h c p) (hv:FV s p):Calls Tryz.prog 97 #[perV h c p.frm p.period] w (b6_ (canonC p.mem) w):=
 ty_ h c p _ w hp hv.valid hv.canon.1
theorem tb_ (s:Int) (h1 c1 h2 c2:Value) (p1 p2:Per) (w:World) (hp1:a8_ w h1 c1 p1) (hp2:a8_ w h2 c2 p2) (v1:FV s p1) (v2:FV s p2) :
  Calls Tryz.prog 72 #[perV h1 c1 p1.frm p1.period,perV h2 c2 p2.frm p2.period] w (b6_ (andP p1 p2) w):=by
 have h:=v1.op v2 And (fun n=>Iff.rfl) (fun n h=>v1.fac.low n h.1) (fun n h=>h.1.1);have a:=v1.canon.2.fac.per;have b:=v2.canon.2.fac.per;exact wy_ h1 c1 h2 c2 p1 p2 _ _ _ w hp1 hp2 v1.valid v2.valid v1.canon.1 v2.canon.1 oq_ oq_ oq_ h.1 h.2.2.2
theorem rr_ (s:Int) (h1 c1 h2 c2:Value) (p1 p2:Per) (w:World) (hp1:a8_ w h1 c1 p1) (hp2:a8_ w h2 c2 p2) (v1:FV s p1) (v2:FV s p2) :
  Calls Tryz.prog 73 #[perV h1 c1 p1.frm p1.period,perV h2 c2 p2.frm p2.period] w (b6_ (orP p1 p2) w):=by
 have h:=v1.op v2 Or (fun n=>Iff.rfl) (fun n h=>h.elim (v1.fac.low n) (v2.fac.low n)) (fun n h=>h.elim (fun h=>h.1) (fun h=>h.1));have a:=v1.canon.2.fac.per;have b:=v2.canon.2.fac.per;exact xb_ h1 c1 h2 c2 p1 p2 _ _ _ w hp1 hp2 v1.valid v2.valid v1.canon.1 v2.canon.1 oq_ h.1 h.2.2.2
theorem vf_ (s:Int) (h1 c1 h2 c2:Value) (p1 p2:Per) (w:World) (hp1:a8_ w h1 c1 p1) (hp2:a8_ w h2 c2 p2) (v1:FV s p1) (v2:FV s p2) :
  Calls Tryz.prog 117 #[perV h1 c1 p1.frm p1.period,perV h2 c2 p2.frm p2.period] w (b6_ (bu_ p1 p2) w):=by
 have h:=v1.op v2 (fun a b=>a∧¬ b) (fun n=>Iff.rfl) (fun n h=>v1.fac.low n h.1) (fun n h=>h.1.1);have a:=v1.canon.2.fac.per;have b:=v2.canon.2.fac.per;exact uq_ h1 c1 h2 c2 p1 p2 _ _ _ w hp1 hp2 v1.valid v2.valid v1.canon.1 v2.canon.1 oq_ h.1 h.2.2.2
theorem POx.pv {c:Value} (hp:POx w base h c p) (hv:FV s p):PVok w (fun b=>base≤b∧b<w.heap.size) ⟨h,c,p⟩:=by
 have h1:=hv.valid;have h2:=h1.wf.frm;have h3:p.frm≤1099511627776:=h1.frm;have h4:=h1.wf.per;have h5:p.period≤1099511627776:=h1.per;exact ⟨hp.is,⟨by show _≤p.frm;omega,by show p.frm≤_;omega⟩,⟨by show _≤p.period;omega,by show p.period≤_;omega⟩,fun _ k hk=>hp.hd.lt k hk,fun _ k hk=>hp.cy.lt k hk⟩
theorem PV.enc_one (x:PV) (hh:x.h.oneCell'=true) (hc:x.c.oneCell'=true):∀ u∈x.enc,u.oneCell'=true:=by
 intro u hu;simp only [PV.enc,List.mem_cons,List.not_mem_nil,or_false] at hu;rcases hu with rfl|rfl|rfl|rfl
 ·exact hh
 ·rfl
 ·rfl
 ·exact hc
theorem PVok.one {F:Nat->Prop} {x:PV} (h:PVok w F x):∀ u∈x.enc,u.oneCell'=true:=by
 obtain ⟨xh,xc,xp⟩:=x;obtain ⟨_,_,_,_,_,_,rfl,rfl⟩:=h.form;exact PV.enc_one _ rfl rfl
theorem io_:∀ {j:Nat},(L.flatMap PV.enc).take (j*4)=(L.take j).flatMap PV.enc:=by
 induction L with
 | nil=>intro j;simp
 | cons x L ih=>
  intro j;cases j with
  | zero=>simp
  | succ j=>rw [List.take_succ_cons,List.flatMap_cons,List.flatMap_cons,List.take_append,List.take_of_length_le (by rw [PV.enc_len];omega),PV.enc_len,show (j+1)*4-4=j*4 by omega,ih]
theorem ik_:∀ {j:Nat},(L.flatMap PV.enc).drop (j*4)=(L.drop j).flatMap PV.enc:=by
 induction L with
 | nil=>intro j;simp
 | cons x L ih=>
  intro j;cases j with
  | zero=>simp
  | succ j=>rw [List.drop_succ_cons,List.flatMap_cons,List.drop_append,List.drop_of_length_le (by rw [PV.enc_len];omega),PV.enc_len,show (j+1)*4-4=j*4 by omega,ih,List.nil_append]
theorem c3_:(L.flatMap PV.enc).length=L.length*4:=by
 induction L with
 | nil=>rfl
 | cons x L ih=>rw [List.flatMap_cons,List.length_append,ih,PV.enc_len,List.length_cons];omega
theorem l5_:(L.flatMap PV.enc).take (j*4) ++ (L.flatMap PV.enc).drop ((j+1)*4)=(L.eraseIdx j).flatMap PV.enc:=by
 rw [io_,ik_,<- List.flatMap_append,List.eraseIdx_eq_take_drop_succ]
theorem np_ {x:PV}:∀ {j:Nat},j<L.length->((((L.flatMap PV.enc).set (j*4) x.h).set (j*4+1) (.int .i64 x.p.frm)).set (j*4+2) (.int .i64 x.p.period)).set (j*4+3) x.c=(L.set j x).flatMap PV.enc:=by
 induction L with
 | nil=>intro j h;simp at h
 | cons y L ih=>
  intro j h;cases j with
  | zero=>simp [PV.enc]
  | succ j=>
   have e:∀ (l:List Value) (i:Nat) (v:Value),(y.enc ++ l).set (i+4) v=y.enc ++ l.set i v:=fun l i v=>by rw [List.set_append_right _ _ (by rw [PV.enc_len];omega),PV.enc_len,Nat.add_sub_cancel]
   rw [List.flatMap_cons,List.set_cons_succ,List.flatMap_cons,<- ih (by simpa using h),show (j+1)*4=j*4+4 by omega,e,show j*4+4+1=j*4+1+4 by omega,e,show j*4+4+2=j*4+2+4 by omega,e,show j*4+4+3=j*4+3+4 by omega,e]
structure Row4 (B g cap:Nat) (W:World) (L:List PV):Prop where
 row:W.ownsRow B 39 4 (.slice (some ⟨g,0,none⟩) L.length cap) L.length (L.flatMap PV.enc)
 all:∀ x∈L,PVok W (fun b=>B≤b∧b≠g) x
 len:L.length≤cap
 cap:cap≤17592186044416
theorem Row4.le (h:Row4 B g cap W L):B≤g∧g<W.heap.size:=h.row.lt g rfl
theorem Row4.below (h:Row4 B g cap W L) (hb:Below W.heap.size W W'):Row4 B g cap W' L:=
 ⟨h.row.kept (row:=none) (World.grownBy.of_below hb _) (by right;simp [Value.ownBlock]),fun x hx=>(h.all x hx).keep (a5_.below hb),h.len,h.cap⟩
theorem Row4.set (h:Row4 B g cap W L) (hj:j<L.length) {x:PV} (hx:PVok W (fun b=>B≤b∧b≠g) x) :
  Row4 B g cap ((((W.setCell ⟨g,j*4,none⟩ x.h).setCell ⟨g,j*4+1,none⟩ (.int .i64 x.p.frm)).setCell ⟨g,j*4+2,none⟩ (.int .i64 x.p.period)).setCell ⟨g,j*4+3,none⟩ x.c) (L.set j x):=by
 have hg:W.grownBy ((((W.setCell ⟨g,j*4,none⟩ x.h).setCell ⟨g,j*4+1,none⟩ (.int .i64 x.p.frm)).setCell ⟨g,j*4+2,none⟩ (.int .i64 x.p.period)).setCell ⟨g,j*4+3,none⟩ x.c) (some g):=
  World.grownBy.set' (World.grownBy.set' (World.grownBy.set' (World.grownBy.set' ⟨rfl,rfl,rfl,Nat.le_refl _,fun _ _ _=>rfl⟩ _) _) _) _
 refine ⟨?_,fun y hy=>?_,by rw [List.length_set];exact h.len,h.cap⟩
 ·rw [List.length_set,<- np_ hj];exact ((((h.row.stored _ _).1.stored _ _).1.stored _ _).1.stored _ _).1
 ·refine PVok.keep ?_ (a5_.grown hg fun h=>h.2 rfl);rcases List.mem_or_eq_of_mem_set hy with hy|rfl
  ·exact h.all y hy
  ·exact hx
theorem Row4.erase (h:Row4 B g cap W L) (hj:j<L.length) (hr:W'.ownsRow B 39 4 (.slice (some ⟨g,0,none⟩) (L.length-1) cap) (L.length-1) ((L.flatMap PV.enc).take (j*4) ++ (L.flatMap PV.enc).drop ((j+1)*4))) (hg:W.grownBy W' (some g)):Row4 B g cap W' (L.eraseIdx j):=by
 have hl:(L.eraseIdx j).length=L.length-1:=by rw [List.length_eraseIdx_of_lt hj]
 refine ⟨by rw [hl,<- l5_];exact hr,fun x hx=>(h.all x (List.mem_of_mem_eraseIdx hx)).keep (a5_.grown hg fun h=>h.2 rfl),by rw [hl];have:=h.len;omega,h.cap⟩
theorem Row4.get (h:Row4 B g cap W L) (hk:k<L.length) :
  PVok W (fun b=>B≤b∧b≠g) (L.getD k default)∧W.cell? ⟨g,k*4,none⟩=some (L.getD k default).h∧W.cell? ⟨g,k*4+1,none⟩=some (.int .i64 (L.getD k default).p.frm)∧
   W.cell? ⟨g,k*4+2,none⟩=some (.int .i64 (L.getD k default).p.period)∧W.cell? ⟨g,k*4+3,none⟩=some (L.getD k default).c∧∀ i,W.frozen? ⟨g,i,none⟩=false:=by
 have c:=fun i (hi:i<4)=>h.row.cellAt (k*4+i) oq_;refine ⟨h.all _ (aa_ hk),(c 0 oq_).trans (av_ hk rfl),(c 1 oq_).trans (av_ hk rfl),(c 2 oq_).trans (av_ hk rfl),(c 3 oq_).trans (av_ hk rfl),fun i=>h.row.frozenAt i⟩
theorem Row4.term (h:Row4 B g cap W L):be_ W (fun b=>B≤b) (.slice (some ⟨g,0,none⟩) L.length cap) L:=by
 refine ⟨⟨_,_,rfl,h.len,Nat.le_trans h.cap oq_,.inr ⟨g,0,rfl,h.le.1,h.le.2,fun i u hi=>?_⟩⟩,Nat.le_trans h.len h.cap,fun x hx=>(h.all x hx).mono fun b hb=>hb.1⟩;rw [Nat.zero_add];have:=(List.getElem?_eq_some_iff.1 hi).1;rw [c3_] at this;exact (h.row.cellAt i this).trans hi
theorem Row4.one (h:Row4 B g cap W L):∀ u∈L.flatMap PV.enc,u.oneCell'=true:=fun u hu=>by
 obtain ⟨x,hx,hu⟩:=List.mem_flatMap.1 hu;exact (h.all x hx).one u hu
theorem ku_ (W:World) (F:Nat->Prop):PVok W F default:=
 ⟨⟨Ints.nil W,Ints.nil W⟩,by constructor <;> decide,by constructor <;> decide,fun h=>absurd rfl h,fun h=>absurd rfl h⟩
theorem lk_ {P:Program} {a:Act} {Q:Exit->Act->World->Prop} {x y rest:Code} (l:Nat) (J:Act->World->Prop) (μ:Act->World->Nat) (hf:findLabel (x.seq (y.seq ((Code.label l).seq rest))) l=some (Code.skip.seq rest))
  (first:x.wp P (Exit.then (fun a w=>y.wp P (Exit.then J (Exit.jump l J Q)) a w) (Exit.jump l J Q)) a w)
  (pass:∀ a w,J a w->rest.wp P (Exit.jump l (fun a' w'=>J a' w'∧μ a' w'<μ a w) Q) a w):(Code.scope (x.seq (y.seq ((Code.label l).seq rest)))).wp P Q a w:=by
 refine wp_scope_jumps l J μ hf (wp_seq (wp_mono first fun e a w h=>?_)) fun a w h=>wp_seq (wp_skip (pass a w h));cases e <;> first|exact h|skip
 refine wp_seq (wp_mono h fun e a w h=>?_);cases e <;> first|exact h|skip
 refine wp_seq (wp_label ?_);refine wp_mono (pass a w h) fun e a w h=>?_;cases e <;> first|exact h|exact ⟨h.1,h.2.1⟩
theorem qa_ (n:Nat):(madeCells (Value.agg #[.slice none 0 0,.int .i64 0,.int .i64 0,.slice none 0 0]).cells (n*4)).toList=(List.replicate n (default:PV)).flatMap PV.enc:=by
 refine List.ext_getElem? fun i=>?_
 by_cases hi:i<n*4
 ·have h1:i=i / 4*4+i % 4:=oq_;have h2:i % 4<4:=oq_;have h3:(List.replicate n (default:PV)).getD (i / 4) default=default:=by
   rw [List.getD_eq_getElem?_getD,List.getElem?_replicate];split <;> rfl
  have h4:(default:PV).enc[i % 4]? = some ((default:PV).enc[i % 4]'h2):=List.getElem?_eq_getElem h2;have h5:=av_ (L:=List.replicate n (default:PV)) (j:=i / 4) (i:=i % 4) (u:=(default:PV).enc[i % 4]'h2) tq_ (by rw [h3];exact h4);rw [<- h1] at h5;rw [h5,Array.getElem?_toList];have h6:∀ r (hr:r<4),(Value.agg #[.slice none 0 0,.int .i64 0,.int .i64 0,.slice none 0 0]).cells[r]! = (default:PV).enc[r]'hr:=by
   intro r hr
   match r,hr with
   | 0,_=>rfl
   | 1,_=>rfl
   | 2,_=>rfl
   | 3,_=>rfl
  rw [<- h6];unfold madeCells;simp [hi,Value.cells]
 ·rw [List.getElem?_eq_none (by simp [madeCells];omega),List.getElem?_eq_none (by rw [c3_];simp;omega)]
structure MInv (w:World) (s:Int) (L:List PV) (g cap:Nat) (M:List PV) (W:World):Prop where
 row:Row4 w.heap.size g cap W M
 bel:Below w.heap.size w W
 fv:∀ x∈M,FV s x.p
 tom:∀ u,c4_ (M.map PV.p) u->b8_ (L.map PV.p) u
def MJ (w:World) (s:Int) (L:List PV) (g cap:Nat) (v:Value) (a:Act) (W:World):Prop:=
 ∃ (M:List PV) (n:Nat) (u1 u4 u5 u6 u7 u8 u9 u10 u11 u12 u13 u14 u15 u16 u17 u18 u19 u20 u21 u22 u23 u24 u25 u26 u27 u28 u29 u30 u31 u32 u33 u34 u35 u36 u37 u38 u39 u40 u41 u42 u43 u44 u45 u46 u47 u48 u49 u50 u51 u52 u53 u54 u55 u56 u57 u58 u59 u60 u61 u62 u63 u64 u65 u66 u67 u68 u69 u70 u71 u72 u73 u74 u75 u76:Value),a=⟨#[v,u1,.slice none 0 0,.slice (some ⟨g,0,none⟩) n cap,u4,u5,u6,u7,u8,u9,u10,u11,u12,u13,u14,u15,u16,u17,u18,u19,u20,u21,u22,u23,u24,u25,u26,u27,u28,u29,u30,u31,u32,u33,u34,u35,u36,u37,u38,u39,u40,u41,u42,u43,u44,u45,u46,u47,u48,u49,u50,u51,u52,u53,u54,u55,u56,u57,u58,u59,u60,u61,u62,u63,u64,u65,u66,u67,u68,u69,u70,u71,u72,u73,u74,u75,u76],[]⟩∧n=M.length∧MInv w s L g cap M W
structure MgP (B:Nat) (q:Per) (nb:Nat) (h c:Value) (W:World):Prop where
 ok:PVok W (fun b=>B≤b∧b≠B) ⟨h,c,q⟩
 ne:nb≠B
 c0:W.cell? ⟨nb,0,none⟩=some h
 c1:W.cell? ⟨nb,1,none⟩=some (.int .i64 q.frm)
 c2:W.cell? ⟨nb,2,none⟩=some (.int .i64 q.period)
 c3:W.cell? ⟨nb,3,none⟩=some c
theorem MgP.of {lo nb:Nat} {c:Value} (hp:ar_ W lo hi h c q) (hv:FV s q) (hB:B<lo) (hb:Bxx W nb #[.slice none 0 0,.int .i64 0,.int .i64 0,.slice none 0 0] 39) (hn:nb<lo∨hi≤nb) (hne:nb≠B) :
  MgP B q nb h c ((((W.setCell ⟨nb,0,none⟩ h).setCell ⟨nb,1,none⟩ (.int .i64 q.frm)).setCell ⟨nb,2,none⟩ (.int .i64 q.period)).setCell ⟨nb,3,none⟩ c):=by
 have h1:=(((hp.set (i:=0) h hn).set (i:=1) (.int .i64 q.frm) hn).set (i:=2) (.int .i64 q.period) hn).set (i:=3) c hn;have h2:=dg_ hb (x':=h) (y':=.int .i64 q.frm) (z':=.int .i64 q.period) (u':=c);have v1:=hv.valid;have v2:=v1.wf.frm;have v3:q.frm≤1099511627776:=v1.frm;have v4:=v1.wf.per;have v5:q.period≤1099511627776:=v1.per;refine ⟨⟨h1.is,⟨by show _≤q.frm;omega,by show q.frm≤_;omega⟩,⟨by show _≤q.period;omega,by show q.period≤_;omega⟩,fun hh k hk=>?_,fun hh k hk=>?_⟩,hne,(Bxx.cells h2 0).1,(Bxx.cells h2 1).1,(Bxx.cells h2 2).1,(Bxx.cells h2 3).1⟩
 ·have:=h1.hd.blk hh k hk;omega
 ·have:=h1.cy.blk hh k hk;omega
theorem qy_ (B g cap jj:Nat) (M:List PV) (W:World) (h:Row4 B g cap W M) (hj:jj<M.length) :
  Calls Tryz.prog 145 #[.slice (some ⟨g,0,none⟩) M.length cap,.int .i64 jj,.int .i64 (jj+1)] W fun e w'=>e=.returned (.slice (some ⟨g,0,none⟩) (M.length-1) cap)∧Row4 B g cap w' (M.eraseIdx jj)∧W.grownBy w' (some g):=
 (pf_ B g M.length cap jj _ W h.row hj h.one).mono fun e w' ⟨h1,h2,h3⟩=>⟨h1,h.erase hj h2 h3,h3⟩
theorem map_merge {M:List PV} {ii jj:Nat} {x:PV} (hi:ii<M.length) (hj:jj<M.length) (hx:x.p=andP ((M.map PV.p).getD ii default) ((M.map PV.p).getD jj default)):((M.set ii x).eraseIdx jj).map PV.p=ci_ (M.map PV.p) ii jj:=by
 unfold ci_;rw [<- hx,<- List.map_set];simp [List.eraseIdx_eq_take_drop_succ]
theorem ei_ (W:World) (h:B≤g) (v0 v1 v2 v3:Value):Below B W ((((W.setCell ⟨g,i,none⟩ v0).setCell ⟨g,i+1,none⟩ v1).setCell ⟨g,i+2,none⟩ v2).setCell ⟨g,i+3,none⟩ v3):=
 ((((Below.refl B W).setCell (p:=⟨g,i,none⟩) h v0).setCell (p:=⟨g,i+1,none⟩) h v1).setCell (p:=⟨g,i+2,none⟩) h v2).setCell (p:=⟨g,i+3,none⟩) h v3
def lenV:Value->Nat|.slice _ n _=>n|_=>0
theorem qm_ (F:Nat->Prop) (s:Int) (v:Value) (t:List Per) (w:World) (ht:ab_ w F v t) (hv:∀ p∈t,FV s p) (hn:t.length≤1000000) :
  Calls Tryz.prog 108 #[v] w fun e w'=>∃ (v':Value) (u:List Per),e=.returned v'∧b8_ t u∧(∀ p∈u,FV s p)∧ab_ w' (fun b=>w.heap.size≤b) v' u∧Below w.heap.size w w':=by
 obtain ⟨L,rfl,hL⟩:=ht;obtain ⟨a1,c1,rfl,hx1,hx2,_⟩:=hL.row.is;have hl1:=hL.len;obtain ⟨bi,hbi,hbz,hbs,hby⟩:=f1_;rw [List.length_map] at hn;have HL:=hq_ hL;have HV:=hq_ hv;clear hL hv
 go_enter Tryz.func108,Tryz.ntmps108
 go_wp2_with fail
 refine lk_ 0 (MJ w s L w.heap.size L.length (.slice a1 L.length c1)) (fun a _=>lenV (a.tmps.getD 3 undef)) rfl ?first ?pass
 case first=>
  go_wp2_with (at_make;refine wpList_make_full _ rfl _ _ 36 rfl w.heap.size 39 bi (.agg #[.slice none 0 0,.int .i64 0,.int .i64 0,.slice none 0 0]) 4 Tryz.underlying36 hbi hbz hbs .i64 .i64 _ _ L.length rfl rfl rfl rfl (by rw [hby];omega) (by unfold maxLen;omega) sq_ ?_;intro w3 hown3 hgrow3;have hb3:Below w.heap.size w w3:=((Below.refl _ _).grown hgrow3 sq_ (fun k e=>by cases e)))
  rw [qa_] at hown3;have hrow0:Row4 w.heap.size w.heap.size L.length w3 (List.replicate L.length (default:PV)):=⟨by rw [List.length_replicate];exact hown3,fun x hx=>by rw [List.eq_of_mem_replicate hx];exact ku_ _ _,sq_,hl1⟩;have HR0:=hq_ hrow0;have HB0:=hq_ hb3;clear hown3 hgrow3 hrow0 hb3
  go_loopw [4,5,15] (fun _ _ i wr=>∃ (k:Nat) (M:List PV),k≤L.length∧i=.int .i64 k∧Hid (M.length=L.length)∧Hid (∀ q,q<k->(M.getD q default).p=canonC (L.getD q default).p.mem)∧Hid (Row4 w.heap.size w.heap.size L.length wr M)∧Hid (Below w.heap.size w wr)) (fun _ _ i _=>L.length-(intOf i).toNat)
  case atStart=>exact ⟨0,_,oq_,rfl,hq_ sq_,hq_ (fun q h=>absurd h oq_),HR0,HB0⟩
  case round=>
   obtain ⟨k,M,hk,rfl,HLE,HP,HR,HB⟩:=hrel
   by_cases hlt:k<L.length
   ·have hlI:(k:Int)<L.length:=oq_;obtain ⟨b1,o1,x,ha,hx,hxp,hb1,e0,e1,e2,e3⟩:=(HL.out.keep (a5_.below HB.out) HB.out.size).get hlt;subst ha;have hfx:FV s x.p:=HV.out _ (by rw [hxp];exact aa_ (by simpa using hlt));have hpe:(L.getD k default).p=x.p:=by rw [hxp];simp [List.getD_eq_getElem?_getD,hlt]
    obtain ⟨xh,xc,xp⟩:=x;obtain ⟨ax1,nx1,cx1,ax2,nx2,cx2,rfl,rfl⟩:=hx.form;dsimp only at e0 e1 e2 e3 hfx hpe;have HX:=hq_ hx;have HPE:=hq_ hpe;have HC:=fun W (h:Below _ _ W)=>nq_ s _ _ xp W (hx.is.ext h) hfx;have HFX:=hq_ hfx;dsimp only at HC;clear hx hxp hpe hfx;have hle:=HR.out.le;go_wp2_with (go_at_call 97;refine (HC _ xE).mono ?_;rintro e w2 ⟨h',c',rfl,ho,hb2⟩;obtain ⟨a5,m5,a6,m6,rfl,rfl⟩:=ho.form;have hrw:=HR.out.below (show Below wr.heap.size wr w2 by exact xE);obtain ⟨-,g0,g1,g2,g3,g4⟩:=hrw.get (show k<M.length by have:=HLE.out;omega);obtain ⟨hc2,hf2⟩:=au_ hb2;(try simp only [World.size_alloc,World.size_drew,af_,World.size_setCell] at hc2 hf2);have HRW:=hq_ hrw;have HO:=hq_ ho;have HB2:=hq_ (show Below wr.heap.size wr w2 by exact xE);clear hrw ho)
    have hbw:Below w.heap.size w w2:=Et HB.out HB2.out;go_roundw
    case rel=>
     refine ⟨k+1,M.set k ⟨.slice a5 (canonC xp.mem).head.length m5,.slice a6 (canonC xp.mem).cycle.length m6,canonC xp.mem⟩,oq_,by go_num,hq_ (by rw [List.length_set];exact HLE.out),hq_ (fun q hq=>?_),hq_ (HRW.out.set (x:=⟨_,_,canonC xp.mem⟩) (by have:=HLE.out;omega) ?_),hq_ xE⟩
     ·by_cases hqk:q=k
      ·subst hqk;rw [HPE.out,List.getD_eq_getElem?_getD,List.getElem?_set_self (by have:=HLE.out;omega)];rfl
      ·rw [List.getD_eq_getElem?_getD,List.getElem?_set_ne oq_,<- List.getD_eq_getElem?_getD];exact HP.out q oq_
     ·refine (HO.out.pv HFX.out.canon.2).mono fun b hb=>?_;have:=hb.1;have:=HB.out.size;simp [World.size_alloc] at *;omega
    case measure=>simp [intOf];omega
   ·obtain rfl:k=L.length:=oq_;go_wp2_with fail
    have hmap:M.map PV.p=(L.map PV.p).map fun p=>canonC p.mem:=List.ext_getElem (by simp [HLE.out]) fun i h1 h2=>by
     have h3:=HP.out i (by simpa using h2);have h4:i<M.length:=by simpa using h1
     have h5:i<L.length:=by simpa using h2
     rw [List.getD_eq_getElem?_getD,List.getD_eq_getElem?_getD,List.getElem?_eq_getElem h4,List.getElem?_eq_getElem h5] at h3;simpa using h3
    refine ⟨M,_,_,_,_,_,_,_,_,_,_,_,_,_,_,_,_,_,_,_,_,_,_,_,_,_,_,_,_,_,_,_,_,_,_,_,_,_,_,_,_,_,_,_,_,_,_,_,_,_,_,_,_,_,_,_,_,_,_,_,_,_,_,_,_,_,_,_,_,_,_,_,_,_,_,_,rfl,HLE.out.symm,HR.out,HB.out,fun x hx=>?_,fun u hu=>?_⟩
    ·have h1:x.p∈M.map PV.p:=List.mem_map.2 ⟨x,hx,rfl⟩;rw [hmap] at h1;obtain ⟨p,hp,he⟩:=List.mem_map.1 h1;rw [<- he];exact (HV.out p hp).canon.2
    ·unfold b8_;rw [<- hmap];exact hu
 case pass=>
  rintro a W ⟨M,n,u1,u4,u5,u6,u7,u8,u9,u10,u11,u12,u13,u14,u15,u16,u17,u18,u19,u20,u21,u22,u23,u24,u25,u26,u27,u28,u29,u30,u31,u32,u33,u34,u35,u36,u37,u38,u39,u40,u41,u42,u43,u44,u45,u46,u47,u48,u49,u50,u51,u52,u53,u54,u55,u56,u57,u58,u59,u60,u61,u62,u63,u64,u65,u66,u67,u68,u69,u70,u71,u72,u73,u74,u75,u76,rfl,rfl,hinv⟩;have hrow:=hinv.row;have hM:=hrow.len;have HI:=hq_ hinv;have HR:=hq_ hrow;clear hinv hrow;go_wp2_with fail
  go_loopw [3,6,7,8,9,31] (fun s3 _ _ _ _ idx wr=>∃ ii:Nat,ii≤M.length∧s3=.slice (some ⟨w.heap.size,0,none⟩) M.length L.length∧idx=.int .i64 ii∧Hid (∀ i' j',i'<ii->i'<j'->j'<M.length->¬ ch_ (M.map PV.p) i' j')∧Hid (Row4 w.heap.size w.heap.size L.length wr M)∧Hid (Below w.heap.size w wr)) (fun _ _ _ _ _ idx _=>M.length-(intOf idx).toNat)
  case atStart=>exact ⟨0,oq_,rfl,rfl,hq_ (fun _ _ h=>absurd h oq_),HR,hq_ HI.out.bel⟩
  case round=>
   obtain ⟨ii,hi,rfl,rfl,HN2,HR2,HB2⟩:=hrel
   by_cases hlt:ii<M.length
   ·have hiI:(ii:Int)<M.length:=oq_;go_wp2_with fail
    go_loopw [3,7,8,9] (fun s3 jv _ _ wr=>∃ jj:Nat,ii<jj∧jj≤M.length∧s3=.slice (some ⟨w.heap.size,0,none⟩) M.length L.length∧jv=.int .i64 jj∧Hid (∀ j',ii<j'->j'<jj->¬ ch_ (M.map PV.p) ii j')∧Hid (Row4 w.heap.size w.heap.size L.length wr M)∧Hid (Below w.heap.size w wr)) (fun _ jv _ _ _=>M.length-(intOf jv).toNat)
    case atStart=>exact ⟨ii+1,oq_,oq_,rfl,by go_num,hq_ (fun _ h1 h2=>absurd h2 oq_),HR2,HB2⟩
    case round=>
     obtain ⟨jj,hij,hj,rfl,rfl,HN3,HR3,HB3⟩:=hrel
     by_cases hjl:jj<M.length
     ·have hjI:(jj:Int)<M.length:=oq_;obtain ⟨hx,i0,i1,i2,i3,hfz⟩:=HR3.out.get hlt;obtain ⟨hy,j0,j1,j2,j3,-⟩:=HR3.out.get hjl;have hfx:=HI.out.fv _ (aa_ (d:=default) hlt);have hfy:=HI.out.fv _ (aa_ (d:=default) hjl);have hdx:(M.map PV.p).getD ii default=(M.getD ii default).p:=by simp [List.getD_eq_getElem?_getD,hlt]
      have hdy:(M.map PV.p).getD jj default=(M.getD jj default).p:=by simp [List.getD_eq_getElem?_getD,hjl]
      generalize M.getD ii default=x at *;generalize M.getD jj default=y at *;obtain ⟨xh,xc,xp⟩:=x;obtain ⟨yh,yc,yp⟩:=y;obtain ⟨ax1,nx1,cx1,ax2,nx2,cx2,rfl,rfl⟩:=hx.form;obtain ⟨ay1,ny1,cy1,ay2,ny2,cy2,rfl,rfl⟩:=hy.form;dsimp only at i0 i1 i2 i3 j0 j1 j2 j3 hfx hfy hdx hdy;have HDIV:=fun W=>je_ ⟨.slice ax1 nx1 cx1,.slice ax2 nx2 cx2,xp⟩ ⟨.slice ay1 ny1 cy1,.slice ay2 ny2 cy2,yp⟩ W hfx.valid.wf.per hfx.valid.per hfy.valid.wf.per hfy.valid.per;change ∀ W,Calls _ _ #[perV _ _ xp.frm xp.period,perV _ _ yp.frm yp.period] W fun e w'=>e=.returned (.bool (divB xp yp))∧_ at HDIV;have HDA:Hid (ch_ (M.map PV.p) ii jj↔divB xp yp=true):=hq_ (by unfold ch_;rw [hdx,hdy]);have HFX:=hq_ hfx;have HFY:=hq_ hfy;have HX:=hq_ hx;have HY:=hq_ hy;have HDX:=hq_ hdx;have HDY:=hq_ hdy;generalize divB xp yp=dd at *;clear hfx hfy hx hy hdx hdy;go_wp2_with fail
      refine ai_ (w0:=wr) [0,1,2,3,4,5,6,7,8] [9] (fun v=>⟨#[.slice a1 L.length c1,u1,.slice none 0 0,.slice (some ⟨w.heap.size,0,none⟩) M.length L.length,u4,u5,.int .i64 ↑ii,.int .i64 ↑jj,u8,u9,u10,u11,u12,u13,u14,u15,u16,u17,u18,u19,u20,u21,u22,u23,u24,u25,u26,u27,u28,.slice (some ⟨w.heap.size,0,none⟩) M.length L.length,.int .i64 ↑M.length,.int .i64 ↑ii,.bool true,.int .i64 ↑ii,.int .i64 ↑ii,.int .i64 (↑ii+1),.int .i64 ↑jj,.slice (some ⟨w.heap.size,0,none⟩) M.length L.length,.int .i64 ↑M.length,.bool true,u40,u41,v 0,v 1,v 2,v 3,v 4,v 5,v 6,v 7,v 8,u51,u52,u53,u54,u55,u56,u57,u58,u59,u60,u61,u62,u63,u64,u65,u66,u67,u68,u69,u70,u71,u72,u73,u74,u75,u76],[]⟩) [.slice (some ⟨w.heap.size,0,none⟩) M.length L.length,.int .i64 ii,.pointer (some ⟨w.heap.size,ii*4,none⟩),perV (.slice ax1 nx1 cx1) (.slice ax2 nx2 cx2) xp.frm xp.period,.slice (some ⟨w.heap.size,0,none⟩) M.length L.length,.int .i64 jj,.pointer (some ⟨w.heap.size,jj*4,none⟩),perV (.slice ay1 ny1 cy1) (.slice ay2 ny2 cy2) yp.frm yp.period,.bool dd] [] (fun _ _ _ _ _=>True) (fun W=>Row4 w.heap.size w.heap.size L.length W M∧(W.cell? ⟨w.heap.size,ii*4,none⟩=some (.slice ax1 nx1 cx1)∧W.cell? ⟨w.heap.size,ii*4+1,none⟩=some (.int .i64 xp.frm)∧W.cell? ⟨w.heap.size,ii*4+2,none⟩=some (.int .i64 xp.period)∧W.cell? ⟨w.heap.size,ii*4+3,none⟩=some (.slice ax2 nx2 cx2))∧(W.cell? ⟨w.heap.size,jj*4,none⟩=some (.slice ay1 ny1 cy1)∧W.cell? ⟨w.heap.size,jj*4+1,none⟩=some (.int .i64 yp.frm)∧W.cell? ⟨w.heap.size,jj*4+2,none⟩=some (.int .i64 yp.period)∧W.cell? ⟨w.heap.size,jj*4+3,none⟩=some (.slice ay2 ny2 cy2))) (fun W hb=>⟨HR3.out.below hb,⟨cux i0 hb,cux i1 hb,cux i2 hb,cux i3 hb⟩,cux j0 hb,cux j1 hb,cux j2 hb,cux j3 hb⟩) trivial trivial ?steps ?fin (fun j=>match j with|0=>u42|1=>u43|2=>u44|3=>u45|4=>u46|5=>u47|6=>u48|7=>u49|8=>u50|_=>undef)
      case steps=>
       refine .c [] [] rfl ?_ (.c [] [] rfl ?_ (.c [0,1] [] rfl ?_ (.c [2] [] rfl ?_ (.c [] [] rfl ?_ (.c [] [] rfl ?_ (.c [4,5] [] rfl ?_ (.c [6] [] rfl ?_ (.c [3,7] [] rfl ?_ (.n)))))))))
       all_goals try exact stw
       ·rintro v lo hi W hb ⟨hR,⟨g0,g1,g2,g3⟩,k0,k1,k2,k3⟩ _;refine .inl ⟨rfl,fun K hK=>?_⟩;simp only [ov,vat,Nat.reduceBEq,cond_true,cond_false];go_wp2_with (go_at_call 109;refine (HDIV _).mono ?_;rintro e w9 ⟨rfl,hb9⟩)
        exact acx (hK w9 hb9) (by simp [ov,vat,upd])
      case fin=>
       rintro v lo hi9 W2 hb ⟨hR,⟨g0,g1,g2,g3⟩,k0,k1,k2,k3⟩ hf hap;show wpList _ _ _ [_] _ _;have e8:v 8=.bool dd:=(hf 8 rfl).2.2.2;clear hf hap;dsimp only;rw [e8];clear e8;generalize v 0=y0,v 1=y1,v 2=y2,v 3=y3,v 4=y4,v 5=y5,v 6=y6,v 7=y7;have HB4:=hq_ hb;clear hb;cases dd with
       | false=>
        have HRW:=hq_ hR;clear hR g0 g1 g2 g3 k0 k1 k2 k3;go_wp2_with fail
        go_roundw
        case rel=>exact ⟨jj+1,oq_,oq_,rfl,by go_num,hq_ (fun j' h1 h2=>by
         by_cases h3:j'<jj
         ·exact HN3.out j' h1 h3
         ·obtain rfl:j'=jj:=oq_;rw [HDA.out];decide),HRW,hq_ (Et HB3.out HB4.out)⟩
        case measure=>simp [intOf];omega
       | true=>
        obtain ⟨q,hq⟩:∃ q,q=andP xp yp:=⟨_,rfl⟩;have HQ:=hq_ hq;have HFQ:Hid (FV s q):=hq_ (by rw [hq];exact HFX.out.and HFY.out);have HAND:∀ W,Below W2.heap.size W2 W->Calls Tryz.prog 72 #[perV (.slice ax1 nx1 cx1) (.slice ax2 nx2 cx2) xp.frm xp.period,perV (.slice ay1 ny1 cy1) (.slice ay2 ny2 cy2) yp.frm yp.period] W (b6_ q W):=fun W h=>by
         rw [hq];exact tb_ s _ _ _ _ xp yp W (HX.out.is.ext (Et HB4.out h)) (HY.out.is.ext (Et HB4.out h)) HFX.out HFY.out
        clear hq;have HRW:=hq_ hR;have hW2:=HB4.out.size;have hle:=hR.le;go_wp2_with fail
        refine Code.wp_mono (Q:=fun e a' W'=>e=.normal∧(∃ (nb:Nat) (h c:Value) (z52 z53 z54 z55 z56 z57 z58 z59 z60 z61 z62 z63:Value),a'=⟨#[.slice a1 L.length c1,u1,.slice none 0 0,.slice (some ⟨w.heap.size,0,none⟩) M.length L.length,u4,u5,.int .i64 ↑ii,.int .i64 ↑jj,.pointer (some ⟨nb,0,none⟩),.int .i64 0,u10,u11,u12,u13,u14,u15,u16,u17,u18,u19,u20,u21,u22,u23,u24,u25,u26,u27,u28,.slice (some ⟨w.heap.size,0,none⟩) M.length L.length,.int .i64 ↑M.length,.int .i64 ↑ii,.bool true,.int .i64 ↑ii,.int .i64 ↑ii,.int .i64 (↑ii+1),.int .i64 ↑jj,.slice (some ⟨w.heap.size,0,none⟩) M.length L.length,.int .i64 ↑M.length,.bool true,u40,u41,y0,y1,y2,y3,y4,y5,y6,y7,.bool true,.bool false,z52,z53,z54,z55,z56,z57,z58,z59,z60,z61,z62,z63,u64,u65,u66,u67,u68,u69,u70,u71,u72,u73,u74,u75,u76],[]⟩∧MgP w.heap.size q nb h c W')∧Below W2.heap.size W2 W') ?imp ?reg
        case reg=>
         refine cx_ (w0:=W2) [0,1,2,3,4,5,6,7,8,9,10,11,12] 11 13 [14] (fun v=>⟨#[.slice a1 L.length c1,u1,.slice none 0 0,.slice (some ⟨w.heap.size,0,none⟩) M.length L.length,u4,u5,.int .i64 ↑ii,.int .i64 ↑jj,v 12,u9,u10,u11,u12,u13,u14,u15,u16,u17,u18,u19,u20,u21,u22,u23,u24,u25,u26,u27,u28,.slice (some ⟨w.heap.size,0,none⟩) M.length L.length,.int .i64 ↑M.length,.int .i64 ↑ii,.bool true,.int .i64 ↑ii,.int .i64 ↑ii,.int .i64 (↑ii+1),.int .i64 ↑jj,.slice (some ⟨w.heap.size,0,none⟩) M.length L.length,.int .i64 ↑M.length,.bool true,u40,u41,y0,y1,y2,y3,y4,y5,y6,y7,.bool true,.bool false,v 9,v 0,v 1,v 2,v 3,v 4,v 5,v 6,v 7,v 8,v 10,v 11,u64,u65,u66,u67,u68,u69,u70,u71,u72,u73,u74,u75,u76],[]⟩) [.slice (some ⟨w.heap.size,0,none⟩) M.length L.length,.int .i64 ii,.pointer (some ⟨w.heap.size,ii*4,none⟩),perV (.slice ax1 nx1 cx1) (.slice ax2 nx2 cx2) xp.frm xp.period,.slice (some ⟨w.heap.size,0,none⟩) M.length L.length,.int .i64 jj,.pointer (some ⟨w.heap.size,jj*4,none⟩),perV (.slice ay1 ny1 cy1) (.slice ay2 ny2 cy2) yp.frm yp.period,undef,undef,undef,.int .i64 0,undef] [8,9,10,12] (fun i v lo hi W=>match i with|8=>∃ h c,v 8=.tuple #[perV h c q.frm q.period,.int .i64 0]∧e4_ W (lo 8) (hi 8) h c q|9=>v 9=v 8∧∃ h c,v 9=.tuple #[perV h c q.frm q.period,.int .i64 0]|10=>∃ h c,v 9=.tuple #[perV h c q.frm q.period,.int .i64 0]∧v 10=perV h c q.frm q.period|12=>v 12=.pointer (some ⟨lo 12,0,none⟩)∧lo 12<hi 12∧Bxx W (lo 12) #[.slice none 0 0,.int .i64 0,.int .i64 0,.slice none 0 0] 39|_=>True) (fun W=>Row4 w.heap.size w.heap.size L.length W M∧(W.cell? ⟨w.heap.size,ii*4,none⟩=some (.slice ax1 nx1 cx1)∧W.cell? ⟨w.heap.size,ii*4+1,none⟩=some (.int .i64 xp.frm)∧W.cell? ⟨w.heap.size,ii*4+2,none⟩=some (.int .i64 xp.period)∧W.cell? ⟨w.heap.size,ii*4+3,none⟩=some (.slice ax2 nx2 cx2))∧(W.cell? ⟨w.heap.size,jj*4,none⟩=some (.slice ay1 ny1 cy1)∧W.cell? ⟨w.heap.size,jj*4+1,none⟩=some (.int .i64 yp.frm)∧W.cell? ⟨w.heap.size,jj*4+2,none⟩=some (.int .i64 yp.period)∧W.cell? ⟨w.heap.size,jj*4+3,none⟩=some (.slice ay2 ny2 cy2))) (fun W hb=>⟨hR.below hb,⟨cux g0 hb,cux g1 hb,cux g2 hb,cux g3 hb⟩,cux k0 hb,cux k1 hb,cux k2 hb,cux k3 hb⟩) ?stab ?loc ?steps ?fin ?fin2 (fun j=>match j with|0=>u53|1=>u54|2=>u55|3=>u56|4=>u57|5=>u58|6=>u59|7=>u60|8=>u61|9=>u52|10=>u62|11=>u63|12=>u8|_=>undef)
         case stab=>
          refine ⟨?_,?_,?_,?_,trivial⟩
          ·intro v lo hi W W' h hb;exact (let ⟨x1,x2,e,hp⟩:=h;⟨x1,x2,e,hp.below hb⟩)
          ·intro v lo hi W W' h hb;exact h
          ·intro v lo hi W W' h hb;exact h
          ·intro v lo hi W W' h hb;exact ⟨h.1,h.2.1,h.2.2.below hb⟩
         case loc=>
          refine ⟨?_,?_,?_,?_,trivial⟩
          ·intro v v' lo lo' hi hi' W hag h;have q:=hag 8 (.inl rfl)
           (try dsimp only at h ⊢)
           simp only [q.1,q.2.1,q.2.2] at h;exact h
          ·intro v v' lo lo' hi hi' W hag h;have q:=hag 9 (.inl rfl);have q8:=hag 8 (.inr (Rdp (by kernel_rfl)))
           (try dsimp only at h ⊢)
           simp only [q.1,q.2.1,q.2.2,q8.1,q8.2.1,q8.2.2] at h;exact h
          ·intro v v' lo lo' hi hi' W hag h;have q:=hag 10 (.inl rfl);have q9:=hag 9 (.inr (Rdp (by kernel_rfl)))
           (try dsimp only at h ⊢)
           simp only [q.1,q.2.1,q.2.2,q9.1,q9.2.1,q9.2.2] at h;exact h
          ·intro v v' lo lo' hi hi' W hag h;have q:=hag 12 (.inl rfl)
           (try dsimp only at h ⊢)
           simp only [q.1,q.2.1,q.2.2] at h;exact h
         case steps=>
          clear hR g0 g1 g2 g3 k0 k1 k2 k3;refine .c [] [] rfl ?_ (.c [] [] rfl ?_ (.c [0,1] [] rfl ?_ (.c [2] [] rfl ?_ (.c [] [] rfl ?_ (.c [] [] rfl ?_ (.c [4,5] [] rfl ?_ (.c [6] [] rfl ?_ (.c [3,7] [] rfl ?_ (.c [] [8] rfl ?_ (.c [] [9] rfl ?_ (.c [] [9] rfl ?_ (.c [] [] rfl ?_ (.n)))))))))))))
          all_goals try exact stl
          ·rintro v lo hi W hb ⟨_,⟨g0,g1,g2,g3⟩,k0,k1,k2,k3⟩ _;refine ⟨rfl,fun K hK=>?_⟩;simp only [ov,vat,Nat.reduceBEq,cond_true,cond_false];go_wp2_with (go_at_call 72;refine (HAND _ xE).mono ?_;rintro e w9 ⟨h',c',rfl,ho,hb9⟩)
           exact acx (hK (.tuple #[perV h' c' q.frm q.period,.int .i64 0]) w9 hb9 ⟨h',c',rfl,ho.at⟩) (by simp [ov,vat,upd])
          ·rintro v lo hi W hb ⟨_,⟨g0,g1,g2,g3⟩,k0,k1,k2,k3⟩ ⟨⟨la8,lb8,D8⟩,_⟩;refine ⟨rfl,fun K hK=>?_⟩;simp only [ov,vat,Nat.reduceBEq,cond_true,cond_false]
           (try dsimp only at D8)
           obtain ⟨h8,c8,e8,_⟩:=D8;go_wp2_with fail
           exact acx (hK (v 8) W (Below.refl _ _) ⟨rfl,h8,c8,e8⟩) (by simp [ov,vat,upd,e8])
          ·rintro v lo hi W hb ⟨_,⟨g0,g1,g2,g3⟩,k0,k1,k2,k3⟩ ⟨⟨la9,lb9,D9⟩,_⟩;refine ⟨rfl,fun K hK=>?_⟩;simp only [ov,vat,Nat.reduceBEq,cond_true,cond_false]
           (try dsimp only at D9)
           obtain ⟨-,h9,c9,e9⟩:=D9;simp only [e9];go_wp2_with fail
           exact acx (hK (perV h9 c9 q.frm q.period) W (Below.refl _ _) ⟨h9,c9,e9,rfl⟩) (by simp [ov,vat,upd,e9])
          ·rintro v lo hi W hb ⟨_,⟨g0,g1,g2,g3⟩,k0,k1,k2,k3⟩ ⟨⟨la9,lb9,D9⟩,_⟩;refine ⟨rfl,fun K hK=>?_⟩;simp only [ov,vat,Nat.reduceBEq,cond_true,cond_false]
           (try dsimp only at D9)
           obtain ⟨-,h9,c9,e9⟩:=D9;simp only [e9];go_wp2_with fail
           exact acx (hK W (Below.refl _ _)) (by simp [ov,vat,upd,e9])
          ·rintro v lo hi W hb ⟨_,⟨g0,g1,g2,g3⟩,k0,k1,k2,k3⟩ _;refine ⟨rfl,fun K hK=>?_⟩;simp only [ov,vat,Nat.reduceBEq,cond_true,cond_false];go_wp2_with fail
           exact hK (.pointer (some ⟨W.heap.size,0,none⟩)) _ (Ea (Er _) _) ⟨rfl,sq_,Bxx.new _ _ _⟩
         case fin=>
          rintro v lo hi9 W5 hb5 ⟨hR5,-,-⟩ hf hap;show wpList _ _ _ [_,_] _ _;obtain ⟨l8,-,h8,h,c,e8,hp8⟩:=hf 8 rfl;obtain ⟨-,-,-,e9,-⟩:=hf 9 rfl;obtain ⟨-,-,-,h',c',e9',e10⟩:=hf 10 rfl;have e11:v 11=.int .i64 0:=(hf 11 rfl).2.2.2;obtain ⟨l12,-,h12,e12,lt12,hbox⟩:=hf 12 rfl;have hd:=hap 8 12 rfl rfl dq_;clear hf hap;rw [e9,e8] at e9';obtain ⟨rfl,rfl⟩:h=h'∧c=c':=by simpa [perV] using e9'
          dsimp only;rw [e10,e11,e12];clear e10 e11 e12 e9 e9' e8;obtain ⟨nb,hnb⟩:∃ nb,nb=lo 12:=⟨_,rfl⟩;rw [<- hnb] at hd hbox l12 lt12 ⊢;have hpi:=hp8.inn;generalize lo 8=l8v at *;generalize hi9 8=h8v at *;generalize hi9 12=h12v at *;clear hnb hp8;obtain ⟨a5,m5,a6,m6,rfl,rfl⟩:=hpi.form;have g0:=hbox.cells 0;have g1:=hbox.cells 1;have g2:=hbox.cells 2;have g3:=hbox.cells 3;have HMG:=hq_ (MgP.of hpi HFQ.out (show w.heap.size<l8v by omega) hbox oq_ oq_);have HB5:=hq_ hb5;clear hbox hpi hd hR5;generalize v 0=z0,v 1=z1,v 2=z2,v 3=z3,v 4=z4,v 5=z5,v 6=z6,v 7=z7,v 8=z8,v 9=z9;go_wp2_with fail
          exact ⟨⟨_,_,HMG.out⟩,by have hb5:=HB5.out;exact xE⟩
         case fin2=>
          rintro v lo hi9 W5 hb5 ⟨hR5,-,-⟩ hf hap;obtain ⟨l8,-,h8,h,c,e8,hp8⟩:=hf 8 rfl dq_;obtain ⟨-,-,-,e9,-⟩:=hf 9 rfl dq_;obtain ⟨-,-,-,h',c',e9',e10⟩:=hf 10 rfl dq_;obtain ⟨l12,-,h12,e12,lt12,hbox⟩:=hf 12 rfl dq_;have hd:=hap 8 12 rfl rfl dq_ dq_ dq_;clear hf hap;rw [e9,e8] at e9';obtain ⟨rfl,rfl⟩:h=h'∧c=c':=by simpa [perV] using e9'
          have e99:=e9.trans e8;dsimp only;rw [e10,e12,e99];clear e10 e12 e9 e9' e8 e99;obtain ⟨nb,hnb⟩:∃ nb,nb=lo 12:=⟨_,rfl⟩;rw [<- hnb] at hd hbox l12 lt12 ⊢;have hpi:=hp8.inn;generalize lo 8=l8v at *;generalize hi9 8=h8v at *;generalize hi9 12=h12v at *;clear hnb hp8;obtain ⟨a5,m5,a6,m6,rfl,rfl⟩:=hpi.form;have g0:=hbox.cells 0;have g1:=hbox.cells 1;have g2:=hbox.cells 2;have g3:=hbox.cells 3;have HMG:=hq_ (MgP.of hpi HFQ.out (show w.heap.size<l8v by omega) hbox oq_ oq_);have HB5:=hq_ hb5;clear hbox hpi hd hR5;generalize v 0=z0,v 1=z1,v 2=z2,v 3=z3,v 4=z4,v 5=z5,v 6=z6,v 7=z7,v 8=z8,v 11=z11;constructor
          ·show wpList _ _ _ [_,_,_] _ _;go_wp2_with fail
           exact ⟨⟨_,_,HMG.out⟩,by have hb5:=HB5.out;exact xE⟩
          ·show wpList _ _ _ [_,_,_] _ _;go_wp2_with fail
           exact ⟨⟨_,_,HMG.out⟩,by have hb5:=HB5.out;exact xE⟩
        case imp=>
         rintro e a' W6 ⟨rfl,⟨nb,h,c,z52,z53,z54,z55,z56,z57,z58,z59,z60,z61,z62,z63,rfl,hP⟩,hb6⟩;obtain ⟨a5,n5,m5,a6,n6,m6,rfl,rfl⟩:=hP.ok.form;have p0:=hP.c0;have p1:=hP.c1;have p2:=hP.c2;have p3:=hP.c3;have hrow:=HRW.out.below hb6;obtain ⟨-,r0,r1,r2,r3,r4⟩:=hrow.get hlt;have hset:=hrow.set (x:=⟨_,_,q⟩) hlt hP.ok;have hdel:=qy_ _ _ _ jj _ _ hset (by rw [List.length_set];exact hjl);rw [List.length_set] at hdel;have hgr:=ei_ W6 (i:=ii*4) (Nat.le_refl w.heap.size) (.slice a5 n5 m5) (.int .i64 q.frm) (.int .i64 q.period) (.slice a6 n6 m6);have HGR:=hq_ hgr;have HB6:=hq_ hb6;clear hP hrow hset hgr hb6;go_wp2_with (go_at_call 145;refine hdel.mono ?_;rintro e w8 ⟨rfl,hr8,hg8⟩)
         go_step3
         have hb8:Below w.heap.size w w8:=by
          have h1:Below w.heap.size w W6:=Et (Et HB3.out HB4.out) HB6.out;exact h1.trans (HGR.out.trans (World.grownBy.below' hg8 (Nat.le_refl _) (h1.trans HGR.out).size))
         refine ⟨rfl,⟨_,_,_,_,_,_,_,_,_,_,_,_,_,_,_,_,_,_,_,_,_,_,_,_,_,_,_,_,_,_,_,_,_,_,_,_,_,_,_,_,_,_,_,_,_,_,_,_,_,_,_,_,_,_,_,_,_,_,_,_,_,_,_,_,_,_,_,_,_,_,_,_,_,_,_,_,rfl,?_,hr8,hb8,?_,?_⟩,?_⟩
         ·rw [List.length_eraseIdx_of_lt (by rw [List.length_set];exact hjl),List.length_set]
         ·intro z hz;have h1:=List.mem_of_mem_eraseIdx hz;rcases List.mem_or_eq_of_mem_set h1 with h2|rfl
          ·exact HI.out.fv z h2
          ·exact HFQ.out
         ·intro u hu;refine HI.out.tom u (c4_.step (i:=ii) (j:=jj) ⟨hij,by rw [List.length_map];exact hjl,(by have:=HDA.out;simpa using this),fun i' j' h1 h2 h3=>HN2.out i' j' h1 h2 (by rwa [List.length_map] at h3),HN3.out⟩ ?_);rw [<- map_merge hlt hjl (x:=⟨.slice a5 n5 m5,.slice a6 n6 m6,q⟩) (by rw [HDX.out,HDY.out];exact HQ.out)];exact hu
         ·show M.length-1<M.length;omega
     ·obtain rfl:jj=M.length:=oq_;go_wp2_with fail
      go_roundw
      case rel=>exact ⟨ii+1,oq_,rfl,by go_num,hq_ (fun i' j' h1 h2 h3=>by
       by_cases h4:i'<ii
       ·exact HN2.out i' j' h4 h2 h3
       ·obtain rfl:i'=ii:=oq_;exact HN3.out j' h2 h3),HR3,HB3⟩
      case measure=>simp [intOf];omega
   ·obtain rfl:ii=M.length:=oq_;go_wp2_with fail
    simp only [Exit.jump];go_ret;refine ⟨_,M.map PV.p,rfl,HI.out.tom _ (c4_.done fun i' j' h1 h2=>HN2.out i' j' (by rw [List.length_map] at h2;omega) h1 (by rwa [List.length_map] at h2)),fun p hp=>?_,⟨M,rfl,HR2.out.term⟩,HB2.out⟩;obtain ⟨z,hz,rfl⟩:=List.mem_map.1 hp;exact HI.out.fv z hz
end Go.Proofs.YthjnojbeimchdaaGreat
end
namespace Go
open Go.RowKit
variable {P:Program}
def SeqY {α:Type} (P:Program) (g:Nat) (lb:Array Value) (encs:α->Array Value) (Kp:World->World->Prop) (x:Option Nat) (Ey:List α->α->World->Prop) (Fin:List α->Prop) (w:World):Prop:=
 ∀ (l:Nat) (J:List α->World->Prop) (W:World),Below w.heap.size w W->ll_ x J->
  (∀ pre y W1,J pre W1->Ey pre y W1->YieldAt Fence.wide 0 P l (encs y) W1 fun e W'=>e=.returned (.bool true)∧J (pre ++ [y]) W'∧Kp W1 W')->
  J [] W->
  CallsIn Fence.wide 0 P g (#[.func (.yield l) #[] #[]] ++ lb) W fun e W'=>(∃ v,e=.returned v)∧∃ xs,Fin xs∧J xs W'
def my_ (B:Nat) (Kp:World->World->Prop) (I:World->Prop) (W:World):Exit->Act->World->Prop
 | .normal,_,W3=>KeepsFrom B W W3∧Kp W W3∧I W3
 | _,_,_=>False
theorem jh_ {α:Type} {g:Operand} {ps:Array Tmp} {assign body:Code} {Q:Exit->Act->World->Prop} {a:Act} {w:World}
  {gf:Nat} {lb:Array Value} (hg:a.eval g=.func (.func gf) #[] lb) (eg:∀ args w,(callFunc gf args).run P w=.ok (.enter gf args) w)
  {encs:α->Array Value} {Kp:World->World->Prop} {x:Option Nat} {Ey:List α->α->World->Prop} {Fin:List α->Prop} (hseq:SeqY P gf lb encs Kp x Ey Fin w)
  (hKt:∀ {A B C:World},Kp A B->Kp B C->Kp A C) (hKb:∀ (W:World) (l:Nat) (o o':Obj),w.heap.size≤l->W.heap[l]? = some o->o.isCells=false->Kp W (W.putObj l o')) (hps:∀ y,(encs y).size=ps.size)
  (I:List α->World->Prop) (hI:OwnX w.heap.size x I) (hEy:∀ pre y (W:World) (l:Nat) (o o':Obj),W.heap[l]? = some o->o.isCells=false->Ey pre y W->Ey pre y (W.putObj l o')) (h0:I [] w) (a₁:α->Act)
  (hassign:∀ (l:Nat) (y:α) (W:World) (K:Act->World->Prop),K (a₁ y) W->
   assign.wpIn (Fence.wide.inRound l) 0 P (Exit.then K (fun _ _ _=>False)) { tmps:=(ps.zip (encs y)).foldl (fun t (p,v)=>t.setIfInBounds p v) a.tmps,defers:=[] } W)
  (hbody:∀ (l:Nat) (pre:List α) (y:α) (W:World),I pre W->Ey pre y W->body.wpIn (Fence.wide.inRound l) 0 P (my_ w.heap.size Kp (I (pre ++ [y])) W) (a₁ y) W)
  (hdone:∀ (D:Nat) (xs:List α) (W:World),w.heap.size≤D->Fin xs->I xs W->W.heap[D]? = some (.deferred (some []))->Q .normal { a with defers:={ target:=.collected D,args:=#[] } :: a.defers } W) :
  (Code.rangeFunc g ps assign body).wpIn Fence.wide 0 P Q a w:=by
 refine wpIn_rangeFunc ?_;intro fn hfn;obtain ⟨rec,hrec⟩:∃ rec:LoopState->Option Code->Loop,rec=fun st pe=>{ state:=st,pending:=pe,fn,tmps:=a.tmps,params:=ps,assign,body,defers:=w.heap.size }:=⟨_,rfl⟩;obtain ⟨W1,hW1⟩:∃ W1,(w.alloc (.deferred (some []))).alloc (.loop (rec .ready none))=W1:=⟨_,rfl⟩;have hL1:W1.heap[w.heap.size+1]? = some (.loop (rec .ready none)):=by
  rw [<- hW1];have:=World.alloc_heap_new (w.alloc (.deferred (some []))) (.loop (rec .ready none));rwa [World.size_alloc] at this
 have hK1:W1.heap[w.heap.size]? = some (.deferred (some [])):=by
  rw [<- hW1];exact (Below.heap_alloc _ _ _ sq_).trans (World.alloc_heap_new w _)
 have hI1:I [] W1:=by rw [<- hW1];exact hI.alloc _ (hI.alloc _ h0)
 have hb1:Below w.heap.size w W1:=by
  rw [<- hW1];exact (((Below.refl _ w).alloc (Nat.le_refl _) _).alloc sq_ _)
 refine ⟨w.heap.size+1,[{ target:=.collected w.heap.size,args:=#[] }],W1,{ target:=.fn (.func gf) lb,args:=#[.func (.yield (w.heap.size+1)) #[] #[]] },W1,gf,
  #[.func (.yield (w.heap.size+1)) #[] #[]] ++ lb,W1,?_,?_,?_,?_,(fun h=>by cases h),?_⟩
 ·rw [<- hW1,hrec];exact run_enterLoop_outer _ _ _ _ _
 ·simp only [resolve,hg];simp [go_sem]
 ·intro f' _;trivial
 ·simp [invoke,go_sem,eg]
 ·have hkeep:∀ {A B:World} {row:Option Nat} {l:Nat} {o:Obj},A.grownBy B row->(∀ r,row=some r->x=some r∧∃ o:Obj,A.heap[r]? = some o∧o.isCells=true)->A.heap[l]? = some o->o.isCells=false->B.heap[l]? = some o:=
   fun {A B row l o} hg' hr hl ho=>by
    refine (hg'.block l (Array.getElem?_eq_some_iff.1 hl).1 fun e=>?_).trans hl;obtain ⟨_,o2,ho2,hc⟩:=hr l e.symm;rw [hl] at ho2;cases ho2;rw [ho] at hc;cases hc
  refine (hseq (w.heap.size+1)
   (fun pre W=>I pre W∧W.heap[w.heap.size+1]? = some (.loop (rec .ready none))∧W.heap[w.heap.size]? = some (.deferred (some [])))
   W1 hb1
   (fun s A B row hs hg' hr=>⟨hI s A B row hs.1 hg' (fun r e=>.inl (hr r e)),hkeep hg' hr hs.2.1 rfl,hkeep hg' hr hs.2.2 rfl⟩)
   ?_ ⟨hI1,hL1,hK1⟩).mono ?_
  ·rintro pre y W ⟨hi,hl,hk⟩ hlen;have hlt:w.heap.size+1<W.heap.size:=(Array.getElem?_eq_some_iff.1 hl).1;have hy:=run_yield (P:=P) (args:=encs y) hl (by rw [hrec];exact hps y);rw [hrec] at hy;refine ⟨fn,_,assign,body,hy,roundIn_of_wpIn hfn (hassign _ y W _ ?_)⟩;clear hy;refine ⟨_,run_beginRound hl (by rw [hrec]),?_⟩;have hl2:(W.putObj (w.heap.size+1) (.loop { rec .ready none with state:=.busy })).heap[w.heap.size+1]? = some (.loop { rec .ready none with state:=.busy }):=World.putObj_heap_same hlt;have hk2:(W.putObj (w.heap.size+1) (.loop { rec .ready none with state:=.busy })).heap[w.heap.size]? = some (.deferred (some [])):=(World.putObj_heap_other oq_).trans hk;have hw2:Kp W (W.putObj (w.heap.size+1) (.loop { rec .ready none with state:=.busy })):=hKb _ _ _ _ oq_ hl rfl;refine wpIn_mono (hbody _ pre y _ (hI.putObj _ hi oq_ hl rfl) (hEy _ _ _ _ _ _ hl rfl hlen)) ?_;have fin:∀ (jump:Option Code) (W3:World),KeepsFrom w.heap.size (W.putObj (w.heap.size+1) (.loop { rec .ready none with state:=.busy })) W3->
     (Instr.endRound (w.heap.size+1) jump).run P W3=.ok (.bool jump.isNone) (W3.putObj (w.heap.size+1) (.loop (rec (if jump.isNone then .ready else .done) jump)))∧
     W3.heap[w.heap.size+1]? = some (.loop { rec .ready none with state:=.busy })∧
     (W3.putObj (w.heap.size+1) (.loop (rec (if jump.isNone then .ready else .done) jump))).heap[w.heap.size+1]? = some (.loop (rec (if jump.isNone then .ready else .done) jump))∧
     (W3.putObj (w.heap.size+1) (.loop (rec (if jump.isNone then .ready else .done) jump))).heap[w.heap.size]? = some (.deferred (some [])):=fun jump W3 hk3=>by
    have hl3:=hk3.same _ _ oq_ hl2 rfl;have:=run_endRound (P:=P) jump hl3;rw [hrec] at this ⊢;exact ⟨this,by rw [hrec] at hl3;exact hl3,World.putObj_heap_same (Array.getElem?_eq_some_iff.1 hl3).1,(World.putObj_heap_other oq_).trans (hk3.same _ _ (Nat.le_refl _) hk2 rfl)⟩
   rintro e a3 W3 hp;cases e with
   | normal=>
    obtain ⟨hk3,hkp3,hi3⟩:=hp;obtain ⟨hr,hl3,hl4,hk4⟩:=fin none W3 hk3;exact ⟨_,_,hr,rfl,⟨hI.putObj _ hi3 oq_ hl3 rfl,hl4,hk4⟩,hKt (hKt hw2 hkp3) (hKb _ _ _ _ oq_ hl3 rfl)⟩
   | _=>exact hp.elim
  ·rintro e W2 ⟨⟨v,rfl⟩,xs,hS,hi,hl,hk⟩;exact ⟨none,_,by have:=run_endLoop (P:=P) hl (by rw [hrec];simp);rw [hrec] at this;exact this,hdone _ xs _ (Nat.le_refl _) hS (hI.putObj _ hi oq_ hl rfl) ((World.putObj_heap_other oq_).trans hk)⟩
end Go
section
variable {b:Bool}{F P a at_ d f n r s step x y:Int}{T m out:List (List Kal.Per)}{l:List Int}{L:List Go.Proofs.YthjnojbeimchdaaGreat.PV}{t u:List Kal.Per}{cs xs:List Go.Value}{B base c cap g hi i j k:Nat}{row:Option Nat}{p q:Kal.Per}{h v:Go.Value}{A W W' w:Go.World}
namespace Go.Proofs.YthjnojbeimchdaaGreat
open Go.RowKit Go.Shelf Kal
attribute [local go_sem] Oper.semAt_some
theorem RowR.keep2 {F:Nat->Prop} {n:Nat} (h:RowR W F v n cs) (hk:a5_ F W W'):RowR W' F v n cs:=by
 obtain ⟨a,c,rfl,h1,h2,h3⟩:=h;refine ⟨a,c,rfl,h1,h2,h3.imp id ?_⟩;rintro ⟨b,o,rfl,hF,hl,hc⟩;refine ⟨b,o,rfl,hF,?_,fun i u hi=>(World.cell?_of_block (hk b hF hl)).trans (hc i u hi)⟩;have h1:=hk b hF hl;rw [Array.getElem?_eq_getElem hl] at h1;exact (Array.getElem?_eq_some_iff.1 h1).1
theorem be_.keep2 {F:Nat->Prop} (h:be_ W F v L) (hk:a5_ F W W'):be_ W' F v L:=⟨h.row.keep2 hk,h.len,fun x hx=>(h.all x hx).keep hk⟩
theorem ab_.keep2 {F:Nat->Prop} (h:ab_ W F v t) (hk:a5_ F W W'):ab_ W' F v t:=by
 obtain ⟨L,e,g⟩:=h;exact ⟨L,e,g.keep2 hk⟩
theorem MixL.keep2 {F:Nat->Prop} {L:List (Value × List Per)} (h:MixL W F v L) (hk:a5_ F W W'):MixL W' F v L:=⟨h.row.keep2 hk,h.len,fun x hx=>(h.all x hx).keep2 hk⟩
def j0_ (W:World) (b:Nat):Prop:=∃ o:Obj,W.heap[b]? = some o∧o.isCells=true
theorem jw_ {b o:Nat} {u:Value} (h:W.cell? ⟨b,o,none⟩=some u):j0_ W b:=by
 unfold World.cell? at h;cases hb:W.heap[b]? with
 | none=>simp [hb] at h
 | some x=>
  simp only [hb] at h;cases x with
  | cells c t f=>exact ⟨_,hb,rfl⟩
  | _=>simp at h
theorem Ints.cellB (h:Ints W v l) (hl:l≠[]) (hk:v.ownBlock=some k):j0_ W k:=by
 obtain ⟨⟨a,c,rfl,h1,h2,h3⟩,h4,h5⟩:=h;rcases h3 with h3|⟨b,o,rfl,hc⟩
 ·exact absurd h3 hl
 ·simp [Value.ownBlock] at hk;subst hk;exact jw_ (hc 0 (List.length_pos_iff.2 hl))
theorem PVok.cellB {F:Nat->Prop} {x:PV} (h:PVok W F x):PVok W (j0_ W) x:=
 ⟨h.is,h.fr,h.pe,fun e k hk=>h.is.hd.cellB e hk,fun e k hk=>h.is.cy.cellB e hk⟩
theorem be_.cellB {F:Nat->Prop} (h:be_ W F v L):be_ W (j0_ W) v L:=by
 refine ⟨?_,h.len,fun x hx=>(h.all x hx).cellB⟩;obtain ⟨a,c,rfl,h1,h2,h3⟩:=h.row;refine ⟨a,c,rfl,h1,h2,?_⟩
 by_cases hL:L.length=0
 ·exact .inl hL
 ·rcases h3 with h3|⟨b,o,rfl,hb,hl,hc⟩
  ·exact .inl h3
  ·exact .inr ⟨b,o,rfl,jw_ (hc (0*4+0) _ (av_ oq_ rfl)),hl,hc⟩
theorem ab_.put {F:Nat->Prop} {l:Nat} {o o':Obj} (h:ab_ W F v t) (hl:W.heap[l]? = some o) (ho:o.isCells=false):ab_ (W.putObj l o') (j0_ W) v t:=by
 obtain ⟨L,e,g⟩:=h;refine ⟨L,e,g.cellB.keep2 fun b hb _=>World.putObj_heap_other ?_⟩;obtain ⟨x,hx,hc⟩:=hb;rintro rfl;rw [hl] at hx;cases hx;rw [ho] at hc;cases hc
def tenc (y:Value × List Per):Array Value:=#[y.1]
def EyT (T:List (List Per)) (pre:List (Value × List Per)) (y:Value × List Per) (W:World):Prop:=(∃ r,T=pre.map Prod.snd ++ y.2 :: r)∧∃ F,ab_ W F y.1 y.2
def FinT (T:List (List Per)) (xs:List (Value × List Per)):Prop:=xs.map Prod.snd=T
def n3_ (g:Nat) (lb:Array Value) (T:List (List Per)) (w:World):Prop:=
 (∀ args w,(callFunc g args).run Tryz.prog w=.ok (.enter g args) w)∧∀ W,Below w.heap.size w W->SeqY Tryz.prog g lb tenc (KpB fun k=>k<w.heap.size) none (EyT T) (FinT T) W
theorem dn_ (v:Value) (w:World) (hv:∃ a n c,v=.slice a n c) :
  Calls Tryz.prog 61 #[v] w fun e w'=>e=.returned (.func (.func 103) #[] #[.pointer (some ⟨w.heap.size,0,none⟩)])∧w'=w.alloc (.cells #[v] 26):=by
 obtain ⟨a,n,c,rfl⟩:=hv
 go_enter Tryz.func61,Tryz.ntmps61
 go_wp2
 go_ret;exact ⟨rfl,rfl⟩
theorem mp_ {L:List (Value × List Per)} (hT:L.map Prod.snd=T) (hk:k<L.length):T=T.take k ++ (L.getD k default).2 :: T.drop (k+1)∧T.take (k+1)=T.take k ++ [(L.getD k default).2]:=by
 subst hT;have h1:k<(L.map Prod.snd).length:=by simpa using hk
 have h2:(L.getD k default).2=(L.map Prod.snd)[k]:=by simp [List.getD_eq_getElem?_getD,hk]
 rw [h2];exact ⟨by rw [<- List.drop_eq_getElem_cons h1,List.take_append_drop],List.take_succ_eq_append_getElem h1⟩
theorem dv_ (F:Nat->Prop) (v:Value) (T:List (List Per)) (b:Nat) (w:World) (hm:MixR w F v T) (hb:w.cell? ⟨b,0,none⟩=some v) :
  n3_ 103 #[.pointer (some ⟨b,0,none⟩)] T w:=by
 refine ⟨enters_of Tryz.func103 (by kernel_rfl) rfl,fun W0 hW0=>?_⟩;obtain ⟨L,hLT,hL⟩:=hm;intro l' J W hW hJ hY hJ0;have hlt:=World.block_lt_of_cell? w _ hb;have hWw:Below w.heap.size w W:=hW0.trans (hW.mono hW0.size);have hb1:=Ext.cell hWw hb;obtain ⟨a1,c1,rfl,hx1,hx2,_⟩:=hL.row.is;have hl1:=hL.len;have HL:Hid (∀ wr,KpB (fun k=>k<w.heap.size) W wr->MixL wr (fun b=>F b∧b<w.heap.size) (.slice a1 L.length c1) L):=hq_ fun wr h=>hL.lt.keep2 fun b hb _=>(h b hb.2).trans (hWw.block b hb.2);have HLT:=hq_ hLT;have HJ:=hq_ hJ;have HY:=hq_ hY;clear hL hLT hJ hY hb;refine callsIn_of_wp Tryz.func103 rfl trivial ?_ rfl;simp only [Tryz.ntmps103,List.size_toArray,List.length_cons,List.length_nil,Nat.reduceAdd,Nat.reduceSub,Array.replicate_succ,Array.replicate_zero,List.push_toArray,List.append_toArray,List.nil_append,List.cons_append]
 gi_wp2_with fail
 gi_loopw [4,7] (fun _ i wr=>∃ (k:Nat) (pre:List (Value × List Per)),k≤L.length∧i=.int .i64 k∧Hid (pre.map Prod.snd=T.take k)∧J pre wr∧KpB (fun k=>k<w.heap.size) W wr) (fun _ i _=>L.length-(intOf i).toNat)
 case atStart=>exact ⟨0,[],oq_,rfl,hq_ rfl,hJ0,fun _ _=>rfl⟩
 case round=>
  obtain ⟨k,pre,hk,rfl,HP,hJw,hK⟩:=hrel;have HK:=hq_ hK;have HJW:=hq_ hJw;have hml:=HL.out wr hK;clear hK hJw
  by_cases hlt2:k<L.length
  ·have hlI:(k:Int)<L.length:=oq_;obtain ⟨a',c',he,_,_,h3⟩:=hml.row.is;injection he with e1 e2 e3
   subst e1;subst e3;rcases h3 with h0|⟨b8,f8,rfl,hF,hb8,hcell⟩
   ·omega
   have e0:wr.cell? ⟨b8,f8+k,none⟩=some (L.getD k default).1:=hcell k _ (by rw [List.getElem?_map,List.getD_eq_getElem?_getD,List.getElem?_eq_getElem hlt2];rfl);have hyt:=hml.all _ (aa_ (d:=default) hlt2);obtain ⟨t1,t2⟩:=mp_ HLT.out hlt2;have T2:=hq_ t2;generalize L.getD k default=y at *;have hEy:EyT T pre y wr:=⟨⟨_,by rw [HP.out];exact t1⟩,_,hyt⟩;obtain ⟨fn,tmps,assign,body,hyy,hR⟩:=HY.out pre y wr HJW.out hEy;clear hcell hyt t1 t2 hEy hml;unfold tenc at hyy
   gi_wp2
   refine ⟨rfl,hR.mono ?_⟩;rintro e W' ⟨rfl,hJ',hk'⟩
   gi_wp2
   go_roundw
   case rel=>exact ⟨k+1,pre ++ [y],oq_,by go_num,hq_ (by rw [List.map_append,HP.out,T2.out];rfl),hJ',HK.out.trans hk'⟩
   case measure=>simp [intOf];omega
  ·obtain rfl:k=L.length:=oq_;clear hml
   gi_wp2
   refine bodyPost_end (results_none rfl _ _ _) rfl ?_;refine ⟨⟨_,rfl⟩,pre,?_,HJW.out⟩;show _=T;rw [HP.out,<- HLT.out,List.take_of_length_le sq_]
end Go.Proofs.YthjnojbeimchdaaGreat
namespace Go.Proofs.YthjnojbeimchdaaGreat
open Go.RowKit Go.Maps Kal
def RowF (B:Nat) (A:Nat->Prop) (v:Value) (b:Nat):Prop:=B≤b∧¬ A b∧v.ownBlock≠some b
structure RowT (B:Nat) (A:Nat->Prop) (W:World) (v:Value) (L:List (Value × List Per)):Prop where
 row:W.ownsRow B 36 1 v L.length (L.map Prod.fst)
 all:∀ x∈L,ab_ W (RowF B A v) x.1 x.2
 ne:∀ g,v.ownBlock=some g->¬ A g
 len:L.length≤1000000
theorem RowT.nil (B:Nat) (A:Nat->Prop) (W:World):RowT B A W (.slice none 0 0) []:=⟨World.ownsRow_nil W B 36 1,sq_,by simp [Value.ownBlock],sq_⟩
theorem RowT.form {A:Nat->Prop} {L:List (Value × List Per)} (h:RowT B A W v L):∃ a c,v=.slice a L.length c∧L.length≤c∧c≤9223372036854775807∧(L.length=0∨∃ g,a=some ⟨g,0,none⟩):=by
 obtain ⟨_,⟨rfl,h2⟩|⟨g,cap,cur,rfl,_,_,h3,h4,_⟩⟩:=h.row
 ·exact ⟨none,0,by rw [h2],oq_,oq_,.inl h2⟩
 ·exact ⟨_,cap,rfl,h3,h4,.inr ⟨g,rfl⟩⟩
theorem RowT.below {A:Nat->Prop} {L:List (Value × List Per)} (h:RowT B A W v L) (hb:Below W.heap.size W W'):RowT B A W' v L:=
 ⟨h.row.kept (row:=none) (World.grownBy.of_below hb _) (by cases v.ownBlock <;> simp),fun x hx=>(h.all x hx).ext hb,h.ne,h.len⟩
theorem RowT.box {A:Nat->Prop} {L:List (Value × List Per)} (h:RowT B A W v L) (hg:W.grownBy W' (some k)) (hA:A k):RowT B A W' v L:=
 ⟨h.row.kept hg (.inr fun e=>h.ne k e hA),fun x hx=>(h.all x hx).keep (a5_.grown hg fun hf=>hf.2.1 hA) hg.size,h.ne,h.len⟩
theorem RowT.mono {A A':Nat->Prop} {L:List (Value × List Per)} (h:RowT B A W v L) (hs:∀ k,A' k->A k∨W.heap.size≤k):RowT B A' W v L:=
 ⟨h.row,fun x hx=>((h.all x hx).lt).mono fun b hb=>⟨hb.1.1,fun ha=>(hs b ha).elim hb.1.2.1 fun hl=>by have:=hb.2;omega,hb.1.2.2⟩,fun g hg ha=>(hs g ha).elim (h.ne g hg) fun hl=>by have:=(h.row.lt g hg).2;omega,h.len⟩
theorem RowT.push {A:Nat->Prop} {v':Value} {L:List (Value × List Per)} {y:Value × List Per} (h:RowT B A W v L) (hy:ab_ W (RowF B A v) y.1 y.2) (hr:W'.ownsRow B 36 1 v' (L.length+1) (L.map Prod.fst ++ [y.1])) (hg:W.grownBy W' v.ownBlock)
  (hb:v'.ownBlock=v.ownBlock∨v'.ownBlock=some W.heap.size) (hA:¬ A W.heap.size) (hl:L.length<1000000):RowT B A W' v' (L ++ [y]):=by
 have key:∀ {u:Value} {t:List Per},ab_ W (RowF B A v) u t->ab_ W' (RowF B A v') u t:=fun ht=>by
  refine (ht.lt.keep (fun b hb hl=>hg.block b hl fun e=>hb.1.2.2 e.symm) hg.size).mono fun b hb'=>⟨hb'.1.1,hb'.1.2.1,?_⟩;rcases hb with e|e
  ·rw [e];exact hb'.1.2.2
  ·rw [e];rintro ⟨⟩;have:=hb'.2;omega
 refine ⟨by rw [List.length_append,List.map_append];exact hr,fun x hx=>?_,fun g hg'=>?_,tq_⟩
 ·rcases List.mem_append.1 hx with hx|hx
  ·exact key (h.all x hx)
  ·obtain rfl:x=y:=by simpa using hx
   exact key hy
 ·rcases hb with e|e
  ·exact h.ne g (e ▸ hg')
  ·rw [e] at hg';cases hg';exact hA
theorem RowT.get {A:Nat->Prop} {L:List (Value × List Per)} {n:Nat} (h:RowT B A W v L) (hv:v=.slice (some ⟨g,0,none⟩) n c) (hk:k<L.length) :
  ab_ W (RowF B A v) (L.getD k default).1 (L.getD k default).2∧W.cell? ⟨g,k,none⟩=some (L.getD k default).1∧∀ i,W.frozen? ⟨g,i,none⟩=false:=by
 have hn:n=L.length:=by
  obtain ⟨_,_,e,_⟩:=h.form;rw [hv] at e;cases e;rfl
 subst hn;subst hv;refine ⟨h.all _ (aa_ hk),(h.row.cellAt k oq_).trans ?_,fun i=>h.row.frozenAt i⟩;rw [List.getElem?_map,List.getD_eq_getElem?_getD,List.getElem?_eq_getElem hk];rfl
theorem RowT.set {A:Nat->Prop} {L:List (Value × List Per)} {n:Nat} {y:Value × List Per} (h:RowT B A W (.slice (some ⟨g,0,none⟩) n c) L) (k:Nat) (hy:ab_ W (RowF B A (.slice (some ⟨g,0,none⟩) n c)) y.1 y.2) :
  RowT B A (W.setCell ⟨g,k,none⟩ y.1) (.slice (some ⟨g,0,none⟩) n c) (L.set k y):=by
 have hn:n=L.length:=by
  obtain ⟨_,_,e,_⟩:=h.form;cases e;rfl
 subst hn;have hg:W.grownBy (W.setCell ⟨g,k,none⟩ y.1) (some g):=World.grownBy.set' ⟨rfl,rfl,rfl,Nat.le_refl _,fun _ _ _=>rfl⟩ _;have key:∀ {u:Value} {t:List Per},ab_ W (RowF B A (.slice (some ⟨g,0,none⟩) L.length c)) u t->ab_ (W.setCell ⟨g,k,none⟩ y.1) (RowF B A (.slice (some ⟨g,0,none⟩) L.length c)) u t:=fun ht=>ht.keep (a5_.grown hg fun hf=>hf.2.2 rfl) hg.size;refine ⟨?_,fun x hx=>?_,h.ne,by rw [List.length_set];exact h.len⟩
 ·rw [List.length_set,List.map_set];exact (h.row.stored k y.1).1
 ·rcases List.mem_or_eq_of_mem_set hx with hx|rfl
  ·exact key (h.all x hx)
  ·exact key hy
theorem ab_.one {F:Nat->Prop} (h:ab_ W F v t):v.oneCell'=true:=by
 obtain ⟨L,_,hL⟩:=h;obtain ⟨a,c,rfl,_⟩:=hL.row.is;rfl
theorem ps_ (B:Nat) (A:Nat->Prop) (g n c jj:Nat) (L:List (Value × List Per)) (W:World) (h:RowT B A W (.slice (some ⟨g,0,none⟩) n c) L) (hj:jj<L.length) :
  Calls Tryz.prog 110 #[.slice (some ⟨g,0,none⟩) n c,.int .i64 jj,.int .i64 (jj+1)] W fun e w'=>e=.returned (.slice (some ⟨g,0,none⟩) (L.length-1) c)∧RowT B A w' (.slice (some ⟨g,0,none⟩) (L.length-1) c) (L.eraseIdx jj)∧W.grownBy w' (some g):=by
 have hn:n=L.length:=by
  obtain ⟨_,_,e,_⟩:=h.form;cases e;rfl
 subst hn;refine (po_ B g L.length c jj _ W h.row hj fun u hu=>?_).mono fun e w' ⟨h1,h2,h3⟩=>⟨h1,⟨?_,fun x hx=>?_,h.ne,?_⟩,h3⟩
 ·obtain ⟨x,hx,rfl⟩:=List.mem_map.1 hu;exact (h.all x hx).one
 ·have hl:(L.eraseIdx jj).length=L.length-1:=List.length_eraseIdx_of_lt hj;have hm:(L.eraseIdx jj).map Prod.fst=(L.map Prod.fst).take (jj*1) ++ (L.map Prod.fst).drop ((jj+1)*1):=by
   rw [List.eraseIdx_eq_take_drop_succ,List.map_append,List.map_take,List.map_drop,Nat.mul_one,Nat.mul_one]
  rw [hl,hm];exact h2
 ·exact (h.all x (List.mem_of_mem_eraseIdx hx)).keep (a5_.grown h3 fun hf=>hf.2.2 rfl) h3.size
 ·have:=h.len;have:=List.length_eraseIdx_of_lt hj;omega
theorem ab_.cellF {F:Nat->Prop} (h:ab_ W F v t):ab_ W (fun b=>F b∧j0_ W b) v t:=by
 obtain ⟨L,e,g⟩:=h;refine ⟨L,e,?_,g.len,fun x hx=>⟨(g.all x hx).is,(g.all x hx).fr,(g.all x hx).pe,fun e k hk=>⟨(g.all x hx).bh e k hk,(g.all x hx).is.hd.cellB e hk⟩,fun e k hk=>⟨(g.all x hx).bc e k hk,(g.all x hx).is.cy.cellB e hk⟩⟩⟩;obtain ⟨a,c,rfl,h1,h2,h3⟩:=g.row;refine ⟨a,c,rfl,h1,h2,?_⟩
 by_cases hL:L.length=0
 ·exact .inl hL
 ·rcases h3 with h3|⟨b,o,rfl,hb,hl,hc⟩
  ·exact .inl h3
  ·exact .inr ⟨b,o,rfl,⟨hb,jw_ (hc (0*4+0) _ (av_ oq_ rfl))⟩,hl,hc⟩
theorem RowT.grow {A:Nat->Prop} {L:List (Value × List Per)} (h:RowT B A W v L) (hg:W.grownBy W' row) (hr:∀ r,row=some r->∃ o:Obj,W.heap[r]? = some o∧o.isCells=false):RowT B A W' v L:=by
 refine ⟨h.row.kept hg ?_,fun x hx=>((h.all x hx).cellF.keep (fun b hb hl=>hg.block b hl ?_) hg.size).mono fun b hb=>hb.1,h.ne,h.len⟩
 ·rcases hob:v.ownBlock with _|g
  ·exact .inl rfl
  ·refine .inr fun e=>?_;obtain ⟨o,h1,h2⟩:=hr g e.symm;obtain ⟨_,⟨rfl,_⟩|⟨g',cap,cur,rfl,_,hh,_⟩⟩:=h.row
   ·simp [Value.ownBlock] at hob
   ·simp [Value.ownBlock] at hob;subst hob;rw [hh] at h1;cases h1;cases h2
 ·rintro e;obtain ⟨o,h1,h2⟩:=hr b e.symm;obtain ⟨o',h3,h4⟩:=hb.2;rw [h1] at h3;cases h3;rw [h2] at h4;cases h4
theorem RowT.mix {A:Nat->Prop} {L:List (Value × List Per)} (h:RowT B A W v L):MixL W (fun b=>B≤b) v L:=by
 refine ⟨?_,by have:=h.len;omega,fun x hx=>(h.all x hx).mono fun b hb=>hb.1⟩;obtain ⟨hl,⟨rfl,h2⟩|⟨g,cap,cur,rfl,hb,hg,h3,h4,h5,h6⟩⟩:=h.row
 ·rw [h2];exact ⟨none,0,rfl,oq_,oq_,.inl rfl⟩
 ·refine ⟨_,cap,rfl,h3,h4,.inr ⟨g,0,rfl,hb,(h.row.lt g rfl).2,fun i u hi=>?_⟩⟩;rw [Nat.zero_add];have:=(List.getElem?_eq_some_iff.1 hi).1;rw [List.length_map] at this;exact (h.row.cellAt i oq_).trans hi
theorem RowT.shut {C:Nat} {A:Nat->Prop} {L:List (Value × List Per)} (h:RowT B A W v L) (hs:qn_ C W W'):RowT B A W' v L:=by
 refine ⟨⟨h.row.1,?_⟩,fun x hx=>((h.all x hx).cellF.keep2 fun b hb _=>?_).mono fun b hb=>hb.1,h.ne,h.len⟩
 ·rcases h.row.2 with h2|⟨g,cap,cur,e,hb,hg,rest⟩
  ·exact .inl h2
  ·exact .inr ⟨g,cap,cur,e,hb,hs.cells _ _ hg rfl,rest⟩
 ·obtain ⟨o,h1,h2⟩:=hb.2;exact (hs.cells _ _ h1 h2).trans h1.symm
theorem p7_ (F G:Nat->Prop) (v tv:Value) (t u:List Per) (tb:Nat) (w:World) (hv:ab_ w F v t) (ht:ab_ w G tv u) (hc:w.cell? ⟨tb,0,none⟩=some tv) :
  Calls Tryz.prog 111 #[v,.pointer (some ⟨tb,0,none⟩)] w fun e w'=>e=.returned (.bool (cm_ t u))∧Below w.heap.size w w':=by
 have H:=mv_ F G v tv t u w hv ht;have hlt:=World.block_lt_of_cell? w _ hc;obtain ⟨a1,c1,rfl,_⟩:=hv.form;obtain ⟨a2,c2,rfl,_⟩:=ht.form;clear hv ht;generalize cm_ t u=b at H ⊢
 go_enter Tryz.func111,Tryz.ntmps111
 go_wp2_with (go_at_call 112;refine H.mono ?_;rintro e w1 ⟨rfl,hb1⟩)
 go_ret;exact ⟨rfl,xE⟩
theorem mt_ (F G:Nat->Prop) (ov:Value) (LO:List (Value × List Per)) (tv:Value) (u:List Per) (tb:Nat) (w:World) (hL:MixL w F ov LO) (ht:ab_ w G tv u) (hc:w.cell? ⟨tb,0,none⟩=some tv) :
  Calls Tryz.prog 57 #[ov,.func (.func 111) #[] #[.pointer (some ⟨tb,0,none⟩)]] w fun e w'=>∃ b,e=.returned (.bool b)∧(b=true↔u∈LO.map Prod.snd)∧Below w.heap.size w w':=by
 have h:=fo_ F ov LO (fun x=>cm_ x.2 u) 111 #[.pointer (some ⟨tb,0,none⟩)] (enters_of Tryz.func111 (by kernel_rfl) rfl) w hL.row hL.len (fun W x hW hx=>by
  have h:=p7_ F G x.1 tv x.2 u tb W ((hL.all x hx).ext hW) (ht.ext hW) (Ext.cell hW hc);have e:(#[x.1] ++ #[Value.pointer (some ⟨tb,0,none⟩)])=#[x.1,.pointer (some ⟨tb,0,none⟩)]:=by simp
  rw [e];exact h.mono fun e w' ⟨h1,h2⟩=>⟨h1,hW.trans (h2.mono hW.size)⟩)
 refine h.mono fun e w' ⟨h1,h2⟩=>⟨_,h1,?_,h2⟩;rw [List.any_eq_true,List.mem_map];constructor
 ·rintro ⟨x,hx,hs⟩;refine ⟨x,hx,?_⟩
  by_cases he:x.2=u
  ·exact he
  ·rw [cy_ he] at hs;cases hs
 ·rintro ⟨x,hx,he⟩;exact ⟨x,hx,eq_ he⟩
end Go.Proofs.YthjnojbeimchdaaGreat
end
