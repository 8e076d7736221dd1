/- Part 1 of the proof of the laws. -/
import Derived.Lib.SlicesCompact
import Derived.Shelf.Small.Bits
import Derived.Shelf.Small.Wraps
import Derived.Shelf.Strconv.Itoa0
import Derived.Shelf.Sort.Plain
import Derived.Shelf.Bits.Mul64
import Derived.Shelf.Slices.Equal
import Derived.Ground.Names2Prog
import Derived.Shelf.Slices.Clone
import Derived.Shelf.Slices.CompactI
import Derived.Shelf.Slices.SearchI
import Derived.Shelf.Slices.Cells
import Derived.Shelf.Slices.In.SortNone
import Derived.Shelf.Slices.Empties
import Derived.Shelf.Slices.Empties2
import Derived.Test.YtkclokcenllhmaaGreatProg
import Derived.WalkKit
import Derived.WalkSpells
import Derived.WalkLawsBesides
import Derived.Lib.Hide
import Derived.Deep.QuietTactic
import Derived.BigQuiet
import Derived.IntWalk
import Derived.Deep.RegionHeld3
import Derived.Deep.DeepFit
import Derived.Orders
import Derived.Tactics
import Derived.Below
import Derived.Maps.AppendAt
import Derived.OwnWalk
import Derived.BigFrame
import Derived.RangeFuncNested
import Derived.RangeFuncBound
import Derived.RangeFuncCalls
import Derived.RangeFuncLeaves
import Derived.RangeFuncFrom
import Derived.Shelf.Abstract
import Derived.Scope
import Derived.Sort.OwnSortedInts
import Derived.RangeFuncBox
import Derived.Deep.AppendLies
import Derived.OwnWalkIn
import Derived.TacticsInMore
import Derived.LoopNIn
import Derived.LoopIn
import Derived.Maps.OwnIn
import Derived.Maps.OwnRows
import Derived.Maps.Views
import Derived.Laws.EntriesVeiled
import Derived.Lib.AppendZerosOnto
import Derived.Test.YtkclokcenllhmaaGreatRows
import Derived.ProofKit
import Derived.OpenShut
import Derived.ShutString
import Derived.ChangeOld
import Derived.Lib.SmallJoins
set_option linter.unusedVariables false
set_option linter.unusedSimpArgs false
set_option maxRecDepth 100000
set_option maxHeartbeats 4000000
theorem oq_ {P:Prop} (h:P:=by omega):P:=h
theorem sq_ {P:Prop} (h:P:=by simp):P:=h
theorem rq_ {P:Prop} (h:P:=by rfl):P:=h
theorem dq_ {P:Prop} (h:P:=by decide):P:=h
theorem tq_ {P:Prop} (h:P:=by (simp;omega)):P:=h
theorem hq_ {P:Prop} (h:P):Go.RowKit.Hid P:=Go.Lib.hid h
namespace Kal
def Rise (lo hi:Int) (l:List Int):Prop:=l.Pairwise (· < ·)∧∀ x∈l,lo≤x∧x<hi
theorem Rise.nil {lo hi:Int}:Rise lo hi []:=⟨.nil,sq_⟩
theorem Rise.filter {a b:Int} {l:List Int} (hl:Rise a b l) (p:Int->Bool):Rise a b (l.filter p):=
 ⟨hl.1.filter p,fun x hx=>hl.2 x (List.mem_filter.1 hx).1⟩
theorem Rise.get_lt {a b:Int} {l:List Int} (hl:Rise a b l) {i j:Nat} (hij:i<j) (hj:j<l.length):l[i]' oq_<l[j]:=
 List.pairwise_iff_getElem.1 hl.1 i j oq_ hj hij
theorem Rise.get_bounds {a b:Int} {l:List Int} (hl:Rise a b l) {i:Nat} (hi:i<l.length):a≤l[i]∧l[i]<b:=hl.2 _ (List.getElem_mem hi)
theorem Rise.get_ge {a b:Int} {l:List Int} (hl:Rise a b l):∀ {i:Nat} (hi:i<l.length),a+i≤l[i]:=by
 intro i;induction i with
 | zero=>intro hi;have:=hl.get_bounds hi;simpa using this.1
 | succ i ih=>intro hi;have:=ih oq_;have:l[i]' oq_<l[i+1]:=hl.get_lt (Nat.lt_succ_self i) hi;omega
theorem Rise.length_le {a b:Int} {l:List Int} (hl:Rise a b l) (hab:a≤b):(l.length:Int)≤b-a:=by
 cases h:l.length with
 | zero=>simp;omega
 | succ n=>
  have:=hl.get_ge (i:=n) oq_;have:=hl.get_bounds (i:=n) oq_;push_cast;omega
structure Per where
 head:List Int
 frm:Int
 period:Int
 cycle:List Int
structure Per.WF (p:Per):Prop where
 frm:0≤p.frm
 per:1≤p.period
 head:Rise 0 p.frm p.head
 cyc:Rise 0 p.period p.cycle
def Per.mem (p:Per) (n:Int):Prop:=0≤n∧if n<p.frm then n∈p.head else (n-p.frm) % p.period∈p.cycle
instance (p:Per) (n:Int):Decidable (p.mem n):=by unfold Per.mem;infer_instance
theorem Per.mem_lo {p:Per} {n:Int} (h0:0≤n) (h:n<p.frm):p.mem n↔n∈p.head:=by unfold Per.mem;simp [h,h0]
theorem Per.mem_hi {p:Per} {n:Int} (h0:0≤n) (h:p.frm≤n):p.mem n↔(n-p.frm) % p.period∈p.cycle:=by
 unfold Per.mem;rw [if_neg oq_];simp [h0]
def EvP (S:Int->Prop) (d:Int):Prop:=∃ N,∀ n,N≤n->(S n↔S (n+d))
def xr_ (S:Int->Prop) (f d:Int):Prop:=∀ n,f≤n->(S n↔S (n+d))
theorem la_ (T x:Int) (hT:1≤T):∃ k:Nat,x≤(k:Int)*T∧0≤(k:Int)*T:=by
 refine ⟨x.toNat,?_⟩;generalize hq:((x.toNat:Nat):Int)=q;have hq0:0≤q:=oq_;have:q*1≤q*T:=Int.mul_le_mul_of_nonneg_left hT hq0;omega
structure jx_ (c:Per) (S:Int->Prop):Prop where
 wf:c.WF
 mem:∀ n,c.mem n↔S n
 minp:∀ d,1≤d->EvP S d->c.period≤d
 minf:∀ f,0≤f->xr_ S f c.period->c.frm≤f
theorem Per.WF.head_mem {p:Per} (h:p.WF) (x:Int):x∈p.head↔0≤x∧x<p.frm∧p.mem x:=by
 constructor
 ·intro hx;have hb:=h.head.2 x hx;exact ⟨hb.1,hb.2,(Per.mem_lo hb.1 hb.2).2 hx⟩
 ·rintro ⟨h0,h1,hm⟩;exact (Per.mem_lo h0 h1).1 hm
def blocks (B:List Int) (d b:Int):Nat->List Int
 | 0=>[]
 | t+1=>blocks B d b t ++ B.map (·+(b+t*d))
structure xt_ (p:Per) (d:Int) (B:List Int):Prop where
 pos:1≤d
 le:d≤p.period
 rise:Rise 0 d B
 ne:B≠[]
 mem:∀ n,p.frm≤n->(p.mem n↔(n-p.frm) % d∈B)
 minp:∀ e,1≤e->EvP p.mem e->d≤e
 ev:EvP p.mem d
 len:B.length≤p.cycle.length
theorem ii_ {x y:Int} (hx:0≤x) (hy:0<y):Int.gcd y (x % y)=Int.gcd x y:=by
 obtain ⟨a,rfl⟩:=Int.eq_ofNat_of_zero_le hx;obtain ⟨b,rfl⟩:=Int.eq_ofNat_of_zero_le (show 0≤y by omega);rw [show ((a:Int) % (b:Int))=((a % b:Nat):Int) from by simp];show Nat.gcd b (a % b)=Nat.gcd a b;rw [Nat.gcd_comm a b,Nat.gcd_rec b a,Nat.gcd_comm]
theorem gcd_zero {x:Int} (hx:0≤x):((Int.gcd x 0:Nat):Int)=x:=by simp;omega
theorem d4_ {a b:Int} (ha:1≤a):1≤((Int.gcd a b:Nat):Int)∧((Int.gcd a b:Nat):Int)≤a:=by
 have h1:=Int.gcd_pos_of_ne_zero_left (a:=a) b oq_;have h2:=Int.le_of_dvd oq_ (Int.gcd_dvd_left a b);omega
theorem ed_ {a b:Int} (hb:1≤b):((Int.gcd a b:Nat):Int)≤b:=Int.le_of_dvd oq_ (Int.gcd_dvd_right a b)
structure EE (a m x y s t:Int):Prop where
 x0:0≤x
 y0:0≤y
 xm:x≤m
 ym:y≤m
 dx:m∣x-s*a
 dy:m∣y-t*a
 g:Int.gcd x y=Int.gcd a m
 sb:-m≤s∧s≤m
 tb:-m≤t∧t≤m
 sz:(0≤s∧t≤0∧s*y-t*x=m)∨(s≤0∧0≤t∧t*x-s*y=m)
theorem EE.start {a m:Int} (ha:0≤a) (ham:a<m):EE a m a m 1 0:=
 ⟨ha,oq_,oq_,oq_,sq_,sq_,rfl,oq_,oq_,.inl ⟨oq_,oq_,sq_⟩⟩
theorem h4_ {t y m:Int} (ht:0≤t) (hy:1≤y) (h:t*y≤m):t≤m:=by
 have:=Int.mul_le_mul_of_nonneg_left hy ht;omega
theorem EE.step {a m x y s t:Int} (h:EE a m x y s t) (hy:0<y):EE a m y (x-x / y*y) t (s-x / y*t)∧(-(2*m)≤x / y*t∧x / y*t≤2*m)∧0≤x / y∧x / y≤m∧0≤x / y*y∧x / y*y≤m∧x-x / y*y=x % y∧x % y<y:=by
 have e:=Int.emod_add_ediv_mul x y;have h1:=Int.emod_nonneg x (show y≠0 by omega);have h2:=Int.emod_lt_of_pos x hy;have q0:0≤x / y:=Int.ediv_nonneg h.x0 oq_;have xm:=h.xm;have ym:=h.ym;have x0:=h.x0;have er:x-x / y*y=x % y:=oq_;have qm:x / y≤m:=h4_ q0 (y:=y) oq_ oq_;generalize hq:x / y=q at *;have qy0:0≤q*y:=Int.mul_nonneg q0 oq_;have hdy:m∣x-q*y-(s-q*t)*a:=by
  have:x-q*y-(s-q*t)*a=(x-s*a)-q*(y-t*a):=by
   rw [Int.sub_mul,Int.mul_sub,Int.mul_assoc];omega
  rw [this];exact Int.dvd_sub h.dx (Int.dvd_trans h.dy (Int.dvd_mul_left _ _))
 have hg:Int.gcd y (x-q*y)=Int.gcd a m:=by rw [er,ii_ x0 hy];exact h.g
 have hs:=h.sb;have ht:=h.tb;rcases h.sz with ⟨s0,t0,hz⟩|⟨s0,t0,hz⟩
 ·have hqt:q*t≤0:=Int.mul_nonpos_of_nonneg_of_nonpos q0 t0;have hz':(s-q*t)*y-t*(x-q*y)=m:=by
   rw [Int.sub_mul,Int.mul_sub,Int.mul_comm q y,<- Int.mul_assoc t y q,Int.mul_comm q t,Int.mul_assoc t q y,Int.mul_comm q y,<- Int.mul_assoc];omega
  have hp:0≤-(t*(x-q*y)):=by
   have:t*(x-q*y)≤0:=Int.mul_nonpos_of_nonpos_of_nonneg t0 oq_;omega
  have hb:s-q*t≤m:=h4_ (y:=y) oq_ oq_ oq_;exact ⟨⟨oq_,oq_,ym,oq_,h.dy,hdy,hg,ht,oq_,.inr ⟨t0,oq_,hz'⟩⟩,oq_,q0,qm,oq_,oq_,er,oq_⟩
 ·have hqt:0≤q*t:=Int.mul_nonneg q0 t0;have hz':t*(x-q*y)-(s-q*t)*y=m:=by
   rw [Int.sub_mul,Int.mul_sub,Int.mul_comm q y,<- Int.mul_assoc t y q,Int.mul_comm q t,Int.mul_assoc t q y,Int.mul_comm q y,<- Int.mul_assoc];omega
  have hp:0≤t*(x-q*y):=Int.mul_nonneg t0 oq_;have e3:(s-q*t)*y=-((q*t-s)*y):=by rw [<- Int.neg_mul];congr 1;omega
  have hb:q*t-s≤m:=h4_ (y:=y) oq_ oq_ oq_;exact ⟨⟨oq_,oq_,ym,oq_,h.dy,hdy,hg,ht,oq_,.inl ⟨t0,oq_,hz'⟩⟩,oq_,q0,qm,oq_,oq_,er,oq_⟩
def lm_ (a m v:Int):Prop:=0≤v∧v<m∧(a*v) % m=1 % m
theorem nk_ {a m x s t:Int} (h:EE a m x 0 s t) (hg:Int.gcd a m=1) (hm:1≤m):lm_ a m (s % m):=by
 refine ⟨Int.emod_nonneg _ oq_,Int.emod_lt_of_pos _ oq_,?_⟩;have hx:x=1:=by have:=gcd_zero h.x0;rw [h.g,hg] at this;omega
 have hd:=h.dx;rw [hx] at hd;rw [Int.mul_emod,Int.emod_emod,<- Int.mul_emod,Int.mul_comm];exact (Int.emod_eq_emod_iff_emod_sub_eq_zero.2 (Int.emod_eq_zero_of_dvd hd)).symm
theorem nb_ {m n:Int} (hm:1≤m) (hn:1≤n):Int.gcd (m / Int.gcd m n) (n / Int.gcd m n)=1:=by
 obtain ⟨a,rfl⟩:=Int.eq_ofNat_of_zero_le (show 0≤m by omega);obtain ⟨b,rfl⟩:=Int.eq_ofNat_of_zero_le (show 0≤n by omega);have h:0<Nat.gcd a b:=Nat.gcd_pos_of_pos_left _ oq_;show Nat.gcd ((a:Int) / (Nat.gcd a b:Nat)).natAbs ((b:Int) / (Nat.gcd a b:Nat)).natAbs=1;rw [show ((a:Int) / (Nat.gcd a b:Nat)).natAbs=a / Nat.gcd a b from rfl,show ((b:Int) / (Nat.gcd a b:Nat)).natAbs=b / Nat.gcd a b from rfl];exact Nat.gcd_div_gcd_div_gcd_of_pos_left oq_
theorem ih_ {a m:Int} (ha:0≤a) (hm:1≤m):Int.gcd (a % m) m=Int.gcd a m:=by
 rw [Int.gcd_comm,ii_ ha oq_]
def lcmI (m n:Int):Int:=m / Int.gcd m n*n
theorem lc_ {m n:Int}:m∣lcmI m n:=by
 unfold lcmI;obtain ⟨k,hk⟩:=Int.gcd_dvd_right m n;have h1:=Int.ediv_mul_cancel (Int.gcd_dvd_left m n);refine ⟨k,?_⟩;rw [show m / (Int.gcd m n:Int)*n=m / (Int.gcd m n:Int)*((Int.gcd m n:Int)*k) from by rw [<- hk],<- Int.mul_assoc,h1]
theorem k6_ {m n:Int}:n∣lcmI m n:=⟨m / Int.gcd m n,Int.mul_comm _ _⟩
theorem wq_ {m n:Int} (hm:1≤m) (hn:1≤n):lcmI m n=(Int.lcm m n:Nat):=by
 have h:=Int.gcd_mul_lcm m n;have hb:=d4_ (b:=n) hm;have h':((Int.gcd m n:Nat):Int)*(Int.lcm m n:Nat)=m*n:=by
  have:((m.gcd n*m.lcm n:Nat):Int)=((m.natAbs*n.natAbs:Nat):Int):=by rw [h]
  rw [Int.natCast_mul,Int.natCast_mul] at this;rw [this]
  congr 1 <;> omega
 have h1:=Int.ediv_mul_cancel (Int.gcd_dvd_left m n);unfold lcmI;have:((Int.gcd m n:Nat):Int)*(m / Int.gcd m n*n)=m*n:=by rw [<- Int.mul_assoc,Int.mul_comm _ (m / _),h1]
 exact Int.eq_of_mul_eq_mul_left (show ((Int.gcd m n:Nat):Int)≠0 by omega) (this.trans h'.symm)
theorem mg_ {m n x:Int} (hm:1≤m) (hn:1≤n) (h1:m∣x) (h2:n∣x):lcmI m n∣x:=by
 rw [wq_ hm hn];rw [<- Int.natAbs_dvd_natAbs] at h1 h2 ⊢;have:Int.lcm m n∣x.natAbs:=Int.lcm_dvd (by rw [<- Int.natAbs_dvd_natAbs];exact h1) (by rw [<- Int.natAbs_dvd_natAbs];exact h2);exact this
def ew_ (a m b n v:Int):Prop:=0≤v∧v<lcmI m n∧v % m=a % m∧v % n=b % n
noncomputable def my_ (a m b n:Int):Int:=Classical.epsilon fun v=>ew_ a m b n v
theorem hz_ {a m b n v x:Int} (hm:1≤m) (hn:1≤n) (h:ew_ a m b n v):(x % m=a % m∧x % n=b % n)↔x % lcmI m n=v:=by
 obtain ⟨h1,h2,h3,h4⟩:=h;constructor
 ·rintro ⟨e1,e2⟩;have d1:m∣x-v:=Int.dvd_of_emod_eq_zero (Int.emod_eq_emod_iff_emod_sub_eq_zero.1 (e1.trans h3.symm));have d2:n∣x-v:=Int.dvd_of_emod_eq_zero (Int.emod_eq_emod_iff_emod_sub_eq_zero.1 (e2.trans h4.symm));have:=Int.emod_eq_emod_iff_emod_sub_eq_zero.2 (Int.emod_eq_zero_of_dvd (mg_ hm hn d1 d2));rw [this,Int.emod_eq_of_lt h1 h2]
 ·intro e;have d:=Int.dvd_self_sub_emod (x:=x) (m:=lcmI m n);rw [e] at d;exact ⟨(Int.emod_eq_emod_iff_emod_sub_eq_zero.2 (Int.emod_eq_zero_of_dvd (Int.dvd_trans lc_ d))).trans h3,
   (Int.emod_eq_emod_iff_emod_sub_eq_zero.2 (Int.emod_eq_zero_of_dvd (Int.dvd_trans k6_ d))).trans h4⟩
theorem h7_ {a m b n v:Int} (hm:1≤m) (hn:1≤n) (h:ew_ a m b n v):my_ a m b n=v:=by
 have h':ew_ a m b n (my_ a m b n):=Classical.epsilon_spec ⟨v,h⟩;have:=(hz_ hm hn h).1 ⟨h'.2.2.1,h'.2.2.2⟩;rw [Int.emod_eq_of_lt h'.1 h'.2.1] at this;exact this
theorem ug_ {a m b n r s g k i:Int} (hm:1≤m) (hn:1≤n) (hr:r=a % m) (hs:s=b % n) (hg:g=(Int.gcd m n:Nat)) (hd:(s-r) % g=0)
  (hi:lm_ (m / g % (n / g)) (n / g) i) (hk:k=((s-r) / g % (n / g)*i) % (n / g)):ew_ a m b n (r+m*k):=by
 have hb:=d4_ (b:=n) hm;have hb2:=ed_ (a:=m) hn;rw [<- hg] at hb hb2;have dm:g∣m:=hg ▸ Int.gcd_dvd_left m n;have dn:g∣n:=hg ▸ Int.gcd_dvd_right m n;have em:=Int.ediv_mul_cancel dm;have en:=Int.ediv_mul_cancel dn;have es:=Int.ediv_mul_cancel (Int.dvd_of_emod_eq_zero hd);have hq:1≤n / g:=(Int.le_ediv_iff_mul_le oq_).2 oq_;have r0:=Int.emod_nonneg a (show m≠0 by omega);have r1:=Int.emod_lt_of_pos a (show 0<m by omega);have k0:0≤k:=hk ▸ Int.emod_nonneg _ oq_;have k1:k<n / g:=hk ▸ Int.emod_lt_of_pos _ oq_;rw [<- hr] at r0 r1;have hL:lcmI m n=m*(n / g):=by
  unfold lcmI;rw [<- hg];have:m / g*n=m / g*(n / g*g):=by rw [en]
  rw [this,Int.mul_comm (n / g) g,<- Int.mul_assoc,em]
 refine ⟨?_,?_,?_,?_⟩
 ·have:=Int.mul_nonneg (show 0≤m by omega) k0;omega
 ·have h1:m*(k+1)≤m*(n / g):=Int.mul_le_mul_of_nonneg_left oq_ oq_;rw [Int.mul_add] at h1;rw [hL];omega
 ·rw [Int.add_mul_emod_self_left,hr,Int.emod_emod]
 ·-- m k=(s-r) modulo n
  have h3:=hi.2.2;have e1:(m / g*k) % (n / g)=((s-r) / g) % (n / g):=by
   rw [hk,Int.mul_emod,Int.emod_emod,<- Int.mul_emod,<- Int.mul_assoc,Int.mul_comm (m / g),Int.mul_assoc,Int.mul_emod,Int.emod_emod];have e2:(m / g*i) % (n / g)=1 % (n / g):=by rw [<- h3,Int.mul_emod (m / g % (n / g)),Int.emod_emod,<- Int.mul_emod]
   rw [e2,<- Int.mul_emod,Int.mul_one]
  have d1:n / g∣m / g*k-(s-r) / g:=Int.dvd_of_emod_eq_zero (Int.emod_eq_emod_iff_emod_sub_eq_zero.1 e1);have d2:n∣m*k-(s-r):=by
   obtain ⟨c,hc⟩:=d1;refine ⟨c,?_⟩;have e4:m*k-(s-r)=(m / g*k-(s-r) / g)*g:=by
    rw [Int.sub_mul,es,Int.mul_assoc,Int.mul_comm k g,<- Int.mul_assoc,em]
   rw [e4,hc,Int.mul_assoc,Int.mul_comm c g,<- Int.mul_assoc,en]
  have e5:(r+m*k) % n=s % n:=Int.emod_eq_emod_iff_emod_sub_eq_zero.2 (Int.emod_eq_zero_of_dvd (by rw [show r+m*k-s=m*k-(s-r) from by omega];exact d2));rw [e5,hs,Int.emod_emod]
theorem q1_ {a m:Int} (ha:0≤a) (ham:a<m) (hg:Int.gcd a m=1):∃ v,lm_ a m v:=by
 have key:∀ n:Nat,∀ x y s t:Int,y.toNat=n->EE a m x y s t->∃ v,lm_ a m v:=by
  intro n;induction n using Nat.strongRecOn with
  | _ n ih=>
   intro x y s t hn h;by_cases hy:y=0
   ·subst hy;exact ⟨_,nk_ h hg oq_⟩
   ·have hy0:=h.y0;obtain ⟨h2,_,_,_,_,_,h7,h8⟩:=h.step (show 0<y by omega);exact ih _ oq_ _ _ _ _ rfl h2
 exact key _ _ _ _ _ rfl (EE.start ha ham)
def eAt (B:List Int) (d f:Int) (j:Nat):Int:=f-d*((j / B.length:Nat)+1)+B.getD (B.length-1-j % B.length) 0
def pat (B:List Int) (d f x:Int):Prop:=(x-f) % d∈B
theorem uc_ {B:List Int} {i:Nat} (h:i<B.length):B.getD i 0∈B:=by
 rw [List.getD_eq_getElem?_getD,List.getElem?_eq_getElem h];exact List.getElem_mem h
section
variable {B:List Int} {d f:Int} (hB:Rise 0 d B) (hk:1≤B.length)
include hB hk
end
def hiAt (B:List Int) (d f:Int) (j:Nat):Int:=if j=0 then f else eAt B d f (j-1)
structure Back (p:Per) (d:Int) (B:List Int) (j:Nat):Prop where
 le:j≤p.head.length
 hi0:0≤hiAt B d p.frm j
 hif:hiAt B d p.frm j≤p.frm
 same:∀ x,hiAt B d p.frm j≤x->(p.mem x↔pat B d p.frm x)
 low:∀ x,x∈p.head.take (p.head.length-j)↔x∈p.head∧x<hiAt B d p.frm j
section
variable {p:Per} {d:Int} {B:List Int} {j:Nat} (h:p.WF) (hS:xt_ p d B) (hb:Back p d B j)
include h hS hb
end
def upto (n:Nat):List Int:=(List.range n).map fun (i:Nat)=>(i:Int)
open Classical in
noncomputable def sel (S:Int->Prop) (lo hi:Int):List Int:=((upto hi.toNat).filter fun x=>decide (lo≤x∧S x))
theorem h1_ {x a y b:Int} (ha:1≤a) (hb:1≤b) (h:x % (Int.gcd a b:Nat)=y % (Int.gcd a b:Nat)):ew_ x a y b (my_ x a y b):=by
 have hg:=d4_ (b:=b) ha;have hg2:=ed_ (a:=a) hb;have hcop:=nb_ ha hb;obtain ⟨g,hgd⟩:∃ g,g=((Int.gcd a b:Nat):Int):=⟨_,rfl⟩;have dm:g∣a:=hgd ▸ Int.gcd_dvd_left a b;have dn:g∣b:=hgd ▸ Int.gcd_dvd_right a b;have hd:(y % b-x % a) % g=0:=by
  refine Int.emod_eq_emod_iff_emod_sub_eq_zero.1 ?_;rw [Int.emod_emod_of_dvd _ dn,Int.emod_emod_of_dvd _ dm,hgd,h]
 rw [<- hgd] at hg hg2 hcop;have q1:1≤b / g:=(Int.le_ediv_iff_mul_le oq_).2 oq_;have p1:0≤a / g:=Int.ediv_nonneg oq_ oq_;obtain ⟨i,hi⟩:=q1_ (Int.emod_nonneg (a / g) (show b / g≠0 by omega)) (Int.emod_lt_of_pos (a / g) (show 0<b / g by omega)) (by rw [ih_ p1 q1];exact hcop);have hs:=ug_ ha hb rfl rfl hgd hd hi rfl;rw [h7_ ha hb hs];exact hs
section
variable {xs ys:List Int} {a b st:Int} (ha:1≤a) (hb:1≤b) (hx:Rise 0 a xs) (hy:Rise 0 b ys)
include ha hb hx hy
end
def EnS (S:Int->Prop) (lo:Int) (pre:List Int):Prop:=∃ n,pre=sel S lo n
def BdS (pre:List Int):Prop:=∀ x∈pre,x<4503599627370496
section
variable {qa qb:Per} {S T:Int->Prop} (ha:jx_ qa S) (hb:jx_ qb T) {st:Int} (hs1:qa.frm≤st) (hs2:qb.frm≤st) {xs ys:List Int}
 (hx:Rise 0 qa.period xs) (hy:Rise 0 qb.period ys) (hxm:∀ y,y∈xs↔0≤y∧y<qa.period∧qa.mem (st+y)) (hym:∀ y,y∈ys↔0≤y∧y<qb.period∧qb.mem (st+y))
include ha hb hs1 hs2 hx hy hxm hym
end
end Kal
namespace Kal
open Go.Lib
end Kal
namespace Kal
abbrev ev (m n:Int):Per:=⟨[],0,n,[m]⟩
abbrev far:Per:=⟨[],0,549755813888,[5]⟩
def farS (n:Int):Prop:=(0≤n∧n % 549755813888=5)∧0≤n∧n % 3=2
end Kal
section
variable {l:List Int}{cs:List Go.Value}{B cap k:Nat}{o:Go.Oper}{row:Option Nat}{v:Go.Value}{A C W W' w w' w1:Go.World}
namespace Go.Proofs
open Go.Shelf
def Tryz.lays264_ren:Go.Shelf.Ren:=⟨fun|264=>275|n=>n,fun|53=>209|46=>149|n=>n,fun|n=>n⟩
theorem Tryz.lays264:Go.Proofs.Lays.n264 Tryz.prog Tryz.lays264_ren:={
 mixed:=by kernel_rfl
 f264:=Tryz.func275.trans (congrArg some (by kernel_rfl))
 t46:=Tryz.underlying149
 a46:=Tryz.isAgg149
 z46:=Tryz.sizeOf149
 v46:=Tryz.zeroValue149
 t53:=Tryz.underlying209
 a53:=Tryz.isAgg209
 z53:=Tryz.sizeOf209
 v53:=Tryz.zeroValue209 }
open Go.RowKit Go.Lib in
theorem Tryz.bits_Mul64 (x y:Nat) (hx:x<18446744073709551616) (hy:y<18446744073709551616) (w:World) :
  Calls Tryz.prog 275 #[.int .u64 x,.int .u64 y] w fun e w'=>e=.returned (.tuple #[.int .u64 ((x*y / 18446744073709551616:Nat):Int),.int .u64 ((x*y % 18446744073709551616:Nat):Int)])∧w'=w:=Any.bits_Mul64 Tryz.lays264 x y hx hy w
def Tryz.laysNm215_ren:Go.Shelf.Ren:=⟨fun|15=>112|n=>n,fun|22=>36|3=>3|4=>4|n=>n,fun|n=>n⟩
theorem Tryz.laysNm215:Go.Proofs.Lays2.n15 Tryz.prog Tryz.laysNm215_ren:={
 mixed:=by kernel_rfl
 f15:=Tryz.func112.trans (congrArg some (by kernel_rfl))
 t3:=Tryz.underlying3
 a3:=Tryz.isAgg3
 z3:=Tryz.sizeOf3
 v3:=Tryz.zeroValue3
 t4:=Tryz.underlying4
 a4:=Tryz.isAgg4
 z4:=Tryz.sizeOf4
 v4:=Tryz.zeroValue4
 t22:=Tryz.underlying36
 a22:=Tryz.isAgg36
 z22:=Tryz.sizeOf36
 v22:=Tryz.zeroValue36
 i3:=by kernel_rfl }
open Go.RowKit Go.Lib in
theorem Tryz.slices_Clone_int (b off n c:Nat) (zs:List Int) (w:World) (hz:n≤zs.length) (hbig:n*8≤140737488355328) (hc:∀ j,j<zs.length->w.cell? ⟨b,off+j,none⟩=some (.int .i64 (zs.getD j 0))) :
  Calls Tryz.prog 112 #[.slice (some ⟨b,off,none⟩) n c] w fun e w'=>∃ v',e=.returned v'∧w'.ownsRow w.heap.size 3 1 v' n ((zs.take n).map (Value.int .i64))∧v'≠.slice none 0 0∧Below w.heap.size w w':=Any.slices_Clone_int Tryz.laysNm215 b off n c zs w hz hbig hc
open Go.RowKit Go.Lib in
theorem Tryz.slices_Clone_int_nil (n c:Nat) (w:World) :
  Calls Tryz.prog 112 #[.slice none n c] w fun e w'=>e=.returned (.slice none 0 0)∧w'=w:=Any.slices_Clone_int_nil Tryz.laysNm215 n c w
open Go.RowKit Go.Lib in
theorem Tryz.slices_Clone_int_zero (a:Addr) (c:Nat) (w:World) :
  Calls Tryz.prog 112 #[.slice (some a) 0 c] w fun e w'=>∃ v',e=.returned v'∧w'.ownsRow w.heap.size 3 1 v' 0 []∧v'≠.slice none 0 0∧Below w.heap.size w w':=Any.slices_Clone_int_zero Tryz.laysNm215 a c w
def Tryz.laysNm225_ren:Go.Shelf.Ren:=⟨fun|25=>269|31=>308|32=>309|37=>102|n=>n,fun|22=>36|3=>3|4=>4|40=>149|0=>0|n=>n,fun|n=>n⟩
theorem Tryz.laysNm225:Go.Proofs.Lays2.n25 Tryz.prog Tryz.laysNm225_ren:={
 mixed:=by kernel_rfl
 f25:=Tryz.func269.trans (congrArg some (by kernel_rfl))
 f31:=Tryz.func308.trans (congrArg some (by kernel_rfl))
 f32:=Tryz.func309.trans (congrArg some (by kernel_rfl))
 f37:=Tryz.func102.trans (congrArg some (by kernel_rfl))
 t0:=Tryz.underlying0
 a0:=Tryz.isAgg0
 z0:=Tryz.sizeOf0
 v0:=Tryz.zeroValue0
 t3:=Tryz.underlying3
 a3:=Tryz.isAgg3
 z3:=Tryz.sizeOf3
 v3:=Tryz.zeroValue3
 t4:=Tryz.underlying4
 a4:=Tryz.isAgg4
 z4:=Tryz.sizeOf4
 v4:=Tryz.zeroValue4
 t22:=Tryz.underlying36
 a22:=Tryz.isAgg36
 z22:=Tryz.sizeOf36
 v22:=Tryz.zeroValue36
 t40:=Tryz.underlying149
 a40:=Tryz.isAgg149
 z40:=Tryz.sizeOf149
 v40:=Tryz.zeroValue149 }
open Go.RowKit Go.Lib in
theorem Tryz.slices_BinarySearch_int (b off n c:Nat) (zs:List Int) (x:Int) (w:World) (hz:n≤zs.length) (hbig:n<4611686018427387904) (hc:∀ j,j<zs.length->w.cell? ⟨b,off+j,none⟩=some (.int .i64 (zs.getD j 0))) (hs:(zs.take n).Pairwise (·≤·)) :
  Calls Tryz.prog 269 #[.slice (some ⟨b,off,none⟩) n c,.int .i64 x] w fun e w'=>e=.returned (.tuple #[.int .i64 ((zs.take n).countP (·<x):Nat),.bool ((zs.take n).contains x)])∧∃ q,w'=w.drewN q:=Any.slices_BinarySearch_int Tryz.laysNm225 b off n c zs x w hz hbig hc hs
open Go.RowKit Go.Lib in
theorem Tryz.slices_BinarySearch_int_empty (a:Option Addr) (c:Nat) (x:Int) (w:World) :
  Calls Tryz.prog 269 #[.slice a 0 c,.int .i64 x] w fun e w'=>e=.returned (.tuple #[.int .i64 0,.bool false])∧w'=w:=Any.slices_BinarySearch_int_empty Tryz.laysNm225 a c x w
end Go.Proofs
namespace Go.Proofs.YtkclokcenllhmaaGreat
open Go.RowKit Kal
theorem Er (w:World):Below w.heap.size w w:=Below.refl _ _
theorem Ea (h:Below w.heap.size w W) (o:Obj):Below w.heap.size w (W.alloc o):=h.alloc h.size o
theorem Ed (h:Below w.heap.size w W):Below w.heap.size w W.drew:=h.drew
theorem Below.drewN (h:Below B w W) (n:Nat):Below B w (W.drewN n):=⟨h.os,h.tape,h.output,h.size,h.block⟩
theorem En (h:Below w.heap.size w W) (n:Nat):Below w.heap.size w (W.drewN n):=Below.drewN h n
theorem Es (h:Below w.heap.size w W) {a:Addr} (ha:w.heap.size≤a.block) (v:Value):Below w.heap.size w (W.setCell a v):=h.setCell ha v
theorem Et (h:Below w.heap.size w W) (h':Below W.heap.size W W'):Below w.heap.size w W':=h.trans (h'.mono h.size)
theorem xE (h:Below B w W:=by (repeat' (with_reducible first|assumption|apply Er|apply Ea|apply Ed|apply En|(refine Es ?_ (by first|(simp;done)|(simp;omega)|omega) _)|refine Et ?_ (by assumption)))):Below B w W:=h
theorem Ext.cell (h:Below w.heap.size w W) {a:Addr} (hc:w.cell? a=some v):W.cell? a=some v:=(h.cell (World.block_lt_of_cell? w _ hc)).trans hc
theorem a2_ {a:Addr} (h:w.cell? a=some v) (o:Obj):(w.alloc o).cell? a=some v:=Ext.cell (Ea (Er w) o) h
theorem Below.cell' (h:Below B w w') {b o:Nat} (hc:w.cell? ⟨b,o,none⟩=some v) (hb:b<B):w'.cell? ⟨b,o,none⟩=some v:=(h.cell (p:=⟨b,o,none⟩) hb).trans hc
theorem Ext.frozen (h:Below w.heap.size w W) {a:Addr} (hc:w.cell? a=some v):W.frozen? a=w.frozen? a:=h.frozen (World.block_lt_of_cell? w _ hc)
theorem hj_ (hb:Below B W w1):(∀ b o,b<B->w1.cell? ⟨b,o,none⟩=W.cell? ⟨b,o,none⟩)∧(∀ b o,b<B->w1.frozen? ⟨b,o,none⟩=W.frozen? ⟨b,o,none⟩):=
 ⟨fun b o h=>hb.cell (p:=⟨b,o,none⟩) h,fun b o h=>hb.frozen (p:=⟨b,o,none⟩) h⟩
def InI (x:Int):Prop:=-9223372036854775808≤x∧x≤9223372036854775807
structure Ints (w:World) (v:Value) (l:List Int):Prop where
 is:∃ a c,v=.slice a l.length c∧l.length≤c∧c≤9223372036854775807∧(l=[]∨∃ b o,a=some ⟨b,o,none⟩∧∀ i,i<l.length->w.cell? ⟨b,o+i,none⟩=some (.int .i64 (l.getD i 0)))
 len:l.length≤17592186044416
 rng:∀ x∈l,InI x
theorem Ints.ext (h:Ints w v l) (hb:Below w.heap.size w W):Ints W v l:=by
 obtain ⟨⟨a,c,rfl,h1,h2,h3⟩,h4,h5⟩:=h;refine ⟨⟨a,c,rfl,h1,h2,h3.imp id ?_⟩,h4,h5⟩;rintro ⟨b,o,rfl,hc⟩;exact ⟨b,o,rfl,fun i hi=>Ext.cell hb (hc i hi)⟩
structure cd_ (w:World) (h c:Value) (p:Per):Prop where
 hd:Ints w h p.head
 cy:Ints w c p.cycle
theorem cd_.ext {h c:Value} {p:Per} (hp:cd_ w h c p) (hb:Below w.heap.size w W):cd_ W h c p:=⟨hp.hd.ext hb,hp.cy.ext hb⟩
theorem dw_ {k:IntKind} {a b:Int} (h:a=b):Ending.returned (.int k a)=.returned (.int k b):=by rw [h]
theorem a1_ {a b:Bool} (h:a=b):Ending.returned (.bool a)=.returned (.bool b):=by rw [h]
theorem vg_ (n m:Int) (hm:1≤m):(n.tmod m<0->n.tmod m+m=n % m)∧(0≤n.tmod m->n.tmod m=n % m)∧-m<n.tmod m∧n.tmod m<m:=by
 have h0:=Int.emod_nonneg n (show m≠0 by omega);have h1:=Int.emod_lt_of_pos n (show 0<m by omega);rw [Int.tmod_eq_emod]
 split
 ·omega
 ·rw [show (m.natAbs:Int)=m from by omega];rename_i h;have h2:n % m≠0:=fun h3=>h (.inr (Int.dvd_of_emod_eq_zero h3));omega
theorem drop_cons (h:k<l.length):l.drop k=l.getD k 0 :: l.drop (k+1):=by
 rw [List.drop_eq_getElem_cons h];simp [h]
theorem qc_ {P:Program} {f:FuncId} {args:Array Value} {n:Nat}
  (h:Calls P f args (w.drewN n) fun e w'=>e=.returned v∧w.drewN n=w'):Calls P f args (w.drewN n) fun e w''=>e=.returned v∧∃ m,w''=w.drewN m:=
 h.mono fun _ _ ⟨he,hm⟩=>⟨he,n,hm.symm⟩
theorem ks_ {P:Program} {f:FuncId} {args:Array Value} {a n:Nat}
  (h:Calls P f args (w.drewN (a+n)) fun e w'=>e=.returned v∧∃ m,w'=(w.drewN (a+n)).drewN m) :
  Calls P f args (w.drewN (a+n)) fun e w''=>e=.returned v∧∃ m,w''=w.drewN (a+m):=
 h.mono fun _ _ ⟨he,m,hm⟩=>⟨he,n+m,by rw [hm,World.drewN_drewN,Nat.add_assoc]⟩
theorem kb_ {P:Program} {f:FuncId} {args:Array Value} {a n:Nat}
  (h:Calls P f args (w.drewN (a+n)) fun e w'=>e=.returned v∧w.drewN (a+n)=w') :
  Calls P f args (w.drewN (a+n)) fun e w''=>e=.returned v∧∃ m,w''=w.drewN (a+m):=
 h.mono fun _ _ ⟨he,hm⟩=>⟨he,n,hm.symm⟩
def ao_:Int->Int->List Int->Bool
 | _,_,[]=>true
 | last,lim,n :: l=>if n≤last∨lim≤n then false else ao_ n lim l
theorem nv_ (last lim:Int) (l:List Int):ao_ last lim l=true↔Rise (last+1) lim l:=by
 induction l generalizing last with
 | nil=>simp [ao_,Rise.nil]
 | cons n l ih=>
  rw [ao_]
  split
  ·rename_i h;simp only [Bool.false_eq_true,false_iff];intro hr;have:=hr.2 n sq_;omega
  ·rename_i h;rw [ih];constructor
   ·intro hr;refine ⟨List.pairwise_cons.2 ⟨fun x hx=>by have:=hr.2 x hx;omega,hr.1⟩,fun x hx=>?_⟩;rcases List.mem_cons.1 hx with rfl|hx
    ·omega
    ·have:=hr.2 x hx;omega
   ·intro hr;have hp:=List.pairwise_cons.1 hr.1;exact ⟨hp.2,fun x hx=>⟨by have:=hp.1 x hx;omega,(hr.2 x (List.mem_cons_of_mem _ hx)).2⟩⟩
theorem jr_ (v:Value) (l:List Int) (lim:Int) (w:World) (hv:Ints w v l) :
  Calls Tryz.prog 225 #[v,.int .i64 lim] w fun e w'=>e=.returned (.bool (ao_ (-1) lim l))∧w=w':=by
 obtain ⟨⟨a,c,rfl,hlc,hc,hcells⟩,hlen,hb⟩:=hv
 go_enter Tryz.func225,Tryz.ntmps225
 go_wp2
 go_loop [5,7,10] (fun last n i=>∃ k:Nat,k≤l.length∧i=.int .i64 k∧∃ x y:Int,last=.int .i64 x∧ao_ (-1) lim l=ao_ x lim (l.drop k)∧True) (fun _ _ i=>l.length-(intOf i).toNat)
 case atStart=>exact ⟨0,oq_,rfl,-1,0,rfl,sq_,trivial⟩
 case round=>
  obtain ⟨k,hk,rfl,x,y,rfl,hr,_⟩:=hrel;have HR:=hq_ hr;clear hr;by_cases hlt:k<l.length
  ·rcases hcells with h|⟨b,o,rfl,hcell⟩
   ·subst h;simp at hlt
   have hc1:=hcell k hlt;have hd:=hq_ (drop_cons hlt);have hm:=hb (l.getD k 0) (by simp [hlt]);unfold InI at hm;generalize l.getD k 0=z at *;clear hcell hb;by_cases hz:z≤x∨lim≤z
   ·have hf:ao_ (-1) lim l=false:=by rw [HR.out,hd.out,ao_,if_pos hz]
    have HF:=hq_ hf;clear hf;go_wp2;all_goals (go_ret;exact ⟨a1_ HF.out.symm,rfl⟩)
   ·have hf:ao_ (-1) lim l=ao_ z lim (l.drop (k+1)):=by rw [HR.out,hd.out,ao_,if_neg hz]
    have HF:=hq_ hf;clear hf;have hz':x<z∧z<lim:=oq_;clear hz;go_wp2
    go_round
    case rel=>exact ⟨k+1,oq_,by go_num,z,0,rfl,HF.out,trivial⟩
    case measure=>simp [intOf];omega
  ·go_wp2;go_ret;exact ⟨a1_ (by rw [HR.out,List.drop_eq_nil_of_le oq_];rfl),rfl⟩
def validB (p:Per):Bool:=decide (0≤p.frm) && decide (p.frm≤1099511627776) && decide (1≤p.period) && decide (p.period≤1099511627776) && decide ((p.head.length+p.cycle.length:Int)≤1048576) && ao_ (-1) p.frm p.head && ao_ (-1) p.period p.cycle
structure Valid (p:Per):Prop where
 wf:p.WF
 frm:p.frm≤1099511627776
 per:p.period≤1099511627776
 len:p.head.length+p.cycle.length≤1048576
theorem be_ (p:Per):validB p=true↔Valid p:=by
 unfold validB;simp only [Bool.and_eq_true,decide_eq_true_eq,nv_];constructor
 ·rintro ⟨⟨⟨⟨⟨⟨h1,h2⟩,h3⟩,h4⟩,h5⟩,h6⟩,h7⟩;exact ⟨⟨h1,h3,h6,h7⟩,h2,h4,oq_⟩
 ·rintro ⟨⟨h1,h3,h6,h7⟩,h2,h4,h5⟩;exact ⟨⟨⟨⟨⟨⟨h1,h2⟩,h3⟩,h4⟩,oq_⟩,h6⟩,h7⟩
theorem f3_ (h c:Value) (p:Per) (w:World) (hp:cd_ w h c p) :
  Calls Tryz.prog 179 #[.agg #[h,.int .i64 p.frm,.int .i64 p.period,c]] w fun e w'=>e=.returned (.bool (validB p))∧Below w.heap.size w w':=by
 have hh':=fun o=>(hp.hd.ext (Ea (Er w) o));have hc':=fun o=>(hp.cy.ext (Ea (Er w) o));obtain ⟨⟨⟨ha,hcap,rfl,hh1,hh2,hh3⟩,hh4,_⟩,⟨ca,ccap,rfl,hc1,hc2,hc3⟩,hc4,_⟩:=hp;obtain ⟨head,frm,period,cycle⟩:=p;dsimp only at *;clear hh3 hc3
 go_enter Tryz.func179,Tryz.ntmps179
 go_wp2_with (go_at_call 225;first|((with_reducible refine (jr_ _ head _ _ (hh' _)).mono ?_);rintro e w' ⟨rfl,rfl⟩)|((with_reducible refine (jr_ _ cycle _ _ (hc' _)).mono ?_);rintro e w' ⟨rfl,rfl⟩))
 all_goals (go_ret;refine ⟨a1_ ?_,(Below.refl _ _).alloc (Nat.le_refl _) _⟩;simp [validB, *])
 all_goals omega
theorem jt_ (v:Value) (l:List Int) (x:Int) (w:World) (hv:Ints w v l) (hs:l.Pairwise (· < ·)) :
  Calls Tryz.prog 269 #[v,.int .i64 x] w fun e w'=>e=.returned (.tuple #[.int .i64 ((l.countP (fun y=>decide (y<x)):Nat):Int),.bool (decide (x∈l))])∧∃ n,w'=w.drewN n:=by
 obtain ⟨⟨a,c,rfl,h1,h2,h3⟩,h4,h5⟩:=hv;rcases h3 with h3|⟨b,o,rfl,hcell⟩
 ·subst h3;exact (Tryz.slices_BinarySearch_int_empty a c x w).mono fun e w' ⟨he,hw⟩=>⟨by rw [he];simp,0,hw⟩
 ·have:=Tryz.slices_BinarySearch_int b o l.length c l x w (Nat.le_refl _) oq_ hcell (by rw [List.take_length];exact hs.imp fun h=>oq_);rw [List.take_length] at this;exact this.mono fun e w' ⟨he,hw⟩=>⟨by rw [he];simp,hw⟩
abbrev perV (h c:Value) (f p:Int):Value:=.agg #[h,.int .i64 f,.int .i64 p,c]
def memB (p:Per) (n:Int):Bool:=if n<p.frm then decide (n∈p.head) else decide ((n-p.frm) % p.period∈p.cycle)
theorem mk_ {p:Per} {n:Int} (hn:0≤n):memB p n=true↔p.mem n:=by
 unfold memB Per.mem
 split <;> simp [*]
theorem q7_ (h c:Value) (p:Per) (n:Int) (w:World) (hp:cd_ w h c p) (hw:p.WF) (h1:p.frm≤1125899906842624) (h2:p.period≤1125899906842624) (hn:0≤n) (hn2:n≤9223372036854775807) :
  Calls Tryz.prog 288 #[.agg #[h,.int .i64 p.frm,.int .i64 p.period,c],.int .i64 n] w fun e w'=>e=.returned (.bool (memB p n))∧Below w.heap.size w w':=by
 have f0:=hw.frm;have p0:=hw.per;have hs1:=hw.head.1;have hs2:=hw.cyc.1;have hl:∀ W,Below w.heap.size w W->Ints W h p.head:=fun W hb=>hp.hd.ext hb;have hc:∀ W,Below w.heap.size w W->Ints W c p.cycle:=fun W hb=>hp.cy.ext hb;obtain ⟨head,frm,period,cycle⟩:=p;dsimp only at *;clear hp;by_cases hlt:n<frm
 ·have hm:memB ⟨head,frm,period,cycle⟩ n=decide (n∈head):=by unfold memB;rw [if_pos hlt]
  have HM:=hq_ hm;clear hm
  go_enter Tryz.func288,Tryz.ntmps288
  go_wp2_with (go_at_call 269;(refine (jt_ _ head _ _ (hl _ xE) hs1).mono ?_);rintro e w' ⟨rfl,nq,rfl⟩)
  go_ret;exact ⟨a1_ HM.out.symm,xE⟩
 ·have hm:memB ⟨head,frm,period,cycle⟩ n=decide ((n-frm) % period∈cycle):=by unfold memB;rw [if_neg hlt]
  have HM:=hq_ hm;clear hm;have hge:frm≤n:=oq_;clear hlt
  go_enter Tryz.func288,Tryz.ntmps288
  go_wp2_with fail
  go_quiet (fail)
  go_wp2_with (go_at_call 269;(refine (jt_ _ cycle _ _ (hc _ xE) hs2).mono ?_);rintro e w' ⟨rfl,nq,rfl⟩)
  go_ret;exact ⟨a1_ HM.out.symm,xE⟩
theorem wl_ (h c:Value) (p:Per) (n:Int) (w:World) (hp:cd_ w h c p) (hn:InI n) :
  Calls Tryz.prog 255 #[.agg #[h,.int .i64 p.frm,.int .i64 p.period,c],.int .i64 n] w fun e w'=>e=.returned (.bool (validB p && decide (0≤n) && memB p n))∧Below w.heap.size w w':=by
 have hl:∀ W,Below w.heap.size w W->cd_ W h c p:=fun W hb=>hp.ext hb;clear hp;unfold InI at hn;by_cases hv:validB p=true
 ·have hV:=(be_ p).1 hv;have HV:=hq_ hV;clear hV;by_cases h0:0≤n
  ·skip
   go_enter Tryz.func255,Tryz.ntmps255
   go_wp2_with (first|(go_at_call 179;refine (f3_ h c p _ (hl _ xE)).mono ?_;rintro e w1 ⟨rfl,hb1⟩;obtain ⟨hc1,hf1⟩:=hj_ hb1)|(go_at_call 288;refine (q7_ h c p n _ (hl _ xE) HV.out.wf (by have:=HV.out.frm;omega) (by have:=HV.out.per;omega) h0 oq_).mono ?_;rintro e w2 ⟨rfl,hb2⟩))
   go_ret;exact ⟨a1_ (by simp [hv,h0]),xE⟩
  ·have h0':decide (0≤n)=false:=by simpa using h0
   go_enter Tryz.func255,Tryz.ntmps255
   go_wp2_with (go_at_call 179;refine (f3_ h c p _ (hl _ xE)).mono ?_;rintro e w1 ⟨rfl,hb1⟩;obtain ⟨hc1,hf1⟩:=hj_ hb1)
   go_ret;exact ⟨a1_ (by simp [h0']),xE⟩
 ·have hv':validB p=false:=by simpa using hv
  clear hv
  go_enter Tryz.func255,Tryz.ntmps255
  go_wp2_with (go_at_call 179;refine (f3_ h c p _ (hl _ xE)).mono ?_;rintro e w1 ⟨rfl,hb1⟩;obtain ⟨hc1,hf1⟩:=hj_ hb1)
  go_ret;exact ⟨a1_ (by simp [hv']),xE⟩
theorem ld_ (n:Int) (w:World) (h0:0≤n) (h1:n≤9223372036854775807) :
  Calls Tryz.prog 274 #[.int .i64 n] w fun e w'=>e=.returned (.int .u64 n)∧w=w':=by
 go_enter Tryz.func274,Tryz.ntmps274
 go_wp2;go_ret;exact ⟨sq_,rfl⟩
theorem op_ (a b:Int) (w:World) (ha:1≤a) (ha1:a≤9223372036854775807) (hb:1≤b) (hb1:b≤9223372036854775807) :
  Calls Tryz.prog 244 #[.int .i64 a,.int .i64 b] w fun e w'=>e=.returned (.int .i64 (Int.gcd a b:Nat))∧∃ n,w'=w.drewN n:=by
 have hg:=d4_ (b:=b) ha;have hg2:=ed_ (a:=a) hb;generalize hgd:((Int.gcd a b:Nat):Int)=g at *;have HG:=hq_ hgd;clear hgd
 go_enter Tryz.func244,Tryz.ntmps244
 go_wp2_with (go_at_call 274;refine (ld_ _ _ oq_ oq_).mono ?_;rintro e w' ⟨rfl,rfl⟩)
 go_loopw [5,6] (fun vx vy wr=>∃ x y:Int,vx=.int .u64 x∧vy=.int .u64 y∧0≤x∧x≤9223372036854775807∧0≤y∧y≤9223372036854775807∧Int.gcd x y=Int.gcd a b∧∃ n,wr=w.drewN n) (fun _ vy _=>(intOf vy).toNat)
 case atStart=>exact ⟨a,b,rfl,rfl,oq_,ha1,oq_,hb1,rfl,0,rfl⟩
 case round=>
  obtain ⟨x,y,rfl,rfl,hx0,hx1,hy0,hy1,hgxy,n,rfl⟩:=hrel;have HX:=hq_ hgxy;clear hgxy;by_cases hz:y=0
  ·subst hz;have hxg:x=g:=by have:=gcd_zero hx0;rw [HX.out,HG.out] at this;exact this.symm
   have HXG:=hq_ hxg;clear hxg;have hxb:¬ 9223372036854775807<x:=oq_;go_wp2_with fail
   go_ret;exact ⟨dw_ HXG.out,n,rfl⟩
  ·have hs:=ii_ hx0 (show 0<y by omega);rw [HX.out] at hs;have HS:=hq_ hs;clear hs;have hm0:=Int.emod_nonneg x (show y≠0 by omega);have hm1:=Int.emod_lt_of_pos x (show 0<y by omega);have hzb:(y != 0)=true:=by rw [bne_iff_ne];omega
   have hypos:0<y:=oq_;clear hz;go_wp2_with fail
   go_quiet (fail)
   go_wp2_with fail
   go_roundw
   case rel=>exact ⟨y,x % y,rfl,rfl,hy0,hy1,hm0,oq_,HS.out,_,World.drewN_drewN _ _ _⟩
   case measure=>simp [intOf];omega
theorem nt_ (lo y:Int) (w:World) (h0:0≤lo) (h1:lo≤18446744073709551615) (hy:1≤y) (hy1:y≤18446744073709551615) :
  Calls Tryz.prog 277 #[.int .u64 0,.int .u64 lo,.int .u64 y] w fun e w'=>e=.returned (.tuple #[.int .u64 (lo / y),.int .u64 (lo % y)])∧∃ n,w'=w.drewN n:=by
 have hyb:(y == 0)=false:=by rw [beq_eq_false_iff_ne];omega
 have hypos:0<y:=oq_;have hq0:0≤lo / y:=Int.ediv_nonneg h0 oq_;have hq1:lo / y≤lo:=Int.ediv_le_self _ h0
 go_enter Tryz.func277,Tryz.ntmps277
 go_wp2_with fail
 go_quiet (fail)
 go_wp2_with fail
 go_ret2;exact ⟨rfl,_,rfl⟩
end Go.Proofs.YtkclokcenllhmaaGreat
end
namespace Go
open Go.RowKit
def Region.deps (md:Region.Mode) (ops:Array Oper) (i:Nat):List Nat:=match ops[i]? with
 | some o=>(o.after.toList.filter fun e=>Region.binds md e).map fun e=>e.on
 | none=>[]
def Region.sat (md:Region.Mode) (ops:Array Oper):Nat->List Nat->List Nat
 | 0,S=>S
 | k+1,S=>Region.sat md ops k (S ++ ((S.flatMap (Region.deps md ops)).filter fun j=>!S.contains j))
def Region.chain (md:Region.Mode) (ops:Array Oper):Nat->List Nat->Bool
 | _,[]=>true
 | t,t' :: r=>(Region.deps md ops t').contains t && decide (t<t') && Region.chain md ops t' r
def Region.chk (md:Region.Mode) (ops:Array Oper) (ph tl:List Nat):Bool:=
 ((List.range ops.size).all fun i=>ph.contains i != tl.contains i) &&
 (ph.all fun i=>(match ops[i]? with|some o=>o.guard.isNone|none=>false) && (Region.deps md ops i).all fun j=>ph.contains j) &&
 ((List.range ops.size).all fun i=>(Region.deps md ops i).all fun j=>decide (j<i)) &&
 (tl.all fun i=>decide (i<ops.size)) &&
 (match tl with|[]=>true|t :: r=>(ph.all fun j=>(Region.sat md ops ops.size (Region.deps md ops t)).contains j) && Region.chain md ops t r)
section
variable {P:Program} {ops:Array Oper} {Q:Exit->Act->World->Prop} {md:Region.Mode}
theorem Region.ready_spec {l:Array Bool} (i:Nat):i∈Region.ready md ops l↔i<ops.size∧l.getD i true=false∧∀ j∈Region.deps md ops i,l.getD j false=true:=by
 unfold Region.ready Region.deps;rw [List.mem_filter,List.mem_range];constructor
 ·rintro ⟨h1,h2⟩;rw [Array.getElem?_eq_getElem h1] at h2 ⊢;simp only [Option.map_some,Option.getD_some,Bool.and_eq_true,Bool.not_eq_true',Array.all_eq_true] at h2;refine ⟨h1,h2.1,fun j hj=>?_⟩;simp only [List.mem_map,List.mem_filter] at hj;obtain ⟨e,⟨he,hb⟩,rfl⟩:=hj;obtain ⟨k,hk,rfl⟩:=List.getElem_of_mem he;have:=h2.2 k (by simpa using hk);simp only [Array.getElem_toList] at hb;simpa [hb] using this
 ·rintro ⟨h1,h2,h3⟩;refine ⟨h1,?_⟩;rw [Array.getElem?_eq_getElem h1] at h3 ⊢;simp only [Option.map_some,Option.getD_some,Bool.and_eq_true,Bool.not_eq_true',Array.all_eq_true];refine ⟨h2,fun k hk=>?_⟩;by_cases hb:Region.binds md (ops[i].after[k])=true
  ·have:=h3 (ops[i].after[k]).on (by
    simp only [List.mem_map,List.mem_filter];exact ⟨_,⟨sq_,hb⟩,rfl⟩)
   simp [this]
  ·simp [hb]
theorem b7_ {l:Array Bool} {i:Nat} (h:i<l.size):(l.setIfInBounds i true).getD i false=true:=by
 simp [Array.getD,h]
theorem aq_ {l:Array Bool} {i j:Nat} (h:i≠j):(l.setIfInBounds i true).getD j false=l.getD j false:=by
 simp only [Array.getD_eq_getD_getElem?,Array.getElem?_setIfInBounds_ne h]
theorem c0_ {l:Array Bool} {i:Nat} (h:i<l.size):l.getD i true=l.getD i false:=by
 simp [Array.getD,h]
theorem gd_ {l:Array Bool} (hd:∀ i,l.getD i false=true->∀ j∈Region.deps md ops i,l.getD j false=true) :
  ∀ k S,(∀ j∈S,l.getD j false=true)->∀ j∈Region.sat md ops k S,l.getD j false=true:=by
 intro k;induction k with
 | zero=>intro S h;exact h
 | succ k ih=>
  intro S h;refine ih _ fun j hj=>?_;rcases List.mem_append.1 hj with hj|hj
  ·exact h j hj
  ·obtain ⟨i,hi,hj'⟩:=List.mem_flatMap.1 (List.mem_filter.1 hj).1;exact hd i (h i hi) j hj'
theorem af_ {α:Type} [DecidableEq α]:∀ {l m:List α},l.Nodup->(∀ x∈l,x∈m)->l.length≤m.length:=by
 intro l;induction l with
 | nil=>intro m _ _;simp
 | cons a l ih=>
  intro m hn hs;have hn':=List.nodup_cons.1 hn;have ha:a∈m:=hs a sq_;have:=ih (m:=m.erase a) hn'.2 fun y hy=>(List.mem_erase_of_ne (fun e=>hn'.1 (by rw [<- e];exact hy))).2 (hs y (List.mem_cons_of_mem _ hy));rw [List.length_erase_of_mem ha] at this;have:0<m.length:=List.length_pos_of_mem ha;simp;omega
theorem en_ {t:Nat} {r:List Nat} (h:Region.chain md ops t r=true):∀ x∈r,t<x:=by
 induction r generalizing t with
 | nil=>intro x hx;simp at hx
 | cons t' r ih=>
  simp only [Region.chain,Bool.and_eq_true,decide_eq_true_eq] at h;intro x hx;rcases List.mem_cons.1 hx with rfl|hx
  ·exact h.1.2
  ·have:=ih h.2 x hx;omega
theorem dg_ {t:Nat} {r:List Nat} (h:Region.chain md ops t r=true):∀ x∈r,∃ y,y∈t :: r∧y<x∧y∈Region.deps md ops x:=by
 induction r generalizing t with
 | nil=>intro x hx;simp at hx
 | cons t' r ih=>
  simp only [Region.chain,Bool.and_eq_true,decide_eq_true_eq] at h;intro x hx;rcases List.mem_cons.1 hx with rfl|hx
  ·exact ⟨t,sq_,h.1.2,by simpa using h.1.1⟩
  ·obtain ⟨y,h1,h2,h3⟩:=ih h.2 x hx;exact ⟨y,List.mem_cons_of_mem _ h1,h2,h3⟩
theorem ei_ (hback:∀ i,i<ops.size->∀ j∈Region.deps md ops i,j<i):∀ (r:List Nat) (fuel:Nat) (l:Array Bool) (a:Act) (w:World),(∀ t r',r=t :: r'->Region.chain md ops t r'=true)->(∀ i∈r,i<ops.size)->r.length≤fuel->l.size=ops.size->
  (∀ j,j<ops.size->(l.getD j false=true↔j ∉ r))->wpList P ops Q (r.filterMap fun i=>ops[i]?) a w->wpAny P md ops Q fuel l a w:=by
 intro r;induction r with
 | nil=>
  intro fuel l a w _ _ _ hl hlist h;have hnil:Region.ready md ops l=[]:=by
   rw [List.eq_nil_iff_forall_not_mem];intro x hx;have hx':=(Region.ready_spec x).1 hx;rw [c0_ oq_,(hlist x hx'.1).2 sq_] at hx';simp at hx'
  have h':Q .normal a w:=h;cases fuel with
  | zero=>exact ⟨hnil,h'⟩
  | succ f=>exact ⟨fun _=>h',by rw [hnil];simp⟩
 | cons t r ih=>
  intro fuel l a w hch hlt hf hl hlist h;obtain ⟨f,rfl⟩:∃ f,fuel=f+1:=⟨fuel-1,by simp at hf;omega⟩;have hc:=hch t r rfl;have htn:t<ops.size:=hlt t sq_;have hsome:ops[t]? = some ops[t]:=Array.getElem?_eq_getElem htn;rw [List.filterMap_cons,hsome] at h;have hclt:=en_ hc;have htr:t ∉ r:=fun hx=>by have:=hclt t hx;omega
  have hin:t∈Region.ready md ops l:=by
   rw [Region.ready_spec];refine ⟨htn,?_,fun j hj=>(hlist j (by have:=hback t htn j hj;omega)).2 fun hx=>?_⟩
   ·rw [c0_ oq_];cases hx:l.getD t false with
    | true=>exact absurd (List.mem_cons_self) ((hlist t htn).1 hx)
    | false=>rfl
   ·have h1:=hback t htn j hj;rcases List.mem_cons.1 hx with rfl|hx
    ·omega
    ·have:=hclt j hx;omega
  refine ⟨fun hnil=>by rw [hnil] at hin;simp at hin,fun x hx=>?_⟩;have hx':=(Region.ready_spec x).1 hx;have hxr:x∈t :: r:=by
   by_cases hm:x∈t :: r
   ·exact hm
   ·rw [c0_ oq_,(hlist x hx'.1).2 hm] at hx';simp at hx'
  have hxt:x=t:=by
   rcases List.mem_cons.1 hxr with h1|h1
   ·exact h1
   ·exfalso;obtain ⟨y,h2,h3,h4⟩:=dg_ hc x h1;have h5:=hx'.2.2 y h4;exact (hlist y oq_).1 h5 h2
  subst hxt;unfold wpOp;rw [hsome];simp only;have key:∀ a w,wpList P ops Q (r.filterMap fun i=>ops[i]?) a w->wpAny P md ops Q f (l.setIfInBounds x true) a w:=fun a w h=>by
   refine ih f _ a w (fun t' r' e=>?_) (fun i hi=>hlt i (List.mem_cons_of_mem _ hi)) (by simp at hf;omega) (by simpa using hl) (fun j hj=>?_) h
   ·subst e;simp only [Region.chain,Bool.and_eq_true] at hc;exact hc.2
   ·by_cases e:x=j
    ·subst e;rw [b7_ oq_];simp [htr]
    ·rw [aq_ e,hlist j hj,List.mem_cons];exact ⟨fun h hx=>h (.inr hx),fun h hx=>h (hx.resolve_left fun e'=>e e'.symm)⟩
  simp only [wpList] at h
  split
  ·rename_i hw;rw [if_pos hw] at h;exact h.imp (Oper.wp_mono key) id
  ·rename_i hw;rw [if_neg hw] at h;exact key _ _ h
variable {w0:World} {ph tl:List Nat} {fr:(Nat->Value)->Act} {F:Nat->(Nat->Value)->(Nat->Nat)->(Nat->Nat)->World->Prop} {S:World->Prop}
theorem acx {K:Act->World->Prop} {a a':Act} {W:World} (h:K a W) (e:a=a'):K a' W:=e ▸ h
structure lj_ (w0:World) (ph:List Nat) (ops:Array Oper) (md:Region.Mode) (fr:(Nat->Value)->Act) (F:Nat->(Nat->Value)->(Nat->Nat)->(Nat->Nat)->World->Prop) (l:Array Bool) (done:List Nat) (v:Nat->Value) (lo hi:Nat->Nat) (a:Act) (W:World):Prop where
 size:l.size=ops.size
 iff:∀ i,l.getD i false=true↔i∈done
 nd:done.Nodup
 lt:∀ i∈done,i∈ph
 down:∀ i,l.getD i false=true->∀ j∈Region.deps md ops i,l.getD j false=true
 act:a=fr v
 below:Below w0.heap.size w0 W
 facts:∀ i∈done,w0.heap.size≤lo i∧lo i≤hi i∧hi i≤W.heap.size∧F i v lo hi W
 apart:∀ i∈done,∀ j∈done,i≠j->hi i≤lo j∨hi j≤lo i
end
theorem World.grownBy.drewR (w:World) (row:Option Nat):w.grownBy w.drew row:=⟨rfl,rfl,rfl,Nat.le_refl _,fun _ _ _=>rfl⟩
theorem World.grownBy.of_below {w w':World} (h:Below w.heap.size w w') (row:Option Nat):w.grownBy w' row:=⟨h.os,h.tape,h.output,h.size,fun k hk _=>h.block k hk⟩
section
variable {P:Program} {ops:Array Oper} {Q:Exit->Act->World->Prop} {md:Region.Mode}
variable {w0:World} {row:Option Nat} {kx:Nat} {ph tl:List Nat} {fr:(Nat->Value)->Act} {F:Nat->(Nat->Value)->(Nat->Nat)->(Nat->Nat)->World->Prop} {S:World->Prop}
def vw_ (P:Program) (md:Region.Mode) (ops:Array Oper) (Q:Exit->Act->World->Prop) (w0:World) (row:Option Nat) (kx:Nat) (fr:(Nat->Value)->Act) (F:Nat->(Nat->Value)->(Nat->Nat)->(Nat->Nat)->World->Prop) (S:World->Prop) (k:Nat) (o:Oper):Prop:=
 ∀ (v:Nat->Value) (lo hi:Nat->Nat) (W:World),w0.grownBy W row->(k=kx->Below w0.heap.size w0 W)->S W->(∀ j∈Region.deps md ops k,lo j≤hi j∧hi j≤W.heap.size∧F j v lo hi W)->
  ∀ K:Act->World->Prop,(∀ x W',(if k=kx then W.grownBy W' row else Below W.heap.size W W')->F k (fun j=>if j=k then x else v j) (fun j=>if j=k then W.heap.size else lo j) (fun j=>if j=k then W'.heap.size else hi j) W'->K (fr (fun j=>if j=k then x else v j)) W')->Oper.wp P o (fr v) W K Q
def fd_ (P:Program) (md:Region.Mode) (ops:Array Oper) (Q:Exit->Act->World->Prop) (w0:World) (row:Option Nat) (kx:Nat) (fr:(Nat->Value)->Act) (F:Nat->(Nat->Value)->(Nat->Nat)->(Nat->Nat)->World->Prop) (S:World->Prop):List Nat->Prop
 | []=>True
 | k :: r=>(∀ o,ops[k]? = some o->vw_ P md ops Q w0 row kx fr F S k o)∧fd_ P md ops Q w0 row kx fr F S r
theorem fd_.get:∀ {l:List Nat},fd_ P md ops Q w0 row kx fr F S l->∀ i∈l,∀ o,ops[i]? = some o->vw_ P md ops Q w0 row kx fr F S i o:=by
 intro l;induction l with
 | nil=>intro _ i hi;simp at hi
 | cons k l ih=>
  intro h i hi;rcases List.mem_cons.1 hi with rfl|hi
  ·exact h.1
  ·exact ih h.2 i hi
structure vp_ (w0:World) (row:Option Nat) (kx:Nat) (ph:List Nat) (ops:Array Oper) (md:Region.Mode) (fr:(Nat->Value)->Act) (F:Nat->(Nat->Value)->(Nat->Nat)->(Nat->Nat)->World->Prop) (l:Array Bool) (done:List Nat) (v:Nat->Value) (lo hi:Nat->Nat) (a:Act) (W:World):Prop where
 size:l.size=ops.size
 iff:∀ i,l.getD i false=true↔i∈done
 nd:done.Nodup
 lt:∀ i∈done,i∈ph
 down:∀ i,l.getD i false=true->∀ j∈Region.deps md ops i,l.getD j false=true
 act:a=fr v
 below:w0.grownBy W row
 pre:kx ∉ done->Below w0.heap.size w0 W
 facts:∀ i∈done,w0.heap.size≤lo i∧lo i≤hi i∧hi i≤W.heap.size∧F i v lo hi W
 apart:∀ i∈done,∀ j∈done,i≠j->hi i≤lo j∨hi j≤lo i
theorem te_ (hc:Region.chk md ops ph tl=true) (hnd:ph.Nodup)
  (hstab:∀ i v lo hi W W',F i v lo hi W->(if i=kx then Below W.heap.size W W' else W.grownBy W' row)->F i v lo hi W')
  (hloc:∀ i v v' lo lo' hi hi' W,(∀ j,j=i∨j∈Region.deps md ops i->v j=v' j∧lo j=lo' j∧hi j=hi' j)->F i v lo hi W->F i v' lo' hi' W)
  (hS:∀ W,w0.grownBy W row->S W)
  (steps:fd_ P md ops Q w0 row kx fr F S ph)
  (fin:∀ (v:Nat->Value) (lo hi:Nat->Nat) (W:World),w0.grownBy W row->S W->(∀ i,ph.contains i=true->w0.heap.size≤lo i∧lo i≤hi i∧hi i≤W.heap.size∧F i v lo hi W)->
   (∀ i j,ph.contains i=true->ph.contains j=true->i≠j->hi i≤lo j∨hi j≤lo i)->wpList P ops Q (tl.filterMap fun i=>ops[i]?) (fr v) W) :
  ∀ (fuel:Nat) (l:Array Bool) (done:List Nat) (v:Nat->Value) (lo hi:Nat->Nat) (a:Act) (W:World),vp_ w0 row kx ph ops md fr F l done v lo hi a W->fuel+done.length=ops.size->wpAny P md ops Q fuel l a W:=by
 unfold Region.chk at hc;simp only [Bool.and_eq_true,List.all_eq_true,List.mem_range,decide_eq_true_eq,bne_iff_ne,ne_eq] at hc;obtain ⟨⟨⟨⟨hone,hph⟩,hback⟩,htl⟩,hfirst⟩:=hc;have hphlt:∀ i∈ph,i<ops.size:=fun i hi'=>by
  rcases Nat.lt_or_ge i ops.size with h|h
  ·exact h
  ·have:=(hph i hi').1;rw [Array.getElem?_eq_none h] at this;simp at this
 have hcases:∀ i,i<ops.size->(i∈ph∧i ∉ tl)∨(i ∉ ph∧i∈tl):=fun i hi'=>by
  have:=hone i hi';by_cases h1:i∈ph <;> by_cases h2:i∈tl <;> simp_all
 have hlens:ph.length+tl.eraseDups.length ≥ 0:=Nat.zero_le _;have full:∀ {l done v lo hi a W},vp_ w0 row kx ph ops md fr F l done v lo hi a W->(∀ i∈ph,i∈done)->∀ fuel,tl.length≤fuel->wpAny P md ops Q fuel l a W:=by
  intro l done v lo hi a W hd hall fuel hf;rw [hd.act];have hm:∀ i,ph.contains i=true->i∈done:=fun i hi'=>hall i (by simpa using hi');refine ei_ (fun i hi' j hj=>by simpa using hback i hi' j hj) tl fuel l _ W (fun t r e=>?_) htl hf hd.size (fun j hj=>?_) (fin v lo hi W hd.below (hS W hd.below) (fun i hi'=>hd.facts i (hm i hi')) fun i j hi' hj hne=>hd.apart i (hm i hi') j (hm j hj) hne)
  ·rw [e] at hfirst;simp only [Bool.and_eq_true] at hfirst;exact hfirst.2
  ·rw [hd.iff];rcases hcases j hj with ⟨h1,h2⟩|⟨h1,h2⟩
   ·exact ⟨fun _=>h2,fun _=>hall j h1⟩
   ·exact ⟨fun h=>absurd (hd.lt j h) h1,fun h=>absurd h2 h⟩
 have htnd:tl.Nodup:=by
  cases tl with
  | nil=>exact .nil
  | cons t r=>
   simp only [Bool.and_eq_true] at hfirst;have key:∀ (r:List Nat) (t:Nat),Region.chain md ops t r=true->(t :: r).Nodup:=by
    intro r;induction r with
    | nil=>intro t _;simp
    | cons t' r ih=>
     intro t h;have hlt:=en_ h;simp only [Region.chain,Bool.and_eq_true] at h;exact List.nodup_cons.2 ⟨fun hx=>by have:=hlt t hx;omega,ih t' h.2⟩
   exact key r t hfirst.2
 have hsize:ph.length+tl.length≤ops.size:=by
  have:(ph ++ tl).length≤(List.range ops.size).length:=af_ (List.nodup_append.2 ⟨hnd,htnd,fun x hx y hy e=>by
   subst e;rcases hcases x (hphlt x hx) with h|h
   ·exact h.2 hy
   ·exact h.1 hx⟩) fun x hx=>List.mem_range.2 (by
    rcases List.mem_append.1 hx with h|h
    ·exact hphlt x h
    ·exact htl x h)
  simpa using this
 intro fuel;induction fuel with
 | zero=>
  intro l done v lo hi a W hd hlen;have h1:done.length≤ph.length:=af_ hd.nd hd.lt;refine full hd (fun i hi'=>?_) 0 oq_;by_cases h:i∈done
  ·exact h
  ·have h2:(i :: done).length≤ph.length:=af_ (List.nodup_cons.2 ⟨h,hd.nd⟩) (fun x hx=>by
    rcases List.mem_cons.1 hx with rfl|hx
    ·exact hi'
    ·exact hd.lt x hx)
   simp at h2;omega
 | succ fuel ih=>
  intro l done v lo hi a W hd hlen;by_cases hfull:∀ i∈ph,i∈done
  ·have h1:ph.length≤done.length:=af_ hnd hfull;have h2:done.length≤ph.length:=af_ hd.nd hd.lt;exact full hd hfull _ oq_
  have hlow:∀ x∈Region.ready md ops l,x∈ph:=fun x hx=>by
   have hx':=(Region.ready_spec x).1 hx;rcases hcases x hx'.1 with ⟨h,_⟩|⟨_,h⟩
   ·exact h
   ·exfalso;cases htl':tl with
    | nil=>rw [htl'] at h;simp at h
    | cons t r=>
     rw [htl'] at h hfirst;simp only [Bool.and_eq_true,List.all_eq_true] at hfirst;rcases List.mem_cons.1 h with rfl|h
     ·have hs:=gd_ hd.down ops.size _ hx'.2.2;exact hfull fun i hi'=>(hd.iff i).1 (hs i (by have:=hfirst.1 i hi';simpa using this))
     ·obtain ⟨y,h2,h3,h4⟩:=dg_ hfirst.2 x h;have h5:=hd.lt y ((hd.iff y).1 (hx'.2.2 y h4));rcases hcases y oq_ with h6|h6
      ·exact h6.2 (by rw [htl'];exact h2)
      ·exact h6.1 h5
  refine ⟨fun hnil=>?_,fun x hx=>?_⟩
  ·exfalso;refine hfull ?_;intro i;induction i using Nat.strongRecOn with
   | _ i ihi=>
    intro hi';by_cases h:i∈done
    ·exact h
    ·exfalso;have hin:i∈Region.ready md ops l:=by
      rw [Region.ready_spec];refine ⟨hphlt i hi',?_,fun j hj=>?_⟩
      ·rw [c0_ (by have:=hd.size;have:=hphlt i hi';omega)];cases hb:l.getD i false with
       | false=>rfl
       | true=>exact absurd ((hd.iff i).1 hb) h
      ·have hji:j<i:=by simpa using hback i (hphlt i hi') j hj
       exact (hd.iff j).2 (ihi j hji (by have:=(hph i hi').2 j hj;simpa using this))
     rw [hnil] at hin;simp at hin
  ·have hxm:=hlow x hx;have hx':=(Region.ready_spec x).1 hx;have hg:=(hph x hxm).1;rw [Array.getElem?_eq_getElem hx'.1] at hg;simp only [Option.isNone_iff_eq_none] at hg;have hstep:=steps.get x hxm _ (Array.getElem?_eq_getElem hx'.1);have hxn:x ∉ done:=fun h=>by
    have h2:=(hd.iff x).2 h;rw [c0_ (by have:=hd.size;omega),h2] at hx';simp at hx'
   unfold wpOp;rw [Array.getElem?_eq_getElem hx'.1];simp only;have hw:Region.wanted ops[x] (yielded ops a.tmps)=true:=by unfold Region.wanted;rw [hg]
   rw [if_pos hw,hd.act];refine .inl (hstep v lo hi W hd.below (fun e=>hd.pre (e ▸ hxn)) (hS W hd.below) (fun j hj=>(hd.facts j ((hd.iff j).1 (hx'.2.2 j hj))).2) _ ?_);intro y W' hb9 hF;have hb:W.grownBy W' row:=by
    split at hb9
    ·exact hb9
    ·exact World.grownBy.of_below hb9 row
   have hpre:kx ∉ x :: done->Below w0.heap.size w0 W':=fun hn=>by
    rw [List.mem_cons,not_or] at hn;rw [if_neg (fun e=>hn.1 e.symm)] at hb9;exact (hd.pre hn.2).trans (hb9.mono hd.below.size)
   have hbel:w0.grownBy W' row:=hd.below.trans hb;refine ih (l.setIfInBounds x true) (x :: done) _ (fun j=>if j=x then W.heap.size else lo j) (fun j=>if j=x then W'.heap.size else hi j) _ W' ⟨by simpa using hd.size,fun i=>?_,List.nodup_cons.2 ⟨hxn,hd.nd⟩,fun i hi'=>?_,fun i hi' j hj=>?_,rfl,hbel,hpre,fun i hi'=>?_,fun i hi' j hj hne=>?_⟩ tq_
   ·by_cases e:x=i
    ·subst e;rw [b7_ (by have:=hd.size;omega)];simp
    ·rw [aq_ e,hd.iff,List.mem_cons];exact ⟨.inr,fun h=>h.resolve_left (fun e'=>e e'.symm)⟩
   ·rcases List.mem_cons.1 hi' with rfl|h
    ·exact hxm
    ·exact hd.lt i h
   ·have hji:l.getD j false=true:=by
     by_cases e:x=i
     ·subst e;exact hx'.2.2 j hj
     ·rw [aq_ e] at hi';exact hd.down i hi' j hj
    by_cases e:x=j
    ·subst e;exact b7_ (by have:=hd.size;omega)
    ·rw [aq_ e];exact hji
   ·by_cases e:i=x
    ·subst e;refine ⟨?_,?_,?_,hF⟩
     ·simp only [if_true];exact hd.below.size
     ·simp only [if_true];exact hb.size
     ·simp only [if_true];exact Nat.le_refl _
    ·have hid:i∈done:=by rcases List.mem_cons.1 hi' with h|h;exact absurd h e;exact h
     obtain ⟨f1,f2,f3,f4⟩:=hd.facts i hid;refine ⟨by simp only [if_neg e];exact f1,by simp only [if_neg e];exact f2,by simp only [if_neg e];exact Nat.le_trans f3 hb.size,hstab i _ _ _ W W' (hloc i v _ lo _ hi _ W (fun j hj=>?_) f4) (by
     by_cases e9:i=kx
     ·rw [if_pos e9];rw [if_neg (fun e=>hxn (by rw [e,<- e9];exact hid))] at hb9;exact hb9
     ·rw [if_neg e9];exact hb)⟩
     have hjx:j≠x:=by
      rintro rfl;rcases hj with hj|hj
      ·exact e hj.symm
      ·exact hxn ((hd.iff j).1 (hd.down i ((hd.iff i).2 hid) j hj))
     simp only [if_neg hjx];exact ⟨trivial,trivial,trivial⟩
   ·by_cases e1:i=x
    ·subst e1;have hjd:j∈done:=by rcases List.mem_cons.1 hj with h|h;exact absurd h.symm hne;exact h
     simp only [if_true,if_neg (fun e=>hne (Eq.symm e):¬ j=i)];have:=(hd.facts j hjd).2.2.1;omega
    ·have hid:i∈done:=by rcases List.mem_cons.1 hi' with h|h;exact absurd h e1;exact h
     by_cases e2:j=x
     ·subst e2;simp only [if_true,if_neg e1];have:=(hd.facts i hid).2.2.1;omega
     ·have hjd:j∈done:=by rcases List.mem_cons.1 hj with h|h;exact absurd h e2;exact h
      simp only [if_neg e1,if_neg e2];exact hd.apart i hid j hjd hne
theorem li_ {id:Nat} {a:Act} (row:Option Nat) (kx:Nat) (ph tl:List Nat) (fr:(Nat->Value)->Act) (v0:Nat->Value) (F:Nat->(Nat->Value)->(Nat->Nat)->(Nat->Nat)->World->Prop) (S:World->Prop) (hmix:P.follows .mixedOrders=true)
  (hc:Region.chk .any ops ph tl=true) (hnd:ph.Nodup) (ha:a=fr v0)
  (hstab:∀ i v lo hi W W',F i v lo hi W->(if i=kx then Below W.heap.size W W' else W.grownBy W' row)->F i v lo hi W')
  (hloc:∀ i v v' lo lo' hi hi' W,(∀ j,j=i∨j∈Region.deps .any ops i->v j=v' j∧lo j=lo' j∧hi j=hi' j)->F i v lo hi W->F i v' lo' hi' W)
  (hS:∀ W,w0.grownBy W row->S W)
  (steps:fd_ P .any ops Q w0 row kx fr F S ph)
  (fin:∀ (v:Nat->Value) (lo hi:Nat->Nat) (W:World),w0.grownBy W row->S W->(∀ i,ph.contains i=true->w0.heap.size≤lo i∧lo i≤hi i∧hi i≤W.heap.size∧F i v lo hi W)->
   (∀ i j,ph.contains i=true->ph.contains j=true->i≠j->hi i≤lo j∨hi j≤lo i)->wpList P ops Q (tl.filterMap fun i=>ops[i]?) (fr v) W):(Code.region id ops true).wp P Q a w0:=by
 refine wp_region_any hmix ?_;refine te_ hc hnd hstab hloc hS steps fin ops.size _ [] v0 (fun _=>0) (fun _=>0) a _ ⟨sq_,fun i=>?_,.nil,sq_,fun i hi'=>?_,ha,World.grownBy.drewR _ _,fun _=>(Below.refl _ _).drew,sq_,sq_⟩ sq_
 ·simp [Array.getD]
 ·exfalso;revert hi';simp [Array.getD]
end
def Region.chkH (md:Region.Mode) (ops:Array Oper) (ph tl:List Nat):Bool:=
 ((List.range ops.size).all fun i=>ph.contains i != tl.contains i) &&
 (ph.all fun i=>(ops[i]?).isSome && (Region.deps md ops i).all fun j=>ph.contains j) &&
 ((List.range ops.size).all fun i=>(Region.deps md ops i).all fun j=>decide (j<i)) &&
 (tl.all fun i=>decide (i<ops.size)) &&
 (match tl with|[]=>true|t :: r=>(ph.all fun j=>(Region.sat md ops ops.size (Region.deps md ops t)).contains j) && Region.chain md ops t r)
section
variable {P:Program} {ops:Array Oper} {Q:Exit->Act->World->Prop} {md:Region.Mode}
variable {w0:World} {ph tl:List Nat} {fr:(Nat->Value)->Act} {F:Nat->(Nat->Value)->(Nat->Nat)->(Nat->Nat)->World->Prop} {S:World->Prop}
def vx_ (P:Program) (md:Region.Mode) (ops:Array Oper) (Q:Exit->Act->World->Prop) (w0:World) (fr:(Nat->Value)->Act) (F:Nat->(Nat->Value)->(Nat->Nat)->(Nat->Nat)->World->Prop) (S:World->Prop) (k:Nat) (o:Oper):Prop:=
 ∀ (v:Nat->Value) (lo hi:Nat->Nat) (W:World),Below w0.heap.size w0 W->S W->(∀ j∈Region.deps md ops k,lo j≤hi j∧hi j≤W.heap.size∧F j v lo hi W)->
  Region.wanted o (yielded ops (fr v).tmps)=true∧
  ∀ K:Act->World->Prop,(∀ x W',Below W.heap.size W W'->F k (fun j=>if j=k then x else v j) (fun j=>if j=k then W.heap.size else lo j) (fun j=>if j=k then W'.heap.size else hi j) W'->K (fr (fun j=>if j=k then x else v j)) W')->Oper.wp P o (fr v) W K Q
def fe_ (P:Program) (md:Region.Mode) (ops:Array Oper) (Q:Exit->Act->World->Prop) (w0:World) (fr:(Nat->Value)->Act) (F:Nat->(Nat->Value)->(Nat->Nat)->(Nat->Nat)->World->Prop) (S:World->Prop):List Nat->Prop
 | []=>True
 | k :: r=>(∀ o,ops[k]? = some o->vx_ P md ops Q w0 fr F S k o)∧fe_ P md ops Q w0 fr F S r
theorem fe_.get:∀ {l:List Nat},fe_ P md ops Q w0 fr F S l->∀ i∈l,∀ o,ops[i]? = some o->vx_ P md ops Q w0 fr F S i o:=by
 intro l;induction l with
 | nil=>intro _ i hi;simp at hi
 | cons k l ih=>
  intro h i hi;rcases List.mem_cons.1 hi with rfl|hi
  ·exact h.1
  ·exact ih h.2 i hi
end
def Region.chkX (md:Region.Mode) (ops:Array Oper) (ph:List Nat) (x t:Nat) (r:List Nat):Bool:=
 ((List.range ops.size).all fun i=>ph.contains i != (t :: r).contains i) &&
 (ph.all fun i=>(ops[i]?).isSome && (Region.deps md ops i).all fun j=>ph.contains j) &&
 ((List.range ops.size).all fun i=>(Region.deps md ops i).all fun j=>decide (j<i)) &&
 ((t :: r).all fun i=>decide (i<ops.size)) &&
 ((ph.all fun j=>j == x || (Region.sat md ops ops.size (Region.deps md ops t)).contains j) && Region.chain md ops t r) &&
 (ph.contains x && Region.chain md ops x r && (Region.deps md ops t).all (fun j=>j != x) && !r.isEmpty)
section
variable {P:Program} {ops:Array Oper} {Q:Exit->Act->World->Prop} {md:Region.Mode}
variable {w0:World} {ph:List Nat} {x t:Nat} {r:List Nat} {fr:(Nat->Value)->Act} {F:Nat->(Nat->Value)->(Nat->Nat)->(Nat->Nat)->World->Prop} {S:World->Prop}
theorem o5_ (hback:∀ i,i<ops.size->∀ j∈Region.deps md ops i,j<i) (x t:Nat) (r:List Nat) (fuel:Nat) (l:Array Bool) (a:Act) (w:World) (hx:x<ops.size) (ht:t<ops.size) (hne:x≠t) (hxr:x ∉ r) (htr:t ∉ r)
  (hxd:∀ j∈Region.deps md ops x,j ∉ x :: t :: r) (htd:∀ j∈Region.deps md ops t,j ∉ x :: t :: r)
  (hc1:Region.chain md ops t r=true) (hc2:Region.chain md ops x r=true) (hr:∀ i∈r,i<ops.size) (hf:r.length+2≤fuel) (hl:l.size=ops.size)
  (hlist:∀ j,j<ops.size->(l.getD j false=true↔j ∉ x :: t :: r))
  (h1:wpList P ops Q ((x :: t :: r).filterMap fun i=>ops[i]?) a w) (h2:wpList P ops Q ((t :: x :: r).filterMap fun i=>ops[i]?) a w):wpAny P md ops Q fuel l a w:=by
 obtain ⟨f,rfl⟩:∃ f,fuel=f+1:=⟨fuel-1,oq_⟩;have hrd:∀ y,y<ops.size->y∈x :: t :: r->(∀ j∈Region.deps md ops y,j ∉ x :: t :: r)->y∈Region.ready md ops l:=fun y hy hm hd=>by
  rw [Region.ready_spec];refine ⟨hy,?_,fun j hj=>(hlist j (by have:=hback y hy j hj;omega)).2 (hd j hj)⟩;rw [c0_ oq_];cases hb:l.getD y false with
  | true=>exact absurd hm ((hlist y hy).1 hb)
  | false=>rfl
 have hinx:=hrd x hx sq_ hxd;refine ⟨fun hnil=>by rw [hnil] at hinx;simp at hinx,fun y hy=>?_⟩;have hy':=(Region.ready_spec y).1 hy;have hyr:y∈x :: t :: r:=by
  by_cases hm:y∈x :: t :: r
  ·exact hm
  ·rw [c0_ oq_,(hlist y hy'.1).2 hm] at hy';simp at hy'
 have hyt:y=x∨y=t:=by
  rcases List.mem_cons.1 hyr with h3|h3
  ·exact .inl h3
  rcases List.mem_cons.1 h3 with h3|h3
  ·exact .inr h3
  ·exfalso;obtain ⟨z,h4,h5,h6⟩:=dg_ hc1 y h3;exact (hlist z oq_).1 (hy'.2.2 z h6) (List.mem_cons_of_mem _ h4)
 have go:∀ (y z:Nat),y<ops.size->z<ops.size->y≠z->y ∉ r->Region.chain md ops z r=true->(∀ j,j∈y :: z :: r↔j∈x :: t :: r)->wpList P ops Q ((y :: z :: r).filterMap fun i=>ops[i]?) a w->wpOp P ops Q y (wpAny P md ops Q f (l.setIfInBounds y true)) a w:=by
  intro y z hy hz hyz hyr hcz hmm h;have hsome:ops[y]? = some ops[y]:=Array.getElem?_eq_getElem hy;rw [List.filterMap_cons,hsome] at h;unfold wpOp;rw [hsome];simp only;have key:∀ a w,wpList P ops Q ((z :: r).filterMap fun i=>ops[i]?) a w->wpAny P md ops Q f (l.setIfInBounds y true) a w:=fun a w h=>by
   refine ei_ hback (z :: r) f _ a w (fun t' r' e=>?_) (fun i hi=>?_) tq_ (by simpa using hl) (fun j hj=>?_) h
   ·cases e;exact hcz
   ·rcases List.mem_cons.1 hi with rfl|hi
    ·exact hz
    ·exact hr i hi
   ·by_cases e:y=j
    ·subst e;rw [b7_ oq_];simp [hyz,hyr]
    ·rw [aq_ e,hlist j hj,<- hmm j,List.mem_cons];exact ⟨fun h hx=>h (.inr hx),fun h hx=>h (hx.resolve_left fun e'=>e e'.symm)⟩
  simp only [wpList] at h
  split
  ·rename_i hw;rw [if_pos hw] at h;exact h.imp (Oper.wp_mono key) id
  ·rename_i hw;rw [if_neg hw] at h;exact key _ _ h
 rcases hyt with rfl|rfl
 ·exact go y t hx ht hne hxr hc1 (fun _=>Iff.rfl) h1
 ·exact go y x ht hx (fun e=>hne e.symm) htr hc2 (fun j=>by simp only [List.mem_cons];exact ⟨fun h=>h.elim (fun h=>.inr (.inl h)) (fun h=>h.elim .inl (fun h=>.inr (.inr h))),fun h=>h.elim (fun h=>.inr (.inl h)) (fun h=>h.elim .inl (fun h=>.inr (.inr h)))⟩) h2
variable {x0:Nat}
theorem n5_ (hc:Region.chkX md ops ph x0 t r=true) (hnd:ph.Nodup)
  (hstab:∀ i v lo hi W W',F i v lo hi W->Below W.heap.size W W'->F i v lo hi W')
  (hloc:∀ i v v' lo lo' hi hi' W,(∀ j,j=i∨j∈Region.deps md ops i->v j=v' j∧lo j=lo' j∧hi j=hi' j)->F i v lo hi W->F i v' lo' hi' W)
  (hS:∀ W,Below w0.heap.size w0 W->S W)
  (steps:fe_ P md ops Q w0 fr F S ph)
  (fin:∀ (v:Nat->Value) (lo hi:Nat->Nat) (W:World),Below w0.heap.size w0 W->S W->(∀ i,ph.contains i=true->w0.heap.size≤lo i∧lo i≤hi i∧hi i≤W.heap.size∧F i v lo hi W)->
   (∀ i j,ph.contains i=true->ph.contains j=true->i≠j->hi i≤lo j∨hi j≤lo i)->wpList P ops Q ((t :: r).filterMap fun i=>ops[i]?) (fr v) W)
  (fin2:∀ (v:Nat->Value) (lo hi:Nat->Nat) (W:World),Below w0.heap.size w0 W->S W->(∀ i,ph.contains i=true->i≠x0->w0.heap.size≤lo i∧lo i≤hi i∧hi i≤W.heap.size∧F i v lo hi W)->
   (∀ i j,ph.contains i=true->ph.contains j=true->i≠x0->j≠x0->i≠j->hi i≤lo j∨hi j≤lo i)->wpList P ops Q ((x0 :: t :: r).filterMap fun i=>ops[i]?) (fr v) W∧wpList P ops Q ((t :: x0 :: r).filterMap fun i=>ops[i]?) (fr v) W) :
  ∀ (fuel:Nat) (l:Array Bool) (done:List Nat) (v:Nat->Value) (lo hi:Nat->Nat) (a:Act) (W:World),lj_ w0 ph ops md fr F l done v lo hi a W->fuel+done.length=ops.size->wpAny P md ops Q fuel l a W:=by
 unfold Region.chkX at hc;simp only [Bool.and_eq_true,List.all_eq_true,List.mem_range,decide_eq_true_eq,bne_iff_ne,ne_eq] at hc;obtain ⟨⟨⟨⟨⟨hone,hph⟩,hback⟩,htl⟩,hfirst⟩,hlate⟩:=hc;obtain ⟨⟨⟨hxph,hcx⟩,htx⟩,hrne⟩:=hlate;have hphlt:∀ i∈ph,i<ops.size:=fun i hi'=>by
  rcases Nat.lt_or_ge i ops.size with h|h
  ·exact h
  ·have:=(hph i hi').1;rw [Array.getElem?_eq_none h] at this;simp at this
 have hcases:∀ i,i<ops.size->(i∈ph∧i ∉ t :: r)∨(i ∉ ph∧i∈t :: r):=fun i hi'=>by
  have:=hone i hi';by_cases h1:i∈ph <;> by_cases h2:i∈t :: r <;> simp_all
 have full:∀ {l done v lo hi a W},lj_ w0 ph ops md fr F l done v lo hi a W->(∀ i∈ph,i∈done)->∀ fuel,(t :: r).length≤fuel->wpAny P md ops Q fuel l a W:=by
  intro l done v lo hi a W hd hall fuel hf;rw [hd.act];have hm:∀ i,ph.contains i=true->i∈done:=fun i hi'=>hall i (by simpa using hi');refine ei_ (fun i hi' j hj=>by simpa using hback i hi' j hj) (t :: r) fuel l _ W (fun t' r' e=>?_) (fun i hi=>by simpa using htl i hi) hf hd.size (fun j hj=>?_) (fin v lo hi W hd.below (hS W hd.below) (fun i hi'=>hd.facts i (hm i hi')) fun i j hi' hj hne=>hd.apart i (hm i hi') j (hm j hj) hne)
  ·cases e;exact hfirst.2
  ·rw [hd.iff];rcases hcases j hj with ⟨h1,h2⟩|⟨h1,h2⟩
   ·exact ⟨fun _=>h2,fun _=>hall j h1⟩
   ·exact ⟨fun h=>absurd (hd.lt j h) h1,fun h=>absurd h2 h⟩
 have htnd:(t :: r).Nodup:=by
  have key:∀ (r:List Nat) (t:Nat),Region.chain md ops t r=true->(t :: r).Nodup:=by
   intro r;induction r with
   | nil=>intro t _;simp
   | cons t' r ih=>
    intro t h;have hlt:=en_ h;simp only [Region.chain,Bool.and_eq_true] at h;exact List.nodup_cons.2 ⟨fun hx=>by have:=hlt t hx;omega,ih t' h.2⟩
  exact key r t hfirst.2
 have hsize:ph.length+(t :: r).length≤ops.size:=by
  have:(ph ++ (t :: r)).length≤(List.range ops.size).length:=af_ (List.nodup_append.2 ⟨hnd,htnd,fun x hx y hy e=>by
   subst e;rcases hcases x (hphlt x hx) with h|h
   ·exact h.2 hy
   ·exact h.1 hx⟩) fun x hx=>List.mem_range.2 (by
    rcases List.mem_append.1 hx with h|h
    ·exact hphlt x h
    ·have:=htl x h;simpa using this)
  simpa using this
 intro fuel;induction fuel with
 | zero=>
  intro l done v lo hi a W hd hlen;have h1:done.length≤ph.length:=af_ hd.nd hd.lt;refine full hd (fun i hi'=>?_) 0 oq_;by_cases h:i∈done
  ·exact h
  ·have h2:(i :: done).length≤ph.length:=af_ (List.nodup_cons.2 ⟨h,hd.nd⟩) (fun x hx=>by
    rcases List.mem_cons.1 hx with rfl|hx
    ·exact hi'
    ·exact hd.lt x hx)
   simp at h2;omega
 | succ fuel ih=>
  intro l done v lo hi a W hd hlen;by_cases hfull:∀ i∈ph,i∈done
  ·have h1:ph.length≤done.length:=af_ hnd hfull;have h2:done.length≤ph.length:=af_ hd.nd hd.lt;exact full hd hfull _ oq_
  by_cases hpart:∀ i∈ph,i≠x0->i∈done
  ·have hx0:x0 ∉ done:=fun h=>hfull fun i hi'=>by
    by_cases e:i=x0
    ·rw [e];exact h
    ·exact hpart i hi' e
   have hx0p:x0∈ph:=by simpa using hxph
   have h1:(x0 :: done).length≤ph.length:=af_ (List.nodup_cons.2 ⟨hx0,hd.nd⟩) (fun x hx=>by
    rcases List.mem_cons.1 hx with rfl|hx
    ·exact hx0p
    ·exact hd.lt x hx)
   simp only [List.length_cons] at h1 hsize;have hb':∀ i,i<ops.size->∀ j∈Region.deps md ops i,j<i:=fun i hi' j hj=>by simpa using hback i hi' j hj
   have hx0t:x0 ∉ t :: r:=by
    rcases hcases x0 (hphlt x0 hx0p) with h|h
    ·exact h.2
    ·exact absurd hx0p h.1
   have htn:t ∉ r:=(List.nodup_cons.1 htnd).1;have htp:t<ops.size:=by have:=htl t sq_;simpa using this
   have hlist:∀ j,j<ops.size->(l.getD j false=true↔j ∉ x0 :: t :: r):=fun j hj=>by
    rw [hd.iff,List.mem_cons,not_or];rcases hcases j hj with ⟨h3,h4⟩|⟨h3,h4⟩
    ·exact ⟨fun h=>⟨fun e=>hx0 (e ▸ h),h4⟩,fun h=>hpart j h3 h.1⟩
    ·exact ⟨fun h=>absurd (hd.lt j h) h3,fun h=>absurd h4 h.2⟩
   have hf2:=fin2 v lo hi W hd.below (hS W hd.below) (fun i hi' hne=>hd.facts i (hpart i (by simpa using hi') hne)) fun i j hi' hj h3 h4 hne=>hd.apart i (hpart i (by simpa using hi') h3) j (hpart j (by simpa using hj) h4) hne;rw [hd.act];refine o5_ hb' x0 t r (fuel+1) l _ W (hphlt x0 hx0p) htp (fun e=>hx0t (by rw [e];simp)) (fun h=>hx0t (List.mem_cons_of_mem _ h)) htn (fun j hj hm=>?_) (fun j hj hm=>?_) hfirst.2 hcx (fun i hi=>by have:=htl i (List.mem_cons_of_mem _ hi);simpa using this) oq_ hd.size hlist hf2.1 hf2.2
   ·have h3:j∈ph:=by have:=(hph x0 hx0p).2 j hj;simpa using this
    have h4:=hb' x0 (hphlt x0 hx0p) j hj;rcases List.mem_cons.1 hm with h5|h5
    ·omega
    ·rcases hcases j (hphlt j h3) with h6|h6
     ·exact h6.2 h5
     ·exact h6.1 h3
   ·have h4:=hb' t htp j hj;rcases List.mem_cons.1 hm with h5|h5
    ·have:=htx j hj;exact absurd h5 (by simpa using this)
    ·rcases List.mem_cons.1 h5 with h6|h6
     ·omega
     ·have:=en_ hfirst.2 j h6;omega
  have hlow:∀ x∈Region.ready md ops l,x∈ph:=fun x hx=>by
   have hx':=(Region.ready_spec x).1 hx;rcases hcases x hx'.1 with ⟨h,_⟩|⟨_,h⟩
   ·exact h
   ·exfalso;rcases List.mem_cons.1 h with h5|h5
    ·rw [h5] at hx';have hs:=gd_ hd.down ops.size _ hx'.2.2;exact hpart fun i hi' hne=>(hd.iff i).1 (hs i (by
      have:=hfirst.1 i hi';simp only [Bool.or_eq_true,beq_iff_eq] at this;simpa using this.resolve_left hne))
    ·obtain ⟨y,h2,h3,h4⟩:=dg_ hfirst.2 x h5;have h5:=hd.lt y ((hd.iff y).1 (hx'.2.2 y h4));rcases hcases y oq_ with h6|h6
     ·exact h6.2 h2
     ·exact h6.1 h5
  refine ⟨fun hnil=>?_,fun x hx=>?_⟩
  ·exfalso;refine hfull ?_;intro i;induction i using Nat.strongRecOn with
   | _ i ihi=>
    intro hi';by_cases h:i∈done
    ·exact h
    ·exfalso;have hin:i∈Region.ready md ops l:=by
      rw [Region.ready_spec];refine ⟨hphlt i hi',?_,fun j hj=>?_⟩
      ·rw [c0_ (by have:=hd.size;have:=hphlt i hi';omega)];cases hb:l.getD i false with
       | false=>rfl
       | true=>exact absurd ((hd.iff i).1 hb) h
      ·have hji:j<i:=by simpa using hback i (hphlt i hi') j hj
       exact (hd.iff j).2 (ihi j hji (by have:=(hph i hi').2 j hj;simpa using this))
     rw [hnil] at hin;simp at hin
  ·have hxm:=hlow x hx;have hx':=(Region.ready_spec x).1 hx;have hstep:=steps.get x hxm _ (Array.getElem?_eq_getElem hx'.1);have hxn:x ∉ done:=fun h=>by
    have h2:=(hd.iff x).2 h;rw [c0_ (by have:=hd.size;omega),h2] at hx';simp at hx'
   unfold wpOp;rw [Array.getElem?_eq_getElem hx'.1];simp only;obtain ⟨hw,hrun⟩:=hstep v lo hi W hd.below (hS W hd.below) (fun j hj=>(hd.facts j ((hd.iff j).1 (hx'.2.2 j hj))).2);rw [hd.act,if_pos hw];refine .inl (hrun _ ?_);intro y W' hb hF;have hbel:Below w0.heap.size w0 W':=hd.below.trans (hb.mono hd.below.size);refine ih (l.setIfInBounds x true) (x :: done) _ (fun j=>if j=x then W.heap.size else lo j) (fun j=>if j=x then W'.heap.size else hi j) _ W' ⟨by simpa using hd.size,fun i=>?_,List.nodup_cons.2 ⟨hxn,hd.nd⟩,fun i hi'=>?_,fun i hi' j hj=>?_,rfl,hbel,fun i hi'=>?_,fun i hi' j hj hne=>?_⟩ tq_
   ·by_cases e:x=i
    ·subst e;rw [b7_ (by have:=hd.size;omega)];simp
    ·rw [aq_ e,hd.iff,List.mem_cons];exact ⟨.inr,fun h=>h.resolve_left (fun e'=>e e'.symm)⟩
   ·rcases List.mem_cons.1 hi' with rfl|h
    ·exact hxm
    ·exact hd.lt i h
   ·have hji:l.getD j false=true:=by
     by_cases e:x=i
     ·subst e;exact hx'.2.2 j hj
     ·rw [aq_ e] at hi';exact hd.down i hi' j hj
    by_cases e:x=j
    ·subst e;exact b7_ (by have:=hd.size;omega)
    ·rw [aq_ e];exact hji
   ·by_cases e:i=x
    ·subst e;refine ⟨?_,?_,?_,hF⟩
     ·simp only [if_true];exact hd.below.size
     ·simp only [if_true];exact hb.size
     ·simp only [if_true];exact Nat.le_refl _
    ·have hid:i∈done:=by rcases List.mem_cons.1 hi' with h|h;exact absurd h e;exact h
     obtain ⟨f1,f2,f3,f4⟩:=hd.facts i hid;refine ⟨by simp only [if_neg e];exact f1,by simp only [if_neg e];exact f2,by simp only [if_neg e];exact Nat.le_trans f3 hb.size,hstab i _ _ _ W W' (hloc i v _ lo _ hi _ W (fun j hj=>?_) f4) hb⟩;have hjx:j≠x:=by
      rintro rfl;rcases hj with hj|hj
      ·exact e hj.symm
      ·exact hxn ((hd.iff j).1 (hd.down i ((hd.iff i).2 hid) j hj))
     simp only [if_neg hjx];exact ⟨trivial,trivial,trivial⟩
   ·by_cases e1:i=x
    ·subst e1;have hjd:j∈done:=by rcases List.mem_cons.1 hj with h|h;exact absurd h.symm hne;exact h
     simp only [if_true,if_neg (fun e=>hne (Eq.symm e):¬ j=i)];have:=(hd.facts j hjd).2.2.1;omega
    ·have hid:i∈done:=by rcases List.mem_cons.1 hi' with h|h;exact absurd h e1;exact h
     by_cases e2:j=x
     ·subst e2;simp only [if_true,if_neg e1];have:=(hd.facts i hid).2.2.1;omega
     ·have hjd:j∈done:=by rcases List.mem_cons.1 hj with h|h;exact absurd h e2;exact h
      simp only [if_neg e1,if_neg e2];exact hd.apart i hid j hjd hne
theorem ix_ {id:Nat} {a:Act} (ph:List Nat) (x0 t:Nat) (r:List Nat) (fr:(Nat->Value)->Act) (v0:Nat->Value) (F:Nat->(Nat->Value)->(Nat->Nat)->(Nat->Nat)->World->Prop) (S:World->Prop) (hmix:P.follows .mixedOrders=true)
  (hc:Region.chkX .any ops ph x0 t r=true) (hnd:ph.Nodup) (ha:a=fr v0)
  (hstab:∀ i v lo hi W W',F i v lo hi W->Below W.heap.size W W'->F i v lo hi W')
  (hloc:∀ i v v' lo lo' hi hi' W,(∀ j,j=i∨j∈Region.deps .any ops i->v j=v' j∧lo j=lo' j∧hi j=hi' j)->F i v lo hi W->F i v' lo' hi' W)
  (hS:∀ W,Below w0.heap.size w0 W->S W)
  (steps:fe_ P .any ops Q w0 fr F S ph)
  (fin:∀ (v:Nat->Value) (lo hi:Nat->Nat) (W:World),Below w0.heap.size w0 W->S W->(∀ i,ph.contains i=true->w0.heap.size≤lo i∧lo i≤hi i∧hi i≤W.heap.size∧F i v lo hi W)->
   (∀ i j,ph.contains i=true->ph.contains j=true->i≠j->hi i≤lo j∨hi j≤lo i)->wpList P ops Q ((t :: r).filterMap fun i=>ops[i]?) (fr v) W)
  (fin2:∀ (v:Nat->Value) (lo hi:Nat->Nat) (W:World),Below w0.heap.size w0 W->S W->(∀ i,ph.contains i=true->i≠x0->w0.heap.size≤lo i∧lo i≤hi i∧hi i≤W.heap.size∧F i v lo hi W)->
   (∀ i j,ph.contains i=true->ph.contains j=true->i≠x0->j≠x0->i≠j->hi i≤lo j∨hi j≤lo i)->wpList P ops Q ((x0 :: t :: r).filterMap fun i=>ops[i]?) (fr v) W∧wpList P ops Q ((t :: x0 :: r).filterMap fun i=>ops[i]?) (fr v) W):(Code.region id ops true).wp P Q a w0:=by
 refine wp_region_any hmix ?_;refine n5_ hc hnd hstab hloc hS steps fin fin2 ops.size _ [] v0 (fun _=>0) (fun _=>0) a _ ⟨sq_,fun i=>?_,.nil,sq_,fun i hi'=>?_,ha,(Below.refl _ _).drew,sq_,sq_⟩ sq_
 ·simp [Array.getD]
 ·exfalso;revert hi';simp [Array.getD]
end
section
variable {P:Program} {ops:Array Oper} {Q:Exit->Act->World->Prop} {md:Region.Mode}
variable {w0:World} {ph tl:List Nat} {fr:(Nat->Value)->Act} {F:Nat->(Nat->Value)->(Nat->Nat)->(Nat->Nat)->World->Prop} {S:World->Prop}
def vy_ (P:Program) (md:Region.Mode) (ops:Array Oper) (Q:Exit->Act->World->Prop) (w0:World) (fr:(Nat->Value)->Act) (F:Nat->(Nat->Value)->(Nat->Nat)->(Nat->Nat)->World->Prop) (S:World->Prop) (k:Nat) (o:Oper):Prop:=
 ∀ (v:Nat->Value) (lo hi:Nat->Nat) (W:World),Below w0.heap.size w0 W->S W->(∀ j∈Region.deps md ops k,lo j≤hi j∧hi j≤W.heap.size∧F j v lo hi W)->
  (Region.wanted o (yielded ops (fr v).tmps)=true∧
  ∀ K:Act->World->Prop,(∀ x W',Below W.heap.size W W'->F k (fun j=>if j=k then x else v j) (fun j=>if j=k then W.heap.size else lo j) (fun j=>if j=k then W'.heap.size else hi j) W'->K (fr (fun j=>if j=k then x else v j)) W')->Oper.wp P o (fr v) W K Q) ∨
  (Region.wanted o (yielded ops (fr v).tmps)=false∧
  ∀ K:Act->World->Prop,(∀ x W',Below W.heap.size W W'->F k (fun j=>if j=k then x else v j) (fun j=>if j=k then W.heap.size else lo j) (fun j=>if j=k then W'.heap.size else hi j) W'->K (fr (fun j=>if j=k then x else v j)) W')->K ((fr v).put o.dst undef) W)
def e2_ (P:Program) (md:Region.Mode) (ops:Array Oper) (Q:Exit->Act->World->Prop) (w0:World) (fr:(Nat->Value)->Act) (F:Nat->(Nat->Value)->(Nat->Nat)->(Nat->Nat)->World->Prop) (S:World->Prop):List Nat->Prop
 | []=>True
 | k :: r=>(∀ o,ops[k]? = some o->vy_ P md ops Q w0 fr F S k o)∧e2_ P md ops Q w0 fr F S r
theorem e2_.get:∀ {l:List Nat},e2_ P md ops Q w0 fr F S l->∀ i∈l,∀ o,ops[i]? = some o->vy_ P md ops Q w0 fr F S i o:=by
 intro l;induction l with
 | nil=>intro _ i hi;simp at hi
 | cons k l ih=>
  intro h i hi;rcases List.mem_cons.1 hi with rfl|hi
  ·exact h.1
  ·exact ih h.2 i hi
theorem hc_ (hc:Region.chkH md ops ph tl=true) (hnd:ph.Nodup)
  (hstab:∀ i v lo hi W W',F i v lo hi W->Below W.heap.size W W'->F i v lo hi W')
  (hloc:∀ i v v' lo lo' hi hi' W,(∀ j,j=i∨j∈Region.deps md ops i->v j=v' j∧lo j=lo' j∧hi j=hi' j)->F i v lo hi W->F i v' lo' hi' W)
  (hS:∀ W,Below w0.heap.size w0 W->S W)
  (steps:e2_ P md ops Q w0 fr F S ph)
  (fin:∀ (v:Nat->Value) (lo hi:Nat->Nat) (W:World),Below w0.heap.size w0 W->S W->(∀ i,ph.contains i=true->w0.heap.size≤lo i∧lo i≤hi i∧hi i≤W.heap.size∧F i v lo hi W)->
   (∀ i j,ph.contains i=true->ph.contains j=true->i≠j->hi i≤lo j∨hi j≤lo i)->wpList P ops Q (tl.filterMap fun i=>ops[i]?) (fr v) W) :
  ∀ (fuel:Nat) (l:Array Bool) (done:List Nat) (v:Nat->Value) (lo hi:Nat->Nat) (a:Act) (W:World),lj_ w0 ph ops md fr F l done v lo hi a W->fuel+done.length=ops.size->wpAny P md ops Q fuel l a W:=by
 unfold Region.chkH at hc;simp only [Bool.and_eq_true,List.all_eq_true,List.mem_range,decide_eq_true_eq,bne_iff_ne,ne_eq] at hc;obtain ⟨⟨⟨⟨hone,hph⟩,hback⟩,htl⟩,hfirst⟩:=hc;have hphlt:∀ i∈ph,i<ops.size:=fun i hi'=>by
  rcases Nat.lt_or_ge i ops.size with h|h
  ·exact h
  ·have:=(hph i hi').1;rw [Array.getElem?_eq_none h] at this;simp at this
 have hcases:∀ i,i<ops.size->(i∈ph∧i ∉ tl)∨(i ∉ ph∧i∈tl):=fun i hi'=>by
  have:=hone i hi';by_cases h1:i∈ph <;> by_cases h2:i∈tl <;> simp_all
 have hlens:ph.length+tl.eraseDups.length ≥ 0:=Nat.zero_le _;have full:∀ {l done v lo hi a W},lj_ w0 ph ops md fr F l done v lo hi a W->(∀ i∈ph,i∈done)->∀ fuel,tl.length≤fuel->wpAny P md ops Q fuel l a W:=by
  intro l done v lo hi a W hd hall fuel hf;rw [hd.act];have hm:∀ i,ph.contains i=true->i∈done:=fun i hi'=>hall i (by simpa using hi');refine ei_ (fun i hi' j hj=>by simpa using hback i hi' j hj) tl fuel l _ W (fun t r e=>?_) htl hf hd.size (fun j hj=>?_) (fin v lo hi W hd.below (hS W hd.below) (fun i hi'=>hd.facts i (hm i hi')) fun i j hi' hj hne=>hd.apart i (hm i hi') j (hm j hj) hne)
  ·rw [e] at hfirst;simp only [Bool.and_eq_true] at hfirst;exact hfirst.2
  ·rw [hd.iff];rcases hcases j hj with ⟨h1,h2⟩|⟨h1,h2⟩
   ·exact ⟨fun _=>h2,fun _=>hall j h1⟩
   ·exact ⟨fun h=>absurd (hd.lt j h) h1,fun h=>absurd h2 h⟩
 have htnd:tl.Nodup:=by
  cases tl with
  | nil=>exact .nil
  | cons t r=>
   simp only [Bool.and_eq_true] at hfirst;have key:∀ (r:List Nat) (t:Nat),Region.chain md ops t r=true->(t :: r).Nodup:=by
    intro r;induction r with
    | nil=>intro t _;simp
    | cons t' r ih=>
     intro t h;have hlt:=en_ h;simp only [Region.chain,Bool.and_eq_true] at h;exact List.nodup_cons.2 ⟨fun hx=>by have:=hlt t hx;omega,ih t' h.2⟩
   exact key r t hfirst.2
 have hsize:ph.length+tl.length≤ops.size:=by
  have:(ph ++ tl).length≤(List.range ops.size).length:=af_ (List.nodup_append.2 ⟨hnd,htnd,fun x hx y hy e=>by
   subst e;rcases hcases x (hphlt x hx) with h|h
   ·exact h.2 hy
   ·exact h.1 hx⟩) fun x hx=>List.mem_range.2 (by
    rcases List.mem_append.1 hx with h|h
    ·exact hphlt x h
    ·exact htl x h)
  simpa using this
 intro fuel;induction fuel with
 | zero=>
  intro l done v lo hi a W hd hlen;have h1:done.length≤ph.length:=af_ hd.nd hd.lt;refine full hd (fun i hi'=>?_) 0 oq_;by_cases h:i∈done
  ·exact h
  ·have h2:(i :: done).length≤ph.length:=af_ (List.nodup_cons.2 ⟨h,hd.nd⟩) (fun x hx=>by
    rcases List.mem_cons.1 hx with rfl|hx
    ·exact hi'
    ·exact hd.lt x hx)
   simp at h2;omega
 | succ fuel ih=>
  intro l done v lo hi a W hd hlen;by_cases hfull:∀ i∈ph,i∈done
  ·have h1:ph.length≤done.length:=af_ hnd hfull;have h2:done.length≤ph.length:=af_ hd.nd hd.lt;exact full hd hfull _ oq_
  have hlow:∀ x∈Region.ready md ops l,x∈ph:=fun x hx=>by
   have hx':=(Region.ready_spec x).1 hx;rcases hcases x hx'.1 with ⟨h,_⟩|⟨_,h⟩
   ·exact h
   ·exfalso;cases htl':tl with
    | nil=>rw [htl'] at h;simp at h
    | cons t r=>
     rw [htl'] at h hfirst;simp only [Bool.and_eq_true,List.all_eq_true] at hfirst;rcases List.mem_cons.1 h with rfl|h
     ·have hs:=gd_ hd.down ops.size _ hx'.2.2;exact hfull fun i hi'=>(hd.iff i).1 (hs i (by have:=hfirst.1 i hi';simpa using this))
     ·obtain ⟨y,h2,h3,h4⟩:=dg_ hfirst.2 x h;have h5:=hd.lt y ((hd.iff y).1 (hx'.2.2 y h4));rcases hcases y oq_ with h6|h6
      ·exact h6.2 (by rw [htl'];exact h2)
      ·exact h6.1 h5
  refine ⟨fun hnil=>?_,fun x hx=>?_⟩
  ·exfalso;refine hfull ?_;intro i;induction i using Nat.strongRecOn with
   | _ i ihi=>
    intro hi';by_cases h:i∈done
    ·exact h
    ·exfalso;have hin:i∈Region.ready md ops l:=by
      rw [Region.ready_spec];refine ⟨hphlt i hi',?_,fun j hj=>?_⟩
      ·rw [c0_ (by have:=hd.size;have:=hphlt i hi';omega)];cases hb:l.getD i false with
       | false=>rfl
       | true=>exact absurd ((hd.iff i).1 hb) h
      ·have hji:j<i:=by simpa using hback i (hphlt i hi') j hj
       exact (hd.iff j).2 (ihi j hji (by have:=(hph i hi').2 j hj;simpa using this))
     rw [hnil] at hin;simp at hin
  ·have hxm:=hlow x hx;have hx':=(Region.ready_spec x).1 hx;have hstep:=steps.get x hxm _ (Array.getElem?_eq_getElem hx'.1);have hxn:x ∉ done:=fun h=>by
    have h2:=(hd.iff x).2 h;rw [c0_ (by have:=hd.size;omega),h2] at hx';simp at hx'
   unfold wpOp;rw [Array.getElem?_eq_getElem hx'.1];simp only;have hcond:∀ y W',Below W.heap.size W W'->F x (fun j=>if j=x then y else v j) (fun j=>if j=x then W.heap.size else lo j) (fun j=>if j=x then W'.heap.size else hi j) W'->wpAny P md ops Q fuel (l.setIfInBounds x true) (fr (fun j=>if j=x then y else v j)) W':=?cond
   ·rcases hstep v lo hi W hd.below (hS W hd.below) (fun j hj=>(hd.facts j ((hd.iff j).1 (hx'.2.2 j hj))).2) with ⟨hw,hrun⟩|⟨hw,hrun⟩
    ·rw [hd.act,if_pos hw];exact .inl (hrun _ hcond)
    ·rw [hd.act,if_neg (by rw [hw];simp)];exact hrun _ hcond
   intro y W' hb hF;have hbel:Below w0.heap.size w0 W':=hd.below.trans (hb.mono hd.below.size);refine ih (l.setIfInBounds x true) (x :: done) _ (fun j=>if j=x then W.heap.size else lo j) (fun j=>if j=x then W'.heap.size else hi j) _ W' ⟨by simpa using hd.size,fun i=>?_,List.nodup_cons.2 ⟨hxn,hd.nd⟩,fun i hi'=>?_,fun i hi' j hj=>?_,rfl,hbel,fun i hi'=>?_,fun i hi' j hj hne=>?_⟩ tq_
   ·by_cases e:x=i
    ·subst e;rw [b7_ (by have:=hd.size;omega)];simp
    ·rw [aq_ e,hd.iff,List.mem_cons];exact ⟨.inr,fun h=>h.resolve_left (fun e'=>e e'.symm)⟩
   ·rcases List.mem_cons.1 hi' with rfl|h
    ·exact hxm
    ·exact hd.lt i h
   ·have hji:l.getD j false=true:=by
     by_cases e:x=i
     ·subst e;exact hx'.2.2 j hj
     ·rw [aq_ e] at hi';exact hd.down i hi' j hj
    by_cases e:x=j
    ·subst e;exact b7_ (by have:=hd.size;omega)
    ·rw [aq_ e];exact hji
   ·by_cases e:i=x
    ·subst e;refine ⟨?_,?_,?_,hF⟩
     ·simp only [if_true];exact hd.below.size
     ·simp only [if_true];exact hb.size
     ·simp only [if_true];exact Nat.le_refl _
    ·have hid:i∈done:=by rcases List.mem_cons.1 hi' with h|h;exact absurd h e;exact h
     obtain ⟨f1,f2,f3,f4⟩:=hd.facts i hid;refine ⟨by simp only [if_neg e];exact f1,by simp only [if_neg e];exact f2,by simp only [if_neg e];exact Nat.le_trans f3 hb.size,hstab i _ _ _ W W' (hloc i v _ lo _ hi _ W (fun j hj=>?_) f4) hb⟩;have hjx:j≠x:=by
      rintro rfl;rcases hj with hj|hj
      ·exact e hj.symm
      ·exact hxn ((hd.iff j).1 (hd.down i ((hd.iff i).2 hid) j hj))
     simp only [if_neg hjx];exact ⟨trivial,trivial,trivial⟩
   ·by_cases e1:i=x
    ·subst e1;have hjd:j∈done:=by rcases List.mem_cons.1 hj with h|h;exact absurd h.symm hne;exact h
     simp only [if_true,if_neg (fun e=>hne (Eq.symm e):¬ j=i)];have:=(hd.facts j hjd).2.2.1;omega
    ·have hid:i∈done:=by rcases List.mem_cons.1 hi' with h|h;exact absurd h e1;exact h
     by_cases e2:j=x
     ·subst e2;simp only [if_true,if_neg e1];have:=(hd.facts i hid).2.2.1;omega
     ·have hjd:j∈done:=by rcases List.mem_cons.1 hj with h|h;exact absurd h e2;exact h
      simp only [if_neg e1,if_neg e2];exact hd.apart i hid j hjd hne
theorem eu_ {id:Nat} {a:Act} (ph tl:List Nat) (fr:(Nat->Value)->Act) (v0:Nat->Value) (F:Nat->(Nat->Value)->(Nat->Nat)->(Nat->Nat)->World->Prop) (S:World->Prop) (hmix:P.follows .mixedOrders=true)
  (hc:Region.chkH .any ops ph tl=true) (hnd:ph.Nodup) (ha:a=fr v0)
  (hstab:∀ i v lo hi W W',F i v lo hi W->Below W.heap.size W W'->F i v lo hi W')
  (hloc:∀ i v v' lo lo' hi hi' W,(∀ j,j=i∨j∈Region.deps .any ops i->v j=v' j∧lo j=lo' j∧hi j=hi' j)->F i v lo hi W->F i v' lo' hi' W)
  (hS:∀ W,Below w0.heap.size w0 W->S W)
  (steps:e2_ P .any ops Q w0 fr F S ph)
  (fin:∀ (v:Nat->Value) (lo hi:Nat->Nat) (W:World),Below w0.heap.size w0 W->S W->(∀ i,ph.contains i=true->w0.heap.size≤lo i∧lo i≤hi i∧hi i≤W.heap.size∧F i v lo hi W)->
   (∀ i j,ph.contains i=true->ph.contains j=true->i≠j->hi i≤lo j∨hi j≤lo i)->wpList P ops Q (tl.filterMap fun i=>ops[i]?) (fr v) W):(Code.region id ops true).wp P Q a w0:=by
 refine wp_region_any hmix ?_;refine hc_ hc hnd hstab hloc hS steps fin ops.size _ [] v0 (fun _=>0) (fun _=>0) a _ ⟨sq_,fun i=>?_,.nil,sq_,fun i hi'=>?_,ha,(Below.refl _ _).drew,sq_,sq_⟩ sq_
 ·simp [Array.getD]
 ·exfalso;revert hi';simp [Array.getD]
end
def vat:List Value->Nat->Value
 | [],_=>undef
 | x :: _,0=>x
 | _ :: l,k+1=>vat l k
def ov (x:List Value):List Nat->(Nat->Value)->Nat->Value
 | [],u,j=>u j
 | d :: D,u,j=>bif j == d then vat x j else ov x D u j
theorem eg_ {x:List Value} {D:List Nat} {v:Nat->Value} (h:∀ j∈D,v j=vat x j):ov x D v=v:=by
 induction D with
 | nil=>rfl
 | cons d D ih=>
  funext j
  simp only [ov];cases hb:(j == d) with
  | true=>rw [eq_of_beq hb];exact (h d sq_).symm
  | false=>exact congrFun (ih fun j hj=>h j (by simp [hj])) j
section
variable {P:Program} {ops:Array Oper} {Q:Exit->Act->World->Prop} {md:Region.Mode}
variable {w0:World} {fr:(Nat->Value)->Act} {S:World->Prop} {x:List Value}
def gokV (fr:(Nat->Value)->Act) (x:List Value) (D:List Nat) (v:Nat->Value) (W:World) (k:Nat) (K:Act->World->Prop):Prop:=∀ W',Below W.heap.size W W'->K (fr (ov x (k :: D) v)) W'
def j4_ (P:Program) (ops:Array Oper) (Q:Exit->Act->World->Prop) (w0:World) (fr:(Nat->Value)->Act) (x:List Value) (S:World->Prop) (D:List Nat) (k:Nat) (o:Oper):Prop:=
 ∀ (v:Nat->Value) (W:World),Below w0.heap.size w0 W->S W->
  (Region.wanted o (yielded ops (fr (ov x D v)).tmps)=true∧
  ∀ K:Act->World->Prop,gokV fr x D v W k K->Oper.wp P o (fr (ov x D v)) W K Q) ∨
  (Region.wanted o (yielded ops (fr (ov x D v)).tmps)=false∧
  ∀ K:Act->World->Prop,gokV fr x D v W k K->K ((fr (ov x D v)).put o.dst undef) W)
def go_ (P:Program) (md:Region.Mode) (ops:Array Oper) (Q:Exit->Act->World->Prop) (w0:World) (fr:(Nat->Value)->Act) (x:List Value) (S:World->Prop):List Nat->Prop
 | []=>True
 | k :: r=>(∃ D o,ops[k]? = some o∧(D.all fun j=>(Region.deps md ops k).contains j)=true∧j4_ P ops Q w0 fr x S D k o)∧go_ P md ops Q w0 fr x S r
theorem ka_ {D:List Nat} {k:Nat} {v:Nat->Value} (h:∀ j∈D,v j=vat x j):ov x (k :: D) v=fun j=>if j=k then vat x k else v j:=by
 funext j
 show (bif j == k then vat x j else ov x D v j)=_;rw [eg_ h];by_cases e:j=k
 ·subst e;simp
 ·rw [if_neg e,show (j == k)=false from Bool.eq_false_iff.2 fun h=>e (eq_of_beq h)];rfl
theorem go_.to:∀ {l:List Nat},go_ P md ops Q w0 fr x S l->e2_ P md ops Q w0 fr (fun i v _ _ _=>v i=vat x i) S l
 | [],_=>trivial
 | k :: r,⟨⟨D,o,e,hD,h⟩,t⟩=>by
  refine ⟨fun o' e'=>?_,t.to⟩;rw [e] at e';cases e';intro v lo hi W hb hs hd;have hj:∀ j∈D,v j=vat x j:=fun j hj=>(hd j (by simpa using List.all_eq_true.1 hD j hj)).2.2;have h':=h v W hb hs;unfold gokV at h';rw [eg_ hj,ka_ hj] at h';rcases h' with ⟨h1,h2⟩|⟨h1,h2⟩
  ·exact .inl ⟨h1,fun K hK=>h2 K fun W' hb'=>hK (vat x k) W' hb' sq_⟩
  ·exact .inr ⟨h1,fun K hK=>h2 K fun W' hb'=>hK (vat x k) W' hb' sq_⟩
theorem o9_ {id:Nat} {a:Act} (ph tl:List Nat) (fr:(Nat->Value)->Act) (x:List Value) (S:World->Prop)
  (hS:∀ W,Below w0.heap.size w0 W->S W)
  (steps:go_ P .any ops Q w0 fr x S ph)
  (fin:∀ W,Below w0.heap.size w0 W->S W->wpList P ops Q (tl.filterMap fun i=>ops[i]?) (fr (vat x)) W)
  (v0:Nat->Value:=fun _=>undef) (ha:a=fr v0:=by rfl) (hmix:P.follows .mixedOrders=true:=by rfl) (hc:Region.chkH .any ops ph tl=true:=by kernel_rfl) (hnd:ph.Nodup:=by decide)
  (hfr:∀ v:Nat->Value,(∀ i,ph.contains i=true->v i=vat x i)->fr v=fr (vat x):=by intro v h;simp (decide:=true) only [h]):(Code.region id ops true).wp P Q a w0:=
 eu_ ph tl fr v0 (fun i v _ _ _=>v i=vat x i) S hmix hc hnd ha (fun _ _ _ _ _ _ h _=>h) (fun i v v' _ _ _ _ _ hag h=>(hag i (.inl rfl)).1 ▸ h) hS steps.to
  fun v lo hi W h1 h2 h3 _=>by rw [hfr v fun i hi'=>(h3 i hi').2.2.2];exact fin W h1 h2
theorem stp {D:List Nat} {k:Nat} {o:Oper} (h:j4_ P ops Q w0 fr x S D k o:=by
  intro v W hb hS
  first
   | (
    refine .inr ⟨rfl,fun K hK=>acx (hK W (Below.refl _ _)) ?_⟩;simp [Act.put,ov,vat]
    done)
   | (
    go_split_ands;refine .inl ⟨rfl,fun K hK=>?_⟩;simp only [ov,vat,Nat.reduceBEq,cond_true,cond_false];go_wp2_with fail
    refine acx (hK W (Below.refl _ _)) ?_
    first
     | (simp [ov,vat];done)
     | (simp [ov,vat, *];done)
    done)
   | fail):j4_ P ops Q w0 fr x S D k o:=h
end
def FnG:=Nat->(Nat->Value)->(Nat->Nat)->(Nat->Nat)->World->Prop
def allC (p:Nat->Prop):List Nat->Prop
 | []=>True
 | k :: r=>p k∧allC p r
theorem allC.get {p:Nat->Prop}:∀ {l:List Nat},allC p l->∀ k,l.contains k=true->p k
 | k :: r,⟨h,t⟩,i,hi=>by
  by_cases e:i=k
  ·subst e;exact h
  ·refine t.get i ?_;rw [List.contains_cons] at hi;simpa [e] using hi
theorem allC.of {p:Nat->Prop}:∀ {l:List Nat},(∀ k∈l,p k)->allC p l
 | [],_=>trivial
 | k :: r,h=>⟨h k sq_,.of fun j hj=>h j (by simp [hj])⟩
def fcW (x:List Value) (cs:List Nat) (G:FnG) (i:Nat) (v:Nat->Value) (lo hi:Nat->Nat) (W:World):Prop:=match cs.contains i with
 | true=>G i v lo hi W
 | false=>v i=vat x i
def upd {α:Type} (f:Nat->α) (k:Nat) (y:α):Nat->α:=fun j=>if j=k then y else f j
section
variable {P:Program} {ops:Array Oper} {Q:Exit->Act->World->Prop} {md:Region.Mode}
variable {w0:World} {fr:(Nat->Value)->Act} {S:World->Prop} {x:List Value} {cs:List Nat} {G:FnG}
def gokW (fr:(Nat->Value)->Act) (x:List Value) (cs:List Nat) (G:FnG) (D:List Nat) (v:Nat->Value) (lo hi:Nat->Nat) (W:World) (k:Nat) (K:Act->World->Prop):Prop:=match cs.contains k with
 | false=>∀ W',Below W.heap.size W W'->K (fr (ov x (k :: D) v)) W'
 | true=>∀ y W',Below W.heap.size W W'->G k (fun j=>if j=k then y else v j) (fun j=>if j=k then W.heap.size else lo j) (fun j=>if j=k then W'.heap.size else hi j) W'->K (fr (upd (ov x D v) k y)) W'
def fo_ (P:Program) (ops:Array Oper) (Q:Exit->Act->World->Prop) (w0:World) (fr:(Nat->Value)->Act) (x:List Value) (cs:List Nat) (G:FnG) (S:World->Prop) (D C:List Nat) (k:Nat) (o:Oper):Prop:=
 ∀ (v:Nat->Value) (lo hi:Nat->Nat) (W:World),Below w0.heap.size w0 W->S W->allC (fun j=>lo j≤hi j∧hi j≤W.heap.size∧G j v lo hi W) C->
  (Region.wanted o (yielded ops (fr (ov x D v)).tmps)=true∧∀ K:Act->World->Prop,gokW fr x cs G D v lo hi W k K->Oper.wp P o (fr (ov x D v)) W K Q) ∨
  (Region.wanted o (yielded ops (fr (ov x D v)).tmps)=false∧∀ K:Act->World->Prop,gokW fr x cs G D v lo hi W k K->K ((fr (ov x D v)).put o.dst undef) W)
def el_ (P:Program) (md:Region.Mode) (ops:Array Oper) (Q:Exit->Act->World->Prop) (w0:World) (fr:(Nat->Value)->Act) (x:List Value) (cs:List Nat) (G:FnG) (S:World->Prop):List Nat->Prop
 | []=>True
 | k :: r=>(∃ D C o,ops[k]? = some o∧((D.all fun j=>(Region.deps md ops k).contains j && !cs.contains j) && C.all fun j=>(Region.deps md ops k).contains j && cs.contains j)=true∧fo_ P ops Q w0 fr x cs G S D C k o)∧el_ P md ops Q w0 fr x cs G S r
theorem el_.to:∀ {l:List Nat},el_ P md ops Q w0 fr x cs G S l->e2_ P md ops Q w0 fr (fcW x cs G) S l
 | [],_=>trivial
 | k :: r,⟨⟨D,C,o,e,hD,h⟩,t⟩=>by
  refine ⟨fun o' e'=>?_,t.to⟩;rw [e] at e';cases e';intro v lo hi W hb hs hd;rw [Bool.and_eq_true,List.all_eq_true,List.all_eq_true] at hD;have hj:∀ j∈D,v j=vat x j:=fun j hj=>by
   have h1:=hD.1 j hj;rw [Bool.and_eq_true] at h1;have h2:=(hd j (by simpa using h1.1)).2.2;rw [fcW,show cs.contains j=false by simpa using h1.2] at h2;exact h2
  have h':=h v lo hi W hb hs (.of fun j hj=>by
   have h1:=hD.2 j hj;rw [Bool.and_eq_true] at h1;have h2:=hd j (by simpa using h1.1);rw [fcW,h1.2] at h2;exact h2)
  have key:∀ K:Act->World->Prop,(∀ y W',Below W.heap.size W W'->fcW x cs G k (fun j=>if j=k then y else v j) (fun j=>if j=k then W.heap.size else lo j) (fun j=>if j=k then W'.heap.size else hi j) W'->K (fr (fun j=>if j=k then y else v j)) W')->gokW fr x cs G D v lo hi W k K:=fun K hK=>by
   unfold gokW;cases hc:cs.contains k with
   | false=>exact fun W' hb'=>by rw [ka_ hj];exact hK (vat x k) W' hb' (by rw [fcW,hc];simp)
   | true=>exact fun y W' hb' hg=>by rw [eg_ hj];exact hK y W' hb' (by rw [fcW,hc];exact hg)
  rw [eg_ hj] at h';exact h'.imp (fun ⟨h1,h2⟩=>⟨h1,fun K hK=>h2 K (key K hK)⟩) fun ⟨h1,h2⟩=>⟨h1,fun K hK=>h2 K (key K hK)⟩
theorem oa_ {id:Nat} {a:Act} (ph tl:List Nat) (fr:(Nat->Value)->Act) (x:List Value) (cs:List Nat) (G:FnG) (S:World->Prop)
  (hS:∀ W,Below w0.heap.size w0 W->S W)
  (stab:allC (fun k=>∀ v lo hi W W',G k v lo hi W->Below W.heap.size W W'->G k v lo hi W') cs)
  (loc:allC (fun k=>∀ v v' lo lo' hi hi' W,(∀ j,j=k∨j∈Region.deps .any ops k->v j=v' j∧lo j=lo' j∧hi j=hi' j)->G k v lo hi W->G k v' lo' hi' W) cs)
  (steps:el_ P .any ops Q w0 fr x cs G S ph)
  (fin:∀ (v:Nat->Value) (lo hi:Nat->Nat) (W:World),Below w0.heap.size w0 W->S W->(∀ i,ph.contains i=true->w0.heap.size≤lo i∧lo i≤hi i∧hi i≤W.heap.size∧fcW x cs G i v lo hi W)->
   (∀ i j,ph.contains i=true->ph.contains j=true->i≠j->hi i≤lo j∨hi j≤lo i)->wpList P ops Q (tl.filterMap fun i=>ops[i]?) (fr v) W)
  (v0:Nat->Value:=fun _=>undef) (ha:a=fr v0:=by rfl) (hmix:P.follows .mixedOrders=true:=by rfl) (hc:Region.chkH .any ops ph tl=true:=by kernel_rfl) (hnd:ph.Nodup:=by decide):(Code.region id ops true).wp P Q a w0:=
 eu_ ph tl fr v0 (fcW x cs G) S hmix hc hnd ha (fun i v lo hi W W' h hb=>by
   unfold fcW at h ⊢;cases e:cs.contains i with
   | true=>rw [e] at h;exact stab.get i e v lo hi W W' h hb
   | false=>rw [e] at h;exact h) (fun i v v' lo lo' hi hi' W hag h=>by
   unfold fcW at h ⊢;cases e:cs.contains i with
   | true=>rw [e] at h;exact loc.get i e v v' lo lo' hi hi' W hag h
   | false=>rw [e] at h;exact (hag i (.inl rfl)).1 ▸ h) hS steps.to fin
theorem stw {D C:List Nat} {k:Nat} {o:Oper} (h:fo_ P ops Q w0 fr x cs G S D C k o:=by
  intro v lo hi W hb hS _
  first
   | (
    refine .inr ⟨rfl,fun K hK=>acx (hK W (Below.refl _ _)) ?_⟩;simp [Act.put,ov,vat]
    done)
   | (
    go_split_ands;refine .inl ⟨rfl,fun K hK=>?_⟩;simp only [ov,vat,Nat.reduceBEq,cond_true,cond_false];go_wp2_with fail
    refine acx (hK W (Below.refl _ _)) ?_
    first
     | (simp [ov,vat];done)
     | (simp [ov,vat, *];done)
    done)
   | fail):fo_ P ops Q w0 fr x cs G S D C k o:=h
end
section
variable {P:Program} {ops:Array Oper} {Q:Exit->Act->World->Prop} {md:Region.Mode}
variable {w0:World} {fr:(Nat->Value)->Act} {S:World->Prop} {x:List Value} {cs:List Nat} {G:FnG}
def j3_ (P:Program) (ops:Array Oper) (Q:Exit->Act->World->Prop) (w0:World) (fr:(Nat->Value)->Act) (x:List Value) (cs:List Nat) (G:FnG) (S:World->Prop) (D C:List Nat) (k:Nat) (o:Oper):Prop:=
 ∀ (v:Nat->Value) (lo hi:Nat->Nat) (W:World),Below w0.heap.size w0 W->S W->allC (fun j=>lo j≤hi j∧hi j≤W.heap.size∧G j v lo hi W) C->
  Region.wanted o (yielded ops (fr (ov x D v)).tmps)=true∧∀ K:Act->World->Prop,gokW fr x cs G D v lo hi W k K->Oper.wp P o (fr (ov x D v)) W K Q
def gn_ (P:Program) (md:Region.Mode) (ops:Array Oper) (Q:Exit->Act->World->Prop) (w0:World) (fr:(Nat->Value)->Act) (x:List Value) (cs:List Nat) (G:FnG) (S:World->Prop):List Nat->Prop
 | []=>True
 | k :: r=>(∃ D C o,ops[k]? = some o∧((D.all fun j=>(Region.deps md ops k).contains j && !cs.contains j) && C.all fun j=>(Region.deps md ops k).contains j && cs.contains j)=true∧j3_ P ops Q w0 fr x cs G S D C k o)∧gn_ P md ops Q w0 fr x cs G S r
theorem gn_.to:∀ {l:List Nat},gn_ P md ops Q w0 fr x cs G S l->fe_ P md ops Q w0 fr (fcW x cs G) S l
 | [],_=>trivial
 | k :: r,⟨⟨D,C,o,e,hD,h⟩,t⟩=>by
  refine ⟨fun o' e'=>?_,t.to⟩;have hs:e2_ P md ops Q w0 fr (fcW x cs G) S [k]:=el_.to ⟨⟨D,C,o,e,hD,fun v lo hi W h1 h2 h3=>.inl (h v lo hi W h1 h2 h3)⟩,trivial⟩;intro v lo hi W hb hS hd;rw [e] at e';cases e';have hw:=(h v lo hi W hb hS (.of fun j hj=>by
   rw [Bool.and_eq_true,List.all_eq_true,List.all_eq_true] at hD;have h1:=hD.2 j hj;rw [Bool.and_eq_true] at h1;have h2:=hd j (by simpa using h1.1);rw [fcW,h1.2] at h2;exact h2)).1
  rw [eg_ fun j hj=>by
   rw [Bool.and_eq_true,List.all_eq_true,List.all_eq_true] at hD;have h1:=hD.1 j hj;rw [Bool.and_eq_true] at h1;have h2:=(hd j (by simpa using h1.1)).2.2;rw [fcW,show cs.contains j=false by simpa using h1.2] at h2;exact h2] at hw
  rcases hs.1 o e v lo hi W hb hS hd with h1|⟨h1,_⟩
  ·exact h1
  ·rw [h1] at hw;cases hw
theorem ob_ {id:Nat} {a:Act} (ph:List Nat) (x0 t:Nat) (r:List Nat) (fr:(Nat->Value)->Act) (x:List Value) (cs:List Nat) (G:FnG) (S:World->Prop)
  (hS:∀ W,Below w0.heap.size w0 W->S W)
  (stab:allC (fun k=>∀ v lo hi W W',G k v lo hi W->Below W.heap.size W W'->G k v lo hi W') cs)
  (loc:allC (fun k=>∀ v v' lo lo' hi hi' W,(∀ j,j=k∨j∈Region.deps .any ops k->v j=v' j∧lo j=lo' j∧hi j=hi' j)->G k v lo hi W->G k v' lo' hi' W) cs)
  (steps:gn_ P .any ops Q w0 fr x cs G S ph)
  (fin:∀ (v:Nat->Value) (lo hi:Nat->Nat) (W:World),Below w0.heap.size w0 W->S W->(∀ i,ph.contains i=true->w0.heap.size≤lo i∧lo i≤hi i∧hi i≤W.heap.size∧fcW x cs G i v lo hi W)->
   (∀ i j,ph.contains i=true->ph.contains j=true->i≠j->hi i≤lo j∨hi j≤lo i)->wpList P ops Q ((t :: r).filterMap fun i=>ops[i]?) (fr v) W)
  (fin2:∀ (v:Nat->Value) (lo hi:Nat->Nat) (W:World),Below w0.heap.size w0 W->S W->(∀ i,ph.contains i=true->i≠x0->w0.heap.size≤lo i∧lo i≤hi i∧hi i≤W.heap.size∧fcW x cs G i v lo hi W)->
   (∀ i j,ph.contains i=true->ph.contains j=true->i≠x0->j≠x0->i≠j->hi i≤lo j∨hi j≤lo i)->wpList P ops Q ((x0 :: t :: r).filterMap fun i=>ops[i]?) (fr v) W∧wpList P ops Q ((t :: x0 :: r).filterMap fun i=>ops[i]?) (fr v) W)
  (v0:Nat->Value:=fun _=>undef) (ha:a=fr v0:=by rfl) (hmix:P.follows .mixedOrders=true:=by rfl) (hc:Region.chkX .any ops ph x0 t r=true:=by kernel_rfl) (hnd:ph.Nodup:=by decide):(Code.region id ops true).wp P Q a w0:=
 ix_ ph x0 t r fr v0 (fcW x cs G) S hmix hc hnd ha (fun i v lo hi W W' h hb=>by
   unfold fcW at h ⊢;cases e:cs.contains i with
   | true=>rw [e] at h;exact stab.get i e v lo hi W W' h hb
   | false=>rw [e] at h;exact h) (fun i v v' lo lo' hi hi' W hag h=>by
   unfold fcW at h ⊢;cases e:cs.contains i with
   | true=>rw [e] at h;exact loc.get i e v v' lo lo' hi hi' W hag h
   | false=>rw [e] at h;exact (hag i (.inl rfl)).1 ▸ h) hS steps.to fin fin2
theorem stl {D C:List Nat} {k:Nat} {o:Oper} (h:j3_ P ops Q w0 fr x cs G S D C k o:=by
  intro v lo hi W hb hS _
  first
   | (
    go_split_ands;refine ⟨rfl,fun K hK=>?_⟩;simp only [ov,vat,Nat.reduceBEq,cond_true,cond_false];go_wp2_with fail
    refine acx (hK W (Below.refl _ _)) ?_
    first
     | (simp [ov,vat];done)
     | (simp [ov,vat, *];done)
    done)
   | fail):j3_ P ops Q w0 fr x cs G S D C k o:=h
end
def puts:List Nat->List Nat->(Nat->Value)->List Value->List Value
 | d :: ds,k :: r,v,t=>puts ds r v (t.set d (v k))
 | _,_,_,t=>t
def bu_:List Nat->List Nat->Nat->Nat
 | d :: ds,k' :: r,k=>if k=k' then d else bu_ ds r k
 | _,_,_=>0
theorem cr_:∀ {ds ph:List Nat},ph.Nodup->∀ p∈ds.zip ph,bu_ ds ph p.2=p.1
 | [],_,_,p,hp=>by simp at hp
 | _ :: _,[],_,p,hp=>by simp at hp
 | d :: ds,k :: r,hn,p,hp=>by
  rw [List.zip_cons_cons] at hp;have hn:=List.nodup_cons.1 hn;rcases List.mem_cons.1 hp with rfl|hp
  ·simp [bu_]
  ·have hm:p.2∈r:=(List.of_mem_zip (a:=p.1) (b:=p.2) hp).2;unfold bu_;rw [if_neg (fun e=>hn.1 (by rw [<- e];exact hm)),cr_ hn.2 p hp]
theorem d8_ {v:Nat->Value} {t:List Value}:∀ {ds ph:List Nat},(∀ p∈ds.zip ph,v p.2=t.getD p.1 undef)->puts ds ph v t=t
 | [],_,_=>by unfold puts;rfl
 | _ :: _,[],_=>rfl
 | d :: ds,k :: r,h=>by
  have h1:v k=t.getD d undef:=h (d,k) sq_;have h2:t.set d (v k)=t:=by
   rw [h1];refine List.ext_getElem? fun j=>?_;rw [List.getElem?_set]
   split
   ·rename_i e;subst e;by_cases hl:d<t.length
    ·simp [hl,List.getD_eq_getElem?_getD]
    ·simp [hl]
   ·rfl
  unfold puts;rw [h2];exact d8_ fun p hp=>h p (by rw [List.zip_cons_cons];exact List.mem_cons_of_mem _ hp)
theorem jl_ {v u:Nat->Value}:∀ {ds ph:List Nat} {t:List Value},(∀ k∈ph,v k=u k)->puts ds ph v t=puts ds ph u t
 | [],_,_,_=>by unfold puts;rfl
 | _ :: _,[],_,_=>rfl
 | d :: ds,k :: r,t,h=>by
  unfold puts;rw [h k sq_];exact jl_ fun j hj=>h j (by simp [hj])
def SS (w0:World) (S:World->Prop):Prop:=∀ W,Below w0.heap.size w0 W->S W
theorem SS.a {w0:World} {S:World->Prop} {ad:Addr} {u:Value} (e:w0.cell? ad=some u) (h:SS w0 S):SS w0 (fun W=>W.cell? ad=some u∧S W):=fun W hb=>⟨(hb.cell (World.block_lt_of_cell? w0 _ e)).trans e,h W hb⟩
theorem SS.z {w0:World} {ad:Addr} {u:Value} (e:w0.cell? ad=some u):SS w0 (fun W=>W.cell? ad=some u):=fun W hb=>(hb.cell (World.block_lt_of_cell? w0 _ e)).trans e
theorem SS.b {w0:World}:SS w0 (fun W=>Below w0.heap.size w0 W):=fun _ hb=>hb
theorem SS.g {w0:World} (T:World->Prop) (g:∀ W,Below w0.heap.size w0 W->T W):SS w0 T:=g
section
variable {P:Program} {ops:Array Oper} {Q:Exit->Act->World->Prop} {md:Region.Mode}
variable {w0:World} {fr:(Nat->Value)->Act} {S:World->Prop} {x:List Value} {cs:List Nat} {G:FnG}
def de_ (P:Program) (md:Region.Mode) (ops:Array Oper) (Q:Exit->Act->World->Prop) (w0:World) (fr:(Nat->Value)->Act) (x:List Value) (S:World->Prop):List Nat->List (List Nat)->Prop
 | [],_=>True
 | k :: r,D :: DS=>(∃ o,ops[k]? = some o∧(D.all fun j=>(Region.deps md ops k).contains j)=true∧j4_ P ops Q w0 fr x S D k o)∧de_ P md ops Q w0 fr x S r DS
 | _,_=>False
theorem de_.n {DS:List (List Nat)}:de_ P md ops Q w0 fr x S [] DS:=trivial
theorem de_.c {k:Nat} {o:Oper} {r D:List Nat} {DS:List (List Nat)} (h:j4_ P ops Q w0 fr x S D k o) (t:de_ P md ops Q w0 fr x S r DS) (e:ops[k]? = some o:=by rfl) (hD:(D.all fun j=>(Region.deps md ops k).contains j)=true:=by kernel_rfl):de_ P md ops Q w0 fr x S (k :: r) (D :: DS):=⟨⟨o,e,hD,h⟩,t⟩
theorem de_.to:∀ {l:List Nat} {DS:List (List Nat)},de_ P md ops Q w0 fr x S l DS->go_ P md ops Q w0 fr x S l
 | [],_,_=>trivial
 | _ :: _,[],h=>h.elim
 | _ :: _,D :: _,⟨⟨o,e,hD,h⟩,t⟩=>⟨⟨D,o,e,hD,h⟩,t.to⟩
def bs_ (P:Program) (md:Region.Mode) (ops:Array Oper) (Q:Exit->Act->World->Prop) (w0:World) (fr:(Nat->Value)->Act) (x:List Value) (cs:List Nat) (G:FnG) (S:World->Prop):List Nat->List (List Nat)->List (List Nat)->Prop
 | [],_,_=>True
 | k :: r,D :: DS,[]=>(∃ o,ops[k]? = some o∧((D.all fun j=>(Region.deps md ops k).contains j && !cs.contains j) && ([]:List Nat).all fun j=>(Region.deps md ops k).contains j && cs.contains j)=true∧fo_ P ops Q w0 fr x cs G S D [] k o)∧bs_ P md ops Q w0 fr x cs G S r DS []
 | k :: r,D :: DS,C :: CS=>(∃ o,ops[k]? = some o∧((D.all fun j=>(Region.deps md ops k).contains j && !cs.contains j) && C.all fun j=>(Region.deps md ops k).contains j && cs.contains j)=true∧fo_ P ops Q w0 fr x cs G S D C k o)∧bs_ P md ops Q w0 fr x cs G S r DS CS
 | _,_,_=>False
theorem bs_.n {DS CS:List (List Nat)}:bs_ P md ops Q w0 fr x cs G S [] DS CS:=trivial
theorem bs_.c {k:Nat} {o:Oper} {r D C:List Nat} {DS CS:List (List Nat)} (h:fo_ P ops Q w0 fr x cs G S D C k o) (t:bs_ P md ops Q w0 fr x cs G S r DS CS) (e:ops[k]? = some o:=by rfl) (hD:((D.all fun j=>(Region.deps md ops k).contains j && !cs.contains j) && C.all fun j=>(Region.deps md ops k).contains j && cs.contains j)=true:=by kernel_rfl):bs_ P md ops Q w0 fr x cs G S (k :: r) (D :: DS) (C :: CS):=⟨⟨o,e,hD,h⟩,t⟩
theorem bs_.d {k:Nat} {o:Oper} {r D:List Nat} {DS:List (List Nat)} (h:fo_ P ops Q w0 fr x cs G S D [] k o) (t:bs_ P md ops Q w0 fr x cs G S r DS []) (e:ops[k]? = some o:=by rfl) (hD:((D.all fun j=>(Region.deps md ops k).contains j && !cs.contains j) && ([]:List Nat).all fun j=>(Region.deps md ops k).contains j && cs.contains j)=true:=by kernel_rfl):bs_ P md ops Q w0 fr x cs G S (k :: r) (D :: DS) []:=⟨⟨o,e,hD,h⟩,t⟩
theorem bs_.to:∀ {l:List Nat} {DS CS:List (List Nat)},bs_ P md ops Q w0 fr x cs G S l DS CS->el_ P md ops Q w0 fr x cs G S l
 | [],_,_,_=>trivial
 | _ :: _,[],_,h=>h.elim
 | _ :: _,D :: _,[],⟨⟨o,e,hD,h⟩,t⟩=>⟨⟨D,[],o,e,hD,h⟩,t.to⟩
 | _ :: _,D :: _,C :: _,⟨⟨o,e,hD,h⟩,t⟩=>⟨⟨D,C,o,e,hD,h⟩,t.to⟩
theorem a9_ {id:Nat} {t:List Value} {df:List Deferred} (ph tl ds:List Nat) (x:List Value) (DS:List (List Nat))
  (hS:SS w0 S)
  (steps:de_ P .any ops Q w0 fr x S ph DS)
  (fin:∀ W,Below w0.heap.size w0 W->S W->wpList P ops Q (tl.filterMap fun i=>ops[i]?) (fr (vat x)) W)
  (hfr:(fun v=>(⟨(puts ds ph v t).toArray,df⟩:Act))=fr:=by (simp only [puts,List.set_cons_zero,List.set_cons_succ];rfl))
  (hmix:P.follows .mixedOrders=true:=by rfl) (hc:Region.chkH .any ops ph tl=true:=by kernel_rfl) (hnd:ph.Nodup:=by decide):(Code.region id ops true).wp P Q ⟨t.toArray,df⟩ w0:=by
 subst hfr;exact o9_ ph tl _ x S hS steps.to fin (fun k=>t.getD (bu_ ds ph k) undef) (by
  show _=Act.mk _ _;rw [d8_ fun p hp=>by show t.getD (bu_ ds ph p.2) undef=_;rw [cr_ hnd p hp]]) hmix hc hnd fun v hv=>by
   show Act.mk _ _=Act.mk _ _;rw [jl_ fun k hk=>hv k (by simpa using hk)]
theorem aw_ {id:Nat} {t:List Value} {df:List Deferred} (ph tl ds:List Nat) (x:List Value) (DS CS:List (List Nat)) (cs:List Nat) (G:FnG)
  (hS:SS w0 S)
  (steps:bs_ P .any ops Q w0 fr x cs G S ph DS CS)
  (fin:∀ (v:Nat->Value) (lo hi:Nat->Nat) (W:World),Below w0.heap.size w0 W->S W->(∀ i,ph.contains i=true->w0.heap.size≤lo i∧lo i≤hi i∧hi i≤W.heap.size∧fcW x cs G i v lo hi W)->
   (∀ i j,ph.contains i=true->ph.contains j=true->i≠j->hi i≤lo j∨hi j≤lo i)->wpList P ops Q (tl.filterMap fun i=>ops[i]?) (fr v) W)
  (hfr:(fun v=>(⟨(puts ds ph v t).toArray,df⟩:Act))=fr:=by (simp only [puts,List.set_cons_zero,List.set_cons_succ];rfl))
  (stab:allC (fun k=>∀ v lo hi W W',G k v lo hi W->Below W.heap.size W W'->G k v lo hi W') cs:=by
   first
    | (
     repeat' apply And.intro
     all_goals first|trivial|(intro v lo hi W W' h hb;exact h.ext hb)
     done)
    | fail)
  (loc:allC (fun k=>∀ v v' lo lo' hi hi' W,(∀ j,j=k∨j∈Region.deps .any ops k->v j=v' j∧lo j=lo' j∧hi j=hi' j)->G k v lo hi W->G k v' lo' hi' W) cs:=by
   first
    | (
     repeat' apply And.intro
     all_goals first
      | trivial
      | (
        intro v v' lo lo' hi hi' W hag h;have q:=hag _ (.inl rfl)
        (try dsimp only at h ⊢)
        simp only [q.1,q.2.1,q.2.2] at h;exact h)
     done)
    | fail)
  (hmix:P.follows .mixedOrders=true:=by rfl) (hc:Region.chkH .any ops ph tl=true:=by kernel_rfl) (hnd:ph.Nodup:=by decide):(Code.region id ops true).wp P Q ⟨t.toArray,df⟩ w0:=by
 subst hfr;exact oa_ ph tl _ x cs G S hS stab loc steps.to fin (fun k=>t.getD (bu_ ds ph k) undef) (by
  show _=Act.mk _ _;rw [d8_ fun p hp=>by show t.getD (bu_ ds ph p.2) undef=_;rw [cr_ hnd p hp]]) hmix hc hnd
end
section
variable {P:Program} {ops:Array Oper} {Q:Exit->Act->World->Prop} {md:Region.Mode}
variable {w0:World} {fr:(Nat->Value)->Act} {S:World->Prop} {x:List Value} {cs:List Nat} {G:FnG} {row:Option Nat} {kx:Nat}
def df_ (P:Program) (md:Region.Mode) (ops:Array Oper) (Q:Exit->Act->World->Prop) (w0:World) (fr:(Nat->Value)->Act) (x:List Value) (cs:List Nat) (G:FnG) (S:World->Prop):List Nat->List (List Nat)->List (List Nat)->Prop
 | [],_,_=>True
 | k :: r,D :: DS,C :: CS=>(∃ o,ops[k]? = some o∧((D.all fun j=>(Region.deps md ops k).contains j && !cs.contains j) && C.all fun j=>(Region.deps md ops k).contains j && cs.contains j)=true∧j3_ P ops Q w0 fr x cs G S D C k o)∧df_ P md ops Q w0 fr x cs G S r DS CS
 | _,_,_=>False
theorem df_.n {DS CS:List (List Nat)}:df_ P md ops Q w0 fr x cs G S [] DS CS:=trivial
theorem df_.c {k:Nat} {o:Oper} {r D C:List Nat} {DS CS:List (List Nat)} (h:j3_ P ops Q w0 fr x cs G S D C k o) (t:df_ P md ops Q w0 fr x cs G S r DS CS) (e:ops[k]? = some o:=by rfl) (hD:((D.all fun j=>(Region.deps md ops k).contains j && !cs.contains j) && C.all fun j=>(Region.deps md ops k).contains j && cs.contains j)=true:=by kernel_rfl):df_ P md ops Q w0 fr x cs G S (k :: r) (D :: DS) (C :: CS):=⟨⟨o,e,hD,h⟩,t⟩
theorem df_.to:∀ {l:List Nat} {DS CS:List (List Nat)},df_ P md ops Q w0 fr x cs G S l DS CS->gn_ P md ops Q w0 fr x cs G S l
 | [],_,_,_=>trivial
 | _ :: _,[],_,h=>h.elim
 | _ :: _,_ :: _,[],h=>h.elim
 | _ :: _,D :: _,C :: _,⟨⟨o,e,hD,h⟩,t⟩=>⟨⟨D,C,o,e,hD,h⟩,t.to⟩
theorem o7_ {id:Nat} {t:List Value} {df:List Deferred} (ph:List Nat) (x0 tt:Nat) (r ds:List Nat) (x:List Value) (DS CS:List (List Nat)) (cs:List Nat) (G:FnG) (S:World->Prop)
  (hS:∀ W,Below w0.heap.size w0 W->S W)
  (steps:df_ P .any ops Q w0 fr x cs G S ph DS CS)
  (fin:∀ (v:Nat->Value) (lo hi:Nat->Nat) (W:World),Below w0.heap.size w0 W->S W->(∀ i,ph.contains i=true->w0.heap.size≤lo i∧lo i≤hi i∧hi i≤W.heap.size∧fcW x cs G i v lo hi W)->
   (∀ i j,ph.contains i=true->ph.contains j=true->i≠j->hi i≤lo j∨hi j≤lo i)->wpList P ops Q ((tt :: r).filterMap fun i=>ops[i]?) (fr v) W)
  (fin2:∀ (v:Nat->Value) (lo hi:Nat->Nat) (W:World),Below w0.heap.size w0 W->S W->(∀ i,ph.contains i=true->i≠x0->w0.heap.size≤lo i∧lo i≤hi i∧hi i≤W.heap.size∧fcW x cs G i v lo hi W)->
   (∀ i j,ph.contains i=true->ph.contains j=true->i≠x0->j≠x0->i≠j->hi i≤lo j∨hi j≤lo i)->wpList P ops Q ((x0 :: tt :: r).filterMap fun i=>ops[i]?) (fr v) W∧wpList P ops Q ((tt :: x0 :: r).filterMap fun i=>ops[i]?) (fr v) W)
  (hfr:(fun v=>(⟨(puts ds ph v t).toArray,df⟩:Act))=fr:=by (simp only [puts,List.set_cons_zero,List.set_cons_succ];rfl))
  (stab:allC (fun k=>∀ v lo hi W W',G k v lo hi W->Below W.heap.size W W'->G k v lo hi W') cs:=by
   first
    | (
     repeat' apply And.intro
     all_goals first|trivial|(intro v lo hi W W' h hb;exact h.ext hb)
     done)
    | fail)
  (loc:allC (fun k=>∀ v v' lo lo' hi hi' W,(∀ j,j=k∨j∈Region.deps .any ops k->v j=v' j∧lo j=lo' j∧hi j=hi' j)->G k v lo hi W->G k v' lo' hi' W) cs:=by
   first
    | (
     repeat' apply And.intro
     all_goals first
      | trivial
      | (
        intro v v' lo lo' hi hi' W hag h;have q:=hag _ (.inl rfl)
        (try dsimp only at h ⊢)
        simp only [q.1,q.2.1,q.2.2] at h;exact h)
     done)
    | fail)
  (hmix:P.follows .mixedOrders=true:=by rfl) (hc:Region.chkX .any ops ph x0 tt r=true:=by kernel_rfl) (hnd:ph.Nodup:=by decide):(Code.region id ops true).wp P Q ⟨t.toArray,df⟩ w0:=by
 subst hfr;exact ob_ ph x0 tt r _ x cs G S hS stab loc steps.to fin fin2 (fun k=>t.getD (bu_ ds ph k) undef) (by
  show Act.mk _ _=Act.mk _ _;rw [d8_ fun p hp=>by show t.getD (bu_ ds ph p.2) undef=_;rw [cr_ hnd p hp]]) hmix hc hnd
def lp_ (P:Program) (ops:Array Oper) (Q:Exit->Act->World->Prop) (w0:World) (row:Option Nat) (fr:(Nat->Value)->Act) (x:List Value) (cs:List Nat) (G:FnG) (S:World->Prop) (D C:List Nat) (k:Nat) (o:Oper):Prop:=
 ∀ (v:Nat->Value) (lo hi:Nat->Nat) (W:World),w0.grownBy W row->S W->allC (fun j=>lo j≤hi j∧hi j≤W.heap.size∧G j v lo hi W) C->
  ∀ K:Act->World->Prop,gokW fr x cs G D v lo hi W k K->Oper.wp P o (fr (ov x D v)) W K Q
def vz_ (P:Program) (ops:Array Oper) (Q:Exit->Act->World->Prop) (w0:World) (row:Option Nat) (fr:(Nat->Value)->Act) (x:List Value) (cs:List Nat) (G:FnG) (S:World->Prop) (D C:List Nat) (k:Nat) (o:Oper):Prop:=
 ∀ (v:Nat->Value) (lo hi:Nat->Nat) (W:World),w0.grownBy W row->Below w0.heap.size w0 W->S W->allC (fun j=>lo j≤hi j∧hi j≤W.heap.size∧G j v lo hi W) C->
  ∀ K:Act->World->Prop,(∀ y W',W.grownBy W' row->fcW x cs G k (fun j=>if j=k then y else v j) (fun j=>if j=k then W.heap.size else lo j) (fun j=>if j=k then W'.heap.size else hi j) W'->K (fr (upd (ov x D v) k y)) W')->Oper.wp P o (fr (ov x D v)) W K Q
def cc_ (P:Program) (md:Region.Mode) (ops:Array Oper) (Q:Exit->Act->World->Prop) (w0:World) (row:Option Nat) (kx:Nat) (fr:(Nat->Value)->Act) (x:List Value) (cs:List Nat) (G:FnG) (S:World->Prop):List Nat->List (List Nat)->List (List Nat)->Prop
 | [],_,_=>True
 | k :: r,D :: DS,C :: CS=>(∃ o,ops[k]? = some o∧((D.all fun j=>(Region.deps md ops k).contains j && !cs.contains j) && C.all fun j=>(Region.deps md ops k).contains j && cs.contains j)=true∧((k≠kx∧lp_ P ops Q w0 row fr x cs G S D C k o)∨(k=kx∧vz_ P ops Q w0 row fr x cs G S D C k o)))∧cc_ P md ops Q w0 row kx fr x cs G S r DS CS
 | _,_,_=>False
theorem cc_.n {DS CS:List (List Nat)}:cc_ P md ops Q w0 row kx fr x cs G S [] DS CS:=trivial
theorem cc_.c {k:Nat} {o:Oper} {r D C:List Nat} {DS CS:List (List Nat)} (h:lp_ P ops Q w0 row fr x cs G S D C k o) (t:cc_ P md ops Q w0 row kx fr x cs G S r DS CS) (hk:k≠kx:=by decide) (e:ops[k]? = some o:=by rfl) (hD:((D.all fun j=>(Region.deps md ops k).contains j && !cs.contains j) && C.all fun j=>(Region.deps md ops k).contains j && cs.contains j)=true:=by kernel_rfl):cc_ P md ops Q w0 row kx fr x cs G S (k :: r) (D :: DS) (C :: CS):=⟨⟨o,e,hD,.inl ⟨hk,h⟩⟩,t⟩
theorem cc_.y {o:Oper} {r D C:List Nat} {DS CS:List (List Nat)} (h:vz_ P ops Q w0 row fr x cs G S D C kx o) (t:cc_ P md ops Q w0 row kx fr x cs G S r DS CS) (e:ops[kx]? = some o:=by rfl) (hD:((D.all fun j=>(Region.deps md ops kx).contains j && !cs.contains j) && C.all fun j=>(Region.deps md ops kx).contains j && cs.contains j)=true:=by kernel_rfl):cc_ P md ops Q w0 row kx fr x cs G S (kx :: r) (D :: DS) (C :: CS):=⟨⟨o,e,hD,.inr ⟨rfl,h⟩⟩,t⟩
theorem cc_.to:∀ {l:List Nat} {DS CS:List (List Nat)},cc_ P md ops Q w0 row kx fr x cs G S l DS CS->fd_ P md ops Q w0 row kx fr (fcW x cs G) S l
 | [],_,_,_=>trivial
 | _ :: _,[],_,h=>h.elim
 | _ :: _,_ :: _,[],h=>h.elim
 | k :: _,D :: _,C :: _,⟨⟨o,e,hD,h⟩,t⟩=>by
  refine ⟨fun o' e'=>?_,t.to⟩;rw [e] at e';cases e';intro v lo hi W hb hkx hS hd K hK;rw [Bool.and_eq_true,List.all_eq_true,List.all_eq_true] at hD;have hj:∀ j∈D,v j=vat x j:=fun j hj=>by
   have h1:=hD.1 j hj;rw [Bool.and_eq_true] at h1;have h2:=(hd j (by simpa using h1.1)).2.2;rw [fcW,show cs.contains j=false by simpa using h1.2] at h2;exact h2
  have hC:allC (fun j=>lo j≤hi j∧hi j≤W.heap.size∧G j v lo hi W) C:=.of fun j hj=>by
   have h1:=hD.2 j hj;rw [Bool.and_eq_true] at h1;have h2:=hd j (by simpa using h1.1);rw [fcW,h1.2] at h2;exact h2
  rcases h with ⟨hk,h⟩|⟨rfl,h⟩
  ·have h':=h v lo hi W hb hS hC K (by
    unfold gokW;cases hc:cs.contains k with
    | false=>exact fun W' hb'=>by rw [ka_ hj];exact hK (vat x k) W' (by rw [if_neg hk];exact hb') (by rw [fcW,hc];simp)
    | true=>exact fun y W' hb' hg=>by rw [eg_ hj];exact hK y W' (by rw [if_neg hk];exact hb') (by rw [fcW,hc];exact hg))
   rw [eg_ hj] at h';exact h'
  ·have h':=h v lo hi W hb (hkx rfl) hS hC K (fun y W' hg hf=>by rw [eg_ hj];exact hK y W' (by rw [if_pos rfl];exact hg) hf);rw [eg_ hj] at h';exact h'
theorem o8_ {id:Nat} {t:List Value} {df:List Deferred} (row:Option Nat) (kx:Nat) (ph tl ds:List Nat) (x:List Value) (DS CS:List (List Nat)) (cs:List Nat) (G:FnG) (S:World->Prop)
  (hS:∀ W,w0.grownBy W row->S W)
  (stab:allC (fun k=>∀ v lo hi W W',G k v lo hi W->(if k=kx then Below W.heap.size W W' else W.grownBy W' row)->G k v lo hi W') cs)
  (steps:cc_ P .any ops Q w0 row kx fr x cs G S ph DS CS)
  (fin:∀ (v:Nat->Value) (lo hi:Nat->Nat) (W:World),w0.grownBy W row->S W->(∀ i,ph.contains i=true->w0.heap.size≤lo i∧lo i≤hi i∧hi i≤W.heap.size∧fcW x cs G i v lo hi W)->
   (∀ i j,ph.contains i=true->ph.contains j=true->i≠j->hi i≤lo j∨hi j≤lo i)->wpList P ops Q (tl.filterMap fun i=>ops[i]?) (fr v) W)
  (hfr:(fun v=>(⟨(puts ds ph v t).toArray,df⟩:Act))=fr:=by (simp only [puts,List.set_cons_zero,List.set_cons_succ];rfl))
  (loc:allC (fun k=>∀ v v' lo lo' hi hi' W,(∀ j,j=k∨j∈Region.deps .any ops k->v j=v' j∧lo j=lo' j∧hi j=hi' j)->G k v lo hi W->G k v' lo' hi' W) cs:=by
   first
    | (
     repeat' apply And.intro
     all_goals first
      | trivial
      | (
        intro v v' lo lo' hi hi' W hag h;have q:=hag _ (.inl rfl)
        (try dsimp only at h ⊢)
        simp only [q.1,q.2.1,q.2.2] at h;exact h)
     done)
    | fail)
  (hmix:P.follows .mixedOrders=true:=by rfl) (hc:Region.chk .any ops ph tl=true:=by kernel_rfl) (hnd:ph.Nodup:=by decide):(Code.region id ops true).wp P Q ⟨t.toArray,df⟩ w0:=by
 subst hfr;refine li_ row kx ph tl _ (fun k=>t.getD (bu_ ds ph k) undef) (fcW x cs G) S hmix hc hnd (by
  show Act.mk _ _=Act.mk _ _;rw [d8_ fun p hp=>by show t.getD (bu_ ds ph p.2) undef=_;rw [cr_ hnd p hp]]) (fun i v lo hi W W' h hb=>?_) (fun i v v' lo lo' hi hi' W hag h=>?_) hS steps.to fin
 ·unfold fcW at h ⊢;cases e:cs.contains i with
  | true=>rw [e] at h;exact stab.get i e v lo hi W W' h hb
  | false=>rw [e] at h;exact h
 ·unfold fcW at h ⊢;cases e:cs.contains i with
  | true=>rw [e] at h;exact loc.get i e v v' lo lo' hi hi' W hag h
  | false=>rw [e] at h;exact (hag i (.inl rfl)).1 ▸ h
theorem str {D C:List Nat} {k:Nat} {o:Oper} (h:lp_ P ops Q w0 row fr x cs G S D C k o:=by
  intro v lo hi W hb hS _
  first
   | (
    go_split_ands;intro K hK;simp only [ov,vat,Nat.reduceBEq,cond_true,cond_false];go_wp2_with fail
    refine acx (hK W (Below.refl _ _)) ?_
    first
     | (simp [ov,vat];done)
     | (simp [ov,vat, *];done)
    done)
   | fail):lp_ P ops Q w0 row fr x cs G S D C k o:=h
end
def jv_ {β:Type} (x:Option Nat) (J:β->World->Prop):Prop:=
 ∀ (s:β) (W W':World) (row:Option Nat),J s W->W.grownBy W' row->(∀ r,row=some r->x=some r∧∃ o:Obj,W.heap[r]? = some o∧o.isCells=true)->J s W'
def OwnX {β:Type} (B:Nat) (x:Option Nat) (J:β->World->Prop):Prop:=
 ∀ (s:β) (W W':World) (row:Option Nat),J s W->W.grownBy W' row->
  (∀ r,row=some r->(x=some r∧∃ o:Obj,W.heap[r]? = some o∧o.isCells=true)∨(B≤r∧∃ o:Obj,W.heap[r]? = some o∧o.isCells=false))->J s W'
variable {P:Program}
theorem OwnX.putObj {β:Type} {B:Nat} {x:Option Nat} {I:β->World->Prop} (h:OwnX B x I) {s:β} {W:World} {l:Nat} {o:Obj} (o':Obj) (hs:I s W) (hB:B≤l) (hl:W.heap[l]? = some o) (ho:o.isCells=false):I s (W.putObj l o'):=
 h s W _ (some l) hs (grownBy_putObj' W l o') (fun r e=>by cases e;exact .inr ⟨hB,o,hl,ho⟩)
theorem OwnX.alloc {β:Type} {B:Nat} {x:Option Nat} {I:β->World->Prop} (h:OwnX B x I) {s:β} {W:World} (o:Obj) (hs:I s W):I s (W.alloc o):=
 h s W _ none hs (World.grownBy_alloc W o none) (fun r e=>by cases e)
def aj_ (B:Nat) (ds:List Deferred) (w:World):Prop:=
 ∃ Ds:List Nat,ds=Ds.map (fun D=>{ target:=.collected D,args:=#[] })∧Ds.Nodup∧∀ D∈Ds,B≤D∧w.heap[D]? = some (.deferred (some []))
theorem aj_.nil (B:Nat) (w:World):aj_ B [] w:=⟨[],rfl,.nil,sq_⟩
theorem aj_.cons {B D:Nat} {ds:List Deferred} {w w':World} (h:aj_ B ds w) (hB:B≤D) (hk:KeepsFrom B w w') (hlt:w.heap.size≤D) (hD:w'.heap[D]? = some (.deferred (some []))) :
  aj_ B ({ target:=.collected D,args:=#[] } :: ds) w':=by
 obtain ⟨Ds,rfl,hn,hall⟩:=h;refine ⟨D :: Ds,rfl,List.nodup_cons.2 ⟨fun hm=>?_,hn⟩,fun D' hD'=>?_⟩
 ·have:=(Array.getElem?_eq_some_iff.1 (hall D hm).2).1;omega
 ·rcases List.mem_cons.1 hD' with rfl|hm
  ·exact ⟨hB,hD⟩
  ·exact ⟨(hall D' hm).1,hk.same _ _ (hall D' hm).1 (hall D' hm).2 rfl⟩
theorem aj_.keep {B:Nat} {ds:List Deferred} {w w':World} (h:aj_ B ds w) (hk:KeepsFrom B w w'):aj_ B ds w':=by
 obtain ⟨Ds,rfl,hn,hall⟩:=h;exact ⟨Ds,rfl,hn,fun D hD=>⟨(hall D hD).1,hk.same _ _ (hall D hD).1 (hall D hD).2 rfl⟩⟩
structure vv_ (B:Nat) (w w':World):Prop where
 below:Below B w w'
 cells:∀ (k:Nat) (o:Obj),w.heap[k]? = some o->o.isCells=true->w'.heap[k]? = some o
theorem ah_ {B n:Nat} {fn:Func} {tmps:Array Value} {R:Ending->World->Prop}:∀ (ds:List Deferred) (w:World),aj_ B ds w->
  (∀ w',vv_ B w w'->∃ v,(results fn tmps).run P w'=.ok v w'∧R (.returned v) w')->LeavesInM Fence.wide n P fn tmps R ds .returning w:=by
 intro ds;induction ds with
 | nil=>
  intro w _ h;exact h w ⟨Below.refl _ _,fun _ _ h _=>h⟩
 | cons d ds ih=>
  intro w hM h;obtain ⟨Ds,hds,hn,hall⟩:=hM;cases Ds with
  | nil=>cases hds
  | cons D Ds=>
   simp only [List.map_cons,List.cons.injEq] at hds;obtain ⟨rfl,rfl⟩:=hds;have hD:=hall D sq_;have hnd:=List.nodup_cons.1 hn;refine ⟨sq_,.inl ⟨_,_,rfl,run_takeDeferred hD.2,?_⟩⟩;have hlt:=(Array.getElem?_eq_some_iff.1 hD.2).1;refine ih _ ⟨Ds,rfl,hnd.2,fun D' hD'=>⟨(hall D' (by simp [hD'])).1,?_⟩⟩ fun w' hs=>h w' ?_
   ·have hne:D'≠D:=fun e=>hnd.1 (e ▸ hD');exact (World.putObj_heap_other oq_).trans (hall D' (by simp [hD'])).2
   ·refine ⟨((Below.refl B w).grown (grownBy_putObj' w D (.deferred none)) (by have:=hD.1;omega) (fun k e=>by cases e;exact hD.1)).trans hs.below,fun k o hk ho=>?_⟩;refine hs.cells k o ?_ ho;have hne:k≠D:=fun e=>by subst e;rw [hD.2] at hk;cases hk;cases ho
    exact (World.putObj_heap_other oq_).trans hk
section
variable {b:Frame} {a:Act} {k:List Item} {cs:List Frame} {w:World} {Q:Exit->Act->World->Prop} {F:Fence} {n:Nat}
end
end Go
namespace Go.Proofs.YtkclokcenllhmaaGreat
open Go.RowKit Kal
theorem sf_ {a b:Int} (a0:0≤a) (a1:a≤4294967295) (b0:0≤b) (b1:b≤4294967295):0≤a*b∧a*b≤18446744065119617025:=by
 have h1:=Int.mul_nonneg a0 b0;have h2:=Int.mul_le_mul a1 b1 b0 oq_;omega
theorem f5_ (a b:Int) (w:World) (a0:0≤a) (a1:a≤4294967295) (b0:0≤b) (b1:b≤4294967295) :
  Calls Tryz.prog 275 #[.int .u64 a,.int .u64 b] w fun e w'=>e=.returned (.tuple #[.int .u64 0,.int .u64 (a*b)])∧w=w':=by
 obtain ⟨p0,p1⟩:=sf_ a0 a1 b0 b1;obtain ⟨x,rfl⟩:=Int.eq_ofNat_of_zero_le a0;obtain ⟨y,rfl⟩:=Int.eq_ofNat_of_zero_le b0;have e:((x*y:Nat):Int)=(x:Int)*y:=by push_cast;rfl
 rw [<- e] at p0 p1 ⊢;refine (Tryz.bits_Mul64 x y oq_ oq_ w).mono ?_;rintro e w' ⟨rfl,rfl⟩;rw [Nat.div_eq_of_lt oq_,Nat.mod_eq_of_lt oq_];exact ⟨rfl,rfl⟩
theorem pi_ {x g B:Int} (hg:1≤g) (hB:0≤B) (h1:-B≤x) (h2:x≤B):-B≤x / g∧x / g≤B:=by
 have hm:B*1≤B*g:=Int.mul_le_mul_of_nonneg_left hg hB;constructor
 ·rw [Int.le_ediv_iff_mul_le oq_,Int.neg_mul];omega
 ·exact Int.lt_add_one_iff.1 ((Int.ediv_lt_iff_lt_mul oq_).2 (by rw [Int.add_mul];omega))
structure OwnI (w:World) (base:Nat) (v:Value) (l:List Int):Prop where
 row:w.ownsRow base 3 1 v l.length (l.map (Value.int .i64))
 rng:∀ x∈l,InI x
 len:l.length≤17592186044416
theorem OwnI.nil (w:World) (base:Nat):OwnI w base (.slice none 0 0) []:=⟨World.ownsRow_nil w base _ 1,sq_,sq_⟩
theorem OwnI.ints {w:World} {base:Nat} {v:Value} {l:List Int} (h:OwnI w base v l):Ints w v l:=by
 obtain ⟨⟨h1,h2⟩,h3,h4⟩:=h;refine ⟨?_,h4,h3⟩;rcases h2 with ⟨rfl,h0⟩|⟨g,cap,cur,rfl,hg,hh,hn,hc,hs,ht⟩
 ·have:l=[]:=List.eq_nil_of_length_eq_zero h0;subst this;exact ⟨none,0,rfl,sq_,oq_,.inl rfl⟩
 ·unfold maxLen at hc;refine ⟨_,cap,rfl,hn,oq_,.inr ⟨g,0,rfl,fun i hi=>?_⟩⟩;have e:(cur.toList.take (l.length*1))[i]? = (l.map (Value.int .i64))[i]?:=by rw [ht]
  rw [List.getElem?_take_of_lt oq_] at e;simp only [World.cell?,hh,Nat.zero_add,Option.isSome_none,Bool.false_eq_true,if_false];rw [<- Array.getElem?_toList,e];simp [hi]
theorem OwnI.form {w:World} {base:Nat} {v:Value} {l:List Int} (h:OwnI w base v l):∃ a c,v=.slice a l.length c:=by
 obtain ⟨a,c,hv,_⟩:=h.ints.is;exact ⟨a,c,hv⟩
theorem OwnI.kept {w w':World} {base:Nat} {v:Value} {l:List Int} {row:Option Nat} (h:OwnI w base v l) (hg:w.grownBy w' row) (hne:v.ownBlock=none∨v.ownBlock≠row):OwnI w' base v l:=
 ⟨h.row.kept hg hne,h.rng,h.len⟩
theorem OwnI.lt {w:World} {base:Nat} {v:Value} {l:List Int} (h:OwnI w base v l):∀ k,v.ownBlock=some k->base≤k∧k<w.heap.size:=h.row.lt
theorem OwnI.ext {w w':World} {base:Nat} {v:Value} {l:List Int} (h:OwnI w base v l) (hb:Below w.heap.size w w'):OwnI w' base v l:=by
 obtain ⟨⟨h1,h2⟩,h3,h4⟩:=h;refine ⟨⟨h1,?_⟩,h3,h4⟩;rcases h2 with h2|⟨g,cap,cur,hv,hg,hh,hr⟩
 ·exact .inl h2
 ·exact .inr ⟨g,cap,cur,hv,hg,by rw [hb.block g (Array.getElem?_eq_some_iff.1 hh).1];exact hh,hr⟩
theorem OwnI.mono {w:World} {base base':Nat} {v:Value} {l:List Int} (h:OwnI w base v l) (hb:base'≤base):OwnI w base' v l:=by
 obtain ⟨⟨h1,h2⟩,h3,h4⟩:=h;refine ⟨⟨h1,?_⟩,h3,h4⟩;rcases h2 with h2|⟨g,cap,cur,hv,hg,hr⟩
 ·exact .inl h2
 ·exact .inr ⟨g,cap,cur,hv,oq_,hr⟩
structure bw_ (B:Nat) (w w':World):Prop where
 size:w.heap.size≤w'.heap.size
 block:∀ k,B≤k->k<w.heap.size->w'.heap[k]? = w.heap[k]?
theorem bw_.refl (B:Nat) (w:World):bw_ B w w:=⟨Nat.le_refl _,fun _ _ _=>rfl⟩
theorem bw_.setCell {B:Nat} {w W:World} (h:bw_ B w W) {a:Addr} (ha:a.block<B) (v:Value):bw_ B w (W.setCell a v):=
 ⟨by have:=h.size;simp [World.setCell];omega,fun k h1 h2=>(Below.heap_setCell W a v k oq_).trans (h.block k h1 h2)⟩
theorem OwnI.above {w w':World} {base:Nat} {v:Value} {l:List Int} (h:OwnI w base v l) (hb:bw_ base w w'):OwnI w' base v l:=by
 obtain ⟨⟨h1,h2⟩,h3,h4⟩:=h;refine ⟨⟨h1,?_⟩,h3,h4⟩;rcases h2 with h2|⟨g,cap,cur,hv,hg,hh,hr⟩
 ·exact .inl h2
 ·exact .inr ⟨g,cap,cur,hv,hg,by rw [hb.block g hg (Array.getElem?_eq_some_iff.1 hh).1];exact hh,hr⟩
def tk_ (w:World) (l:List Int) (e:Ending) (w':World):Prop:=∃ v',e=.returned v'∧OwnI w' w.heap.size v' l∧Below w.heap.size w w'
theorem kj_ (v:Value) (l:List Int) (w:World) (hv:Ints w v l):Calls Tryz.prog 112 #[v] w (tk_ w l):=by
 obtain ⟨⟨a,c,rfl,h1,h2,h3⟩,h4,h5⟩:=hv;rcases h3 with h3|⟨b,o,rfl,hcell⟩
 ·subst h3;cases a with
  | none=>exact (Tryz.slices_Clone_int_nil 0 c w).mono fun e w' ⟨he,hw⟩=>⟨_,he,by rw [hw];exact OwnI.nil w _,by rw [hw];exact Below.refl _ _⟩
  | some a=>exact (Tryz.slices_Clone_int_zero a c w).mono fun e w' ⟨v',he,ho,_,hb⟩=>⟨v',he,⟨ho,sq_,sq_⟩,hb⟩
 ·refine (Tryz.slices_Clone_int b o l.length c l w (Nat.le_refl _) oq_ hcell).mono fun e w' ⟨v',he,ho,_,hb⟩=>⟨v',he,⟨?_,h5,h4⟩,hb⟩;rwa [List.take_length] at ho
theorem dr_:∃ i,Tryz.prog.info? 3=some i∧i.zero=some (.int .i64 0)∧i.size=1∧i.bytes=8:=by
 have h:(Tryz.prog.info? 3).map (fun i=>(i.zero,i.size,i.bytes))=some (some (.int .i64 0),1,8):=by kernel_rfl
 obtain ⟨i,hi,h1,h2,h3⟩:=info_parts h;exact ⟨i,hi,h1,h2,h3⟩
theorem OwnI.below_grown {W w1:World} {base:Nat} {v:Value} {l:List Int} (h:OwnI W base v l) {W0:World} (hW:W0.heap.size≤W.heap.size∨True) (hbase:base≤W.heap.size) (hg:W.grownBy w1 v.ownBlock):Below base W w1:=
 (Below.refl base W).grown hg hbase (fun k e=>(h.lt k e).1)
theorem OwnI.appended {w':World} {base g cap:Nat} {l:List Int} {y:Int} (hl:∀ x∈l,InI x) (hy:InI y) (hlen:l.length+1≤17592186044416)
  (h:w'.ownsRow base 3 1 (.slice (some ⟨g,0,none⟩) (l.length+1) cap) (l.length+1) (l.map (Value.int .i64) ++ [.int .i64 y])):OwnI w' base (.slice (some ⟨g,0,none⟩) (l.length+1) cap) (l ++ [y]):=by
 refine ⟨?_,fun x hx=>?_,by simpa using hlen⟩
 ·rw [List.length_append,List.map_append];exact h
 ·rcases List.mem_append.1 hx with hx|hx
  ·exact hl x hx
  ·obtain rfl:x=y:=by simpa using hx
   exact hy
theorem hv_ {w:World} {ops:Array Oper} {rest:List Oper} {o:Oper} {a:Act} {Q:Exit->Act->World->Prop} (hgd:o.guard=none) (s x:Operand)
  (ho:o.op=.call { callee:=.builtin .append,args:=#[s,x],argTypes:=#[36,36] }) (base:Nat) (v:Value) (l:List Int) (y:Int) (hs:a.eval s=v) (hown:OwnI w base v l)
  (blk c:Nat) (hx:a.eval x=.slice (some ⟨blk,0,none⟩) 1 c) (hnew:w.cell? ⟨blk,0,none⟩=some (.int .i64 y)) (hy:InI y) (hlen:l.length+1≤17592186044416) (hbase:base≤w.heap.size)
  (h:∀ g cap w',OwnI w' base (.slice (some ⟨g,0,none⟩) (l.length+1) cap) (l ++ [y])->w.grownBy w' v.ownBlock->Below base w w'->wpList Tryz.prog ops Q rest (a.put o.dst (.slice (some ⟨g,0,none⟩) (l.length+1) cap)) w') :
  wpList Tryz.prog ops Q (o :: rest) a w:=by
 obtain ⟨i,hi,h1,h2,h3⟩:=dr_;refine wpList_append_lies w hgd s x 36 ho base 3 i (.int .i64 0) 1 8 Tryz.underlying36 hi h1 h2 h3 rfl oq_ v l.length (l.map (Value.int .i64)) hs hown.row ⟨blk,0,none⟩ 1 c [.int .i64 y] hx rfl ?_ (by simp [Value.oneCell']) oq_ (by unfold maxLen;omega) oq_ hbase _ rfl ?_
 ·intro j u hu
  match j,hu with
  | 0,hu=>simp at hu;subst hu;exact hnew
 ·intro g cap w' hown' hgrow _ _;exact h g cap w' (OwnI.appended hown.rng hy hlen hown') hgrow (hown.below_grown (W0:=w) (.inr trivial) hbase hgrow)
end Go.Proofs.YtkclokcenllhmaaGreat
namespace Go.Proofs.YtkclokcenllhmaaGreat
open Go.RowKit Go.Shelf Kal
attribute [local go_sem] Oper.semAt_some
def KpB (pb:Nat->Prop) (A B:World):Prop:=∀ k,pb k->B.heap[k]? = A.heap[k]?
theorem KpB.refl (pb:Nat->Prop) (A:World):KpB pb A A:=fun _ _=>rfl
theorem KpB.trans {pb:Nat->Prop} {A B C:World} (h:KpB pb A B) (h':KpB pb B C):KpB pb A C:=fun k hk=>(h' k hk).trans (h k hk)
theorem KpB.cell {pb:Nat->Prop} {A B:World} (h:KpB pb A B) {a:Addr} {v:Value} (hp:pb a.block) (hc:A.cell? a=some v):B.cell? a=some v:=
 (World.cell?_of_block (h a.block hp)).trans hc
theorem KpB.putObj {pb:Nat->Prop} {n:Nat} (hpb:∀ k,pb k->k<n) (W:World) (l:Nat) (o o':Obj) (hl:n≤l) (_:W.heap[l]? = some o) (_:o.isCells=false):KpB pb W (W.putObj l o'):=
 fun k hk=>World.putObj_heap_other (by have:=hpb k hk;omega)
end Go.Proofs.YtkclokcenllhmaaGreat
namespace Go.Proofs.YtkclokcenllhmaaGreat
open Go.RowKit Go.Shelf Kal
structure POx (w:World) (base:Nat) (h c:Value) (p:Per):Prop where
 hd:OwnI w base h p.head
 cy:OwnI w base c p.cycle
theorem POx.is {w:World} {base:Nat} {h c:Value} {p:Per} (hp:POx w base h c p):cd_ w h c p:=⟨hp.hd.ints,hp.cy.ints⟩
attribute [local go_sem] Oper.semAt_some
theorem ty_ {W:World} {k:Nat} {c:Array Value} {t:TypeId} (h:W.heap[k]? = some (.cells c t (0,0))) (i:Nat):W.cell? ⟨k,i,none⟩=c[i]?∧W.frozen? ⟨k,i,none⟩=false:=by
 simp [World.cell?,World.frozen?,h]
theorem KeepsOthers.grow {A B C:World} {row:Option Nat} (h:KeepsOthers A B) (hg:B.grownBy C row) (hr:∀ r,row=some r->A.heap.size≤r):KeepsOthers A C:=
 ⟨Nat.le_trans h.size hg.size,fun k o hk ho=>(hg.block k (Array.getElem?_eq_some_iff.1 (h.same k o hk ho)).1 (fun e=>by have:=hr k e.symm;have:=(Array.getElem?_eq_some_iff.1 hk).1;omega)).trans (h.same k o hk ho)⟩
section
variable {w:World} {s0:Nat} {p:Per} {ha:Option Addr} {hcap:Nat} {ca:Option Addr} {ccap j:Nat} {sv:Int} {bb:Nat} {bv:Int} {W:World}
end
end Go.Proofs.YtkclokcenllhmaaGreat
namespace Go.Proofs.YtkclokcenllhmaaGreat
open Go.RowKit Go.Shelf Kal
theorem OwnI.kept_lt {w w':World} {base:Nat} {v:Value} {l:List Int} (h:OwnI w base v l) (hb:∀ k,v.ownBlock=some k->w'.heap[k]? = w.heap[k]?∧w.heap.size≤w'.heap.size):OwnI w' base v l:=by
 obtain ⟨⟨h1,h2⟩,h3,h4⟩:=h;refine ⟨⟨h1,?_⟩,h3,h4⟩;rcases h2 with h2|⟨g,cap,cur,hv,hg,hh,hr⟩
 ·exact .inl h2
 ·refine .inr ⟨g,cap,cur,hv,hg,(hb g ?_).1.trans hh,hr⟩;subst hv;rfl
theorem kh_ {w:World} {a:Addr} {v:Value} (h:w.cell? a=some v):w.drew.cell? a=some v:=h
theorem a0_ {W:World} {b:Nat} {c:Array Value} {t:TypeId} {f:Nat × Nat} (i:Nat) (v:Value) (h:W.heap[b]? = some (.cells c t f)):(W.setCell ⟨b,i,none⟩ v).heap[b]? = some (.cells (c.setIfInBounds i v) t f):=by
 obtain ⟨hlt,hk⟩:=Array.getElem?_eq_some_iff.1 h;show (W.heap.modify b _)[b]? = _;rw [Array.getElem?_eq_getElem (by rw [Array.size_modify];exact hlt),Array.getElem_modify_self,hk];rfl
attribute [local go_sem] Oper.semAt_some
end Go.Proofs.YtkclokcenllhmaaGreat
namespace Go.Proofs.YtkclokcenllhmaaGreat
open Go.RowKit Kal
theorem gh_ {w:World} {n:Nat}:(w.drewN n).heap.size=w.heap.size:=rfl
structure IntsIn (w:World) (lo hi:Nat) (v:Value) (l:List Int):Prop where
 ints:Ints w v l
 blk:l≠[]->∀ k,v.ownBlock=some k->lo≤k∧k<hi
theorem Ints.inn {w:World} {v:Value} {l:List Int} (h:Ints w v l):IntsIn w 0 w.heap.size v l:=by
 refine ⟨h,fun hl k hk=>⟨Nat.zero_le _,?_⟩⟩;obtain ⟨⟨a,c,rfl,h1,h2,h3⟩,h4,h5⟩:=h;rcases h3 with h3|⟨b,o,rfl,hc⟩
 ·exact absurd h3 hl
 ·obtain rfl:b=k:=by simpa [Value.ownBlock] using hk
  exact World.block_lt_of_cell? w _ (hc 0 (List.length_pos_iff.2 hl))
structure p3_ (w:World) (lo hi:Nat) (h c:Value) (p:Per):Prop where
 hd:IntsIn w lo hi h p.head
 cy:IntsIn w lo hi c p.cycle
section
variable {w w':World} {lo hi B b i:Nat} {h c:Value} {p:Per}
theorem cd_.inn (hp:cd_ w h c p):p3_ w 0 w.heap.size h c p:=⟨hp.hd.inn,hp.cy.inn⟩
theorem p3_.form (hp:p3_ w lo hi h c p):∃ a1 c1 a2 c2,h=.slice a1 p.head.length c1∧c=.slice a2 p.cycle.length c2:=by
 obtain ⟨⟨⟨⟨a1,c1,h1,_⟩,_,_⟩,_⟩,⟨⟨a2,c2,h2,_⟩,_,_⟩,_⟩:=hp;exact ⟨a1,c1,a2,c2,h1,h2⟩
end
theorem cux {w w':World} {a:Addr} {v:Value} (h:w.cell? a=some v) (hb:Below w.heap.size w w'):w'.cell? a=some v:=Ext.cell hb h
structure ey_ (w:World) (lo hi:Nat) (v:Value) (l:List Int):Prop where
 own:OwnI w lo v l
 lt:∀ k,v.ownBlock=some k->k<hi
theorem OwnI.oin {w:World} {base:Nat} {v:Value} {l:List Int} (h:OwnI w base v l):ey_ w base w.heap.size v l:=⟨h,fun k hk=>(h.lt k hk).2⟩
theorem ey_.of_blocks {w w':World} {lo hi:Nat} {v:Value} {l:List Int} (h:ey_ w lo hi v l) (hb:∀ k,lo≤k->k<hi->w'.heap[k]? = w.heap[k]?):ey_ w' lo hi v l:=by
 obtain ⟨⟨⟨h1,h2⟩,h3,h4⟩,h5⟩:=h;refine ⟨⟨⟨h1,?_⟩,h3,h4⟩,h5⟩;rcases h2 with h2|⟨g,cap,cur,hv,hg,hh,hr⟩
 ·exact .inl h2
 ·exact .inr ⟨g,cap,cur,hv,hg,(hb g hg (h5 g (by rw [hv];rfl))).trans hh,hr⟩
theorem ey_.below {w w':World} {lo hi B:Nat} {v:Value} {l:List Int} (h:ey_ w lo hi v l) (hb:Below B w w') (hB:hi≤B):ey_ w' lo hi v l:=h.of_blocks fun k _ h2=>hb.block k oq_
structure hg_ (w:World) (lo hi:Nat) (v:Value) (l:List Int):Prop where
 inn:ey_ w lo hi v l
 le:hi≤w.heap.size
theorem hg_.below {w w':World} {lo hi:Nat} {v:Value} {l:List Int} (hp:hg_ w lo hi v l) (hb:Below w.heap.size w w'):hg_ w' lo hi v l:=⟨hp.inn.below hb hp.le,Nat.le_trans hp.le hb.size⟩
theorem OwnI.at {w:World} {base:Nat} {v:Value} {l:List Int} (h:OwnI w base v l):hg_ w base w.heap.size v l:=⟨h.oin,Nat.le_refl _⟩
def Bxx (w:World) (b:Nat) (c:Array Value) (t:TypeId):Prop:=w.heap[b]? = some (.cells c t (0,0))
theorem Bxx.lt {w:World} {b:Nat} {c:Array Value} {t:TypeId} (h:Bxx w b c t):b<w.heap.size:=(Array.getElem?_eq_some_iff.1 h).1
theorem Bxx.below {w w':World} {b:Nat} {c:Array Value} {t:TypeId} (h:Bxx w b c t) (hb:Below w.heap.size w w'):Bxx w' b c t:=(hb.block b h.lt).trans h
theorem Bxx.cells {w:World} {b:Nat} {c:Array Value} {t:TypeId} (h:Bxx w b c t) (i:Nat):w.cell? ⟨b,i,none⟩=c[i]?∧w.frozen? ⟨b,i,none⟩=false:=ty_ h i
theorem Bxx.alloc {w:World} {b:Nat} {c:Array Value} {t:TypeId} (h:Bxx w b c t) (o:Obj):Bxx (w.alloc o) b c t:=(Below.heap_alloc _ _ _ h.lt).trans h
theorem Bxx.at {w:World} {b:Nat} {c:Array Value} {t:TypeId} (h:b=w.heap.size):Bxx (w.alloc (.cells c t)) b c t:=by subst h;exact World.alloc_heap_new _ _
theorem xB {w:World} {b:Nat} {c:Array Value} {t:TypeId} (h:Bxx w b c t:=by (repeat' (first|(refine Bxx.at ?_;simp;done)|apply Bxx.alloc))):Bxx w b c t:=h
theorem Bxx.new (w:World) (c:Array Value) (t:TypeId):Bxx (w.alloc (.cells c t)) w.heap.size c t:=World.alloc_heap_new _ _
theorem Bxx.setNe {W:World} {b k i:Nat} {c:Array Value} {t:TypeId} (h:Bxx W b c t) (v:Value) (hne:b≠k):Bxx (W.setCell ⟨k,i,none⟩ v) b c t:=(Below.heap_setCell W ⟨k,i,none⟩ v b hne).trans h
theorem Bxx.upto {W W':World} {B b:Nat} {c:Array Value} {t:TypeId} (h:Bxx W b c t) (hb:Below B W W') (hlt:b<B):Bxx W' b c t:=(hb.block b hlt).trans h
end Go.Proofs.YtkclokcenllhmaaGreat
namespace Go.Proofs.YtkclokcenllhmaaGreat
open Go.RowKit Go.Shelf Kal
attribute [local go_sem] Oper.semAt_some
end Go.Proofs.YtkclokcenllhmaaGreat
namespace Go.Proofs.YtkclokcenllhmaaGreat
open Go.RowKit Go.Shelf Kal
attribute [local go_sem] Oper.semAt_some
theorem bt_ {B D:Nat} {w:World} (hB:B≤D) (hD:w.heap[D]? = some (.deferred (some []))):aj_ B [{ target:=.collected D,args:=#[] }] w:=
 ⟨[D],rfl,sq_,fun D' h=>by (obtain rfl:D'=D:=by simpa using h);exact ⟨hB,hD⟩⟩
theorem KeepsOthers.grown_cells {A B C:World} {row:Option Nat} (h:KeepsOthers A B) (hg:B.grownBy C row) (hr:∀ r,row=some r->∃ o:Obj,B.heap[r]? = some o∧o.isCells=true):KeepsOthers A C:=
 ⟨Nat.le_trans h.size hg.size,fun k o hk ho=>by
  have h1:=h.same k o hk ho;refine (hg.block k (Array.getElem?_eq_some_iff.1 h1).1 fun e=>?_).trans h1;obtain ⟨o2,h2,h3⟩:=hr k e.symm;rw [h1] at h2;cases h2;rw [ho] at h3;cases h3⟩
end Go.Proofs.YtkclokcenllhmaaGreat
namespace Go.Proofs.YtkclokcenllhmaaGreat
open Go.RowKit Kal
end Go.Proofs.YtkclokcenllhmaaGreat
namespace Go.Proofs.YtkclokcenllhmaaGreat
open Go.RowKit Go.Maps Go.ChangeShapes Kal
open Go.WideElems (rd_val)
end Go.Proofs.YtkclokcenllhmaaGreat
namespace Go.Proofs.YtkclokcenllhmaaGreat
open Go.RowKit Go.Maps Go.ChangeShapes Kal
end Go.Proofs.YtkclokcenllhmaaGreat
namespace Go.Proofs.YtkclokcenllhmaaGreat
open Go.RowKit Go.Maps Kal
theorem bh_ {P:Program} {c:Code} {Q:Exit->Act->World->Prop} {a:Act} {W:World} (F:World->Prop) (h:F W) (k:∀ W2,F W2->c.wp P Q a W2):c.wp P Q a W:=k W h
theorem an_ {w:World} {b o o':Nat} {x:Value} (h:w.cell? ⟨b,o,none⟩=some x) (hne:o'≠o) (v:Value):(w.setCell ⟨b,o',none⟩ v).cell? ⟨b,o,none⟩=some x:=(World.cell?_setCell_other _ _ _ _ (by simp [hne])).trans h
end Go.Proofs.YtkclokcenllhmaaGreat
section
variable {l:List Int}{cs:List Go.Value}{B cap k:Nat}{o:Go.Oper}{row:Option Nat}{v:Go.Value}{A C W W' w w' w1:Go.World}
namespace Go.Proofs.YtkclokcenllhmaaGreat
open Go.RowKit Go.Maps Kal
theorem em_ {ops:Array Oper} {rest:List Oper} {a:Act} {Q:Exit->Act->World->Prop} (hgd:o.guard=none) (s x:Operand)
  (ho:o.op=.call { callee:=.builtin .append,args:=#[s,x],argTypes:=#[36,36] }) (base:Nat) (v:Value) (l:List Int) (y:Int) (hs:a.eval s=v) (hown:OwnI w base v l)
  (blk c:Nat) (hx:a.eval x=.slice (some ⟨blk,0,none⟩) 1 c) (hnew:w.cell? ⟨blk,0,none⟩=some (.int .i64 y)) (hy:InI y) (hlen:l.length+1≤17592186044416) (hbase:base≤w.heap.size)
  (h:∀ g cap w',OwnI w' base (.slice (some ⟨g,0,none⟩) (l.length+1) cap) (l ++ [y])->w.grownBy w' v.ownBlock->Below base w w'->(v.ownBlock=some g∨w.heap.size≤g)->wpList Tryz.prog ops Q rest (a.put o.dst (.slice (some ⟨g,0,none⟩) (l.length+1) cap)) w') :
  wpList Tryz.prog ops Q (o :: rest) a w:=by
 obtain ⟨i,hi,h1,h2,h3⟩:=dr_;refine wpList_append_lies w hgd s x 36 ho base 3 i (.int .i64 0) 1 8 Tryz.underlying36 hi h1 h2 h3 rfl oq_ v l.length (l.map (Value.int .i64)) hs hown.row ⟨blk,0,none⟩ 1 c [.int .i64 y] hx rfl ?_ (by simp [Value.oneCell']) oq_ (by unfold maxLen;omega) oq_ hbase _ rfl ?_
 ·intro j u hu
  match j,hu with
  | 0,hu=>simp at hu;subst hu;exact hnew
 ·intro g cap w' hown' hgrow hloc _;exact h g cap w' (OwnI.appended hown.rng hy hlen hown') hgrow (hown.below_grown (W0:=w) (.inr trivial) hbase hgrow) (hloc.imp id fun e=>oq_)
theorem Bxx.drewB {b:Nat} {c:Array Value} {t:TypeId} (h:Bxx W b c t):Bxx W.drew b c t:=h
end Go.Proofs.YtkclokcenllhmaaGreat
namespace Go.Proofs.YtkclokcenllhmaaGreat
open Go.RowKit Go.Shelf Go.Maps Kal
attribute [local go_sem] Oper.semAt_some
theorem Bxx.grown {W1:World} {b:Nat} {c:Array Value} {t:TypeId} (h:Bxx W b c t) (hg:W.grownBy W1 row) (hne:some b≠row):Bxx W1 b c t:=(hg.block b h.lt hne).trans h
end Go.Proofs.YtkclokcenllhmaaGreat
namespace Go.Proofs.YtkclokcenllhmaaGreat
open Go.RowKit Kal
open Go.Sort (Holds putRow)
theorem OwnI.cut {base g n:Nat} (h:w.ownsRow base 3 1 (.slice (some ⟨g,0,none⟩) n cap) n (l.map (Value.int .i64))) (hk:k≤n) (hr:∀ x∈l.take k,InI x) (hln:l.length=n) (hb:n≤17592186044416):OwnI w base (.slice (some ⟨g,0,none⟩) k cap) (l.take k):=by
 obtain ⟨h1,h2⟩:=h;rcases h2 with ⟨h2,_⟩|⟨g',cap',cur,hv,hg,hh,hn,hc,hs,ht⟩
 ·cases h2
 ·injection hv with e1 e2 e3
  injection e1 with e1;injection e1 with e1
  subst e1;subst e3;have hlk:(l.take k).length=k:=by simp;omega
  refine ⟨?_,hr,oq_⟩;rw [hlk];refine ⟨tq_,.inr ⟨g,cap,cur,rfl,hg,hh,oq_,hc,hs,?_⟩⟩;rw [Nat.mul_one] at ht ⊢;rw [List.map_take,<- ht,List.take_take,Nat.min_eq_left hk]
def Bxx' (w:World) (b:Nat) (c:Array Value):Prop:=∀ i,w.cell? ⟨b,i,none⟩=c[i]?
end Go.Proofs.YtkclokcenllhmaaGreat
namespace Go.Proofs.YtkclokcenllhmaaGreat
open Go.RowKit Go.Maps Kal
theorem t8_ {l1 l2:List Int} (hl:l1.length=l2.length) (hk:k<l1.length) (h:l1.take k=l2.take k) (he:l1.getD k 0=l2.getD k 0):l1.take (k+1)=l2.take (k+1):=by
 rw [List.take_add_one,List.take_add_one,h];have h2:k<l2.length:=oq_;rw [List.getD_eq_getElem?_getD,List.getD_eq_getElem?_getD,List.getElem?_eq_getElem hk,List.getElem?_eq_getElem h2] at he;rw [List.getElem?_eq_getElem hk,List.getElem?_eq_getElem h2];simp at he;simp [he]
theorem qb_ (p q:Per):p=q↔p.frm=q.frm∧p.period=q.period∧p.head=q.head∧p.cycle=q.cycle:=by
 constructor
 ·rintro rfl;simp
 ·rintro ⟨h1,h2,h3,h4⟩;cases p;cases q;simp_all
instance:DecidableEq Per:=fun p q=>decidable_of_iff _ (qb_ p q).symm
theorem Ints.lit {b:Nat} {t:TypeId} (h:Bxx w b (l.map (Value.int .i64)).toArray t) (hl:l.length≤17592186044416) (hr:∀ x∈l,InI x):Ints w (.slice (some ⟨b,0,none⟩) l.length l.length) l:=by
 refine ⟨⟨_,_,rfl,Nat.le_refl _,oq_,.inr ⟨b,0,rfl,fun i hi=>?_⟩⟩,hl,hr⟩;rw [Nat.zero_add,(h.cells i).1];rw [List.getElem?_toArray,List.getElem?_map,List.getElem?_eq_getElem hi,List.getD_eq_getElem?_getD,List.getElem?_eq_getElem hi];rfl
structure cw_ (w:World) (v:Value) (l:List Int):Prop where
 is:∃ a c,v=.slice a l.length c∧(l=[]∨∃ b o,a=some ⟨b,o,none⟩∧∀ i,i<l.length->w.cell? ⟨b,o+i,none⟩=some (.int .u8 (l.getD i 0)))
 len:l.length≤9223372036854775807
 rng:∀ x∈l,0≤x∧x≤255
theorem cw_.ext (h:cw_ w v l) (hb:Below w.heap.size w W):cw_ W v l:=by
 obtain ⟨⟨a,c,rfl,h3⟩,h4,h5⟩:=h;refine ⟨⟨a,c,rfl,h3.imp id ?_⟩,h4,h5⟩;rintro ⟨b,o,rfl,hc⟩;exact ⟨b,o,rfl,fun i hi=>Ext.cell hb (hc i hi)⟩
end Go.Proofs.YtkclokcenllhmaaGreat
namespace Go.Proofs.YtkclokcenllhmaaGreat
open Kal
end Go.Proofs.YtkclokcenllhmaaGreat
namespace Go.Proofs.YtkclokcenllhmaaGreat
open Go.RowKit Go.Maps Kal
end Go.Proofs.YtkclokcenllhmaaGreat
end
namespace Go.Proofs.YtkclokcenllhmaaGreat
open Go.ChangeShapes Go.WideShapes Go.ChangeAt Go.RowKit Go.Joins Kal
theorem ws_:ownKnob Tryz.prog.godebug=none:=by kernel_rfl
theorem mh_:laidOutB Tryz.prog=true:=by kernel_rfl
section
variable {H:Type} {enc:TypeId × Value->H} {w:World} {base:Nat} {spare:Nat->Bool} {held:Bool}
theorem lz_ {n:Nat} {v:Value} {y:DataW H × List MemPlace} (h:DataW.trod enc Tryz.prog w base spare held n 46 [v]=some y):∃ l,cw_ w v l:=by
 rcases open_ints Tryz.underlying46 Tryz.underlying5 (by kernel_rfl) h with ⟨hcs,_⟩|⟨a,len,cap,zs,hcs,_,hl,hm,hz,_,hcell,hwz⟩
 ·simp at hcs;subst hcs;exact ⟨[],⟨none,0,rfl,.inl rfl⟩,sq_,sq_⟩
 ·simp at hcs;subst hcs;have hlz:len≤zs.length:=by rw [hz];split <;> omega
  have hlen:(zs.take len).length=len:=by rw [List.length_take];omega
  refine ⟨zs.take len,⟨some a,cap,by rw [hlen],?_⟩,?_,?_⟩
  ·by_cases h0:len=0
   ·exact .inl (by rw [h0];rfl)
   ·refine .inr ?_;obtain ⟨b,off,spot⟩:=a;have hc:=hcell 0 oq_;have hspot:spot=none:=by simpa [Addr.add] using World.cell?_spot hc
    subst hspot;refine ⟨b,off,rfl,fun i hi=>?_⟩;rw [hlen] at hi;have h9:=hcell i oq_;have e:(zs.take len).getD i 0=zs.getD i 0:=by
     rw [List.getD_eq_getElem?_getD,List.getD_eq_getElem?_getD,List.getElem?_take_of_lt hi]
    rw [e];have e2:(⟨b,off,none⟩:Addr).add i=⟨b,off+i,none⟩:=by
     rcases Nat.eq_zero_or_pos i with h|h
     ·subst h;simp [Addr.add]
     ·simp [Addr.add];omega
    rwa [e2] at h9
  ·rw [hlen];unfold maxLen at hm;omega
  ·intro x hx;exact bounds_u8 (hwz x (List.mem_of_mem_take hx))
theorem md_ {n:Nat} {t:TypeId} {k:IntKind} {v:Value} {y:DataW H × List MemPlace} (ht:Tryz.prog.underlying t=some (.int k)) (h:DataW.trod enc Tryz.prog w base spare held n t [v]=some y):∃ m,v=.int k m∧(Lit.int k m).wf=true:=by
 obtain ⟨m,hcs,_,hw⟩:=DataW.trod_int ht h;simp at hcs;exact ⟨m,hcs,hw⟩
end
def numV (v:Value):Int:=match v with|.int _ x=>x|_=>0
section
variable {H:Type} {enc:TypeId × Value->H} {w:World} {base:Nat} {spare:Nat->Bool} {held:Bool}
theorem uu_ {r:Reach} {b0 n:Nat} {t e:TypeId} {k:IntKind} {v:Value} {d:DataW H} {p:List MemPlace} (ht:Tryz.prog.underlying t=some (.array n e)) (he:Tryz.prog.underlying e=some (.int k)) (hce:Tryz.prog.cellsOf e=1) (hct:Tryz.prog.cellsOf t=n)
  (hv:Value.okWide Tryz.prog w r b0 t v) (h:DataW.Trod enc Tryz.prog w base spare held t v d p):∃ ns:List Int,ns.length=n∧v=.agg (ns.map (Value.int k)).toArray∧∀ x∈ns,(Lit.int k x).wf=true:=by
 have hv2:∃ cs:Array Value,v=.agg cs∧cs.size=Tryz.prog.cellsOf t:=by
  unfold Value.okWide at hv;rw [ht] at hv;obtain ⟨cs,h1,h2,_⟩:=hv;exact ⟨cs,h1,h2⟩
 obtain ⟨cs,rfl,hsz⟩:=hv2;obtain ⟨fuel,hf⟩:=h;obtain ⟨xs,m,_,_,hl,hxl,hi⟩:=DataW.trod_array ht hf;have hcs:∀ i,i<n->∃ z,cs.toList[i]? = some (.int k z)∧(Lit.int k z).wf=true:=by
  intro i hin;have h1:=hi i hin;rw [hce,Nat.mul_one,List.getElem?_eq_getElem oq_] at h1;obtain ⟨z,h2,_,h3⟩:=DataW.trod_int he h1;refine ⟨z,?_,h3⟩;have h4:(List.take 1 (List.drop i cs.toList))[0]? = some (.int k z):=by
   have h5:List.take 1 (List.drop i cs.toList)=[.int k z]:=h2;rw [h5];rfl
  rw [List.getElem?_take_of_lt oq_,List.getElem?_drop] at h4;simpa using h4
 refine ⟨cs.toList.map numV,by simp [hsz,hct],?_,?_⟩
 ·congr 1
  apply Array.ext
  ·simp
  ·intro i h1 h2;obtain ⟨z,hz,_⟩:=hcs i oq_;rw [List.getElem?_eq_getElem (by simpa using h1)] at hz;have hz':=Option.some.inj hz;simp at hz';simp [hz',numV]
 ·intro x hx;obtain ⟨y,hy,rfl⟩:=List.mem_map.1 hx;obtain ⟨i,hi2,rfl⟩:=List.getElem_of_mem hy;obtain ⟨z,hz,hw⟩:=hcs i (by simp at hi2;omega);rw [List.getElem?_eq_getElem hi2] at hz;have hz':=Option.some.inj hz;rw [hz'];exact hw
theorem xv_ {l:List Int} (h:l.length=2):∃ a b,l=[a,b]:=by
 match l,h with
 | [a,b],_=>exact ⟨a,b,rfl⟩
end
end Go.Proofs.YtkclokcenllhmaaGreat
section
variable {l:List Int}{cs:List Go.Value}{B cap k:Nat}{o:Go.Oper}{row:Option Nat}{v:Go.Value}{A C W W' w w' w1:Go.World}
namespace Go.Proofs.YtkclokcenllhmaaGreat
open Go.RowKit Kal
structure PV where
 h:Value
 c:Value
 p:Per
instance:Inhabited PV:=⟨⟨.slice none 0 0,.slice none 0 0,⟨[],0,0,[]⟩⟩⟩
def PV.enc (x:PV):List Value:=[x.h,.int .i64 x.p.frm,.int .i64 x.p.period,x.c]
abbrev PV.val (x:PV):Value:=perV x.h x.c x.p.frm x.p.period
theorem PV.enc_len (x:PV):x.enc.length=4:=rfl
structure PVok (W:World) (F:Nat->Prop) (x:PV):Prop where
 is:cd_ W x.h x.c x.p
 fr:InI x.p.frm
 pe:InI x.p.period
 bh:x.p.head≠[]->∀ k,x.h.ownBlock=some k->F k
 bc:x.p.cycle≠[]->∀ k,x.c.ownBlock=some k->F k
def a3_ (F:Nat->Prop) (W W':World):Prop:=∀ b,F b->b<W.heap.size->W'.heap[b]? = W.heap[b]?
theorem a3_.trans {F:Nat->Prop} {B:World} (h:a3_ F A B) (g:a3_ F B C) (hs:A.heap.size≤B.heap.size):a3_ F A C:=fun b hb hl=>(g b hb oq_).trans (h b hb hl)
theorem a3_.below {F:Nat->Prop} (h:Below W.heap.size W W'):a3_ F W W':=fun b _ hl=>h.block b hl
theorem a3_.belowB {F:Nat->Prop} (h:Below B W W') (hF:∀ b,F b->b<B):a3_ F W W':=fun b hb _=>h.block b (hF b hb)
theorem Ints.keep {F:Nat->Prop} (h:Ints W v l) (hb:l≠[]->∀ k,v.ownBlock=some k->F k) (hk:a3_ F W W'):Ints W' v l:=by
 obtain ⟨⟨a,c,rfl,h1,h2,h3⟩,h4,h5⟩:=h;refine ⟨⟨a,c,rfl,h1,h2,?_⟩,h4,h5⟩;by_cases hl:l=[]
 ·exact .inl hl
 ·rcases h3 with h3|⟨b,o,rfl,hc⟩
  ·exact .inl h3
  ·have h0:=hc 0 (List.length_pos_iff.2 hl);exact .inr ⟨b,o,rfl,fun i hi=>(World.cell?_of_block (hk b (hb hl b rfl) (World.block_lt_of_cell? W _ h0))).trans (hc i hi)⟩
theorem PVok.keep {F:Nat->Prop} {x:PV} (h:PVok W F x) (hk:a3_ F W W'):PVok W' F x:=⟨⟨h.is.hd.keep h.bh hk,h.is.cy.keep h.bc hk⟩,h.fr,h.pe,h.bh,h.bc⟩
theorem PVok.mono {F G:Nat->Prop} {x:PV} (h:PVok W F x) (hF:∀ b,F b->G b):PVok W G x:=⟨h.is,h.fr,h.pe,fun a k e=>hF k (h.bh a k e),fun a k e=>hF k (h.bc a k e)⟩
structure RowR (W:World) (F:Nat->Prop) (v:Value) (n:Nat) (cs:List Value):Prop where
 is:∃ a c,v=.slice a n c∧n≤c∧c≤9223372036854775807∧(n=0∨∃ b o,a=some ⟨b,o,none⟩∧F b∧b<W.heap.size∧∀ i u,cs[i]? = some u->W.cell? ⟨b,o+i,none⟩=some u)
theorem RowR.keep {F:Nat->Prop} {n:Nat} (h:RowR W F v n cs) (hk:a3_ F W W') (hs:W.heap.size≤W'.heap.size):RowR W' F v n cs:=by
 obtain ⟨a,c,rfl,h1,h2,h3⟩:=h;refine ⟨a,c,rfl,h1,h2,h3.imp id ?_⟩;rintro ⟨b,o,rfl,hF,hl,hc⟩;exact ⟨b,o,rfl,hF,oq_,fun i u hi=>(World.cell?_of_block (hk b hF hl)).trans (hc i u hi)⟩
theorem RowR.mono {F G:Nat->Prop} {n:Nat} (h:RowR W F v n cs) (hF:∀ b,F b->G b):RowR W G v n cs:=by
 obtain ⟨a,c,rfl,h1,h2,h3⟩:=h;refine ⟨a,c,rfl,h1,h2,h3.imp id ?_⟩;rintro ⟨b,o,rfl,hb,hl,hc⟩;exact ⟨b,o,rfl,hF b hb,hl,hc⟩
structure b9_ (W:World) (F:Nat->Prop) (v:Value) (L:List PV):Prop where
 row:RowR W F v L.length (L.flatMap PV.enc)
 len:L.length≤17592186044416
 all:∀ x∈L,PVok W F x
def ag_ (W:World) (F:Nat->Prop) (v:Value) (t:List Per):Prop:=∃ L:List PV,L.map PV.p=t∧b9_ W F v L
theorem b9_.keep {F:Nat->Prop} {L:List PV} (h:b9_ W F v L) (hk:a3_ F W W') (hs:W.heap.size≤W'.heap.size):b9_ W' F v L:=⟨h.row.keep hk hs,h.len,fun x hx=>(h.all x hx).keep hk⟩
theorem b9_.mono {F G:Nat->Prop} {L:List PV} (h:b9_ W F v L) (hF:∀ b,F b->G b):b9_ W G v L:=⟨h.row.mono hF,h.len,fun x hx=>(h.all x hx).mono hF⟩
theorem ag_.keep {F:Nat->Prop} {t:List Per} (h:ag_ W F v t) (hk:a3_ F W W') (hs:W.heap.size≤W'.heap.size):ag_ W' F v t:=by
 obtain ⟨L,e,g⟩:=h;exact ⟨L,e,g.keep hk hs⟩
theorem ag_.mono {F G:Nat->Prop} {t:List Per} (h:ag_ W F v t) (hF:∀ b,F b->G b):ag_ W G v t:=by
 obtain ⟨L,e,g⟩:=h;exact ⟨L,e,g.mono hF⟩
theorem ag_.ext {F:Nat->Prop} {t:List Per} (h:ag_ W F v t) (hb:Below W.heap.size W W'):ag_ W' F v t:=h.keep (a3_.below hb) hb.size
structure MixL (W:World) (F:Nat->Prop) (v:Value) (L:List (Value × List Per)):Prop where
 row:RowR W F v L.length (L.map Prod.fst)
 len:L.length≤17592186044416
 all:∀ x∈L,ag_ W F x.1 x.2
def MixR (W:World) (F:Nat->Prop) (v:Value) (m:List (List Per)):Prop:=∃ L:List (Value × List Per),L.map Prod.snd=m∧MixL W F v L
theorem MixL.keep {F:Nat->Prop} {L:List (Value × List Per)} (h:MixL W F v L) (hk:a3_ F W W') (hs:W.heap.size≤W'.heap.size):MixL W' F v L:=⟨h.row.keep hk hs,h.len,fun x hx=>(h.all x hx).keep hk hs⟩
theorem MixL.mono {F G:Nat->Prop} {L:List (Value × List Per)} (h:MixL W F v L) (hF:∀ b,F b->G b):MixL W G v L:=⟨h.row.mono hF,h.len,fun x hx=>(h.all x hx).mono hF⟩
theorem MixR.keep {F:Nat->Prop} {m:List (List Per)} (h:MixR W F v m) (hk:a3_ F W W') (hs:W.heap.size≤W'.heap.size):MixR W' F v m:=by
 obtain ⟨L,e,g⟩:=h;exact ⟨L,e,g.keep hk hs⟩
theorem MixR.mono {F G:Nat->Prop} {m:List (List Per)} (h:MixR W F v m) (hF:∀ b,F b->G b):MixR W G v m:=by
 obtain ⟨L,e,g⟩:=h;exact ⟨L,e,g.mono hF⟩
theorem MixR.ext {F:Nat->Prop} {m:List (List Per)} (h:MixR W F v m) (hb:Below W.heap.size W W'):MixR W' F v m:=h.keep (a3_.below hb) hb.size
theorem c7_ {L:List PV}:∀ {j i:Nat} {u:Value},j<L.length->(L.getD j default).enc[i]? = some u->(L.flatMap PV.enc)[j*4+i]? = some u:=by
 induction L with
 | nil=>intro j i u h;simp at h
 | cons x L ih=>
  intro j i u hj hi;rw [List.flatMap_cons];cases j with
  | zero=>
   have h4:i<x.enc.length:=(List.getElem?_eq_some_iff.1 hi).1;rw [List.getElem?_append_left (by simpa using h4)];simpa using hi
  | succ j=>
   rw [List.getElem?_append_right (by rw [PV.enc_len];omega),PV.enc_len,show (j+1)*4+i-4=j*4+i by omega];exact ih (by simpa using hj) (by simpa using hi)
end Go.Proofs.YtkclokcenllhmaaGreat
end
