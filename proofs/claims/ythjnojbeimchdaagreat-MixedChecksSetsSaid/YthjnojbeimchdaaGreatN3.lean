/- Part 3 of what the claims of this seat rest on. -/
import Derived.Test.YthjnojbeimchdaaGreatN1
import Derived.Sort.OwnSortedInts
import Derived.RangeFuncBox
import Derived.Maps.AppendAt
import Derived.Deep.AppendLies
import Derived.Deep.RegionHeld3
import Derived.Test.YthjnojbeimchdaaGreatN2
import Derived.OwnWalkIn
import Derived.TacticsInMore
import Derived.LoopNIn
import Derived.LoopIn
set_option linter.unusedVariables false
set_option linter.unusedSimpArgs false
/- Walks: math/bits.Rem64 where the high part is 0, times, multiply, Lcm, Solve. -/
namespace Go.Proofs.YthjnojbeimchdaaGreat
open Go.RowKit Kal
set_option maxHeartbeats 1000000 in
theorem rem_small (lo y:Int) (w:World) (h0:0≤lo) (h1:lo≤18446744073709551615) (hy:1≤y) (hy1:y≤18446744073709551615) :
  Calls Tryz.prog 206 #[.int .u64 0,.int .u64 lo,.int .u64 y] w fun e w'=>e=.returned (.int .u64 (lo % y))∧∃ n,w'=w.drewN n:=by
 have hypos:0<y:=by omega
 go_enter Tryz.func206,Tryz.ntmps206
 go_wp2_with (go_at_call 177;refine (rem64_small _ _ _ h0 h1 hy hy1).mono ?_;rintro e w' ⟨rfl,nq,rfl⟩)
 go_ret
 exact ⟨rfl,_,rfl⟩
theorem mul_small {a b:Int} (a0:0≤a) (a1:a≤4294967295) (b0:0≤b) (b1:b≤4294967295):0≤a*b∧a*b≤18446744065119617025:=by
 have h1:=Int.mul_nonneg a0 b0
 have h2:=Int.mul_le_mul a1 b1 b0 (by omega)
 omega
theorem mul64_small (a b:Int) (w:World) (a0:0≤a) (a1:a≤4294967295) (b0:0≤b) (b1:b≤4294967295) :
  Calls Tryz.prog 175 #[.int .u64 a,.int .u64 b] w fun e w'=>e=.returned (.tuple #[.int .u64 0,.int .u64 (a*b)])∧w=w':=by
 obtain ⟨p0,p1⟩:=mul_small a0 a1 b0 b1
 obtain ⟨x,rfl⟩:=Int.eq_ofNat_of_zero_le a0
 obtain ⟨y,rfl⟩:=Int.eq_ofNat_of_zero_le b0
 have e:((x*y:Nat):Int)=(x:Int)*y:=by push_cast;rfl
 rw [← e] at p0 p1 ⊢
 refine (Tryz.bits_Mul64 x y (by omega) (by omega) w).mono ?_
 rintro e w' ⟨rfl,rfl⟩
 rw [Nat.div_eq_of_lt (by omega),Nat.mod_eq_of_lt (by omega)]
 exact ⟨rfl,rfl⟩
set_option maxHeartbeats 1000000 in
theorem times_any (a b m:Int) (w:World) (a0:0≤a) (a1:a≤4294967295) (b0:0≤b) (b1:b≤4294967295) (hm:1≤m) (hm1:m≤4611686018427387904) :
  Calls Tryz.prog 199 #[.int .i64 a,.int .i64 b,.int .i64 m] w fun e w'=>e=.returned (.int .i64 ((a*b) % m))∧∃ n,w'=w.drewN n:=by
 obtain ⟨p0,p1⟩:=mul_small a0 a1 b0 b1
 have r0:=Int.emod_nonneg (a*b) (show m≠0 by omega)
 have r1:=Int.emod_lt_of_pos (a*b) (show 0<m by omega)
 go_enter Tryz.func199,Tryz.ntmps199
 go_wp2_with (first|(go_at_call 175;refine (mul64_small _ _ _ a0 a1 b0 b1).mono ?_;rintro e w' ⟨rfl,rfl⟩)|(go_at_call 206;refine (rem_small _ _ _ p0 (by omega) hm (by omega)).mono ?_;rintro e w' ⟨rfl,nq,rfl⟩))
 go_ret
 exact ⟨rfl,_,rfl⟩
def lcmV (a b:Int):Value:=if lcmI a b≤1099511627776 then .tuple #[.int .i64 (lcmI a b),.int .i64 0] else .tuple #[.int .i64 0,.int .i64 2]
set_option maxHeartbeats 1000000 in
theorem lcm_any (a b:Int) (w:World) (ha:1≤a) (ha1:a≤9223372036854775807) (hb:1≤b) (hb1:b≤9223372036854775807) :
  Calls Tryz.prog 29 #[.int .i64 a,.int .i64 b] w fun e w'=>e=.returned (lcmV a b)∧∃ n,w'=w.drewN n:=by
 have hg:=gcd_bound (b:=b) ha
 have hq0:0≤a / (Int.gcd a b:Nat):=Int.ediv_nonneg (by omega) (by omega)
 have hq1:a / (Int.gcd a b:Nat)≤a:=Int.ediv_le_self _ (by omega)
 have hlt:1099511627776 / b<a / (Int.gcd a b:Nat)↔1099511627776<lcmI a b:=Int.ediv_lt_iff_lt_mul (by omega)
 have hd0:0≤1099511627776 / b:=Int.ediv_nonneg (by omega) (by omega)
 have hpos:=lcmI_pos ha hb
 have HL:=Lib.hid (show lcmI a b=a / (Int.gcd a b:Nat)*b from rfl)
 by_cases hbig:lcmI a b≤1099511627776
 ·have hle:a / (Int.gcd a b:Nat)≤1099511627776 / b:=by omega
  have HV:=Lib.hid (show lcmV a b=_ from if_pos hbig)
  have hp:0≤a / (Int.gcd a b:Nat)*b∧a / (Int.gcd a b:Nat)*b≤1099511627776:=by rw [← HL.out];omega
  obtain ⟨hp0,hp1⟩:=hp
  clear hlt
  generalize hgd:((Int.gcd a b:Nat):Int)=g at *
  have HG:=Lib.hid hgd
  clear hgd
  go_enter Tryz.func29,Tryz.ntmps29
  go_wp2_with (go_at_call 77;refine (gcd_any _ _ _ ha ha1 hb hb1).mono ?_;rintro e w' ⟨he,nq,rfl⟩;rw [HG.out] at he;subst he)
  go_ret2
  exact ⟨by rw [HV.out,HL.out];rfl,_,rfl⟩
 ·have hle:1099511627776 / b<a / (Int.gcd a b:Nat):=by omega
  have HV:=Lib.hid (show lcmV a b=_ from if_neg hbig)
  clear hlt
  generalize hgd:((Int.gcd a b:Nat):Int)=g at *
  have HG:=Lib.hid hgd
  clear hgd
  go_enter Tryz.func29,Tryz.ntmps29
  go_wp2_with (go_at_call 77;refine (gcd_any _ _ _ ha ha1 hb hb1).mono ?_;rintro e w' ⟨he,nq,rfl⟩;rw [HG.out] at he;subst he)
  go_ret2
  exact ⟨by rw [HV.out];rfl,_,rfl⟩
theorem ediv_bound {x g B:Int} (hg:1≤g) (hB:0≤B) (h1:-B≤x) (h2:x≤B):-B≤x / g∧x / g≤B:=by
 have hm:B*1≤B*g:=Int.mul_le_mul_of_nonneg_left hg hB
 constructor
 ·rw [Int.le_ediv_iff_mul_le (by omega),Int.neg_mul];omega
 ·exact Int.lt_add_one_iff.1 ((Int.ediv_lt_iff_lt_mul (by omega)).2 (by rw [Int.add_mul];omega))
theorem tdiv_dvd {a g:Int} (hd:a % g=0):a.tdiv g=a / g:=Int.tdiv_eq_ediv_of_dvd (Int.dvd_of_emod_eq_zero hd)
theorem tmod_dvd {a g:Int} (hd:a % g=0):a.tmod g=0:=Int.tmod_eq_zero_of_dvd (Int.dvd_of_emod_eq_zero hd)
set_option maxRecDepth 100000 in
set_option maxHeartbeats 1000000 in
theorem solve_any (a m b n:Int) (w:World) (ha:InI a) (hb:InI b) (hm:1≤m) (hm1:m≤4294967295) (hn:1≤n) (hn1:n≤4294967295) (hL:lcmI m n≤1099511627776)
  (hd:(b % n-a % m) % (Int.gcd m n:Nat)=0) :
  Calls Tryz.prog 178 #[.int .i64 a,.int .i64 m,.int .i64 b,.int .i64 n] w fun e w'=>e=.returned (.tuple #[.int .i64 (solveI a m b n),.int .i64 (lcmI m n),.int .i64 0])∧∃ n,w'=w.drewN n:=by
 have hg:=gcd_bound (b:=n) hm
 have hg2:=gcd_bound2 (a:=m) hn
 have hcop:=coprime_div hm hn
 have r0:=Int.emod_nonneg a (show m≠0 by omega)
 have r1:=Int.emod_lt_of_pos a (show 0<m by omega)
 have s0:=Int.emod_nonneg b (show n≠0 by omega)
 have s1:=Int.emod_lt_of_pos b (show 0<n by omega)
 have HV:=Lib.hid (show lcmV m n=_ from if_pos hL)
 have hpos:=lcmI_pos hm hn
 have hsol:=fun i hi=>isSol_of hm hn rfl rfl rfl hd (i:=i) hi rfl
 obtain ⟨g,hgd⟩:∃ g,g=((Int.gcd m n:Nat):Int):=⟨_,rfl⟩
 rw [← hgd] at hg hg2 hcop hd hsol
 have HG:=Lib.hid hgd.symm
 clear hgd
 have q1:1≤n / g:=(Int.le_ediv_iff_mul_le (by omega)).2 (by omega)
 have q2:n / g≤n:=Int.ediv_le_self _ (by omega)
 have p1:0≤m / g:=Int.ediv_nonneg (by omega) (by omega)
 have p2:m / g≤m:=Int.ediv_le_self _ (by omega)
 have HC:Hid (Int.gcd (m / g % (n / g)) (n / g)=1):=by rw [gcd_emod p1 q1];exact Lib.hid hcop
 have u0:=Int.emod_nonneg (m / g) (show n / g≠0 by omega)
 have u1:=Int.emod_lt_of_pos (m / g) (show 0<n / g by omega)
 have v0:=Int.emod_nonneg ((b % n-a % m) / g) (show n / g≠0 by omega)
 have v1:=Int.emod_lt_of_pos ((b % n-a % m) / g) (show 0<n / g by omega)
 have htd:=tdiv_dvd hd
 obtain ⟨e0,e1⟩:=ediv_bound (x:=b % n-a % m) (g:=g) (B:=4294967295) (by omega) (by omega) (by omega) (by omega)
 have htm:((b % n-a % m).tmod g != 0)=false:=by rw [tmod_dvd hd];rfl
 have hinv:IsInv (m / g % (n / g)) (n / g) (invI (m / g % (n / g)) (n / g)):=by
  have:=Classical.epsilon_spec (p:=fun v=>IsInv (m / g % (n / g)) (n / g) v) (inv_exists u0 u1 HC.out)
  exact this
 have hS:=hsol _ hinv
 have HS:=Lib.hid (solveI_eq hm hn hS)
 have z0:=hS.1
 have z1:=hS.2.1
 obtain ⟨i0,i1,_⟩:=hinv
 have k0:=Int.emod_nonneg ((b % n-a % m) / g % (n / g)*invI (m / g % (n / g)) (n / g)) (show n / g≠0 by omega)
 have k1:=Int.emod_lt_of_pos ((b % n-a % m) / g % (n / g)*invI (m / g % (n / g)) (n / g)) (show 0<n / g by omega)
 have mk0:=Int.mul_nonneg (show 0≤m by omega) k0
 clear hS hsol hcop hd
 unfold InI at ha hb
 go_enter Tryz.func178,Tryz.ntmps178
 go_wp2_with (first|(go_at_call 77;refine (gcd_any _ _ _ hm (by omega) hn (by omega)).mono ?_;rintro e w' ⟨he,nq,rfl⟩;rw [HG.out] at he;subst he)|(go_at_call 198;refine (mod_any _ _ _ (by omega) (by omega)).mono ?_;rintro e w' ⟨rfl,rfl⟩)|(go_at_call 29;refine (lcm_any _ _ _ hm (by omega) hn (by omega)).mono ?_;rintro e w' ⟨he,nq2,rfl⟩;rw [HV.out] at he;subst he))
 go_quiet ((first|(go_at_call 198;(first|exact quiet_same (mod_any _ _ _ (by omega) (by omega))|exact quiet_add_left (mod_any _ _ _ (by omega) (by omega))))|(go_at_call 200;(first|exact Calls.quiet_of (inverse_any _ _ _ (by omega) (by omega) (by omega) HC.out)|exact quiet_add (inverse_any _ _ _ (by omega) (by omega) (by omega) HC.out)))|(go_at_call 199;(first|exact Calls.quiet_of (times_any _ _ _ _ (by omega) (by omega) (by omega) (by omega) (by omega) (by omega))|exact quiet_add (times_any _ _ _ _ (by omega) (by omega) (by omega) (by omega) (by omega) (by omega))))))
 go_wp2_with fail
 go_ret3
 refine ⟨?_,_,rfl⟩
 rw [HS.out]
 simp
end Go.Proofs.YthjnojbeimchdaaGreat
/- Slices of the call's own: slices.Clone, slices.Sort. -/
namespace Go.Proofs.YthjnojbeimchdaaGreat
open Go.RowKit Kal
structure OwnI (w:World) (base:Nat) (v:Value) (l:List Int):Prop where
 row:w.ownsRow base 3 1 v l.length (l.map (Value.int .i64))
 rng:∀ x∈l,InI x
 len:l.length≤17592186044416
theorem OwnI.nil (w:World) (base:Nat):OwnI w base (.slice none 0 0) []:=⟨World.ownsRow_nil w base _ 1,by simp,by simp⟩
theorem OwnI.ints {w:World} {base:Nat} {v:Value} {l:List Int} (h:OwnI w base v l):Ints w v l:=by
 obtain ⟨⟨h1,h2⟩,h3,h4⟩:=h
 refine ⟨?_,h4,h3⟩
 rcases h2 with ⟨rfl,h0⟩|⟨g,cap,cur,rfl,hg,hh,hn,hc,hs,ht⟩
 ·have:l=[]:=List.eq_nil_of_length_eq_zero h0
  subst this
  exact ⟨none,0,rfl,by simp,by omega,.inl rfl⟩
 ·unfold maxLen at hc
  refine ⟨_,cap,rfl,hn,by omega,.inr ⟨g,0,rfl,fun i hi=>?_⟩⟩
  have e:(cur.toList.take (l.length*1))[i]? = (l.map (Value.int .i64))[i]?:=by rw [ht]
  rw [List.getElem?_take_of_lt (by omega)] at e
  simp only [World.cell?,hh,Nat.zero_add,Option.isSome_none,Bool.false_eq_true,if_false]
  rw [← Array.getElem?_toList,e]
  simp [hi]
theorem OwnI.form {w:World} {base:Nat} {v:Value} {l:List Int} (h:OwnI w base v l):∃ a c,v=.slice a l.length c:=by
 obtain ⟨a,c,hv,_⟩:=h.ints.is
 exact ⟨a,c,hv⟩
theorem OwnI.kept {w w':World} {base:Nat} {v:Value} {l:List Int} {row:Option Nat} (h:OwnI w base v l) (hg:w.grownBy w' row) (hne:v.ownBlock=none∨v.ownBlock≠row):OwnI w' base v l:=
 ⟨h.row.kept hg hne,h.rng,h.len⟩
theorem OwnI.lt {w:World} {base:Nat} {v:Value} {l:List Int} (h:OwnI w base v l):∀ k,v.ownBlock=some k→base≤k∧k<w.heap.size:=h.row.lt
theorem OwnI.ext {w w':World} {base:Nat} {v:Value} {l:List Int} (h:OwnI w base v l) (hb:Below w.heap.size w w'):OwnI w' base v l:=by
 obtain ⟨⟨h1,h2⟩,h3,h4⟩:=h
 refine ⟨⟨h1,?_⟩,h3,h4⟩
 rcases h2 with h2|⟨g,cap,cur,hv,hg,hh,hr⟩
 ·exact .inl h2
 ·exact .inr ⟨g,cap,cur,hv,hg,by rw [hb.block g (Array.getElem?_eq_some_iff.1 hh).1];exact hh,hr⟩
theorem OwnI.mono {w:World} {base base':Nat} {v:Value} {l:List Int} (h:OwnI w base v l) (hb:base'≤base):OwnI w base' v l:=by
 obtain ⟨⟨h1,h2⟩,h3,h4⟩:=h
 refine ⟨⟨h1,?_⟩,h3,h4⟩
 rcases h2 with h2|⟨g,cap,cur,hv,hg,hr⟩
 ·exact .inl h2
 ·exact .inr ⟨g,cap,cur,hv,by omega,hr⟩
structure Above (B:Nat) (w w':World):Prop where
 size:w.heap.size≤w'.heap.size
 block:∀ k,B≤k→k<w.heap.size→w'.heap[k]? = w.heap[k]?
theorem Above.refl (B:Nat) (w:World):Above B w w:=⟨Nat.le_refl _,fun _ _ _=>rfl⟩
theorem Above.alloc {B:Nat} {w W:World} (h:Above B w W) (o:Obj):Above B w (W.alloc o):=
 ⟨by have:=h.size;simp;omega,fun k h1 h2=>(Below.heap_alloc W o k (by have:=h.size;omega)).trans (h.block k h1 h2)⟩
theorem Above.drew {B:Nat} {w W:World} (h:Above B w W):Above B w W.drew:=⟨h.size,h.block⟩
theorem Above.drewN {B:Nat} {w W:World} (h:Above B w W) (n:Nat):Above B w (W.drewN n):=⟨h.size,h.block⟩
theorem Above.setCell {B:Nat} {w W:World} (h:Above B w W) {a:Addr} (ha:a.block<B) (v:Value):Above B w (W.setCell a v):=
 ⟨by have:=h.size;simp [World.setCell];omega,fun k h1 h2=>(Below.heap_setCell W a v k (by omega)).trans (h.block k h1 h2)⟩
theorem Above.of_below {B:Nat} {w W W':World} (h:Above B w W) (h':Below W.heap.size W W'):Above B w W':=
 ⟨Nat.le_trans h.size h'.size,fun k h1 h2=>(h'.block k (by have:=h.size;omega)).trans (h.block k h1 h2)⟩
theorem OwnI.above {w w':World} {base:Nat} {v:Value} {l:List Int} (h:OwnI w base v l) (hb:Above base w w'):OwnI w' base v l:=by
 obtain ⟨⟨h1,h2⟩,h3,h4⟩:=h
 refine ⟨⟨h1,?_⟩,h3,h4⟩
 rcases h2 with h2|⟨g,cap,cur,hv,hg,hh,hr⟩
 ·exact .inl h2
 ·exact .inr ⟨g,cap,cur,hv,hg,by rw [hb.block g hg (Array.getElem?_eq_some_iff.1 hh).1];exact hh,hr⟩
def CloneRes (w:World) (l:List Int) (e:Ending) (w':World):Prop:=∃ v',e=.returned v'∧OwnI w' w.heap.size v' l∧Below w.heap.size w w'
theorem clone_any (v:Value) (l:List Int) (w:World) (hv:Ints w v l):Calls Tryz.prog 129 #[v] w (CloneRes w l):=by
 obtain ⟨⟨a,c,rfl,h1,h2,h3⟩,h4,h5⟩:=hv
 rcases h3 with h3|⟨b,o,rfl,hcell⟩
 ·subst h3
  cases a with
  | none=>exact (Tryz.slices_Clone_int_nil 0 c w).mono fun e w' ⟨he,hw⟩=>⟨_,he,by rw [hw];exact OwnI.nil w _,by rw [hw];exact Below.refl _ _⟩
  | some a=>exact (Tryz.slices_Clone_int_zero a c w).mono fun e w' ⟨v',he,ho,_,hb⟩=>⟨v',he,⟨ho,by simp,by simp⟩,hb⟩
 ·refine (Tryz.slices_Clone_int b o l.length c l w (Nat.le_refl _) (by omega) hcell).mono fun e w' ⟨v',he,ho,_,hb⟩=>⟨v',he,⟨?_,h5,h4⟩,hb⟩
  rwa [List.take_length] at ho
def isort (l:List Int):List Int:=l.mergeSort (fun x y=>decide (x≤y))
theorem isort_perm (l:List Int):(isort l).Perm l:=List.mergeSort_perm l _
theorem isort_mem (l:List Int) (x:Int):x∈isort l↔x∈l:=(isort_perm l).mem_iff
theorem isort_length (l:List Int):(isort l).length=l.length:=(isort_perm l).length_eq
theorem isort_le (l:List Int):(isort l).Pairwise (·≤·):=by
 have:=List.pairwise_mergeSort (le:=fun x y:Int=>decide (x≤y)) (fun a b c h1 h2=>by simp at *;omega) (fun a b=>by simp;omega) l
 exact this.imp fun h=>by simpa using h
theorem isort_lt {l:List Int} (h:l.Nodup):(isort l).Pairwise (· < ·):=by
 have h1:=isort_le l
 have h2:(isort l).Nodup:=(isort_perm l).symm.nodup h
 exact (h1.and h2).imp fun ⟨a,b⟩=>by omega
theorem sort_any (v:Value) (l:List Int) (base:Nat) (w:World) (hv:OwnI w base v l) :
  Calls Tryz.prog 132 #[v] w fun e w'=>e=.returned (.tuple #[])∧OwnI w' base v (isort l)∧w.grownBy w' v.ownBlock:=by
 have hv0:=hv
 obtain ⟨⟨h1,h2⟩,h3,h4⟩:=hv
 rcases h2 with ⟨rfl,h0⟩|⟨g,cap,cur,rfl,hg,hh,hn,hc,hs,ht⟩
 ·have hl:l=[]:=List.eq_nil_of_length_eq_zero h0
  refine (Tryz.slices_Sort_int_none none 0 w).mono fun e w' ⟨he,hw⟩=>⟨he,?_,?_⟩
  ·subst hl;rw [hw,show isort []=[] from List.eq_nil_of_length_eq_zero (by simp [isort_length])];exact OwnI.nil w base
  ·rw [hw];exact ⟨rfl,rfl,rfl,Nat.le_refl _,fun _ _ _=>rfl⟩
 ·rw [Nat.mul_one] at ht
  refine (Tryz.slices_Sort_int g 0 cap l w (holds_of_blockI hh ht) (Array.getElem?_eq_some_iff.1 hh).1 (by omega)).mono fun e w' ⟨he,n,os,hw⟩=>⟨he,?_,?_⟩
  ·have:=ownsRow_sortedI (n:=n) (os:=os) (ts:=isort l) (isort_length l) hg hh hn hc hs
   rw [hw]
   refine ⟨?_,fun x hx=>h3 x ((isort_mem l x).1 hx),by rw [isort_length];exact h4⟩
   rw [isort_length];exact this
  ·rw [hw];exact grownBy_sortedI _
end Go.Proofs.YthjnojbeimchdaaGreat
/- 'out = append(out, x)' on a slice of ints that the call owns. -/
namespace Go.Proofs.YthjnojbeimchdaaGreat
open Go.RowKit Kal
theorem intInfo:∃ i,Tryz.prog.info? 3=some i∧i.zero=some (.int .i64 0)∧i.size=1∧i.bytes=8:=by
 have h:(Tryz.prog.info? 3).map (fun i=>(i.zero,i.size,i.bytes))=some (some (.int .i64 0),1,8):=by kernel_rfl
 obtain ⟨i,hi,h1,h2,h3⟩:=info_parts h
 exact ⟨i,hi,h1,h2,h3⟩
theorem OwnI.below_grown {W w1:World} {base:Nat} {v:Value} {l:List Int} (h:OwnI W base v l) {W0:World} (hW:W0.heap.size≤W.heap.size∨True) (hbase:base≤W.heap.size) (hg:W.grownBy w1 v.ownBlock):Below base W w1:=
 (Below.refl base W).grown hg hbase (fun k e=>(h.lt k e).1)
theorem OwnI.appended {w':World} {base g cap:Nat} {l:List Int} {y:Int} (hl:∀ x∈l,InI x) (hy:InI y) (hlen:l.length+1≤17592186044416)
  (h:w'.ownsRow base 3 1 (.slice (some ⟨g,0,none⟩) (l.length+1) cap) (l.length+1) (l.map (Value.int .i64) ++ [.int .i64 y])):OwnI w' base (.slice (some ⟨g,0,none⟩) (l.length+1) cap) (l ++ [y]):=by
 refine ⟨?_,fun x hx=>?_,by simpa using hlen⟩
 ·rw [List.length_append,List.map_append];exact h
 ·rcases List.mem_append.1 hx with hx|hx
  ·exact hl x hx
  ·obtain rfl:x=y:=by simpa using hx
   exact hy
theorem append_step (w:World) {ops:Array Oper} {o:Oper} {a:Act} {K:Act→World→Prop} {Q:Exit→Act→World→Prop} {E:Prop} (hgd:o.guard=none) (s x:Operand)
  (ho:o.op=.call { callee:=.builtin .append,args:=#[s,x],argTypes:=#[37,37] }) (base:Nat) (v:Value) (l:List Int) (y:Int) (hs:a.eval s=v) (hown:OwnI w base v l)
  (blk c:Nat) (hx:a.eval x=.slice (some ⟨blk,0,none⟩) 1 c) (hnew:w.cell? ⟨blk,0,none⟩=some (.int .i64 y)) (hy:InI y) (hlen:l.length+1≤17592186044416) (hbase:base≤w.heap.size)
  (h:∀ g cap w',OwnI w' base (.slice (some ⟨g,0,none⟩) (l.length+1) cap) (l ++ [y])→w.grownBy w' v.ownBlock→Below base w w'→K (a.put o.dst (.slice (some ⟨g,0,none⟩) (l.length+1) cap)) w') :
  if Region.wanted o (yielded ops a.tmps)=true then Oper.wp Tryz.prog o a w K Q else E:=by
 obtain ⟨i,hi,h1,h2,h3⟩:=intInfo
 refine step_append_lies w hgd s x 37 ho base 3 i (.int .i64 0) 1 8 Tryz.underlying37 hi h1 h2 h3 rfl (by omega) v l.length (l.map (Value.int .i64)) hs hown.row ⟨blk,0,none⟩ 1 c [.int .i64 y] hx rfl ?_ (by simp [Value.oneCell']) (by omega) (by unfold maxLen;omega) (by omega) hbase _ rfl ?_
 ·intro j u hu
  match j,hu with
  | 0,hu=>simp at hu;subst hu;exact hnew
 ·intro g cap w' hown' hgrow _ _
  exact h g cap w' (OwnI.appended hown.rng hy hlen hown') hgrow (hown.below_grown (W0:=w) (.inr trivial) hbase hgrow)
theorem append_list {w:World} {ops:Array Oper} {rest:List Oper} {o:Oper} {a:Act} {Q:Exit→Act→World→Prop} (hgd:o.guard=none) (s x:Operand)
  (ho:o.op=.call { callee:=.builtin .append,args:=#[s,x],argTypes:=#[37,37] }) (base:Nat) (v:Value) (l:List Int) (y:Int) (hs:a.eval s=v) (hown:OwnI w base v l)
  (blk c:Nat) (hx:a.eval x=.slice (some ⟨blk,0,none⟩) 1 c) (hnew:w.cell? ⟨blk,0,none⟩=some (.int .i64 y)) (hy:InI y) (hlen:l.length+1≤17592186044416) (hbase:base≤w.heap.size)
  (h:∀ g cap w',OwnI w' base (.slice (some ⟨g,0,none⟩) (l.length+1) cap) (l ++ [y])→w.grownBy w' v.ownBlock→Below base w w'→wpList Tryz.prog ops Q rest (a.put o.dst (.slice (some ⟨g,0,none⟩) (l.length+1) cap)) w') :
  wpList Tryz.prog ops Q (o :: rest) a w:=by
 obtain ⟨i,hi,h1,h2,h3⟩:=intInfo
 refine wpList_append_lies w hgd s x 37 ho base 3 i (.int .i64 0) 1 8 Tryz.underlying37 hi h1 h2 h3 rfl (by omega) v l.length (l.map (Value.int .i64)) hs hown.row ⟨blk,0,none⟩ 1 c [.int .i64 y] hx rfl ?_ (by simp [Value.oneCell']) (by omega) (by unfold maxLen;omega) (by omega) hbase _ rfl ?_
 ·intro j u hu
  match j,hu with
  | 0,hu=>simp at hu;subst hu;exact hnew
 ·intro g cap w' hown' hgrow _ _
  exact h g cap w' (OwnI.appended hown.rng hy hlen hown') hgrow (hown.below_grown (W0:=w) (.inr trivial) hbase hgrow)
end Go.Proofs.YthjnojbeimchdaaGreat
/- Walks: shorten (package periodic) and its closure. -/
namespace Go.Proofs.YthjnojbeimchdaaGreat
open Go.RowKit Kal
theorem sub_toNat {i k:Nat}:((i:Int)-(k:Int)).toNat=i-k:=by omega
open Classical in
noncomputable def partsB (C:List Int) (d:Int) (k:Nat):Bool:=decide (Parts C d k)
theorem partsB_iff {C:List Int} {d:Int} {k:Nat}:partsB C d k=true↔Parts C d k:=by unfold partsB;simp
theorem getD_get {C:List Int} {i:Nat} (h:i<C.length):C.getD i 0=C[i]:=by simp [h]
set_option maxRecDepth 100000 in
set_option maxHeartbeats 1000000 in
theorem same_any (cv:Value) (C:List Int) (T:Int) (parts:Int) (d:Int) (k:Nat) (pb nb cb:Addr) (w:World)
  (hT0:1≤T) (hT:T≤1125899906842624) (hC:Rise 0 T C) (hcv:Ints w cv C) (hp:w.cell? pb=some (.int .i64 T)) (hn:w.cell? nb=some (.int .i64 C.length)) (hc:w.cell? cb=some cv)
  (hparts:1≤parts) (hd:T / parts=d) (hk:(C.length:Int) / parts=k) (hk1:1≤k) (hkn:k≤C.length) :
  Calls Tryz.prog 160 #[.int .i64 parts,.pointer (some pb),.pointer (some nb),.pointer (some cb)] w fun e w'=>e=.returned (.bool (partsB C d k))∧∃ n,w'=w.drewN n:=by
 have hd0:0≤d:=hd ▸ Int.ediv_nonneg (by omega) (by omega)
 have hd1:d≤T:=hd ▸ Int.ediv_le_self _ (by omega)
 obtain ⟨⟨a,c,rfl,hlc,hcc,hcells⟩,hlen,_⟩:=hcv
 rcases hcells with h|⟨b,o,rfl,hcell⟩
 ·subst h;simp at hkn;omega
 have hE:∀ i,i<C.length→0≤C.getD i 0∧C.getD i 0<T:=fun i hi=>by rw [getD_get hi];exact hC.get_bounds hi
 have HC:=Lib.hid hcell
 have HE:=Lib.hid hE
 clear hcell hE
 have hpos:(0:Int)<parts:=by omega
 go_enter Tryz.func160,Tryz.ntmps160
 go_wp2_with fail
 go_quiet (fail)
 go_wp2_with fail
 go_loopw [8] (fun i wr=>∃ j:Nat,k≤j∧j≤C.length∧i=.int .i64 j∧(∀ x,k≤x→x<j→C.getD x 0=C.getD (x-k) 0+d)∧∃ n,wr=w.drewN n) (fun i _=>C.length-(intOf i).toNat)
 case atStart=>exact ⟨k,Nat.le_refl _,hkn,rfl,fun x h1 h2=>by omega,_,rfl⟩
 case round=>
  obtain ⟨j,hkj,hj,rfl,hall,n,rfl⟩:=hrel
  have HA:=Lib.hid hall
  clear hall
  by_cases hlt:j<C.length
  ·have h1:=HC.out j hlt
   have h2:=HC.out (j-k) (by omega)
   have e1:=HE.out j hlt
   have e2:=HE.out (j-k) (by omega)
   have hs:=@sub_toNat j k
   obtain ⟨x,hx⟩:∃ x,x=C.getD j 0:=⟨_,rfl⟩
   obtain ⟨y,hy⟩:∃ y,y=C.getD (j-k) 0:=⟨_,rfl⟩
   rw [← hx] at h1 e1
   rw [← hy] at h2 e2
   have HX:=Lib.hid hx
   have HY:=Lib.hid hy
   clear hx hy
   have hltI:(j:Int)<C.length:=by omega
   go_wp2_with fail
   go_quiet (fail)
   go_wp2_with fail
   ·have hne:x≠y+d:=by simpa using ‹(x != y+d)=true›
    go_ret
    refine ⟨ret_bool ?_,_,World.drewN_drewN _ _ _⟩
    have hnp:¬ Parts C d k:=fun h=>hne (by rw [HX.out,HY.out,getD_get hlt,getD_get (show j-k<C.length by omega)];exact h.1 j hlt hkj)
    have hf:partsB C d k=false:=by rw [← Bool.not_eq_true,partsB_iff];exact hnp
    rw [hf]
   ·have heq:x=y+d:=by simpa using ‹(x != y+d)=false›
    refine ⟨⟨j+1,by omega,by omega,by go_num,fun z h1 h2=>?_,_,rfl⟩,by simp [intOf];try omega⟩
    rcases Nat.lt_or_ge z j with h3|h3
    ·exact HA.out z h1 h3
    ·obtain rfl:z=j:=by omega
     rw [← HX.out,← HY.out];exact heq
  ·have hjn:¬ (j:Int)<C.length:=by omega
   have h1:=HC.out (k-1) (by omega)
   have e1:=HE.out (k-1) (by omega)
   have hs:((k:Int)-1).toNat=k-1:=by omega
   obtain ⟨x,hx⟩:∃ x,x=C.getD (k-1) 0:=⟨_,rfl⟩
   rw [← hx] at h1 e1
   have HX:=Lib.hid hx
   have hkI:(1:Int)≤k:=by omega
   have hfin:partsB C d k=decide (x<d):=by
    rw [Bool.eq_iff_iff,partsB_iff,decide_eq_true_iff,hx,getD_get (show k-1<C.length by omega)]
    constructor
    ·exact fun h=>h.2.2
    ·refine fun h=>⟨fun i hi hki=>?_,by omega,h⟩
     have:=HA.out i hki (by omega)
     rwa [getD_get hi,getD_get (show i-k<C.length by omega)] at this
   have HF:=Lib.hid hfin
   clear hx hfin
   go_wp2_with fail
   go_ret
   exact ⟨ret_bool HF.out.symm,_,rfl⟩
theorem Ints.take {w:World} {a:Option Addr} {n c k:Nat} {l:List Int} (h:Ints w (.slice a n c) l) (hk:k≤l.length):Ints w (.slice a k c) (l.take k):=by
 obtain ⟨⟨a',c',he,h1,h2,h3⟩,h4,h5⟩:=h
 injection he with e1 e2 e3
 subst e1;subst e3
 have hl:(l.take k).length=k:=by simp;omega
 refine ⟨⟨a,c,by rw [hl],by rw [hl];omega,h2,?_⟩,by rw [hl];omega,fun x hx=>h5 x (List.mem_of_mem_take hx)⟩
 rcases h3 with rfl|⟨b,o,rfl,hc⟩
 ·exact .inl (by simp)
 ·refine .inr ⟨b,o,rfl,fun i hi=>?_⟩
  rw [hl] at hi
  rw [hc i (by omega)]
  simp [hi]
def ShortRes (p:Per) (a:Option Addr) (c:Nat) (w:World) (e:Ending) (w':World):Prop:=
 ∃ (d:Int) (B:List Int),e=.returned (.tuple #[.int .i64 d,.slice a B.length c])∧Ints w' (.slice a B.length c) B∧Short p d B∧Below w.heap.size w w'
set_option maxRecDepth 100000 in
set_option maxHeartbeats 1000000 in
theorem shorten_any (a:Option Addr) (c:Nat) (p:Per) (w:World) (hw:p.WF) (hne:p.cycle≠[]) (hT:p.period≤1125899906842624) (hcv:Ints w (.slice a p.cycle.length c) p.cycle) :
  Calls Tryz.prog 130 #[.int .i64 p.period,.slice a p.cycle.length c] w (ShortRes p a c w):=by
 have hT0:=hw.per
 have hl:∀ W,Below w.heap.size w W→Ints W (.slice a p.cycle.length c) p.cycle:=fun W hb=>hcv.ext hb
 have hn1:1≤p.cycle.length:=by
  rcases Nat.eq_zero_or_pos p.cycle.length with h|h
  ·exact absurd (List.eq_nil_of_length_eq_zero h) hne
  ·exact h
 obtain ⟨⟨a',c',he,hlc,hcc,hcells⟩,hlen,_⟩:=hcv
 injection he with he1 he2 he3
 subst he1;subst he3
 have hlI:(1:Int)≤p.cycle.length:=by omega
 go_enter Tryz.func130,Tryz.ntmps130
 go_wp2_with fail
 go_loopw [8,4,5] (fun q _ _ wr=>∃ j:Nat,1≤j∧j≤p.cycle.length∧q=.int .i64 j∧(∀ q' d' k',j<q'→1≤d'→1≤k'→p.period=(q':Nat)*d'→p.cycle.length=q' * k'→¬ Parts p.cycle d' k')∧Below w.heap.size w wr∧wr.cell? ⟨w.heap.size,0,none⟩=some (.int .i64 p.period)∧wr.cell? ⟨w.heap.size+1,0,none⟩=some (.slice a p.cycle.length c)∧wr.cell? ⟨w.heap.size+1+1,0,none⟩=some (.int .i64 p.cycle.length)) (fun q _ _ _=>(intOf q).toNat)
 case atStart=>
  refine ⟨p.cycle.length,hn1,Nat.le_refl _,rfl,fun q' d' k' h1 h2 h3 h4 h5=>?_,by exact xE,by go_simp,by go_simp,by go_simp⟩
  have:q' * 1≤q' * k':=Nat.mul_le_mul_left _ h3
  omega
 case round=>
  obtain ⟨j,hj1,hjn,rfl,hmax,hb,hc1,hc2,hc3⟩:=hrel
  have HM:=Lib.hid hmax
  clear hmax
  by_cases hgt:1<j
  ·have hjI:(1:Int)<j:=by omega
   by_cases hd1:(p.cycle.length:Int) % j=0
   ·by_cases hd2:p.period % j=0
    ·obtain ⟨d,hd⟩:∃ d,p.period / j=d:=⟨_,rfl⟩
     obtain ⟨k,hk⟩:∃ k:Nat,(p.cycle.length:Int) / j=k:=⟨p.cycle.length / j,by simp⟩
     have hTd:p.period=(j:Nat)*d:=by rw [← hd];exact (Int.mul_ediv_cancel' (Int.dvd_of_emod_eq_zero hd2)).symm
     have hnk:p.cycle.length=j*k:=by
      have:=Int.mul_ediv_cancel' (Int.dvd_of_emod_eq_zero hd1)
      rw [hk] at this
      have e:((j*k:Nat):Int)=p.cycle.length:=by rw [← this];push_cast;rfl
      omega
     have hd1':1≤d:=by
      rcases Int.lt_or_le 0 d with h|h
      ·omega
      ·have:=Int.mul_nonpos_of_nonneg_of_nonpos (show (0:Int)≤(j:Nat) by omega) h;omega
     have hk1':1≤k:=by
      rcases Nat.eq_zero_or_pos k with h|h
      ·subst h;exact absurd (by simpa using hnk) hne
      ·exact h
     have hkn:k≤p.cycle.length:=by rw [hnk];exact Nat.le_mul_of_pos_left k (by omega)
     have hdT:d≤p.period:=hd ▸ Int.ediv_le_self _ (by omega)
     have V:=Lib.hid (fun W hb h1 h2 h3=>same_any (.slice a p.cycle.length c) p.cycle p.period j d k ⟨w.heap.size,0,none⟩ ⟨w.heap.size+1+1,0,none⟩ ⟨w.heap.size+1,0,none⟩ W hT0 hT hw.cyc (hl W hb) h1 h2 h3 (by omega) hd hk hk1' hkn)
     have HTd:=Lib.hid hTd
     have HNK:=Lib.hid hnk
     have hb1:((p.cycle.length:Int) % j == 0)=true:=by simpa using hd1
     have hb2:(p.period % (j:Int) == 0)=true:=by simpa using hd2
     clear hTd hnk hd1 hd2
     cases hP:partsB p.cycle d k with
     | true=>
      have hPP:=partsB_iff.1 hP
      have HS:=Lib.hid (short_of_parts hw hne hd1' (by omega) HTd.out HNK.out hk1' hPP (fun q' d' k'=>HM.out q' d' k'))
      clear hPP
      go_wp2_with (go_at_call 160;refine (V.out _ xE (by assumption) (by assumption) (by assumption)).mono ?_;rintro e w' ⟨he,nq,rfl⟩;rw [hP] at he;subst he)
      go_quiet (fail)
      go_wp2_with fail
      go_ret2
      have hkl:(p.cycle.take k).length=k:=by simp;omega
      exact ⟨p.period / j,p.cycle.take k,by rw [hkl];rfl,by rw [hkl];exact ((hl _ xE).take hkn),by rw [hd];exact HS.out,xE⟩
     | false=>
      go_wp2_with (go_at_call 160;refine (V.out _ xE (by assumption) (by assumption) (by assumption)).mono ?_;rintro e w' ⟨he,nq,rfl⟩;rw [hP] at he;subst he)
      refine ⟨⟨j-1,by omega,by omega,by congr 1;omega,fun q' d' k' h1 h2 h3 h4 h5 h6=>?_,by exact xE,hc1,hc2,hc3⟩,by simp [intOf];omega⟩
      rcases Nat.lt_or_ge j q' with h7|h7
      ·exact HM.out q' d' k' h7 h2 h3 h4 h5 h6
      ·obtain rfl:q'=j:=by omega
       have e1:d'=d:=Int.eq_of_mul_eq_mul_left (show ((q':Nat):Int)≠0 by omega) (h4.symm.trans HTd.out)
       have e2:k'=k:=Nat.eq_of_mul_eq_mul_left (show 0<q' by omega) (h5.symm.trans HNK.out)
       subst e1;subst e2
       rw [partsB_iff.2 h6] at hP;cases hP
    ·have hb1:((p.cycle.length:Int) % j == 0)=true:=by simpa using hd1
     have hb2:(p.period % (j:Int) == 0)=false:=by simpa using hd2
     have H2:=Lib.hid hd2
     clear hd1 hd2
     go_wp2_with fail
     refine ⟨⟨j-1,by omega,by omega,by congr 1;omega,fun q' d' k' h1 h2 h3 h4 h5 h6=>?_,by exact xE,hc1,hc2,hc3⟩,by simp [intOf];omega⟩
     rcases Nat.lt_or_ge j q' with h7|h7
     ·exact HM.out q' d' k' h7 h2 h3 h4 h5 h6
     ·obtain rfl:q'=j:=by omega
      exact H2.out (by rw [h4];exact Int.mul_emod_right _ _)
   ·have hb1:((p.cycle.length:Int) % j == 0)=false:=by simpa using hd1
    have H1:=Lib.hid hd1
    clear hd1
    go_wp2_with fail
    refine ⟨⟨j-1,by omega,by omega,by congr 1;omega,fun q' d' k' h1 h2 h3 h4 h5 h6=>?_,by exact xE,hc1,hc2,hc3⟩,by simp [intOf];omega⟩
    rcases Nat.lt_or_ge j q' with h7|h7
    ·exact HM.out q' d' k' h7 h2 h3 h4 h5 h6
    ·obtain rfl:q'=j:=by omega
     exact H1.out (by rw [h5];push_cast;exact Int.mul_emod_right _ _)
  ·obtain rfl:j=1:=by omega
   have hP:Parts p.cycle p.period p.cycle.length:=⟨fun i hi hk=>by omega,by omega,by have:=hw.cyc.get_bounds (i:=p.cycle.length-1) (by omega);exact this.2⟩
   have HS:=Lib.hid (short_of_parts hw hne hT0 (Nat.le_refl 1) (by simp) (by simp) hn1 hP (fun q' d' k'=>HM.out q' d' k'))
   clear hP
   go_wp2_with fail
   go_quiet (fail)
   go_wp2_with fail
   go_ret2
   have hkl:=HS.out
   rw [List.take_length] at hkl
   exact ⟨p.period,p.cycle,rfl,(hl _ xE),hkl,xE⟩
end Go.Proofs.YthjnojbeimchdaaGreat
/- slices.Backward: its iterator. -/
namespace Go.Proofs.YthjnojbeimchdaaGreat
open Go.RowKit Go.Shelf Kal
attribute [local go_sem] Oper.semAt_some
def KpB (pb:Nat→Prop) (A B:World):Prop:=∀ k,pb k→B.heap[k]? = A.heap[k]?
theorem KpB.refl (pb:Nat→Prop) (A:World):KpB pb A A:=fun _ _=>rfl
theorem KpB.trans {pb:Nat→Prop} {A B C:World} (h:KpB pb A B) (h':KpB pb B C):KpB pb A C:=fun k hk=>(h' k hk).trans (h k hk)
theorem KpB.cell {pb:Nat→Prop} {A B:World} (h:KpB pb A B) {a:Addr} {v:Value} (hp:pb a.block) (hc:A.cell? a=some v):B.cell? a=some v:=
 (World.cell?_of_block (h a.block hp)).trans hc
theorem KpB.putObj {pb:Nat→Prop} {n:Nat} (hpb:∀ k,pb k→k<n) (W:World) (l:Nat) (o o':Obj) (hl:n≤l) (_:W.heap[l]? = some o) (_:o.isCells=false):KpB pb W (W.putObj l o'):=
 fun k hk=>World.putObj_heap_other (by have:=hpb k hk;omega)
def bk (l:List Int):List (Int × Int):=(List.range l.length).reverse.map fun (i:Nat)=>((i:Int),l.getD i 0)
theorem bk_length (l:List Int):(bk l).length=l.length:=by simp [bk]
theorem bk_get (l:List Int) (j:Nat) (h:j<l.length):(bk l)[j]'(by rw [bk_length];exact h)=(((l.length-1-j:Nat):Int),l.getD (l.length-1-j) 0):=by
 simp [bk]
theorem bk_take (l:List Int) (j:Nat) (h:j<l.length):(bk l).take (j+1)=(bk l).take j ++ [(((l.length-1-j:Nat):Int),l.getD (l.length-1-j) 0)]:=by
 rw [List.take_succ_eq_append_getElem (by rw [bk_length];exact h),bk_get l j h]
set_option maxHeartbeats 1000000 in
theorem backward_seq (sv:Value) (l:List Int) (bx:Nat) (w:World) (pb:Nat→Prop) (hs:Ints w sv l) (hbx:w.cell? ⟨bx,0,none⟩=some sv) (h1:pb bx)
  (h3:∀ b o n c,sv=.slice (some ⟨b,o,none⟩) n c→pb b) :
  SeqX Tryz.prog 161 #[.pointer (some ⟨bx,0,none⟩)] (fun y:Int × Int=>#[.int .i64 y.1,.int .i64 y.2]) (KpB pb) none (fun pre=>pre <+: bk l) (fun xs=>xs=bk l) (fun _=>True) w:=by
 intro l' J Jx W hW hJ hJx hN hY h0
 obtain ⟨⟨a,c,rfl,hlc,hcc,hcells⟩,hlen,_⟩:=hs
 have hbW:W.cell? ⟨bx,0,none⟩=some (.slice a l.length c):=Ext.cell hW hbx
 refine callsIn_of_wp Tryz.func161 rfl trivial ?_ rfl
 simp only [Tryz.ntmps161,List.size_toArray,List.length_cons,List.length_nil,Nat.reduceAdd,Nat.reduceSub,Array.replicate_succ,Array.replicate_zero,List.push_toArray,List.append_toArray,List.nil_append,List.cons_append]
 gi_wp2
 gi_loopw [3] (fun i wr=>∃ j:Nat,j≤l.length∧i=.int .i64 ((l.length:Int)-1-j)∧J ((bk l).take j) wr∧KpB pb W wr) (fun i _=>(intOf i+1).toNat)
 case atStart=>exact ⟨0,Nat.zero_le _,by simp,by simpa using h0,KpB.refl _ _⟩
 case round=>
  obtain ⟨j,hj,rfl,hJw,hK⟩:=hrel
  by_cases hlt:j<l.length
  ·rcases hcells with h|⟨b,o,rfl,hcell⟩
   ·subst h;simp at hlt
   have hb2:=hK.cell h1 hbW
   have hc2:=hK.cell (a:=⟨b,o+(l.length-1-j),none⟩) (h3 b o _ _ rfl) (Ext.cell hW (hcell (l.length-1-j) (by omega)))
   have ht:=bk_take l j hlt
   have hpre:(bk l).take j ++ [(((l.length-1-j:Nat):Int),l.getD (l.length-1-j) 0)] <+: bk l:=by rw [← bk_take l j hlt];exact List.take_prefix _ _
   have hi1:((l.length:Int)-1-j).toNat=l.length-1-j:=by omega
   have hcast:((l.length-1-j:Nat):Int)=(l.length:Int)-1-j:=by omega
   obtain ⟨x,hx⟩:∃ x,x=l.getD (l.length-1-j) 0:=⟨_,rfl⟩
   rw [hcast,← hx] at ht hpre
   rw [← hx] at hc2
   obtain ⟨fn,tmps,assign,body,hy,hR⟩:=hY _ _ wr hJw hpre
   dsimp only at hy
   have HT:=Lib.hid ht
   have HP:=Lib.hid hpre
   clear hcast hpre hcell ht hx
   gi_wp2
   refine ⟨rfl,hR.mono ?_⟩
   rintro e W' (⟨rfl,hJ',hk⟩|⟨rfl,hJx'⟩)
   ·gi_wp2
    go_roundw
    case rel=>exact ⟨j+1,by omega,by go_num,by rw [HT.out];exact hJ',hK.trans hk⟩
    case measure=>simp [intOf];omega
   ·gi_wp2
    refine bodyPost_ret (results_none rfl _ _ _) rfl ?_
    exact ⟨⟨_,rfl⟩,.inr ⟨_,HP.out,hJx'⟩⟩
  ·have hneg:(l.length:Int)-1-j<0:=by omega
   gi_wp2
   go_end0
   exact ⟨⟨_,rfl⟩,.inl ⟨bk l,rfl,by rw [List.take_of_length_le (by rw [bk_length];omega)] at hJw;exact hJw⟩⟩
end Go.Proofs.YthjnojbeimchdaaGreat
/- Walks: canon (package periodic). -/
namespace Go.Proofs.YthjnojbeimchdaaGreat
open Go.RowKit Go.Shelf Kal
structure POx (w:World) (base:Nat) (h c:Value) (p:Per):Prop where
 hd:OwnI w base h p.head
 cy:OwnI w base c p.cycle
theorem POx.is {w:World} {base:Nat} {h c:Value} {p:Per} (hp:POx w base h c p):PerIs w h c p:=⟨hp.hd.ints,hp.cy.ints⟩
theorem POx.mono {w:World} {base base':Nat} {h c:Value} {p:Per} (hp:POx w base h c p) (hb:base'≤base):POx w base' h c p:=⟨hp.hd.mono hb,hp.cy.mono hb⟩
theorem POx.above {w w':World} {base:Nat} {h c:Value} {p:Per} (hp:POx w base h c p) (hb:Above base w w'):POx w' base h c p:=⟨hp.hd.above hb,hp.cy.above hb⟩
theorem POx.ext {w w':World} {base:Nat} {h c:Value} {p:Per} (hp:POx w base h c p) (hb:Below w.heap.size w w'):POx w' base h c p:=⟨hp.hd.ext hb,hp.cy.ext hb⟩
theorem POx.form {w:World} {base:Nat} {h c:Value} {p:Per} (hp:POx w base h c p):∃ a1 c1 a2 c2,h=.slice a1 p.head.length c1∧c=.slice a2 p.cycle.length c2:=by
 obtain ⟨a1,c1,h1⟩:=hp.hd.form
 obtain ⟨a2,c2,h2⟩:=hp.cy.form
 exact ⟨a1,c1,a2,c2,h1,h2⟩
def CanonRes (S:Int→Prop) (w:World) (e:Ending) (w':World):Prop:=
 ∃ (h' c':Value) (q:Per),e=.returned (.agg #[h',.int .i64 q.frm,.int .i64 q.period,c'])∧IsCanon q S∧POx w' w.heap.size h' c' q∧Below w.heap.size w w'
set_option maxRecDepth 100000 in
set_option maxHeartbeats 2000000 in
theorem canon_finite (h c:Value) (p:Per) (w:World) (hp:PerIs w h c p) (hw:p.WF) (h1:p.frm≤1125899906842624) (hfin:p.cycle=[]) :
  Calls Tryz.prog 88 #[.agg #[h,.int .i64 p.frm,.int .i64 p.period,c]] w (CanonRes p.mem w):=by
 have hl:∀ W,Below w.heap.size w W→Ints W h p.head:=fun W hb=>hp.hd.ext hb
 have HC:=Lib.hid (canon_fin hw hfin)
 have hE:∀ i,i<p.head.length→0≤p.head.getD i 0∧p.head.getD i 0<p.frm:=fun i hi=>getD_bd hw.head hi
 obtain ⟨⟨⟨a,cap,rfl,hlc,hcc,hcells⟩,hlen,_⟩,⟨ca,ccap,rfl,_,_,_⟩,_,_⟩:=hp
 rw [hfin]
 have HE:=Lib.hid hE
 have HFI:=Lib.hid hfin
 clear hE hfin
 simp only [List.length_nil]
 by_cases h0:p.head.length=0
 ·have hn:¬ (0:Int)<p.head.length:=by omega
  have H0:=Lib.hid h0
  clear h0
  go_enter Tryz.func88,Tryz.ntmps88
  go_wp2
  go_step3
  go_wp2_with (go_at_call 129;refine (clone_any _ p.head _ (hl _ xE)).mono ?_;rintro e w1 ⟨v',rfl,ho,hb1⟩;obtain ⟨va,vc,rfl⟩:=ho.form;obtain ⟨hc1,hf1⟩:=bcell hb1;have hz:w.heap.size+1+1<w1.heap.size:=(by have:=hb1.size;simp at this;omega);have hz1:w.heap.size+1<w1.heap.size:=(by omega);have hz0:w.heap.size<w1.heap.size:=(by omega))
  rw [Exit.noGoto_ret]
  refine bodyPost_ret (v:=.agg #[.slice va p.head.length vc,.int .i64 0,.int .i64 1,.slice none 0 0]) ?_ rfl ?_
  ·simp [results,Tryz.results88,go_sem, *]
  ·refine ⟨_,_,⟨p.head,0,1,[]⟩,rfl,?_,⟨?_,OwnI.nil _ _⟩,?_⟩
   ·have:=HC.out;rwa [if_pos H0.out] at this
   ·exact (ho.above (by (repeat' (with_reducible first|exact Above.refl _ _|refine Above.alloc ?_ _|refine Above.drew ?_|refine Above.drewN ?_ _|refine Above.setCell ?_ (by first|(simp;done)|(simp;omega)|omega) _)))).mono (by first|(simp;done)|(simp;omega)|omega)
   ·exact xE
 ·have hn:(0:Int)<p.head.length:=by omega
  have H0:=Lib.hid h0
  rcases hcells with hh|⟨b,o,rfl,hcell⟩
  ·rw [hh] at h0;exact absurd rfl h0
  have hcl:=hcell (p.head.length-1) (by omega)
  have hx1:((p.head.length:Int)-1).toNat=p.head.length-1:=by omega
  have hbd:=HE.out (p.head.length-1) (by omega)
  obtain ⟨x,hx⟩:∃ x,x=p.head.getD (p.head.length-1) 0:=⟨_,rfl⟩
  rw [← hx] at hcl hbd
  have HX:=Lib.hid hx
  clear hcell h0 hx
  go_enter Tryz.func88,Tryz.ntmps88
  go_wp2
  go_step3
  go_wp2_with (go_at_call 129;refine (clone_any _ p.head _ (hl _ xE)).mono ?_;rintro e w1 ⟨v',rfl,ho,hb1⟩;obtain ⟨va,vc,rfl⟩:=ho.form;have hc4:=Ext.cell (w:=w) (W:=w1) xE hcl;have hblt:b<w1.heap.size:=World.block_lt_of_cell? _ _ hc4;obtain ⟨hc1,hf1⟩:=bcell hb1;have hz:w.heap.size+1+1<w1.heap.size:=(by have:=hb1.size;simp at this;omega);have hz1:w.heap.size+1<w1.heap.size:=(by omega);have hz0:w.heap.size<w1.heap.size:=(by omega))
  rw [Exit.noGoto_ret]
  refine bodyPost_ret (v:=.agg #[.slice va p.head.length vc,.int .i64 (x+1),.int .i64 1,.slice none 0 0]) ?_ rfl ?_
  ·simp [results,Tryz.results88,go_sem, *]
  ·refine ⟨_,_,⟨p.head,x+1,1,[]⟩,rfl,?_,⟨?_,OwnI.nil _ _⟩,?_⟩
   ·have:=HC.out;rw [if_neg H0.out,← HX.out] at this;exact this
   ·exact (ho.above (by (repeat' (with_reducible first|exact Above.refl _ _|refine Above.alloc ?_ _|refine Above.drew ?_|refine Above.drewN ?_ _|refine Above.setCell ?_ (by first|(simp;done)|(simp;omega)|omega) _)))).mono (by first|(simp;done)|(simp;omega)|omega)
   ·exact xE
end Go.Proofs.YthjnojbeimchdaaGreat
/- What canon's loop keeps (package periodic). -/
namespace Go.Proofs.YthjnojbeimchdaaGreat
open Go.RowKit Go.Shelf Kal
attribute [local go_sem] Oper.semAt_some
theorem backward_any (sv:Value) (w:World) (h:∃ a n c,sv=.slice a n c) :
  Calls Tryz.prog 131 #[sv] w fun e w'=>e=.returned (.func (.func 161) #[] #[.pointer (some ⟨w.heap.size,0,none⟩)])∧w.alloc (.cells #[sv] 37)=w':=by
 obtain ⟨a,n,c,rfl⟩:=h
 go_enter Tryz.func131,Tryz.ntmps131
 go_wp2
 go_ret
 exact ⟨rfl,rfl⟩
theorem heap_keep {A B:World} {row:Option Nat} {k:Nat} {c:Array Value} {t:TypeId} {f:Nat × Nat} (h:A.heap[k]? = some (.cells c t f)) (hg:A.grownBy B row)
  (hr:∀ r,row=some r→∃ o:Obj,A.heap[r]? = some o∧o.isCells=false):B.heap[k]? = some (.cells c t f):=by
 refine (hg.block k (Array.getElem?_eq_some_iff.1 h).1 fun e=>?_).trans h
 obtain ⟨o,ho,hc⟩:=hr k e.symm
 rw [h] at ho;cases ho;cases hc
structure CI (w:World) (s0:Nat) (p:Per) (ha:Option Addr) (hcap:Nat) (ca:Option Addr) (ccap:Nat) (j:Nat) (sv:Int) (bb:Nat) (bv:Int) (W:World):Prop where
 below:Below w.heap.size w W
 pbox:W.heap[w.heap.size]? = some (.cells #[.slice ha p.head.length hcap,.int .i64 p.frm,.int .i64 p.period,.slice ca p.cycle.length ccap] 39 (0,0))
 rbox:W.heap[w.heap.size+1]? = some (.cells #[.slice none 0 0,.int .i64 0,.int .i64 0,.slice none 0 0] 39 (0,0))
 hbox:Boxed W (w.heap.size+1+1) 37 (.slice ha (p.head.length-j) hcap)
 sbox:Boxed W s0 3 (.int .i64 sv)
 bbox:Boxed W bb 3 (.int .i64 bv)
 hs:w.heap.size+1+1<s0
 bs:s0<bb
theorem CI.grow {w:World} {s0:Nat} {p:Per} {ha:Option Addr} {hcap:Nat} {ca:Option Addr} {ccap j:Nat} {sv:Int} {bb:Nat} {bv:Int} {W W':World} {row:Option Nat} (h:CI w s0 p ha hcap ca ccap j sv bb bv W)
  (hg:W.grownBy W' row) (hr:∀ r,row=some r→w.heap.size≤r∧∃ o:Obj,W.heap[r]? = some o∧o.isCells=false):CI w s0 p ha hcap ca ccap j sv bb bv W':=
 ⟨h.below.grown hg h.below.size (fun k e=>(hr k e).1),heap_keep h.pbox hg (fun r e=>(hr r e).2),heap_keep h.rbox hg (fun r e=>(hr r e).2),heap_keep h.hbox hg (fun r e=>(hr r e).2),heap_keep h.sbox hg (fun r e=>(hr r e).2),heap_keep h.bbox hg (fun r e=>(hr r e).2),h.hs,h.bs⟩
theorem cells_of {W:World} {k:Nat} {c:Array Value} {t:TypeId} (h:W.heap[k]? = some (.cells c t (0,0))) (i:Nat):W.cell? ⟨k,i,none⟩=c[i]?∧W.frozen? ⟨k,i,none⟩=false:=by
 simp [World.cell?,World.frozen?,h]
def cMu (w:World) (_:Act) (W:World):Nat:=match W.cell? ⟨w.heap.size+1+1,0,none⟩ with|some (.slice _ n _)=>n|_=>0
def CX (w:World) (s0:Nat) (p:Per) (d:Int) (B:List Int) (ha:Option Addr) (hcap:Nat) (ca:Option Addr) (ccap:Nat) (W:World):Prop:=
 ∃ (s:Int) (j bb:Nat) (bv:Int),Kal.Start p d B s (p.head.length-j)∧CI w s0 p ha hcap ca ccap j s bb bv W
theorem Ints.back {w w1:World} {b o n c:Nat} {l:List Int} (h:Ints w1 (.slice (some ⟨b,o,none⟩) n c) l) (hb:Below w.heap.size w w1) (hlt:b<w.heap.size):Ints w (.slice (some ⟨b,o,none⟩) n c) l:=by
 obtain ⟨⟨a',c',he,h1,h2,h3⟩,h4,h5⟩:=h
 injection he with e1 e2 e3
 subst e1;subst e2;subst e3
 refine ⟨⟨_,_,rfl,h1,h2,h3.imp id ?_⟩,h4,h5⟩
 rintro ⟨b',o',he,hc⟩
 injection he with he;injection he with e1 e2
 subst e1;subst e2
 exact ⟨b,o,rfl,fun i hi=>(hb.cell (p:=⟨b,o+i,none⟩) hlt).symm.trans (hc i hi)⟩
theorem KeepsOthers.grow {A B C:World} {row:Option Nat} (h:KeepsOthers A B) (hg:B.grownBy C row) (hr:∀ r,row=some r→A.heap.size≤r):KeepsOthers A C:=
 ⟨Nat.le_trans h.size hg.size,fun k o hk ho=>(hg.block k (Array.getElem?_eq_some_iff.1 (h.same k o hk ho)).1 (fun e=>by have:=hr k e.symm;have:=(Array.getElem?_eq_some_iff.1 hk).1;omega)).trans (h.same k o hk ho)⟩
theorem three_new {w w1:World} {a b c:Obj} (hb:Below (((w.alloc a).alloc b).alloc c).heap.size (((w.alloc a).alloc b).alloc c) w1):w1.heap[w.heap.size]? = some a∧w1.heap[w.heap.size+1]? = some b∧w1.heap[w.heap.size+1+1]? = some c:=by
 have e1:=World.alloc_heap_new w a
 have e2:=World.alloc_heap_new (w.alloc a) b
 have e3:=World.alloc_heap_new ((w.alloc a).alloc b) c
 simp only [World.size_alloc] at e2 e3 hb
 refine ⟨?_,?_,?_⟩
 ·rw [hb.block _ (by omega),Below.heap_alloc _ _ _ (by simp;omega),Below.heap_alloc _ _ _ (by simp)];exact e1
 ·rw [hb.block _ (by omega),Below.heap_alloc _ _ _ (by simp)];exact e2
 ·rw [hb.block _ (by omega)];exact e3
section
variable {w:World} {s0:Nat} {p:Per} {ha:Option Addr} {hcap:Nat} {ca:Option Addr} {ccap j:Nat} {sv:Int} {bb:Nat} {bv:Int} {W:World}
theorem heap_set_ne {W:World} {k b:Nat} {v:Value} (h:k≠b):(W.setCell ⟨b,0,none⟩ v).heap[k]? = W.heap[k]?:=Below.heap_setCell W ⟨b,0,none⟩ v k h
theorem CI.setS (h:CI w s0 p ha hcap ca ccap j sv bb bv W) (s:Int):CI w s0 p ha hcap ca ccap j s bb bv (W.setCell ⟨s0,0,none⟩ (.int .i64 s)):=by
 have h1:=h.hs;have h2:=h.bs
 exact ⟨h.below.setCell (p:=⟨s0,0,none⟩) (by simp;omega) _,(heap_set_ne (by omega)).trans h.pbox,(heap_set_ne (by omega)).trans h.rbox,(heap_set_ne (by omega)).trans h.hbox,h.sbox.set _,(heap_set_ne (by omega)).trans h.bbox,h1,h2⟩
theorem CI.setH (h:CI w s0 p ha hcap ca ccap j sv bb bv W) (j':Nat):CI w s0 p ha hcap ca ccap j' sv bb bv (W.setCell ⟨w.heap.size+1+1,0,none⟩ (.slice ha (p.head.length-j') hcap)):=by
 have h1:=h.hs;have h2:=h.bs
 exact ⟨h.below.setCell (p:=⟨w.heap.size+1+1,0,none⟩) (by simp;omega) _,(heap_set_ne (by omega)).trans h.pbox,(heap_set_ne (by omega)).trans h.rbox,h.hbox.set _,(heap_set_ne (by omega)).trans h.sbox,(heap_set_ne (by omega)).trans h.bbox,h1,h2⟩
theorem CI.newB (h:CI w s0 p ha hcap ca ccap j sv bb bv W) (v:Int):CI w s0 p ha hcap ca ccap j sv W.heap.size v (W.alloc (.cells #[.int .i64 v] 3)):=by
 have hg:=World.grownBy_alloc W (.cells #[.int .i64 v] 3) none
 have h':=h.grow hg (fun r e=>by cases e)
 have:=h.bbox.lt;have:=h.bs
 exact ⟨h'.below,h'.pbox,h'.rbox,h'.hbox,h'.sbox,Boxed.new _ _ _,h.hs,by omega⟩
end
theorem bk_next {B:List Int} {pre:List (Int × Int)} {y:Int × Int} (h:pre ++ [y] <+: bk B):pre.length<B.length∧y=(((B.length-1-pre.length:Nat):Int),B.getD (B.length-1-pre.length) 0):=by
 have hlen:=h.length_le
 rw [bk_length] at hlen
 simp at hlen
 have hlt:pre.length<B.length:=by omega
 refine ⟨hlt,?_⟩
 obtain ⟨t,ht⟩:=h
 have e1:(bk B)[pre.length]? = some y:=by rw [← ht];simp
 rw [List.getElem?_eq_getElem (by rw [bk_length];exact hlt),bk_get B _ hlt] at e1
 exact (Option.some.inj e1).symm
theorem eAt_at {B:List Int} {d f:Int} {m i:Nat} (hi:i<B.length):f-d*((m:Int)+1)+B.getD (B.length-1-i) 0=eAt B d f (m*B.length+i):=by
 unfold eAt
 have h1:(m*B.length+i) / B.length=m:=by rw [Nat.mul_comm,Nat.mul_add_div (by omega),Nat.div_eq_of_lt hi];rfl
 have h2:(m*B.length+i) % B.length=i:=by rw [Nat.mul_comm,Nat.mul_add_mod,Nat.mod_eq_of_lt hi]
 rw [h1,h2]
end Go.Proofs.YthjnojbeimchdaaGreat
/- Walks: the end of canon (package periodic) behind its first loop. -/
namespace Go.Proofs.YthjnojbeimchdaaGreat
open Go.RowKit Go.Shelf Kal
noncomputable def canonTail:Code:=match Tryz.f88.body with
 | some (.seq _ (.scope (.seq _ (.seq _ (.seq _ (.seq _ (.seq _ (.seq _ t))))))))=>t
 | _=>.skip
theorem OwnI.kept_lt {w w':World} {base:Nat} {v:Value} {l:List Int} (h:OwnI w base v l) (hb:∀ k,v.ownBlock=some k→w'.heap[k]? = w.heap[k]?∧w.heap.size≤w'.heap.size):OwnI w' base v l:=by
 obtain ⟨⟨h1,h2⟩,h3,h4⟩:=h
 refine ⟨⟨h1,?_⟩,h3,h4⟩
 rcases h2 with h2|⟨g,cap,cur,hv,hg,hh,hr⟩
 ·exact .inl h2
 ·refine .inr ⟨g,cap,cur,hv,hg,(hb g ?_).1.trans hh,hr⟩
  subst hv;rfl
theorem OwnI.shut {B:Nat} {w w':World} {base:Nat} {v:Value} {l:List Int} (h:OwnI w base v l) (hs:ShutX B w w'):OwnI w' base v l:=by
 obtain ⟨⟨h1,h2⟩,h3,h4⟩:=h
 refine ⟨⟨h1,?_⟩,h3,h4⟩
 rcases h2 with h2|⟨g,cap,cur,hv,hg,hh,hr⟩
 ·exact .inl h2
 ·exact .inr ⟨g,cap,cur,hv,hg,hs.cells g _ hh rfl,hr⟩
theorem cell_drew {w:World} {a:Addr} {v:Value} (h:w.cell? a=some v):w.drew.cell? a=some v:=h
structure TI (w:World) (s0 ob:Nat) (p:Per) (s d:Int) (ca:Option Addr) (ccap:Nat) (B:List Int) (hv:Value) (hl:List Int) (ds:List Deferred) (base:Nat) (cyv:Value) (l:List Int) (W:World):Prop where
 below:Below w.heap.size w W
 pb:W.cell? ⟨w.heap.size,1,none⟩=some (.int .i64 p.frm)
 sb:W.cell? ⟨s0,0,none⟩=some (.int .i64 s)
 rb:W.heap[w.heap.size+1]? = some (.cells #[.slice none 0 0,.int .i64 0,.int .i64 0,.slice none 0 0] 39 (0,0))
 obx:W.heap[ob]? = some (.cells #[hv,.int .i64 s,.int .i64 d,cyv] 39 (0,0))
 own:OwnI W base cyv l
 hd:OwnI W (w.heap.size+1+1) hv hl
 hlt:∀ k,hv.ownBlock=some k→k<base∧k≠ob
 marks:∃ W0:World,MarksX w.heap.size ds W0∧W0.heap.size≤ob∧Below W0.heap.size W0 W
 o1:w.heap.size+1+1<s0
 o2:s0<ob
 o3:ob<base
 o4:base≤W.heap.size
theorem MarksX.below {B:Nat} {ds:List Deferred} {w w':World} (h:MarksX B ds w) (hb:Below w.heap.size w w'):MarksX B ds w':=by
 obtain ⟨Ds,rfl,hn,hall⟩:=h
 exact ⟨Ds,rfl,hn,fun D hD=>⟨(hall D hD).1,(hb.block D (Array.getElem?_eq_some_iff.1 (hall D hD).2).1).trans (hall D hD).2⟩⟩
theorem heap_set_at {W:World} {b:Nat} {c:Array Value} {t:TypeId} {f:Nat × Nat} (i:Nat) (v:Value) (h:W.heap[b]? = some (.cells c t f)):(W.setCell ⟨b,i,none⟩ v).heap[b]? = some (.cells (c.setIfInBounds i v) t f):=by
 obtain ⟨hlt,hk⟩:=Array.getElem?_eq_some_iff.1 h
 show (W.heap.modify b _)[b]? = _
 rw [Array.getElem?_eq_getElem (by rw [Array.size_modify];exact hlt),Array.getElem_modify_self,hk]
 rfl
theorem set4 {W:World} {b:Nat} {x y z u v:Value} {t:TypeId} {f:Nat × Nat} (h:W.heap[b]? = some (.cells #[x,y,z,u] t f)):(W.setCell ⟨b,3,none⟩ v).heap[b]? = some (.cells #[x,y,z,v] t f):=heap_set_at 3 v h
theorem set4all {W:World} {b:Nat} {x y z u x' y' z' u':Value} {t:TypeId} {f:Nat × Nat} (h:W.heap[b]? = some (.cells #[x,y,z,u] t f)) :
  ((((W.setCell ⟨b,0,none⟩ x').setCell ⟨b,1,none⟩ y').setCell ⟨b,2,none⟩ z').setCell ⟨b,3,none⟩ u').heap[b]? = some (.cells #[x',y',z',u'] t f):=
 heap_set_at 3 u' (heap_set_at 2 z' (heap_set_at 1 y' (heap_set_at 0 x' h)))
theorem TI.step {w:World} {s0 ob:Nat} {p:Per} {s d:Int} {ca:Option Addr} {ccap:Nat} {B:List Int} {hv:Value} {hl:List Int} {ds:List Deferred} {base:Nat} {cyv:Value} {l:List Int} {W:World}
  (h:TI w s0 ob p s d ca ccap B hv hl ds base cyv l W) {W1:World} {v':Value} {l':List Int} (hb:Below base W W1) (ho:OwnI W1 base v' l') :
  TI w s0 ob p s d ca ccap B hv hl ds base v' l' (W1.setCell ⟨ob,3,none⟩ v'):=by
 have h1:=h.o1;have h2:=h.o2;have h3:=h.o3;have h4:=h.o4
 obtain ⟨W0,hm1,hm2,hm3⟩:=h.marks
 have hz:=hb.size
 refine ⟨(h.below.trans (hb.mono (by omega))).setCell (p:=⟨ob,3,none⟩) (by simp;omega) _,cell_set_ne (Below.cell' hb h.pb (by omega)) (by simp;omega) _,cell_set_ne (Below.cell' hb h.sb (by omega)) (by simp;omega) _,?_,set4 ((hb.block ob (by omega)).trans h.obx),?_,?_,h.hlt,⟨W0,hm1,hm2,?_⟩,h1,h2,h3,?_⟩
 ·rw [Below.heap_setCell _ _ _ _ (by simp;omega)];exact (hb.block _ (by omega)).trans h.rb
 ·exact ho.above ((Above.refl base W1).setCell (by simp;omega) _)
 ·refine OwnI.kept_lt (OwnI.kept_lt h.hd fun k hk=>⟨(hb.block k (h.hlt k hk).1),hz⟩) fun k hk=>⟨Below.heap_setCell _ _ _ _ (by simp;exact (h.hlt k hk).2),by simp [World.setCell]⟩
 ·exact (hm3.trans (hb.mono (by omega))).setCell (p:=⟨ob,3,none⟩) (by simp;omega) _
 ·simp [World.setCell];omega
theorem TI.start {w:World} {s0 ob bb:Nat} {p:Per} {s d bv:Int} {ha ca:Option Addr} {hcap ccap j:Nat} {B:List Int} {hv:Value} {hl:List Int} {ds:List Deferred} {base:Nat} {W W':World}
  (hCI:CI w s0 p ha hcap ca ccap j s bb bv W) (hM:MarksX w.heap.size ds W) (hb:Below W.heap.size W W') (hob:W'.heap[ob]? = some (.cells #[hv,.int .i64 s,.int .i64 d,.slice none 0 0] 39 (0,0)))
  (ho:OwnI W' W.heap.size hv hl) (h1:W.heap.size≤ob) (hlt:∀ k,hv.ownBlock=some k→k<base∧k≠ob) (h2:ob<base) (h3:base≤W'.heap.size):TI w s0 ob p s d ca ccap B hv hl ds base (.slice none 0 0) [] W':=by
 have a1:=hCI.hs;have a2:=hCI.sbox.lt
 refine ⟨hCI.below.trans (hb.mono (by omega)),?_,Below.cell' hb hCI.sbox.cell a2,(hb.block _ (by omega)).trans hCI.rbox,hob,OwnI.nil _ _,ho.mono (by omega),hlt,⟨W,hM,h1,hb⟩,a1,by omega,h2,h3⟩
 refine Below.cell' hb ?_ (by omega)
 rw [(cells_of hCI.pbox 1).1];rfl
set_option maxRecDepth 100000 in
set_option maxHeartbeats 4000000 in
theorem canon_tail {w W:World} {s0:Nat} {p:Per} {ha:Option Addr} {hcap:Nat} {ca:Option Addr} {ccap j:Nat} {s:Int} {bb:Nat} {bv d:Int} {B:List Int} {ds:List Deferred} {u0 u4 u8 u9 u10 u11 u12 u13 u14 u15 u16 u17 u18 u19 u20 u21 u22 u23 u24 u25 u26 u27 u28 u29 u30 u31 u32 u33 u34 u35 u36 u37 u38 u39 u40 u41 u42 u43 u44 u45 u46 u47 u48 u49 u50 u51 u52 u53 u54 u55 u56 u57 u58 u59 u60 u61 u62 u63 u64 u65 u66 u67 u68 u69 u70 u71 u72 u73 u74 u75 u76 u77 u78 u79 u80 u81 u82 u83 u84 u85 u86 u87 u88 u89 u90 u91 u92 u93 u94 u95 u96 u97 u98 u99 u100 u101 u102 u103 u104 u105 u106 u107 u108 u109 u110 u111 u112 u113 u114 u115 u116 u117:Value}
  (hw:p.WF) (h1:p.frm≤1125899906842624) (h2:d≤1125899906842624) (hS:Short p d B) (hst:Kal.Start p d B s (p.head.length-j)) (hCI:CI w s0 p ha hcap ca ccap j s bb bv W) (hM:MarksX w.heap.size ds W)
  (hcv:Ints W (.slice ca B.length ccap) B) (hhd:Ints W (.slice ha p.head.length hcap) p.head) :
  canonTail.wp Tryz.prog (Exit.noGoto (bodyPostM Fence.wide 0 Tryz.prog Tryz.f88 (CanonRes p.mem w))) ⟨#[u0,.pointer (some ⟨w.heap.size,0,none⟩),.pointer (some ⟨w.heap.size+1,0,none⟩),.pointer (some ⟨w.heap.size+1+1,0,none⟩),u4,.int .i64 d,.slice ca B.length ccap,.pointer (some ⟨s0,0,none⟩),u8,u9,u10,u11,u12,u13,u14,u15,u16,u17,u18,u19,u20,u21,u22,u23,u24,u25,u26,u27,u28,u29,u30,u31,u32,u33,u34,u35,u36,u37,u38,u39,u40,u41,u42,u43,u44,u45,u46,u47,u48,u49,u50,u51,u52,u53,u54,u55,u56,u57,u58,u59,u60,u61,u62,u63,u64,u65,u66,u67,u68,u69,u70,u71,u72,u73,u74,u75,u76,u77,u78,u79,u80,u81,u82,u83,u84,u85,u86,u87,u88,u89,u90,u91,u92,u93,u94,u95,u96,u97,u98,u99,u100,u101,u102,u103,u104,u105,u106,u107,u108,u109,u110,u111,u112,u113,u114,u115,u116,u117],ds⟩ W:=by
 have hcvx:∀ W',Below W.heap.size W W'→Ints W' (.slice ca B.length ccap) B:=fun W' hb=>hcv.ext hb
 have hhx:∀ W',Below W.heap.size W W'→Ints W' (.slice ha (p.head.length-j) hcap) (p.head.take (p.head.length-j)):=fun W' hb=>(hhd.ext hb).take (by omega)
 have hh1:=hCI.hbox.cell
 have hs1:=hCI.sbox.cell
 have hs0:=hst.s0
 have hsf:=hst.sf
 have hd0:=hS.pos
 have hb1:=hCI.hs
 have hb2:=hCI.sbox.lt
 have hp1:=(cells_of hCI.pbox 1).1
 have hp1:W.cell? ⟨w.heap.size,1,none⟩=some (.int .i64 p.frm):=by rw [hp1];rfl
 obtain ⟨nh,hnh⟩:∃ nh,nh=p.head.length-j:=⟨_,rfl⟩
 rw [← hnh] at hh1 hst hhx
 have HC:=Lib.hid hCI
 have HM:=Lib.hid hM
 have HS:=Lib.hid hS
 have HST:=Lib.hid hst
 have HN:=Lib.hid hnh
 obtain ⟨hl,hhl⟩:∃ hl,hl=p.head.take nh:=⟨_,rfl⟩
 rw [← hhl] at hhx
 have HHL:=Lib.hid hhl
 have hnl:hl.length=nh:=by rw [hhl];simp;omega
 have HNL:=Lib.hid hnl
 clear hCI hM hS hst hnh hcv hhd hhl hnl
 conv=>arg 2;whnf
 go_wp2_with fail
 refine Code.wp_mono (Q:=fun e a' W'=>e=.normal∧∃ (ob base:Nat) (va:Option Addr) (vc:Nat) (v89 v90 v91 v92 v93:Value),a'=⟨#[u0,.pointer (some ⟨w.heap.size,0,none⟩),.pointer (some ⟨w.heap.size+1,0,none⟩),.pointer (some ⟨w.heap.size+1+1,0,none⟩),u4,.int .i64 d,.slice ca B.length ccap,.pointer (some ⟨s0,0,none⟩),u8,u9,u10,u11,u12,.pointer (some ⟨ob,0,none⟩),u14,u15,u16,u17,u18,u19,u20,u21,u22,u23,u24,u25,u26,u27,u28,u29,u30,u31,u32,u33,u34,u35,u36,u37,u38,u39,u40,u41,u42,u43,u44,u45,u46,u47,u48,u49,u50,u51,u52,u53,u54,u55,u56,u57,u58,u59,u60,u61,u62,u63,u64,u65,u66,u67,u68,u69,u70,u71,u72,u73,u74,u75,u76,u77,u78,u79,u80,u81,u82,u83,u84,u85,u86,u87,u88,v89,v90,v91,v92,v93,u94,u95,u96,u97,u98,u99,u100,u101,u102,u103,u104,u105,u106,u107,u108,u109,u110,u111,u112,u113,u114,u115,u116,u117],ds⟩∧TI w s0 ob p s d ca ccap B (.slice va hl.length vc) hl ds base (.slice none 0 0) [] W'∧Below W.heap.size W W'∧W.heap.size≤ob) ?imp ?reg
 case reg=>
  go_region_held3 (fun w'=>w'.cell? ⟨w.heap.size+1+1,0,none⟩=some (.slice ha nh hcap)∧w'.cell? ⟨s0,0,none⟩=some (.int .i64 s)∧w'.cell? ⟨w.heap.size,1,none⟩=some (.int .i64 p.frm)) ((go_split_ands;repeat' (with_reducible first|assumption|refine cell_set_ne ?_ ?_ _|refine cell_alloc_at ?_ _|refine cell_drew ?_|exact Ext.cell (by assumption) (by assumption)|apply And.intro|(exact Below.cell' (by assumption) (by assumption) (by first|(simp;done)|(simp;omega)|omega))|(refine Below.cell' (by assumption) ?_ (by first|(simp;done)|(simp;omega)|omega))|omega|(simp;done)|(simp;omega))))
   ((go_at_call 129;refine (clone_any _ hl _ (hhx _ (by repeat' (first|refine Ed ?_|refine En ?_ _|refine Ea ?_ _|exact Er _)))).mono ?_;rintro e w2 ⟨v',rfl,ho,hb3⟩;obtain ⟨va,vc,rfl⟩:=ho.form;obtain ⟨hc3,hf3⟩:=bcell hb3;have hb4:Below W.heap.size W w2:=Et (by repeat' (first|refine Ed ?_|refine En ?_ _|refine Ea ?_ _|exact Er _)) hb3))
  go_goals
  ·have hl2:=ho.lt
   have hz3:=hb4.size
   exact ⟨rfl,_,w2.heap.size+1,va,vc,_,_,_,_,_,rfl,TI.start HC.out HM.out (Ea hb4 _) (World.alloc_heap_new _ _) ((ho.ext (Ea (Er _) _)).mono (by simp)) hz3 (fun k hk=>by have:=(hl2 k hk).2;omega) (by omega) (by simp),Ea hb4 _,hz3⟩
  ·have hl2:=ho.lt
   have hz3:=hb3.size
   simp only [World.size_alloc,World.size_drew] at hl2 hz3
   have e1:=(hb3.block W.heap.size (by simp)).trans (World.alloc_heap_new W _)
   have hE:Below W.heap.size W ((((w2.setCell ⟨W.heap.size,0,none⟩ (.slice va hl.length vc)).setCell ⟨W.heap.size,1,none⟩ (.int .i64 s)).setCell ⟨W.heap.size,2,none⟩ (.int .i64 d)).setCell ⟨W.heap.size,3,none⟩ (.slice none 0 0)):=
    (((hb4.setCell (p:=⟨W.heap.size,0,none⟩) (by simp) _).setCell (p:=⟨W.heap.size,1,none⟩) (by simp) _).setCell (p:=⟨W.heap.size,2,none⟩) (by simp) _).setCell (p:=⟨W.heap.size,3,none⟩) (by simp) _
   refine ⟨rfl,_,w2.heap.size,va,vc,_,_,_,_,_,rfl,TI.start HC.out HM.out hE (set4all e1) ((OwnI.kept_lt ho fun k hk=>?_).mono (by simp)) (Nat.le_refl _) (fun k hk=>by have:=hl2 k hk;omega) (by omega) (by simp [World.setCell]),hE,Nat.le_refl _⟩
   have:=hl2 k hk
   refine ⟨?_,by simp [World.setCell]⟩
   rw [Below.heap_setCell _ _ _ _ (by simp;omega),Below.heap_setCell _ _ _ _ (by simp;omega),Below.heap_setCell _ _ _ _ (by simp;omega),Below.heap_setCell _ _ _ _ (by simp;omega)]
 case imp=>
  rintro e a' W1 ⟨rfl,ob,base,va,vc,v89,v90,v91,v92,v93,rfl,hTI,hb1,hob0⟩
  have o1:=hTI.o1
  have o2:=hTI.o2
  have o3:=hTI.o3
  have o4:=hTI.o4
  have hblen:B.length≤17592186044416:=(hcvx W (Er _)).len
  have HT:=Lib.hid hTI
  have HB1:=Lib.hid hb1
  clear hTI
  go_wp2_with fail
  go_loopw [96] (fun i wr=>∃ (k:Nat) (cyv:Value),k≤B.length∧i=.int .i64 k∧TI w s0 ob p s d ca ccap B (.slice va hl.length vc) hl ds base cyv ((B.take k).map fun c=>(p.frm+c-s) % d) wr∧Below W.heap.size W wr) (fun i _=>B.length-(intOf i).toNat)
  case atStart=>exact ⟨0,_,by omega,rfl,HT.out,HB1.out⟩
  case round=>
   obtain ⟨k,cyv,hk,rfl,hTw,hbw⟩:=hrel
   have hq1:=hTw.pb
   have hq2:=hTw.sb
   have hq3:=(cells_of hTw.obx 3).1
   have hqf:=(cells_of hTw.obx 3).2
   have hq3:wr.cell? ⟨ob,3,none⟩=some cyv:=hq3
   have o5:=hTw.o4
   have hBw:=hcvx wr hbw
   have hown:=hTw.own
   have HTW:=Lib.hid hTw
   have HBW:=Lib.hid hbw
   clear hTw hbw
   by_cases hlt:k<B.length
   ·obtain ⟨⟨a9,c9,he9,h19,h29,h39⟩,h49,h59⟩:=hBw
    injection he9 with he1 he2 he3
    subst he1;subst he3
    rcases h39 with h39|⟨b9,f9,rfl,hcell⟩
    ·rw [h39] at hlt;simp at hlt
    have hcl:=hcell k hlt
    clear hcell
    have hkI:(k:Int)<B.length:=by omega
    obtain ⟨y,hy⟩:∃ y,y=B.getD k 0:=⟨_,rfl⟩
    have hr1:=HS.out.rise.2 (B.getD k 0) (by rw [List.getD_eq_getElem?_getD,List.getElem?_eq_getElem hlt];exact List.getElem_mem hlt)
    rw [← hy] at hcl hr1
    have HY:=Lib.hid hy
    clear hy h49 h59
    have hz0:0≤p.frm+y-s:=by omega
    have hw1:IntKind.i64.wrap (p.frm+y)=p.frm+y:=wrapI ⟨by omega,by omega⟩
    have hw2:IntKind.i64.wrap (p.frm+y-s)=p.frm+y-s:=wrapI ⟨by omega,by omega⟩
    have hm1:=Int.emod_nonneg (p.frm+y-s) (show d≠0 by omega)
    have hm2:=Int.emod_lt_of_pos (p.frm+y-s) (show 0<d by omega)
    have hw3:Int.tmod (p.frm+y-s) d=(p.frm+y-s) % d:=Int.tmod_eq_emod_of_nonneg hz0
    have hw4:IntKind.i64.wrap ((p.frm+y-s) % d)=(p.frm+y-s) % d:=wrapI ⟨by omega,by omega⟩
    obtain ⟨z,hz⟩:∃ z,z=(p.frm+y-s) % d:=⟨_,rfl⟩
    rw [← hz] at hw3 hw4 hm1 hm2
    have HZ:=Lib.hid hz
    clear hz
    have hdn:d≠0:=by omega
    go_wp2_with fail
    have hnn:=World.new_ne wr ⟨ob,3,none⟩ hq3
    have hnp1:∀ o,(wr.drew.alloc o).cell? ⟨w.heap.size,1,none⟩=some (.int .i64 p.frm):=fun o=>cell_alloc_at (cell_drew hq1) o
    have hnp2:∀ o,(wr.drew.alloc o).cell? ⟨s0,0,none⟩=some (.int .i64 s):=fun o=>cell_alloc_at (cell_drew hq2) o
    have hnn1:∀ o,(wr.drew.alloc o).cell? ⟨ob,3,none⟩=some cyv:=fun o=>cell_alloc_at (cell_drew hq3) o
    have hnn2:∀ o,(wr.alloc o).cell? ⟨ob,3,none⟩=some cyv:=fun o=>cell_alloc_at hq3 o
    refine wp_region_noPanic ?_
    go_region_law
     ((refine append_step _ (by rfl) _ _ (by rfl) base cyv _ z (by rfl) (OwnI.ext hown (by repeat' (first|refine Ed ?_|refine En ?_ _|refine Ea ?_ _|exact Er _))) _ _ (by rfl) (by simp [go_sem]) ⟨by omega,by omega⟩ (by simp;omega) (by simp;omega) ?_;intro g cap W2 hown2 hgrow hbel;have hbel':Below base wr W2:=Below.trans (by repeat' (first|refine Below.drew ?_|refine Below.alloc ?_ (by first|omega|(simp;omega)) _|exact Below.refl _ _)) hbel;have hqf2:W2.frozen? ⟨ob,3,none⟩=false:=(Below.frozen hbel' (p:=⟨ob,3,none⟩) o3).trans hqf;have hqc2:W2.cell? ⟨ob,3,none⟩=some cyv:=Below.cell' hbel' hq3 o3))
    all_goals simp only [NoPanic]
    all_goals
     go_wp2_with fail
     go_roundw
     case rel=>
      have hlen:((B.take k).map fun c=>(p.frm+c-s) % d).length=k:=by simp;omega
      have htk:((B.take (k+1)).map fun c=>(p.frm+c-s) % d)=((B.take k).map fun c=>(p.frm+c-s) % d) ++ [z]:=by
       rw [List.take_succ_eq_append_getElem hlt,List.map_append,HZ.out,HY.out,List.getD_eq_getElem?_getD,List.getElem?_eq_getElem hlt];rfl
      rw [hlen] at hown2
      refine ⟨k+1,.slice (some ⟨g,0,none⟩) (k+1) cap,by omega,by go_num,?_,((HBW.out.trans (hbel'.mono (by omega))).setCell (p:=⟨ob,3,none⟩) hob0 _)⟩
      rw [htk]
      exact HTW.out.step hbel' hown2
     case measure=>simp [intOf];omega
   ·obtain rfl:k=B.length:=by omega
    obtain ⟨cl,hcl⟩:∃ cl,cl=((B.take B.length).map fun c=>(p.frm+c-s) % d):=⟨_,rfl⟩
    have hTc:=HTW.out
    rw [← hcl] at hown hTc
    have HTC:=Lib.hid hTc
    have HCL:=Lib.hid hcl
    clear hTc hcl HTW
    go_wp2_with fail
    go_at_call 132
    refine (sort_any _ _ base _ hown).mono ?_
    rintro e W2 ⟨rfl,hown2,hgrow⟩
    have hbel:=hown.below_grown (W0:=wr) (.inr trivial) o5 hgrow
    obtain ⟨ya,yc,rfl⟩:=hown.form
    have hob2:=(hbel.block ob o3).trans HTC.out.obx
    have hrb2:=(hbel.block (w.heap.size+1) (by omega)).trans HTC.out.rb
    have hk0:W2.cell? ⟨ob,0,none⟩=some (.slice va hl.length vc):=(cells_of hob2 0).1
    have hk1:W2.cell? ⟨ob,1,none⟩=some (.int .i64 s):=(cells_of hob2 1).1
    have hk2:W2.cell? ⟨ob,2,none⟩=some (.int .i64 d):=(cells_of hob2 2).1
    have hk3:W2.cell? ⟨ob,3,none⟩=some (.slice ya cl.length yc):=(cells_of hob2 3).1
    have hj0:W2.cell? ⟨w.heap.size+1,0,none⟩=some (.slice none 0 0):=(cells_of hrb2 0).1
    have hj1:W2.cell? ⟨w.heap.size+1,1,none⟩=some (.int .i64 0):=(cells_of hrb2 1).1
    have hj2:W2.cell? ⟨w.heap.size+1,2,none⟩=some (.int .i64 0):=(cells_of hrb2 2).1
    have hj3:W2.cell? ⟨w.heap.size+1,3,none⟩=some (.slice none 0 0):=(cells_of hrb2 3).1
    have hf0:W2.frozen? ⟨w.heap.size+1,0,none⟩=false:=(cells_of hrb2 0).2
    have hf1:W2.frozen? ⟨w.heap.size+1,1,none⟩=false:=(cells_of hrb2 1).2
    have hf2:W2.frozen? ⟨w.heap.size+1,2,none⟩=false:=(cells_of hrb2 2).2
    have hf3:W2.frozen? ⟨w.heap.size+1,3,none⟩=false:=(cells_of hrb2 3).2
    have HO2:=Lib.hid hob2
    have HR2:=Lib.hid hrb2
    have HG:=Lib.hid hgrow
    have HW2:=Lib.hid hown2
    have HBE:=Lib.hid hbel
    have hzz:=hbel.size
    clear hob2 hrb2 hgrow hown2 hbel
    go_wp2_with fail
    rw [Exit.noGoto_ret]
    have hA:Above (w.heap.size+1+1) W2 ((((W2.setCell ⟨w.heap.size+1,0,none⟩ (.slice va hl.length vc)).setCell ⟨w.heap.size+1,1,none⟩ (.int .i64 s)).setCell ⟨w.heap.size+1,2,none⟩ (.int .i64 d)).setCell ⟨w.heap.size+1,3,none⟩ (.slice ya cl.length yc)):=
     ((((Above.refl _ W2).setCell (by simp) _).setCell (by simp) _).setCell (by simp) _).setCell (by simp) _
    have hB3:Below w.heap.size w ((((W2.setCell ⟨w.heap.size+1,0,none⟩ (.slice va hl.length vc)).setCell ⟨w.heap.size+1,1,none⟩ (.int .i64 s)).setCell ⟨w.heap.size+1,2,none⟩ (.int .i64 d)).setCell ⟨w.heap.size+1,3,none⟩ (.slice ya cl.length yc)):=
     ((((HTC.out.below.trans (HBE.out.mono (by omega))).setCell (p:=⟨w.heap.size+1,0,none⟩) (by simp) _).setCell (p:=⟨w.heap.size+1,1,none⟩) (by simp) _).setCell (p:=⟨w.heap.size+1,2,none⟩) (by simp) _).setCell (p:=⟨w.heap.size+1,3,none⟩) (by simp) _
    have hR3:=set4all (x':=.slice va hl.length vc) (y':=.int .i64 s) (z':=.int .i64 d) (u':=.slice ya cl.length yc) HR2.out
    have hM3:MarksX w.heap.size ds ((((W2.setCell ⟨w.heap.size+1,0,none⟩ (.slice va hl.length vc)).setCell ⟨w.heap.size+1,1,none⟩ (.int .i64 s)).setCell ⟨w.heap.size+1,2,none⟩ (.int .i64 d)).setCell ⟨w.heap.size+1,3,none⟩ (.slice ya cl.length yc)):=by
     obtain ⟨W0,hm1,hm2,hm3⟩:=HTC.out.marks
     refine MarksX.keep (MarksX.below hm1 (hm3.trans (HBE.out.mono (by omega)))) ⟨hA.size,fun k o _ hk ho=>?_⟩
     have hne:k≠w.heap.size+1:=fun e=>by subst e;rw [HR2.out] at hk;cases hk;cases ho
     rw [Below.heap_setCell _ _ _ _ hne,Below.heap_setCell _ _ _ _ hne,Below.heap_setCell _ _ _ _ hne,Below.heap_setCell _ _ _ _ hne];exact hk
    have hd3:=(OwnI.kept_lt (w':=W2) HTC.out.hd fun k hk=>⟨HBE.out.block k (HTC.out.hlt k hk).1,hzz⟩).above hA
    have hc3:=(HW2.out.mono (base':=w.heap.size+1+1) (by omega)).above hA
    refine leaves_marks (B:=w.heap.size) ds _ hM3 fun w' hs=>?_
    have hR4:=hs.cells _ _ hR3 rfl
    have hx0:w'.cell? ⟨w.heap.size+1,0,none⟩=some (.slice va hl.length vc):=(cells_of hR4 0).1
    have hx1:w'.cell? ⟨w.heap.size+1,1,none⟩=some (.int .i64 s):=(cells_of hR4 1).1
    have hx2:w'.cell? ⟨w.heap.size+1,2,none⟩=some (.int .i64 d):=(cells_of hR4 2).1
    have hx3:w'.cell? ⟨w.heap.size+1,3,none⟩=some (.slice ya cl.length yc):=(cells_of hR4 3).1
    refine ⟨.agg #[.slice va hl.length vc,.int .i64 s,.int .i64 d,.slice ya cl.length yc],by simp [results,Tryz.results88,go_sem,hx0,hx1,hx2,hx3],?_⟩
    have hrise:=HS.out.rise
    have hnd:cl.Nodup:=by
     rw [HCL.out,List.take_length]
     refine List.pairwise_map.2 (hrise.1.imp_of_mem fun {a b} ha hb hab e=>?_)
     have h1:=(Int.emod_eq_emod_iff_emod_sub_eq_zero).1 e
     have ha':=hrise.2 a ha
     have hb':=hrise.2 b hb
     have h2:(p.frm+a-s-(p.frm+b-s)) % d=a-b+d:=by
      rw [show p.frm+a-s-(p.frm+b-s)=(a-b+d)+d*(-1) by omega,Int.add_mul_emod_self_left]
      exact Int.emod_eq_of_lt (by omega) (by omega)
     omega
    refine ⟨_,_,⟨hl,s,d,isort cl⟩,rfl,?_,⟨(hd3.shut hs).mono (by omega),(hc3.shut hs).mono (by omega)⟩,hB3.trans hs.below⟩
    rw [HHL.out]
    refine canon_of hw HS.out HST.out (isort_lt hnd) fun y=>?_
    rw [isort_mem,HCL.out,List.take_length]
    simp only [List.mem_map]
    exact ⟨fun ⟨c,h1,h2⟩=>⟨c,h1,h2.symm⟩,fun ⟨c,h1,h2⟩=>⟨c,h1,h2.symm⟩⟩
end Go.Proofs.YthjnojbeimchdaaGreat
/- Walks: canon (package periodic) of infinite sets. -/
namespace Go.Proofs.YthjnojbeimchdaaGreat
open Go.RowKit Go.Shelf Kal
attribute [local go_sem] Oper.semAt_some
set_option maxRecDepth 100000 in
set_option maxHeartbeats 4000000 in
theorem canon_infinite (h c:Value) (p:Per) (w:World) (hp:PerIs w h c p) (hw:p.WF) (h1:p.frm≤1125899906842624) (h2:p.period≤1125899906842624) (hinf:p.cycle≠[]) :
  Calls Tryz.prog 88 #[.agg #[h,.int .i64 p.frm,.int .i64 p.period,c]] w (CanonRes p.mem w):=by
 have f0:=hw.frm
 have hl:∀ W,Below w.heap.size w W→Ints W h p.head:=fun W hb=>hp.hd.ext hb
 have hlc:∀ W,Below w.heap.size w W→Ints W c p.cycle:=fun W hb=>hp.cy.ext hb
 obtain ⟨⟨ha,hcap,rfl,hlc1,hcc1,hcells⟩,hlen,_⟩:=hp.hd
 obtain ⟨⟨ca,ccap,rfl,_,_,hccells⟩,hclen,_⟩:=hp.cy
 have hcne:((p.cycle.length:Int) == 0)=false:=by
  have:p.cycle.length≠0:=fun h=>hinf (List.eq_nil_of_length_eq_zero h)
  simpa using hinf
 have hcblk:∃ b o,ca=some ⟨b,o,none⟩∧b<w.heap.size:=by
  rcases hccells with h0|⟨b,o,rfl,hcell⟩
  ·exact absurd h0 hinf
  ·exact ⟨b,o,rfl,World.block_lt_of_cell? _ _ (hcell 0 (by
    rcases Nat.eq_zero_or_pos p.cycle.length with h|h
    ·exact absurd (List.eq_nil_of_length_eq_zero h) hinf
    ·exact h))⟩
 have HINF:=Lib.hid hinf
 clear hinf hp hccells
 refine callsIn_wide (n:=0).1 ?_
 refine callsIn_of_wp_marks Tryz.func88 rfl trivial ?_ rfl
 simp only [Tryz.ntmps88,List.size_toArray,List.length_cons,List.length_nil,Nat.reduceAdd,Nat.reduceSub,Array.replicate_succ,Array.replicate_zero,List.push_toArray,List.append_toArray,List.nil_append,List.cons_append]
 gi_wp2
 refine wpIn_scope_straight ?_
 gi_wp2_with (refine ⟨trivial,rfl,?_⟩;gi_at_call 130;refine (callsIn_wide.2 (shorten_any ca ccap p _ hw HINF.out h2 (hlc _ xE))).mono ?_;rintro e w1 ⟨d,B,rfl,hcv,hS,hb1⟩;have hd0:=hS.pos;have hd1:=hS.le;obtain ⟨hc1,hf1⟩:=bcell hb1;have hz:w.heap.size+1+1<w1.heap.size:=(by have:=hb1.size;simp at this;omega);have hz1:w.heap.size+1<w1.heap.size:=(by omega);have hz0:w.heap.size<w1.heap.size:=(by omega))
 refine wpIn_label ?_
 gi_wp2_with fail
 have hk1:1≤B.length:=Back.lenB hS
 have hk2:B.length≤17592186044416:=hcv.len
 have HS:=Lib.hid hS
 obtain ⟨cb,co,hca,hcb⟩:=hcblk
 have HCA:=Lib.hid hca
 have hB2:∀ W,Below w.heap.size w W→Ints W (.slice ca B.length ccap) B:=by
  subst hca
  exact fun W hb=>(hcv.back xE hcb).ext hb
 clear hS hcv hlc hca
 refine wpIn_loop (fun a W=>∃ (m bb:Nat) (u49 u50 u51 u52 u53 u88:Value) (ds:List Deferred),a=⟨#[.agg #[.slice ha p.head.length hcap,.int .i64 p.frm,.int .i64 p.period,.slice ca p.cycle.length ccap],.pointer (some ⟨w.heap.size,0,none⟩),.pointer (some ⟨w.heap.size+1,0,none⟩),.pointer (some ⟨w.heap.size+1+1,0,none⟩),undef,.int .i64 d,.slice ca B.length ccap,.pointer (some ⟨w1.heap.size,0,none⟩),.pointer (some ⟨bb,0,none⟩),undef,undef,undef,undef,undef,undef,undef,.pointer (some ⟨w.heap.size,0,none⟩),.slice ha p.head.length hcap,.pointer (some ⟨w.heap.size,3,none⟩),.slice ca p.cycle.length ccap,.int .i64 p.cycle.length,.bool false,undef,undef,undef,undef,undef,undef,undef,undef,undef,undef,undef,undef,undef,undef,undef,.tuple #[.int .i64 d,.slice ca B.length ccap],.pointer (some ⟨w.heap.size,2,none⟩),.int .i64 p.period,.pointer (some ⟨w.heap.size,3,none⟩),.slice ca p.cycle.length ccap,.tuple #[.int .i64 d,.slice ca B.length ccap],.int .i64 d,.slice ca B.length ccap,.pointer (some ⟨w.heap.size,1,none⟩),.int .i64 p.frm,.int .i64 d,.int .i64 (p.frm-d),u49,u50,u51,u52,u53,undef,undef,undef,undef,undef,undef,undef,undef,undef,undef,undef,undef,undef,undef,undef,undef,undef,undef,undef,undef,undef,undef,undef,undef,undef,undef,undef,undef,undef,undef,undef,undef,undef,undef,u88,undef,undef,undef,undef,undef,undef,undef,undef,undef,undef,undef,undef,undef,undef,undef,undef,undef,undef,undef,undef,undef,undef,undef,undef,undef,undef,undef,undef,undef],ds⟩∧Back p d B (m*B.length)∧CI w w1.heap.size p ha hcap ca ccap (m*B.length) 0 bb (p.frm-d*(m+1)) W∧MarksX w.heap.size ds W) (cMu w) ?start ?round
 case start=>
  refine ⟨0,w1.heap.size+1,undef,undef,undef,undef,undef,undef,[],rfl,?_,?_,MarksX.nil _ _⟩
  ·rw [Nat.zero_mul];exact Back.zero hw HS.out
  ·obtain ⟨t1,t2,t3⟩:=three_new hb1
   have e0:p.frm-d*(((0:Nat):Int)+1)=p.frm-d:=by simp
   rw [Nat.zero_mul,e0]
   refine ⟨by exact xE,?_,?_,?_,?_,?_,hz,by omega⟩
   ·rw [Below.heap_alloc _ _ _ (by simp;omega),Below.heap_alloc _ _ _ (by omega)];exact t1
   ·rw [Below.heap_alloc _ _ _ (by simp;omega),Below.heap_alloc _ _ _ (by omega)];exact t2
   ·exact (Below.heap_alloc _ _ _ (by simp;omega)).trans ((Below.heap_alloc _ _ _ (by omega)).trans t3)
   ·exact (Boxed.new w1 _ _).alloc _
   ·have:=Boxed.new (w1.alloc (.cells #[.int .i64 0] 3)) 3 (.int .i64 (p.frm-d))
    rw [World.size_alloc] at this
    exact this
 case round=>
  rintro _ W ⟨m,bb,u49,u50,u51,u52,u53,u88,ds,rfl,hB,hCI,hM⟩
  have HB:=Lib.hid hB
  have HM:=Lib.hid hM
  clear hB hM
  have hbw:=hCI.below
  have hbb:=hCI.bbox.lt
  have hbs:=hCI.bs
  have hhs:=hCI.hs
  gi_wp2_with (refine ⟨trivial,rfl,?_⟩;gi_at_call 131;refine (callsIn_wide.2 (backward_any _ _ ⟨_,_,_,rfl⟩)).mono ?_;rintro e w' ⟨rfl,rfl⟩)
  have hbx:(W.alloc (.cells #[.slice ca B.length ccap] 37)).cell? ⟨W.heap.size,0,none⟩=some (.slice ca B.length ccap):=by simp
  refine wpIn_rangeX (x:=none) (gf:=161) (lb:=#[.pointer (some ⟨W.heap.size,0,none⟩)]) rfl (enters_of Tryz.func161 (by kernel_rfl) rfl)
   (backward_seq (.slice ca B.length ccap) B W.heap.size _ (fun k=>k<w.heap.size∨k=W.heap.size) (hB2 _ xE) hbx (.inr rfl) (fun b o n c he=>by injection he with he;rw [HCA.out] at he;injection he with he;injection he with he;exact .inl (he ▸ hcb))) (fun h k=>h.trans k) (KpB.putObj (by intro k hk;simp;omega)) (fun y=>rfl)
   (fun pre W'=>Back p d B (m*B.length+pre.length)∧pre.length≤B.length∧CI w w1.heap.size p ha hcap ca ccap (m*B.length+pre.length) 0 bb (p.frm-d*(m+1)) W'∧KeepsOthers W W')
   (fun c' pre W'=>c'=.exit 0∧CX w w1.heap.size p d B ha hcap ca ccap W'∧KeepsOthers W W')
   (fun pre A C row hI hg hr=>by
    have hr':∀ r,row=some r→w.heap.size≤r∧∃ o:Obj,A.heap[r]? = some o∧o.isCells=false:=fun r e=>by
     rcases hr r e with ⟨h,_⟩|⟨h,h'⟩
     ·cases h
     ·refine ⟨?_,h'⟩;have:=hbw.size;simp at h;omega
    refine ⟨hI.1,hI.2.1,hI.2.2.1.grow hg hr',KeepsOthers.grow hI.2.2.2 hg fun r e=>?_⟩
    rcases hr r e with ⟨h,_⟩|⟨h,_⟩
    ·cases h
    ·simp at h;omega)
   (fun c' pre A C row hI hg hr=>by
    have hr':∀ r,row=some r→w.heap.size≤r∧∃ o:Obj,A.heap[r]? = some o∧o.isCells=false:=fun r e=>by
     rcases hr r e with ⟨h,_⟩|⟨h,h'⟩
     ·cases h
     ·refine ⟨?_,h'⟩;have:=hbw.size;simp at h;omega
    obtain ⟨h1,⟨s,j,b2,bv,h2,h3⟩,h4⟩:=hI
    refine ⟨h1,⟨s,j,b2,bv,h2,h3.grow hg hr'⟩,KeepsOthers.grow h4 hg fun r e=>?_⟩
    rcases hr r e with ⟨h,_⟩|⟨h,_⟩
    ·cases h
    ·simp at h;omega)
   (fun _ _ _=>trivial) ⟨HB.out,Nat.zero_le _,hCI.grow (World.grownBy_alloc W _ none) (fun r e=>by cases e),KeepsOthers.alloc _ _⟩
   (fun y=>⟨#[.agg #[.slice ha p.head.length hcap,.int .i64 p.frm,.int .i64 p.period,.slice ca p.cycle.length ccap],.pointer (some ⟨w.heap.size,0,none⟩),.pointer (some ⟨w.heap.size+1,0,none⟩),.pointer (some ⟨w.heap.size+1+1,0,none⟩),undef,.int .i64 d,.slice ca B.length ccap,.pointer (some ⟨w1.heap.size,0,none⟩),.pointer (some ⟨bb,0,none⟩),undef,.int .i64 y.2,undef,undef,undef,undef,undef,.pointer (some ⟨w.heap.size,0,none⟩),.slice ha p.head.length hcap,.pointer (some ⟨w.heap.size,3,none⟩),.slice ca p.cycle.length ccap,.int .i64 p.cycle.length,.bool false,undef,undef,undef,undef,undef,undef,undef,undef,undef,undef,undef,undef,undef,undef,undef,.tuple #[.int .i64 d,.slice ca B.length ccap],.pointer (some ⟨w.heap.size,2,none⟩),.int .i64 p.period,.pointer (some ⟨w.heap.size,3,none⟩),.slice ca p.cycle.length ccap,.tuple #[.int .i64 d,.slice ca B.length ccap],.int .i64 d,.slice ca B.length ccap,.pointer (some ⟨w.heap.size,1,none⟩),.int .i64 p.frm,.int .i64 d,.int .i64 (p.frm-d),u49,u50,u51,.slice ca B.length ccap,.func (.func 161) #[] #[.pointer (some ⟨W.heap.size,0,none⟩)],.int .i64 y.1,.int .i64 y.2,undef,undef,undef,undef,undef,undef,undef,undef,undef,undef,undef,undef,undef,undef,undef,undef,undef,undef,undef,undef,undef,undef,undef,undef,undef,undef,undef,undef,undef,undef,undef,undef,u88,undef,undef,undef,undef,undef,undef,undef,undef,undef,undef,undef,undef,undef,undef,undef,undef,undef,undef,undef,undef,undef,undef,undef,undef,undef,undef,undef,undef,undef],[]⟩) ?assign ?body ?done ?stop
  case assign=>
   intro l y W' K hK
   gi_wp2
   exact hK
  case body=>
   rintro l pre ⟨y1,y2⟩ W' ⟨hB',hpl,hCI',hKO⟩ hen
   obtain ⟨hlt,hy⟩:=bk_next hen
   have he:=eAt_at (B:=B) (d:=d) (f:=p.frm) (m:=m) hlt
   injection hy with hy1 hy2
   rw [← hy2] at he
   have hyb:=getD_bd HS.out.rise (i:=B.length-1-pre.length) (by omega)
   rw [← hy2] at hyb
   obtain ⟨j,hj⟩:∃ j,j=m*B.length+pre.length:=⟨_,rfl⟩
   rw [← hj] at hB' hCI' he
   have HJ:=Lib.hid (show m*B.length+(pre ++ [(y1,y2)]).length=j+1 by simp;omega)
   have hpl':(pre ++ [(y1,y2)]).length≤B.length:=by simp;omega
   have HPL:=Lib.hid hpl'
   have hel:=Back.e_lt HS.out hB'
   have heg:=Back.e_ge HS.out hB'
   have hif:=hB'.hif
   have hlb:=lastOf_bd hw (j:=j)
   obtain ⟨bv,hbv⟩:∃ bv,bv=p.frm-d*((m:Int)+1):=⟨_,rfl⟩
   have HBV:=Lib.hid hbv
   rw [← hbv] at hCI' he
   obtain ⟨e,hee⟩:∃ e,e=eAt B d p.frm j:=⟨_,rfl⟩
   rw [← hee] at he hel heg
   have HE:=Lib.hid hee
   have heU:e<p.frm:=by omega
   clear hel
   have HB':=Lib.hid hB'
   have hbH:=hCI'.hbox
   have hbS:=hCI'.sbox
   have hbB:=hCI'.bbox
   have hh1:=hbH.cell;have hh2:=hbH.frozen
   have hs1:=hbS.cell;have hs2:=hbS.frozen
   have hb1':=hbB.cell
   have HI:=Lib.hid (hl W' hCI'.below)
   obtain ⟨nh,hnh⟩:∃ nh,nh=p.head.length-j:=⟨_,rfl⟩
   rw [← hnh] at hh1
   have HN:=Lib.hid hnh
   have HKO:=Lib.hid hKO
   have HCI:=Lib.hid hCI'
   have hbB1:bv+y2=e:=he
   have hnl:nh≤17592186044416:=by omega
   clear hB' hCI' hKO hbH hbS hbB hee hbv hj hy1 hy2 hnh hpl' hen hpl hif
   have hcap1:nh≤hcap:=by have:=HN.out;omega
   by_cases hn0:nh=0
   ·have hlast:lastOf p j=-1:=by unfold lastOf;rw [if_pos (by rw [← HN.out];exact hn0)]
    subst hn0
    have HL:=Lib.hid hlast
    clear hlast hlb
    by_cases hneg:e<0
    ·gi_wp2_with fail
     exact ⟨KeepsFrom.refl _ _,rfl,⟨0,j,bb,bv,Back.done0 hw HS.out HB'.out (by rw [← HE.out];exact hneg) (by rw [HL.out];omega),HCI.out⟩,HKO.out⟩
    ·have hge:0≤e:=by omega
     have hneb:(e != -1)=true:=by rw [bne_iff_ne];omega
     have hmax:max e (-1)=e:=by omega
     have HD:=Lib.hid (Back.done hw HS.out HB'.out (by rw [← HE.out,HL.out];omega) (by rw [← HE.out,HL.out];omega))
     have hc1':=HCI.out.setS (e+1)
     have HC1:=Lib.hid hc1'
     clear hneg hc1'
     gi_wp2_with fail
     refine ⟨(KeepsOthers.setCell _ _ _).from _,rfl,⟨e+1,j,bb,bv,?_,HC1.out⟩,KeepsOthers.trans HKO.out (KeepsOthers.setCell _ _ _)⟩
     have:=HD.out
     rwa [← HE.out,HL.out,hmax] at this
   ·obtain ⟨⟨ha',hcap',he1,_,_,hcl⟩,_,_⟩:=HI.out
    injection he1 with he1 he2 he3
    subst he1
    rcases hcl with hcl|⟨b,o,hab,hcl⟩
    ·exfalso;rw [hcl] at HN;have:=HN.out;simp at this;exact hn0 this
    have hcx:=hcl (nh-1) (by have:=HN.out;omega)
    have hlast:lastOf p j=p.head.getD (nh-1) 0:=by unfold lastOf;rw [if_neg (by rw [← HN.out];exact hn0),← HN.out]
    rw [← hlast] at hcx
    have hx0:0≤lastOf p j:=by rw [hlast];exact (getD_bd hw.head (by have:=HN.out;omega)).1
    obtain ⟨x,hx⟩:∃ x,x=lastOf p j:=⟨_,rfl⟩
    rw [← hx] at hcx hx0 hlb
    have HX:=Lib.hid hx
    have hi1:((nh:Int)-1).toNat=nh-1:=by omega
    have hnI:(0:Int)<nh:=by omega
    have hnI2:(nh:Int)-1<nh:=by omega
    subst hab
    clear hlast hx hcl he2 he3 hn0
    by_cases hex:e=x
    ·have hne:(e != x)=false:=by simpa using hex
     have hge:0≤e:=by omega
     have HST:=Lib.hid (Back.step hw HS.out HB'.out (by rw [← HE.out,← HX.out];exact hex) (by rw [← HE.out,← HX.out];omega))
     have hc1':=HCI.out.setH (j+1)
     have hnn:p.head.length-(j+1)=nh-1:=by have:=HN.out;omega
     rw [hnn] at hc1'
     have HC1:=Lib.hid hc1'
     clear hex hc1' hnn
     gi_wp2_with fail
     have e9:=HJ.out
     exact ⟨(KeepsOthers.setCell _ _ _).from _,fun k hk=>heap_set_ne (by rcases hk with hk|hk <;> omega),by show Back p d B (m*B.length+(pre ++ [(y1,y2)]).length);rw [e9];exact HST.out.1,HPL.out,by show CI w w1.heap.size p _ hcap ca ccap (m*B.length+(pre ++ [(y1,y2)]).length) 0 bb (p.frm-d*(↑m+1)) _;rw [e9,← HBV.out];exact HC1.out,KeepsOthers.trans HKO.out (KeepsOthers.setCell _ _ _)⟩
    ·have hne:(e != x)=true:=by rw [bne_iff_ne];exact hex
     have HD:=Lib.hid (Back.done hw HS.out HB'.out (by rw [← HE.out,← HX.out];exact hex) (by rw [← HE.out,← HX.out];omega))
     have hc1':=HCI.out.setS (max e x+1)
     have HC1:=Lib.hid hc1'
     have hxlt:x<9007199254740992:=by omega
     clear hex hc1'
     gi_wp2_with fail
     all_goals exact ⟨(KeepsOthers.setCell _ _ _).from _,rfl,⟨max e x+1,j,bb,bv,by have:=HD.out;rwa [← HE.out,← HX.out] at this,HC1.out⟩,KeepsOthers.trans HKO.out (KeepsOthers.setCell _ _ _)⟩
  case done=>
   rintro D xs W' hD rfl ⟨hB',_,hCI',hKO⟩ hdef
   have e1:m*B.length+(bk B).length=(m+1)*B.length:=by rw [bk_length,Nat.succ_mul]
   rw [e1] at hB' hCI'
   obtain ⟨bv,hbv⟩:∃ bv,bv=p.frm-d*((m:Int)+1):=⟨_,rfl⟩
   have hlow:-1125899906842625≤bv∧bv≤p.frm:=by
    have g1:=Back.e_ge HS.out hB'
    have g2:=eAt_at (B:=B) (d:=d) (f:=p.frm) (m:=m+1) (i:=0) (by omega)
    have g3:=getD_bd HS.out.rise (i:=B.length-1-0) (by omega)
    simp only [Nat.add_zero,Nat.sub_zero] at g2 g3
    rw [← g2,show d*(((m+1:Nat):Int)+1)=d*((m:Int)+1)+d by push_cast;rw [Int.mul_add d ((m:Int)+1)];omega] at g1
    have g4:0≤d*((m:Int)+1):=Int.mul_nonneg (by omega) (by omega)
    omega
   rw [← hbv] at hCI'
   have HBV:=Lib.hid hbv
   have hc1':=hCI'.bbox.cell
   have hf1':=hCI'.bbox.frozen
   have HB':=Lib.hid hB'
   have HCI:=Lib.hid (hCI'.newB (bv-d))
   have HH:=Lib.hid hCI'.hbox.cell
   have hW'W:W.heap.size≤W'.heap.size:=hKO.size
   have HKO:=Lib.hid hKO
   have HDEF:=Lib.hid hdef
   have HMU:=Lib.hid hCI.hbox.cell
   clear hB' hCI' hbv e1 hKO hdef hCI hbx
   gi_wp2_with fail
   refine ⟨⟨m+1,W'.heap.size,_,_,_,_,_,_,_,rfl,HB'.out,?_,?_⟩,?_⟩
   ·have e2:p.frm-d*(((m+1:Nat):Int)+1)=bv-d:=by rw [HBV.out];push_cast;rw [Int.mul_add d ((m:Int)+1)];omega
    rw [e2];exact HCI.out
   ·have h9:=hD
    have h7:=hbw.size
    simp only [World.size_alloc] at h9
    have h8:=HDEF.out
    refine MarksX.keep (MarksX.cons HM.out (by omega) (HKO.out.from _) (by omega) h8) ?_
    exact (KeepsOthers.alloc _ _).from _
   ·have h9:=HB'.out.le
    have h8:(m+1)*B.length=m*B.length+B.length:=Nat.succ_mul _ _
    have e3:=Ext.cell (Ea (Er W') (.cells #[.int .i64 (bv-d)] 3)) HH.out
    simp only [cMu,HMU.out,e3]
    omega
  case stop=>
   rintro D c' pre W' hD _ ⟨rfl,⟨s,j,b2,bv,hst,hCI'⟩,hKO⟩ hdef
   have h9:=hD
   have h7:=hbw.size
   simp only [World.size_alloc] at h9
   refine wpIn_exit ?_
   conv=>whnf
   apply_assumption
   exact wpIn_wide.2 (canon_tail hw h1 (by omega) HS.out hst hCI' (MarksX.cons HM.out (by omega) (hKO.from _) (by omega) hdef) (hB2 _ hCI'.below) (hl _ hCI'.below))
end Go.Proofs.YthjnojbeimchdaaGreat
/- Walks: canon, Canon, Same (package periodic); slices.Equal. -/
namespace Go.Proofs.YthjnojbeimchdaaGreat
open Go.RowKit Kal
def PerRes (c:Per) (w:World) (e:Ending) (w':World):Prop:=
 ∃ (h' c':Value),e=.returned (perV h' c' c.frm c.period)∧POx w' w.heap.size h' c' c∧Below w.heap.size w w'
theorem canon_any (h c:Value) (p q:Per) (w:World) (hp:PerIs w h c p) (hw:p.WF) (h1:p.frm≤1125899906842624) (h2:p.period≤1125899906842624) (hq:IsCanon q p.mem) :
  Calls Tryz.prog 88 #[perV h c p.frm p.period] w (PerRes q w):=by
 have key:Calls Tryz.prog 88 #[perV h c p.frm p.period] w (CanonRes p.mem w):=by
  by_cases hc:p.cycle=[]
  ·exact canon_finite h c p w hp hw h1 hc
  ·exact canon_infinite h c p w hp hw h1 h2 hc
 refine key.mono fun e w' hr=>?_
 obtain ⟨h',c',q',rfl,hq',hp',hb⟩:=hr
 obtain rfl:=hq'.unique hq
 exact ⟨h',c',rfl,hp',hb⟩
def PerOk (c:Per) (w:World) (e:Ending) (w':World):Prop:=
 ∃ (h' c':Value),e=.returned (.tuple #[perV h' c' c.frm c.period,.int .i64 0])∧POx w' w.heap.size h' c' c∧Below w.heap.size w w'
def PerErr (k:Int) (w:World) (e:Ending) (w':World):Prop:=
 e=.returned (.tuple #[perV (.slice none 0 0) (.slice none 0 0) 0 0,.int .i64 k])∧Below w.heap.size w w'
set_option maxRecDepth 100000 in
set_option maxHeartbeats 1000000 in
theorem Canon_ok (h c:Value) (p q:Per) (w:World) (hp:PerIs w h c p) (hv:Valid p) (hq:IsCanon q p.mem) :
  Calls Tryz.prog 97 #[perV h c p.frm p.period] w (PerOk q w):=by
 have hl:∀ W,Below w.heap.size w W→PerIs W h c p:=fun W hb=>hp.ext hb
 have hvb:=(validB_iff p).2 hv
 have HV:=Lib.hid hv
 have HF:Hid (p.frm≤1125899906842624):=by have:=hv.frm;exact Lib.hid (by omega)
 have HP:Hid (p.period≤1125899906842624):=by have:=hv.per;exact Lib.hid (by omega)
 have HQ:=Lib.hid hq
 clear hv hp hq
 go_enter Tryz.func97,Tryz.ntmps97
 go_wp2_with (first|(go_at_call 65;refine (valid_any h c p _ (hl _ xE)).mono ?_;rintro e w1 ⟨rfl,hb1⟩;obtain ⟨hc1,hf1⟩:=bcell hb1;have hz1:w.heap.size+1<w1.heap.size:=(by have:=hb1.size;simp at this;omega))|(go_at_call 88;refine (canon_any h c p q _ (hl _ xE) HV.out.wf HF.out HP.out HQ.out).mono ?_;rintro e w2 ⟨h',c',rfl,hp2,hb2⟩;obtain ⟨a1,c1,a2,c2,rfl,rfl⟩:=hp2.form;obtain ⟨hc2,hf2⟩:=bcell hb2;have HP2:=Lib.hid hp2;clear hp2))
 exact bodyPost_ret (v:=.tuple #[perV (.slice a1 q.head.length c1) (.slice a2 q.cycle.length c2) q.frm q.period,.int .i64 0]) (by simp [results,Tryz.results97,go_sem, *]) rfl ⟨_,_,rfl,(HP2.out.above (by (repeat' (with_reducible first|exact Above.refl _ _|refine Above.alloc ?_ _|refine Above.drew ?_|refine Above.drewN ?_ _|refine Above.setCell ?_ (by first|(simp;done)|(simp;omega)|omega) _)))).mono (by have:=hb1.size;simp at this;omega),xE⟩
end Go.Proofs.YthjnojbeimchdaaGreat
