/- Part 1 of the proof of the laws. -/
import Derived.Lib.SlicesCompact
import Derived.Shelf.Small.Bits
import Derived.Shelf.Small.Wraps
import Derived.Shelf.Strconv.Itoa0
import Derived.Shelf.Sort.Plain
import Derived.Shelf.Bits.Mul64
import Derived.Shelf.Slices.Equal
import Derived.Ground.Names2Prog
import Derived.Shelf.Slices.Clone
import Derived.Shelf.Slices.CompactI
import Derived.Shelf.Slices.SearchI
import Derived.Shelf.Slices.Cells
import Derived.Shelf.Slices.In.SortNone
import Derived.Shelf.Slices.Empties
import Derived.Shelf.Slices.Empties2
import Derived.Test.YtbmgmlbmgogeaaaGreatProg
import Derived.WalkKit
import Derived.WalkSpells
import Derived.WalkLawsBesides
import Derived.Lib.Hide
import Derived.Deep.QuietTactic
import Derived.BigQuiet
import Derived.IntWalk
import Derived.Deep.RegionHeld3
import Derived.Deep.DeepFit
set_option linter.unusedVariables false
set_option linter.unusedSimpArgs false
set_option maxRecDepth 100000
set_option maxHeartbeats 4000000
set_option linter.defProp false
abbrev N4:=@List.pairwise_cons
abbrev U3:=@List.mem_cons
abbrev P5:=@List.mem_cons_of_mem
abbrev N9:=@List.pairwise_append
abbrev VJ:=@List.mem_append
abbrev zf:=@List.pairwise_map
abbrev VC:=@List.mem_map
abbrev N7:=@List.mem_filter
abbrev yJ:=@List.pairwise_iff_getElem
abbrev NS:=@List.getElem_mem
abbrev K_:=@Int.mul_nonneg
abbrev OM:=@Int.add_mul
abbrev NQ:=@Int.mul_le_mul_of_nonneg_left
abbrev GM:=@Int.add_emod_right
abbrev LV:=@Int.emod_eq_of_lt
abbrev N1:=@Int.ediv_nonneg
abbrev S6:=@Int.toNat_of_nonneg
abbrev VE:=@Int.emod_add_ediv_mul
abbrev VM:=@Int.emod_lt_of_pos
abbrev VK:=@Int.emod_nonneg
abbrev NB:=@Int.dvd_of_emod_eq_zero
abbrev Q_:=@Nat.succ_mul
abbrev ON:=@Int.add_mul_emod_self_right
abbrev q8z:=@Nat.mul_le_mul_right
abbrev M_:=@List.getElem?_append_left
abbrev ND:=@List.getElem?_append_right
abbrev NR:=@Nat.eq_zero_or_pos
abbrev NL:=@List.eq_nil_of_length_eq_zero
abbrev q8d:=@Nat.le_mul_of_pos_left
abbrev QB:=@List.ext_getElem
abbrev XK:=@Nat.mod_lt
abbrev q8y:=@Nat.div_lt_of_lt_mul
abbrev OH:=@Nat.mul_comm
abbrev q8a:=@Nat.div_add_mod
abbrev U2:=@List.getElem?_eq_getElem
abbrev S7:=@Option.some.inj
abbrev NZ:=@List.getElem_take
abbrev OK:=@List.getElem_of_mem
abbrev PZ:=@Nat.lt_or_ge
abbrev NX:=@Int.mul_le_mul_of_nonneg_right
abbrev O8:=@Int.emod_emod
abbrev WN:=@Nat.zero_mul
abbrev S1:=@Nat.zero_add
abbrev A7:=@Int.emod_emod_of_dvd
abbrev LY:=@Int.mul_comm
abbrev S8:=@List.mem_of_mem_take
abbrev MO:=@List.length_take
abbrev EB:=@Nat.min_eq_left
abbrev NC:=@Int.lt_or_le
abbrev PH:=@decide_eq_true
abbrev q8q:=@List.countP_eq_zero
abbrev VI:=@Int.le_refl
abbrev OG:=@Int.emod_add_mul_ediv
abbrev O9:=@Int.mul_add
abbrev q7o:=@Int.mul_emod_right
abbrev q8n:=@Int.mul_ediv_cancel_left
abbrev VQ:=@Int.add_mul_emod_self_left
abbrev M1:=@Int.eq_ofNat_of_zero_le
abbrev q8l:=@Int.gcd_pos_of_ne_zero_left
abbrev QV:=@Int.le_of_dvd
abbrev MP:=@Int.gcd_dvd_left
abbrev M0:=@Int.gcd_dvd_right
abbrev NJ:=@Int.sub_mul
abbrev QI:=@Int.mul_sub
abbrev AZ:=@Int.mul_assoc
abbrev XB:=@Int.dvd_sub
abbrev QO:=@Int.dvd_trans
abbrev r_:=@Int.dvd_mul_left
abbrev q7p:=@Int.mul_nonpos_of_nonneg_of_nonpos
abbrev GK:=@Int.mul_emod
abbrev GS:=@Int.mul_one
abbrev q7n:=@Classical.epsilon_spec
abbrev zB:=@Int.emod_eq_emod_iff_emod_sub_eq_zero
abbrev NA:=@Int.emod_eq_zero_of_dvd
abbrev q8c:=@Nat.gcd_pos_of_pos_left
abbrev QK:=@Int.le_ediv_iff_mul_le
abbrev yu:=@Int.mul_le_mul
abbrev G7:=@Int.ediv_mul_cancel
abbrev q8k:=@Int.eq_of_mul_eq_mul_left
abbrev X9:=@Int.natAbs_dvd_natAbs
abbrev VS:=@List.getD_eq_getElem?_getD
abbrev OI:=@Int.mul_neg
abbrev FJ:=@Nat.sub_zero
abbrev ZV:=@Nat.mod_eq_of_lt
abbrev q8b:=@Nat.div_eq_of_lt
abbrev U4:=@Nat.lt_trichotomy
abbrev T8:=@Nat.zero_le
abbrev OC:=@List.take_length
abbrev MN:=@List.mem_range
abbrev OB:=@decide_eq_true_eq
abbrev YB:=@List.mem_erase_of_ne
abbrev ZH:=@List.length_erase_of_mem
abbrev sD:=@List.length_pos_of_mem
abbrev M7:=@List.mem_flatMap
abbrev S3:=@List.flatMap_cons
abbrev N_:=@List.nodup_cons
abbrev U6:=@List.length_map
abbrev N2:=@List.mem_singleton
abbrev MK:=@List.mem_append_left
abbrev TZ:=@Nat.le_refl
abbrev q8m:=@Int.mul_ediv_cancel'
abbrev MA:=@List.mem_iff_getElem
abbrev MB:=@List.length_append
abbrev yA:=@List.nodup_append
abbrev LX:=@of_decide_eq_true
abbrev Q4:=@List.append_nil
abbrev q8j:=@Classical.byContradiction
abbrev NN:=@Nat.le_trans
abbrev YQ:=@List.length_filter_le
abbrev MT:=@Iff.rfl
abbrev NU:=@Bool.and_eq_true
abbrev MI:=@List.all_eq_true
abbrev G8:=@List.any_eq_true
abbrev V6:=@Bool.or_eq_true
abbrev OD:=@bne_iff_ne
abbrev UN:=@List.not_mem_nil
abbrev JV:=@Go.RowKit.Below.refl
abbrev N8:=@Go.World.block_lt_of_cell?
abbrev QM:=@Go.World.cell?_of_block
abbrev DO:=@Go.RowKit.Below.heap_setCell
abbrev GE:=@List.drop_eq_getElem_cons
abbrev NP:=@Go.World.drewN_drewN
abbrev OE:=@Nat.add_assoc
abbrev NV:=@Bool.false_eq_true
abbrev q7u:=@List.countP_le_length
abbrev VU:=@Go.Calls.quiet_of
abbrev z_:=@Int.ediv_le_self
theorem Go.RowKit.Hid.o {p:Prop} (h:Go.RowKit.Hid p):p:=h.out
theorem ad {P:Prop} (h:P:=by omega):P:=h
theorem aj {P:Prop} (h:P:=by simp):P:=h
theorem aC {P:Prop} (h:P:=by rfl):P:=h
theorem aG {P:Prop} (h:P:=by decide):P:=h
theorem aR {P:Prop} (h:P:=by (simp;omega)):P:=h
theorem af {P:Prop} (h:P):Go.RowKit.Hid P:=Go.Lib.hid h
namespace Kal
section
theorem Rz:∀ {l m:List Int},l.Pairwise (· < ·)->m.Pairwise (· < ·)->(∀ x,x∈l↔x∈m)->l=m:=by
 intro l;induction l with
 | nil=>
  intro m _ _ h;cases m with
  | nil=>rfl
  | cons b m=>exact absurd ((h b).2 aj) aj
 | cons a l ih=>
  intro m hl hm h;cases m with
  | nil=>exact absurd ((h a).1 aj) aj
  | cons b m=>
   have hl':=N4.1 hl;have GI:=N4.1 hm;have hab:a=b:=by
    have h1:=(h a).1 aj;have h2:=(h b).2 aj;rcases U3.1 h1 with h1|h1
    .exact h1
    rcases U3.1 h2 with h2|h2
    .exact h2.symm
    have:=hl'.1 b h2;have:=GI.1 a h1;omega
   subst hab;have:l=m:=by
    refine ih hl'.2 GI.2 λx=>?_;constructor
    .intro hx;rcases U3.1 ((h x).1 (P5 _ hx)) with h1|h1
     .have:=hl'.1 x hx;omega
     exact h1
    intro hx;rcases U3.1 ((h x).2 (P5 _ hx)) with h1|h1
    .have:=GI.1 x hx;omega
    exact h1
   rw [this]
def aH (lo hi:Int) (l:List Int):Prop:=l.Pairwise (· < ·)/\∀ x∈l,lo<=x/\x<hi
theorem aH.ext {lo hi lo' hi':Int} {l m:List Int} (hl:aH lo hi l) (hm:aH lo' hi' m) (h:∀ x,x∈l↔x∈m):l=m:=Rz hl.1 hm.1 h
theorem aH.nil {lo hi:Int}:aH lo hi []:=⟨.nil,aj⟩
theorem aH.mono {lo hi lo' hi':Int} {l:List Int} (h:aH lo hi l) (h1:lo'<=lo) (h2:hi<=hi'):aH lo' hi' l:=⟨h.1,λx hx=>by have:=h.2 x hx;omega⟩
theorem aH.append {a b c d:Int} {l m:List Int} (hl:aH a b l) (hm:aH c d m) (h:b<=c) (h1:a<=c) (h2:b<=d):aH a d (l ++ m):=by
 refine ⟨N9.2 ⟨hl.1,hm.1,λx hx y hy=>?_⟩,λx hx=>?_⟩
 .have:=hl.2 x hx;have:=hm.2 y hy;omega
 rcases VJ.1 hx with hx|hx
 .have:=hl.2 x hx;omega
 have:=hm.2 x hx;omega
theorem aH.map_add {a b:Int} {l:List Int} (hl:aH a b l) (t:Int):aH (a+t) (b+t) (l.map (·+t)):=by
 refine ⟨zf.2 (hl.1.imp λh=>ad),λx hx=>?_⟩;obtain ⟨y,hy,rfl⟩:=VC.1 hx;have:=hl.2 y hy;omega
theorem aH.filter {a b:Int} {l:List Int} (hl:aH a b l) (p:Int->Bool):aH a b (l.filter p):=
 ⟨hl.1.filter p,λx hx=>hl.2 x (N7.1 hx).1⟩
theorem aH.get_lt {a b:Int} {l:List Int} (hl:aH a b l) {i j:Nat} (gq:i<j) (hj:j<l.length):l[i]' ad<l[j]:=
 yJ.1 hl.1 i j ad hj gq
theorem aH.get_bounds {a b:Int} {l:List Int} (hl:aH a b l) {i:Nat} (hi:i<l.length):a<=l[i]/\l[i]<b:=hl.2 _ (NS hi)
theorem aH.get_ge {a b:Int} {l:List Int} (hl:aH a b l):∀ {i:Nat} (hi:i<l.length),a+i<=l[i]:=by
 intro i;induction i with
 | zero=>intro hi;have:=hl.get_bounds hi;simpa using this.1
 | succ i ih=>intro hi;have:=ih ad;have:l[i]' ad<l[i+1]:=hl.get_lt (Nat.lt_succ_self i) hi;omega
theorem aH.length_le {a b:Int} {l:List Int} (hl:aH a b l) (hab:a<=b):(l.length:Int)<=b-a:=by
 cases h:l.length with
 | zero=>simp;omega
 | succ n=>
  have:=hl.get_ge (i:=n) ad;have:=hl.get_bounds (i:=n) ad;push_cast;omega
structure Per where
 head:List Int
 frm:Int
 period:Int
 cycle:List Int
structure Per.WF (p:Per):Prop where
 frm:0<=p.frm
 per:1<=p.period
 head:aH 0 p.frm p.head
 cyc:aH 0 p.period p.cycle
def Per.mem (p:Per) (n:Int):Prop:=0<=n/\if n<p.frm then n∈p.head else (n-p.frm) % p.period∈p.cycle
instance (p:Per) (n:Int):Decidable (p.mem n):=by unfold Per.mem;infer_instance
theorem Per.mem_lo {p:Per} {n:Int} (h0:0<=n) (h:n<p.frm):p.mem n↔n∈p.head:=by unfold Per.mem;simp [h,h0]
theorem Per.mem_hi {p:Per} {n:Int} (h0:0<=n) (h:p.frm<=n):p.mem n↔(n-p.frm) % p.period∈p.cycle:=by
 unfold Per.mem;rw [if_neg ad];simp [h0]
def ft (S:Int->Prop) (d:Int):Prop:=∃ N,∀ n,N<=n->(S n↔S (n+d))
def cM (S:Int->Prop) (f d:Int):Prop:=∀ n,f<=n->(S n↔S (n+d))
theorem cM.ev {S:Int->Prop} {f d:Int} (h:cM S f d):ft S d:=⟨f,h⟩
theorem cM.mul {S:Int->Prop} {f d:Int} (h:cM S f d) (hd:0<=d) (k:Nat):cM S f (k*d):=by
 intro n hn;induction k with
 | zero=>simp
 | succ k ih=>
  have h0:0<=(k:Int)*d:=K_ ad hd;rw [ih,h (n+k*d) ad];rw [show n+(k:Int)*d+d=n+((k+1:Nat):Int)*d from by push_cast;rw [OM];omega]
theorem ft.sub {S:Int->Prop} {a b:Int} (ha:ft S a) (hb:ft S b):ft S (a-b):=by
 obtain ⟨N,ha⟩:=ha;obtain ⟨M,hb⟩:=hb;refine ⟨max N (M+b-a)+max 0 (b-a),λn hn=>?_⟩;rw [ha n ad,hb (n+(a-b)) ad,show n+(a-b)+b=n+a from by omega]
theorem ft.mul {S:Int->Prop} {d:Int} (h:ft S d) (hd:0<=d) (k:Nat):ft S (k*d):=by
 obtain ⟨N,h⟩:=h;exact ⟨N,(show cM S N d from h).mul hd k⟩
theorem OW (T x:Int) (hT:1<=T):∃ k:Nat,x<=(k:Int)*T/\0<=(k:Int)*T:=by
 refine ⟨x.toNat,?_⟩;generalize hq:((x.toNat:Nat):Int)=q;have mU:0<=q:=ad;have:q*1<=q*T:=NQ hT mU;omega
theorem cM.of_ev {S:Int->Prop} {f T d:Int} (hT:cM S f T) (h1:1<=T) (hd:0<=d) (h:ft S d):cM S f d:=by
 obtain ⟨N,h⟩:=h;intro n hn;obtain ⟨k,hk,hk0⟩:=OW T (N-n) h1;have e1:=hT.mul ad k n hn;have e2:=hT.mul ad k (n+d) ad;rw [e1,h _ ad,e2,show n+(k:Int)*T+d=n+d+(k:Int)*T from by omega]
structure bV (c:Per) (S:Int->Prop):Prop where
 wf:c.WF
 mem:∀ n,c.mem n↔S n
 minp:∀ d,1<=d->ft S d->c.period<=d
 minf:∀ f,0<=f->cM S f c.period->c.frm<=f
theorem Per.WF.pfrom {p:Per} (h:p.WF):cM p.mem p.frm p.period:=by
 intro n hn;have:=h.frm;have:=h.per;rw [Per.mem_hi ad hn,Per.mem_hi ad ad,show n+p.period-p.frm=n-p.frm+p.period from ad,GM]
theorem cM.congr {S S':Int->Prop} (h:∀ n,S n↔S' n) {f d:Int}:cM S f d↔cM S' f d:=by
 unfold cM;simp only [h]
theorem ft.congr {S S':Int->Prop} (h:∀ n,S n↔S' n) {d:Int}:ft S d↔ft S' d:=by
 unfold ft;simp only [h]
theorem bV.congr {c:Per} {S S':Int->Prop} (h:bV c S) (hs:∀ n,S n↔S' n):bV c S':=
 ⟨h.wf,λn=>(h.mem n).trans (hs n),λd hd he=>h.minp d hd ((ft.congr hs).2 he),λf hf he=>h.minf f hf ((cM.congr hs).2 he)⟩
theorem bV.pfrom {c:Per} {S:Int->Prop} (h:bV c S):cM S c.frm c.period:=(cM.congr h.mem).1 h.wf.pfrom
theorem Per.ext' {a b:Per} (h1:a.head=b.head) (h2:a.frm=b.frm) (h3:a.period=b.period) (h4:a.cycle=b.cycle):a=b:=by
 cases a;cases b;simp_all
theorem Per.WF.cyc_mem {p:Per} (h:p.WF) (x:Int):x∈p.cycle↔0<=x/\x<p.period/\p.mem (p.frm+x):=by
 have:=h.frm;constructor
 .intro hx;have hb:=h.cyc.2 x hx;refine ⟨hb.1,hb.2,(Per.mem_hi ad ad).2 ?_⟩;rw [show p.frm+x-p.frm=x from ad,LV hb.1 hb.2];exact hx
 rintro ⟨h0,h1,hm⟩;rw [Per.mem_hi ad ad,show p.frm+x-p.frm=x from ad,LV h0 h1] at hm;exact hm
theorem Per.WF.head_mem {p:Per} (h:p.WF) (x:Int):x∈p.head↔0<=x/\x<p.frm/\p.mem x:=by
 constructor
 .intro hx;have hb:=h.head.2 x hx;exact ⟨hb.1,hb.2,(Per.mem_lo hb.1 hb.2).2 hx⟩
 rintro ⟨h0,h1,hm⟩;exact (Per.mem_lo h0 h1).1 hm
theorem bV.unique {c c':Per} {S:Int->Prop} (h:bV c S) (h':bV c' S):c=c':=by
 have hp:c.period=c'.period:=Int.le_antisymm (h.minp _ h'.wf.per h'.pfrom.ev) (h'.minp _ h.wf.per h.pfrom.ev);have hf:c.frm=c'.frm:=by
  refine Int.le_antisymm (h.minf _ h'.wf.frm ?_) (h'.minf _ h.wf.frm ?_)
  .rw [hp];exact h'.pfrom
  rw [<- hp];exact h.pfrom
 refine Per.ext' (h.wf.head.ext h'.wf.head λx=>?_) hf hp (h.wf.cyc.ext h'.wf.cyc λx=>?_)
 .rw [h.wf.head_mem,h'.wf.head_mem,h.mem,h'.mem,hf]
 rw [h.wf.cyc_mem,h'.wf.cyc_mem,h.mem,h'.mem,hf,hp]
theorem RK {S:Int->Prop} {d T:Int} (hd:1<=d) (hev:ft S d) (q4u:∀ e,1<=e->ft S e->d<=e) (hT:1<=T) (h:ft S T):d∣T:=by
 have h0:0<=T / d:=N1 ad ad;have he:ft S (T-(T / d).toNat*d):=h.sub (hev.mul ad _);rw [S6 h0] at he;have hm:T-T / d*d=T % d:=by have:=VE T d;omega
 rw [hm] at he;have hlt:=VM T (show 0<d by omega);have hge:=VK T (show d≠0 by omega);by_cases hz:T % d=0
 .exact NB hz
 have:=q4u _ ad he;omega
theorem exists_least {S:Int->Prop} {T:Int} (hT:1<=T) (h:ft S T):∃ d,1<=d/\ft S d/\∀ e,1<=e->ft S e->d<=e:=by
 have key:∀ n:Nat,∀ T:Int,T.toNat=n->1<=T->ft S T->∃ d,1<=d/\ft S d/\∀ e,1<=e->ft S e->d<=e:=by
  intro n;induction n using Nat.strongRecOn with
  | _ n ih=>
   intro T hn hT h;by_cases hm:∃ e,1<=e/\ft S e/\e<T
   .obtain ⟨e,cN,eP,dz⟩:=hm;exact ih e.toNat ad e rfl cN eP
   refine ⟨T,hT,h,λe cN eP=>?_⟩;exact Int.not_lt.1 λhlt=>hm ⟨e,cN,eP,hlt⟩
 exact key _ T rfl hT h
def blocks (B:List Int) (d b:Int):Nat->List Int
 | 0=>[]
 | t+1=>blocks B d b t ++ B.map (·+(b+t*d))
theorem EX (B:List Int) (d b:Int) (t:Nat):(blocks B d b t).length=t*B.length:=by
 induction t with
 | zero=>simp [blocks]
 | succ t ih=>simp [blocks,ih,Q_]
theorem qf_ {B:List Int} {d b:Int} (hB:aH 0 d B) (hd:0<=d) (t:Nat):aH b (b+t*d) (blocks B d b t):=by
 induction t with
 | zero=>exact aH.nil
 | succ t ih=>
  have h0:0<=(t:Int)*d:=K_ ad hd;refine (ih.append (hB.map_add (b+t*d)) ad ad ad).mono ad ?_;push_cast;rw [OM];omega
theorem Ji {B:List Int} {d b:Int} (hB:aH 0 d B) (hd:1<=d) (t:Nat) (x:Int):x∈blocks B d b t↔b<=x/\x<b+t*d/\(x-b) % d∈B:=by
 induction t with
 | zero=>simp [blocks];omega
 | succ t ih=>
  have h0:0<=(t:Int)*d:=K_ ad ad;have hs:((t+1:Nat):Int)*d=t*d+d:=by push_cast;rw [OM];omega
  rw [blocks,VJ,ih,VC,hs];constructor
  .rintro (⟨h1,h2,h3⟩|⟨y,hy,rfl⟩)
   .exact ⟨h1,ad,h3⟩
   have hb:=hB.2 y hy;refine ⟨ad,ad,?_⟩;rw [show y+(b+t*d)-b=y+t*d from ad,ON,LV hb.1 hb.2];exact hy
  rintro ⟨h1,h2,h3⟩;by_cases hx:x<b+t*d
  .exact .inl ⟨h1,hx,h3⟩
  refine .inr ⟨x-(b+t*d),?_,ad⟩;have:(x-b) % d=x-(b+t*d):=by
   rw [show x-b=(x-(b+t*d))+t*d from ad,ON,LV ad ad]
  rw [<- this];exact h3
theorem si_ {B:List Int} {d b:Int} {t j i:Nat} (hj:j<t) (hi:i<B.length):(blocks B d b t)[j*B.length+i]? = some (B[i]+(b+j*d)):=by
 induction t with
 | zero=>omega
 | succ t ih=>
  rw [blocks];by_cases CS:j<t
  .have hlt:j*B.length+i<(blocks B d b t).length:=by
    rw [EX];have:(j+1)*B.length<=t*B.length:=q8z _ CS;rw [Q_] at this;omega
   rw [M_ hlt];exact ih CS
  obtain rfl:j=t:=ad;rw [ND (by rw [EX];omega),EX,show j*B.length+i-j*B.length=i from by omega];simp [hi]
theorem Jc {B:List Int} {d b:Int} {t j i k:Nat} (hk:B.length=k) (hj:j<t) (hi:i<k):(blocks B d b t)[j*k+i]? = some (B[i]' ad+(b+j*d)):=by
 subst hk;exact si_ hj hi
theorem ki_ {C:List Int} {d:Int} {parts k:Nat} (hn:C.length=parts*k) (h:∀ i (hi:i<C.length) (_:k<=i),C[i]=C[i-k]+d) (hk:1<=k) :
  C=blocks (C.take k) d 0 parts:=by
 rcases NR parts with rfl|hp
 .have:C.length=0:=by rw [hn];simp
  rw [NL this];rfl
 have lu:k<=C.length:=by rw [hn];exact q8d k hp
 have hlen:(C.take k).length=k:=by simp;omega
 have key:∀ j i,i<k->j<parts->∀ hlt:j*k+i<C.length,C[j*k+i]=C[i]' ad+j*d:=by
  intro j;induction j with
  | zero=>intro i _ _ _;simp
  | succ j ih=>
   intro i hi hj hlt;have e1:=h ((j+1)*k+i) hlt (by rw [Q_];omega);have e2:(j+1)*k+i-k=j*k+i:=by rw [Q_];omega
   have q2n:j*k+i<C.length:=by rw [<- e2];omega
   have e3:C[(j+1)*k+i-k]' ad=C[j*k+i]:=by congr 1
   rw [e1,e3,ih i hi ad q2n];push_cast;rw [OM];omega
 refine QB (by rw [EX,hlen,hn]) λi h1 h2=>?_;have hi:i % k<k:=XK _ hk;have hj:i / k<parts:=by rw [hn] at h1;exact q8y (by rw [OH];exact h1)
 have qz:i / k*k+i % k=i:=by rw [OH];exact q8a i k
 have g:=Jc (B:=C.take k) (d:=d) (b:=0) (t:=parts) (j:=i / k) (i:=i % k) hlen hj hi;rw [qz,U2 h2] at g;have g:=S7 g;rw [g,NZ];have kk:=key (i / k) (i % k) hi hj (by rw [qz];exact h1);have e4:C[i / k*k+i % k]'(by rw [qz];exact h1)=C[i]:=by congr 1
 rw [e4] at kk;rw [kk];omega
def tB (C:List Int) (d:Int) (k:Nat):Prop:=(∀ i (hi:i<C.length) (_:k<=i),C[i]=C[i-k]+d)/\∃ h:k-1<C.length,C[k-1]<d
theorem Wo {C:List Int} {T d:Int} {parts k:Nat} (hC:aH 0 T C) (hn:C.length=parts*k) (hk:1<=k) (h:tB C d k) :
  C=blocks (C.take k) d 0 parts/\aH 0 d (C.take k):=by
 have hb:=ki_ hn h.1 hk;refine ⟨hb,hC.1.sublist (List.take_sublist k C),λx hx=>?_⟩;obtain ⟨i,hi,rfl⟩:=OK hx;have hik:i<k/\i<C.length:=by simp at hi;omega
 rw [NZ];refine ⟨(hC.get_bounds hik.2).1,?_⟩;obtain ⟨hl,hlt⟩:=h.2;rcases PZ i (k-1) with hi'|hi'
 .have:=hC.get_lt hi' hl;omega
 obtain rfl:i=k-1:=ad;exact hlt
def ud (C:List Int) (T d:Int):Prop:=∀ x,0<=x->x<T->(x∈C↔x % d∈C)
theorem EZ {x d:Int} {parts:Nat} (hd:1<=d) (hp:1<=parts):0<=x % d/\x % d<d/\d<=parts*d:=by
 have h1:=VM x (show 0<d by omega);have h2:=VK x (show d≠0 by omega);have h3:1*d<=parts*d:=NX ad ad;omega
theorem V9 {C:List Int} {T d:Int} {parts k:Nat} (hC:aH 0 T C) (hd:1<=d) (hp:1<=parts) (hT:T=parts*d) (hn:C.length=parts*k) (hk:1<=k) (h:tB C d k):ud C T d:=by
 obtain ⟨hb,hr⟩:=Wo hC hn hk h;intro x h0 hx;have hm:=EZ (x:=x) hd hp;rw [hb,Ji hr hd,Ji hr hd];simp only [Int.sub_zero,Int.zero_add,O8];constructor
 .rintro ⟨_,_,h3⟩;exact ⟨hm.1,ad,h3⟩
 rintro ⟨_,_,h3⟩;exact ⟨h0,ad,h3⟩
theorem Wc {C:List Int} {T d:Int} {parts:Nat} (hC:aH 0 T C) (hd:1<=d) (hp:1<=parts) (hT:T=parts*d) (hne:C≠[]) (h:ud C T d) :
  ∃ k,1<=k/\C.length=parts*k/\tB C d k:=by
 have hdT:d<=T:=by have:=EZ (x:=0) hd hp;omega
 obtain ⟨B,xR⟩:∃ B,B=C.filter (λx=>decide (x<d)):=⟨_,rfl⟩;have hBm:∀ x,x∈B↔x∈C/\x<d:=λx=>by rw [xR,N7];simp
 have hB:aH 0 d B:=⟨by rw [xR];exact hC.1.filter _,λx hx=>⟨(hC.2 x ((hBm x).1 hx).1).1,((hBm x).1 hx).2⟩⟩;have JC:C=blocks B d 0 parts:=by
  refine hC.ext (qf_ hB ad parts) λx=>?_;rw [Ji hB hd,hBm];simp only [Int.sub_zero,Int.zero_add,<- hT];constructor
  .intro hx;have hb:=hC.2 x hx;exact ⟨hb.1,hb.2,(h x hb.1 hb.2).1 hx,(EZ (x:=x) hd hp).2.1⟩
  rintro ⟨h0,h1,h2,_⟩;exact (h x h0 h1).2 h2
 have hlen:C.length=parts*B.length:=by rw [JC,EX]
 have hk:1<=B.length:=by
  rcases NR B.length with h0|h0
  .rw [h0] at hlen;exact absurd (NL (by simpa using hlen)) hne
  exact h0
 obtain ⟨k,eQ⟩:∃ k,B.length=k:=⟨_,rfl⟩;rw [eQ] at hlen hk;refine ⟨k,hk,hlen,λi hi Vo=>?_,?_⟩
 .have yl:0<k:=hk;have lX:i % k<k:=XK _ yl;have hj:i / k<parts:=by rw [hlen] at hi;exact q8y (by rw [OH];exact hi)
  have qz:i / k*k+i % k=i:=by rw [OH];exact q8a i k
  have QD:1<=i / k:=(Nat.le_div_iff_mul_le yl).2 ad;obtain ⟨q,hq⟩:∃ q,i / k=q+1:=⟨i / k-1,ad⟩;have ix:q*k+i % k=i-k:=by rw [hq,Q_] at qz;omega
  have g1:=Jc (B:=B) (d:=d) (b:=0) (t:=parts) (j:=i / k) (i:=i % k) eQ hj lX;have g2:=Jc (B:=B) (d:=d) (b:=0) (t:=parts) (j:=q) (i:=i % k) eQ ad lX;rw [qz,<- JC,U2 hi] at g1;rw [ix,<- JC,U2 ad] at g2;rw [S7 g1,S7 g2,hq];push_cast;rw [OM];omega
 have hl:k<=C.length:=by rw [hlen];exact q8d _ ad
 refine ⟨ad,?_⟩;have g1:=Jc (B:=B) (d:=d) (b:=0) (t:=parts) (j:=0) (i:=k-1) eQ ad ad;rw [<- JC] at g1;simp only [WN,S1] at g1;rw [U2 ad] at g1;rw [S7 g1];have:=(hB.get_bounds (i:=k-1) ad).2;simpa using this
theorem Wd {p:Per} (h:p.WF) {d:Int} {parts:Nat} (hT:p.period=parts*d) (hc:ud p.cycle p.period d) :
  ∀ n,p.frm<=n->(p.mem n↔(n-p.frm) % d∈p.cycle):=by
 intro n hn;have h0:=h.frm;have wA:=h.per;rw [Per.mem_hi ad hn];have h1:=VM (n-p.frm) (show 0<p.period by omega);have h2:=VK (n-p.frm) (show p.period≠0 by omega);rw [hc _ h2 h1];rw [A7 _ ⟨(parts:Int),by rw [hT,LY]⟩]
theorem WX {p:Per} (h:p.WF) {d:Int} (hd:1<=d) (he:ft p.mem d) (hle:d<=p.period):ud p.cycle p.period d:=by
 intro x h0 hx;have hf:=h.frm;have hp:=h.pfrom.of_ev h.per ad he;have h1:=VM x (show 0<d by omega);have h2:=VK x (show d≠0 by omega);have mU:0<=x / d:=N1 h0 ad;have e:=hp.mul ad (x / d).toNat (p.frm+x % d) ad;rw [S6 mU] at e;have hm:p.frm+x % d+x / d*d=p.frm+x:=by have:=VE x d;omega
 rw [hm] at e;constructor
 .intro hx';exact (h.cyc_mem _).2 ⟨h2,ad,e.2 ((h.cyc_mem x).1 hx').2.2⟩
 intro hx';exact (h.cyc_mem x).2 ⟨h0,hx,e.1 ((h.cyc_mem _).1 hx').2.2⟩
structure xP (p:Per) (d:Int) (B:List Int):Prop where
 pos:1<=d
 le:d<=p.period
 rise:aH 0 d B
 ne:B≠[]
 mem:∀ n,p.frm<=n->(p.mem n↔(n-p.frm) % d∈B)
 minp:∀ e,1<=e->ft p.mem e->d<=e
 ev:ft p.mem d
 len:B.length<=p.cycle.length
theorem OT {p:Per} (h:p.WF) (hne:p.cycle≠[]) {d:Int} {parts k:Nat} (hd:1<=d) (hp:1<=parts) (hT:p.period=parts*d) (hn:p.cycle.length=parts*k) (hk:1<=k)
  (hP:tB p.cycle d k)
  (hmax:∀ parts' d' k',parts<parts'->1<=d'->1<=k'->p.period=(parts':Nat)*d'->p.cycle.length=parts' * k'->¬ tB p.cycle d' k') :
  xP p d (p.cycle.take k):=by
 obtain ⟨hb,hr⟩:=Wo h.cyc hn hk hP;have hc:=V9 h.cyc hd hp hT hn hk hP;have hmem:∀ n,p.frm<=n->(p.mem n↔(n-p.frm) % d∈p.cycle.take k):=by
  intro n hn;rw [Wd h hT hc n hn];have hm:=EZ (x:=n-p.frm) hd hp;constructor
  .intro hx;rw [hb,Ji hr hd] at hx;simpa using hx.2.2
  exact λhx=>S8 hx
 have hev:ft p.mem d:=⟨p.frm,λn hn=>by
  rw [hmem n hn,hmem _ ad,show n+d-p.frm=n-p.frm+d from ad,GM]⟩
 have hle:d<=p.period:=by have:=EZ (x:=0) hd hp;omega
 refine ⟨hd,hle,hr,?_,hmem,?_,hev,by rw [MO];exact Nat.min_le_right _ _⟩
 .intro h0;have:(p.cycle.take k).length=0:=by rw [h0];rfl
  have h1:k<=p.cycle.length:=by rw [hn];exact q8d k hp
  rw [MO,EB h1] at this;omega
 obtain ⟨d0,Jw,Uw,O7⟩:=exists_least hd hev;have Qg:d0<=d:=O7 d hd hev;have CN:d0∣p.period:=RK Jw Uw O7 h.per h.pfrom.ev;obtain ⟨q,hq⟩:=CN;have qD:1<=q:=by
  rcases NC 0 q with mU|mU
  .omega
  have h5:d0*q<=d0*0:=NQ mU (show 0<=d0 by omega);have h6:=h.per;rw [hq] at h6;simp at h5;omega
 have xU:p.period=(q.toNat:Nat)*d0:=by rw [S6 ad,hq,LY]
 obtain ⟨k0,hk0,i7,vP⟩:=Wc h.cyc Jw (show 1<=q.toNat by omega) xU hne (WX h Jw Uw ad);have hle2:q.toNat<=parts:=Nat.le_of_not_lt λhlt=>hmax _ _ _ hlt Jw hk0 xU i7 vP;have hdd:d=d0:=by
  refine Int.le_antisymm ?_ Qg;rcases NC d0 d with hlt|hge
  .exfalso;have e1:(parts:Int)*d=(q.toNat:Nat)*d0:=hT ▸ xU;have e2:(q.toNat:Int)*d0<=parts*d0:=NX ad ad;have e3:(parts:Int)*d0<parts*d:=Int.mul_lt_mul_of_pos_left hlt ad;omega
  exact hge
 rw [hdd];exact O7
open Classical in
noncomputable def cnt (S:Int->Prop):Nat->Int
 | 0=>0
 | n+1=>cnt S n+if S n then 1 else 0
theorem XE {S T:Int->Prop} (h:∀ n,S n↔T n) (n:Nat):cnt S n=cnt T n:=by
 induction n with
 | zero=>rfl
 | succ n ih=>simp only [cnt,ih];by_cases hs:S n <;> simp [hs,<- h]
theorem Fi (S:Int->Prop) (n:Nat):0<=cnt S n/\cnt S n<=n:=by
 induction n with
 | zero=>simp [cnt]
 | succ n ih=>simp only [cnt];split <;> omega
theorem sp_ (S T:Int->Prop) (n:Nat):cnt S n+cnt T n=cnt (λx=>S x\/T x) n+cnt (λx=>S x/\T x) n:=by
 induction n with
 | zero=>rfl
 | succ n ih=>
  simp only [cnt];by_cases h1:S n <;> by_cases h2:T n <;> simp [h1,h2] <;> omega
theorem OS {l:List Int} (hl:l.Pairwise (· < ·)) (x:Int) :
  ((l.countP (λy=>decide (y<x+1)):Nat):Int)=(l.countP (λy=>decide (y<x)):Nat)+if x∈l then 1 else 0:=by
 induction l with
 | nil=>simp
 | cons a l ih=>
  have h:=N4.1 hl;have:=ih h.2;simp only [List.countP_cons,U3];by_cases hx:x∈l
  .have:=h.1 x hx;simp only [hx,or_true,if_true] at *;have h1:a<x+1:=ad;have h2:a<x:=ad;simp [h1,h2];omega
  simp only [hx,or_false,if_false] at *;by_cases hxa:x=a
  .obtain rfl:x=a:=hxa;have h1:x<x+1:=ad;have h2:¬ x<x:=ad;rw [if_pos rfl,if_pos (PH h1),if_neg aj];omega
  by_cases h1:a<x
  .have h2:a<x+1:=ad;simp [h1,h2,hxa];omega
  have h2:¬ a<x+1:=ad;simp [h1,h2,hxa];omega
theorem OV {l:List Int} {a b x:Int} (hl:aH a b l) (h:b<=x):l.countP (λy=>decide (y<x))=l.length:=by
 rw [List.countP_eq_length];intro y hy;have:=hl.2 y hy;simp;omega
theorem I6 {l:List Int} {a b x:Int} (hl:aH a b l) (h:x<=a):l.countP (λy=>decide (y<x))=0:=by
 rw [q8q];intro y hy;have:=hl.2 y hy;simp;omega
def im (p:Per) (n:Int):Int:=
 if n<=p.frm then ((p.head.countP (λy=>decide (y<n)):Nat):Int)
 else p.head.length+(n-p.frm) / p.period*p.cycle.length+((p.cycle.countP (λy=>decide (y<(n-p.frm) % p.period)):Nat):Int)
theorem Jp {p:Per} (h:p.WF) {n:Int} (hn:p.frm<=n) :
  im p n=p.head.length+(n-p.frm) / p.period*p.cycle.length+((p.cycle.countP (λy=>decide (y<(n-p.frm) % p.period)):Nat):Int):=by
 unfold im
 split
 .obtain rfl:n=p.frm:=ad;rw [OV h.head (VI _),Int.sub_self,Int.zero_ediv,Int.zero_emod,I6 h.cyc (VI _)];simp
 rfl
theorem succ_div {x q:Int} (hq:1<=q):((x+1) % q=0/\(x+1) / q=x / q+1/\x % q=q-1)\/((x+1) % q=x % q+1/\(x+1) / q=x / q):=by
 have h1:=OG x q;have h2:=VK x (show q≠0 by omega);have h3:=VM x (show 0<q by omega);by_cases h:x % q=q-1
 .left;have e:x+1=q*(x / q+1):=by rw [O9];omega
  refine ⟨by rw [e];exact q7o _ _,?_,h⟩;rw [e];exact q8n _ ad
 right;have e:x+1=(x % q+1)+q*(x / q):=ad;constructor
 .rw [e,VQ,LV ad ad]
 rw [e,Int.add_mul_ediv_left _ _ ad,Int.ediv_eq_zero_of_lt ad ad];omega
theorem qe_ {p:Per} (h:p.WF) {n:Int} (hn:0<=n):im p (n+1)=im p n+if p.mem n then 1 else 0:=by
 by_cases hlt:n<p.frm
 .unfold im;rw [if_pos ad,if_pos ad,OS h.head.1];simp only [Per.mem_lo hn hlt]
 have hp:=h.per;rw [Jp h ad,Jp h ad];simp only [Per.mem_hi hn (show p.frm<=n by omega)];rw [show n+1-p.frm=n-p.frm+1 from by omega];rcases succ_div (x:=n-p.frm) hp with ⟨h1,h2,h3⟩|⟨h1,h2⟩
 .have e:=OS h.cyc.1 ((n-p.frm) % p.period);rw [h3,show p.period-1+1=p.period from ad,OV h.cyc (VI _)] at e;rw [h1,h2,h3,I6 h.cyc (VI _),OM];omega
 have e:=OS h.cyc.1 ((n-p.frm) % p.period);rw [h1,h2,e];omega
theorem sh_ {p:Per} (h:p.WF) (n:Nat):im p n=cnt p.mem n:=by
 induction n with
 | zero=>
  have:=h.frm;unfold im;rw [if_pos (by simpa using this)];simp only [cnt];rw [I6 h.head aj];rfl
 | succ n ih=>
  rw [show ((n+1:Nat):Int)=(n:Int)+1 from by push_cast;rfl,qe_ h ad,ih];simp only [cnt];by_cases hm:p.mem n <;> simp [hm]
theorem Jb {p:Per} (h:p.WF) {n:Int} (hn:0<=n):im p n=cnt p.mem n.toNat:=by
 have:=sh_ h n.toNat;rwa [S6 hn] at this
theorem Wh {p:Per} (h:p.WF) {n:Int} (hn:0<=n):0<=im p n/\im p n<=n:=by
 rw [Jb h hn];have:=Fi p.mem n.toNat;omega
theorem R1 {x y:Int} (hx:0<=x) (hy:0<y):Int.gcd y (x % y)=Int.gcd x y:=by
 obtain ⟨a,rfl⟩:=M1 hx;obtain ⟨b,rfl⟩:=M1 (show 0<=y by omega);rw [show ((a:Int) % (b:Int))=((a % b:Nat):Int) from by simp];show Nat.gcd b (a % b)=Nat.gcd a b;rw [Nat.gcd_comm a b,Nat.gcd_rec b a,Nat.gcd_comm]
theorem gcd_zero {x:Int} (hx:0<=x):((Int.gcd x 0:Nat):Int)=x:=by simp;omega
theorem oA {a b:Int} (ha:1<=a):1<=((Int.gcd a b:Nat):Int)/\((Int.gcd a b:Nat):Int)<=a:=by
 have h1:=q8l (a:=a) b ad;have h2:=QV ad (MP a b);omega
theorem xw {a b:Int} (hb:1<=b):((Int.gcd a b:Nat):Int)<=b:=QV ad (M0 a b)
structure EE (a m x y s t:Int):Prop where
 x0:0<=x
 y0:0<=y
 xm:x<=m
 ym:y<=m
 dx:m∣x-s*a
 dy:m∣y-t*a
 g:Int.gcd x y=Int.gcd a m
 sb:-m<=s/\s<=m
 tb:-m<=t/\t<=m
 sz:(0<=s/\t<=0/\s*y-t*x=m)\/(s<=0/\0<=t/\t*x-s*y=m)
theorem EE.start {a m:Int} (ha:0<=a) (JP:a<m):EE a m a m 1 0:=
 ⟨ha,ad,ad,ad,aj,aj,rfl,ad,ad,.inl ⟨ad,ad,aj⟩⟩
theorem RM {t y m:Int} (ht:0<=t) (hy:1<=y) (h:t*y<=m):t<=m:=by
 have:=NQ hy ht;omega
theorem EE.step {a m x y s t:Int} (h:EE a m x y s t) (hy:0<y):EE a m y (x-x / y*y) t (s-x / y*t)/\(-(2*m)<=x / y*t/\x / y*t<=2*m)/\0<=x / y/\x / y<=m/\0<=x / y*y/\x / y*y<=m/\x-x / y*y=x % y/\x % y<y:=by
 have e:=VE x y;have h1:=VK x (show y≠0 by omega);have h2:=VM x hy;have q0:0<=x / y:=N1 h.x0 ad;have xm:=h.xm;have ym:=h.ym;have x0:=h.x0;have er:x-x / y*y=x % y:=ad;have qm:x / y<=m:=RM q0 (y:=y) ad ad;generalize hq:x / y=q at *;have qy0:0<=q*y:=K_ q0 ad;have kK:m∣x-q*y-(s-q*t)*a:=by
  have:x-q*y-(s-q*t)*a=(x-s*a)-q*(y-t*a):=by
   rw [NJ,QI,AZ];omega
  rw [this];exact XB h.dx (QO h.dy (r_ _ _))
 have hg:Int.gcd y (x-q*y)=Int.gcd a m:=by rw [er,R1 x0 hy];exact h.g
 have hs:=h.sb;have ht:=h.tb;rcases h.sz with ⟨s0,t0,hz⟩|⟨s0,t0,hz⟩
 .have hqt:q*t<=0:=q7p q0 t0;have hz':(s-q*t)*y-t*(x-q*y)=m:=by
   rw [NJ,QI,LY q y,<- AZ t y q,LY q t,AZ t q y,LY q y,<- AZ];omega
  have hp:0<=-(t*(x-q*y)):=by
   have:t*(x-q*y)<=0:=Int.mul_nonpos_of_nonpos_of_nonneg t0 ad;omega
  have hb:s-q*t<=m:=RM (y:=y) ad ad ad;exact ⟨⟨ad,ad,ym,ad,h.dy,kK,hg,ht,ad,.inr ⟨t0,ad,hz'⟩⟩,ad,q0,qm,ad,ad,er,ad⟩
 have hqt:0<=q*t:=K_ q0 t0;have hz':t*(x-q*y)-(s-q*t)*y=m:=by
  rw [NJ,QI,LY q y,<- AZ t y q,LY q t,AZ t q y,LY q y,<- AZ];omega
 have hp:0<=t*(x-q*y):=K_ t0 ad;have e3:(s-q*t)*y=-((q*t-s)*y):=by rw [<- Int.neg_mul];congr 1;omega
 have hb:q*t-s<=m:=RM (y:=y) ad ad ad;exact ⟨⟨ad,ad,ym,ad,h.dy,kK,hg,ht,ad,.inl ⟨t0,ad,hz'⟩⟩,ad,q0,qm,ad,ad,er,ad⟩
def tA (a m v:Int):Prop:=0<=v/\v<m/\(a*v) % m=1 % m
noncomputable def sQ (a m:Int):Int:=Classical.epsilon λv=>tA a m v
theorem pj_ {a m v v':Int} (h:tA a m v) (h':tA a m v'):v=v':=by
 obtain ⟨h1,h2,h3⟩:=h;obtain ⟨h4,h5,h6⟩:=h';have e1:(v*(a*v')) % m=v % m:=by rw [GK,h6,<- GK,GS]
 have e2:(v' * (a*v)) % m=v' % m:=by rw [GK,h3,<- GK,GS]
 have e3:v*(a*v')=v' * (a*v):=by rw [Int.mul_left_comm,Int.mul_left_comm v',LY v v']
 rw [e3,e2,LV h4 h5,LV h1 h2] at e1;exact e1.symm
theorem Nu {a m v:Int} (h:tA a m v):sQ a m=v:=pj_ (q7n ⟨v,h⟩) h
theorem WB {a m x s t:Int} (h:EE a m x 0 s t) (hg:Int.gcd a m=1) (hm:1<=m):tA a m (s % m):=by
 refine ⟨VK _ ad,VM _ ad,?_⟩;have hx:x=1:=by have:=gcd_zero h.x0;rw [h.g,hg] at this;omega
 have hd:=h.dx;rw [hx] at hd;rw [GK,O8,<- GK,LY];exact (zB.2 (NA hd)).symm
theorem Wx {m n:Int} (hm:1<=m) (hn:1<=n):Int.gcd (m / Int.gcd m n) (n / Int.gcd m n)=1:=by
 obtain ⟨a,rfl⟩:=M1 (show 0<=m by omega);obtain ⟨b,rfl⟩:=M1 (show 0<=n by omega);have h:0<Nat.gcd a b:=q8c _ ad;show Nat.gcd ((a:Int) / (Nat.gcd a b:Nat)).natAbs ((b:Int) / (Nat.gcd a b:Nat)).natAbs=1;rw [show ((a:Int) / (Nat.gcd a b:Nat)).natAbs=a / Nat.gcd a b from rfl,show ((b:Int) / (Nat.gcd a b:Nat)).natAbs=b / Nat.gcd a b from rfl];exact Nat.gcd_div_gcd_div_gcd_of_pos_left ad
theorem Kn {a m:Int} (ha:0<=a) (hm:1<=m):Int.gcd (a % m) m=Int.gcd a m:=by
 rw [Int.gcd_comm,R1 ha ad]
def aV (m n:Int):Int:=m / Int.gcd m n*n
theorem Ae {m n:Int} (hm:1<=m) (hn:1<=n):1<=aV m n:=by
 have hb:=oA (b:=n) hm;have h1:1<=m / Int.gcd m n:=(QK ad).2 ad;have:=yu h1 hn ad ad;unfold aV;omega
theorem EY {m n:Int}:m∣aV m n:=by
 unfold aV;obtain ⟨k,hk⟩:=M0 m n;have h1:=G7 (MP m n);refine ⟨k,?_⟩;rw [show m / (Int.gcd m n:Int)*n=m / (Int.gcd m n:Int)*((Int.gcd m n:Int)*k) from by rw [<- hk],<- AZ,h1]
theorem I7 {m n:Int}:n∣aV m n:=⟨m / Int.gcd m n,LY _ _⟩
theorem Zc {m n:Int} (hm:1<=m) (hn:1<=n):aV m n=(Int.lcm m n:Nat):=by
 have h:=Int.gcd_mul_lcm m n;have hb:=oA (b:=n) hm;have h':((Int.gcd m n:Nat):Int)*(Int.lcm m n:Nat)=m*n:=by
  have:((m.gcd n*m.lcm n:Nat):Int)=((m.natAbs*n.natAbs:Nat):Int):=by rw [h]
  rw [Int.natCast_mul,Int.natCast_mul] at this;rw [this]
  congr 1 <;> omega
 have h1:=G7 (MP m n);unfold aV;have:((Int.gcd m n:Nat):Int)*(m / Int.gcd m n*n)=m*n:=by rw [<- AZ,LY _ (m / _),h1]
 exact q8k (show ((Int.gcd m n:Nat):Int)≠0 by omega) (this.trans h'.symm)
theorem YG {m n x:Int} (hm:1<=m) (hn:1<=n) (h1:m∣x) (h2:n∣x):aV m n∣x:=by
 rw [Zc hm hn];rw [<- X9] at h1 h2 ⊢;have:Int.lcm m n∣x.natAbs:=Int.lcm_dvd (by rw [<- X9];exact h1) (by rw [<- X9];exact h2);exact this
def vD (a m b n v:Int):Prop:=0<=v/\v<aV m n/\v % m=a % m/\v % n=b % n
noncomputable def gQ (a m b n:Int):Int:=Classical.epsilon λv=>vD a m b n v
theorem WC {a m b n v x:Int} (hm:1<=m) (hn:1<=n) (h:vD a m b n v):(x % m=a % m/\x % n=b % n)↔x % aV m n=v:=by
 obtain ⟨h1,h2,h3,h4⟩:=h;constructor
 .rintro ⟨e1,e2⟩;have d1:m∣x-v:=NB (zB.1 (e1.trans h3.symm));have d2:n∣x-v:=NB (zB.1 (e2.trans h4.symm));have:=zB.2 (NA (YG hm hn d1 d2));rw [this,LV h1 h2]
 intro e;have d:=Int.dvd_self_sub_emod (x:=x) (m:=aV m n);rw [e] at d;exact ⟨(zB.2 (NA (QO EY d))).trans h3,
  (zB.2 (NA (QO I7 d))).trans h4⟩
theorem Fk {a m b n v:Int} (hm:1<=m) (hn:1<=n) (h:vD a m b n v):gQ a m b n=v:=by
 have h':vD a m b n (gQ a m b n):=q7n ⟨v,h⟩;have:=(WC hm hn h).1 ⟨h'.2.2.1,h'.2.2.2⟩;rw [LV h'.1 h'.2.1] at this;exact this
theorem q6x {a m b n r s g k i:Int} (hm:1<=m) (hn:1<=n) (hr:r=a % m) (hs:s=b % n) (hg:g=(Int.gcd m n:Nat)) (hd:(s-r) % g=0)
  (hi:tA (m / g % (n / g)) (n / g) i) (hk:k=((s-r) / g % (n / g)*i) % (n / g)):vD a m b n (r+m*k):=by
 have hb:=oA (b:=n) hm;have hb2:=xw (a:=m) hn;rw [<- hg] at hb hb2;have dm:g∣m:=hg ▸ MP m n;have dn:g∣n:=hg ▸ M0 m n;have em:=G7 dm;have en:=G7 dn;have es:=G7 (NB hd);have hq:1<=n / g:=(QK ad).2 ad;have r0:=VK a (show m≠0 by omega);have r1:=VM a (show 0<m by omega);have k0:0<=k:=hk ▸ VK _ ad;have k1:k<n / g:=hk ▸ VM _ ad;rw [<- hr] at r0 r1;have hL:aV m n=m*(n / g):=by
  unfold aV;rw [<- hg];have:m / g*n=m / g*(n / g*g):=by rw [en]
  rw [this,LY (n / g) g,<- AZ,em]
 refine ⟨?_,?_,?_,?_⟩
 .have:=K_ (show 0<=m by omega) k0;omega
 .have h1:m*(k+1)<=m*(n / g):=NQ ad ad;rw [O9] at h1;rw [hL];omega
 .rw [VQ,hr,O8]
 -- m k=(s-r) modulo n
 have h3:=hi.2.2;have e1:(m / g*k) % (n / g)=((s-r) / g) % (n / g):=by
  rw [hk,GK,O8,<- GK,<- AZ,LY (m / g),AZ,GK,O8];have e2:(m / g*i) % (n / g)=1 % (n / g):=by rw [<- h3,GK (m / g % (n / g)),O8,<- GK]
  rw [e2,<- GK,GS]
 have d1:n / g∣m / g*k-(s-r) / g:=NB (zB.1 e1);have d2:n∣m*k-(s-r):=by
  obtain ⟨c,hc⟩:=d1;refine ⟨c,?_⟩;have e4:m*k-(s-r)=(m / g*k-(s-r) / g)*g:=by
   rw [NJ,es,AZ,LY k g,<- AZ,em]
  rw [e4,hc,AZ,LY c g,<- AZ,en]
 have e5:(r+m*k) % n=s % n:=zB.2 (NA (by rw [show r+m*k-s=m*k-(s-r) from by omega];exact d2));rw [e5,hs,O8]
theorem Xf {a m:Int} (ha:0<=a) (JP:a<m) (hg:Int.gcd a m=1):∃ v,tA a m v:=by
 have key:∀ n:Nat,∀ x y s t:Int,y.toNat=n->EE a m x y s t->∃ v,tA a m v:=by
  intro n;induction n using Nat.strongRecOn with
  | _ n ih=>
   intro x y s t hn h;by_cases hy:y=0
   .subst hy;exact ⟨_,WB h hg ad⟩
   have yF:=h.y0;obtain ⟨h2,_,_,_,_,_,h7,h8⟩:=h.step (show 0<y by omega);exact ih _ ad _ _ _ _ rfl h2
 exact key _ _ _ _ _ rfl (EE.start ha JP)
def dt (B:List Int) (d f:Int) (j:Nat):Int:=f-d*((j / B.length:Nat)+1)+B.getD (B.length-1-j % B.length) 0
def pat (B:List Int) (d f x:Int):Prop:=(x-f) % d∈B
theorem lg {B:List Int} {i:Nat} (h:i<B.length):B.getD i 0∈B:=by
 rw [VS,U2 h];exact NS h
theorem getD_lt {a b:Int} {B:List Int} (hB:aH a b B) {i j:Nat} (gq:i<j) (hj:j<B.length):B.getD i 0<B.getD j 0:=by
 have:=hB.get_lt gq hj;simpa [VS,U2 hj,U2 (show i<B.length by omega)] using this
theorem jH {a b:Int} {B:List Int} (hB:aH a b B) {i:Nat} (hi:i<B.length):a<=B.getD i 0/\B.getD i 0<b:=hB.2 _ (lg hi)
section
variable {B:List Int} {d f:Int} (hB:aH 0 d B) (hk:1<=B.length)
include hB hk
theorem Y9 (j:Nat):pat B d f (dt B d f j):=by
 have hi:B.length-1-j % B.length<B.length:=ad;have hb:=jH hB hi;unfold pat dt;rw [show f-d*(((j / B.length:Nat):Int)+1)+B.getD (B.length-1-j % B.length) 0-f=B.getD (B.length-1-j % B.length) 0+d*(-(((j / B.length:Nat):Int)+1)) from by rw [OI];omega,
  VQ,LV hb.1 hb.2]
 exact lg hi
theorem Ys:dt B d f 0<f:=by
 have hb:=jH hB (show B.length-1<B.length by omega);show f-d*(((0 / B.length:Nat):Int)+1)+B.getD (B.length-1-0 % B.length) 0<f;rw [Nat.zero_div,Nat.zero_mod,FJ];omega
theorem Yr (j:Nat):dt B d f (j+1)<dt B d f j:=by
 unfold dt;have hd:=q8a j B.length;have hm:=XK j (show B.length > 0 by omega);by_cases h:j % B.length+1=B.length
 .have e1:(j+1) % B.length=0:=by
   rw [show j+1=B.length*(j / B.length+1) from by rw [Nat.mul_succ];omega];exact Nat.mul_mod_right _ _
  have e2:(j+1) / B.length=j / B.length+1:=by
   rw [show j+1=B.length*(j / B.length+1) from by rw [Nat.mul_succ];omega];exact Nat.mul_div_cancel_left _ ad
  have hb1:=jH hB (show B.length-1<B.length by omega);have hb2:=jH hB (show 0<B.length by omega);rw [e1,e2,show B.length-1-j % B.length=0 from ad,FJ];generalize j / B.length=q;have e3:d*(((q+1:Nat):Int)+1)=d*((q:Int)+1)+d:=by push_cast;rw [O9 d ((q:Int)+1)];omega
  omega
 have e0:j+1=(j % B.length+1)+B.length*(j / B.length):=ad;have e1:(j+1) % B.length=j % B.length+1:=by
  rw [e0,Nat.add_mul_mod_self_left,ZV ad]
 have e2:(j+1) / B.length=j / B.length:=by
  rw [e0,Nat.add_mul_div_left _ _ ad,q8b ad];omega
 have hlt:=getD_lt hB (i:=B.length-1-(j % B.length+1)) (j:=B.length-1-j % B.length) ad ad;rw [e1,e2];omega
theorem Kl {i j:Nat} (h:i<j):dt B d f j<dt B d f i:=by
 induction j with
 | zero=>omega
 | succ j ih=>
  have hs:=Yr (f:=f) hB hk j;rcases PZ i j with h1|h1
  .have:=ih h1;omega
  obtain rfl:i=j:=ad;exact hs
theorem q4q {x:Int} (hp:pat B d f x) (hx:x<f):∃ j,x=dt B d f j:=by
 obtain ⟨i,hi,he⟩:=OK hp;have hb:=hB.get_bounds hi;have oL:0<d:=ad;have hdiv:=OG (x-f) d;rw [<- he] at hdiv;have hq:(x-f) / d<0:=Int.ediv_neg_of_neg_of_pos ad oL;refine ⟨(-((x-f) / d)-1).toNat*B.length+(B.length-1-i),?_⟩;have hm:((-((x-f) / d)-1).toNat*B.length+(B.length-1-i)) % B.length=B.length-1-i:=by
  rw [OH,Nat.mul_add_mod,ZV ad]
 have hv:((-((x-f) / d)-1).toNat*B.length+(B.length-1-i)) / B.length=(-((x-f) / d)-1).toNat:=by
  rw [OH,Nat.mul_add_div ad,q8b ad];omega
 unfold dt;rw [hm,hv,show B.length-1-(B.length-1-i)=i from ad,show (((-((x-f) / d)-1).toNat:Nat):Int)+1=-((x-f) / d) from ad,OI];simp [hi];omega
theorem mm_ (j:Nat) {x:Int} (h1:dt B d f j<x) (h2:x<(if j=0 then f else dt B d f (j-1))):¬ pat B d f x:=by
 intro hp;have hxf:x<f:=by
  split at h2
  .exact h2
  have:dt B d f (j-1)<=dt B d f 0:=by
   rcases NR (j-1) with h|h
   .rw [h];exact VI _
   exact Int.le_of_lt (Kl hB hk h)
  have:=Ys (f:=f) hB hk;omega
 obtain ⟨i,rfl⟩:=q4q hB hk hp hxf;rcases U4 i j with h|h|h
 .rw [if_neg ad] at h2;rcases PZ i (j-1) with h3|h3
  .have:=Kl (f:=f) hB hk h3;omega
  obtain rfl:i=j-1:=ad;omega
 .subst h;omega
 have:=Kl (f:=f) hB hk h;omega
end
theorem su_ {B:List Int} {d f:Int} (hk:1<=B.length) (j:Nat):dt B d f (j+B.length)=dt B d f j-d:=by
 unfold dt;rw [Nat.add_mod_right,Nat.add_div_right _ ad];generalize j / B.length=q;have e3:d*(((q+1:Nat):Int)+1)=d*((q:Int)+1)+d:=by push_cast;rw [O9 d ((q:Int)+1)];omega
 omega
theorem Og {B:List Int} {d f:Int} (hB:aH 0 d B) (hk:1<=B.length) {i j:Nat} (h:i<=j):dt B d f j<=dt B d f i:=by
 rcases PZ i j with h1|h1
 .exact Int.le_of_lt (Kl hB hk h1)
 obtain rfl:i=j:=ad;exact VI _
def ff (B:List Int) (d f:Int) (j:Nat):Int:=if j=0 then f else dt B d f (j-1)
structure aY (p:Per) (d:Int) (B:List Int) (j:Nat):Prop where
 le:j<=p.head.length
 hi0:0<=ff B d p.frm j
 hif:ff B d p.frm j<=p.frm
 same:∀ x,ff B d p.frm j<=x->(p.mem x↔pat B d p.frm x)
 low:∀ x,x∈p.head.take (p.head.length-j)↔x∈p.head/\x<ff B d p.frm j
structure Start (p:Per) (d:Int) (B:List Int) (s:Int) (m:Nat):Prop where
 s0:0<=s
 sf:s<=p.frm
 same:∀ x,s<=x->(p.mem x↔pat B d p.frm x)
 first:s=0\/¬ (p.mem (s-1)↔pat B d p.frm (s-1))
 low:∀ x,x∈p.head.take m↔x∈p.head/\x<s
theorem aY.zero {p:Per} {d:Int} {B:List Int} (h:p.WF) (hS:xP p d B):aY p d B 0:=by
 refine ⟨T8 _,h.frm,VI _,hS.mem,λx=>?_⟩;simp only [ff,if_true,FJ,OC];exact ⟨λhx=>⟨hx,(h.head.2 x hx).2⟩,λhx=>hx.1⟩
def ee (p:Per) (j:Nat):Int:=if p.head.length-j=0 then -1 else p.head.getD (p.head.length-j-1) 0
theorem Ju {p:Per} (h:p.WF) {j:Nat}:-1<=ee p j/\ee p j<max 1 p.frm:=by
 unfold ee
 split
 .omega
 have:=jH h.head (i:=p.head.length-j-1) ad;omega
theorem I8 {p:Per} (h:p.WF) {j:Nat} {x:Int} (hx:x∈p.head.take (p.head.length-j)):x<=ee p j/\0<=ee p j:=by
 obtain ⟨i,hi,rfl⟩:=OK hx;have hi':i<p.head.length-j/\i<p.head.length:=by simp at hi;omega
 unfold ee;rw [if_neg ad,NZ];have h1:=jH h.head (i:=p.head.length-j-1) ad;have e:p.head[i]=p.head.getD i 0:=by simp [hi'.2]
 rw [e];rcases PZ i (p.head.length-j-1) with h2|h2
 .have:=getD_lt h.head h2 ad;omega
 obtain rfl:i=p.head.length-j-1:=ad;omega
theorem R8 {p:Per} {j:Nat} (h:ee p j≠-1):ee p j∈p.head.take (p.head.length-j):=by
 unfold ee at *
 split at h
 .exact absurd rfl h
 rename_i hne;rw [if_neg hne];have:p.head.getD (p.head.length-j-1) 0=(p.head.take (p.head.length-j))[p.head.length-j-1]' aR:=by
  rw [NZ];simp [show p.head.length-j-1<p.head.length by omega]
 rw [this];exact NS _
section
variable {p:Per} {d:Int} {B:List Int} {j:Nat} (h:p.WF) (hS:xP p d B) (hb:aY p d B j)
include h hS hb
omit h hb in
theorem aY.lenB:1<=B.length:=by
 rcases NR B.length with h0|h0
 .exact absurd (NL h0) hS.ne
 exact h0
omit h in
theorem aY.e_lt:dt B d p.frm j<ff B d p.frm j:=by
 have hk:=aY.lenB hS;unfold ff
 split
 .rename_i h0;subst h0;exact Ys hS.rise hk
 rename_i h0;have:=Yr (f:=p.frm) hS.rise hk (j-1);rwa [show j-1+1=j from by omega] at this
omit h in
theorem aY.e_ge:-d<=dt B d p.frm j:=by
 have hk:=aY.lenB hS;have h0:=hb.hi0;have hi:=hb.hif;unfold ff at h0 hi
 split at h0
 .rename_i hj;subst hj;have kg:=jH hS.rise (show B.length-1<B.length by omega);show -d<=p.frm-d*(((0 / B.length:Nat):Int)+1)+B.getD (B.length-1-0 % B.length) 0;rw [Nat.zero_div,Nat.zero_mod,FJ];omega
 rename_i hj;have h1:=su_ (d:=d) (f:=p.frm) hk (j-1);have h2:=Og (f:=p.frm) hS.rise hk (show j<=j-1+B.length by omega);omega
omit h hb in
theorem aY.between {x:Int} (h1:dt B d p.frm j<x) (h2:x<ff B d p.frm j):¬ pat B d p.frm x:=
 mm_ hS.rise (aY.lenB hS) j h1 h2
omit hS in
theorem aY.mem_low {x:Int} (h2:x<ff B d p.frm j):p.mem x↔x∈p.head.take (p.head.length-j):=by
 have:=hb.hif;rw [hb.low];constructor
 .intro hm;exact ⟨(Per.mem_lo hm.1 ad).1 hm,h2⟩
 rintro ⟨hx,_⟩;have hb':=h.head.2 x hx;exact (Per.mem_lo hb'.1 hb'.2).2 hx
omit h hS in
theorem aY.last_lt:ee p j<ff B d p.frm j:=by
 by_cases hl:ee p j=-1
 .have:=hb.hi0;omega
 exact ((hb.low _).1 (R8 hl)).2
theorem aY.done0 (hn:dt B d p.frm j<0) (hl:ee p j<0):Start p d B 0 (p.head.length-j):=by
 have hl':ee p j=-1:=by have:=(Ju h (j:=j)).1;omega
 have hnil:p.head.length-j=0:=by
  unfold ee at hl'
  split at hl'
  .assumption
  have:=jH h.head (i:=p.head.length-j-1) ad;omega
 refine ⟨VI _,h.frm,λx hx=>?_,.inl rfl,λx=>?_⟩
 .rcases NC x (ff B d p.frm j) with h1|h1
  .rw [aY.mem_low h hb h1,hnil];constructor
   .intro hx;simp at hx
   exact λhp=>absurd hp (aY.between hS ad h1)
  exact hb.same x h1
 rw [hnil];constructor
 .intro hx;simp at hx
 rintro ⟨hx,h0⟩;have:=(h.head.2 x hx).1;omega
theorem aY.done (hne:dt B d p.frm j≠ee p j) (sB:¬ (dt B d p.frm j<0/\ee p j<0)):Start p d B (max (dt B d p.frm j) (ee p j)+1) (p.head.length-j):=by
 have h1:=aY.e_lt hS hb;have h2:=aY.last_lt hb;have h3:=hb.hif;have hk:=aY.lenB hS;have h4:=(Ju h (j:=j)).1;refine ⟨ad,ad,λx hx=>?_,.inr λjR=>?_,λx=>?_⟩
 .rcases NC x (ff B d p.frm j) with hx2|hx2
  .rw [aY.mem_low h hb hx2];constructor
   .intro hm;have:=(I8 h hm).1;omega
   exact λhp=>absurd hp (aY.between hS ad hx2)
  exact hb.same x hx2
 .rw [show max (dt B d p.frm j) (ee p j)+1-1=max (dt B d p.frm j) (ee p j) from by omega] at jR;rcases NC (dt B d p.frm j) (ee p j) with hlt|hge
  .rw [Int.max_eq_right ad] at jR;have hm:p.mem (ee p j):=(aY.mem_low h hb h2).2 (R8 ad);exact aY.between hS hlt h2 (jR.1 hm)
  rw [Int.max_eq_left hge] at jR;have hp:pat B d p.frm (dt B d p.frm j):=Y9 hS.rise hk j;have hm:=(aY.mem_low h hb h1).1 (jR.2 hp);have:=(I8 h hm).1;omega
 constructor
 .intro hx;have:=(I8 h hx).1;exact ⟨S8 hx,ad⟩
 rintro ⟨hx,hlt⟩;exact (hb.low x).2 ⟨hx,ad⟩
theorem aY.step (he:dt B d p.frm j=ee p j) (sB:¬ (dt B d p.frm j<0/\ee p j<0)):aY p d B (j+1)/\j<p.head.length:=by
 have h1:=aY.e_lt hS hb;have h3:=hb.hif;have h4:=(Ju h (j:=j)).1;have hk:=aY.lenB hS;have hl0:ee p j≠-1:=ad;have hj:j<p.head.length:=by
  rcases PZ j p.head.length with hj|hj
  .exact hj
  exfalso;apply hl0;unfold ee;rw [if_pos ad]
 have lW:ff B d p.frm (j+1)=dt B d p.frm j:=by unfold ff;rw [if_neg ad];rfl
 refine ⟨⟨hj,by rw [lW];omega,by rw [lW];omega,λx hx=>?_,λx=>?_⟩,hj⟩
 .rw [lW] at hx;rcases NC x (ff B d p.frm j) with hx2|hx2
  .rw [aY.mem_low h hb hx2];rcases NC (dt B d p.frm j) x with hx3|hx3
   .constructor
    .intro hm;have:=(I8 h hm).1;omega
    exact λhp=>absurd hp (aY.between hS hx3 hx2)
   obtain rfl:x=dt B d p.frm j:=ad;exact ⟨λ_=>Y9 hS.rise hk j,λ_=>by rw [he];exact R8 hl0⟩
  exact hb.same x hx2
 rw [lW];have eJ:ee p j=p.head.getD (p.head.length-j-1) 0:=by unfold ee;rw [if_neg ad]
 constructor
 .intro hx;refine ⟨S8 hx,?_⟩;obtain ⟨i,hi,rfl⟩:=OK hx;have hi':i<p.head.length-(j+1)/\i<p.head.length:=by simp at hi;omega
  rw [NZ,he,eJ,show p.head[i]=p.head.getD i 0 from by simp [hi'.2]];exact getD_lt h.head ad ad
 rintro ⟨hx,hlt⟩;have hm:=(hb.low x).2 ⟨hx,ad⟩;obtain ⟨i,hi,rfl⟩:=OK hm;have hi':i<p.head.length-j/\i<p.head.length:=by simp at hi;omega
 rw [NZ] at hlt ⊢;have hne:i≠p.head.length-j-1:=by
  rintro rfl;rw [he,eJ] at hlt;simp [show p.head.length-j-1<p.head.length by omega] at hlt
 have:(p.head.take (p.head.length-(j+1)))[i]' aR=p.head[i]:=NZ;rw [<- this];exact NS _
end
theorem uZ {a b d:Int}:(a+b % d) % d=(a+b) % d:=by simp
theorem Yt {d a b c:Int} (hb:0<=b) (kg:b<d) (hc:0<=c) (hcd:c<d) (h:(a+b) % d=(a+c) % d):b=c:=by
 have h1:=zB.1 h;have h2:(b-c) % d=0:=by rw [<- h1];congr 1;omega
 have h3:=zB.2 h2;rwa [LV hb kg,LV hc hcd] at h3
theorem Yj {p:Per} {d s:Int} {B cy:List Int} {m:Nat} (h:p.WF) (hS:xP p d B) (hst:Start p d B s m) (vW:cy.Pairwise (· < ·)) (hcm:∀ y,y∈cy↔∃ c∈B,y=(p.frm+c-s) % d) :
  bV ⟨p.head.take m,s,d,cy⟩ p.mem:=by
 have hd:=hS.pos;have me:aH 0 d cy:=⟨vW,λy hy=>by
  obtain ⟨c,_,rfl⟩:=(hcm y).1 hy;exact ⟨VK _ ad,VM _ ad⟩⟩
 have q0r:∀ x,pat B d p.frm x↔(x-s) % d∈cy:=by
  intro x;rw [hcm];unfold pat;constructor
  .intro hx;refine ⟨_,hx,?_⟩;rw [show p.frm+(x-p.frm) % d-s=(p.frm-s)+(x-p.frm) % d from ad,uZ]
   congr 1;omega
  rintro ⟨c,hc,he⟩;have hb:=hS.rise.2 c hc;have e1:(p.frm-s+(x-p.frm) % d) % d=(p.frm-s+c) % d:=by
   rw [uZ,show p.frm-s+(x-p.frm)=x-s from ad,he];congr 1;omega
  have:=Yt (VK _ ad) (VM _ ad) hb.1 hb.2 e1;rw [this];exact hc
 have q0e:∀ x,pat B d p.frm x↔pat B d p.frm (x+d):=λx=>by
  unfold pat;rw [show x+d-p.frm=x-p.frm+d from ad,GM]
 refine ⟨⟨hst.s0,hd,⟨h.head.1.sublist (List.take_sublist _ _),λx hx=>?_⟩,me⟩,λn=>?_,λe he hev=>hS.minp e he hev,λf hf h_=>?_⟩
 .have:=(hst.low x).1 hx;exact ⟨(h.head.2 x this.1).1,this.2⟩
 .by_cases i7:0<=n
  .by_cases hn:n<s
   .rw [Per.mem_lo i7 hn];have:=hst.sf;show n∈p.head.take m↔_;rw [hst.low,Per.mem_lo i7 ad];exact ⟨λh=>h.1,λh=>⟨h,hn⟩⟩
   rw [Per.mem_hi i7 (show s<=n by omega),hst.same n ad,q0r]
  exact ⟨λh=>absurd h.1 i7,λh=>absurd h.1 i7⟩
 show s<=f;rcases NC f s with hlt|hge
 .exfalso;rcases hst.first with h0|AO
  .omega
  apply AO;obtain ⟨k,hk,hk0⟩:=OW d (p.frm-(s-1)) ad;have h_:cM p.mem f d:=h_;have e1:=h_.mul ad k (s-1) ad;have e2:pat B d p.frm (s-1)↔pat B d p.frm (s-1+k*d):=by
   unfold pat;rw [show s-1+(k:Int)*d-p.frm=(s-1-p.frm)+k*d from ad,ON]
  rw [e1,e2];exact hS.mem _ ad
 exact hge
theorem q6q {p:Per} (h:p.WF) (hc:p.cycle=[]):bV ⟨p.head,if p.head.length=0 then 0 else p.head.getD (p.head.length-1) 0+1,1,[]⟩ p.mem:=by
 have eJ:∀ x∈p.head,p.head.length≠0/\x<=p.head.getD (p.head.length-1) 0:=by
  intro x hx;obtain ⟨i,hi,rfl⟩:=OK hx;refine ⟨ad,?_⟩;rw [show p.head[i]=p.head.getD i 0 from by simp [hi]];rcases PZ i (p.head.length-1) with h1|h1
  .exact Int.le_of_lt (getD_lt h.head h1 ad)
  obtain rfl:i=p.head.length-1:=ad;exact VI _
 have hmem:∀ n,p.mem n↔n∈p.head:=by
  intro n;have:=h.frm;constructor
  .intro hm;rcases NC n p.frm with h1|h1
   .exact (Per.mem_lo hm.1 h1).1 hm
   have:=(Per.mem_hi hm.1 h1).1 hm;rw [hc] at this;simp at this
  intro hn;have hb:=h.head.2 n hn;exact (Per.mem_lo hb.1 hb.2).2 hn
 obtain ⟨s,hs⟩:∃ s,s=if p.head.length=0 then (0:Int) else p.head.getD (p.head.length-1) 0+1:=⟨_,rfl⟩
 rw [<- hs];have hlt:∀ x∈p.head,x<s:=λx hx=>by
  have:=eJ x hx;rw [hs,if_neg this.1];omega
 have hs0:0<=s:=by
  rw [hs];split
  .omega
  have:=jH h.head (i:=p.head.length-1) ad;omega
 refine ⟨⟨hs0,VI _,⟨h.head.1,λx hx=>⟨(h.head.2 x hx).1,hlt x hx⟩⟩,aH.nil⟩,λn=>?_,λd hd _=>hd,λf hf h_=>?_⟩
 .rw [hmem];by_cases i7:0<=n
  .by_cases hn:n<s
   .exact Per.mem_lo i7 hn
   rw [Per.mem_hi i7 (show s<=n by omega)];exact ⟨λhx=>by simp at hx,λhx=>absurd (hlt n hx) hn⟩
  exact ⟨λh=>absurd h.1 i7,λhx=>absurd (h.head.2 n hx).1 i7⟩
 show s<=f;rcases NC f s with hlt2|hge
 .exfalso;have hne:p.head.length≠0:=by
   intro h0;rw [hs,if_pos h0] at hlt2;omega
  have G6:s=p.head.getD (p.head.length-1) 0+1:=by rw [hs,if_neg hne]
  have hm:p.mem (s-1):=by rw [hmem,G6,show p.head.getD (p.head.length-1) 0+1-1=p.head.getD (p.head.length-1) 0 from by omega];exact lg ad
  have:=(h_ (s-1) ad).1 hm;rw [hmem] at this;have:=hlt _ this;have:s-1+1<s:=this;omega
 exact hge
theorem p7_ {p:Per} (h:p.WF) (hne:p.cycle≠[]):∃ d B,xP p d B:=by
 obtain ⟨d,e_,ki,qx⟩:=exists_least h.per h.pfrom.ev;obtain ⟨q,hq⟩:=RK e_ ki qx h.per h.pfrom.ev;have qD:1<=q:=by
  rcases NC 0 q with mU|mU
  .omega
  have h5:d*q<=d*0:=NQ mU (show 0<=d by omega);have h6:=h.per;rw [hq] at h6;simp at h5;omega
 have hT:p.period=(q.toNat:Nat)*d:=by rw [S6 ad,hq,LY]
 have hdp:d<=p.period:=qx _ h.per h.pfrom.ev;obtain ⟨k,hk,hn,hP⟩:=Wc h.cyc e_ (show 1<=q.toNat by omega) hT hne (WX h e_ ki hdp);refine ⟨d,_,OT h hne e_ ad hT hn hk hP λparts' d' k' hlt pz eQ PP hn' hP'=>?_⟩;have hc:=V9 h.cyc pz (show 1<=parts' by omega) PP hn' eQ hP';have hm:=Wd h PP hc;have hev:ft p.mem d':=⟨p.frm,λn hn=>by
  rw [hm n hn,hm _ ad,show n+d' - p.frm=n-p.frm+d' from ad,GM]⟩
 have hle:=qx d' pz hev;have e1:(parts':Int)*d'=(q.toNat:Nat)*d:=PP ▸ hT;have e2:(q.toNat:Int)*d<=q.toNat*d':=NQ hle ad;have e3:(q.toNat:Int)*d'<parts' * d':=Int.mul_lt_mul_of_pos_right ad ad;omega
theorem p8_ {p:Per} (h:p.WF) {d:Int} {B:List Int} (hS:xP p d B):∃ s m,Start p d B s m:=by
 have key:∀ k j:Nat,k=p.head.length-j->aY p d B j->∃ s m,Start p d B s m:=by
  intro k;induction k with
  | zero=>
   intro j hk hb;by_cases hn:dt B d p.frm j<0/\ee p j<0
   .exact ⟨_,_,aY.done0 h hS hb hn.1 hn.2⟩
   by_cases he:dt B d p.frm j=ee p j
   .have:=(aY.step h hS hb he hn).2;omega
   exact ⟨_,_,aY.done h hS hb he hn⟩
  | succ k ih=>
   intro j hk hb;by_cases hn:dt B d p.frm j<0/\ee p j<0
   .exact ⟨_,_,aY.done0 h hS hb hn.1 hn.2⟩
   by_cases he:dt B d p.frm j=ee p j
   .exact ih (j+1) ad (aY.step h hS hb he hn).1
   exact ⟨_,_,aY.done h hS hb he hn⟩
 exact key _ 0 rfl (aY.zero h hS)
def upto (n:Nat):List Int:=(List.range n).map λ(i:Nat)=>(i:Int)
theorem Cv (n:Nat) (x:Int):x∈upto n↔0<=x/\x<n:=by
 unfold upto;rw [VC];constructor
 .rintro ⟨i,hi,rfl⟩;rw [MN] at hi;omega
 intro h;exact ⟨x.toNat,by rw [MN];omega,ad⟩
theorem X8 (n:Nat):aH 0 n (upto n):=
 ⟨zf.2 (List.pairwise_lt_range.imp λh=>ad),λx hx=>(Cv n x).1 hx⟩
open Classical in
noncomputable def bF (S:Int->Prop) (lo hi:Int):List Int:=((upto hi.toNat).filter λx=>decide (lo<=x/\S x))
theorem dX {S:Int->Prop} {lo hi:Int} (h0:0<=lo) (x:Int):x∈bF S lo hi↔lo<=x/\x<hi/\S x:=by
 unfold bF;rw [N7,Cv];simp only [OB];constructor
 .rintro ⟨h1,h2,h3⟩;exact ⟨h2,ad,h3⟩
 rintro ⟨h1,h2,h3⟩;exact ⟨ad,h1,h3⟩
theorem fJ {S:Int->Prop} {lo hi:Int} (h0:0<=lo):aH lo hi (bF S lo hi):=
 ⟨(X8 _).1.filter _,λx hx=>by have:=(dX h0 x).1 hx;omega⟩
theorem RP {S T:Int->Prop} {lo hi:Int} (h0:0<=lo) (h:∀ n,S n↔T n):bF S lo hi=bF T lo hi:=
 (fJ h0).ext (fJ h0) λx=>by rw [dX h0,dX h0,h]
theorem Wj {p:Per} (h:p.WF):∃ c,bV c p.mem:=by
 by_cases hne:p.cycle=[]
 .exact ⟨_,q6q h hne⟩
 obtain ⟨d,B,hS⟩:=p7_ h hne;obtain ⟨s,m,hst⟩:=p8_ h hS;have hd:=hS.pos;refine ⟨_,Yj h hS hst (cy:=bF (λy=>∃ c∈B,y=(p.frm+c-s) % d) 0 d) (fJ (VI _)).1 λy=>?_⟩;rw [dX (VI _)];constructor
 .exact λh=>h.2.2
 rintro ⟨c,hc,rfl⟩;exact ⟨VK _ ad,VM _ ad,c,hc,rfl⟩
theorem Rp {p:Per} (h:p.WF) {n:Int} (hn:p.frm<=n) (k:Nat):im p (n+k*p.period)=im p n+k*p.cycle.length:=by
 have hp:=h.per;have hk:0<=(k:Int)*p.period:=K_ ad ad;rw [Jp h ad,Jp h hn,show n+k*p.period-p.frm=n-p.frm+k*p.period from ad,Int.add_mul_ediv_right _ _ ad,ON,OM];omega
theorem bV.dvd {c:Per} {S:Int->Prop} (h:bV c S) {T:Int} (hT:1<=T) (he:ft S T):c.period∣T:=
 RK h.wf.per h.pfrom.ev h.minp hT he
theorem bV.frm_le {c:Per} {S:Int->Prop} (h:bV c S) {f T:Int} (hf:0<=f) (hT:1<=T) (hp:cM S f T):c.frm<=f:=
 h.minf f hf (hp.of_ev hT (by have:=h.wf.per;omega) h.pfrom.ev)
theorem aH.sub_length {a b:Int}:∀ {l m:List Int},aH a b l->(∀ x∈l,x∈m)->l.length<=m.length:=by
 intro l;induction l with
 | nil=>intro m _ _;simp
 | cons x l ih=>
  intro m hl h;have hx:x∈m:=h x aj;have hp:=N4.1 hl.1;have:=ih (m:=m.erase x) ⟨hp.2,λy hy=>hl.2 y (P5 _ hy)⟩ λy hy=>by
   have h1:=hp.1 y hy;exact (YB ad).2 (h y (P5 _ hy))
  rw [ZH hx] at this;have:0<m.length:=sD hx;simp;omega
structure zx_ (c p:Per):Prop where
 frm:c.frm<=p.frm
 per:c.period<=p.period
 dvd:c.period∣p.period
 head:c.head.length<=p.head.length
 cyc:c.cycle.length<=p.cycle.length
theorem bV.smaller {c p:Per} (hp:p.WF) (h:bV c p.mem):zx_ c p:=by
 have hf:=h.frm_le hp.frm hp.per hp.pfrom
 have hd:=h.dvd hp.per hp.pfrom.ev;have h1:=hp.per;have h2:=h.wf.per;refine ⟨hf,QV ad hd,hd,h.wf.head.sub_length λx hx=>?_,?_⟩
 .have hb:=h.wf.head.2 x hx;exact (Per.mem_lo hb.1 ad).1 ((h.mem x).1 ((Per.mem_lo hb.1 hb.2).2 hx))
 obtain ⟨q,hq⟩:=hd;have qD:1<=q:=by
  rcases NC 0 q with mU|mU
  .omega
  have h5:c.period*q<=c.period*0:=NQ mU (show 0<=c.period by omega);rw [hq] at h1;simp at h5;omega
 have hf0:=hp.frm;have e1:=Rp hp (VI _) 1;have e2:=Rp h.wf hf q.toNat;have e3:p.frm+q.toNat*c.period=p.frm+((1:Nat):Int)*p.period:=by rw [hq,S6 ad,LY];omega
 have e4:∀ n,0<=n->im c n=im p n:=λn hn=>by rw [Jb h.wf hn,Jb hp hn];exact XE h.mem _
 rw [e3,e4 _ hf0,e4 _ ad,e1] at e2;have e5:(1:Int)*c.cycle.length<=q.toNat*c.cycle.length:=NX ad ad;omega
theorem xn_ {S:Int->Prop}:∀ (N:Nat) {l:List Int},l.Nodup->(∀ n,n∈l↔0<=n/\n<N/\S n)->(l.length:Int)=cnt S N:=by
 intro N;induction N with
 | zero=>
  intro l _ h;cases l with
  | nil=>rfl
  | cons x l=>have:=(h x).1 aj;omega
 | succ N ih=>
  intro l hl h;simp only [cnt];by_cases hs:S N
  .have hm:(N:Int)∈l:=(h N).2 ⟨ad,ad,hs⟩;have:=ih (l:=l.erase N) (hl.erase _) λn=>by
    rw [hl.mem_erase_iff,h];constructor
    .rintro ⟨h1,h2,h3,h4⟩;exact ⟨h2,ad,h4⟩
    rintro ⟨h1,h2,h3⟩;exact ⟨ad,h1,ad,h3⟩
   rw [ZH hm] at this;have ep:0<l.length:=sD hm;rw [if_pos hs];omega
  rw [if_neg hs,Int.add_zero];refine ih hl λn=>?_;rw [h];constructor
  .rintro ⟨h1,h2,h3⟩;refine ⟨h1,?_,h3⟩;by_cases e:n=N
   .subst e;exact absurd h3 hs
   omega
  rintro ⟨h1,h2,h3⟩;exact ⟨h1,ad,h3⟩
theorem aH.nodup {a b:Int} {l:List Int} (h:aH a b l):l.Nodup:=h.1.imp λh=>ad
theorem cM.shift {S:Int->Prop} {f d:Int} (h:cM S f d) (hd:1<=d) {n:Int} (hn:f<=n):S n↔S (f+(n-f) % d):=by
 have hq:0<=(n-f) / d:=N1 ad ad;have h1:=VK (n-f) (show d≠0 by omega);have e:=h.mul ad ((n-f) / d).toNat (f+(n-f) % d) ad;rw [S6 hq] at e;rw [e];have:=VE (n-f) d;rw [show f+(n-f) % d+(n-f) / d*d=n from by omega]
theorem Jg {S:Int->Prop} {f d:Int} {hl cl:List Int} (hf:0<=f) (hd:1<=d) (vS:∀ n,S n->0<=n) (hp:cM S f d) (h1:aH 0 f hl) (h2:aH 0 d cl)
  (m1:∀ n,0<=n->n<f->(n∈hl↔S n)) (m2:∀ n,0<=n->n<d->(n∈cl↔S (f+n))):(Per.mk hl f d cl).WF/\∀ n,(Per.mk hl f d cl).mem n↔S n:=by
 refine ⟨⟨hf,hd,h1,h2⟩,λn=>?_⟩;by_cases h0:0<=n
 .by_cases hn:n<f
  .rw [Per.mem_lo h0 hn];exact m1 n h0 hn
  have hn':f<=n:=ad;rw [Per.mem_hi h0 hn',hp.shift hd hn'];exact m2 ((n-f) % d) (VK _ ad) (VM _ ad)
 exact ⟨λh=>absurd h.1 h0,λh=>absurd (vS n h) h0⟩
theorem cM.mono {S:Int->Prop} {f g d:Int} (h:cM S f d) (JU:f<=g):cM S g d:=λn hn=>h n ad
theorem cM.of_dvd {S:Int->Prop} {f d e:Int} (h:cM S f d) (hd:1<=d) (he:1<=e) (JS:d∣e):cM S f e:=by
 obtain ⟨q,rfl⟩:=JS;have hq:0<=q:=by
  rcases NC q 0 with h1|h1
  .have:=q7p (show 0<=d by omega) (show q<=0 by omega);omega
  exact h1
 have:=h.mul ad q.toNat;rwa [S6 hq,LY] at this
theorem cM.op {S T U:Int->Prop} {f d:Int} (hS:cM S f d) (hT:cM T f d) (g:Prop->Prop->Prop) (hU:∀ n,f<=n->(U n↔g (S n) (T n))) (hd:0<=d):cM U f d:=by
 intro n hn;rw [hU n hn,hU (n+d) ad,propext (hS n hn),propext (hT n hn)]
theorem I_ {x a y b:Int} (ha:1<=a) (hb:1<=b) (h:x % (Int.gcd a b:Nat)=y % (Int.gcd a b:Nat)):vD x a y b (gQ x a y b):=by
 have hg:=oA (b:=b) ha;have hg2:=xw (a:=a) hb;have iV:=Wx ha hb;obtain ⟨g,hgd⟩:∃ g,g=((Int.gcd a b:Nat):Int):=⟨_,rfl⟩;have dm:g∣a:=hgd ▸ MP a b;have dn:g∣b:=hgd ▸ M0 a b;have hd:(y % b-x % a) % g=0:=by
  refine zB.1 ?_;rw [A7 _ dn,A7 _ dm,hgd,h]
 rw [<- hgd] at hg hg2 iV;have q1:1<=b / g:=(QK ad).2 ad;have p1:0<=a / g:=N1 ad ad;obtain ⟨i,hi⟩:=Xf (VK (a / g) (show b / g≠0 by omega)) (VM (a / g) (show 0<b / g by omega)) (by rw [Kn p1 q1];exact iV);have hs:=q6x ha hb rfl rfl hgd hd hi rfl;rw [Fk ha hb hs];exact hs
noncomputable def iq (xs ys:List Int) (a b st:Int):List Int:=
 xs.flatMap λx=>(ys.filter λy:Int=>decide (y % (Int.gcd a b:Nat)=x % (Int.gcd a b:Nat))).map λy=>st+gQ x a y b
section
variable {xs ys:List Int} {a b st:Int} (ha:1<=a) (hb:1<=b) (hx:aH 0 a xs) (hy:aH 0 b ys)
include ha hb hx hy
theorem Fp {x y:Int} (h1:x∈xs) (h2:y∈ys) (h:y % (Int.gcd a b:Nat)=x % (Int.gcd a b:Nat)) :
  0<=gQ x a y b/\gQ x a y b<aV a b/\gQ x a y b % a=x/\gQ x a y b % b=y:=by
 obtain ⟨s1,s2,s3,s4⟩:=I_ ha hb h.symm;have b1:=hx.2 x h1;have b2:=hy.2 y h2;rw [LV b1.1 b1.2] at s3;rw [LV b2.1 b2.2] at s4;exact ⟨s1,s2,s3,s4⟩
theorem w1_ (n:Int):n∈iq xs ys a b st↔st<=n/\n<st+aV a b/\(n-st) % a∈xs/\(n-st) % b∈ys:=by
 unfold iq;simp only [M7,VC,N7,OB];constructor
 .rintro ⟨x,h1,y,⟨h2,h3⟩,rfl⟩;obtain ⟨s1,s2,s3,s4⟩:=Fp ha hb hx hy h1 h2 h3;rw [show st+gQ x a y b-st=gQ x a y b from ad,s3,s4];exact ⟨ad,ad,h1,h2⟩
 rintro ⟨h1,h2,h3,h4⟩;have dm:((Int.gcd a b:Nat):Int)∣a:=MP a b;have dn:((Int.gcd a b:Nat):Int)∣b:=M0 a b;refine ⟨_,h3,_,⟨h4,by rw [A7 _ dn,A7 _ dm]⟩,?_⟩;have:vD ((n-st) % a) a ((n-st) % b) b (n-st):=⟨ad,ad,by rw [O8],by rw [O8]⟩;rw [Fk ha hb this];omega
theorem qs_:(iq xs ys a b st).Nodup:=by
 unfold iq;refine List.pairwise_flatMap.2 ⟨λx h1=>?_,?_⟩
 .refine zf.2 ((hy.nodup.filter _).imp_of_mem λ{y y'} h2 h3 hne e=>?_);rw [N7,OB] at h2 h3;have s1:=Fp ha hb hx hy h1 h2.1 h2.2;have s2:=Fp ha hb hx hy h1 h3.1 h3.2;have e':gQ x a y b=gQ x a y' b:=ad;exact hne (by rw [<- s1.2.2.2,e',s2.2.2.2])
 refine List.Pairwise.imp_of_mem (R:=(·≠·)) (λ{x x'} h1 h1' hne=>?_) hx.nodup;intro n hn m hm e;rw [VC] at hn hm;obtain ⟨y,h2,rfl⟩:=hn;obtain ⟨y',h3,rfl⟩:=hm;rw [N7,OB] at h2 h3;have s1:=Fp ha hb hx hy h1 h2.1 h2.2;have s2:=Fp ha hb hx hy h1' h3.1 h3.2;have e':gQ x a y b=gQ x' a y' b:=ad;exact hne (by rw [<- s1.2.2.1,e',s2.2.2.1])
end
theorem mf_ {α β:Type} (l:List α) (f:α->List β):(l.flatMap f).length=(l.map λx=>(f x).length).sum:=by
 induction l with
 | nil=>rfl
 | cons a l ih=>simp [S3,ih]
theorem Ux:∀ {l m:List Int},l.Nodup->(∀ x∈l,x∈m)->l.length<=m.length:=by
 intro l;induction l with
 | nil=>intro m _ _;simp
 | cons a l ih=>
  intro m hn hs;have hn':=N_.1 hn;have ha:a∈m:=hs a aj;have:=ih (m:=m.erase a) hn'.2 λy hy=>(YB (λe=>hn'.1 (by rw [<- e];exact hy))).2 (hs y (P5 _ hy));rw [ZH ha] at this;have:0<m.length:=sD ha;simp;omega
theorem sm_ {ys:List Int} {b g r:Int} (hb:1<=b) (hg:1<=g) (hgb:g∣b) (hy:aH 0 b ys) (jq:0<=r) (hr:r<g) :
  ((ys.filter λy:Int=>decide (y % g=r)).length:Int)=b / g↔∀ y,0<=y->y<b->y % g=r->y∈ys:=by
 obtain ⟨q,rfl⟩:=hgb;have hq:1<=q:=by
  rcases NC 0 q with h|h
  .omega
  have:=q7p (show 0<=g by omega) h;omega
 rw [q8n _ ad];obtain ⟨C,hC⟩:∃ C,C=(upto q.toNat).map λk=>r+g*k:=⟨_,rfl⟩;have Pn:∀ y,y∈C↔0<=y/\y<g*q/\y % g=r:=by
  intro y;rw [hC,VC];constructor
  .rintro ⟨k,hk,rfl⟩;rw [Cv] at hk;have h1:0<=g*k:=K_ ad hk.1;have h2:g*(k+1)<=g*q:=NQ ad ad;rw [O9] at h2;refine ⟨ad,ad,?_⟩;rw [VQ,LV jq hr]
  rintro ⟨h0,h1,h2⟩;have e:=OG y g;refine ⟨y / g,?_,ad⟩;rw [Cv];have:y / g<q:=Int.ediv_lt_of_lt_mul ad (by rw [LY];exact h1);exact ⟨N1 h0 ad,ad⟩
 have UB:C.Nodup:=by
  rw [hC];refine zf.2 ((X8 _).nodup.imp λ{x y} hne e=>hne ?_);exact q8k (show g≠0 by omega) ad
 have hCl:(C.length:Int)=q:=by rw [hC,U6];unfold upto;simp;omega
 have hF:(ys.filter λy:Int=>decide (y % g=r)).Nodup:=hy.nodup.filter _;have JH:∀ y,y∈ys.filter (λy=>decide (y % g=r))↔y∈ys/\y % g=r:=λy=>by rw [N7,OB]
 generalize ys.filter (λy=>decide (y % g=r))=F at hF JH;have UE:∀ y∈F,y∈C:=λy h=>by
  have:=(JH y).1 h;have hb:=hy.2 y this.1;exact (Pn y).2 ⟨hb.1,hb.2,this.2⟩
 constructor
 .intro h y h0 h1 h2;have q3g:∀ {l m:List Int},l.Nodup->(∀ x∈l,x∈m)->m.length<=l.length->m.Nodup->∀ x∈m,x∈l:=by
   intro l;induction l with
   | nil=>intro m _ _ hl _ x hx;cases m with
    | nil=>exact hx
    | cons a m=>simp at hl
   | cons a l ih=>
    intro m hn hs hl hm x hx;have hn':=N_.1 hn;have ha:a∈m:=hs a aj;by_cases e:x=a
    .subst e;simp
    refine P5 _ (ih (m:=m.erase a) hn'.2 (λy hy=>?_) ?_ (hm.erase _) x ((YB e).2 hx))
    .have:y≠a:=λe=>hn'.1 (by rw [<- e];exact hy);exact (YB this).2 (hs y (P5 _ hy))
    rw [ZH ha];simp at hl;omega
  have:=q3g hF UE ad UB y ((Pn y).2 ⟨h0,h1,h2⟩);exact ((JH y).1 this).1
 intro h;have h1:F.length=C.length:=by
  refine Nat.le_antisymm ?_ ?_
  .exact Ux hF UE
  exact Ux UB λy hy=>by
   have:=(Pn y).1 hy;exact (JH y).2 ⟨h y this.1 this.2.1 this.2.2,this.2.2⟩
 omega
theorem Se {S:Int->Prop} {lo n:Int} (h0:0<=lo) (hn:lo<=n) (hS:S n):bF S lo (n+1)=bF S lo n ++ [n]:=by
 refine (fJ (hi:=n+1) h0).ext (((fJ (hi:=n) h0).append (c:=n) (d:=n+1) ⟨aj,aR⟩ ad ad ad)) λx=>?_;rw [dX h0,VJ,dX h0,N2];constructor
 .rintro ⟨h1,h2,h3⟩;by_cases e:x=n
  .exact .inr e
  exact .inl ⟨h1,ad,h3⟩
 rintro (⟨h1,h2,h3⟩|rfl)
 .exact ⟨h1,ad,h3⟩
 exact ⟨hn,ad,hS⟩
theorem Kv {S:Int->Prop} {lo a b:Int} (h0:0<=lo) (hab:a<=b) (h:∀ x,lo<=x->a<=x->x<b->¬ S x):bF S lo a=bF S lo b:=by
 refine (fJ h0).ext (fJ h0) λx=>?_;rw [dX h0,dX h0];constructor
 .rintro ⟨h1,h2,h3⟩;exact ⟨h1,ad,h3⟩
 rintro ⟨h1,h2,h3⟩;refine ⟨h1,?_,h3⟩;by_cases hx:x<a
 .exact hx
 exact absurd h3 (h x h1 ad h2)
theorem q3s {S:Int->Prop} {lo hi:Int} (h0:0<=lo) (h:hi<=lo):bF S lo hi=[]:=by
 cases h1:bF S lo hi with
 | nil=>rfl
 | cons x l=>
  have:=(dX h0 x).1 (by rw [h1];simp:x∈bF S lo hi);omega
def yS (S:Int->Prop) (lo:Int) (pre:List Int):Prop:=∃ n,pre=bF S lo n
def Dg (S:Int->Prop) (lo:Int) (pre:List Int):Prop:=∃ n,(∀ x,S x->x<n)/\pre=bF S lo n
def BdS (pre:List Int):Prop:=∀ x∈pre,x<4503599627370496
theorem yS.last {S:Int->Prop} {lo:Int} {pre:List Int} {y:Int} (h0:0<=lo) (h:yS S lo (pre ++ [y])):lo<=y/\S y/\pre=bF S lo y/\pre ++ [y]=bF S lo (y+1):=by
 obtain ⟨n,hn⟩:=h;have hr:=fJ (S:=S) (hi:=n) h0;have hy:=(dX h0 y).1 (by rw [<- hn];simp:y∈bF S lo n);rw [<- hn] at hr;have hp:=N9.1 hr.1;have e1:pre=bF S lo y:=by
  refine (aH.ext (lo:=lo) (hi:=n) ⟨hp.1,λx hx=>hr.2 x (MK _ hx)⟩ (fJ h0) λx=>?_);rw [dX h0];constructor
  .intro hx;have:=hp.2.2 x hx y aj;have hm:=(dX h0 x).1 (by rw [<- hn];exact MK _ hx:x∈bF S lo n);exact ⟨hm.1,ad,hm.2.2⟩
  rintro ⟨h1,h2,h3⟩;have hm:x∈pre ++ [y]:=by rw [hn,dX h0];exact ⟨h1,ad,h3⟩
  rcases VJ.1 hm with hm|hm
  .exact hm
  simp at hm;omega
 exact ⟨hy.1,hy.2.2,e1,by rw [Se h0 hy.1 hy.2.2,<- e1]⟩
theorem Ru {l:List Int} (hl:l.Pairwise (· < ·)) (x:Int):∀ {i:Nat} (hi:i<l.length),l[i]<x↔i<l.countP (λy=>decide (y<x)):=by
 induction l with
 | nil=>intro i hi;simp at hi
 | cons a l ih=>
  intro i hi;have hp:=N4.1 hl;rw [List.countP_cons];cases i with
  | zero=>
   by_cases ha:a<x
   .simp [ha]
   have h0:l.countP (λy=>decide (y<x))=0:=by
    rw [q8q];intro y hy;have:=hp.1 y hy;simp;omega
   simp [ha,h0]
  | succ i=>
   have:=ih hp.2 (i:=i) (by simpa using hi);by_cases ha:a<x
   .simp [ha,this]
   have h0:l.countP (λy=>decide (y<x))=0:=by
    rw [q8q];intro y hy;have:=hp.1 y hy;simp;omega
   rw [h0] at this;simp [ha,h0,this]
theorem Jd {l:List Int} (hl:l.Pairwise (· < ·)) (x:Int) {i:Nat} (hi:i<l.length):l.getD i 0<x↔i<l.countP (λy=>decide (y<x)):=by
 have:=Ru hl x hi;simpa [VS,U2 hi] using this
structure kB (p:Per) (lo:Int) (j:Nat) (u:Int) (pre:List Int):Prop where
 is:pre=bF p.mem lo u
 ge:lo<=u
 le:u<=max lo p.frm
 lo:∀ i,i<j->i<p.head.length->p.head.getD i 0<u
 hi:∀ i,j<=i->i<p.head.length->u<=p.head.getD i 0
theorem kB.start {p:Per} (h:p.WF) {lo:Int} (h0:0<=lo):kB p lo (p.head.countP (λy=>decide (y<lo))) lo []:=by
 refine ⟨(q3s h0 (VI _)).symm,VI _,ad,λi h1 h2=>(Jd h.head.1 lo h2).2 h1,λi h1 h2=>?_⟩;have:=Jd h.head.1 lo h2;omega
theorem kB.next {p:Per} (h:p.WF) {lo u:Int} {j:Nat} {pre:List Int} (h0:0<=lo) (ha:kB p lo j u pre) (hj:j<p.head.length) :
  pre ++ [p.head.getD j 0]=bF p.mem lo (p.head.getD j 0+1)/\kB p lo (j+1) (p.head.getD j 0+1) (pre ++ [p.head.getD j 0]):=by
 have hb:=jH h.head hj;have hu:=ha.hi j (TZ _) hj;have hm:p.mem (p.head.getD j 0):=(Per.mem_lo hb.1 hb.2).2 (lg hj);have hge:=ha.ge;have e:pre ++ [p.head.getD j 0]=bF p.mem lo (p.head.getD j 0+1):=by
  rw [Se h0 ad hm,ha.is]
  congr 1
  refine Kv h0 hu λx h1 h2 h3 hx=>?_;have hx':=(Per.mem_lo hx.1 ad).1 hx;obtain ⟨i,hi,rfl⟩:=OK hx';rw [show p.head[i]=p.head.getD i 0 from by simp [hi]] at h2 h3;rcases PZ i j with h4|h4
  .have:=ha.lo i h4 hi;omega
  rcases PZ j i with h5|h5
  .have:=getD_lt h.head h5 hi;omega
  obtain rfl:i=j:=ad;omega
 refine ⟨e,e,ad,ad,λi h1 h2=>?_,λi h1 h2=>?_⟩
 .rcases PZ i j with h3|h3
  .have:=getD_lt h.head h3 hj;omega
  obtain rfl:i=j:=ad;omega
 have:=getD_lt h.head (show j<i by omega) h2;omega
theorem kB.done {p:Per} {lo u:Int} {j:Nat} {pre:List Int} (h0:0<=lo) (ha:kB p lo j u pre) (hj:p.head.length<=j):pre=bF p.mem lo (max lo p.frm):=by
 have hle:=ha.le;rw [ha.is];refine Kv h0 hle λx h1 h2 h3 hx=>?_;have hx':=(Per.mem_lo hx.1 ad).1 hx;obtain ⟨i,hi,rfl⟩:=OK hx';rw [show p.head[i]=p.head.getD i 0 from by simp [hi]] at h2;have:=ha.lo i ad hi;omega
structure iA (p:Per) (lo base:Int) (j:Nat) (u:Int) (pre:List Int):Prop where
 is:pre=bF p.mem lo u
 ge:lo<=u
 bu:base<=u
 le:u<=base+p.period
 fb:p.frm<=base
 dv:(base-p.frm) % p.period=0
 lo:∀ i,i<j->i<p.cycle.length->base+p.cycle.getD i 0<u
 hi:∀ i,j<=i->i<p.cycle.length->u<=base+p.cycle.getD i 0
theorem Ks {p:Per} (h:p.WF) {base x:Int} (fb:p.frm<=base) (dv:(base-p.frm) % p.period=0) (h1:base<=x) (h2:x<base+p.period):p.mem x↔x-base∈p.cycle:=by
 have:=h.frm;rw [Per.mem_hi ad ad];have e:(x-p.frm) % p.period=x-base:=by
  have hd:=q8m (NB dv);rw [show x-p.frm=(x-base)+p.period*((base-p.frm) / p.period) from ad,VQ,LV ad ad]
 rw [e]
theorem iA.start {p:Per} (h:p.WF) {lo t base:Int} {pre:List Int} (hp:pre=bF p.mem lo t) (hlo:lo<=t) (hb:base=t-(t-p.frm) % p.period) (ht:p.frm<=t) :
  iA p lo base (p.cycle.countP λy=>decide (y<t-base)) t pre:=by
 have h1:=h.per;have h2:=VK (t-p.frm) (show p.period≠0 by omega);have h3:=VM (t-p.frm) (show 0<p.period by omega);have h4:=OG (t-p.frm) p.period;have h5:0<=p.period*((t-p.frm) / p.period):=K_ ad (N1 ad ad);refine ⟨hp,hlo,ad,ad,ad,?_,λi g1 g2=>?_,λi g1 g2=>?_⟩
 .rw [show base-p.frm=p.period*((t-p.frm) / p.period) from by omega];exact q7o _ _
 .have:=(Jd h.cyc.1 (t-base) g2).2 g1;omega
 have:=Jd h.cyc.1 (t-base) g2;omega
theorem iA.next {p:Per} (h:p.WF) {lo base u:Int} {j:Nat} {pre:List Int} (h0:0<=lo) (ha:iA p lo base j u pre) (hj:j<p.cycle.length) :
  pre ++ [base+p.cycle.getD j 0]=bF p.mem lo (base+p.cycle.getD j 0+1)/\iA p lo base (j+1) (base+p.cycle.getD j 0+1) (pre ++ [base+p.cycle.getD j 0]):=by
 have hb:=jH h.cyc hj;have hu:=ha.hi j (TZ _) hj;have hge:=ha.ge;have eI:=ha.bu;have hfb:=ha.fb;have hf0:=h.frm;have hm:p.mem (base+p.cycle.getD j 0):=by
  rw [Ks h ha.fb ha.dv ad ad,show base+p.cycle.getD j 0-base=p.cycle.getD j 0 from by omega];exact lg hj
 have e:pre ++ [base+p.cycle.getD j 0]=bF p.mem lo (base+p.cycle.getD j 0+1):=by
  rw [Se h0 ad hm,ha.is]
  congr 1
  refine Kv h0 hu λx h1 h2 h3 hx=>?_;rw [Ks h ha.fb ha.dv ad ad] at hx;obtain ⟨i,hi,mV⟩:=OK hx;rw [show p.cycle[i]=p.cycle.getD i 0 from by simp [hi]] at mV;rcases PZ i j with h4|h4
  .have:=ha.lo i h4 hi;omega
  rcases PZ j i with h5|h5
  .have:=getD_lt h.cyc h5 hi;omega
  obtain rfl:i=j:=ad;omega
 refine ⟨e,e,ad,ad,ad,hfb,ha.dv,λi h1 h2=>?_,λi h1 h2=>?_⟩
 .rcases PZ i j with h3|h3
  .have:=getD_lt h.cyc h3 hj;omega
  obtain rfl:i=j:=ad;omega
 have:=getD_lt h.cyc (show j<i by omega) h2;omega
theorem iA.round {p:Per} (h:p.WF) {lo base u:Int} {j:Nat} {pre:List Int} (h0:0<=lo) (ha:iA p lo base j u pre) (hj:p.cycle.length<=j) :
  iA p lo (base+p.period) 0 (base+p.period) pre:=by
 have hge:=ha.ge;have eI:=ha.bu;have hfb:=ha.fb;have hf0:=h.frm;have hle:=ha.le;have wA:=h.per;refine ⟨?_,ad,VI _,ad,ad,?_,λi h1 h2=>ad,λi h1 h2=>?_⟩
 .rw [ha.is];refine Kv h0 hle λx h1 h2 h3 hx=>?_;rw [Ks h ha.fb ha.dv ad ad] at hx;obtain ⟨i,hi,mV⟩:=OK hx;rw [show p.cycle[i]=p.cycle.getD i 0 from by simp [hi]] at mV;have:=ha.lo i ad hi;omega
 .rw [show base+p.period-p.frm=base-p.frm+p.period from ad,GM];exact ha.dv
 have:=jH h.cyc h2;omega
theorem xt_ {p:Per} (hc:p.cycle=[]) {lo:Int} {pre:List Int} (hp:pre=bF p.mem lo (max lo p.frm)) (h0:0<=lo):Dg p.mem lo pre:=by
 have key:∀ x,p.mem x->x<p.frm:=λx hx=>by
  rcases NC x p.frm with h1|h1
  .exact h1
  have:=(Per.mem_hi hx.1 h1).1 hx;rw [hc] at this;simp at this
 exact ⟨max lo p.frm,λx hx=>by have:=key x hx;omega,hp⟩
theorem Yq {l:List Int} (hl:l.Pairwise (· < ·)) (d x:Int):x∈l.drop (l.countP λy=>decide (y<d))↔x∈l/\d<=x:=by
 constructor
 .intro h;obtain ⟨i,hi,rfl⟩:=OK h;have hi':l.countP (λy=>decide (y<d))+i<l.length:=by simp at hi;omega
  rw [List.getElem_drop];refine ⟨NS _,?_⟩;have:=(Ru hl d hi');omega
 rintro ⟨h,hd⟩;obtain ⟨i,hi,rfl⟩:=OK h;have hn:=(Ru hl d hi);have hge:l.countP (λy=>decide (y<d))<=i:=ad;rw [MA];refine ⟨i-l.countP (λy=>decide (y<d)),aR,?_⟩;rw [List.getElem_drop];congr 1;omega
def ak (p:Per) (s:Int):List Int:=p.cycle.map λc=>(p.frm+c-s) % p.period
theorem WW {p:Per} (h:p.WF) (s:Int):(ak p s).Nodup:=by
 refine zf.2 (h.cyc.nodup.imp_of_mem λ{a b} ha hb hab e=>hab ?_);have ha':=h.cyc.2 a ha;have hb':=h.cyc.2 b hb;exact Yt (a:=p.frm-s) ha'.1 ha'.2 hb'.1 hb'.2 (by rw [show p.frm-s+a=p.frm+a-s by omega,show p.frm-s+b=p.frm+b-s by omega];exact e)
theorem RX {p:Per} (h:p.WF) {s:Int} (hs:p.frm<=s) (y:Int):y∈ak p s↔0<=y/\y<p.period/\p.mem (s+y):=by
 have hf:=h.frm;have hp:=h.per;unfold ak;rw [VC];constructor
 .rintro ⟨c,hc,rfl⟩;have h1:=VK (p.frm+c-s) (show p.period≠0 by omega);have h2:=VM (p.frm+c-s) (show 0<p.period by omega);refine ⟨h1,h2,?_⟩;rw [Per.mem_hi ad ad,show s+(p.frm+c-s) % p.period-p.frm=(s-p.frm)+(p.frm+c-s) % p.period by omega,uZ,show s-p.frm+(p.frm+c-s)=c by omega];have hb:=h.cyc.2 c hc;rw [LV hb.1 hb.2];exact hc
 rintro ⟨h0,h1,hm⟩;rw [Per.mem_hi ad ad] at hm;refine ⟨_,hm,?_⟩;rw [show p.frm+(s+y-p.frm) % p.period-s=(p.frm-s)+(s+y-p.frm) % p.period by omega,uZ,show p.frm-s+(s+y-p.frm)=y by omega,LV h0 h1]
theorem yc_ {p:Per} (h:p.WF) {day:Int} (h0:0<=day) {cy:List Int} (vW:cy.Pairwise (· < ·)) (hm:∀ y,y∈cy↔y∈ak p (max p.frm day)) :
  (Per.mk (p.head.drop (p.head.countP λy=>decide (y<day))) (max p.frm day) p.period cy).WF/\
  ∀ n,(Per.mk (p.head.drop (p.head.countP λy=>decide (y<day))) (max p.frm day) p.period cy).mem n↔p.mem n/\day<=n:=by
 have hf:=h.frm;have hp:=h.per;have h_:cM (λn=>p.mem n/\day<=n) (max p.frm day) p.period:=λn hn=>by
  have:=h.pfrom n ad;constructor
  .rintro ⟨h1,h2⟩;exact ⟨this.1 h1,ad⟩
  rintro ⟨h1,h2⟩;exact ⟨this.2 h1,ad⟩
 refine Jg (S:=λn=>p.mem n/\day<=n) ad hp (λn hn=>hn.1.1) h_ ⟨h.head.1.sublist (List.drop_sublist _ _),λx hx=>?_⟩ ⟨vW,λx hx=>?_⟩ (λn h1 h2=>?_) (λn h1 h2=>?_)
 .have:=(Yq h.head.1 day x).1 hx;have hb:=h.head.2 x this.1;omega
 .have:=(RX h ad x).1 ((hm x).1 hx);omega
 .rw [Yq h.head.1];by_cases hlt:n<p.frm
  .rw [Per.mem_lo h1 hlt]
  constructor
  .rintro ⟨hx,_⟩;have:=h.head.2 n hx;omega
  rintro ⟨_,hd⟩;omega
 rw [hm,RX h ad];exact ⟨λh=>⟨h.2.2,ad⟩,λh=>⟨h1,h2,h.1⟩⟩
theorem v0_ (S T:Int->Prop) (n:Nat):cnt S n=cnt (λx=>S x/\T x) n+cnt (λx=>S x/\¬ T x) n:=by
 induction n with
 | zero=>rfl
 | succ n ih=>
  simp only [cnt];by_cases h1:S n <;> by_cases h2:T n <;> simp [h1,h2] <;> omega
def gL (k:Int) (S T:Int->Prop) (n:Int):Prop:=if k=0 then S n/\T n else if k=1 then S n\/T n else S n/\¬ T n
theorem GJ (S T:Int->Prop):gL 0 S T=λn=>S n/\T n:=by funext n;simp [gL]
theorem KN (S T:Int->Prop):gL 1 S T=λn=>S n\/T n:=by funext n;simp [gL]
theorem XT (S T:Int->Prop):gL 2 S T=λn=>S n/\¬ T n:=by funext n;simp [gL]
theorem XU {k:Int} {S T:Int->Prop} {f d:Int} (h1:cM S f d) (h2:cM T f d):cM (gL k S T) f d:=by
 intro n hn;unfold gL;rw [h1 n hn,h2 n hn]
section
variable {qa qb:Per} {S T:Int->Prop} (ha:bV qa S) (hb:bV qb T) {st:Int} (hs1:qa.frm<=st) (hs2:qb.frm<=st) {xs ys:List Int}
 (hx:aH 0 qa.period xs) (hy:aH 0 qb.period ys) (ku:∀ y,y∈xs↔0<=y/\y<qa.period/\qa.mem (st+y)) (sP:∀ y,y∈ys↔0<=y/\y<qb.period/\qb.mem (st+y))
theorem An {q:Per} (hq:q.WF) {st:Int} (hs:q.frm<=st) {xs:List Int} (ku:∀ y,y∈xs↔0<=y/\y<q.period/\q.mem (st+y)) {n:Int} (hn:st<=n):(n-st) % q.period∈xs↔q.mem n:=by
 have hp:=hq.per;rw [ku,(hq.pfrom.mono hs).shift hp hn];exact ⟨λh=>h.2.2,λh=>⟨VK _ ad,VM _ ad,h⟩⟩
include ha hb hs1 hs2 hx hy ku sP
theorem Sa (n:Int):n∈iq xs ys qa.period qb.period st↔st<=n/\n<st+aV qa.period qb.period/\S n/\T n:=by
 rw [w1_ ha.wf.per hb.wf.per hx hy];constructor
 .rintro ⟨h1,h2,h3,h4⟩;exact ⟨h1,h2,(ha.mem n).1 ((An ha.wf hs1 ku h1).1 h3),(hb.mem n).1 ((An hb.wf hs2 sP h1).1 h4)⟩
 rintro ⟨h1,h2,h3,h4⟩;exact ⟨h1,h2,(An ha.wf hs1 ku h1).2 ((ha.mem n).2 h3),(An hb.wf hs2 sP h1).2 ((hb.mem n).2 h4)⟩
theorem yj_ (h0:0<=st):((bF (λn=>S n/\T n) 0 st).length:Int)+(iq xs ys qa.period qb.period st).length=cnt (λn=>S n/\T n) (st+aV qa.period qb.period).toNat:=by
 have hl:=Ae ha.wf.per hb.wf.per;rw [<- xn_ (S:=λn=>S n/\T n) (st+aV qa.period qb.period).toNat (l:=bF (λn=>S n/\T n) 0 st ++ iq xs ys qa.period qb.period st),MB]
 .omega
 .refine yA.2 ⟨(fJ (VI _)).nodup,qs_ ha.wf.per hb.wf.per hx hy,λx hx' y hy' e=>?_⟩;have h1:=(dX (VI _) x).1 hx';have h2:=(Sa ha hb hs1 hs2 hx hy ku sP y).1 hy';omega
 intro n;rw [VJ,dX (VI _),Sa ha hb hs1 hs2 hx hy ku sP,S6 ad];constructor
 .rintro (⟨h1,h2,h3⟩|⟨h1,h2,h3⟩)
  .exact ⟨h1,ad,h3⟩
  exact ⟨ad,h2,h3⟩
 rintro ⟨h1,h2,h3⟩;by_cases e:n<st
 .exact .inl ⟨h1,e,h3⟩
 exact .inr ⟨ad,h2,h3⟩
end
theorem q6y {q:Per} {S:Int->Prop} (h:bV q S) {st L:Int} (hs:q.frm<=st) (hL:1<=L) (hd:q.period∣L):im q st+q.cycle.length*(L / q.period)=cnt S (st+L).toNat:=by
 have hp:=h.wf.per;have hf:=h.wf.frm;have hq:0<=L / q.period:=N1 ad ad;have e:=Rp h.wf hs (L / q.period).toNat;rw [S6 hq,G7 hd,Jb h.wf (show 0<=st+L by omega),XE h.mem] at e;rw [e,LY]
theorem Ox {U:Int->Prop} {st L:Int} (h0:0<=st) (hL:1<=L) (hU:∀ n,U n->0<=n) (hp:cM U st L) :
  (Per.mk (bF U 0 st) st L ((bF U st (st+L)).map (· - st))).WF/\∀ n,(Per.mk (bF U 0 st) st L ((bF U st (st+L)).map (· - st))).mem n↔U n:=by
 have hr:=((fJ (S:=U) (lo:=st) (hi:=st+L) h0).map_add (-st)).mono (lo':=0) (hi':=L) ad ad;refine Jg (S:=U) h0 hL hU hp (fJ (VI _)) hr (λn h1 h2=>?_) (λn h1 h2=>?_)
 .rw [dX (VI _)];exact ⟨λh=>h.2.2,λh=>⟨h1,h2,h⟩⟩
 rw [VC];constructor
 .rintro ⟨x,hx,rfl⟩;have:=(dX h0 x).1 hx;rw [show st+(x-st)=x from by omega];exact this.2.2
 intro h;exact ⟨st+n,(dX h0 _).2 ⟨ad,ad,h⟩,ad⟩
theorem we_ {U:Int->Prop} {a b c:Int} (h0:0<=a) (hab:a<=b) (hbc:b<=c):bF U a c=bF U a b ++ bF U b c:=by
 have h1:0<=b:=ad;refine (fJ (hi:=c) h0).ext ((fJ (hi:=b) h0).append (fJ (lo:=b) (hi:=c) h1) (VI _) hab hbc) λx=>?_;rw [dX h0,VJ,dX h0,dX h1];constructor
 .rintro ⟨g1,g2,g3⟩;by_cases e:x<b
  .exact .inl ⟨g1,e,g3⟩
  exact .inr ⟨ad,g2,g3⟩
 rintro (⟨g1,g2,g3⟩|⟨g1,g2,g3⟩)
 .exact ⟨g1,ad,g3⟩
 exact ⟨ad,g2,g3⟩
theorem u8_ {U:Int->Prop} {st c:Int} (h0:0<=st) (hc:st<=c):(bF U 0 c).countP (λy=>decide (y<st))=(bF U 0 st).length/\(bF U 0 c).take (bF U 0 st).length=bF U 0 st/\(bF U 0 c).drop (bF U 0 st).length=bF U st c:=by
 rw [we_ (VI _) h0 hc];refine ⟨?_,aj,aj⟩;rw [List.countP_append,OV (fJ (VI _)) (VI _),I6 (fJ h0) (VI _)];omega
end
section
open Go.Lib
theorem ou_ {l:List Int} (h:l.Pairwise (·<=·)):∀ m,m<=l.length->(compactUpTo l.toArray m).Pairwise (· < ·)/\∀ x,x∈compactUpTo l.toArray m↔∃ j,j<m/\l.toArray[j]! = x:=by
 have hle:∀ i j,i<=j->j<l.length->l.toArray[i]!<=l.toArray[j]!:=λi j gq hj=>by
  rcases PZ i j with h1|h1
  .have:=yJ.1 h i j ad hj h1;rw [getElem!_pos l.toArray i aR,getElem!_pos l.toArray j (by simpa using hj)];simpa using this
  obtain rfl:i=j:=ad;exact VI _
 intro m;induction m with
 | zero=>intro _;exact ⟨by simp [compactUpTo],λx=>by simp [compactUpTo]⟩
 | succ m ih=>
  intro hm;obtain ⟨h1,h2⟩:=ih ad;rw [compactUpTo_succ];by_cases hk:keeps l.toArray m=true
  .rw [if_pos hk];refine ⟨N9.2 ⟨h1,aj,λx hx y hy=>?_⟩,λx=>?_⟩
   .obtain rfl:y=l.toArray[m]!:=by simpa using hy
    obtain ⟨j,hj,rfl⟩:=(h2 x).1 hx;have hm0:m≠0:=ad;have hne:l.toArray[m]!≠l.toArray[m-1]!:=by
     unfold keeps at hk;rcases LX hk with h|h
     .exact absurd h hm0
     exact h
    have g1:=hle j (m-1) ad ad;have g2:=hle (m-1) m ad ad;omega
   rw [VJ,h2,N2];constructor
   .rintro (⟨j,hj,rfl⟩|rfl)
    .exact ⟨j,ad,rfl⟩
    exact ⟨m,ad,rfl⟩
   rintro ⟨j,hj,rfl⟩;by_cases e:j=m
   .subst e;exact .inr rfl
   exact .inl ⟨j,ad,rfl⟩
  rw [if_neg hk,Q4];refine ⟨h1,λx=>?_⟩;rw [h2];have hn:¬ (m=0\/l.toArray[m]!≠l.toArray[m-1]!):=λhh=>hk (by unfold keeps;exact PH hh);have hm0:m≠0:=λe=>hn (.inl e);have he:l.toArray[m]! = l.toArray[m-1]!:=q8j λe=>hn (.inr e);constructor
  .rintro ⟨j,hj,rfl⟩;exact ⟨j,ad,rfl⟩
  rintro ⟨j,hj,rfl⟩;by_cases e:j=m
  .subst e;exact ⟨j-1,ad,he.symm⟩
  exact ⟨j,ad,rfl⟩
theorem md_ {l:List Int} (h:l.Pairwise (·<=·)):(compact l).Pairwise (· < ·)/\∀ x,x∈compact l↔x∈l:=by
 obtain ⟨h1,h2⟩:=ou_ h l.length (TZ _);refine ⟨h1,λx=>(h2 x).trans ?_⟩;rw [MA];constructor
 .rintro ⟨j,hj,rfl⟩;exact ⟨j,hj,by rw [getElem!_pos l.toArray j (by simpa using hj)];simp⟩
 rintro ⟨j,hj,rfl⟩;exact ⟨j,hj,by rw [getElem!_pos l.toArray j (by simpa using hj)];simp⟩
theorem mc_ {l:List Int}:(compact l).length<=l.length:=by
 unfold compact compactUpTo;rw [U6];exact NN (YQ _ _) aj
end
section
theorem Wt {p:Per} (hw:p.WF) (wA:∀ d,1<=d->d<p.period->¬ cM p.mem p.frm d) (Qr:p.frm=0\/¬ (p.mem (p.frm-1)↔p.mem (p.frm-1+p.period))):bV p p.mem:=by
 refine ⟨hw,λ_=>MT,λd hd he=>?_,λf hf hp=>?_⟩
 .rcases NC d p.period with h|h
  .exact absurd (hw.pfrom.of_ev hw.per ad he) (wA d hd h)
  exact h
 rcases NC f p.frm with h|h
 .rcases Qr with h1|h1
  .omega
  exact absurd (hp (p.frm-1) ad) h1
 exact h
theorem q2p {p:Per} {m:Int} (hw:p.WF) (hc:p.cycle=[m]):∀ d,1<=d->d<p.period->¬ cM p.mem p.frm d:=by
 intro d h1 h2 hp;have h0:=hw.frm;have hm:=hw.cyc.2 m (by rw [hc];simp);have h3:=(hp (p.frm+m) ad).1 (((hw.cyc_mem m).1 (by rw [hc];simp)).2.2);rw [Per.mem_hi ad ad,hc,N2,show p.frm+m+d-p.frm=m+d from by omega] at h3;have h4:(m+d) % p.period=m % p.period:=by rw [h3,LV hm.1 hm.2]
 have h5:d % p.period=0:=by
  have:=A7;have h6:=zB.1 h4;rwa [show m+d-m=d from by omega] at h6
 rw [LV ad h2] at h5;omega
def SG (p:Per):Bool:=
 decide (0<=p.frm) && decide (1<=p.period) && (p.head.all λx=>decide (0<=x/\x<p.frm)) && (p.cycle.all λx=>decide (0<=x/\x<p.period)) && decide (p.head.Pairwise (· < ·)) && decide (p.cycle.Pairwise (· < ·))
theorem z0_ {p:Per} (h:SG p=true):p.WF:=by
 unfold SG at h;simp only [NU,OB,MI] at h;obtain ⟨⟨⟨⟨⟨h1,h2⟩,h3⟩,h4⟩,h5⟩,h6⟩:=h;exact ⟨h1,h2,⟨h5,h3⟩,⟨h6,h4⟩⟩
def Zx (p:Per):Bool:=SG p && ((List.range (p.period.toNat-1)).all λd=>(List.range p.period.toNat).any λx=>decide (p.mem (p.frm+x)) != decide (p.mem (p.frm+x+(d+1:Nat)))) &&
 (decide (p.frm=0) || decide (p.mem (p.frm-1)) != decide (p.mem (p.frm-1+p.period)))
theorem Fh {p:Per} (h:Zx p=true):bV p p.mem:=by
 unfold Zx at h;simp only [NU,MI,MN,G8,V6,OB] at h;obtain ⟨⟨h1,h2⟩,h3⟩:=h;refine Wt (z0_ h1) (λd hd hp hf=>?_) (h3.imp id λh h'=>?_)
 .obtain ⟨x,_,hx⟩:=h2 (d.toNat-1) ad;have h4:=hf (p.frm+x) ad;rw [show ((d.toNat-1+1:Nat):Int)=d from by omega] at hx;rw [OD] at hx;exact hx (decide_eq_decide.2 h4)
 rw [OD] at h;exact h (decide_eq_decide.2 h')
abbrev ev (m n:Int):Per:=⟨[],0,n,[m]⟩
abbrev K3:Per:=⟨[1,3],4,4,[1,3]⟩
abbrev nine:Per:=⟨[2,9],30,3,[]⟩
abbrev Io:Per:=⟨[0],1,3,[1]⟩
abbrev far:Per:=⟨[],0,549755813888,[5]⟩
theorem SR {m n:Int} (h0:0<=m) (h1:m<n):(ev m n).WF:=⟨VI _,by show 1<=n;omega,aH.nil,aj,by simpa using ⟨h0,h1⟩⟩
theorem RZ {m n:Int} (h0:0<=m) (h1:m<n):bV (ev m n) (ev m n).mem:=Wt (SR h0 h1) (q2p (SR h0 h1) rfl) (.inl rfl)
theorem Hz {m n x:Int}:(ev m n).mem x↔0<=x/\x % n=m:=by
 unfold Per.mem;constructor
 .rintro ⟨h0,h1⟩;rw [if_neg (by show ¬ x<0;omega)] at h1;exact ⟨h0,by simpa using h1⟩
 rintro ⟨h0,h1⟩;refine ⟨h0,?_⟩;rw [if_neg (by show ¬ x<0;omega)];simpa using h1
theorem s1:bV (ev 1 2) K3.mem:=(Fh aG).congr λn=>by
 unfold Per.mem;simp only [U3,UN,or_false,K3,nine,Io,ev];(repeat' split) <;> first|omega|(simp only [and_false,iff_false,false_iff,not_and,not_or];omega)|(simp;done)|(simp;omega)
theorem s2:bV ⟨[],0,1,[]⟩ (Per.mk [] 5 7 []).mem:=(Fh aG).congr λn=>by
 unfold Per.mem;simp
theorem s3:bV ⟨[2,9],10,1,[]⟩ nine.mem:=(Fh aG).congr λn=>by
 unfold Per.mem;simp only [U3,UN,or_false,K3,nine,Io,ev];(repeat' split) <;> first|omega|(simp only [and_false,iff_false,false_iff,not_and,not_or];omega)|(simp;done)|(simp;omega)
theorem s4:bV Io Io.mem:=Fh aG
theorem s5:bV (ev 0 6) (λn=>(ev 0 2).mem n/\(ev 0 3).mem n):=(RZ ad ad).congr λn=>by
 simp only [Hz];omega
theorem s6:bV ⟨[],0,6,[2,4]⟩ (λn=>(ev 0 2).mem n/\¬ (ev 0 3).mem n):=(Fh aG).congr λn=>by
 simp only [Hz];unfold Per.mem;simp only [U3,UN,or_false,K3,nine,Io,ev];(repeat' split) <;> first|omega|(simp only [and_false,iff_false,false_iff,not_and,not_or];omega)|(simp;done)|(simp;omega)
theorem s7:bV (ev 2 3) (λn=>0<=n/\(ev 0 3).mem (n-2)):=(RZ ad ad).congr λn=>by
 simp only [Hz];omega
end
end Kal
section
variable {b:Bool}{a f x:Int}{l:List Int}{B k n:Nat}{h v:Go.Value}{W W' w w':Go.World}
namespace Go.Proofs
section
open Go.Shelf
def Tryz.lays189_ren:Go.Shelf.Ren:=⟨fun|189=>69|125=>114|257=>115|128=>156|129=>157|294=>158|295=>159|296=>160|297=>161|298=>162|299=>163|216=>164|300=>165|301=>166|328=>197|329=>193|330=>194|331=>198|332=>199|215=>127|343=>232|n=>n,fun|28=>35|3=>3|46=>171|0=>0|51=>198|53=>200|4=>4|183=>192|182=>191|131=>119|5=>5|9=>9|218=>231|222=>235|228=>258|229=>259|n=>n,fun|n=>n⟩
theorem Tryz.lays189:Go.Proofs.Lays.n189 Tryz.prog Tryz.lays189_ren:={
 mixed:=by kernel_rfl
 f125:=Tryz.func114.trans (congrArg some (by kernel_rfl))
 f128:=Tryz.func156.trans (congrArg some (by kernel_rfl))
 f129:=Tryz.func157.trans (congrArg some (by kernel_rfl))
 f189:=Tryz.func69.trans (congrArg some (by kernel_rfl))
 f215:=Tryz.func127.trans (congrArg some (by kernel_rfl))
 f216:=Tryz.func164.trans (congrArg some (by kernel_rfl))
 f257:=Tryz.func115.trans (congrArg some (by kernel_rfl))
 f294:=Tryz.func158.trans (congrArg some (by kernel_rfl))
 f295:=Tryz.func159.trans (congrArg some (by kernel_rfl))
 f296:=Tryz.func160.trans (congrArg some (by kernel_rfl))
 f297:=Tryz.func161.trans (congrArg some (by kernel_rfl))
 f298:=Tryz.func162.trans (congrArg some (by kernel_rfl))
 f299:=Tryz.func163.trans (congrArg some (by kernel_rfl))
 f300:=Tryz.func165.trans (congrArg some (by kernel_rfl))
 f301:=Tryz.func166.trans (congrArg some (by kernel_rfl))
 f328:=Tryz.func197.trans (congrArg some (by kernel_rfl))
 f329:=Tryz.func193.trans (congrArg some (by kernel_rfl))
 f330:=Tryz.func194.trans (congrArg some (by kernel_rfl))
 f331:=Tryz.func198.trans (congrArg some (by kernel_rfl))
 f332:=Tryz.func199.trans (congrArg some (by kernel_rfl))
 f343:=Tryz.func232.trans (congrArg some (by kernel_rfl))
 t0:=Tryz.underlying0
 a0:=Tryz.isAgg0
 z0:=Tryz.sizeOf0
 v0:=Tryz.zeroValue0
 t3:=Tryz.underlying3
 a3:=Tryz.isAgg3
 z3:=Tryz.sizeOf3
 v3:=Tryz.zeroValue3
 t4:=Tryz.underlying4
 a4:=Tryz.isAgg4
 z4:=Tryz.sizeOf4
 v4:=Tryz.zeroValue4
 t5:=Tryz.underlying5
 a5:=Tryz.isAgg5
 z5:=Tryz.sizeOf5
 v5:=Tryz.zeroValue5
 t9:=Tryz.underlying9
 a9:=Tryz.isAgg9
 z9:=Tryz.sizeOf9
 v9:=Tryz.zeroValue9
 t28:=Tryz.underlying35
 a28:=Tryz.isAgg35
 z28:=Tryz.sizeOf35
 v28:=Tryz.zeroValue35
 t46:=Tryz.underlying171
 a46:=Tryz.isAgg171
 z46:=Tryz.sizeOf171
 v46:=Tryz.zeroValue171
 t51:=Tryz.underlying198
 a51:=Tryz.isAgg198
 z51:=Tryz.sizeOf198
 v51:=Tryz.zeroValue198
 t53:=Tryz.underlying200
 a53:=Tryz.isAgg200
 z53:=Tryz.sizeOf200
 v53:=Tryz.zeroValue200
 t131:=Tryz.underlying119
 a131:=Tryz.isAgg119
 z131:=Tryz.sizeOf119
 v131:=Tryz.zeroValue119
 t182:=Tryz.underlying191
 a182:=Tryz.isAgg191
 z182:=Tryz.sizeOf191
 v182:=Tryz.zeroValue191
 t183:=Tryz.underlying192
 a183:=Tryz.isAgg192
 z183:=Tryz.sizeOf192
 v183:=Tryz.zeroValue192
 t218:=Tryz.underlying231
 a218:=Tryz.isAgg231
 z218:=Tryz.sizeOf231
 v218:=Tryz.zeroValue231
 t222:=Tryz.underlying235
 a222:=Tryz.isAgg235
 z222:=Tryz.sizeOf235
 v222:=Tryz.zeroValue235
 t228:=Tryz.underlying258
 a228:=Tryz.isAgg258
 z228:=Tryz.sizeOf258
 v228:=Tryz.zeroValue258
 t229:=Tryz.underlying259
 a229:=Tryz.isAgg259
 z229:=Tryz.sizeOf259
 v229:=Tryz.zeroValue259 }
open Go.Sort Go.RowKit in
theorem Tryz.slices_Sort_int (blk off cap:Nat) (zs:List Int) (w:World) (hH:Holds (Value.int .i64) w blk off zs.toArray) (hblk:blk<w.heap.size) (hsz:zs.length<4611686018427387904) :
  Calls Tryz.prog 69 #[.slice (some ⟨blk,off,none⟩) zs.length cap] w λe w'=>
   e=.returned (.tuple #[])/\∃ n os,w'=grow (putRow (Value.int .i64) (Sort.ahead w n) blk off (zs.mergeSort λx y=>decide (x<=y)).toArray) os:=Any.slices_Sort_int Tryz.lays189 blk off cap zs w hH hblk hsz
def Tryz.lays264_ren:Go.Shelf.Ren:=⟨fun|264=>218|n=>n,fun|53=>200|46=>171|n=>n,fun|n=>n⟩
theorem Tryz.lays264:Go.Proofs.Lays.n264 Tryz.prog Tryz.lays264_ren:={
 mixed:=by kernel_rfl
 f264:=Tryz.func218.trans (congrArg some (by kernel_rfl))
 t46:=Tryz.underlying171
 a46:=Tryz.isAgg171
 z46:=Tryz.sizeOf171
 v46:=Tryz.zeroValue171
 t53:=Tryz.underlying200
 a53:=Tryz.isAgg200
 z53:=Tryz.sizeOf200
 v53:=Tryz.zeroValue200 }
open Go.RowKit Go.Lib in
theorem Tryz.bits_Mul64 (x y:Nat) (hx:x<18446744073709551616) (hy:y<18446744073709551616) (w:World) :
  Calls Tryz.prog 218 #[.int .u64 x,.int .u64 y] w λe w'=>e=.returned (.tuple #[.int .u64 ((x*y / 18446744073709551616:Nat):Int),.int .u64 ((x*y % 18446744073709551616:Nat):Int)])/\w'=w:=Any.bits_Mul64 Tryz.lays264 x y hx hy w
def Tryz.lays111_ren:Go.Shelf.Ren:=⟨fun|111=>191|n=>n,fun|28=>35|3=>3|4=>4|0=>0|n=>n,fun|n=>n⟩
theorem Tryz.lays111:Go.Proofs.Lays.n111 Tryz.prog Tryz.lays111_ren:={
 mixed:=by kernel_rfl
 f111:=Tryz.func191.trans (congrArg some (by kernel_rfl))
 t0:=Tryz.underlying0
 a0:=Tryz.isAgg0
 z0:=Tryz.sizeOf0
 v0:=Tryz.zeroValue0
 t3:=Tryz.underlying3
 a3:=Tryz.isAgg3
 z3:=Tryz.sizeOf3
 v3:=Tryz.zeroValue3
 t4:=Tryz.underlying4
 a4:=Tryz.isAgg4
 z4:=Tryz.sizeOf4
 v4:=Tryz.zeroValue4
 t28:=Tryz.underlying35
 a28:=Tryz.isAgg35
 z28:=Tryz.sizeOf35
 v28:=Tryz.zeroValue35 }
open Go.RowKit Go.Lib in
theorem Tryz.slices_Equal_int (b1 o1 n c b2 o2 m d:Nat) (xs ys:List Int) (w:World) (hx:n<=xs.length) (hy:m<=ys.length) (hbig:n<=9223372036854775807) (rZ:m<=9223372036854775807) (hc1:∀ j,j<xs.length->w.cell? ⟨b1,o1+j,none⟩=some (.int .i64 (xs.getD j 0))) (hc2:∀ j,j<ys.length->w.cell? ⟨b2,o2+j,none⟩=some (.int .i64 (ys.getD j 0))) :
  Calls Tryz.prog 191 #[.slice (some ⟨b1,o1,none⟩) n c,.slice (some ⟨b2,o2,none⟩) m d] w λe w'=>e=.returned (.bool (xs.take n == ys.take m))/\∃ q,w'=w.drewN q:=Any.slices_Equal_int Tryz.lays111 b1 o1 n c b2 o2 m d xs ys w hx hy hbig rZ hc1 hc2
open Go.RowKit Go.Lib in
theorem Tryz.slices_Equal_int_empty (a1 a2:Option Addr) (c m d:Nat) (w:World) (rZ:m<=9223372036854775807) :
  Calls Tryz.prog 191 #[.slice a1 0 c,.slice a2 m d] w λe w'=>e=.returned (.bool (decide (m=0)))/\w'=w:=Any.slices_Equal_int_empty Tryz.lays111 a1 a2 c m d w rZ
def Tryz.laysNm215_ren:Go.Shelf.Ren:=⟨fun|15=>96|n=>n,fun|22=>35|3=>3|4=>4|n=>n,fun|n=>n⟩
theorem Tryz.laysNm215:Go.Proofs.Lays2.n15 Tryz.prog Tryz.laysNm215_ren:={
 mixed:=by kernel_rfl
 f15:=Tryz.func96.trans (congrArg some (by kernel_rfl))
 t3:=Tryz.underlying3
 a3:=Tryz.isAgg3
 z3:=Tryz.sizeOf3
 v3:=Tryz.zeroValue3
 t4:=Tryz.underlying4
 a4:=Tryz.isAgg4
 z4:=Tryz.sizeOf4
 v4:=Tryz.zeroValue4
 t22:=Tryz.underlying35
 a22:=Tryz.isAgg35
 z22:=Tryz.sizeOf35
 v22:=Tryz.zeroValue35
 i3:=by kernel_rfl }
open Go.RowKit Go.Lib in
theorem Tryz.slices_Clone_int (b off n c:Nat) (zs:List Int) (w:World) (hz:n<=zs.length) (hbig:n*8<=140737488355328) (hc:∀ j,j<zs.length->w.cell? ⟨b,off+j,none⟩=some (.int .i64 (zs.getD j 0))) :
  Calls Tryz.prog 96 #[.slice (some ⟨b,off,none⟩) n c] w λe w'=>∃ v',e=.returned v'/\w'.ownsRow w.heap.size 3 1 v' n ((zs.take n).map (Value.int .i64))/\v'≠.slice none 0 0/\Below w.heap.size w w':=Any.slices_Clone_int Tryz.laysNm215 b off n c zs w hz hbig hc
open Go.RowKit Go.Lib in
theorem Tryz.slices_Clone_int_nil (n c:Nat) (w:World) :
  Calls Tryz.prog 96 #[.slice none n c] w λe w'=>e=.returned (.slice none 0 0)/\w'=w:=Any.slices_Clone_int_nil Tryz.laysNm215 n c w
open Go.RowKit Go.Lib in
theorem Tryz.slices_Clone_int_zero (a:Addr) (c:Nat) (w:World) :
  Calls Tryz.prog 96 #[.slice (some a) 0 c] w λe w'=>∃ v',e=.returned v'/\w'.ownsRow w.heap.size 3 1 v' 0 []/\v'≠.slice none 0 0/\Below w.heap.size w w':=Any.slices_Clone_int_zero Tryz.laysNm215 a c w
def Tryz.laysNm220_ren:Go.Shelf.Ren:=⟨fun|20=>230|n=>n,fun|22=>35|3=>3|4=>4|0=>0|n=>n,fun|n=>n⟩
theorem Tryz.laysNm220:Go.Proofs.Lays2.n20 Tryz.prog Tryz.laysNm220_ren:={
 mixed:=by kernel_rfl
 f20:=Tryz.func230.trans (congrArg some (by kernel_rfl))
 t0:=Tryz.underlying0
 a0:=Tryz.isAgg0
 z0:=Tryz.sizeOf0
 v0:=Tryz.zeroValue0
 t3:=Tryz.underlying3
 a3:=Tryz.isAgg3
 z3:=Tryz.sizeOf3
 v3:=Tryz.zeroValue3
 t4:=Tryz.underlying4
 a4:=Tryz.isAgg4
 z4:=Tryz.sizeOf4
 v4:=Tryz.zeroValue4
 t22:=Tryz.underlying35
 a22:=Tryz.isAgg35
 z22:=Tryz.sizeOf35
 v22:=Tryz.zeroValue35
 i3:=by kernel_rfl }
open Go.RowKit Go.Lib Go.Sort in
theorem Tryz.slices_Compact_int (blk off cap:Nat) (zs:List Int) (w:World) (hH:Holds (Value.int .i64) w blk off zs.toArray) (hsz:zs.length<=9223372036854775807) (aT:zs.length<=cap) :
  Calls Tryz.prog 230 #[.slice (some ⟨blk,off,none⟩) zs.length cap] w λe w'=>e=.returned (.slice (some ⟨blk,off,none⟩) (Lib.compact zs).length cap)/\∃ q,w'=putRow (Value.int .i64) (Sort.ahead w q) blk off (Lib.compact zs ++ List.replicate (zs.length-(Lib.compact zs).length) 0).toArray:=Any.slices_Compact_int Tryz.laysNm220 blk off cap zs w hH hsz aT
open Go.RowKit Go.Lib Go.Sort in
theorem Tryz.slices_Compact_int_empty (a:Option Addr) (cap:Nat) (w:World) :
  Calls Tryz.prog 230 #[.slice a 0 cap] w λe w'=>e=.returned (.slice a 0 cap)/\w'=w:=Any.slices_Compact_int_empty Tryz.laysNm220 a cap w
def Tryz.laysNm225_ren:Go.Shelf.Ren:=⟨fun|25=>216|31=>164|32=>246|37=>127|n=>n,fun|22=>35|3=>3|4=>4|40=>171|0=>0|n=>n,fun|n=>n⟩
theorem Tryz.laysNm225:Go.Proofs.Lays2.n25 Tryz.prog Tryz.laysNm225_ren:={
 mixed:=by kernel_rfl
 f25:=Tryz.func216.trans (congrArg some (by kernel_rfl))
 f31:=Tryz.func164.trans (congrArg some (by kernel_rfl))
 f32:=Tryz.func246.trans (congrArg some (by kernel_rfl))
 f37:=Tryz.func127.trans (congrArg some (by kernel_rfl))
 t0:=Tryz.underlying0
 a0:=Tryz.isAgg0
 z0:=Tryz.sizeOf0
 v0:=Tryz.zeroValue0
 t3:=Tryz.underlying3
 a3:=Tryz.isAgg3
 z3:=Tryz.sizeOf3
 v3:=Tryz.zeroValue3
 t4:=Tryz.underlying4
 a4:=Tryz.isAgg4
 z4:=Tryz.sizeOf4
 v4:=Tryz.zeroValue4
 t22:=Tryz.underlying35
 a22:=Tryz.isAgg35
 z22:=Tryz.sizeOf35
 v22:=Tryz.zeroValue35
 t40:=Tryz.underlying171
 a40:=Tryz.isAgg171
 z40:=Tryz.sizeOf171
 v40:=Tryz.zeroValue171 }
open Go.RowKit Go.Lib in
theorem Tryz.slices_BinarySearch_int (b off n c:Nat) (zs:List Int) (x:Int) (w:World) (hz:n<=zs.length) (hbig:n<4611686018427387904) (hc:∀ j,j<zs.length->w.cell? ⟨b,off+j,none⟩=some (.int .i64 (zs.getD j 0))) (hs:(zs.take n).Pairwise (·<=·)) :
  Calls Tryz.prog 216 #[.slice (some ⟨b,off,none⟩) n c,.int .i64 x] w λe w'=>e=.returned (.tuple #[.int .i64 ((zs.take n).countP (·<x):Nat),.bool ((zs.take n).contains x)])/\∃ q,w'=w.drewN q:=Any.slices_BinarySearch_int Tryz.laysNm225 b off n c zs x w hz hbig hc hs
open Go.RowKit Go.Sort in
theorem Tryz.slices_Sort_int_none (p:Option Addr) (cap:Nat) (w:World) :
  Calls Tryz.prog 69 #[.slice p 0 cap] w λe w'=>e=.returned (.tuple #[])/\w'=w:=Any.slices_Sort_int_none Tryz.lays189 p cap w
open Go.RowKit Go.Lib in
theorem Tryz.slices_BinarySearch_int_empty (a:Option Addr) (c:Nat) (x:Int) (w:World) :
  Calls Tryz.prog 216 #[.slice a 0 c,.int .i64 x] w λe w'=>e=.returned (.tuple #[.int .i64 0,.bool false])/\w'=w:=Any.slices_BinarySearch_int_empty Tryz.laysNm225 a c x w
open Go.RowKit Go.Lib in
theorem Tryz.slices_Equal_int_lens (a1 a2:Option Addr) (n c m d:Nat) (w:World) (hnm:n≠m) :
  Calls Tryz.prog 191 #[.slice a1 n c,.slice a2 m d] w λe w'=>e=.returned (.bool false)/\w'=w:=Any.slices_Equal_int_lens Tryz.lays111 a1 a2 n c m d w hnm
end
end Go.Proofs
namespace Go.Proofs.YtbmgmlbmgogeaaaGreat
section
open Go.RowKit Kal
theorem Er (w:World):Below w.heap.size w w:=JV _ _
theorem Ea (h:Below w.heap.size w W) (o:Obj):Below w.heap.size w (W.alloc o):=h.alloc h.size o
theorem Ed (h:Below w.heap.size w W):Below w.heap.size w W.drew:=h.drew
theorem Below.drewN (h:Below B w W) (n:Nat):Below B w (W.drewN n):=⟨h.os,h.tape,h.output,h.size,h.block⟩
theorem En (h:Below w.heap.size w W) (n:Nat):Below w.heap.size w (W.drewN n):=Below.drewN h n
theorem Es (h:Below w.heap.size w W) {a:Addr} (ha:w.heap.size<=a.block) (v:Value):Below w.heap.size w (W.setCell a v):=h.setCell ha v
theorem Et (h:Below w.heap.size w W) (h':Below W.heap.size W W'):Below w.heap.size w W':=h.trans (h'.mono h.size)
theorem xE (h:Below B w W:=by (repeat' (with_reducible first|assumption|apply Er|apply Ea|apply Ed|apply En|(refine Es ?_ (by first|(simp;done)|(simp;omega)|omega) _)|refine Et ?_ (by assumption)))):Below B w W:=h
theorem an.cell (h:Below w.heap.size w W) {a:Addr} (hc:w.cell? a=some v):W.cell? a=some v:=(h.cell (N8 w _ hc)).trans hc
theorem dW {a:Addr} (h:w.cell? a=some v) (o:Obj):(w.alloc o).cell? a=some v:=an.cell (Ea (Er w) o) h
theorem Ci {a b:Addr} (h:w.cell? a=some v) (hne:a.block≠b.block) (u:Value):(w.setCell b u).cell? a=some v:=
 (QM (DO w b u a.block hne)).trans h
theorem Below.cell' (h:Below B w w') {b o:Nat} (hc:w.cell? ⟨b,o,none⟩=some v) (hb:b<B):w'.cell? ⟨b,o,none⟩=some v:=(h.cell (p:=⟨b,o,none⟩) hb).trans hc
theorem an.frozen (h:Below w.heap.size w W) {a:Addr} (hc:w.cell? a=some v):W.frozen? a=w.frozen? a:=h.frozen (N8 w _ hc)
theorem bd_ {w1:World} (hb:Below B W w1):(∀ b o,b<B->w1.cell? ⟨b,o,none⟩=W.cell? ⟨b,o,none⟩)/\(∀ b o,b<B->w1.frozen? ⟨b,o,none⟩=W.frozen? ⟨b,o,none⟩):=
 ⟨λb o h=>hb.cell (p:=⟨b,o,none⟩) h,λb o h=>hb.frozen (p:=⟨b,o,none⟩) h⟩
def aS (x:Int):Prop:=-9223372036854775808<=x/\x<=9223372036854775807
theorem BG (h:aS x):IntKind.i64.wrap x=x:=IntWalk.i64_in _ ⟨h.1,h.2⟩
structure Ints (w:World) (v:Value) (l:List Int):Prop where
 is:∃ a c,v=.slice a l.length c/\l.length<=c/\c<=9223372036854775807/\(l=[]\/∃ b o,a=some ⟨b,o,none⟩/\∀ i,i<l.length->w.cell? ⟨b,o+i,none⟩=some (.int .i64 (l.getD i 0)))
 len:l.length<=17592186044416
 rng:∀ x∈l,aS x
theorem Ints.ext (h:Ints w v l) (hb:Below w.heap.size w W):Ints W v l:=by
 obtain ⟨⟨a,c,rfl,h1,h2,h3⟩,h4,h5⟩:=h;refine ⟨⟨a,c,rfl,h1,h2,h3.imp id ?_⟩,h4,h5⟩;rintro ⟨b,o,rfl,hc⟩;exact ⟨b,o,rfl,λi hi=>an.cell hb (hc i hi)⟩
theorem Ints.nil (w:World):Ints w (.slice none 0 0) []:=⟨⟨none,0,rfl,aj,ad,.inl rfl⟩,aj,aj⟩
structure cj (w:World) (h c:Value) (p:Per):Prop where
 hd:Ints w h p.head
 cy:Ints w c p.cycle
theorem cj.ext {c:Value} {p:Per} (hp:cj w h c p) (hb:Below w.heap.size w W):cj W h c p:=⟨hp.hd.ext hb,hp.cy.ext hb⟩
theorem qg {k:IntKind} {b:Int} (h:a=b):Ending.returned (.int k a)=.returned (.int k b):=by rw [h]
theorem bX {a:Bool} (h:a=b):Ending.returned (.bool a)=.returned (.bool b):=by rw [h]
theorem Sp {α:Type} [DecidableEq α] (l:List α):((l.length:Int) == 0)=decide (l=[]):=by
 cases l with
 | nil=>rfl
 | cons a l=>simp;omega
theorem Ky (n m:Int) (hm:1<=m):(n.tmod m<0->n.tmod m+m=n % m)/\(0<=n.tmod m->n.tmod m=n % m)/\-m<n.tmod m/\n.tmod m<m:=by
 have h0:=VK n (show m≠0 by omega);have h1:=VM n (show 0<m by omega);rw [Int.tmod_eq_emod]
 split
 .omega
 rw [show (m.natAbs:Int)=m from by omega];rename_i h;have h2:n % m≠0:=λh3=>h (.inr (NB h3));omega
theorem drop_cons (h:k<l.length):l.drop k=l.getD k 0 :: l.drop (k+1):=by
 rw [GE h];simp [h]
theorem u1_ {P:Program} {f:FuncId} {args:Array Value}
  (h:Calls P f args (w.drewN n) λe w'=>e=.returned v/\w.drewN n=w'):Calls P f args (w.drewN n) λe w''=>e=.returned v/\∃ m,w''=w.drewN m:=
 h.mono λ_ _ ⟨he,hm⟩=>⟨he,n,hm.symm⟩
theorem Jz {P:Program} {f:FuncId} {args:Array Value} {a:Nat}
  (h:Calls P f args (w.drewN (a+n)) λe w'=>e=.returned v/\∃ m,w'=(w.drewN (a+n)).drewN m) :
  Calls P f args (w.drewN (a+n)) λe w''=>e=.returned v/\∃ m,w''=w.drewN (a+m):=
 h.mono λ_ _ ⟨he,m,hm⟩=>⟨he,n+m,by rw [hm,NP,OE]⟩
theorem mn_ {P:Program} {f:FuncId} {args:Array Value} {a:Nat}
  (h:Calls P f args (w.drewN (a+n)) λe w'=>e=.returned v/\w.drewN (a+n)=w') :
  Calls P f args (w.drewN (a+n)) λe w''=>e=.returned v/\∃ m,w''=w.drewN (a+m):=
 h.mono λ_ _ ⟨he,hm⟩=>⟨he,n,hm.symm⟩
theorem r1_ (n m:Int) (w:World) (hm:1<=m) (ix:m<=4611686018427387904) :
  Calls Tryz.prog 217 #[.int .i64 n,.int .i64 m] w λe w'=>e=.returned (.int .i64 (n % m))/\w=w':=by
 obtain ⟨h1,h2,h3,h4⟩:=Ky n m hm;have H1:=af h1;have H2:=af h2;clear h1 h2
 go_in
 go_wp2
 .go_ret;exact ⟨qg (H1.o (by assumption)),rfl⟩
 go_ret;exact ⟨qg (H2.o (by assumption)),rfl⟩
def gP:Int->Int->List Int->Bool
 | _,_,[]=>true
 | last,lim,n :: l=>if n<=last\/lim<=n then false else gP n lim l
theorem r2_ (last lim:Int) (l:List Int):gP last lim l=true↔aH (last+1) lim l:=by
 induction l generalizing last with
 | nil=>simp [gP,aH.nil]
 | cons n l ih=>
  rw [gP]
  split
  .rename_i h;simp only [NV,false_iff];intro hr;have:=hr.2 n aj;omega
  rename_i h;rw [ih];constructor
  .intro hr;refine ⟨N4.2 ⟨λx hx=>by have:=hr.2 x hx;omega,hr.1⟩,λx hx=>?_⟩;rcases U3.1 hx with rfl|hx
   .omega
   have:=hr.2 x hx;omega
  intro hr;have hp:=N4.1 hr.1;exact ⟨hp.2,λx hx=>⟨by have:=hp.1 x hx;omega,(hr.2 x (P5 _ hx)).2⟩⟩
theorem Xq (v:Value) (l:List Int) (lim:Int) (w:World) (hv:Ints w v l) :
  Calls Tryz.prog 126 #[v,.int .i64 lim] w λe w'=>e=.returned (.bool (gP (-1) lim l))/\w=w':=by
 obtain ⟨⟨a,c,rfl,hlc,hc,ck⟩,hlen,hb⟩:=hv
 go_in
 go_wp2
 go_loop [5,7,10] (λlast n i=>∃ k:Nat,k<=l.length/\i=.int .i64 k/\∃ x y:Int,last=.int .i64 x/\gP (-1) lim l=gP x lim (l.drop k)/\True) (λ_ _ i=>l.length-(intOf i).toNat)
 .exact ⟨0,ad,rfl,-1,0,rfl,aj,trivial⟩
 obtain ⟨k,hk,rfl,x,y,rfl,hr,_⟩:=hrel;have HR:=af hr;clear hr;by_cases hlt:k<l.length
 .rcases ck with h|⟨b,o,rfl,hcell⟩
  .subst h;simp at hlt
  have hc1:=hcell k hlt;have hd:=af (drop_cons hlt);have hm:=hb (l.getD k 0) (by simp [hlt]);unfold aS at hm;generalize l.getD k 0=z at *;clear hcell hb;by_cases hz:z<=x\/lim<=z
  .have hf:gP (-1) lim l=false:=by rw [HR.o,hd.o,gP,if_pos hz]
   have HF:=af hf;clear hf;go_wp2;all_goals (go_ret;exact ⟨bX HF.o.symm,rfl⟩)
  have hf:gP (-1) lim l=gP z lim (l.drop (k+1)):=by rw [HR.o,hd.o,gP,if_neg hz]
  have HF:=af hf;clear hf;have hz':x<z/\z<lim:=ad;clear hz;go_wp2
  go_round
  .exact ⟨k+1,ad,by go_num,z,0,rfl,HF.o,trivial⟩
  simp [intOf];omega
 go_wp2;go_ret;exact ⟨bX (by rw [HR.o,List.drop_eq_nil_of_le ad];rfl),rfl⟩
def validB (p:Per):Bool:=decide (0<=p.frm) && decide (p.frm<=1099511627776) && decide (1<=p.period) && decide (p.period<=1099511627776) && decide ((p.head.length+p.cycle.length:Int)<=1048576) && gP (-1) p.frm p.head && gP (-1) p.period p.cycle
structure Valid (p:Per):Prop where
 wf:p.WF
 frm:p.frm<=1099511627776
 per:p.period<=1099511627776
 len:p.head.length+p.cycle.length<=1048576
theorem pg (p:Per):validB p=true↔Valid p:=by
 unfold validB;simp only [NU,OB,r2_];constructor
 .rintro ⟨⟨⟨⟨⟨⟨h1,h2⟩,h3⟩,h4⟩,h5⟩,h6⟩,h7⟩;exact ⟨⟨h1,h3,h6,h7⟩,h2,h4,ad⟩
 rintro ⟨⟨h1,h3,h6,h7⟩,h2,h4,h5⟩;exact ⟨⟨⟨⟨⟨⟨h1,h2⟩,h3⟩,h4⟩,ad⟩,h6⟩,h7⟩
theorem rD (h c:Value) (p:Per) (w:World) (hp:cj w h c p) :
  Calls Tryz.prog 92 #[.agg #[h,.int .i64 p.frm,.int .i64 p.period,c]] w λe w'=>e=.returned (.bool (validB p))/\Below w.heap.size w w':=by
 have Qx:=λo=>(hp.hd.ext (Ea (Er w) o));have hc':=λo=>(hp.cy.ext (Ea (Er w) o));obtain ⟨⟨⟨ha,aT,rfl,JX,hh2,hh3⟩,hh4,_⟩,⟨ca,aK,rfl,hc1,hc2,hc3⟩,hc4,_⟩:=hp;obtain ⟨head,frm,period,cycle⟩:=p;dsimp only at *;clear hh3 hc3
 go_in
 go_wp2_with (go_at_call 126;first|((with_reducible refine (Xq _ head _ _ (Qx _)).mono ?_);rintro e w' ⟨rfl,rfl⟩)|((with_reducible refine (Xq _ cycle _ _ (hc' _)).mono ?_);rintro e w' ⟨rfl,rfl⟩))
 all_goals (go_ret;refine ⟨bX ?_,(JV _ _).alloc (TZ _) _⟩;simp [validB, *])
 all_goals omega
theorem tt (v:Value) (l:List Int) (x:Int) (w:World) (hv:Ints w v l) (hs:l.Pairwise (· < ·)) :
  Calls Tryz.prog 216 #[v,.int .i64 x] w λe w'=>e=.returned (.tuple #[.int .i64 ((l.countP (λy=>decide (y<x)):Nat):Int),.bool (decide (x∈l))])/\∃ n,w'=w.drewN n:=by
 obtain ⟨⟨a,c,rfl,h1,h2,h3⟩,h4,h5⟩:=hv;rcases h3 with h3|⟨b,o,rfl,hcell⟩
 .subst h3;exact (Tryz.slices_BinarySearch_int_empty a c x w).mono λe w' ⟨he,hw⟩=>⟨by rw [he];simp,0,hw⟩
 have:=Tryz.slices_BinarySearch_int b o l.length c l x w (TZ _) ad hcell (by rw [OC];exact hs.imp λh=>ad);rw [OC] at this;exact this.mono λe w' ⟨he,hw⟩=>⟨by rw [he];simp,hw⟩
abbrev ar (h c:Value) (f p:Int):Value:=.agg #[h,.int .i64 f,.int .i64 p,c]
def cg (p:Per) (n:Int):Bool:=if n<p.frm then decide (n∈p.head) else decide ((n-p.frm) % p.period∈p.cycle)
theorem Fq {p:Per} {n:Int} (hn:0<=n):cg p n=true↔p.mem n:=by
 unfold cg Per.mem
 split <;> simp [*]
theorem Cl (h c:Value) (p:Per) (n:Int) (w:World) (hp:cj w h c p) (hw:p.WF) (h1:p.frm<=1125899906842624) (h2:p.period<=1125899906842624) (hn:0<=n) (CW:n<=9007199254740992) :
  Calls Tryz.prog 245 #[.agg #[h,.int .i64 p.frm,.int .i64 p.period,c],.int .i64 n] w λe w'=>e=.returned (.bool (cg p n))/\Below w.heap.size w w':=by
 have f0:=hw.frm;have p0:=hw.per;have hs1:=hw.head.1;have hs2:=hw.cyc.1;have hl:∀ W,Below w.heap.size w W->Ints W h p.head:=λW hb=>hp.hd.ext hb;have hc:∀ W,Below w.heap.size w W->Ints W c p.cycle:=λW hb=>hp.cy.ext hb;obtain ⟨head,frm,period,cycle⟩:=p;dsimp only at *;clear hp;by_cases hlt:n<frm
 .have hm:cg ⟨head,frm,period,cycle⟩ n=decide (n∈head):=by unfold cg;rw [if_pos hlt]
  have HM:=af hm;clear hm
  go_in
  go_wp2_with (go_at_call 216;(refine (tt _ head _ _ (hl _ xE) hs1).mono ?_);rintro e w' ⟨rfl,nq,rfl⟩)
  go_ret;exact ⟨bX HM.o.symm,xE⟩
 have hm:cg ⟨head,frm,period,cycle⟩ n=decide ((n-frm) % period∈cycle):=by unfold cg;rw [if_neg hlt]
 have HM:=af hm;clear hm;have hge:frm<=n:=ad;clear hlt
 go_in
 go_wp2_with fail
 go_quiet (fail)
 go_wp2_with (go_at_call 216;(refine (tt _ cycle _ _ (hc _ xE) hs2).mono ?_);rintro e w' ⟨rfl,nq,rfl⟩)
 go_ret;exact ⟨bX HM.o.symm,xE⟩
theorem prod_bound {n q k:Int} (hq:1<=q) (h0:0<=n-f) (hk0:0<=k) (hk:k<=q):0<=(n-f) / q*k/\(n-f) / q*k<=n-f:=by
 have h1:0<=(n-f) / q:=N1 h0 ad;have h2:=K_ h1 hk0;have h3:(n-f) / q*k<=(n-f) / q*q:=NQ hk h1;have h4:=VE (n-f) q;have h5:=VK (n-f) (show q≠0 by omega);omega
theorem q6o (h c:Value) (p:Per) (n:Int) (w:World) (hp:cj w h c p) (hw:p.WF) (h1:p.frm<=1125899906842624) (h2:p.period<=1125899906842624) (hn:0<=n) (CW:n<=9007199254740992) :
  Calls Tryz.prog 225 #[.agg #[h,.int .i64 p.frm,.int .i64 p.period,c],.int .i64 n] w λe w'=>e=.returned (.int .i64 (im p n))/\Below w.heap.size w w':=by
 have f0:=hw.frm;have p0:=hw.per;have hs1:=hw.head.1;have hs2:=hw.cyc.1;have hlc:=hw.cyc.length_le ad;have hl:∀ W,Below w.heap.size w W->Ints W h p.head:=λW hb=>hp.hd.ext hb;have hc:∀ W,Below w.heap.size w W->Ints W c p.cycle:=λW hb=>hp.cy.ext hb;by_cases hlt:n<=p.frm
 .have HM:=af (show im p n=_ by unfold im;rw [if_pos hlt]);clear hp
  go_in
  go_wp2_with (go_at_call 216;(refine (tt _ p.head _ _ (hl _ xE) hs1).mono ?_);rintro e w' ⟨rfl,nq,rfl⟩)
  go_ret;exact ⟨qg HM.o.symm,xE⟩
 have HM:=af (show im p n=_ by unfold im;rw [if_neg hlt]);have hge:p.frm<n:=ad;obtain ⟨hb1,hb2⟩:=prod_bound (n:=n) (f:=p.frm) (k:=p.cycle.length) p0 ad ad ad;have hk2:=Int.ofNat_le.2 (q7u (p:=λy=>decide (y<(n-p.frm) % p.period)) (l:=p.cycle));have fA:=hp.hd.len;have hl2:=hp.cy.len;obtain ⟨⟨⟨ha,aT,rfl,_,_,_⟩,_,_⟩,⟨ca,aK,rfl,_,_,_⟩,_,_⟩:=hp;clear hlt
 go_in
 go_wp2_with fail
 go_quiet ((go_at_call 216;exact VU (tt _ p.cycle _ _ (hc _ xE) hs2)))
 go_wp2_with fail
 go_quiet (fail)
 go_wp2
 go_ret;refine ⟨qg ?_,xE⟩;rw [HM.o]
theorem tn_ (h c:Value) (p:Per) (n:Int) (w:World) (hp:cj w h c p) (hw:p.WF) (h1:p.frm<=1125899906842624) (h2:p.period<=1125899906842624) (hn:0<=n) (CW:n<=9223372036854775807) :
  Calls Tryz.prog 245 #[.agg #[h,.int .i64 p.frm,.int .i64 p.period,c],.int .i64 n] w λe w'=>e=.returned (.bool (cg p n))/\Below w.heap.size w w':=by
 have f0:=hw.frm;have p0:=hw.per;have hs1:=hw.head.1;have hs2:=hw.cyc.1;have hl:∀ W,Below w.heap.size w W->Ints W h p.head:=λW hb=>hp.hd.ext hb;have hc:∀ W,Below w.heap.size w W->Ints W c p.cycle:=λW hb=>hp.cy.ext hb;obtain ⟨head,frm,period,cycle⟩:=p;dsimp only at *;clear hp;by_cases hlt:n<frm
 .have hm:cg ⟨head,frm,period,cycle⟩ n=decide (n∈head):=by unfold cg;rw [if_pos hlt]
  have HM:=af hm;clear hm
  go_in
  go_wp2_with (go_at_call 216;(refine (tt _ head _ _ (hl _ xE) hs1).mono ?_);rintro e w' ⟨rfl,nq,rfl⟩)
  go_ret;exact ⟨bX HM.o.symm,xE⟩
 have hm:cg ⟨head,frm,period,cycle⟩ n=decide ((n-frm) % period∈cycle):=by unfold cg;rw [if_neg hlt]
 have HM:=af hm;clear hm;have hge:frm<=n:=ad;clear hlt
 go_in
 go_wp2_with fail
 go_quiet (fail)
 go_wp2_with (go_at_call 216;(refine (tt _ cycle _ _ (hc _ xE) hs2).mono ?_);rintro e w' ⟨rfl,nq,rfl⟩)
 go_ret;exact ⟨bX HM.o.symm,xE⟩
theorem Nq (h c:Value) (p:Per) (n:Int) (w:World) (hp:cj w h c p) (hn:aS n) :
  Calls Tryz.prog 215 #[.agg #[h,.int .i64 p.frm,.int .i64 p.period,c],.int .i64 n] w λe w'=>e=.returned (.bool (validB p && decide (0<=n) && cg p n))/\Below w.heap.size w w':=by
 have hl:∀ W,Below w.heap.size w W->cj W h c p:=λW hb=>hp.ext hb;clear hp;unfold aS at hn;by_cases hv:validB p=true
 .have hV:=(pg p).1 hv;have HV:=af hV;clear hV;by_cases h0:0<=n
  .skip
   go_in
   go_wp2_with (first|(go_at_call 92;refine (rD h c p _ (hl _ xE)).mono ?_;rintro e w1 ⟨rfl,hb1⟩;obtain ⟨hc1,gG⟩:=bd_ hb1)|(go_at_call 245;refine (tn_ h c p n _ (hl _ xE) HV.o.wf (by have:=HV.o.frm;omega) (by have:=HV.o.per;omega) h0 ad).mono ?_;rintro e w2 ⟨rfl,hb2⟩))
   go_ret;exact ⟨bX (by simp [hv,h0]),xE⟩
  have O6:decide (0<=n)=false:=by simpa using h0
  go_in
  go_wp2_with (go_at_call 92;refine (rD h c p _ (hl _ xE)).mono ?_;rintro e w1 ⟨rfl,hb1⟩;obtain ⟨hc1,gG⟩:=bd_ hb1)
  go_ret;exact ⟨bX (by simp [O6]),xE⟩
 have hv':validB p=false:=by simpa using hv
 clear hv
 go_in
 go_wp2_with (go_at_call 92;refine (rD h c p _ (hl _ xE)).mono ?_;rintro e w1 ⟨rfl,hb1⟩;obtain ⟨hc1,gG⟩:=bd_ hb1)
 go_ret;exact ⟨bX (by simp [hv']),xE⟩
theorem Xc (h c:Value) (p:Per) (w:World) (hp:cj w h c p) :
  Calls Tryz.prog 130 #[.agg #[h,.int .i64 p.frm,.int .i64 p.period,c]] w λe w'=>e=.returned (.bool (validB p && decide (p.cycle=[])))/\Below w.heap.size w w':=by
 have hl:∀ W,Below w.heap.size w W->cj W h c p:=λW hb=>hp.ext hb;obtain ⟨_,⟨ca,aK,rfl,_,_,_⟩,_,_⟩:=hp
 go_in
 go_wp2_with (go_at_call 92;refine (rD _ _ p _ (hl _ xE)).mono ?_;rintro e w1 ⟨rfl,hb1⟩;obtain ⟨hc1,gG⟩:=bd_ hb1)
 all_goals (go_ret;refine ⟨bX ?_,xE⟩;simp [Sp, *])
def Ap (p:Per):Bool:=validB p && decide (p.cycle=[]) && decide (p.head=[])
theorem v7_ (h c:Value) (p:Per) (w:World) (hp:cj w h c p) :
  Calls Tryz.prog 99 #[.agg #[h,.int .i64 p.frm,.int .i64 p.period,c]] w λe w'=>e=.returned (.bool (Ap p))/\Below w.heap.size w w':=by
 have hl:∀ W,Below w.heap.size w W->cj W h c p:=λW hb=>hp.ext hb;obtain ⟨⟨ha,aT,rfl,_,_,_⟩,_,_⟩:=hp.hd;clear hp;cases hv:(validB p && decide (p.cycle=[])) with
 | true=>
  go_in
  go_wp2_with (go_at_call 130;refine (Xc _ _ p _ (hl _ xE)).mono ?_;rintro e w1 ⟨he,hb1⟩;rw [hv] at he;subst he;obtain ⟨hc1,gG⟩:=bd_ hb1)
  all_goals (go_ret;refine ⟨bX ?_,xE⟩;rw [Ap,hv];simp [Sp])
 | false=>
  go_in
  go_wp2_with (go_at_call 130;refine (Xc _ _ p _ (hl _ xE)).mono ?_;rintro e w1 ⟨he,hb1⟩;rw [hv] at he;subst he;obtain ⟨hc1,gG⟩:=bd_ hb1)
  all_goals (go_ret;refine ⟨bX ?_,xE⟩;rw [Ap,hv];simp [Sp])
theorem KD (n m:Int) (w:World) (hm:1<=m) (ix:m<=4611686018427387904) :
  Calls Tryz.prog 256 #[.int .i64 n,.int .i64 m] w λe w'=>e=.returned (.int .i64 (n % m))/\w=w':=by
 obtain ⟨h1,h2,h3,h4⟩:=Ky n m hm;have H1:=af h1;have H2:=af h2;clear h1 h2
 go_in
 go_wp2
 .go_ret;exact ⟨qg (H1.o (by assumption)),rfl⟩
 go_ret;exact ⟨qg (H2.o (by assumption)),rfl⟩
theorem nz_ (n:Int) (w:World) (h0:0<=n) (h1:n<=9223372036854775807) :
  Calls Tryz.prog 211 #[.int .i64 n] w λe w'=>e=.returned (.int .u64 n)/\w=w':=by
 go_in
 go_wp2;go_ret;exact ⟨aj,rfl⟩
theorem Al (a b:Int) (w:World) (ha:1<=a) (ha1:a<=9223372036854775807) (hb:1<=b) (hb1:b<=9223372036854775807) :
  Calls Tryz.prog 176 #[.int .i64 a,.int .i64 b] w λe w'=>e=.returned (.int .i64 (Int.gcd a b:Nat))/\∃ n,w'=w.drewN n:=by
 have hg:=oA (b:=b) ha;have hg2:=xw (a:=a) hb;generalize hgd:((Int.gcd a b:Nat):Int)=g at *;have HG:=af hgd;clear hgd
 go_in
 go_wp2_with (go_at_call 211;refine (nz_ _ _ ad ad).mono ?_;rintro e w' ⟨rfl,rfl⟩)
 go_loopw [5,6] (λvx vy wr=>∃ x y:Int,vx=.int .u64 x/\vy=.int .u64 y/\0<=x/\x<=9223372036854775807/\0<=y/\y<=9223372036854775807/\Int.gcd x y=Int.gcd a b/\∃ n,wr=w.drewN n) (λ_ vy _=>(intOf vy).toNat)
 .exact ⟨a,b,rfl,rfl,ad,ha1,ad,hb1,rfl,0,rfl⟩
 obtain ⟨x,y,rfl,rfl,hx0,hx1,yF,hy1,Gp,n,rfl⟩:=hrel;have HX:=af Gp;clear Gp;by_cases hz:y=0
 .subst hz;have C6:x=g:=by have:=gcd_zero hx0;rw [HX.o,HG.o] at this;exact this.symm
  have Cg:=af C6;clear C6;have hxb:¬ 9223372036854775807<x:=ad;go_wp2;go_ret;exact ⟨qg Cg.o,n,rfl⟩
 have hs:=R1 hx0 (show 0<y by omega);rw [HX.o] at hs;have HS:=af hs;clear hs;have hm0:=VK x (show y≠0 by omega);have hm1:=VM x (show 0<y by omega);have hzb:(y != 0)=true:=by rw [OD];omega
 have oT:0<y:=ad;clear hz;go_wp2_with fail;go_quiet (fail)
 go_wp2
 go_roundw
 .exact ⟨y,x % y,rfl,rfl,yF,hy1,hm0,ad,HS.o,_,NP _ _ _⟩
 simp [intOf];omega
theorem WA (a m:Int) (w:World) (ha:0<=a) (JP:a<m) (hm:m<=1152921504606846976) (hg:Int.gcd a m=1) :
  Calls Tryz.prog 258 #[.int .i64 a,.int .i64 m] w λe w'=>e=.returned (.int .i64 (sQ a m))/\∃ n,w'=w.drewN n:=by
 have HG:=af hg;clear hg
 go_in
 go_wp2
 go_loopw [5,6,7,8] (λvx vy vs vt wr=>∃ x y s t:Int,vx=.int .i64 x/\vy=.int .i64 y/\vs=.int .i64 s/\vt=.int .i64 t/\EE a m x y s t/\∃ n,wr=w.drewN n) (λ_ vy _ _ _=>(intOf vy).toNat)
 .exact ⟨a,m,1,0,rfl,rfl,rfl,rfl,EE.start ha JP,0,rfl⟩
 obtain ⟨x,y,s,t,rfl,rfl,rfl,rfl,hE,n,rfl⟩:=hrel;have hx0:=hE.x0;have yF:=hE.y0;have ku:=hE.xm;have sP:=hE.ym;obtain ⟨hs1,hs2⟩:=hE.sb;obtain ⟨oO,yC⟩:=hE.tb;by_cases hz:y=0
 .subst hz;have HI:=af (Nu (WB hE HG.o ad));go_wp2_with (go_at_call 256;refine (KD _ _ _ ad ad).mono ?_;rintro e w' ⟨rfl,rfl⟩);go_ret;exact ⟨qg HI.o.symm,n,rfl⟩
 have oT:0<y:=ad;obtain ⟨cE,⟨h1,h2⟩,h3,h4,h5,h6,h7,h8⟩:=hE.step oT;have hs3:=cE.tb;have hzb:(y != 0)=true:=by rw [OD];omega
 have H7:=af h7;clear hz h7;go_wp2_with fail
 repeat (go_quiet (fail);go_wp2_with fail)
 go_roundw
 .exact ⟨y,x-x / y*y,t,s-x / y*t,rfl,rfl,rfl,rfl,cE,_,rfl⟩
 have:=H7.o;simp [intOf];omega
theorem WG (lo y:Int) (w:World) (h0:0<=lo) (h1:lo<=18446744073709551615) (hy:1<=y) (hy1:y<=18446744073709551615) :
  Calls Tryz.prog 220 #[.int .u64 0,.int .u64 lo,.int .u64 y] w λe w'=>e=.returned (.tuple #[.int .u64 (lo / y),.int .u64 (lo % y)])/\∃ n,w'=w.drewN n:=by
 have hyb:(y == 0)=false:=by rw [beq_eq_false_iff_ne];omega
 have oT:0<y:=ad;have mU:0<=lo / y:=N1 h0 ad;have qD:lo / y<=lo:=z_ _ h0
 go_in
 go_wp2_with fail
 go_quiet (fail)
 go_wp2
 go_ret2;exact ⟨rfl,_,rfl⟩
end
end Go.Proofs.YtbmgmlbmgogeaaaGreat
end
