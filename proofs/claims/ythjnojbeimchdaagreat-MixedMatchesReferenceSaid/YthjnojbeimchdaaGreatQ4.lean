/- Part 4 of the proof of MixedMatchesReference_said. -/
import Derived.Test.YthjnojbeimchdaaGreatQ3
import Derived.Test.YthjnojbeimchdaaGreatQ1
import Derived.Laws.EntriesVeiled
import Derived.Test.YthjnojbeimchdaaGreatQ2
import Derived.Lib.AppendZerosOnto
import Derived.Deep.Cut
import Derived.Deep.CutBlock
import Derived.Deep.DeepCutAuto
import Derived.Test.YthjnojbeimchdaaGreatRows
import Derived.WalkKit
import Derived.ProofKit
import Derived.OpenShut
import Derived.ShutString
import Derived.ChangeOld
import Derived.Below
import Derived.Lib.SmallJoins
set_option linter.unusedVariables false
set_option linter.unusedSimpArgs false
set_option maxRecDepth 100000
set_option maxHeartbeats 4000000
section
variable {ops:Array Go.Oper}{a n r s st x:Int}{m:List (List Kal.Per)}{l ys:List Int}{rest:List Go.Oper}{t:List Kal.Per}{cs:List Go.Value}{B R base c cap g hi i k mb ob:Nat}{o:Go.Oper}{row:Option Nat}{p q qa qb:Kal.Per}{c1 c2 h1 h2 v xv yv:Go.Value}{A W W' W1 w w':Go.World}
namespace Go.Proofs.YthjnojbeimchdaaGreat
open Go.RowKit Go.Maps Kal
def g4_ (w:World) (mb:Nat) (g:Int) (ys:List Int):Prop:=
 ∀ r,InI r->∃ v,(∀ W,Below w.heap.size w W->(Instr.lookup 137 (.map (some mb)) (.int .i64 r) false).run Tryz.prog W=.ok v W)∧Ints w v (grp ys g r)
theorem g4_.ext {g:Int} (h:g4_ w mb g ys) (hb:Below w.heap.size w W):g4_ W mb g ys:=fun r hr=>by
 obtain ⟨v,h1,h2⟩:=h r hr;exact ⟨v,fun W' hb'=>h1 W' (hb.trans (hb'.mono hb.size)),h2.ext hb⟩
theorem dh_.looks {g:Int} (h:dh_ w mb hi g ys):g4_ w mb g ys:=fun r hr=>by
 obtain ⟨v0,hr0,hv0⟩:=h.look hr;obtain ⟨es,clock,n,base,D,hbs,hb,hn,hown,_⟩:=h;obtain ⟨v,zs,h1,_⟩:=ic_ hown hn hr;have e:=h1 w rfl;rw [hr0] at e;injection e with e
 subst e;exact ⟨v0,fun W hW=>h1 W (hW.block mb (Array.getElem?_eq_some_iff.1 hb).1),hv0.ints⟩
structure ej_ (w:World) (h1 c1 h2 c2:Value) (qa qb:Per) (st:Int) (xv yv:Value) (g:Int) (mb:Nat):Prop where
 a:a8_ w h1 c1 qa
 b:a8_ w h2 c2 qb
 x:Ints w xv (a0_ (cycL qa st))
 y:Ints w yv (a0_ (cycL qb st))
 m:g4_ w mb g (a0_ (cycL qb st))
theorem ej_.ext {g:Int} (h:ej_ w h1 c1 h2 c2 qa qb st xv yv g mb) (hb:Below w.heap.size w W):ej_ W h1 c1 h2 c2 qa qb st xv yv g mb:=
 ⟨h.a.ext hb,h.b.ext hb,h.x.ext hb,h.y.ext hb,h.m.ext hb⟩
theorem eu_.at {lo:Nat} (h:eu_ w lo hi h1 c1 h2 c2 qa qb st xv yv mb):ej_ w h1 c1 h2 c2 qa qb st xv yv (Int.gcd qa.period qb.period:Nat) mb:=
 ⟨h.a.is,h.b.is,h.x.ints,h.y.ints,h.m.looks⟩
theorem beqI (a b:Int):(a == b)=decide (a=b):=by by_cases h:a=b <;> simp [h]
def e3_ (ys:List Int) (g b n:Int):Bool:=decide (((grp ys g (n % g)).length:Int)=b / g)
theorem hk_ (h1 c1 h2 c2:Value) (qa qb:Per) (st:Int) (xv yv:Value) (g:Int) (mb:Nat) (n:Int) (w:World) (hP:ej_ w h1 c1 h2 c2 qa qb st xv yv g mb) (hg:1≤g) (hg1:g≤562949953421312) (hn:0≤n) (hn1:n≤9007199254740992)
  (hp:1≤qb.period) (hp1:qb.period≤562949953421312) :
  Calls Tryz.prog 181 #[em_ h1 c1 h2 c2 qa qb st xv yv g mb,.int .i64 n] w fun e w'=>e=.returned (.bool (e3_ (a0_ (cycL qb st)) g qb.period n))∧Below w.heap.size w w':=by
 have hm0:=Int.emod_nonneg n (show g≠0 by omega);have hm1:=Int.emod_lt_of_pos n (show 0<g by omega);have hlk:=hP.m (n % g) ⟨oq_,oq_⟩;obtain ⟨v,hlk,hv⟩:=hlk;obtain ⟨⟨va,vc,rfl,_⟩,hvl,_⟩:=hv;obtain ⟨xa,xc,rfl⟩:∃ a c,xv=.slice a (a0_ (cycL qa st)).length c:=by obtain ⟨⟨a,c,e,_⟩,_⟩:=hP.x;exact ⟨a,c,e⟩
 obtain ⟨ya,yc,rfl⟩:∃ a c,yv=.slice a (a0_ (cycL qb st)).length c:=by obtain ⟨⟨a,c,e,_⟩,_⟩:=hP.y;exact ⟨a,c,e⟩
 obtain ⟨a1,k1,a2,k2,rfl,rfl⟩:=hP.a.inn.form;obtain ⟨a3,k3,a4,k4,rfl,rfl⟩:=hP.b.inn.form;have hL:∀ W,Below w.heap.size w W->∀ nq,(Instr.lookup 137 (.map (some mb)) (.int .i64 (n % g)) false).run Tryz.prog (W.drewN nq)=.ok (.slice va (grp (a0_ (cycL qb st)) g (n % g)).length vc) (W.drewN nq):=fun W hb nq=>hlk _ xE;obtain ⟨F,hF⟩:∃ F,F=e3_ (a0_ (cycL qb st)) g qb.period n:=⟨_,rfl⟩;have HF:=hq_ hF;rw [<- hF];unfold e3_ at hF;generalize (a0_ (cycL qb st))=ys at *;generalize (a0_ (cycL qa st))=xs at *;generalize hlen:(grp ys g (n % g)).length=len at *;have HLEN:=hq_ hlen;clear hlen;clear hlk hP
 go_enter Tryz.func181,Tryz.ntmps181
 go_wp2_with fail
 have hL2:=hL _ (Ea (Er w) (.cells #[.slice a1 qa.head.length k1,.int .i64 qa.frm,.int .i64 qa.period,.slice a2 qa.cycle.length k2,.slice a3 qb.head.length k3,.int .i64 qb.frm,.int .i64 qb.period,.slice a4 qb.cycle.length k4,.int .i64 st,.slice xa xs.length xc,.slice ya ys.length yc,.int .i64 g,.map (some mb)] 139));go_quiet (fail)
 go_wp2_with fail
 go_ret;refine ⟨ac_ ?_,xE⟩;rw [HF.out];unfold e3_;rw [HLEN.out,beqI]
def comN (xs ys:List Int) (g:Int):Nat:=(xs.map fun x=>(grp ys g (x % g)).length).sum
theorem sv_ {xs:List Int} {g:Int} (h:k<xs.length):comN (xs.take (k+1)) ys g=comN (xs.take k) ys g+(grp ys g (xs.getD k 0 % g)).length:=by
 unfold comN;rw [List.take_succ_eq_append_getElem h,List.map_append,List.sum_append,List.getD_eq_getElem?_getD,List.getElem?_eq_getElem h];simp
theorem w1_ {xs:List Int} {g:Int} (k:Nat):comN (xs.take k) ys g≤comN xs ys g:=by
 unfold comN
 conv=>rhs;rw [<- List.take_append_drop k xs,List.map_append,List.sum_append]
 omega
theorem qf_ (h1 c1 h2 c2:Value) (qa qb:Per) (st:Int) (xv yv:Value) (g:Int) (mb:Nat) (w:World) (hP:ej_ w h1 c1 h2 c2 qa qb st xv yv g mb) (hg:1≤g) (hg1:g≤562949953421312)
  (hx:∀ x∈a0_ (cycL qa st),0≤x∧x≤562949953421312) (hc:comN (a0_ (cycL qa st)) (a0_ (cycL qb st)) g≤4611686018427387904) :
  Calls Tryz.prog 149 #[em_ h1 c1 h2 c2 qa qb st xv yv g mb] w fun e w'=>e=.returned (.int .i64 (comN (a0_ (cycL qa st)) (a0_ (cycL qb st)) g:Nat))∧Below w.heap.size w w':=by
 have hP0:=hP;obtain ⟨⟨xa,xc,rfl,_⟩,hxl,_⟩:=hP.x;obtain ⟨ya,yc,rfl⟩:∃ a c,yv=.slice a (a0_ (cycL qb st)).length c:=by obtain ⟨⟨a,c,e,_⟩,_⟩:=hP.y;exact ⟨a,c,e⟩
 obtain ⟨a1,k1,a2,k2,rfl,rfl⟩:=hP.a.inn.form;obtain ⟨a3,k3,a4,k4,rfl,rfl⟩:=hP.b.inn.form;obtain ⟨ys,hys⟩:∃ ys,ys=a0_ (cycL qb st):=⟨_,rfl⟩;obtain ⟨xs,hxs⟩:∃ xs,xs=a0_ (cycL qa st):=⟨_,rfl⟩;have HM:Hid (g4_ w mb g ys):=hq_ (hys ▸ hP.m);have HX:Hid (Ints w (.slice xa xs.length xc) xs):=hq_ (by rw [hxs];exact hP.x);rw [<- hys,<- hxs];rw [<- hys,<- hxs] at hc;rw [<- hxs] at hx hxl;clear hP hys hxs hP0
 go_enter Tryz.func149,Tryz.ntmps149
 go_wp2_with fail
 generalize hW0:w.alloc _=W0;have hE:Below w.heap.size w W0:=by rw [<- hW0];exact xE
 have hbx:Bxx W0 w.heap.size #[.slice a1 qa.head.length k1,.int .i64 qa.frm,.int .i64 qa.period,.slice a2 qa.cycle.length k2,.slice a3 qb.head.length k3,.int .i64 qb.frm,.int .i64 qb.period,.slice a4 qb.cycle.length k4,.int .i64 st,.slice xa xs.length xc,.slice ya ys.length yc,.int .i64 g,.map (some mb)] 139:=by rw [<- hW0];exact Bxx.new _ _ _
 have q11:=(hbx.cells 11).1;have q12:=(hbx.cells 12).1;have HE:=hq_ hE;have HBX:=hq_ hbx;clear hW0 hbx hE
 go_loopw [9,3] (fun i n wr=>∃ (k q:Nat),k≤xs.length∧i=.int .i64 k∧n=.int .i64 (comN (xs.take k) ys g:Nat)∧wr=W0.drewN q) (fun i _ _=>xs.length-(intOf i).toNat)
 case atStart=>exact ⟨0,0,oq_,rfl,rfl,rfl⟩
 case round=>
  obtain ⟨k,q,hk,rfl,rfl,rfl⟩:=hrel
  by_cases hlt:k<xs.length
  ·have hxI:=hx (xs.getD k 0) (ah_ hlt);have hsu:=sv_ (xs:=xs) (ys:=ys) (g:=g) hlt;have hle:=w1_ (xs:=xs) (ys:=ys) (g:=g) (k+1);obtain ⟨⟨a8,c8,he8,_,_,h38⟩,_,_⟩:=HX.out.ext HE.out;injection he8 with he1 he2 he3
   subst he1;subst he3;rcases h38 with h38|⟨b8,f8,rfl,hcell⟩
   ·rw [h38] at hlt;simp at hlt
   have hcl:=hcell k hlt;have hkI:(k:Int)<xs.length:=oq_;obtain ⟨x,hxx⟩:∃ x,x=xs.getD k 0:=⟨_,rfl⟩;rw [<- hxx] at hcl hxI hsu;have hm0:=Int.emod_nonneg x (show g≠0 by omega);have hm1:=Int.emod_lt_of_pos x (show 0<g by omega);obtain ⟨v,hlk,hv⟩:=HM.out (x % g) ⟨oq_,oq_⟩;obtain ⟨⟨va,vc,rfl,_⟩,hvl,_⟩:=hv;have hL2:∀ nq,(Instr.lookup 137 (.map (some mb)) (.int .i64 (x % g)) false).run Tryz.prog (W0.drewN nq)=.ok (.slice va (grp ys g (x % g)).length vc) (W0.drewN nq):=fun nq=>hlk _ (En HE.out nq);obtain ⟨len,hlen⟩:∃ len,len=(grp ys g (x % g)).length:=⟨_,rfl⟩;rw [<- hlen] at hsu hvl hL2;rw [hsu] at hle;obtain ⟨n0,hn0⟩:∃ n0,n0=comN (xs.take k) ys g:=⟨_,rfl⟩;rw [<- hn0] at hsu hle ⊢;have HS:=hq_ hsu;clear hlk hsu hlen hxx hcell hn0;go_wp2_with fail
   go_quiet (fail)
   go_wp2_with fail
   go_roundw
   case rel=>exact ⟨k+1,_,oq_,by go_num,by rw [HS.out];go_num,rfl⟩
   case measure=>simp [intOf];omega
  ·obtain rfl:k=xs.length:=oq_;go_wp2_with fail
   go_ret;exact ⟨by rw [List.take_length];rfl,En HE.out _⟩
theorem nr_ {a:Act} {Q:Exit->Act->World->Prop} (hgd:o.guard=none) (s x:Operand)
  (ho:o.op=.call { callee:=.builtin .append,args:=#[s,x],argTypes:=#[37,37] }) (base:Nat) (v:Value) (l:List Int) (y:Int) (hs:a.eval s=v) (hown:OwnI w base v l)
  (blk c:Nat) (hx:a.eval x=.slice (some ⟨blk,0,none⟩) 1 c) (hnew:w.cell? ⟨blk,0,none⟩=some (.int .i64 y)) (hy:InI y) (hlen:l.length+1≤17592186044416) (hbase:base≤w.heap.size)
  (h:∀ g cap w',OwnI w' base (.slice (some ⟨g,0,none⟩) (l.length+1) cap) (l ++ [y])->w.grownBy w' v.ownBlock->Below base w w'->(v.ownBlock=some g∨w.heap.size≤g)->wpList Tryz.prog ops Q rest (a.put o.dst (.slice (some ⟨g,0,none⟩) (l.length+1) cap)) w') :
  wpList Tryz.prog ops Q (o :: rest) a w:=by
 obtain ⟨i,hi,h1,h2,h3⟩:=dt_;refine wpList_append_lies w hgd s x 37 ho base 3 i (.int .i64 0) 1 8 Tryz.underlying37 hi h1 h2 h3 rfl oq_ v l.length (l.map (Value.int .i64)) hs hown.row ⟨blk,0,none⟩ 1 c [.int .i64 y] hx rfl ?_ (by simp [Value.oneCell']) oq_ (by unfold maxLen;omega) oq_ hbase _ rfl ?_
 ·intro j u hu
  match j,hu with
  | 0,hu=>simp at hu;subst hu;exact hnew
 ·intro g cap w' hown' hgrow hloc _;exact h g cap w' (OwnI.appended hown.rng hy hlen hown') hgrow (hown.below_grown (W0:=w) (.inr trivial) hbase hgrow) (hloc.imp id fun e=>oq_)
theorem r6_ {xs:List Int} {b:Int} (h:k<xs.length):c1_ (xs.take (k+1)) ys a b st=c1_ (xs.take k) ys a b st ++ (grp ys (Int.gcd a b:Nat) (xs.getD k 0 % (Int.gcd a b:Nat))).map fun y=>st+bg_ (xs.getD k 0) a y b:=by
 unfold c1_ grp;rw [List.take_succ_eq_append_getElem h,List.flatMap_append,List.getD_eq_getElem?_getD,List.getElem?_eq_getElem h];simp
theorem ug_ {xs:List Int} {b:Int} (k:Nat):(c1_ (xs.take k) ys a b st).length≤(c1_ xs ys a b st).length:=by
 unfold c1_
 conv=>rhs;rw [<- List.take_append_drop k xs,List.flatMap_append,List.length_append]
 omega
def wk_ (base:Nat) (l:List Int) (w:World) (e:Ending) (w':World):Prop:=∃ v,e=.returned v∧OwnI w' base v l∧Below base w w'
theorem mm_ {α β:Type} (f:α->β) {l:List α} (h:k<l.length):(l.take (k+1)).map f=(l.take k).map f ++ [f l[k]]:=by
 rw [List.take_succ_eq_append_getElem h,List.map_append];rfl
structure hu_ (base:Nat) (w:World) (h1 c1 h2 c2:Value) (qa qb:Per) (st:Int) (xv yv:Value) (g:Int) (mb:Nat):Prop where
 a:∀ W,Below base w W->a8_ W h1 c1 qa
 b:∀ W,Below base w W->a8_ W h2 c2 qb
 x:∀ W,Below base w W->Ints W xv (a0_ (cycL qa st))
 y:∀ W,Below base w W->Ints W yv (a0_ (cycL qb st))
 m:∀ r,InI r->∃ v,∀ W,Below base w W->(Instr.lookup 137 (.map (some mb)) (.int .i64 r) false).run Tryz.prog W=.ok v W∧Ints W v (grp (a0_ (cycL qb st)) g r)
theorem eu_.pairB {lo:Nat} (h:eu_ w lo hi h1 c1 h2 c2 qa qb st xv yv mb) (hb:hi≤base):hu_ base w h1 c1 h2 c2 qa qb st xv yv (Int.gcd qa.period qb.period:Nat) mb:=by
 refine ⟨fun W hW=>(h.a.below hW hb).is,fun W hW=>(h.b.below hW hb).is,fun W hW=>(h.x.below hW hb).ints,fun W hW=>(h.y.below hW hb).ints,fun r hr=>?_⟩;obtain ⟨v0,hr0,hv0⟩:=h.m.look hr;obtain ⟨es,clock,n,b9,D,hbs,hb9,hn,hown,_,hlt,_⟩:=h.m;obtain ⟨v,zs,h1,_⟩:=ic_ hown hn hr;have e:=nx_ (hr0.symm.trans (h1 w rfl));subst e;exact ⟨v0,fun W hW=>⟨h1 W (hW.block mb oq_),(hv0.below hW hb).ints⟩⟩
theorem hu_.below {g:Int} (h:hu_ base w h1 c1 h2 c2 qa qb st xv yv g mb) (hb:Below base w W):hu_ base W h1 c1 h2 c2 qa qb st xv yv g mb:=
 ⟨fun W' h'=>h.a W' (hb.trans h'),fun W' h'=>h.b W' (hb.trans h'),fun W' h'=>h.x W' (hb.trans h'),fun W' h'=>h.y W' (hb.trans h'),fun r hr=>let ⟨v,hv⟩:=h.m r hr;⟨v,fun W' h'=>hv W' (hb.trans h')⟩⟩
theorem hu_.at {g:Int} (h:hu_ base w h1 c1 h2 c2 qa qb st xv yv g mb) (hb:base≤w.heap.size):ej_ w h1 c1 h2 c2 qa qb st xv yv g mb:=
 ⟨h.a w (Below.refl _ _),h.b w (Below.refl _ _),h.x w (Below.refl _ _),h.y w (Below.refl _ _),fun r hr=>let ⟨v,hv⟩:=h.m r hr;⟨v,fun W hW=>(hv W (hW.mono hb)).1,(hv w (Below.refl _ _)).2⟩⟩
theorem v2_ (h1 c1 h2 c2:Value) (qa qb:Per) (st:Int) (xv yv:Value) (g:Int) (mb base:Nat) (hv:Value) (l:List Int) (w:World) (hP:hu_ base w h1 c1 h2 c2 qa qb st xv yv g mb)
  (hg:g=(Int.gcd qa.period qb.period:Nat)) (ha:1≤qa.period) (ha1:qa.period≤4294967295) (hb:1≤qb.period) (hb1:qb.period≤4294967295) (hL:lcmI qa.period qb.period≤1099511627776) (hs0:0≤st) (hs1:st≤562949953421312)
  (hx:Rise 0 qa.period (a0_ (cycL qa st))) (hy:Rise 0 qb.period (a0_ (cycL qb st))) (hown:OwnI w base hv l) (hbase:base≤w.heap.size)
  (hlen:l.length+(c1_ (a0_ (cycL qa st)) (a0_ (cycL qb st)) qa.period qb.period st).length≤4398046511104) :
  Calls Tryz.prog 150 #[em_ h1 c1 h2 c2 qa qb st xv yv g mb,hv] w (wk_ base (l ++ c1_ (a0_ (cycL qa st)) (a0_ (cycL qb st)) qa.period qb.period st) w):=by
 have hP0:=hP.at hbase;obtain ⟨⟨xa,xc,rfl,_⟩,hxl,_⟩:=hP0.x;obtain ⟨ya,yc,rfl⟩:∃ a c,yv=.slice a (a0_ (cycL qb st)).length c:=by obtain ⟨⟨a,c,e,_⟩,_⟩:=hP0.y;exact ⟨a,c,e⟩
 obtain ⟨a1,k1,a2,k2,rfl,rfl⟩:=hP0.a.inn.form;obtain ⟨a3,k3,a4,k4,rfl,rfl⟩:=hP0.b.inn.form;have HP:=hq_ hP;have hg1:=bn_ (b:=qb.period) ha;have HG:=hq_ hg;rw [<- hg] at hg1;have HX:=hq_ hx;have HY:=hq_ hy;have HM:=fun k=>ug_ (xs:=a0_ (cycL qa st)) (ys:=a0_ (cycL qb st)) (a:=qa.period) (b:=qb.period) (st:=st) k;have HMS:=fun k=>r6_ (xs:=a0_ (cycL qa st)) (ys:=a0_ (cycL qb st)) (a:=qa.period) (b:=qb.period) (st:=st) (k:=k);rw [<- hg] at HMS;have HMH:=hq_ HM;have HMSH:=hq_ HMS;obtain ⟨M,hM⟩:∃ M:Nat->List Int,M=fun k=>c1_ ((a0_ (cycL qa st)).take k) (a0_ (cycL qb st)) qa.period qb.period st:=⟨_,rfl⟩;have HMM:=hq_ hM;have HOWN:=hq_ hown;have hMe:M (a0_ (cycL qa st)).length=c1_ (a0_ (cycL qa st)) (a0_ (cycL qb st)) qa.period qb.period st:=by rw [hM];simp only [List.take_length]
 rw [<- hMe];rw [<- hMe] at hlen HMH;clear hP hP0 hg hx hy HM HMS hM hown hMe;obtain ⟨hva,hvc,rfl⟩:=HOWN.out.form
 go_enter Tryz.func150,Tryz.ntmps150
 go_wp2_with fail
 generalize hW0:w.alloc _=W0;have hE:Below base w W0:=by rw [<- hW0];exact (Below.refl _ _).alloc hbase _
 have hbx:Bxx W0 w.heap.size #[.slice a1 qa.head.length k1,.int .i64 qa.frm,.int .i64 qa.period,.slice a2 qa.cycle.length k2,.slice a3 qb.head.length k3,.int .i64 qb.frm,.int .i64 qb.period,.slice a4 qb.cycle.length k4,.int .i64 st,.slice xa (a0_ (cycL qa st)).length xc,.slice ya (a0_ (cycL qb st)).length yc,.int .i64 g,.map (some mb)] 139:=by rw [<- hW0];exact Bxx.new _ _ _
 have hown0:OwnI W0 base (.slice hva l.length hvc) l:=by rw [<- hW0];exact HOWN.out.ext (Ea (Er _) _)
 have hob0:∀ k,(Value.slice hva l.length hvc).ownBlock=some k->k≠w.heap.size:=fun k hk=>by have:=(HOWN.out.lt k hk).2;omega
 have q9:=(hbx.cells 9).1;have HE:=hq_ hE;have HBX:=hq_ hbx;have HOW0:=hq_ hown0;have HOB0:=hq_ hob0;clear hW0 hbx hE hown0 hob0;go_wp2_with fail
 go_loopw [15,1] (fun i h wr=>∃ k:Nat,k≤(a0_ (cycL qa st)).length∧i=.int .i64 k∧OwnI wr base h (l ++ M k)∧Bxx wr w.heap.size #[.slice a1 qa.head.length k1,.int .i64 qa.frm,.int .i64 qa.period,.slice a2 qa.cycle.length k2,.slice a3 qb.head.length k3,.int .i64 qb.frm,.int .i64 qb.period,.slice a4 qb.cycle.length k4,.int .i64 st,.slice xa (a0_ (cycL qa st)).length xc,.slice ya (a0_ (cycL qb st)).length yc,.int .i64 g,.map (some mb)] 139∧(∀ k,h.ownBlock=some k->k≠w.heap.size)∧Below base w wr) (fun i _ _=>(a0_ (cycL qa st)).length-(intOf i).toNat)
 case atStart=>exact ⟨0,oq_,rfl,by rw [HMM.out];simpa [c1_] using HOW0.out,HBX.out,HOB0.out,HE.out⟩
 case round=>
  obtain ⟨k,hk,rfl,hown,hbx,hob,hbw⟩:=hrel;have hszw:=hbw.size;have hbs:w.heap.size<wr.heap.size:=hbx.lt
  by_cases hlt:k<(a0_ (cycL qa st)).length
  ·have q11:=(hbx.cells 11).1;have q12:=(hbx.cells 12).1;obtain ⟨⟨a8,c8,he8,_,_,h38⟩,_,_⟩:=HP.out.x wr hbw;injection he8 with he1 he2 he3
   subst he1;subst he3;rcases h38 with h38|⟨b8,f8,rfl,hcell⟩
   ·rw [h38] at hlt;simp at hlt
   have hcl:=hcell k hlt;have hxm:=ah_ hlt;have hxI:=HX.out.2 _ hxm;have hsu:=HMSH.out k hlt;have hle:=HMH.out (k+1);have hkI:(k:Int)<(a0_ (cycL qa st)).length:=oq_;generalize hxx:(a0_ (cycL qa st)).getD k 0=x at *;have hm0:=Int.emod_nonneg x (show g≠0 by omega);have hm1:=Int.emod_lt_of_pos x (show 0<g by omega);obtain ⟨v,hvm⟩:=HP.out.m (x % g) ⟨oq_,oq_⟩;have hgm:∀ y∈grp (a0_ (cycL qb st)) g (x % g),y∈a0_ (cycL qb st)∧y % g=x % g:=fun y hy=>by simpa [grp] using hy
   have hsu2:M (k+1)=M k ++ (grp (a0_ (cycL qb st)) g (x % g)).map fun y=>st+bg_ x qa.period y qb.period:=by rw [HMM.out];exact hsu
   obtain ⟨zs,hzs⟩:∃ zs,zs=grp (a0_ (cycL qb st)) g (x % g):=⟨_,rfl⟩;rw [<- hzs] at hvm hgm hsu2;have hMle:(M (k+1)).length≤(M (a0_ (cycL qa st)).length).length:=by rw [HMM.out] at hle ⊢;exact hle
   rw [hsu2,List.length_append,List.length_map] at hMle;obtain ⟨va,vc,rfl⟩:∃ a c,v=.slice a zs.length c:=by obtain ⟨_,⟨⟨a,c,e,_⟩,_⟩⟩:=hvm w (Below.refl _ _);exact ⟨a,c,e⟩
   obtain ⟨wo,hwo⟩:∃ wo:World,wo=wr:=⟨_,rfl⟩;rw [<- hwo] at hown hbx hbw hbs hszw hcl hcell q11 q12 ⊢;have hzl:zs.length≤17592186044416:=(hvm w (Below.refl _ _)).2.len;have hL2:∀ nq,(Instr.lookup 137 (.map (some mb)) (.int .i64 (x % g)) false).run Tryz.prog (wo.drewN nq)=.ok (.slice va zs.length vc) (wo.drewN nq):=fun nq=>(hvm _ (Below.drewN hbw nq)).1;obtain ⟨L8,hL8⟩:∃ L8,L8=l ++ M k:=⟨_,rfl⟩;rw [<- hL8] at hown;obtain ⟨hua,huc,rfl⟩:=hown.form;have HL8:=hq_ hL8;have HOWNo:=hq_ hown;have HBXo:=hq_ hbx;have HBWo:=hq_ hbw;have HOBo:=hq_ hob;have HVM:=hq_ hvm;have HSU2:=hq_ hsu2;have HGM:=hq_ hgm;clear hown hbx hbw hob hvm hgm hsu2 hcell hsu hle hwo hzs hL8;go_wp2_with fail
   go_quiet (fail)
   go_wp2_with fail
   go_loopw [27,1] (fun i h wr=>∃ j:Nat,j≤zs.length∧i=.int .i64 j∧OwnI wr base h (L8 ++ (zs.take j).map fun y=>st+bg_ x qa.period y qb.period)∧Bxx wr w.heap.size #[.slice a1 qa.head.length k1,.int .i64 qa.frm,.int .i64 qa.period,.slice a2 qa.cycle.length k2,.slice a3 qb.head.length k3,.int .i64 qb.frm,.int .i64 qb.period,.slice a4 qb.cycle.length k4,.int .i64 st,.slice (some ⟨b8,f8,none⟩) (a0_ (cycL qa st)).length xc,.slice ya (a0_ (cycL qb st)).length yc,.int .i64 g,.map (some mb)] 139∧(∀ k,h.ownBlock=some k->k≠w.heap.size)∧Below base w wr) (fun i _ _=>zs.length-(intOf i).toNat)
   case atStart=>exact ⟨0,oq_,rfl,by rw [List.take_zero,List.map_nil,List.append_nil];exact HOWNo.out.ext (En (Er _) _),HBXo.out.below (En (Er _) _),HOBo.out,Below.drewN HBWo.out _⟩
   case round=>
    obtain ⟨j,hj,rfl,hown,hbx,hob,hbw⟩:=hrel;have hszr:=hbw.size;have hbsr:w.heap.size<wr.heap.size:=hbx.lt
    by_cases hlj:j<zs.length
    ·have r2:=(hbx.cells 2).1;have r6:=(hbx.cells 6).1;have r8:=(hbx.cells 8).1;obtain ⟨_,⟨⟨a9,c9,he9,_,_,h39⟩,_,_⟩⟩:=HVM.out wr hbw;injection he9 with he1 he2 he3
     subst he1;subst he3;rcases h39 with h39|⟨b9,f9,rfl,hcell9⟩
     ·rw [h39] at hlj;simp at hlj
     have hcl9:=hcell9 j hlj;have hym:=HGM.out _ (ah_ hlj);have hyI:=HY.out.2 _ hym.1;have hjI:(j:Int)<zs.length:=oq_;have htk:(zs.take (j+1)).map (fun y=>st+bg_ x qa.period y qb.period)=(zs.take j).map (fun y=>st+bg_ x qa.period y qb.period) ++ [st+bg_ x qa.period (zs.getD j 0) qb.period]:=by
      rw [mm_ _ hlj,List.getD_eq_getElem?_getD,List.getElem?_eq_getElem hlj];rfl
     generalize hyy:zs.getD j 0=y at *;have hsol:=eg_ (x:=x) (a:=qa.period) (y:=y) (b:=qb.period) ha hb (by rw [<- HG.out];exact hym.2.symm);have hs5:0≤bg_ x qa.period y qb.period∧bg_ x qa.period y qb.period≤1099511627776:=⟨hsol.1,by have:=hsol.2.1;omega⟩;have hdiv:(y % qb.period-x % qa.period) % (Int.gcd qa.period qb.period:Nat)=0:=by
      rw [Int.emod_eq_of_lt hyI.1 hyI.2,Int.emod_eq_of_lt hxI.1 hxI.2,<- HG.out];exact Int.emod_eq_emod_iff_emod_sub_eq_zero.1 hym.2
     obtain ⟨sv,hsv⟩:∃ sv,sv=bg_ x qa.period y qb.period:=⟨_,rfl⟩;rw [<- hsv] at htk hs5;have HSV:=hq_ hsv;have HDIV:=hq_ hdiv;have HTK:=hq_ htk;have hlen9:(L8 ++ (zs.take j).map (fun y=>st+bg_ x qa.period y qb.period)).length+1≤17592186044416:=by
      rw [HL8.out];simp only [List.length_append,List.length_map,List.length_take];omega
     obtain ⟨L9,hL9⟩:∃ L9,L9=L8 ++ (zs.take j).map (fun y=>st+bg_ x qa.period y qb.period):=⟨_,rfl⟩;rw [<- hL9] at hown hlen9;obtain ⟨h9a,h9c,rfl⟩:=hown.form;have HL9:=hq_ hL9;have HOWN9:=hq_ hown;have HBX9:=hq_ hbx;have HBW9:=hq_ hbw;have HOB9:=hq_ hob;clear hown hbx hbw hob htk hdiv hsv hsol hcell9 hyy hym hL9;go_wp2_with (first|(go_at_call 178;refine (tf_ x qa.period y qb.period _ ⟨oq_,oq_⟩ ⟨oq_,oq_⟩ ha ha1 hb hb1 hL HDIV.out).mono ?_;rintro e w' ⟨he,nq,rfl⟩;rw [<- HSV.out] at he;subst he)|(at_builtin;refine nr_ rq_ _ _ rq_ base (.slice h9a L9.length h9c) L9 (st+sv) rq_ (HOWN9.out.ext (Ea (En (Er _) _) _)) _ _ rq_ ((Bxx.new (wr.drewN nq) #[.int .i64 (st+sv)] 3).cells 0).1 ⟨oq_,oq_⟩ hlen9 (by rw [World.size_alloc,af_];omega) ?_;intro gg cap w5 hown5 hgrow5 hbel5 hloc5))
     go_roundw
     case rel=>
      refine ⟨j+1,oq_,by go_num,?_,?_,?_,?_⟩
      ·rw [HTK.out,<- List.append_assoc,<- HL9.out];exact hown5
      ·refine (hgrow5.block _ (by rw [World.size_alloc,af_];omega) (fun e=>HOB9.out _ e.symm rfl)).trans ((HBX9.out.below (En (Er _) nq)).alloc _)
      ·intro k5 hk5;obtain rfl:gg=k5:=by simpa [Value.ownBlock] using hk5
       rcases hloc5 with h5|h5
       ·exact HOB9.out _ h5
       ·rw [World.size_alloc,af_] at h5;omega
      ·exact ((Below.drewN HBW9.out nq).alloc (by rw [af_];omega) _).trans hbel5
     case measure=>simp [intOf];omega
    ·obtain rfl:j=zs.length:=oq_;have HOWN9:=hq_ hown;have HBX9:=hq_ hbx;have HBW9:=hq_ hbw;have HOB9:=hq_ hob;clear hown hbx hbw hob;go_wp2_with fail
     go_roundw
     case rel=>
      refine ⟨k+1,oq_,by go_num,?_,HBX9.out,HOB9.out,HBW9.out⟩;have:=HOWN9.out;rw [List.take_length] at this;rw [HSU2.out,<- List.append_assoc,<- HL8.out];exact this
     case measure=>simp [intOf];omega
  ·obtain rfl:k=(a0_ (cycL qa st)).length:=oq_;have HOWN2:=hq_ hown;obtain ⟨hua,huc,rfl⟩:=hown.form;have HBW:=hq_ hbw;clear hown hob hbx hbw;go_wp2_with fail
   go_ret;exact ⟨_,rfl,HOWN2.out,HBW.out⟩
theorem nw_ {A B:Per} (hA:A.WF) (hf:A.frm=st):A.head.filter (memB B)=sel (fun n=>A.mem n∧B.mem n) 0 st:=by
 refine (hA.head.filter _).ext (ad_ (Int.le_refl _)) fun x=>?_;rw [List.mem_filter,ae_ (Int.le_refl _),hA.head_mem,hf];constructor
 ·rintro ⟨⟨h1,h2,h3⟩,h4⟩;exact ⟨h1,h2,h3,(gh_ h1).1 h4⟩
 ·rintro ⟨h1,h2,h3,h4⟩;exact ⟨⟨h1,h2,h3⟩,(gh_ h1).2 h4⟩
theorem g8_ (p:Int->Bool) (h:k<l.length):(l.take (k+1)).filter p=(l.take k).filter p ++ (if p (l.getD k 0)=true then [l.getD k 0] else []):=by
 rw [List.take_succ_eq_append_getElem h,List.filter_append,List.getD_eq_getElem?_getD,List.getElem?_eq_getElem h]
 congr 1
 by_cases hp:p l[k]=true <;> simp [hp]
theorem Bxx.set4 {b:Nat} {x y z u x' y' z' u':Value} {t:TypeId} (h:Bxx W b #[x,y,z,u] t) :
  Bxx ((((W.setCell ⟨b,0,none⟩ x').setCell ⟨b,1,none⟩ y').setCell ⟨b,2,none⟩ z').setCell ⟨b,3,none⟩ u') b #[x',y',z',u'] t:=dg_ h
theorem Bxx.drewB {b:Nat} {c:Array Value} {t:TypeId} (h:Bxx W b c t):Bxx W.drew b c t:=h
def nn_ (l:List Int) (w:World) (e:Ending) (w':World):Prop:=∃ v,e=.returned v∧OwnI w' w.heap.size v l∧Below w.heap.size w w'
theorem tx_ (h1 c1 h2 c2:Value) (qa qb:Per) (st:Int) (xv yv:Value) (g:Int) (mb:Nat) (w:World) (hP:ej_ w h1 c1 h2 c2 qa qb st xv yv g mb) (hwa:qa.WF) (hwb:qb.WF) (hst:st=max qa.frm qb.frm)
  (f1:qa.frm≤1125899906842624) (f2:qb.frm≤1125899906842624) (t1:qa.period≤1125899906842624) (t2:qb.period≤1125899906842624) :
  Calls Tryz.prog 148 #[em_ h1 c1 h2 c2 qa qb st xv yv g mb] w (nn_ (sel (fun n=>qa.mem n∧qb.mem n) 0 st) w):=by
 obtain ⟨xa,xc,rfl⟩:∃ a c,xv=.slice a (a0_ (cycL qa st)).length c:=by obtain ⟨⟨a,c,e,_⟩,_⟩:=hP.x;exact ⟨a,c,e⟩
 obtain ⟨ya,yc,rfl⟩:∃ a c,yv=.slice a (a0_ (cycL qb st)).length c:=by obtain ⟨⟨a,c,e,_⟩,_⟩:=hP.y;exact ⟨a,c,e⟩
 obtain ⟨a1,k1,a2,k2,rfl,rfl⟩:=hP.a.inn.form;obtain ⟨a3,k3,a4,k4,rfl,rfl⟩:=hP.b.inn.form;have HP:=hq_ hP;have HWA:=hq_ hwa;have HWB:=hq_ hwb;have HST:=hq_ hst;clear hP hwa hwb hst
 go_enter Tryz.func148,Tryz.ntmps148
 go_wp2_with fail
 generalize hW0:w.alloc _=W0;have hE:Below w.heap.size w W0:=by rw [<- hW0];exact xE
 have hbx:Bxx W0 w.heap.size #[.slice a1 qa.head.length k1,.int .i64 qa.frm,.int .i64 qa.period,.slice a2 qa.cycle.length k2,.slice a3 qb.head.length k3,.int .i64 qb.frm,.int .i64 qb.period,.slice a4 qb.cycle.length k4,.int .i64 st,.slice xa (a0_ (cycL qa st)).length xc,.slice ya (a0_ (cycL qb st)).length yc,.int .i64 g,.map (some mb)] 139:=by rw [<- hW0];exact Bxx.new _ _ _
 clear hW0;have c0:W0.cell? ⟨w.heap.size,0,none⟩=some (.slice a1 qa.head.length k1):=(hbx.cells 0).1;have c1:W0.cell? ⟨w.heap.size,1,none⟩=some (.int .i64 qa.frm):=(hbx.cells 1).1;have c2:W0.cell? ⟨w.heap.size,2,none⟩=some (.int .i64 qa.period):=(hbx.cells 2).1;have c3:W0.cell? ⟨w.heap.size,3,none⟩=some (.slice a2 qa.cycle.length k2):=(hbx.cells 3).1;have c4:W0.cell? ⟨w.heap.size,4,none⟩=some (.slice a3 qb.head.length k3):=(hbx.cells 4).1;have c5:W0.cell? ⟨w.heap.size,5,none⟩=some (.int .i64 qb.frm):=(hbx.cells 5).1;have c6:W0.cell? ⟨w.heap.size,6,none⟩=some (.int .i64 qb.period):=(hbx.cells 6).1;have c7:W0.cell? ⟨w.heap.size,7,none⟩=some (.slice a4 qb.cycle.length k4):=(hbx.cells 7).1;have hz0:=hbx.lt;refine Code.wp_mono (Q:=fun e a' W'=>e=.normal∧∃ (b3 b4:Nat) (u8 u9 u10 u11:Value),a'=⟨#[em_ (.slice a1 qa.head.length k1) (.slice a2 qa.cycle.length k2) (.slice a3 qb.head.length k3) (.slice a4 qb.cycle.length k4) qa qb st (.slice xa (a0_ (cycL qa st)).length xc) (.slice ya (a0_ (cycL qb st)).length yc) g mb,.pointer (some ⟨w.heap.size,0,none⟩),.slice none 0 0,.pointer (some ⟨b3,0,none⟩),.pointer (some ⟨b4,0,none⟩),undef,undef,undef,u8,u9,u10,u11,undef,undef,undef,undef,undef,undef,undef,undef,undef,undef,undef,undef,undef,undef,undef,undef,undef,undef,undef,undef,undef,undef,undef],[]⟩∧Bxx W' b3 #[.slice a1 qa.head.length k1,.int .i64 qa.frm,.int .i64 qa.period,.slice a2 qa.cycle.length k2] 39∧Bxx W' b4 #[.slice a3 qb.head.length k3,.int .i64 qb.frm,.int .i64 qb.period,.slice a4 qb.cycle.length k4] 39∧Below W0.heap.size W0 W'∧W0.heap.size≤b3∧W0.heap.size≤b4∧b3≠b4) ?imp ?reg
 case reg=>
  go_region_held3 (fun w'=>w'.cell? ⟨w.heap.size,0,none⟩=some (.slice a1 qa.head.length k1)∧w'.cell? ⟨w.heap.size,1,none⟩=some (.int .i64 qa.frm)∧w'.cell? ⟨w.heap.size,2,none⟩=some (.int .i64 qa.period)∧w'.cell? ⟨w.heap.size,3,none⟩=some (.slice a2 qa.cycle.length k2)∧w'.cell? ⟨w.heap.size,4,none⟩=some (.slice a3 qb.head.length k3)∧w'.cell? ⟨w.heap.size,5,none⟩=some (.int .i64 qb.frm)∧w'.cell? ⟨w.heap.size,6,none⟩=some (.int .i64 qb.period)∧w'.cell? ⟨w.heap.size,7,none⟩=some (.slice a4 qb.cycle.length k4)) ((go_split_ands;repeat' (with_reducible first|assumption|refine bd_ ?_ ?_ _|refine ag_ ?_ _|refine dm_ ?_|exact Ext.cell (by assumption) (by assumption)|apply And.intro|(exact Below.cell' (by assumption) (by assumption) (by first|(simp;done)|(simp;omega)|omega))|(refine Below.cell' (by assumption) ?_ (by first|(simp;done)|(simp;omega)|omega))|omega|(simp;done)|(simp;omega)))) (fail)
  all_goals (refine ⟨rfl,_,_,_,_,_,_,rfl,?_,?_,by exact xE,sq_,sq_,sq_⟩ <;> (repeat' (first|exact Bxx.at sq_|refine Bxx.alloc ?_ _|refine Bxx.drewB ?_|refine dg_ ?_|refine Bxx.setNe ?_ _ sq_)))
 case imp=>
  rintro e a' W2 ⟨rfl,b3,b4,u8,u9,u10,u11,rfl,hx3,hx4,hE1,z3,z4,hne⟩;have hE2:Below w.heap.size w W2:=by exact xE
  have hbx:=hbx.below hE1;have hne':=hne.symm;clear c0 c1 c2 c3 c4 c5 c6 c7 hE1;have hc31:W2.cell? ⟨b3,1,none⟩=some (.int .i64 qa.frm):=(hx3.cells 1).1;have hc8:W2.cell? ⟨w.heap.size,8,none⟩=some (.int .i64 st):=(hbx.cells 8).1
  by_cases hcase:qa.frm=st
  ·have hb:(qa.frm != st)=false:=by simp [hcase]
   go_upto_region 4 with (fail)
   have hsel:=nw_ (B:=qb) HWA.out hcase;have HSEL:=hq_ hsel;have y0:W2.cell? ⟨b3,0,none⟩=some (.slice a1 qa.head.length k1):=(hx3.cells 0).1;have H4H:=hq_ hx4;have hl9:=(HP.out.a).hd.len;have hszW:=hE2.size;clear hx3 hx4 hsel;go_wp2_with fail
   go_loopw [22,5] (fun i o wr=>∃ k:Nat,k≤qa.head.length∧i=.int .i64 k∧OwnI wr W2.heap.size o ((qa.head.take k).filter (memB qb))∧Below W2.heap.size W2 wr) (fun i _ _=>qa.head.length-(intOf i).toNat)
   case atStart=>exact ⟨0,oq_,rfl,OwnI.nil _ _,Below.refl _ _⟩
   case round=>
    obtain ⟨k,hk,rfl,hown,hbw⟩:=hrel;have hEr:Below w.heap.size w wr:=Et hE2 hbw;have hszr:=hbw.size
    by_cases hlt:k<qa.head.length
    ·have hb4:=H4H.out.below hbw;obtain ⟨⟨a8,c8,he8,_,_,h38⟩,_,hrng⟩:=(HP.out.a.ext hEr).hd;injection he8 with he1 he2 he3
     subst he1;subst he3;rcases h38 with h38|⟨b8,f8,rfl,hcell⟩
     ·rw [h38] at hlt;simp at hlt
     have hcl:=hcell k hlt;have hyb:=(HWA.out.head.2 _ (ah_ hlt));have hsu:=g8_ (memB qb) hlt;have hkI:(k:Int)<qa.head.length:=oq_;have hll:=List.length_filter_le (memB qb) (qa.head.take k);rw [List.length_take] at hll;obtain ⟨y,hyy⟩:∃ y,y=qa.head.getD k 0:=⟨_,rfl⟩;rw [<- hyy] at hcl hyb hsu;obtain ⟨L,hL⟩:∃ L,L=(qa.head.take k).filter (memB qb):=⟨_,rfl⟩;rw [<- hL] at hown hll hsu;obtain ⟨oa,oc,rfl⟩:=hown.form;have z0:wr.cell? ⟨b4,0,none⟩=some (.slice a3 qb.head.length k3):=(hb4.cells 0).1;have z1:wr.cell? ⟨b4,1,none⟩=some (.int .i64 qb.frm):=(hb4.cells 1).1;have z2:wr.cell? ⟨b4,2,none⟩=some (.int .i64 qb.period):=(hb4.cells 2).1;have z3:wr.cell? ⟨b4,3,none⟩=some (.slice a4 qb.cycle.length k4):=(hb4.cells 3).1;have HOWN:=hq_ hown;have HBW:=hq_ hbw;have HSU:=hq_ hsu;clear hown hbw hb4 hsu hyy hL hcell;cases hm:memB qb y with
     | true=>
      have HM:=hq_ hm;clear hm;go_wp2_with (first|(go_at_call 86;refine (ds_ _ _ qb y _ (HP.out.b.ext hEr) HWB.out oq_ oq_ oq_ oq_).mono ?_;rintro e w5 ⟨he,hb5⟩;rw [HM.out] at he;subst he;have hown5:=HOWN.out.ext hb5;have hsz5:=hb5.size)|(at_builtin;refine aj_ rq_ _ _ rq_ W2.heap.size (.slice oa L.length oc) L y rq_ (hown5.ext (Ea (Er _) _)) _ _ rq_ sq_ ⟨oq_,oq_⟩ oq_ tq_ ?_;intro gg cap w6 hown6 hgrow6 hbel6))
      go_roundw
      case rel=>
       refine ⟨k+1,oq_,by go_num,?_,(((HBW.out).trans (hb5.mono oq_)).alloc oq_ _).trans hbel6⟩;rw [HSU.out,HM.out,if_pos rfl];exact hown6
      case measure=>simp [intOf];omega
     | false=>
      have HM:=hq_ hm;clear hm;go_wp2_with (go_at_call 86;refine (ds_ _ _ qb y _ (HP.out.b.ext hEr) HWB.out oq_ oq_ oq_ oq_).mono ?_;rintro e w5 ⟨he,hb5⟩;rw [HM.out] at he;subst he;have hown5:=HOWN.out.ext hb5;have hsz5:=hb5.size)
      go_roundw
      case rel=>
       refine ⟨k+1,oq_,by go_num,?_,(HBW.out).trans (hb5.mono oq_)⟩;rw [HSU.out,HM.out,if_neg sq_,List.append_nil];exact hown5
      case measure=>simp [intOf];omega
    ·obtain rfl:k=qa.head.length:=oq_;rw [List.take_length,HSEL.out] at hown;obtain ⟨oa,oc,rfl⟩:=hown.form;have HOWN:=hq_ hown;clear hown;go_wp2_with fail
     go_ret;exact ⟨_,rfl,HOWN.out.mono oq_,hEr⟩
  ·have hb:(qa.frm != st)=true:=by simp [hcase]
   have w0:W2.cell? ⟨b3,0,none⟩=some (.slice a1 qa.head.length k1):=(hx3.cells 0).1;have w1:W2.cell? ⟨b3,1,none⟩=some (.int .i64 qa.frm):=(hx3.cells 1).1;have w2:W2.cell? ⟨b3,2,none⟩=some (.int .i64 qa.period):=(hx3.cells 2).1;have w3:W2.cell? ⟨b3,3,none⟩=some (.slice a2 qa.cycle.length k2):=(hx3.cells 3).1;have x0:W2.cell? ⟨b4,0,none⟩=some (.slice a3 qb.head.length k3):=(hx4.cells 0).1;have x1:W2.cell? ⟨b4,1,none⟩=some (.int .i64 qb.frm):=(hx4.cells 1).1;have x2:W2.cell? ⟨b4,2,none⟩=some (.int .i64 qb.period):=(hx4.cells 2).1;have x3:W2.cell? ⟨b4,3,none⟩=some (.slice a4 qb.cycle.length k4):=(hx4.cells 3).1;have hw:=fun i=>(hx3.cells i).2;have hx:=fun i=>(hx4.cells i).2;have HX3:=hq_ hx3;have HX4:=hq_ hx4;have w3f0:=hw 0;have w3f1:=hw 1;have w3f2:=hw 2;have w3f3:=hw 3;have x3f0:=hx 0;have x3f1:=hx 1;have x3f2:=hx 2;have x3f3:=hx 3;clear hw hx hx3 hx4 hc31;go_upto_region 4 with (fail)
   refine al_ (F:=fun W3=>Bxx W3 b3 #[.slice a3 qb.head.length k3,.int .i64 qb.frm,.int .i64 qb.period,.slice a4 qb.cycle.length k4] 39∧Bxx W3 b4 #[.slice a1 qa.head.length k1,.int .i64 qa.frm,.int .i64 qa.period,.slice a2 qa.cycle.length k2] 39∧Below w.heap.size w W3)
    ⟨by (repeat' (with_reducible first|exact HX3.out.set4|refine Bxx.setNe ?_ _ oq_)),by (apply Bxx.set4;repeat' (with_reducible first|exact HX4.out|refine Bxx.setNe ?_ _ oq_)),xE⟩ ?_
   clear hE2 hbx hc8 w0 w1 w2 w3 x0 x1 x2 x3 w3f0 w3f1 w3f2 w3f3 x3f0 x3f1 x3f2 x3f3;rintro W3 ⟨hx3,hx4,hE2⟩;have hfb:qb.frm=st:=by have:=HST.out;omega
   have hsel:qb.head.filter (memB qa)=sel (fun n=>qa.mem n∧qb.mem n) 0 st:=(nw_ HWB.out hfb).trans (eb_ (Int.le_refl _) fun n=>And.comm);clear hfb;have HSEL:=hq_ hsel;have y0:W3.cell? ⟨b3,0,none⟩=some (.slice a3 qb.head.length k3):=(hx3.cells 0).1;have H4H:=hq_ hx4;have hl9:=(HP.out.b).hd.len;have hszW:=hE2.size;clear hx3 hx4 hsel;go_wp2_with fail
   go_loopw [22,5] (fun i o wr=>∃ k:Nat,k≤qb.head.length∧i=.int .i64 k∧OwnI wr W3.heap.size o ((qb.head.take k).filter (memB qa))∧Below W3.heap.size W3 wr) (fun i _ _=>qb.head.length-(intOf i).toNat)
   case atStart=>exact ⟨0,oq_,rfl,OwnI.nil _ _,Below.refl _ _⟩
   case round=>
    obtain ⟨k,hk,rfl,hown,hbw⟩:=hrel;have hEr:Below w.heap.size w wr:=Et hE2 hbw;have hszr:=hbw.size
    by_cases hlt:k<qb.head.length
    ·have hb4:=H4H.out.below hbw;obtain ⟨⟨a8,c8,he8,_,_,h38⟩,_,hrng⟩:=(HP.out.b.ext hEr).hd;injection he8 with he1 he2 he3
     subst he1;subst he3;rcases h38 with h38|⟨b8,f8,rfl,hcell⟩
     ·rw [h38] at hlt;simp at hlt
     have hcl:=hcell k hlt;have hyb:=(HWB.out.head.2 _ (ah_ hlt));have hsu:=g8_ (memB qa) hlt;have hkI:(k:Int)<qb.head.length:=oq_;have hll:=List.length_filter_le (memB qa) (qb.head.take k);rw [List.length_take] at hll;obtain ⟨y,hyy⟩:∃ y,y=qb.head.getD k 0:=⟨_,rfl⟩;rw [<- hyy] at hcl hyb hsu;obtain ⟨L,hL⟩:∃ L,L=(qb.head.take k).filter (memB qa):=⟨_,rfl⟩;rw [<- hL] at hown hll hsu;obtain ⟨oa,oc,rfl⟩:=hown.form;have z0:wr.cell? ⟨b4,0,none⟩=some (.slice a1 qa.head.length k1):=(hb4.cells 0).1;have z1:wr.cell? ⟨b4,1,none⟩=some (.int .i64 qa.frm):=(hb4.cells 1).1;have z2:wr.cell? ⟨b4,2,none⟩=some (.int .i64 qa.period):=(hb4.cells 2).1;have z3:wr.cell? ⟨b4,3,none⟩=some (.slice a2 qa.cycle.length k2):=(hb4.cells 3).1;have HOWN:=hq_ hown;have HBW:=hq_ hbw;have HSU:=hq_ hsu;clear hown hbw hb4 hsu hyy hL hcell;cases hm:memB qa y with
     | true=>
      have HM:=hq_ hm;clear hm;go_wp2_with (first|(go_at_call 86;refine (ds_ _ _ qa y _ (HP.out.a.ext hEr) HWA.out oq_ oq_ oq_ oq_).mono ?_;rintro e w5 ⟨he,hb5⟩;rw [HM.out] at he;subst he;have hown5:=HOWN.out.ext hb5;have hsz5:=hb5.size)|(at_builtin;refine aj_ rq_ _ _ rq_ W3.heap.size (.slice oa L.length oc) L y rq_ (hown5.ext (Ea (Er _) _)) _ _ rq_ sq_ ⟨oq_,oq_⟩ oq_ tq_ ?_;intro gg cap w6 hown6 hgrow6 hbel6))
      go_roundw
      case rel=>
       refine ⟨k+1,oq_,by go_num,?_,(((HBW.out).trans (hb5.mono oq_)).alloc oq_ _).trans hbel6⟩;rw [HSU.out,HM.out,if_pos rfl];exact hown6
      case measure=>simp [intOf];omega
     | false=>
      have HM:=hq_ hm;clear hm;go_wp2_with (go_at_call 86;refine (ds_ _ _ qa y _ (HP.out.a.ext hEr) HWA.out oq_ oq_ oq_ oq_).mono ?_;rintro e w5 ⟨he,hb5⟩;rw [HM.out] at he;subst he;have hown5:=HOWN.out.ext hb5;have hsz5:=hb5.size)
      go_roundw
      case rel=>
       refine ⟨k+1,oq_,by go_num,?_,(HBW.out).trans (hb5.mono oq_)⟩;rw [HSU.out,HM.out,if_neg sq_,List.append_nil];exact hown5
      case measure=>simp [intOf];omega
    ·obtain rfl:k=qb.head.length:=oq_;rw [List.take_length,HSEL.out] at hown;obtain ⟨oa,oc,rfl⟩:=hown.form;have HOWN:=hq_ hown;clear hown;go_wp2_with fail
     go_ret;exact ⟨_,rfl,HOWN.out.mono oq_,hEr⟩
def di_ (q:Per) (l:List Int) (n:Int):List Int:=if memB q n=true then l else l ++ [n]
def wi_ (base:Nat) (lv:Value) (l:List Int) (w:World) (e:Ending) (w':World):Prop:=∃ v,e=.returned v∧OwnI w' base v l∧w.grownBy w' lv.ownBlock
theorem k9_ (a1 a2 a3 a4:Option Addr) (k1 k2 k3 k4:Nat) (qa qb:Per) (st:Int) (xv yv:Value) (g:Int) (mb pb base:Nat) (lv:Value) (l:List Int) (n:Int) (w:World) (hbx:Bxx w pb #[.slice a1 qa.head.length k1,.int .i64 qa.frm,.int .i64 qa.period,.slice a2 qa.cycle.length k2,.slice a3 qb.head.length k3,.int .i64 qb.frm,.int .i64 qb.period,.slice a4 qb.cycle.length k4,.int .i64 st,xv,yv,.int .i64 g,.map (some mb)] 139)
  (hq:a8_ w (.slice a3 qb.head.length k3) (.slice a4 qb.cycle.length k4) qb) (hwf:qb.WF) (f1:qb.frm≤1125899906842624) (t1:qb.period≤1125899906842624) (h0:0≤n) (h1:n≤9007199254740992)
  (hown:OwnI w base lv l) (hbase:base≤w.heap.size) (hlen:l.length+1≤17592186044416) :
  Calls Tryz.prog 180 #[lv,.int .i64 n,.pointer (some ⟨pb,0,none⟩)] w (wi_ base lv (di_ qb l n) w):=by
 have c4:w.cell? ⟨pb,4,none⟩=some (.slice a3 qb.head.length k3):=(hbx.cells 4).1;have c5:w.cell? ⟨pb,5,none⟩=some (.int .i64 qb.frm):=(hbx.cells 5).1;have c6:w.cell? ⟨pb,6,none⟩=some (.int .i64 qb.period):=(hbx.cells 6).1;have c7:w.cell? ⟨pb,7,none⟩=some (.slice a4 qb.cycle.length k4):=(hbx.cells 7).1;obtain ⟨oa,oc,rfl⟩:=hown.form;have HOWN:=hq_ hown;have HW:=hq_ hwf;clear hown hwf hbx;cases hm:memB qb n with
 | true=>
  have hk:di_ qb l n=l:=by unfold di_;rw [if_pos hm]
  rw [hk];have HM:=hq_ hm;clear hm hk
  go_enter Tryz.func180,Tryz.ntmps180
  go_wp2_with (go_at_call 86;refine (ds_ _ _ qb n _ hq HW.out oq_ oq_ oq_ oq_).mono ?_;rintro e w5 ⟨he,hb5⟩;rw [HM.out] at he;subst he)
  go_ret;exact ⟨_,rfl,HOWN.out.ext hb5,World.grownBy.of_below hb5 _⟩
 | false=>
  have hk:di_ qb l n=l ++ [n]:=by unfold di_;rw [if_neg (by simp [hm])]
  rw [hk];have HM:=hq_ hm;clear hm hk
  go_enter Tryz.func180,Tryz.ntmps180
  go_wp2_with (first|(go_at_call 86;refine (ds_ _ _ qb n _ hq HW.out oq_ oq_ oq_ oq_).mono ?_;rintro e w5 ⟨he,hb5⟩;rw [HM.out] at he;subst he;have hown5:=HOWN.out.ext hb5;have hsz5:=hb5.size)|(at_builtin;refine aj_ rq_ _ _ rq_ base (.slice oa l.length oc) l n rq_ (hown5.ext (Ea (Er _) _)) _ _ rq_ sq_ ⟨oq_,oq_⟩ hlen tq_ ?_;intro gg cap w6 hown6 hgrow6 hbel6))
  go_ret;exact ⟨_,rfl,hown6,((World.grownBy.of_below hb5 _).trans (World.grownBy_alloc _ _ _)).trans hgrow6⟩
end Go.Proofs.YthjnojbeimchdaaGreat
namespace Go.Proofs.YthjnojbeimchdaaGreat
open Go.RowKit Go.Shelf Go.Maps Kal
attribute [local go_sem] Oper.semAt_some
def cg_ (q:Per) (l:List Int):List Int:=l.filter fun n=>!memB q n
theorem k8_ (q:Per) (l:List Int):(cg_ q l).length≤l.length:=List.length_filter_le _ _
theorem kl_ (q:Per) (l:List Int) (y:Int):cg_ q (l ++ [y])=di_ q (cg_ q l) y:=by
 unfold cg_ di_;rw [List.filter_append];cases h:memB q y <;> simp [h]
theorem Bxx.grown {b:Nat} {c:Array Value} {t:TypeId} (h:Bxx W b c t) (hg:W.grownBy W1 row) (hne:some b≠row):Bxx W1 b c t:=(hg.block b h.lt hne).trans h
theorem m7_ (q:Per) (A l:List Int) (y:Int):A ++ di_ q l y=di_ q (A ++ l) y:=by
 unfold di_;split <;> simp
theorem lj_ {L:Int} {m:Nat} (hx0:0≤x) (hx:x<a) (hL:L=R*a) (hm:m≤R):(x+m*a<L↔m<R)∧0≤(m:Int)*a∧(m:Int)*a≤L:=by
 have h1:(m:Int)*a≤(R:Int)*a:=Int.mul_le_mul_of_nonneg_right oq_ oq_;have h2:0≤(m:Int)*a:=Int.mul_nonneg oq_ oq_;refine ⟨⟨fun h=>?_,fun h=>?_⟩,h2,oq_⟩
 ·rcases Nat.lt_or_ge m R with h3|h3
  ·exact h3
  ·obtain rfl:m=R:=oq_;omega
 ·have h3:((m+1:Nat):Int)*a≤(R:Int)*a:=Int.mul_le_mul_of_nonneg_right oq_ oq_;push_cast at h3;rw [Int.add_mul] at h3;omega
def cc_ (q:Per) (st a x:Int) (m:Nat):List Int:=cg_ q ((upto m).map fun j=>st+(x+j*a))
theorem kr_ (q:Per) (st a x:Int) (m:Nat):cc_ q st a x (m+1)=di_ q (cc_ q st a x m) (st+(x+m*a)):=by
 unfold cc_;rw [<- kl_]
 congr 1
 unfold upto;rw [List.range_succ];simp
theorem kd_ (q:Per) (st a x:Int) (m:Nat):(cc_ q st a x m).length≤m:=by
 unfold cc_;refine Nat.le_trans (k8_ _ _) ?_;simp [upto]
noncomputable def eo_ (qa qb:Per) (st g:Int) (xs ys:List Int) (R k:Nat):List Int:=
 cg_ qb (sel qa.mem 0 st) ++ (xs.take k).flatMap fun x=>if e3_ ys g qb.period x=true then [] else cc_ qb st qa.period x R
theorem kj_ {g:Int} {xs:List Int} (h:k<xs.length):eo_ qa qb st g xs ys R (k+1)=eo_ qa qb st g xs ys R k ++ if e3_ ys g qb.period (xs.getD k 0)=true then [] else cc_ qb st qa.period (xs.getD k 0) R:=by
 unfold eo_;rw [List.take_succ_eq_append_getElem h,List.flatMap_append,List.getD_eq_getElem?_getD,List.getElem?_eq_getElem h];simp
theorem u6_ {g:Int} {xs:List Int} (h0:0≤st) (h:k≤xs.length):((eo_ qa qb st g xs ys R k).length:Int)≤st+k*R:=by
 induction k with
 | zero=>
  unfold eo_;have h1:=k8_ qb (sel qa.mem 0 st);have h2:=(ad_ (S:=qa.mem) (lo:=0) (hi:=st) (Int.le_refl _)).length_le h0;simp;omega
 | succ k ih=>
  have:=ih oq_;rw [kj_ oq_,List.length_append];have h3:(if e3_ ys g qb.period (xs.getD k 0)=true then [] else cc_ qb st qa.period (xs.getD k 0) R).length≤R:=by
   split
   ·simp
   ·exact kd_ _ _ _ _ _
  push_cast;rw [Int.add_mul];omega
theorem i0_ {D:Nat} {x:Option (List Deferred)} (h:W.heap[D]? = some (.deferred x)) (ho:OwnI W base v l) (hg:W.grownBy W1 v.ownBlock):W1.heap[D]? = some (.deferred x):=by
 refine (hg.block D (Array.getElem?_eq_some_iff.1 h).1 fun e=>?_).trans h;obtain ⟨o,h1,h2⟩:=ho.row_cells D e.symm;rw [h] at h1;cases h1;cases h2
structure WO (w:World) (pc:Array Value) (base:Nat) (v:Value) (l:List Int) (W:World):Prop where
 below:Below w.heap.size w W
 pbx:Bxx W w.heap.size pc 139
 kbx:Bxx W (w.heap.size+1) #[.func (.func 180) #[] #[.pointer (some ⟨w.heap.size,0,none⟩)]] 166
 obx:Bxx W (w.heap.size+2) #[v] 37
 own:OwnI W base v l
 sz:base≤W.heap.size
 hb:w.heap.size+3≤base
theorem WO.grow {pc:Array Value} (h:WO w pc base v l W) (hg:W.grownBy W' row)
  (hr:∀ r,row=some r->w.heap.size≤r∧((w.heap.size+3≤r∧r<base)∨∃ o:Obj,W.heap[r]? = some o∧o.isCells=false)):WO w pc base v l W':=by
 have key:∀ {b:Nat} {c:Array Value} {t:TypeId},Bxx W b c t->b<w.heap.size+3->Bxx W' b c t:=fun {b c t} hx hbo=>by
  refine (hg.block b hx.lt fun e=>?_).trans hx;obtain ⟨_,h1|⟨o,ho,hc⟩⟩:=hr b e.symm
  ·omega
  ·rw [show W.heap[b]? = _ from hx] at ho;cases ho;cases hc
 refine ⟨h.below.grown hg h.below.size (fun k e=>(hr k e).1),key h.pbx oq_,key h.kbx oq_,key h.obx oq_,h.own.kept hg ?_,Nat.le_trans h.sz hg.size,h.hb⟩;rcases hob:v.ownBlock with _|g
 ·exact .inl rfl
 ·refine .inr fun e=>?_;have hlt:=h.own.lt g hob;obtain ⟨o2,h2,h3⟩:=h.own.row_cells g hob;obtain ⟨_,h1|⟨o,ho,hc⟩⟩:=hr g e.symm
  ·omega
  ·rw [h2] at ho;cases ho;rw [hc] at h3;cases h3
theorem WO.step {pc:Array Value} {v':Value} {l':List Int} (h:WO w pc base v l W) (hg:W.grownBy W1 v.ownBlock) (ho:OwnI W1 base v' l'):WO w pc base v' l' (W1.setCell ⟨w.heap.size+2,0,none⟩ v'):=by
 have hbk:=h.hb;have key:∀ {b:Nat} {c:Array Value} {t:TypeId},Bxx W b c t->b<w.heap.size+3->Bxx W1 b c t:=fun {b c t} hx hbo=>by
  refine (hg.block b hx.lt fun e=>?_).trans hx;have:=(h.own.lt b e.symm).1;omega
 have hbel:Below w.heap.size w W1:=h.below.grown hg h.below.size fun k e=>by have:=(h.own.lt k e).1;omega
 refine ⟨hbel.setCell (p:=⟨w.heap.size+2,0,none⟩) sq_ _,(key h.pbx oq_).setNe _ oq_,(key h.kbx oq_).setNe _ oq_,a4_ 0 _ (key h.obx oq_),?_,by have:=h.sz;have:=hg.size;simp [World.setCell];omega,hbk⟩;exact ho.above ((a7_.refl _ W1).setCell tq_ _)
theorem pk_ (h1 c1 h2 c2:Value) (qa qb:Per) (st:Int) (xv yv:Value) (g:Int) (mb:Nat) (L:Int) (w:World) (hP:ej_ w h1 c1 h2 c2 qa qb st xv yv g mb) (hwa:qa.WF) (hwb:qb.WF) (hs1:qa.frm≤st) (hs2:st≤4398046511104) (R:Nat) (hLR:L=R*qa.period) (hL1:L≤1099511627776) (hx:Rise 0 qa.period (a0_ (cycL qa st))) (hg:1≤g) (hg1:g≤562949953421312)
  (f2:qb.frm≤1125899906842624) (t1:qa.period≤562949953421312) (t2:qb.period≤562949953421312) :
  Calls Tryz.prog 153 #[em_ h1 c1 h2 c2 qa qb st xv yv g mb,.int .i64 L] w (nn_ (eo_ qa qb st g (a0_ (cycL qa st)) (a0_ (cycL qb st)) R (a0_ (cycL qa st)).length) w):=by
 obtain ⟨xa,xc,rfl⟩:∃ a c,xv=.slice a (a0_ (cycL qa st)).length c:=by obtain ⟨⟨a,c,e,_⟩,_⟩:=hP.x;exact ⟨a,c,e⟩
 obtain ⟨ya,yc,rfl⟩:∃ a c,yv=.slice a (a0_ (cycL qb st)).length c:=by obtain ⟨⟨a,c,e,_⟩,_⟩:=hP.y;exact ⟨a,c,e⟩
 obtain ⟨a1,k1,a2,k2,rfl,rfl⟩:=hP.a.inn.form;obtain ⟨a3,k3,a4,k4,rfl,rfl⟩:=hP.b.inn.form;have HLR:=hq_ hLR;clear hLR;refine callsIn_wide (n:=0).1 ?_;refine callsIn_of_wp_marks Tryz.func153 rfl trivial ?_ rfl;simp only [Tryz.ntmps153,List.size_toArray,List.length_cons,List.length_nil,Nat.reduceAdd,Nat.reduceSub,Array.replicate_succ,Array.replicate_zero,List.push_toArray,List.append_toArray,List.nil_append,List.cons_append]
 gi_wp2_with (refine ⟨trivial,rfl,?_⟩;gi_at_call 84;refine (callsIn_wide.2 (o9_ _ _ qa 0 _ ⟨_,_,_,_,_,_,rfl,rfl⟩)).mono ?_;rintro e w' ⟨rfl,rfl⟩)
 generalize hW0:((((w.alloc _).alloc _).alloc _).alloc _).alloc _=W0;have hE:Below w.heap.size w W0:=by rw [<- hW0];exact xE
 have hsz:W0.heap.size=w.heap.size+5:=by rw [<- hW0];simp
 have hpb:Bxx W0 w.heap.size #[.slice a1 qa.head.length k1,.int .i64 qa.frm,.int .i64 qa.period,.slice a2 qa.cycle.length k2,.slice a3 qb.head.length k3,.int .i64 qb.frm,.int .i64 qb.period,.slice a4 qb.cycle.length k4,.int .i64 st,.slice xa (a0_ (cycL qa st)).length xc,.slice ya (a0_ (cycL qb st)).length yc,.int .i64 g,.map (some mb)] 139:=by rw [<- hW0];exact ((((Bxx.at rfl).alloc _).alloc _).alloc _).alloc _
 have hkb:Bxx W0 (w.heap.size+1) #[.func (.func 180) #[] #[.pointer (some ⟨w.heap.size,0,none⟩)]] 166:=by rw [<- hW0];exact (((Bxx.at sq_).alloc _).alloc _).alloc _
 have hob:Bxx W0 (w.heap.size+2) #[.slice none 0 0] 37:=by rw [<- hW0];exact ((Bxx.at sq_).alloc _).alloc _
 have hfb:Bxx W0 (w.heap.size+3) #[.slice a1 qa.head.length k1,.int .i64 qa.frm,.int .i64 qa.period,.slice a2 qa.cycle.length k2] 39:=by rw [<- hW0];exact (Bxx.at sq_).alloc _
 have hlb:Bxx W0 (w.heap.size+4) #[.int .i64 0] 3:=by rw [<- hW0];exact Bxx.at sq_
 have hz1:W0.heap.size≤w.heap.size+5:=oq_;have hz2:w.heap.size+5≤W0.heap.size:=oq_;have hpW:=hP.a.ext hE;have hin:=hP.a.inn;have hf0:=hwa.frm;have hp0:=hwa.per;have hp1:=hwb.per;obtain ⟨WL,hWL⟩:∃ WL:Nat->List Int,WL=eo_ qa qb st g (a0_ (cycL qa st)) (a0_ (cycL qb st)) R:=⟨_,rfl⟩;have hWL0:WL 0=cg_ qb (sel qa.mem 0 st):=by rw [hWL];simp [eo_]
 have HWLS:Hid (∀ k,k<(a0_ (cycL qa st)).length->WL (k+1)=WL k ++ if e3_ (a0_ (cycL qb st)) g qb.period ((a0_ (cycL qa st)).getD k 0)=true then [] else cc_ qb st qa.period ((a0_ (cycL qa st)).getD k 0) R):=hq_ (by rw [hWL];exact fun k hk=>kj_ hk);have HWLE:Hid (∀ k,k<(a0_ (cycL qa st)).length->(WL k).length+R≤8796093022208):=hq_ (fun k hk=>by
  have h1:=u6_ (qa:=qa) (qb:=qb) (g:=g) (ys:=a0_ (cycL qb st)) (R:=R) (k:=k) (xs:=a0_ (cycL qa st)) (show 0≤st by omega) oq_;rw [<- hWL] at h1;have h2:((k+1:Nat):Int)*R≤qa.period*R:=Int.mul_le_mul_of_nonneg_right (by have:=hx.length_le oq_;omega) oq_;rw [Int.mul_comm qa.period,<- HLR.out] at h2;push_cast at h2;rw [Int.add_mul] at h2;omega)
 have hWLe:WL (a0_ (cycL qa st)).length=eo_ qa qb st g (a0_ (cycL qa st)) (a0_ (cycL qb st)) R (a0_ (cycL qa st)).length:=by rw [hWL]
 have HWLe:=hq_ hWLe;have HX:=hq_ hx;have HWL0:=hq_ hWL0;clear hWL hWLe hx hWL0;have hST:WO w #[.slice a1 qa.head.length k1,.int .i64 qa.frm,.int .i64 qa.period,.slice a2 qa.cycle.length k2,.slice a3 qb.head.length k3,.int .i64 qb.frm,.int .i64 qb.period,.slice a4 qb.cycle.length k4,.int .i64 st,.slice xa (a0_ (cycL qa st)).length xc,.slice ya (a0_ (cycL qb st)).length yc,.int .i64 g,.map (some mb)] W0.heap.size (.slice none 0 0) (cg_ qb []) W0:=⟨hE,hpb,hkb,hob,OwnI.nil _ _,Nat.le_refl _,oq_⟩;have HST:=hq_ hST;have HP:=hq_ hP;have HWA:=hq_ hwa;have HWB:=hq_ hwb;clear hW0 hsz hST hpb hkb hob hP hwb;have garr:∀ (v:Value) (l:List Int),IntsIn w 0 w.heap.size v l->l≠[]->∀ b o n c',v=.slice (some ⟨b,o,none⟩) n c'->b<w.heap.size:=fun v l hi hl b o n c' he=>(hi.blk hl b (by rw [he];rfl)).2;simp only [Nat.add_assoc,Nat.reduceAdd];refine gx_ (x:=some (w.heap.size+4)) (gf:=127) (lb:=#[.pointer (some ⟨w.heap.size+3,0,none⟩),.pointer (some ⟨w.heap.size+4,0,none⟩)]) rfl (enters_of Tryz.func127 (by kernel_rfl) rfl)
  (od_ (.slice a1 qa.head.length k1) (.slice a2 qa.cycle.length k2) qa 0 (w.heap.size+3) (w.heap.size+4) W0 (fun k=>k<w.heap.size∨k=w.heap.size+3∨k=w.heap.size+4) hpW hwa oq_ oq_ oq_ oq_ hfb hlb (.inr (.inl rfl)) (.inr (.inr rfl))
   (fun hl b o n c' he=>.inl (garr _ _ hin.hd hl b o n c' he)) (fun hl b o n c' he=>⟨.inl (garr _ _ hin.cy hl b o n c' he),by have:=garr _ _ hin.cy hl b o n c' he;omega⟩) oq_)
  (fun h k=>h.trans k) (KpB.putObj (by intro k hk;omega)) (fun y=>rfl)
  (fun pre W'=>(∀ x∈pre,x<st)∧∃ v,WO w #[.slice a1 qa.head.length k1,.int .i64 qa.frm,.int .i64 qa.period,.slice a2 qa.cycle.length k2,.slice a3 qb.head.length k3,.int .i64 qb.frm,.int .i64 qb.period,.slice a4 qb.cycle.length k4,.int .i64 st,.slice xa (a0_ (cycL qa st)).length xc,.slice ya (a0_ (cycL qb st)).length yc,.int .i64 g,.map (some mb)] W0.heap.size v (cg_ qb pre) W')
  (fun c' _ W'=>c'=.exit 0∧∃ v,WO w #[.slice a1 qa.head.length k1,.int .i64 qa.frm,.int .i64 qa.period,.slice a2 qa.cycle.length k2,.slice a3 qb.head.length k3,.int .i64 qb.frm,.int .i64 qb.period,.slice a4 qb.cycle.length k4,.int .i64 st,.slice xa (a0_ (cycL qa st)).length xc,.slice ya (a0_ (cycL qb st)).length yc,.int .i64 g,.map (some mb)] W0.heap.size v (cg_ qb (sel qa.mem 0 st)) W')
  (fun pre A C row hI hg hr=>⟨hI.1,hI.2.choose,hI.2.choose_spec.grow hg fun r e=>by
   rcases hr r e with ⟨h,_⟩|⟨h,h'⟩
   ·injection h with h;exact ⟨oq_,.inl ⟨oq_,oq_⟩⟩
   ·exact ⟨oq_,.inr h'⟩⟩)
  (fun c' pre A C row hI hg hr=>⟨hI.1,hI.2.choose,hI.2.choose_spec.grow hg fun r e=>by
   rcases hr r e with ⟨h,_⟩|⟨h,h'⟩
   ·injection h with h;exact ⟨oq_,.inl ⟨oq_,oq_⟩⟩
   ·exact ⟨oq_,.inr h'⟩⟩)
  (fun pre W' hI x hx=>by have:=hI.1 x hx;omega) ⟨sq_,_,HST.out⟩
  (fun y=>⟨#[em_ (.slice a1 qa.head.length k1) (.slice a2 qa.cycle.length k2) (.slice a3 qb.head.length k3) (.slice a4 qb.cycle.length k4) qa qb st (.slice xa (a0_ (cycL qa st)).length xc) (.slice ya (a0_ (cycL qb st)).length yc) g mb,.int .i64 L,.pointer (some ⟨w.heap.size,0,none⟩),undef,.slice none 0 0,.pointer (some ⟨w.heap.size+1,0,none⟩),.pointer (some ⟨w.heap.size+2,0,none⟩),(.int .i64 y),undef,undef,undef,.func (Fn.func 180) #[] #[.pointer (some ⟨w.heap.size,0,none⟩)],.pointer (some ⟨w.heap.size,0,none⟩),.agg #[.slice a1 qa.head.length k1,.int .i64 qa.frm,.int .i64 qa.period,.slice a2 qa.cycle.length k2],.func (.func 127) #[] #[.pointer (some ⟨w.heap.size+3,0,none⟩),.pointer (some ⟨w.heap.size+4,0,none⟩)],(.int .i64 y),undef,undef,undef,undef,undef,undef,undef,undef,undef,undef,undef,undef,undef,undef,undef,undef,undef,undef,undef,undef,undef,undef,undef,undef,undef,undef,undef,undef,undef,undef,undef,undef,undef,undef,undef,undef],[]⟩) ?assign ?body ?done ?stop
 case assign=>
  intro l y W' K hK
  gi_wp2
  exact hK
 case body=>
  rintro l pre y W' ⟨hlt,v,hWO⟩ hen;obtain ⟨hy1,hy2,hy3,hy4⟩:=EnS.last (Int.le_refl 0) hen;obtain ⟨va,vc,rfl⟩:=hWO.own.form;have p8:W'.cell? ⟨w.heap.size,8,none⟩=some (.int .i64 st):=(hWO.pbx.cells 8).1;have q1:W'.cell? ⟨w.heap.size+1,0,none⟩=some (.func (.func 180) #[] #[.pointer (some ⟨w.heap.size,0,none⟩)]):=(hWO.kbx.cells 0).1;have q2:W'.cell? ⟨w.heap.size+2,0,none⟩=some (.slice va (cg_ qb pre).length vc):=(hWO.obx.cells 0).1;have q3:W'.frozen? ⟨w.heap.size+2,0,none⟩=false:=(hWO.obx.cells 0).2;have hown:=hWO.own;have hsz:=hWO.sz;have HWO:=hq_ hWO;have H3:=hq_ hy3;have H4:=hq_ hy4;have hb8:=hWO.below.size;have hplen:pre.length≤4398046511104:=by
   have h9:=ad_ (S:=qa.mem) (lo:=0) (hi:=y) (Int.le_refl _);rw [<- H3.out] at h9;have:=(show Rise 0 st pre from ⟨h9.1,fun x hx=>⟨(h9.2 x hx).1,hlt x hx⟩⟩).length_le oq_;omega
  clear hy3 hy4 hWO hen
  by_cases hc:y<st
  ·have hkl:=k8_ qb pre;have hks:=kl_ qb pre y;obtain ⟨KL,hKL⟩:∃ KL,KL=di_ qb (cg_ qb pre) y:=⟨_,rfl⟩;rw [<- hKL] at hks;obtain ⟨K,hK⟩:∃ K,K=cg_ qb pre:=⟨_,rfl⟩;rw [<- hK] at hKL;have HKL:=hq_ hKL;have hobx:=HWO.out.obx;rw [<- hK] at hobx;have HOBX:=hq_ hobx;rw [<- hK] at hkl hown q2;have HKS:=hq_ hks;have HK:=hq_ hK;have HOWN:=hq_ hown;clear hks hK hown hKL hobx
   gi_wp2_with (refine ⟨trivial,rfl,?_⟩;gi_at_call 180;refine (CallsIn.inRound l (callsIn_wide.2 (k9_ a1 a2 a3 a4 k1 k2 k3 k4 qa qb st _ _ g mb w.heap.size W0.heap.size (.slice va K.length vc) K y _ HWO.out.pbx (HP.out.b.ext HWO.out.below) HWB.out f2 oq_ oq_ oq_ HOWN.out oq_ oq_))).mono ?_;rintro e w5 ⟨v5,rfl,hown5,hg5⟩;rw [<- HKL.out] at hown5;obtain ⟨v5a,v5c,rfl⟩:=hown5.form;have hob5:=HOBX.out.grown hg5 (fun e=>by have h77:=HOWN.out.lt _ e.symm;omega);have r1:=(hob5.cells 0).1;have r2:=(hob5.cells 0).2)
   have hsz5:=hg5.size;refine ⟨(KeepsOthers.trans (KeepsOthers.grown_cells (KeepsOthers.refl W') hg5 (OwnI.row_cells HOWN.out)) (KeepsOthers.setCell w5 ⟨w.heap.size+2,0,none⟩ (.slice v5a KL.length v5c))).from _,fun k hk=>?_,fun x hx=>?_,.slice v5a KL.length v5c,?_⟩
   ·rw [bx_ oq_,hg5.block k oq_ (fun e=>by have:=HOWN.out.lt k e.symm;omega)]
   ·rcases List.mem_append.1 hx with hx|hx
    ·exact hlt x hx
    ·obtain rfl:x=y:=by simpa using hx
     exact hc
   ·rw [HKS.out];exact WO.step (by have:=HWO.out;rw [<- HK.out] at this;exact this) hg5 hown5
  ·have hge:st≤y:=oq_
   gi_wp2
   refine ⟨KeepsFrom.refl _ _,rfl,.slice va (cg_ qb pre).length vc,?_⟩;have e:pre=sel qa.mem 0 st:=by
    rw [H3.out];exact gs_ (Int.le_refl 0) (fun x hx=>hlt x (by rw [H3.out];exact hx)) (fun x _ _ hx=>oq_)
   rw [<- e];exact HWO.out
 case done=>
  rintro D xs W' hD ⟨n,hn,rfl⟩ ⟨hlt,v,hWO⟩ hdef;have e:=gs_ (Int.le_refl 0) hlt (fun x hx _ _=>hn x hx);rw [e] at hWO;clear e hlt;obtain ⟨va,vc,rfl⟩:=hWO.own.form;have p9:W'.cell? ⟨w.heap.size,9,none⟩=some (.slice xa (a0_ (cycL qa st)).length xc):=(hWO.pbx.cells 9).1;rw [<- HWL0.out] at hWO;have HWO:=hq_ hWO;have HDEF:=hq_ hdef;clear hWO hdef
  gi_wp2_with fail
  refine wpIn_wide.2 ?_
  go_loopw [27] (fun i wr=>∃ k:Nat,k≤(a0_ (cycL qa st)).length∧i=.int .i64 k∧(∃ v,WO w #[.slice a1 qa.head.length k1,.int .i64 qa.frm,.int .i64 qa.period,.slice a2 qa.cycle.length k2,.slice a3 qb.head.length k3,.int .i64 qb.frm,.int .i64 qb.period,.slice a4 qb.cycle.length k4,.int .i64 st,.slice xa (a0_ (cycL qa st)).length xc,.slice ya (a0_ (cycL qb st)).length yc,.int .i64 g,.map (some mb)] W0.heap.size v (WL k) wr)∧wr.heap[D]? = some (.deferred (some []))) (fun i _=>(a0_ (cycL qa st)).length-(intOf i).toNat)
  case atStart=>exact ⟨0,oq_,rfl,⟨_,HWO.out⟩,HDEF.out⟩
  case round=>
   obtain ⟨k,hk,rfl,⟨v,hWO⟩,hdef⟩:=hrel
   by_cases hlt:k<(a0_ (cycL qa st)).length
   ·obtain ⟨⟨a8,c8,he8,_,_,h38⟩,_,_⟩:=(HP.out.ext hWO.below).x;injection he8 with he1 he2 he3
    subst he1;subst he3;rcases h38 with h38|⟨b8,f8,rfl,hcell⟩
    ·rw [h38] at hlt;simp at hlt
    have hcl:=hcell k hlt;have hxb:=HX.out.2 _ (ah_ hlt);have hsu:=HWLS.out k hlt;have hle:=HWLE.out k oq_;have hkI:(k:Int)<(a0_ (cycL qa st)).length:=oq_;obtain ⟨x,hxx⟩:∃ x,x=(a0_ (cycL qa st)).getD k 0:=⟨_,rfl⟩;rw [<- hxx] at hcl hxb hsu;have p0:wr.cell? ⟨w.heap.size,0,none⟩=some (.slice a1 qa.head.length k1):=(hWO.pbx.cells 0).1;have p1:wr.cell? ⟨w.heap.size,1,none⟩=some (.int .i64 qa.frm):=(hWO.pbx.cells 1).1;have p2:wr.cell? ⟨w.heap.size,2,none⟩=some (.int .i64 qa.period):=(hWO.pbx.cells 2).1;have p3:wr.cell? ⟨w.heap.size,3,none⟩=some (.slice a2 qa.cycle.length k2):=(hWO.pbx.cells 3).1;have p4:wr.cell? ⟨w.heap.size,4,none⟩=some (.slice a3 qb.head.length k3):=(hWO.pbx.cells 4).1;have p5:wr.cell? ⟨w.heap.size,5,none⟩=some (.int .i64 qb.frm):=(hWO.pbx.cells 5).1;have p6:wr.cell? ⟨w.heap.size,6,none⟩=some (.int .i64 qb.period):=(hWO.pbx.cells 6).1;have p7:wr.cell? ⟨w.heap.size,7,none⟩=some (.slice a4 qb.cycle.length k4):=(hWO.pbx.cells 7).1;have p8:wr.cell? ⟨w.heap.size,8,none⟩=some (.int .i64 st):=(hWO.pbx.cells 8).1;have p9:wr.cell? ⟨w.heap.size,9,none⟩=some (.slice (some ⟨b8,f8,none⟩) (a0_ (cycL qa st)).length xc):=(hWO.pbx.cells 9).1;have p10:wr.cell? ⟨w.heap.size,10,none⟩=some (.slice ya (a0_ (cycL qb st)).length yc):=(hWO.pbx.cells 10).1;have p11:wr.cell? ⟨w.heap.size,11,none⟩=some (.int .i64 g):=(hWO.pbx.cells 11).1;have p12:wr.cell? ⟨w.heap.size,12,none⟩=some (.map (some mb)):=(hWO.pbx.cells 12).1;have HWOr:=hq_ hWO;have HDEFr:=hq_ hdef;have HSU:=hq_ hsu;have HLE:=hq_ hle;have hxb0:=hxb.1;have hxb1:=hxb.2;have hsz1:=hWO.below.size;have hsz2:=hWO.sz;have hP9:=HP.out.ext hWO.below;have HP9:=hq_ hP9;clear hsu hle hWO hdef hxx hcell hxb hP9;cases hfull:e3_ (a0_ (cycL qb st)) g qb.period x with
    | true=>
     have HF:=hq_ hfull;clear hfull;go_wp2_with (go_at_call 181;refine (hk_ _ _ _ _ qa qb st _ _ g mb x _ HP9.out hg hg1 oq_ oq_ oq_ oq_).mono ?_;rintro e w5 ⟨he,hb5⟩;rw [HF.out] at he;subst he)
     go_roundw
     case rel=>
      refine ⟨k+1,oq_,by go_num,⟨v,?_⟩,(hb5.block D (Array.getElem?_eq_some_iff.1 HDEFr.out).1).trans HDEFr.out⟩;rw [HSU.out,HF.out,if_pos rfl,List.append_nil];exact HWOr.out.grow (World.grownBy.of_below hb5 none) (fun r e=>by cases e)
     case measure=>simp [intOf];omega
    | false=>
     have HF:=hq_ hfull;clear hfull;go_wp2_with (go_at_call 181;refine (hk_ _ _ _ _ qa qb st _ _ g mb x _ HP9.out hg hg1 oq_ oq_ oq_ oq_).mono ?_;rintro e w5 ⟨he,hb5⟩;rw [HF.out] at he;subst he)
     have HWO5:Hid (WO w #[.slice a1 qa.head.length k1,.int .i64 qa.frm,.int .i64 qa.period,.slice a2 qa.cycle.length k2,.slice a3 qb.head.length k3,.int .i64 qb.frm,.int .i64 qb.period,.slice a4 qb.cycle.length k4,.int .i64 st,.slice (some ⟨b8,f8,none⟩) (a0_ (cycL qa st)).length xc,.slice ya (a0_ (cycL qb st)).length yc,.int .i64 g,.map (some mb)] W0.heap.size v (WL k) w5):=hq_ (HWOr.out.grow (World.grownBy.of_below hb5 none) (fun r e=>by cases e));have HDEF5:Hid (w5.heap[D]? = some (.deferred (some []))):=hq_ ((hb5.block D (Array.getElem?_eq_some_iff.1 HDEFr.out).1).trans HDEFr.out);clear hb5
     go_loopw [10] (fun i wr=>∃ (m:Nat) (n:Int),m≤R∧i=.int .i64 n∧Hid (n=x+m*qa.period)∧(∃ v,WO w #[.slice a1 qa.head.length k1,.int .i64 qa.frm,.int .i64 qa.period,.slice a2 qa.cycle.length k2,.slice a3 qb.head.length k3,.int .i64 qb.frm,.int .i64 qb.period,.slice a4 qb.cycle.length k4,.int .i64 st,.slice (some ⟨b8,f8,none⟩) (a0_ (cycL qa st)).length xc,.slice ya (a0_ (cycL qb st)).length yc,.int .i64 g,.map (some mb)] W0.heap.size v (WL k ++ cc_ qb st qa.period x m) wr)∧wr.heap[D]? = some (.deferred (some []))) (fun i _=>(L-intOf i).toNat)
     case atStart=>exact ⟨0,x,oq_,rfl,hq_ sq_,⟨v,by simpa [cc_,upto,cg_] using HWO5.out⟩,HDEF5.out⟩
     case round=>
      obtain ⟨m,n,hm,rfl,hn,⟨v9,hWO⟩,hdef⟩:=hrel;obtain ⟨g1,g2,g3⟩:=lj_ hxb0 hxb1 HLR.out hm;rw [<- hn.out] at g1;have hn0:0≤n:=by rw [hn.out];omega
      have hn1:n≤L+qa.period:=by rw [hn.out];omega
      clear g2 g3
      by_cases hlm:m<R
      ·have hnL:n<L:=g1.2 hlm;have hps:=kr_ qb st qa.period x m;rw [<- hn.out] at hps;have hpl:=kd_ qb st qa.period x m;have hlen:(WL k ++ cc_ qb st qa.period x m).length+1≤17592186044416:=by rw [List.length_append];have:=HLE.out;omega
       have hap:=m7_ qb (WL k) (cc_ qb st qa.period x m) (st+n);rw [<- hps] at hap;obtain ⟨K,hK⟩:∃ K,K=WL k ++ cc_ qb st qa.period x m:=⟨_,rfl⟩;rw [<- hK] at hlen hap hWO;obtain ⟨KL,hKL⟩:∃ KL,KL=di_ qb K (st+n):=⟨_,rfl⟩;rw [<- hKL] at hap;have HKL:=hq_ hKL;have HAP:=hq_ hap;have hown:=hWO.own;have hobx:=hWO.obx;obtain ⟨va9,vc9,rfl⟩:=hown.form;have q1:wr.cell? ⟨w.heap.size+1,0,none⟩=some (.func (.func 180) #[] #[.pointer (some ⟨w.heap.size,0,none⟩)]):=(hWO.kbx.cells 0).1;have q2:wr.cell? ⟨w.heap.size+2,0,none⟩=some (.slice va9 K.length vc9):=(hobx.cells 0).1;have q3:wr.frozen? ⟨w.heap.size+2,0,none⟩=false:=(hobx.cells 0).2;have q8:wr.cell? ⟨w.heap.size,8,none⟩=some (.int .i64 st):=(hWO.pbx.cells 8).1;have qp:wr.cell? ⟨w.heap.size,2,none⟩=some (.int .i64 qa.period):=(hWO.pbx.cells 2).1;have hszr:=hWO.sz;have hszw:=hWO.below.size;have HWO9:=hq_ hWO;have HOWN:=hq_ hown;have HOBX:=hq_ hobx;have HDEF9:=hq_ hdef;clear hWO hown hobx hdef hps hap hK hKL g1;go_wp2_with (go_at_call 180;refine (k9_ a1 a2 a3 a4 k1 k2 k3 k4 qa qb st _ _ g mb w.heap.size W0.heap.size (.slice va9 K.length vc9) K (st+n) _ HWO9.out.pbx (HP.out.b.ext HWO9.out.below) HWB.out f2 oq_ oq_ oq_ HOWN.out oq_ oq_).mono ?_;rintro e w6 ⟨v6,rfl,hown6,hg6⟩;rw [<- HKL.out] at hown6;obtain ⟨v6a,v6c,rfl⟩:=hown6.form;have hob6:=HOBX.out.grown hg6 (fun e=>by have h77:=HOWN.out.lt _ e.symm;omega);have r1:=(hob6.cells 0).1;have r2:=(hob6.cells 0).2;have r5:w6.cell? ⟨w.heap.size,2,none⟩=some (.int .i64 qa.period):=((HWO9.out.pbx.grown hg6 (fun e=>by have h77:=HOWN.out.lt _ e.symm;omega)).cells 2).1)
       go_roundw
       case rel=>
        refine ⟨m+1,n+qa.period,oq_,by go_num,hq_ (by rw [hn.out];push_cast;rw [Int.add_mul];omega),⟨.slice v6a KL.length v6c,?_⟩,?_⟩
        ·rw [HAP.out];exact HWO9.out.step hg6 hown6
        ·exact (Below.heap_setCell _ _ _ _ (by have:=(Array.getElem?_eq_some_iff.1 HDEF9.out).1;simp;omega)).trans (i0_ HDEF9.out HOWN.out hg6)
       case measure=>simp [intOf];omega
      ·have hnL:¬ n<L:=fun h=>hlm (g1.1 h);obtain rfl:m=R:=oq_;have HWO9:=hq_ hWO;have HDEF9:=hq_ hdef;clear hWO hdef g1;go_wp2_with fail
       go_roundw
       case rel=>
        refine ⟨k+1,oq_,by go_num,⟨v9,?_⟩,HDEF9.out⟩;rw [HSU.out,HF.out,if_neg sq_];exact HWO9.out
       case measure=>simp [intOf];omega
   ·obtain rfl:k=(a0_ (cycL qa st)).length:=oq_;obtain ⟨va9,vc9,rfl⟩:=hWO.own.form;have q2:wr.cell? ⟨w.heap.size+2,0,none⟩=some (.slice va9 (WL (a0_ (cycL qa st)).length).length vc9):=(hWO.obx.cells 0).1;have HWO9:=hq_ hWO;have HDEF9:=hq_ hdef;have hsz9:=hWO.sz;have hsw9:=hWO.hb;clear hWO hdef;go_wp2_with fail
    gi_wp2_with fail
    have hM:b5_ w.heap.size [{ target:=.collected D,args:=#[] }] wr:=dl_ oq_ HDEF9.out;refine ce_ (B:=w.heap.size) _ _ hM fun w' hs=>⟨.slice va9 (WL (a0_ (cycL qa st)).length).length vc9,by simp [results,Tryz.results153,go_sem],.slice va9 (WL (a0_ (cycL qa st)).length).length vc9,rfl,?_,HWO9.out.below.trans hs.below⟩;have h9:=(HWO9.out.own.shut hs).mono (base':=w.heap.size) oq_
    first|exact h9|(rw [<- HWLe.out];exact h9)
 case stop=>
  rintro D c' pre W' hD _ ⟨rfl,v,hWO⟩ hdef;refine wpIn_exit ?_
  conv=>whnf
  apply_assumption
  obtain ⟨va,vc,rfl⟩:=hWO.own.form;have p9:W'.cell? ⟨w.heap.size,9,none⟩=some (.slice xa (a0_ (cycL qa st)).length xc):=(hWO.pbx.cells 9).1;rw [<- HWL0.out] at hWO;have HWO:=hq_ hWO;have HDEF:=hq_ hdef;clear hWO hdef
  gi_wp2_with fail
  refine wpIn_wide.2 ?_
  go_loopw [27] (fun i wr=>∃ k:Nat,k≤(a0_ (cycL qa st)).length∧i=.int .i64 k∧(∃ v,WO w #[.slice a1 qa.head.length k1,.int .i64 qa.frm,.int .i64 qa.period,.slice a2 qa.cycle.length k2,.slice a3 qb.head.length k3,.int .i64 qb.frm,.int .i64 qb.period,.slice a4 qb.cycle.length k4,.int .i64 st,.slice xa (a0_ (cycL qa st)).length xc,.slice ya (a0_ (cycL qb st)).length yc,.int .i64 g,.map (some mb)] W0.heap.size v (WL k) wr)∧wr.heap[D]? = some (.deferred (some []))) (fun i _=>(a0_ (cycL qa st)).length-(intOf i).toNat)
  case atStart=>exact ⟨0,oq_,rfl,⟨_,HWO.out⟩,HDEF.out⟩
  case round=>
   obtain ⟨k,hk,rfl,⟨v,hWO⟩,hdef⟩:=hrel
   by_cases hlt:k<(a0_ (cycL qa st)).length
   ·obtain ⟨⟨a8,c8,he8,_,_,h38⟩,_,_⟩:=(HP.out.ext hWO.below).x;injection he8 with he1 he2 he3
    subst he1;subst he3;rcases h38 with h38|⟨b8,f8,rfl,hcell⟩
    ·rw [h38] at hlt;simp at hlt
    have hcl:=hcell k hlt;have hxb:=HX.out.2 _ (ah_ hlt);have hsu:=HWLS.out k hlt;have hle:=HWLE.out k oq_;have hkI:(k:Int)<(a0_ (cycL qa st)).length:=oq_;obtain ⟨x,hxx⟩:∃ x,x=(a0_ (cycL qa st)).getD k 0:=⟨_,rfl⟩;rw [<- hxx] at hcl hxb hsu;have p0:wr.cell? ⟨w.heap.size,0,none⟩=some (.slice a1 qa.head.length k1):=(hWO.pbx.cells 0).1;have p1:wr.cell? ⟨w.heap.size,1,none⟩=some (.int .i64 qa.frm):=(hWO.pbx.cells 1).1;have p2:wr.cell? ⟨w.heap.size,2,none⟩=some (.int .i64 qa.period):=(hWO.pbx.cells 2).1;have p3:wr.cell? ⟨w.heap.size,3,none⟩=some (.slice a2 qa.cycle.length k2):=(hWO.pbx.cells 3).1;have p4:wr.cell? ⟨w.heap.size,4,none⟩=some (.slice a3 qb.head.length k3):=(hWO.pbx.cells 4).1;have p5:wr.cell? ⟨w.heap.size,5,none⟩=some (.int .i64 qb.frm):=(hWO.pbx.cells 5).1;have p6:wr.cell? ⟨w.heap.size,6,none⟩=some (.int .i64 qb.period):=(hWO.pbx.cells 6).1;have p7:wr.cell? ⟨w.heap.size,7,none⟩=some (.slice a4 qb.cycle.length k4):=(hWO.pbx.cells 7).1;have p8:wr.cell? ⟨w.heap.size,8,none⟩=some (.int .i64 st):=(hWO.pbx.cells 8).1;have p9:wr.cell? ⟨w.heap.size,9,none⟩=some (.slice (some ⟨b8,f8,none⟩) (a0_ (cycL qa st)).length xc):=(hWO.pbx.cells 9).1;have p10:wr.cell? ⟨w.heap.size,10,none⟩=some (.slice ya (a0_ (cycL qb st)).length yc):=(hWO.pbx.cells 10).1;have p11:wr.cell? ⟨w.heap.size,11,none⟩=some (.int .i64 g):=(hWO.pbx.cells 11).1;have p12:wr.cell? ⟨w.heap.size,12,none⟩=some (.map (some mb)):=(hWO.pbx.cells 12).1;have HWOr:=hq_ hWO;have HDEFr:=hq_ hdef;have HSU:=hq_ hsu;have HLE:=hq_ hle;have hxb0:=hxb.1;have hxb1:=hxb.2;have hsz1:=hWO.below.size;have hsz2:=hWO.sz;have hP9:=HP.out.ext hWO.below;have HP9:=hq_ hP9;clear hsu hle hWO hdef hxx hcell hxb hP9;cases hfull:e3_ (a0_ (cycL qb st)) g qb.period x with
    | true=>
     have HF:=hq_ hfull;clear hfull;go_wp2_with (go_at_call 181;refine (hk_ _ _ _ _ qa qb st _ _ g mb x _ HP9.out hg hg1 oq_ oq_ oq_ oq_).mono ?_;rintro e w5 ⟨he,hb5⟩;rw [HF.out] at he;subst he)
     go_roundw
     case rel=>
      refine ⟨k+1,oq_,by go_num,⟨v,?_⟩,(hb5.block D (Array.getElem?_eq_some_iff.1 HDEFr.out).1).trans HDEFr.out⟩;rw [HSU.out,HF.out,if_pos rfl,List.append_nil];exact HWOr.out.grow (World.grownBy.of_below hb5 none) (fun r e=>by cases e)
     case measure=>simp [intOf];omega
    | false=>
     have HF:=hq_ hfull;clear hfull;go_wp2_with (go_at_call 181;refine (hk_ _ _ _ _ qa qb st _ _ g mb x _ HP9.out hg hg1 oq_ oq_ oq_ oq_).mono ?_;rintro e w5 ⟨he,hb5⟩;rw [HF.out] at he;subst he)
     have HWO5:Hid (WO w #[.slice a1 qa.head.length k1,.int .i64 qa.frm,.int .i64 qa.period,.slice a2 qa.cycle.length k2,.slice a3 qb.head.length k3,.int .i64 qb.frm,.int .i64 qb.period,.slice a4 qb.cycle.length k4,.int .i64 st,.slice (some ⟨b8,f8,none⟩) (a0_ (cycL qa st)).length xc,.slice ya (a0_ (cycL qb st)).length yc,.int .i64 g,.map (some mb)] W0.heap.size v (WL k) w5):=hq_ (HWOr.out.grow (World.grownBy.of_below hb5 none) (fun r e=>by cases e));have HDEF5:Hid (w5.heap[D]? = some (.deferred (some []))):=hq_ ((hb5.block D (Array.getElem?_eq_some_iff.1 HDEFr.out).1).trans HDEFr.out);clear hb5
     go_loopw [10] (fun i wr=>∃ (m:Nat) (n:Int),m≤R∧i=.int .i64 n∧Hid (n=x+m*qa.period)∧(∃ v,WO w #[.slice a1 qa.head.length k1,.int .i64 qa.frm,.int .i64 qa.period,.slice a2 qa.cycle.length k2,.slice a3 qb.head.length k3,.int .i64 qb.frm,.int .i64 qb.period,.slice a4 qb.cycle.length k4,.int .i64 st,.slice (some ⟨b8,f8,none⟩) (a0_ (cycL qa st)).length xc,.slice ya (a0_ (cycL qb st)).length yc,.int .i64 g,.map (some mb)] W0.heap.size v (WL k ++ cc_ qb st qa.period x m) wr)∧wr.heap[D]? = some (.deferred (some []))) (fun i _=>(L-intOf i).toNat)
     case atStart=>exact ⟨0,x,oq_,rfl,hq_ sq_,⟨v,by simpa [cc_,upto,cg_] using HWO5.out⟩,HDEF5.out⟩
     case round=>
      obtain ⟨m,n,hm,rfl,hn,⟨v9,hWO⟩,hdef⟩:=hrel;obtain ⟨g1,g2,g3⟩:=lj_ hxb0 hxb1 HLR.out hm;rw [<- hn.out] at g1;have hn0:0≤n:=by rw [hn.out];omega
      have hn1:n≤L+qa.period:=by rw [hn.out];omega
      clear g2 g3
      by_cases hlm:m<R
      ·have hnL:n<L:=g1.2 hlm;have hps:=kr_ qb st qa.period x m;rw [<- hn.out] at hps;have hpl:=kd_ qb st qa.period x m;have hlen:(WL k ++ cc_ qb st qa.period x m).length+1≤17592186044416:=by rw [List.length_append];have:=HLE.out;omega
       have hap:=m7_ qb (WL k) (cc_ qb st qa.period x m) (st+n);rw [<- hps] at hap;obtain ⟨K,hK⟩:∃ K,K=WL k ++ cc_ qb st qa.period x m:=⟨_,rfl⟩;rw [<- hK] at hlen hap hWO;obtain ⟨KL,hKL⟩:∃ KL,KL=di_ qb K (st+n):=⟨_,rfl⟩;rw [<- hKL] at hap;have HKL:=hq_ hKL;have HAP:=hq_ hap;have hown:=hWO.own;have hobx:=hWO.obx;obtain ⟨va9,vc9,rfl⟩:=hown.form;have q1:wr.cell? ⟨w.heap.size+1,0,none⟩=some (.func (.func 180) #[] #[.pointer (some ⟨w.heap.size,0,none⟩)]):=(hWO.kbx.cells 0).1;have q2:wr.cell? ⟨w.heap.size+2,0,none⟩=some (.slice va9 K.length vc9):=(hobx.cells 0).1;have q3:wr.frozen? ⟨w.heap.size+2,0,none⟩=false:=(hobx.cells 0).2;have q8:wr.cell? ⟨w.heap.size,8,none⟩=some (.int .i64 st):=(hWO.pbx.cells 8).1;have qp:wr.cell? ⟨w.heap.size,2,none⟩=some (.int .i64 qa.period):=(hWO.pbx.cells 2).1;have hszr:=hWO.sz;have hszw:=hWO.below.size;have HWO9:=hq_ hWO;have HOWN:=hq_ hown;have HOBX:=hq_ hobx;have HDEF9:=hq_ hdef;clear hWO hown hobx hdef hps hap hK hKL g1;go_wp2_with (go_at_call 180;refine (k9_ a1 a2 a3 a4 k1 k2 k3 k4 qa qb st _ _ g mb w.heap.size W0.heap.size (.slice va9 K.length vc9) K (st+n) _ HWO9.out.pbx (HP.out.b.ext HWO9.out.below) HWB.out f2 oq_ oq_ oq_ HOWN.out oq_ oq_).mono ?_;rintro e w6 ⟨v6,rfl,hown6,hg6⟩;rw [<- HKL.out] at hown6;obtain ⟨v6a,v6c,rfl⟩:=hown6.form;have hob6:=HOBX.out.grown hg6 (fun e=>by have h77:=HOWN.out.lt _ e.symm;omega);have r1:=(hob6.cells 0).1;have r2:=(hob6.cells 0).2;have r5:w6.cell? ⟨w.heap.size,2,none⟩=some (.int .i64 qa.period):=((HWO9.out.pbx.grown hg6 (fun e=>by have h77:=HOWN.out.lt _ e.symm;omega)).cells 2).1)
       go_roundw
       case rel=>
        refine ⟨m+1,n+qa.period,oq_,by go_num,hq_ (by rw [hn.out];push_cast;rw [Int.add_mul];omega),⟨.slice v6a KL.length v6c,?_⟩,?_⟩
        ·rw [HAP.out];exact HWO9.out.step hg6 hown6
        ·exact (Below.heap_setCell _ _ _ _ (by have:=(Array.getElem?_eq_some_iff.1 HDEF9.out).1;simp;omega)).trans (i0_ HDEF9.out HOWN.out hg6)
       case measure=>simp [intOf];omega
      ·have hnL:¬ n<L:=fun h=>hlm (g1.1 h);obtain rfl:m=R:=oq_;have HWO9:=hq_ hWO;have HDEF9:=hq_ hdef;clear hWO hdef g1;go_wp2_with fail
       go_roundw
       case rel=>
        refine ⟨k+1,oq_,by go_num,⟨v9,?_⟩,HDEF9.out⟩;rw [HSU.out,HF.out,if_neg sq_];exact HWO9.out
       case measure=>simp [intOf];omega
   ·obtain rfl:k=(a0_ (cycL qa st)).length:=oq_;obtain ⟨va9,vc9,rfl⟩:=hWO.own.form;have q2:wr.cell? ⟨w.heap.size+2,0,none⟩=some (.slice va9 (WL (a0_ (cycL qa st)).length).length vc9):=(hWO.obx.cells 0).1;have HWO9:=hq_ hWO;have HDEF9:=hq_ hdef;have hsz9:=hWO.sz;have hsw9:=hWO.hb;clear hWO hdef;go_wp2_with fail
    gi_wp2_with fail
    have hM:b5_ w.heap.size [{ target:=.collected D,args:=#[] }] wr:=dl_ oq_ HDEF9.out;refine ce_ (B:=w.heap.size) _ _ hM fun w' hs=>⟨.slice va9 (WL (a0_ (cycL qa st)).length).length vc9,by simp [results,Tryz.results153,go_sem],.slice va9 (WL (a0_ (cycL qa st)).length).length vc9,rfl,?_,HWO9.out.below.trans hs.below⟩;have h9:=(HWO9.out.own.shut hs).mono (base':=w.heap.size) oq_
    first|exact h9|(rw [<- HWLe.out];exact h9)
end Go.Proofs.YthjnojbeimchdaaGreat
namespace Go.Proofs.YthjnojbeimchdaaGreat
open Go.RowKit Kal
open Go.Sort (Holds putRow)
theorem OwnI.cut {n:Nat} (h:w.ownsRow base 3 1 (.slice (some ⟨g,0,none⟩) n cap) n (l.map (Value.int .i64))) (hk:k≤n) (hr:∀ x∈l.take k,InI x) (hln:l.length=n) (hb:n≤17592186044416):OwnI w base (.slice (some ⟨g,0,none⟩) k cap) (l.take k):=by
 obtain ⟨h1,h2⟩:=h;rcases h2 with ⟨h2,_⟩|⟨g',cap',cur,hv,hg,hh,hn,hc,hs,ht⟩
 ·cases h2
 ·injection hv with e1 e2 e3
  injection e1 with e1;injection e1 with e1
  subst e1;subst e3;have hlk:(l.take k).length=k:=by simp;omega
  refine ⟨?_,hr,oq_⟩;rw [hlk];refine ⟨tq_,.inr ⟨g,cap,cur,rfl,hg,hh,oq_,hc,hs,?_⟩⟩;rw [Nat.mul_one] at ht ⊢;rw [List.map_take,<- ht,List.take_take,Nat.min_eq_left hk]
theorem vm_ (W:World):Go.Sort.grow W #[]=W:=by cases W;simp [Go.Sort.grow]
theorem p6_ (v:Value) (l:List Int) (base:Nat) (w:World) (hv:OwnI w base v l) :
  Calls Tryz.prog 154 #[v] w fun e w'=>∃ v',e=.returned v'∧OwnI w' base v' (Go.Lib.compact l)∧w.grownBy w' v.ownBlock∧v'.ownBlock=v.ownBlock:=by
 have hv0:=hv;obtain ⟨⟨h1,h2⟩,h3,h4⟩:=hv;rcases h2 with ⟨rfl,h0⟩|⟨g,cap,cur,rfl,hg,hh,hn,hc,hs,ht⟩
 ·have hl:l=[]:=List.eq_nil_of_length_eq_zero h0;subst hl;exact (Tryz.slices_Compact_int_empty none 0 w).mono fun e w' ⟨he,hw⟩=>⟨_,he,by rw [hw];exact OwnI.nil w base,by rw [hw];exact ⟨rfl,rfl,rfl,Nat.le_refl _,fun _ _ _=>rfl⟩,rfl⟩
 ·rw [Nat.mul_one] at ht;have hlc:(Go.Lib.compact l).length≤l.length:=la_;have hmem:∀ x∈Go.Lib.compact l,x∈l:=fun x hx=>by
   unfold Go.Lib.compact Go.Lib.compactUpTo at hx;obtain ⟨j,hj,rfl⟩:=List.mem_map.1 hx;have:=List.mem_range.1 (List.mem_filter.1 hj).1;rw [getElem!_pos l.toArray j (by simpa using this)];simp
  refine (Tryz.slices_Compact_int g 0 cap l w (holds_of_blockI hh ht) oq_ hn).mono fun e w' ⟨he,n,hw⟩=>⟨_,he,?_,?_,rfl⟩
  ·have hlen:(Go.Lib.compact l ++ List.replicate (l.length-(Go.Lib.compact l).length) 0).length=l.length:=by simp;omega
   have:=ownsRow_sortedI (n:=n) (os:=#[]) (ts:=Go.Lib.compact l ++ List.replicate (l.length-(Go.Lib.compact l).length) 0) hlen hg hh hn hc hs;rw [vm_,<- hw] at this;have h9:=OwnI.cut (k:=(Go.Lib.compact l).length) this hlc (fun x hx=>h3 x (hmem x (by simpa using hx))) hlen h4;simpa using h9
  ·have:=grownBy_sortedI (w:=w) (g:=g) (n:=n) (os:=#[]) (Go.Lib.compact l ++ List.replicate (l.length-(Go.Lib.compact l).length) 0).toArray;rw [vm_,<- hw] at this;exact this
theorem v7_ (n:Nat) (w:World) (hn:n≤8796093022208) :
  Calls Tryz.prog 179 #[.slice none 0 0,.int .i64 (n:Int)] w fun e w'=>∃ v,e=.returned v∧OwnI w' w.heap.size v []∧Below w.heap.size w w':=by
 obtain ⟨i0,hi0,hz0,hs0,hb0⟩:=dt_
 by_cases hpos:0<n
 ·have hrz:∀ ty,(Builtin.append_ #[37,3] ty #[.slice none 0 0,.int .i64 (n:Int)]).run Tryz.prog w =
    .ok (.slice (some ⟨w.heap.size,0,none⟩) n (grownCap w n 0 3)) (w.drew.alloc (.cells (#[] ++ Builtin.zeroCells (Value.int .i64 0).cells n ++ Builtin.zeroCells (Value.int .i64 0).cells (grownCap w n 0 3-n)) 3)):=fun ty=>by
   have h:=Lib.run_append_grow_zeros w 37 3 ty 3 i0 (.int .i64 0) .i64 .i64 Tryz.underlying37 Tryz.underlying3 hi0 hz0 none 0 0 [] (run_firstCells_none w.drew i0.size 0 0 0) n hpos oq_ oq_ oq_ (by rw [hb0];omega)
    (growslice_fits oq_ (by rw [hb0];omega))
   simpa using h
  have hGn:n≤grownCap w n 0 3:=grownCap_ge w _ _ _;have hGm:=grownCap_le_maxLen w n 0 3 (by unfold maxLen;omega);obtain ⟨G,hG⟩:∃ G,G=grownCap w n 0 3:=⟨_,rfl⟩;rw [<- hG] at hrz hGn hGm;have hG63:G≤9223372036854775807:=by unfold maxLen at hGm;omega
  have HGM:=hq_ hGm;clear hG hGm;have hnI:(0:Int)<(n:Int):=oq_
  go_enter Tryz.func179,Tryz.ntmps179
  go_wp2_with (at_builtin;refine Lib.wpList_append_run _ rfl _ _ _ _ rfl _ _ rfl rfl _ _ (hrz _) ?_)
  go_ret;refine ⟨_,rfl,⟨⟨rfl,.inr ⟨w.heap.size,G,_,rfl,Nat.le_refl _,World.alloc_heap_new w.drew _,sq_,HGM.out,?_,sq_⟩⟩,sq_,sq_⟩,?_⟩
  ·simp [Builtin.zeroCells,Value.cells];omega
  ·exact ((Below.refl _ _).drew).alloc (Nat.le_refl _) _
 ·obtain rfl:n=0:=oq_
  go_enter Tryz.func179,Tryz.ntmps179
  go_wp2_with fail
  go_ret;exact ⟨_,rfl,OwnI.nil _ _,Below.refl _ _⟩
theorem h1_ {a:Act} {Q:Exit->Act->World->Prop} (hgd:o.guard=none) (s x:Operand)
  (ho:o.op=.call { callee:=.builtin .append,args:=#[s,x],argTypes:=#[37,37] }) (base:Nat) (v xv:Value) (l ys:List Int) (hs:a.eval s=v) (hown:OwnI w base v l)
  (hx:a.eval x=xv) (hxs:Ints w xv ys) (hlen:l.length+ys.length≤17592186044416) (hbase:base≤w.heap.size)
  (h:∀ v' w',OwnI w' base v' (l ++ ys)->w.grownBy w' v.ownBlock->(v'.ownBlock=v.ownBlock∨v'.ownBlock=some w.heap.size)->wpList Tryz.prog ops Q rest (a.put o.dst v') w') :
  wpList Tryz.prog ops Q (o :: rest) a w:=by
 obtain ⟨i,hi,h1,h2,h3⟩:=dt_;obtain ⟨⟨xa,xc,rfl,g1,g2,g3⟩,g4,g5⟩:=hxs;refine wpList_plain hgd fun K hK=>?_;rcases g3 with rfl|⟨b,off,rfl,hcell⟩
 ·have hrun:(Builtin.append_ #[37,37] o.type #[v,.slice xa ([]:List Int).length xc]).run Tryz.prog w=.ok v w:=by
   obtain ⟨⟨r1,r2⟩,r3,r4⟩:=hown;rcases r2 with ⟨rfl,r0⟩|⟨g,cap,cur,rfl,r5,r6,r7,r8,r9,r10⟩
   ·cases xa <;> simp [Builtin.append_,run_underlying Tryz.underlying37,sizeOf,typeInfo,hi,Builtin.lenOf,Builtin.firstCells,loadCells,loadCellsFrom,storeCells]
   ·cases xa <;> simp [Builtin.append_,run_underlying Tryz.underlying37,sizeOf,typeInfo,hi,Builtin.lenOf,Builtin.firstCells,r7,loadCells,loadCellsFrom,storeCells]
  unfold Oper.wp execOp;simp only [ho,resolve,invoke,builtin,Sem.run_bind,Sem.run_pure,Result.andThen_ok,List.map_toArray,List.map_cons,List.map_nil,hs,hx,hrun];exact hK _ _ (h v w (by simpa using hown) (World.grownBy.refl w _) (.inl rfl))
 ·obtain ⟨v',w',hrun,k2,k3,_,k5⟩:=run_append_own_at (P:=Tryz.prog) w base 37 o.type 3 i (.int .i64 0) 1 8 Tryz.underlying37 hi h1 h2 h3 rfl oq_ v l.length (l.map (Value.int .i64)) hown.row ⟨b,off,none⟩ ys.length xc (ys.map (Value.int .i64)) sq_
   (fun j u hu=>by
    rw [List.getElem?_map] at hu;obtain ⟨y,hy,rfl⟩:=Option.map_eq_some_iff.1 hu;obtain ⟨hj,hy'⟩:=List.getElem?_eq_some_iff.1 hy;have:=hcell j hj;rw [show ys.getD j 0=y from by simp [hj,hy']] at this;rw [show (⟨b,off,none⟩:Addr).add j=⟨b,off+j,none⟩ from by simp [Addr.add]];exact this) (by simp [Value.oneCell']) (by unfold maxLen;omega) oq_ hbase
  unfold Oper.wp execOp;simp only [ho,resolve,invoke,builtin,Sem.run_bind,Sem.run_pure,Result.andThen_ok,List.map_toArray,List.map_cons,List.map_nil,hs,hx,hrun];refine hK _ _ (h v' w' ⟨?_,fun z hz=>?_,tq_⟩ k3 k5)
  ·rw [List.length_append,List.map_append];exact k2
  ·rcases List.mem_append.1 hz with hz|hz
   ·exact hown.rng z hz
   ·exact g5 z hz
def Bxx' (w:World) (b:Nat) (c:Array Value):Prop:=∀ i,w.cell? ⟨b,i,none⟩=c[i]?
def st_ (l:List Int) (w:World) (e:Ending) (w':World):Prop:=∃ v,e=.returned v∧OwnI w' w.heap.size v l∧Below w.heap.size w w'
theorem rl_ (b c:Nat) (v1 v2:Value) (l1 l2:List Int) (w:World) (hb:Bxx' w b #[v1,v2]) (h1:Ints w v1 l1) (h2:Ints w v2 l2) (hl:l1.length+l2.length≤8796093022208) (hc:2≤c) (hc1:c≤1000) :
  Calls Tryz.prog 151 #[.slice (some ⟨b,0,none⟩) 2 c] w (st_ (l1 ++ l2) w):=by
 obtain ⟨a1,c1,rfl⟩:∃ a c,v1=.slice a l1.length c:=by obtain ⟨⟨a,c,e,_⟩,_⟩:=h1;exact ⟨a,c,e⟩
 obtain ⟨a2,c2,rfl⟩:∃ a c,v2=.slice a l2.length c:=by obtain ⟨⟨a,c,e,_⟩,_⟩:=h2;exact ⟨a,c,e⟩
 have q0:w.cell? ⟨b,0,none⟩=some (.slice a1 l1.length c1):=(hb 0);have q1:w.cell? ⟨b,1,none⟩=some (.slice a2 l2.length c2):=(hb 1);have H1:=hq_ h1;have H2:=hq_ h2;have HB:=hq_ hb;clear h1 h2 hb
 go_enter Tryz.func151,Tryz.ntmps151
 go_wp2_with fail
 go_loop [11,3] (fun i n=>(i=.int .i64 0∧n=.int .i64 0)∨(i=.int .i64 1∧n=.int .i64 l1.length)∨(i=.int .i64 2∧n=.int .i64 (l1.length+l2.length))) (fun i _=>2-(intOf i).toNat)
 case atStart=>exact .inl ⟨rfl,rfl⟩
 case round=>
  rcases hrel with ⟨rfl,rfl⟩|⟨rfl,rfl⟩|⟨rfl,rfl⟩
  ·go_wp2_with fail
   go_round
   case rel=>exact .inr (.inl ⟨rfl,rfl⟩)
   case measure=>simp [intOf]
  ·go_wp2_with fail
   go_round
   case rel=>exact .inr (.inr ⟨rfl,rfl⟩)
   case measure=>simp [intOf]
  ·go_wp2_with (go_at_call 179;rw [show ((l1.length:Int)+(l2.length:Int))=((l1.length+l2.length:Nat):Int) from by push_cast;rfl];refine (v7_ (l1.length+l2.length) _ hl).mono ?_;rintro e w2 ⟨v2,rfl,hown2,hb2⟩;obtain ⟨va,vc,rfl⟩:=hown2.form;obtain ⟨hc2,hf2⟩:=au_ hb2;(try simp only [World.size_alloc,World.size_drew,af_,World.size_setCell] at hc2 hf2))
   have hE2:Below w.heap.size w w2:=hb2;have HOWN2:=hq_ hown2;clear hown2 hb2 hc2 hf2
   go_loopw [27,6] (fun i ns wr=>((i=.int .i64 0∧OwnI wr w.heap.size ns [])∨(i=.int .i64 1∧OwnI wr w.heap.size ns l1)∨(i=.int .i64 2∧OwnI wr w.heap.size ns (l1 ++ l2)))∧Below w.heap.size w wr) (fun i _ _=>2-(intOf i).toNat)
   case atStart=>exact ⟨.inl ⟨rfl,HOWN2.out⟩,hE2⟩
   case round=>
    obtain ⟨hrel,hEr⟩:=hrel;have q0:=Ext.cell hEr q0;have q1:=Ext.cell hEr q1;have hszr:=hEr.size;rcases hrel with ⟨rfl,hown⟩|⟨rfl,hown⟩|⟨rfl,hown⟩
    ·obtain ⟨na,nc,rfl⟩:=hown.form;have HOWN:=hq_ hown;clear hown;go_wp2_with (at_builtin;refine h1_ rq_ _ _ rq_ w.heap.size (.slice na 0 nc) (.slice a1 l1.length c1) [] l1 rq_ HOWN.out rq_ (H1.out.ext hEr) tq_ oq_ ?_;intro v5 w5 hown5 hgrow5 hloc5;obtain ⟨na5,nc5,rfl⟩:=hown5.form)
     go_roundw
     case rel=>exact ⟨.inr (.inl ⟨rfl,by simpa using hown5⟩),hEr.grown hgrow5 hEr.size (fun k e=>(HOWN.out.lt k e).1)⟩
     case measure=>simp [intOf]
    ·obtain ⟨na,nc,rfl⟩:=hown.form;have HOWN:=hq_ hown;clear hown;go_wp2_with (at_builtin;refine h1_ rq_ _ _ rq_ w.heap.size (.slice na l1.length nc) (.slice a2 l2.length c2) l1 l2 rq_ HOWN.out rq_ (H2.out.ext hEr) oq_ oq_ ?_;intro v5 w5 hown5 hgrow5 hloc5;obtain ⟨na5,nc5,rfl⟩:=hown5.form)
     go_roundw
     case rel=>exact ⟨.inr (.inr ⟨rfl,by simpa using hown5⟩),hEr.grown hgrow5 hEr.size (fun k e=>(HOWN.out.lt k e).1)⟩
     case measure=>simp [intOf]
    ·obtain ⟨na,nc,rfl⟩:=hown.form;have HOWN:=hq_ hown;clear hown;go_wp2_with fail
     go_ret;exact ⟨_,rfl,HOWN.out,hEr⟩
end Go.Proofs.YthjnojbeimchdaaGreat
namespace Go.Proofs.YthjnojbeimchdaaGreat
open Go.RowKit Go.Maps Kal
theorem eu_.below {lo:Nat} (h:eu_ w lo hi h1 c1 h2 c2 qa qb st xv yv mb) (hb:Below B w w') (hB:hi≤B):eu_ w' lo hi h1 c1 h2 c2 qa qb st xv yv mb:=
 ⟨h.a.below hb hB,h.b.below hb hB,h.x.below hb hB,h.y.below hb hB,h.m.of_blocks (fun k _ h2=>hb.block k oq_),h.lom⟩
theorem dp_ (h:q.WF) (hs:q.frm≤st) (y:Int):y∈a0_ (cycL q st)↔0≤y∧y<q.period∧q.mem (st+y):=(dj_ _ y).trans (ju_ h hs y)
theorem kf_ (h:q.WF) (hs:q.frm≤st):Rise 0 q.period (a0_ (cycL q st)):=⟨ga_ (l0_ h st),fun x hx=>by have:=(dp_ h hs x).1 hx;exact ⟨this.1,this.2.1⟩⟩
theorem kw_ (st:Int):(a0_ (cycL q st)).length=q.cycle.length:=by rw [dk_];unfold cycL;simp
theorem mj_ (xs ys:List Int) (a b st:Int):comN xs ys (Int.gcd a b:Nat)=(c1_ xs ys a b st).length:=by
 unfold comN c1_ grp;rw [lo_]
 congr 1
 refine List.map_congr_left fun x _=>?_;simp
structure we_ (p1 p2 qa qb:Per) (st L g:Int):Prop where
 hx:Rise 0 qa.period (a0_ (cycL qa st))
 hy:Rise 0 qb.period (a0_ (cycL qb st))
 n:((sel (fun n=>qa.mem n∧qb.mem n) 0 st).length:Int)+comN (a0_ (cycL qa st)) (a0_ (cycL qb st)) g=cnt (fun n=>p1.mem n∧p2.mem n) (st+L).toNat
 inA:ay_ qa st+(a0_ (cycL qa st)).length*(L / qa.period)=cnt p1.mem (st+L).toNat
 inB:ay_ qb st+(a0_ (cycL qb st)).length*(L / qb.period)=cnt p2.mem (st+L).toNat
 meet:∀ n,n∈c1_ (a0_ (cycL qa st)) (a0_ (cycL qb st)) qa.period qb.period st↔st≤n∧n<st+L∧p1.mem n∧p2.mem n
 headsEq:sel (fun n=>qa.mem n∧qb.mem n) 0 st=sel (fun n=>p1.mem n∧p2.mem n) 0 st
 com:comN (a0_ (cycL qa st)) (a0_ (cycL qb st)) g=(c1_ (a0_ (cycL qa st)) (a0_ (cycL qb st)) qa.period qb.period st).length
theorem vv_ {p1 p2:Per} (hqa:a6_ qa p1.mem) (hqb:a6_ qb p2.mem) {L g:Int} (hs1:qa.frm≤st) (hs2:qb.frm≤st) (hL:L=lcmI qa.period qb.period) (hg:g=(Int.gcd qa.period qb.period:Nat)):we_ p1 p2 qa qb st L g:=by
 have hx:=kf_ hqa.wf hs1;have hy:=kf_ hqb.wf hs2;have h0:0≤st:=by have:=hqa.wf.frm;omega
 have hsel:sel (fun n=>qa.mem n∧qb.mem n) 0 st=sel (fun n=>p1.mem n∧p2.mem n) 0 st:=eb_ (Int.le_refl _) fun n=>by rw [hqa.mem,hqb.mem]
 have hL1:1≤L:=by rw [hL];exact c7_ hqa.wf.per hqb.wf.per
 refine ⟨hx,hy,?_,?_,?_,?_,hsel,by rw [hg];exact mj_ _ _ _ _ _⟩
 ·rw [hsel,hg,mj_ (st:=st),hL];exact ue_ hqa hqb hs1 hs2 hx hy (dp_ hqa.wf hs1) (dp_ hqb.wf hs2) h0
 ·rw [kw_];exact sk_ hqa hs1 hL1 (hL ▸ cr_)
 ·rw [kw_];exact sk_ hqb hs2 hL1 (hL ▸ cz_)
 ·rw [hL];exact ka_ hqa hqb hs1 hs2 hx hy (dp_ hqa.wf hs1) (dp_ hqb.wf hs2)
theorem qu_ {a:Option Addr} (l:List Int) (hi:i≤l.length) (hc:l.length≤c) :
  ∃ a',(∀ W,(Instr.slice 37 (.slice a l.length c) none (some (.int .i64 (i:Int))) (some (.int .i64 (i:Int)))).run Tryz.prog W=.ok (.slice a' i i) W)∧
   (∀ w,Ints w (.slice a l.length c) l->Ints w (.slice a' i i) (l.take i)):=by
 refine ⟨if i=0 then a else a.map (·.add (0*1)),fun W=>?_,fun w h=>?_⟩
 ·rw [run_slice_hm W 37 _ _ _ (by kernel_rfl) .i64 .i64 _ _ oq_ oq_ oq_];have hz:(sizeOf (Tryz.prog.elem 37)).run Tryz.prog W=.ok 1 W:=by kernel_rfl
  rw [hz];simp only [Result.andThen,sliced,Int.toNat_natCast,Nat.sub_zero]
 ·obtain ⟨⟨a2,c2,he,h1,h2,h3⟩,h4,h5⟩:=h;injection he with e1 e2 e3
  subst e1;subst e3;have hl:(l.take i).length=i:=by simp;omega
  refine ⟨⟨_,i,by rw [hl],by rw [hl];exact Nat.le_refl _,oq_,?_⟩,oq_,fun x hx=>h5 x (List.mem_of_mem_take hx)⟩
  by_cases h0:i=0
  ·subst h0;exact .inl sq_
  ·rcases h3 with rfl|⟨b,o,rfl,hcell⟩
   ·simp at hi;omega
   ·refine .inr ⟨b,o,by rw [if_neg h0];simp [Addr.add],fun j hj=>?_⟩;rw [hl] at hj;rw [hcell j oq_];simp [List.getD_eq_getElem?_getD,List.getElem?_take_of_lt hj]
theorem u3_ {wr w17:World} (h:A.grownBy wr (some ob)) (hb:Below A.heap.size wr w17):A.grownBy (w17.setCell ⟨ob,i,none⟩ v) (some ob):=
 ⟨(
  show (w17.setCell ⟨ob,i,none⟩ v).os=_ from hb.os).trans h.os,(show (w17.setCell ⟨ob,i,none⟩ v).tape=_ from hb.tape).trans h.tape,(show (w17.setCell ⟨ob,i,none⟩ v).output=_ from hb.output).trans h.output,by have:=h.size;have:=hb.size;simp [World.setCell];omega,
  fun k hk hne=>((Below.heap_setCell w17 ⟨ob,i,none⟩ v k (by intro e;exact hne (by rw [e]))).trans (hb.block k hk)).trans (h.block k hk hne)⟩
theorem mr_ {LL SEL:List Int} (hs:SEL.Pairwise (· < ·)) (hm:∀ x,x∈LL↔x∈SEL):Go.Lib.compact (a0_ LL)=SEL:=by
 obtain ⟨h1,h2⟩:=lm_ (o6_ LL);exact ep_ h1 hs fun x=>by rw [h2,dj_,hm]
theorem v4_ (hq:q.WF) (hs:q.frm≤st) {g:Int} (hg:1≤g) (hgd:g∣q.period) (hf:e3_ (a0_ (cycL q st)) g q.period r=true) (hn:st≤n) (hr:(n-st) % g=r % g):q.mem n:=by
 have hp:=hq.per;have hr0:=Int.emod_nonneg r (show g≠0 by omega);have hr1:=Int.emod_lt_of_pos r (show 0<g by omega);have h1:=(rg_ (ys:=a0_ (cycL q st)) hp hg hgd (kf_ hq hs) hr0 hr1).1 (of_decide_eq_true hf);refine (ew_ hq hs (dp_ hq hs) hn).1 (h1 _ (Int.emod_nonneg _ oq_) (Int.emod_lt_of_pos _ oq_) ?_);rw [Int.emod_emod_of_dvd _ hgd,hr]
theorem sb_ (ha:qa.WF) (hb:qb.WF) {g L:Int} (hs1:qa.frm≤st) (hs2:qb.frm≤st) (hg:g=(Int.gcd qa.period qb.period:Nat)) (hLR:L=R*qa.period) (x:Int) :
  x∈eo_ qa qb st g (a0_ (cycL qa st)) (a0_ (cycL qb st)) R (a0_ (cycL qa st)).length↔x∈sel (fun n=>qa.mem n∧¬ qb.mem n) 0 (st+L):=by
 have hf0:=ha.frm;have hp:=ha.per;have hg1:1≤g:=by rw [hg];exact (bn_ hp).1
 have hga:g∣qa.period:=by rw [hg];exact Int.gcd_dvd_left _ _
 have hgb:g∣qb.period:=by rw [hg];exact Int.gcd_dvd_right _ _
 have hL0:0≤L:=by rw [hLR];exact Int.mul_nonneg oq_ oq_
 have key:∀ {r:Int} {j:Nat},r∈a0_ (cycL qa st)->j<R->qa.mem (st+(r+j*qa.period))∧0≤r+j*qa.period∧r+j*qa.period<L:=by
  intro r j hr hj;have hr':=(dp_ ha hs1 r).1 hr;have h3:=lj_ (a:=qa.period) (L:=L) (m:=j) (R:=R) hr'.1 hr'.2.1 hLR oq_;have h4:=h3.1.2 hj;refine ⟨(ew_ ha hs1 (dp_ ha hs1) oq_).1 ?_,oq_,h4⟩;rw [show st+(r+j*qa.period)-st=r+j*qa.period from oq_,Int.add_mul_emod_self_right,Int.emod_eq_of_lt hr'.1 hr'.2.1];exact hr
 have nm:∀ {n:Int},0≤n->((!memB qb n)=true↔¬ qb.mem n):=fun {n} h=>by
  have:=gh_ (p:=qb) h;cases hm:memB qb n <;> simp [hm] at this ⊢ <;> assumption
 unfold eo_;rw [List.take_length,List.mem_append,List.mem_flatMap,ae_ (Int.le_refl _)];constructor
 ·rintro (h|⟨r,hr,h⟩)
  ·unfold cg_ at h;rw [List.mem_filter,ae_ (Int.le_refl _)] at h;exact ⟨h.1.1,oq_,h.1.2.2,(nm h.1.1).1 h.2⟩
  ·split at h
   ·simp at h
   ·unfold cc_ cg_ at h;rw [List.mem_filter,List.mem_map] at h;obtain ⟨⟨j,hj,rfl⟩,h2⟩:=h;rw [ey_] at hj;obtain ⟨m,rfl⟩:=Int.eq_ofNat_of_zero_le hj.1;obtain ⟨k1,k2,k3⟩:=key hr (show m<R by omega);exact ⟨oq_,oq_,k1,(nm oq_).1 h2⟩
 ·rintro ⟨h0,h1,h2,h3⟩
  by_cases hx:x<st
  ·refine .inl ?_;unfold cg_;rw [List.mem_filter,ae_ (Int.le_refl _)];exact ⟨⟨h0,hx,h2⟩,(nm h0).2 h3⟩
  ·have hr:=(ew_ ha hs1 (dp_ ha hs1) (show st≤x by omega)).2 h2;refine .inr ⟨_,hr,?_⟩;have hnf:¬ e3_ (a0_ (cycL qb st)) g qb.period ((x-st) % qa.period)=true:=fun hf=>
    h3 (v4_ hb hs2 hg1 hgb hf oq_ (by rw [Int.emod_emod_of_dvd _ hga]))
   rw [if_neg hnf];unfold cc_ cg_;rw [List.mem_filter,List.mem_map];have e:=Int.emod_add_ediv_mul (x-st) qa.period;have hd0:0≤(x-st) / qa.period:=Int.ediv_nonneg oq_ oq_;refine ⟨⟨(x-st) / qa.period,(ey_ _ _).2 ⟨hd0,?_⟩,oq_⟩,(nm h0).2 h3⟩;exact Int.ediv_lt_of_lt_mul oq_ (by rw [<- hLR];omega)
theorem s3_ {k:Int} (h:opS k p.mem q.mem n):0≤n:=by
 unfold opS at h
 split at h
 ·exact h.1.1
 ·split at h
  ·exact h.elim And.left And.left
  ·exact h.1.1
theorem mk_ {k:Int} {T:Int} (h1:am_ p.mem s T) (h2:am_ q.mem s T):am_ (opS k p.mem q.mem) s T:=by
 intro n hn;have a:=h1 n hn;have b:=h2 n hn;unfold opS
 split
 ·exact ⟨fun h=>⟨a.1 h.1,b.1 h.2⟩,fun h=>⟨a.2 h.1,b.2 h.2⟩⟩
 ·split
  ·exact ⟨fun h=>h.imp a.1 b.1,fun h=>h.imp a.2 b.2⟩
  ·exact ⟨fun h=>⟨a.1 h.1,fun g=>h.2 (b.2 g)⟩,fun h=>⟨a.2 h.1,fun g=>h.2 (b.1 g)⟩⟩
theorem hs_ (kd:Int) (hkd:kd=0∨kd=1∨kd=2) (h1 c1 h2 c2:Value) (p1 p2 qa qb q:Per) (w:World) (hp1:a8_ w h1 c1 p1) (hp2:a8_ w h2 c2 p2) (hv1:Valid p1) (hv2:Valid p2) (hqa:a6_ qa p1.mem) (hqb:a6_ qb p2.mem)
  (hL:lcmI qa.period qb.period≤1099511627776) (hpp:kd=0->qa.period≤4294967295∧qb.period≤4294967295)
  (hq:a6_ q (opS kd p1.mem p2.mem)) (hcn:cnt (opS kd p1.mem p2.mem) (max qa.frm qb.frm+lcmI qa.period qb.period).toNat≤1048576) :
  Calls Tryz.prog 119 #[perV h1 c1 p1.frm p1.period,perV h2 c2 p2.frm p2.period,.int .i64 kd] w (b6_ q w):=by
 have hk0:0≤kd:=oq_;have hk1:kd≤2:=oq_;have HKD:=hq_ hkd;have HPP:=hq_ hpp;have HCNT:=hq_ hcn;clear hkd hpp hcn;obtain ⟨a1,m1,a2,m2,rfl,rfl⟩:=hp1.inn.form;obtain ⟨a3,m3,a4,m4,rfl,rfl⟩:=hp2.inn.form;have hl1:∀ W,Below w.heap.size w W->a8_ W (.slice a1 p1.head.length m1) (.slice a2 p1.cycle.length m2) p1:=fun W hb=>hp1.ext hb;have hl2:∀ W,Below w.heap.size w W->a8_ W (.slice a3 p2.head.length m3) (.slice a4 p2.cycle.length m4) p2:=fun W hb=>hp2.ext hb;have hvb1:=(as_ p1).2 hv1;have hvb2:=(as_ p2).2 hv2;have HV1:=hq_ hv1;have HV2:=hq_ hv2;have HQA:=hq_ hqa;have HQB:=hq_ hqb;have HF1:Hid (p1.frm≤562949953421312∧p1.period≤562949953421312):=by have:=hv1.frm;have:=hv1.per;exact hq_ oq_
 have HF2:Hid (p2.frm≤562949953421312∧p2.period≤562949953421312):=by have:=hv2.frm;have:=hv2.per;exact hq_ oq_
 obtain ⟨b1,b2,_,b4,b5⟩:=hqa.smaller hv1.wf;obtain ⟨d1,d2,_,d4,d5⟩:=hqb.smaller hv2.wf;have za0:=hqa.wf.frm;have zb0:=hqb.wf.frm;have za1:=hqa.wf.per;have zb1:=hqb.wf.per;have e1:=hv1.frm;have e2:=hv1.per;have e3:=hv2.frm;have e4:=hv2.per;have hgl:=bn_ (b:=qb.period) za1;have hgl2:=cs_ (a:=qa.period) zb1;clear hp1 hp2 hv1 hv2 hqa hqb;obtain ⟨st,hst⟩:∃ st,st=max (max qa.frm qb.frm) 0:=⟨_,rfl⟩;have HSTT:=hq_ hst;have hs1:qa.frm≤st:=oq_;have hs2:qb.frm≤st:=oq_;have hs3:st≤1099511627776:=oq_;clear hst;generalize hG:((Int.gcd qa.period qb.period:Nat):Int)=g at *;have HG:=hq_ hG;clear hG
 go_enter Tryz.func119,Tryz.ntmps119
 go_upto_region 4 with ((first|(go_at_call 65;first|((with_reducible refine (cd_ _ _ p1 _ (hl1 _ xE)).mono ?_);rintro e w1 ⟨rfl,hb1⟩;obtain ⟨hx1,hf1⟩:=au_ hb1;(try simp only [World.size_alloc,World.size_drew,af_,World.size_setCell] at hx1 hf1);have hz1:w.heap.size+2<w1.heap.size:=(by have h7:=hb1.size;simp at h7;omega))|((with_reducible refine (cd_ _ _ p2 _ (hl2 _ xE)).mono ?_);rintro e w2 ⟨rfl,hb2⟩;obtain ⟨hx2,hf2⟩:=au_ hb2;(try simp only [World.size_alloc,World.size_drew,af_,World.size_setCell] at hx2 hf2);have hz2:w.heap.size+2<w2.heap.size:=(by have h7:=hb2.size;omega);have hA:=(((((Bxx.new w #[.slice a1 p1.head.length m1,.int .i64 p1.frm,.int .i64 p1.period,.slice a2 p1.cycle.length m2] 39).alloc (.cells #[.slice a3 p2.head.length m3,.int .i64 p2.frm,.int .i64 p2.period,.slice a4 p2.cycle.length m4] 39)).alloc (.cells #[.slice none 0 0,.int .i64 0,.int .i64 0,.slice none 0 0] 39)).upto hb1 tq_).upto hb2 oq_);have hB:=((((Bxx.new (w.alloc (.cells #[.slice a1 p1.head.length m1,.int .i64 p1.frm,.int .i64 p1.period,.slice a2 p1.cycle.length m2] 39)) #[.slice a3 p2.head.length m3,.int .i64 p2.frm,.int .i64 p2.period,.slice a4 p2.cycle.length m4] 39).alloc (.cells #[.slice none 0 0,.int .i64 0,.int .i64 0,.slice none 0 0] 39)).upto hb1 sq_).upto hb2 tq_);simp only [World.size_alloc] at hB;have A0:=(hA.cells 0).1;have A1:=(hA.cells 1).1;have A2:=(hA.cells 2).1;have A3:=(hA.cells 3).1;have B0:=(hB.cells 0).1;have B1:=(hB.cells 1).1;have B2:=(hB.cells 2).1;have B3:=(hB.cells 3).1))|(go_at_call 147;refine (pi_ _ _ _ _ p1 p2 qa qb 0 _ (hl1 _ xE) (hl2 _ xE) HV1.out.wf HV2.out.wf HF1.out.1 HF2.out.1 HF1.out.2 HF2.out.2 HQA.out HQB.out oq_ oq_).mono ?_;rintro e w3 ⟨x1,x2,x3,x4,xv,yv,mb,he,hP,hb3⟩;rw [<- HSTT.out,HG.out] at he;rw [<- HSTT.out] at hP;subst he;obtain ⟨z1,y1,z2,y2,rfl,rfl⟩:=hP.a.form;obtain ⟨z3,y3,z4,y4,rfl,rfl⟩:=hP.b.form;obtain ⟨⟨⟨xa,xc,rfl,_⟩,hxl,_⟩,_⟩:=hP.x;obtain ⟨⟨⟨ya,yc,rfl,_⟩,hyl,_⟩,_⟩:=hP.y)))
 generalize hpbw:w3.heap.size=pb at *;have hszb:w.heap.size+2<w2.heap.size:=hz2;have hszc:w2.heap.size≤pb:=by have:=hb3.size;omega
 have hrx:Bxx w3 (w.heap.size+2) #[.slice none 0 0,.int .i64 0,.int .i64 0,.slice none 0 0] 39:=(((Bxx.at sq_).upto hb1 sq_).upto hb2 oq_).upto hb3 oq_;refine al_ (F:=fun W3=>Bxx W3 pb #[.slice z1 qa.head.length y1,.int .i64 qa.frm,.int .i64 qa.period,.slice z2 qa.cycle.length y2,.slice z3 qb.head.length y3,.int .i64 qb.frm,.int .i64 qb.period,.slice z4 qb.cycle.length y4,.int .i64 st,.slice xa (a0_ (cycL qa st)).length xc,.slice ya (a0_ (cycL qb st)).length yc,.int .i64 g,.map (some mb)] 139∧Bxx W3 (w.heap.size+2) #[.slice none 0 0,.int .i64 0,.int .i64 0,.slice none 0 0] 39∧eu_ W3 w2.heap.size pb (.slice z1 qa.head.length y1) (.slice z2 qa.cycle.length y2) (.slice z3 qb.head.length y3) (.slice z4 qb.cycle.length y4) qa qb st (.slice xa (a0_ (cycL qa st)).length xc) (.slice ya (a0_ (cycL qb st)).length yc) mb∧Below w.heap.size w W3∧W3.heap.size=pb+1)
  ⟨Bxx.at hpbw.symm,hrx.alloc _,hP.below (Ea (Er _) _) oq_,by exact xE,by simp [hpbw]⟩ ?_
 clear hP hrx hb1 hb2 hb3 hx1 hf1 hx2 hf2 hA hB A0 A1 A2 A3 B0 B1 B2 B3 hvb1 hvb2 hz1 hpbw;rintro W3 ⟨hpb,hrb,hP,hE3,hz3⟩;have c0:W3.cell? ⟨pb,0,none⟩=some (.slice z1 qa.head.length y1):=(hpb.cells 0).1;have c1:W3.cell? ⟨pb,1,none⟩=some (.int .i64 qa.frm):=(hpb.cells 1).1;have c2:W3.cell? ⟨pb,2,none⟩=some (.int .i64 qa.period):=(hpb.cells 2).1;have c3:W3.cell? ⟨pb,3,none⟩=some (.slice z2 qa.cycle.length y2):=(hpb.cells 3).1;have c4:W3.cell? ⟨pb,4,none⟩=some (.slice z3 qb.head.length y3):=(hpb.cells 4).1;have c5:W3.cell? ⟨pb,5,none⟩=some (.int .i64 qb.frm):=(hpb.cells 5).1;have c6:W3.cell? ⟨pb,6,none⟩=some (.int .i64 qb.period):=(hpb.cells 6).1;have c7:W3.cell? ⟨pb,7,none⟩=some (.slice z4 qb.cycle.length y4):=(hpb.cells 7).1;have c8:W3.cell? ⟨pb,8,none⟩=some (.int .i64 st):=(hpb.cells 8).1;have c9:W3.cell? ⟨pb,9,none⟩=some (.slice xa (a0_ (cycL qa st)).length xc):=(hpb.cells 9).1;have c10:W3.cell? ⟨pb,10,none⟩=some (.slice ya (a0_ (cycL qb st)).length yc):=(hpb.cells 10).1;have c11:W3.cell? ⟨pb,11,none⟩=some (.int .i64 g):=(hpb.cells 11).1;have c12:W3.cell? ⟨pb,12,none⟩=some (.map (some mb)):=(hpb.cells 12).1;have hL0:=c7_ za1 zb1;have HLV:Hid (lcmV qa.period qb.period=.tuple #[.int .i64 (lcmI qa.period qb.period),.int .i64 0]):=hq_ (by unfold lcmV;rw [if_pos hL]);generalize hLL:lcmI qa.period qb.period=L at *;have HLL:=hq_ hLL;have HFA:=hq_ (vv_ HQA.out HQB.out hs1 hs2 hLL.symm HG.out.symm);have hPA:=hP.at;rw [HG.out] at hPA;have HPA:=hq_ hPA;have HP:=hq_ hP;have HPB:=hq_ hpb;have HRB:=hq_ hrb;have HZ3:=hq_ hz3;have hcl:(sel (fun n=>qa.mem n∧qb.mem n) 0 st).length≤1099511627776:=by
  have:=(ad_ (S:=fun n=>qa.mem n∧qb.mem n) (lo:=0) (hi:=st) (Int.le_refl _)).length_le oq_;omega
 have hcc:comN (a0_ (cycL qa st)) (a0_ (cycL qb st)) g≤2199023255552:=by
  have h1:=HFA.out.n;have h2:=fj_ (fun n=>p1.mem n∧p2.mem n) (st+L).toNat;omega
 clear hLL hPA hP hpb hrb hz3;obtain ⟨HL,hHL⟩:∃ HL,HL=sel (fun n=>qa.mem n∧qb.mem n) 0 st:=⟨_,rfl⟩;have HHL:=hq_ hHL;rw [<- hHL] at hcl;obtain ⟨cn,hcn9⟩:∃ cn,cn=comN (a0_ (cycL qa st)) (a0_ (cycL qb st)) g:=⟨_,rfl⟩;have HCN:=hq_ hcn9;rw [<- hcn9] at hcc;clear hHL hcn9;go_upto_region 9 with ((first|(go_at_call 29;refine (q1_ _ _ _ za1 oq_ zb1 oq_).mono ?_;rintro e w4 ⟨he,nq,rfl⟩;rw [HLV.out] at he;subst he)|(go_at_call 148;refine (tx_ _ _ _ _ qa qb st _ _ g mb _ (HPA.out.ext xE) HQA.out.wf HQB.out.wf (by have:=HSTT.out;omega) oq_ oq_ oq_ oq_).mono ?_;rintro e w5 ⟨hv,rfl,hown5,hb5⟩;rw [<- HHL.out] at hown5;obtain ⟨hva,hvc,rfl⟩:=hown5.form;obtain ⟨hc5,hf5⟩:=au_ hb5;(try simp only [World.size_alloc,World.size_drew,af_,World.size_setCell] at hc5 hf5);have hz5:=HZ3.out;have hz5b:=hb5.size;(try simp only [af_] at hz5b);have hz5c:pb<w5.heap.size:=oq_)|(go_at_call 149;refine (qf_ _ _ _ _ qa qb st _ _ g mb _ (HPA.out.ext xE) oq_ oq_ (fun x hx=>by have:=HFA.out.hx.2 x hx;omega) (by rw [<- HCN.out];omega)).mono ?_;rintro e w6 ⟨he,hb6⟩;rw [<- HCN.out] at he;subst he)))
 have hE6:Below W3.heap.size W3 w6:=by exact xE
 have hown6:=hown5.ext hb6;have hsz6:=hE6.size;have HE6:=hq_ hE6;have HOWN6:=hq_ hown6;have hpb6:=HPB.out.below hE6;have d0:w6.cell? ⟨pb,0,none⟩=some (.slice z1 qa.head.length y1):=(hpb6.cells 0).1;have d1:w6.cell? ⟨pb,1,none⟩=some (.int .i64 qa.frm):=(hpb6.cells 1).1;have d2:w6.cell? ⟨pb,2,none⟩=some (.int .i64 qa.period):=(hpb6.cells 2).1;have d3:w6.cell? ⟨pb,3,none⟩=some (.slice z2 qa.cycle.length y2):=(hpb6.cells 3).1;have d4:w6.cell? ⟨pb,4,none⟩=some (.slice z3 qb.head.length y3):=(hpb6.cells 4).1;have d5:w6.cell? ⟨pb,5,none⟩=some (.int .i64 qb.frm):=(hpb6.cells 5).1;have d6:w6.cell? ⟨pb,6,none⟩=some (.int .i64 qb.period):=(hpb6.cells 6).1;have d7:w6.cell? ⟨pb,7,none⟩=some (.slice z4 qb.cycle.length y4):=(hpb6.cells 7).1;have d8:w6.cell? ⟨pb,8,none⟩=some (.int .i64 st):=(hpb6.cells 8).1;have d9:w6.cell? ⟨pb,9,none⟩=some (.slice xa (a0_ (cycL qa st)).length xc):=(hpb6.cells 9).1;have d10:w6.cell? ⟨pb,10,none⟩=some (.slice ya (a0_ (cycL qb st)).length yc):=(hpb6.cells 10).1;have d11:w6.cell? ⟨pb,11,none⟩=some (.int .i64 g):=(hpb6.cells 11).1;have d12:w6.cell? ⟨pb,12,none⟩=some (.map (some mb)):=(hpb6.cells 12).1;have HPB6:=hq_ hpb6;have hba:=es_ HQA.out.wf (show 0≤st by omega);have hbb:=es_ HQB.out.wf (show 0≤st by omega);obtain ⟨bA,hbA⟩:∃ bA,bA=ay_ qa st:=⟨_,rfl⟩;obtain ⟨bB,hbB⟩:∃ bB,bB=ay_ qb st:=⟨_,rfl⟩;obtain ⟨RA,hRA⟩:∃ RA,RA=L / qa.period:=⟨_,rfl⟩;obtain ⟨RB,hRB⟩:∃ RB,RB=L / qb.period:=⟨_,rfl⟩;obtain ⟨PA,hPA9⟩:∃ PA,PA=((a0_ (cycL qa st)).length:Int)*RA:=⟨_,rfl⟩;obtain ⟨PB,hPB9⟩:∃ PB,PB=((a0_ (cycL qb st)).length:Int)*RB:=⟨_,rfl⟩;have hIA:bA+PA=cnt p1.mem (st+L).toNat:=by rw [hbA,hPA9,hRA];exact HFA.out.inA
 have hIB:bB+PB=cnt p2.mem (st+L).toNat:=by rw [hbB,hPB9,hRB];exact HFA.out.inB
 have hIA1:=fj_ p1.mem (st+L).toNat;have hIB1:=fj_ p2.mem (st+L).toNat;rw [<- hbA] at hba;rw [<- hbB] at hbb;have hRA0:0≤RA:=by rw [hRA];exact Int.ediv_nonneg oq_ oq_
 have hRB0:0≤RB:=by rw [hRB];exact Int.ediv_nonneg oq_ oq_
 have hRA1:RA≤L:=by rw [hRA];exact Int.ediv_le_self _ oq_
 have hRB1:RB≤L:=by rw [hRB];exact Int.ediv_le_self _ oq_
 have hPA0:0≤PA:=by rw [hPA9];exact Int.mul_nonneg oq_ hRA0
 have hPB0:0≤PB:=by rw [hPB9];exact Int.mul_nonneg oq_ hRB0
 have hPA1:PA≤2199023255552:=oq_;have hPB1:PB≤2199023255552:=oq_;have hmA:IntKind.i64.wrap (((a0_ (cycL qa st)).length:Int)*RA)=PA:=by rw [<- hPA9];exact f5_ ⟨oq_,oq_⟩
 have hmB:IntKind.i64.wrap (((a0_ (cycL qb st)).length:Int)*RB)=PB:=by rw [<- hPB9];exact f5_ ⟨oq_,oq_⟩
 have hsA0:0≤bA+PA:=oq_;have hsA1:bA+PA≤2199023255552:=oq_;have hsB0:0≤bB+PB:=oq_;have hsB1:bB+PB≤2199023255552:=oq_;have hxl9:(a0_ (cycL qa st)).length≤17592186044416:=hxl;have hyl9:(a0_ (cycL qb st)).length≤17592186044416:=hyl;have HIA:=hq_ hIA;have HIB:=hq_ hIB;have HBA:=hq_ hbA;have HBB:=hq_ hbB;have HRA:=hq_ hRA;have HRB9:=hq_ hRB;have HB5:=hq_ hb5;clear c0 c1 c2 c3 c4 c5 c6 c7 c8 c9 c10 c11 c12 hE6 hown6 hown5 hpb6 hIA hIB hIA1 hIB1 hbA hbB hRA hRB hPA9 hPB9 hb6 hb5 hc5 hf5;refine ai_ (w0:=w6) [0,1,2,3,4,5,6,7,8,9,10,11,12,13,14,15] [] (fun v=>⟨#[perV (.slice a1 p1.head.length m1) (.slice a2 p1.cycle.length m2) p1.frm p1.period,perV (.slice a3 p2.head.length m3) (.slice a4 p2.cycle.length m4) p2.frm p2.period,.int .i64 kd,.pointer (some ⟨w.heap.size,0,none⟩),.pointer (some ⟨w.heap.size+1,0,none⟩),undef,.pointer (some ⟨w.heap.size+1+1,0,none⟩),.int .i64 0,.pointer (some ⟨pb,0,none⟩),.int .i64 L,.int .i64 0,.slice hva HL.length hvc,.int .i64 (↑HL.length+↑cn),v 15,undef,undef,undef,undef,undef,undef,undef,undef,.agg #[.slice a1 p1.head.length m1,.int .i64 p1.frm,.int .i64 p1.period,.slice a2 p1.cycle.length m2],.bool true,.bool false,.bool false,.agg #[.slice a3 p2.head.length m3,.int .i64 p2.frm,.int .i64 p2.period,.slice a4 p2.cycle.length m4],.bool true,.bool false,.bool false,undef,.agg #[.slice a1 p1.head.length m1,.int .i64 p1.frm,.int .i64 p1.period,.slice a2 p1.cycle.length m2],.agg #[.slice a3 p2.head.length m3,.int .i64 p2.frm,.int .i64 p2.period,.slice a4 p2.cycle.length m4],em_ (.slice z1 qa.head.length y1) (.slice z2 qa.cycle.length y2) (.slice z3 qb.head.length y3) (.slice z4 qb.cycle.length y4) qa qb st (.slice xa (a0_ (cycL qa st)).length xc) (.slice ya (a0_ (cycL qb st)).length yc) g mb,.tuple #[.int .i64 L,.int .i64 0],.pointer (some ⟨pb,0,none⟩),.pointer (some ⟨pb,2,none⟩),.int .i64 qa.period,.pointer (some ⟨pb,4,none⟩),.pointer (some ⟨pb,6,none⟩),.int .i64 qb.period,.tuple #[.int .i64 L,.int .i64 0],.int .i64 L,.int .i64 0,.int .i64 0,.bool false,undef,.agg #[.slice z1 qa.head.length y1,.int .i64 qa.frm,.int .i64 qa.period,.slice z2 qa.cycle.length y2,.slice z3 qb.head.length y3,.int .i64 qb.frm,.int .i64 qb.period,.slice z4 qb.cycle.length y4,.int .i64 st,.slice xa (a0_ (cycL qa st)).length xc,.slice ya (a0_ (cycL qb st)).length yc,.int .i64 g,.map (some mb)],.slice hva HL.length hvc,.slice hva HL.length hvc,.int .i64 ↑HL.length,.agg #[.slice z1 qa.head.length y1,.int .i64 qa.frm,.int .i64 qa.period,.slice z2 qa.cycle.length y2,.slice z3 qb.head.length y3,.int .i64 qb.frm,.int .i64 qb.period,.slice z4 qb.cycle.length y4,.int .i64 st,.slice xa (a0_ (cycL qa st)).length xc,.slice ya (a0_ (cycL qb st)).length yc,.int .i64 g,.map (some mb)],.int .i64 ↑cn,.int .i64 (↑HL.length+↑cn),v 0,v 1,v 2,v 3,v 4,v 5,v 6,v 7,v 8,v 9,v 10,v 11,v 12,v 13,v 14,undef,undef,undef,undef,undef,undef,undef,undef,undef,undef,undef,undef,undef,undef,undef,undef,undef,undef,undef,undef,undef,undef,undef,undef,undef,undef,undef,undef,undef,undef,undef,undef,undef,undef,undef,undef,undef,undef,undef,undef,undef,undef,undef,undef,undef,undef,undef,undef,undef,undef,undef,undef,undef,undef,undef,undef,undef,undef,undef,undef,undef,undef,undef,undef,undef,undef,undef,undef,undef,undef,undef,undef,undef,undef,undef,undef,undef,undef,undef,undef,undef,undef,undef,undef,undef,undef,undef,undef,undef,undef,undef,undef,undef,undef,undef,undef,undef,undef],[]⟩) [.pointer (some ⟨pb,0,none⟩),perV (.slice z1 qa.head.length y1) (.slice z2 qa.cycle.length y2) qa.frm qa.period,.pointer (some ⟨pb,8,none⟩),.int .i64 st,.int .i64 bA,.pointer (some ⟨pb,9,none⟩),.slice xa (a0_ (cycL qa st)).length xc,.int .i64 (a0_ (cycL qa st)).length,.int .i64 L,.pointer (some ⟨pb,0,none⟩),.pointer (some ⟨pb,2,none⟩),.int .i64 qa.period,.int .i64 RA,.int .i64 PA,.int .i64 (bA+PA),.int .i64 (bA+PA)] [] (fun _ _ _ _ _=>True) (fun W=>W.cell? ⟨pb,0,none⟩=some (.slice z1 qa.head.length y1)∧W.cell? ⟨pb,1,none⟩=some (.int .i64 qa.frm)∧W.cell? ⟨pb,2,none⟩=some (.int .i64 qa.period)∧W.cell? ⟨pb,3,none⟩=some (.slice z2 qa.cycle.length y2)∧W.cell? ⟨pb,8,none⟩=some (.int .i64 st)∧W.cell? ⟨pb,9,none⟩=some (.slice xa (a0_ (cycL qa st)).length xc)) (fun W hb=>⟨cux d0 hb,cux d1 hb,cux d2 hb,cux d3 hb,cux d8 hb,cux d9 hb⟩) trivial trivial ?steps ?fin
 case steps=>
  refine .c [] [] rfl ?_ (.c [0] [] rfl ?_ (.c [] [] rfl ?_ (.c [2] [] rfl ?_ (.c [1,3] [] rfl ?_ (.c [] [] rfl ?_ (.c [5] [] rfl ?_ (.c [6] [] rfl ?_ (.c [] [] rfl ?_ (.c [] [] rfl ?_ (.c [9] [] rfl ?_ (.c [10] [] rfl ?_ (.c [8,11] [] rfl ?_ (.c [7,12] [] rfl ?_ (.c [4,13] [] rfl ?_ (.c [0,1,2,3,4,5,6,7,8,9,10,11,12,13,14] [] rfl ?_ (.n))))))))))))))))
  all_goals try exact stw
  ·rintro v lo hi W hb ⟨g0,g1,g2,g3,g8,g9⟩ _;refine .inl ⟨rfl,fun K hK=>?_⟩;simp only [ov,vat,Nat.reduceBEq,cond_true,cond_false];go_wp2_with (go_at_call 85;refine (iu_ _ _ qa st _ (HPA.out.a.ext (Et HE6.out hb)) HQA.out.wf oq_ oq_ oq_ oq_).mono ?_;rintro e w7 ⟨he,hb7⟩;rw [<- HBA.out] at he;subst he)
   exact acx (hK w7 hb7) (by simp [ov,vat,upd])
  ·rintro v lo hi W hb ⟨g0,g1,g2,g3,g8,g9⟩ _;refine .inl ⟨rfl,fun K hK=>?_⟩;simp only [ov,vat,Nat.reduceBEq,cond_true,cond_false];go_wp2_with fail
   exact acx (hK W (Below.refl _ _)) (by simp [ov,vat,upd,HRA.out])
 case fin=>
  rintro v lo hi W7 hb7 _ hf _;show wpList _ _ _ [] _ _;have f13:v 15=.int .i64 (bA+PA):=(hf 15 rfl).2.2.2;clear hf;dsimp only;rw [f13];clear f13;generalize v 0=u54,v 1=u55,v 2=u56,v 3=u57,v 4=u58,v 5=u59,v 6=u60,v 7=u61,v 8=u62,v 9=u63,v 10=u64,v 11=u65,v 12=u66,v 13=u67,v 14=u68;clear v;have hE8:Below W3.heap.size W3 W7:=Et HE6.out hb7;have hown8:=HOWN6.out.ext hb7;have hpb8:=HPB.out.below hE8;have hsz8:=hE8.size;clear d0 d1 d2 d3 d4 d5 d6 d7 d8 d9 d10 d11 d12 hb7;obtain ⟨w8,rfl⟩:∃ w8,w8=W7:=⟨_,rfl⟩;have d0:w8.cell? ⟨pb,0,none⟩=some (.slice z1 qa.head.length y1):=(hpb8.cells 0).1;have d1:w8.cell? ⟨pb,1,none⟩=some (.int .i64 qa.frm):=(hpb8.cells 1).1;have d2:w8.cell? ⟨pb,2,none⟩=some (.int .i64 qa.period):=(hpb8.cells 2).1;have d3:w8.cell? ⟨pb,3,none⟩=some (.slice z2 qa.cycle.length y2):=(hpb8.cells 3).1;have d4:w8.cell? ⟨pb,4,none⟩=some (.slice z3 qb.head.length y3):=(hpb8.cells 4).1;have d5:w8.cell? ⟨pb,5,none⟩=some (.int .i64 qb.frm):=(hpb8.cells 5).1;have d6:w8.cell? ⟨pb,6,none⟩=some (.int .i64 qb.period):=(hpb8.cells 6).1;have d7:w8.cell? ⟨pb,7,none⟩=some (.slice z4 qb.cycle.length y4):=(hpb8.cells 7).1;have d8:w8.cell? ⟨pb,8,none⟩=some (.int .i64 st):=(hpb8.cells 8).1;have d9:w8.cell? ⟨pb,9,none⟩=some (.slice xa (a0_ (cycL qa st)).length xc):=(hpb8.cells 9).1;have d10:w8.cell? ⟨pb,10,none⟩=some (.slice ya (a0_ (cycL qb st)).length yc):=(hpb8.cells 10).1;have d11:w8.cell? ⟨pb,11,none⟩=some (.int .i64 g):=(hpb8.cells 11).1;have d12:w8.cell? ⟨pb,12,none⟩=some (.map (some mb)):=(hpb8.cells 12).1;have HPB8:=hq_ hpb8;have HOWN8:=hq_ hown8;have HE8:=hq_ hE8;clear hpb8 hown8 hE8 HPB6;go_wp2_with fail
  refine ai_ (w0:=w8) [0,1,2,3,4,5,6,7,8,9,10,11,12,13,14,15] [] (fun v=>⟨#[perV (.slice a1 p1.head.length m1) (.slice a2 p1.cycle.length m2) p1.frm p1.period,perV (.slice a3 p2.head.length m3) (.slice a4 p2.cycle.length m4) p2.frm p2.period,.int .i64 kd,.pointer (some ⟨w.heap.size,0,none⟩),.pointer (some ⟨w.heap.size+1,0,none⟩),undef,.pointer (some ⟨w.heap.size+1+1,0,none⟩),.int .i64 0,.pointer (some ⟨pb,0,none⟩),.int .i64 L,.int .i64 0,.slice hva HL.length hvc,.int .i64 (↑HL.length+↑cn),.int .i64 (bA+PA),v 15,undef,undef,undef,undef,undef,undef,undef,.agg #[.slice a1 p1.head.length m1,.int .i64 p1.frm,.int .i64 p1.period,.slice a2 p1.cycle.length m2],.bool true,.bool false,.bool false,.agg #[.slice a3 p2.head.length m3,.int .i64 p2.frm,.int .i64 p2.period,.slice a4 p2.cycle.length m4],.bool true,.bool false,.bool false,undef,.agg #[.slice a1 p1.head.length m1,.int .i64 p1.frm,.int .i64 p1.period,.slice a2 p1.cycle.length m2],.agg #[.slice a3 p2.head.length m3,.int .i64 p2.frm,.int .i64 p2.period,.slice a4 p2.cycle.length m4],em_ (.slice z1 qa.head.length y1) (.slice z2 qa.cycle.length y2) (.slice z3 qb.head.length y3) (.slice z4 qb.cycle.length y4) qa qb st (.slice xa (a0_ (cycL qa st)).length xc) (.slice ya (a0_ (cycL qb st)).length yc) g mb,.tuple #[.int .i64 L,.int .i64 0],.pointer (some ⟨pb,0,none⟩),.pointer (some ⟨pb,2,none⟩),.int .i64 qa.period,.pointer (some ⟨pb,4,none⟩),.pointer (some ⟨pb,6,none⟩),.int .i64 qb.period,.tuple #[.int .i64 L,.int .i64 0],.int .i64 L,.int .i64 0,.int .i64 0,.bool false,undef,.agg #[.slice z1 qa.head.length y1,.int .i64 qa.frm,.int .i64 qa.period,.slice z2 qa.cycle.length y2,.slice z3 qb.head.length y3,.int .i64 qb.frm,.int .i64 qb.period,.slice z4 qb.cycle.length y4,.int .i64 st,.slice xa (a0_ (cycL qa st)).length xc,.slice ya (a0_ (cycL qb st)).length yc,.int .i64 g,.map (some mb)],.slice hva HL.length hvc,.slice hva HL.length hvc,.int .i64 ↑HL.length,.agg #[.slice z1 qa.head.length y1,.int .i64 qa.frm,.int .i64 qa.period,.slice z2 qa.cycle.length y2,.slice z3 qb.head.length y3,.int .i64 qb.frm,.int .i64 qb.period,.slice z4 qb.cycle.length y4,.int .i64 st,.slice xa (a0_ (cycL qa st)).length xc,.slice ya (a0_ (cycL qb st)).length yc,.int .i64 g,.map (some mb)],.int .i64 ↑cn,.int .i64 (↑HL.length+↑cn),u54,u55,u56,u57,u58,u59,u60,u61,u62,u63,u64,u65,u66,u67,u68,v 0,v 1,v 2,v 3,v 4,v 5,v 6,v 7,v 8,v 9,v 10,v 11,v 12,v 13,v 14,undef,undef,undef,undef,undef,undef,undef,undef,undef,undef,undef,undef,undef,undef,undef,undef,undef,undef,undef,undef,undef,undef,undef,undef,undef,undef,undef,undef,undef,undef,undef,undef,undef,undef,undef,undef,undef,undef,undef,undef,undef,undef,undef,undef,undef,undef,undef,undef,undef,undef,undef,undef,undef,undef,undef,undef,undef,undef,undef,undef,undef,undef,undef,undef,undef,undef,undef,undef,undef,undef,undef,undef,undef,undef,undef,undef,undef,undef,undef,undef,undef,undef,undef],[]⟩) [.pointer (some ⟨pb,4,none⟩),perV (.slice z3 qb.head.length y3) (.slice z4 qb.cycle.length y4) qb.frm qb.period,.pointer (some ⟨pb,8,none⟩),.int .i64 st,.int .i64 bB,.pointer (some ⟨pb,10,none⟩),.slice ya (a0_ (cycL qb st)).length yc,.int .i64 (a0_ (cycL qb st)).length,.int .i64 L,.pointer (some ⟨pb,4,none⟩),.pointer (some ⟨pb,6,none⟩),.int .i64 qb.period,.int .i64 RB,.int .i64 PB,.int .i64 (bB+PB),.int .i64 (bB+PB)] [] (fun _ _ _ _ _=>True) (fun W=>W.cell? ⟨pb,4,none⟩=some (.slice z3 qb.head.length y3)∧W.cell? ⟨pb,5,none⟩=some (.int .i64 qb.frm)∧W.cell? ⟨pb,6,none⟩=some (.int .i64 qb.period)∧W.cell? ⟨pb,7,none⟩=some (.slice z4 qb.cycle.length y4)∧W.cell? ⟨pb,8,none⟩=some (.int .i64 st)∧W.cell? ⟨pb,10,none⟩=some (.slice ya (a0_ (cycL qb st)).length yc)) (fun W hb=>⟨cux d4 hb,cux d5 hb,cux d6 hb,cux d7 hb,cux d8 hb,cux d10 hb⟩) trivial trivial ?steps ?fin
  case steps=>
   refine .c [] [] rfl ?_ (.c [0] [] rfl ?_ (.c [] [] rfl ?_ (.c [2] [] rfl ?_ (.c [1,3] [] rfl ?_ (.c [] [] rfl ?_ (.c [5] [] rfl ?_ (.c [6] [] rfl ?_ (.c [] [] rfl ?_ (.c [] [] rfl ?_ (.c [9] [] rfl ?_ (.c [10] [] rfl ?_ (.c [8,11] [] rfl ?_ (.c [7,12] [] rfl ?_ (.c [4,13] [] rfl ?_ (.c [0,1,2,3,4,5,6,7,8,9,10,11,12,13,14] [] rfl ?_ (.n))))))))))))))))
   all_goals try exact stw
   ·rintro v lo hi W hb ⟨g4,g5,g6,g7,g8,g10⟩ _;refine .inl ⟨rfl,fun K hK=>?_⟩;simp only [ov,vat,Nat.reduceBEq,cond_true,cond_false];go_wp2_with (go_at_call 85;refine (iu_ _ _ qb st _ (HPA.out.b.ext (Et HE8.out hb)) HQB.out.wf oq_ oq_ oq_ oq_).mono ?_;rintro e w7 ⟨he,hb7⟩;rw [<- HBB.out] at he;subst he)
    exact acx (hK w7 hb7) (by simp [ov,vat,upd])
   ·rintro v lo hi W hb ⟨g4,g5,g6,g7,g8,g10⟩ _;refine .inl ⟨rfl,fun K hK=>?_⟩;simp only [ov,vat,Nat.reduceBEq,cond_true,cond_false];go_wp2_with fail
    exact acx (hK W (Below.refl _ _)) (by simp [ov,vat,upd,HRB9.out])
  case fin=>
   rintro v lo hi W10 hb10 _ hf _;show wpList _ _ _ [] _ _;have f13:v 15=.int .i64 (bB+PB):=(hf 15 rfl).2.2.2;clear hf;dsimp only;rw [f13];clear f13;generalize v 0=t54,v 1=t55,v 2=t56,v 3=t57,v 4=t58,v 5=t59,v 6=t60,v 7=t61,v 8=t62,v 9=t63,v 10=t64,v 11=t65,v 12=t66,v 13=t67,v 14=t68;clear v;have hE10:Below W3.heap.size W3 W10:=Et HE8.out hb10;have hown10:=HOWN8.out.ext hb10;have hpb10:=HPB.out.below hE10;have hsz10:=hE10.size;clear d0 d1 d2 d3 d4 d5 d6 d7 d8 d9 d10 d11 d12 hb10;obtain ⟨w10,rfl⟩:∃ w10,w10=W10:=⟨_,rfl⟩;have HOWN10:=hq_ hown10;have HE10:=hq_ hE10;have d0:w10.cell? ⟨pb,0,none⟩=some (.slice z1 qa.head.length y1):=(hpb10.cells 0).1;have d1:w10.cell? ⟨pb,1,none⟩=some (.int .i64 qa.frm):=(hpb10.cells 1).1;have d2:w10.cell? ⟨pb,2,none⟩=some (.int .i64 qa.period):=(hpb10.cells 2).1;have d3:w10.cell? ⟨pb,3,none⟩=some (.slice z2 qa.cycle.length y2):=(hpb10.cells 3).1;have d4:w10.cell? ⟨pb,4,none⟩=some (.slice z3 qb.head.length y3):=(hpb10.cells 4).1;have d5:w10.cell? ⟨pb,5,none⟩=some (.int .i64 qb.frm):=(hpb10.cells 5).1;have d6:w10.cell? ⟨pb,6,none⟩=some (.int .i64 qb.period):=(hpb10.cells 6).1;have d7:w10.cell? ⟨pb,7,none⟩=some (.slice z4 qb.cycle.length y4):=(hpb10.cells 7).1;have d8:w10.cell? ⟨pb,8,none⟩=some (.int .i64 st):=(hpb10.cells 8).1;have d9:w10.cell? ⟨pb,9,none⟩=some (.slice xa (a0_ (cycL qa st)).length xc):=(hpb10.cells 9).1;have d10:w10.cell? ⟨pb,10,none⟩=some (.slice ya (a0_ (cycL qb st)).length yc):=(hpb10.cells 10).1;have d11:w10.cell? ⟨pb,11,none⟩=some (.int .i64 g):=(hpb10.cells 11).1;have d12:w10.cell? ⟨pb,12,none⟩=some (.map (some mb)):=(hpb10.cells 12).1;have HPB10:=hq_ hpb10;have hpl10:pb<w10.heap.size:=by have:=HZ3.out;omega
   clear hpb10 hown10 hE10 HPB8;have hcn:=HCNT.out;have hmx:max qa.frm qb.frm=st:=by have:=HSTT.out;omega
   rw [hmx] at hcn;have HCNS:=hq_ hcn;clear hmx hcn;have hsn:=HFA.out.n;rw [<- HHL.out,<- HCN.out] at hsn;have hb1:=fj_ (fun n=>p1.mem n∧p2.mem n) (st+L).toNat;have hn1:(HL.length:Int)+cn≤2199023255552:=oq_;have HSN:=hq_ hsn;clear hsn hb1;go_upto_region 12 with (fail)
   refine al_ (F:=fun U=>Bxx U w10.heap.size #[.int .i64 (↑HL.length+↑cn),.int .i64 (bA+PA+(bB+PB)-(↑HL.length+↑cn)),.int .i64 (bA+PA-(↑HL.length+↑cn))] 143∧Below w10.heap.size w10 U) ⟨xB,xE⟩ ?_;rintro W11 ⟨hbx,hE11⟩;have x0:=(hbx.cells 0).1;have x1:=(hbx.cells 1).1;have x2:=(hbx.cells 2).1;have hE11':=Et HE10.out hE11;have hpb11:=HPB.out.below hE11';have hsz11:=hE11'.size;have HOWN11:=hq_ (HOWN10.out.ext hE11);have HE11:=hq_ hE11';clear hbx hE11 hE11' d0 d1 d2 d3 d4 d5 d6 d7 d8 d9 d10 d11 d12 HOWN10;have d0:W11.cell? ⟨pb,0,none⟩=some (.slice z1 qa.head.length y1):=(hpb11.cells 0).1;have d1:W11.cell? ⟨pb,1,none⟩=some (.int .i64 qa.frm):=(hpb11.cells 1).1;have d2:W11.cell? ⟨pb,2,none⟩=some (.int .i64 qa.period):=(hpb11.cells 2).1;have d3:W11.cell? ⟨pb,3,none⟩=some (.slice z2 qa.cycle.length y2):=(hpb11.cells 3).1;have d4:W11.cell? ⟨pb,4,none⟩=some (.slice z3 qb.head.length y3):=(hpb11.cells 4).1;have d5:W11.cell? ⟨pb,5,none⟩=some (.int .i64 qb.frm):=(hpb11.cells 5).1;have d6:W11.cell? ⟨pb,6,none⟩=some (.int .i64 qb.period):=(hpb11.cells 6).1;have d7:W11.cell? ⟨pb,7,none⟩=some (.slice z4 qb.cycle.length y4):=(hpb11.cells 7).1;have d8:W11.cell? ⟨pb,8,none⟩=some (.int .i64 st):=(hpb11.cells 8).1;have d9:W11.cell? ⟨pb,9,none⟩=some (.slice xa (a0_ (cycL qa st)).length xc):=(hpb11.cells 9).1;have d10:W11.cell? ⟨pb,10,none⟩=some (.slice ya (a0_ (cycL qb st)).length yc):=(hpb11.cells 10).1;have d11:W11.cell? ⟨pb,11,none⟩=some (.int .i64 g):=(hpb11.cells 11).1;have d12:W11.cell? ⟨pb,12,none⟩=some (.map (some mb)):=(hpb11.cells 12).1;clear hpb11
   go_cut [97] (fun s wx=>s=.bool false∧wx=W11)
   case first=>
    have hcn:=HCNS.out;have h1:=HSN.out;have h2:=HIA.out;have h4:=HIB.out;rcases HKD.out with rfl|rfl|rfl
    ·rw [dr_] at hcn;have hnb:decide ((1048576:Int)<(HL.length:Int)+(cn:Int))=false:=by rw [decide_eq_false_iff_not];omega
     clear h1 h2 h4 hcn;go_wp2_with fail
     go_meet
     exact ⟨rfl,rfl⟩
    ·rw [fl_] at hcn;have h3:=rk_ p1.mem p2.mem (st+L).toNat;have hnb:decide ((1048576:Int)<bA+PA+(bB+PB)-((HL.length:Int)+(cn:Int)))=false:=by rw [decide_eq_false_iff_not];omega
     clear h1 h2 h4 h3 hcn;go_wp2_with fail
     go_meet
     exact ⟨rfl,rfl⟩
    ·rw [d5_] at hcn;have h3:=s6_ p1.mem p2.mem (st+L).toNat;have hnb:decide ((1048576:Int)<bA+PA-((HL.length:Int)+(cn:Int)))=false:=by rw [decide_eq_false_iff_not];omega
     clear h1 h2 h4 h3 hcn;go_wp2_with fail
     go_meet
     exact ⟨rfl,rfl⟩
   case rest=>
    obtain ⟨rfl,rfl⟩:=hcut
    go_upto_block 0 with (fail)
    go_cut [16] (fun s wx=>∃ (va:Option Addr) (vc:Nat) (LL:List Int),s=.slice va LL.length vc∧Hid (OwnI wx W3.heap.size (.slice va LL.length vc) LL)∧Hid (Below W3.heap.size W3 wx)∧Hid (∀ x,x∈LL↔x∈sel (opS kd p1.mem p2.mem) 0 (st+L)))
    case first=>
     rcases HKD.out with rfl|rfl|rfl
     ·have hcn:=HCNS.out;have hsn:=HSN.out;rw [dr_] at hcn;have hn2:HL.length+cn≤1048576:=oq_;obtain ⟨hpa,hpb⟩:=HPP.out rfl;have hpbm:=HP.out.pairB (base:=W3.heap.size) (by have:=HZ3.out;omega);rw [HG.out] at hpbm;have HPBM:=hq_ hpbm;have HLM:Hid (HL.length+(c1_ (a0_ (cycL qa st)) (a0_ (cycL qb st)) qa.period qb.period st).length≤4398046511104):=hq_ (by rw [<- HFA.out.com,<- HCN.out];omega);have HLB:Hid (lcmI qa.period qb.period≤1099511627776):=hq_ (by rw [HLL.out];exact hL);clear hpbm hcn hsn;go_wp2_with (go_at_call 150;refine (v2_ _ _ _ _ qa qb st _ _ g mb W3.heap.size _ HL _ (HPBM.out.below HE11.out) HG.out.symm za1 hpa zb1 hpb HLB.out oq_ oq_ HFA.out.hx HFA.out.hy HOWN11.out oq_ HLM.out).mono ?_;rintro e w11 ⟨v11,rfl,hown11,hb11⟩;obtain ⟨LL,hLL9⟩:∃ LL,LL=HL ++ c1_ (a0_ (cycL qa st)) (a0_ (cycL qb st)) qa.period qb.period st:=⟨_,rfl⟩;rw [<- hLL9] at hown11;have HLLQ:=hq_ hLL9;have HOW:=hq_ hown11;have HB11:=hq_ hb11;clear hown11 hb11 hLL9;obtain ⟨va,vc,rfl⟩:=HOW.out.form)
      go_meet
      refine ⟨va,vc,LL,rfl,HOW,hq_ (HE11.out.trans HB11.out),hq_ fun x=>?_⟩;rw [dr_,HLLQ.out,List.mem_append,HHL.out,HFA.out.headsEq,HFA.out.meet,ae_ (Int.le_refl _),ae_ (Int.le_refl _)];constructor
      ·rintro (⟨h1,h2,h3⟩|⟨h1,h2,h3⟩)
       ·exact ⟨h1,oq_,h3⟩
       ·exact ⟨oq_,h2,h3⟩
      ·rintro ⟨h1,h2,h3⟩
       by_cases hx:x<st
       ·exact .inl ⟨h1,hx,h3⟩
       ·exact .inr ⟨oq_,h2,h3⟩
     ·have hla:=(ad_ (S:=qa.mem) (lo:=0) (hi:=st+L) (Int.le_refl _)).length_le oq_;have hlb:=(ad_ (S:=qb.mem) (lo:=0) (hi:=st+L) (Int.le_refl _)).length_le oq_;obtain ⟨lA,hlA⟩:∃ lA,lA=sel qa.mem 0 (st+L):=⟨_,rfl⟩;obtain ⟨lB,hlB⟩:∃ lB,lB=sel qb.mem 0 (st+L):=⟨_,rfl⟩;rw [<- hlA] at hla;rw [<- hlB] at hlb;have HLA:=hq_ hlA;have HLB9:=hq_ hlB;clear hlA hlB;go_upto_region 19 with (fail)
      have HE12:=HE11;refine ai_ (w0:=wc) [0,1,2,3,4,5,6,7,8,9,10,11,12,13,14,15,16] [] (fun v=>⟨#[perV (.slice a1 p1.head.length m1) (.slice a2 p1.cycle.length m2) p1.frm p1.period,perV (.slice a3 p2.head.length m3) (.slice a4 p2.cycle.length m4) p2.frm p2.period,.int .i64 1,.pointer (some ⟨w.heap.size,0,none⟩),.pointer (some ⟨w.heap.size+1,0,none⟩),undef,.pointer (some ⟨w.heap.size+1+1,0,none⟩),.int .i64 0,.pointer (some ⟨pb,0,none⟩),.int .i64 L,.int .i64 0,.slice hva HL.length hvc,.int .i64 (↑HL.length+↑cn),.int .i64 (bA+PA),.int .i64 (bB+PB),.pointer (some ⟨w10.heap.size,0,none⟩),v 16,undef,undef,undef,undef,undef,u22,u23,u24,u25,u26,u27,u28,u29,u30,u31,u32,u33,u34,u35,u36,u37,u38,u39,u40,u41,u42,u43,u44,u45,u46,u47,u48,u49,u50,u51,u52,u53,u54,u55,u56,u57,u58,u59,u60,u61,u62,u63,u64,u65,u66,u67,u68,u69,u70,u71,u72,u73,u74,u75,u76,u77,u78,u79,u80,u81,u82,u83,u84,u85,u86,u87,u88,u89,u90,u91,u92,u93,u94,u95,u96,.bool false,u98,.int .i64 1,.bool false,.bool false,u102,u103,u104,.bool true,.bool true,v 0,v 1,v 2,v 3,v 4,v 5,v 6,v 7,v 8,v 9,v 10,v 11,v 12,v 13,v 14,v 15,undef,u124,u125,u126,u127,u128,u129,u130,u131,u132,u133,u134,u135,u136,u137,u138,u139,u140,u141,u142,u143,u144,u145,u146,u147,u148,undef,undef,undef,u152,u153,u154,u155,u156,u157,u158,u159,u160,u161,u162,u163,u164,u165,u166],[]⟩) [.pointer (some ⟨pb,0,none⟩),perV (.slice z1 qa.head.length y1) (.slice z2 qa.cycle.length y2) qa.frm qa.period,.pointer (some ⟨pb,8,none⟩),.int .i64 st,.int .i64 L,.int .i64 (st+L),undef,.pointer (some ⟨pb,4,none⟩),perV (.slice z3 qb.head.length y3) (.slice z4 qb.cycle.length y4) qb.frm qb.period,.pointer (some ⟨pb,8,none⟩),.int .i64 st,.int .i64 L,.int .i64 (st+L),undef,undef,undef,undef] [6,13,14,15,16] (fun i v lo hi W=>match i with|6=>(∃ a c,v 6=.slice a lA.length c)∧g2_ W (lo 6) (hi 6) (v 6) lA|13=>(∃ a c,v 13=.slice a lB.length c)∧g2_ W (lo 13) (hi 13) (v 13) lB|14=>v 14=.slice (some ⟨lo 14,0,none⟩) 2 2∧lo 14<hi 14∧Bxx W (lo 14) #[v 6,v 13] 37∧Ints W (v 6) lA∧Ints W (v 13) lB|15=>(∃ a c,v 15=.slice a (lA ++ lB).length c)∧g2_ W (lo 15) (hi 15) (v 15) (lA ++ lB)|16=>(∃ a c,v 16=.slice a (lA ++ lB).length c)∧g2_ W (lo 15) (hi 15) (v 16) (lA ++ lB)|_=>True) (fun W=>W.cell? ⟨pb,0,none⟩=some (.slice z1 qa.head.length y1)∧W.cell? ⟨pb,1,none⟩=some (.int .i64 qa.frm)∧W.cell? ⟨pb,2,none⟩=some (.int .i64 qa.period)∧W.cell? ⟨pb,3,none⟩=some (.slice z2 qa.cycle.length y2)∧W.cell? ⟨pb,4,none⟩=some (.slice z3 qb.head.length y3)∧W.cell? ⟨pb,5,none⟩=some (.int .i64 qb.frm)∧W.cell? ⟨pb,6,none⟩=some (.int .i64 qb.period)∧W.cell? ⟨pb,7,none⟩=some (.slice z4 qb.cycle.length y4)∧W.cell? ⟨pb,8,none⟩=some (.int .i64 st)) (fun W hb=>⟨cux d0 hb,cux d1 hb,cux d2 hb,cux d3 hb,cux d4 hb,cux d5 hb,cux d6 hb,cux d7 hb,cux d8 hb⟩) ?stab ?loc ?steps ?fin (fun j=>match j with|0=>u107|1=>u108|2=>u109|3=>u110|4=>u111|5=>u112|6=>u113|7=>u114|8=>u115|9=>u116|10=>u117|11=>u118|12=>u119|13=>u120|14=>u121|15=>u122|16=>.slice none 0 0|_=>undef)
      case stab=>
       refine ⟨?_,?_,?_,?_,?_,trivial⟩
       ·intro v lo hi W W' h hb;exact ⟨h.1,h.2.below hb⟩
       ·intro v lo hi W W' h hb;exact ⟨h.1,h.2.below hb⟩
       ·intro v lo hi W W' h hb;exact ⟨h.1,h.2.1,h.2.2.1.below hb,h.2.2.2.1.ext hb,h.2.2.2.2.ext hb⟩
       ·intro v lo hi W W' h hb;exact ⟨h.1,h.2.below hb⟩
       ·intro v lo hi W W' h hb;exact ⟨h.1,h.2.below hb⟩
      case loc=>
       refine ⟨?_,?_,?_,?_,?_,trivial⟩
       ·intro v v' lo lo' hi hi' W hag h;have q:=hag 6 (.inl rfl)
        (try dsimp only at h ⊢)
        simp only [q.1,q.2.1,q.2.2] at h;exact h
       ·intro v v' lo lo' hi hi' W hag h;have q:=hag 13 (.inl rfl)
        (try dsimp only at h ⊢)
        simp only [q.1,q.2.1,q.2.2] at h;exact h
       ·intro v v' lo lo' hi hi' W hag h;have q:=hag 14 (.inl rfl);have q6:=hag 6 (.inr (Rdp (by kernel_rfl)));have q13:=hag 13 (.inr (Rdp (by kernel_rfl)))
        (try dsimp only at h ⊢)
        simp only [q.1,q.2.1,q.2.2,q6.1,q6.2.1,q6.2.2,q13.1,q13.2.1,q13.2.2] at h;exact h
       ·intro v v' lo lo' hi hi' W hag h;have q:=hag 15 (.inl rfl)
        (try dsimp only at h ⊢)
        simp only [q.1,q.2.1,q.2.2] at h;exact h
       ·intro v v' lo lo' hi hi' W hag h;have q:=hag 16 (.inl rfl);have q15:=hag 15 (.inr (Rdp (by kernel_rfl)))
        (try dsimp only at h ⊢)
        simp only [q.1,q.2.1,q.2.2,q15.1,q15.2.1,q15.2.2] at h;exact h
      case steps=>
       refine .c [] [] rfl ?_ (.c [0] [] rfl ?_ (.c [] [] rfl ?_ (.c [2] [] rfl ?_ (.c [] [] rfl ?_ (.c [3,4] [] rfl ?_ (.c [1,5] [] rfl ?_ (.c [] [] rfl ?_ (.c [7] [] rfl ?_ (.c [] [] rfl ?_ (.c [9] [] rfl ?_ (.c [] [] rfl ?_ (.c [10,11] [] rfl ?_ (.c [8,12] [] rfl ?_ (.c [] [6,13] rfl ?_ (.c [] [14] rfl ?_ (.c [] [15] rfl ?_ (.n)))))))))))))))))
       all_goals try exact stw
       ·rintro v lo hi W hb ⟨g0,g1,g2,g3,g4,g5,g6,g7,g8⟩ _;refine .inl ⟨rfl,fun K hK=>?_⟩;simp only [ov,vat,Nat.reduceBEq,cond_true,cond_false];go_wp2_with (go_at_call 152;refine (l4_ _ _ qa 0 (st+L) _ (HPA.out.a.ext (Et HE12.out hb)) HQA.out.wf oq_ oq_ oq_ oq_ oq_ oq_).mono ?_;rintro e w7 ⟨x,rfl,ho7,hb7⟩;rw [<- HLA.out] at ho7)
        exact acx (hK x w7 hb7 ⟨ho7.form,ho7.at⟩) (by simp [ov,vat,upd])
       ·rintro v lo hi W hb ⟨g0,g1,g2,g3,g4,g5,g6,g7,g8⟩ _;refine .inl ⟨rfl,fun K hK=>?_⟩;simp only [ov,vat,Nat.reduceBEq,cond_true,cond_false];go_wp2_with (go_at_call 152;refine (l4_ _ _ qb 0 (st+L) _ (HPA.out.b.ext (Et HE12.out hb)) HQB.out.wf oq_ oq_ oq_ oq_ oq_ oq_).mono ?_;rintro e w7 ⟨x,rfl,ho7,hb7⟩;rw [<- HLB9.out] at ho7)
        exact acx (hK x w7 hb7 ⟨ho7.form,ho7.at⟩) (by simp [ov,vat,upd])
       ·rintro v lo hi W hb ⟨g0,g1,g2,g3,g4,g5,g6,g7,g8⟩ ⟨⟨la6,lb6,D6⟩,⟨la13,lb13,D13⟩,_⟩;refine .inl ⟨rfl,fun K hK=>?_⟩;simp only [ov,vat,Nat.reduceBEq,cond_true,cond_false]
        (try dsimp only at D6 D13)
        obtain ⟨⟨a6,c6,e6⟩,o6⟩:=D6;obtain ⟨⟨a13,c13,e13⟩,o13⟩:=D13;have i6:=o6.inn.own.ints;have i13:=o13.inn.own.ints
        (try simp only [e6,e13])
        go_wp2_with fail
        exact acx (hK (.slice (some ⟨W.heap.size,0,none⟩) 2 2) _ (Ea (Er _) _) ⟨rfl,sq_,by (try simp only [e6,e13]);exact Bxx.new _ _ _,i6.ext (Ea (Er _) _),i13.ext (Ea (Er _) _)⟩) (by simp [ov,vat,upd,e6,e13])
       ·rintro v lo hi W hb ⟨g0,g1,g2,g3,g4,g5,g6,g7,g8⟩ ⟨⟨la14,lb14,D14⟩,_⟩;refine .inl ⟨rfl,fun K hK=>?_⟩;simp only [ov,vat,Nat.reduceBEq,cond_true,cond_false]
        (try dsimp only at D14)
        obtain ⟨e14,h14a,h14b,h14c,h14d⟩:=D14
        (try simp only [e14])
        go_wp2_with (go_at_call 151;refine (rl_ (lo 14) 2 (v 6) (v 13) lA lB _ (fun i=>(h14b.cells i).1) h14c h14d oq_ oq_ oq_).mono ?_;rintro e w7 ⟨x,rfl,ho7,hb7⟩)
        exact acx (hK x w7 hb7 ⟨ho7.form,ho7.at⟩) (by simp [ov,vat,upd,e14])
       ·rintro v lo hi W hb ⟨g0,g1,g2,g3,g4,g5,g6,g7,g8⟩ ⟨⟨la15,lb15,D15⟩,_⟩;refine .inl ⟨rfl,fun K hK=>?_⟩;simp only [ov,vat,Nat.reduceBEq,cond_true,cond_false]
        (try dsimp only at D15)
        obtain ⟨⟨a15,c15,e15⟩,o15⟩:=D15
        (try simp only [e15])
        go_wp2_with fail
        exact acx (hK (v 15) W (Below.refl _ _) ⟨⟨a15,c15,e15⟩,o15⟩) (by simp [ov,vat,upd,e15])
      case fin=>
       rintro v lo hi W13 hb13 _ hf _;show wpList _ _ _ [] _ _;obtain ⟨_,_,k16,⟨ca,cc,e16⟩,o16⟩:=hf 16 rfl;have k15:=(hf 15 rfl).1;clear hf;have hown11:=o16.inn.own.mono (base':=W3.heap.size) oq_;rw [e16] at hown11;clear o16;dsimp only;rw [e16];clear e16;obtain ⟨LL,hLL9⟩:∃ LL,LL=lA ++ lB:=⟨_,rfl⟩;rw [<- hLL9];rw [<- hLL9] at hown11;have HLLQ:=hq_ hLL9;have HOW:=hq_ hown11;clear hown11 k15 k16 hLL9;go_wp2_with fail
       go_meet
       refine ⟨ca,cc,LL,rfl,HOW,hq_ (Et HE12.out hb13),hq_ fun x=>?_⟩;rw [fl_,HLLQ.out,List.mem_append,HLA.out,HLB9.out,ae_ (Int.le_refl _),ae_ (Int.le_refl _),ae_ (Int.le_refl _),HQA.out.mem,HQB.out.mem];constructor
       ·rintro (⟨h1,h2,h3⟩|⟨h1,h2,h3⟩)
        ·exact ⟨h1,h2,.inl h3⟩
        ·exact ⟨h1,h2,.inr h3⟩
       ·rintro ⟨h1,h2,h3|h3⟩
        ·exact .inl ⟨h1,h2,h3⟩
        ·exact .inr ⟨h1,h2,h3⟩
     ·have HLR:Hid (L=(RA.toNat:Int)*qa.period):=hq_ (by
       rw [Int.toNat_of_nonneg hRA0,HRA.out,Int.ediv_mul_cancel (by rw [<- HLL.out];exact cr_)])
      go_wp2_with (go_at_call 153;refine (pk_ _ _ _ _ qa qb st _ _ g mb L _ (HPA.out.ext HE11.out) HQA.out.wf HQB.out.wf hs1 oq_ RA.toNat HLR.out oq_ HFA.out.hx oq_ oq_ oq_ oq_ oq_).mono ?_;rintro e w11 ⟨v11,rfl,hown11,hb11⟩;have HOW:=hq_ (hown11.mono (base':=W3.heap.size) oq_);have HB11:=hq_ hb11;clear hown11 hb11;obtain ⟨va,vc,rfl⟩:=HOW.out.form)
      go_meet
      refine ⟨va,vc,_,rfl,HOW,hq_ (Et HE11.out HB11.out),hq_ fun x=>?_⟩;rw [sb_ HQA.out.wf HQB.out.wf hs1 hs2 HG.out.symm HLR.out,d5_];rw [eb_ (T:=fun n=>p1.mem n∧¬ p2.mem n) (Int.le_refl _) (fun n=>by rw [HQA.out.mem,HQB.out.mem])]
    case rest=>
     obtain ⟨va,vc,LL,rfl,HOW11,HEB,HMEM⟩:=hcut;have hown11:=HOW11.out;have hsz11:W3.heap.size≤wc.heap.size:=HEB.out.size;have HUP:Hid (am_ (opS kd p1.mem p2.mem) st L):=hq_ (mk_ ((HQA.out.pfrom.mono hs1).of_dvd za1 hL0 (by rw [<- HLL.out];exact cr_)) ((HQB.out.pfrom.mono hs2).of_dvd zb1 hL0 (by rw [<- HLL.out];exact cz_)));clear HOW11;generalize wc=w11 at *;go_upto_region 24 with ((first|(go_at_call 132;refine (jt_ _ LL W3.heap.size _ hown11).mono ?_;rintro e w12 ⟨rfl,hown12,hg12⟩;have hb12:=hown11.below_grown (W0:=w11) (.inr trivial) oq_ hg12;have hsz12:=hg12.size)|(go_at_call 154;refine (p6_ _ (a0_ LL) W3.heap.size _ hown12).mono ?_;rintro e w13 ⟨v13,rfl,hown13,hg13,_⟩;have hb13:=hown12.below_grown (W0:=w12) (.inr trivial) oq_ hg13;have hsz13:=hg13.size;rw [mr_ (ad_ (Int.le_refl 0)).1 HMEM.out] at hown13;obtain ⟨SL,hSL⟩:∃ SL,SL=sel (opS kd p1.mem p2.mem) 0 (st+L):=⟨_,rfl⟩;rw [<- hSL] at hown13;have HSL:=hq_ hSL;clear hSL;obtain ⟨va3,vc3,rfl⟩:=hown13.form)))
     have hL9:1≤L:=hL0;have hcp:=ql_ (U:=opS kd p1.mem p2.mem) (show 0≤st by omega) (show st≤st+L by omega);rw [<- HSL.out] at hcp;obtain ⟨i0,hi0⟩:∃ i0,i0=(sel (opS kd p1.mem p2.mem) 0 st).length:=⟨_,rfl⟩;rw [<- hi0] at hcp;have HI0:=hq_ hi0;have HCP:=hq_ hcp;have hSLs:SL.Pairwise (· < ·):=by rw [HSL.out];exact (ad_ (Int.le_refl 0)).1
     have HSLS:=hq_ hSLs;have hi0l:i0≤SL.length:=by have:=HCP.out.2.1;have h2:=congrArg List.length this;rw [List.length_take,<- HI0.out] at h2;omega
     have hsll:(SL.length:Int)≤st+L:=by have:=(ad_ (S:=opS kd p1.mem p2.mem) (lo:=0) (hi:=st+L) (Int.le_refl 0)).length_le oq_;rw [<- HSL.out] at this;omega
     have hints13:=hown13.ints;have HIN13:=hq_ hints13;obtain ⟨b3',hb3',hcap3⟩:∃ c',vc3=c'∧SL.length≤c':=by
      obtain ⟨⟨a,c,e,h1,h2,_⟩,_,_⟩:=hints13;injection e with _ _ e3
      exact ⟨c,e3,h1⟩
     rw [<- hb3'] at hcap3;obtain ⟨ha',hrun',hint'⟩:=qu_ (a:=va3) (c:=vc3) SL hi0l hcap3;obtain ⟨da',drun',dint',_⟩:=g0_ (a:=va3) (c:=vc3) SL hi0l;have HINT':=hq_ hint';have HDINT':=hq_ dint';have hbB:Below W3.heap.size W3 w13:=(HEB.out).trans (hb12.trans hb13);have HBB13:=hq_ hbB;have HOWN13:=hq_ hown13;have hpb13:=HPB.out.below hbB;have m8:w13.cell? ⟨pb,8,none⟩=some (.int .i64 st):=(hpb13.cells 8).1;have hinn13:=hown13.inn;have HINN13:=hq_ hinn13;clear hi0 hcp hSLs hints13 hb3' hint' dint' hbB hown13 hown12 hg12 hg13 hpb13 hinn13;clear d0 d1 d2 d3 d4 d5 d6 d7 d8 d9 d10 d11 d12;go_upto_region 25 with (go_at_call 128;refine (c9_ _ SL st _ HIN13.out HSLS.out).mono ?_;rintro e w14 ⟨he,nq14,rfl⟩;rw [HCP.out.1] at he;generalize decide (st∈SL)=dB at he;subst he)
     obtain ⟨w14,hw14⟩:∃ w14,w14=w13.drewN nq14:=⟨_,rfl⟩;rw [<- hw14];have hE14:Below W3.heap.size W3 w14:=by rw [hw14];exact HBB13.out.trans (Below.drewN (Below.refl _ _) _)
     have hin14:IntsIn w14 W3.heap.size w13.heap.size (.slice va3 SL.length vc3) SL:=by rw [hw14];exact HINN13.out.drewN _
     have m8:w14.cell? ⟨pb,8,none⟩=some (.int .i64 st):=by rw [hw14];exact m8
     have hsz14:w13.heap.size≤w14.heap.size:=by rw [hw14,af_];exact Nat.le_refl _
     have HE14:=hq_ hE14;have HIN14:=hq_ hin14;clear hw14 hE14 hin14;refine ai_ (w0:=w14) [0,1,2,3,4,5,6,7,8] [9] (fun v=>⟨#[perV (.slice a1 p1.head.length m1) (.slice a2 p1.cycle.length m2) p1.frm p1.period,perV (.slice a3 p2.head.length m3) (.slice a4 p2.cycle.length m4) p2.frm p2.period,.int .i64 kd,.pointer (some ⟨w.heap.size,0,none⟩),.pointer (some ⟨w.heap.size+1,0,none⟩),undef,.pointer (some ⟨w.heap.size+1+1,0,none⟩),.int .i64 0,.pointer (some ⟨pb,0,none⟩),.int .i64 L,.int .i64 0,.slice hva HL.length hvc,.int .i64 (↑HL.length+↑cn),.int .i64 (bA+PA),.int .i64 (bB+PB),.pointer (some ⟨w10.heap.size,0,none⟩),.slice va3 SL.length vc3,.int .i64 ↑i0,.bool dB,v 8,undef,undef,u22,u23,u24,u25,u26,u27,u28,u29,u30,u31,u32,u33,u34,u35,u36,u37,u38,u39,u40,u41,u42,u43,u44,u45,u46,u47,u48,u49,u50,u51,u52,u53,u54,u55,u56,u57,u58,u59,u60,u61,u62,u63,u64,u65,u66,u67,u68,u69,u70,u71,u72,u73,u74,u75,u76,u77,u78,u79,u80,u81,u82,u83,u84,u85,u86,u87,u88,u89,u90,u91,u92,u93,u94,u95,u96,u97,u98,.int .i64 kd,u100,u101,u102,u103,u104,u105,u106,u107,u108,u109,u110,u111,u112,u113,u114,u115,u116,u117,u118,u119,u120,u121,u122,u123,u124,u125,u126,u127,.slice va LL.length vc,.tuple #[],.slice va LL.length vc,.slice va3 SL.length vc3,.tuple #[.int .i64 ↑i0,.bool dB],.slice va3 SL.length vc3,.pointer (some ⟨pb,8,none⟩),.int .i64 st,.tuple #[.int .i64 ↑i0,.bool dB],.int .i64 ↑i0,.bool dB,v 0,v 1,v 2,v 3,v 4,v 5,v 6,v 7,u147,u148,undef,undef,undef,u152,u153,u154,u155,u156,u157,u158,u159,u160,u161,u162,u163,u164,u165,u166],[]⟩) [.slice va3 SL.length vc3,.int .i64 i0,.int .i64 i0,.slice ha' i0 i0,.pointer (some ⟨pb,8,none⟩),.int .i64 st,.int .i64 L,.agg #[.slice ha' i0 i0,.int .i64 st,.int .i64 L,.slice none 0 0],undef] [8] (fun i v lo hi W=>match i with|8=>v 8=.pointer (some ⟨lo 8,0,none⟩)∧lo 8<hi 8∧Bxx W (lo 8) #[.slice none 0 0,.int .i64 0,.int .i64 0,.slice none 0 0] 39|_=>True) (fun W=>W.cell? ⟨pb,8,none⟩=some (.int .i64 st)) (fun W hb=>cux m8 hb) ?stab ?loc ?steps ?fin (fun j=>match j with|0=>u139|1=>u140|2=>u141|3=>u142|4=>u143|5=>u144|6=>u145|7=>u146|8=>undef|_=>undef)
     case stab=>
      refine ⟨?_,trivial⟩
      ·intro v lo hi W W' h hb;exact ⟨h.1,h.2.1,h.2.2.below hb⟩
     case loc=>
      refine ⟨?_,trivial⟩
      ·intro v v' lo lo' hi hi' W hag h;have q:=hag 8 (.inl rfl)
       (try dsimp only at h ⊢)
       simp only [q.1,q.2.1,q.2.2] at h;exact h
     case steps=>
      refine .c [] [] rfl ?_ (.c [] [] rfl ?_ (.c [] [] rfl ?_ (.c [0,1,2] [] rfl ?_ (.c [] [] rfl ?_ (.c [4] [] rfl ?_ (.c [] [] rfl ?_ (.c [3,5,6] [] rfl ?_ (.c [] [] rfl ?_ (.n)))))))))
      all_goals try exact stw
      ·rintro v lo hi W hb g8 _;refine .inl ⟨rfl,fun K hK=>?_⟩;simp only [ov,vat,Nat.reduceBEq,cond_true,cond_false];go_wp2_with fail
       exact hK (.pointer (some ⟨W.heap.size,0,none⟩)) _ (Ea (Er _) _) ⟨rfl,sq_,Bxx.new _ _ _⟩
     case fin=>
      rintro v lo hi W15 hb15 _ hf _;show wpList _ _ _ [_] _ _;have e7:v 7=.agg #[.slice ha' i0 i0,.int .i64 st,.int .i64 L,.slice none 0 0]:=(hf 7 rfl).2.2.2;obtain ⟨l8,_,k8,e8,lt8,hob⟩:=hf 8 rfl;clear hf;generalize lo 8=ob at *;generalize hi 8=hi8 at *;dsimp only;rw [e7,e8];clear e7 e8;generalize v 0=o0,v 1=o1,v 2=o2,v 3=o3,v 4=o4,v 5=o5,v 6=o6;clear v;have k0:=hob.cells 0;have k1:=hob.cells 1;have k2:=hob.cells 2;have k3:=hob.cells 3;have hob':w13.heap.size≤ob:=oq_;have hpb3:=HZ3.out;go_upto_region 26 with (fail)
      refine al_ (F:=fun W16=>Bxx W16 ob #[.slice ha' i0 i0,.int .i64 st,.int .i64 L,.slice none 0 0] 39∧IntsIn W16 W3.heap.size w13.heap.size (.slice va3 SL.length vc3) SL∧Below W3.heap.size W3 W16)
       ⟨Bxx.set4 hob,(((((HIN14.out.below hb15 hsz14).set _ oq_).set _ oq_).set _ oq_).set _ oq_),((((HE14.out.trans (hb15.mono oq_)).setCell (p:=⟨ob,0,none⟩) tq_ _).setCell (p:=⟨ob,1,none⟩) tq_ _).setCell (p:=⟨ob,2,none⟩) tq_ _).setCell (p:=⟨ob,3,none⟩) tq_ _⟩ ?_
      clear hob k0 k1 k2 k3 m8 hb15;rintro W16 ⟨hob,hin16,hE16⟩;have hsz16:=hE16.size;have hobl:=hob.lt;have HOB:=hq_ hob;have HIN16:=hq_ hin16;have HE16:=hq_ hE16;clear hob hin16 hE16;obtain ⟨DR,hDR⟩:∃ DR,DR=SL.drop i0:=⟨_,rfl⟩;have HDR:=hq_ hDR;have hdl:DR.length=SL.length-i0:=by rw [hDR];simp
      have hdm:∀ y∈DR,st≤y∧y<st+L:=fun y hy=>by
       rw [hDR,HCP.out.2.2] at hy;have:=(ae_ (show 0≤st by omega) y).1 hy;omega
      have HDM:=hq_ hdm;have HDL:=hq_ hdl;clear hDR hdl hdm;go_wp2_with fail
      go_loopw [151] (fun i wr=>∃ (k:Nat) (cv:Value),k≤SL.length-i0∧i=.int .i64 k∧Bxx wr ob #[.slice ha' i0 i0,.int .i64 st,.int .i64 L,cv] 39∧OwnI wr W16.heap.size cv ((DR.take k).map (· - st))∧W16.grownBy wr (some ob)) (fun i _=>SL.length-i0-(intOf i).toNat)
      case atStart=>exact ⟨0,.slice none 0 0,oq_,rfl,HOB.out,OwnI.nil _ _,World.grownBy.refl _ _⟩
      case round=>
       obtain ⟨k,cv,hk,rfl,hob,hown,hgr⟩:=hrel;have hszr:=hgr.size;obtain ⟨ca,cc,rfl⟩:=hown.form;have hinr:=HIN16.out.of_blocks (w':=wr) fun j h1 h2=>hgr.block j oq_ tq_
       by_cases hlt:k<SL.length-i0
       ·obtain ⟨⟨a8,c8,he8,_,_,h38⟩,_,hrng⟩:=HDINT'.out wr hinr.ints;rw [<- HDR.out] at he8 h38 hrng;have hltD:k<DR.length:=by rw [HDL.out];exact hlt
        rcases h38 with h38|⟨b8,f8,hb8,hcell⟩
        ·rw [h38] at hltD;simp at hltD
        injection he8 with he1 he2 he3
        rw [hb8] at he1;subst he1;have hcl:=hcell k hltD;have hyb:=HDM.out _ (ah_ hltD);have hkI:(k:Int)<((SL.length-i0:Nat):Int):=oq_;have hts:(DR.take (k+1)).map (· - st)=(DR.take k).map (· - st) ++ [DR.getD k 0-st]:=by
         rw [List.take_succ_eq_append_getElem hltD,List.map_append];simp [hltD]
        obtain ⟨y,hy⟩:∃ y,y=DR.getD k 0:=⟨_,rfl⟩;rw [<- hy] at hcl hyb hts;obtain ⟨CL,hCL⟩:∃ CL,CL=(DR.take k).map (· - st):=⟨_,rfl⟩;have hcll:CL.length≤k:=by rw [hCL];simp;omega
        rw [<- hCL] at hown hob hts;have q3:wr.cell? ⟨ob,3,none⟩=some (.slice ca CL.length cc):=(hob.cells 3).1;have hpbr:Bxx wr pb #[.slice z1 qa.head.length y1,.int .i64 qa.frm,.int .i64 qa.period,.slice z2 qa.cycle.length y2,.slice z3 qb.head.length y3,.int .i64 qb.frm,.int .i64 qb.period,.slice z4 qb.cycle.length y4,.int .i64 st,.slice xa (a0_ (cycL qa st)).length xc,.slice ya (a0_ (cycL qb st)).length yc,.int .i64 g,.map (some mb)] 139:=(hgr.block pb oq_ tq_).trans (HPB.out.below HE16.out);have q8:wr.cell? ⟨pb,8,none⟩=some (.int .i64 st):=(hpbr.cells 8).1;have HTS:=hq_ hts;have HOBr:=hq_ hob;have HOWNr:=hq_ hown;have HGR:=hq_ hgr;clear hob hown hgr hinr hts hy hCL hcell hpbr hb8 he2 he3 hrng;go_wp2_with (at_builtin;refine aj_ rq_ _ _ rq_ W16.heap.size (.slice ca CL.length cc) CL (y-st) rq_ (HOWNr.out.ext (Ea (Er _) _)) _ _ rq_ sq_ ⟨oq_,oq_⟩ oq_ tq_ ?_;intro gg cap w17 hown17 hgrow17 hbel17;have hob17:=(HOBr.out.alloc (.cells #[.int .i64 (y-st)] 3)).upto hbel17 hobl;have r1:=(hob17.cells 3).1;have r2:=(hob17.cells 3).2)
        go_roundw
        case rel=>
         refine ⟨k+1,.slice (some ⟨gg,0,none⟩) (CL.length+1) cap,oq_,by go_num,a4_ 3 _ hob17,?_,u3_ HGR.out (((Below.refl _ wr).alloc hszr _).trans hbel17)⟩;rw [HTS.out];exact hown17.above ((a7_.refl _ w17).setCell tq_ _)
        case measure=>simp [intOf];omega
       ·obtain rfl:k=SL.length-i0:=oq_;have hall:DR.take (SL.length-i0)=DR:=by rw [<- HDL.out];exact List.take_length
        rw [hall] at hown;have hset:=xa_ (U:=opS kd p1.mem p2.mem) (st:=st) (L:=L) oq_ hL9 (fun n h=>s3_ h) HUP.out;obtain ⟨CL,hCL⟩:∃ CL,CL=DR.map (· - st):=⟨_,rfl⟩;rw [hall,<- hCL] at hob;rw [<- hCL] at hown;have hPIS:a8_ wr (.slice ha' i0 i0) (.slice ca CL.length cc) (Per.mk (sel (opS kd p1.mem p2.mem) 0 st) st L ((sel (opS kd p1.mem p2.mem) st (st+L)).map (· - st))):=by
         refine ⟨?_,?_⟩
         ·have:=HINT'.out wr hinr.ints;rw [HCP.out.2.1] at this;exact this
         ·have:=hown.ints;rw [hCL,HDR.out,HCP.out.2.2] at this;rw [hCL,HDR.out,HCP.out.2.2];exact this
        have hEr:Below w.heap.size w wr:=⟨hgr.os.trans (HE16.out.os.trans hE3.os),hgr.tape.trans (HE16.out.tape.trans hE3.tape),hgr.output.trans (HE16.out.output.trans hE3.output),by have:=hE3.size;omega,fun j hj=>(hgr.block j (by have:=hE3.size;omega) tq_).trans ((HE16.out.block j (by have:=hE3.size;omega)).trans (hE3.block j hj))⟩;have hrbr:Bxx wr (w.heap.size+2) #[.slice none 0 0,.int .i64 0,.int .i64 0,.slice none 0 0] 39:=(hgr.block _ oq_ tq_).trans (HRB.out.below HE16.out);have q0:wr.cell? ⟨ob,0,none⟩=some (.slice ha' i0 i0):=(hob.cells 0).1;have q1:wr.cell? ⟨ob,1,none⟩=some (.int .i64 st):=(hob.cells 1).1;have q2:wr.cell? ⟨ob,2,none⟩=some (.int .i64 L):=(hob.cells 2).1;have q3:wr.cell? ⟨ob,3,none⟩=some (.slice ca CL.length cc):=(hob.cells 3).1;have HSET:=hq_ hset;have HPIS:=hq_ hPIS;have HER:=hq_ hEr;have HRBR:=hq_ hrbr;have HQ:Hid (a6_ q (Per.mk (sel (opS kd p1.mem p2.mem) 0 st) st L ((sel (opS kd p1.mem p2.mem) st (st+L)).map (· - st))).mem):=hq_ (hq.congr fun n=>(hset.2 n).symm);clear hset hPIS hEr hrbr hob hown hgr hinr hall hCL;go_wp2_with (go_at_call 88;refine (fm_ _ _ (Per.mk (sel (opS kd p1.mem p2.mem) 0 st) st L ((sel (opS kd p1.mem p2.mem) st (st+L)).map (· - st))) q _ HPIS.out HSET.out.1 (by show st≤_;omega) (by show L≤_;omega) HQ.out).mono ?_;rintro e w18 ⟨r1,r2,rfl,ho18,hb18⟩;obtain ⟨n1,j1,n2,j2,rfl,rfl⟩:=ho18.form;have hrb18:=HRBR.out.below hb18;have g0:=hrb18.cells 0;have g1:=hrb18.cells 1;have g2:=hrb18.cells 2;have g3:=hrb18.cells 3;have hsz18:=hb18.size)
        have hEr:=HER.out;exact bodyPost_ret (v:=.tuple #[perV (.slice n1 q.head.length j1) (.slice n2 q.cycle.length j2) q.frm q.period,.int .i64 0]) (by simp [results,Tryz.results119,go_sem, *]) rfl ⟨_,_,rfl,(ho18.above (by (repeat' (with_reducible first|exact a7_.refl _ _|refine a7_.alloc ?_ _|refine a7_.drew ?_|refine a7_.drewN ?_ _|refine a7_.setCell ?_ (by first|(simp;done)|(simp;omega)|omega) _)))).mono oq_,xE⟩
theorem pp_ (h1 c1 h2 c2:Value) (p1 p2 qa qb q:Per) (w:World) (hp1:a8_ w h1 c1 p1) (hp2:a8_ w h2 c2 p2) (hv1:Valid p1) (hv2:Valid p2) (hqa:a6_ qa p1.mem) (hqb:a6_ qb p2.mem)
  (hL:lcmI qa.period qb.period≤1099511627776) (hpa:qa.period≤4294967295) (hpb:qb.period≤4294967295)
  (hq:a6_ q (fun n=>p1.mem n∧p2.mem n)) (hcn:cnt (fun n=>p1.mem n∧p2.mem n) (max qa.frm qb.frm+lcmI qa.period qb.period).toNat≤1048576) :
  Calls Tryz.prog 119 #[perV h1 c1 p1.frm p1.period,perV h2 c2 p2.frm p2.period,.int .i64 0] w (b6_ q w):=
 hs_ 0 (.inl rfl) h1 c1 h2 c2 p1 p2 qa qb q w hp1 hp2 hv1 hv2 hqa hqb hL (fun _=>⟨hpa,hpb⟩) (dr_ _ _ ▸ hq) (dr_ _ _ ▸ hcn)
theorem r3_ (h1 c1 h2 c2:Value) (p1 p2 qa qb q:Per) (w:World) (hp1:a8_ w h1 c1 p1) (hp2:a8_ w h2 c2 p2) (hv1:Valid p1) (hv2:Valid p2) (hqa:a6_ qa p1.mem) (hqb:a6_ qb p2.mem)
  (hL:lcmI qa.period qb.period≤1099511627776)
  (hq:a6_ q (fun n=>p1.mem n∨p2.mem n)) (hcn:cnt (fun n=>p1.mem n∨p2.mem n) (max qa.frm qb.frm+lcmI qa.period qb.period).toNat≤1048576) :
  Calls Tryz.prog 119 #[perV h1 c1 p1.frm p1.period,perV h2 c2 p2.frm p2.period,.int .i64 1] w (b6_ q w):=
 hs_ 1 (.inr (.inl rfl)) h1 c1 h2 c2 p1 p2 qa qb q w hp1 hp2 hv1 hv2 hqa hqb hL (fun h=>oq_) (fl_ _ _ ▸ hq) (fl_ _ _ ▸ hcn)
theorem mq_ (h1 c1 h2 c2:Value) (p1 p2 qa qb q:Per) (w:World) (hp1:a8_ w h1 c1 p1) (hp2:a8_ w h2 c2 p2) (hv1:Valid p1) (hv2:Valid p2) (hqa:a6_ qa p1.mem) (hqb:a6_ qb p2.mem)
  (hL:lcmI qa.period qb.period≤1099511627776)
  (hq:a6_ q (fun n=>p1.mem n∧¬ p2.mem n)) (hcn:cnt (fun n=>p1.mem n∧¬ p2.mem n) (max qa.frm qb.frm+lcmI qa.period qb.period).toNat≤1048576) :
  Calls Tryz.prog 119 #[perV h1 c1 p1.frm p1.period,perV h2 c2 p2.frm p2.period,.int .i64 2] w (b6_ q w):=
 hs_ 2 (.inr (.inr rfl)) h1 c1 h2 c2 p1 p2 qa qb q w hp1 hp2 hv1 hv2 hqa hqb hL (fun h=>oq_) (d5_ _ _ ▸ hq) (d5_ _ _ ▸ hcn)
theorem s7_ {l1 l2:List Int} (hl:l1.length=l2.length) (hk:k<l1.length) (h:l1.take k=l2.take k) (he:l1.getD k 0=l2.getD k 0):l1.take (k+1)=l2.take (k+1):=by
 rw [List.take_add_one,List.take_add_one,h];have h2:k<l2.length:=oq_;rw [List.getD_eq_getElem?_getD,List.getD_eq_getElem?_getD,List.getElem?_eq_getElem hk,List.getElem?_eq_getElem h2] at he;rw [List.getElem?_eq_getElem hk,List.getElem?_eq_getElem h2];simp at he;simp [he]
theorem r9_ (p q:Per):p=q↔p.frm=q.frm∧p.period=q.period∧p.head=q.head∧p.cycle=q.cycle:=by
 constructor
 ·rintro rfl;simp
 ·rintro ⟨h1,h2,h3,h4⟩;cases p;cases q;simp_all
instance:DecidableEq Per:=fun p q=>decidable_of_iff _ (r9_ p q).symm
theorem wy_ (h1 c1 h2 c2:Value) (p1 p2 qa qb q:Per) (w:World) (hp1:a8_ w h1 c1 p1) (hp2:a8_ w h2 c2 p2) (hv1:Valid p1) (hv2:Valid p2) (hqa:a6_ qa p1.mem) (hqb:a6_ qb p2.mem)
  (hL:lcmI qa.period qb.period≤1099511627776) (hpa:qa.period≤4294967295) (hpb:qb.period≤4294967295)
  (hq:a6_ q (fun n=>p1.mem n∧p2.mem n)) (hcn:cnt (fun n=>p1.mem n∧p2.mem n) (max qa.frm qb.frm+lcmI qa.period qb.period).toNat≤1048576) :
  Calls Tryz.prog 72 #[perV h1 c1 p1.frm p1.period,perV h2 c2 p2.frm p2.period] w (b6_ q w):=by
 have HOP:∀ W,Below w.heap.size w W->Calls Tryz.prog 119 #[perV h1 c1 p1.frm p1.period,perV h2 c2 p2.frm p2.period,.int .i64 0] W (b6_ q W):=fun W hb=>pp_ h1 c1 h2 c2 p1 p2 qa qb q W (hp1.ext hb) (hp2.ext hb) hv1 hv2 hqa hqb hL hpa hpb hq hcn;clear hp1 hp2 hv1 hv2 hqa hqb hL hpa hpb hq hcn
 go_enter Tryz.func72,Tryz.ntmps72
 go_wp2_with (go_at_call 119;refine (HOP _ xE).mono ?_;rintro e w2 ⟨h',c',rfl,hp2,hb2⟩;obtain ⟨a1,c1,a2,c2,rfl,rfl⟩:=hp2.form;obtain ⟨hc2,hf2⟩:=au_ hb2;have HP2:=hq_ hp2;clear hp2)
 exact bodyPost_ret (v:=.tuple #[perV (.slice a1 q.head.length c1) (.slice a2 q.cycle.length c2) q.frm q.period,.int .i64 0]) (by simp [results,Tryz.results72,go_sem, *]) rfl ⟨_,_,rfl,(HP2.out.above (by (repeat' (with_reducible first|exact a7_.refl _ _|refine a7_.alloc ?_ _|refine a7_.drew ?_|refine a7_.drewN ?_ _|refine a7_.setCell ?_ (by first|(simp;done)|(simp;omega)|omega) _)))).mono tq_,xE⟩
theorem xb_ (h1 c1 h2 c2:Value) (p1 p2 qa qb q:Per) (w:World) (hp1:a8_ w h1 c1 p1) (hp2:a8_ w h2 c2 p2) (hv1:Valid p1) (hv2:Valid p2) (hqa:a6_ qa p1.mem) (hqb:a6_ qb p2.mem)
  (hL:lcmI qa.period qb.period≤1099511627776)
  (hq:a6_ q (fun n=>p1.mem n∨p2.mem n)) (hcn:cnt (fun n=>p1.mem n∨p2.mem n) (max qa.frm qb.frm+lcmI qa.period qb.period).toNat≤1048576) :
  Calls Tryz.prog 73 #[perV h1 c1 p1.frm p1.period,perV h2 c2 p2.frm p2.period] w (b6_ q w):=by
 have HOP:∀ W,Below w.heap.size w W->Calls Tryz.prog 119 #[perV h1 c1 p1.frm p1.period,perV h2 c2 p2.frm p2.period,.int .i64 1] W (b6_ q W):=fun W hb=>r3_ h1 c1 h2 c2 p1 p2 qa qb q W (hp1.ext hb) (hp2.ext hb) hv1 hv2 hqa hqb hL hq hcn;clear hp1 hp2 hv1 hv2 hqa hqb hL hq hcn
 go_enter Tryz.func73,Tryz.ntmps73
 go_wp2_with (go_at_call 119;refine (HOP _ xE).mono ?_;rintro e w2 ⟨h',c',rfl,hp2,hb2⟩;obtain ⟨a1,c1,a2,c2,rfl,rfl⟩:=hp2.form;obtain ⟨hc2,hf2⟩:=au_ hb2;have HP2:=hq_ hp2;clear hp2)
 exact bodyPost_ret (v:=.tuple #[perV (.slice a1 q.head.length c1) (.slice a2 q.cycle.length c2) q.frm q.period,.int .i64 0]) (by simp [results,Tryz.results73,go_sem, *]) rfl ⟨_,_,rfl,(HP2.out.above (by (repeat' (with_reducible first|exact a7_.refl _ _|refine a7_.alloc ?_ _|refine a7_.drew ?_|refine a7_.drewN ?_ _|refine a7_.setCell ?_ (by first|(simp;done)|(simp;omega)|omega) _)))).mono tq_,xE⟩
theorem uq_ (h1 c1 h2 c2:Value) (p1 p2 qa qb q:Per) (w:World) (hp1:a8_ w h1 c1 p1) (hp2:a8_ w h2 c2 p2) (hv1:Valid p1) (hv2:Valid p2) (hqa:a6_ qa p1.mem) (hqb:a6_ qb p2.mem)
  (hL:lcmI qa.period qb.period≤1099511627776)
  (hq:a6_ q (fun n=>p1.mem n∧¬ p2.mem n)) (hcn:cnt (fun n=>p1.mem n∧¬ p2.mem n) (max qa.frm qb.frm+lcmI qa.period qb.period).toNat≤1048576) :
  Calls Tryz.prog 117 #[perV h1 c1 p1.frm p1.period,perV h2 c2 p2.frm p2.period] w (b6_ q w):=by
 have HOP:∀ W,Below w.heap.size w W->Calls Tryz.prog 119 #[perV h1 c1 p1.frm p1.period,perV h2 c2 p2.frm p2.period,.int .i64 2] W (b6_ q W):=fun W hb=>mq_ h1 c1 h2 c2 p1 p2 qa qb q W (hp1.ext hb) (hp2.ext hb) hv1 hv2 hqa hqb hL hq hcn;clear hp1 hp2 hv1 hv2 hqa hqb hL hq hcn
 go_enter Tryz.func117,Tryz.ntmps117
 go_wp2_with (go_at_call 119;refine (HOP _ xE).mono ?_;rintro e w2 ⟨h',c',rfl,hp2,hb2⟩;obtain ⟨a1,c1,a2,c2,rfl,rfl⟩:=hp2.form;obtain ⟨hc2,hf2⟩:=au_ hb2;have HP2:=hq_ hp2;clear hp2)
 exact bodyPost_ret (v:=.tuple #[perV (.slice a1 q.head.length c1) (.slice a2 q.cycle.length c2) q.frm q.period,.int .i64 0]) (by simp [results,Tryz.results117,go_sem, *]) rfl ⟨_,_,rfl,(HP2.out.above (by (repeat' (with_reducible first|exact a7_.refl _ _|refine a7_.alloc ?_ _|refine a7_.drew ?_|refine a7_.drewN ?_ _|refine a7_.setCell ?_ (by first|(simp;done)|(simp;omega)|omega) _)))).mono tq_,xE⟩
theorem Ints.lit {b:Nat} {t:TypeId} (h:Bxx w b (l.map (Value.int .i64)).toArray t) (hl:l.length≤17592186044416) (hr:∀ x∈l,InI x):Ints w (.slice (some ⟨b,0,none⟩) l.length l.length) l:=by
 refine ⟨⟨_,_,rfl,Nat.le_refl _,oq_,.inr ⟨b,0,rfl,fun i hi=>?_⟩⟩,hl,hr⟩;rw [Nat.zero_add,(h.cells i).1];rw [List.getElem?_toArray,List.getElem?_map,List.getElem?_eq_getElem hi,List.getD_eq_getElem?_getD,List.getElem?_eq_getElem hi];rfl
structure fu_ (w:World) (v:Value) (l:List Int):Prop where
 is:∃ a c,v=.slice a l.length c∧(l=[]∨∃ b o,a=some ⟨b,o,none⟩∧∀ i,i<l.length->w.cell? ⟨b,o+i,none⟩=some (.int .u8 (l.getD i 0)))
 len:l.length≤9223372036854775807
 rng:∀ x∈l,0≤x∧x≤255
theorem fu_.ext (h:fu_ w v l) (hb:Below w.heap.size w W):fu_ W v l:=by
 obtain ⟨⟨a,c,rfl,h3⟩,h4,h5⟩:=h;refine ⟨⟨a,c,rfl,h3.imp id ?_⟩,h4,h5⟩;rintro ⟨b,o,rfl,hc⟩;exact ⟨b,o,rfl,fun i hi=>Ext.cell hb (hc i hi)⟩
end Go.Proofs.YthjnojbeimchdaaGreat
namespace Go.Proofs.YthjnojbeimchdaaGreat
open Kal
end Go.Proofs.YthjnojbeimchdaaGreat
namespace Go.Proofs.YthjnojbeimchdaaGreat
open Go.RowKit Go.Maps Kal
end Go.Proofs.YthjnojbeimchdaaGreat
end
namespace Go.Proofs.YthjnojbeimchdaaGreat
open Go.ChangeShapes Go.WideShapes Go.ChangeAt Go.RowKit Go.Joins Kal
theorem wt_:ownKnob Tryz.prog.godebug=none:=by kernel_rfl
theorem o4_:laidOutB Tryz.prog=true:=by kernel_rfl
section
variable {H:Type} {enc:TypeId × Value->H} {w:World} {base:Nat} {spare:Nat->Bool} {held:Bool}
theorem vh_ {n:Nat} {v:Value} {y:DataW H × List MemPlace} (h:DataW.trod enc Tryz.prog w base spare held n 68 [v]=some y):∃ l,fu_ w v l:=by
 rcases open_ints Tryz.underlying68 Tryz.underlying5 (by kernel_rfl) h with ⟨hcs,_⟩|⟨a,len,cap,zs,hcs,_,hl,hm,hz,_,hcell,hwz⟩
 ·simp at hcs;subst hcs;exact ⟨[],⟨none,0,rfl,.inl rfl⟩,sq_,sq_⟩
 ·simp at hcs;subst hcs;have hlz:len≤zs.length:=by rw [hz];split <;> omega
  have hlen:(zs.take len).length=len:=by rw [List.length_take];omega
  refine ⟨zs.take len,⟨some a,cap,by rw [hlen],?_⟩,?_,?_⟩
  ·by_cases h0:len=0
   ·exact .inl (by rw [h0];rfl)
   ·refine .inr ?_;obtain ⟨b,off,spot⟩:=a;have hc:=hcell 0 oq_;have hspot:spot=none:=by simpa [Addr.add] using World.cell?_spot hc
    subst hspot;refine ⟨b,off,rfl,fun i hi=>?_⟩;rw [hlen] at hi;have h9:=hcell i oq_;have e:(zs.take len).getD i 0=zs.getD i 0:=by
     rw [List.getD_eq_getElem?_getD,List.getD_eq_getElem?_getD,List.getElem?_take_of_lt hi]
    rw [e];have e2:(⟨b,off,none⟩:Addr).add i=⟨b,off+i,none⟩:=by
     rcases Nat.eq_zero_or_pos i with h|h
     ·subst h;simp [Addr.add]
     ·simp [Addr.add];omega
    rwa [e2] at h9
  ·rw [hlen];unfold maxLen at hm;omega
  ·intro x hx;exact bounds_u8 (hwz x (List.mem_of_mem_take hx))
end
end Go.Proofs.YthjnojbeimchdaaGreat
section
variable {ops:Array Go.Oper}{a n r s st x:Int}{m:List (List Kal.Per)}{l ys:List Int}{rest:List Go.Oper}{t:List Kal.Per}{cs:List Go.Value}{B R base c cap g hi i k mb ob:Nat}{o:Go.Oper}{row:Option Nat}{p q qa qb:Kal.Per}{c1 c2 h1 h2 v xv yv:Go.Value}{A W W' W1 w w':Go.World}
namespace Go.Proofs.YthjnojbeimchdaaGreat
open Go.RowKit Kal
structure PV where
 h:Value
 c:Value
 p:Per
instance:Inhabited PV:=⟨⟨.slice none 0 0,.slice none 0 0,⟨[],0,0,[]⟩⟩⟩
def PV.enc (x:PV):List Value:=[x.h,.int .i64 x.p.frm,.int .i64 x.p.period,x.c]
abbrev PV.val (x:PV):Value:=perV x.h x.c x.p.frm x.p.period
theorem PV.enc_len (x:PV):x.enc.length=4:=rfl
structure PVok (W:World) (F:Nat->Prop) (x:PV):Prop where
 is:a8_ W x.h x.c x.p
 fr:InI x.p.frm
 pe:InI x.p.period
 bh:x.p.head≠[]->∀ k,x.h.ownBlock=some k->F k
 bc:x.p.cycle≠[]->∀ k,x.c.ownBlock=some k->F k
def a5_ (F:Nat->Prop) (W W':World):Prop:=∀ b,F b->b<W.heap.size->W'.heap[b]? = W.heap[b]?
theorem a5_.trans {F:Nat->Prop} {B C:World} (h:a5_ F A B) (g:a5_ F B C) (hs:A.heap.size≤B.heap.size):a5_ F A C:=fun b hb hl=>(g b hb oq_).trans (h b hb hl)
theorem a5_.below {F:Nat->Prop} (h:Below W.heap.size W W'):a5_ F W W':=fun b _ hl=>h.block b hl
theorem Ints.keep {F:Nat->Prop} (h:Ints W v l) (hb:l≠[]->∀ k,v.ownBlock=some k->F k) (hk:a5_ F W W'):Ints W' v l:=by
 obtain ⟨⟨a,c,rfl,h1,h2,h3⟩,h4,h5⟩:=h;refine ⟨⟨a,c,rfl,h1,h2,?_⟩,h4,h5⟩
 by_cases hl:l=[]
 ·exact .inl hl
 ·rcases h3 with h3|⟨b,o,rfl,hc⟩
  ·exact .inl h3
  ·have h0:=hc 0 (List.length_pos_iff.2 hl);exact .inr ⟨b,o,rfl,fun i hi=>(World.cell?_of_block (hk b (hb hl b rfl) (World.block_lt_of_cell? W _ h0))).trans (hc i hi)⟩
theorem PVok.keep {F:Nat->Prop} {x:PV} (h:PVok W F x) (hk:a5_ F W W'):PVok W' F x:=⟨⟨h.is.hd.keep h.bh hk,h.is.cy.keep h.bc hk⟩,h.fr,h.pe,h.bh,h.bc⟩
theorem PVok.mono {F G:Nat->Prop} {x:PV} (h:PVok W F x) (hF:∀ b,F b->G b):PVok W G x:=⟨h.is,h.fr,h.pe,fun a k e=>hF k (h.bh a k e),fun a k e=>hF k (h.bc a k e)⟩
structure RowR (W:World) (F:Nat->Prop) (v:Value) (n:Nat) (cs:List Value):Prop where
 is:∃ a c,v=.slice a n c∧n≤c∧c≤9223372036854775807∧(n=0∨∃ b o,a=some ⟨b,o,none⟩∧F b∧b<W.heap.size∧∀ i u,cs[i]? = some u->W.cell? ⟨b,o+i,none⟩=some u)
theorem RowR.keep {F:Nat->Prop} {n:Nat} (h:RowR W F v n cs) (hk:a5_ F W W') (hs:W.heap.size≤W'.heap.size):RowR W' F v n cs:=by
 obtain ⟨a,c,rfl,h1,h2,h3⟩:=h;refine ⟨a,c,rfl,h1,h2,h3.imp id ?_⟩;rintro ⟨b,o,rfl,hF,hl,hc⟩;exact ⟨b,o,rfl,hF,oq_,fun i u hi=>(World.cell?_of_block (hk b hF hl)).trans (hc i u hi)⟩
theorem RowR.mono {F G:Nat->Prop} {n:Nat} (h:RowR W F v n cs) (hF:∀ b,F b->G b):RowR W G v n cs:=by
 obtain ⟨a,c,rfl,h1,h2,h3⟩:=h;refine ⟨a,c,rfl,h1,h2,h3.imp id ?_⟩;rintro ⟨b,o,rfl,hb,hl,hc⟩;exact ⟨b,o,rfl,hF b hb,hl,hc⟩
structure be_ (W:World) (F:Nat->Prop) (v:Value) (L:List PV):Prop where
 row:RowR W F v L.length (L.flatMap PV.enc)
 len:L.length≤17592186044416
 all:∀ x∈L,PVok W F x
def ab_ (W:World) (F:Nat->Prop) (v:Value) (t:List Per):Prop:=∃ L:List PV,L.map PV.p=t∧be_ W F v L
theorem be_.keep {F:Nat->Prop} {L:List PV} (h:be_ W F v L) (hk:a5_ F W W') (hs:W.heap.size≤W'.heap.size):be_ W' F v L:=⟨h.row.keep hk hs,h.len,fun x hx=>(h.all x hx).keep hk⟩
theorem be_.mono {F G:Nat->Prop} {L:List PV} (h:be_ W F v L) (hF:∀ b,F b->G b):be_ W G v L:=⟨h.row.mono hF,h.len,fun x hx=>(h.all x hx).mono hF⟩
theorem ab_.keep {F:Nat->Prop} (h:ab_ W F v t) (hk:a5_ F W W') (hs:W.heap.size≤W'.heap.size):ab_ W' F v t:=by
 obtain ⟨L,e,g⟩:=h;exact ⟨L,e,g.keep hk hs⟩
theorem ab_.mono {F G:Nat->Prop} (h:ab_ W F v t) (hF:∀ b,F b->G b):ab_ W G v t:=by
 obtain ⟨L,e,g⟩:=h;exact ⟨L,e,g.mono hF⟩
theorem ab_.ext {F:Nat->Prop} (h:ab_ W F v t) (hb:Below W.heap.size W W'):ab_ W' F v t:=h.keep (a5_.below hb) hb.size
structure MixL (W:World) (F:Nat->Prop) (v:Value) (L:List (Value × List Per)):Prop where
 row:RowR W F v L.length (L.map Prod.fst)
 len:L.length≤17592186044416
 all:∀ x∈L,ab_ W F x.1 x.2
def MixR (W:World) (F:Nat->Prop) (v:Value) (m:List (List Per)):Prop:=∃ L:List (Value × List Per),L.map Prod.snd=m∧MixL W F v L
theorem MixL.keep {F:Nat->Prop} {L:List (Value × List Per)} (h:MixL W F v L) (hk:a5_ F W W') (hs:W.heap.size≤W'.heap.size):MixL W' F v L:=⟨h.row.keep hk hs,h.len,fun x hx=>(h.all x hx).keep hk hs⟩
theorem MixL.mono {F G:Nat->Prop} {L:List (Value × List Per)} (h:MixL W F v L) (hF:∀ b,F b->G b):MixL W G v L:=⟨h.row.mono hF,h.len,fun x hx=>(h.all x hx).mono hF⟩
theorem MixR.keep {F:Nat->Prop} (h:MixR W F v m) (hk:a5_ F W W') (hs:W.heap.size≤W'.heap.size):MixR W' F v m:=by
 obtain ⟨L,e,g⟩:=h;exact ⟨L,e,g.keep hk hs⟩
theorem MixR.mono {F G:Nat->Prop} (h:MixR W F v m) (hF:∀ b,F b->G b):MixR W G v m:=by
 obtain ⟨L,e,g⟩:=h;exact ⟨L,e,g.mono hF⟩
theorem MixR.ext {F:Nat->Prop} (h:MixR W F v m) (hb:Below W.heap.size W W'):MixR W' F v m:=h.keep (a5_.below hb) hb.size
theorem av_ {L:List PV}:∀ {j i:Nat} {u:Value},j<L.length->(L.getD j default).enc[i]? = some u->(L.flatMap PV.enc)[j*4+i]? = some u:=by
 induction L with
 | nil=>intro j i u h;simp at h
 | cons x L ih=>
  intro j i u hj hi;rw [List.flatMap_cons];cases j with
  | zero=>
   have h4:i<x.enc.length:=(List.getElem?_eq_some_iff.1 hi).1;rw [List.getElem?_append_left (by simpa using h4)];simpa using hi
  | succ j=>
   rw [List.getElem?_append_right (by rw [PV.enc_len];omega),PV.enc_len,show (j+1)*4+i-4=j*4+i by omega];exact ih (by simpa using hj) (by simpa using hi)
end Go.Proofs.YthjnojbeimchdaaGreat
namespace Go.Proofs.YthjnojbeimchdaaGreat
open Go.RowKit Go.Maps Kal
theorem aa_ {α:Type} {l:List α} {d:α} (h:i<l.length):l.getD i d∈l:=by
 rw [List.getD_eq_getElem?_getD,List.getElem?_eq_getElem h];exact List.getElem_mem h
theorem ne_ {α:Type} {l:List α} {d:α} {p:α->Bool} (h:k<l.length):(l.take (k+1)).any p=((l.take k).any p || p (l.getD k d)):=by
 rw [List.take_succ_eq_append_getElem h,List.any_append,List.getD_eq_getElem?_getD,List.getElem?_eq_getElem h];simp
def mw_ (g:Nat) (lb:Array Value) (L:List PV) (p:PV->Bool) (w:World):Prop:=
 ∀ (W:World) (x:PV),Below w.heap.size w W->x∈L->Calls Tryz.prog g (#[x.val] ++ lb) W fun e w'=>e=.returned (.bool (p x))∧Below w.heap.size w w'
theorem rj_ (F:Nat->Prop) (v:Value) (L:List PV) (p:PV->Bool) (g:Nat) (lb:Array Value) (eg:∀ args w,(callFunc g args).run Tryz.prog w=.ok (.enter g args) w) (w:World) (hv:RowR w F v L.length (L.flatMap PV.enc)) (hlen:L.length≤17592186044416) (hp:mw_ g lb L p w) :
  Calls Tryz.prog 105 #[v,.func (.func g) #[] lb] w fun e w'=>∃ i:Int,e=.returned (.int .i64 i)∧decide (0≤i)=L.any p∧Below w.heap.size w w':=by
 have HPP:=hq_ hp;obtain ⟨a1,c1,rfl,_,_,h3⟩:=hv;have HC:=hq_ h3;clear hp h3
 go_enter Tryz.func105,Tryz.ntmps105
 go_wp2_with fail
 go_loopw [5,8] (fun _ i wr=>∃ k:Nat,k≤L.length∧i=.int .i64 k∧(L.take k).any p=false∧Below w.heap.size w wr) (fun _ i _=>L.length-(intOf i).toNat)
 case atStart=>exact ⟨0,oq_,rfl,rfl,Below.refl _ _⟩
 case round=>
  obtain ⟨k,hk,rfl,hpre,hb⟩:=hrel;have HB:=hq_ hb;have HPRE:=hq_ hpre;clear hpre
  by_cases hlt:k<L.length
  ·have hlI:(k:Int)<L.length:=oq_;rcases HC.out with h0|⟨b8,f8,rfl,hF,hb8,hcell⟩
   ·omega
   have e0:wr.cell? ⟨b8,f8+k*4,none⟩=some (L.getD k default).h:=Below.cell' hb (hcell (k*4+0) _ (av_ hlt rfl)) hb8;have e1:wr.cell? ⟨b8,f8+k*4+1,none⟩=some (.int .i64 (L.getD k default).p.frm):=Below.cell' hb (hcell (k*4+1) _ (av_ hlt rfl)) hb8;have e2:wr.cell? ⟨b8,f8+k*4+2,none⟩=some (.int .i64 (L.getD k default).p.period):=Below.cell' hb (hcell (k*4+2) _ (av_ hlt rfl)) hb8;have e3:wr.cell? ⟨b8,f8+k*4+3,none⟩=some (L.getD k default).c:=Below.cell' hb (hcell (k*4+3) _ (av_ hlt rfl)) hb8;have hcall:=HPP.out wr (L.getD k default) hb (aa_ hlt);have HSU:Hid ((L.take (k+1)).any p=((L.take k).any p || p (L.getD k default))):=hq_ (ne_ hlt);have HMEM:=hq_ (aa_ (d:=default) hlt);generalize L.getD k default=y at *;clear hcell hb;cases hq:p y with
   | true=>
    rw [hq] at hcall;have HQ:=hq_ hq;clear hq;go_wp2_with (go_at_fn g;refine hcall.mono ?_;rintro e w' ⟨rfl,hb'⟩)
    go_ret;refine ⟨_,rfl,?_,hb'⟩;rw [decide_eq_true oq_];exact (List.any_eq_true.2 ⟨y,HMEM.out,HQ.out⟩).symm
   | false=>
    rw [hq] at hcall;have HQ:=hq_ hq;clear hq;go_wp2_with (go_at_fn g;refine hcall.mono ?_;rintro e w' ⟨rfl,hb'⟩)
    go_roundw
    case rel=>exact ⟨k+1,oq_,by go_num,by rw [HSU.out,HPRE.out,HQ.out];rfl,hb'⟩
    case measure=>simp [intOf];omega
  ·obtain rfl:k=L.length:=oq_;go_wp2_with fail
   go_ret;refine ⟨_,rfl,?_,HB.out⟩;have:=HPRE.out;rw [List.take_length] at this;rw [this];rfl
def vl_ (g:Nat) (lb:Array Value) (L:List (Value × List Per)) (p:(Value × List Per)->Bool) (w:World):Prop:=
 ∀ (W:World) (x:(Value × List Per)),Below w.heap.size w W->x∈L->Calls Tryz.prog g (#[x.1] ++ lb) W fun e w'=>e=.returned (.bool (p x))∧Below w.heap.size w w'
theorem rd_ (F:Nat->Prop) (v:Value) (L:List (Value × List Per)) (p:(Value × List Per)->Bool) (g:Nat) (lb:Array Value) (eg:∀ args w,(callFunc g args).run Tryz.prog w=.ok (.enter g args) w) (w:World) (hv:RowR w F v L.length (L.map Prod.fst)) (hlen:L.length≤17592186044416) (hp:vl_ g lb L p w) :
  Calls Tryz.prog 99 #[v,.func (.func g) #[] lb] w fun e w'=>∃ i:Int,e=.returned (.int .i64 i)∧decide (0≤i)=L.any p∧Below w.heap.size w w':=by
 have HPP:=hq_ hp;obtain ⟨a1,c1,rfl,_,_,h3⟩:=hv;have HC:=hq_ h3;clear hp h3
 go_enter Tryz.func99,Tryz.ntmps99
 go_wp2_with fail
 go_loopw [5,8] (fun _ i wr=>∃ k:Nat,k≤L.length∧i=.int .i64 k∧(L.take k).any p=false∧Below w.heap.size w wr) (fun _ i _=>L.length-(intOf i).toNat)
 case atStart=>exact ⟨0,oq_,rfl,rfl,Below.refl _ _⟩
 case round=>
  obtain ⟨k,hk,rfl,hpre,hb⟩:=hrel;have HB:=hq_ hb;have HPRE:=hq_ hpre;clear hpre
  by_cases hlt:k<L.length
  ·have hlI:(k:Int)<L.length:=oq_;rcases HC.out with h0|⟨b8,f8,rfl,hF,hb8,hcell⟩
   ·omega
   have e0:wr.cell? ⟨b8,f8+k,none⟩=some (L.getD k (.slice none 0 0,[])).1:=Below.cell' hb (hcell k _ (by rw [List.getElem?_map,List.getD_eq_getElem?_getD,List.getElem?_eq_getElem hlt];rfl)) hb8;have hcall:=HPP.out wr (L.getD k (.slice none 0 0,[])) hb (aa_ hlt);have HSU:Hid ((L.take (k+1)).any p=((L.take k).any p || p (L.getD k (.slice none 0 0,[])))):=hq_ (ne_ hlt);have HMEM:=hq_ (aa_ (d:=(.slice none 0 0,[])) hlt);generalize L.getD k (.slice none 0 0,[])=y at *;clear hcell hb;cases hq:p y with
   | true=>
    rw [hq] at hcall;have HQ:=hq_ hq;clear hq;go_wp2_with (go_at_fn g;refine hcall.mono ?_;rintro e w' ⟨rfl,hb'⟩)
    go_ret;refine ⟨_,rfl,?_,hb'⟩;rw [decide_eq_true oq_];exact (List.any_eq_true.2 ⟨y,HMEM.out,HQ.out⟩).symm
   | false=>
    rw [hq] at hcall;have HQ:=hq_ hq;clear hq;go_wp2_with (go_at_fn g;refine hcall.mono ?_;rintro e w' ⟨rfl,hb'⟩)
    go_roundw
    case rel=>exact ⟨k+1,oq_,by go_num,by rw [HSU.out,HPRE.out,HQ.out];rfl,hb'⟩
    case measure=>simp [intOf];omega
  ·obtain rfl:k=L.length:=oq_;go_wp2_with fail
   go_ret;refine ⟨_,rfl,?_,HB.out⟩;have:=HPRE.out;rw [List.take_length] at this;rw [this];rfl
theorem i3_ (F:Nat->Prop) (v:Value) (L:List PV) (p:PV->Bool) (g:Nat) (lb:Array Value) (eg:∀ args w,(callFunc g args).run Tryz.prog w=.ok (.enter g args) w) (w:World) (hv:RowR w F v L.length (L.flatMap PV.enc)) (hlen:L.length≤17592186044416) (hp:mw_ g lb L p w) :
  Calls Tryz.prog 63 #[v,.func (.func g) #[] lb] w fun e w'=>e=.returned (.bool (L.any p))∧Below w.heap.size w w':=by
 have HV:=hq_ hv;have HPP:=hq_ hp;clear hp hv
 go_enter Tryz.func63,Tryz.ntmps63
 go_wp2_with (go_at_call 105;refine (rj_ F v L p g lb eg _ HV.out hlen HPP.out).mono ?_;rintro e w1 ⟨i,rfl,hi,hb1⟩;have HI:=hq_ hi;clear hi)
 go_ret;exact ⟨ac_ HI.out,hb1⟩
theorem fo_ (F:Nat->Prop) (v:Value) (L:List (Value × List Per)) (p:(Value × List Per)->Bool) (g:Nat) (lb:Array Value) (eg:∀ args w,(callFunc g args).run Tryz.prog w=.ok (.enter g args) w) (w:World) (hv:RowR w F v L.length (L.map Prod.fst)) (hlen:L.length≤17592186044416) (hp:vl_ g lb L p w) :
  Calls Tryz.prog 57 #[v,.func (.func g) #[] lb] w fun e w'=>e=.returned (.bool (L.any p))∧Below w.heap.size w w':=by
 have HV:=hq_ hv;have HPP:=hq_ hp;clear hp hv
 go_enter Tryz.func57,Tryz.ntmps57
 go_wp2_with (go_at_call 99;refine (rd_ F v L p g lb eg _ HV.out hlen HPP.out).mono ?_;rintro e w1 ⟨i,rfl,hi,hb1⟩;have HI:=hq_ hi;clear hi)
 go_ret;exact ⟨ac_ HI.out,hb1⟩
theorem t5_ (v:Value) (l:List Int) (i:Nat) (k:Int) (hk:k=i) (w:World) (h:fu_ w v l) (hi:i≤100) :
  Calls Tryz.prog 56 #[v,.int .i64 k] w fun e w'=>e=.returned (.int .i64 (l.getD i 0))∧Below w.heap.size w w':=by
 subst hk;obtain ⟨⟨a1,c1,rfl,h3⟩,g2,g3⟩:=h
 by_cases hl:i<l.length
 ·rcases h3 with h3|⟨b,o,rfl,hc⟩
  ·rw [h3] at hl;simp at hl
  have hci:=hc i hl;have hr:=g3 _ (aa_ (d:=0) hl);have hiI:(i:Int)<l.length:=oq_;generalize l.getD i 0=x at *;clear hc g3
  go_enter Tryz.func56,Tryz.ntmps56
  go_wp2_with fail
  go_ret;exact ⟨rfl,xE⟩
 ·have hx:l.getD i 0=0:=by rw [List.getD_eq_getElem?_getD,List.getElem?_eq_none oq_];rfl
  have hiI:¬ (i:Int)<l.length:=oq_;rw [hx];clear h3 g3
  go_enter Tryz.func56,Tryz.ntmps56
  go_wp2_with fail
  go_ret;exact ⟨rfl,xE⟩
theorem fu_.rng0 (h:fu_ w v l) (i:Nat):0≤l.getD i 0∧l.getD i 0≤255:=by
 by_cases hl:i<l.length
 ·exact h.rng _ (aa_ (d:=0) hl)
 ·rw [List.getD_eq_getElem?_getD,List.getElem?_eq_none oq_];decide
theorem OwnI.kept_far (h:OwnI w base v l) (hg:w.grownBy w' row) (h1:∀ q,v.ownBlock=some q->q<B) (h2:∀ q,row=some q->B≤q):OwnI w' base v l:=h.kept hg (by
 by_cases hn:v.ownBlock=none
 ·exact .inl hn
 ·refine .inr fun e=>?_;obtain ⟨q,hq⟩:=Option.ne_none_iff_exists'.1 hn;have:=h1 q hq;have:=h2 q (e.symm.trans hq);omega)
theorem lb_ (v:Value) (l:List Int) (w:World) (h1:fu_ w v l) :
  Calls Tryz.prog 55 #[v] w fun e w'=>∃ (h c:Value) (p:Per),e=.returned (perV h c p.frm p.period)∧POx w' w.heap.size h c p∧p.WF∧p.frm≤8∧p.period≤12∧Below w.heap.size w w':=by
 have HAT:=fun W (i:Nat) (k:Int) (hk:k=i) (hi:i≤100) (hb:Below w.heap.size w W)=>t5_ v l i k hk W (h1.ext hb) hi;have r0:=h1.rng0 0;have r1:=h1.rng0 1;have r2:=h1.rng0 2;have r3:=h1.rng0 3;have r4:=h1.rng0 4;obtain ⟨⟨a1,c1,rfl,_⟩,g2,_⟩:=h1;have HA0:=fun W hb=>HAT W 0 0 rfl oq_ hb;have HA1:=fun W hb=>HAT W 1 1 rfl oq_ hb;have HA2:=fun W hb=>HAT W 2 2 rfl oq_ hb;have HA3:=fun W hb=>HAT W 3 3 rfl oq_ hb;have HA4:=fun W hb=>HAT W 4 4 rfl oq_ hb;generalize l.getD 0 0=x0 at *;generalize l.getD 1 0=x1 at *;generalize l.getD 2 0=x2 at *;generalize l.getD 3 0=x3 at *;generalize l.getD 4 0=x4 at *;clear HAT;have hA0:=Int.emod_nonneg x1 (show (9:Int)≠0 by omega);have hA1:=Int.emod_lt_of_pos x1 (show (0:Int)<9 by omega);have hT0:=Int.emod_nonneg x0 (show (12:Int)≠0 by omega);have hT1:=Int.emod_lt_of_pos x0 (show (0:Int)<12 by omega)
 go_enter Tryz.func55,Tryz.ntmps55
 go_wp2_with (go_at_call 56;first
  | ((with_reducible refine (HA1 _ xE).mono ?_);rintro e w1 ⟨rfl,hb1⟩;have hW1:Below w.heap.size w w1:=by exact xE)
  | ((with_reducible refine (HA0 _ xE).mono ?_);rintro e w2 ⟨rfl,hb2⟩;have hW2:Below w.heap.size w w2:=by exact xE)
  | ((with_reducible refine (HA2 _ xE).mono ?_);rintro e w3 ⟨rfl,hb3⟩;have hW3:Below w.heap.size w w3:=by exact xE)
  | ((with_reducible refine (HA3 _ xE).mono ?_);rintro e w4 ⟨rfl,hb4⟩;have hW4:Below w.heap.size w w4:=by exact xE))
 obtain ⟨b3,hb3e⟩:∃ b3,b3=w2.heap.size:=⟨_,rfl⟩;rw [<- hb3e];have hz2:=hb2.size;have hz3:=hb3.size;have hz4:=hb4.size;simp only [World.size_alloc] at hz2 hz3 hz4;have hz1:=hb1.size;simp only [World.size_alloc] at hz1;have hbx:Bxx w4 b3 #[.slice none 0 0,.int .i64 (x1 % 9),.int .i64 (1+x0 % 12),.slice none 0 0] 39:=((Bxx.at hb3e).below hb3).below hb4;have hrb:Bxx w4 w.heap.size #[.slice none 0 0,.int .i64 0,.int .i64 0,.slice none 0 0] 39:=((((Bxx.at (w:=w) rfl).below hb1).below hb2 |>.alloc _).below hb3).below hb4;have hb3l:w.heap.size<b3:=oq_;have hb3z:b3<w4.heap.size:=oq_;generalize x1 % 9=A at *;generalize x0 % 12=T0 at *;obtain ⟨N,hN⟩:∃ N:Nat,A=N:=⟨A.toNat,oq_⟩;subst hN;obtain ⟨T,hT⟩:∃ T:Nat,1+T0=T:=⟨(1+T0).toNat,oq_⟩;rw [hT] at hbx ⊢;have hTl:1≤T∧T≤12:=oq_;have hx23:0≤x2+256*x3∧x2+256*x3≤65535:=oq_;generalize x2+256*x3=bits at *;clear hT HA0 HA1 HA2 HA3 hb1 hb2 hb3 hb4 hW1 hW2 hW3 hb3e hz1 hz2 hz3 hz4;have HW4:=hq_ hW4;clear hW4
 go_loopw [5] (fun kv wr=>∃ (k:Nat) (cl:List Int) (a:Option Addr) (c:Nat),k≤T∧kv=.int .i64 k∧Hid (Rise 0 k cl)∧Hid (OwnI wr w4.heap.size (.slice a cl.length c) cl)∧Hid (Bxx wr b3 #[.slice none 0 0,.int .i64 N,.int .i64 T,.slice a cl.length c] 39)∧Hid (Bxx wr w.heap.size #[.slice none 0 0,.int .i64 0,.int .i64 0,.slice none 0 0] 39)∧Hid (Below w.heap.size w wr)∧w4.heap.size≤wr.heap.size) (fun kv _=>T-(intOf kv).toNat)
 case atStart=>exact ⟨0,[],none,0,oq_,rfl,hq_ Rise.nil,hq_ (OwnI.nil _ _),hq_ hbx,hq_ hrb,HW4,Nat.le_refl _⟩
 case round=>
  obtain ⟨k,cl,a,c,hk,rfl,HR,HO,HBX,HRB,HB,hz⟩:=hrel;obtain ⟨wo,hwo⟩:∃ wo,wo=wr:=⟨_,rfl⟩;subst hwo;have m0:=(HBX.out.cells 2).1;have m1:=(HBX.out.cells 3).1;have hlen:cl.length≤12:=by have:=HR.out.length_le oq_;omega
  by_cases hlt:k<T
  ·have hkI:(k:Int)<T:=oq_;go_wp2_with (at_builtin;(refine aj_ rq_ _ _ rq_ w4.heap.size (.slice a cl.length c) cl k rq_ (HO.out.ext (Ea (Er _) _)) _ _ rq_ sq_ ⟨oq_,oq_⟩ oq_ tq_ ?_;intro g cap w5 hown5 hgrow5 hbel5;have hbx5:=(HBX.out.alloc (.cells #[.int .i64 k] 3)).grown hgrow5 (fun e=>by have h7:=(HO.out.lt _ e.symm).1;omega);have hrb5:=(HRB.out.alloc (.cells #[.int .i64 k] 3)).grown hgrow5 (fun e=>by have h7:=(HO.out.lt _ e.symm).1;omega);have g0:=hbx5.cells 3;have hz5:=hgrow5.size;rw [World.size_alloc] at hz5;have HO5:=hq_ hown5;have HBX5:=hq_ hbx5;have HRB5:=hq_ hrb5;have HBE:=hq_ hbel5;clear hown5 hbx5 hrb5 hgrow5 hbel5))
   ·go_roundw
    case rel=>
     have e:(cl ++ [(k:Int)]).length=cl.length+1:=by simp
     refine ⟨k+1,cl ++ [(k:Int)],some ⟨g,0,none⟩,cap,oq_,by go_num,hq_ ⟨List.pairwise_append.2 ⟨HR.out.1,sq_,fun x hx y hy=>?_⟩,fun x hx=>?_⟩,hq_ ?_,hq_ ?_,hq_ ?_,hq_ ?_,?_⟩
     ·have h7:=HR.out.2 x hx;simp at hy;omega
     ·rcases List.mem_append.1 hx with h7|h7
      ·have:=HR.out.2 x h7;omega
      ·simp at h7;omega
     ·rw [e];exact HO5.out.kept_lt (fun q hq=>⟨Below.heap_setCell _ _ _ q (by have:=(HO5.out.lt q hq).1;show q≠b3;omega),sq_⟩)
     ·rw [e];exact a4_ 3 _ HBX5.out
     ·exact HRB5.out.setNe _ oq_
     ·exact ((HB.out.trans (((Ea (Er wo) _).mono HB.out.size))).trans (HBE.out.mono oq_)).setCell (p:=⟨b3,3,none⟩) (by show w.heap.size≤b3;omega) _
     ·simp;omega
    case measure=>simp [intOf];omega
   ·go_roundw
    case rel=>exact ⟨k+1,cl,a,c,oq_,by go_num,hq_ ⟨HR.out.1,fun x hx=>by have:=HR.out.2 x hx;omega⟩,HO,HBX,HRB,HB,hz⟩
    case measure=>simp [intOf];omega
  ·obtain rfl:k=T:=oq_;obtain ⟨W1,hW1⟩:∃ W1,W1=wo:=⟨_,rfl⟩;have hcl:=HO.out.lt;have HCO:Hid (OwnI wo w4.heap.size (.slice a cl.length c) cl):=HO;clear m1;go_wp2_with fail
   clear m0
   go_loopw [6] (fun kv wr=>∃ (j:Nat) (hl:List Int) (a':Option Addr) (c':Nat),j≤N∧kv=.int .i64 j∧Hid (Rise 0 j hl)∧Hid (OwnI wr wo.heap.size (.slice a' hl.length c') hl)∧Hid (OwnI wr w4.heap.size (.slice a cl.length c) cl)∧Hid (Bxx wr b3 #[.slice a' hl.length c',.int .i64 N,.int .i64 k,.slice a cl.length c] 39)∧Hid (Bxx wr w.heap.size #[.slice none 0 0,.int .i64 0,.int .i64 0,.slice none 0 0] 39)∧Hid (Below w.heap.size w wr)∧wo.heap.size≤wr.heap.size) (fun kv _=>N-(intOf kv).toNat)
   case atStart=>exact ⟨0,[],none,0,oq_,rfl,hq_ Rise.nil,hq_ (OwnI.nil _ _),HO,HBX,HRB,HB,Nat.le_refl _⟩
   case round=>
    obtain ⟨j,hl,a',c',hj,rfl,HR2,HO2,HCO2,HBX2,HRB2,HB2,hz2⟩:=hrel;obtain ⟨w7,hw7⟩:∃ w7,w7=wr:=⟨_,rfl⟩;subst hw7;have m0:=(HBX2.out.cells 1).1;have hlen2:hl.length≤12:=by have:=HR2.out.length_le oq_;omega
    by_cases hlt2:j<N
    ·have hjI:(j:Int)<N:=oq_;go_wp2_with (first|(go_at_call 56;(with_reducible refine (HA4 _ HB2.out).mono ?_);rintro e w8 ⟨rfl,hb8⟩;have hbx8:=HBX2.out.below hb8;have g1:=hbx8.cells 0;have hz8:=hb8.size;have HBX8:=hq_ hbx8;have HB8:=hq_ hb8;clear hbx8 hb8)|(at_builtin;(refine aj_ rq_ _ _ rq_ wo.heap.size (.slice a' hl.length c') hl j rq_ ((HO2.out.ext HB8.out).ext (Ea (Er _) _)) _ _ rq_ sq_ ⟨oq_,oq_⟩ oq_ tq_ ?_;intro g cap w5 hown5 hgrow5 hbel5;have hne:∀ q,(Value.slice a' hl.length c').ownBlock=some q->wo.heap.size≤q:=fun q e=>(HO2.out.lt _ e).1;have hbx5:=(HBX8.out.alloc (.cells #[.int .i64 j] 3)).grown hgrow5 (fun e=>by have h7:=hne _ e.symm;omega);have hrb5:=((HRB2.out.below HB8.out).alloc (.cells #[.int .i64 j] 3)).grown hgrow5 (fun e=>by have h7:=hne _ e.symm;omega);have hco5:=((HCO2.out.ext HB8.out).ext (Ea (Er _) (.cells #[.int .i64 j] 3))).kept_far hgrow5 (fun q hq=>(hcl q hq).2) hne;have g0:=hbx5.cells 0;have hz5:=hgrow5.size;rw [World.size_alloc] at hz5;have HO5:=hq_ hown5;have HCO5:=hq_ hco5;have HBX5:=hq_ hbx5;have HRB5:=hq_ hrb5;have HBE:=hq_ hbel5;clear hown5 hbx5 hrb5 hgrow5 hbel5 hco5)))
     ·go_roundw
      case rel=>
       have e:(hl ++ [(j:Int)]).length=hl.length+1:=by simp
       refine ⟨j+1,hl ++ [(j:Int)],some ⟨g,0,none⟩,cap,oq_,by go_num,hq_ ⟨List.pairwise_append.2 ⟨HR2.out.1,sq_,fun x hx y hy=>?_⟩,fun x hx=>?_⟩,hq_ ?_,hq_ ?_,hq_ ?_,hq_ ?_,hq_ ?_,?_⟩
       ·have h7:=HR2.out.2 x hx;simp at hy;omega
       ·rcases List.mem_append.1 hx with h7|h7
        ·have:=HR2.out.2 x h7;omega
        ·simp at h7;omega
       ·rw [e];exact HO5.out.kept_lt (fun q hq=>⟨Below.heap_setCell _ _ _ q (by have:=(HO5.out.lt q hq).1;show q≠b3;omega),sq_⟩)
       ·exact HCO5.out.kept_lt (fun q hq=>⟨Below.heap_setCell _ _ _ q (by have:=(HCO5.out.lt q hq).1;show q≠b3;omega),sq_⟩)
       ·rw [e];exact a4_ 0 _ HBX5.out
       ·exact HRB5.out.setNe _ oq_
       ·exact (((HB2.out.trans (HB8.out.mono HB2.out.size)).trans (((Ea (Er w8) _).mono (by have:=HB2.out.size;omega)))).trans (HBE.out.mono oq_)).setCell (p:=⟨b3,0,none⟩) (by show w.heap.size≤b3;omega) _
       ·simp;omega
      case measure=>simp [intOf];omega
     ·go_roundw
      case rel=>exact ⟨j+1,hl,a',c',oq_,by go_num,hq_ ⟨HR2.out.1,fun x hx=>by have:=HR2.out.2 x hx;omega⟩,hq_ (HO2.out.ext HB8.out),hq_ (HCO2.out.ext HB8.out),HBX8,hq_ (HRB2.out.below HB8.out),hq_ (HB2.out.trans (HB8.out.mono HB2.out.size)),oq_⟩
      case measure=>simp [intOf];omega
    ·obtain rfl:j=N:=oq_;have g0:=HBX2.out.cells 0;have g1:=HBX2.out.cells 1;have g2:=HBX2.out.cells 2;have g3:=HBX2.out.cells 3;have q0:=HRB2.out.cells 0;have q1:=HRB2.out.cells 1;have q2:=HRB2.out.cells 2;have q3:=HRB2.out.cells 3;go_wp2_with fail
     exact bodyPost_ret (v:=perV (.slice a' hl.length c') (.slice a cl.length c) j k) (by simp [results,Tryz.results55,go_sem, *]) rfl ⟨_,_,⟨hl,j,k,cl⟩,rfl,⟨(HO2.out.above (by (repeat' (with_reducible first|exact a7_.refl _ _|refine a7_.alloc ?_ _|refine a7_.drew ?_|refine a7_.drewN ?_ _|refine a7_.setCell ?_ (by first|(simp;done)|(simp;omega)|omega) _)))).mono oq_,(HCO2.out.above (by (repeat' (with_reducible first|exact a7_.refl _ _|refine a7_.alloc ?_ _|refine a7_.drew ?_|refine a7_.drewN ?_ _|refine a7_.setCell ?_ (by first|(simp;done)|(simp;omega)|omega) _)))).mono oq_⟩,⟨by show (0:Int)≤j;omega,by show (1:Int)≤k;omega,HR2.out,HR.out⟩,by show (j:Int)≤8;omega,by show (k:Int)≤12;omega,by have:=HB2.out;exact xE⟩
def hasB (p:Per) (n:Int):Bool:=validB p && decide (0≤n) && memB p n
def inB (t:List Per) (n:Int):Bool:=t.all fun p=>hasB p n
def br_ (t:List Per):Bool:=decide (1≤t.length) && decide (t.length≤4) && t.all validB
def bj_ (m:List (List Per)):Bool:=decide (m.length≤64) && m.all br_
theorem px_ {α:Type} (l:List α) (p:α->Bool):(!l.any fun x=>!p x)=l.all p:=by
 induction l with
 | nil=>rfl
 | cons a l ih=>simp only [List.any_cons,List.all_cons,<- ih];cases p a <;> simp
theorem wr_ (F:Nat->Prop) (x:PV) (n:Int) (db:Nat) (w:World) (hx:PVok w F x) (hc:w.cell? ⟨db,0,none⟩=some (.int .i64 n)) (hn:InI n) :
  Calls Tryz.prog 100 #[x.val,.pointer (some ⟨db,0,none⟩)] w fun e w'=>e=.returned (.bool (!hasB x.p n))∧Below w.heap.size w w':=by
 have H:=fun W (h:Below w.heap.size w W)=>vx_ x.h x.c x.p n W (hx.is.ext h) hn;have hlt:=World.block_lt_of_cell? w _ hc;have e0:∀ o,(w.alloc o).cell? ⟨db,0,none⟩=some (.int .i64 n):=fun o=>ag_ hc o;change ∀ W,_->Calls _ _ _ _ fun e w'=>e=.returned (.bool (hasB x.p n))∧_ at H;clear hc hx;generalize hasB x.p n=b at H ⊢
 go_enter Tryz.func100,Tryz.ntmps100
 go_wp2_with (go_at_call 43;refine (H _ xE).mono ?_;rintro e w1 ⟨rfl,hb1⟩)
 go_ret;exact ⟨rfl,xE⟩
theorem uv_ (F:Nat->Prop) (L:List PV) (n:Int) (db:Nat) (w:World) (hL:∀ x∈L,PVok w F x) (hc:w.cell? ⟨db,0,none⟩=some (.int .i64 n)) (hn:InI n) :
  mw_ 100 #[.pointer (some ⟨db,0,none⟩)] L (fun x=>!hasB x.p n) w:=fun W x hW hx=>by
 have h:=wr_ F x n db W ((hL x hx).keep (a5_.below hW)) (Ext.cell hW hc) hn;have e:(#[x.val] ++ #[Value.pointer (some ⟨db,0,none⟩)])=#[x.val,.pointer (some ⟨db,0,none⟩)]:=by simp
 rw [e];exact h.mono fun e w' ⟨h1,h2⟩=>⟨h1,hW.trans (h2.mono hW.size)⟩
theorem x7_ (F:Nat->Prop) (v:Value) (t:List Per) (n:Int) (w:World) (ht:ab_ w F v t) (hn:InI n) :
  Calls Tryz.prog 59 #[v,.int .i64 n] w fun e w'=>e=.returned (.bool (inB t n))∧Below w.heap.size w w':=by
 obtain ⟨L,rfl,hL⟩:=ht;have hb0:Below w.heap.size w (w.alloc (.cells #[.int .i64 n] 3)):=by exact xE
 have h0:=i3_ F v L (fun x=>!hasB x.p n) 100 #[.pointer (some ⟨w.heap.size,0,none⟩)] (enters_of Tryz.func100 (by kernel_rfl) rfl) (w.alloc (.cells #[.int .i64 n] 3)) (hL.row.keep (a5_.below hb0) hb0.size) hL.len
  (uv_ F L n w.heap.size _ (fun x hx=>(hL.all x hx).keep (a5_.below hb0)) sq_ hn)
 have he:inB (L.map PV.p) n=!(L.any fun x=>!hasB x.p n):=by rw [px_];unfold inB;rw [List.all_map];rfl
 rw [he];clear hL he hb0;generalize (L.any fun x=>!hasB x.p n)=b at h0 ⊢
 go_enter Tryz.func59,Tryz.ntmps59
 go_wp2_with (go_at_call 63;refine h0.mono ?_;rintro e w1 ⟨rfl,hb1⟩)
 go_ret;exact ⟨rfl,xE⟩
theorem rz_ (F:Nat->Prop) (x:PV) (w:World) (hx:PVok w F x) :
  Calls Tryz.prog 64 #[x.val] w fun e w'=>e=.returned (.bool (!validB x.p))∧Below w.heap.size w w':=by
 have H:=fun W (h:Below w.heap.size w W)=>cd_ x.h x.c x.p W (hx.is.ext h);clear hx;generalize validB x.p=b at H ⊢
 go_enter Tryz.func64,Tryz.ntmps64
 go_wp2_with (go_at_call 65;refine (H _ xE).mono ?_;rintro e w1 ⟨rfl,hb1⟩)
 go_ret;exact ⟨rfl,xE⟩
theorem pm_ (F:Nat->Prop) (L:List PV) (w:World) (hL:∀ x∈L,PVok w F x):mw_ 64 #[] L (fun x=>!validB x.p) w:=fun W x hW hx=>by
 have h:=rz_ F x W ((hL x hx).keep (a5_.below hW));have e:(#[x.val] ++ (#[]:Array Value))=#[x.val]:=by simp
 rw [e];exact h.mono fun e w' ⟨h1,h2⟩=>⟨h1,hW.trans (h2.mono hW.size)⟩
theorem um_ (F:Nat->Prop) (v:Value) (t:List Per) (w:World) (ht:ab_ w F v t) :
  Calls Tryz.prog 63 #[v,.func (.func 64) #[] #[]] w fun e w'=>e=.returned (.bool (!t.all validB))∧Below w.heap.size w w':=by
 obtain ⟨L,rfl,hL⟩:=ht;have h:=i3_ F v L (fun x=>!validB x.p) 64 #[] (enters_of Tryz.func64 (by kernel_rfl) rfl) w hL.row hL.len (pm_ F L w hL.all);have he:(!(L.map PV.p).all validB)=L.any fun x=>!validB x.p:=by
  rw [List.all_map,<- Bool.not_not (L.any _),px_];rfl
 rw [he];exact h
theorem hc_ {α:Type} {l:List α} {d:α} {p:α->Bool} (h:k<l.length):(l.take (k+1)).all p=((l.take k).all p && p (l.getD k d)):=by
 rw [List.take_succ_eq_append_getElem h,List.all_append,List.getD_eq_getElem?_getD,List.getElem?_eq_getElem h];simp
theorem all_false {α:Type} {l:List α} {d:α} {p:α->Bool} (h:k<l.length) (hp:p (l.getD k d)=false):l.all p=false:=by
 rw [List.all_eq_false];exact ⟨_,aa_ (d:=d) h,by rw [hp];decide⟩
theorem ab_.form {F:Nat->Prop} (h:ab_ W F v t):∃ a c,v=.slice a t.length c∧t.length≤17592186044416:=by
 obtain ⟨L,rfl,hL⟩:=h;obtain ⟨a,c,rfl,_⟩:=hL.row;exact ⟨a,c,by rw [List.length_map],by rw [List.length_map];exact hL.len⟩
theorem MixL.get {F:Nat->Prop} {a:Option Addr} {n:Nat} {L:List (Value × List Per)} (h:MixL w F (.slice a n c) L) (hk:k<L.length) :
  ∃ b o tv,a=some ⟨b,o,none⟩∧w.cell? ⟨b,o+k,none⟩=some tv∧ab_ w F tv ((L.map Prod.snd).getD k []):=by
 obtain ⟨a',c',he,h1,h2,h3⟩:=h.row;injection he with e1 _ e2
 subst e1;subst e2;rcases h3 with h3|⟨b,o,rfl,hF,hl,hc⟩
 ·omega
 ·refine ⟨b,o,(L.getD k default).1,rfl,hc k _ ?_,?_⟩
  ·rw [List.getElem?_map,List.getD_eq_getElem?_getD,List.getElem?_eq_getElem hk];rfl
  ·have:=h.all _ (aa_ (d:=default) hk);rw [show (L.map Prod.snd).getD k []=(L.getD k default).2 by simp [List.getD_eq_getElem?_getD,hk]];exact this
theorem bh_ (F:Nat->Prop) (v:Value) (m:List (List Per)) (w:World) (hm:MixR w F v m) :
  Calls Tryz.prog 18 #[.agg #[v]] w fun e w'=>e=.returned (.bool (bj_ m))∧Below w.heap.size w w':=by
 obtain ⟨L,hLm,hL⟩:=hm;obtain ⟨a,c,rfl,_⟩:=hL.row;have HL:=hq_ hL;have hlen:=hL.len;have hml:m.length=L.length:=by rw [<- hLm];exact List.length_map _
 have HLM:=hq_ hLm;have HM:=hq_ hml;clear hL hLm hml
 go_enter Tryz.func18,Tryz.ntmps18
 go_wp2_with fail
 ·rename_i hgt;go_ret;refine ⟨ac_ ?_,xE⟩;have:=HM.out;unfold bj_;rw [decide_eq_false oq_];rfl
 ·rename_i hgt
  go_loopw [4,12] (fun _ i wr=>∃ k:Nat,k≤L.length∧i=.int .i64 k∧(m.take k).all br_=true∧Below w.heap.size w wr) (fun _ i _=>L.length-(intOf i).toNat)
  case atStart=>exact ⟨0,oq_,rfl,rfl,xE⟩
  case round=>
   obtain ⟨k,hk,rfl,hpre,hb⟩:=hrel;have HB:=hq_ hb;have HPRE:=hq_ hpre;clear hpre
   by_cases hlt:k<L.length
   ·have hlI:(k:Int)<L.length:=oq_;obtain ⟨b8,f8,tv,rfl,hcell,hT⟩:=(HL.out.keep (a5_.below hb) hb.size).get hlt;rw [HLM.out] at hT;have HT:=hq_ hT;have HSU:Hid ((m.take (k+1)).all br_=((m.take k).all br_ && br_ (m.getD k []))):=hq_ (hc_ (by have:=HM.out;omega));have HF:Hid (br_ (m.getD k [])=false->bj_ m=false):=hq_ fun h=>by unfold bj_;rw [all_false (d:=[]) (by have:=HM.out;omega) h,Bool.and_false]
    generalize m.getD k []=t at *;obtain ⟨a2,c2,rfl,ht44⟩:=hT.form;have HBT:=fun W h=>um_ F _ t W (HT.out.ext h);clear hT
    by_cases h1:t.length<1
    ·have h1I:(t.length:Int)<1:=oq_;go_wp2_with fail
     go_ret;refine ⟨ac_ (HF.out ?_).symm,HB.out⟩;unfold br_;rw [decide_eq_false oq_];rfl
    ·by_cases h2:4<t.length
     ·have h2I:4<(t.length:Int):=oq_;go_wp2_with fail
      go_ret;refine ⟨ac_ (HF.out ?_).symm,HB.out⟩;unfold br_;rw [decide_eq_false (p:=t.length≤4) oq_,Bool.and_false];rfl
     ·have h1I:¬ (t.length:Int)<1:=oq_;have h2I:¬ 4<(t.length:Int):=oq_;cases hq:t.all validB with
      | false=>
       rw [hq] at HBT;have HQ:=hq_ hq;clear hq;go_wp2_with (go_at_call 63;refine (HBT _ xE).mono ?_;rintro e w1 ⟨rfl,hb1⟩)
       go_ret;refine ⟨ac_ (HF.out ?_).symm,xE⟩;unfold br_;rw [HQ.out,Bool.and_false]
      | true=>
       rw [hq] at HBT;have HQ:=hq_ hq;clear hq;go_wp2_with (go_at_call 63;refine (HBT _ xE).mono ?_;rintro e w1 ⟨rfl,hb1⟩)
       go_roundw
       case rel=>
        refine ⟨k+1,oq_,by go_num,?_,xE⟩;rw [HSU.out,HPRE.out];unfold br_;rw [HQ.out,decide_eq_true oq_,decide_eq_true oq_];rfl
       case measure=>simp [intOf];omega
   ·obtain rfl:k=L.length:=oq_;go_wp2_with fail
    go_ret;refine ⟨ac_ ?_,HB.out⟩;have:=HPRE.out;rw [<- HM.out,List.take_length] at this;unfold bj_;rw [this,decide_eq_true (by have:=HM.out;omega)];rfl
end Go.Proofs.YthjnojbeimchdaaGreat
end
