/- Part 6 of what the claims of this seat rest on. -/
import Derived.Test.YthjnojbeimchdaaGreatN4
import Derived.Test.YthjnojbeimchdaaGreatN1
import Derived.Laws.EntriesVeiled
import Derived.Test.YthjnojbeimchdaaGreatN3
import Derived.Lib.AppendZerosOnto
import Derived.Test.YthjnojbeimchdaaGreatN5
set_option linter.unusedVariables false
set_option linter.unusedSimpArgs false
/- Walks: the methods full, common, meet of a pair (package periodic). -/
namespace Go.Proofs.YthjnojbeimchdaaGreat
open Go.RowKit Go.Maps Kal
def MapLook (w:World) (mb:Nat) (g:Int) (ys:List Int):Prop:=
 ∀ r,InI r→∃ v,(∀ W,Below w.heap.size w W→(Instr.lookup 137 (.map (some mb)) (.int .i64 r) false).run Tryz.prog W=.ok v W)∧Ints w v (grp ys g r)
theorem MapLook.ext {w W:World} {mb:Nat} {g:Int} {ys:List Int} (h:MapLook w mb g ys) (hb:Below w.heap.size w W):MapLook W mb g ys:=fun r hr=>by
 obtain ⟨v,h1,h2⟩:=h r hr
 exact ⟨v,fun W' hb'=>h1 W' (hb.trans (hb'.mono hb.size)),h2.ext hb⟩
theorem MapIn.looks {w:World} {mb hi:Nat} {g:Int} {ys:List Int} (h:MapIn w mb hi g ys):MapLook w mb g ys:=fun r hr=>by
 obtain ⟨v0,hr0,hv0⟩:=h.look hr
 obtain ⟨es,clock,n,base,D,hbs,hb,hn,hown,_⟩:=h
 obtain ⟨v,zs,h1,_⟩:=groups_at hown hn hr
 have e:=h1 w rfl
 rw [hr0] at e
 injection e with e
 subst e
 exact ⟨v0,fun W hW=>h1 W (hW.block mb (Array.getElem?_eq_some_iff.1 hb).1),hv0.ints⟩
structure PairAt (w:World) (h1 c1 h2 c2:Value) (qa qb:Per) (st:Int) (xv yv:Value) (g:Int) (mb:Nat):Prop where
 a:PerIs w h1 c1 qa
 b:PerIs w h2 c2 qb
 x:Ints w xv (isort (cycL qa st))
 y:Ints w yv (isort (cycL qb st))
 m:MapLook w mb g (isort (cycL qb st))
theorem PairAt.ext {w W:World} {h1 c1 h2 c2:Value} {qa qb:Per} {st:Int} {xv yv:Value} {g:Int} {mb:Nat} (h:PairAt w h1 c1 h2 c2 qa qb st xv yv g mb) (hb:Below w.heap.size w W):PairAt W h1 c1 h2 c2 qa qb st xv yv g mb:=
 ⟨h.a.ext hb,h.b.ext hb,h.x.ext hb,h.y.ext hb,h.m.ext hb⟩
theorem PairIn.at {w:World} {lo hi:Nat} {h1 c1 h2 c2:Value} {qa qb:Per} {st:Int} {xv yv:Value} {mb:Nat} (h:PairIn w lo hi h1 c1 h2 c2 qa qb st xv yv mb):PairAt w h1 c1 h2 c2 qa qb st xv yv (Int.gcd qa.period qb.period:Nat) mb:=
 ⟨h.a.is,h.b.is,h.x.ints,h.y.ints,h.m.looks⟩
theorem beqI (a b:Int):(a == b)=decide (a=b):=by by_cases h:a=b <;> simp [h]
def fullB (ys:List Int) (g b n:Int):Bool:=decide (((grp ys g (n % g)).length:Int)=b / g)
set_option maxRecDepth 100000 in
set_option maxHeartbeats 1000000 in
theorem full_any (h1 c1 h2 c2:Value) (qa qb:Per) (st:Int) (xv yv:Value) (g:Int) (mb:Nat) (n:Int) (w:World) (hP:PairAt w h1 c1 h2 c2 qa qb st xv yv g mb) (hg:1≤g) (hg1:g≤562949953421312) (hn:0≤n) (hn1:n≤9007199254740992)
  (hp:1≤qb.period) (hp1:qb.period≤562949953421312) :
  Calls Tryz.prog 181 #[pairV h1 c1 h2 c2 qa qb st xv yv g mb,.int .i64 n] w fun e w'=>e=.returned (.bool (fullB (isort (cycL qb st)) g qb.period n))∧Below w.heap.size w w':=by
 have hm0:=Int.emod_nonneg n (show g≠0 by omega)
 have hm1:=Int.emod_lt_of_pos n (show 0<g by omega)
 have hlk:=hP.m (n % g) ⟨by omega,by omega⟩
 obtain ⟨v,hlk,hv⟩:=hlk
 obtain ⟨⟨va,vc,rfl,_⟩,hvl,_⟩:=hv
 obtain ⟨xa,xc,rfl⟩:∃ a c,xv=.slice a (isort (cycL qa st)).length c:=by obtain ⟨⟨a,c,e,_⟩,_⟩:=hP.x;exact ⟨a,c,e⟩
 obtain ⟨ya,yc,rfl⟩:∃ a c,yv=.slice a (isort (cycL qb st)).length c:=by obtain ⟨⟨a,c,e,_⟩,_⟩:=hP.y;exact ⟨a,c,e⟩
 obtain ⟨a1,k1,a2,k2,rfl,rfl⟩:=hP.a.inn.form
 obtain ⟨a3,k3,a4,k4,rfl,rfl⟩:=hP.b.inn.form
 have hL:∀ W,Below w.heap.size w W→∀ nq,(Instr.lookup 137 (.map (some mb)) (.int .i64 (n % g)) false).run Tryz.prog (W.drewN nq)=.ok (.slice va (grp (isort (cycL qb st)) g (n % g)).length vc) (W.drewN nq):=fun W hb nq=>hlk _ xE
 obtain ⟨F,hF⟩:∃ F,F=fullB (isort (cycL qb st)) g qb.period n:=⟨_,rfl⟩
 have HF:=Lib.hid hF
 rw [← hF]
 unfold fullB at hF
 generalize (isort (cycL qb st))=ys at *
 generalize (isort (cycL qa st))=xs at *
 generalize hlen:(grp ys g (n % g)).length=len at *
 have HLEN:=Lib.hid hlen
 clear hlen
 clear hlk hP
 go_enter Tryz.func181,Tryz.ntmps181
 go_wp2_with fail
 have hL2:=hL _ (Ea (Er w) (.cells #[.slice a1 qa.head.length k1,.int .i64 qa.frm,.int .i64 qa.period,.slice a2 qa.cycle.length k2,.slice a3 qb.head.length k3,.int .i64 qb.frm,.int .i64 qb.period,.slice a4 qb.cycle.length k4,.int .i64 st,.slice xa xs.length xc,.slice ya ys.length yc,.int .i64 g,.map (some mb)] 139))
 go_quiet (fail)
 go_wp2_with fail
 go_ret
 refine ⟨ret_bool ?_,xE⟩
 rw [HF.out]
 unfold fullB
 rw [HLEN.out,beqI]
def comN (xs ys:List Int) (g:Int):Nat:=(xs.map fun x=>(grp ys g (x % g)).length).sum
theorem comN_succ {xs ys:List Int} {g:Int} {k:Nat} (h:k<xs.length):comN (xs.take (k+1)) ys g=comN (xs.take k) ys g+(grp ys g (xs.getD k 0 % g)).length:=by
 unfold comN
 rw [List.take_succ_eq_append_getElem h,List.map_append,List.sum_append,List.getD_eq_getElem?_getD,List.getElem?_eq_getElem h]
 simp
theorem comN_le {xs ys:List Int} {g:Int} (k:Nat):comN (xs.take k) ys g≤comN xs ys g:=by
 unfold comN
 conv=>rhs;rw [← List.take_append_drop k xs,List.map_append,List.sum_append]
 omega
set_option maxRecDepth 100000 in
set_option maxHeartbeats 1000000 in
theorem common_any (h1 c1 h2 c2:Value) (qa qb:Per) (st:Int) (xv yv:Value) (g:Int) (mb:Nat) (w:World) (hP:PairAt w h1 c1 h2 c2 qa qb st xv yv g mb) (hg:1≤g) (hg1:g≤562949953421312)
  (hx:∀ x∈isort (cycL qa st),0≤x∧x≤562949953421312) (hc:comN (isort (cycL qa st)) (isort (cycL qb st)) g≤4611686018427387904) :
  Calls Tryz.prog 149 #[pairV h1 c1 h2 c2 qa qb st xv yv g mb] w fun e w'=>e=.returned (.int .i64 (comN (isort (cycL qa st)) (isort (cycL qb st)) g:Nat))∧Below w.heap.size w w':=by
 have hP0:=hP
 obtain ⟨⟨xa,xc,rfl,_⟩,hxl,_⟩:=hP.x
 obtain ⟨ya,yc,rfl⟩:∃ a c,yv=.slice a (isort (cycL qb st)).length c:=by obtain ⟨⟨a,c,e,_⟩,_⟩:=hP.y;exact ⟨a,c,e⟩
 obtain ⟨a1,k1,a2,k2,rfl,rfl⟩:=hP.a.inn.form
 obtain ⟨a3,k3,a4,k4,rfl,rfl⟩:=hP.b.inn.form
 obtain ⟨ys,hys⟩:∃ ys,ys=isort (cycL qb st):=⟨_,rfl⟩
 obtain ⟨xs,hxs⟩:∃ xs,xs=isort (cycL qa st):=⟨_,rfl⟩
 have HM:Hid (MapLook w mb g ys):=Lib.hid (hys ▸ hP.m)
 have HX:Hid (Ints w (.slice xa xs.length xc) xs):=Lib.hid (by rw [hxs];exact hP.x)
 rw [← hys,← hxs]
 rw [← hys,← hxs] at hc
 rw [← hxs] at hx hxl
 clear hP hys hxs hP0
 go_enter Tryz.func149,Tryz.ntmps149
 go_wp2_with fail
 generalize hW0:w.alloc _=W0
 have hE:Below w.heap.size w W0:=by rw [← hW0];exact xE
 have hbx:Bxx W0 w.heap.size #[.slice a1 qa.head.length k1,.int .i64 qa.frm,.int .i64 qa.period,.slice a2 qa.cycle.length k2,.slice a3 qb.head.length k3,.int .i64 qb.frm,.int .i64 qb.period,.slice a4 qb.cycle.length k4,.int .i64 st,.slice xa xs.length xc,.slice ya ys.length yc,.int .i64 g,.map (some mb)] 139:=by rw [← hW0];exact Bxx.new _ _ _
 have q11:=(hbx.cells 11).1
 have q12:=(hbx.cells 12).1
 have HE:=Lib.hid hE
 have HBX:=Lib.hid hbx
 clear hW0 hbx hE
 go_loopw [9,3] (fun i n wr=>∃ (k q:Nat),k≤xs.length∧i=.int .i64 k∧n=.int .i64 (comN (xs.take k) ys g:Nat)∧wr=W0.drewN q) (fun i _ _=>xs.length-(intOf i).toNat)
 case atStart=>exact ⟨0,0,by omega,rfl,rfl,rfl⟩
 case round=>
  obtain ⟨k,q,hk,rfl,rfl,rfl⟩:=hrel
  by_cases hlt:k<xs.length
  ·have hxI:=hx (xs.getD k 0) (getD_mem hlt)
   have hsu:=comN_succ (xs:=xs) (ys:=ys) (g:=g) hlt
   have hle:=comN_le (xs:=xs) (ys:=ys) (g:=g) (k+1)
   obtain ⟨⟨a8,c8,he8,_,_,h38⟩,_,_⟩:=HX.out.ext HE.out
   injection he8 with he1 he2 he3
   subst he1;subst he3
   rcases h38 with h38|⟨b8,f8,rfl,hcell⟩
   ·rw [h38] at hlt;simp at hlt
   have hcl:=hcell k hlt
   have hkI:(k:Int)<xs.length:=by omega
   obtain ⟨x,hxx⟩:∃ x,x=xs.getD k 0:=⟨_,rfl⟩
   rw [← hxx] at hcl hxI hsu
   have hm0:=Int.emod_nonneg x (show g≠0 by omega)
   have hm1:=Int.emod_lt_of_pos x (show 0<g by omega)
   obtain ⟨v,hlk,hv⟩:=HM.out (x % g) ⟨by omega,by omega⟩
   obtain ⟨⟨va,vc,rfl,_⟩,hvl,_⟩:=hv
   have hL2:∀ nq,(Instr.lookup 137 (.map (some mb)) (.int .i64 (x % g)) false).run Tryz.prog (W0.drewN nq)=.ok (.slice va (grp ys g (x % g)).length vc) (W0.drewN nq):=fun nq=>hlk _ (En HE.out nq)
   obtain ⟨len,hlen⟩:∃ len,len=(grp ys g (x % g)).length:=⟨_,rfl⟩
   rw [← hlen] at hsu hvl hL2
   rw [hsu] at hle
   obtain ⟨n0,hn0⟩:∃ n0,n0=comN (xs.take k) ys g:=⟨_,rfl⟩
   rw [← hn0] at hsu hle ⊢
   have HS:=Lib.hid hsu
   clear hlk hsu hlen hxx hcell hn0
   go_wp2_with fail
   go_quiet (fail)
   go_wp2_with fail
   go_roundw
   case rel=>exact ⟨k+1,_,by omega,by go_num,by rw [HS.out];go_num,rfl⟩
   case measure=>simp [intOf];omega
  ·obtain rfl:k=xs.length:=by omega
   go_wp2_with fail
   go_ret
   exact ⟨by rw [List.take_length];rfl,En HE.out _⟩
end Go.Proofs.YthjnojbeimchdaaGreat
/- Walks: the method meet of a pair (package periodic). -/
namespace Go.Proofs.YthjnojbeimchdaaGreat
open Go.RowKit Go.Maps Kal
theorem append_listL {w:World} {ops:Array Oper} {rest:List Oper} {o:Oper} {a:Act} {Q:Exit→Act→World→Prop} (hgd:o.guard=none) (s x:Operand)
  (ho:o.op=.call { callee:=.builtin .append,args:=#[s,x],argTypes:=#[37,37] }) (base:Nat) (v:Value) (l:List Int) (y:Int) (hs:a.eval s=v) (hown:OwnI w base v l)
  (blk c:Nat) (hx:a.eval x=.slice (some ⟨blk,0,none⟩) 1 c) (hnew:w.cell? ⟨blk,0,none⟩=some (.int .i64 y)) (hy:InI y) (hlen:l.length+1≤17592186044416) (hbase:base≤w.heap.size)
  (h:∀ g cap w',OwnI w' base (.slice (some ⟨g,0,none⟩) (l.length+1) cap) (l ++ [y])→w.grownBy w' v.ownBlock→Below base w w'→(v.ownBlock=some g∨w.heap.size≤g)→wpList Tryz.prog ops Q rest (a.put o.dst (.slice (some ⟨g,0,none⟩) (l.length+1) cap)) w') :
  wpList Tryz.prog ops Q (o :: rest) a w:=by
 obtain ⟨i,hi,h1,h2,h3⟩:=intInfo
 refine wpList_append_lies w hgd s x 37 ho base 3 i (.int .i64 0) 1 8 Tryz.underlying37 hi h1 h2 h3 rfl (by omega) v l.length (l.map (Value.int .i64)) hs hown.row ⟨blk,0,none⟩ 1 c [.int .i64 y] hx rfl ?_ (by simp [Value.oneCell']) (by omega) (by unfold maxLen;omega) (by omega) hbase _ rfl ?_
 ·intro j u hu
  match j,hu with
  | 0,hu=>simp at hu;subst hu;exact hnew
 ·intro g cap w' hown' hgrow hloc _
  exact h g cap w' (OwnI.appended hown.rng hy hlen hown') hgrow (hown.below_grown (W0:=w) (.inr trivial) hbase hgrow) (hloc.imp id fun e=>by omega)
theorem meetL_succ {xs ys:List Int} {a b st:Int} {k:Nat} (h:k<xs.length):meetL (xs.take (k+1)) ys a b st=meetL (xs.take k) ys a b st ++ (grp ys (Int.gcd a b:Nat) (xs.getD k 0 % (Int.gcd a b:Nat))).map fun y=>st+solveI (xs.getD k 0) a y b:=by
 unfold meetL grp
 rw [List.take_succ_eq_append_getElem h,List.flatMap_append,List.getD_eq_getElem?_getD,List.getElem?_eq_getElem h]
 simp
theorem meetL_le {xs ys:List Int} {a b st:Int} (k:Nat):(meetL (xs.take k) ys a b st).length≤(meetL xs ys a b st).length:=by
 unfold meetL
 conv=>rhs;rw [← List.take_append_drop k xs,List.flatMap_append,List.length_append]
 omega
def MeetRes (base:Nat) (l:List Int) (w:World) (e:Ending) (w':World):Prop:=∃ v,e=.returned v∧OwnI w' base v l∧Below base w w'
theorem map_take_succ {α β:Type} (f:α→β) {l:List α} {k:Nat} (h:k<l.length):(l.take (k+1)).map f=(l.take k).map f ++ [f l[k]]:=by
 rw [List.take_succ_eq_append_getElem h,List.map_append];rfl
structure PairB (base:Nat) (w:World) (h1 c1 h2 c2:Value) (qa qb:Per) (st:Int) (xv yv:Value) (g:Int) (mb:Nat):Prop where
 a:∀ W,Below base w W→PerIs W h1 c1 qa
 b:∀ W,Below base w W→PerIs W h2 c2 qb
 x:∀ W,Below base w W→Ints W xv (isort (cycL qa st))
 y:∀ W,Below base w W→Ints W yv (isort (cycL qb st))
 m:∀ r,InI r→∃ v,∀ W,Below base w W→(Instr.lookup 137 (.map (some mb)) (.int .i64 r) false).run Tryz.prog W=.ok v W∧Ints W v (grp (isort (cycL qb st)) g r)
theorem PairIn.pairB {w:World} {lo hi base:Nat} {h1 c1 h2 c2:Value} {qa qb:Per} {st:Int} {xv yv:Value} {mb:Nat} (h:PairIn w lo hi h1 c1 h2 c2 qa qb st xv yv mb) (hb:hi≤base):PairB base w h1 c1 h2 c2 qa qb st xv yv (Int.gcd qa.period qb.period:Nat) mb:=by
 refine ⟨fun W hW=>(h.a.below hW hb).is,fun W hW=>(h.b.below hW hb).is,fun W hW=>(h.x.below hW hb).ints,fun W hW=>(h.y.below hW hb).ints,fun r hr=>?_⟩
 obtain ⟨v0,hr0,hv0⟩:=h.m.look hr
 obtain ⟨es,clock,n,b9,D,hbs,hb9,hn,hown,_,hlt,_⟩:=h.m
 obtain ⟨v,zs,h1,_⟩:=groups_at hown hn hr
 have e:=ok_inj (hr0.symm.trans (h1 w rfl))
 subst e
 exact ⟨v0,fun W hW=>⟨h1 W (hW.block mb (by omega)),(hv0.below hW hb).ints⟩⟩
theorem PairB.below {base:Nat} {w W:World} {h1 c1 h2 c2:Value} {qa qb:Per} {st:Int} {xv yv:Value} {g:Int} {mb:Nat} (h:PairB base w h1 c1 h2 c2 qa qb st xv yv g mb) (hb:Below base w W):PairB base W h1 c1 h2 c2 qa qb st xv yv g mb:=
 ⟨fun W' h'=>h.a W' (hb.trans h'),fun W' h'=>h.b W' (hb.trans h'),fun W' h'=>h.x W' (hb.trans h'),fun W' h'=>h.y W' (hb.trans h'),fun r hr=>let ⟨v,hv⟩:=h.m r hr;⟨v,fun W' h'=>hv W' (hb.trans h')⟩⟩
theorem PairB.at {base:Nat} {w:World} {h1 c1 h2 c2:Value} {qa qb:Per} {st:Int} {xv yv:Value} {g:Int} {mb:Nat} (h:PairB base w h1 c1 h2 c2 qa qb st xv yv g mb) (hb:base≤w.heap.size):PairAt w h1 c1 h2 c2 qa qb st xv yv g mb:=
 ⟨h.a w (Below.refl _ _),h.b w (Below.refl _ _),h.x w (Below.refl _ _),h.y w (Below.refl _ _),fun r hr=>let ⟨v,hv⟩:=h.m r hr;⟨v,fun W hW=>(hv W (hW.mono hb)).1,(hv w (Below.refl _ _)).2⟩⟩
set_option maxRecDepth 100000 in
set_option maxHeartbeats 2000000 in
theorem meet_any (h1 c1 h2 c2:Value) (qa qb:Per) (st:Int) (xv yv:Value) (g:Int) (mb base:Nat) (hv:Value) (l:List Int) (w:World) (hP:PairB base w h1 c1 h2 c2 qa qb st xv yv g mb)
  (hg:g=(Int.gcd qa.period qb.period:Nat)) (ha:1≤qa.period) (ha1:qa.period≤4294967295) (hb:1≤qb.period) (hb1:qb.period≤4294967295) (hL:lcmI qa.period qb.period≤1099511627776) (hs0:0≤st) (hs1:st≤562949953421312)
  (hx:Rise 0 qa.period (isort (cycL qa st))) (hy:Rise 0 qb.period (isort (cycL qb st))) (hown:OwnI w base hv l) (hbase:base≤w.heap.size)
  (hlen:l.length+(meetL (isort (cycL qa st)) (isort (cycL qb st)) qa.period qb.period st).length≤4398046511104) :
  Calls Tryz.prog 150 #[pairV h1 c1 h2 c2 qa qb st xv yv g mb,hv] w (MeetRes base (l ++ meetL (isort (cycL qa st)) (isort (cycL qb st)) qa.period qb.period st) w):=by
 have hP0:=hP.at hbase
 obtain ⟨⟨xa,xc,rfl,_⟩,hxl,_⟩:=hP0.x
 obtain ⟨ya,yc,rfl⟩:∃ a c,yv=.slice a (isort (cycL qb st)).length c:=by obtain ⟨⟨a,c,e,_⟩,_⟩:=hP0.y;exact ⟨a,c,e⟩
 obtain ⟨a1,k1,a2,k2,rfl,rfl⟩:=hP0.a.inn.form
 obtain ⟨a3,k3,a4,k4,rfl,rfl⟩:=hP0.b.inn.form
 have HP:=Lib.hid hP
 have hg1:=gcd_bound (b:=qb.period) ha
 have HG:=Lib.hid hg
 rw [← hg] at hg1
 have HX:=Lib.hid hx
 have HY:=Lib.hid hy
 have HM:=fun k=>meetL_le (xs:=isort (cycL qa st)) (ys:=isort (cycL qb st)) (a:=qa.period) (b:=qb.period) (st:=st) k
 have HMS:=fun k=>meetL_succ (xs:=isort (cycL qa st)) (ys:=isort (cycL qb st)) (a:=qa.period) (b:=qb.period) (st:=st) (k:=k)
 rw [← hg] at HMS
 have HMH:=Lib.hid HM
 have HMSH:=Lib.hid HMS
 obtain ⟨M,hM⟩:∃ M:Nat→List Int,M=fun k=>meetL ((isort (cycL qa st)).take k) (isort (cycL qb st)) qa.period qb.period st:=⟨_,rfl⟩
 have HMM:=Lib.hid hM
 have HOWN:=Lib.hid hown
 have hMe:M (isort (cycL qa st)).length=meetL (isort (cycL qa st)) (isort (cycL qb st)) qa.period qb.period st:=by rw [hM];simp only [List.take_length]
 rw [← hMe]
 rw [← hMe] at hlen HMH
 clear hP hP0 hg hx hy HM HMS hM hown hMe
 obtain ⟨hva,hvc,rfl⟩:=HOWN.out.form
 go_enter Tryz.func150,Tryz.ntmps150
 go_wp2_with fail
 generalize hW0:w.alloc _=W0
 have hE:Below base w W0:=by rw [← hW0];exact (Below.refl _ _).alloc hbase _
 have hbx:Bxx W0 w.heap.size #[.slice a1 qa.head.length k1,.int .i64 qa.frm,.int .i64 qa.period,.slice a2 qa.cycle.length k2,.slice a3 qb.head.length k3,.int .i64 qb.frm,.int .i64 qb.period,.slice a4 qb.cycle.length k4,.int .i64 st,.slice xa (isort (cycL qa st)).length xc,.slice ya (isort (cycL qb st)).length yc,.int .i64 g,.map (some mb)] 139:=by rw [← hW0];exact Bxx.new _ _ _
 have hown0:OwnI W0 base (.slice hva l.length hvc) l:=by rw [← hW0];exact HOWN.out.ext (Ea (Er _) _)
 have hob0:∀ k,(Value.slice hva l.length hvc).ownBlock=some k→k≠w.heap.size:=fun k hk=>by have:=(HOWN.out.lt k hk).2;omega
 have q9:=(hbx.cells 9).1
 have HE:=Lib.hid hE
 have HBX:=Lib.hid hbx
 have HOW0:=Lib.hid hown0
 have HOB0:=Lib.hid hob0
 clear hW0 hbx hE hown0 hob0
 go_wp2_with fail
 go_loopw [15,1] (fun i h wr=>∃ k:Nat,k≤(isort (cycL qa st)).length∧i=.int .i64 k∧OwnI wr base h (l ++ M k)∧Bxx wr w.heap.size #[.slice a1 qa.head.length k1,.int .i64 qa.frm,.int .i64 qa.period,.slice a2 qa.cycle.length k2,.slice a3 qb.head.length k3,.int .i64 qb.frm,.int .i64 qb.period,.slice a4 qb.cycle.length k4,.int .i64 st,.slice xa (isort (cycL qa st)).length xc,.slice ya (isort (cycL qb st)).length yc,.int .i64 g,.map (some mb)] 139∧(∀ k,h.ownBlock=some k→k≠w.heap.size)∧Below base w wr) (fun i _ _=>(isort (cycL qa st)).length-(intOf i).toNat)
 case atStart=>exact ⟨0,by omega,rfl,by rw [HMM.out];simpa [meetL] using HOW0.out,HBX.out,HOB0.out,HE.out⟩
 case round=>
  obtain ⟨k,hk,rfl,hown,hbx,hob,hbw⟩:=hrel
  have hszw:=hbw.size
  have hbs:w.heap.size<wr.heap.size:=hbx.lt
  by_cases hlt:k<(isort (cycL qa st)).length
  ·have q11:=(hbx.cells 11).1
   have q12:=(hbx.cells 12).1
   obtain ⟨⟨a8,c8,he8,_,_,h38⟩,_,_⟩:=HP.out.x wr hbw
   injection he8 with he1 he2 he3
   subst he1;subst he3
   rcases h38 with h38|⟨b8,f8,rfl,hcell⟩
   ·rw [h38] at hlt;simp at hlt
   have hcl:=hcell k hlt
   have hxm:=getD_mem hlt
   have hxI:=HX.out.2 _ hxm
   have hsu:=HMSH.out k hlt
   have hle:=HMH.out (k+1)
   have hkI:(k:Int)<(isort (cycL qa st)).length:=by omega
   generalize hxx:(isort (cycL qa st)).getD k 0=x at *
   have hm0:=Int.emod_nonneg x (show g≠0 by omega)
   have hm1:=Int.emod_lt_of_pos x (show 0<g by omega)
   obtain ⟨v,hvm⟩:=HP.out.m (x % g) ⟨by omega,by omega⟩
   have hgm:∀ y∈grp (isort (cycL qb st)) g (x % g),y∈isort (cycL qb st)∧y % g=x % g:=fun y hy=>by simpa [grp] using hy
   have hsu2:M (k+1)=M k ++ (grp (isort (cycL qb st)) g (x % g)).map fun y=>st+solveI x qa.period y qb.period:=by rw [HMM.out];exact hsu
   obtain ⟨zs,hzs⟩:∃ zs,zs=grp (isort (cycL qb st)) g (x % g):=⟨_,rfl⟩
   rw [← hzs] at hvm hgm hsu2
   have hMle:(M (k+1)).length≤(M (isort (cycL qa st)).length).length:=by rw [HMM.out] at hle ⊢;exact hle
   rw [hsu2,List.length_append,List.length_map] at hMle
   obtain ⟨va,vc,rfl⟩:∃ a c,v=.slice a zs.length c:=by obtain ⟨_,⟨⟨a,c,e,_⟩,_⟩⟩:=hvm w (Below.refl _ _);exact ⟨a,c,e⟩
   obtain ⟨wo,hwo⟩:∃ wo:World,wo=wr:=⟨_,rfl⟩
   rw [← hwo] at hown hbx hbw hbs hszw hcl hcell q11 q12 ⊢
   have hzl:zs.length≤17592186044416:=(hvm w (Below.refl _ _)).2.len
   have hL2:∀ nq,(Instr.lookup 137 (.map (some mb)) (.int .i64 (x % g)) false).run Tryz.prog (wo.drewN nq)=.ok (.slice va zs.length vc) (wo.drewN nq):=fun nq=>(hvm _ (Below.drewN hbw nq)).1
   obtain ⟨L8,hL8⟩:∃ L8,L8=l ++ M k:=⟨_,rfl⟩
   rw [← hL8] at hown
   obtain ⟨hua,huc,rfl⟩:=hown.form
   have HL8:=Lib.hid hL8
   have HOWNo:=Lib.hid hown
   have HBXo:=Lib.hid hbx
   have HBWo:=Lib.hid hbw
   have HOBo:=Lib.hid hob
   have HVM:=Lib.hid hvm
   have HSU2:=Lib.hid hsu2
   have HGM:=Lib.hid hgm
   clear hown hbx hbw hob hvm hgm hsu2 hcell hsu hle hwo hzs hL8
   go_wp2_with fail
   go_quiet (fail)
   go_wp2_with fail
   go_loopw [27,1] (fun i h wr=>∃ j:Nat,j≤zs.length∧i=.int .i64 j∧OwnI wr base h (L8 ++ (zs.take j).map fun y=>st+solveI x qa.period y qb.period)∧Bxx wr w.heap.size #[.slice a1 qa.head.length k1,.int .i64 qa.frm,.int .i64 qa.period,.slice a2 qa.cycle.length k2,.slice a3 qb.head.length k3,.int .i64 qb.frm,.int .i64 qb.period,.slice a4 qb.cycle.length k4,.int .i64 st,.slice (some ⟨b8,f8,none⟩) (isort (cycL qa st)).length xc,.slice ya (isort (cycL qb st)).length yc,.int .i64 g,.map (some mb)] 139∧(∀ k,h.ownBlock=some k→k≠w.heap.size)∧Below base w wr) (fun i _ _=>zs.length-(intOf i).toNat)
   case atStart=>exact ⟨0,by omega,rfl,by rw [List.take_zero,List.map_nil,List.append_nil];exact HOWNo.out.ext (En (Er _) _),HBXo.out.below (En (Er _) _),HOBo.out,Below.drewN HBWo.out _⟩
   case round=>
    obtain ⟨j,hj,rfl,hown,hbx,hob,hbw⟩:=hrel
    have hszr:=hbw.size
    have hbsr:w.heap.size<wr.heap.size:=hbx.lt
    by_cases hlj:j<zs.length
    ·have r2:=(hbx.cells 2).1
     have r6:=(hbx.cells 6).1
     have r8:=(hbx.cells 8).1
     obtain ⟨_,⟨⟨a9,c9,he9,_,_,h39⟩,_,_⟩⟩:=HVM.out wr hbw
     injection he9 with he1 he2 he3
     subst he1;subst he3
     rcases h39 with h39|⟨b9,f9,rfl,hcell9⟩
     ·rw [h39] at hlj;simp at hlj
     have hcl9:=hcell9 j hlj
     have hym:=HGM.out _ (getD_mem hlj)
     have hyI:=HY.out.2 _ hym.1
     have hjI:(j:Int)<zs.length:=by omega
     have htk:(zs.take (j+1)).map (fun y=>st+solveI x qa.period y qb.period)=(zs.take j).map (fun y=>st+solveI x qa.period y qb.period) ++ [st+solveI x qa.period (zs.getD j 0) qb.period]:=by
      rw [map_take_succ _ hlj,List.getD_eq_getElem?_getD,List.getElem?_eq_getElem hlj];rfl
     generalize hyy:zs.getD j 0=y at *
     have hsol:=isSol_exists (x:=x) (a:=qa.period) (y:=y) (b:=qb.period) ha hb (by rw [← HG.out];exact hym.2.symm)
     have hs5:0≤solveI x qa.period y qb.period∧solveI x qa.period y qb.period≤1099511627776:=⟨hsol.1,by have:=hsol.2.1;omega⟩
     have hdiv:(y % qb.period-x % qa.period) % (Int.gcd qa.period qb.period:Nat)=0:=by
      rw [Int.emod_eq_of_lt hyI.1 hyI.2,Int.emod_eq_of_lt hxI.1 hxI.2,← HG.out]
      exact Int.emod_eq_emod_iff_emod_sub_eq_zero.1 hym.2
     obtain ⟨sv,hsv⟩:∃ sv,sv=solveI x qa.period y qb.period:=⟨_,rfl⟩
     rw [← hsv] at htk hs5
     have HSV:=Lib.hid hsv
     have HDIV:=Lib.hid hdiv
     have HTK:=Lib.hid htk
     have hlen9:(L8 ++ (zs.take j).map (fun y=>st+solveI x qa.period y qb.period)).length+1≤17592186044416:=by
      rw [HL8.out];simp only [List.length_append,List.length_map,List.length_take];omega
     obtain ⟨L9,hL9⟩:∃ L9,L9=L8 ++ (zs.take j).map (fun y=>st+solveI x qa.period y qb.period):=⟨_,rfl⟩
     rw [← hL9] at hown hlen9
     obtain ⟨h9a,h9c,rfl⟩:=hown.form
     have HL9:=Lib.hid hL9
     have HOWN9:=Lib.hid hown
     have HBX9:=Lib.hid hbx
     have HBW9:=Lib.hid hbw
     have HOB9:=Lib.hid hob
     clear hown hbx hbw hob htk hdiv hsv hsol hcell9 hyy hym hL9
     go_wp2_with (first|(go_at_call 178;refine (solve_any x qa.period y qb.period _ ⟨by omega,by omega⟩ ⟨by omega,by omega⟩ ha ha1 hb hb1 hL HDIV.out).mono ?_;rintro e w' ⟨he,nq,rfl⟩;rw [← HSV.out] at he;subst he)|(at_builtin;refine append_listL (by rfl) _ _ (by rfl) base (.slice h9a L9.length h9c) L9 (st+sv) (by rfl) (HOWN9.out.ext (Ea (En (Er _) _) _)) _ _ (by rfl) ((Bxx.new (wr.drewN nq) #[.int .i64 (st+sv)] 3).cells 0).1 ⟨by omega,by omega⟩ hlen9 (by rw [World.size_alloc,size_drewN];omega) ?_;intro gg cap w5 hown5 hgrow5 hbel5 hloc5))
     go_roundw
     case rel=>
      refine ⟨j+1,by omega,by go_num,?_,?_,?_,?_⟩
      ·rw [HTK.out,← List.append_assoc,← HL9.out];exact hown5
      ·refine (hgrow5.block _ (by rw [World.size_alloc,size_drewN];omega) (fun e=>HOB9.out _ e.symm rfl)).trans ((HBX9.out.below (En (Er _) nq)).alloc _)
      ·intro k5 hk5
       obtain rfl:gg=k5:=by simpa [Value.ownBlock] using hk5
       rcases hloc5 with h5|h5
       ·exact HOB9.out _ h5
       ·rw [World.size_alloc,size_drewN] at h5;omega
      ·exact ((Below.drewN HBW9.out nq).alloc (by rw [size_drewN];omega) _).trans hbel5
     case measure=>simp [intOf];omega
    ·obtain rfl:j=zs.length:=by omega
     have HOWN9:=Lib.hid hown
     have HBX9:=Lib.hid hbx
     have HBW9:=Lib.hid hbw
     have HOB9:=Lib.hid hob
     clear hown hbx hbw hob
     go_wp2_with fail
     go_roundw
     case rel=>
      refine ⟨k+1,by omega,by go_num,?_,HBX9.out,HOB9.out,HBW9.out⟩
      have:=HOWN9.out
      rw [List.take_length] at this
      rw [HSU2.out,← List.append_assoc,← HL8.out];exact this
     case measure=>simp [intOf];omega
  ·obtain rfl:k=(isort (cycL qa st)).length:=by omega
   have HOWN2:=Lib.hid hown
   obtain ⟨hua,huc,rfl⟩:=hown.form
   have HBW:=Lib.hid hbw
   clear hown hob hbx hbw
   go_wp2_with fail
   go_ret
   exact ⟨_,rfl,HOWN2.out,HBW.out⟩
end Go.Proofs.YthjnojbeimchdaaGreat
/- Walks: the method heads of a pair (package periodic). -/
namespace Go.Proofs.YthjnojbeimchdaaGreat
open Go.RowKit Go.Maps Kal
theorem heads_eq {A B:Per} {st:Int} (hA:A.WF) (hf:A.frm=st):A.head.filter (memB B)=sel (fun n=>A.mem n∧B.mem n) 0 st:=by
 refine (hA.head.filter _).ext (sel_rise (Int.le_refl _)) fun x=>?_
 rw [List.mem_filter,sel_mem (Int.le_refl _),hA.head_mem,hf]
 constructor
 ·rintro ⟨⟨h1,h2,h3⟩,h4⟩;exact ⟨h1,h2,h3,(memB_iff h1).1 h4⟩
 ·rintro ⟨h1,h2,h3,h4⟩;exact ⟨⟨h1,h2,h3⟩,(memB_iff h1).2 h4⟩
theorem filter_take_succ (p:Int→Bool) {l:List Int} {k:Nat} (h:k<l.length):(l.take (k+1)).filter p=(l.take k).filter p ++ (if p (l.getD k 0)=true then [l.getD k 0] else []):=by
 rw [List.take_succ_eq_append_getElem h,List.filter_append,List.getD_eq_getElem?_getD,List.getElem?_eq_getElem h]
 congr 1
 by_cases hp:p l[k]=true <;> simp [hp]
theorem Bxx.set4 {W:World} {b:Nat} {x y z u x' y' z' u':Value} {t:TypeId} (h:Bxx W b #[x,y,z,u] t) :
  Bxx ((((W.setCell ⟨b,0,none⟩ x').setCell ⟨b,1,none⟩ y').setCell ⟨b,2,none⟩ z').setCell ⟨b,3,none⟩ u') b #[x',y',z',u'] t:=set4all h
theorem Bxx.drewB {W:World} {b:Nat} {c:Array Value} {t:TypeId} (h:Bxx W b c t):Bxx W.drew b c t:=h
def HeadsRes (l:List Int) (w:World) (e:Ending) (w':World):Prop:=∃ v,e=.returned v∧OwnI w' w.heap.size v l∧Below w.heap.size w w'
set_option maxRecDepth 100000 in
set_option maxHeartbeats 2000000 in
theorem heads_any (h1 c1 h2 c2:Value) (qa qb:Per) (st:Int) (xv yv:Value) (g:Int) (mb:Nat) (w:World) (hP:PairAt w h1 c1 h2 c2 qa qb st xv yv g mb) (hwa:qa.WF) (hwb:qb.WF) (hst:st=max qa.frm qb.frm)
  (f1:qa.frm≤1125899906842624) (f2:qb.frm≤1125899906842624) (t1:qa.period≤1125899906842624) (t2:qb.period≤1125899906842624) :
  Calls Tryz.prog 148 #[pairV h1 c1 h2 c2 qa qb st xv yv g mb] w (HeadsRes (sel (fun n=>qa.mem n∧qb.mem n) 0 st) w):=by
 obtain ⟨xa,xc,rfl⟩:∃ a c,xv=.slice a (isort (cycL qa st)).length c:=by obtain ⟨⟨a,c,e,_⟩,_⟩:=hP.x;exact ⟨a,c,e⟩
 obtain ⟨ya,yc,rfl⟩:∃ a c,yv=.slice a (isort (cycL qb st)).length c:=by obtain ⟨⟨a,c,e,_⟩,_⟩:=hP.y;exact ⟨a,c,e⟩
 obtain ⟨a1,k1,a2,k2,rfl,rfl⟩:=hP.a.inn.form
 obtain ⟨a3,k3,a4,k4,rfl,rfl⟩:=hP.b.inn.form
 have HP:=Lib.hid hP
 have HWA:=Lib.hid hwa
 have HWB:=Lib.hid hwb
 have HST:=Lib.hid hst
 clear hP hwa hwb hst
 go_enter Tryz.func148,Tryz.ntmps148
 go_wp2_with fail
 generalize hW0:w.alloc _=W0
 have hE:Below w.heap.size w W0:=by rw [← hW0];exact xE
 have hbx:Bxx W0 w.heap.size #[.slice a1 qa.head.length k1,.int .i64 qa.frm,.int .i64 qa.period,.slice a2 qa.cycle.length k2,.slice a3 qb.head.length k3,.int .i64 qb.frm,.int .i64 qb.period,.slice a4 qb.cycle.length k4,.int .i64 st,.slice xa (isort (cycL qa st)).length xc,.slice ya (isort (cycL qb st)).length yc,.int .i64 g,.map (some mb)] 139:=by rw [← hW0];exact Bxx.new _ _ _
 clear hW0
 have c0:W0.cell? ⟨w.heap.size,0,none⟩=some (.slice a1 qa.head.length k1):=(hbx.cells 0).1
 have c1:W0.cell? ⟨w.heap.size,1,none⟩=some (.int .i64 qa.frm):=(hbx.cells 1).1
 have c2:W0.cell? ⟨w.heap.size,2,none⟩=some (.int .i64 qa.period):=(hbx.cells 2).1
 have c3:W0.cell? ⟨w.heap.size,3,none⟩=some (.slice a2 qa.cycle.length k2):=(hbx.cells 3).1
 have c4:W0.cell? ⟨w.heap.size,4,none⟩=some (.slice a3 qb.head.length k3):=(hbx.cells 4).1
 have c5:W0.cell? ⟨w.heap.size,5,none⟩=some (.int .i64 qb.frm):=(hbx.cells 5).1
 have c6:W0.cell? ⟨w.heap.size,6,none⟩=some (.int .i64 qb.period):=(hbx.cells 6).1
 have c7:W0.cell? ⟨w.heap.size,7,none⟩=some (.slice a4 qb.cycle.length k4):=(hbx.cells 7).1
 have hz0:=hbx.lt
 refine Code.wp_mono (Q:=fun e a' W'=>e=.normal∧∃ (b3 b4:Nat) (u8 u9 u10 u11:Value),a'=⟨#[pairV (.slice a1 qa.head.length k1) (.slice a2 qa.cycle.length k2) (.slice a3 qb.head.length k3) (.slice a4 qb.cycle.length k4) qa qb st (.slice xa (isort (cycL qa st)).length xc) (.slice ya (isort (cycL qb st)).length yc) g mb,.pointer (some ⟨w.heap.size,0,none⟩),.slice none 0 0,.pointer (some ⟨b3,0,none⟩),.pointer (some ⟨b4,0,none⟩),undef,undef,undef,u8,u9,u10,u11,undef,undef,undef,undef,undef,undef,undef,undef,undef,undef,undef,undef,undef,undef,undef,undef,undef,undef,undef,undef,undef,undef,undef],[]⟩∧Bxx W' b3 #[.slice a1 qa.head.length k1,.int .i64 qa.frm,.int .i64 qa.period,.slice a2 qa.cycle.length k2] 39∧Bxx W' b4 #[.slice a3 qb.head.length k3,.int .i64 qb.frm,.int .i64 qb.period,.slice a4 qb.cycle.length k4] 39∧Below W0.heap.size W0 W'∧W0.heap.size≤b3∧W0.heap.size≤b4∧b3≠b4) ?imp ?reg
 case reg=>
  go_region_held3 (fun w'=>w'.cell? ⟨w.heap.size,0,none⟩=some (.slice a1 qa.head.length k1)∧w'.cell? ⟨w.heap.size,1,none⟩=some (.int .i64 qa.frm)∧w'.cell? ⟨w.heap.size,2,none⟩=some (.int .i64 qa.period)∧w'.cell? ⟨w.heap.size,3,none⟩=some (.slice a2 qa.cycle.length k2)∧w'.cell? ⟨w.heap.size,4,none⟩=some (.slice a3 qb.head.length k3)∧w'.cell? ⟨w.heap.size,5,none⟩=some (.int .i64 qb.frm)∧w'.cell? ⟨w.heap.size,6,none⟩=some (.int .i64 qb.period)∧w'.cell? ⟨w.heap.size,7,none⟩=some (.slice a4 qb.cycle.length k4)) ((go_split_ands;repeat' (with_reducible first|assumption|refine cell_set_ne ?_ ?_ _|refine cell_alloc_at ?_ _|refine cell_drew ?_|exact Ext.cell (by assumption) (by assumption)|apply And.intro|(exact Below.cell' (by assumption) (by assumption) (by first|(simp;done)|(simp;omega)|omega))|(refine Below.cell' (by assumption) ?_ (by first|(simp;done)|(simp;omega)|omega))|omega|(simp;done)|(simp;omega)))) (fail)
  all_goals (refine ⟨rfl,_,_,_,_,_,_,rfl,?_,?_,by exact xE,by simp,by simp,by simp⟩ <;> (repeat' (first|exact Bxx.at (by simp)|refine Bxx.alloc ?_ _|refine Bxx.drewB ?_|refine set4all ?_|refine Bxx.setNe ?_ _ (by simp))))
 case imp=>
  rintro e a' W2 ⟨rfl,b3,b4,u8,u9,u10,u11,rfl,hx3,hx4,hE1,z3,z4,hne⟩
  have hE2:Below w.heap.size w W2:=by exact xE
  have hbx:=hbx.below hE1
  have hne':=hne.symm
  clear c0 c1 c2 c3 c4 c5 c6 c7 hE1
  have hc31:W2.cell? ⟨b3,1,none⟩=some (.int .i64 qa.frm):=(hx3.cells 1).1
  have hc8:W2.cell? ⟨w.heap.size,8,none⟩=some (.int .i64 st):=(hbx.cells 8).1
  by_cases hcase:qa.frm=st
  ·have hb:(qa.frm != st)=false:=by simp [hcase]
   go_upto_region 4 with (fail)
   have hsel:=heads_eq (B:=qb) HWA.out hcase
   have HSEL:=Lib.hid hsel
   have y0:W2.cell? ⟨b3,0,none⟩=some (.slice a1 qa.head.length k1):=(hx3.cells 0).1
   have H4H:=Lib.hid hx4
   have hl9:=(HP.out.a).hd.len
   have hszW:=hE2.size
   clear hx3 hx4 hsel
   go_wp2_with fail
   go_loopw [22,5] (fun i o wr=>∃ k:Nat,k≤qa.head.length∧i=.int .i64 k∧OwnI wr W2.heap.size o ((qa.head.take k).filter (memB qb))∧Below W2.heap.size W2 wr) (fun i _ _=>qa.head.length-(intOf i).toNat)
   case atStart=>exact ⟨0,by omega,rfl,OwnI.nil _ _,Below.refl _ _⟩
   case round=>
    obtain ⟨k,hk,rfl,hown,hbw⟩:=hrel
    have hEr:Below w.heap.size w wr:=Et hE2 hbw
    have hszr:=hbw.size
    by_cases hlt:k<qa.head.length
    ·have hb4:=H4H.out.below hbw
     obtain ⟨⟨a8,c8,he8,_,_,h38⟩,_,hrng⟩:=(HP.out.a.ext hEr).hd
     injection he8 with he1 he2 he3
     subst he1;subst he3
     rcases h38 with h38|⟨b8,f8,rfl,hcell⟩
     ·rw [h38] at hlt;simp at hlt
     have hcl:=hcell k hlt
     have hyb:=(HWA.out.head.2 _ (getD_mem hlt))
     have hsu:=filter_take_succ (memB qb) hlt
     have hkI:(k:Int)<qa.head.length:=by omega
     have hll:=List.length_filter_le (memB qb) (qa.head.take k)
     rw [List.length_take] at hll
     obtain ⟨y,hyy⟩:∃ y,y=qa.head.getD k 0:=⟨_,rfl⟩
     rw [← hyy] at hcl hyb hsu
     obtain ⟨L,hL⟩:∃ L,L=(qa.head.take k).filter (memB qb):=⟨_,rfl⟩
     rw [← hL] at hown hll hsu
     obtain ⟨oa,oc,rfl⟩:=hown.form
     have z0:wr.cell? ⟨b4,0,none⟩=some (.slice a3 qb.head.length k3):=(hb4.cells 0).1
     have z1:wr.cell? ⟨b4,1,none⟩=some (.int .i64 qb.frm):=(hb4.cells 1).1
     have z2:wr.cell? ⟨b4,2,none⟩=some (.int .i64 qb.period):=(hb4.cells 2).1
     have z3:wr.cell? ⟨b4,3,none⟩=some (.slice a4 qb.cycle.length k4):=(hb4.cells 3).1
     have HOWN:=Lib.hid hown
     have HBW:=Lib.hid hbw
     have HSU:=Lib.hid hsu
     clear hown hbw hb4 hsu hyy hL hcell
     cases hm:memB qb y with
     | true=>
      have HM:=Lib.hid hm
      clear hm
      go_wp2_with (first|(go_at_call 86;refine (member_any _ _ qb y _ (HP.out.b.ext hEr) HWB.out (by omega) (by omega) (by omega) (by omega)).mono ?_;rintro e w5 ⟨he,hb5⟩;rw [HM.out] at he;subst he;have hown5:=HOWN.out.ext hb5;have hsz5:=hb5.size)|(at_builtin;refine append_list (by rfl) _ _ (by rfl) W2.heap.size (.slice oa L.length oc) L y (by rfl) (hown5.ext (Ea (Er _) _)) _ _ (by rfl) (by simp) ⟨by omega,by omega⟩ (by omega) (by simp;omega) ?_;intro gg cap w6 hown6 hgrow6 hbel6))
      go_roundw
      case rel=>
       refine ⟨k+1,by omega,by go_num,?_,(((HBW.out).trans (hb5.mono (by omega))).alloc (by omega) _).trans hbel6⟩
       rw [HSU.out,HM.out,if_pos rfl];exact hown6
      case measure=>simp [intOf];omega
     | false=>
      have HM:=Lib.hid hm
      clear hm
      go_wp2_with (go_at_call 86;refine (member_any _ _ qb y _ (HP.out.b.ext hEr) HWB.out (by omega) (by omega) (by omega) (by omega)).mono ?_;rintro e w5 ⟨he,hb5⟩;rw [HM.out] at he;subst he;have hown5:=HOWN.out.ext hb5;have hsz5:=hb5.size)
      go_roundw
      case rel=>
       refine ⟨k+1,by omega,by go_num,?_,(HBW.out).trans (hb5.mono (by omega))⟩
       rw [HSU.out,HM.out,if_neg (by simp),List.append_nil];exact hown5
      case measure=>simp [intOf];omega
    ·obtain rfl:k=qa.head.length:=by omega
     rw [List.take_length,HSEL.out] at hown
     obtain ⟨oa,oc,rfl⟩:=hown.form
     have HOWN:=Lib.hid hown
     clear hown
     go_wp2_with fail
     go_ret
     exact ⟨_,rfl,HOWN.out.mono (by omega),hEr⟩
  ·have hb:(qa.frm != st)=true:=by simp [hcase]
   have w0:W2.cell? ⟨b3,0,none⟩=some (.slice a1 qa.head.length k1):=(hx3.cells 0).1
   have w1:W2.cell? ⟨b3,1,none⟩=some (.int .i64 qa.frm):=(hx3.cells 1).1
   have w2:W2.cell? ⟨b3,2,none⟩=some (.int .i64 qa.period):=(hx3.cells 2).1
   have w3:W2.cell? ⟨b3,3,none⟩=some (.slice a2 qa.cycle.length k2):=(hx3.cells 3).1
   have x0:W2.cell? ⟨b4,0,none⟩=some (.slice a3 qb.head.length k3):=(hx4.cells 0).1
   have x1:W2.cell? ⟨b4,1,none⟩=some (.int .i64 qb.frm):=(hx4.cells 1).1
   have x2:W2.cell? ⟨b4,2,none⟩=some (.int .i64 qb.period):=(hx4.cells 2).1
   have x3:W2.cell? ⟨b4,3,none⟩=some (.slice a4 qb.cycle.length k4):=(hx4.cells 3).1
   have hw:=fun i=>(hx3.cells i).2
   have hx:=fun i=>(hx4.cells i).2
   have HX3:=Lib.hid hx3
   have HX4:=Lib.hid hx4
   have w3f0:=hw 0
   have w3f1:=hw 1
   have w3f2:=hw 2
   have w3f3:=hw 3
   have x3f0:=hx 0
   have x3f1:=hx 1
   have x3f2:=hx 2
   have x3f3:=hx 3
   clear hw hx hx3 hx4 hc31
   go_upto_region 4 with (fail)
   refine wp_abs (F:=fun W3=>Bxx W3 b3 #[.slice a3 qb.head.length k3,.int .i64 qb.frm,.int .i64 qb.period,.slice a4 qb.cycle.length k4] 39∧Bxx W3 b4 #[.slice a1 qa.head.length k1,.int .i64 qa.frm,.int .i64 qa.period,.slice a2 qa.cycle.length k2] 39∧Below w.heap.size w W3)
    ⟨by (repeat' (with_reducible first|exact HX3.out.set4|refine Bxx.setNe ?_ _ (by omega))),by (apply Bxx.set4;repeat' (with_reducible first|exact HX4.out|refine Bxx.setNe ?_ _ (by omega))),xE⟩ ?_
   clear hE2 hbx hc8 w0 w1 w2 w3 x0 x1 x2 x3 w3f0 w3f1 w3f2 w3f3 x3f0 x3f1 x3f2 x3f3
   rintro W3 ⟨hx3,hx4,hE2⟩
   have hfb:qb.frm=st:=by have:=HST.out;omega
   have hsel:qb.head.filter (memB qa)=sel (fun n=>qa.mem n∧qb.mem n) 0 st:=(heads_eq HWB.out hfb).trans (sel_congr (Int.le_refl _) fun n=>And.comm)
   clear hfb
   have HSEL:=Lib.hid hsel
   have y0:W3.cell? ⟨b3,0,none⟩=some (.slice a3 qb.head.length k3):=(hx3.cells 0).1
   have H4H:=Lib.hid hx4
   have hl9:=(HP.out.b).hd.len
   have hszW:=hE2.size
   clear hx3 hx4 hsel
   go_wp2_with fail
   go_loopw [22,5] (fun i o wr=>∃ k:Nat,k≤qb.head.length∧i=.int .i64 k∧OwnI wr W3.heap.size o ((qb.head.take k).filter (memB qa))∧Below W3.heap.size W3 wr) (fun i _ _=>qb.head.length-(intOf i).toNat)
   case atStart=>exact ⟨0,by omega,rfl,OwnI.nil _ _,Below.refl _ _⟩
   case round=>
    obtain ⟨k,hk,rfl,hown,hbw⟩:=hrel
    have hEr:Below w.heap.size w wr:=Et hE2 hbw
    have hszr:=hbw.size
    by_cases hlt:k<qb.head.length
    ·have hb4:=H4H.out.below hbw
     obtain ⟨⟨a8,c8,he8,_,_,h38⟩,_,hrng⟩:=(HP.out.b.ext hEr).hd
     injection he8 with he1 he2 he3
     subst he1;subst he3
     rcases h38 with h38|⟨b8,f8,rfl,hcell⟩
     ·rw [h38] at hlt;simp at hlt
     have hcl:=hcell k hlt
     have hyb:=(HWB.out.head.2 _ (getD_mem hlt))
     have hsu:=filter_take_succ (memB qa) hlt
     have hkI:(k:Int)<qb.head.length:=by omega
     have hll:=List.length_filter_le (memB qa) (qb.head.take k)
     rw [List.length_take] at hll
     obtain ⟨y,hyy⟩:∃ y,y=qb.head.getD k 0:=⟨_,rfl⟩
     rw [← hyy] at hcl hyb hsu
     obtain ⟨L,hL⟩:∃ L,L=(qb.head.take k).filter (memB qa):=⟨_,rfl⟩
     rw [← hL] at hown hll hsu
     obtain ⟨oa,oc,rfl⟩:=hown.form
     have z0:wr.cell? ⟨b4,0,none⟩=some (.slice a1 qa.head.length k1):=(hb4.cells 0).1
     have z1:wr.cell? ⟨b4,1,none⟩=some (.int .i64 qa.frm):=(hb4.cells 1).1
     have z2:wr.cell? ⟨b4,2,none⟩=some (.int .i64 qa.period):=(hb4.cells 2).1
     have z3:wr.cell? ⟨b4,3,none⟩=some (.slice a2 qa.cycle.length k2):=(hb4.cells 3).1
     have HOWN:=Lib.hid hown
     have HBW:=Lib.hid hbw
     have HSU:=Lib.hid hsu
     clear hown hbw hb4 hsu hyy hL hcell
     cases hm:memB qa y with
     | true=>
      have HM:=Lib.hid hm
      clear hm
      go_wp2_with (first|(go_at_call 86;refine (member_any _ _ qa y _ (HP.out.a.ext hEr) HWA.out (by omega) (by omega) (by omega) (by omega)).mono ?_;rintro e w5 ⟨he,hb5⟩;rw [HM.out] at he;subst he;have hown5:=HOWN.out.ext hb5;have hsz5:=hb5.size)|(at_builtin;refine append_list (by rfl) _ _ (by rfl) W3.heap.size (.slice oa L.length oc) L y (by rfl) (hown5.ext (Ea (Er _) _)) _ _ (by rfl) (by simp) ⟨by omega,by omega⟩ (by omega) (by simp;omega) ?_;intro gg cap w6 hown6 hgrow6 hbel6))
      go_roundw
      case rel=>
       refine ⟨k+1,by omega,by go_num,?_,(((HBW.out).trans (hb5.mono (by omega))).alloc (by omega) _).trans hbel6⟩
       rw [HSU.out,HM.out,if_pos rfl];exact hown6
      case measure=>simp [intOf];omega
     | false=>
      have HM:=Lib.hid hm
      clear hm
      go_wp2_with (go_at_call 86;refine (member_any _ _ qa y _ (HP.out.a.ext hEr) HWA.out (by omega) (by omega) (by omega) (by omega)).mono ?_;rintro e w5 ⟨he,hb5⟩;rw [HM.out] at he;subst he;have hown5:=HOWN.out.ext hb5;have hsz5:=hb5.size)
      go_roundw
      case rel=>
       refine ⟨k+1,by omega,by go_num,?_,(HBW.out).trans (hb5.mono (by omega))⟩
       rw [HSU.out,HM.out,if_neg (by simp),List.append_nil];exact hown5
      case measure=>simp [intOf];omega
    ·obtain rfl:k=qb.head.length:=by omega
     rw [List.take_length,HSEL.out] at hown
     obtain ⟨oa,oc,rfl⟩:=hown.form
     have HOWN:=Lib.hid hown
     clear hown
     go_wp2_with fail
     go_ret
     exact ⟨_,rfl,HOWN.out.mono (by omega),hEr⟩
end Go.Proofs.YthjnojbeimchdaaGreat
/- Walks: the closure keep of the method without of a pair (package periodic). -/
namespace Go.Proofs.YthjnojbeimchdaaGreat
open Go.RowKit Go.Maps Kal
def keepL (q:Per) (l:List Int) (n:Int):List Int:=if memB q n=true then l else l ++ [n]
def KeepRes (base:Nat) (lv:Value) (l:List Int) (w:World) (e:Ending) (w':World):Prop:=∃ v,e=.returned v∧OwnI w' base v l∧w.grownBy w' lv.ownBlock
set_option maxRecDepth 100000 in
set_option maxHeartbeats 1000000 in
theorem keep_any (a1 a2 a3 a4:Option Addr) (k1 k2 k3 k4:Nat) (qa qb:Per) (st:Int) (xv yv:Value) (g:Int) (mb pb base:Nat) (lv:Value) (l:List Int) (n:Int) (w:World) (hbx:Bxx w pb #[.slice a1 qa.head.length k1,.int .i64 qa.frm,.int .i64 qa.period,.slice a2 qa.cycle.length k2,.slice a3 qb.head.length k3,.int .i64 qb.frm,.int .i64 qb.period,.slice a4 qb.cycle.length k4,.int .i64 st,xv,yv,.int .i64 g,.map (some mb)] 139)
  (hq:PerIs w (.slice a3 qb.head.length k3) (.slice a4 qb.cycle.length k4) qb) (hwf:qb.WF) (f1:qb.frm≤1125899906842624) (t1:qb.period≤1125899906842624) (h0:0≤n) (h1:n≤9007199254740992)
  (hown:OwnI w base lv l) (hbase:base≤w.heap.size) (hlen:l.length+1≤17592186044416) :
  Calls Tryz.prog 180 #[lv,.int .i64 n,.pointer (some ⟨pb,0,none⟩)] w (KeepRes base lv (keepL qb l n) w):=by
 have c4:w.cell? ⟨pb,4,none⟩=some (.slice a3 qb.head.length k3):=(hbx.cells 4).1
 have c5:w.cell? ⟨pb,5,none⟩=some (.int .i64 qb.frm):=(hbx.cells 5).1
 have c6:w.cell? ⟨pb,6,none⟩=some (.int .i64 qb.period):=(hbx.cells 6).1
 have c7:w.cell? ⟨pb,7,none⟩=some (.slice a4 qb.cycle.length k4):=(hbx.cells 7).1
 obtain ⟨oa,oc,rfl⟩:=hown.form
 have HOWN:=Lib.hid hown
 have HW:=Lib.hid hwf
 clear hown hwf hbx
 cases hm:memB qb n with
 | true=>
  have hk:keepL qb l n=l:=by unfold keepL;rw [if_pos hm]
  rw [hk]
  have HM:=Lib.hid hm
  clear hm hk
  go_enter Tryz.func180,Tryz.ntmps180
  go_wp2_with (go_at_call 86;refine (member_any _ _ qb n _ hq HW.out (by omega) (by omega) (by omega) (by omega)).mono ?_;rintro e w5 ⟨he,hb5⟩;rw [HM.out] at he;subst he)
  go_ret
  exact ⟨_,rfl,HOWN.out.ext hb5,World.grownBy.of_below hb5 _⟩
 | false=>
  have hk:keepL qb l n=l ++ [n]:=by unfold keepL;rw [if_neg (by simp [hm])]
  rw [hk]
  have HM:=Lib.hid hm
  clear hm hk
  go_enter Tryz.func180,Tryz.ntmps180
  go_wp2_with (first|(go_at_call 86;refine (member_any _ _ qb n _ hq HW.out (by omega) (by omega) (by omega) (by omega)).mono ?_;rintro e w5 ⟨he,hb5⟩;rw [HM.out] at he;subst he;have hown5:=HOWN.out.ext hb5;have hsz5:=hb5.size)|(at_builtin;refine append_list (by rfl) _ _ (by rfl) base (.slice oa l.length oc) l n (by rfl) (hown5.ext (Ea (Er _) _)) _ _ (by rfl) (by simp) ⟨by omega,by omega⟩ hlen (by simp;omega) ?_;intro gg cap w6 hown6 hgrow6 hbel6))
  go_ret
  exact ⟨_,rfl,hown6,((World.grownBy.of_below hb5 _).trans (World.grownBy_alloc _ _ _)).trans hgrow6⟩
end Go.Proofs.YthjnojbeimchdaaGreat
/- Walks: the method without of a pair (package periodic). -/
namespace Go.Proofs.YthjnojbeimchdaaGreat
open Go.RowKit Go.Shelf Go.Maps Kal
attribute [local go_sem] Oper.semAt_some
def keepF (q:Per) (l:List Int):List Int:=l.filter fun n=>!memB q n
theorem keepF_le (q:Per) (l:List Int):(keepF q l).length≤l.length:=List.length_filter_le _ _
theorem keepF_snoc (q:Per) (l:List Int) (y:Int):keepF q (l ++ [y])=keepL q (keepF q l) y:=by
 unfold keepF keepL
 rw [List.filter_append]
 cases h:memB q y <;> simp [h]
theorem Bxx.grown {W W1:World} {row:Option Nat} {b:Nat} {c:Array Value} {t:TypeId} (h:Bxx W b c t) (hg:W.grownBy W1 row) (hne:some b≠row):Bxx W1 b c t:=(hg.block b h.lt hne).trans h
theorem keepL_app (q:Per) (A l:List Int) (y:Int):A ++ keepL q l y=keepL q (A ++ l) y:=by
 unfold keepL;split <;> simp
theorem step_lt {x a L:Int} {m R:Nat} (hx0:0≤x) (hx:x<a) (hL:L=R*a) (hm:m≤R):(x+m*a<L↔m<R)∧0≤(m:Int)*a∧(m:Int)*a≤L:=by
 have h1:(m:Int)*a≤(R:Int)*a:=Int.mul_le_mul_of_nonneg_right (by omega) (by omega)
 have h2:0≤(m:Int)*a:=Int.mul_nonneg (by omega) (by omega)
 refine ⟨⟨fun h=>?_,fun h=>?_⟩,h2,by omega⟩
 ·rcases Nat.lt_or_ge m R with h3|h3
  ·exact h3
  ·obtain rfl:m=R:=by omega
   omega
 ·have h3:((m+1:Nat):Int)*a≤(R:Int)*a:=Int.mul_le_mul_of_nonneg_right (by omega) (by omega)
  push_cast at h3
  rw [Int.add_mul] at h3
  omega
def partW (q:Per) (st a x:Int) (m:Nat):List Int:=keepF q ((upto m).map fun j=>st+(x+j*a))
theorem partW_succ (q:Per) (st a x:Int) (m:Nat):partW q st a x (m+1)=keepL q (partW q st a x m) (st+(x+m*a)):=by
 unfold partW
 rw [← keepF_snoc]
 congr 1
 unfold upto
 rw [List.range_succ];simp
theorem partW_le (q:Per) (st a x:Int) (m:Nat):(partW q st a x m).length≤m:=by
 unfold partW
 refine Nat.le_trans (keepF_le _ _) ?_
 simp [upto]
noncomputable def withW (qa qb:Per) (st g:Int) (xs ys:List Int) (R k:Nat):List Int:=
 keepF qb (sel qa.mem 0 st) ++ (xs.take k).flatMap fun x=>if fullB ys g qb.period x=true then [] else partW qb st qa.period x R
theorem withW_succ {qa qb:Per} {st g:Int} {xs ys:List Int} {R k:Nat} (h:k<xs.length):withW qa qb st g xs ys R (k+1)=withW qa qb st g xs ys R k ++ if fullB ys g qb.period (xs.getD k 0)=true then [] else partW qb st qa.period (xs.getD k 0) R:=by
 unfold withW
 rw [List.take_succ_eq_append_getElem h,List.flatMap_append,List.getD_eq_getElem?_getD,List.getElem?_eq_getElem h]
 simp
theorem withW_le {qa qb:Per} {st g:Int} {xs ys:List Int} {R k:Nat} (h0:0≤st) (h:k≤xs.length):((withW qa qb st g xs ys R k).length:Int)≤st+k*R:=by
 induction k with
 | zero=>
  unfold withW
  have h1:=keepF_le qb (sel qa.mem 0 st)
  have h2:=(sel_rise (S:=qa.mem) (lo:=0) (hi:=st) (Int.le_refl _)).length_le h0
  simp;omega
 | succ k ih=>
  have:=ih (by omega)
  rw [withW_succ (by omega),List.length_append]
  have h3:(if fullB ys g qb.period (xs.getD k 0)=true then [] else partW qb st qa.period (xs.getD k 0) R).length≤R:=by
   split
   ·simp
   ·exact partW_le _ _ _ _ _
  push_cast;rw [Int.add_mul];omega
theorem deferred_kept {W W1:World} {base D:Nat} {v:Value} {l:List Int} {x:Option (List Deferred)} (h:W.heap[D]? = some (.deferred x)) (ho:OwnI W base v l) (hg:W.grownBy W1 v.ownBlock):W1.heap[D]? = some (.deferred x):=by
 refine (hg.block D (Array.getElem?_eq_some_iff.1 h).1 fun e=>?_).trans h
 obtain ⟨o,h1,h2⟩:=ho.row_cells D e.symm
 rw [h] at h1;cases h1;cases h2
structure WO (w:World) (pc:Array Value) (base:Nat) (v:Value) (l:List Int) (W:World):Prop where
 below:Below w.heap.size w W
 pbx:Bxx W w.heap.size pc 139
 kbx:Bxx W (w.heap.size+1) #[.func (.func 180) #[] #[.pointer (some ⟨w.heap.size,0,none⟩)]] 166
 obx:Bxx W (w.heap.size+2) #[v] 37
 own:OwnI W base v l
 sz:base≤W.heap.size
 hb:w.heap.size+3≤base
theorem WO.grow {w:World} {pc:Array Value} {base:Nat} {v:Value} {l:List Int} {W W':World} {row:Option Nat} (h:WO w pc base v l W) (hg:W.grownBy W' row)
  (hr:∀ r,row=some r→w.heap.size≤r∧((w.heap.size+3≤r∧r<base)∨∃ o:Obj,W.heap[r]? = some o∧o.isCells=false)):WO w pc base v l W':=by
 have key:∀ {b:Nat} {c:Array Value} {t:TypeId},Bxx W b c t→b<w.heap.size+3→Bxx W' b c t:=fun {b c t} hx hbo=>by
  refine (hg.block b hx.lt fun e=>?_).trans hx
  obtain ⟨_,h1|⟨o,ho,hc⟩⟩:=hr b e.symm
  ·omega
  ·rw [show W.heap[b]? = _ from hx] at ho;cases ho;cases hc
 refine ⟨h.below.grown hg h.below.size (fun k e=>(hr k e).1),key h.pbx (by omega),key h.kbx (by omega),key h.obx (by omega),h.own.kept hg ?_,Nat.le_trans h.sz hg.size,h.hb⟩
 rcases hob:v.ownBlock with _|g
 ·exact .inl rfl
 ·refine .inr fun e=>?_
  have hlt:=h.own.lt g hob
  obtain ⟨o2,h2,h3⟩:=h.own.row_cells g hob
  obtain ⟨_,h1|⟨o,ho,hc⟩⟩:=hr g e.symm
  ·omega
  ·rw [h2] at ho;cases ho;rw [hc] at h3;cases h3
theorem WO.step {w:World} {pc:Array Value} {base:Nat} {v v':Value} {l l':List Int} {W W1:World} (h:WO w pc base v l W) (hg:W.grownBy W1 v.ownBlock) (ho:OwnI W1 base v' l'):WO w pc base v' l' (W1.setCell ⟨w.heap.size+2,0,none⟩ v'):=by
 have hbk:=h.hb
 have key:∀ {b:Nat} {c:Array Value} {t:TypeId},Bxx W b c t→b<w.heap.size+3→Bxx W1 b c t:=fun {b c t} hx hbo=>by
  refine (hg.block b hx.lt fun e=>?_).trans hx
  have:=(h.own.lt b e.symm).1;omega
 have hbel:Below w.heap.size w W1:=h.below.grown hg h.below.size fun k e=>by have:=(h.own.lt k e).1;omega
 refine ⟨hbel.setCell (p:=⟨w.heap.size+2,0,none⟩) (by simp) _,(key h.pbx (by omega)).setNe _ (by omega),(key h.kbx (by omega)).setNe _ (by omega),heap_set_at 0 _ (key h.obx (by omega)),?_,by have:=h.sz;have:=hg.size;simp [World.setCell];omega,hbk⟩
 exact ho.above ((Above.refl _ W1).setCell (by simp;omega) _)
set_option maxRecDepth 100000 in
set_option maxHeartbeats 4000000 in
theorem without_any (h1 c1 h2 c2:Value) (qa qb:Per) (st:Int) (xv yv:Value) (g:Int) (mb:Nat) (L:Int) (w:World) (hP:PairAt w h1 c1 h2 c2 qa qb st xv yv g mb) (hwa:qa.WF) (hwb:qb.WF) (hs1:qa.frm≤st) (hs2:st≤4398046511104) (R:Nat) (hLR:L=R*qa.period) (hL1:L≤1099511627776) (hx:Rise 0 qa.period (isort (cycL qa st))) (hg:1≤g) (hg1:g≤562949953421312)
  (f2:qb.frm≤1125899906842624) (t1:qa.period≤562949953421312) (t2:qb.period≤562949953421312) :
  Calls Tryz.prog 153 #[pairV h1 c1 h2 c2 qa qb st xv yv g mb,.int .i64 L] w (HeadsRes (withW qa qb st g (isort (cycL qa st)) (isort (cycL qb st)) R (isort (cycL qa st)).length) w):=by
 obtain ⟨xa,xc,rfl⟩:∃ a c,xv=.slice a (isort (cycL qa st)).length c:=by obtain ⟨⟨a,c,e,_⟩,_⟩:=hP.x;exact ⟨a,c,e⟩
 obtain ⟨ya,yc,rfl⟩:∃ a c,yv=.slice a (isort (cycL qb st)).length c:=by obtain ⟨⟨a,c,e,_⟩,_⟩:=hP.y;exact ⟨a,c,e⟩
 obtain ⟨a1,k1,a2,k2,rfl,rfl⟩:=hP.a.inn.form
 obtain ⟨a3,k3,a4,k4,rfl,rfl⟩:=hP.b.inn.form
 have HLR:=Lib.hid hLR
 clear hLR
 refine callsIn_wide (n:=0).1 ?_
 refine callsIn_of_wp_marks Tryz.func153 rfl trivial ?_ rfl
 simp only [Tryz.ntmps153,List.size_toArray,List.length_cons,List.length_nil,Nat.reduceAdd,Nat.reduceSub,Array.replicate_succ,Array.replicate_zero,List.push_toArray,List.append_toArray,List.nil_append,List.cons_append]
 gi_wp2_with (refine ⟨trivial,rfl,?_⟩;gi_at_call 84;refine (callsIn_wide.2 (from_any _ _ qa 0 _ ⟨_,_,_,_,_,_,rfl,rfl⟩)).mono ?_;rintro e w' ⟨rfl,rfl⟩)
 generalize hW0:((((w.alloc _).alloc _).alloc _).alloc _).alloc _=W0
 have hE:Below w.heap.size w W0:=by rw [← hW0];exact xE
 have hsz:W0.heap.size=w.heap.size+5:=by rw [← hW0];simp
 have hpb:Bxx W0 w.heap.size #[.slice a1 qa.head.length k1,.int .i64 qa.frm,.int .i64 qa.period,.slice a2 qa.cycle.length k2,.slice a3 qb.head.length k3,.int .i64 qb.frm,.int .i64 qb.period,.slice a4 qb.cycle.length k4,.int .i64 st,.slice xa (isort (cycL qa st)).length xc,.slice ya (isort (cycL qb st)).length yc,.int .i64 g,.map (some mb)] 139:=by rw [← hW0];exact ((((Bxx.at rfl).alloc _).alloc _).alloc _).alloc _
 have hkb:Bxx W0 (w.heap.size+1) #[.func (.func 180) #[] #[.pointer (some ⟨w.heap.size,0,none⟩)]] 166:=by rw [← hW0];exact (((Bxx.at (by simp)).alloc _).alloc _).alloc _
 have hob:Bxx W0 (w.heap.size+2) #[.slice none 0 0] 37:=by rw [← hW0];exact ((Bxx.at (by simp)).alloc _).alloc _
 have hfb:Bxx W0 (w.heap.size+3) #[.slice a1 qa.head.length k1,.int .i64 qa.frm,.int .i64 qa.period,.slice a2 qa.cycle.length k2] 39:=by rw [← hW0];exact (Bxx.at (by simp)).alloc _
 have hlb:Bxx W0 (w.heap.size+4) #[.int .i64 0] 3:=by rw [← hW0];exact Bxx.at (by simp)
 have hz1:W0.heap.size≤w.heap.size+5:=by omega
 have hz2:w.heap.size+5≤W0.heap.size:=by omega
 have hpW:=hP.a.ext hE
 have hin:=hP.a.inn
 have hf0:=hwa.frm
 have hp0:=hwa.per
 have hp1:=hwb.per
 obtain ⟨WL,hWL⟩:∃ WL:Nat→List Int,WL=withW qa qb st g (isort (cycL qa st)) (isort (cycL qb st)) R:=⟨_,rfl⟩
 have hWL0:WL 0=keepF qb (sel qa.mem 0 st):=by rw [hWL];simp [withW]
 have HWLS:Hid (∀ k,k<(isort (cycL qa st)).length→WL (k+1)=WL k ++ if fullB (isort (cycL qb st)) g qb.period ((isort (cycL qa st)).getD k 0)=true then [] else partW qb st qa.period ((isort (cycL qa st)).getD k 0) R):=Lib.hid (by rw [hWL];exact fun k hk=>withW_succ hk)
 have HWLE:Hid (∀ k,k<(isort (cycL qa st)).length→(WL k).length+R≤8796093022208):=Lib.hid (fun k hk=>by
  have h1:=withW_le (qa:=qa) (qb:=qb) (g:=g) (ys:=isort (cycL qb st)) (R:=R) (k:=k) (xs:=isort (cycL qa st)) (show 0≤st by omega) (by omega)
  rw [← hWL] at h1
  have h2:((k+1:Nat):Int)*R≤qa.period*R:=Int.mul_le_mul_of_nonneg_right (by have:=hx.length_le (by omega);omega) (by omega)
  rw [Int.mul_comm qa.period,← HLR.out] at h2
  push_cast at h2
  rw [Int.add_mul] at h2
  omega)
 have hWLe:WL (isort (cycL qa st)).length=withW qa qb st g (isort (cycL qa st)) (isort (cycL qb st)) R (isort (cycL qa st)).length:=by rw [hWL]
 have HWLe:=Lib.hid hWLe
 have HX:=Lib.hid hx
 have HWL0:=Lib.hid hWL0
 clear hWL hWLe hx hWL0
 have hST:WO w #[.slice a1 qa.head.length k1,.int .i64 qa.frm,.int .i64 qa.period,.slice a2 qa.cycle.length k2,.slice a3 qb.head.length k3,.int .i64 qb.frm,.int .i64 qb.period,.slice a4 qb.cycle.length k4,.int .i64 st,.slice xa (isort (cycL qa st)).length xc,.slice ya (isort (cycL qb st)).length yc,.int .i64 g,.map (some mb)] W0.heap.size (.slice none 0 0) (keepF qb []) W0:=⟨hE,hpb,hkb,hob,OwnI.nil _ _,Nat.le_refl _,by omega⟩
 have HST:=Lib.hid hST
 have HP:=Lib.hid hP
 have HWA:=Lib.hid hwa
 have HWB:=Lib.hid hwb
 clear hW0 hsz hST hpb hkb hob hP hwb
 have garr:∀ (v:Value) (l:List Int),IntsIn w 0 w.heap.size v l→l≠[]→∀ b o n c',v=.slice (some ⟨b,o,none⟩) n c'→b<w.heap.size:=fun v l hi hl b o n c' he=>(hi.blk hl b (by rw [he];rfl)).2
 simp only [Nat.add_assoc,Nat.reduceAdd]
 refine wpIn_rangeX (x:=some (w.heap.size+4)) (gf:=127) (lb:=#[.pointer (some ⟨w.heap.size+3,0,none⟩),.pointer (some ⟨w.heap.size+4,0,none⟩)]) rfl (enters_of Tryz.func127 (by kernel_rfl) rfl)
  (from_seq (.slice a1 qa.head.length k1) (.slice a2 qa.cycle.length k2) qa 0 (w.heap.size+3) (w.heap.size+4) W0 (fun k=>k<w.heap.size∨k=w.heap.size+3∨k=w.heap.size+4) hpW hwa (by omega) (by omega) (by omega) (by omega) hfb hlb (.inr (.inl rfl)) (.inr (.inr rfl))
   (fun hl b o n c' he=>.inl (garr _ _ hin.hd hl b o n c' he)) (fun hl b o n c' he=>⟨.inl (garr _ _ hin.cy hl b o n c' he),by have:=garr _ _ hin.cy hl b o n c' he;omega⟩) (by omega))
  (fun h k=>h.trans k) (KpB.putObj (by intro k hk;omega)) (fun y=>rfl)
  (fun pre W'=>(∀ x∈pre,x<st)∧∃ v,WO w #[.slice a1 qa.head.length k1,.int .i64 qa.frm,.int .i64 qa.period,.slice a2 qa.cycle.length k2,.slice a3 qb.head.length k3,.int .i64 qb.frm,.int .i64 qb.period,.slice a4 qb.cycle.length k4,.int .i64 st,.slice xa (isort (cycL qa st)).length xc,.slice ya (isort (cycL qb st)).length yc,.int .i64 g,.map (some mb)] W0.heap.size v (keepF qb pre) W')
  (fun c' _ W'=>c'=.exit 0∧∃ v,WO w #[.slice a1 qa.head.length k1,.int .i64 qa.frm,.int .i64 qa.period,.slice a2 qa.cycle.length k2,.slice a3 qb.head.length k3,.int .i64 qb.frm,.int .i64 qb.period,.slice a4 qb.cycle.length k4,.int .i64 st,.slice xa (isort (cycL qa st)).length xc,.slice ya (isort (cycL qb st)).length yc,.int .i64 g,.map (some mb)] W0.heap.size v (keepF qb (sel qa.mem 0 st)) W')
  (fun pre A C row hI hg hr=>⟨hI.1,hI.2.choose,hI.2.choose_spec.grow hg fun r e=>by
   rcases hr r e with ⟨h,_⟩|⟨h,h'⟩
   ·injection h with h;exact ⟨by omega,.inl ⟨by omega,by omega⟩⟩
   ·exact ⟨by omega,.inr h'⟩⟩)
  (fun c' pre A C row hI hg hr=>⟨hI.1,hI.2.choose,hI.2.choose_spec.grow hg fun r e=>by
   rcases hr r e with ⟨h,_⟩|⟨h,h'⟩
   ·injection h with h;exact ⟨by omega,.inl ⟨by omega,by omega⟩⟩
   ·exact ⟨by omega,.inr h'⟩⟩)
  (fun pre W' hI x hx=>by have:=hI.1 x hx;omega) ⟨by simp,_,HST.out⟩
  (fun y=>⟨#[pairV (.slice a1 qa.head.length k1) (.slice a2 qa.cycle.length k2) (.slice a3 qb.head.length k3) (.slice a4 qb.cycle.length k4) qa qb st (.slice xa (isort (cycL qa st)).length xc) (.slice ya (isort (cycL qb st)).length yc) g mb,.int .i64 L,.pointer (some ⟨w.heap.size,0,none⟩),undef,.slice none 0 0,.pointer (some ⟨w.heap.size+1,0,none⟩),.pointer (some ⟨w.heap.size+2,0,none⟩),(.int .i64 y),undef,undef,undef,.func (Fn.func 180) #[] #[.pointer (some ⟨w.heap.size,0,none⟩)],.pointer (some ⟨w.heap.size,0,none⟩),.agg #[.slice a1 qa.head.length k1,.int .i64 qa.frm,.int .i64 qa.period,.slice a2 qa.cycle.length k2],.func (.func 127) #[] #[.pointer (some ⟨w.heap.size+3,0,none⟩),.pointer (some ⟨w.heap.size+4,0,none⟩)],(.int .i64 y),undef,undef,undef,undef,undef,undef,undef,undef,undef,undef,undef,undef,undef,undef,undef,undef,undef,undef,undef,undef,undef,undef,undef,undef,undef,undef,undef,undef,undef,undef,undef,undef,undef,undef,undef,undef],[]⟩) ?assign ?body ?done ?stop
 case assign=>
  intro l y W' K hK
  gi_wp2
  exact hK
 case body=>
  rintro l pre y W' ⟨hlt,v,hWO⟩ hen
  obtain ⟨hy1,hy2,hy3,hy4⟩:=EnS.last (Int.le_refl 0) hen
  obtain ⟨va,vc,rfl⟩:=hWO.own.form
  have p8:W'.cell? ⟨w.heap.size,8,none⟩=some (.int .i64 st):=(hWO.pbx.cells 8).1
  have q1:W'.cell? ⟨w.heap.size+1,0,none⟩=some (.func (.func 180) #[] #[.pointer (some ⟨w.heap.size,0,none⟩)]):=(hWO.kbx.cells 0).1
  have q2:W'.cell? ⟨w.heap.size+2,0,none⟩=some (.slice va (keepF qb pre).length vc):=(hWO.obx.cells 0).1
  have q3:W'.frozen? ⟨w.heap.size+2,0,none⟩=false:=(hWO.obx.cells 0).2
  have hown:=hWO.own
  have hsz:=hWO.sz
  have HWO:=Lib.hid hWO
  have H3:=Lib.hid hy3
  have H4:=Lib.hid hy4
  have hb8:=hWO.below.size
  have hplen:pre.length≤4398046511104:=by
   have h9:=sel_rise (S:=qa.mem) (lo:=0) (hi:=y) (Int.le_refl _)
   rw [← H3.out] at h9
   have:=(show Rise 0 st pre from ⟨h9.1,fun x hx=>⟨(h9.2 x hx).1,hlt x hx⟩⟩).length_le (by omega)
   omega
  clear hy3 hy4 hWO hen
  by_cases hc:y<st
  ·have hkl:=keepF_le qb pre
   have hks:=keepF_snoc qb pre y
   obtain ⟨KL,hKL⟩:∃ KL,KL=keepL qb (keepF qb pre) y:=⟨_,rfl⟩
   rw [← hKL] at hks
   obtain ⟨K,hK⟩:∃ K,K=keepF qb pre:=⟨_,rfl⟩
   rw [← hK] at hKL
   have HKL:=Lib.hid hKL
   have hobx:=HWO.out.obx
   rw [← hK] at hobx
   have HOBX:=Lib.hid hobx
   rw [← hK] at hkl hown q2
   have HKS:=Lib.hid hks
   have HK:=Lib.hid hK
   have HOWN:=Lib.hid hown
   clear hks hK hown hKL hobx
   gi_wp2_with (refine ⟨trivial,rfl,?_⟩;gi_at_call 180;refine (CallsIn.inRound l (callsIn_wide.2 (keep_any a1 a2 a3 a4 k1 k2 k3 k4 qa qb st _ _ g mb w.heap.size W0.heap.size (.slice va K.length vc) K y _ HWO.out.pbx (HP.out.b.ext HWO.out.below) HWB.out f2 (by omega) (by omega) (by omega) HOWN.out (by omega) (by omega)))).mono ?_;rintro e w5 ⟨v5,rfl,hown5,hg5⟩;rw [← HKL.out] at hown5;obtain ⟨v5a,v5c,rfl⟩:=hown5.form;have hob5:=HOBX.out.grown hg5 (fun e=>by have h77:=HOWN.out.lt _ e.symm;omega);have r1:=(hob5.cells 0).1;have r2:=(hob5.cells 0).2)
   have hsz5:=hg5.size
   refine ⟨(KeepsOthers.trans (KeepsOthers.grown_cells (KeepsOthers.refl W') hg5 (OwnI.row_cells HOWN.out)) (KeepsOthers.setCell w5 ⟨w.heap.size+2,0,none⟩ (.slice v5a KL.length v5c))).from _,fun k hk=>?_,fun x hx=>?_,.slice v5a KL.length v5c,?_⟩
   ·rw [heap_set_ne (by omega),hg5.block k (by omega) (fun e=>by have:=HOWN.out.lt k e.symm;omega)]
   ·rcases List.mem_append.1 hx with hx|hx
    ·exact hlt x hx
    ·obtain rfl:x=y:=by simpa using hx
     exact hc
   ·rw [HKS.out]
    exact WO.step (by have:=HWO.out;rw [← HK.out] at this;exact this) hg5 hown5
  ·have hge:st≤y:=by omega
   gi_wp2
   refine ⟨KeepsFrom.refl _ _,rfl,.slice va (keepF qb pre).length vc,?_⟩
   have e:pre=sel qa.mem 0 st:=by
    rw [H3.out]
    exact sel_below (Int.le_refl 0) (fun x hx=>hlt x (by rw [H3.out];exact hx)) (fun x _ _ hx=>by omega)
   rw [← e];exact HWO.out
 case done=>
  rintro D xs W' hD ⟨n,hn,rfl⟩ ⟨hlt,v,hWO⟩ hdef
  have e:=sel_below (Int.le_refl 0) hlt (fun x hx _ _=>hn x hx)
  rw [e] at hWO
  clear e hlt
  obtain ⟨va,vc,rfl⟩:=hWO.own.form
  have p9:W'.cell? ⟨w.heap.size,9,none⟩=some (.slice xa (isort (cycL qa st)).length xc):=(hWO.pbx.cells 9).1
  rw [← HWL0.out] at hWO
  have HWO:=Lib.hid hWO
  have HDEF:=Lib.hid hdef
  clear hWO hdef
  gi_wp2_with fail
  refine wpIn_wide.2 ?_
  go_loopw [27] (fun i wr=>∃ k:Nat,k≤(isort (cycL qa st)).length∧i=.int .i64 k∧(∃ v,WO w #[.slice a1 qa.head.length k1,.int .i64 qa.frm,.int .i64 qa.period,.slice a2 qa.cycle.length k2,.slice a3 qb.head.length k3,.int .i64 qb.frm,.int .i64 qb.period,.slice a4 qb.cycle.length k4,.int .i64 st,.slice xa (isort (cycL qa st)).length xc,.slice ya (isort (cycL qb st)).length yc,.int .i64 g,.map (some mb)] W0.heap.size v (WL k) wr)∧wr.heap[D]? = some (.deferred (some []))) (fun i _=>(isort (cycL qa st)).length-(intOf i).toNat)
  case atStart=>exact ⟨0,by omega,rfl,⟨_,HWO.out⟩,HDEF.out⟩
  case round=>
   obtain ⟨k,hk,rfl,⟨v,hWO⟩,hdef⟩:=hrel
   by_cases hlt:k<(isort (cycL qa st)).length
   ·obtain ⟨⟨a8,c8,he8,_,_,h38⟩,_,_⟩:=(HP.out.ext hWO.below).x
    injection he8 with he1 he2 he3
    subst he1;subst he3
    rcases h38 with h38|⟨b8,f8,rfl,hcell⟩
    ·rw [h38] at hlt;simp at hlt
    have hcl:=hcell k hlt
    have hxb:=HX.out.2 _ (getD_mem hlt)
    have hsu:=HWLS.out k hlt
    have hle:=HWLE.out k (by omega)
    have hkI:(k:Int)<(isort (cycL qa st)).length:=by omega
    obtain ⟨x,hxx⟩:∃ x,x=(isort (cycL qa st)).getD k 0:=⟨_,rfl⟩
    rw [← hxx] at hcl hxb hsu
    have p0:wr.cell? ⟨w.heap.size,0,none⟩=some (.slice a1 qa.head.length k1):=(hWO.pbx.cells 0).1
    have p1:wr.cell? ⟨w.heap.size,1,none⟩=some (.int .i64 qa.frm):=(hWO.pbx.cells 1).1
    have p2:wr.cell? ⟨w.heap.size,2,none⟩=some (.int .i64 qa.period):=(hWO.pbx.cells 2).1
    have p3:wr.cell? ⟨w.heap.size,3,none⟩=some (.slice a2 qa.cycle.length k2):=(hWO.pbx.cells 3).1
    have p4:wr.cell? ⟨w.heap.size,4,none⟩=some (.slice a3 qb.head.length k3):=(hWO.pbx.cells 4).1
    have p5:wr.cell? ⟨w.heap.size,5,none⟩=some (.int .i64 qb.frm):=(hWO.pbx.cells 5).1
    have p6:wr.cell? ⟨w.heap.size,6,none⟩=some (.int .i64 qb.period):=(hWO.pbx.cells 6).1
    have p7:wr.cell? ⟨w.heap.size,7,none⟩=some (.slice a4 qb.cycle.length k4):=(hWO.pbx.cells 7).1
    have p8:wr.cell? ⟨w.heap.size,8,none⟩=some (.int .i64 st):=(hWO.pbx.cells 8).1
    have p9:wr.cell? ⟨w.heap.size,9,none⟩=some (.slice (some ⟨b8,f8,none⟩) (isort (cycL qa st)).length xc):=(hWO.pbx.cells 9).1
    have p10:wr.cell? ⟨w.heap.size,10,none⟩=some (.slice ya (isort (cycL qb st)).length yc):=(hWO.pbx.cells 10).1
    have p11:wr.cell? ⟨w.heap.size,11,none⟩=some (.int .i64 g):=(hWO.pbx.cells 11).1
    have p12:wr.cell? ⟨w.heap.size,12,none⟩=some (.map (some mb)):=(hWO.pbx.cells 12).1
    have HWOr:=Lib.hid hWO
    have HDEFr:=Lib.hid hdef
    have HSU:=Lib.hid hsu
    have HLE:=Lib.hid hle
    have hxb0:=hxb.1
    have hxb1:=hxb.2
    have hsz1:=hWO.below.size
    have hsz2:=hWO.sz
    have hP9:=HP.out.ext hWO.below
    have HP9:=Lib.hid hP9
    clear hsu hle hWO hdef hxx hcell hxb hP9
    cases hfull:fullB (isort (cycL qb st)) g qb.period x with
    | true=>
     have HF:=Lib.hid hfull
     clear hfull
     go_wp2_with (go_at_call 181;refine (full_any _ _ _ _ qa qb st _ _ g mb x _ HP9.out hg hg1 (by omega) (by omega) (by omega) (by omega)).mono ?_;rintro e w5 ⟨he,hb5⟩;rw [HF.out] at he;subst he)
     go_roundw
     case rel=>
      refine ⟨k+1,by omega,by go_num,⟨v,?_⟩,(hb5.block D (Array.getElem?_eq_some_iff.1 HDEFr.out).1).trans HDEFr.out⟩
      rw [HSU.out,HF.out,if_pos rfl,List.append_nil]
      exact HWOr.out.grow (World.grownBy.of_below hb5 none) (fun r e=>by cases e)
     case measure=>simp [intOf];omega
    | false=>
     have HF:=Lib.hid hfull
     clear hfull
     go_wp2_with (go_at_call 181;refine (full_any _ _ _ _ qa qb st _ _ g mb x _ HP9.out hg hg1 (by omega) (by omega) (by omega) (by omega)).mono ?_;rintro e w5 ⟨he,hb5⟩;rw [HF.out] at he;subst he)
     have HWO5:Hid (WO w #[.slice a1 qa.head.length k1,.int .i64 qa.frm,.int .i64 qa.period,.slice a2 qa.cycle.length k2,.slice a3 qb.head.length k3,.int .i64 qb.frm,.int .i64 qb.period,.slice a4 qb.cycle.length k4,.int .i64 st,.slice (some ⟨b8,f8,none⟩) (isort (cycL qa st)).length xc,.slice ya (isort (cycL qb st)).length yc,.int .i64 g,.map (some mb)] W0.heap.size v (WL k) w5):=Lib.hid (HWOr.out.grow (World.grownBy.of_below hb5 none) (fun r e=>by cases e))
     have HDEF5:Hid (w5.heap[D]? = some (.deferred (some []))):=Lib.hid ((hb5.block D (Array.getElem?_eq_some_iff.1 HDEFr.out).1).trans HDEFr.out)
     clear hb5
     go_loopw [10] (fun i wr=>∃ (m:Nat) (n:Int),m≤R∧i=.int .i64 n∧Hid (n=x+m*qa.period)∧(∃ v,WO w #[.slice a1 qa.head.length k1,.int .i64 qa.frm,.int .i64 qa.period,.slice a2 qa.cycle.length k2,.slice a3 qb.head.length k3,.int .i64 qb.frm,.int .i64 qb.period,.slice a4 qb.cycle.length k4,.int .i64 st,.slice (some ⟨b8,f8,none⟩) (isort (cycL qa st)).length xc,.slice ya (isort (cycL qb st)).length yc,.int .i64 g,.map (some mb)] W0.heap.size v (WL k ++ partW qb st qa.period x m) wr)∧wr.heap[D]? = some (.deferred (some []))) (fun i _=>(L-intOf i).toNat)
     case atStart=>exact ⟨0,x,by omega,rfl,Lib.hid (by simp),⟨v,by simpa [partW,upto,keepF] using HWO5.out⟩,HDEF5.out⟩
     case round=>
      obtain ⟨m,n,hm,rfl,hn,⟨v9,hWO⟩,hdef⟩:=hrel
      obtain ⟨g1,g2,g3⟩:=step_lt hxb0 hxb1 HLR.out hm
      rw [← hn.out] at g1
      have hn0:0≤n:=by rw [hn.out];omega
      have hn1:n≤L+qa.period:=by rw [hn.out];omega
      clear g2 g3
      by_cases hlm:m<R
      ·have hnL:n<L:=g1.2 hlm
       have hps:=partW_succ qb st qa.period x m
       rw [← hn.out] at hps
       have hpl:=partW_le qb st qa.period x m
       have hlen:(WL k ++ partW qb st qa.period x m).length+1≤17592186044416:=by rw [List.length_append];have:=HLE.out;omega
       have hap:=keepL_app qb (WL k) (partW qb st qa.period x m) (st+n)
       rw [← hps] at hap
       obtain ⟨K,hK⟩:∃ K,K=WL k ++ partW qb st qa.period x m:=⟨_,rfl⟩
       rw [← hK] at hlen hap hWO
       obtain ⟨KL,hKL⟩:∃ KL,KL=keepL qb K (st+n):=⟨_,rfl⟩
       rw [← hKL] at hap
       have HKL:=Lib.hid hKL
       have HAP:=Lib.hid hap
       have hown:=hWO.own
       have hobx:=hWO.obx
       obtain ⟨va9,vc9,rfl⟩:=hown.form
       have q1:wr.cell? ⟨w.heap.size+1,0,none⟩=some (.func (.func 180) #[] #[.pointer (some ⟨w.heap.size,0,none⟩)]):=(hWO.kbx.cells 0).1
       have q2:wr.cell? ⟨w.heap.size+2,0,none⟩=some (.slice va9 K.length vc9):=(hobx.cells 0).1
       have q3:wr.frozen? ⟨w.heap.size+2,0,none⟩=false:=(hobx.cells 0).2
       have q8:wr.cell? ⟨w.heap.size,8,none⟩=some (.int .i64 st):=(hWO.pbx.cells 8).1
       have qp:wr.cell? ⟨w.heap.size,2,none⟩=some (.int .i64 qa.period):=(hWO.pbx.cells 2).1
       have hszr:=hWO.sz
       have hszw:=hWO.below.size
       have HWO9:=Lib.hid hWO
       have HOWN:=Lib.hid hown
       have HOBX:=Lib.hid hobx
       have HDEF9:=Lib.hid hdef
       clear hWO hown hobx hdef hps hap hK hKL g1
       go_wp2_with (go_at_call 180;refine (keep_any a1 a2 a3 a4 k1 k2 k3 k4 qa qb st _ _ g mb w.heap.size W0.heap.size (.slice va9 K.length vc9) K (st+n) _ HWO9.out.pbx (HP.out.b.ext HWO9.out.below) HWB.out f2 (by omega) (by omega) (by omega) HOWN.out (by omega) (by omega)).mono ?_;rintro e w6 ⟨v6,rfl,hown6,hg6⟩;rw [← HKL.out] at hown6;obtain ⟨v6a,v6c,rfl⟩:=hown6.form;have hob6:=HOBX.out.grown hg6 (fun e=>by have h77:=HOWN.out.lt _ e.symm;omega);have r1:=(hob6.cells 0).1;have r2:=(hob6.cells 0).2;have r5:w6.cell? ⟨w.heap.size,2,none⟩=some (.int .i64 qa.period):=((HWO9.out.pbx.grown hg6 (fun e=>by have h77:=HOWN.out.lt _ e.symm;omega)).cells 2).1)
       go_roundw
       case rel=>
        refine ⟨m+1,n+qa.period,by omega,by go_num,Lib.hid (by rw [hn.out];push_cast;rw [Int.add_mul];omega),⟨.slice v6a KL.length v6c,?_⟩,?_⟩
        ·rw [HAP.out];exact HWO9.out.step hg6 hown6
        ·exact (Below.heap_setCell _ _ _ _ (by have:=(Array.getElem?_eq_some_iff.1 HDEF9.out).1;simp;omega)).trans (deferred_kept HDEF9.out HOWN.out hg6)
       case measure=>simp [intOf];omega
      ·have hnL:¬ n<L:=fun h=>hlm (g1.1 h)
       obtain rfl:m=R:=by omega
       have HWO9:=Lib.hid hWO
       have HDEF9:=Lib.hid hdef
       clear hWO hdef g1
       go_wp2_with fail
       go_roundw
       case rel=>
        refine ⟨k+1,by omega,by go_num,⟨v9,?_⟩,HDEF9.out⟩
        rw [HSU.out,HF.out,if_neg (by simp)]
        exact HWO9.out
       case measure=>simp [intOf];omega
   ·obtain rfl:k=(isort (cycL qa st)).length:=by omega
    obtain ⟨va9,vc9,rfl⟩:=hWO.own.form
    have q2:wr.cell? ⟨w.heap.size+2,0,none⟩=some (.slice va9 (WL (isort (cycL qa st)).length).length vc9):=(hWO.obx.cells 0).1
    have HWO9:=Lib.hid hWO
    have HDEF9:=Lib.hid hdef
    have hsz9:=hWO.sz
    have hsw9:=hWO.hb
    clear hWO hdef
    go_wp2_with fail
    gi_wp2_with fail
    have hM:MarksX w.heap.size [{ target:=.collected D,args:=#[] }] wr:=marks_one (by omega) HDEF9.out
    refine leaves_marks (B:=w.heap.size) _ _ hM fun w' hs=>⟨.slice va9 (WL (isort (cycL qa st)).length).length vc9,by simp [results,Tryz.results153,go_sem],.slice va9 (WL (isort (cycL qa st)).length).length vc9,rfl,?_,HWO9.out.below.trans hs.below⟩
    have h9:=(HWO9.out.own.shut hs).mono (base':=w.heap.size) (by omega)
    first|exact h9|(rw [← HWLe.out];exact h9)
 case stop=>
  rintro D c' pre W' hD _ ⟨rfl,v,hWO⟩ hdef
  refine wpIn_exit ?_
  conv=>whnf
  apply_assumption
  obtain ⟨va,vc,rfl⟩:=hWO.own.form
  have p9:W'.cell? ⟨w.heap.size,9,none⟩=some (.slice xa (isort (cycL qa st)).length xc):=(hWO.pbx.cells 9).1
  rw [← HWL0.out] at hWO
  have HWO:=Lib.hid hWO
  have HDEF:=Lib.hid hdef
  clear hWO hdef
  gi_wp2_with fail
  refine wpIn_wide.2 ?_
  go_loopw [27] (fun i wr=>∃ k:Nat,k≤(isort (cycL qa st)).length∧i=.int .i64 k∧(∃ v,WO w #[.slice a1 qa.head.length k1,.int .i64 qa.frm,.int .i64 qa.period,.slice a2 qa.cycle.length k2,.slice a3 qb.head.length k3,.int .i64 qb.frm,.int .i64 qb.period,.slice a4 qb.cycle.length k4,.int .i64 st,.slice xa (isort (cycL qa st)).length xc,.slice ya (isort (cycL qb st)).length yc,.int .i64 g,.map (some mb)] W0.heap.size v (WL k) wr)∧wr.heap[D]? = some (.deferred (some []))) (fun i _=>(isort (cycL qa st)).length-(intOf i).toNat)
  case atStart=>exact ⟨0,by omega,rfl,⟨_,HWO.out⟩,HDEF.out⟩
  case round=>
   obtain ⟨k,hk,rfl,⟨v,hWO⟩,hdef⟩:=hrel
   by_cases hlt:k<(isort (cycL qa st)).length
   ·obtain ⟨⟨a8,c8,he8,_,_,h38⟩,_,_⟩:=(HP.out.ext hWO.below).x
    injection he8 with he1 he2 he3
    subst he1;subst he3
    rcases h38 with h38|⟨b8,f8,rfl,hcell⟩
    ·rw [h38] at hlt;simp at hlt
    have hcl:=hcell k hlt
    have hxb:=HX.out.2 _ (getD_mem hlt)
    have hsu:=HWLS.out k hlt
    have hle:=HWLE.out k (by omega)
    have hkI:(k:Int)<(isort (cycL qa st)).length:=by omega
    obtain ⟨x,hxx⟩:∃ x,x=(isort (cycL qa st)).getD k 0:=⟨_,rfl⟩
    rw [← hxx] at hcl hxb hsu
    have p0:wr.cell? ⟨w.heap.size,0,none⟩=some (.slice a1 qa.head.length k1):=(hWO.pbx.cells 0).1
    have p1:wr.cell? ⟨w.heap.size,1,none⟩=some (.int .i64 qa.frm):=(hWO.pbx.cells 1).1
    have p2:wr.cell? ⟨w.heap.size,2,none⟩=some (.int .i64 qa.period):=(hWO.pbx.cells 2).1
    have p3:wr.cell? ⟨w.heap.size,3,none⟩=some (.slice a2 qa.cycle.length k2):=(hWO.pbx.cells 3).1
    have p4:wr.cell? ⟨w.heap.size,4,none⟩=some (.slice a3 qb.head.length k3):=(hWO.pbx.cells 4).1
    have p5:wr.cell? ⟨w.heap.size,5,none⟩=some (.int .i64 qb.frm):=(hWO.pbx.cells 5).1
    have p6:wr.cell? ⟨w.heap.size,6,none⟩=some (.int .i64 qb.period):=(hWO.pbx.cells 6).1
    have p7:wr.cell? ⟨w.heap.size,7,none⟩=some (.slice a4 qb.cycle.length k4):=(hWO.pbx.cells 7).1
    have p8:wr.cell? ⟨w.heap.size,8,none⟩=some (.int .i64 st):=(hWO.pbx.cells 8).1
    have p9:wr.cell? ⟨w.heap.size,9,none⟩=some (.slice (some ⟨b8,f8,none⟩) (isort (cycL qa st)).length xc):=(hWO.pbx.cells 9).1
    have p10:wr.cell? ⟨w.heap.size,10,none⟩=some (.slice ya (isort (cycL qb st)).length yc):=(hWO.pbx.cells 10).1
    have p11:wr.cell? ⟨w.heap.size,11,none⟩=some (.int .i64 g):=(hWO.pbx.cells 11).1
    have p12:wr.cell? ⟨w.heap.size,12,none⟩=some (.map (some mb)):=(hWO.pbx.cells 12).1
    have HWOr:=Lib.hid hWO
    have HDEFr:=Lib.hid hdef
    have HSU:=Lib.hid hsu
    have HLE:=Lib.hid hle
    have hxb0:=hxb.1
    have hxb1:=hxb.2
    have hsz1:=hWO.below.size
    have hsz2:=hWO.sz
    have hP9:=HP.out.ext hWO.below
    have HP9:=Lib.hid hP9
    clear hsu hle hWO hdef hxx hcell hxb hP9
    cases hfull:fullB (isort (cycL qb st)) g qb.period x with
    | true=>
     have HF:=Lib.hid hfull
     clear hfull
     go_wp2_with (go_at_call 181;refine (full_any _ _ _ _ qa qb st _ _ g mb x _ HP9.out hg hg1 (by omega) (by omega) (by omega) (by omega)).mono ?_;rintro e w5 ⟨he,hb5⟩;rw [HF.out] at he;subst he)
     go_roundw
     case rel=>
      refine ⟨k+1,by omega,by go_num,⟨v,?_⟩,(hb5.block D (Array.getElem?_eq_some_iff.1 HDEFr.out).1).trans HDEFr.out⟩
      rw [HSU.out,HF.out,if_pos rfl,List.append_nil]
      exact HWOr.out.grow (World.grownBy.of_below hb5 none) (fun r e=>by cases e)
     case measure=>simp [intOf];omega
    | false=>
     have HF:=Lib.hid hfull
     clear hfull
     go_wp2_with (go_at_call 181;refine (full_any _ _ _ _ qa qb st _ _ g mb x _ HP9.out hg hg1 (by omega) (by omega) (by omega) (by omega)).mono ?_;rintro e w5 ⟨he,hb5⟩;rw [HF.out] at he;subst he)
     have HWO5:Hid (WO w #[.slice a1 qa.head.length k1,.int .i64 qa.frm,.int .i64 qa.period,.slice a2 qa.cycle.length k2,.slice a3 qb.head.length k3,.int .i64 qb.frm,.int .i64 qb.period,.slice a4 qb.cycle.length k4,.int .i64 st,.slice (some ⟨b8,f8,none⟩) (isort (cycL qa st)).length xc,.slice ya (isort (cycL qb st)).length yc,.int .i64 g,.map (some mb)] W0.heap.size v (WL k) w5):=Lib.hid (HWOr.out.grow (World.grownBy.of_below hb5 none) (fun r e=>by cases e))
     have HDEF5:Hid (w5.heap[D]? = some (.deferred (some []))):=Lib.hid ((hb5.block D (Array.getElem?_eq_some_iff.1 HDEFr.out).1).trans HDEFr.out)
     clear hb5
     go_loopw [10] (fun i wr=>∃ (m:Nat) (n:Int),m≤R∧i=.int .i64 n∧Hid (n=x+m*qa.period)∧(∃ v,WO w #[.slice a1 qa.head.length k1,.int .i64 qa.frm,.int .i64 qa.period,.slice a2 qa.cycle.length k2,.slice a3 qb.head.length k3,.int .i64 qb.frm,.int .i64 qb.period,.slice a4 qb.cycle.length k4,.int .i64 st,.slice (some ⟨b8,f8,none⟩) (isort (cycL qa st)).length xc,.slice ya (isort (cycL qb st)).length yc,.int .i64 g,.map (some mb)] W0.heap.size v (WL k ++ partW qb st qa.period x m) wr)∧wr.heap[D]? = some (.deferred (some []))) (fun i _=>(L-intOf i).toNat)
     case atStart=>exact ⟨0,x,by omega,rfl,Lib.hid (by simp),⟨v,by simpa [partW,upto,keepF] using HWO5.out⟩,HDEF5.out⟩
     case round=>
      obtain ⟨m,n,hm,rfl,hn,⟨v9,hWO⟩,hdef⟩:=hrel
      obtain ⟨g1,g2,g3⟩:=step_lt hxb0 hxb1 HLR.out hm
      rw [← hn.out] at g1
      have hn0:0≤n:=by rw [hn.out];omega
      have hn1:n≤L+qa.period:=by rw [hn.out];omega
      clear g2 g3
      by_cases hlm:m<R
      ·have hnL:n<L:=g1.2 hlm
       have hps:=partW_succ qb st qa.period x m
       rw [← hn.out] at hps
       have hpl:=partW_le qb st qa.period x m
       have hlen:(WL k ++ partW qb st qa.period x m).length+1≤17592186044416:=by rw [List.length_append];have:=HLE.out;omega
       have hap:=keepL_app qb (WL k) (partW qb st qa.period x m) (st+n)
       rw [← hps] at hap
       obtain ⟨K,hK⟩:∃ K,K=WL k ++ partW qb st qa.period x m:=⟨_,rfl⟩
       rw [← hK] at hlen hap hWO
       obtain ⟨KL,hKL⟩:∃ KL,KL=keepL qb K (st+n):=⟨_,rfl⟩
       rw [← hKL] at hap
       have HKL:=Lib.hid hKL
       have HAP:=Lib.hid hap
       have hown:=hWO.own
       have hobx:=hWO.obx
       obtain ⟨va9,vc9,rfl⟩:=hown.form
       have q1:wr.cell? ⟨w.heap.size+1,0,none⟩=some (.func (.func 180) #[] #[.pointer (some ⟨w.heap.size,0,none⟩)]):=(hWO.kbx.cells 0).1
       have q2:wr.cell? ⟨w.heap.size+2,0,none⟩=some (.slice va9 K.length vc9):=(hobx.cells 0).1
       have q3:wr.frozen? ⟨w.heap.size+2,0,none⟩=false:=(hobx.cells 0).2
       have q8:wr.cell? ⟨w.heap.size,8,none⟩=some (.int .i64 st):=(hWO.pbx.cells 8).1
       have qp:wr.cell? ⟨w.heap.size,2,none⟩=some (.int .i64 qa.period):=(hWO.pbx.cells 2).1
       have hszr:=hWO.sz
       have hszw:=hWO.below.size
       have HWO9:=Lib.hid hWO
       have HOWN:=Lib.hid hown
       have HOBX:=Lib.hid hobx
       have HDEF9:=Lib.hid hdef
       clear hWO hown hobx hdef hps hap hK hKL g1
       go_wp2_with (go_at_call 180;refine (keep_any a1 a2 a3 a4 k1 k2 k3 k4 qa qb st _ _ g mb w.heap.size W0.heap.size (.slice va9 K.length vc9) K (st+n) _ HWO9.out.pbx (HP.out.b.ext HWO9.out.below) HWB.out f2 (by omega) (by omega) (by omega) HOWN.out (by omega) (by omega)).mono ?_;rintro e w6 ⟨v6,rfl,hown6,hg6⟩;rw [← HKL.out] at hown6;obtain ⟨v6a,v6c,rfl⟩:=hown6.form;have hob6:=HOBX.out.grown hg6 (fun e=>by have h77:=HOWN.out.lt _ e.symm;omega);have r1:=(hob6.cells 0).1;have r2:=(hob6.cells 0).2;have r5:w6.cell? ⟨w.heap.size,2,none⟩=some (.int .i64 qa.period):=((HWO9.out.pbx.grown hg6 (fun e=>by have h77:=HOWN.out.lt _ e.symm;omega)).cells 2).1)
       go_roundw
       case rel=>
        refine ⟨m+1,n+qa.period,by omega,by go_num,Lib.hid (by rw [hn.out];push_cast;rw [Int.add_mul];omega),⟨.slice v6a KL.length v6c,?_⟩,?_⟩
        ·rw [HAP.out];exact HWO9.out.step hg6 hown6
        ·exact (Below.heap_setCell _ _ _ _ (by have:=(Array.getElem?_eq_some_iff.1 HDEF9.out).1;simp;omega)).trans (deferred_kept HDEF9.out HOWN.out hg6)
       case measure=>simp [intOf];omega
      ·have hnL:¬ n<L:=fun h=>hlm (g1.1 h)
       obtain rfl:m=R:=by omega
       have HWO9:=Lib.hid hWO
       have HDEF9:=Lib.hid hdef
       clear hWO hdef g1
       go_wp2_with fail
       go_roundw
       case rel=>
        refine ⟨k+1,by omega,by go_num,⟨v9,?_⟩,HDEF9.out⟩
        rw [HSU.out,HF.out,if_neg (by simp)]
        exact HWO9.out
       case measure=>simp [intOf];omega
   ·obtain rfl:k=(isort (cycL qa st)).length:=by omega
    obtain ⟨va9,vc9,rfl⟩:=hWO.own.form
    have q2:wr.cell? ⟨w.heap.size+2,0,none⟩=some (.slice va9 (WL (isort (cycL qa st)).length).length vc9):=(hWO.obx.cells 0).1
    have HWO9:=Lib.hid hWO
    have HDEF9:=Lib.hid hdef
    have hsz9:=hWO.sz
    have hsw9:=hWO.hb
    clear hWO hdef
    go_wp2_with fail
    gi_wp2_with fail
    have hM:MarksX w.heap.size [{ target:=.collected D,args:=#[] }] wr:=marks_one (by omega) HDEF9.out
    refine leaves_marks (B:=w.heap.size) _ _ hM fun w' hs=>⟨.slice va9 (WL (isort (cycL qa st)).length).length vc9,by simp [results,Tryz.results153,go_sem],.slice va9 (WL (isort (cycL qa st)).length).length vc9,rfl,?_,HWO9.out.below.trans hs.below⟩
    have h9:=(HWO9.out.own.shut hs).mono (base':=w.heap.size) (by omega)
    first|exact h9|(rw [← HWLe.out];exact h9)
end Go.Proofs.YthjnojbeimchdaaGreat
/- Walks: slices.Compact, slices.Grow, slices.Concat. -/
namespace Go.Proofs.YthjnojbeimchdaaGreat
open Go.RowKit Kal
open Go.Sort (Holds putRow)
theorem OwnI.cut {w:World} {base g cap n:Nat} {l:List Int} {k:Nat} (h:w.ownsRow base 3 1 (.slice (some ⟨g,0,none⟩) n cap) n (l.map (Value.int .i64))) (hk:k≤n) (hr:∀ x∈l.take k,InI x) (hln:l.length=n) (hb:n≤17592186044416):OwnI w base (.slice (some ⟨g,0,none⟩) k cap) (l.take k):=by
 obtain ⟨h1,h2⟩:=h
 rcases h2 with ⟨h2,_⟩|⟨g',cap',cur,hv,hg,hh,hn,hc,hs,ht⟩
 ·cases h2
 ·injection hv with e1 e2 e3
  injection e1 with e1;injection e1 with e1
  subst e1;subst e3
  have hlk:(l.take k).length=k:=by simp;omega
  refine ⟨?_,hr,by omega⟩
  rw [hlk]
  refine ⟨by simp;omega,.inr ⟨g,cap,cur,rfl,hg,hh,by omega,hc,hs,?_⟩⟩
  rw [Nat.mul_one] at ht ⊢
  rw [List.map_take,← ht,List.take_take,Nat.min_eq_left hk]
theorem grow0 (W:World):Go.Sort.grow W #[]=W:=by cases W;simp [Go.Sort.grow]
theorem compact_any (v:Value) (l:List Int) (base:Nat) (w:World) (hv:OwnI w base v l) :
  Calls Tryz.prog 154 #[v] w fun e w'=>∃ v',e=.returned v'∧OwnI w' base v' (Go.Lib.compact l)∧w.grownBy w' v.ownBlock∧v'.ownBlock=v.ownBlock:=by
 have hv0:=hv
 obtain ⟨⟨h1,h2⟩,h3,h4⟩:=hv
 rcases h2 with ⟨rfl,h0⟩|⟨g,cap,cur,rfl,hg,hh,hn,hc,hs,ht⟩
 ·have hl:l=[]:=List.eq_nil_of_length_eq_zero h0
  subst hl
  exact (Tryz.slices_Compact_int_empty none 0 w).mono fun e w' ⟨he,hw⟩=>⟨_,he,by rw [hw];exact OwnI.nil w base,by rw [hw];exact ⟨rfl,rfl,rfl,Nat.le_refl _,fun _ _ _=>rfl⟩,rfl⟩
 ·rw [Nat.mul_one] at ht
  have hlc:(Go.Lib.compact l).length≤l.length:=compact_length
  have hmem:∀ x∈Go.Lib.compact l,x∈l:=fun x hx=>by
   unfold Go.Lib.compact Go.Lib.compactUpTo at hx
   obtain ⟨j,hj,rfl⟩:=List.mem_map.1 hx
   have:=List.mem_range.1 (List.mem_filter.1 hj).1
   rw [getElem!_pos l.toArray j (by simpa using this)];simp
  refine (Tryz.slices_Compact_int g 0 cap l w (holds_of_blockI hh ht) (by omega) hn).mono fun e w' ⟨he,n,hw⟩=>⟨_,he,?_,?_,rfl⟩
  ·have hlen:(Go.Lib.compact l ++ List.replicate (l.length-(Go.Lib.compact l).length) 0).length=l.length:=by simp;omega
   have:=ownsRow_sortedI (n:=n) (os:=#[]) (ts:=Go.Lib.compact l ++ List.replicate (l.length-(Go.Lib.compact l).length) 0) hlen hg hh hn hc hs
   rw [grow0,← hw] at this
   have h9:=OwnI.cut (k:=(Go.Lib.compact l).length) this hlc (fun x hx=>h3 x (hmem x (by simpa using hx))) hlen h4
   simpa using h9
  ·have:=grownBy_sortedI (w:=w) (g:=g) (n:=n) (os:=#[]) (Go.Lib.compact l ++ List.replicate (l.length-(Go.Lib.compact l).length) 0).toArray
   rw [grow0,← hw] at this
   exact this
set_option maxRecDepth 100000 in
set_option maxHeartbeats 1000000 in
theorem grow_nil (n:Nat) (w:World) (hn:n≤8796093022208) :
  Calls Tryz.prog 179 #[.slice none 0 0,.int .i64 (n:Int)] w fun e w'=>∃ v,e=.returned v∧OwnI w' w.heap.size v []∧Below w.heap.size w w':=by
 obtain ⟨i0,hi0,hz0,hs0,hb0⟩:=intInfo
 by_cases hpos:0<n
 ·have hrz:∀ ty,(Builtin.append_ #[37,3] ty #[.slice none 0 0,.int .i64 (n:Int)]).run Tryz.prog w =
    .ok (.slice (some ⟨w.heap.size,0,none⟩) n (grownCap w n 0 3)) (w.drew.alloc (.cells (#[] ++ Builtin.zeroCells (Value.int .i64 0).cells n ++ Builtin.zeroCells (Value.int .i64 0).cells (grownCap w n 0 3-n)) 3)):=fun ty=>by
   have h:=Lib.run_append_grow_zeros w 37 3 ty 3 i0 (.int .i64 0) .i64 .i64 Tryz.underlying37 Tryz.underlying3 hi0 hz0 none 0 0 [] (run_firstCells_none w.drew i0.size 0 0 0) n hpos (by omega) (by omega) (by omega) (by rw [hb0];omega)
    (growslice_fits (by omega) (by rw [hb0];omega))
   simpa using h
  have hGn:n≤grownCap w n 0 3:=grownCap_ge w _ _ _
  have hGm:=grownCap_le_maxLen w n 0 3 (by unfold maxLen;omega)
  obtain ⟨G,hG⟩:∃ G,G=grownCap w n 0 3:=⟨_,rfl⟩
  rw [← hG] at hrz hGn hGm
  have hG63:G≤9223372036854775807:=by unfold maxLen at hGm;omega
  have HGM:=Lib.hid hGm
  clear hG hGm
  have hnI:(0:Int)<(n:Int):=by omega
  go_enter Tryz.func179,Tryz.ntmps179
  go_wp2_with (at_builtin;refine Lib.wpList_append_run _ rfl _ _ _ _ rfl _ _ rfl rfl _ _ (hrz _) ?_)
  go_ret
  refine ⟨_,rfl,⟨⟨rfl,.inr ⟨w.heap.size,G,_,rfl,Nat.le_refl _,World.alloc_heap_new w.drew _,by simp,HGM.out,?_,by simp⟩⟩,by simp,by simp⟩,?_⟩
  ·simp [Builtin.zeroCells,Value.cells];omega
  ·exact ((Below.refl _ _).drew).alloc (Nat.le_refl _) _
 ·obtain rfl:n=0:=by omega
  go_enter Tryz.func179,Tryz.ntmps179
  go_wp2_with fail
  go_ret
  exact ⟨_,rfl,OwnI.nil _ _,Below.refl _ _⟩
theorem append_ints {w:World} {ops:Array Oper} {rest:List Oper} {o:Oper} {a:Act} {Q:Exit→Act→World→Prop} (hgd:o.guard=none) (s x:Operand)
  (ho:o.op=.call { callee:=.builtin .append,args:=#[s,x],argTypes:=#[37,37] }) (base:Nat) (v xv:Value) (l ys:List Int) (hs:a.eval s=v) (hown:OwnI w base v l)
  (hx:a.eval x=xv) (hxs:Ints w xv ys) (hlen:l.length+ys.length≤17592186044416) (hbase:base≤w.heap.size)
  (h:∀ v' w',OwnI w' base v' (l ++ ys)→w.grownBy w' v.ownBlock→(v'.ownBlock=v.ownBlock∨v'.ownBlock=some w.heap.size)→wpList Tryz.prog ops Q rest (a.put o.dst v') w') :
  wpList Tryz.prog ops Q (o :: rest) a w:=by
 obtain ⟨i,hi,h1,h2,h3⟩:=intInfo
 obtain ⟨⟨xa,xc,rfl,g1,g2,g3⟩,g4,g5⟩:=hxs
 refine wpList_plain hgd fun K hK=>?_
 rcases g3 with rfl|⟨b,off,rfl,hcell⟩
 ·have hrun:(Builtin.append_ #[37,37] o.type #[v,.slice xa ([]:List Int).length xc]).run Tryz.prog w=.ok v w:=by
   obtain ⟨⟨r1,r2⟩,r3,r4⟩:=hown
   rcases r2 with ⟨rfl,r0⟩|⟨g,cap,cur,rfl,r5,r6,r7,r8,r9,r10⟩
   ·cases xa <;> simp [Builtin.append_,run_underlying Tryz.underlying37,sizeOf,typeInfo,hi,Builtin.lenOf,Builtin.firstCells,loadCells,loadCellsFrom,storeCells]
   ·cases xa <;> simp [Builtin.append_,run_underlying Tryz.underlying37,sizeOf,typeInfo,hi,Builtin.lenOf,Builtin.firstCells,r7,loadCells,loadCellsFrom,storeCells]
  unfold Oper.wp execOp
  simp only [ho,resolve,invoke,builtin,Sem.run_bind,Sem.run_pure,Result.andThen_ok,List.map_toArray,List.map_cons,List.map_nil,hs,hx,hrun]
  exact hK _ _ (h v w (by simpa using hown) (World.grownBy.refl w _) (.inl rfl))
 ·obtain ⟨v',w',hrun,k2,k3,_,k5⟩:=run_append_own_at (P:=Tryz.prog) w base 37 o.type 3 i (.int .i64 0) 1 8 Tryz.underlying37 hi h1 h2 h3 rfl (by omega) v l.length (l.map (Value.int .i64)) hown.row ⟨b,off,none⟩ ys.length xc (ys.map (Value.int .i64)) (by simp)
   (fun j u hu=>by
    rw [List.getElem?_map] at hu
    obtain ⟨y,hy,rfl⟩:=Option.map_eq_some_iff.1 hu
    obtain ⟨hj,hy'⟩:=List.getElem?_eq_some_iff.1 hy
    have:=hcell j hj
    rw [show ys.getD j 0=y from by simp [hj,hy']] at this
    rw [show (⟨b,off,none⟩:Addr).add j=⟨b,off+j,none⟩ from by simp [Addr.add]];exact this) (by simp [Value.oneCell']) (by unfold maxLen;omega) (by omega) hbase
  unfold Oper.wp execOp
  simp only [ho,resolve,invoke,builtin,Sem.run_bind,Sem.run_pure,Result.andThen_ok,List.map_toArray,List.map_cons,List.map_nil,hs,hx,hrun]
  refine hK _ _ (h v' w' ⟨?_,fun z hz=>?_,by simp;omega⟩ k3 k5)
  ·rw [List.length_append,List.map_append];exact k2
  ·rcases List.mem_append.1 hz with hz|hz
   ·exact hown.rng z hz
   ·exact g5 z hz
def Bxx' (w:World) (b:Nat) (c:Array Value):Prop:=∀ i,w.cell? ⟨b,i,none⟩=c[i]?
def ConcatRes (l:List Int) (w:World) (e:Ending) (w':World):Prop:=∃ v,e=.returned v∧OwnI w' w.heap.size v l∧Below w.heap.size w w'
set_option maxRecDepth 100000 in
set_option maxHeartbeats 1000000 in
theorem concat_any (b c:Nat) (v1 v2:Value) (l1 l2:List Int) (w:World) (hb:Bxx' w b #[v1,v2]) (h1:Ints w v1 l1) (h2:Ints w v2 l2) (hl:l1.length+l2.length≤8796093022208) (hc:2≤c) (hc1:c≤1000) :
  Calls Tryz.prog 151 #[.slice (some ⟨b,0,none⟩) 2 c] w (ConcatRes (l1 ++ l2) w):=by
 obtain ⟨a1,c1,rfl⟩:∃ a c,v1=.slice a l1.length c:=by obtain ⟨⟨a,c,e,_⟩,_⟩:=h1;exact ⟨a,c,e⟩
 obtain ⟨a2,c2,rfl⟩:∃ a c,v2=.slice a l2.length c:=by obtain ⟨⟨a,c,e,_⟩,_⟩:=h2;exact ⟨a,c,e⟩
 have q0:w.cell? ⟨b,0,none⟩=some (.slice a1 l1.length c1):=(hb 0)
 have q1:w.cell? ⟨b,1,none⟩=some (.slice a2 l2.length c2):=(hb 1)
 have H1:=Lib.hid h1
 have H2:=Lib.hid h2
 have HB:=Lib.hid hb
 clear h1 h2 hb
 go_enter Tryz.func151,Tryz.ntmps151
 go_wp2_with fail
 go_loop [11,3] (fun i n=>(i=.int .i64 0∧n=.int .i64 0)∨(i=.int .i64 1∧n=.int .i64 l1.length)∨(i=.int .i64 2∧n=.int .i64 (l1.length+l2.length))) (fun i _=>2-(intOf i).toNat)
 case atStart=>exact .inl ⟨rfl,rfl⟩
 case round=>
  rcases hrel with ⟨rfl,rfl⟩|⟨rfl,rfl⟩|⟨rfl,rfl⟩
  ·go_wp2_with fail
   go_round
   case rel=>exact .inr (.inl ⟨rfl,rfl⟩)
   case measure=>simp [intOf]
  ·go_wp2_with fail
   go_round
   case rel=>exact .inr (.inr ⟨rfl,rfl⟩)
   case measure=>simp [intOf]
  ·go_wp2_with (go_at_call 179;rw [show ((l1.length:Int)+(l2.length:Int))=((l1.length+l2.length:Nat):Int) from by push_cast;rfl];refine (grow_nil (l1.length+l2.length) _ hl).mono ?_;rintro e w2 ⟨v2,rfl,hown2,hb2⟩;obtain ⟨va,vc,rfl⟩:=hown2.form;obtain ⟨hc2,hf2⟩:=bcell hb2;(try simp only [World.size_alloc,World.size_drew,size_drewN,World.size_setCell] at hc2 hf2))
   have hE2:Below w.heap.size w w2:=hb2
   have HOWN2:=Lib.hid hown2
   clear hown2 hb2 hc2 hf2
   go_loopw [27,6] (fun i ns wr=>((i=.int .i64 0∧OwnI wr w.heap.size ns [])∨(i=.int .i64 1∧OwnI wr w.heap.size ns l1)∨(i=.int .i64 2∧OwnI wr w.heap.size ns (l1 ++ l2)))∧Below w.heap.size w wr) (fun i _ _=>2-(intOf i).toNat)
   case atStart=>exact ⟨.inl ⟨rfl,HOWN2.out⟩,hE2⟩
   case round=>
    obtain ⟨hrel,hEr⟩:=hrel
    have q0:=Ext.cell hEr q0
    have q1:=Ext.cell hEr q1
    have hszr:=hEr.size
    rcases hrel with ⟨rfl,hown⟩|⟨rfl,hown⟩|⟨rfl,hown⟩
    ·obtain ⟨na,nc,rfl⟩:=hown.form
     have HOWN:=Lib.hid hown
     clear hown
     go_wp2_with (at_builtin;refine append_ints (by rfl) _ _ (by rfl) w.heap.size (.slice na 0 nc) (.slice a1 l1.length c1) [] l1 (by rfl) HOWN.out (by rfl) (H1.out.ext hEr) (by simp;omega) (by omega) ?_;intro v5 w5 hown5 hgrow5 hloc5;obtain ⟨na5,nc5,rfl⟩:=hown5.form)
     go_roundw
     case rel=>exact ⟨.inr (.inl ⟨rfl,by simpa using hown5⟩),hEr.grown hgrow5 hEr.size (fun k e=>(HOWN.out.lt k e).1)⟩
     case measure=>simp [intOf]
    ·obtain ⟨na,nc,rfl⟩:=hown.form
     have HOWN:=Lib.hid hown
     clear hown
     go_wp2_with (at_builtin;refine append_ints (by rfl) _ _ (by rfl) w.heap.size (.slice na l1.length nc) (.slice a2 l2.length c2) l1 l2 (by rfl) HOWN.out (by rfl) (H2.out.ext hEr) (by omega) (by omega) ?_;intro v5 w5 hown5 hgrow5 hloc5;obtain ⟨na5,nc5,rfl⟩:=hown5.form)
     go_roundw
     case rel=>exact ⟨.inr (.inr ⟨rfl,by simpa using hown5⟩),hEr.grown hgrow5 hEr.size (fun k e=>(HOWN.out.lt k e).1)⟩
     case measure=>simp [intOf]
    ·obtain ⟨na,nc,rfl⟩:=hown.form
     have HOWN:=Lib.hid hown
     clear hown
     go_wp2_with fail
     go_ret
     exact ⟨_,rfl,HOWN.out,hEr⟩
end Go.Proofs.YthjnojbeimchdaaGreat
/- Ground for the walks of operate (package periodic). -/
namespace Go.Proofs.YthjnojbeimchdaaGreat
open Go.RowKit Go.Maps Kal
theorem PairIn.below {w w':World} {lo hi B:Nat} {h1 c1 h2 c2:Value} {qa qb:Per} {st:Int} {xv yv:Value} {mb:Nat} (h:PairIn w lo hi h1 c1 h2 c2 qa qb st xv yv mb) (hb:Below B w w') (hB:hi≤B):PairIn w' lo hi h1 c1 h2 c2 qa qb st xv yv mb:=
 ⟨h.a.below hb hB,h.b.below hb hB,h.x.below hb hB,h.y.below hb hB,h.m.of_blocks (fun k _ h2=>hb.block k (by omega)),h.lom⟩
theorem res_mem {q:Per} (h:q.WF) {st:Int} (hs:q.frm≤st) (y:Int):y∈isort (cycL q st)↔0≤y∧y<q.period∧q.mem (st+y):=(isort_mem _ y).trans (cycL_mem h hs y)
theorem res_rise {q:Per} (h:q.WF) {st:Int} (hs:q.frm≤st):Rise 0 q.period (isort (cycL q st)):=⟨isort_lt (cycL_nodup h st),fun x hx=>by have:=(res_mem h hs x).1 hx;exact ⟨this.1,this.2.1⟩⟩
theorem res_length {q:Per} (st:Int):(isort (cycL q st)).length=q.cycle.length:=by rw [isort_length];unfold cycL;simp
theorem comN_meet (xs ys:List Int) (a b st:Int):comN xs ys (Int.gcd a b:Nat)=(meetL xs ys a b st).length:=by
 unfold comN meetL grp
 rw [flatMap_length]
 congr 1
 refine List.map_congr_left fun x _=>?_
 simp
structure OpFacts (p1 p2 qa qb:Per) (st L g:Int):Prop where
 hx:Rise 0 qa.period (isort (cycL qa st))
 hy:Rise 0 qb.period (isort (cycL qb st))
 n:((sel (fun n=>qa.mem n∧qb.mem n) 0 st).length:Int)+comN (isort (cycL qa st)) (isort (cycL qb st)) g=cnt (fun n=>p1.mem n∧p2.mem n) (st+L).toNat
 inA:belowI qa st+(isort (cycL qa st)).length*(L / qa.period)=cnt p1.mem (st+L).toNat
 inB:belowI qb st+(isort (cycL qb st)).length*(L / qb.period)=cnt p2.mem (st+L).toNat
 meet:∀ n,n∈meetL (isort (cycL qa st)) (isort (cycL qb st)) qa.period qb.period st↔st≤n∧n<st+L∧p1.mem n∧p2.mem n
 headsEq:sel (fun n=>qa.mem n∧qb.mem n) 0 st=sel (fun n=>p1.mem n∧p2.mem n) 0 st
 com:comN (isort (cycL qa st)) (isort (cycL qb st)) g=(meetL (isort (cycL qa st)) (isort (cycL qb st)) qa.period qb.period st).length
theorem opFacts {p1 p2 qa qb:Per} (hqa:IsCanon qa p1.mem) (hqb:IsCanon qb p2.mem) {st L g:Int} (hs1:qa.frm≤st) (hs2:qb.frm≤st) (hL:L=lcmI qa.period qb.period) (hg:g=(Int.gcd qa.period qb.period:Nat)):OpFacts p1 p2 qa qb st L g:=by
 have hx:=res_rise hqa.wf hs1
 have hy:=res_rise hqb.wf hs2
 have h0:0≤st:=by have:=hqa.wf.frm;omega
 have hsel:sel (fun n=>qa.mem n∧qb.mem n) 0 st=sel (fun n=>p1.mem n∧p2.mem n) 0 st:=sel_congr (Int.le_refl _) fun n=>by rw [hqa.mem,hqb.mem]
 have hL1:1≤L:=by rw [hL];exact lcmI_pos hqa.wf.per hqb.wf.per
 refine ⟨hx,hy,?_,?_,?_,?_,hsel,by rw [hg];exact comN_meet _ _ _ _ _⟩
 ·rw [hsel,hg,comN_meet (st:=st),hL]
  exact meet_cnt hqa hqb hs1 hs2 hx hy (res_mem hqa.wf hs1) (res_mem hqb.wf hs2) h0
 ·rw [res_length];exact in_cnt hqa hs1 hL1 (hL ▸ lcmI_dvd_left)
 ·rw [res_length];exact in_cnt hqb hs2 hL1 (hL ▸ lcmI_dvd_right)
 ·rw [hL];exact meet_iff hqa hqb hs1 hs2 hx hy (res_mem hqa.wf hs1) (res_mem hqb.wf hs2)
theorem slice_head {a:Option Addr} {c i:Nat} (l:List Int) (hi:i≤l.length) (hc:l.length≤c) :
  ∃ a',(∀ W,(Instr.slice 37 (.slice a l.length c) none (some (.int .i64 (i:Int))) (some (.int .i64 (i:Int)))).run Tryz.prog W=.ok (.slice a' i i) W)∧
   (∀ w,Ints w (.slice a l.length c) l→Ints w (.slice a' i i) (l.take i)):=by
 refine ⟨if i=0 then a else a.map (·.add (0*1)),fun W=>?_,fun w h=>?_⟩
 ·rw [run_slice_hm W 37 _ _ _ (by kernel_rfl) .i64 .i64 _ _ (by omega) (by omega) (by omega)]
  have hz:(sizeOf (Tryz.prog.elem 37)).run Tryz.prog W=.ok 1 W:=by kernel_rfl
  rw [hz]
  simp only [Result.andThen,sliced,Int.toNat_natCast,Nat.sub_zero]
 ·obtain ⟨⟨a2,c2,he,h1,h2,h3⟩,h4,h5⟩:=h
  injection he with e1 e2 e3
  subst e1;subst e3
  have hl:(l.take i).length=i:=by simp;omega
  refine ⟨⟨_,i,by rw [hl],by rw [hl];exact Nat.le_refl _,by omega,?_⟩,by omega,fun x hx=>h5 x (List.mem_of_mem_take hx)⟩
  by_cases h0:i=0
  ·subst h0;exact .inl (by simp)
  ·rcases h3 with rfl|⟨b,o,rfl,hcell⟩
   ·simp at hi;omega
   ·refine .inr ⟨b,o,by rw [if_neg h0];simp [Addr.add],fun j hj=>?_⟩
    rw [hl] at hj
    rw [hcell j (by omega)]
    simp [List.getD_eq_getElem?_getD,List.getElem?_take_of_lt hj]
theorem grown_ob {A wr w17:World} {ob i:Nat} {v:Value} (h:A.grownBy wr (some ob)) (hb:Below A.heap.size wr w17):A.grownBy (w17.setCell ⟨ob,i,none⟩ v) (some ob):=
 ⟨(
  show (w17.setCell ⟨ob,i,none⟩ v).os=_ from hb.os).trans h.os,(show (w17.setCell ⟨ob,i,none⟩ v).tape=_ from hb.tape).trans h.tape,(show (w17.setCell ⟨ob,i,none⟩ v).output=_ from hb.output).trans h.output,by have:=h.size;have:=hb.size;simp [World.setCell];omega,
  fun k hk hne=>((Below.heap_setCell w17 ⟨ob,i,none⟩ v k (by intro e;exact hne (by rw [e]))).trans (hb.block k hk)).trans (h.block k hk hne)⟩
theorem compact_isort {LL SEL:List Int} (hs:SEL.Pairwise (· < ·)) (hm:∀ x,x∈LL↔x∈SEL):Go.Lib.compact (isort LL)=SEL:=by
 obtain ⟨h1,h2⟩:=compact_sorted (isort_le LL)
 exact sorted_ext h1 hs fun x=>by rw [h2,isort_mem,hm]
end Go.Proofs.YthjnojbeimchdaaGreat
/- What the method without of a pair returns, as a set. -/
namespace Go.Proofs.YthjnojbeimchdaaGreat
open Go.RowKit Go.Maps Kal
theorem full_iff {q:Per} (hq:q.WF) {st:Int} (hs:q.frm≤st) {g:Int} (hg:1≤g) (hgd:g∣q.period) {r:Int} (hf:fullB (isort (cycL q st)) g q.period r=true) {n:Int} (hn:st≤n) (hr:(n-st) % g=r % g):q.mem n:=by
 have hp:=hq.per
 have hr0:=Int.emod_nonneg r (show g≠0 by omega)
 have hr1:=Int.emod_lt_of_pos r (show 0<g by omega)
 have h1:=(class_full (ys:=isort (cycL q st)) hp hg hgd (res_rise hq hs) hr0 hr1).1 (of_decide_eq_true hf)
 refine (res_iff hq hs (res_mem hq hs) hn).1 (h1 _ (Int.emod_nonneg _ (by omega)) (Int.emod_lt_of_pos _ (by omega)) ?_)
 rw [Int.emod_emod_of_dvd _ hgd,hr]
theorem withW_mem {qa qb:Per} (ha:qa.WF) (hb:qb.WF) {st g L:Int} {R:Nat} (hs1:qa.frm≤st) (hs2:qb.frm≤st) (hg:g=(Int.gcd qa.period qb.period:Nat)) (hLR:L=R*qa.period) (x:Int) :
  x∈withW qa qb st g (isort (cycL qa st)) (isort (cycL qb st)) R (isort (cycL qa st)).length↔x∈sel (fun n=>qa.mem n∧¬ qb.mem n) 0 (st+L):=by
 have hf0:=ha.frm
 have hp:=ha.per
 have hg1:1≤g:=by rw [hg];exact (gcd_bound hp).1
 have hga:g∣qa.period:=by rw [hg];exact Int.gcd_dvd_left _ _
 have hgb:g∣qb.period:=by rw [hg];exact Int.gcd_dvd_right _ _
 have hL0:0≤L:=by rw [hLR];exact Int.mul_nonneg (by omega) (by omega)
 have key:∀ {r:Int} {j:Nat},r∈isort (cycL qa st)→j<R→qa.mem (st+(r+j*qa.period))∧0≤r+j*qa.period∧r+j*qa.period<L:=by
  intro r j hr hj
  have hr':=(res_mem ha hs1 r).1 hr
  have h3:=step_lt (a:=qa.period) (L:=L) (m:=j) (R:=R) hr'.1 hr'.2.1 hLR (by omega)
  have h4:=h3.1.2 hj
  refine ⟨(res_iff ha hs1 (res_mem ha hs1) (by omega)).1 ?_,by omega,h4⟩
  rw [show st+(r+j*qa.period)-st=r+j*qa.period from by omega,Int.add_mul_emod_self_right,Int.emod_eq_of_lt hr'.1 hr'.2.1];exact hr
 have nm:∀ {n:Int},0≤n→((!memB qb n)=true↔¬ qb.mem n):=fun {n} h=>by
  have:=memB_iff (p:=qb) h
  cases hm:memB qb n <;> simp [hm] at this ⊢ <;> assumption
 unfold withW
 rw [List.take_length,List.mem_append,List.mem_flatMap,sel_mem (Int.le_refl _)]
 constructor
 ·rintro (h|⟨r,hr,h⟩)
  ·unfold keepF at h
   rw [List.mem_filter,sel_mem (Int.le_refl _)] at h
   exact ⟨h.1.1,by omega,h.1.2.2,(nm h.1.1).1 h.2⟩
  ·split at h
   ·simp at h
   ·unfold partW keepF at h
    rw [List.mem_filter,List.mem_map] at h
    obtain ⟨⟨j,hj,rfl⟩,h2⟩:=h
    rw [upto_mem] at hj
    obtain ⟨m,rfl⟩:=Int.eq_ofNat_of_zero_le hj.1
    obtain ⟨k1,k2,k3⟩:=key hr (show m<R by omega)
    exact ⟨by omega,by omega,k1,(nm (by omega)).1 h2⟩
 ·rintro ⟨h0,h1,h2,h3⟩
  by_cases hx:x<st
  ·refine .inl ?_
   unfold keepF
   rw [List.mem_filter,sel_mem (Int.le_refl _)]
   exact ⟨⟨h0,hx,h2⟩,(nm h0).2 h3⟩
  ·have hr:=(res_iff ha hs1 (res_mem ha hs1) (show st≤x by omega)).2 h2
   refine .inr ⟨_,hr,?_⟩
   have hnf:¬ fullB (isort (cycL qb st)) g qb.period ((x-st) % qa.period)=true:=fun hf=>
    h3 (full_iff hb hs2 hg1 hgb hf (by omega) (by rw [Int.emod_emod_of_dvd _ hga]))
   rw [if_neg hnf]
   unfold partW keepF
   rw [List.mem_filter,List.mem_map]
   have e:=Int.emod_add_ediv_mul (x-st) qa.period
   have hd0:0≤(x-st) / qa.period:=Int.ediv_nonneg (by omega) (by omega)
   refine ⟨⟨(x-st) / qa.period,(upto_mem _ _).2 ⟨hd0,?_⟩,by omega⟩,(nm h0).2 h3⟩
   exact Int.ediv_lt_of_lt_mul (by omega) (by rw [← hLR];omega)
end Go.Proofs.YthjnojbeimchdaaGreat
/- Walks: operate (package periodic): a common period that is too large, an invalid set. -/
namespace Go.Proofs.YthjnojbeimchdaaGreat
open Go.RowKit Go.Maps Kal
end Go.Proofs.YthjnojbeimchdaaGreat
