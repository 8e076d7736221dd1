/- Part 4 of the proof of the laws. -/
import Derived.Test.YtbmgmlbmgogeaaaGreatB3
import Derived.Test.YtbmgmlbmgogeaaaGreatB1
import Derived.Laws.EntriesVeiled
import Derived.Test.YtbmgmlbmgogeaaaGreatB2
import Derived.Lib.AppendZerosOnto
import Derived.Deep.Cut
import Derived.Deep.CutBlock
import Derived.Deep.DeepCutAuto
import Derived.Test.YtbmgmlbmgogeaaaGreatRows
import Derived.WalkKit
import Derived.ProofKit
import Derived.OpenShut
import Derived.ShutString
import Derived.ChangeOld
import Derived.Below
import Derived.Lib.SmallJoins
set_option linter.unusedVariables false
set_option linter.unusedSimpArgs false
set_option maxRecDepth 100000
set_option maxHeartbeats 4000000
section
variable {ops:Array Go.Oper}{a r s st x:Int}{m:List (List Kal.Per)}{l ys:List Int}{rest:List Go.Oper}{t:List Kal.Per}{cs:List Go.Value}{B R base c cap g hi k lo mb n:Nat}{o:Go.Oper}{row:Option Nat}{p q qa qb:Kal.Per}{c1 c2 h1 h2 v v' xv yv:Go.Value}{A C W W' W1 w w':Go.World}
namespace Go.Proofs.YtbmgmlbmgogeaaaGreat
section
open Go.RowKit Go.Maps Kal
def BF (w:World) (mb:Nat) (g:Int) (ys:List Int):Prop:=
 ∀ r,aP r->∃ v,(∀ W,Below w.heap.size w W->(Instr.lookup 250 (.map (some mb)) (.int .i64 r) false).run Tryz.prog W=.ok v W)/\Ints w v (fZ ys g r)
theorem BF.ext {g:Int} (h:BF w mb g ys) (hb:Below w.heap.size w W):BF W mb g ys:=λr hr=>by
 obtain ⟨v,h1,h2⟩:=h r hr;exact ⟨v,λW' hb'=>h1 W' (hb.trans (hb'.mono hb.size)),h2.ext hb⟩
theorem nO.looks {g:Int} (h:nO w mb hi g ys):BF w mb g ys:=λr hr=>by
 obtain ⟨v0,iY,hv0⟩:=h.look hr;obtain ⟨es,clock,n,base,D,ju,hb,hn,hown,_⟩:=h;obtain ⟨v,zs,h1,_⟩:=PU hown hn hr;have e:=h1 w rfl;rw [iY] at e;injection e with e
 subst e;exact ⟨v0,λW hW=>h1 W (hW.block mb (Array.getElem?_eq_some_iff.1 hb).1),hv0.ints⟩
structure ur (w:World) (h1 c1 h2 c2:Value) (qa qb:Per) (st:Int) (xv yv:Value) (g:Int) (mb:Nat):Prop where
 a:bX w h1 c1 qa
 b:bX w h2 c2 qb
 x:Ints w xv (ar (aj qa st))
 y:Ints w yv (ar (aj qb st))
 m:BF w mb g (ar (aj qb st))
theorem ur.ext {g:Int} (h:ur w h1 c1 h2 c2 qa qb st xv yv g mb) (hb:Below w.heap.size w W):ur W h1 c1 h2 c2 qa qb st xv yv g mb:=
 ⟨h.a.ext hb,h.b.ext hb,h.x.ext hb,h.y.ext hb,h.m.ext hb⟩
theorem uu.at (h:uu w lo hi h1 c1 h2 c2 qa qb st xv yv mb):ur w h1 c1 h2 c2 qa qb st xv yv (Int.gcd qa.period qb.period:Nat) mb:=
 ⟨h.a.is,h.b.is,h.x.ints,h.y.ints,h.m.looks⟩
theorem M0 (a b:Int):(a == b)=decide (a=b):=by by_cases h:a=b <;> simp [h]
def pK (ys:List Int) (g b n:Int):Bool:=decide (((fZ ys g (n % g)).length:Int)=b / g)
theorem Jm (h1 c1 h2 c2:Value) (qa qb:Per) (st:Int) (xv yv:Value) (g:Int) (mb:Nat) (n:Int) (w:World) (hP:ur w h1 c1 h2 c2 qa qb st xv yv g mb) (hg:1<=g) (hg1:g<=562949953421312) (hn:0<=n) (mf:n<=9007199254740992)
  (hp:1<=qb.period) (fs:qb.period<=562949953421312) :
  Calls Tryz.prog 252 #[qU h1 c1 h2 c2 qa qb st xv yv g mb,.int .i64 n] w λe w'=>e=.returned (.bool (pK (ar (aj qb st)) g qb.period n))/\Below w.heap.size w w':=by
 have hm0:=Int.emod_nonneg n (show g≠0 by omega);have hm1:=Int.emod_lt_of_pos n (show 0<g by omega);have hlk:=hP.m (n % g) ⟨aa,aa⟩;obtain ⟨v,hlk,hv⟩:=hlk;obtain ⟨⟨va,vc,rfl,_⟩,Js,_⟩:=hv;obtain ⟨xa,xc,rfl⟩:∃ a c,xv=.slice a (ar (aj qa st)).length c:=by obtain ⟨⟨a,c,e,_⟩,_⟩:=hP.x;exact ⟨a,c,e⟩
 obtain ⟨ya,yc,rfl⟩:∃ a c,yv=.slice a (ar (aj qb st)).length c:=by obtain ⟨⟨a,c,e,_⟩,_⟩:=hP.y;exact ⟨a,c,e⟩
 obtain ⟨a1,k1,a2,k2,rfl,rfl⟩:=hP.a.inn.form;obtain ⟨a3,k3,a4,k4,rfl,rfl⟩:=hP.b.inn.form;have hL:∀ W,Below w.heap.size w W->∀ nq,(Instr.lookup 250 (.map (some mb)) (.int .i64 (n % g)) false).run Tryz.prog (W.drewN nq)=.ok (.slice va (fZ (ar (aj qb st)) g (n % g)).length vc) (W.drewN nq):=λW hb nq=>hlk _ xE;obtain ⟨F,hF⟩:∃ F,F=pK (ar (aj qb st)) g qb.period n:=⟨_,rfl⟩;have HF:=ad hF;rw [<- hF];unfold pK at hF;generalize (ar (aj qb st))=ys at *;generalize (ar (aj qa st))=xs at *;generalize hlen:(fZ ys g (n % g)).length=len at *;have HLEN:=ad hlen;clear hlen;clear hlk hP
 go_in
 go_wp2_with fail
 have hL2:=hL _ (Ea (Er w) (.cells #[.slice a1 qa.head.length k1,.int .i64 qa.frm,.int .i64 qa.period,.slice a2 qa.cycle.length k2,.slice a3 qb.head.length k3,.int .i64 qb.frm,.int .i64 qb.period,.slice a4 qb.cycle.length k4,.int .i64 st,.slice xa xs.length xc,.slice ya ys.length yc,.int .i64 g,.map (some mb)] 252));go_quiet (fail);go_wp2
 go_ret;refine ⟨bT ?_,xE⟩;rw [HF.o];unfold pK;rw [HLEN.o,M0]
def eK (xs ys:List Int) (g:Int):Nat:=(xs.map λx=>(fZ ys g (x % g)).length).sum
theorem uc_ {xs:List Int} {g:Int} (h:k<xs.length):eK (xs.take (k+1)) ys g=eK (xs.take k) ys g+(fZ ys g (xs.getD k 0 % g)).length:=by
 unfold eK;rw [List.take_succ_eq_append_getElem h,List.map_append,List.sum_append,List.getD_eq_getElem?_getD,List.getElem?_eq_getElem h];simp
theorem z8_ {xs:List Int} {g:Int} (k:Nat):eK (xs.take k) ys g<=eK xs ys g:=by
 unfold eK
 conv=>rhs;rw [<- List.take_append_drop k xs,List.map_append,List.sum_append]
 omega
theorem s5_ (h1 c1 h2 c2:Value) (qa qb:Per) (st:Int) (xv yv:Value) (g:Int) (mb:Nat) (w:World) (hP:ur w h1 c1 h2 c2 qa qb st xv yv g mb) (hg:1<=g) (hg1:g<=562949953421312)
  (hx:∀ x∈ar (aj qa st),0<=x/\x<=562949953421312) (hc:eK (ar (aj qa st)) (ar (aj qb st)) g<=4611686018427387904) :
  Calls Tryz.prog 224 #[qU h1 c1 h2 c2 qa qb st xv yv g mb] w λe w'=>e=.returned (.int .i64 (eK (ar (aj qa st)) (ar (aj qb st)) g:Nat))/\Below w.heap.size w w':=by
 have uM:=hP;obtain ⟨⟨xa,xc,rfl,_⟩,nw,_⟩:=hP.x;obtain ⟨ya,yc,rfl⟩:∃ a c,yv=.slice a (ar (aj qb st)).length c:=by obtain ⟨⟨a,c,e,_⟩,_⟩:=hP.y;exact ⟨a,c,e⟩
 obtain ⟨a1,k1,a2,k2,rfl,rfl⟩:=hP.a.inn.form;obtain ⟨a3,k3,a4,k4,rfl,rfl⟩:=hP.b.inn.form;obtain ⟨ys,vF⟩:∃ ys,ys=ar (aj qb st):=⟨_,rfl⟩;obtain ⟨xs,mm⟩:∃ xs,xs=ar (aj qa st):=⟨_,rfl⟩;have HM:Hid (BF w mb g ys):=ad (vF ▸ hP.m);have HX:Hid (Ints w (.slice xa xs.length xc) xs):=ad (by rw [mm];exact hP.x);rw [<- vF,<- mm];rw [<- vF,<- mm] at hc;rw [<- mm] at hx nw;clear hP vF mm uM
 go_in
 go_wp2_with fail
 generalize hW0:w.alloc _=W0;have hE:Below w.heap.size w W0:=by rw [<- hW0];exact xE
 have hbx:af W0 w.heap.size #[.slice a1 qa.head.length k1,.int .i64 qa.frm,.int .i64 qa.period,.slice a2 qa.cycle.length k2,.slice a3 qb.head.length k3,.int .i64 qb.frm,.int .i64 qb.period,.slice a4 qb.cycle.length k4,.int .i64 st,.slice xa xs.length xc,.slice ya ys.length yc,.int .i64 g,.map (some mb)] 252:=by rw [<- hW0];exact af.new _ _ _
 have nz:=(hbx.cells 11).1;have th:=(hbx.cells 12).1;have HE:=ad hE;have cw:=ad hbx;clear hW0 hbx hE;go_loopw [9,3] (λi n wr=>∃ (k q:Nat),k<=xs.length/\i=.int .i64 k/\n=.int .i64 (eK (xs.take k) ys g:Nat)/\wr=W0.drewN q) (λi _ _=>xs.length-(intOf i).toNat)
 .exact ⟨0,0,aa,rfl,rfl,rfl⟩
 obtain ⟨k,q,hk,rfl,rfl,rfl⟩:=hrel;by_cases hlt:k<xs.length
 .have Gn:=hx (xs.getD k 0) (kH hlt);have hsu:=uc_ (xs:=xs) (ys:=ys) (g:=g) hlt;have hle:=z8_ (xs:=xs) (ys:=ys) (g:=g) (k+1);obtain ⟨⟨a8,c8,jM,_,_,dA⟩,_,_⟩:=HX.o.ext HE.o;injection jM with cI eB dk
  subst cI;subst dk;rcases dA with dA|⟨b8,f8,rfl,hcell⟩
  .rw [dA] at hlt;simp at hlt
  have hcl:=hcell k hlt;have fM:(k:Int)<xs.length:=aa;obtain ⟨x,kn⟩:∃ x,x=xs.getD k 0:=⟨_,rfl⟩;rw [<- kn] at hcl Gn hsu;have hm0:=Int.emod_nonneg x (show g≠0 by omega);have hm1:=Int.emod_lt_of_pos x (show 0<g by omega);obtain ⟨v,hlk,hv⟩:=HM.o (x % g) ⟨aa,aa⟩;obtain ⟨⟨va,vc,rfl,_⟩,Js,_⟩:=hv;have hL2:∀ nq,(Instr.lookup 250 (.map (some mb)) (.int .i64 (x % g)) false).run Tryz.prog (W0.drewN nq)=.ok (.slice va (fZ ys g (x % g)).length vc) (W0.drewN nq):=λnq=>hlk _ (En HE.o nq);obtain ⟨len,hlen⟩:∃ len,len=(fZ ys g (x % g)).length:=⟨_,rfl⟩;rw [<- hlen] at hsu Js hL2;rw [hsu] at hle;obtain ⟨n0,iD⟩:∃ n0,n0=eK (xs.take k) ys g:=⟨_,rfl⟩;rw [<- iD] at hsu hle ⊢;have HS:=ad hsu;clear hlk hsu hlen kn hcell iD;go_wp2_with fail;go_quiet (fail)
  go_wp2
  go_roundw
  .exact ⟨k+1,_,aa,by go_num,by rw [HS.o];go_num,rfl⟩
  simp [intOf];omega
 obtain rfl:k=xs.length:=aa;go_wp2;go_ret;exact ⟨by rw [List.take_length];rfl,En HE.o _⟩
theorem o5_ {a:Act} {Q:Exit->Act->World->Prop} (hgd:o.guard=none) (s x:Operand)
  (ho:o.op=.call { callee:=.builtin .append,args:=#[s,x],argTypes:=#[35,35] }) (base:Nat) (v:Value) (l:List Int) (y:Int) (hs:a.eval s=v) (hown:ak w base v l)
  (blk c:Nat) (hx:a.eval x=.slice (some ⟨blk,0,none⟩) 1 c) (hnew:w.cell? ⟨blk,0,none⟩=some (.int .i64 y)) (hy:aP y) (hlen:l.length+1<=17592186044416) (hbase:base<=w.heap.size)
  (h:∀ g cap w',ak w' base (.slice (some ⟨g,0,none⟩) (l.length+1) cap) (l ++ [y])->w.grownBy w' v.ownBlock->Below base w w'->(v.ownBlock=some g\/w.heap.size<=g)->wpList Tryz.prog ops Q rest (a.put o.dst (.slice (some ⟨g,0,none⟩) (l.length+1) cap)) w') :
  wpList Tryz.prog ops Q (o :: rest) a w:=by
 obtain ⟨i,hi,h1,h2,h3⟩:=wB;refine wpList_append_lies w hgd s x 35 ho base 3 i (.int .i64 0) 1 8 Tryz.underlying35 hi h1 h2 h3 rfl aa v l.length (l.map (Value.int .i64)) hs hown.row ⟨blk,0,none⟩ 1 c [.int .i64 y] hx rfl ?_ (by simp [Value.oneCell']) aa (by unfold maxLen;omega) aa hbase _ rfl ?_
 .intro j u hu
  match j,hu with
  | 0,hu=>simp at hu;subst hu;exact hnew
 intro g cap w' hown' hgrow hloc _;exact h g cap w' (ak.appended hown.rng hy hlen hown') hgrow (hown.below_grown (W0:=w) (.inr trivial) hbase hgrow) (hloc.imp id λe=>aa)
theorem t0_ {xs:List Int} {b:Int} (h:k<xs.length):hZ (xs.take (k+1)) ys a b st=hZ (xs.take k) ys a b st ++ (fZ ys (Int.gcd a b:Nat) (xs.getD k 0 % (Int.gcd a b:Nat))).map λy=>st+gx (xs.getD k 0) a y b:=by
 unfold hZ fZ;rw [List.take_succ_eq_append_getElem h,List.flatMap_append,List.getD_eq_getElem?_getD,List.getElem?_eq_getElem h];simp
theorem xn_ {xs:List Int} {b:Int} (k:Nat):(hZ (xs.take k) ys a b st).length<=(hZ xs ys a b st).length:=by
 unfold hZ
 conv=>rhs;rw [<- List.take_append_drop k xs,List.flatMap_append,List.length_append]
 omega
def yt_ (base:Nat) (l:List Int) (w:World) (e:Ending) (w':World):Prop:=∃ v,e=.returned v/\ak w' base v l/\Below base w w'
theorem np_ {α β:Type} (f:α->β) {l:List α} (h:k<l.length):(l.take (k+1)).map f=(l.take k).map f ++ [f l[k]]:=by
 rw [List.take_succ_eq_append_getElem h,List.map_append];rfl
structure Ab (base:Nat) (w:World) (h1 c1 h2 c2:Value) (qa qb:Per) (st:Int) (xv yv:Value) (g:Int) (mb:Nat):Prop where
 a:∀ W,Below base w W->bX W h1 c1 qa
 b:∀ W,Below base w W->bX W h2 c2 qb
 x:∀ W,Below base w W->Ints W xv (ar (aj qa st))
 y:∀ W,Below base w W->Ints W yv (ar (aj qb st))
 m:∀ r,aP r->∃ v,∀ W,Below base w W->(Instr.lookup 250 (.map (some mb)) (.int .i64 r) false).run Tryz.prog W=.ok v W/\Ints W v (fZ (ar (aj qb st)) g r)
theorem uu.pairB (h:uu w lo hi h1 c1 h2 c2 qa qb st xv yv mb) (hb:hi<=base):Ab base w h1 c1 h2 c2 qa qb st xv yv (Int.gcd qa.period qb.period:Nat) mb:=by
 refine ⟨λW hW=>(h.a.below hW hb).is,λW hW=>(h.b.below hW hb).is,λW hW=>(h.x.below hW hb).ints,λW hW=>(h.y.below hW hb).ints,λr hr=>?_⟩;obtain ⟨v0,iY,hv0⟩:=h.m.look hr;obtain ⟨es,clock,n,b9,D,ju,bg,hn,hown,_,hlt,_⟩:=h.m;obtain ⟨v,zs,h1,_⟩:=PU hown hn hr;have e:=QW (iY.symm.trans (h1 w rfl));subst e;exact ⟨v0,λW hW=>⟨h1 W (hW.block mb aa),(hv0.below hW hb).ints⟩⟩
theorem Ab.below {g:Int} (h:Ab base w h1 c1 h2 c2 qa qb st xv yv g mb) (hb:Below base w W):Ab base W h1 c1 h2 c2 qa qb st xv yv g mb:=
 ⟨λW' h'=>h.a W' (hb.trans h'),λW' h'=>h.b W' (hb.trans h'),λW' h'=>h.x W' (hb.trans h'),λW' h'=>h.y W' (hb.trans h'),λr hr=>let ⟨v,hv⟩:=h.m r hr;⟨v,λW' h'=>hv W' (hb.trans h')⟩⟩
theorem Ab.at {g:Int} (h:Ab base w h1 c1 h2 c2 qa qb st xv yv g mb) (hb:base<=w.heap.size):ur w h1 c1 h2 c2 qa qb st xv yv g mb:=
 ⟨h.a w (Below.refl _ _),h.b w (Below.refl _ _),h.x w (Below.refl _ _),h.y w (Below.refl _ _),λr hr=>let ⟨v,hv⟩:=h.m r hr;⟨v,λW hW=>(hv W (hW.mono hb)).1,(hv w (Below.refl _ _)).2⟩⟩
theorem xp_ (h1 c1 h2 c2:Value) (qa qb:Per) (st:Int) (xv yv:Value) (g:Int) (mb base:Nat) (hv:Value) (l:List Int) (w:World) (hP:Ab base w h1 c1 h2 c2 qa qb st xv yv g mb)
  (hg:g=(Int.gcd qa.period qb.period:Nat)) (ha:1<=qa.period) (ha1:qa.period<=4294967295) (hb:1<=qb.period) (hb1:qb.period<=4294967295) (hL:aS qa.period qb.period<=1099511627776) (hs0:0<=st) (hs1:st<=562949953421312)
  (hx:aG 0 qa.period (ar (aj qa st))) (hy:aG 0 qb.period (ar (aj qb st))) (hown:ak w base hv l) (hbase:base<=w.heap.size)
  (hlen:l.length+(hZ (ar (aj qa st)) (ar (aj qb st)) qa.period qb.period st).length<=4398046511104) :
  Calls Tryz.prog 226 #[qU h1 c1 h2 c2 qa qb st xv yv g mb,hv] w (yt_ base (l ++ hZ (ar (aj qa st)) (ar (aj qb st)) qa.period qb.period st) w):=by
 have uM:=hP.at hbase;obtain ⟨⟨xa,xc,rfl,_⟩,nw,_⟩:=uM.x;obtain ⟨ya,yc,rfl⟩:∃ a c,yv=.slice a (ar (aj qb st)).length c:=by obtain ⟨⟨a,c,e,_⟩,_⟩:=uM.y;exact ⟨a,c,e⟩
 obtain ⟨a1,k1,a2,k2,rfl,rfl⟩:=uM.a.inn.form;obtain ⟨a3,k3,a4,k4,rfl,rfl⟩:=uM.b.inn.form;have HP:=ad hP;have hg1:=nL (b:=qb.period) ha;have HG:=ad hg;rw [<- hg] at hg1;have HX:=ad hx;have HY:=ad hy;have HM:=λk=>xn_ (xs:=ar (aj qa st)) (ys:=ar (aj qb st)) (a:=qa.period) (b:=qb.period) (st:=st) k;have fU:=λk=>t0_ (xs:=ar (aj qa st)) (ys:=ar (aj qb st)) (a:=qa.period) (b:=qb.period) (st:=st) (k:=k);rw [<- hg] at fU;have R8:=ad HM;have K3:=ad fU;obtain ⟨M,hM⟩:∃ M:Nat->List Int,M=λk=>hZ ((ar (aj qa st)).take k) (ar (aj qb st)) qa.period qb.period st:=⟨_,rfl⟩;have sA:=ad hM;have aM:=ad hown;have NX:M (ar (aj qa st)).length=hZ (ar (aj qa st)) (ar (aj qb st)) qa.period qb.period st:=by rw [hM];simp only [List.take_length]
 rw [<- NX];rw [<- NX] at hlen R8;clear hP uM hg hx hy HM fU hM hown NX;obtain ⟨rY,rZ,rfl⟩:=aM.o.form
 go_in
 go_wp2_with fail
 generalize hW0:w.alloc _=W0;have hE:Below base w W0:=by rw [<- hW0];exact (Below.refl _ _).alloc hbase _
 have hbx:af W0 w.heap.size #[.slice a1 qa.head.length k1,.int .i64 qa.frm,.int .i64 qa.period,.slice a2 qa.cycle.length k2,.slice a3 qb.head.length k3,.int .i64 qb.frm,.int .i64 qb.period,.slice a4 qb.cycle.length k4,.int .i64 st,.slice xa (ar (aj qa st)).length xc,.slice ya (ar (aj qb st)).length yc,.int .i64 g,.map (some mb)] 252:=by rw [<- hW0];exact af.new _ _ _
 have eW:ak W0 base (.slice rY l.length rZ) l:=by rw [<- hW0];exact aM.o.ext (Ea (Er _) _)
 have vl:∀ k,(Value.slice rY l.length rZ).ownBlock=some k->k≠w.heap.size:=λk hk=>by have:=(aM.o.lt k hk).2;omega
 have q9:=(hbx.cells 9).1;have HE:=ad hE;have cw:=ad hbx;have Ld:=ad eW;have K_:=ad vl;clear hW0 hbx hE eW vl;go_wp2;go_loopw [15,1] (λi h wr=>∃ k:Nat,k<=(ar (aj qa st)).length/\i=.int .i64 k/\ak wr base h (l ++ M k)/\af wr w.heap.size #[.slice a1 qa.head.length k1,.int .i64 qa.frm,.int .i64 qa.period,.slice a2 qa.cycle.length k2,.slice a3 qb.head.length k3,.int .i64 qb.frm,.int .i64 qb.period,.slice a4 qb.cycle.length k4,.int .i64 st,.slice xa (ar (aj qa st)).length xc,.slice ya (ar (aj qb st)).length yc,.int .i64 g,.map (some mb)] 252/\(∀ k,h.ownBlock=some k->k≠w.heap.size)/\Below base w wr) (λi _ _=>(ar (aj qa st)).length-(intOf i).toNat)
 .exact ⟨0,aa,rfl,by rw [sA.o];simpa [hZ] using Ld.o,cw.o,K_.o,HE.o⟩
 obtain ⟨k,hk,rfl,hown,hbx,cG,cq⟩:=hrel;have AD:=cq.size;have ju:w.heap.size<wr.heap.size:=hbx.lt;by_cases hlt:k<(ar (aj qa st)).length
 .have nz:=(hbx.cells 11).1;have th:=(hbx.cells 12).1;obtain ⟨⟨a8,c8,jM,_,_,dA⟩,_,_⟩:=HP.o.x wr cq;injection jM with cI eB dk
  subst cI;subst dk;rcases dA with dA|⟨b8,f8,rfl,hcell⟩
  .rw [dA] at hlt;simp at hlt
  have hcl:=hcell k hlt;have jS:=kH hlt;have Gn:=HX.o.2 _ jS;have hsu:=K3.o k hlt;have hle:=R8.o (k+1);have fM:(k:Int)<(ar (aj qa st)).length:=aa;generalize kn:(ar (aj qa st)).getD k 0=x at *;have hm0:=Int.emod_nonneg x (show g≠0 by omega);have hm1:=Int.emod_lt_of_pos x (show 0<g by omega);obtain ⟨v,kj⟩:=HP.o.m (x % g) ⟨aa,aa⟩;have OL:∀ y∈fZ (ar (aj qb st)) g (x % g),y∈ar (aj qb st)/\y % g=x % g:=λy hy=>by simpa [fZ] using hy
  have vz:M (k+1)=M k ++ (fZ (ar (aj qb st)) g (x % g)).map λy=>st+gx x qa.period y qb.period:=by rw [sA.o];exact hsu
  obtain ⟨zs,hzs⟩:∃ zs,zs=fZ (ar (aj qb st)) g (x % g):=⟨_,rfl⟩;rw [<- hzs] at kj OL vz;have NZ:(M (k+1)).length<=(M (ar (aj qa st)).length).length:=by rw [sA.o] at hle ⊢;exact hle
  rw [vz,List.length_append,List.length_map] at NZ;obtain ⟨va,vc,rfl⟩:∃ a c,v=.slice a zs.length c:=by obtain ⟨_,⟨⟨a,c,e,_⟩,_⟩⟩:=kj w (Below.refl _ _);exact ⟨a,c,e⟩
  obtain ⟨wo,pU⟩:∃ wo:World,wo=wr:=⟨_,rfl⟩;rw [<- pU] at hown hbx cq ju AD hcl hcell nz th ⊢;have hzl:zs.length<=17592186044416:=(kj w (Below.refl _ _)).2.len;have hL2:∀ nq,(Instr.lookup 250 (.map (some mb)) (.int .i64 (x % g)) false).run Tryz.prog (wo.drewN nq)=.ok (.slice va zs.length vc) (wo.drewN nq):=λnq=>(kj _ (Below.drewN cq nq)).1;obtain ⟨L8,NV⟩:∃ L8,L8=l ++ M k:=⟨_,rfl⟩;rw [<- NV] at hown;obtain ⟨hua,huc,rfl⟩:=hown.form;have G9:=ad NV;have HOWNo:=ad hown;have HBXo:=ad hbx;have HBWo:=ad cq;have HOBo:=ad cG;have Bm:=ad kj;have LG:=ad vz;have ye:=ad OL;clear hown hbx cq cG kj OL vz hcell hsu hle pU hzs NV;go_wp2_with fail;go_quiet (fail)
  go_wp2
  go_loopw [27,1] (λi h wr=>∃ j:Nat,j<=zs.length/\i=.int .i64 j/\ak wr base h (L8 ++ (zs.take j).map λy=>st+gx x qa.period y qb.period)/\af wr w.heap.size #[.slice a1 qa.head.length k1,.int .i64 qa.frm,.int .i64 qa.period,.slice a2 qa.cycle.length k2,.slice a3 qb.head.length k3,.int .i64 qb.frm,.int .i64 qb.period,.slice a4 qb.cycle.length k4,.int .i64 st,.slice (some ⟨b8,f8,none⟩) (ar (aj qa st)).length xc,.slice ya (ar (aj qb st)).length yc,.int .i64 g,.map (some mb)] 252/\(∀ k,h.ownBlock=some k->k≠w.heap.size)/\Below base w wr) (λi _ _=>zs.length-(intOf i).toNat)
  .exact ⟨0,aa,rfl,by rw [List.take_zero,List.map_nil,List.append_nil];exact HOWNo.o.ext (En (Er _) _),HBXo.o.below (En (Er _) _),HOBo.o,Below.drewN HBWo.o _⟩
  obtain ⟨j,hj,rfl,hown,hbx,cG,cq⟩:=hrel;have lI:=cq.size;have hbsr:w.heap.size<wr.heap.size:=hbx.lt;by_cases hlj:j<zs.length
  .have r2:=(hbx.cells 2).1;have r6:=(hbx.cells 6).1;have r8:=(hbx.cells 8).1;obtain ⟨_,⟨⟨a9,c9,zR,_,_,mW⟩,_,_⟩⟩:=Bm.o wr cq;injection zR with cI eB dk
   subst cI;subst dk;rcases mW with mW|⟨b9,f9,rfl,rr⟩
   .rw [mW] at hlj;simp at hlj
   have hcl9:=rr j hlj;have sa:=ye.o _ (kH hlj);have Cc:=HY.o.2 _ sa.1;have rD:(j:Int)<zs.length:=aa;have oj:(zs.take (j+1)).map (λy=>st+gx x qa.period y qb.period)=(zs.take j).map (λy=>st+gx x qa.period y qb.period) ++ [st+gx x qa.period (zs.getD j 0) qb.period]:=by
    rw [np_ _ hlj,List.getD_eq_getElem?_getD,List.getElem?_eq_getElem hlj];rfl
   generalize iF:zs.getD j 0=y at *;have ki:=Hy (x:=x) (a:=qa.period) (y:=y) (b:=qb.period) ha hb (by rw [<- HG.o];exact sa.2.symm);have hs5:0<=gx x qa.period y qb.period/\gx x qa.period y qb.period<=1099511627776:=⟨ki.1,by have:=ki.2.1;omega⟩;have hdiv:(y % qb.period-x % qa.period) % (Int.gcd qa.period qb.period:Nat)=0:=by
    rw [Int.emod_eq_of_lt Cc.1 Cc.2,Int.emod_eq_of_lt Gn.1 Gn.2,<- HG.o];exact Int.emod_eq_emod_iff_emod_sub_eq_zero.1 sa.2
   obtain ⟨sv,Gb⟩:∃ sv,sv=gx x qa.period y qb.period:=⟨_,rfl⟩;rw [<- Gb] at oj hs5;have Zj:=ad Gb;have mw:=ad hdiv;have gZ:=ad oj;have rI:(L8 ++ (zs.take j).map (λy=>st+gx x qa.period y qb.period)).length+1<=17592186044416:=by
    rw [G9.o];simp only [List.length_append,List.length_map,List.length_take];omega
   obtain ⟨L9,EL⟩:∃ L9,L9=L8 ++ (zs.take j).map (λy=>st+gx x qa.period y qb.period):=⟨_,rfl⟩;rw [<- EL] at hown rI;obtain ⟨ZW,ZX,rfl⟩:=hown.form;have KN:=ad EL;have ir:=ad hown;have xU:=ad hbx;have xS:=ad cq;have tN:=ad cG;clear hown hbx cq cG oj hdiv Gb ki rr iF sa EL;go_wp2_with (first|(go_at_call 248;refine (vq_ x qa.period y qb.period _ ⟨aa,aa⟩ ⟨aa,aa⟩ ha ha1 hb hb1 hL mw.o).mono ?_;rintro e w' ⟨he,nq,rfl⟩;rw [<- Zj.o] at he;subst he)|(at_builtin;refine o5_ az _ _ az base (.slice ZW L9.length ZX) L9 (st+sv) az (ir.o.ext (Ea (En (Er _) _) _)) _ _ az ((af.new (wr.drewN nq) #[.int .i64 (st+sv)] 3).cells 0).1 ⟨aa,aa⟩ rI (by rw [World.size_alloc,fE];omega) ?_;intro gg cap w5 aw aH bU jO));go_roundw
   .refine ⟨j+1,aa,by go_num,?_,?_,?_,?_⟩
    .rw [gZ.o,<- List.append_assoc,<- KN.o];exact aw
    .refine (aH.block _ (by rw [World.size_alloc,fE];omega) (λe=>tN.o _ e.symm rfl)).trans ((xU.o.below (En (Er _) nq)).alloc _)
    .intro k5 hk5;obtain rfl:gg=k5:=by simpa [Value.ownBlock] using hk5
     rcases jO with h5|h5
     .exact tN.o _ h5
     rw [World.size_alloc,fE] at h5;omega
    exact ((Below.drewN xS.o nq).alloc (by rw [fE];omega) _).trans bU
   simp [intOf];omega
  obtain rfl:j=zs.length:=aa;have ir:=ad hown;have xU:=ad hbx;have xS:=ad cq;have tN:=ad cG;clear hown hbx cq cG;go_wp2;go_roundw
  .refine ⟨k+1,aa,by go_num,?_,xU.o,tN.o,xS.o⟩;have:=ir.o;rw [List.take_length] at this;rw [LG.o,<- List.append_assoc,<- G9.o];exact this
  simp [intOf];omega
 obtain rfl:k=(ar (aj qa st)).length:=aa;have eU:=ad hown;obtain ⟨hua,huc,rfl⟩:=hown.form;have bH:=ad cq;clear hown cG hbx cq;go_wp2;go_ret;exact ⟨_,rfl,eU.o,bH.o⟩
theorem Wq {A B:Per} (hA:A.WF) (hf:A.frm=st):A.head.filter (bW B)=bC (λn=>A.mem n/\B.mem n) 0 st:=by
 refine (hA.head.filter _).ext (ff (Int.le_refl _)) λx=>?_;rw [List.mem_filter,dN (Int.le_refl _),hA.head_mem,hf];constructor
 .rintro ⟨⟨h1,h2,h3⟩,h4⟩;exact ⟨h1,h2,h3,(Ep h1).1 h4⟩
 rintro ⟨h1,h2,h3,h4⟩;exact ⟨⟨h1,h2,h3⟩,(Ep h1).2 h4⟩
theorem SJ (p:Int->Bool) (h:k<l.length):(l.take (k+1)).filter p=(l.take k).filter p ++ (if p (l.getD k 0)=true then [l.getD k 0] else []):=by
 rw [List.take_succ_eq_append_getElem h,List.filter_append,List.getD_eq_getElem?_getD,List.getElem?_eq_getElem h]
 congr 1
 by_cases hp:p l[k]=true <;> simp [hp]
theorem af.set4 {b:Nat} {x y z u x' y' z' u':Value} {t:TypeId} (h:af W b #[x,y,z,u] t) :
  af ((((W.setCell ⟨b,0,none⟩ x').setCell ⟨b,1,none⟩ y').setCell ⟨b,2,none⟩ z').setCell ⟨b,3,none⟩ u') b #[x',y',z',u'] t:=BI h
theorem af.drewB {b:Nat} {c:Array Value} {t:TypeId} (h:af W b c t):af W.drew b c t:=h
def V3 (l:List Int) (w:World) (e:Ending) (w':World):Prop:=∃ v,e=.returned v/\ak w' w.heap.size v l/\Below w.heap.size w w'
theorem uu_ (h1 c1 h2 c2:Value) (qa qb:Per) (st:Int) (xv yv:Value) (g:Int) (mb:Nat) (w:World) (hP:ur w h1 c1 h2 c2 qa qb st xv yv g mb) (AI:qa.WF) (pT:qb.WF) (hst:st=max qa.frm qb.frm)
  (f1:qa.frm<=1125899906842624) (f2:qb.frm<=1125899906842624) (t1:qa.period<=1125899906842624) (t2:qb.period<=1125899906842624) :
  Calls Tryz.prog 223 #[qU h1 c1 h2 c2 qa qb st xv yv g mb] w (V3 (bC (λn=>qa.mem n/\qb.mem n) 0 st) w):=by
 obtain ⟨xa,xc,rfl⟩:∃ a c,xv=.slice a (ar (aj qa st)).length c:=by obtain ⟨⟨a,c,e,_⟩,_⟩:=hP.x;exact ⟨a,c,e⟩
 obtain ⟨ya,yc,rfl⟩:∃ a c,yv=.slice a (ar (aj qb st)).length c:=by obtain ⟨⟨a,c,e,_⟩,_⟩:=hP.y;exact ⟨a,c,e⟩
 obtain ⟨a1,k1,a2,k2,rfl,rfl⟩:=hP.a.inn.form;obtain ⟨a3,k3,a4,k4,rfl,rfl⟩:=hP.b.inn.form;have HP:=ad hP;have DH:=ad AI;have v_:=ad pT;have HST:=ad hst;clear hP AI pT hst
 go_in
 go_wp2_with fail
 generalize hW0:w.alloc _=W0;have hE:Below w.heap.size w W0:=by rw [<- hW0];exact xE
 have hbx:af W0 w.heap.size #[.slice a1 qa.head.length k1,.int .i64 qa.frm,.int .i64 qa.period,.slice a2 qa.cycle.length k2,.slice a3 qb.head.length k3,.int .i64 qb.frm,.int .i64 qb.period,.slice a4 qb.cycle.length k4,.int .i64 st,.slice xa (ar (aj qa st)).length xc,.slice ya (ar (aj qb st)).length yc,.int .i64 g,.map (some mb)] 252:=by rw [<- hW0];exact af.new _ _ _
 clear hW0;have c0:W0.cell? ⟨w.heap.size,0,none⟩=some (.slice a1 qa.head.length k1):=(hbx.cells 0).1;have c1:W0.cell? ⟨w.heap.size,1,none⟩=some (.int .i64 qa.frm):=(hbx.cells 1).1;have c2:W0.cell? ⟨w.heap.size,2,none⟩=some (.int .i64 qa.period):=(hbx.cells 2).1;have c3:W0.cell? ⟨w.heap.size,3,none⟩=some (.slice a2 qa.cycle.length k2):=(hbx.cells 3).1;have c4:W0.cell? ⟨w.heap.size,4,none⟩=some (.slice a3 qb.head.length k3):=(hbx.cells 4).1;have c5:W0.cell? ⟨w.heap.size,5,none⟩=some (.int .i64 qb.frm):=(hbx.cells 5).1;have c6:W0.cell? ⟨w.heap.size,6,none⟩=some (.int .i64 qb.period):=(hbx.cells 6).1;have c7:W0.cell? ⟨w.heap.size,7,none⟩=some (.slice a4 qb.cycle.length k4):=(hbx.cells 7).1;have hz0:=hbx.lt;refine Code.wp_mono (Q:=λe a' W'=>e=.normal/\∃ (b3 b4:Nat) (u8 u9 u10 u11:Value),a'=⟨#[qU (.slice a1 qa.head.length k1) (.slice a2 qa.cycle.length k2) (.slice a3 qb.head.length k3) (.slice a4 qb.cycle.length k4) qa qb st (.slice xa (ar (aj qa st)).length xc) (.slice ya (ar (aj qb st)).length yc) g mb,.pointer (some ⟨w.heap.size,0,none⟩),.slice none 0 0,.pointer (some ⟨b3,0,none⟩),.pointer (some ⟨b4,0,none⟩),undef,undef,undef,u8,u9,u10,u11,undef,undef,undef,undef,undef,undef,undef,undef,undef,undef,undef,undef,undef,undef,undef,undef,undef,undef,undef,undef,undef,undef,undef],[]⟩/\af W' b3 #[.slice a1 qa.head.length k1,.int .i64 qa.frm,.int .i64 qa.period,.slice a2 qa.cycle.length k2] 80/\af W' b4 #[.slice a3 qb.head.length k3,.int .i64 qb.frm,.int .i64 qb.period,.slice a4 qb.cycle.length k4] 80/\Below W0.heap.size W0 W'/\W0.heap.size<=b3/\W0.heap.size<=b4/\b3≠b4) ?imp ?reg
 case reg=>
  go_region_held3 (λw'=>w'.cell? ⟨w.heap.size,0,none⟩=some (.slice a1 qa.head.length k1)/\w'.cell? ⟨w.heap.size,1,none⟩=some (.int .i64 qa.frm)/\w'.cell? ⟨w.heap.size,2,none⟩=some (.int .i64 qa.period)/\w'.cell? ⟨w.heap.size,3,none⟩=some (.slice a2 qa.cycle.length k2)/\w'.cell? ⟨w.heap.size,4,none⟩=some (.slice a3 qb.head.length k3)/\w'.cell? ⟨w.heap.size,5,none⟩=some (.int .i64 qb.frm)/\w'.cell? ⟨w.heap.size,6,none⟩=some (.int .i64 qb.period)/\w'.cell? ⟨w.heap.size,7,none⟩=some (.slice a4 qb.cycle.length k4)) ((go_split_ands;repeat' (with_reducible first|assumption|refine Bq ?_ ?_ _|refine fy ?_ _|refine Bv ?_|exact al.cell (by assumption) (by assumption)|apply And.intro|(exact Below.cell' (by assumption) (by assumption) (by first|(simp;done)|(simp;omega)|omega))|(refine Below.cell' (by assumption) ?_ (by first|(simp;done)|(simp;omega)|omega))|omega|(simp;done)|(simp;omega)))) (fail)
  all_goals (refine ⟨rfl,_,_,_,_,_,_,rfl,?_,?_,by exact xE,ag,ag,ag⟩ <;> (repeat' (first|exact af.at ag|refine af.alloc ?_ _|refine af.drewB ?_|refine BI ?_|refine af.setNe ?_ _ ag)))
 case imp=>
  rintro e a' W2 ⟨rfl,b3,b4,u8,u9,u10,u11,rfl,hx3,fS,pO,z3,z4,hne⟩;have cz:Below w.heap.size w W2:=by exact xE
  have hbx:=hbx.below pO;have hne':=hne.symm;clear c0 c1 c2 c3 c4 c5 c6 c7 pO;have Ol:W2.cell? ⟨b3,1,none⟩=some (.int .i64 qa.frm):=(hx3.cells 1).1;have Fq:W2.cell? ⟨w.heap.size,8,none⟩=some (.int .i64 st):=(hbx.cells 8).1;by_cases hcase:qa.frm=st
  .have hb:(qa.frm != st)=false:=by simp [hcase]
   go_upto_region 4 with (fail)
   have lH:=Wq (B:=qb) DH.o hcase;have yF:=ad lH;have y0:W2.cell? ⟨b3,0,none⟩=some (.slice a1 qa.head.length k1):=(hx3.cells 0).1;have J_:=ad fS;have hl9:=(HP.o.a).hd.len;have Pu:=cz.size;clear hx3 fS lH;go_wp2;go_loopw [22,5] (λi o wr=>∃ k:Nat,k<=qa.head.length/\i=.int .i64 k/\ak wr W2.heap.size o ((qa.head.take k).filter (bW qb))/\Below W2.heap.size W2 wr) (λi _ _=>qa.head.length-(intOf i).toNat)
   .exact ⟨0,aa,rfl,ak.nil _ _,Below.refl _ _⟩
   obtain ⟨k,hk,rfl,hown,cq⟩:=hrel;have dH:Below w.heap.size w wr:=Et cz cq;have lI:=cq.size;by_cases hlt:k<qa.head.length
   .have hb4:=J_.o.below cq;obtain ⟨⟨a8,c8,jM,_,_,dA⟩,_,vw⟩:=(HP.o.a.ext dH).hd;injection jM with cI eB dk
    subst cI;subst dk;rcases dA with dA|⟨b8,f8,rfl,hcell⟩
    .rw [dA] at hlt;simp at hlt
    have hcl:=hcell k hlt;have hyb:=(DH.o.head.2 _ (kH hlt));have hsu:=SJ (bW qb) hlt;have fM:(k:Int)<qa.head.length:=aa;have rJ:=List.length_filter_le (bW qb) (qa.head.take k);rw [List.length_take] at rJ;obtain ⟨y,iF⟩:∃ y,y=qa.head.getD k 0:=⟨_,rfl⟩;rw [<- iF] at hcl hyb hsu;obtain ⟨L,hL⟩:∃ L,L=(qa.head.take k).filter (bW qb):=⟨_,rfl⟩;rw [<- hL] at hown rJ hsu;obtain ⟨oa,oc,rfl⟩:=hown.form;have z0:wr.cell? ⟨b4,0,none⟩=some (.slice a3 qb.head.length k3):=(hb4.cells 0).1;have z1:wr.cell? ⟨b4,1,none⟩=some (.int .i64 qb.frm):=(hb4.cells 1).1;have z2:wr.cell? ⟨b4,2,none⟩=some (.int .i64 qb.period):=(hb4.cells 2).1;have z3:wr.cell? ⟨b4,3,none⟩=some (.slice a4 qb.cycle.length k4):=(hb4.cells 3).1;have aM:=ad hown;have bH:=ad cq;have gY:=ad hsu;clear hown cq hb4 hsu iF hL hcell;cases hm:bW qb y with
    | true=>
     have HM:=ad hm;clear hm;go_wp2_with (first|(go_at_call 245;refine (Bt _ _ qb y _ (HP.o.b.ext dH) v_.o aa aa aa aa).mono ?_;rintro e w5 ⟨he,hb5⟩;rw [HM.o] at he;subst he;have aw:=aM.o.ext hb5;have rV:=hb5.size)|(at_builtin;refine pA az _ _ az W2.heap.size (.slice oa L.length oc) L y az (aw.ext (Ea (Er _) _)) _ _ az ag ⟨aa,aa⟩ aa aO ?_;intro gg cap w6 cJ nf nX));go_roundw
     .refine ⟨k+1,aa,by go_num,?_,(((bH.o).trans (hb5.mono aa)).alloc aa _).trans nX⟩;rw [gY.o,HM.o,if_pos rfl];exact cJ
     simp [intOf];omega
    | false=>
     have HM:=ad hm;clear hm;go_wp2_with (go_at_call 245;refine (Bt _ _ qb y _ (HP.o.b.ext dH) v_.o aa aa aa aa).mono ?_;rintro e w5 ⟨he,hb5⟩;rw [HM.o] at he;subst he;have aw:=aM.o.ext hb5;have rV:=hb5.size);go_roundw
     .refine ⟨k+1,aa,by go_num,?_,(bH.o).trans (hb5.mono aa)⟩;rw [gY.o,HM.o,if_neg ag,List.append_nil];exact aw
     simp [intOf];omega
   obtain rfl:k=qa.head.length:=aa;rw [List.take_length,yF.o] at hown;obtain ⟨oa,oc,rfl⟩:=hown.form;have aM:=ad hown;clear hown;go_wp2;go_ret;exact ⟨_,rfl,aM.o.mono aa,dH⟩
  have hb:(qa.frm != st)=true:=by simp [hcase]
  have w0:W2.cell? ⟨b3,0,none⟩=some (.slice a1 qa.head.length k1):=(hx3.cells 0).1;have w1:W2.cell? ⟨b3,1,none⟩=some (.int .i64 qa.frm):=(hx3.cells 1).1;have w2:W2.cell? ⟨b3,2,none⟩=some (.int .i64 qa.period):=(hx3.cells 2).1;have w3:W2.cell? ⟨b3,3,none⟩=some (.slice a2 qa.cycle.length k2):=(hx3.cells 3).1;have x0:W2.cell? ⟨b4,0,none⟩=some (.slice a3 qb.head.length k3):=(fS.cells 0).1;have x1:W2.cell? ⟨b4,1,none⟩=some (.int .i64 qb.frm):=(fS.cells 1).1;have x2:W2.cell? ⟨b4,2,none⟩=some (.int .i64 qb.period):=(fS.cells 2).1;have x3:W2.cell? ⟨b4,3,none⟩=some (.slice a4 qb.cycle.length k4):=(fS.cells 3).1;have hw:=λi=>(hx3.cells i).2;have hx:=λi=>(fS.cells i).2;have Zt:=ad hx3;have kD:=ad fS;have Rg:=hw 0;have Rh:=hw 1;have Ri:=hw 2;have Rj:=hw 3;have Rk:=hx 0;have Rl:=hx 1;have Rm:=hx 2;have Rn:=hx 3;clear hw hx hx3 fS Ol;go_upto_region 4 with (fail)
  refine iR (F:=λW3=>af W3 b3 #[.slice a3 qb.head.length k3,.int .i64 qb.frm,.int .i64 qb.period,.slice a4 qb.cycle.length k4] 80/\af W3 b4 #[.slice a1 qa.head.length k1,.int .i64 qa.frm,.int .i64 qa.period,.slice a2 qa.cycle.length k2] 80/\Below w.heap.size w W3)
   ⟨by (repeat' (with_reducible first|exact Zt.o.set4|refine af.setNe ?_ _ aa)),by (apply af.set4;repeat' (with_reducible first|exact kD.o|refine af.setNe ?_ _ aa)),xE⟩ ?_
  clear cz hbx Fq w0 w1 w2 w3 x0 x1 x2 x3 Rg Rh Ri Rj Rk Rl Rm Rn;rintro W3 ⟨hx3,fS,cz⟩;have hfb:qb.frm=st:=by have:=HST.o;omega
  have lH:qb.head.filter (bW qa)=bC (λn=>qa.mem n/\qb.mem n) 0 st:=(Wq v_.o hfb).trans (P5 (Int.le_refl _) λn=>And.comm);clear hfb;have yF:=ad lH;have y0:W3.cell? ⟨b3,0,none⟩=some (.slice a3 qb.head.length k3):=(hx3.cells 0).1;have J_:=ad fS;have hl9:=(HP.o.b).hd.len;have Pu:=cz.size;clear hx3 fS lH;go_wp2;go_loopw [22,5] (λi o wr=>∃ k:Nat,k<=qb.head.length/\i=.int .i64 k/\ak wr W3.heap.size o ((qb.head.take k).filter (bW qa))/\Below W3.heap.size W3 wr) (λi _ _=>qb.head.length-(intOf i).toNat)
  .exact ⟨0,aa,rfl,ak.nil _ _,Below.refl _ _⟩
  obtain ⟨k,hk,rfl,hown,cq⟩:=hrel;have dH:Below w.heap.size w wr:=Et cz cq;have lI:=cq.size;by_cases hlt:k<qb.head.length
  .have hb4:=J_.o.below cq;obtain ⟨⟨a8,c8,jM,_,_,dA⟩,_,vw⟩:=(HP.o.b.ext dH).hd;injection jM with cI eB dk
   subst cI;subst dk;rcases dA with dA|⟨b8,f8,rfl,hcell⟩
   .rw [dA] at hlt;simp at hlt
   have hcl:=hcell k hlt;have hyb:=(v_.o.head.2 _ (kH hlt));have hsu:=SJ (bW qa) hlt;have fM:(k:Int)<qb.head.length:=aa;have rJ:=List.length_filter_le (bW qa) (qb.head.take k);rw [List.length_take] at rJ;obtain ⟨y,iF⟩:∃ y,y=qb.head.getD k 0:=⟨_,rfl⟩;rw [<- iF] at hcl hyb hsu;obtain ⟨L,hL⟩:∃ L,L=(qb.head.take k).filter (bW qa):=⟨_,rfl⟩;rw [<- hL] at hown rJ hsu;obtain ⟨oa,oc,rfl⟩:=hown.form;have z0:wr.cell? ⟨b4,0,none⟩=some (.slice a1 qa.head.length k1):=(hb4.cells 0).1;have z1:wr.cell? ⟨b4,1,none⟩=some (.int .i64 qa.frm):=(hb4.cells 1).1;have z2:wr.cell? ⟨b4,2,none⟩=some (.int .i64 qa.period):=(hb4.cells 2).1;have z3:wr.cell? ⟨b4,3,none⟩=some (.slice a2 qa.cycle.length k2):=(hb4.cells 3).1;have aM:=ad hown;have bH:=ad cq;have gY:=ad hsu;clear hown cq hb4 hsu iF hL hcell;cases hm:bW qa y with
   | true=>
    have HM:=ad hm;clear hm;go_wp2_with (first|(go_at_call 245;refine (Bt _ _ qa y _ (HP.o.a.ext dH) DH.o aa aa aa aa).mono ?_;rintro e w5 ⟨he,hb5⟩;rw [HM.o] at he;subst he;have aw:=aM.o.ext hb5;have rV:=hb5.size)|(at_builtin;refine pA az _ _ az W3.heap.size (.slice oa L.length oc) L y az (aw.ext (Ea (Er _) _)) _ _ az ag ⟨aa,aa⟩ aa aO ?_;intro gg cap w6 cJ nf nX));go_roundw
    .refine ⟨k+1,aa,by go_num,?_,(((bH.o).trans (hb5.mono aa)).alloc aa _).trans nX⟩;rw [gY.o,HM.o,if_pos rfl];exact cJ
    simp [intOf];omega
   | false=>
    have HM:=ad hm;clear hm;go_wp2_with (go_at_call 245;refine (Bt _ _ qa y _ (HP.o.a.ext dH) DH.o aa aa aa aa).mono ?_;rintro e w5 ⟨he,hb5⟩;rw [HM.o] at he;subst he;have aw:=aM.o.ext hb5;have rV:=hb5.size);go_roundw
    .refine ⟨k+1,aa,by go_num,?_,(bH.o).trans (hb5.mono aa)⟩;rw [gY.o,HM.o,if_neg ag,List.append_nil];exact aw
    simp [intOf];omega
  obtain rfl:k=qb.head.length:=aa;rw [List.take_length,yF.o] at hown;obtain ⟨oa,oc,rfl⟩:=hown.form;have aM:=ad hown;clear hown;go_wp2;go_ret;exact ⟨_,rfl,aM.o.mono aa,dH⟩
def nQ (q:Per) (l:List Int) (n:Int):List Int:=if bW q n=true then l else l ++ [n]
def ys_ (base:Nat) (lv:Value) (l:List Int) (w:World) (e:Ending) (w':World):Prop:=∃ v,e=.returned v/\ak w' base v l/\w.grownBy w' lv.ownBlock
theorem Ql (a1 a2 a3 a4:Option Addr) (k1 k2 k3 k4:Nat) (qa qb:Per) (st:Int) (xv yv:Value) (g:Int) (mb pb base:Nat) (lv:Value) (l:List Int) (n:Int) (w:World) (hbx:af w pb #[.slice a1 qa.head.length k1,.int .i64 qa.frm,.int .i64 qa.period,.slice a2 qa.cycle.length k2,.slice a3 qb.head.length k3,.int .i64 qb.frm,.int .i64 qb.period,.slice a4 qb.cycle.length k4,.int .i64 st,xv,yv,.int .i64 g,.map (some mb)] 252)
  (hq:bX w (.slice a3 qb.head.length k3) (.slice a4 qb.cycle.length k4) qb) (xw:qb.WF) (f1:qb.frm<=1125899906842624) (t1:qb.period<=1125899906842624) (h0:0<=n) (h1:n<=9007199254740992)
  (hown:ak w base lv l) (hbase:base<=w.heap.size) (hlen:l.length+1<=17592186044416) :
  Calls Tryz.prog 251 #[lv,.int .i64 n,.pointer (some ⟨pb,0,none⟩)] w (ys_ base lv (nQ qb l n) w):=by
 have c4:w.cell? ⟨pb,4,none⟩=some (.slice a3 qb.head.length k3):=(hbx.cells 4).1;have c5:w.cell? ⟨pb,5,none⟩=some (.int .i64 qb.frm):=(hbx.cells 5).1;have c6:w.cell? ⟨pb,6,none⟩=some (.int .i64 qb.period):=(hbx.cells 6).1;have c7:w.cell? ⟨pb,7,none⟩=some (.slice a4 qb.cycle.length k4):=(hbx.cells 7).1;obtain ⟨oa,oc,rfl⟩:=hown.form;have aM:=ad hown;have HW:=ad xw;clear hown xw hbx;cases hm:bW qb n with
 | true=>
  have hk:nQ qb l n=l:=by unfold nQ;rw [if_pos hm]
  rw [hk];have HM:=ad hm;clear hm hk
  go_in
  go_wp2_with (go_at_call 245;refine (Bt _ _ qb n _ hq HW.o aa aa aa aa).mono ?_;rintro e w5 ⟨he,hb5⟩;rw [HM.o] at he;subst he)
  go_ret;exact ⟨_,rfl,aM.o.ext hb5,World.grownBy.of_below hb5 _⟩
 | false=>
  have hk:nQ qb l n=l ++ [n]:=by unfold nQ;rw [if_neg (by simp [hm])]
  rw [hk];have HM:=ad hm;clear hm hk
  go_in
  go_wp2_with (first|(go_at_call 245;refine (Bt _ _ qb n _ hq HW.o aa aa aa aa).mono ?_;rintro e w5 ⟨he,hb5⟩;rw [HM.o] at he;subst he;have aw:=aM.o.ext hb5;have rV:=hb5.size)|(at_builtin;refine pA az _ _ az base (.slice oa l.length oc) l n az (aw.ext (Ea (Er _) _)) _ _ az ag ⟨aa,aa⟩ hlen aO ?_;intro gg cap w6 cJ nf nX))
  go_ret;exact ⟨_,rfl,cJ,((World.grownBy.of_below hb5 _).trans (World.grownBy_alloc _ _ _)).trans nf⟩
end
section
open Go.RowKit Go.Shelf Go.Maps Kal
attribute [local go_sem] Oper.semAt_some
def jG (q:Per) (l:List Int):List Int:=l.filter λn=>!bW q n
theorem Qk (q:Per) (l:List Int):(jG q l).length<=l.length:=List.length_filter_le _ _
theorem Vb (q:Per) (l:List Int) (y:Int):jG q (l ++ [y])=nQ q (jG q l) y:=by
 unfold jG nQ;rw [List.filter_append];cases h:bW q y <;> simp [h]
theorem af.grown {b:Nat} {c:Array Value} {t:TypeId} (h:af W b c t) (hg:W.grownBy W1 row) (hne:some b≠row):af W1 b c t:=(hg.block b h.lt hne).trans h
theorem VH (q:Per) (A l:List Int) (y:Int):A ++ nQ q l y=nQ q (A ++ l) y:=by
 unfold nQ;split <;> simp
theorem QN {L:Int} {m:Nat} (hx0:0<=x) (hx:x<a) (hL:L=R*a) (hm:m<=R):(x+m*a<L↔m<R)/\0<=(m:Int)*a/\(m:Int)*a<=L:=by
 have h1:(m:Int)*a<=(R:Int)*a:=Int.mul_le_mul_of_nonneg_right aa aa;have h2:0<=(m:Int)*a:=Int.mul_nonneg aa aa;refine ⟨⟨λh=>?_,λh=>?_⟩,h2,aa⟩
 .rcases Nat.lt_or_ge m R with h3|h3
  .exact h3
  obtain rfl:m=R:=aa;omega
 have h3:((m+1:Nat):Int)*a<=(R:Int)*a:=Int.mul_le_mul_of_nonneg_right aa aa;push_cast at h3;rw [Int.add_mul] at h3;omega
def jr (q:Per) (st a x:Int) (m:Nat):List Int:=jG q ((upto m).map λj=>st+(x+j*a))
theorem Vg (q:Per) (st a x:Int) (m:Nat):jr q st a x (m+1)=nQ q (jr q st a x m) (st+(x+m*a)):=by
 unfold jr;rw [<- Vb]
 congr 1
 unfold upto;rw [List.range_succ];simp
theorem Qt (q:Per) (st a x:Int) (m:Nat):(jr q st a x m).length<=m:=by
 unfold jr;refine Nat.le_trans (Qk _ _) ?_;simp [upto]
noncomputable def qV (qa qb:Per) (st g:Int) (xs ys:List Int) (R k:Nat):List Int:=
 jG qb (bC qa.mem 0 st) ++ (xs.take k).flatMap λx=>if pK ys g qb.period x=true then [] else jr qb st qa.period x R
theorem Vr {g:Int} {xs:List Int} (h:k<xs.length):qV qa qb st g xs ys R (k+1)=qV qa qb st g xs ys R k ++ if pK ys g qb.period (xs.getD k 0)=true then [] else jr qb st qa.period (xs.getD k 0) R:=by
 unfold qV;rw [List.take_succ_eq_append_getElem h,List.flatMap_append,List.getD_eq_getElem?_getD,List.getElem?_eq_getElem h];simp
theorem yd_ {g:Int} {xs:List Int} (h0:0<=st) (h:k<=xs.length):((qV qa qb st g xs ys R k).length:Int)<=st+k*R:=by
 induction k with
 | zero=>
  unfold qV;have h1:=Qk qb (bC qa.mem 0 st);have h2:=(ff (S:=qa.mem) (lo:=0) (hi:=st) (Int.le_refl _)).length_le h0;simp;omega
 | succ k ih=>
  have:=ih aa;rw [Vr aa,List.length_append];have h3:(if pK ys g qb.period (xs.getD k 0)=true then [] else jr qb st qa.period (xs.getD k 0) R).length<=R:=by
   split
   .simp
   exact Qt _ _ _ _ _
  push_cast;rw [Int.add_mul];omega
theorem Un {D:Nat} {x:Option (List Deferred)} (h:W.heap[D]? = some (.deferred x)) (ho:ak W base v l) (hg:W.grownBy W1 v.ownBlock):W1.heap[D]? = some (.deferred x):=by
 refine (hg.block D (Array.getElem?_eq_some_iff.1 h).1 λe=>?_).trans h;obtain ⟨o,h1,h2⟩:=ho.row_cells D e.symm;rw [h] at h1;cases h1;cases h2
structure WO (w:World) (pc:Array Value) (base:Nat) (v:Value) (l:List Int) (W:World):Prop where
 below:Below w.heap.size w W
 pbx:af W w.heap.size pc 252
 kbx:af W (w.heap.size+1) #[.func (.func 251) #[] #[.pointer (some ⟨w.heap.size,0,none⟩)]] 270
 obx:af W (w.heap.size+2) #[v] 35
 own:ak W base v l
 sz:base<=W.heap.size
 hb:w.heap.size+3<=base
theorem WO.grow {pc:Array Value} (h:WO w pc base v l W) (hg:W.grownBy W' row)
  (hr:∀ r,row=some r->w.heap.size<=r/\((w.heap.size+3<=r/\r<base)\/∃ o:Obj,W.heap[r]? = some o/\o.isCells=false)):WO w pc base v l W':=by
 have key:∀ {b:Nat} {c:Array Value} {t:TypeId},af W b c t->b<w.heap.size+3->af W' b c t:=λ{b c t} hx iW=>by
  refine (hg.block b hx.lt λe=>?_).trans hx;obtain ⟨_,h1|⟨o,ho,hc⟩⟩:=hr b e.symm
  .omega
  rw [show W.heap[b]? = _ from hx] at ho;cases ho;cases hc
 refine ⟨h.below.grown hg h.below.size (λk e=>(hr k e).1),key h.pbx aa,key h.kbx aa,key h.obx aa,h.own.kept hg ?_,Nat.le_trans h.sz hg.size,h.hb⟩;rcases cG:v.ownBlock with _|g
 .exact .inl rfl
 refine .inr λe=>?_;have hlt:=h.own.lt g cG;obtain ⟨o2,h2,h3⟩:=h.own.row_cells g cG;obtain ⟨_,h1|⟨o,ho,hc⟩⟩:=hr g e.symm
 .omega
 rw [h2] at ho;cases ho;rw [hc] at h3;cases h3
theorem WO.step {pc:Array Value} {l':List Int} (h:WO w pc base v l W) (hg:W.grownBy W1 v.ownBlock) (ho:ak W1 base v' l'):WO w pc base v' l' (W1.setCell ⟨w.heap.size+2,0,none⟩ v'):=by
 have hbk:=h.hb;have key:∀ {b:Nat} {c:Array Value} {t:TypeId},af W b c t->b<w.heap.size+3->af W1 b c t:=λ{b c t} hx iW=>by
  refine (hg.block b hx.lt λe=>?_).trans hx;have:=(h.own.lt b e.symm).1;omega
 have bQ:Below w.heap.size w W1:=h.below.grown hg h.below.size λk e=>by have:=(h.own.lt k e).1;omega
 refine ⟨bQ.setCell (p:=⟨w.heap.size+2,0,none⟩) ag _,(key h.pbx aa).setNe _ aa,(key h.kbx aa).setNe _ aa,br 0 _ (key h.obx aa),?_,by have:=h.sz;have:=hg.size;simp [World.setCell];omega,hbk⟩;exact ho.above ((b7.refl _ W1).setCell aO _)
theorem qq_ (h1 c1 h2 c2:Value) (qa qb:Per) (st:Int) (xv yv:Value) (g:Int) (mb:Nat) (L:Int) (w:World) (hP:ur w h1 c1 h2 c2 qa qb st xv yv g mb) (AI:qa.WF) (pT:qb.WF) (hs1:qa.frm<=st) (hs2:st<=4398046511104) (R:Nat) (uL:L=R*qa.period) (fO:L<=1099511627776) (hx:aG 0 qa.period (ar (aj qa st))) (hg:1<=g) (hg1:g<=562949953421312)
  (f2:qb.frm<=1125899906842624) (t1:qa.period<=562949953421312) (t2:qb.period<=562949953421312) :
  Calls Tryz.prog 229 #[qU h1 c1 h2 c2 qa qb st xv yv g mb,.int .i64 L] w (V3 (qV qa qb st g (ar (aj qa st)) (ar (aj qb st)) R (ar (aj qa st)).length) w):=by
 obtain ⟨xa,xc,rfl⟩:∃ a c,xv=.slice a (ar (aj qa st)).length c:=by obtain ⟨⟨a,c,e,_⟩,_⟩:=hP.x;exact ⟨a,c,e⟩
 obtain ⟨ya,yc,rfl⟩:∃ a c,yv=.slice a (ar (aj qb st)).length c:=by obtain ⟨⟨a,c,e,_⟩,_⟩:=hP.y;exact ⟨a,c,e⟩
 obtain ⟨a1,k1,a2,k2,rfl,rfl⟩:=hP.a.inn.form;obtain ⟨a3,k3,a4,k4,rfl,rfl⟩:=hP.b.inn.form;have vS:=ad uL;clear uL;refine callsIn_wide (n:=0).1 ?_;refine callsIn_of_wp_marks Tryz.func229 rfl trivial ?_ rfl;simp only [Tryz.ntmps229,List.size_toArray,List.length_cons,List.length_nil,Nat.reduceAdd,Nat.reduceSub,Array.replicate_succ,Array.replicate_zero,List.push_toArray,List.append_toArray,List.nil_append,List.cons_append];gi_wp2_with (refine ⟨trivial,rfl,?_⟩;gi_at_call 250;refine (callsIn_wide.2 (Wm _ _ qa 0 _ ⟨_,_,_,_,_,_,rfl,rfl⟩)).mono ?_;rintro e w' ⟨rfl,rfl⟩);generalize hW0:((((w.alloc _).alloc _).alloc _).alloc _).alloc _=W0;have hE:Below w.heap.size w W0:=by rw [<- hW0];exact xE
 have hsz:W0.heap.size=w.heap.size+5:=by rw [<- hW0];simp
 have bJ:af W0 w.heap.size #[.slice a1 qa.head.length k1,.int .i64 qa.frm,.int .i64 qa.period,.slice a2 qa.cycle.length k2,.slice a3 qb.head.length k3,.int .i64 qb.frm,.int .i64 qb.period,.slice a4 qb.cycle.length k4,.int .i64 st,.slice xa (ar (aj qa st)).length xc,.slice ya (ar (aj qb st)).length yc,.int .i64 g,.map (some mb)] 252:=by rw [<- hW0];exact ((((af.at rfl).alloc _).alloc _).alloc _).alloc _
 have hkb:af W0 (w.heap.size+1) #[.func (.func 251) #[] #[.pointer (some ⟨w.heap.size,0,none⟩)]] 270:=by rw [<- hW0];exact (((af.at ag).alloc _).alloc _).alloc _
 have cG:af W0 (w.heap.size+2) #[.slice none 0 0] 35:=by rw [<- hW0];exact ((af.at ag).alloc _).alloc _
 have hfb:af W0 (w.heap.size+3) #[.slice a1 qa.head.length k1,.int .i64 qa.frm,.int .i64 qa.period,.slice a2 qa.cycle.length k2] 80:=by rw [<- hW0];exact (af.at ag).alloc _
 have fQ:af W0 (w.heap.size+4) #[.int .i64 0] 3:=by rw [<- hW0];exact af.at ag
 have hz1:W0.heap.size<=w.heap.size+5:=aa;have hz2:w.heap.size+5<=W0.heap.size:=aa;have vo:=hP.a.ext hE;have hin:=hP.a.inn;have hf0:=AI.frm;have vm:=AI.per;have fs:=pT.per;obtain ⟨WL,EZ⟩:∃ WL:Nat->List Int,WL=qV qa qb st g (ar (aj qa st)) (ar (aj qb st)) R:=⟨_,rfl⟩;have E5:WL 0=jG qb (bC qa.mem 0 st):=by rw [EZ];simp [qV]
 have DK:Hid (∀ k,k<(ar (aj qa st)).length->WL (k+1)=WL k ++ if pK (ar (aj qb st)) g qb.period ((ar (aj qa st)).getD k 0)=true then [] else jr qb st qa.period ((ar (aj qa st)).getD k 0) R):=ad (by rw [EZ];exact λk hk=>Vr hk);have DJ:Hid (∀ k,k<(ar (aj qa st)).length->(WL k).length+R<=8796093022208):=ad (λk hk=>by
  have h1:=yd_ (qa:=qa) (qb:=qb) (g:=g) (ys:=ar (aj qb st)) (R:=R) (k:=k) (xs:=ar (aj qa st)) (show 0<=st by omega) aa;rw [<- EZ] at h1;have h2:((k+1:Nat):Int)*R<=qa.period*R:=Int.mul_le_mul_of_nonneg_right (by have:=hx.length_le aa;omega) aa;rw [Int.mul_comm qa.period,<- vS.o] at h2;push_cast at h2;rw [Int.add_mul] at h2;omega)
 have E6:WL (ar (aj qa st)).length=qV qa qb st g (ar (aj qa st)) (ar (aj qb st)) R (ar (aj qa st)).length:=by rw [EZ]
 have HWLe:=ad E6;have HX:=ad hx;have DI:=ad E5;clear EZ E6 hx E5;have sU:WO w #[.slice a1 qa.head.length k1,.int .i64 qa.frm,.int .i64 qa.period,.slice a2 qa.cycle.length k2,.slice a3 qb.head.length k3,.int .i64 qb.frm,.int .i64 qb.period,.slice a4 qb.cycle.length k4,.int .i64 st,.slice xa (ar (aj qa st)).length xc,.slice ya (ar (aj qb st)).length yc,.int .i64 g,.map (some mb)] W0.heap.size (.slice none 0 0) (jG qb []) W0:=⟨hE,bJ,hkb,cG,ak.nil _ _,Nat.le_refl _,aa⟩;have HST:=ad sU;have HP:=ad hP;have DH:=ad AI;have v_:=ad pT;clear hW0 hsz sU bJ hkb cG hP pT;have mV:∀ (v:Value) (l:List Int),IntsIn w 0 w.heap.size v l->l≠[]->∀ b o n c',v=.slice (some ⟨b,o,none⟩) n c'->b<w.heap.size:=λv l hi hl b o n c' he=>(hi.blk hl b (by rw [he];rfl)).2;simp only [Nat.add_assoc,Nat.reduceAdd];refine Nx (x:=some (w.heap.size+4)) (gf:=259) (lb:=#[.pointer (some ⟨w.heap.size+3,0,none⟩),.pointer (some ⟨w.heap.size+4,0,none⟩)]) rfl (enters_of Tryz.func259 (by kernel_rfl) rfl)
  (Wn (.slice a1 qa.head.length k1) (.slice a2 qa.cycle.length k2) qa 0 (w.heap.size+3) (w.heap.size+4) W0 (λk=>k<w.heap.size\/k=w.heap.size+3\/k=w.heap.size+4) vo AI aa aa aa aa hfb fQ (.inr (.inl rfl)) (.inr (.inr rfl))
   (λhl b o n c' he=>.inl (mV _ _ hin.hd hl b o n c' he)) (λhl b o n c' he=>⟨.inl (mV _ _ hin.cy hl b o n c' he),by have:=mV _ _ hin.cy hl b o n c' he;omega⟩) aa)
  (λh k=>h.trans k) (cX.putObj (by intro k hk;omega)) (λy=>rfl)
  (λpre W'=>(∀ x∈pre,x<st)/\∃ v,WO w #[.slice a1 qa.head.length k1,.int .i64 qa.frm,.int .i64 qa.period,.slice a2 qa.cycle.length k2,.slice a3 qb.head.length k3,.int .i64 qb.frm,.int .i64 qb.period,.slice a4 qb.cycle.length k4,.int .i64 st,.slice xa (ar (aj qa st)).length xc,.slice ya (ar (aj qb st)).length yc,.int .i64 g,.map (some mb)] W0.heap.size v (jG qb pre) W')
  (λc' _ W'=>c'=.exit 0/\∃ v,WO w #[.slice a1 qa.head.length k1,.int .i64 qa.frm,.int .i64 qa.period,.slice a2 qa.cycle.length k2,.slice a3 qb.head.length k3,.int .i64 qb.frm,.int .i64 qb.period,.slice a4 qb.cycle.length k4,.int .i64 st,.slice xa (ar (aj qa st)).length xc,.slice ya (ar (aj qb st)).length yc,.int .i64 g,.map (some mb)] W0.heap.size v (jG qb (bC qa.mem 0 st)) W')
  (λpre A C row hI hg hr=>⟨hI.1,hI.2.choose,hI.2.choose_spec.grow hg λr e=>by
   rcases hr r e with ⟨h,_⟩|⟨h,h'⟩
   .injection h with h;exact ⟨aa,.inl ⟨aa,aa⟩⟩
   exact ⟨aa,.inr h'⟩⟩)
  (λc' pre A C row hI hg hr=>⟨hI.1,hI.2.choose,hI.2.choose_spec.grow hg λr e=>by
   rcases hr r e with ⟨h,_⟩|⟨h,h'⟩
   .injection h with h;exact ⟨aa,.inl ⟨aa,aa⟩⟩
   exact ⟨aa,.inr h'⟩⟩)
  (λpre W' hI x hx=>by have:=hI.1 x hx;omega) ⟨ag,_,HST.o⟩
  (λy=>⟨#[qU (.slice a1 qa.head.length k1) (.slice a2 qa.cycle.length k2) (.slice a3 qb.head.length k3) (.slice a4 qb.cycle.length k4) qa qb st (.slice xa (ar (aj qa st)).length xc) (.slice ya (ar (aj qb st)).length yc) g mb,.int .i64 L,.pointer (some ⟨w.heap.size,0,none⟩),undef,.slice none 0 0,.pointer (some ⟨w.heap.size+1,0,none⟩),.pointer (some ⟨w.heap.size+2,0,none⟩),(.int .i64 y),undef,undef,undef,.func (Fn.func 251) #[] #[.pointer (some ⟨w.heap.size,0,none⟩)],.pointer (some ⟨w.heap.size,0,none⟩),.agg #[.slice a1 qa.head.length k1,.int .i64 qa.frm,.int .i64 qa.period,.slice a2 qa.cycle.length k2],.func (.func 259) #[] #[.pointer (some ⟨w.heap.size+3,0,none⟩),.pointer (some ⟨w.heap.size+4,0,none⟩)],(.int .i64 y),undef,undef,undef,undef,undef,undef,undef,undef,undef,undef,undef,undef,undef,undef,undef,undef,undef,undef,undef,undef,undef,undef,undef,undef,undef,undef,undef,undef,undef,undef,undef,undef,undef,undef,undef,undef],[]⟩) ?assign ?body ?done ?stop
 case assign=>
  intro l y W' K hK
  gi_wp2
  exact hK
 case body=>
  rintro l pre y W' ⟨hlt,v,aZ⟩ hen;obtain ⟨hy1,hy2,Gp,Gq⟩:=xN.last (Int.le_refl 0) hen;obtain ⟨va,vc,rfl⟩:=aZ.own.form;have p8:W'.cell? ⟨w.heap.size,8,none⟩=some (.int .i64 st):=(aZ.pbx.cells 8).1;have q1:W'.cell? ⟨w.heap.size+1,0,none⟩=some (.func (.func 251) #[] #[.pointer (some ⟨w.heap.size,0,none⟩)]):=(aZ.kbx.cells 0).1;have q2:W'.cell? ⟨w.heap.size+2,0,none⟩=some (.slice va (jG qb pre).length vc):=(aZ.obx.cells 0).1;have q3:W'.frozen? ⟨w.heap.size+2,0,none⟩=false:=(aZ.obx.cells 0).2;have hown:=aZ.own;have hsz:=aZ.sz;have qE:=ad aZ;have H3:=ad Gp;have H4:=ad Gq;have ee:=aZ.below.size;have TN:pre.length<=4398046511104:=by
   have h9:=ff (S:=qa.mem) (lo:=0) (hi:=y) (Int.le_refl _);rw [<- H3.o] at h9;have:=(show aG 0 st pre from ⟨h9.1,λx hx=>⟨(h9.2 x hx).1,hlt x hx⟩⟩).length_le aa;omega
  clear Gp Gq aZ hen;by_cases hc:y<st
  .have ng:=Qk qb pre;have OV:=Vb qb pre y;obtain ⟨KL,pP⟩:∃ KL,KL=nQ qb (jG qb pre) y:=⟨_,rfl⟩;rw [<- pP] at OV;obtain ⟨K,hK⟩:∃ K,K=jG qb pre:=⟨_,rfl⟩;rw [<- hK] at pP;have su:=ad pP;have gj:=qE.o.obx;rw [<- hK] at gj;have qw:=ad gj;rw [<- hK] at ng hown q2;have KJ:=ad OV;have HK:=ad hK;have aM:=ad hown;clear OV hK hown pP gj;gi_wp2_with (refine ⟨trivial,rfl,?_⟩;gi_at_call 251;refine (CallsIn.inRound l (callsIn_wide.2 (Ql a1 a2 a3 a4 k1 k2 k3 k4 qa qb st _ _ g mb w.heap.size W0.heap.size (.slice va K.length vc) K y _ qE.o.pbx (HP.o.b.ext qE.o.below) v_.o f2 aa aa aa aM.o aa aa))).mono ?_;rintro e w5 ⟨v5,rfl,aw,n_⟩;rw [<- su.o] at aw;obtain ⟨XJ,XK,rfl⟩:=aw.form;have F3:=qw.o.grown n_ (λe=>by have IB:=aM.o.lt _ e.symm;omega);have r1:=(F3.cells 0).1;have r2:=(F3.cells 0).2);have rV:=n_.size;refine ⟨(KeepsOthers.trans (KeepsOthers.grown_cells (KeepsOthers.refl W') n_ (ak.row_cells aM.o)) (KeepsOthers.setCell w5 ⟨w.heap.size+2,0,none⟩ (.slice XJ KL.length XK))).from _,λk hk=>?_,λx hx=>?_,.slice XJ KL.length XK,?_⟩
   .rw [qN aa,n_.block k aa (λe=>by have:=aM.o.lt k e.symm;omega)]
   .rcases List.mem_append.1 hx with hx|hx
    .exact hlt x hx
    obtain rfl:x=y:=by simpa using hx
    exact hc
   rw [KJ.o];exact WO.step (by have:=qE.o;rw [<- HK.o] at this;exact this) n_ aw
  have hge:st<=y:=aa
  gi_wp2
  refine ⟨KeepsFrom.refl _ _,rfl,.slice va (jG qb pre).length vc,?_⟩;have e:pre=bC qa.mem 0 st:=by
   rw [H3.o];exact Iy (Int.le_refl 0) (λx hx=>hlt x (by rw [H3.o];exact hx)) (λx _ _ hx=>aa)
  rw [<- e];exact qE.o
 case done=>
  rintro D xs W' hD ⟨n,hn,rfl⟩ ⟨hlt,v,aZ⟩ aJ;have e:=Iy (Int.le_refl 0) hlt (λx hx _ _=>hn x hx);rw [e] at aZ;clear e hlt;obtain ⟨va,vc,rfl⟩:=aZ.own.form;have p9:W'.cell? ⟨w.heap.size,9,none⟩=some (.slice xa (ar (aj qa st)).length xc):=(aZ.pbx.cells 9).1;rw [<- DI.o] at aZ;have qE:=ad aZ;have fC:=ad aJ;clear aZ aJ;gi_wp2_with fail;refine wpIn_wide.2 ?_;go_loopw [27] (λi wr=>∃ k:Nat,k<=(ar (aj qa st)).length/\i=.int .i64 k/\(∃ v,WO w #[.slice a1 qa.head.length k1,.int .i64 qa.frm,.int .i64 qa.period,.slice a2 qa.cycle.length k2,.slice a3 qb.head.length k3,.int .i64 qb.frm,.int .i64 qb.period,.slice a4 qb.cycle.length k4,.int .i64 st,.slice xa (ar (aj qa st)).length xc,.slice ya (ar (aj qb st)).length yc,.int .i64 g,.map (some mb)] W0.heap.size v (WL k) wr)/\wr.heap[D]? = some (.deferred (some []))) (λi _=>(ar (aj qa st)).length-(intOf i).toNat)
  .exact ⟨0,aa,rfl,⟨_,qE.o⟩,fC.o⟩
  obtain ⟨k,hk,rfl,⟨v,aZ⟩,aJ⟩:=hrel;by_cases hlt:k<(ar (aj qa st)).length
  .obtain ⟨⟨a8,c8,jM,_,_,dA⟩,_,_⟩:=(HP.o.ext aZ.below).x;injection jM with cI eB dk
   subst cI;subst dk;rcases dA with dA|⟨b8,f8,rfl,hcell⟩
   .rw [dA] at hlt;simp at hlt
   have hcl:=hcell k hlt;have hxb:=HX.o.2 _ (kH hlt);have hsu:=DK.o k hlt;have hle:=DJ.o k aa;have fM:(k:Int)<(ar (aj qa st)).length:=aa;obtain ⟨x,kn⟩:∃ x,x=(ar (aj qa st)).getD k 0:=⟨_,rfl⟩;rw [<- kn] at hcl hxb hsu;have p0:wr.cell? ⟨w.heap.size,0,none⟩=some (.slice a1 qa.head.length k1):=(aZ.pbx.cells 0).1;have p1:wr.cell? ⟨w.heap.size,1,none⟩=some (.int .i64 qa.frm):=(aZ.pbx.cells 1).1;have p2:wr.cell? ⟨w.heap.size,2,none⟩=some (.int .i64 qa.period):=(aZ.pbx.cells 2).1;have p3:wr.cell? ⟨w.heap.size,3,none⟩=some (.slice a2 qa.cycle.length k2):=(aZ.pbx.cells 3).1;have p4:wr.cell? ⟨w.heap.size,4,none⟩=some (.slice a3 qb.head.length k3):=(aZ.pbx.cells 4).1;have p5:wr.cell? ⟨w.heap.size,5,none⟩=some (.int .i64 qb.frm):=(aZ.pbx.cells 5).1;have p6:wr.cell? ⟨w.heap.size,6,none⟩=some (.int .i64 qb.period):=(aZ.pbx.cells 6).1;have p7:wr.cell? ⟨w.heap.size,7,none⟩=some (.slice a4 qb.cycle.length k4):=(aZ.pbx.cells 7).1;have p8:wr.cell? ⟨w.heap.size,8,none⟩=some (.int .i64 st):=(aZ.pbx.cells 8).1;have p9:wr.cell? ⟨w.heap.size,9,none⟩=some (.slice (some ⟨b8,f8,none⟩) (ar (aj qa st)).length xc):=(aZ.pbx.cells 9).1;have p10:wr.cell? ⟨w.heap.size,10,none⟩=some (.slice ya (ar (aj qb st)).length yc):=(aZ.pbx.cells 10).1;have p11:wr.cell? ⟨w.heap.size,11,none⟩=some (.int .i64 g):=(aZ.pbx.cells 11).1;have p12:wr.cell? ⟨w.heap.size,12,none⟩=some (.map (some mb)):=(aZ.pbx.cells 12).1;have HWOr:=ad aZ;have HDEFr:=ad aJ;have gY:=ad hsu;have jC:=ad hle;have AJ:=hxb.1;have AK:=hxb.2;have Ps:=aZ.below.size;have AC:=aZ.sz;have EO:=HP.o.ext aZ.below;have tQ:=ad EO;clear hsu hle aZ aJ kn hcell hxb EO;cases hfull:pK (ar (aj qb st)) g qb.period x with
   | true=>
    have HF:=ad hfull;clear hfull;go_wp2_with (go_at_call 252;refine (Jm _ _ _ _ qa qb st _ _ g mb x _ tQ.o hg hg1 aa aa aa aa).mono ?_;rintro e w5 ⟨he,hb5⟩;rw [HF.o] at he;subst he);go_roundw
    .refine ⟨k+1,aa,by go_num,⟨v,?_⟩,(hb5.block D (Array.getElem?_eq_some_iff.1 HDEFr.o).1).trans HDEFr.o⟩;rw [gY.o,HF.o,if_pos rfl,List.append_nil];exact HWOr.o.grow (World.grownBy.of_below hb5 none) (λr e=>by cases e)
    simp [intOf];omega
   | false=>
    have HF:=ad hfull;clear hfull;go_wp2_with (go_at_call 252;refine (Jm _ _ _ _ qa qb st _ _ g mb x _ tQ.o hg hg1 aa aa aa aa).mono ?_;rintro e w5 ⟨he,hb5⟩;rw [HF.o] at he;subst he);have yN:Hid (WO w #[.slice a1 qa.head.length k1,.int .i64 qa.frm,.int .i64 qa.period,.slice a2 qa.cycle.length k2,.slice a3 qb.head.length k3,.int .i64 qb.frm,.int .i64 qb.period,.slice a4 qb.cycle.length k4,.int .i64 st,.slice (some ⟨b8,f8,none⟩) (ar (aj qa st)).length xc,.slice ya (ar (aj qb st)).length yc,.int .i64 g,.map (some mb)] W0.heap.size v (WL k) w5):=ad (HWOr.o.grow (World.grownBy.of_below hb5 none) (λr e=>by cases e));have qi:Hid (w5.heap[D]? = some (.deferred (some []))):=ad ((hb5.block D (Array.getElem?_eq_some_iff.1 HDEFr.o).1).trans HDEFr.o);clear hb5;go_loopw [10] (λi wr=>∃ (m:Nat) (n:Int),m<=R/\i=.int .i64 n/\Hid (n=x+m*qa.period)/\(∃ v,WO w #[.slice a1 qa.head.length k1,.int .i64 qa.frm,.int .i64 qa.period,.slice a2 qa.cycle.length k2,.slice a3 qb.head.length k3,.int .i64 qb.frm,.int .i64 qb.period,.slice a4 qb.cycle.length k4,.int .i64 st,.slice (some ⟨b8,f8,none⟩) (ar (aj qa st)).length xc,.slice ya (ar (aj qb st)).length yc,.int .i64 g,.map (some mb)] W0.heap.size v (WL k ++ jr qb st qa.period x m) wr)/\wr.heap[D]? = some (.deferred (some []))) (λi _=>(L-intOf i).toNat)
    .exact ⟨0,x,aa,rfl,ad ag,⟨v,by simpa [jr,upto,jG] using yN.o⟩,qi.o⟩
    obtain ⟨m,n,hm,rfl,hn,⟨v9,aZ⟩,aJ⟩:=hrel;obtain ⟨g1,g2,g3⟩:=QN AJ AK vS.o hm;rw [<- hn.o] at g1;have iD:0<=n:=by rw [hn.o];omega
    have mf:n<=L+qa.period:=by rw [hn.o];omega
    clear g2 g3;by_cases rK:m<R
    .have O_:n<L:=g1.2 rK;have oZ:=Vg qb st qa.period x m;rw [<- hn.o] at oZ;have hpl:=Qt qb st qa.period x m;have hlen:(WL k ++ jr qb st qa.period x m).length+1<=17592186044416:=by rw [List.length_append];have:=jC.o;omega
     have hap:=VH qb (WL k) (jr qb st qa.period x m) (st+n);rw [<- oZ] at hap;obtain ⟨K,hK⟩:∃ K,K=WL k ++ jr qb st qa.period x m:=⟨_,rfl⟩;rw [<- hK] at hlen hap aZ;obtain ⟨KL,pP⟩:∃ KL,KL=nQ qb K (st+n):=⟨_,rfl⟩;rw [<- pP] at hap;have su:=ad pP;have Cv:=ad hap;have hown:=aZ.own;have gj:=aZ.obx;obtain ⟨pk,pn,rfl⟩:=hown.form;have q1:wr.cell? ⟨w.heap.size+1,0,none⟩=some (.func (.func 251) #[] #[.pointer (some ⟨w.heap.size,0,none⟩)]):=(aZ.kbx.cells 0).1;have q2:wr.cell? ⟨w.heap.size+2,0,none⟩=some (.slice pk K.length pn):=(gj.cells 0).1;have q3:wr.frozen? ⟨w.heap.size+2,0,none⟩=false:=(gj.cells 0).2;have q8:wr.cell? ⟨w.heap.size,8,none⟩=some (.int .i64 st):=(aZ.pbx.cells 8).1;have qp:wr.cell? ⟨w.heap.size,2,none⟩=some (.int .i64 qa.period):=(aZ.pbx.cells 2).1;have lI:=aZ.sz;have AD:=aZ.below.size;have dE:=ad aZ;have aM:=ad hown;have qw:=ad gj;have dp:=ad aJ;clear aZ hown gj aJ oZ hap hK pP g1;go_wp2_with (go_at_call 251;refine (Ql a1 a2 a3 a4 k1 k2 k3 k4 qa qb st _ _ g mb w.heap.size W0.heap.size (.slice pk K.length pn) K (st+n) _ dE.o.pbx (HP.o.b.ext dE.o.below) v_.o f2 aa aa aa aM.o aa aa).mono ?_;rintro e w6 ⟨v6,rfl,cJ,lu⟩;rw [<- su.o] at cJ;obtain ⟨Rc,Re,rfl⟩:=cJ.form;have jy:=qw.o.grown lu (λe=>by have IB:=aM.o.lt _ e.symm;omega);have r1:=(jy.cells 0).1;have r2:=(jy.cells 0).2;have r5:w6.cell? ⟨w.heap.size,2,none⟩=some (.int .i64 qa.period):=((dE.o.pbx.grown lu (λe=>by have IB:=aM.o.lt _ e.symm;omega)).cells 2).1);go_roundw
     .refine ⟨m+1,n+qa.period,aa,by go_num,ad (by rw [hn.o];push_cast;rw [Int.add_mul];omega),⟨.slice Rc KL.length Re,?_⟩,?_⟩
      .rw [Cv.o];exact dE.o.step lu cJ
      exact (Below.heap_setCell _ _ _ _ (by have:=(Array.getElem?_eq_some_iff.1 dp.o).1;simp;omega)).trans (Un dp.o aM.o lu)
     simp [intOf];omega
    have O_:¬ n<L:=λh=>rK (g1.1 h);obtain rfl:m=R:=aa;have dE:=ad aZ;have dp:=ad aJ;clear aZ aJ g1;go_wp2;go_roundw
    .refine ⟨k+1,aa,by go_num,⟨v9,?_⟩,dp.o⟩;rw [gY.o,HF.o,if_neg ag];exact dE.o
    simp [intOf];omega
  obtain rfl:k=(ar (aj qa st)).length:=aa;obtain ⟨pk,pn,rfl⟩:=aZ.own.form;have q2:wr.cell? ⟨w.heap.size+2,0,none⟩=some (.slice pk (WL (ar (aj qa st)).length).length pn):=(aZ.obx.cells 0).1;have dE:=ad aZ;have dp:=ad aJ;have Pt:=aZ.sz;have Pp:=aZ.hb;clear aZ aJ;go_wp2_with fail;gi_wp2_with fail
  have hM:cL w.heap.size [{ target:=.collected D,args:=#[] }] wr:=sK aa dp.o;refine jY (B:=w.heap.size) _ _ hM λw' hs=>⟨.slice pk (WL (ar (aj qa st)).length).length pn,by simp [results,Tryz.results229,go_sem],.slice pk (WL (ar (aj qa st)).length).length pn,rfl,?_,dE.o.below.trans hs.below⟩;have h9:=(dE.o.own.shut hs).mono (base':=w.heap.size) aa
  first|exact h9|(rw [<- HWLe.o];exact h9)
 case stop=>
  rintro D c' pre W' hD _ ⟨rfl,v,aZ⟩ aJ;refine wpIn_exit ?_
  conv=>whnf
  apply_assumption
  obtain ⟨va,vc,rfl⟩:=aZ.own.form;have p9:W'.cell? ⟨w.heap.size,9,none⟩=some (.slice xa (ar (aj qa st)).length xc):=(aZ.pbx.cells 9).1;rw [<- DI.o] at aZ;have qE:=ad aZ;have fC:=ad aJ;clear aZ aJ;gi_wp2_with fail;refine wpIn_wide.2 ?_;go_loopw [27] (λi wr=>∃ k:Nat,k<=(ar (aj qa st)).length/\i=.int .i64 k/\(∃ v,WO w #[.slice a1 qa.head.length k1,.int .i64 qa.frm,.int .i64 qa.period,.slice a2 qa.cycle.length k2,.slice a3 qb.head.length k3,.int .i64 qb.frm,.int .i64 qb.period,.slice a4 qb.cycle.length k4,.int .i64 st,.slice xa (ar (aj qa st)).length xc,.slice ya (ar (aj qb st)).length yc,.int .i64 g,.map (some mb)] W0.heap.size v (WL k) wr)/\wr.heap[D]? = some (.deferred (some []))) (λi _=>(ar (aj qa st)).length-(intOf i).toNat)
  .exact ⟨0,aa,rfl,⟨_,qE.o⟩,fC.o⟩
  obtain ⟨k,hk,rfl,⟨v,aZ⟩,aJ⟩:=hrel;by_cases hlt:k<(ar (aj qa st)).length
  .obtain ⟨⟨a8,c8,jM,_,_,dA⟩,_,_⟩:=(HP.o.ext aZ.below).x;injection jM with cI eB dk
   subst cI;subst dk;rcases dA with dA|⟨b8,f8,rfl,hcell⟩
   .rw [dA] at hlt;simp at hlt
   have hcl:=hcell k hlt;have hxb:=HX.o.2 _ (kH hlt);have hsu:=DK.o k hlt;have hle:=DJ.o k aa;have fM:(k:Int)<(ar (aj qa st)).length:=aa;obtain ⟨x,kn⟩:∃ x,x=(ar (aj qa st)).getD k 0:=⟨_,rfl⟩;rw [<- kn] at hcl hxb hsu;have p0:wr.cell? ⟨w.heap.size,0,none⟩=some (.slice a1 qa.head.length k1):=(aZ.pbx.cells 0).1;have p1:wr.cell? ⟨w.heap.size,1,none⟩=some (.int .i64 qa.frm):=(aZ.pbx.cells 1).1;have p2:wr.cell? ⟨w.heap.size,2,none⟩=some (.int .i64 qa.period):=(aZ.pbx.cells 2).1;have p3:wr.cell? ⟨w.heap.size,3,none⟩=some (.slice a2 qa.cycle.length k2):=(aZ.pbx.cells 3).1;have p4:wr.cell? ⟨w.heap.size,4,none⟩=some (.slice a3 qb.head.length k3):=(aZ.pbx.cells 4).1;have p5:wr.cell? ⟨w.heap.size,5,none⟩=some (.int .i64 qb.frm):=(aZ.pbx.cells 5).1;have p6:wr.cell? ⟨w.heap.size,6,none⟩=some (.int .i64 qb.period):=(aZ.pbx.cells 6).1;have p7:wr.cell? ⟨w.heap.size,7,none⟩=some (.slice a4 qb.cycle.length k4):=(aZ.pbx.cells 7).1;have p8:wr.cell? ⟨w.heap.size,8,none⟩=some (.int .i64 st):=(aZ.pbx.cells 8).1;have p9:wr.cell? ⟨w.heap.size,9,none⟩=some (.slice (some ⟨b8,f8,none⟩) (ar (aj qa st)).length xc):=(aZ.pbx.cells 9).1;have p10:wr.cell? ⟨w.heap.size,10,none⟩=some (.slice ya (ar (aj qb st)).length yc):=(aZ.pbx.cells 10).1;have p11:wr.cell? ⟨w.heap.size,11,none⟩=some (.int .i64 g):=(aZ.pbx.cells 11).1;have p12:wr.cell? ⟨w.heap.size,12,none⟩=some (.map (some mb)):=(aZ.pbx.cells 12).1;have HWOr:=ad aZ;have HDEFr:=ad aJ;have gY:=ad hsu;have jC:=ad hle;have AJ:=hxb.1;have AK:=hxb.2;have Ps:=aZ.below.size;have AC:=aZ.sz;have EO:=HP.o.ext aZ.below;have tQ:=ad EO;clear hsu hle aZ aJ kn hcell hxb EO;cases hfull:pK (ar (aj qb st)) g qb.period x with
   | true=>
    have HF:=ad hfull;clear hfull;go_wp2_with (go_at_call 252;refine (Jm _ _ _ _ qa qb st _ _ g mb x _ tQ.o hg hg1 aa aa aa aa).mono ?_;rintro e w5 ⟨he,hb5⟩;rw [HF.o] at he;subst he);go_roundw
    .refine ⟨k+1,aa,by go_num,⟨v,?_⟩,(hb5.block D (Array.getElem?_eq_some_iff.1 HDEFr.o).1).trans HDEFr.o⟩;rw [gY.o,HF.o,if_pos rfl,List.append_nil];exact HWOr.o.grow (World.grownBy.of_below hb5 none) (λr e=>by cases e)
    simp [intOf];omega
   | false=>
    have HF:=ad hfull;clear hfull;go_wp2_with (go_at_call 252;refine (Jm _ _ _ _ qa qb st _ _ g mb x _ tQ.o hg hg1 aa aa aa aa).mono ?_;rintro e w5 ⟨he,hb5⟩;rw [HF.o] at he;subst he);have yN:Hid (WO w #[.slice a1 qa.head.length k1,.int .i64 qa.frm,.int .i64 qa.period,.slice a2 qa.cycle.length k2,.slice a3 qb.head.length k3,.int .i64 qb.frm,.int .i64 qb.period,.slice a4 qb.cycle.length k4,.int .i64 st,.slice (some ⟨b8,f8,none⟩) (ar (aj qa st)).length xc,.slice ya (ar (aj qb st)).length yc,.int .i64 g,.map (some mb)] W0.heap.size v (WL k) w5):=ad (HWOr.o.grow (World.grownBy.of_below hb5 none) (λr e=>by cases e));have qi:Hid (w5.heap[D]? = some (.deferred (some []))):=ad ((hb5.block D (Array.getElem?_eq_some_iff.1 HDEFr.o).1).trans HDEFr.o);clear hb5;go_loopw [10] (λi wr=>∃ (m:Nat) (n:Int),m<=R/\i=.int .i64 n/\Hid (n=x+m*qa.period)/\(∃ v,WO w #[.slice a1 qa.head.length k1,.int .i64 qa.frm,.int .i64 qa.period,.slice a2 qa.cycle.length k2,.slice a3 qb.head.length k3,.int .i64 qb.frm,.int .i64 qb.period,.slice a4 qb.cycle.length k4,.int .i64 st,.slice (some ⟨b8,f8,none⟩) (ar (aj qa st)).length xc,.slice ya (ar (aj qb st)).length yc,.int .i64 g,.map (some mb)] W0.heap.size v (WL k ++ jr qb st qa.period x m) wr)/\wr.heap[D]? = some (.deferred (some []))) (λi _=>(L-intOf i).toNat)
    .exact ⟨0,x,aa,rfl,ad ag,⟨v,by simpa [jr,upto,jG] using yN.o⟩,qi.o⟩
    obtain ⟨m,n,hm,rfl,hn,⟨v9,aZ⟩,aJ⟩:=hrel;obtain ⟨g1,g2,g3⟩:=QN AJ AK vS.o hm;rw [<- hn.o] at g1;have iD:0<=n:=by rw [hn.o];omega
    have mf:n<=L+qa.period:=by rw [hn.o];omega
    clear g2 g3;by_cases rK:m<R
    .have O_:n<L:=g1.2 rK;have oZ:=Vg qb st qa.period x m;rw [<- hn.o] at oZ;have hpl:=Qt qb st qa.period x m;have hlen:(WL k ++ jr qb st qa.period x m).length+1<=17592186044416:=by rw [List.length_append];have:=jC.o;omega
     have hap:=VH qb (WL k) (jr qb st qa.period x m) (st+n);rw [<- oZ] at hap;obtain ⟨K,hK⟩:∃ K,K=WL k ++ jr qb st qa.period x m:=⟨_,rfl⟩;rw [<- hK] at hlen hap aZ;obtain ⟨KL,pP⟩:∃ KL,KL=nQ qb K (st+n):=⟨_,rfl⟩;rw [<- pP] at hap;have su:=ad pP;have Cv:=ad hap;have hown:=aZ.own;have gj:=aZ.obx;obtain ⟨pk,pn,rfl⟩:=hown.form;have q1:wr.cell? ⟨w.heap.size+1,0,none⟩=some (.func (.func 251) #[] #[.pointer (some ⟨w.heap.size,0,none⟩)]):=(aZ.kbx.cells 0).1;have q2:wr.cell? ⟨w.heap.size+2,0,none⟩=some (.slice pk K.length pn):=(gj.cells 0).1;have q3:wr.frozen? ⟨w.heap.size+2,0,none⟩=false:=(gj.cells 0).2;have q8:wr.cell? ⟨w.heap.size,8,none⟩=some (.int .i64 st):=(aZ.pbx.cells 8).1;have qp:wr.cell? ⟨w.heap.size,2,none⟩=some (.int .i64 qa.period):=(aZ.pbx.cells 2).1;have lI:=aZ.sz;have AD:=aZ.below.size;have dE:=ad aZ;have aM:=ad hown;have qw:=ad gj;have dp:=ad aJ;clear aZ hown gj aJ oZ hap hK pP g1;go_wp2_with (go_at_call 251;refine (Ql a1 a2 a3 a4 k1 k2 k3 k4 qa qb st _ _ g mb w.heap.size W0.heap.size (.slice pk K.length pn) K (st+n) _ dE.o.pbx (HP.o.b.ext dE.o.below) v_.o f2 aa aa aa aM.o aa aa).mono ?_;rintro e w6 ⟨v6,rfl,cJ,lu⟩;rw [<- su.o] at cJ;obtain ⟨Rc,Re,rfl⟩:=cJ.form;have jy:=qw.o.grown lu (λe=>by have IB:=aM.o.lt _ e.symm;omega);have r1:=(jy.cells 0).1;have r2:=(jy.cells 0).2;have r5:w6.cell? ⟨w.heap.size,2,none⟩=some (.int .i64 qa.period):=((dE.o.pbx.grown lu (λe=>by have IB:=aM.o.lt _ e.symm;omega)).cells 2).1);go_roundw
     .refine ⟨m+1,n+qa.period,aa,by go_num,ad (by rw [hn.o];push_cast;rw [Int.add_mul];omega),⟨.slice Rc KL.length Re,?_⟩,?_⟩
      .rw [Cv.o];exact dE.o.step lu cJ
      exact (Below.heap_setCell _ _ _ _ (by have:=(Array.getElem?_eq_some_iff.1 dp.o).1;simp;omega)).trans (Un dp.o aM.o lu)
     simp [intOf];omega
    have O_:¬ n<L:=λh=>rK (g1.1 h);obtain rfl:m=R:=aa;have dE:=ad aZ;have dp:=ad aJ;clear aZ aJ g1;go_wp2;go_roundw
    .refine ⟨k+1,aa,by go_num,⟨v9,?_⟩,dp.o⟩;rw [gY.o,HF.o,if_neg ag];exact dE.o
    simp [intOf];omega
  obtain rfl:k=(ar (aj qa st)).length:=aa;obtain ⟨pk,pn,rfl⟩:=aZ.own.form;have q2:wr.cell? ⟨w.heap.size+2,0,none⟩=some (.slice pk (WL (ar (aj qa st)).length).length pn):=(aZ.obx.cells 0).1;have dE:=ad aZ;have dp:=ad aJ;have Pt:=aZ.sz;have Pp:=aZ.hb;clear aZ aJ;go_wp2_with fail;gi_wp2_with fail
  have hM:cL w.heap.size [{ target:=.collected D,args:=#[] }] wr:=sK aa dp.o;refine jY (B:=w.heap.size) _ _ hM λw' hs=>⟨.slice pk (WL (ar (aj qa st)).length).length pn,by simp [results,Tryz.results229,go_sem],.slice pk (WL (ar (aj qa st)).length).length pn,rfl,?_,dE.o.below.trans hs.below⟩;have h9:=(dE.o.own.shut hs).mono (base':=w.heap.size) aa
  first|exact h9|(rw [<- HWLe.o];exact h9)
end
section
open Go.RowKit Kal
open Go.Sort (Holds putRow)
theorem ak.cut (h:w.ownsRow base 3 1 (.slice (some ⟨g,0,none⟩) n cap) n (l.map (Value.int .i64))) (hk:k<=n) (hr:∀ x∈l.take k,aP x) (ni:l.length=n) (hb:n<=17592186044416):ak w base (.slice (some ⟨g,0,none⟩) k cap) (l.take k):=by
 obtain ⟨h1,h2⟩:=h;rcases h2 with ⟨h2,_⟩|⟨g',cap',cur,hv,hg,hh,hn,hc,hs,ht⟩
 .cases h2
 injection hv with e1 e2 e3
 injection e1 with e1;injection e1 with e1
 subst e1;subst e3;have hlk:(l.take k).length=k:=by simp;omega
 refine ⟨?_,hr,aa⟩;rw [hlk];refine ⟨aO,.inr ⟨g,cap,cur,rfl,hg,hh,aa,hc,hs,?_⟩⟩;rw [Nat.mul_one] at ht ⊢;rw [List.map_take,<- ht,List.take_take,Nat.min_eq_left hk]
theorem XZ (W:World):Go.Sort.grow W #[]=W:=by cases W;simp [Go.Sort.grow]
theorem py_ (v:Value) (l:List Int) (base:Nat) (w:World) (hv:ak w base v l) :
  Calls Tryz.prog 230 #[v] w λe w'=>∃ v',e=.returned v'/\ak w' base v' (Go.Lib.compact l)/\w.grownBy w' v.ownBlock/\v'.ownBlock=v.ownBlock:=by
 have hv0:=hv;obtain ⟨⟨h1,h2⟩,h3,h4⟩:=hv;rcases h2 with ⟨rfl,h0⟩|⟨g,cap,cur,rfl,hg,hh,hn,hc,hs,ht⟩
 .have hl:l=[]:=List.eq_nil_of_length_eq_zero h0;subst hl;exact (Tryz.slices_Compact_int_empty none 0 w).mono λe w' ⟨he,hw⟩=>⟨_,he,by rw [hw];exact ak.nil w base,by rw [hw];exact ⟨rfl,rfl,rfl,Nat.le_refl _,λ_ _ _=>rfl⟩,rfl⟩
 rw [Nat.mul_one] at ht;have hlc:(Go.Lib.compact l).length<=l.length:=m1_;have hmem:∀ x∈Go.Lib.compact l,x∈l:=λx hx=>by
  unfold Go.Lib.compact Go.Lib.compactUpTo at hx;obtain ⟨j,hj,rfl⟩:=List.mem_map.1 hx;have:=List.mem_range.1 (List.mem_filter.1 hj).1;rw [getElem!_pos l.toArray j (by simpa using this)];simp
 refine (Tryz.slices_Compact_int g 0 cap l w (holds_of_blockI hh ht) aa hn).mono λe w' ⟨he,n,hw⟩=>⟨_,he,?_,?_,rfl⟩
 .have hlen:(Go.Lib.compact l ++ List.replicate (l.length-(Go.Lib.compact l).length) 0).length=l.length:=by simp;omega
  have:=ownsRow_sortedI (n:=n) (os:=#[]) (ts:=Go.Lib.compact l ++ List.replicate (l.length-(Go.Lib.compact l).length) 0) hlen hg hh hn hc hs;rw [XZ,<- hw] at this;have h9:=ak.cut (k:=(Go.Lib.compact l).length) this hlc (λx hx=>h3 x (hmem x (by simpa using hx))) hlen h4;simpa using h9
 have:=grownBy_sortedI (w:=w) (g:=g) (n:=n) (os:=#[]) (Go.Lib.compact l ++ List.replicate (l.length-(Go.Lib.compact l).length) 0).toArray;rw [XZ,<- hw] at this;exact this
theorem x4_ (n:Nat) (w:World) (hn:n<=8796093022208) :
  Calls Tryz.prog 249 #[.slice none 0 0,.int .i64 (n:Int)] w λe w'=>∃ v,e=.returned v/\ak w' w.heap.size v []/\Below w.heap.size w w':=by
 obtain ⟨i0,hi0,hz0,hs0,hb0⟩:=wB;by_cases dX:0<n
 .have F9:∀ ty,(Builtin.append_ #[35,3] ty #[.slice none 0 0,.int .i64 (n:Int)]).run Tryz.prog w =
    .ok (.slice (some ⟨w.heap.size,0,none⟩) n (grownCap w n 0 3)) (w.drew.alloc (.cells (#[] ++ Builtin.zeroCells (Value.int .i64 0).cells n ++ Builtin.zeroCells (Value.int .i64 0).cells (grownCap w n 0 3-n)) 3)):=λty=>by
   have h:=Lib.run_append_grow_zeros w 35 3 ty 3 i0 (.int .i64 0) .i64 .i64 Tryz.underlying35 Tryz.underlying3 hi0 hz0 none 0 0 [] (run_firstCells_none w.drew i0.size 0 0 0) n dX aa aa aa (by rw [hb0];omega)
    (growslice_fits aa (by rw [hb0];omega))
   simpa using h
  have NP:n<=grownCap w n 0 3:=grownCap_ge w _ _ _;have uJ:=grownCap_le_maxLen w n 0 3 (by unfold maxLen;omega);obtain ⟨G,hG⟩:∃ G,G=grownCap w n 0 3:=⟨_,rfl⟩;rw [<- hG] at F9 NP uJ;have NN:G<=9223372036854775807:=by unfold maxLen at uJ;omega
  have ye:=ad uJ;clear hG uJ;have TJ:(0:Int)<(n:Int):=aa
  go_in
  go_wp2_with (at_builtin;refine Lib.wpList_append_run _ rfl _ _ _ _ rfl _ _ rfl rfl _ _ (F9 _) ?_)
  go_ret;refine ⟨_,rfl,⟨⟨rfl,.inr ⟨w.heap.size,G,_,rfl,Nat.le_refl _,World.alloc_heap_new w.drew _,ag,ye.o,?_,ag⟩⟩,ag,ag⟩,?_⟩
  .simp [Builtin.zeroCells,Value.cells];omega
  exact ((Below.refl _ _).drew).alloc (Nat.le_refl _) _
 obtain rfl:n=0:=aa
 go_in
 go_wp2
 go_ret;exact ⟨_,rfl,ak.nil _ _,Below.refl _ _⟩
theorem UD {a:Act} {Q:Exit->Act->World->Prop} (hgd:o.guard=none) (s x:Operand)
  (ho:o.op=.call { callee:=.builtin .append,args:=#[s,x],argTypes:=#[35,35] }) (base:Nat) (v xv:Value) (l ys:List Int) (hs:a.eval s=v) (hown:ak w base v l)
  (hx:a.eval x=xv) (mm:Ints w xv ys) (hlen:l.length+ys.length<=17592186044416) (hbase:base<=w.heap.size)
  (h:∀ v' w',ak w' base v' (l ++ ys)->w.grownBy w' v.ownBlock->(v'.ownBlock=v.ownBlock\/v'.ownBlock=some w.heap.size)->wpList Tryz.prog ops Q rest (a.put o.dst v') w') :
  wpList Tryz.prog ops Q (o :: rest) a w:=by
 obtain ⟨i,hi,h1,h2,h3⟩:=wB;obtain ⟨⟨xa,xc,rfl,g1,g2,g3⟩,g4,g5⟩:=mm;refine wpList_plain hgd λK hK=>?_;rcases g3 with rfl|⟨b,off,rfl,hcell⟩
 .have hrun:(Builtin.append_ #[35,35] o.type #[v,.slice xa ([]:List Int).length xc]).run Tryz.prog w=.ok v w:=by
   obtain ⟨⟨r1,r2⟩,r3,r4⟩:=hown;rcases r2 with ⟨rfl,r0⟩|⟨g,cap,cur,rfl,r5,r6,r7,r8,r9,WZ⟩
   .cases xa <;> simp [Builtin.append_,run_underlying Tryz.underlying35,sizeOf,typeInfo,hi,Builtin.lenOf,Builtin.firstCells,loadCells,loadCellsFrom,storeCells]
   cases xa <;> simp [Builtin.append_,run_underlying Tryz.underlying35,sizeOf,typeInfo,hi,Builtin.lenOf,Builtin.firstCells,r7,loadCells,loadCellsFrom,storeCells]
  unfold Oper.wp execOp;simp only [ho,resolve,invoke,builtin,Sem.run_bind,Sem.run_pure,Result.andThen_ok,List.map_toArray,List.map_cons,List.map_nil,hs,hx,hrun];exact hK _ _ (h v w (by simpa using hown) (World.grownBy.refl w _) (.inl rfl))
 obtain ⟨v',w',hrun,k2,k3,_,k5⟩:=run_append_own_at (P:=Tryz.prog) w base 35 o.type 3 i (.int .i64 0) 1 8 Tryz.underlying35 hi h1 h2 h3 rfl aa v l.length (l.map (Value.int .i64)) hown.row ⟨b,off,none⟩ ys.length xc (ys.map (Value.int .i64)) ag
  (λj u hu=>by
   rw [List.getElem?_map] at hu;obtain ⟨y,hy,rfl⟩:=Option.map_eq_some_iff.1 hu;obtain ⟨hj,hy'⟩:=List.getElem?_eq_some_iff.1 hy;have:=hcell j hj;rw [show ys.getD j 0=y from by simp [hj,hy']] at this;rw [show (⟨b,off,none⟩:Addr).add j=⟨b,off+j,none⟩ from by simp [Addr.add]];exact this) (by simp [Value.oneCell']) (by unfold maxLen;omega) aa hbase
 unfold Oper.wp execOp;simp only [ho,resolve,invoke,builtin,Sem.run_bind,Sem.run_pure,Result.andThen_ok,List.map_toArray,List.map_cons,List.map_nil,hs,hx,hrun];refine hK _ _ (h v' w' ⟨?_,λz hz=>?_,aO⟩ k3 k5)
 .rw [List.length_append,List.map_append];exact k2
 rcases List.mem_append.1 hz with hz|hz
 .exact hown.rng z hz
 exact g5 z hz
def tm (w:World) (b:Nat) (c:Array Value):Prop:=∀ i,w.cell? ⟨b,i,none⟩=c[i]?
def tu_ (l:List Int) (w:World) (e:Ending) (w':World):Prop:=∃ v,e=.returned v/\ak w' w.heap.size v l/\Below w.heap.size w w'
theorem s6_ (b c:Nat) (v1 v2:Value) (l1 l2:List Int) (w:World) (hb:tm w b #[v1,v2]) (h1:Ints w v1 l1) (h2:Ints w v2 l2) (hl:l1.length+l2.length<=8796093022208) (hc:2<=c) (hc1:c<=1000) :
  Calls Tryz.prog 227 #[.slice (some ⟨b,0,none⟩) 2 c] w (tu_ (l1 ++ l2) w):=by
 obtain ⟨a1,c1,rfl⟩:∃ a c,v1=.slice a l1.length c:=by obtain ⟨⟨a,c,e,_⟩,_⟩:=h1;exact ⟨a,c,e⟩
 obtain ⟨a2,c2,rfl⟩:∃ a c,v2=.slice a l2.length c:=by obtain ⟨⟨a,c,e,_⟩,_⟩:=h2;exact ⟨a,c,e⟩
 have q0:w.cell? ⟨b,0,none⟩=some (.slice a1 l1.length c1):=(hb 0);have q1:w.cell? ⟨b,1,none⟩=some (.slice a2 l2.length c2):=(hb 1);have H1:=ad h1;have H2:=ad h2;have HB:=ad hb;clear h1 h2 hb
 go_in
 go_wp2_with fail
 go_loop [11,3] (λi n=>(i=.int .i64 0/\n=.int .i64 0)\/(i=.int .i64 1/\n=.int .i64 l1.length)\/(i=.int .i64 2/\n=.int .i64 (l1.length+l2.length))) (λi _=>2-(intOf i).toNat)
 .exact .inl ⟨rfl,rfl⟩
 rcases hrel with ⟨rfl,rfl⟩|⟨rfl,rfl⟩|⟨rfl,rfl⟩
 .go_wp2_with fail
  go_round
  .exact .inr (.inl ⟨rfl,rfl⟩)
  simp [intOf]
 .go_wp2_with fail
  go_round
  .exact .inr (.inr ⟨rfl,rfl⟩)
  simp [intOf]
 go_wp2_with (go_at_call 249;rw [show ((l1.length:Int)+(l2.length:Int))=((l1.length+l2.length:Nat):Int) from by push_cast;rfl];refine (x4_ (l1.length+l2.length) _ hl).mono ?_;rintro e w2 ⟨v2,rfl,hown2,hb2⟩;obtain ⟨va,vc,rfl⟩:=hown2.form;obtain ⟨hc2,hf2⟩:=fJ hb2;(try simp only [World.size_alloc,World.size_drew,fE,World.size_setCell] at hc2 hf2))
 have cz:Below w.heap.size w w2:=hb2;have eU:=ad hown2;clear hown2 hb2 hc2 hf2;go_loopw [27,6] (λi ns wr=>((i=.int .i64 0/\ak wr w.heap.size ns [])\/(i=.int .i64 1/\ak wr w.heap.size ns l1)\/(i=.int .i64 2/\ak wr w.heap.size ns (l1 ++ l2)))/\Below w.heap.size w wr) (λi _ _=>2-(intOf i).toNat)
 .exact ⟨.inl ⟨rfl,eU.o⟩,cz⟩
 obtain ⟨hrel,dH⟩:=hrel;have q0:=al.cell dH q0;have q1:=al.cell dH q1;have lI:=dH.size;rcases hrel with ⟨rfl,hown⟩|⟨rfl,hown⟩|⟨rfl,hown⟩
 .obtain ⟨na,nc,rfl⟩:=hown.form;have aM:=ad hown;clear hown;go_wp2_with (at_builtin;refine UD az _ _ az w.heap.size (.slice na 0 nc) (.slice a1 l1.length c1) [] l1 az aM.o az (H1.o.ext dH) aO aa ?_;intro v5 w5 aw aH jO;obtain ⟨xG,xH,rfl⟩:=aw.form);go_roundw
  .exact ⟨.inr (.inl ⟨rfl,by simpa using aw⟩),dH.grown aH dH.size (λk e=>(aM.o.lt k e).1)⟩
  simp [intOf]
 .obtain ⟨na,nc,rfl⟩:=hown.form;have aM:=ad hown;clear hown;go_wp2_with (at_builtin;refine UD az _ _ az w.heap.size (.slice na l1.length nc) (.slice a2 l2.length c2) l1 l2 az aM.o az (H2.o.ext dH) aa aa ?_;intro v5 w5 aw aH jO;obtain ⟨xG,xH,rfl⟩:=aw.form);go_roundw
  .exact ⟨.inr (.inr ⟨rfl,by simpa using aw⟩),dH.grown aH dH.size (λk e=>(aM.o.lt k e).1)⟩
  simp [intOf]
 obtain ⟨na,nc,rfl⟩:=hown.form;have aM:=ad hown;clear hown;go_wp2;go_ret;exact ⟨_,rfl,aM.o,dH⟩
end
section
open Go.RowKit Go.Maps Kal
theorem uu.below (h:uu w lo hi h1 c1 h2 c2 qa qb st xv yv mb) (hb:Below B w w') (hB:hi<=B):uu w' lo hi h1 c1 h2 c2 qa qb st xv yv mb:=
 ⟨h.a.below hb hB,h.b.below hb hB,h.x.below hb hB,h.y.below hb hB,h.m.of_blocks (λk _ h2=>hb.block k aa),h.lom⟩
theorem uk (h:q.WF) (hs:q.frm<=st) (y:Int):y∈ar (aj q st)↔0<=y/\y<q.period/\q.mem (st+y):=(Bx _ y).trans (Qc h hs y)
theorem Qu (h:q.WF) (hs:q.frm<=st):aG 0 q.period (ar (aj q st)):=⟨Jv (UZ h st),λx hx=>by have:=(uk h hs x).1 hx;exact ⟨this.1,this.2.1⟩⟩
theorem Vj (st:Int):(ar (aj q st)).length=q.cycle.length:=by rw [Bp];unfold aj;simp
theorem Vz (xs ys:List Int) (a b st:Int):eK xs ys (Int.gcd a b:Nat)=(hZ xs ys a b st).length:=by
 unfold eK hZ fZ;rw [m4_]
 congr 1
 refine List.map_congr_left λx _=>?_;simp
structure yu_ (p1 p2 qa qb:Per) (st L g:Int):Prop where
 hx:aG 0 qa.period (ar (aj qa st))
 hy:aG 0 qb.period (ar (aj qb st))
 n:((bC (λn=>qa.mem n/\qb.mem n) 0 st).length:Int)+eK (ar (aj qa st)) (ar (aj qb st)) g=cnt (λn=>p1.mem n/\p2.mem n) (st+L).toNat
 inA:bd_ qa st+(ar (aj qa st)).length*(L / qa.period)=cnt p1.mem (st+L).toNat
 inB:bd_ qb st+(ar (aj qb st)).length*(L / qb.period)=cnt p2.mem (st+L).toNat
 meet:∀ n,n∈hZ (ar (aj qa st)) (ar (aj qb st)) qa.period qb.period st↔st<=n/\n<st+L/\p1.mem n/\p2.mem n
 headsEq:bC (λn=>qa.mem n/\qb.mem n) 0 st=bC (λn=>p1.mem n/\p2.mem n) 0 st
 com:eK (ar (aj qa st)) (ar (aj qb st)) g=(hZ (ar (aj qa st)) (ar (aj qb st)) qa.period qb.period st).length
theorem zu_ {p1 p2:Per} (eX:bP qa p1.mem) (ef:bP qb p2.mem) {L g:Int} (hs1:qa.frm<=st) (hs2:qb.frm<=st) (hL:L=aS qa.period qb.period) (hg:g=(Int.gcd qa.period qb.period:Nat)):yu_ p1 p2 qa qb st L g:=by
 have hx:=Qu eX.wf hs1;have hy:=Qu ef.wf hs2;have h0:0<=st:=by have:=eX.wf.frm;omega
 have lH:bC (λn=>qa.mem n/\qb.mem n) 0 st=bC (λn=>p1.mem n/\p2.mem n) 0 st:=P5 (Int.le_refl _) λn=>by rw [eX.mem,ef.mem]
 have fO:1<=L:=by rw [hL];exact yX eX.wf.per ef.wf.per
 refine ⟨hx,hy,?_,?_,?_,?_,lH,by rw [hg];exact Vz _ _ _ _ _⟩
 .rw [lH,hg,Vz (st:=st),hL];exact xq_ eX ef hs1 hs2 hx hy (uk eX.wf hs1) (uk ef.wf hs2) h0
 .rw [Vj];exact XF eX hs1 fO (hL ▸ DX)
 .rw [Vj];exact XF ef hs2 fO (hL ▸ Hv)
 rw [hL];exact Qq eX ef hs1 hs2 hx hy (uk eX.wf hs1) (uk ef.wf hs2)
theorem tm_ {a:Option Addr} {i:Nat} (l:List Int) (hi:i<=l.length) (hc:l.length<=c) :
  ∃ a',(∀ W,(Instr.slice 35 (.slice a l.length c) none (some (.int .i64 (i:Int))) (some (.int .i64 (i:Int)))).run Tryz.prog W=.ok (.slice a' i i) W)/\
   (∀ w,Ints w (.slice a l.length c) l->Ints w (.slice a' i i) (l.take i)):=by
 refine ⟨if i=0 then a else a.map (·.add (0*1)),λW=>?_,λw h=>?_⟩
 .rw [run_slice_hm W 35 _ _ _ (by kernel_rfl) .i64 .i64 _ _ aa aa aa];have hz:(sizeOf (Tryz.prog.elem 35)).run Tryz.prog W=.ok 1 W:=by kernel_rfl
  rw [hz];simp only [Result.andThen,sliced,Int.toNat_natCast,Nat.sub_zero]
 obtain ⟨⟨a2,c2,he,h1,h2,h3⟩,h4,h5⟩:=h;injection he with e1 e2 e3
 subst e1;subst e3;have hl:(l.take i).length=i:=by simp;omega
 refine ⟨⟨_,i,by rw [hl],by rw [hl];exact Nat.le_refl _,aa,?_⟩,aa,λx hx=>h5 x (List.mem_of_mem_take hx)⟩;by_cases h0:i=0
 .subst h0;exact .inl ag
 rcases h3 with rfl|⟨b,o,rfl,hcell⟩
 .simp at hi;omega
 refine .inr ⟨b,o,by rw [if_neg h0];simp [Addr.add],λj hj=>?_⟩;rw [hl] at hj;rw [hcell j aa];simp [List.getD_eq_getElem?_getD,List.getElem?_take_of_lt hj]
theorem x5_ {wr xK:World} {ob i:Nat} (h:A.grownBy wr (some ob)) (hb:Below A.heap.size wr xK):A.grownBy (xK.setCell ⟨ob,i,none⟩ v) (some ob):=
 ⟨(
  show (xK.setCell ⟨ob,i,none⟩ v).os=_ from hb.os).trans h.os,(show (xK.setCell ⟨ob,i,none⟩ v).tape=_ from hb.tape).trans h.tape,(show (xK.setCell ⟨ob,i,none⟩ v).output=_ from hb.output).trans h.output,by have:=h.size;have:=hb.size;simp [World.setCell];omega,
  λk hk hne=>((Below.heap_setCell xK ⟨ob,i,none⟩ v k (by intro e;exact hne (by rw [e]))).trans (hb.block k hk)).trans (h.block k hk hne)⟩
theorem nj_ {LL Md:List Int} (hs:Md.Pairwise (· < ·)) (hm:∀ x,x∈LL↔x∈Md):Go.Lib.compact (ar LL)=Md:=by
 obtain ⟨h1,h2⟩:=m2_ (Wu LL);exact PP h1 hs λx=>by rw [h2,Bx,hm]
theorem x3_ (hq:q.WF) (hs:q.frm<=st) {g:Int} (hg:1<=g) (hgd:g∣q.period) (hf:pK (ar (aj q st)) g q.period r=true) {n:Int} (hn:st<=n) (hr:(n-st) % g=r % g):q.mem n:=by
 have hp:=hq.per;have iY:=Int.emod_nonneg r (show g≠0 by omega);have hr1:=Int.emod_lt_of_pos r (show 0<g by omega);have h1:=(s1_ (ys:=ar (aj q st)) hp hg hgd (Qu hq hs) iY hr1).1 (of_decide_eq_true hf);refine (zi hq hs (uk hq hs) hn).1 (h1 _ (Int.emod_nonneg _ aa) (Int.emod_lt_of_pos _ aa) ?_);rw [Int.emod_emod_of_dvd _ hgd,hr]
theorem w2_ (ha:qa.WF) (hb:qb.WF) {g L:Int} (hs1:qa.frm<=st) (hs2:qb.frm<=st) (hg:g=(Int.gcd qa.period qb.period:Nat)) (uL:L=R*qa.period) (x:Int) :
  x∈qV qa qb st g (ar (aj qa st)) (ar (aj qb st)) R (ar (aj qa st)).length↔x∈bC (λn=>qa.mem n/\¬ qb.mem n) 0 (st+L):=by
 have hf0:=ha.frm;have hp:=ha.per;have hg1:1<=g:=by rw [hg];exact (nL hp).1
 have zW:g∣qa.period:=by rw [hg];exact Int.gcd_dvd_left _ _
 have hgb:g∣qb.period:=by rw [hg];exact Int.gcd_dvd_right _ _
 have II:0<=L:=by rw [uL];exact Int.mul_nonneg aa aa
 have key:∀ {r:Int} {j:Nat},r∈ar (aj qa st)->j<R->qa.mem (st+(r+j*qa.period))/\0<=r+j*qa.period/\r+j*qa.period<L:=by
  intro r j hr hj;have hr':=(uk ha hs1 r).1 hr;have h3:=QN (a:=qa.period) (L:=L) (m:=j) (R:=R) hr'.1 hr'.2.1 uL aa;have h4:=h3.1.2 hj;refine ⟨(zi ha hs1 (uk ha hs1) aa).1 ?_,aa,h4⟩;rw [show st+(r+j*qa.period)-st=r+j*qa.period from aa,Int.add_mul_emod_self_right,Int.emod_eq_of_lt hr'.1 hr'.2.1];exact hr
 have nm:∀ {n:Int},0<=n->((!bW qb n)=true↔¬ qb.mem n):=λ{n} h=>by
  have:=Ep (p:=qb) h;cases hm:bW qb n <;> simp [hm] at this ⊢ <;> assumption
 unfold qV;rw [List.take_length,List.mem_append,List.mem_flatMap,dN (Int.le_refl _)];constructor
 .rintro (h|⟨r,hr,h⟩)
  .unfold jG at h;rw [List.mem_filter,dN (Int.le_refl _)] at h;exact ⟨h.1.1,aa,h.1.2.2,(nm h.1.1).1 h.2⟩
  split at h
  .simp at h
  unfold jr jG at h;rw [List.mem_filter,List.mem_map] at h;obtain ⟨⟨j,hj,rfl⟩,h2⟩:=h;rw [BD] at hj;obtain ⟨m,rfl⟩:=Int.eq_ofNat_of_zero_le hj.1;obtain ⟨k1,k2,k3⟩:=key hr (show m<R by omega);exact ⟨aa,aa,k1,(nm aa).1 h2⟩
 rintro ⟨h0,h1,h2,h3⟩;by_cases hx:x<st
 .refine .inl ?_;unfold jG;rw [List.mem_filter,dN (Int.le_refl _)];exact ⟨⟨h0,hx,h2⟩,(nm h0).2 h3⟩
 have hr:=(zi ha hs1 (uk ha hs1) (show st<=x by omega)).2 h2;refine .inr ⟨_,hr,?_⟩;have hnf:¬ pK (ar (aj qb st)) g qb.period ((x-st) % qa.period)=true:=λhf=>
  h3 (x3_ hb hs2 hg1 hgb hf aa (by rw [Int.emod_emod_of_dvd _ zW]))
 rw [if_neg hnf];unfold jr jG;rw [List.mem_filter,List.mem_map];have e:=Int.emod_add_ediv_mul (x-st) qa.period;have nY:0<=(x-st) / qa.period:=Int.ediv_nonneg aa aa;refine ⟨⟨(x-st) / qa.period,(BD _ _).2 ⟨nY,?_⟩,aa⟩,(nm h0).2 h3⟩;exact Int.ediv_lt_of_lt_mul aa (by rw [<- uL];omega)
theorem t9_ {k:Int} {n:Int} (h:gn k p.mem q.mem n):0<=n:=by
 unfold gn at h
 split at h
 .exact h.1.1
 split at h
 .exact h.elim And.left And.left
 exact h.1.1
theorem VP {k:Int} {T:Int} (h1:cH p.mem s T) (h2:cH q.mem s T):cH (gn k p.mem q.mem) s T:=by
 intro n hn;have a:=h1 n hn;have b:=h2 n hn;unfold gn
 split
 .exact ⟨λh=>⟨a.1 h.1,b.1 h.2⟩,λh=>⟨a.2 h.1,b.2 h.2⟩⟩
 split
 .exact ⟨λh=>h.imp a.1 b.1,λh=>h.imp a.2 b.2⟩
 exact ⟨λh=>⟨a.1 h.1,λg=>h.2 (b.2 g)⟩,λh=>⟨a.2 h.1,λg=>h.2 (b.1 g)⟩⟩
theorem Ve (kd:Int) (I4:kd=0\/kd=1\/kd=2) (h1 c1 h2 c2:Value) (p1 p2 qa qb q:Per) (w:World) (fs:bX w h1 c1 p1) (eO:bX w h2 c2 p2) (iZ:Valid p1) (hv2:Valid p2) (eX:bP qa p1.mem) (ef:bP qb p2.mem)
  (hL:aS qa.period qb.period<=1099511627776) (hpp:kd=0->qa.period<=4294967295/\qb.period<=4294967295)
  (hq:bP q (gn kd p1.mem p2.mem)) (f_:cnt (gn kd p1.mem p2.mem) (max qa.frm qb.frm+aS qa.period qb.period).toNat<=1048576) :
  Calls Tryz.prog 190 #[an h1 c1 p1.frm p1.period,an h2 c2 p2.frm p2.period,.int .i64 kd] w (mO q w):=by
 have hk0:0<=kd:=aa;have Ac:kd<=2:=aa;have R2:=ad I4;have lS:=ad hpp;have Kn:=ad f_;clear I4 hpp f_;obtain ⟨a1,m1,a2,m2,rfl,rfl⟩:=fs.inn.form;obtain ⟨a3,m3,a4,m4,rfl,rfl⟩:=eO.inn.form;have fA:∀ W,Below w.heap.size w W->bX W (.slice a1 p1.head.length m1) (.slice a2 p1.cycle.length m2) p1:=λW hb=>fs.ext hb;have hl2:∀ W,Below w.heap.size w W->bX W (.slice a3 p2.head.length m3) (.slice a4 p2.cycle.length m4) p2:=λW hb=>eO.ext hb;have PE:=(oL p1).2 iZ;have PF:=(oL p2).2 hv2;have nI:=ad iZ;have mH:=ad hv2;have mF:=ad eX;have lT:=ad ef;have RS:Hid (p1.frm<=562949953421312/\p1.period<=562949953421312):=by have:=iZ.frm;have:=iZ.per;exact ad aa
 have xZ:Hid (p2.frm<=562949953421312/\p2.period<=562949953421312):=by have:=hv2.frm;have:=hv2.per;exact ad aa
 obtain ⟨b1,b2,_,b4,b5⟩:=eX.smaller iZ.wf;obtain ⟨d1,d2,_,d4,d5⟩:=ef.smaller hv2.wf;have za0:=eX.wf.frm;have zb0:=ef.wf.frm;have AU:=eX.wf.per;have AV:=ef.wf.per;have e1:=iZ.frm;have e2:=iZ.per;have e3:=hv2.frm;have e4:=hv2.per;have FC:=nL (b:=qb.period) AU;have hgl2:=wi (a:=qa.period) AV;clear fs eO iZ hv2 eX ef;obtain ⟨st,hst⟩:∃ st,st=max (max qa.frm qb.frm) 0:=⟨_,rfl⟩;have mG:=ad hst;have hs1:qa.frm<=st:=aa;have hs2:qb.frm<=st:=aa;have hs3:st<=1099511627776:=aa;clear hst;generalize hG:((Int.gcd qa.period qb.period:Nat):Int)=g at *;have HG:=ad hG;clear hG
 go_in
 go_upto_region 4 with ((first|(go_at_call 92;first|((with_reducible refine (qO _ _ p1 _ (fA _ xE)).mono ?_);rintro e w1 ⟨rfl,hb1⟩;obtain ⟨hx1,gh⟩:=fJ hb1;(try simp only [World.size_alloc,World.size_drew,fE,World.size_setCell] at hx1 gh);have hz1:w.heap.size+2<w1.heap.size:=(by have h7:=hb1.size;simp at h7;omega))|((with_reducible refine (qO _ _ p2 _ (hl2 _ xE)).mono ?_);rintro e w2 ⟨rfl,hb2⟩;obtain ⟨hx2,hf2⟩:=fJ hb2;(try simp only [World.size_alloc,World.size_drew,fE,World.size_setCell] at hx2 hf2);have hz2:w.heap.size+2<w2.heap.size:=(by have h7:=hb2.size;omega);have hA:=(((((af.new w #[.slice a1 p1.head.length m1,.int .i64 p1.frm,.int .i64 p1.period,.slice a2 p1.cycle.length m2] 80).alloc (.cells #[.slice a3 p2.head.length m3,.int .i64 p2.frm,.int .i64 p2.period,.slice a4 p2.cycle.length m4] 80)).alloc (.cells #[.slice none 0 0,.int .i64 0,.int .i64 0,.slice none 0 0] 80)).upto hb1 aO).upto hb2 aa);have hB:=((((af.new (w.alloc (.cells #[.slice a1 p1.head.length m1,.int .i64 p1.frm,.int .i64 p1.period,.slice a2 p1.cycle.length m2] 80)) #[.slice a3 p2.head.length m3,.int .i64 p2.frm,.int .i64 p2.period,.slice a4 p2.cycle.length m4] 80).alloc (.cells #[.slice none 0 0,.int .i64 0,.int .i64 0,.slice none 0 0] 80)).upto hb1 ag).upto hb2 aO);simp only [World.size_alloc] at hB;have A0:=(hA.cells 0).1;have A1:=(hA.cells 1).1;have A2:=(hA.cells 2).1;have A3:=(hA.cells 3).1;have B0:=(hB.cells 0).1;have B1:=(hB.cells 1).1;have B2:=(hB.cells 2).1;have B3:=(hB.cells 3).1))|(go_at_call 221;refine (qc_ _ _ _ _ p1 p2 qa qb 0 _ (fA _ xE) (hl2 _ xE) nI.o.wf mH.o.wf RS.o.1 xZ.o.1 RS.o.2 xZ.o.2 mF.o lT.o aa aa).mono ?_;rintro e w3 ⟨x1,x2,x3,x4,xv,yv,mb,he,hP,hb3⟩;rw [<- mG.o,HG.o] at he;rw [<- mG.o] at hP;subst he;obtain ⟨z1,y1,z2,y2,rfl,rfl⟩:=hP.a.form;obtain ⟨z3,y3,z4,y4,rfl,rfl⟩:=hP.b.form;obtain ⟨⟨⟨xa,xc,rfl,_⟩,nw,_⟩,_⟩:=hP.x;obtain ⟨⟨⟨ya,yc,rfl,_⟩,xA,_⟩,_⟩:=hP.y)))
 generalize As:w3.heap.size=pb at *;have hszb:w.heap.size+2<w2.heap.size:=hz2;have hszc:w2.heap.size<=pb:=by have:=hb3.size;omega
 have eP:af w3 (w.heap.size+2) #[.slice none 0 0,.int .i64 0,.int .i64 0,.slice none 0 0] 80:=(((af.at ag).upto hb1 ag).upto hb2 aa).upto hb3 aa;refine iR (F:=λW3=>af W3 pb #[.slice z1 qa.head.length y1,.int .i64 qa.frm,.int .i64 qa.period,.slice z2 qa.cycle.length y2,.slice z3 qb.head.length y3,.int .i64 qb.frm,.int .i64 qb.period,.slice z4 qb.cycle.length y4,.int .i64 st,.slice xa (ar (aj qa st)).length xc,.slice ya (ar (aj qb st)).length yc,.int .i64 g,.map (some mb)] 252/\af W3 (w.heap.size+2) #[.slice none 0 0,.int .i64 0,.int .i64 0,.slice none 0 0] 80/\uu W3 w2.heap.size pb (.slice z1 qa.head.length y1) (.slice z2 qa.cycle.length y2) (.slice z3 qb.head.length y3) (.slice z4 qb.cycle.length y4) qa qb st (.slice xa (ar (aj qa st)).length xc) (.slice ya (ar (aj qb st)).length yc) mb/\Below w.heap.size w W3/\W3.heap.size=pb+1)
  ⟨af.at As.symm,eP.alloc _,hP.below (Ea (Er _) _) aa,by exact xE,by simp [As]⟩ ?_
 clear hP eP hb1 hb2 hb3 hx1 gh hx2 hf2 hA hB A0 A1 A2 A3 B0 B1 B2 B3 PE PF hz1 As;rintro W3 ⟨bJ,dY,hP,wK,hz3⟩;have c0:W3.cell? ⟨pb,0,none⟩=some (.slice z1 qa.head.length y1):=(bJ.cells 0).1;have c1:W3.cell? ⟨pb,1,none⟩=some (.int .i64 qa.frm):=(bJ.cells 1).1;have c2:W3.cell? ⟨pb,2,none⟩=some (.int .i64 qa.period):=(bJ.cells 2).1;have c3:W3.cell? ⟨pb,3,none⟩=some (.slice z2 qa.cycle.length y2):=(bJ.cells 3).1;have c4:W3.cell? ⟨pb,4,none⟩=some (.slice z3 qb.head.length y3):=(bJ.cells 4).1;have c5:W3.cell? ⟨pb,5,none⟩=some (.int .i64 qb.frm):=(bJ.cells 5).1;have c6:W3.cell? ⟨pb,6,none⟩=some (.int .i64 qb.period):=(bJ.cells 6).1;have c7:W3.cell? ⟨pb,7,none⟩=some (.slice z4 qb.cycle.length y4):=(bJ.cells 7).1;have c8:W3.cell? ⟨pb,8,none⟩=some (.int .i64 st):=(bJ.cells 8).1;have c9:W3.cell? ⟨pb,9,none⟩=some (.slice xa (ar (aj qa st)).length xc):=(bJ.cells 9).1;have c10:W3.cell? ⟨pb,10,none⟩=some (.slice ya (ar (aj qb st)).length yc):=(bJ.cells 10).1;have c11:W3.cell? ⟨pb,11,none⟩=some (.int .i64 g):=(bJ.cells 11).1;have c12:W3.cell? ⟨pb,12,none⟩=some (.map (some mb)):=(bJ.cells 12).1;have II:=yX AU AV;have YZ:Hid (pg qa.period qb.period=.tuple #[.int .i64 (aS qa.period qb.period),.int .i64 0]):=ad (by unfold pg;rw [if_pos hL]);generalize zB:aS qa.period qb.period=L at *;have mE:=ad zB;have jB:=ad (zu_ mF.o lT.o hs1 hs2 zB.symm HG.o.symm);have N2:=hP.at;rw [HG.o] at N2;have yx:=ad N2;have HP:=ad hP;have fV:=ad bJ;have nG:=ad dY;have tY:=ad hz3;have hcl:(bC (λn=>qa.mem n/\qb.mem n) 0 st).length<=1099511627776:=by
  have:=(ff (S:=λn=>qa.mem n/\qb.mem n) (lo:=0) (hi:=st) (Int.le_refl _)).length_le aa;omega
 have hcc:eK (ar (aj qa st)) (ar (aj qb st)) g<=2199023255552:=by
  have h1:=jB.o.n;have h2:=Eg (λn=>p1.mem n/\p2.mem n) (st+L).toNat;omega
 clear zB N2 hP bJ dY hz3;obtain ⟨HL,NQ⟩:∃ HL,HL=bC (λn=>qa.mem n/\qb.mem n) 0 st:=⟨_,rfl⟩;have pw:=ad NQ;rw [<- NQ] at hcl;obtain ⟨cn,zP⟩:∃ cn,cn=eK (ar (aj qa st)) (ar (aj qb st)) g:=⟨_,rfl⟩;have mu:=ad zP;rw [<- zP] at hcc;clear NQ zP;go_upto_region 9 with ((first|(go_at_call 222;refine (Xh _ _ _ AU aa AV aa).mono ?_;rintro e w4 ⟨he,nq,rfl⟩;rw [YZ.o] at he;subst he)|(go_at_call 223;refine (uu_ _ _ _ _ qa qb st _ _ g mb _ (yx.o.ext xE) mF.o.wf lT.o.wf (by have:=mG.o;omega) aa aa aa aa).mono ?_;rintro e w5 ⟨hv,rfl,aw,hb5⟩;rw [<- pw.o] at aw;obtain ⟨rY,rZ,rfl⟩:=aw.form;obtain ⟨hc5,FA⟩:=fJ hb5;(try simp only [World.size_alloc,World.size_drew,fE,World.size_setCell] at hc5 FA);have nx:=tY.o;have PL:=hb5.size;(try simp only [fE] at PL);have hz5c:pb<w5.heap.size:=aa)|(go_at_call 224;refine (s5_ _ _ _ _ qa qb st _ _ g mb _ (yx.o.ext xE) aa aa (λx hx=>by have:=jB.o.hx.2 x hx;omega) (by rw [<- mu.o];omega)).mono ?_;rintro e w6 ⟨he,bD⟩;rw [<- mu.o] at he;subst he)))
 have IE:Below W3.heap.size W3 w6:=by exact xE
 have cJ:=aw.ext bD;have hsz6:=IE.size;have RN:=ad IE;have Dt:=ad cJ;have ft:=fV.o.below IE;have d0:w6.cell? ⟨pb,0,none⟩=some (.slice z1 qa.head.length y1):=(ft.cells 0).1;have d1:w6.cell? ⟨pb,1,none⟩=some (.int .i64 qa.frm):=(ft.cells 1).1;have d2:w6.cell? ⟨pb,2,none⟩=some (.int .i64 qa.period):=(ft.cells 2).1;have d3:w6.cell? ⟨pb,3,none⟩=some (.slice z2 qa.cycle.length y2):=(ft.cells 3).1;have d4:w6.cell? ⟨pb,4,none⟩=some (.slice z3 qb.head.length y3):=(ft.cells 4).1;have d5:w6.cell? ⟨pb,5,none⟩=some (.int .i64 qb.frm):=(ft.cells 5).1;have d6:w6.cell? ⟨pb,6,none⟩=some (.int .i64 qb.period):=(ft.cells 6).1;have d7:w6.cell? ⟨pb,7,none⟩=some (.slice z4 qb.cycle.length y4):=(ft.cells 7).1;have d8:w6.cell? ⟨pb,8,none⟩=some (.int .i64 st):=(ft.cells 8).1;have d9:w6.cell? ⟨pb,9,none⟩=some (.slice xa (ar (aj qa st)).length xc):=(ft.cells 9).1;have d10:w6.cell? ⟨pb,10,none⟩=some (.slice ya (ar (aj qb st)).length yc):=(ft.cells 10).1;have d11:w6.cell? ⟨pb,11,none⟩=some (.int .i64 g):=(ft.cells 11).1;have d12:w6.cell? ⟨pb,12,none⟩=some (.map (some mb)):=(ft.cells 12).1;have Lg:=ad ft;have hba:=Ut mF.o.wf (show 0<=st by omega);have dD:=Ut lT.o.wf (show 0<=st by omega);obtain ⟨bA,IS⟩:∃ bA,bA=bd_ qa st:=⟨_,rfl⟩;obtain ⟨bB,rj⟩:∃ bB,bB=bd_ qb st:=⟨_,rfl⟩;obtain ⟨RA,ET⟩:∃ RA,RA=L / qa.period:=⟨_,rfl⟩;obtain ⟨RB,EV⟩:∃ RB,RB=L / qb.period:=⟨_,rfl⟩;obtain ⟨PA,uN⟩:∃ PA,PA=((ar (aj qa st)).length:Int)*RA:=⟨_,rfl⟩;obtain ⟨PB,uO⟩:∃ PB,PB=((ar (aj qb st)).length:Int)*RB:=⟨_,rfl⟩;have SY:bA+PA=cnt p1.mem (st+L).toNat:=by rw [IS,uN,ET];exact jB.o.inA
 have SZ:bB+PB=cnt p2.mem (st+L).toNat:=by rw [rj,uO,EV];exact jB.o.inB
 have NS:=Eg p1.mem (st+L).toNat;have NT:=Eg p2.mem (st+L).toNat;rw [<- IS] at hba;rw [<- rj] at dD;have EU:0<=RA:=by rw [ET];exact Int.ediv_nonneg aa aa
 have N4:0<=RB:=by rw [EV];exact Int.ediv_nonneg aa aa
 have hRA1:RA<=L:=by rw [ET];exact Int.ediv_le_self _ aa
 have hRB1:RB<=L:=by rw [EV];exact Int.ediv_le_self _ aa
 have hPA0:0<=PA:=by rw [uN];exact Int.mul_nonneg aa EU
 have hPB0:0<=PB:=by rw [uO];exact Int.mul_nonneg aa N4
 have hPA1:PA<=2199023255552:=aa;have hPB1:PB<=2199023255552:=aa;have hmA:IntKind.i64.wrap (((ar (aj qa st)).length:Int)*RA)=PA:=by rw [<- uN];exact AO ⟨aa,aa⟩
 have hmB:IntKind.i64.wrap (((ar (aj qb st)).length:Int)*RB)=PB:=by rw [<- uO];exact AO ⟨aa,aa⟩
 have hsA0:0<=bA+PA:=aa;have hsA1:bA+PA<=2199023255552:=aa;have hsB0:0<=bB+PB:=aa;have hsB1:bB+PB<=2199023255552:=aa;have hxl9:(ar (aj qa st)).length<=17592186044416:=nw;have hyl9:(ar (aj qb st)).length<=17592186044416:=xA;have G6:=ad SY;have Kz:=ad SZ;have iL:=ad IS;have fw:=ad rj;have Si:=ad ET;have Ls:=ad EV;have cr:=ad hb5;clear c0 c1 c2 c3 c4 c5 c6 c7 c8 c9 c10 c11 c12 IE cJ aw ft SY SZ NS NT IS rj ET EV uN uO bD hb5 hc5 FA;refine oK (w0:=w6) [0,1,2,3,4,5,6,7,8,9,10,11,12,13,14,15] [] (λv=>⟨#[an (.slice a1 p1.head.length m1) (.slice a2 p1.cycle.length m2) p1.frm p1.period,an (.slice a3 p2.head.length m3) (.slice a4 p2.cycle.length m4) p2.frm p2.period,.int .i64 kd,.pointer (some ⟨w.heap.size,0,none⟩),.pointer (some ⟨w.heap.size+1,0,none⟩),undef,.pointer (some ⟨w.heap.size+1+1,0,none⟩),.int .i64 0,.pointer (some ⟨pb,0,none⟩),.int .i64 L,.int .i64 0,.slice rY HL.length rZ,.int .i64 (↑HL.length+↑cn),v 15,undef,undef,undef,undef,undef,undef,undef,undef,.agg #[.slice a1 p1.head.length m1,.int .i64 p1.frm,.int .i64 p1.period,.slice a2 p1.cycle.length m2],.bool true,.bool false,.bool false,.agg #[.slice a3 p2.head.length m3,.int .i64 p2.frm,.int .i64 p2.period,.slice a4 p2.cycle.length m4],.bool true,.bool false,.bool false,undef,.agg #[.slice a1 p1.head.length m1,.int .i64 p1.frm,.int .i64 p1.period,.slice a2 p1.cycle.length m2],.agg #[.slice a3 p2.head.length m3,.int .i64 p2.frm,.int .i64 p2.period,.slice a4 p2.cycle.length m4],qU (.slice z1 qa.head.length y1) (.slice z2 qa.cycle.length y2) (.slice z3 qb.head.length y3) (.slice z4 qb.cycle.length y4) qa qb st (.slice xa (ar (aj qa st)).length xc) (.slice ya (ar (aj qb st)).length yc) g mb,.tuple #[.int .i64 L,.int .i64 0],.pointer (some ⟨pb,0,none⟩),.pointer (some ⟨pb,2,none⟩),.int .i64 qa.period,.pointer (some ⟨pb,4,none⟩),.pointer (some ⟨pb,6,none⟩),.int .i64 qb.period,.tuple #[.int .i64 L,.int .i64 0],.int .i64 L,.int .i64 0,.int .i64 0,.bool false,undef,.agg #[.slice z1 qa.head.length y1,.int .i64 qa.frm,.int .i64 qa.period,.slice z2 qa.cycle.length y2,.slice z3 qb.head.length y3,.int .i64 qb.frm,.int .i64 qb.period,.slice z4 qb.cycle.length y4,.int .i64 st,.slice xa (ar (aj qa st)).length xc,.slice ya (ar (aj qb st)).length yc,.int .i64 g,.map (some mb)],.slice rY HL.length rZ,.slice rY HL.length rZ,.int .i64 ↑HL.length,.agg #[.slice z1 qa.head.length y1,.int .i64 qa.frm,.int .i64 qa.period,.slice z2 qa.cycle.length y2,.slice z3 qb.head.length y3,.int .i64 qb.frm,.int .i64 qb.period,.slice z4 qb.cycle.length y4,.int .i64 st,.slice xa (ar (aj qa st)).length xc,.slice ya (ar (aj qb st)).length yc,.int .i64 g,.map (some mb)],.int .i64 ↑cn,.int .i64 (↑HL.length+↑cn),v 0,v 1,v 2,v 3,v 4,v 5,v 6,v 7,v 8,v 9,v 10,v 11,v 12,v 13,v 14,undef,undef,undef,undef,undef,undef,undef,undef,undef,undef,undef,undef,undef,undef,undef,undef,undef,undef,undef,undef,undef,undef,undef,undef,undef,undef,undef,undef,undef,undef,undef,undef,undef,undef,undef,undef,undef,undef,undef,undef,undef,undef,undef,undef,undef,undef,undef,undef,undef,undef,undef,undef,undef,undef,undef,undef,undef,undef,undef,undef,undef,undef,undef,undef,undef,undef,undef,undef,undef,undef,undef,undef,undef,undef,undef,undef,undef,undef,undef,undef,undef,undef,undef,undef,undef,undef,undef,undef,undef,undef,undef,undef,undef,undef,undef,undef,undef,undef],[]⟩) [.pointer (some ⟨pb,0,none⟩),an (.slice z1 qa.head.length y1) (.slice z2 qa.cycle.length y2) qa.frm qa.period,.pointer (some ⟨pb,8,none⟩),.int .i64 st,.int .i64 bA,.pointer (some ⟨pb,9,none⟩),.slice xa (ar (aj qa st)).length xc,.int .i64 (ar (aj qa st)).length,.int .i64 L,.pointer (some ⟨pb,0,none⟩),.pointer (some ⟨pb,2,none⟩),.int .i64 qa.period,.int .i64 RA,.int .i64 PA,.int .i64 (bA+PA),.int .i64 (bA+PA)] [] (λ_ _ _ _ _=>True) (λW=>W.cell? ⟨pb,0,none⟩=some (.slice z1 qa.head.length y1)/\W.cell? ⟨pb,1,none⟩=some (.int .i64 qa.frm)/\W.cell? ⟨pb,2,none⟩=some (.int .i64 qa.period)/\W.cell? ⟨pb,3,none⟩=some (.slice z2 qa.cycle.length y2)/\W.cell? ⟨pb,8,none⟩=some (.int .i64 st)/\W.cell? ⟨pb,9,none⟩=some (.slice xa (ar (aj qa st)).length xc)) (λW hb=>⟨bF d0 hb,bF d1 hb,bF d2 hb,bF d3 hb,bF d8 hb,bF d9 hb⟩) trivial trivial ?steps ?fin
 case steps=>
  refine .c [] [] rfl ?_ (.c [0] [] rfl ?_ (.c [] [] rfl ?_ (.c [2] [] rfl ?_ (.c [1,3] [] rfl ?_ (.c [] [] rfl ?_ (.c [5] [] rfl ?_ (.c [6] [] rfl ?_ (.c [] [] rfl ?_ (.c [] [] rfl ?_ (.c [9] [] rfl ?_ (.c [10] [] rfl ?_ (.c [8,11] [] rfl ?_ (.c [7,12] [] rfl ?_ (.c [4,13] [] rfl ?_ (.c [0,1,2,3,4,5,6,7,8,9,10,11,12,13,14] [] rfl ?_ (.n))))))))))))))));all_goals try exact pj
  .rintro v lo hi W hb ⟨g0,g1,g2,g3,g8,g9⟩ _;refine .inl ⟨rfl,λK hK=>?_⟩;simp only [ov,aD,Nat.reduceBEq,cond_true,cond_false];go_wp2_with (go_at_call 225;refine (Vv _ _ qa st _ (yx.o.a.ext (Et RN.o hb)) mF.o.wf aa aa aa aa).mono ?_;rintro e w7 ⟨he,dW⟩;rw [<- iL.o] at he;subst he);exact aU (hK w7 dW) (by simp [ov,aD,upd])
  rintro v lo hi W hb ⟨g0,g1,g2,g3,g8,g9⟩ _;refine .inl ⟨rfl,λK hK=>?_⟩;simp only [ov,aD,Nat.reduceBEq,cond_true,cond_false];go_wp2;exact aU (hK W (Below.refl _ _)) (by simp [ov,aD,upd,Si.o])
 case fin=>
  rintro v lo hi W7 dW _ hf _;show wpList _ _ _ [] _ _;have f13:v 15=.int .i64 (bA+PA):=(hf 15 rfl).2.2.2;clear hf;dsimp only;rw [f13];clear f13;generalize v 0=u54,v 1=u55,v 2=u56,v 3=u57,v 4=u58,v 5=u59,v 6=u60,v 7=u61,v 8=u62,v 9=u63,v 10=u64,v 11=u65,v 12=u66,v 13=u67,v 14=u68;clear v;have IF:Below W3.heap.size W3 W7:=Et RN.o dW;have xe:=Dt.o.ext dW;have fu:=fV.o.below IF;have hsz8:=IF.size;clear d0 d1 d2 d3 d4 d5 d6 d7 d8 d9 d10 d11 d12 dW;obtain ⟨w8,rfl⟩:∃ w8,w8=W7:=⟨_,rfl⟩;have d0:w8.cell? ⟨pb,0,none⟩=some (.slice z1 qa.head.length y1):=(fu.cells 0).1;have d1:w8.cell? ⟨pb,1,none⟩=some (.int .i64 qa.frm):=(fu.cells 1).1;have d2:w8.cell? ⟨pb,2,none⟩=some (.int .i64 qa.period):=(fu.cells 2).1;have d3:w8.cell? ⟨pb,3,none⟩=some (.slice z2 qa.cycle.length y2):=(fu.cells 3).1;have d4:w8.cell? ⟨pb,4,none⟩=some (.slice z3 qb.head.length y3):=(fu.cells 4).1;have d5:w8.cell? ⟨pb,5,none⟩=some (.int .i64 qb.frm):=(fu.cells 5).1;have d6:w8.cell? ⟨pb,6,none⟩=some (.int .i64 qb.period):=(fu.cells 6).1;have d7:w8.cell? ⟨pb,7,none⟩=some (.slice z4 qb.cycle.length y4):=(fu.cells 7).1;have d8:w8.cell? ⟨pb,8,none⟩=some (.int .i64 st):=(fu.cells 8).1;have d9:w8.cell? ⟨pb,9,none⟩=some (.slice xa (ar (aj qa st)).length xc):=(fu.cells 9).1;have d10:w8.cell? ⟨pb,10,none⟩=some (.slice ya (ar (aj qb st)).length yc):=(fu.cells 10).1;have d11:w8.cell? ⟨pb,11,none⟩=some (.int .i64 g):=(fu.cells 11).1;have d12:w8.cell? ⟨pb,12,none⟩=some (.map (some mb)):=(fu.cells 12).1;have Lh:=ad fu;have Du:=ad xe;have RO:=ad IF;clear fu xe IF Lg;go_wp2_with fail;refine oK (w0:=w8) [0,1,2,3,4,5,6,7,8,9,10,11,12,13,14,15] [] (λv=>⟨#[an (.slice a1 p1.head.length m1) (.slice a2 p1.cycle.length m2) p1.frm p1.period,an (.slice a3 p2.head.length m3) (.slice a4 p2.cycle.length m4) p2.frm p2.period,.int .i64 kd,.pointer (some ⟨w.heap.size,0,none⟩),.pointer (some ⟨w.heap.size+1,0,none⟩),undef,.pointer (some ⟨w.heap.size+1+1,0,none⟩),.int .i64 0,.pointer (some ⟨pb,0,none⟩),.int .i64 L,.int .i64 0,.slice rY HL.length rZ,.int .i64 (↑HL.length+↑cn),.int .i64 (bA+PA),v 15,undef,undef,undef,undef,undef,undef,undef,.agg #[.slice a1 p1.head.length m1,.int .i64 p1.frm,.int .i64 p1.period,.slice a2 p1.cycle.length m2],.bool true,.bool false,.bool false,.agg #[.slice a3 p2.head.length m3,.int .i64 p2.frm,.int .i64 p2.period,.slice a4 p2.cycle.length m4],.bool true,.bool false,.bool false,undef,.agg #[.slice a1 p1.head.length m1,.int .i64 p1.frm,.int .i64 p1.period,.slice a2 p1.cycle.length m2],.agg #[.slice a3 p2.head.length m3,.int .i64 p2.frm,.int .i64 p2.period,.slice a4 p2.cycle.length m4],qU (.slice z1 qa.head.length y1) (.slice z2 qa.cycle.length y2) (.slice z3 qb.head.length y3) (.slice z4 qb.cycle.length y4) qa qb st (.slice xa (ar (aj qa st)).length xc) (.slice ya (ar (aj qb st)).length yc) g mb,.tuple #[.int .i64 L,.int .i64 0],.pointer (some ⟨pb,0,none⟩),.pointer (some ⟨pb,2,none⟩),.int .i64 qa.period,.pointer (some ⟨pb,4,none⟩),.pointer (some ⟨pb,6,none⟩),.int .i64 qb.period,.tuple #[.int .i64 L,.int .i64 0],.int .i64 L,.int .i64 0,.int .i64 0,.bool false,undef,.agg #[.slice z1 qa.head.length y1,.int .i64 qa.frm,.int .i64 qa.period,.slice z2 qa.cycle.length y2,.slice z3 qb.head.length y3,.int .i64 qb.frm,.int .i64 qb.period,.slice z4 qb.cycle.length y4,.int .i64 st,.slice xa (ar (aj qa st)).length xc,.slice ya (ar (aj qb st)).length yc,.int .i64 g,.map (some mb)],.slice rY HL.length rZ,.slice rY HL.length rZ,.int .i64 ↑HL.length,.agg #[.slice z1 qa.head.length y1,.int .i64 qa.frm,.int .i64 qa.period,.slice z2 qa.cycle.length y2,.slice z3 qb.head.length y3,.int .i64 qb.frm,.int .i64 qb.period,.slice z4 qb.cycle.length y4,.int .i64 st,.slice xa (ar (aj qa st)).length xc,.slice ya (ar (aj qb st)).length yc,.int .i64 g,.map (some mb)],.int .i64 ↑cn,.int .i64 (↑HL.length+↑cn),u54,u55,u56,u57,u58,u59,u60,u61,u62,u63,u64,u65,u66,u67,u68,v 0,v 1,v 2,v 3,v 4,v 5,v 6,v 7,v 8,v 9,v 10,v 11,v 12,v 13,v 14,undef,undef,undef,undef,undef,undef,undef,undef,undef,undef,undef,undef,undef,undef,undef,undef,undef,undef,undef,undef,undef,undef,undef,undef,undef,undef,undef,undef,undef,undef,undef,undef,undef,undef,undef,undef,undef,undef,undef,undef,undef,undef,undef,undef,undef,undef,undef,undef,undef,undef,undef,undef,undef,undef,undef,undef,undef,undef,undef,undef,undef,undef,undef,undef,undef,undef,undef,undef,undef,undef,undef,undef,undef,undef,undef,undef,undef,undef,undef,undef,undef,undef,undef],[]⟩) [.pointer (some ⟨pb,4,none⟩),an (.slice z3 qb.head.length y3) (.slice z4 qb.cycle.length y4) qb.frm qb.period,.pointer (some ⟨pb,8,none⟩),.int .i64 st,.int .i64 bB,.pointer (some ⟨pb,10,none⟩),.slice ya (ar (aj qb st)).length yc,.int .i64 (ar (aj qb st)).length,.int .i64 L,.pointer (some ⟨pb,4,none⟩),.pointer (some ⟨pb,6,none⟩),.int .i64 qb.period,.int .i64 RB,.int .i64 PB,.int .i64 (bB+PB),.int .i64 (bB+PB)] [] (λ_ _ _ _ _=>True) (λW=>W.cell? ⟨pb,4,none⟩=some (.slice z3 qb.head.length y3)/\W.cell? ⟨pb,5,none⟩=some (.int .i64 qb.frm)/\W.cell? ⟨pb,6,none⟩=some (.int .i64 qb.period)/\W.cell? ⟨pb,7,none⟩=some (.slice z4 qb.cycle.length y4)/\W.cell? ⟨pb,8,none⟩=some (.int .i64 st)/\W.cell? ⟨pb,10,none⟩=some (.slice ya (ar (aj qb st)).length yc)) (λW hb=>⟨bF d4 hb,bF d5 hb,bF d6 hb,bF d7 hb,bF d8 hb,bF d10 hb⟩) trivial trivial ?steps ?fin
  case steps=>
   refine .c [] [] rfl ?_ (.c [0] [] rfl ?_ (.c [] [] rfl ?_ (.c [2] [] rfl ?_ (.c [1,3] [] rfl ?_ (.c [] [] rfl ?_ (.c [5] [] rfl ?_ (.c [6] [] rfl ?_ (.c [] [] rfl ?_ (.c [] [] rfl ?_ (.c [9] [] rfl ?_ (.c [10] [] rfl ?_ (.c [8,11] [] rfl ?_ (.c [7,12] [] rfl ?_ (.c [4,13] [] rfl ?_ (.c [0,1,2,3,4,5,6,7,8,9,10,11,12,13,14] [] rfl ?_ (.n))))))))))))))));all_goals try exact pj
   .rintro v lo hi W hb ⟨g4,g5,g6,g7,g8,g10⟩ _;refine .inl ⟨rfl,λK hK=>?_⟩;simp only [ov,aD,Nat.reduceBEq,cond_true,cond_false];go_wp2_with (go_at_call 225;refine (Vv _ _ qb st _ (yx.o.b.ext (Et RO.o hb)) lT.o.wf aa aa aa aa).mono ?_;rintro e w7 ⟨he,dW⟩;rw [<- fw.o] at he;subst he);exact aU (hK w7 dW) (by simp [ov,aD,upd])
   rintro v lo hi W hb ⟨g4,g5,g6,g7,g8,g10⟩ _;refine .inl ⟨rfl,λK hK=>?_⟩;simp only [ov,aD,Nat.reduceBEq,cond_true,cond_false];go_wp2;exact aU (hK W (Below.refl _ _)) (by simp [ov,aD,upd,Ls.o])
  case fin=>
   rintro v lo hi SA zH _ hf _;show wpList _ _ _ [] _ _;have f13:v 15=.int .i64 (bB+PB):=(hf 15 rfl).2.2.2;clear hf;dsimp only;rw [f13];clear f13;generalize v 0=t54,v 1=t55,v 2=t56,v 3=t57,v 4=t58,v 5=t59,v 6=t60,v 7=t61,v 8=t62,v 9=t63,v 10=t64,v 11=t65,v 12=t66,v 13=t67,v 14=t68;clear v;have uG:Below W3.heap.size W3 SA:=Et RO.o zH;have rO:=Du.o.ext zH;have cR:=fV.o.below uG;have TT:=uG.size;clear d0 d1 d2 d3 d4 d5 d6 d7 d8 d9 d10 d11 d12 zH;obtain ⟨gW,rfl⟩:∃ gW,gW=SA:=⟨_,rfl⟩;have qx:=ad rO;have Ks:=ad uG;have d0:gW.cell? ⟨pb,0,none⟩=some (.slice z1 qa.head.length y1):=(cR.cells 0).1;have d1:gW.cell? ⟨pb,1,none⟩=some (.int .i64 qa.frm):=(cR.cells 1).1;have d2:gW.cell? ⟨pb,2,none⟩=some (.int .i64 qa.period):=(cR.cells 2).1;have d3:gW.cell? ⟨pb,3,none⟩=some (.slice z2 qa.cycle.length y2):=(cR.cells 3).1;have d4:gW.cell? ⟨pb,4,none⟩=some (.slice z3 qb.head.length y3):=(cR.cells 4).1;have d5:gW.cell? ⟨pb,5,none⟩=some (.int .i64 qb.frm):=(cR.cells 5).1;have d6:gW.cell? ⟨pb,6,none⟩=some (.int .i64 qb.period):=(cR.cells 6).1;have d7:gW.cell? ⟨pb,7,none⟩=some (.slice z4 qb.cycle.length y4):=(cR.cells 7).1;have d8:gW.cell? ⟨pb,8,none⟩=some (.int .i64 st):=(cR.cells 8).1;have d9:gW.cell? ⟨pb,9,none⟩=some (.slice xa (ar (aj qa st)).length xc):=(cR.cells 9).1;have d10:gW.cell? ⟨pb,10,none⟩=some (.slice ya (ar (aj qb st)).length yc):=(cR.cells 10).1;have d11:gW.cell? ⟨pb,11,none⟩=some (.int .i64 g):=(cR.cells 11).1;have d12:gW.cell? ⟨pb,12,none⟩=some (.map (some mb)):=(cR.cells 12).1;have Se:=ad cR;have TM:pb<gW.heap.size:=by have:=tY.o;omega
   clear cR rO uG Lh;have f_:=Kn.o;have hmx:max qa.frm qb.frm=st:=by have:=mG.o;omega
   rw [hmx] at f_;have CK:=ad f_;clear hmx f_;have Ga:=jB.o.n;rw [<- pw.o,<- mu.o] at Ga;have hb1:=Eg (λn=>p1.mem n/\p2.mem n) (st+L).toNat;have mf:(HL.length:Int)+cn<=2199023255552:=aa;have tU:=ad Ga;clear Ga hb1;go_upto_region 12 with (fail)
   refine iR (F:=λU=>af U gW.heap.size #[.int .i64 (↑HL.length+↑cn),.int .i64 (bA+PA+(bB+PB)-(↑HL.length+↑cn)),.int .i64 (bA+PA-(↑HL.length+↑cn))] 254/\Below gW.heap.size gW U) ⟨xB,xE⟩ ?_;rintro nJ ⟨hbx,zw⟩;have x0:=(hbx.cells 0).1;have x1:=(hbx.cells 1).1;have x2:=(hbx.cells 2).1;have nV:=Et Ks.o zw;have c_:=fV.o.below nV;have Gc:=nV.size;have yw:=ad (qx.o.ext zw);have qj:=ad nV;clear hbx zw nV d0 d1 d2 d3 d4 d5 d6 d7 d8 d9 d10 d11 d12 qx;have d0:nJ.cell? ⟨pb,0,none⟩=some (.slice z1 qa.head.length y1):=(c_.cells 0).1;have d1:nJ.cell? ⟨pb,1,none⟩=some (.int .i64 qa.frm):=(c_.cells 1).1;have d2:nJ.cell? ⟨pb,2,none⟩=some (.int .i64 qa.period):=(c_.cells 2).1;have d3:nJ.cell? ⟨pb,3,none⟩=some (.slice z2 qa.cycle.length y2):=(c_.cells 3).1;have d4:nJ.cell? ⟨pb,4,none⟩=some (.slice z3 qb.head.length y3):=(c_.cells 4).1;have d5:nJ.cell? ⟨pb,5,none⟩=some (.int .i64 qb.frm):=(c_.cells 5).1;have d6:nJ.cell? ⟨pb,6,none⟩=some (.int .i64 qb.period):=(c_.cells 6).1;have d7:nJ.cell? ⟨pb,7,none⟩=some (.slice z4 qb.cycle.length y4):=(c_.cells 7).1;have d8:nJ.cell? ⟨pb,8,none⟩=some (.int .i64 st):=(c_.cells 8).1;have d9:nJ.cell? ⟨pb,9,none⟩=some (.slice xa (ar (aj qa st)).length xc):=(c_.cells 9).1;have d10:nJ.cell? ⟨pb,10,none⟩=some (.slice ya (ar (aj qb st)).length yc):=(c_.cells 10).1;have d11:nJ.cell? ⟨pb,11,none⟩=some (.int .i64 g):=(c_.cells 11).1;have d12:nJ.cell? ⟨pb,12,none⟩=some (.map (some mb)):=(c_.cells 12).1;clear c_
   go_cut [97] (λs wx=>s=.bool false/\wx=nJ)
   case first=>
    have f_:=CK.o;have h1:=tU.o;have h2:=G6.o;have h4:=Kz.o;rcases R2.o with rfl|rfl|rfl
    .rw [Fz] at f_;have jP:decide ((1048576:Int)<(HL.length:Int)+(cn:Int))=false:=by rw [decide_eq_false_iff_not];omega
     clear h1 h2 h4 f_;go_wp2_with fail
     go_meet
     exact ⟨rfl,rfl⟩
    .rw [JR] at f_;have h3:=s4_ p1.mem p2.mem (st+L).toNat;have jP:decide ((1048576:Int)<bA+PA+(bB+PB)-((HL.length:Int)+(cn:Int)))=false:=by rw [decide_eq_false_iff_not];omega
     clear h1 h2 h4 h3 f_;go_wp2_with fail
     go_meet
     exact ⟨rfl,rfl⟩
    rw [VN] at f_;have h3:=ub_ p1.mem p2.mem (st+L).toNat;have jP:decide ((1048576:Int)<bA+PA-((HL.length:Int)+(cn:Int)))=false:=by rw [decide_eq_false_iff_not];omega
    clear h1 h2 h4 h3 f_;go_wp2_with fail
    go_meet
    exact ⟨rfl,rfl⟩
   case rest=>
    obtain ⟨rfl,rfl⟩:=hcut
    go_upto_block 0 with (fail)
    go_cut [16] (λs wx=>∃ (va:Option Addr) (vc:Nat) (LL:List Int),s=.slice va LL.length vc/\Hid (ak wx W3.heap.size (.slice va LL.length vc) LL)/\Hid (Below W3.heap.size W3 wx)/\Hid (∀ x,x∈LL↔x∈bC (gn kd p1.mem p2.mem) 0 (st+L)))
    case first=>
     rcases R2.o with rfl|rfl|rfl
     .have f_:=CK.o;have Ga:=tU.o;rw [Fz] at f_;have B7:HL.length+cn<=1048576:=aa;obtain ⟨pS,bJ⟩:=lS.o rfl;have Ar:=HP.o.pairB (base:=W3.heap.size) (by have:=tY.o;omega);rw [HG.o] at Ar;have Li:=ad Ar;have qo:Hid (HL.length+(hZ (ar (aj qa st)) (ar (aj qb st)) qa.period qb.period st).length<=4398046511104):=ad (by rw [<- jB.o.com,<- mu.o];omega);have tH:Hid (aS qa.period qb.period<=1099511627776):=ad (by rw [mE.o];exact hL);clear Ar f_ Ga;go_wp2_with (go_at_call 226;refine (xp_ _ _ _ _ qa qb st _ _ g mb W3.heap.size _ HL _ (Li.o.below qj.o) HG.o.symm AU pS AV bJ tH.o aa aa jB.o.hx jB.o.hy yw.o aa qo.o).mono ?_;rintro e AS ⟨v11,rfl,ck,ri⟩;obtain ⟨LL,lk⟩:∃ LL,LL=HL ++ hZ (ar (aj qa st)) (ar (aj qb st)) qa.period qb.period st:=⟨_,rfl⟩;rw [<- lk] at ck;have yo:=ad lk;have HOW:=ad ck;have oz:=ad ri;clear ck ri lk;obtain ⟨va,vc,rfl⟩:=HOW.o.form)
      go_meet
      refine ⟨va,vc,LL,rfl,HOW,ad (qj.o.trans oz.o),ad λx=>?_⟩;rw [Fz,yo.o,List.mem_append,pw.o,jB.o.headsEq,jB.o.meet,dN (Int.le_refl _),dN (Int.le_refl _)];constructor
      .rintro (⟨h1,h2,h3⟩|⟨h1,h2,h3⟩)
       .exact ⟨h1,aa,h3⟩
       exact ⟨aa,h2,h3⟩
      rintro ⟨h1,h2,h3⟩;by_cases hx:x<st
      .exact .inl ⟨h1,hx,h3⟩
      exact .inr ⟨aa,h2,h3⟩
     .have wX:=(ff (S:=qa.mem) (lo:=0) (hi:=st+L) (Int.le_refl _)).length_le aa;have fQ:=(ff (S:=qb.mem) (lo:=0) (hi:=st+L) (Int.le_refl _)).length_le aa;obtain ⟨lA,B5⟩:∃ lA,lA=bC qa.mem 0 (st+L):=⟨_,rfl⟩;obtain ⟨lB,B6⟩:∃ lB,lB=bC qb.mem 0 (st+L):=⟨_,rfl⟩;rw [<- B5] at wX;rw [<- B6] at fQ;have sw:=ad B5;have Db:=ad B6;clear B5 B6;go_upto_region 19 with (fail)
      have xY:=qj;refine oK (w0:=wc) [0,1,2,3,4,5,6,7,8,9,10,11,12,13,14,15,16] [] (λv=>⟨#[an (.slice a1 p1.head.length m1) (.slice a2 p1.cycle.length m2) p1.frm p1.period,an (.slice a3 p2.head.length m3) (.slice a4 p2.cycle.length m4) p2.frm p2.period,.int .i64 1,.pointer (some ⟨w.heap.size,0,none⟩),.pointer (some ⟨w.heap.size+1,0,none⟩),undef,.pointer (some ⟨w.heap.size+1+1,0,none⟩),.int .i64 0,.pointer (some ⟨pb,0,none⟩),.int .i64 L,.int .i64 0,.slice rY HL.length rZ,.int .i64 (↑HL.length+↑cn),.int .i64 (bA+PA),.int .i64 (bB+PB),.pointer (some ⟨gW.heap.size,0,none⟩),v 16,undef,undef,undef,undef,undef,u22,u23,u24,u25,u26,u27,u28,u29,u30,u31,u32,u33,u34,u35,u36,u37,u38,u39,u40,u41,u42,u43,u44,u45,u46,u47,u48,u49,u50,u51,u52,u53,u54,u55,u56,u57,u58,u59,u60,u61,u62,u63,u64,u65,u66,u67,u68,u69,u70,u71,u72,u73,u74,u75,u76,u77,u78,u79,u80,u81,u82,u83,u84,u85,u86,u87,u88,u89,u90,u91,u92,u93,u94,u95,u96,.bool false,u98,.int .i64 1,.bool false,.bool false,u102,u103,u104,.bool true,.bool true,v 0,v 1,v 2,v 3,v 4,v 5,v 6,v 7,v 8,v 9,v 10,v 11,v 12,v 13,v 14,v 15,undef,u124,u125,u126,u127,u128,u129,u130,u131,u132,u133,u134,u135,u136,u137,u138,u139,u140,u141,u142,u143,u144,u145,u146,u147,u148,undef,undef,undef,u152,u153,u154,u155,u156,u157,u158,u159,u160,u161,u162,u163,u164,u165,u166],[]⟩) [.pointer (some ⟨pb,0,none⟩),an (.slice z1 qa.head.length y1) (.slice z2 qa.cycle.length y2) qa.frm qa.period,.pointer (some ⟨pb,8,none⟩),.int .i64 st,.int .i64 L,.int .i64 (st+L),undef,.pointer (some ⟨pb,4,none⟩),an (.slice z3 qb.head.length y3) (.slice z4 qb.cycle.length y4) qb.frm qb.period,.pointer (some ⟨pb,8,none⟩),.int .i64 st,.int .i64 L,.int .i64 (st+L),undef,undef,undef,undef] [6,13,14,15,16] (λi v lo hi W=>match i with|6=>(∃ a c,v 6=.slice a lA.length c)/\qT W (lo 6) (hi 6) (v 6) lA|13=>(∃ a c,v 13=.slice a lB.length c)/\qT W (lo 13) (hi 13) (v 13) lB|14=>v 14=.slice (some ⟨lo 14,0,none⟩) 2 2/\lo 14<hi 14/\af W (lo 14) #[v 6,v 13] 35/\Ints W (v 6) lA/\Ints W (v 13) lB|15=>(∃ a c,v 15=.slice a (lA ++ lB).length c)/\qT W (lo 15) (hi 15) (v 15) (lA ++ lB)|16=>(∃ a c,v 16=.slice a (lA ++ lB).length c)/\qT W (lo 15) (hi 15) (v 16) (lA ++ lB)|_=>True) (λW=>W.cell? ⟨pb,0,none⟩=some (.slice z1 qa.head.length y1)/\W.cell? ⟨pb,1,none⟩=some (.int .i64 qa.frm)/\W.cell? ⟨pb,2,none⟩=some (.int .i64 qa.period)/\W.cell? ⟨pb,3,none⟩=some (.slice z2 qa.cycle.length y2)/\W.cell? ⟨pb,4,none⟩=some (.slice z3 qb.head.length y3)/\W.cell? ⟨pb,5,none⟩=some (.int .i64 qb.frm)/\W.cell? ⟨pb,6,none⟩=some (.int .i64 qb.period)/\W.cell? ⟨pb,7,none⟩=some (.slice z4 qb.cycle.length y4)/\W.cell? ⟨pb,8,none⟩=some (.int .i64 st)) (λW hb=>⟨bF d0 hb,bF d1 hb,bF d2 hb,bF d3 hb,bF d4 hb,bF d5 hb,bF d6 hb,bF d7 hb,bF d8 hb⟩) ?stab ?loc ?steps ?fin (λj=>match j with|0=>u107|1=>u108|2=>u109|3=>u110|4=>u111|5=>u112|6=>u113|7=>u114|8=>u115|9=>u116|10=>u117|11=>u118|12=>u119|13=>u120|14=>u121|15=>u122|16=>.slice none 0 0|_=>undef)
      case stab=>
       refine ⟨?_,?_,?_,?_,?_,trivial⟩
       .intro v lo hi W W' h hb;exact ⟨h.1,h.2.below hb⟩
       .intro v lo hi W W' h hb;exact ⟨h.1,h.2.below hb⟩
       .intro v lo hi W W' h hb;exact ⟨h.1,h.2.1,h.2.2.1.below hb,h.2.2.2.1.ext hb,h.2.2.2.2.ext hb⟩
       .intro v lo hi W W' h hb;exact ⟨h.1,h.2.below hb⟩
       intro v lo hi W W' h hb;exact ⟨h.1,h.2.below hb⟩
      case loc=>
       refine ⟨?_,?_,?_,?_,?_,trivial⟩
       .intro v v' lo lo' hi hi' W aC h;have q:=aC 6 (.inl rfl)
        (try dsimp only at h ⊢)
        simp only [q.1,q.2.1,q.2.2] at h;exact h
       .intro v v' lo lo' hi hi' W aC h;have q:=aC 13 (.inl rfl)
        (try dsimp only at h ⊢)
        simp only [q.1,q.2.1,q.2.2] at h;exact h
       .intro v v' lo lo' hi hi' W aC h;have q:=aC 14 (.inl rfl);have q6:=aC 6 (.inr (bI (by kernel_rfl)));have pY:=aC 13 (.inr (bI (by kernel_rfl)))
        (try dsimp only at h ⊢)
        simp only [q.1,q.2.1,q.2.2,q6.1,q6.2.1,q6.2.2,pY.1,pY.2.1,pY.2.2] at h;exact h
       .intro v v' lo lo' hi hi' W aC h;have q:=aC 15 (.inl rfl)
        (try dsimp only at h ⊢)
        simp only [q.1,q.2.1,q.2.2] at h;exact h
       intro v v' lo lo' hi hi' W aC h;have q:=aC 16 (.inl rfl);have AR:=aC 15 (.inr (bI (by kernel_rfl)))
       (try dsimp only at h ⊢)
       simp only [q.1,q.2.1,q.2.2,AR.1,AR.2.1,AR.2.2] at h;exact h
      case steps=>
       refine .c [] [] rfl ?_ (.c [0] [] rfl ?_ (.c [] [] rfl ?_ (.c [2] [] rfl ?_ (.c [] [] rfl ?_ (.c [3,4] [] rfl ?_ (.c [1,5] [] rfl ?_ (.c [] [] rfl ?_ (.c [7] [] rfl ?_ (.c [] [] rfl ?_ (.c [9] [] rfl ?_ (.c [] [] rfl ?_ (.c [10,11] [] rfl ?_ (.c [8,12] [] rfl ?_ (.c [] [6,13] rfl ?_ (.c [] [14] rfl ?_ (.c [] [15] rfl ?_ (.n)))))))))))))))));all_goals try exact pj
       .rintro v lo hi W hb ⟨g0,g1,g2,g3,g4,g5,g6,g7,g8⟩ _;refine .inl ⟨rfl,λK hK=>?_⟩;simp only [ov,aD,Nat.reduceBEq,cond_true,cond_false];go_wp2_with (go_at_call 228;refine (Vq _ _ qa 0 (st+L) _ (yx.o.a.ext (Et xY.o hb)) mF.o.wf aa aa aa aa aa aa).mono ?_;rintro e w7 ⟨x,rfl,sZ,dW⟩;rw [<- sw.o] at sZ);exact aU (hK x w7 dW ⟨sZ.form,sZ.at⟩) (by simp [ov,aD,upd])
       .rintro v lo hi W hb ⟨g0,g1,g2,g3,g4,g5,g6,g7,g8⟩ _;refine .inl ⟨rfl,λK hK=>?_⟩;simp only [ov,aD,Nat.reduceBEq,cond_true,cond_false];go_wp2_with (go_at_call 228;refine (Vq _ _ qb 0 (st+L) _ (yx.o.b.ext (Et xY.o hb)) lT.o.wf aa aa aa aa aa aa).mono ?_;rintro e w7 ⟨x,rfl,sZ,dW⟩;rw [<- Db.o] at sZ);exact aU (hK x w7 dW ⟨sZ.form,sZ.at⟩) (by simp [ov,aD,upd])
       .rintro v lo hi W hb ⟨g0,g1,g2,g3,g4,g5,g6,g7,g8⟩ ⟨⟨la6,lb6,D6⟩,⟨GK,GM,vO⟩,_⟩;refine .inl ⟨rfl,λK hK=>?_⟩;simp only [ov,aD,Nat.reduceBEq,cond_true,cond_false]
        (try dsimp only at D6 vO)
        obtain ⟨⟨a6,c6,e6⟩,o6⟩:=D6;obtain ⟨⟨a13,c13,mT⟩,o13⟩:=vO;have i6:=o6.inn.own.ints;have T8:=o13.inn.own.ints
        (try simp only [e6,mT])
        go_wp2
        exact aU (hK (.slice (some ⟨W.heap.size,0,none⟩) 2 2) _ (Ea (Er _) _) ⟨rfl,ag,by (try simp only [e6,mT]);exact af.new _ _ _,i6.ext (Ea (Er _) _),T8.ext (Ea (Er _) _)⟩) (by simp [ov,aD,upd,e6,mT])
       .rintro v lo hi W hb ⟨g0,g1,g2,g3,g4,g5,g6,g7,g8⟩ ⟨⟨Qx,QA,GS⟩,_⟩;refine .inl ⟨rfl,λK hK=>?_⟩;simp only [ov,aD,Nat.reduceBEq,cond_true,cond_false]
        (try dsimp only at GS)
        obtain ⟨nS,Nu,Ew,Ex,zt⟩:=GS
        (try simp only [nS])
        go_wp2_with (go_at_call 227;refine (s6_ (lo 14) 2 (v 6) (v 13) lA lB _ (λi=>(Ew.cells i).1) Ex zt aa aa aa).mono ?_;rintro e w7 ⟨x,rfl,sZ,dW⟩)
        exact aU (hK x w7 dW ⟨sZ.form,sZ.at⟩) (by simp [ov,aD,upd,nS])
       rintro v lo hi W hb ⟨g0,g1,g2,g3,g4,g5,g6,g7,g8⟩ ⟨⟨la15,lb15,RC⟩,_⟩;refine .inl ⟨rfl,λK hK=>?_⟩;simp only [ov,aD,Nat.reduceBEq,cond_true,cond_false]
       (try dsimp only at RC)
       obtain ⟨⟨ZB,c15,oR⟩,o15⟩:=RC
       (try simp only [oR])
       go_wp2
       exact aU (hK (v 15) W (Below.refl _ _) ⟨⟨ZB,c15,oR⟩,o15⟩) (by simp [ov,aD,upd,oR])
      case fin=>
       rintro v lo hi W13 zI _ hf _;show wpList _ _ _ [] _ _;obtain ⟨_,_,k16,⟨ca,cc,pL⟩,V4⟩:=hf 16 rfl;have k15:=(hf 15 rfl).1;clear hf;have ck:=V4.inn.own.mono (base':=W3.heap.size) aa;rw [pL] at ck;clear V4;dsimp only;rw [pL];clear pL;obtain ⟨LL,lk⟩:∃ LL,LL=lA ++ lB:=⟨_,rfl⟩;rw [<- lk];rw [<- lk] at ck;have yo:=ad lk;have HOW:=ad ck;clear ck k15 k16 lk;go_wp2_with fail
       go_meet
       refine ⟨ca,cc,LL,rfl,HOW,ad (Et xY.o zI),ad λx=>?_⟩;rw [JR,yo.o,List.mem_append,sw.o,Db.o,dN (Int.le_refl _),dN (Int.le_refl _),dN (Int.le_refl _),mF.o.mem,lT.o.mem];constructor
       .rintro (⟨h1,h2,h3⟩|⟨h1,h2,h3⟩)
        .exact ⟨h1,h2,.inl h3⟩
        exact ⟨h1,h2,.inr h3⟩
       rintro ⟨h1,h2,h3|h3⟩
       .exact .inl ⟨h1,h2,h3⟩
       exact .inr ⟨h1,h2,h3⟩
     have vS:Hid (L=(RA.toNat:Int)*qa.period):=ad (by
      rw [Int.toNat_of_nonneg EU,Si.o,Int.ediv_mul_cancel (by rw [<- mE.o];exact DX)])
     go_wp2_with (go_at_call 229;refine (qq_ _ _ _ _ qa qb st _ _ g mb L _ (yx.o.ext qj.o) mF.o.wf lT.o.wf hs1 aa RA.toNat vS.o aa jB.o.hx aa aa aa aa aa).mono ?_;rintro e AS ⟨v11,rfl,ck,ri⟩;have HOW:=ad (ck.mono (base':=W3.heap.size) aa);have oz:=ad ri;clear ck ri;obtain ⟨va,vc,rfl⟩:=HOW.o.form)
     go_meet
     refine ⟨va,vc,_,rfl,HOW,ad (Et qj.o oz.o),ad λx=>?_⟩;rw [w2_ mF.o.wf lT.o.wf hs1 hs2 HG.o.symm vS.o,VN];rw [P5 (T:=λn=>p1.mem n/\¬ p2.mem n) (Int.le_refl _) (λn=>by rw [mF.o.mem,lT.o.mem])]
    case rest=>
     obtain ⟨va,vc,LL,rfl,vV,CP,jT⟩:=hcut;have ck:=vV.o;have Gc:W3.heap.size<=wc.heap.size:=CP.o.size;have Zn:Hid (cH (gn kd p1.mem p2.mem) st L):=ad (VP ((mF.o.pfrom.mono hs1).of_dvd AU II (by rw [<- mE.o];exact DX)) ((lT.o.pfrom.mono hs2).of_dvd AV II (by rw [<- mE.o];exact Hv)));clear vV;generalize wc=AS at *;go_upto_region 24 with ((first|(go_at_call 69;refine (JD _ LL W3.heap.size _ ck).mono ?_;rintro e Rf ⟨rfl,nn,zU⟩;have jt:=ck.below_grown (W0:=AS) (.inr trivial) aa zU;have TU:=zU.size)|(go_at_call 230;refine (py_ _ (ar LL) W3.heap.size _ nn).mono ?_;rintro e tj ⟨v13,rfl,fq,zV,_⟩;have zI:=nn.below_grown (W0:=Rf) (.inr trivial) aa zV;have TW:=zV.size;rw [nj_ (ff (Int.le_refl 0)).1 jT.o] at fq;obtain ⟨SL,N6⟩:∃ SL,SL=bC (gn kd p1.mem p2.mem) 0 (st+L):=⟨_,rfl⟩;rw [<- N6] at fq;have oG:=ad N6;clear N6;obtain ⟨xI,vH,rfl⟩:=fq.form)))
     have EL:1<=L:=II;have IT:=ti_ (U:=gn kd p1.mem p2.mem) (show 0<=st by omega) (show st<=st+L by omega);rw [<- oG.o] at IT;obtain ⟨i0,hi0⟩:∃ i0,i0=(bC (gn kd p1.mem p2.mem) 0 st).length:=⟨_,rfl⟩;rw [<- hi0] at IT;have YP:=ad hi0;have AY:=ad IT;have EX:SL.Pairwise (· < ·):=by rw [oG.o];exact (ff (Int.le_refl 0)).1
     have Ly:=ad EX;have FE:i0<=SL.length:=by have:=AY.o.2.1;have h2:=congrArg List.length this;rw [List.length_take,<- YP.o] at h2;omega
     have hsll:(SL.length:Int)<=st+L:=by have:=(ff (S:=gn kd p1.mem p2.mem) (lo:=0) (hi:=st+L) (Int.le_refl 0)).length_le aa;rw [<- oG.o] at this;omega
     have kg:=fq.ints;have C0:=ad kg;obtain ⟨b3',Fg,wQ⟩:∃ c',vH=c'/\SL.length<=c':=by
      obtain ⟨⟨a,c,e,h1,h2,_⟩,_,_⟩:=kg;injection e with _ _ e3
      exact ⟨c,e3,h1⟩
     rw [<- Fg] at wQ;obtain ⟨ha',hrun',hint'⟩:=tm_ (a:=xI) (c:=vH) SL FE wQ;obtain ⟨da',SE,wA,_⟩:=Il (a:=xI) (c:=vH) SL FE;have C7:=ad hint';have xX:=ad wA;have rj:Below W3.heap.size W3 tj:=(CP.o).trans (jt.trans zI);have CA:=ad rj;have Le:=ad fq;have xi:=fV.o.below rj;have m8:tj.cell? ⟨pb,8,none⟩=some (.int .i64 st):=(xi.cells 8).1;have rC:=fq.inn;have yg:=ad rC;clear hi0 IT EX kg Fg hint' wA rj fq nn zU zV xi rC;clear d0 d1 d2 d3 d4 d5 d6 d7 d8 d9 d10 d11 d12;go_upto_region 25 with (go_at_call 216;refine (sJ _ SL st _ C0.o Ly.o).mono ?_;rintro e xJ ⟨he,QP,rfl⟩;rw [AY.o.1] at he;generalize decide (st∈SL)=dB at he;subst he)
     obtain ⟨xJ,pa⟩:∃ xJ,xJ=tj.drewN QP:=⟨_,rfl⟩;rw [<- pa];have EG:Below W3.heap.size W3 xJ:=by rw [pa];exact CA.o.trans (Below.drewN (Below.refl _ _) _)
     have wU:IntsIn xJ W3.heap.size tj.heap.size (.slice xI SL.length vH) SL:=by rw [pa];exact yg.o.drewN _
     have m8:xJ.cell? ⟨pb,8,none⟩=some (.int .i64 st):=by rw [pa];exact m8
     have Gd:tj.heap.size<=xJ.heap.size:=by rw [pa,fE];exact Nat.le_refl _
     have Kt:=ad EG;have C4:=ad wU;clear pa EG wU;refine oK (w0:=xJ) [0,1,2,3,4,5,6,7,8] [9] (λv=>⟨#[an (.slice a1 p1.head.length m1) (.slice a2 p1.cycle.length m2) p1.frm p1.period,an (.slice a3 p2.head.length m3) (.slice a4 p2.cycle.length m4) p2.frm p2.period,.int .i64 kd,.pointer (some ⟨w.heap.size,0,none⟩),.pointer (some ⟨w.heap.size+1,0,none⟩),undef,.pointer (some ⟨w.heap.size+1+1,0,none⟩),.int .i64 0,.pointer (some ⟨pb,0,none⟩),.int .i64 L,.int .i64 0,.slice rY HL.length rZ,.int .i64 (↑HL.length+↑cn),.int .i64 (bA+PA),.int .i64 (bB+PB),.pointer (some ⟨gW.heap.size,0,none⟩),.slice xI SL.length vH,.int .i64 ↑i0,.bool dB,v 8,undef,undef,u22,u23,u24,u25,u26,u27,u28,u29,u30,u31,u32,u33,u34,u35,u36,u37,u38,u39,u40,u41,u42,u43,u44,u45,u46,u47,u48,u49,u50,u51,u52,u53,u54,u55,u56,u57,u58,u59,u60,u61,u62,u63,u64,u65,u66,u67,u68,u69,u70,u71,u72,u73,u74,u75,u76,u77,u78,u79,u80,u81,u82,u83,u84,u85,u86,u87,u88,u89,u90,u91,u92,u93,u94,u95,u96,u97,u98,.int .i64 kd,u100,u101,u102,u103,u104,u105,u106,u107,u108,u109,u110,u111,u112,u113,u114,u115,u116,u117,u118,u119,u120,u121,u122,u123,u124,u125,u126,u127,.slice va LL.length vc,.tuple #[],.slice va LL.length vc,.slice xI SL.length vH,.tuple #[.int .i64 ↑i0,.bool dB],.slice xI SL.length vH,.pointer (some ⟨pb,8,none⟩),.int .i64 st,.tuple #[.int .i64 ↑i0,.bool dB],.int .i64 ↑i0,.bool dB,v 0,v 1,v 2,v 3,v 4,v 5,v 6,v 7,u147,u148,undef,undef,undef,u152,u153,u154,u155,u156,u157,u158,u159,u160,u161,u162,u163,u164,u165,u166],[]⟩) [.slice xI SL.length vH,.int .i64 i0,.int .i64 i0,.slice ha' i0 i0,.pointer (some ⟨pb,8,none⟩),.int .i64 st,.int .i64 L,.agg #[.slice ha' i0 i0,.int .i64 st,.int .i64 L,.slice none 0 0],undef] [8] (λi v lo hi W=>match i with|8=>v 8=.pointer (some ⟨lo 8,0,none⟩)/\lo 8<hi 8/\af W (lo 8) #[.slice none 0 0,.int .i64 0,.int .i64 0,.slice none 0 0] 80|_=>True) (λW=>W.cell? ⟨pb,8,none⟩=some (.int .i64 st)) (λW hb=>bF m8 hb) ?stab ?loc ?steps ?fin (λj=>match j with|0=>u139|1=>u140|2=>u141|3=>u142|4=>u143|5=>u144|6=>u145|7=>u146|8=>undef|_=>undef)
     case stab=>
      refine ⟨?_,trivial⟩;intro v lo hi W W' h hb;exact ⟨h.1,h.2.1,h.2.2.below hb⟩
     case loc=>
      refine ⟨?_,trivial⟩;intro v v' lo lo' hi hi' W aC h;have q:=aC 8 (.inl rfl)
      (try dsimp only at h ⊢)
      simp only [q.1,q.2.1,q.2.2] at h;exact h
     case steps=>
      refine .c [] [] rfl ?_ (.c [] [] rfl ?_ (.c [] [] rfl ?_ (.c [0,1,2] [] rfl ?_ (.c [] [] rfl ?_ (.c [4] [] rfl ?_ (.c [] [] rfl ?_ (.c [3,5,6] [] rfl ?_ (.c [] [] rfl ?_ (.n)))))))));all_goals try exact pj
      rintro v lo hi W hb g8 _;refine .inl ⟨rfl,λK hK=>?_⟩;simp only [ov,aD,Nat.reduceBEq,cond_true,cond_false];go_wp2;exact hK (.pointer (some ⟨W.heap.size,0,none⟩)) _ (Ea (Er _) _) ⟨rfl,ag,af.new _ _ _⟩
     case fin=>
      rintro v lo hi W15 zJ _ hf _;show wpList _ _ _ [_] _ _;have e7:v 7=.agg #[.slice ha' i0 i0,.int .i64 st,.int .i64 L,.slice none 0 0]:=(hf 7 rfl).2.2.2;obtain ⟨l8,_,k8,e8,lt8,cG⟩:=hf 8 rfl;clear hf;generalize lo 8=ob at *;generalize hi 8=hi8 at *;dsimp only;rw [e7,e8];clear e7 e8;generalize v 0=o0,v 1=o1,v 2=o2,v 3=o3,v 4=o4,v 5=o5,v 6=o6;clear v;have k0:=cG.cells 0;have k1:=cG.cells 1;have k2:=cG.cells 2;have k3:=cG.cells 3;have hob':tj.heap.size<=ob:=aa;have hpb3:=tY.o;go_upto_region 26 with (fail)
      refine iR (F:=λyS=>af yS ob #[.slice ha' i0 i0,.int .i64 st,.int .i64 L,.slice none 0 0] 80/\IntsIn yS W3.heap.size tj.heap.size (.slice xI SL.length vH) SL/\Below W3.heap.size W3 yS)
       ⟨af.set4 cG,(((((C4.o.below zJ Gd).set _ aa).set _ aa).set _ aa).set _ aa),((((Kt.o.trans (zJ.mono aa)).setCell (p:=⟨ob,0,none⟩) aO _).setCell (p:=⟨ob,1,none⟩) aO _).setCell (p:=⟨ob,2,none⟩) aO _).setCell (p:=⟨ob,3,none⟩) aO _⟩ ?_
      clear cG k0 k1 k2 k3 m8 zJ;rintro yS ⟨cG,wV,zx⟩;have TX:=zx.size;have Ao:=cG.lt;have Y8:=ad cG;have C5:=ad wV;have oB:=ad zx;clear cG wV zx;obtain ⟨DR,ID⟩:∃ DR,DR=SL.drop i0:=⟨_,rfl⟩;have CN:=ad ID;have rA:DR.length=SL.length-i0:=by rw [ID];simp
      have pQ:∀ y∈DR,st<=y/\y<st+L:=λy hy=>by
       rw [ID,AY.o.2.2] at hy;have:=(dN (show 0<=st by omega) y).1 hy;omega
      have Kr:=ad pQ;have RL:=ad rA;clear ID rA pQ;go_wp2;go_loopw [151] (λi wr=>∃ (k:Nat) (cv:Value),k<=SL.length-i0/\i=.int .i64 k/\af wr ob #[.slice ha' i0 i0,.int .i64 st,.int .i64 L,cv] 80/\ak wr yS.heap.size cv ((DR.take k).map (· - st))/\yS.grownBy wr (some ob)) (λi _=>SL.length-i0-(intOf i).toNat)
      .exact ⟨0,.slice none 0 0,aa,rfl,Y8.o,ak.nil _ _,World.grownBy.refl _ _⟩
      obtain ⟨k,cv,hk,rfl,cG,hown,hgr⟩:=hrel;have lI:=hgr.size;obtain ⟨ca,cc,rfl⟩:=hown.form;have u_:=C5.o.of_blocks (w':=wr) λj h1 h2=>hgr.block j aa aO;by_cases hlt:k<SL.length-i0
      .obtain ⟨⟨a8,c8,jM,_,_,dA⟩,_,vw⟩:=xX.o wr u_.ints;rw [<- CN.o] at jM dA vw;have oX:k<DR.length:=by rw [RL.o];exact hlt
       rcases dA with dA|⟨b8,f8,ee,hcell⟩
       .rw [dA] at oX;simp at oX
       injection jM with cI eB dk
       rw [ee] at cI;subst cI;have hcl:=hcell k oX;have hyb:=Kr.o _ (kH oX);have fM:(k:Int)<((SL.length-i0:Nat):Int):=aa;have Jo:(DR.take (k+1)).map (· - st)=(DR.take k).map (· - st) ++ [DR.getD k 0-st]:=by
        rw [List.take_succ_eq_append_getElem oX,List.map_append];simp [oX]
       obtain ⟨y,hy⟩:∃ y,y=DR.getD k 0:=⟨_,rfl⟩;rw [<- hy] at hcl hyb Jo;obtain ⟨CL,uF⟩:∃ CL,CL=(DR.take k).map (· - st):=⟨_,rfl⟩;have hcll:CL.length<=k:=by rw [uF];simp;omega
       rw [<- uF] at hown cG Jo;have q3:wr.cell? ⟨ob,3,none⟩=some (.slice ca CL.length cc):=(cG.cells 3).1;have F4:af wr pb #[.slice z1 qa.head.length y1,.int .i64 qa.frm,.int .i64 qa.period,.slice z2 qa.cycle.length y2,.slice z3 qb.head.length y3,.int .i64 qb.frm,.int .i64 qb.period,.slice z4 qb.cycle.length y4,.int .i64 st,.slice xa (ar (aj qa st)).length xc,.slice ya (ar (aj qb st)).length yc,.int .i64 g,.map (some mb)] 252:=(hgr.block pb aa aO).trans (fV.o.below oB.o);have q8:wr.cell? ⟨pb,8,none⟩=some (.int .i64 st):=(F4.cells 8).1;have Zl:=ad Jo;have HOBr:=ad cG;have HOWNr:=ad hown;have A6:=ad hgr;clear cG hown hgr u_ Jo hy uF hcell F4 ee eB dk vw;go_wp2_with (at_builtin;refine pA az _ _ az yS.heap.size (.slice ca CL.length cc) CL (y-st) az (HOWNr.o.ext (Ea (Er _) _)) _ _ az ag ⟨aa,aa⟩ aa aO ?_;intro gg cap xK Ap I0 rk;have rN:=(HOBr.o.alloc (.cells #[.int .i64 (y-st)] 3)).upto rk Ao;have r1:=(rN.cells 3).1;have r2:=(rN.cells 3).2);go_roundw
       .refine ⟨k+1,.slice (some ⟨gg,0,none⟩) (CL.length+1) cap,aa,by go_num,br 3 _ rN,?_,x5_ A6.o (((Below.refl _ wr).alloc lI _).trans rk)⟩;rw [Zl.o];exact Ap.above ((b7.refl _ xK).setCell aO _)
       simp [intOf];omega
      obtain rfl:k=SL.length-i0:=aa;have hall:DR.take (SL.length-i0)=DR:=by rw [<- RL.o];exact List.take_length
      rw [hall] at hown;have cd:=MO (U:=gn kd p1.mem p2.mem) (st:=st) (L:=L) aa EL (λn h=>t9_ h) Zn.o;obtain ⟨CL,uF⟩:∃ CL,CL=DR.map (· - st):=⟨_,rfl⟩;rw [hall,<- uF] at cG;rw [<- uF] at hown;have EP:bX wr (.slice ha' i0 i0) (.slice ca CL.length cc) (Per.mk (bC (gn kd p1.mem p2.mem) 0 st) st L ((bC (gn kd p1.mem p2.mem) st (st+L)).map (· - st))):=by
       refine ⟨?_,?_⟩
       .have:=C7.o wr u_.ints;rw [AY.o.2.1] at this;exact this
       have:=hown.ints;rw [uF,CN.o,AY.o.2.2] at this;rw [uF,CN.o,AY.o.2.2];exact this
      have dH:Below w.heap.size w wr:=⟨hgr.os.trans (oB.o.os.trans wK.os),hgr.tape.trans (oB.o.tape.trans wK.tape),hgr.output.trans (oB.o.output.trans wK.output),by have:=wK.size;omega,λj hj=>(hgr.block j (by have:=wK.size;omega) aO).trans ((oB.o.block j (by have:=wK.size;omega)).trans (wK.block j hj))⟩;have F8:af wr (w.heap.size+2) #[.slice none 0 0,.int .i64 0,.int .i64 0,.slice none 0 0] 80:=(hgr.block _ aa aO).trans (nG.o.below oB.o);have q0:wr.cell? ⟨ob,0,none⟩=some (.slice ha' i0 i0):=(cG.cells 0).1;have q1:wr.cell? ⟨ob,1,none⟩=some (.int .i64 st):=(cG.cells 1).1;have q2:wr.cell? ⟨ob,2,none⟩=some (.int .i64 L):=(cG.cells 2).1;have q3:wr.cell? ⟨ob,3,none⟩=some (.slice ca CL.length cc):=(cG.cells 3).1;have yG:=ad cd;have Ll:=ad EP;have CS:=ad dH;have Lt:=ad F8;have HQ:Hid (bP q (Per.mk (bC (gn kd p1.mem p2.mem) 0 st) st L ((bC (gn kd p1.mem p2.mem) st (st+L)).map (· - st))).mem):=ad (hq.congr λn=>(cd.2 n).symm);clear cd EP dH F8 cG hown hgr u_ hall uF;go_wp2_with (go_at_call 129;refine (Ee _ _ (Per.mk (bC (gn kd p1.mem p2.mem) 0 st) st L ((bC (gn kd p1.mem p2.mem) st (st+L)).map (· - st))) q _ Ll.o yG.o.1 (by show st<=_;omega) (by show L<=_;omega) HQ.o).mono ?_;rintro e w18 ⟨r1,r2,rfl,F0,Ff⟩;obtain ⟨n1,j1,n2,j2,rfl,rfl⟩:=F0.form;have oh:=Lt.o.below Ff;have g0:=oh.cells 0;have g1:=oh.cells 1;have g2:=oh.cells 2;have g3:=oh.cells 3;have TY:=Ff.size);have dH:=CS.o;exact bodyPost_ret (v:=.tuple #[an (.slice n1 q.head.length j1) (.slice n2 q.cycle.length j2) q.frm q.period,.int .i64 0]) (by simp [results,Tryz.results190,go_sem, *]) rfl ⟨_,_,rfl,(F0.above (by (repeat' (with_reducible first|exact b7.refl _ _|refine b7.alloc ?_ _|refine b7.drew ?_|refine b7.drewN ?_ _|refine b7.setCell ?_ (by first|(simp;done)|(simp;omega)|omega) _)))).mono aa,xE⟩
theorem qe_ (h1 c1 h2 c2:Value) (p1 p2 qa qb q:Per) (w:World) (fs:bX w h1 c1 p1) (eO:bX w h2 c2 p2) (iZ:Valid p1) (hv2:Valid p2) (eX:bP qa p1.mem) (ef:bP qb p2.mem)
  (hL:aS qa.period qb.period<=1099511627776) (pS:qa.period<=4294967295) (bJ:qb.period<=4294967295)
  (hq:bP q (λn=>p1.mem n/\p2.mem n)) (f_:cnt (λn=>p1.mem n/\p2.mem n) (max qa.frm qb.frm+aS qa.period qb.period).toNat<=1048576) :
  Calls Tryz.prog 190 #[an h1 c1 p1.frm p1.period,an h2 c2 p2.frm p2.period,.int .i64 0] w (mO q w):=
 Ve 0 (.inl rfl) h1 c1 h2 c2 p1 p2 qa qb q w fs eO iZ hv2 eX ef hL (λ_=>⟨pS,bJ⟩) (Fz _ _ ▸ hq) (Fz _ _ ▸ f_)
theorem ta_ (h1 c1 h2 c2:Value) (p1 p2 qa qb q:Per) (w:World) (fs:bX w h1 c1 p1) (eO:bX w h2 c2 p2) (iZ:Valid p1) (hv2:Valid p2) (eX:bP qa p1.mem) (ef:bP qb p2.mem)
  (hL:aS qa.period qb.period<=1099511627776)
  (hq:bP q (λn=>p1.mem n\/p2.mem n)) (f_:cnt (λn=>p1.mem n\/p2.mem n) (max qa.frm qb.frm+aS qa.period qb.period).toNat<=1048576) :
  Calls Tryz.prog 190 #[an h1 c1 p1.frm p1.period,an h2 c2 p2.frm p2.period,.int .i64 1] w (mO q w):=
 Ve 1 (.inr (.inl rfl)) h1 c1 h2 c2 p1 p2 qa qb q w fs eO iZ hv2 eX ef hL (λh=>aa) (JR _ _ ▸ hq) (JR _ _ ▸ f_)
theorem vw_ {l1 l2:List Int} (hl:l1.length=l2.length) (hk:k<l1.length) (h:l1.take k=l2.take k) (he:l1.getD k 0=l2.getD k 0):l1.take (k+1)=l2.take (k+1):=by
 rw [List.take_add_one,List.take_add_one,h];have h2:k<l2.length:=aa;rw [List.getD_eq_getElem?_getD,List.getD_eq_getElem?_getD,List.getElem?_eq_getElem hk,List.getElem?_eq_getElem h2] at he;rw [List.getElem?_eq_getElem hk,List.getElem?_eq_getElem h2];simp at he;simp [he]
theorem tc_ (p q:Per):p=q↔p.frm=q.frm/\p.period=q.period/\p.head=q.head/\p.cycle=q.cycle:=by
 constructor
 .rintro rfl;simp
 rintro ⟨h1,h2,h3,h4⟩;cases p;cases q;simp_all
instance:DecidableEq Per:=λp q=>decidable_of_iff _ (tc_ p q).symm
theorem Ms (h1 c1 h2 c2:Value) (p1 p2 qa qb q:Per) (w:World) (fs:bX w h1 c1 p1) (eO:bX w h2 c2 p2) (iZ:Valid p1) (hv2:Valid p2) (eX:bP qa p1.mem) (ef:bP qb p2.mem)
  (hL:aS qa.period qb.period<=1099511627776) (pS:qa.period<=4294967295) (bJ:qb.period<=4294967295)
  (hq:bP q (λn=>p1.mem n/\p2.mem n)) (f_:cnt (λn=>p1.mem n/\p2.mem n) (max qa.frm qb.frm+aS qa.period qb.period).toNat<=1048576) :
  Calls Tryz.prog 188 #[an h1 c1 p1.frm p1.period,an h2 c2 p2.frm p2.period] w (mO q w):=by
 have Lb:∀ W,Below w.heap.size w W->Calls Tryz.prog 190 #[an h1 c1 p1.frm p1.period,an h2 c2 p2.frm p2.period,.int .i64 0] W (mO q W):=λW hb=>qe_ h1 c1 h2 c2 p1 p2 qa qb q W (fs.ext hb) (eO.ext hb) iZ hv2 eX ef hL pS bJ hq f_;clear fs eO iZ hv2 eX ef hL pS bJ hq f_
 go_in
 go_wp2_with (go_at_call 190;refine (Lb _ xE).mono ?_;rintro e w2 ⟨h',c',rfl,eO,hb2⟩;obtain ⟨a1,c1,a2,c2,rfl,rfl⟩:=eO.form;obtain ⟨hc2,hf2⟩:=fJ hb2;have kA:=ad eO;clear eO)
 exact bodyPost_ret (v:=.tuple #[an (.slice a1 q.head.length c1) (.slice a2 q.cycle.length c2) q.frm q.period,.int .i64 0]) (by simp [results,Tryz.results188,go_sem, *]) rfl ⟨_,_,rfl,(kA.o.above (by (repeat' (with_reducible first|exact b7.refl _ _|refine b7.alloc ?_ _|refine b7.drew ?_|refine b7.drewN ?_ _|refine b7.setCell ?_ (by first|(simp;done)|(simp;omega)|omega) _)))).mono aO,xE⟩
theorem MW (h1 c1 h2 c2:Value) (p1 p2 qa qb q:Per) (w:World) (fs:bX w h1 c1 p1) (eO:bX w h2 c2 p2) (iZ:Valid p1) (hv2:Valid p2) (eX:bP qa p1.mem) (ef:bP qb p2.mem)
  (hL:aS qa.period qb.period<=1099511627776)
  (hq:bP q (λn=>p1.mem n\/p2.mem n)) (f_:cnt (λn=>p1.mem n\/p2.mem n) (max qa.frm qb.frm+aS qa.period qb.period).toNat<=1048576) :
  Calls Tryz.prog 141 #[an h1 c1 p1.frm p1.period,an h2 c2 p2.frm p2.period] w (mO q w):=by
 have Lb:∀ W,Below w.heap.size w W->Calls Tryz.prog 190 #[an h1 c1 p1.frm p1.period,an h2 c2 p2.frm p2.period,.int .i64 1] W (mO q W):=λW hb=>ta_ h1 c1 h2 c2 p1 p2 qa qb q W (fs.ext hb) (eO.ext hb) iZ hv2 eX ef hL hq f_;clear fs eO iZ hv2 eX ef hL hq f_
 go_in
 go_wp2_with (go_at_call 190;refine (Lb _ xE).mono ?_;rintro e w2 ⟨h',c',rfl,eO,hb2⟩;obtain ⟨a1,c1,a2,c2,rfl,rfl⟩:=eO.form;obtain ⟨hc2,hf2⟩:=fJ hb2;have kA:=ad eO;clear eO)
 exact bodyPost_ret (v:=.tuple #[an (.slice a1 q.head.length c1) (.slice a2 q.cycle.length c2) q.frm q.period,.int .i64 0]) (by simp [results,Tryz.results141,go_sem, *]) rfl ⟨_,_,rfl,(kA.o.above (by (repeat' (with_reducible first|exact b7.refl _ _|refine b7.alloc ?_ _|refine b7.drew ?_|refine b7.drewN ?_ _|refine b7.setCell ?_ (by first|(simp;done)|(simp;omega)|omega) _)))).mono aO,xE⟩
theorem Ints.lit {b:Nat} {t:TypeId} (h:af w b (l.map (Value.int .i64)).toArray t) (hl:l.length<=17592186044416) (hr:∀ x∈l,aP x):Ints w (.slice (some ⟨b,0,none⟩) l.length l.length) l:=by
 refine ⟨⟨_,_,rfl,Nat.le_refl _,aa,.inr ⟨b,0,rfl,λi hi=>?_⟩⟩,hl,hr⟩;rw [Nat.zero_add,(h.cells i).1];rw [List.getElem?_toArray,List.getElem?_map,List.getElem?_eq_getElem hi,List.getD_eq_getElem?_getD,List.getElem?_eq_getElem hi];rfl
structure pI (w:World) (v:Value) (l:List Int):Prop where
 is:∃ a c,v=.slice a l.length c/\(l=[]\/∃ b o,a=some ⟨b,o,none⟩/\∀ i,i<l.length->w.cell? ⟨b,o+i,none⟩=some (.int .u8 (l.getD i 0)))
 len:l.length<=9223372036854775807
 rng:∀ x∈l,0<=x/\x<=255
theorem pI.ext (h:pI w v l) (hb:Below w.heap.size w W):pI W v l:=by
 obtain ⟨⟨a,c,rfl,h3⟩,h4,h5⟩:=h;refine ⟨⟨a,c,rfl,h3.imp id ?_⟩,h4,h5⟩;rintro ⟨b,o,rfl,hc⟩;exact ⟨b,o,rfl,λi hi=>al.cell hb (hc i hi)⟩
end
section
open Kal
end
section
open Go.RowKit Go.Maps Kal
end
end Go.Proofs.YtbmgmlbmgogeaaaGreat
end
namespace Go.Proofs.YtbmgmlbmgogeaaaGreat
section
open Go.ChangeShapes Go.WideShapes Go.ChangeAt Go.RowKit Go.Joins Kal
theorem zi_:ownKnob Tryz.prog.godebug=none:=by kernel_rfl
theorem xk_:laidOutB Tryz.prog=true:=by kernel_rfl
section
variable {H:Type} {enc:TypeId × Value->H} {w:World} {base:Nat} {spare:Nat->Bool} {held:Bool}
theorem V_ {n:Nat} {v:Value} {y:DataW H × List MemPlace} (h:DataW.trod enc Tryz.prog w base spare held n 24 [v]=some y):∃ l,pI w v l:=by
 rcases open_ints Tryz.underlying24 Tryz.underlying5 (by kernel_rfl) h with ⟨hcs,_⟩|⟨a,len,cap,zs,hcs,_,hl,hm,hz,_,hcell,jA⟩
 .simp at hcs;subst hcs;exact ⟨[],⟨none,0,rfl,.inl rfl⟩,ag,ag⟩
 simp at hcs;subst hcs;have FT:len<=zs.length:=by rw [hz];split <;> omega
 have hlen:(zs.take len).length=len:=by rw [List.length_take];omega
 refine ⟨zs.take len,⟨some a,cap,by rw [hlen],?_⟩,?_,?_⟩
 .by_cases h0:len=0
  .exact .inl (by rw [h0];rfl)
  refine .inr ?_;obtain ⟨b,off,spot⟩:=a;have hc:=hcell 0 aa;have hspot:spot=none:=by simpa [Addr.add] using World.cell?_spot hc
  subst hspot;refine ⟨b,off,rfl,λi hi=>?_⟩;rw [hlen] at hi;have h9:=hcell i aa;have e:(zs.take len).getD i 0=zs.getD i 0:=by
   rw [List.getD_eq_getElem?_getD,List.getD_eq_getElem?_getD,List.getElem?_take_of_lt hi]
  rw [e];have e2:(⟨b,off,none⟩:Addr).add i=⟨b,off+i,none⟩:=by
   rcases Nat.eq_zero_or_pos i with h|h
   .subst h;simp [Addr.add]
   simp [Addr.add];omega
  rwa [e2] at h9
 .rw [hlen];unfold maxLen at hm;omega
 intro x hx;exact bounds_u8 (jA x (List.mem_of_mem_take hx))
theorem XH {n:Nat} {t:TypeId} {k:IntKind} {v:Value} {y:DataW H × List MemPlace} (ht:Tryz.prog.underlying t=some (.int k)) (h:DataW.trod enc Tryz.prog w base spare held n t [v]=some y):∃ m,v=.int k m/\(Lit.int k m).wf=true:=by
 obtain ⟨m,hcs,_,hw⟩:=DataW.trod_int ht h;simp at hcs;exact ⟨m,hcs,hw⟩
end
def numV (v:Value):Int:=match v with|.int _ x=>x|_=>0
section
variable {H:Type} {enc:TypeId × Value->H} {w:World} {base:Nat} {spare:Nat->Bool} {held:Bool}
theorem a1t_ {r:Reach} {b0 n:Nat} {t e:TypeId} {k:IntKind} {v:Value} {d:DataW H} {p:List MemPlace} (ht:Tryz.prog.underlying t=some (.array n e)) (he:Tryz.prog.underlying e=some (.int k)) (hce:Tryz.prog.cellsOf e=1) (hct:Tryz.prog.cellsOf t=n)
  (hv:Value.okWide Tryz.prog w r b0 t v) (h:DataW.Trod enc Tryz.prog w base spare held t v d p):∃ ns:List Int,ns.length=n/\v=.agg (ns.map (Value.int k)).toArray/\∀ x∈ns,(Lit.int k x).wf=true:=by
 have hv2:∃ cs:Array Value,v=.agg cs/\cs.size=Tryz.prog.cellsOf t:=by
  unfold Value.okWide at hv;rw [ht] at hv;obtain ⟨cs,h1,h2,_⟩:=hv;exact ⟨cs,h1,h2⟩
 obtain ⟨cs,rfl,hsz⟩:=hv2;obtain ⟨fuel,hf⟩:=h;obtain ⟨xs,m,_,_,hl,nw,hi⟩:=DataW.trod_array ht hf;have hcs:∀ i,i<n->∃ z,cs.toList[i]? = some (.int k z)/\(Lit.int k z).wf=true:=by
  intro i hin;have h1:=hi i hin;rw [hce,Nat.mul_one,List.getElem?_eq_getElem aa] at h1;obtain ⟨z,h2,_,h3⟩:=DataW.trod_int he h1;refine ⟨z,?_,h3⟩;have h4:(List.take 1 (List.drop i cs.toList))[0]? = some (.int k z):=by
   have h5:List.take 1 (List.drop i cs.toList)=[.int k z]:=h2;rw [h5];rfl
  rw [List.getElem?_take_of_lt aa,List.getElem?_drop] at h4;simpa using h4
 refine ⟨cs.toList.map numV,by simp [hsz,hct],?_,?_⟩
 .congr 1
  apply Array.ext
  .simp
  intro i h1 h2;obtain ⟨z,hz,_⟩:=hcs i aa;rw [List.getElem?_eq_getElem (by simpa using h1)] at hz;have hz':=Option.some.inj hz;simp at hz';simp [hz',numV]
 intro x hx;obtain ⟨y,hy,rfl⟩:=List.mem_map.1 hx;obtain ⟨i,zZ,rfl⟩:=List.getElem_of_mem hy;obtain ⟨z,hz,hw⟩:=hcs i (by simp at zZ;omega);rw [List.getElem?_eq_getElem zZ] at hz;have hz':=Option.some.inj hz;rw [hz'];exact hw
theorem a2f_ {l:List Int} (h:l.length=2):∃ a b,l=[a,b]:=by
 match l,h with
 | [a,b],_=>exact ⟨a,b,rfl⟩
end
end
end Go.Proofs.YtbmgmlbmgogeaaaGreat
section
variable {ops:Array Go.Oper}{a r s st x:Int}{m:List (List Kal.Per)}{l ys:List Int}{rest:List Go.Oper}{t:List Kal.Per}{cs:List Go.Value}{B R base c cap g hi k lo mb n:Nat}{o:Go.Oper}{row:Option Nat}{p q qa qb:Kal.Per}{c1 c2 h1 h2 v v' xv yv:Go.Value}{A C W W' W1 w w':Go.World}
namespace Go.Proofs.YtbmgmlbmgogeaaaGreat
section
open Go.RowKit Kal
structure PV where
 h:Value
 c:Value
 p:Per
instance:Inhabited PV:=⟨⟨.slice none 0 0,.slice none 0 0,⟨[],0,0,[]⟩⟩⟩
def PV.enc (x:PV):List Value:=[x.h,.int .i64 x.p.frm,.int .i64 x.p.period,x.c]
abbrev PV.val (x:PV):Value:=an x.h x.c x.p.frm x.p.period
theorem PV.enc_len (x:PV):x.enc.length=4:=rfl
structure bp (W:World) (F:Nat->Prop) (x:PV):Prop where
 is:bX W x.h x.c x.p
 fr:aP x.p.frm
 pe:aP x.p.period
 bh:x.p.head≠[]->∀ k,x.h.ownBlock=some k->F k
 bc:x.p.cycle≠[]->∀ k,x.c.ownBlock=some k->F k
def aN (F:Nat->Prop) (W W':World):Prop:=∀ b,F b->b<W.heap.size->W'.heap[b]? = W.heap[b]?
theorem aN.trans {F:Nat->Prop} {B:World} (h:aN F A B) (g:aN F B C) (hs:A.heap.size<=B.heap.size):aN F A C:=λb hb hl=>(g b hb aa).trans (h b hb hl)
theorem aN.below {F:Nat->Prop} (h:Below W.heap.size W W'):aN F W W':=λb _ hl=>h.block b hl
theorem aN.mono {F G:Nat->Prop} (h:aN F W W') (hF:∀ b,G b->F b):aN G W W':=λb hb hl=>h b (hF b hb) hl
theorem Ints.keep {F:Nat->Prop} (h:Ints W v l) (hb:l≠[]->∀ k,v.ownBlock=some k->F k) (hk:aN F W W'):Ints W' v l:=by
 obtain ⟨⟨a,c,rfl,h1,h2,h3⟩,h4,h5⟩:=h;refine ⟨⟨a,c,rfl,h1,h2,?_⟩,h4,h5⟩;by_cases hl:l=[]
 .exact .inl hl
 rcases h3 with h3|⟨b,o,rfl,hc⟩
 .exact .inl h3
 have h0:=hc 0 (List.length_pos_iff.2 hl);exact .inr ⟨b,o,rfl,λi hi=>(World.cell?_of_block (hk b (hb hl b rfl) (World.block_lt_of_cell? W _ h0))).trans (hc i hi)⟩
theorem bp.keep {F:Nat->Prop} {x:PV} (h:bp W F x) (hk:aN F W W'):bp W' F x:=⟨⟨h.is.hd.keep h.bh hk,h.is.cy.keep h.bc hk⟩,h.fr,h.pe,h.bh,h.bc⟩
theorem bp.mono {F G:Nat->Prop} {x:PV} (h:bp W F x) (hF:∀ b,F b->G b):bp W G x:=⟨h.is,h.fr,h.pe,λa k e=>hF k (h.bh a k e),λa k e=>hF k (h.bc a k e)⟩
structure bS (W:World) (F:Nat->Prop) (v:Value) (n:Nat) (cs:List Value):Prop where
 is:∃ a c,v=.slice a n c/\n<=c/\c<=9223372036854775807/\(n=0\/∃ b o,a=some ⟨b,o,none⟩/\F b/\b<W.heap.size/\∀ i u,cs[i]? = some u->W.cell? ⟨b,o+i,none⟩=some u)
theorem bS.keep {F:Nat->Prop} (h:bS W F v n cs) (hk:aN F W W') (hs:W.heap.size<=W'.heap.size):bS W' F v n cs:=by
 obtain ⟨a,c,rfl,h1,h2,h3⟩:=h;refine ⟨a,c,rfl,h1,h2,h3.imp id ?_⟩;rintro ⟨b,o,rfl,hF,hl,hc⟩;exact ⟨b,o,rfl,hF,aa,λi u hi=>(World.cell?_of_block (hk b hF hl)).trans (hc i u hi)⟩
theorem bS.mono {F G:Nat->Prop} (h:bS W F v n cs) (hF:∀ b,F b->G b):bS W G v n cs:=by
 obtain ⟨a,c,rfl,h1,h2,h3⟩:=h;refine ⟨a,c,rfl,h1,h2,h3.imp id ?_⟩;rintro ⟨b,o,rfl,hb,hl,hc⟩;exact ⟨b,o,rfl,hF b hb,hl,hc⟩
structure gy (W:World) (F:Nat->Prop) (v:Value) (L:List PV):Prop where
 row:bS W F v L.length (L.flatMap PV.enc)
 len:L.length<=17592186044416
 all:∀ x∈L,bp W F x
def bG (W:World) (F:Nat->Prop) (v:Value) (t:List Per):Prop:=∃ L:List PV,L.map PV.p=t/\gy W F v L
theorem gy.keep {F:Nat->Prop} {L:List PV} (h:gy W F v L) (hk:aN F W W') (hs:W.heap.size<=W'.heap.size):gy W' F v L:=⟨h.row.keep hk hs,h.len,λx hx=>(h.all x hx).keep hk⟩
theorem gy.mono {F G:Nat->Prop} {L:List PV} (h:gy W F v L) (hF:∀ b,F b->G b):gy W G v L:=⟨h.row.mono hF,h.len,λx hx=>(h.all x hx).mono hF⟩
theorem bG.keep {F:Nat->Prop} (h:bG W F v t) (hk:aN F W W') (hs:W.heap.size<=W'.heap.size):bG W' F v t:=by
 obtain ⟨L,e,g⟩:=h;exact ⟨L,e,g.keep hk hs⟩
theorem bG.mono {F G:Nat->Prop} (h:bG W F v t) (hF:∀ b,F b->G b):bG W G v t:=by
 obtain ⟨L,e,g⟩:=h;exact ⟨L,e,g.mono hF⟩
theorem bG.ext {F:Nat->Prop} (h:bG W F v t) (hb:Below W.heap.size W W'):bG W' F v t:=h.keep (aN.below hb) hb.size
structure cE (W:World) (F:Nat->Prop) (v:Value) (L:List (Value × List Per)):Prop where
 row:bS W F v L.length (L.map Prod.fst)
 len:L.length<=17592186044416
 all:∀ x∈L,bG W F x.1 x.2
def aA (W:World) (F:Nat->Prop) (v:Value) (m:List (List Per)):Prop:=∃ L:List (Value × List Per),L.map Prod.snd=m/\cE W F v L
theorem cE.keep {F:Nat->Prop} {L:List (Value × List Per)} (h:cE W F v L) (hk:aN F W W') (hs:W.heap.size<=W'.heap.size):cE W' F v L:=⟨h.row.keep hk hs,h.len,λx hx=>(h.all x hx).keep hk hs⟩
theorem cE.mono {F G:Nat->Prop} {L:List (Value × List Per)} (h:cE W F v L) (hF:∀ b,F b->G b):cE W G v L:=⟨h.row.mono hF,h.len,λx hx=>(h.all x hx).mono hF⟩
theorem aA.keep {F:Nat->Prop} (h:aA W F v m) (hk:aN F W W') (hs:W.heap.size<=W'.heap.size):aA W' F v m:=by
 obtain ⟨L,e,g⟩:=h;exact ⟨L,e,g.keep hk hs⟩
theorem aA.mono {F G:Nat->Prop} (h:aA W F v m) (hF:∀ b,F b->G b):aA W G v m:=by
 obtain ⟨L,e,g⟩:=h;exact ⟨L,e,g.mono hF⟩
theorem aA.ext {F:Nat->Prop} (h:aA W F v m) (hb:Below W.heap.size W W'):aA W' F v m:=h.keep (aN.below hb) hb.size
theorem mJ {L:List PV}:∀ {j i:Nat} {u:Value},j<L.length->(L.getD j default).enc[i]? = some u->(L.flatMap PV.enc)[j*4+i]? = some u:=by
 induction L with
 | nil=>intro j i u h;simp at h
 | cons x L ih=>
  intro j i u hj hi;rw [List.flatMap_cons];cases j with
  | zero=>
   have h4:i<x.enc.length:=(List.getElem?_eq_some_iff.1 hi).1;rw [List.getElem?_append_left (by simpa using h4)];simpa using hi
  | succ j=>
   rw [List.getElem?_append_right (by rw [PV.enc_len];omega),PV.enc_len,show (j+1)*4+i-4=j*4+i by omega];exact ih (by simpa using hj) (by simpa using hi)
end
section
open Go.RowKit Go.Maps Kal
theorem dz {α:Type} {l:List α} {i:Nat} {d:α} (h:i<l.length):l.getD i d∈l:=by
 rw [List.getD_eq_getElem?_getD,List.getElem?_eq_getElem h];exact List.getElem_mem h
theorem Qa {α:Type} {l:List α} {d:α} {p:α->Bool} (h:k<l.length):(l.take (k+1)).any p=((l.take k).any p || p (l.getD k d)):=by
 rw [List.take_succ_eq_append_getElem h,List.any_append,List.getD_eq_getElem?_getD,List.getElem?_eq_getElem h];simp
def JZ (g:Nat) (lb:Array Value) (L:List PV) (p:PV->Bool) (w:World):Prop:=
 ∀ (W:World) (x:PV),Below w.heap.size w W->x∈L->Calls Tryz.prog g (#[x.val] ++ lb) W λe w'=>e=.returned (.bool (p x))/\Below w.heap.size w w'
theorem so_ (F:Nat->Prop) (v:Value) (L:List PV) (p:PV->Bool) (g:Nat) (lb:Array Value) (eg:∀ args w,(callFunc g args).run Tryz.prog w=.ok (.enter g args) w) (w:World) (hv:bS w F v L.length (L.flatMap PV.enc)) (hlen:L.length<=17592186044416) (hp:JZ g lb L p w) :
  Calls Tryz.prog 125 #[v,.func (.func g) #[] lb] w λe w'=>∃ i:Int,e=.returned (.int .i64 i)/\decide (0<=i)=L.any p/\Below w.heap.size w w':=by
 have lS:=ad hp;obtain ⟨a1,c1,rfl,_,_,h3⟩:=hv;have HC:=ad h3;clear hp h3
 go_in
 go_wp2
 go_loopw [5,8] (λ_ i wr=>∃ k:Nat,k<=L.length/\i=.int .i64 k/\(L.take k).any p=false/\Below w.heap.size w wr) (λ_ i _=>L.length-(intOf i).toNat)
 .exact ⟨0,aa,rfl,rfl,Below.refl _ _⟩
 obtain ⟨k,hk,rfl,hpre,hb⟩:=hrel;have HB:=ad hb;have cM:=ad hpre;clear hpre;by_cases hlt:k<L.length
 .have dh:(k:Int)<L.length:=aa;rcases HC.o with h0|⟨b8,f8,rfl,hF,ee,hcell⟩
  .omega
  have e0:wr.cell? ⟨b8,f8+k*4,none⟩=some (L.getD k default).h:=Below.cell' hb (hcell (k*4+0) _ (mJ hlt rfl)) ee;have e1:wr.cell? ⟨b8,f8+k*4+1,none⟩=some (.int .i64 (L.getD k default).p.frm):=Below.cell' hb (hcell (k*4+1) _ (mJ hlt rfl)) ee;have e2:wr.cell? ⟨b8,f8+k*4+2,none⟩=some (.int .i64 (L.getD k default).p.period):=Below.cell' hb (hcell (k*4+2) _ (mJ hlt rfl)) ee;have e3:wr.cell? ⟨b8,f8+k*4+3,none⟩=some (L.getD k default).c:=Below.cell' hb (hcell (k*4+3) _ (mJ hlt rfl)) ee;have cZ:=lS.o wr (L.getD k default) hb (dz hlt);have gY:Hid ((L.take (k+1)).any p=((L.take k).any p || p (L.getD k default))):=ad (Qa hlt);have jT:=ad (dz (d:=default) hlt);generalize L.getD k default=y at *;clear hcell hb;cases hq:p y with
  | true=>
   rw [hq] at cZ;have HQ:=ad hq;clear hq;go_wp2_with (go_at_fn g;refine cZ.mono ?_;rintro e w' ⟨rfl,hb'⟩);go_ret;refine ⟨_,rfl,?_,hb'⟩;rw [decide_eq_true aa];exact (List.any_eq_true.2 ⟨y,jT.o,HQ.o⟩).symm
  | false=>
   rw [hq] at cZ;have HQ:=ad hq;clear hq;go_wp2_with (go_at_fn g;refine cZ.mono ?_;rintro e w' ⟨rfl,hb'⟩);go_roundw
   .exact ⟨k+1,aa,by go_num,by rw [gY.o,cM.o,HQ.o];rfl,hb'⟩
   simp [intOf];omega
 obtain rfl:k=L.length:=aa;go_wp2;go_ret;refine ⟨_,rfl,?_,HB.o⟩;have:=cM.o;rw [List.take_length] at this;rw [this];rfl
def Q3 (g:Nat) (lb:Array Value) (L:List (Value × List Per)) (p:(Value × List Per)->Bool) (w:World):Prop:=
 ∀ (W:World) (x:(Value × List Per)),Below w.heap.size w W->x∈L->Calls Tryz.prog g (#[x.1] ++ lb) W λe w'=>e=.returned (.bool (p x))/\Below w.heap.size w w'
theorem sp_ (F:Nat->Prop) (v:Value) (L:List (Value × List Per)) (p:(Value × List Per)->Bool) (g:Nat) (lb:Array Value) (eg:∀ args w,(callFunc g args).run Tryz.prog w=.ok (.enter g args) w) (w:World) (hv:bS w F v L.length (L.map Prod.fst)) (hlen:L.length<=17592186044416) (hp:Q3 g lb L p w) :
  Calls Tryz.prog 146 #[v,.func (.func g) #[] lb] w λe w'=>∃ i:Int,e=.returned (.int .i64 i)/\decide (0<=i)=L.any p/\Below w.heap.size w w':=by
 have lS:=ad hp;obtain ⟨a1,c1,rfl,_,_,h3⟩:=hv;have HC:=ad h3;clear hp h3
 go_in
 go_wp2
 go_loopw [5,8] (λ_ i wr=>∃ k:Nat,k<=L.length/\i=.int .i64 k/\(L.take k).any p=false/\Below w.heap.size w wr) (λ_ i _=>L.length-(intOf i).toNat)
 .exact ⟨0,aa,rfl,rfl,Below.refl _ _⟩
 obtain ⟨k,hk,rfl,hpre,hb⟩:=hrel;have HB:=ad hb;have cM:=ad hpre;clear hpre;by_cases hlt:k<L.length
 .have dh:(k:Int)<L.length:=aa;rcases HC.o with h0|⟨b8,f8,rfl,hF,ee,hcell⟩
  .omega
  have e0:wr.cell? ⟨b8,f8+k,none⟩=some (L.getD k (.slice none 0 0,[])).1:=Below.cell' hb (hcell k _ (by rw [List.getElem?_map,List.getD_eq_getElem?_getD,List.getElem?_eq_getElem hlt];rfl)) ee;have cZ:=lS.o wr (L.getD k (.slice none 0 0,[])) hb (dz hlt);have gY:Hid ((L.take (k+1)).any p=((L.take k).any p || p (L.getD k (.slice none 0 0,[])))):=ad (Qa hlt);have jT:=ad (dz (d:=(.slice none 0 0,[])) hlt);generalize L.getD k (.slice none 0 0,[])=y at *;clear hcell hb;cases hq:p y with
  | true=>
   rw [hq] at cZ;have HQ:=ad hq;clear hq;go_wp2_with (go_at_fn g;refine cZ.mono ?_;rintro e w' ⟨rfl,hb'⟩);go_ret;refine ⟨_,rfl,?_,hb'⟩;rw [decide_eq_true aa];exact (List.any_eq_true.2 ⟨y,jT.o,HQ.o⟩).symm
  | false=>
   rw [hq] at cZ;have HQ:=ad hq;clear hq;go_wp2_with (go_at_fn g;refine cZ.mono ?_;rintro e w' ⟨rfl,hb'⟩);go_roundw
   .exact ⟨k+1,aa,by go_num,by rw [gY.o,cM.o,HQ.o];rfl,hb'⟩
   simp [intOf];omega
 obtain rfl:k=L.length:=aa;go_wp2;go_ret;refine ⟨_,rfl,?_,HB.o⟩;have:=cM.o;rw [List.take_length] at this;rw [this];rfl
theorem Ul (F:Nat->Prop) (v:Value) (L:List PV) (p:PV->Bool) (g:Nat) (lb:Array Value) (eg:∀ args w,(callFunc g args).run Tryz.prog w=.ok (.enter g args) w) (w:World) (hv:bS w F v L.length (L.flatMap PV.enc)) (hlen:L.length<=17592186044416) (hp:JZ g lb L p w) :
  Calls Tryz.prog 90 #[v,.func (.func g) #[] lb] w λe w'=>e=.returned (.bool (L.any p))/\Below w.heap.size w w':=by
 have HV:=ad hv;have lS:=ad hp;clear hp hv
 go_in
 go_wp2_with (go_at_call 125;refine (so_ F v L p g lb eg _ HV.o hlen lS.o).mono ?_;rintro e w1 ⟨i,rfl,hi,hb1⟩;have HI:=ad hi;clear hi)
 go_ret;exact ⟨bT HI.o,hb1⟩
theorem Nc (F:Nat->Prop) (v:Value) (L:List (Value × List Per)) (p:(Value × List Per)->Bool) (g:Nat) (lb:Array Value) (eg:∀ args w,(callFunc g args).run Tryz.prog w=.ok (.enter g args) w) (w:World) (hv:bS w F v L.length (L.map Prod.fst)) (hlen:L.length<=17592186044416) (hp:Q3 g lb L p w) :
  Calls Tryz.prog 107 #[v,.func (.func g) #[] lb] w λe w'=>e=.returned (.bool (L.any p))/\Below w.heap.size w w':=by
 have HV:=ad hv;have lS:=ad hp;clear hp hv
 go_in
 go_wp2_with (go_at_call 146;refine (sp_ F v L p g lb eg _ HV.o hlen lS.o).mono ?_;rintro e w1 ⟨i,rfl,hi,hb1⟩;have HI:=ad hi;clear hi)
 go_ret;exact ⟨bT HI.o,hb1⟩
theorem Xy (v:Value) (l:List Int) (i:Nat) (k:Int) (hk:k=i) (w:World) (h:pI w v l) (hi:i<=100) :
  Calls Tryz.prog 81 #[v,.int .i64 k] w λe w'=>e=.returned (.int .i64 (l.getD i 0))/\Below w.heap.size w w':=by
 subst hk;obtain ⟨⟨a1,c1,rfl,h3⟩,g2,g3⟩:=h;by_cases hl:i<l.length
 .rcases h3 with h3|⟨b,o,rfl,hc⟩
  .rw [h3] at hl;simp at hl
  have hci:=hc i hl;have hr:=g3 _ (dz (d:=0) hl);have z_:(i:Int)<l.length:=aa;generalize l.getD i 0=x at *;clear hc g3
  go_in
  go_wp2
  go_ret;exact ⟨rfl,xE⟩
 have hx:l.getD i 0=0:=by rw [List.getD_eq_getElem?_getD,List.getElem?_eq_none aa];rfl
 have z_:¬ (i:Int)<l.length:=aa;rw [hx];clear h3 g3
 go_in
 go_wp2
 go_ret;exact ⟨rfl,xE⟩
theorem pI.rng0 (h:pI w v l) (i:Nat):0<=l.getD i 0/\l.getD i 0<=255:=by
 by_cases hl:i<l.length
 .exact h.rng _ (dz (d:=0) hl)
 rw [List.getD_eq_getElem?_getD,List.getElem?_eq_none aa];decide
theorem ak.kept_far (h:ak w base v l) (hg:w.grownBy w' row) (h1:∀ q,v.ownBlock=some q->q<B) (h2:∀ q,row=some q->B<=q):ak w' base v l:=h.kept hg (by
 by_cases hn:v.ownBlock=none
 .exact .inl hn
 refine .inr λe=>?_;obtain ⟨q,hq⟩:=Option.ne_none_iff_exists'.1 hn;have:=h1 q hq;have:=h2 q (e.symm.trans hq);omega)
def fK (x k:Int):Bool:=(x / 2 ^ k.toNat).tmod 2 == 1
theorem V1 (k:Nat):upto (k+1)=upto k ++ [(k:Int)]:=by unfold upto;rw [List.range_succ,List.map_append];rfl
theorem Wl {f:Int->Bool} {cl:List Int} (h:cl=(upto k).filter f) (hf:f k=true):cl ++ [(k:Int)]=(upto (k+1)).filter f:=by
 rw [V1,List.filter_append,<- h,List.filter_cons_of_pos hf];rfl
theorem Xc {f:Int->Bool} {cl:List Int} (h:cl=(upto k).filter f) (hf:f k=false):cl=(upto (k+1)).filter f:=by
 rw [V1,List.filter_append,<- h,List.filter_cons_of_neg (by rw [hf];simp)];simp
theorem Is (f:Int->Bool) (k:Nat):aG 0 k ((upto k).filter f):=by
 refine aG.filter ⟨?_,λx hx=>?_⟩ f
 .unfold upto;rw [List.pairwise_map];exact List.pairwise_lt_range.imp λh=>aa
 obtain ⟨i,hi,rfl⟩:=List.mem_map.1 hx;rw [List.mem_range] at hi;omega
def dG (l:List Int):Per:=⟨(upto (l.getD 1 0 % 9).toNat).filter (fK (l.getD 4 0)),l.getD 1 0 % 9,1+l.getD 0 0 % 12,(upto (1+l.getD 0 0 % 12).toNat).filter (fK (l.getD 2 0+256*l.getD 3 0))⟩
theorem JH (l:List Int):(dG l).WF/\(dG l).frm<=8/\(dG l).period<=12:=by
 have h1:0<=l.getD 1 0 % 9/\l.getD 1 0 % 9<9:=aa;have h2:1<=1+l.getD 0 0 % 12/\1+l.getD 0 0 % 12<=12:=aa;refine ⟨⟨h1.1,h2.1,?_,?_⟩,by show l.getD 1 0 % 9<=8;omega,h2.2⟩
 .have:=Is (fK (l.getD 4 0)) (l.getD 1 0 % 9).toNat;rw [Int.toNat_of_nonneg h1.1] at this;exact this
 have:=Is (fK (l.getD 2 0+256*l.getD 3 0)) (1+l.getD 0 0 % 12).toNat;rw [Int.toNat_of_nonneg aa] at this;exact this
theorem lz_ (v:Value) (l:List Int) (w:World) (h1:pI w v l) :
  Calls Tryz.prog 80 #[v] w λe w'=>∃ (h c:Value),e=.returned (an h c (dG l).frm (dG l).period)/\jg w' w.heap.size h c (dG l)/\Below w.heap.size w w':=by
 have A5:Hid (dG l=⟨(upto (l.getD 1 0 % 9).toNat).filter (fK (l.getD 4 0)),l.getD 1 0 % 9,1+l.getD 0 0 % 12,(upto (1+l.getD 0 0 % 12).toNat).filter (fK (l.getD 2 0+256*l.getD 3 0))⟩):=ad rfl;have tr:=λW (i:Nat) (k:Int) (hk:k=i) (hi:i<=100) (hb:Below w.heap.size w W)=>Xy v l i k hk W (h1.ext hb) hi;have r0:=h1.rng0 0;have r1:=h1.rng0 1;have r2:=h1.rng0 2;have r3:=h1.rng0 3;have r4:=h1.rng0 4;obtain ⟨⟨a1,c1,rfl,_⟩,g2,_⟩:=h1;have RD:=λW hb=>tr W 0 0 rfl aa hb;have kr:=λW hb=>tr W 1 1 rfl aa hb;have RE:=λW hb=>tr W 2 2 rfl aa hb;have RF:=λW hb=>tr W 3 3 rfl aa hb;have qc:=λW hb=>tr W 4 4 rfl aa hb;generalize dG l=fp at *;generalize l.getD 0 0=x0 at *;generalize l.getD 1 0=x1 at *;generalize l.getD 2 0=x2 at *;generalize l.getD 3 0=x3 at *;generalize l.getD 4 0=x4 at *;clear tr;have oS:=Int.emod_nonneg x1 (show (9:Int)≠0 by omega);have sT:=Int.emod_lt_of_pos x1 (show (0:Int)<9 by omega);have wM:=Int.emod_nonneg x0 (show (12:Int)≠0 by omega);have N8:=Int.emod_lt_of_pos x0 (show (0:Int)<12 by omega)
 go_in
 go_wp2_with (go_at_call 81;first
  | ((with_reducible refine (kr _ xE).mono ?_);rintro e w1 ⟨rfl,hb1⟩;have hW1:Below w.heap.size w w1:=by exact xE)
  | ((with_reducible refine (RD _ xE).mono ?_);rintro e w2 ⟨rfl,hb2⟩;have hW2:Below w.heap.size w w2:=by exact xE)
  | ((with_reducible refine (RE _ xE).mono ?_);rintro e w3 ⟨rfl,hb3⟩;have hW3:Below w.heap.size w w3:=by exact xE)
  | ((with_reducible refine (RF _ xE).mono ?_);rintro e w4 ⟨rfl,hb4⟩;have IP:Below w.heap.size w w4:=by exact xE))
 obtain ⟨b3,zL⟩:∃ b3,b3=w2.heap.size:=⟨_,rfl⟩;rw [<- zL];have hz2:=hb2.size;have hz3:=hb3.size;have Jw:=hb4.size;simp only [World.size_alloc] at hz2 hz3 Jw;have hz1:=hb1.size;simp only [World.size_alloc] at hz1;have hbx:af w4 b3 #[.slice none 0 0,.int .i64 (x1 % 9),.int .i64 (1+x0 % 12),.slice none 0 0] 80:=((af.at zL).below hb3).below hb4;have dY:af w4 w.heap.size #[.slice none 0 0,.int .i64 0,.int .i64 0,.slice none 0 0] 80:=((((af.at (w:=w) rfl).below hb1).below hb2 |>.alloc _).below hb3).below hb4;have hb3l:w.heap.size<b3:=aa;have hb3z:b3<w4.heap.size:=aa;generalize x1 % 9=A at *;generalize x0 % 12=T0 at *;obtain ⟨N,hN⟩:∃ N:Nat,A=N:=⟨A.toNat,aa⟩;subst hN;obtain ⟨T,hT⟩:∃ T:Nat,1+T0=T:=⟨(1+T0).toNat,aa⟩;rw [hT] at hbx A5 ⊢;have hTl:1<=T/\T<=12:=aa;have hx23:0<=x2+256*x3/\x2+256*x3<=65535:=aa;generalize x2+256*x3=bits at *;clear hT RD kr RE RF hb1 hb2 hb3 hb4 hW1 hW2 hW3 zL hz1 hz2 hz3 Jw;have Zq:=ad IP;clear IP;go_loopw [5] (λkv wr=>∃ (k:Nat) (cl:List Int) (a:Option Addr) (c:Nat),k<=T/\kv=.int .i64 k/\Hid (cl=(upto k).filter (fK bits))/\Hid (ak wr w4.heap.size (.slice a cl.length c) cl)/\Hid (af wr b3 #[.slice none 0 0,.int .i64 N,.int .i64 T,.slice a cl.length c] 80)/\Hid (af wr w.heap.size #[.slice none 0 0,.int .i64 0,.int .i64 0,.slice none 0 0] 80)/\Hid (Below w.heap.size w wr)/\w4.heap.size<=wr.heap.size) (λkv _=>T-(intOf kv).toNat)
 .exact ⟨0,[],none,0,aa,rfl,ad rfl,ad (ak.nil _ _),ad hbx,ad dY,Zq,Nat.le_refl _⟩
 obtain ⟨k,cl,a,c,hk,rfl,HR,HO,cw,nG,HB,hz⟩:=hrel;obtain ⟨wo,pU⟩:∃ wo,wo=wr:=⟨_,rfl⟩;subst pU;have m0:=(cw.o.cells 2).1;have m1:=(cw.o.cells 3).1;have hlen:cl.length<=12:=by rw [HR.o];have:=(Is (fK bits) k).length_le aa;omega
 by_cases hlt:k<T
 .have fM:(k:Int)<T:=aa;go_wp2_with (at_builtin;(refine pA az _ _ az w4.heap.size (.slice a cl.length c) cl k az (HO.o.ext (Ea (Er _) _)) _ _ az ag ⟨aa,aa⟩ aa aO ?_;intro g cap w5 aw aH bU;have iz:=(cw.o.alloc (.cells #[.int .i64 k] 3)).grown aH (λe=>by have h7:=(HO.o.lt _ e.symm).1;omega);have rS:=(nG.o.alloc (.cells #[.int .i64 k] 3)).grown aH (λe=>by have h7:=(HO.o.lt _ e.symm).1;omega);have g0:=iz.cells 3;have nx:=aH.size;rw [World.size_alloc] at nx;have kT:=ad aw;have xT:=ad iz;have yB:=ad rS;have ij:=ad bU;clear aw iz rS aH bU))
  .go_roundw
   .have e:(cl ++ [(k:Int)]).length=cl.length+1:=by simp
    refine ⟨k+1,cl ++ [(k:Int)],some ⟨g,0,none⟩,cap,aa,by go_num,ad (Wl HR.o (by simp only [fK,Int.toNat_natCast];assumption)),ad ?_,ad ?_,ad ?_,ad ?_,?_⟩
    .rw [e];exact kT.o.kept_lt (λq hq=>⟨Below.heap_setCell _ _ _ q (by have:=(kT.o.lt q hq).1;show q≠b3;omega),ag⟩)
    .rw [e];exact br 3 _ xT.o
    .exact yB.o.setNe _ aa
    .exact ((HB.o.trans (((Ea (Er wo) _).mono HB.o.size))).trans (ij.o.mono aa)).setCell (p:=⟨b3,3,none⟩) (by show w.heap.size<=b3;omega) _
    simp;omega
   simp [intOf];omega
  go_roundw
  .exact ⟨k+1,cl,a,c,aa,by go_num,ad (Xc HR.o (by simp only [fK,Int.toNat_natCast];assumption)),HO,cw,nG,HB,hz⟩
  simp [intOf];omega
 obtain rfl:k=T:=aa;obtain ⟨W1,hW1⟩:∃ W1,W1=wo:=⟨_,rfl⟩;have hcl:=HO.o.lt;have RI:Hid (ak wo w4.heap.size (.slice a cl.length c) cl):=HO;clear m1;go_wp2_with fail;clear m0;go_loopw [6] (λkv wr=>∃ (j:Nat) (hl:List Int) (a':Option Addr) (c':Nat),j<=N/\kv=.int .i64 j/\Hid (hl=(upto j).filter (fK x4))/\Hid (ak wr wo.heap.size (.slice a' hl.length c') hl)/\Hid (ak wr w4.heap.size (.slice a cl.length c) cl)/\Hid (af wr b3 #[.slice a' hl.length c',.int .i64 N,.int .i64 k,.slice a cl.length c] 80)/\Hid (af wr w.heap.size #[.slice none 0 0,.int .i64 0,.int .i64 0,.slice none 0 0] 80)/\Hid (Below w.heap.size w wr)/\wo.heap.size<=wr.heap.size) (λkv _=>N-(intOf kv).toNat)
 .exact ⟨0,[],none,0,aa,rfl,ad rfl,ad (ak.nil _ _),HO,cw,nG,HB,Nat.le_refl _⟩
 obtain ⟨j,hl,a',c',hj,rfl,kB,tM,xV,eY,oF,bj,hz2⟩:=hrel;obtain ⟨w7,hw7⟩:∃ w7,w7=wr:=⟨_,rfl⟩;subst hw7;have m0:=(eY.o.cells 1).1;have TG:hl.length<=12:=by rw [kB.o];have:=(Is (fK x4) j).length_le aa;omega
 by_cases hlt2:j<N
 .have rD:(j:Int)<N:=aa;go_wp2_with (first|(go_at_call 81;(with_reducible refine (qc _ bj.o).mono ?_);rintro e w8 ⟨rfl,ee⟩;have zO:=eY.o.below ee;have g1:=zO.cells 0;have hz8:=ee.size;have CD:=ad zO;have gG:=ad ee;clear zO ee)|(at_builtin;(refine pA az _ _ az wo.heap.size (.slice a' hl.length c') hl j az ((tM.o.ext gG.o).ext (Ea (Er _) _)) _ _ az ag ⟨aa,aa⟩ aa aO ?_;intro g cap w5 aw aH bU;have hne:∀ q,(Value.slice a' hl.length c').ownBlock=some q->wo.heap.size<=q:=λq e=>(tM.o.lt _ e).1;have iz:=(CD.o.alloc (.cells #[.int .i64 j] 3)).grown aH (λe=>by have h7:=hne _ e.symm;omega);have rS:=((oF.o.below gG.o).alloc (.cells #[.int .i64 j] 3)).grown aH (λe=>by have h7:=hne _ e.symm;omega);have Fx:=((xV.o.ext gG.o).ext (Ea (Er _) (.cells #[.int .i64 j] 3))).kept_far aH (λq hq=>(hcl q hq).2) hne;have g0:=iz.cells 0;have nx:=aH.size;rw [World.size_alloc] at nx;have kT:=ad aw;have CM:=ad Fx;have xT:=ad iz;have yB:=ad rS;have ij:=ad bU;clear aw iz rS aH bU Fx)))
  .go_roundw
   .have e:(hl ++ [(j:Int)]).length=hl.length+1:=by simp
    refine ⟨j+1,hl ++ [(j:Int)],some ⟨g,0,none⟩,cap,aa,by go_num,ad (Wl kB.o (by simp only [fK,Int.toNat_natCast];assumption)),ad ?_,ad ?_,ad ?_,ad ?_,ad ?_,?_⟩
    .rw [e];exact kT.o.kept_lt (λq hq=>⟨Below.heap_setCell _ _ _ q (by have:=(kT.o.lt q hq).1;show q≠b3;omega),ag⟩)
    .exact CM.o.kept_lt (λq hq=>⟨Below.heap_setCell _ _ _ q (by have:=(CM.o.lt q hq).1;show q≠b3;omega),ag⟩)
    .rw [e];exact br 0 _ xT.o
    .exact yB.o.setNe _ aa
    .exact (((bj.o.trans (gG.o.mono bj.o.size)).trans (((Ea (Er w8) _).mono (by have:=bj.o.size;omega)))).trans (ij.o.mono aa)).setCell (p:=⟨b3,0,none⟩) (by show w.heap.size<=b3;omega) _
    simp;omega
   simp [intOf];omega
  go_roundw
  .exact ⟨j+1,hl,a',c',aa,by go_num,ad (Xc kB.o (by simp only [fK,Int.toNat_natCast];assumption)),ad (tM.o.ext gG.o),ad (xV.o.ext gG.o),CD,ad (oF.o.below gG.o),ad (bj.o.trans (gG.o.mono bj.o.size)),aa⟩
  simp [intOf];omega
 obtain rfl:j=N:=aa;have g0:=eY.o.cells 0;have g1:=eY.o.cells 1;have g2:=eY.o.cells 2;have g3:=eY.o.cells 3;have q0:=oF.o.cells 0;have q1:=oF.o.cells 1;have q2:=oF.o.cells 2;have q3:=oF.o.cells 3;go_wp2;exact bodyPost_ret (v:=an (.slice a' hl.length c') (.slice a cl.length c) j k) (by simp [results,Tryz.results80,go_sem, *]) rfl (by
  have e:fp=⟨hl,j,k,cl⟩:=by rw [A5.o,kB.o,HR.o];simp
  rw [e];exact ⟨_,_,rfl,⟨(tM.o.above (by (repeat' (with_reducible first|exact b7.refl _ _|refine b7.alloc ?_ _|refine b7.drew ?_|refine b7.drewN ?_ _|refine b7.setCell ?_ (by first|(simp;done)|(simp;omega)|omega) _)))).mono aa,(xV.o.above (by (repeat' (with_reducible first|exact b7.refl _ _|refine b7.alloc ?_ _|refine b7.drew ?_|refine b7.drewN ?_ _|refine b7.setCell ?_ (by first|(simp;done)|(simp;omega)|omega) _)))).mono aa⟩,by have:=bj.o;exact xE⟩)
end
end Go.Proofs.YtbmgmlbmgogeaaaGreat
end
