/- Part 4 of the proof of the laws. -/
import Derived.Test.YtbmgmlbmgogeaaaGreatW3
import Derived.Test.YtbmgmlbmgogeaaaGreatW1
import Derived.Laws.EntriesVeiled
import Derived.Test.YtbmgmlbmgogeaaaGreatW2
import Derived.Lib.AppendZerosOnto
import Derived.Deep.Cut
import Derived.Deep.CutBlock
import Derived.Deep.DeepCutAuto
import Derived.Test.YtbmgmlbmgogeaaaGreatRows
import Derived.WalkKit
import Derived.ProofKit
import Derived.OpenShut
import Derived.ShutString
import Derived.ChangeOld
import Derived.Below
import Derived.Lib.SmallJoins
set_option linter.unusedVariables false
set_option linter.unusedSimpArgs false
set_option maxRecDepth 100000
set_option maxHeartbeats 4000000
set_option linter.defProp false
abbrev S0:=@List.take_append_drop
abbrev MC:=@List.flatMap_append
abbrev Q6:=@List.map_nil
abbrev LM:=@Go.CallsIn.inRound
abbrev P8:=@Go.KeepsOthers.refl
abbrev Y8:=@List.map_take
abbrev NM:=@Go.Sem.run_bind
abbrev L_:=@Go.Sem.run_pure
abbrev MM:=@Go.Result.andThen_ok
abbrev QE:=@List.map_toArray
abbrev q8g:=@Go.run_append_own_at
abbrev GD:=@List.getElem?_eq_some_iff
abbrev VG:=@Int.toNat_natCast
abbrev YW:=@decide_eq_false_iff_not
abbrev q8e:=@Go.World.cell?_spot
abbrev DS:=@List.getElem?_eq_none
abbrev q8r:=@List.filter_cons_of_neg
abbrev yw:=@Bool.and_false
section
variable {ops:Array Go.Oper}{a r s st x:Int}{m:List (List Kal.Per)}{l ys:List Int}{rest:List Go.Oper}{t:List Kal.Per}{cs:List Go.Value}{B R base c cap g hi k lo mb n:Nat}{o:Go.Oper}{row:Option Nat}{p q qa qb:Kal.Per}{c1 c2 h1 h2 v v' xv yv:Go.Value}{A C W W' W1 w w':Go.World}
namespace Go.Proofs.YtbmgmlbmgogeaaaGreat
section
open Go.RowKit Go.Maps Kal
def Cy (w:World) (mb:Nat) (g:Int) (ys:List Int):Prop:=
 ∀ r,aS r->∃ v,(∀ W,Below w.heap.size w W->(Instr.lookup 250 (.map (some mb)) (.int .i64 r) false).run Tryz.prog W=.ok v W)/\Ints w v (gE ys g r)
theorem Cy.ext {g:Int} (h:Cy w mb g ys) (hb:Below w.heap.size w W):Cy W mb g ys:=λr hr=>by
 obtain ⟨v,h1,h2⟩:=h r hr;exact ⟨v,λW' hb'=>h1 W' (hb.trans (hb'.mono hb.size)),h2.ext hb⟩
theorem oD.looks {g:Int} (h:oD w mb hi g ys):Cy w mb g ys:=λr hr=>by
 obtain ⟨v0,jq,hv0⟩:=h.look hr;obtain ⟨es,clock,n,base,D,jP,hb,hn,hown,_⟩:=h;obtain ⟨v,zs,h1,_⟩:=RG hown hn hr;have e:=h1 w rfl;rw [jq] at e;injection e with e
 subst e;exact ⟨v0,λW hW=>h1 W (hW.block mb (Q0.1 hb).1),hv0.ints⟩
structure vo (w:World) (h1 c1 h2 c2:Value) (qa qb:Per) (st:Int) (xv yv:Value) (g:Int) (mb:Nat):Prop where
 a:cj w h1 c1 qa
 b:cj w h2 c2 qb
 x:Ints w xv (aw (ak qa st))
 y:Ints w yv (aw (ak qb st))
 m:Cy w mb g (aw (ak qb st))
theorem vo.ext {g:Int} (h:vo w h1 c1 h2 c2 qa qb st xv yv g mb) (hb:Below w.heap.size w W):vo W h1 c1 h2 c2 qa qb st xv yv g mb:=
 ⟨h.a.ext hb,h.b.ext hb,h.x.ext hb,h.y.ext hb,h.m.ext hb⟩
theorem vp.at (h:vp w lo hi h1 c1 h2 c2 qa qb st xv yv mb):vo w h1 c1 h2 c2 qa qb st xv yv (Int.gcd qa.period qb.period:Nat) mb:=
 ⟨h.a.is,h.b.is,h.x.ints,h.y.ints,h.m.looks⟩
theorem q3l (a b:Int):(a == b)=decide (a=b):=by by_cases h:a=b <;> simp [h]
def qq (ys:List Int) (g b n:Int):Bool:=decide (((gE ys g (n % g)).length:Int)=b / g)
theorem Km (h1 c1 h2 c2:Value) (qa qb:Per) (st:Int) (xv yv:Value) (g:Int) (mb:Nat) (n:Int) (w:World) (hP:vo w h1 c1 h2 c2 qa qb st xv yv g mb) (hg:1<=g) (hg1:g<=562949953421312) (hn:0<=n) (mS:n<=9007199254740992)
  (hp:1<=qb.period) (fN:qb.period<=562949953421312) :
  Calls Tryz.prog 252 #[rL h1 c1 h2 c2 qa qb st xv yv g mb,.int .i64 n] w λe w'=>e=.returned (.bool (qq (aw (ak qb st)) g qb.period n))/\Below w.heap.size w w':=by
 have hm0:=VK n (show g≠0 by omega);have hm1:=VM n (show 0<g by omega);have hlk:=hP.m (n % g) ⟨ad,ad⟩;obtain ⟨v,hlk,hv⟩:=hlk;obtain ⟨⟨va,vc,rfl,_⟩,Kg,_⟩:=hv;obtain ⟨xa,xc,rfl⟩:∃ a c,xv=.slice a (aw (ak qa st)).length c:=by obtain ⟨⟨a,c,e,_⟩,_⟩:=hP.x;exact ⟨a,c,e⟩
 obtain ⟨ya,yc,rfl⟩:∃ a c,yv=.slice a (aw (ak qb st)).length c:=by obtain ⟨⟨a,c,e,_⟩,_⟩:=hP.y;exact ⟨a,c,e⟩
 obtain ⟨a1,k1,a2,k2,rfl,rfl⟩:=hP.a.inn.form;obtain ⟨a3,k3,a4,k4,rfl,rfl⟩:=hP.b.inn.form;have hL:∀ W,Below w.heap.size w W->∀ nq,(Instr.lookup 250 (.map (some mb)) (.int .i64 (n % g)) false).run Tryz.prog (W.drewN nq)=.ok (.slice va (gE (aw (ak qb st)) g (n % g)).length vc) (W.drewN nq):=λW hb nq=>hlk _ xE;obtain ⟨F,hF⟩:∃ F,F=qq (aw (ak qb st)) g qb.period n:=⟨_,rfl⟩;have HF:=af hF;rw [<- hF];unfold qq at hF;generalize (aw (ak qb st))=ys at *;generalize (aw (ak qa st))=xs at *;generalize hlen:(gE ys g (n % g)).length=len at *;have HLEN:=af hlen;clear hlen;clear hlk hP
 go_in
 go_wp2_with fail
 have hL2:=hL _ (Ea (Er w) (.cells #[.slice a1 qa.head.length k1,.int .i64 qa.frm,.int .i64 qa.period,.slice a2 qa.cycle.length k2,.slice a3 qb.head.length k3,.int .i64 qb.frm,.int .i64 qb.period,.slice a4 qb.cycle.length k4,.int .i64 st,.slice xa xs.length xc,.slice ya ys.length yc,.int .i64 g,.map (some mb)] 252));go_quiet (fail);go_wp2
 go_ret;refine ⟨bX ?_,xE⟩;rw [HF.o];unfold qq;rw [HLEN.o,q3l]
def eZ (xs ys:List Int) (g:Int):Nat:=(xs.map λx=>(gE ys g (x % g)).length).sum
theorem v1_ {xs:List Int} {g:Int} (h:k<xs.length):eZ (xs.take (k+1)) ys g=eZ (xs.take k) ys g+(gE ys g (xs.getD k 0 % g)).length:=by
 unfold eZ;rw [LF h,UZ,List.sum_append,VS,U2 h];simp
theorem Nn {xs:List Int} {g:Int} (k:Nat):eZ (xs.take k) ys g<=eZ xs ys g:=by
 unfold eZ
 conv=>rhs;rw [<- S0 k xs,UZ,List.sum_append]
 omega
theorem sr_ (h1 c1 h2 c2:Value) (qa qb:Per) (st:Int) (xv yv:Value) (g:Int) (mb:Nat) (w:World) (hP:vo w h1 c1 h2 c2 qa qb st xv yv g mb) (hg:1<=g) (hg1:g<=562949953421312)
  (hx:∀ x∈aw (ak qa st),0<=x/\x<=562949953421312) (hc:eZ (aw (ak qa st)) (aw (ak qb st)) g<=4611686018427387904) :
  Calls Tryz.prog 224 #[rL h1 c1 h2 c2 qa qb st xv yv g mb] w λe w'=>e=.returned (.int .i64 (eZ (aw (ak qa st)) (aw (ak qb st)) g:Nat))/\Below w.heap.size w w':=by
 have vP:=hP;obtain ⟨⟨xa,xc,rfl,_⟩,n_,_⟩:=hP.x;obtain ⟨ya,yc,rfl⟩:∃ a c,yv=.slice a (aw (ak qb st)).length c:=by obtain ⟨⟨a,c,e,_⟩,_⟩:=hP.y;exact ⟨a,c,e⟩
 obtain ⟨a1,k1,a2,k2,rfl,rfl⟩:=hP.a.inn.form;obtain ⟨a3,k3,a4,k4,rfl,rfl⟩:=hP.b.inn.form;obtain ⟨ys,wI⟩:∃ ys,ys=aw (ak qb st):=⟨_,rfl⟩;obtain ⟨xs,mW⟩:∃ xs,xs=aw (ak qa st):=⟨_,rfl⟩;have HM:Hid (Cy w mb g ys):=af (wI ▸ hP.m);have HX:Hid (Ints w (.slice xa xs.length xc) xs):=af (by rw [mW];exact hP.x);rw [<- wI,<- mW];rw [<- wI,<- mW] at hc;rw [<- mW] at hx n_;clear hP wI mW vP
 go_in
 go_wp2_with fail
 generalize hW0:w.alloc _=W0;have hE:Below w.heap.size w W0:=by rw [<- hW0];exact xE
 have hbx:ag W0 w.heap.size #[.slice a1 qa.head.length k1,.int .i64 qa.frm,.int .i64 qa.period,.slice a2 qa.cycle.length k2,.slice a3 qb.head.length k3,.int .i64 qb.frm,.int .i64 qb.period,.slice a4 qb.cycle.length k4,.int .i64 st,.slice xa xs.length xc,.slice ya ys.length yc,.int .i64 g,.map (some mb)] 252:=by rw [<- hW0];exact ag.new _ _ _
 have mX:=(hbx.cells 11).1;have tY:=(hbx.cells 12).1;have HE:=af hE;have cD:=af hbx;clear hW0 hbx hE;go_loopw [9,3] (λi n wr=>∃ (k q:Nat),k<=xs.length/\i=.int .i64 k/\n=.int .i64 (eZ (xs.take k) ys g:Nat)/\wr=W0.drewN q) (λi _ _=>xs.length-(intOf i).toNat)
 .exact ⟨0,0,ad,rfl,rfl,rfl⟩
 obtain ⟨k,q,hk,rfl,rfl,rfl⟩:=hrel;by_cases hlt:k<xs.length
 .have Hi:=hx (xs.getD k 0) (lg hlt);have hsu:=v1_ (xs:=xs) (ys:=ys) (g:=g) hlt;have hle:=Nn (xs:=xs) (ys:=ys) (g:=g) (k+1);obtain ⟨⟨a8,c8,kj,_,_,dJ⟩,_,_⟩:=HX.o.ext HE.o;injection kj with cN eP dz
  subst cN;subst dz;rcases dJ with dJ|⟨b8,f8,rfl,hcell⟩
  .rw [dJ] at hlt;simp at hlt
  have hcl:=hcell k hlt;have fg:(k:Int)<xs.length:=ad;obtain ⟨x,kQ⟩:∃ x,x=xs.getD k 0:=⟨_,rfl⟩;rw [<- kQ] at hcl Hi hsu;have hm0:=VK x (show g≠0 by omega);have hm1:=VM x (show 0<g by omega);obtain ⟨v,hlk,hv⟩:=HM.o (x % g) ⟨ad,ad⟩;obtain ⟨⟨va,vc,rfl,_⟩,Kg,_⟩:=hv;have hL2:∀ nq,(Instr.lookup 250 (.map (some mb)) (.int .i64 (x % g)) false).run Tryz.prog (W0.drewN nq)=.ok (.slice va (gE ys g (x % g)).length vc) (W0.drewN nq):=λnq=>hlk _ (En HE.o nq);obtain ⟨len,hlen⟩:∃ len,len=(gE ys g (x % g)).length:=⟨_,rfl⟩;rw [<- hlen] at hsu Kg hL2;rw [hsu] at hle;obtain ⟨n0,i7⟩:∃ n0,n0=eZ (xs.take k) ys g:=⟨_,rfl⟩;rw [<- i7] at hsu hle ⊢;have HS:=af hsu;clear hlk hsu hlen kQ hcell i7;go_wp2_with fail;go_quiet (fail)
  go_wp2
  go_roundw
  .exact ⟨k+1,_,ad,by go_num,by rw [HS.o];go_num,rfl⟩
  simp [intOf];omega
 obtain rfl:k=xs.length:=ad;go_wp2;go_ret;exact ⟨by rw [OC];rfl,En HE.o _⟩
theorem oj_ {a:Act} {Q:Exit->Act->World->Prop} (hgd:o.guard=none) (s x:Operand)
  (ho:o.op=.call { callee:=.builtin .append,args:=#[s,x],argTypes:=#[35,35] }) (base:Nat) (v:Value) (l:List Int) (y:Int) (hs:a.eval s=v) (hown:al w base v l)
  (blk c:Nat) (hx:a.eval x=.slice (some ⟨blk,0,none⟩) 1 c) (hnew:w.cell? ⟨blk,0,none⟩=some (.int .i64 y)) (hy:aS y) (hlen:l.length+1<=17592186044416) (hbase:base<=w.heap.size)
  (h:∀ g cap w',al w' base (.slice (some ⟨g,0,none⟩) (l.length+1) cap) (l ++ [y])->w.grownBy w' v.ownBlock->Below base w w'->(v.ownBlock=some g\/w.heap.size<=g)->wpList Tryz.prog ops Q rest (a.put o.dst (.slice (some ⟨g,0,none⟩) (l.length+1) cap)) w') :
  wpList Tryz.prog ops Q (o :: rest) a w:=by
 obtain ⟨i,hi,h1,h2,h3⟩:=xJ;refine wpList_append_lies w hgd s x 35 ho base 3 i (.int .i64 0) 1 8 Tryz.underlying35 hi h1 h2 h3 rfl ad v l.length (l.map (Value.int .i64)) hs hown.row ⟨blk,0,none⟩ 1 c [.int .i64 y] hx rfl ?_ (by simp [Value.oneCell']) ad (by unfold maxLen;omega) ad hbase _ rfl ?_
 .intro j u hu
  match j,hu with
  | 0,hu=>simp at hu;subst hu;exact hnew
 intro g cap w' hown' hgrow hloc _;exact h g cap w' (al.appended hown.rng hy hlen hown') hgrow (hown.below_grown (W0:=w) (.inr trivial) hbase hgrow) (hloc.imp id λe=>ad)
theorem tm_ {xs:List Int} {b:Int} (h:k<xs.length):iq (xs.take (k+1)) ys a b st=iq (xs.take k) ys a b st ++ (gE ys (Int.gcd a b:Nat) (xs.getD k 0 % (Int.gcd a b:Nat))).map λy=>st+gQ (xs.getD k 0) a y b:=by
 unfold iq gE;rw [LF h,MC,VS,U2 h];simp
theorem yg_ {xs:List Int} {b:Int} (k:Nat):(iq (xs.take k) ys a b st).length<=(iq xs ys a b st).length:=by
 unfold iq
 conv=>rhs;rw [<- S0 k xs,MC,MB]
 omega
def zr_ (base:Nat) (l:List Int) (w:World) (e:Ending) (w':World):Prop:=∃ v,e=.returned v/\al w' base v l/\Below base w w'
theorem o0_ {α β:Type} (f:α->β) {l:List α} (h:k<l.length):(l.take (k+1)).map f=(l.take k).map f ++ [f l[k]]:=by
 rw [LF h,UZ];rfl
structure Bs (base:Nat) (w:World) (h1 c1 h2 c2:Value) (qa qb:Per) (st:Int) (xv yv:Value) (g:Int) (mb:Nat):Prop where
 a:∀ W,Below base w W->cj W h1 c1 qa
 b:∀ W,Below base w W->cj W h2 c2 qb
 x:∀ W,Below base w W->Ints W xv (aw (ak qa st))
 y:∀ W,Below base w W->Ints W yv (aw (ak qb st))
 m:∀ r,aS r->∃ v,∀ W,Below base w W->(Instr.lookup 250 (.map (some mb)) (.int .i64 r) false).run Tryz.prog W=.ok v W/\Ints W v (gE (aw (ak qb st)) g r)
theorem vp.pairB (h:vp w lo hi h1 c1 h2 c2 qa qb st xv yv mb) (hb:hi<=base):Bs base w h1 c1 h2 c2 qa qb st xv yv (Int.gcd qa.period qb.period:Nat) mb:=by
 refine ⟨λW hW=>(h.a.below hW hb).is,λW hW=>(h.b.below hW hb).is,λW hW=>(h.x.below hW hb).ints,λW hW=>(h.y.below hW hb).ints,λr hr=>?_⟩;obtain ⟨v0,jq,hv0⟩:=h.m.look hr;obtain ⟨es,clock,n,b9,D,jP,bg,hn,hown,_,hlt,_⟩:=h.m;obtain ⟨v,zs,h1,_⟩:=RG hown hn hr;have e:=SD (jq.symm.trans (h1 w rfl));subst e;exact ⟨v0,λW hW=>⟨h1 W (hW.block mb ad),(hv0.below hW hb).ints⟩⟩
theorem Bs.below {g:Int} (h:Bs base w h1 c1 h2 c2 qa qb st xv yv g mb) (hb:Below base w W):Bs base W h1 c1 h2 c2 qa qb st xv yv g mb:=
 ⟨λW' h'=>h.a W' (hb.trans h'),λW' h'=>h.b W' (hb.trans h'),λW' h'=>h.x W' (hb.trans h'),λW' h'=>h.y W' (hb.trans h'),λr hr=>let ⟨v,hv⟩:=h.m r hr;⟨v,λW' h'=>hv W' (hb.trans h')⟩⟩
theorem Bs.at {g:Int} (h:Bs base w h1 c1 h2 c2 qa qb st xv yv g mb) (hb:base<=w.heap.size):vo w h1 c1 h2 c2 qa qb st xv yv g mb:=
 ⟨h.a w (JV _ _),h.b w (JV _ _),h.x w (JV _ _),h.y w (JV _ _),λr hr=>let ⟨v,hv⟩:=h.m r hr;⟨v,λW hW=>(hv W (hW.mono hb)).1,(hv w (JV _ _)).2⟩⟩
theorem yi_ (h1 c1 h2 c2:Value) (qa qb:Per) (st:Int) (xv yv:Value) (g:Int) (mb base:Nat) (hv:Value) (l:List Int) (w:World) (hP:Bs base w h1 c1 h2 c2 qa qb st xv yv g mb)
  (hg:g=(Int.gcd qa.period qb.period:Nat)) (ha:1<=qa.period) (ha1:qa.period<=4294967295) (hb:1<=qb.period) (hb1:qb.period<=4294967295) (hL:aV qa.period qb.period<=1099511627776) (hs0:0<=st) (hs1:st<=562949953421312)
  (hx:aH 0 qa.period (aw (ak qa st))) (hy:aH 0 qb.period (aw (ak qb st))) (hown:al w base hv l) (hbase:base<=w.heap.size)
  (hlen:l.length+(iq (aw (ak qa st)) (aw (ak qb st)) qa.period qb.period st).length<=4398046511104) :
  Calls Tryz.prog 226 #[rL h1 c1 h2 c2 qa qb st xv yv g mb,hv] w (zr_ base (l ++ iq (aw (ak qa st)) (aw (ak qb st)) qa.period qb.period st) w):=by
 have vP:=hP.at hbase;obtain ⟨⟨xa,xc,rfl,_⟩,n_,_⟩:=vP.x;obtain ⟨ya,yc,rfl⟩:∃ a c,yv=.slice a (aw (ak qb st)).length c:=by obtain ⟨⟨a,c,e,_⟩,_⟩:=vP.y;exact ⟨a,c,e⟩
 obtain ⟨a1,k1,a2,k2,rfl,rfl⟩:=vP.a.inn.form;obtain ⟨a3,k3,a4,k4,rfl,rfl⟩:=vP.b.inn.form;have HP:=af hP;have hg1:=oA (b:=qb.period) ha;have HG:=af hg;rw [<- hg] at hg1;have HX:=af hx;have HY:=af hy;have HM:=λk=>yg_ (xs:=aw (ak qa st)) (ys:=aw (ak qb st)) (a:=qa.period) (b:=qb.period) (st:=st) k;have eN:=λk=>tm_ (xs:=aw (ak qa st)) (ys:=aw (ak qb st)) (a:=qa.period) (b:=qb.period) (st:=st) (k:=k);rw [<- hg] at eN;have TP:=af HM;have Md:=af eN;obtain ⟨M,hM⟩:∃ M:Nat->List Int,M=λk=>iq ((aw (ak qa st)).take k) (aw (ak qb st)) qa.period qb.period st:=⟨_,rfl⟩;have mD:=af hM;have aO:=af hown;have PF:M (aw (ak qa st)).length=iq (aw (ak qa st)) (aw (ak qb st)) qa.period qb.period st:=by rw [hM];simp only [OC]
 rw [<- PF];rw [<- PF] at hlen TP;clear hP vP hg hx hy HM eN hM hown PF;obtain ⟨sN,sO,rfl⟩:=aO.o.form
 go_in
 go_wp2_with fail
 generalize hW0:w.alloc _=W0;have hE:Below base w W0:=by rw [<- hW0];exact (JV _ _).alloc hbase _
 have hbx:ag W0 w.heap.size #[.slice a1 qa.head.length k1,.int .i64 qa.frm,.int .i64 qa.period,.slice a2 qa.cycle.length k2,.slice a3 qb.head.length k3,.int .i64 qb.frm,.int .i64 qb.period,.slice a4 qb.cycle.length k4,.int .i64 st,.slice xa (aw (ak qa st)).length xc,.slice ya (aw (ak qb st)).length yc,.int .i64 g,.map (some mb)] 252:=by rw [<- hW0];exact ag.new _ _ _
 have fB:al W0 base (.slice sN l.length sO) l:=by rw [<- hW0];exact aO.o.ext (Ea (Er _) _)
 have wu:∀ k,(Value.slice sN l.length sO).ownBlock=some k->k≠w.heap.size:=λk hk=>by have:=(aO.o.lt k hk).2;omega
 have q9:=(hbx.cells 9).1;have HE:=af hE;have cD:=af hbx;have Mo:=af fB;have Mk:=af wu;clear hW0 hbx hE fB wu;go_wp2;go_loopw [15,1] (λi h wr=>∃ k:Nat,k<=(aw (ak qa st)).length/\i=.int .i64 k/\al wr base h (l ++ M k)/\ag wr w.heap.size #[.slice a1 qa.head.length k1,.int .i64 qa.frm,.int .i64 qa.period,.slice a2 qa.cycle.length k2,.slice a3 qb.head.length k3,.int .i64 qb.frm,.int .i64 qb.period,.slice a4 qb.cycle.length k4,.int .i64 st,.slice xa (aw (ak qa st)).length xc,.slice ya (aw (ak qb st)).length yc,.int .i64 g,.map (some mb)] 252/\(∀ k,h.ownBlock=some k->k≠w.heap.size)/\Below base w wr) (λi _ _=>(aw (ak qa st)).length-(intOf i).toNat)
 .exact ⟨0,ad,rfl,by rw [mD.o];simpa [iq] using Mo.o,cD.o,Mk.o,HE.o⟩
 obtain ⟨k,hk,rfl,hown,hbx,cL,cB⟩:=hrel;have Br:=cB.size;have jP:w.heap.size<wr.heap.size:=hbx.lt;by_cases hlt:k<(aw (ak qa st)).length
 .have mX:=(hbx.cells 11).1;have tY:=(hbx.cells 12).1;obtain ⟨⟨a8,c8,kj,_,_,dJ⟩,_,_⟩:=HP.o.x wr cB;injection kj with cN eP dz
  subst cN;subst dz;rcases dJ with dJ|⟨b8,f8,rfl,hcell⟩
  .rw [dJ] at hlt;simp at hlt
  have hcl:=hcell k hlt;have ku:=lg hlt;have Hi:=HX.o.2 _ ku;have hsu:=Md.o k hlt;have hle:=TP.o (k+1);have fg:(k:Int)<(aw (ak qa st)).length:=ad;generalize kQ:(aw (ak qa st)).getD k 0=x at *;have hm0:=VK x (show g≠0 by omega);have hm1:=VM x (show 0<g by omega);obtain ⟨v,kP⟩:=HP.o.m (x % g) ⟨ad,ad⟩;have Qw:∀ y∈gE (aw (ak qb st)) g (x % g),y∈aw (ak qb st)/\y % g=x % g:=λy hy=>by simpa [gE] using hy
  have wE:M (k+1)=M k ++ (gE (aw (ak qb st)) g (x % g)).map λy=>st+gQ x qa.period y qb.period:=by rw [mD.o];exact hsu
  obtain ⟨zs,hzs⟩:∃ zs,zs=gE (aw (ak qb st)) g (x % g):=⟨_,rfl⟩;rw [<- hzs] at kP Qw wE;have q0y:(M (k+1)).length<=(M (aw (ak qa st)).length).length:=by rw [mD.o] at hle ⊢;exact hle
  rw [wE,MB,U6] at q0y;obtain ⟨va,vc,rfl⟩:∃ a c,v=.slice a zs.length c:=by obtain ⟨_,⟨⟨a,c,e,_⟩,_⟩⟩:=kP w (JV _ _);exact ⟨a,c,e⟩
  obtain ⟨wo,qF⟩:∃ wo:World,wo=wr:=⟨_,rfl⟩;rw [<- qF] at hown hbx cB jP Br hcl hcell mX tY ⊢;have hzl:zs.length<=17592186044416:=(kP w (JV _ _)).2.len;have hL2:∀ nq,(Instr.lookup 250 (.map (some mb)) (.int .i64 (x % g)) false).run Tryz.prog (wo.drewN nq)=.ok (.slice va zs.length vc) (wo.drewN nq):=λnq=>(kP _ (Below.drewN cB nq)).1;obtain ⟨L8,PD⟩:∃ L8,L8=l ++ M k:=⟨_,rfl⟩;rw [<- PD] at hown;obtain ⟨hua,huc,rfl⟩:=hown.form;have II:=af PD;have HOWNo:=af hown;have HBXo:=af hbx;have HBWo:=af cB;have HOBo:=af cL;have Ce:=af kP;have q1k:=af wE;have zm:=af Qw;clear hown hbx cB cL kP Qw wE hcell hsu hle qF hzs PD;go_wp2_with fail;go_quiet (fail)
  go_wp2
  go_loopw [27,1] (λi h wr=>∃ j:Nat,j<=zs.length/\i=.int .i64 j/\al wr base h (L8 ++ (zs.take j).map λy=>st+gQ x qa.period y qb.period)/\ag wr w.heap.size #[.slice a1 qa.head.length k1,.int .i64 qa.frm,.int .i64 qa.period,.slice a2 qa.cycle.length k2,.slice a3 qb.head.length k3,.int .i64 qb.frm,.int .i64 qb.period,.slice a4 qb.cycle.length k4,.int .i64 st,.slice (some ⟨b8,f8,none⟩) (aw (ak qa st)).length xc,.slice ya (aw (ak qb st)).length yc,.int .i64 g,.map (some mb)] 252/\(∀ k,h.ownBlock=some k->k≠w.heap.size)/\Below base w wr) (λi _ _=>zs.length-(intOf i).toNat)
  .exact ⟨0,ad,rfl,by rw [List.take_zero,Q6,Q4];exact HOWNo.o.ext (En (Er _) _),HBXo.o.below (En (Er _) _),HOBo.o,Below.drewN HBWo.o _⟩
  obtain ⟨j,hj,rfl,hown,hbx,cL,cB⟩:=hrel;have mh:=cB.size;have hbsr:w.heap.size<wr.heap.size:=hbx.lt;by_cases hlj:j<zs.length
  .have r2:=(hbx.cells 2).1;have r6:=(hbx.cells 6).1;have r8:=(hbx.cells 8).1;obtain ⟨_,⟨⟨a9,c9,AU,_,_,nN⟩,_,_⟩⟩:=Ce.o wr cB;injection AU with cN eP dz
   subst cN;subst dz;rcases nN with nN|⟨b9,f9,rfl,sc⟩
   .rw [nN] at hlj;simp at hlj
   have hcl9:=sc j hlj;have sP:=zm.o _ (lg hlj);have C7:=HY.o.2 _ sP.1;have sm:(j:Int)<zs.length:=ad;have oP:(zs.take (j+1)).map (λy=>st+gQ x qa.period y qb.period)=(zs.take j).map (λy=>st+gQ x qa.period y qb.period) ++ [st+gQ x qa.period (zs.getD j 0) qb.period]:=by
    rw [o0_ _ hlj,VS,U2 hlj];rfl
   generalize i_:zs.getD j 0=y at *;have kO:=I_ (x:=x) (a:=qa.period) (y:=y) (b:=qb.period) ha hb (by rw [<- HG.o];exact sP.2.symm);have hs5:0<=gQ x qa.period y qb.period/\gQ x qa.period y qb.period<=1099511627776:=⟨kO.1,by have:=kO.2.1;omega⟩;have hdiv:(y % qb.period-x % qa.period) % (Int.gcd qa.period qb.period:Nat)=0:=by
    rw [LV C7.1 C7.2,LV Hi.1 Hi.2,<- HG.o];exact zB.1 sP.2
   obtain ⟨sv,G6⟩:∃ sv,sv=gQ x qa.period y qb.period:=⟨_,rfl⟩;rw [<- G6] at oP hs5;have HSV:=af G6;have nf:=af hdiv;have ij:=af oP;have sw:(L8 ++ (zs.take j).map (λy=>st+gQ x qa.period y qb.period)).length+1<=17592186044416:=by
    rw [II.o];simp only [MB,U6,MO];omega
   obtain ⟨L9,FD⟩:∃ L9,L9=L8 ++ (zs.take j).map (λy=>st+gQ x qa.period y qb.period):=⟨_,rfl⟩;rw [<- FD] at hown sw;obtain ⟨h9a,h9c,rfl⟩:=hown.form;have zt:=af FD;have iK:=af hown;have yZ:=af hbx;have yX:=af cB;have uJ:=af cL;clear hown hbx cB cL oP hdiv G6 kO sc i_ sP FD;go_wp2_with (first|(go_at_call 248;refine (wj_ x qa.period y qb.period _ ⟨ad,ad⟩ ⟨ad,ad⟩ ha ha1 hb hb1 hL nf.o).mono ?_;rintro e w' ⟨he,nq,rfl⟩;rw [<- HSV.o] at he;subst he)|(at_builtin;refine oj_ aC _ _ aC base (.slice h9a L9.length h9c) L9 (st+sv) aC (iK.o.ext (Ea (En (Er _) _) _)) _ _ aC ((ag.new (wr.drewN nq) #[.int .i64 (st+sv)] 3).cells 0).1 ⟨ad,ad⟩ sw (by rw [U7,fZ];omega) ?_;intro gg cap w5 az aJ cd kq));go_roundw
   .refine ⟨j+1,ad,by go_num,?_,?_,?_,?_⟩
    .rw [ij.o,<- QL,<- zt.o];exact az
    .refine (aJ.block _ (by rw [U7,fZ];omega) (λe=>uJ.o _ e.symm rfl)).trans ((yZ.o.below (En (Er _) nq)).alloc _)
    .intro k5 hk5;obtain rfl:gg=k5:=by simpa [Value.ownBlock] using hk5
     rcases kq with h5|h5
     .exact uJ.o _ h5
     rw [U7,fZ] at h5;omega
    exact ((Below.drewN yX.o nq).alloc (by rw [fZ];omega) _).trans cd
   simp [intOf];omega
  obtain rfl:j=zs.length:=ad;have iK:=af hown;have yZ:=af hbx;have yX:=af cB;have uJ:=af cL;clear hown hbx cB cL;go_wp2;go_roundw
  .refine ⟨k+1,ad,by go_num,?_,yZ.o,uJ.o,yX.o⟩;have:=iK.o;rw [OC] at this;rw [q1k.o,<- QL,<- II.o];exact this
  simp [intOf];omega
 obtain rfl:k=(aw (ak qa st)).length:=ad;have fw:=af hown;obtain ⟨hua,huc,rfl⟩:=hown.form;have bL:=af cB;clear hown cL hbx cB;go_wp2;go_ret;exact ⟨_,rfl,fw.o,bL.o⟩
theorem q5x {A B:Per} (hA:A.WF) (hf:A.frm=st):A.head.filter (cg B)=bF (λn=>A.mem n/\B.mem n) 0 st:=by
 refine (hA.head.filter _).ext (fJ (VI _)) λx=>?_;rw [N7,dX (VI _),hA.head_mem,hf];constructor
 .rintro ⟨⟨h1,h2,h3⟩,h4⟩;exact ⟨h1,h2,h3,(Fq h1).1 h4⟩
 rintro ⟨h1,h2,h3,h4⟩;exact ⟨⟨h1,h2,h3⟩,(Fq h1).2 h4⟩
theorem Ut (p:Int->Bool) (h:k<l.length):(l.take (k+1)).filter p=(l.take k).filter p ++ (if p (l.getD k 0)=true then [l.getD k 0] else []):=by
 rw [LF h,MG,VS,U2 h]
 congr 1
 by_cases hp:p l[k]=true <;> simp [hp]
theorem ag.set4 {b:Nat} {x y z u x' y' z' u':Value} {t:TypeId} (h:ag W b #[x,y,z,u] t) :
  ag ((((W.setCell ⟨b,0,none⟩ x').setCell ⟨b,1,none⟩ y').setCell ⟨b,2,none⟩ z').setCell ⟨b,3,none⟩ u') b #[x',y',z',u'] t:=CB h
theorem ag.drewB {b:Nat} {c:Array Value} {t:TypeId} (h:ag W b c t):ag W.drew b c t:=h
def Yb (l:List Int) (w:World) (e:Ending) (w':World):Prop:=∃ v,e=.returned v/\al w' w.heap.size v l/\Below w.heap.size w w'
theorem vm_ (h1 c1 h2 c2:Value) (qa qb:Per) (st:Int) (xv yv:Value) (g:Int) (mb:Nat) (w:World) (hP:vo w h1 c1 h2 c2 qa qb st xv yv g mb) (By:qa.WF) (nY:qb.WF) (hst:st=max qa.frm qb.frm)
  (f1:qa.frm<=1125899906842624) (f2:qb.frm<=1125899906842624) (t1:qa.period<=1125899906842624) (t2:qb.period<=1125899906842624) :
  Calls Tryz.prog 223 #[rL h1 c1 h2 c2 qa qb st xv yv g mb] w (Yb (bF (λn=>qa.mem n/\qb.mem n) 0 st) w):=by
 obtain ⟨xa,xc,rfl⟩:∃ a c,xv=.slice a (aw (ak qa st)).length c:=by obtain ⟨⟨a,c,e,_⟩,_⟩:=hP.x;exact ⟨a,c,e⟩
 obtain ⟨ya,yc,rfl⟩:∃ a c,yv=.slice a (aw (ak qb st)).length c:=by obtain ⟨⟨a,c,e,_⟩,_⟩:=hP.y;exact ⟨a,c,e⟩
 obtain ⟨a1,k1,a2,k2,rfl,rfl⟩:=hP.a.inn.form;obtain ⟨a3,k3,a4,k4,rfl,rfl⟩:=hP.b.inn.form;have HP:=af hP;have EH:=af By;have xk:=af nY;have HST:=af hst;clear hP By nY hst
 go_in
 go_wp2_with fail
 generalize hW0:w.alloc _=W0;have hE:Below w.heap.size w W0:=by rw [<- hW0];exact xE
 have hbx:ag W0 w.heap.size #[.slice a1 qa.head.length k1,.int .i64 qa.frm,.int .i64 qa.period,.slice a2 qa.cycle.length k2,.slice a3 qb.head.length k3,.int .i64 qb.frm,.int .i64 qb.period,.slice a4 qb.cycle.length k4,.int .i64 st,.slice xa (aw (ak qa st)).length xc,.slice ya (aw (ak qb st)).length yc,.int .i64 g,.map (some mb)] 252:=by rw [<- hW0];exact ag.new _ _ _
 clear hW0;have c0:W0.cell? ⟨w.heap.size,0,none⟩=some (.slice a1 qa.head.length k1):=(hbx.cells 0).1;have c1:W0.cell? ⟨w.heap.size,1,none⟩=some (.int .i64 qa.frm):=(hbx.cells 1).1;have c2:W0.cell? ⟨w.heap.size,2,none⟩=some (.int .i64 qa.period):=(hbx.cells 2).1;have c3:W0.cell? ⟨w.heap.size,3,none⟩=some (.slice a2 qa.cycle.length k2):=(hbx.cells 3).1;have c4:W0.cell? ⟨w.heap.size,4,none⟩=some (.slice a3 qb.head.length k3):=(hbx.cells 4).1;have c5:W0.cell? ⟨w.heap.size,5,none⟩=some (.int .i64 qb.frm):=(hbx.cells 5).1;have c6:W0.cell? ⟨w.heap.size,6,none⟩=some (.int .i64 qb.period):=(hbx.cells 6).1;have c7:W0.cell? ⟨w.heap.size,7,none⟩=some (.slice a4 qb.cycle.length k4):=(hbx.cells 7).1;have hz0:=hbx.lt;refine D0 (Q:=λe a' W'=>e=.normal/\∃ (b3 b4:Nat) (u8 u9 u10 u11:Value),a'=⟨#[rL (.slice a1 qa.head.length k1) (.slice a2 qa.cycle.length k2) (.slice a3 qb.head.length k3) (.slice a4 qb.cycle.length k4) qa qb st (.slice xa (aw (ak qa st)).length xc) (.slice ya (aw (ak qb st)).length yc) g mb,.pointer (some ⟨w.heap.size,0,none⟩),.slice none 0 0,.pointer (some ⟨b3,0,none⟩),.pointer (some ⟨b4,0,none⟩),undef,undef,undef,u8,u9,u10,u11,undef,undef,undef,undef,undef,undef,undef,undef,undef,undef,undef,undef,undef,undef,undef,undef,undef,undef,undef,undef,undef,undef,undef],[]⟩/\ag W' b3 #[.slice a1 qa.head.length k1,.int .i64 qa.frm,.int .i64 qa.period,.slice a2 qa.cycle.length k2] 80/\ag W' b4 #[.slice a3 qb.head.length k3,.int .i64 qb.frm,.int .i64 qb.period,.slice a4 qb.cycle.length k4] 80/\Below W0.heap.size W0 W'/\W0.heap.size<=b3/\W0.heap.size<=b4/\b3≠b4) ?imp ?reg
 case reg=>
  go_region_held3 (λw'=>w'.cell? ⟨w.heap.size,0,none⟩=some (.slice a1 qa.head.length k1)/\w'.cell? ⟨w.heap.size,1,none⟩=some (.int .i64 qa.frm)/\w'.cell? ⟨w.heap.size,2,none⟩=some (.int .i64 qa.period)/\w'.cell? ⟨w.heap.size,3,none⟩=some (.slice a2 qa.cycle.length k2)/\w'.cell? ⟨w.heap.size,4,none⟩=some (.slice a3 qb.head.length k3)/\w'.cell? ⟨w.heap.size,5,none⟩=some (.int .i64 qb.frm)/\w'.cell? ⟨w.heap.size,6,none⟩=some (.int .i64 qb.period)/\w'.cell? ⟨w.heap.size,7,none⟩=some (.slice a4 qb.cycle.length k4)) ((go_split_ands;repeat' (with_reducible first|assumption|refine Ci ?_ ?_ _|refine dW ?_ _|refine Ac ?_|exact an.cell (by assumption) (by assumption)|apply And.intro|(exact Below.cell' (by assumption) (by assumption) (by first|(simp;done)|(simp;omega)|omega))|(refine Below.cell' (by assumption) ?_ (by first|(simp;done)|(simp;omega)|omega))|omega|(simp;done)|(simp;omega)))) (fail)
  all_goals (refine ⟨rfl,_,_,_,_,_,_,rfl,?_,?_,by exact xE,aj,aj,aj⟩ <;> (repeat' (first|exact ag.at aj|refine ag.alloc ?_ _|refine ag.drewB ?_|refine CB ?_|refine ag.setNe ?_ _ aj)))
 case imp=>
  rintro e a' W2 ⟨rfl,b3,b4,u8,u9,u10,u11,rfl,hx3,gx,qv,z3,z4,hne⟩;have cE:Below w.heap.size w W2:=by exact xE
  have hbx:=hbx.below qv;have hne':=hne.symm;clear c0 c1 c2 c3 c4 c5 c6 c7 qv;have q1e:W2.cell? ⟨b3,1,none⟩=some (.int .i64 qa.frm):=(hx3.cells 1).1;have AR:W2.cell? ⟨w.heap.size,8,none⟩=some (.int .i64 st):=(hbx.cells 8).1;by_cases hcase:qa.frm=st
  .have hb:(qa.frm != st)=false:=by simp [hcase]
   go_upto_region 4 with (fail)
   have mg:=q5x (B:=qb) EH.o hcase;have zK:=af mg;have y0:W2.cell? ⟨b3,0,none⟩=some (.slice a1 qa.head.length k1):=(hx3.cells 0).1;have K9:=af gx;have hl9:=(HP.o.a).hd.len;have Rf:=cE.size;clear hx3 gx mg;go_wp2;go_loopw [22,5] (λi o wr=>∃ k:Nat,k<=qa.head.length/\i=.int .i64 k/\al wr W2.heap.size o ((qa.head.take k).filter (cg qb))/\Below W2.heap.size W2 wr) (λi _ _=>qa.head.length-(intOf i).toNat)
   .exact ⟨0,ad,rfl,al.nil _ _,JV _ _⟩
   obtain ⟨k,hk,rfl,hown,cB⟩:=hrel;have dR:Below w.heap.size w wr:=Et cE cB;have mh:=cB.size;by_cases hlt:k<qa.head.length
   .have hb4:=K9.o.below cB;obtain ⟨⟨a8,c8,kj,_,_,dJ⟩,_,wD⟩:=(HP.o.a.ext dR).hd;injection kj with cN eP dz
    subst cN;subst dz;rcases dJ with dJ|⟨b8,f8,rfl,hcell⟩
    .rw [dJ] at hlt;simp at hlt
    have hcl:=hcell k hlt;have hyb:=(EH.o.head.2 _ (lg hlt));have hsu:=Ut (cg qb) hlt;have fg:(k:Int)<qa.head.length:=ad;have sy:=YQ (cg qb) (qa.head.take k);rw [MO] at sy;obtain ⟨y,i_⟩:∃ y,y=qa.head.getD k 0:=⟨_,rfl⟩;rw [<- i_] at hcl hyb hsu;obtain ⟨L,hL⟩:∃ L,L=(qa.head.take k).filter (cg qb):=⟨_,rfl⟩;rw [<- hL] at hown sy hsu;obtain ⟨oa,oc,rfl⟩:=hown.form;have z0:wr.cell? ⟨b4,0,none⟩=some (.slice a3 qb.head.length k3):=(hb4.cells 0).1;have z1:wr.cell? ⟨b4,1,none⟩=some (.int .i64 qb.frm):=(hb4.cells 1).1;have z2:wr.cell? ⟨b4,2,none⟩=some (.int .i64 qb.period):=(hb4.cells 2).1;have z3:wr.cell? ⟨b4,3,none⟩=some (.slice a4 qb.cycle.length k4):=(hb4.cells 3).1;have aO:=af hown;have bL:=af cB;have ig:=af hsu;clear hown cB hb4 hsu i_ hL hcell;cases hm:cg qb y with
    | true=>
     have HM:=af hm;clear hm;go_wp2_with (first|(go_at_call 245;refine (Cl _ _ qb y _ (HP.o.b.ext dR) xk.o ad ad ad ad).mono ?_;rintro e w5 ⟨he,hb5⟩;rw [HM.o] at he;subst he;have az:=aO.o.ext hb5;have sK:=hb5.size)|(at_builtin;refine qc aC _ _ aC W2.heap.size (.slice oa L.length oc) L y aC (az.ext (Ea (Er _) _)) _ _ aC aj ⟨ad,ad⟩ ad aR ?_;intro gg cap w6 cO nS oK));go_roundw
     .refine ⟨k+1,ad,by go_num,?_,(((bL.o).trans (hb5.mono ad)).alloc ad _).trans oK⟩;rw [ig.o,HM.o,if_pos rfl];exact cO
     simp [intOf];omega
    | false=>
     have HM:=af hm;clear hm;go_wp2_with (go_at_call 245;refine (Cl _ _ qb y _ (HP.o.b.ext dR) xk.o ad ad ad ad).mono ?_;rintro e w5 ⟨he,hb5⟩;rw [HM.o] at he;subst he;have az:=aO.o.ext hb5;have sK:=hb5.size);go_roundw
     .refine ⟨k+1,ad,by go_num,?_,(bL.o).trans (hb5.mono ad)⟩;rw [ig.o,HM.o,if_neg aj,Q4];exact az
     simp [intOf];omega
   obtain rfl:k=qa.head.length:=ad;rw [OC,zK.o] at hown;obtain ⟨oa,oc,rfl⟩:=hown.form;have aO:=af hown;clear hown;go_wp2;go_ret;exact ⟨_,rfl,aO.o.mono ad,dR⟩
  have hb:(qa.frm != st)=true:=by simp [hcase]
  have w0:W2.cell? ⟨b3,0,none⟩=some (.slice a1 qa.head.length k1):=(hx3.cells 0).1;have w1:W2.cell? ⟨b3,1,none⟩=some (.int .i64 qa.frm):=(hx3.cells 1).1;have w2:W2.cell? ⟨b3,2,none⟩=some (.int .i64 qa.period):=(hx3.cells 2).1;have w3:W2.cell? ⟨b3,3,none⟩=some (.slice a2 qa.cycle.length k2):=(hx3.cells 3).1;have x0:W2.cell? ⟨b4,0,none⟩=some (.slice a3 qb.head.length k3):=(gx.cells 0).1;have x1:W2.cell? ⟨b4,1,none⟩=some (.int .i64 qb.frm):=(gx.cells 1).1;have x2:W2.cell? ⟨b4,2,none⟩=some (.int .i64 qb.period):=(gx.cells 2).1;have x3:W2.cell? ⟨b4,3,none⟩=some (.slice a4 qb.cycle.length k4):=(gx.cells 3).1;have hw:=λi=>(hx3.cells i).2;have hx:=λi=>(gx.cells i).2;have HX3:=af hx3;have kW:=af gx;have q4a:=hw 0;have q1s:=hw 1;have q1y:=hw 2;have q3u:=hw 3;have q2b:=hx 0;have q3d:=hx 1;have q2x:=hx 2;have q3n:=hx 3;clear hw hx hx3 gx q1e;go_upto_region 4 with (fail)
  refine j9 (F:=λW3=>ag W3 b3 #[.slice a3 qb.head.length k3,.int .i64 qb.frm,.int .i64 qb.period,.slice a4 qb.cycle.length k4] 80/\ag W3 b4 #[.slice a1 qa.head.length k1,.int .i64 qa.frm,.int .i64 qa.period,.slice a2 qa.cycle.length k2] 80/\Below w.heap.size w W3)
   ⟨by (repeat' (with_reducible first|exact HX3.o.set4|refine ag.setNe ?_ _ ad)),by (apply ag.set4;repeat' (with_reducible first|exact kW.o|refine ag.setNe ?_ _ ad)),xE⟩ ?_
  clear cE hbx AR w0 w1 w2 w3 x0 x1 x2 x3 q4a q1s q1y q3u q2b q3d q2x q3n;rintro W3 ⟨hx3,gx,cE⟩;have hfb:qb.frm=st:=by have:=HST.o;omega
  have mg:qb.head.filter (cg qa)=bF (λn=>qa.mem n/\qb.mem n) 0 st:=(q5x xk.o hfb).trans (RP (VI _) λn=>And.comm);clear hfb;have zK:=af mg;have y0:W3.cell? ⟨b3,0,none⟩=some (.slice a3 qb.head.length k3):=(hx3.cells 0).1;have K9:=af gx;have hl9:=(HP.o.b).hd.len;have Rf:=cE.size;clear hx3 gx mg;go_wp2;go_loopw [22,5] (λi o wr=>∃ k:Nat,k<=qb.head.length/\i=.int .i64 k/\al wr W3.heap.size o ((qb.head.take k).filter (cg qa))/\Below W3.heap.size W3 wr) (λi _ _=>qb.head.length-(intOf i).toNat)
  .exact ⟨0,ad,rfl,al.nil _ _,JV _ _⟩
  obtain ⟨k,hk,rfl,hown,cB⟩:=hrel;have dR:Below w.heap.size w wr:=Et cE cB;have mh:=cB.size;by_cases hlt:k<qb.head.length
  .have hb4:=K9.o.below cB;obtain ⟨⟨a8,c8,kj,_,_,dJ⟩,_,wD⟩:=(HP.o.b.ext dR).hd;injection kj with cN eP dz
   subst cN;subst dz;rcases dJ with dJ|⟨b8,f8,rfl,hcell⟩
   .rw [dJ] at hlt;simp at hlt
   have hcl:=hcell k hlt;have hyb:=(xk.o.head.2 _ (lg hlt));have hsu:=Ut (cg qa) hlt;have fg:(k:Int)<qb.head.length:=ad;have sy:=YQ (cg qa) (qb.head.take k);rw [MO] at sy;obtain ⟨y,i_⟩:∃ y,y=qb.head.getD k 0:=⟨_,rfl⟩;rw [<- i_] at hcl hyb hsu;obtain ⟨L,hL⟩:∃ L,L=(qb.head.take k).filter (cg qa):=⟨_,rfl⟩;rw [<- hL] at hown sy hsu;obtain ⟨oa,oc,rfl⟩:=hown.form;have z0:wr.cell? ⟨b4,0,none⟩=some (.slice a1 qa.head.length k1):=(hb4.cells 0).1;have z1:wr.cell? ⟨b4,1,none⟩=some (.int .i64 qa.frm):=(hb4.cells 1).1;have z2:wr.cell? ⟨b4,2,none⟩=some (.int .i64 qa.period):=(hb4.cells 2).1;have z3:wr.cell? ⟨b4,3,none⟩=some (.slice a2 qa.cycle.length k2):=(hb4.cells 3).1;have aO:=af hown;have bL:=af cB;have ig:=af hsu;clear hown cB hb4 hsu i_ hL hcell;cases hm:cg qa y with
   | true=>
    have HM:=af hm;clear hm;go_wp2_with (first|(go_at_call 245;refine (Cl _ _ qa y _ (HP.o.a.ext dR) EH.o ad ad ad ad).mono ?_;rintro e w5 ⟨he,hb5⟩;rw [HM.o] at he;subst he;have az:=aO.o.ext hb5;have sK:=hb5.size)|(at_builtin;refine qc aC _ _ aC W3.heap.size (.slice oa L.length oc) L y aC (az.ext (Ea (Er _) _)) _ _ aC aj ⟨ad,ad⟩ ad aR ?_;intro gg cap w6 cO nS oK));go_roundw
    .refine ⟨k+1,ad,by go_num,?_,(((bL.o).trans (hb5.mono ad)).alloc ad _).trans oK⟩;rw [ig.o,HM.o,if_pos rfl];exact cO
    simp [intOf];omega
   | false=>
    have HM:=af hm;clear hm;go_wp2_with (go_at_call 245;refine (Cl _ _ qa y _ (HP.o.a.ext dR) EH.o ad ad ad ad).mono ?_;rintro e w5 ⟨he,hb5⟩;rw [HM.o] at he;subst he;have az:=aO.o.ext hb5;have sK:=hb5.size);go_roundw
    .refine ⟨k+1,ad,by go_num,?_,(bL.o).trans (hb5.mono ad)⟩;rw [ig.o,HM.o,if_neg aj,Q4];exact az
    simp [intOf];omega
  obtain rfl:k=qb.head.length:=ad;rw [OC,zK.o] at hown;obtain ⟨oa,oc,rfl⟩:=hown.form;have aO:=af hown;clear hown;go_wp2;go_ret;exact ⟨_,rfl,aO.o.mono ad,dR⟩
def oE (q:Per) (l:List Int) (n:Int):List Int:=if cg q n=true then l else l ++ [n]
def zo_ (base:Nat) (lv:Value) (l:List Int) (w:World) (e:Ending) (w':World):Prop:=∃ v,e=.returned v/\al w' base v l/\w.grownBy w' lv.ownBlock
theorem R6 (a1 a2 a3 a4:Option Addr) (k1 k2 k3 k4:Nat) (qa qb:Per) (st:Int) (xv yv:Value) (g:Int) (mb pb base:Nat) (lv:Value) (l:List Int) (n:Int) (w:World) (hbx:ag w pb #[.slice a1 qa.head.length k1,.int .i64 qa.frm,.int .i64 qa.period,.slice a2 qa.cycle.length k2,.slice a3 qb.head.length k3,.int .i64 qb.frm,.int .i64 qb.period,.slice a4 qb.cycle.length k4,.int .i64 st,xv,yv,.int .i64 g,.map (some mb)] 252)
  (hq:cj w (.slice a3 qb.head.length k3) (.slice a4 qb.cycle.length k4) qb) (yE:qb.WF) (f1:qb.frm<=1125899906842624) (t1:qb.period<=1125899906842624) (h0:0<=n) (h1:n<=9007199254740992)
  (hown:al w base lv l) (hbase:base<=w.heap.size) (hlen:l.length+1<=17592186044416) :
  Calls Tryz.prog 251 #[lv,.int .i64 n,.pointer (some ⟨pb,0,none⟩)] w (zo_ base lv (oE qb l n) w):=by
 have c4:w.cell? ⟨pb,4,none⟩=some (.slice a3 qb.head.length k3):=(hbx.cells 4).1;have c5:w.cell? ⟨pb,5,none⟩=some (.int .i64 qb.frm):=(hbx.cells 5).1;have c6:w.cell? ⟨pb,6,none⟩=some (.int .i64 qb.period):=(hbx.cells 6).1;have c7:w.cell? ⟨pb,7,none⟩=some (.slice a4 qb.cycle.length k4):=(hbx.cells 7).1;obtain ⟨oa,oc,rfl⟩:=hown.form;have aO:=af hown;have HW:=af yE;clear hown yE hbx;cases hm:cg qb n with
 | true=>
  have hk:oE qb l n=l:=by unfold oE;rw [if_pos hm]
  rw [hk];have HM:=af hm;clear hm hk
  go_in
  go_wp2_with (go_at_call 245;refine (Cl _ _ qb n _ hq HW.o ad ad ad ad).mono ?_;rintro e w5 ⟨he,hb5⟩;rw [HM.o] at he;subst he)
  go_ret;exact ⟨_,rfl,aO.o.ext hb5,World.grownBy.of_below hb5 _⟩
 | false=>
  have hk:oE qb l n=l ++ [n]:=by unfold oE;rw [if_neg (by simp [hm])]
  rw [hk];have HM:=af hm;clear hm hk
  go_in
  go_wp2_with (first|(go_at_call 245;refine (Cl _ _ qb n _ hq HW.o ad ad ad ad).mono ?_;rintro e w5 ⟨he,hb5⟩;rw [HM.o] at he;subst he;have az:=aO.o.ext hb5;have sK:=hb5.size)|(at_builtin;refine qc aC _ _ aC base (.slice oa l.length oc) l n aC (az.ext (Ea (Er _) _)) _ _ aC aj ⟨ad,ad⟩ hlen aR ?_;intro gg cap w6 cO nS oK))
  go_ret;exact ⟨_,rfl,cO,((World.grownBy.of_below hb5 _).trans (NK _ _ _)).trans nS⟩
end
section
open Go.RowKit Go.Shelf Go.Maps Kal
attribute [local go_sem] GC
def kb (q:Per) (l:List Int):List Int:=l.filter λn=>!cg q n
theorem R5 (q:Per) (l:List Int):(kb q l).length<=l.length:=YQ _ _
theorem Xg (q:Per) (l:List Int) (y:Int):kb q (l ++ [y])=oE q (kb q l) y:=by
 unfold kb oE;rw [MG];cases h:cg q y <;> simp [h]
theorem ag.grown {b:Nat} {c:Array Value} {t:TypeId} (h:ag W b c t) (hg:W.grownBy W1 row) (hne:some b≠row):ag W1 b c t:=(hg.block b h.lt hne).trans h
theorem XO (q:Per) (A l:List Int) (y:Int):A ++ oE q l y=oE q (A ++ l) y:=by
 unfold oE;split <;> simp
theorem Su {L:Int} {m:Nat} (hx0:0<=x) (hx:x<a) (hL:L=R*a) (hm:m<=R):(x+m*a<L↔m<R)/\0<=(m:Int)*a/\(m:Int)*a<=L:=by
 have h1:(m:Int)*a<=(R:Int)*a:=NX ad ad;have h2:0<=(m:Int)*a:=K_ ad ad;refine ⟨⟨λh=>?_,λh=>?_⟩,h2,ad⟩
 .rcases PZ m R with h3|h3
  .exact h3
  obtain rfl:m=R:=ad;omega
 have h3:((m+1:Nat):Int)*a<=(R:Int)*a:=NX ad ad;push_cast at h3;rw [OM] at h3;omega
def jM (q:Per) (st a x:Int) (m:Nat):List Int:=kb q ((upto m).map λj=>st+(x+j*a))
theorem Xm (q:Per) (st a x:Int) (m:Nat):jM q st a x (m+1)=oE q (jM q st a x m) (st+(x+m*a)):=by
 unfold jM;rw [<- Xg]
 congr 1
 unfold upto;rw [q7x];simp
theorem Sc (q:Per) (st a x:Int) (m:Nat):(jM q st a x m).length<=m:=by
 unfold jM;refine NN (R5 _ _) ?_;simp [upto]
noncomputable def rM (qa qb:Per) (st g:Int) (xs ys:List Int) (R k:Nat):List Int:=
 kb qb (bF qa.mem 0 st) ++ (xs.take k).flatMap λx=>if qq ys g qb.period x=true then [] else jM qb st qa.period x R
theorem Xx {g:Int} {xs:List Int} (h:k<xs.length):rM qa qb st g xs ys R (k+1)=rM qa qb st g xs ys R k ++ if qq ys g qb.period (xs.getD k 0)=true then [] else jM qb st qa.period (xs.getD k 0) R:=by
 unfold rM;rw [LF h,MC,VS,U2 h];simp
theorem z8_ {g:Int} {xs:List Int} (h0:0<=st) (h:k<=xs.length):((rM qa qb st g xs ys R k).length:Int)<=st+k*R:=by
 induction k with
 | zero=>
  unfold rM;have h1:=R5 qb (bF qa.mem 0 st);have h2:=(fJ (S:=qa.mem) (lo:=0) (hi:=st) (VI _)).length_le h0;simp;omega
 | succ k ih=>
  have:=ih ad;rw [Xx ad,MB];have h3:(if qq ys g qb.period (xs.getD k 0)=true then [] else jM qb st qa.period (xs.getD k 0) R).length<=R:=by
   split
   .simp
   exact Sc _ _ _ _ _
  push_cast;rw [OM];omega
theorem V_ {D:Nat} {x:Option (List Deferred)} (h:W.heap[D]? = some (.deferred x)) (ho:al W base v l) (hg:W.grownBy W1 v.ownBlock):W1.heap[D]? = some (.deferred x):=by
 refine (hg.block D (Q0.1 h).1 λe=>?_).trans h;obtain ⟨o,h1,h2⟩:=ho.row_cells D e.symm;rw [h] at h1;cases h1;cases h2
structure WO (w:World) (pc:Array Value) (base:Nat) (v:Value) (l:List Int) (W:World):Prop where
 below:Below w.heap.size w W
 pbx:ag W w.heap.size pc 252
 kbx:ag W (w.heap.size+1) #[.func (.func 251) #[] #[.pointer (some ⟨w.heap.size,0,none⟩)]] 270
 obx:ag W (w.heap.size+2) #[v] 35
 own:al W base v l
 sz:base<=W.heap.size
 hb:w.heap.size+3<=base
theorem WO.grow {pc:Array Value} (h:WO w pc base v l W) (hg:W.grownBy W' row)
  (hr:∀ r,row=some r->w.heap.size<=r/\((w.heap.size+3<=r/\r<base)\/∃ o:Obj,W.heap[r]? = some o/\o.isCells=false)):WO w pc base v l W':=by
 have key:∀ {b:Nat} {c:Array Value} {t:TypeId},ag W b c t->b<w.heap.size+3->ag W' b c t:=λ{b c t} hx jn=>by
  refine (hg.block b hx.lt λe=>?_).trans hx;obtain ⟨_,h1|⟨o,ho,hc⟩⟩:=hr b e.symm
  .omega
  rw [show W.heap[b]? = _ from hx] at ho;cases ho;cases hc
 refine ⟨h.below.grown hg h.below.size (λk e=>(hr k e).1),key h.pbx ad,key h.kbx ad,key h.obx ad,h.own.kept hg ?_,NN h.sz hg.size,h.hb⟩;rcases cL:v.ownBlock with _|g
 .exact .inl rfl
 refine .inr λe=>?_;have hlt:=h.own.lt g cL;obtain ⟨o2,h2,h3⟩:=h.own.row_cells g cL;obtain ⟨_,h1|⟨o,ho,hc⟩⟩:=hr g e.symm
 .omega
 rw [h2] at ho;cases ho;rw [hc] at h3;cases h3
theorem WO.step {pc:Array Value} {l':List Int} (h:WO w pc base v l W) (hg:W.grownBy W1 v.ownBlock) (ho:al W1 base v' l'):WO w pc base v' l' (W1.setCell ⟨w.heap.size+2,0,none⟩ v'):=by
 have hbk:=h.hb;have key:∀ {b:Nat} {c:Array Value} {t:TypeId},ag W b c t->b<w.heap.size+3->ag W1 b c t:=λ{b c t} hx jn=>by
  refine (hg.block b hx.lt λe=>?_).trans hx;have:=(h.own.lt b e.symm).1;omega
 have bY:Below w.heap.size w W1:=h.below.grown hg h.below.size λk e=>by have:=(h.own.lt k e).1;omega
 refine ⟨bY.setCell (p:=⟨w.heap.size+2,0,none⟩) aj _,(key h.pbx ad).setNe _ ad,(key h.kbx ad).setNe _ ad,bE 0 _ (key h.obx ad),?_,by have:=h.sz;have:=hg.size;simp [World.setCell];omega,hbk⟩;exact ho.above ((cm.refl _ W1).setCell aR _)
theorem rb_ (h1 c1 h2 c2:Value) (qa qb:Per) (st:Int) (xv yv:Value) (g:Int) (mb:Nat) (L:Int) (w:World) (hP:vo w h1 c1 h2 c2 qa qb st xv yv g mb) (By:qa.WF) (nY:qb.WF) (hs1:qa.frm<=st) (hs2:st<=4398046511104) (R:Nat) (vO:L=R*qa.period) (gn:L<=1099511627776) (hx:aH 0 qa.period (aw (ak qa st))) (hg:1<=g) (hg1:g<=562949953421312)
  (f2:qb.frm<=1125899906842624) (t1:qa.period<=562949953421312) (t2:qb.period<=562949953421312) :
  Calls Tryz.prog 229 #[rL h1 c1 h2 c2 qa qb st xv yv g mb,.int .i64 L] w (Yb (rM qa qb st g (aw (ak qa st)) (aw (ak qb st)) R (aw (ak qa st)).length) w):=by
 obtain ⟨xa,xc,rfl⟩:∃ a c,xv=.slice a (aw (ak qa st)).length c:=by obtain ⟨⟨a,c,e,_⟩,_⟩:=hP.x;exact ⟨a,c,e⟩
 obtain ⟨ya,yc,rfl⟩:∃ a c,yv=.slice a (aw (ak qb st)).length c:=by obtain ⟨⟨a,c,e,_⟩,_⟩:=hP.y;exact ⟨a,c,e⟩
 obtain ⟨a1,k1,a2,k2,rfl,rfl⟩:=hP.a.inn.form;obtain ⟨a3,k3,a4,k4,rfl,rfl⟩:=hP.b.inn.form;have wY:=af vO;clear vO;refine VL (n:=0).1 ?_;refine NT Tryz.func229 rfl trivial ?_ rfl;simp only [Tryz.ntmps229,NG,MH,M4,Nat.reduceAdd,Nat.reduceSub,N0,K7,Q3,QG,L4,S5];gi_wp2_with (refine ⟨trivial,rfl,?_⟩;gi_at_call 250;refine (VL.2 (Yw _ _ qa 0 _ ⟨_,_,_,_,_,_,rfl,rfl⟩)).mono ?_;rintro e w' ⟨rfl,rfl⟩);generalize hW0:((((w.alloc _).alloc _).alloc _).alloc _).alloc _=W0;have hE:Below w.heap.size w W0:=by rw [<- hW0];exact xE
 have hsz:W0.heap.size=w.heap.size+5:=by rw [<- hW0];simp
 have bN:ag W0 w.heap.size #[.slice a1 qa.head.length k1,.int .i64 qa.frm,.int .i64 qa.period,.slice a2 qa.cycle.length k2,.slice a3 qb.head.length k3,.int .i64 qb.frm,.int .i64 qb.period,.slice a4 qb.cycle.length k4,.int .i64 st,.slice xa (aw (ak qa st)).length xc,.slice ya (aw (ak qb st)).length yc,.int .i64 g,.map (some mb)] 252:=by rw [<- hW0];exact ((((ag.at rfl).alloc _).alloc _).alloc _).alloc _
 have hkb:ag W0 (w.heap.size+1) #[.func (.func 251) #[] #[.pointer (some ⟨w.heap.size,0,none⟩)]] 270:=by rw [<- hW0];exact (((ag.at aj).alloc _).alloc _).alloc _
 have cL:ag W0 (w.heap.size+2) #[.slice none 0 0] 35:=by rw [<- hW0];exact ((ag.at aj).alloc _).alloc _
 have hfb:ag W0 (w.heap.size+3) #[.slice a1 qa.head.length k1,.int .i64 qa.frm,.int .i64 qa.period,.slice a2 qa.cycle.length k2] 80:=by rw [<- hW0];exact (ag.at aj).alloc _
 have gw:ag W0 (w.heap.size+4) #[.int .i64 0] 3:=by rw [<- hW0];exact ag.at aj
 have hz1:W0.heap.size<=w.heap.size+5:=ad;have hz2:w.heap.size+5<=W0.heap.size:=ad;have wz:=hP.a.ext hE;have hin:=hP.a.inn;have hf0:=By.frm;have wy:=By.per;have fN:=nY.per;obtain ⟨WL,FQ⟩:∃ WL:Nat->List Int,WL=rM qa qb st g (aw (ak qa st)) (aw (ak qb st)) R:=⟨_,rfl⟩;have FR:WL 0=kb qb (bF qa.mem 0 st):=by rw [FQ];simp [rM]
 have EK:Hid (∀ k,k<(aw (ak qa st)).length->WL (k+1)=WL k ++ if qq (aw (ak qb st)) g qb.period ((aw (ak qa st)).getD k 0)=true then [] else jM qb st qa.period ((aw (ak qa st)).getD k 0) R):=af (by rw [FQ];exact λk hk=>Xx hk);have EJ:Hid (∀ k,k<(aw (ak qa st)).length->(WL k).length+R<=8796093022208):=af (λk hk=>by
  have h1:=z8_ (qa:=qa) (qb:=qb) (g:=g) (ys:=aw (ak qb st)) (R:=R) (k:=k) (xs:=aw (ak qa st)) (show 0<=st by omega) ad;rw [<- FQ] at h1;have h2:((k+1:Nat):Int)*R<=qa.period*R:=NX (by have:=hx.length_le ad;omega) ad;rw [LY qa.period,<- wY.o] at h2;push_cast at h2;rw [OM] at h2;omega)
 have FS:WL (aw (ak qa st)).length=rM qa qb st g (aw (ak qa st)) (aw (ak qb st)) R (aw (ak qa st)).length:=by rw [FQ]
 have HWLe:=af FS;have HX:=af hx;have EI:=af FR;clear FQ FS hx FR;have tG:WO w #[.slice a1 qa.head.length k1,.int .i64 qa.frm,.int .i64 qa.period,.slice a2 qa.cycle.length k2,.slice a3 qb.head.length k3,.int .i64 qb.frm,.int .i64 qb.period,.slice a4 qb.cycle.length k4,.int .i64 st,.slice xa (aw (ak qa st)).length xc,.slice ya (aw (ak qb st)).length yc,.int .i64 g,.map (some mb)] W0.heap.size (.slice none 0 0) (kb qb []) W0:=⟨hE,bN,hkb,cL,al.nil _ _,TZ _,ad⟩;have HST:=af tG;have HP:=af hP;have EH:=af By;have xk:=af nY;clear hW0 hsz tG bN hkb cL hP nY;have nM:∀ (v:Value) (l:List Int),IntsIn w 0 w.heap.size v l->l≠[]->∀ b o n c',v=.slice (some ⟨b,o,none⟩) n c'->b<w.heap.size:=λv l hi hl b o n c' he=>(hi.blk hl b (by rw [he];rfl)).2;simp only [OE,Nat.reduceAdd];refine Ph (x:=some (w.heap.size+4)) (gf:=259) (lb:=#[.pointer (some ⟨w.heap.size+3,0,none⟩),.pointer (some ⟨w.heap.size+4,0,none⟩)]) rfl (enters_of Tryz.func259 (by kernel_rfl) rfl)
  (Yx (.slice a1 qa.head.length k1) (.slice a2 qa.cycle.length k2) qa 0 (w.heap.size+3) (w.heap.size+4) W0 (λk=>k<w.heap.size\/k=w.heap.size+3\/k=w.heap.size+4) wz By ad ad ad ad hfb gw (.inr (.inl rfl)) (.inr (.inr rfl))
   (λhl b o n c' he=>.inl (nM _ _ hin.hd hl b o n c' he)) (λhl b o n c' he=>⟨.inl (nM _ _ hin.cy hl b o n c' he),by have:=nM _ _ hin.cy hl b o n c' he;omega⟩) ad)
  (λh k=>h.trans k) (de.putObj (by intro k hk;omega)) (λy=>rfl)
  (λpre W'=>(∀ x∈pre,x<st)/\∃ v,WO w #[.slice a1 qa.head.length k1,.int .i64 qa.frm,.int .i64 qa.period,.slice a2 qa.cycle.length k2,.slice a3 qb.head.length k3,.int .i64 qb.frm,.int .i64 qb.period,.slice a4 qb.cycle.length k4,.int .i64 st,.slice xa (aw (ak qa st)).length xc,.slice ya (aw (ak qb st)).length yc,.int .i64 g,.map (some mb)] W0.heap.size v (kb qb pre) W')
  (λc' _ W'=>c'=.exit 0/\∃ v,WO w #[.slice a1 qa.head.length k1,.int .i64 qa.frm,.int .i64 qa.period,.slice a2 qa.cycle.length k2,.slice a3 qb.head.length k3,.int .i64 qb.frm,.int .i64 qb.period,.slice a4 qb.cycle.length k4,.int .i64 st,.slice xa (aw (ak qa st)).length xc,.slice ya (aw (ak qb st)).length yc,.int .i64 g,.map (some mb)] W0.heap.size v (kb qb (bF qa.mem 0 st)) W')
  (λpre A C row hI hg hr=>⟨hI.1,hI.2.choose,hI.2.choose_spec.grow hg λr e=>by
   rcases hr r e with ⟨h,_⟩|⟨h,h'⟩
   .injection h with h;exact ⟨ad,.inl ⟨ad,ad⟩⟩
   exact ⟨ad,.inr h'⟩⟩)
  (λc' pre A C row hI hg hr=>⟨hI.1,hI.2.choose,hI.2.choose_spec.grow hg λr e=>by
   rcases hr r e with ⟨h,_⟩|⟨h,h'⟩
   .injection h with h;exact ⟨ad,.inl ⟨ad,ad⟩⟩
   exact ⟨ad,.inr h'⟩⟩)
  (λpre W' hI x hx=>by have:=hI.1 x hx;omega) ⟨aj,_,HST.o⟩
  (λy=>⟨#[rL (.slice a1 qa.head.length k1) (.slice a2 qa.cycle.length k2) (.slice a3 qb.head.length k3) (.slice a4 qb.cycle.length k4) qa qb st (.slice xa (aw (ak qa st)).length xc) (.slice ya (aw (ak qb st)).length yc) g mb,.int .i64 L,.pointer (some ⟨w.heap.size,0,none⟩),undef,.slice none 0 0,.pointer (some ⟨w.heap.size+1,0,none⟩),.pointer (some ⟨w.heap.size+2,0,none⟩),(.int .i64 y),undef,undef,undef,.func (Fn.func 251) #[] #[.pointer (some ⟨w.heap.size,0,none⟩)],.pointer (some ⟨w.heap.size,0,none⟩),.agg #[.slice a1 qa.head.length k1,.int .i64 qa.frm,.int .i64 qa.period,.slice a2 qa.cycle.length k2],.func (.func 259) #[] #[.pointer (some ⟨w.heap.size+3,0,none⟩),.pointer (some ⟨w.heap.size+4,0,none⟩)],(.int .i64 y),undef,undef,undef,undef,undef,undef,undef,undef,undef,undef,undef,undef,undef,undef,undef,undef,undef,undef,undef,undef,undef,undef,undef,undef,undef,undef,undef,undef,undef,undef,undef,undef,undef,undef,undef,undef],[]⟩) ?assign ?body ?done ?stop
 case assign=>
  intro l y W' K hK
  gi_wp2
  exact hK
 case body=>
  rintro l pre y W' ⟨hlt,v,a_⟩ hen;obtain ⟨hy1,hy2,Hj,Hk⟩:=yS.last (VI 0) hen;obtain ⟨va,vc,rfl⟩:=a_.own.form;have p8:W'.cell? ⟨w.heap.size,8,none⟩=some (.int .i64 st):=(a_.pbx.cells 8).1;have q1:W'.cell? ⟨w.heap.size+1,0,none⟩=some (.func (.func 251) #[] #[.pointer (some ⟨w.heap.size,0,none⟩)]):=(a_.kbx.cells 0).1;have q2:W'.cell? ⟨w.heap.size+2,0,none⟩=some (.slice va (kb qb pre).length vc):=(a_.obx.cells 0).1;have q3:W'.frozen? ⟨w.heap.size+2,0,none⟩=false:=(a_.obx.cells 0).2;have hown:=a_.own;have hsz:=a_.sz;have rl:=af a_;have H3:=af Hj;have H4:=af Hk;have eo:=a_.below.size;have Vz:pre.length<=4398046511104:=by
   have h9:=fJ (S:=qa.mem) (lo:=0) (hi:=y) (VI _);rw [<- H3.o] at h9;have:=(show aH 0 st pre from ⟨h9.1,λx hx=>⟨(h9.2 x hx).1,hlt x hx⟩⟩).length_le ad;omega
  clear Hj Hk a_ hen;by_cases hc:y<st
  .have lu:=R5 qb pre;have QH:=Xg qb pre y;obtain ⟨KL,qw⟩:∃ KL,KL=oE qb (kb qb pre) y:=⟨_,rfl⟩;rw [<- qw] at QH;obtain ⟨K,hK⟩:∃ K,K=kb qb pre:=⟨_,rfl⟩;rw [<- hK] at qw;have tf:=af qw;have gJ:=rl.o.obx;rw [<- hK] at gJ;have rf:=af gJ;rw [<- hK] at lu hown q2;have LQ:=af QH;have HK:=af hK;have aO:=af hown;clear QH hK hown qw gJ;gi_wp2_with (refine ⟨trivial,rfl,?_⟩;gi_at_call 251;refine (LM l (VL.2 (R6 a1 a2 a3 a4 k1 k2 k3 k4 qa qb st _ _ g mb w.heap.size W0.heap.size (.slice va K.length vc) K y _ rl.o.pbx (HP.o.b.ext rl.o.below) xk.o f2 ad ad ad aO.o ad ad))).mono ?_;rintro e w5 ⟨v5,rfl,az,iW⟩;rw [<- tf.o] at az;obtain ⟨Zz,ZA,rfl⟩:=az.form;have GR:=rf.o.grown iW (λe=>by have JB:=aO.o.lt _ e.symm;omega);have r1:=(GR.cells 0).1;have r2:=(GR.cells 0).2);have sK:=iW.size;refine ⟨(YE (KeepsOthers.grown_cells (P8 W') iW (al.row_cells aO.o)) (K8 w5 ⟨w.heap.size+2,0,none⟩ (.slice Zz KL.length ZA))).from _,λk hk=>?_,λx hx=>?_,.slice Zz KL.length ZA,?_⟩
   .rw [rB ad,iW.block k ad (λe=>by have:=aO.o.lt k e.symm;omega)]
   .rcases VJ.1 hx with hx|hx
    .exact hlt x hx
    obtain rfl:x=y:=by simpa using hx
    exact hc
   rw [LQ.o];exact WO.step (by have:=rl.o;rw [<- HK.o] at this;exact this) iW az
  have hge:st<=y:=ad
  gi_wp2
  refine ⟨KeepsFrom.refl _ _,rfl,.slice va (kb qb pre).length vc,?_⟩;have e:pre=bF qa.mem 0 st:=by
   rw [H3.o];exact JA (VI 0) (λx hx=>hlt x (by rw [H3.o];exact hx)) (λx _ _ hx=>ad)
  rw [<- e];exact rl.o
 case done=>
  rintro D xs W' hD ⟨n,hn,rfl⟩ ⟨hlt,v,a_⟩ aL;have e:=JA (VI 0) hlt (λx hx _ _=>hn x hx);rw [e] at a_;clear e hlt;obtain ⟨va,vc,rfl⟩:=a_.own.form;have p9:W'.cell? ⟨w.heap.size,9,none⟩=some (.slice xa (aw (ak qa st)).length xc):=(a_.pbx.cells 9).1;rw [<- EI.o] at a_;have rl:=af a_;have fW:=af aL;clear a_ aL;gi_wp2_with fail;refine wpIn_wide.2 ?_;go_loopw [27] (λi wr=>∃ k:Nat,k<=(aw (ak qa st)).length/\i=.int .i64 k/\(∃ v,WO w #[.slice a1 qa.head.length k1,.int .i64 qa.frm,.int .i64 qa.period,.slice a2 qa.cycle.length k2,.slice a3 qb.head.length k3,.int .i64 qb.frm,.int .i64 qb.period,.slice a4 qb.cycle.length k4,.int .i64 st,.slice xa (aw (ak qa st)).length xc,.slice ya (aw (ak qb st)).length yc,.int .i64 g,.map (some mb)] W0.heap.size v (WL k) wr)/\wr.heap[D]? = some (.deferred (some []))) (λi _=>(aw (ak qa st)).length-(intOf i).toNat)
  .exact ⟨0,ad,rfl,⟨_,rl.o⟩,fW.o⟩
  obtain ⟨k,hk,rfl,⟨v,a_⟩,aL⟩:=hrel;by_cases hlt:k<(aw (ak qa st)).length
  .obtain ⟨⟨a8,c8,kj,_,_,dJ⟩,_,_⟩:=(HP.o.ext a_.below).x;injection kj with cN eP dz
   subst cN;subst dz;rcases dJ with dJ|⟨b8,f8,rfl,hcell⟩
   .rw [dJ] at hlt;simp at hlt
   have hcl:=hcell k hlt;have hxb:=HX.o.2 _ (lg hlt);have hsu:=EK.o k hlt;have hle:=EJ.o k ad;have fg:(k:Int)<(aw (ak qa st)).length:=ad;obtain ⟨x,kQ⟩:∃ x,x=(aw (ak qa st)).getD k 0:=⟨_,rfl⟩;rw [<- kQ] at hcl hxb hsu;have p0:wr.cell? ⟨w.heap.size,0,none⟩=some (.slice a1 qa.head.length k1):=(a_.pbx.cells 0).1;have p1:wr.cell? ⟨w.heap.size,1,none⟩=some (.int .i64 qa.frm):=(a_.pbx.cells 1).1;have p2:wr.cell? ⟨w.heap.size,2,none⟩=some (.int .i64 qa.period):=(a_.pbx.cells 2).1;have p3:wr.cell? ⟨w.heap.size,3,none⟩=some (.slice a2 qa.cycle.length k2):=(a_.pbx.cells 3).1;have p4:wr.cell? ⟨w.heap.size,4,none⟩=some (.slice a3 qb.head.length k3):=(a_.pbx.cells 4).1;have p5:wr.cell? ⟨w.heap.size,5,none⟩=some (.int .i64 qb.frm):=(a_.pbx.cells 5).1;have p6:wr.cell? ⟨w.heap.size,6,none⟩=some (.int .i64 qb.period):=(a_.pbx.cells 6).1;have p7:wr.cell? ⟨w.heap.size,7,none⟩=some (.slice a4 qb.cycle.length k4):=(a_.pbx.cells 7).1;have p8:wr.cell? ⟨w.heap.size,8,none⟩=some (.int .i64 st):=(a_.pbx.cells 8).1;have p9:wr.cell? ⟨w.heap.size,9,none⟩=some (.slice (some ⟨b8,f8,none⟩) (aw (ak qa st)).length xc):=(a_.pbx.cells 9).1;have p10:wr.cell? ⟨w.heap.size,10,none⟩=some (.slice ya (aw (ak qb st)).length yc):=(a_.pbx.cells 10).1;have p11:wr.cell? ⟨w.heap.size,11,none⟩=some (.int .i64 g):=(a_.pbx.cells 11).1;have p12:wr.cell? ⟨w.heap.size,12,none⟩=some (.map (some mb)):=(a_.pbx.cells 12).1;have HWOr:=af a_;have HDEFr:=af aL;have ig:=af hsu;have eF:=af hle;have BA:=hxb.1;have BB:=hxb.2;have Rc:=a_.below.size;have wF:=a_.sz;have FG:=HP.o.ext a_.below;have uM:=af FG;clear hsu hle a_ aL kQ hcell hxb FG;cases hfull:qq (aw (ak qb st)) g qb.period x with
   | true=>
    have HF:=af hfull;clear hfull;go_wp2_with (go_at_call 252;refine (Km _ _ _ _ qa qb st _ _ g mb x _ uM.o hg hg1 ad ad ad ad).mono ?_;rintro e w5 ⟨he,hb5⟩;rw [HF.o] at he;subst he);go_roundw
    .refine ⟨k+1,ad,by go_num,⟨v,?_⟩,(hb5.block D (Q0.1 HDEFr.o).1).trans HDEFr.o⟩;rw [ig.o,HF.o,if_pos rfl,Q4];exact HWOr.o.grow (World.grownBy.of_below hb5 none) (λr e=>by cases e)
    simp [intOf];omega
   | false=>
    have HF:=af hfull;clear hfull;go_wp2_with (go_at_call 252;refine (Km _ _ _ _ qa qb st _ _ g mb x _ uM.o hg hg1 ad ad ad ad).mono ?_;rintro e w5 ⟨he,hb5⟩;rw [HF.o] at he;subst he);have zS:Hid (WO w #[.slice a1 qa.head.length k1,.int .i64 qa.frm,.int .i64 qa.period,.slice a2 qa.cycle.length k2,.slice a3 qb.head.length k3,.int .i64 qb.frm,.int .i64 qb.period,.slice a4 qb.cycle.length k4,.int .i64 st,.slice (some ⟨b8,f8,none⟩) (aw (ak qa st)).length xc,.slice ya (aw (ak qb st)).length yc,.int .i64 g,.map (some mb)] W0.heap.size v (WL k) w5):=af (HWOr.o.grow (World.grownBy.of_below hb5 none) (λr e=>by cases e));have qS:Hid (w5.heap[D]? = some (.deferred (some []))):=af ((hb5.block D (Q0.1 HDEFr.o).1).trans HDEFr.o);clear hb5;go_loopw [10] (λi wr=>∃ (m:Nat) (n:Int),m<=R/\i=.int .i64 n/\Hid (n=x+m*qa.period)/\(∃ v,WO w #[.slice a1 qa.head.length k1,.int .i64 qa.frm,.int .i64 qa.period,.slice a2 qa.cycle.length k2,.slice a3 qb.head.length k3,.int .i64 qb.frm,.int .i64 qb.period,.slice a4 qb.cycle.length k4,.int .i64 st,.slice (some ⟨b8,f8,none⟩) (aw (ak qa st)).length xc,.slice ya (aw (ak qb st)).length yc,.int .i64 g,.map (some mb)] W0.heap.size v (WL k ++ jM qb st qa.period x m) wr)/\wr.heap[D]? = some (.deferred (some []))) (λi _=>(L-intOf i).toNat)
    .exact ⟨0,x,ad,rfl,af aj,⟨v,by simpa [jM,upto,kb] using zS.o⟩,qS.o⟩
    obtain ⟨m,n,hm,rfl,hn,⟨v9,a_⟩,aL⟩:=hrel;obtain ⟨g1,g2,g3⟩:=Su BA BB wY.o hm;rw [<- hn.o] at g1;have i7:0<=n:=by rw [hn.o];omega
    have mS:n<=L+qa.period:=by rw [hn.o];omega
    clear g2 g3;by_cases pB:m<R
    .have QW:n<L:=g1.2 pB;have pE:=Xm qb st qa.period x m;rw [<- hn.o] at pE;have hpl:=Sc qb st qa.period x m;have hlen:(WL k ++ jM qb st qa.period x m).length+1<=17592186044416:=by rw [MB];have:=eF.o;omega
     have hap:=XO qb (WL k) (jM qb st qa.period x m) (st+n);rw [<- pE] at hap;obtain ⟨K,hK⟩:∃ K,K=WL k ++ jM qb st qa.period x m:=⟨_,rfl⟩;rw [<- hK] at hlen hap a_;obtain ⟨KL,qw⟩:∃ KL,KL=oE qb K (st+n):=⟨_,rfl⟩;rw [<- qw] at hap;have tf:=af qw;have Dh:=af hap;have hown:=a_.own;have gJ:=a_.obx;obtain ⟨pN,pO,rfl⟩:=hown.form;have q1:wr.cell? ⟨w.heap.size+1,0,none⟩=some (.func (.func 251) #[] #[.pointer (some ⟨w.heap.size,0,none⟩)]):=(a_.kbx.cells 0).1;have q2:wr.cell? ⟨w.heap.size+2,0,none⟩=some (.slice pN K.length pO):=(gJ.cells 0).1;have q3:wr.frozen? ⟨w.heap.size+2,0,none⟩=false:=(gJ.cells 0).2;have q8:wr.cell? ⟨w.heap.size,8,none⟩=some (.int .i64 st):=(a_.pbx.cells 8).1;have qp:wr.cell? ⟨w.heap.size,2,none⟩=some (.int .i64 qa.period):=(a_.pbx.cells 2).1;have mh:=a_.sz;have Br:=a_.below.size;have dN:=af a_;have aO:=af hown;have rf:=af gJ;have dC:=af aL;clear a_ hown gJ aL pE hap hK qw g1;go_wp2_with (go_at_call 251;refine (R6 a1 a2 a3 a4 k1 k2 k3 k4 qa qb st _ _ g mb w.heap.size W0.heap.size (.slice pN K.length pO) K (st+n) _ dN.o.pbx (HP.o.b.ext dN.o.below) xk.o f2 ad ad ad aO.o ad ad).mono ?_;rintro e w6 ⟨v6,rfl,cO,iX⟩;rw [<- tf.o] at cO;obtain ⟨SX,SY,rfl⟩:=cO.form;have jT:=rf.o.grown iX (λe=>by have JB:=aO.o.lt _ e.symm;omega);have r1:=(jT.cells 0).1;have r2:=(jT.cells 0).2;have r5:w6.cell? ⟨w.heap.size,2,none⟩=some (.int .i64 qa.period):=((dN.o.pbx.grown iX (λe=>by have JB:=aO.o.lt _ e.symm;omega)).cells 2).1);go_roundw
     .refine ⟨m+1,n+qa.period,ad,by go_num,af (by rw [hn.o];push_cast;rw [OM];omega),⟨.slice SX KL.length SY,?_⟩,?_⟩
      .rw [Dh.o];exact dN.o.step iX cO
      exact (DO _ _ _ _ (by have:=(Q0.1 dC.o).1;simp;omega)).trans (V_ dC.o aO.o iX)
     simp [intOf];omega
    have QW:¬ n<L:=λh=>pB (g1.1 h);obtain rfl:m=R:=ad;have dN:=af a_;have dC:=af aL;clear a_ aL g1;go_wp2;go_roundw
    .refine ⟨k+1,ad,by go_num,⟨v9,?_⟩,dC.o⟩;rw [ig.o,HF.o,if_neg aj];exact dN.o
    simp [intOf];omega
  obtain rfl:k=(aw (ak qa st)).length:=ad;obtain ⟨pN,pO,rfl⟩:=a_.own.form;have q2:wr.cell? ⟨w.heap.size+2,0,none⟩=some (.slice pN (WL (aw (ak qa st)).length).length pO):=(a_.obx.cells 0).1;have dN:=af a_;have dC:=af aL;have Re:=a_.sz;have Ra:=a_.hb;clear a_ aL;go_wp2_with fail;gi_wp2_with fail
  have hM:cJ w.heap.size [{ target:=.collected D,args:=#[] }] wr:=tw ad dC.o;refine ik (B:=w.heap.size) _ _ hM λw' hs=>⟨.slice pN (WL (aw (ak qa st)).length).length pO,by simp [results,Tryz.results229,go_sem],.slice pN (WL (aw (ak qa st)).length).length pO,rfl,?_,dN.o.below.trans hs.below⟩;have h9:=(dN.o.own.shut hs).mono (base':=w.heap.size) ad
  first|exact h9|(rw [<- HWLe.o];exact h9)
 case stop=>
  rintro D c' pre W' hD _ ⟨rfl,v,a_⟩ aL;refine wpIn_exit ?_
  conv=>whnf
  apply_assumption
  obtain ⟨va,vc,rfl⟩:=a_.own.form;have p9:W'.cell? ⟨w.heap.size,9,none⟩=some (.slice xa (aw (ak qa st)).length xc):=(a_.pbx.cells 9).1;rw [<- EI.o] at a_;have rl:=af a_;have fW:=af aL;clear a_ aL;gi_wp2_with fail;refine wpIn_wide.2 ?_;go_loopw [27] (λi wr=>∃ k:Nat,k<=(aw (ak qa st)).length/\i=.int .i64 k/\(∃ v,WO w #[.slice a1 qa.head.length k1,.int .i64 qa.frm,.int .i64 qa.period,.slice a2 qa.cycle.length k2,.slice a3 qb.head.length k3,.int .i64 qb.frm,.int .i64 qb.period,.slice a4 qb.cycle.length k4,.int .i64 st,.slice xa (aw (ak qa st)).length xc,.slice ya (aw (ak qb st)).length yc,.int .i64 g,.map (some mb)] W0.heap.size v (WL k) wr)/\wr.heap[D]? = some (.deferred (some []))) (λi _=>(aw (ak qa st)).length-(intOf i).toNat)
  .exact ⟨0,ad,rfl,⟨_,rl.o⟩,fW.o⟩
  obtain ⟨k,hk,rfl,⟨v,a_⟩,aL⟩:=hrel;by_cases hlt:k<(aw (ak qa st)).length
  .obtain ⟨⟨a8,c8,kj,_,_,dJ⟩,_,_⟩:=(HP.o.ext a_.below).x;injection kj with cN eP dz
   subst cN;subst dz;rcases dJ with dJ|⟨b8,f8,rfl,hcell⟩
   .rw [dJ] at hlt;simp at hlt
   have hcl:=hcell k hlt;have hxb:=HX.o.2 _ (lg hlt);have hsu:=EK.o k hlt;have hle:=EJ.o k ad;have fg:(k:Int)<(aw (ak qa st)).length:=ad;obtain ⟨x,kQ⟩:∃ x,x=(aw (ak qa st)).getD k 0:=⟨_,rfl⟩;rw [<- kQ] at hcl hxb hsu;have p0:wr.cell? ⟨w.heap.size,0,none⟩=some (.slice a1 qa.head.length k1):=(a_.pbx.cells 0).1;have p1:wr.cell? ⟨w.heap.size,1,none⟩=some (.int .i64 qa.frm):=(a_.pbx.cells 1).1;have p2:wr.cell? ⟨w.heap.size,2,none⟩=some (.int .i64 qa.period):=(a_.pbx.cells 2).1;have p3:wr.cell? ⟨w.heap.size,3,none⟩=some (.slice a2 qa.cycle.length k2):=(a_.pbx.cells 3).1;have p4:wr.cell? ⟨w.heap.size,4,none⟩=some (.slice a3 qb.head.length k3):=(a_.pbx.cells 4).1;have p5:wr.cell? ⟨w.heap.size,5,none⟩=some (.int .i64 qb.frm):=(a_.pbx.cells 5).1;have p6:wr.cell? ⟨w.heap.size,6,none⟩=some (.int .i64 qb.period):=(a_.pbx.cells 6).1;have p7:wr.cell? ⟨w.heap.size,7,none⟩=some (.slice a4 qb.cycle.length k4):=(a_.pbx.cells 7).1;have p8:wr.cell? ⟨w.heap.size,8,none⟩=some (.int .i64 st):=(a_.pbx.cells 8).1;have p9:wr.cell? ⟨w.heap.size,9,none⟩=some (.slice (some ⟨b8,f8,none⟩) (aw (ak qa st)).length xc):=(a_.pbx.cells 9).1;have p10:wr.cell? ⟨w.heap.size,10,none⟩=some (.slice ya (aw (ak qb st)).length yc):=(a_.pbx.cells 10).1;have p11:wr.cell? ⟨w.heap.size,11,none⟩=some (.int .i64 g):=(a_.pbx.cells 11).1;have p12:wr.cell? ⟨w.heap.size,12,none⟩=some (.map (some mb)):=(a_.pbx.cells 12).1;have HWOr:=af a_;have HDEFr:=af aL;have ig:=af hsu;have eF:=af hle;have BA:=hxb.1;have BB:=hxb.2;have Rc:=a_.below.size;have wF:=a_.sz;have FG:=HP.o.ext a_.below;have uM:=af FG;clear hsu hle a_ aL kQ hcell hxb FG;cases hfull:qq (aw (ak qb st)) g qb.period x with
   | true=>
    have HF:=af hfull;clear hfull;go_wp2_with (go_at_call 252;refine (Km _ _ _ _ qa qb st _ _ g mb x _ uM.o hg hg1 ad ad ad ad).mono ?_;rintro e w5 ⟨he,hb5⟩;rw [HF.o] at he;subst he);go_roundw
    .refine ⟨k+1,ad,by go_num,⟨v,?_⟩,(hb5.block D (Q0.1 HDEFr.o).1).trans HDEFr.o⟩;rw [ig.o,HF.o,if_pos rfl,Q4];exact HWOr.o.grow (World.grownBy.of_below hb5 none) (λr e=>by cases e)
    simp [intOf];omega
   | false=>
    have HF:=af hfull;clear hfull;go_wp2_with (go_at_call 252;refine (Km _ _ _ _ qa qb st _ _ g mb x _ uM.o hg hg1 ad ad ad ad).mono ?_;rintro e w5 ⟨he,hb5⟩;rw [HF.o] at he;subst he);have zS:Hid (WO w #[.slice a1 qa.head.length k1,.int .i64 qa.frm,.int .i64 qa.period,.slice a2 qa.cycle.length k2,.slice a3 qb.head.length k3,.int .i64 qb.frm,.int .i64 qb.period,.slice a4 qb.cycle.length k4,.int .i64 st,.slice (some ⟨b8,f8,none⟩) (aw (ak qa st)).length xc,.slice ya (aw (ak qb st)).length yc,.int .i64 g,.map (some mb)] W0.heap.size v (WL k) w5):=af (HWOr.o.grow (World.grownBy.of_below hb5 none) (λr e=>by cases e));have qS:Hid (w5.heap[D]? = some (.deferred (some []))):=af ((hb5.block D (Q0.1 HDEFr.o).1).trans HDEFr.o);clear hb5;go_loopw [10] (λi wr=>∃ (m:Nat) (n:Int),m<=R/\i=.int .i64 n/\Hid (n=x+m*qa.period)/\(∃ v,WO w #[.slice a1 qa.head.length k1,.int .i64 qa.frm,.int .i64 qa.period,.slice a2 qa.cycle.length k2,.slice a3 qb.head.length k3,.int .i64 qb.frm,.int .i64 qb.period,.slice a4 qb.cycle.length k4,.int .i64 st,.slice (some ⟨b8,f8,none⟩) (aw (ak qa st)).length xc,.slice ya (aw (ak qb st)).length yc,.int .i64 g,.map (some mb)] W0.heap.size v (WL k ++ jM qb st qa.period x m) wr)/\wr.heap[D]? = some (.deferred (some []))) (λi _=>(L-intOf i).toNat)
    .exact ⟨0,x,ad,rfl,af aj,⟨v,by simpa [jM,upto,kb] using zS.o⟩,qS.o⟩
    obtain ⟨m,n,hm,rfl,hn,⟨v9,a_⟩,aL⟩:=hrel;obtain ⟨g1,g2,g3⟩:=Su BA BB wY.o hm;rw [<- hn.o] at g1;have i7:0<=n:=by rw [hn.o];omega
    have mS:n<=L+qa.period:=by rw [hn.o];omega
    clear g2 g3;by_cases pB:m<R
    .have QW:n<L:=g1.2 pB;have pE:=Xm qb st qa.period x m;rw [<- hn.o] at pE;have hpl:=Sc qb st qa.period x m;have hlen:(WL k ++ jM qb st qa.period x m).length+1<=17592186044416:=by rw [MB];have:=eF.o;omega
     have hap:=XO qb (WL k) (jM qb st qa.period x m) (st+n);rw [<- pE] at hap;obtain ⟨K,hK⟩:∃ K,K=WL k ++ jM qb st qa.period x m:=⟨_,rfl⟩;rw [<- hK] at hlen hap a_;obtain ⟨KL,qw⟩:∃ KL,KL=oE qb K (st+n):=⟨_,rfl⟩;rw [<- qw] at hap;have tf:=af qw;have Dh:=af hap;have hown:=a_.own;have gJ:=a_.obx;obtain ⟨pN,pO,rfl⟩:=hown.form;have q1:wr.cell? ⟨w.heap.size+1,0,none⟩=some (.func (.func 251) #[] #[.pointer (some ⟨w.heap.size,0,none⟩)]):=(a_.kbx.cells 0).1;have q2:wr.cell? ⟨w.heap.size+2,0,none⟩=some (.slice pN K.length pO):=(gJ.cells 0).1;have q3:wr.frozen? ⟨w.heap.size+2,0,none⟩=false:=(gJ.cells 0).2;have q8:wr.cell? ⟨w.heap.size,8,none⟩=some (.int .i64 st):=(a_.pbx.cells 8).1;have qp:wr.cell? ⟨w.heap.size,2,none⟩=some (.int .i64 qa.period):=(a_.pbx.cells 2).1;have mh:=a_.sz;have Br:=a_.below.size;have dN:=af a_;have aO:=af hown;have rf:=af gJ;have dC:=af aL;clear a_ hown gJ aL pE hap hK qw g1;go_wp2_with (go_at_call 251;refine (R6 a1 a2 a3 a4 k1 k2 k3 k4 qa qb st _ _ g mb w.heap.size W0.heap.size (.slice pN K.length pO) K (st+n) _ dN.o.pbx (HP.o.b.ext dN.o.below) xk.o f2 ad ad ad aO.o ad ad).mono ?_;rintro e w6 ⟨v6,rfl,cO,iX⟩;rw [<- tf.o] at cO;obtain ⟨SX,SY,rfl⟩:=cO.form;have jT:=rf.o.grown iX (λe=>by have JB:=aO.o.lt _ e.symm;omega);have r1:=(jT.cells 0).1;have r2:=(jT.cells 0).2;have r5:w6.cell? ⟨w.heap.size,2,none⟩=some (.int .i64 qa.period):=((dN.o.pbx.grown iX (λe=>by have JB:=aO.o.lt _ e.symm;omega)).cells 2).1);go_roundw
     .refine ⟨m+1,n+qa.period,ad,by go_num,af (by rw [hn.o];push_cast;rw [OM];omega),⟨.slice SX KL.length SY,?_⟩,?_⟩
      .rw [Dh.o];exact dN.o.step iX cO
      exact (DO _ _ _ _ (by have:=(Q0.1 dC.o).1;simp;omega)).trans (V_ dC.o aO.o iX)
     simp [intOf];omega
    have QW:¬ n<L:=λh=>pB (g1.1 h);obtain rfl:m=R:=ad;have dN:=af a_;have dC:=af aL;clear a_ aL g1;go_wp2;go_roundw
    .refine ⟨k+1,ad,by go_num,⟨v9,?_⟩,dC.o⟩;rw [ig.o,HF.o,if_neg aj];exact dN.o
    simp [intOf];omega
  obtain rfl:k=(aw (ak qa st)).length:=ad;obtain ⟨pN,pO,rfl⟩:=a_.own.form;have q2:wr.cell? ⟨w.heap.size+2,0,none⟩=some (.slice pN (WL (aw (ak qa st)).length).length pO):=(a_.obx.cells 0).1;have dN:=af a_;have dC:=af aL;have Re:=a_.sz;have Ra:=a_.hb;clear a_ aL;go_wp2_with fail;gi_wp2_with fail
  have hM:cJ w.heap.size [{ target:=.collected D,args:=#[] }] wr:=tw ad dC.o;refine ik (B:=w.heap.size) _ _ hM λw' hs=>⟨.slice pN (WL (aw (ak qa st)).length).length pO,by simp [results,Tryz.results229,go_sem],.slice pN (WL (aw (ak qa st)).length).length pO,rfl,?_,dN.o.below.trans hs.below⟩;have h9:=(dN.o.own.shut hs).mono (base':=w.heap.size) ad
  first|exact h9|(rw [<- HWLe.o];exact h9)
end
section
open Go.RowKit Kal
open Go.Sort (Holds putRow)
theorem al.cut (h:w.ownsRow base 3 1 (.slice (some ⟨g,0,none⟩) n cap) n (l.map (Value.int .i64))) (hk:k<=n) (hr:∀ x∈l.take k,aS x) (lx:l.length=n) (hb:n<=17592186044416):al w base (.slice (some ⟨g,0,none⟩) k cap) (l.take k):=by
 obtain ⟨h1,h2⟩:=h;rcases h2 with ⟨h2,_⟩|⟨g',cap',cur,hv,hg,hh,hn,hc,hs,ht⟩
 .cases h2
 injection hv with e1 e2 e3
 injection e1 with e1;injection e1 with e1
 subst e1;subst e3;have hlk:(l.take k).length=k:=by simp;omega
 refine ⟨?_,hr,ad⟩;rw [hlk];refine ⟨aR,.inr ⟨g,cap,cur,rfl,hg,hh,ad,hc,hs,?_⟩⟩;rw [QJ] at ht ⊢;rw [Y8,<- ht,List.take_take,EB hk]
theorem Z9 (W:World):Go.Sort.grow W #[]=W:=by cases W;simp [Go.Sort.grow]
theorem qh_ (v:Value) (l:List Int) (base:Nat) (w:World) (hv:al w base v l) :
  Calls Tryz.prog 230 #[v] w λe w'=>∃ v',e=.returned v'/\al w' base v' (Go.Lib.compact l)/\w.grownBy w' v.ownBlock/\v'.ownBlock=v.ownBlock:=by
 have hv0:=hv;obtain ⟨⟨h1,h2⟩,h3,h4⟩:=hv;rcases h2 with ⟨rfl,h0⟩|⟨g,cap,cur,rfl,hg,hh,hn,hc,hs,ht⟩
 .have hl:l=[]:=NL h0;subst hl;exact (Tryz.slices_Compact_int_empty none 0 w).mono λe w' ⟨he,hw⟩=>⟨_,he,by rw [hw];exact al.nil w base,by rw [hw];exact ⟨rfl,rfl,rfl,TZ _,λ_ _ _=>rfl⟩,rfl⟩
 rw [QJ] at ht;have hlc:(Go.Lib.compact l).length<=l.length:=mc_;have hmem:∀ x∈Go.Lib.compact l,x∈l:=λx hx=>by
  unfold Go.Lib.compact Go.Lib.compactUpTo at hx;obtain ⟨j,hj,rfl⟩:=VC.1 hx;have:=MN.1 (N7.1 hj).1;rw [getElem!_pos l.toArray j (by simpa using this)];simp
 refine (Tryz.slices_Compact_int g 0 cap l w (holds_of_blockI hh ht) ad hn).mono λe w' ⟨he,n,hw⟩=>⟨_,he,?_,?_,rfl⟩
 .have hlen:(Go.Lib.compact l ++ List.replicate (l.length-(Go.Lib.compact l).length) 0).length=l.length:=by simp;omega
  have:=ownsRow_sortedI (n:=n) (os:=#[]) (ts:=Go.Lib.compact l ++ List.replicate (l.length-(Go.Lib.compact l).length) 0) hlen hg hh hn hc hs;rw [Z9,<- hw] at this;have h9:=al.cut (k:=(Go.Lib.compact l).length) this hlc (λx hx=>h3 x (hmem x (by simpa using hx))) hlen h4;simpa using h9
 have:=grownBy_sortedI (w:=w) (g:=g) (n:=n) (os:=#[]) (Go.Lib.compact l ++ List.replicate (l.length-(Go.Lib.compact l).length) 0).toArray;rw [Z9,<- hw] at this;exact this
theorem xx_ (n:Nat) (w:World) (hn:n<=8796093022208) :
  Calls Tryz.prog 249 #[.slice none 0 0,.int .i64 (n:Int)] w λe w'=>∃ v,e=.returned v/\al w' w.heap.size v []/\Below w.heap.size w w':=by
 obtain ⟨i0,hi0,hz0,hs0,hb0⟩:=xJ;by_cases ep:0<n
 .have G1:∀ ty,(Builtin.append_ #[35,3] ty #[.slice none 0 0,.int .i64 (n:Int)]).run Tryz.prog w =
    .ok (.slice (some ⟨w.heap.size,0,none⟩) n (grownCap w n 0 3)) (w.drew.alloc (.cells (#[] ++ Builtin.zeroCells (Value.int .i64 0).cells n ++ Builtin.zeroCells (Value.int .i64 0).cells (grownCap w n 0 3-n)) 3)):=λty=>by
   have h:=Lib.run_append_grow_zeros w 35 3 ty 3 i0 (.int .i64 0) .i64 .i64 Tryz.underlying35 Tryz.underlying3 hi0 hz0 none 0 0 [] (run_firstCells_none w.drew i0.size 0 0 0) n ep ad ad ad (by rw [hb0];omega)
    (growslice_fits ad (by rw [hb0];omega))
   simpa using h
  have Pu:n<=grownCap w n 0 3:=grownCap_ge w _ _ _;have vM:=grownCap_le_maxLen w n 0 3 (by unfold maxLen;omega);obtain ⟨G,hG⟩:∃ G,G=grownCap w n 0 3:=⟨_,rfl⟩;rw [<- hG] at G1 Pu vM;have Pt:G<=9223372036854775807:=by unfold maxLen at vM;omega
  have zm:=af vM;clear hG vM;have Vu:(0:Int)<(n:Int):=ad
  go_in
  go_wp2_with (at_builtin;refine Lib.wpList_append_run _ rfl _ _ _ _ rfl _ _ rfl rfl _ _ (G1 _) ?_)
  go_ret;refine ⟨_,rfl,⟨⟨rfl,.inr ⟨w.heap.size,G,_,rfl,TZ _,DP w.drew _,aj,zm.o,?_,aj⟩⟩,aj,aj⟩,?_⟩
  .simp [Builtin.zeroCells,Value.cells];omega
  exact ((JV _ _).drew).alloc (TZ _) _
 obtain rfl:n=0:=ad
 go_in
 go_wp2
 go_ret;exact ⟨_,rfl,al.nil _ _,JV _ _⟩
theorem Wr {a:Act} {Q:Exit->Act->World->Prop} (hgd:o.guard=none) (s x:Operand)
  (ho:o.op=.call { callee:=.builtin .append,args:=#[s,x],argTypes:=#[35,35] }) (base:Nat) (v xv:Value) (l ys:List Int) (hs:a.eval s=v) (hown:al w base v l)
  (hx:a.eval x=xv) (mW:Ints w xv ys) (hlen:l.length+ys.length<=17592186044416) (hbase:base<=w.heap.size)
  (h:∀ v' w',al w' base v' (l ++ ys)->w.grownBy w' v.ownBlock->(v'.ownBlock=v.ownBlock\/v'.ownBlock=some w.heap.size)->wpList Tryz.prog ops Q rest (a.put o.dst v') w') :
  wpList Tryz.prog ops Q (o :: rest) a w:=by
 obtain ⟨i,hi,h1,h2,h3⟩:=xJ;obtain ⟨⟨xa,xc,rfl,g1,g2,g3⟩,g4,g5⟩:=mW;refine wpList_plain hgd λK hK=>?_;rcases g3 with rfl|⟨b,off,rfl,hcell⟩
 .have hrun:(Builtin.append_ #[35,35] o.type #[v,.slice xa ([]:List Int).length xc]).run Tryz.prog w=.ok v w:=by
   obtain ⟨⟨r1,r2⟩,r3,r4⟩:=hown;rcases r2 with ⟨rfl,r0⟩|⟨g,cap,cur,rfl,r5,r6,r7,r8,r9,YX⟩
   .cases xa <;> simp [Builtin.append_,run_underlying Tryz.underlying35,sizeOf,typeInfo,hi,Builtin.lenOf,Builtin.firstCells,loadCells,loadCellsFrom,storeCells]
   cases xa <;> simp [Builtin.append_,run_underlying Tryz.underlying35,sizeOf,typeInfo,hi,Builtin.lenOf,Builtin.firstCells,r7,loadCells,loadCellsFrom,storeCells]
  unfold Oper.wp execOp;simp only [ho,resolve,invoke,builtin,NM,L_,MM,QE,GB,Q6,hs,hx,hrun];exact hK _ _ (h v w (by simpa using hown) (P7 w _) (.inl rfl))
 obtain ⟨v',w',hrun,k2,k3,_,k5⟩:=q8g (P:=Tryz.prog) w base 35 o.type 3 i (.int .i64 0) 1 8 Tryz.underlying35 hi h1 h2 h3 rfl ad v l.length (l.map (Value.int .i64)) hown.row ⟨b,off,none⟩ ys.length xc (ys.map (Value.int .i64)) aj
  (λj u hu=>by
   rw [OA] at hu;obtain ⟨y,hy,rfl⟩:=Option.map_eq_some_iff.1 hu;obtain ⟨hj,hy'⟩:=GD.1 hy;have:=hcell j hj;rw [show ys.getD j 0=y from by simp [hj,hy']] at this;rw [show (⟨b,off,none⟩:Addr).add j=⟨b,off+j,none⟩ from by simp [Addr.add]];exact this) (by simp [Value.oneCell']) (by unfold maxLen;omega) ad hbase
 unfold Oper.wp execOp;simp only [ho,resolve,invoke,builtin,NM,L_,MM,QE,GB,Q6,hs,hx,hrun];refine hK _ _ (h v' w' ⟨?_,λz hz=>?_,aR⟩ k3 k5)
 .rw [MB,UZ];exact k2
 rcases VJ.1 hz with hz|hz
 .exact hown.rng z hz
 exact g5 z hz
def qK (w:World) (b:Nat) (c:Array Value):Prop:=∀ i,w.cell? ⟨b,i,none⟩=c[i]?
def uj_ (l:List Int) (w:World) (e:Ending) (w':World):Prop:=∃ v,e=.returned v/\al w' w.heap.size v l/\Below w.heap.size w w'
theorem ss_ (b c:Nat) (v1 v2:Value) (l1 l2:List Int) (w:World) (hb:qK w b #[v1,v2]) (h1:Ints w v1 l1) (h2:Ints w v2 l2) (hl:l1.length+l2.length<=8796093022208) (hc:2<=c) (hc1:c<=1000) :
  Calls Tryz.prog 227 #[.slice (some ⟨b,0,none⟩) 2 c] w (uj_ (l1 ++ l2) w):=by
 obtain ⟨a1,c1,rfl⟩:∃ a c,v1=.slice a l1.length c:=by obtain ⟨⟨a,c,e,_⟩,_⟩:=h1;exact ⟨a,c,e⟩
 obtain ⟨a2,c2,rfl⟩:∃ a c,v2=.slice a l2.length c:=by obtain ⟨⟨a,c,e,_⟩,_⟩:=h2;exact ⟨a,c,e⟩
 have q0:w.cell? ⟨b,0,none⟩=some (.slice a1 l1.length c1):=(hb 0);have q1:w.cell? ⟨b,1,none⟩=some (.slice a2 l2.length c2):=(hb 1);have H1:=af h1;have H2:=af h2;have HB:=af hb;clear h1 h2 hb
 go_in
 go_wp2_with fail
 go_loop [11,3] (λi n=>(i=.int .i64 0/\n=.int .i64 0)\/(i=.int .i64 1/\n=.int .i64 l1.length)\/(i=.int .i64 2/\n=.int .i64 (l1.length+l2.length))) (λi _=>2-(intOf i).toNat)
 .exact .inl ⟨rfl,rfl⟩
 rcases hrel with ⟨rfl,rfl⟩|⟨rfl,rfl⟩|⟨rfl,rfl⟩
 .go_wp2_with fail
  go_round
  .exact .inr (.inl ⟨rfl,rfl⟩)
  simp [intOf]
 .go_wp2_with fail
  go_round
  .exact .inr (.inr ⟨rfl,rfl⟩)
  simp [intOf]
 go_wp2_with (go_at_call 249;rw [show ((l1.length:Int)+(l2.length:Int))=((l1.length+l2.length:Nat):Int) from by push_cast;rfl];refine (xx_ (l1.length+l2.length) _ hl).mono ?_;rintro e w2 ⟨v2,rfl,hown2,hb2⟩;obtain ⟨va,vc,rfl⟩:=hown2.form;obtain ⟨hc2,hf2⟩:=bd_ hb2;(try simp only [U7,Q1,fZ,O1] at hc2 hf2))
 have cE:Below w.heap.size w w2:=hb2;have fw:=af hown2;clear hown2 hb2 hc2 hf2;go_loopw [27,6] (λi ns wr=>((i=.int .i64 0/\al wr w.heap.size ns [])\/(i=.int .i64 1/\al wr w.heap.size ns l1)\/(i=.int .i64 2/\al wr w.heap.size ns (l1 ++ l2)))/\Below w.heap.size w wr) (λi _ _=>2-(intOf i).toNat)
 .exact ⟨.inl ⟨rfl,fw.o⟩,cE⟩
 obtain ⟨hrel,dR⟩:=hrel;have q0:=an.cell dR q0;have q1:=an.cell dR q1;have mh:=dR.size;rcases hrel with ⟨rfl,hown⟩|⟨rfl,hown⟩|⟨rfl,hown⟩
 .obtain ⟨na,nc,rfl⟩:=hown.form;have aO:=af hown;clear hown;go_wp2_with (at_builtin;refine Wr aC _ _ aC w.heap.size (.slice na 0 nc) (.slice a1 l1.length c1) [] l1 aC aO.o aC (H1.o.ext dR) aR ad ?_;intro v5 w5 az aJ kq;obtain ⟨yK,yL,rfl⟩:=az.form);go_roundw
  .exact ⟨.inr (.inl ⟨rfl,by simpa using az⟩),dR.grown aJ dR.size (λk e=>(aO.o.lt k e).1)⟩
  simp [intOf]
 .obtain ⟨na,nc,rfl⟩:=hown.form;have aO:=af hown;clear hown;go_wp2_with (at_builtin;refine Wr aC _ _ aC w.heap.size (.slice na l1.length nc) (.slice a2 l2.length c2) l1 l2 aC aO.o aC (H2.o.ext dR) ad ad ?_;intro v5 w5 az aJ kq;obtain ⟨yK,yL,rfl⟩:=az.form);go_roundw
  .exact ⟨.inr (.inr ⟨rfl,by simpa using az⟩),dR.grown aJ dR.size (λk e=>(aO.o.lt k e).1)⟩
  simp [intOf]
 obtain ⟨na,nc,rfl⟩:=hown.form;have aO:=af hown;clear hown;go_wp2;go_ret;exact ⟨_,rfl,aO.o,dR⟩
end
section
open Go.RowKit Go.Maps Kal
theorem vp.below (h:vp w lo hi h1 c1 h2 c2 qa qb st xv yv mb) (hb:Below B w w') (hB:hi<=B):vp w' lo hi h1 c1 h2 c2 qa qb st xv yv mb:=
 ⟨h.a.below hb hB,h.b.below hb hB,h.x.below hb hB,h.y.below hb hB,h.m.of_blocks (λk _ h2=>hb.block k ad),h.lom⟩
theorem vj (h:q.WF) (hs:q.frm<=st) (y:Int):y∈aw (ak q st)↔0<=y/\y<q.period/\q.mem (st+y):=(Cp _ y).trans (RX h hs y)
theorem Sd (h:q.WF) (hs:q.frm<=st):aH 0 q.period (aw (ak q st)):=⟨Kq (WW h st),λx hx=>by have:=(vj h hs x).1 hx;exact ⟨this.1,this.2.1⟩⟩
theorem Xp (st:Int):(aw (ak q st)).length=q.cycle.length:=by rw [Ch];unfold ak;simp
theorem XF (xs ys:List Int) (a b st:Int):eZ xs ys (Int.gcd a b:Nat)=(iq xs ys a b st).length:=by
 unfold eZ iq gE;rw [mf_]
 congr 1
 refine List.map_congr_left λx _=>?_;simp
structure zs_ (p1 p2 qa qb:Per) (st L g:Int):Prop where
 hx:aH 0 qa.period (aw (ak qa st))
 hy:aH 0 qb.period (aw (ak qb st))
 n:((bF (λn=>qa.mem n/\qb.mem n) 0 st).length:Int)+eZ (aw (ak qa st)) (aw (ak qb st)) g=cnt (λn=>p1.mem n/\p2.mem n) (st+L).toNat
 inA:im qa st+(aw (ak qa st)).length*(L / qa.period)=cnt p1.mem (st+L).toNat
 inB:im qb st+(aw (ak qb st)).length*(L / qb.period)=cnt p2.mem (st+L).toNat
 meet:∀ n,n∈iq (aw (ak qa st)) (aw (ak qb st)) qa.period qb.period st↔st<=n/\n<st+L/\p1.mem n/\p2.mem n
 headsEq:bF (λn=>qa.mem n/\qb.mem n) 0 st=bF (λn=>p1.mem n/\p2.mem n) 0 st
 com:eZ (aw (ak qa st)) (aw (ak qb st)) g=(iq (aw (ak qa st)) (aw (ak qb st)) qa.period qb.period st).length
theorem q5n {p1 p2:Per} (fC:bV qa p1.mem) (eD:bV qb p2.mem) {L g:Int} (hs1:qa.frm<=st) (hs2:qb.frm<=st) (hL:L=aV qa.period qb.period) (hg:g=(Int.gcd qa.period qb.period:Nat)):zs_ p1 p2 qa qb st L g:=by
 have hx:=Sd fC.wf hs1;have hy:=Sd eD.wf hs2;have h0:0<=st:=by have:=fC.wf.frm;omega
 have mg:bF (λn=>qa.mem n/\qb.mem n) 0 st=bF (λn=>p1.mem n/\p2.mem n) 0 st:=RP (VI _) λn=>by rw [fC.mem,eD.mem]
 have gn:1<=L:=by rw [hL];exact Ae fC.wf.per eD.wf.per
 refine ⟨hx,hy,?_,?_,?_,?_,mg,by rw [hg];exact XF _ _ _ _ _⟩
 .rw [mg,hg,XF (st:=st),hL];exact yj_ fC eD hs1 hs2 hx hy (vj fC.wf hs1) (vj eD.wf hs2) h0
 .rw [Xp];exact q6y fC hs1 gn (hL ▸ EY)
 .rw [Xp];exact q6y eD hs2 gn (hL ▸ I7)
 rw [hL];exact Sa fC eD hs1 hs2 hx hy (vj fC.wf hs1) (vj eD.wf hs2)
theorem uc_ {a:Option Addr} {i:Nat} (l:List Int) (hi:i<=l.length) (hc:l.length<=c) :
  ∃ a',(∀ W,(Instr.slice 35 (.slice a l.length c) none (some (.int .i64 (i:Int))) (some (.int .i64 (i:Int)))).run Tryz.prog W=.ok (.slice a' i i) W)/\
   (∀ w,Ints w (.slice a l.length c) l->Ints w (.slice a' i i) (l.take i)):=by
 refine ⟨if i=0 then a else a.map (·.add (0*1)),λW=>?_,λw h=>?_⟩
 .rw [run_slice_hm W 35 _ _ _ (by kernel_rfl) .i64 .i64 _ _ ad ad ad];have hz:(sizeOf (Tryz.prog.elem 35)).run Tryz.prog W=.ok 1 W:=by kernel_rfl
  rw [hz];simp only [Result.andThen,sliced,VG,FJ]
 obtain ⟨⟨a2,c2,he,h1,h2,h3⟩,h4,h5⟩:=h;injection he with e1 e2 e3
 subst e1;subst e3;have hl:(l.take i).length=i:=by simp;omega
 refine ⟨⟨_,i,by rw [hl],by rw [hl];exact TZ _,ad,?_⟩,ad,λx hx=>h5 x (S8 hx)⟩;by_cases h0:i=0
 .subst h0;exact .inl aj
 rcases h3 with rfl|⟨b,o,rfl,hcell⟩
 .simp at hi;omega
 refine .inr ⟨b,o,by rw [if_neg h0];simp [Addr.add],λj hj=>?_⟩;rw [hl] at hj;rw [hcell j ad];simp [VS,LJ hj]
theorem xy_ {wr yO:World} {ob i:Nat} (h:A.grownBy wr (some ob)) (hb:Below A.heap.size wr yO):A.grownBy (yO.setCell ⟨ob,i,none⟩ v) (some ob):=
 ⟨(
  show (yO.setCell ⟨ob,i,none⟩ v).os=_ from hb.os).trans h.os,(show (yO.setCell ⟨ob,i,none⟩ v).tape=_ from hb.tape).trans h.tape,(show (yO.setCell ⟨ob,i,none⟩ v).output=_ from hb.output).trans h.output,by have:=h.size;have:=hb.size;simp [World.setCell];omega,
  λk hk hne=>((DO yO ⟨ob,i,none⟩ v k (by intro e;exact hne (by rw [e]))).trans (hb.block k hk)).trans (h.block k hk hne)⟩
theorem nu_ {LL Nf:List Int} (hs:Nf.Pairwise (· < ·)) (hm:∀ x,x∈LL↔x∈Nf):Go.Lib.compact (aw LL)=Nf:=by
 obtain ⟨h1,h2⟩:=md_ (q6v LL);exact Rz h1 hs λx=>by rw [h2,Cp,hm]
theorem xw_ (hq:q.WF) (hs:q.frm<=st) {g:Int} (hg:1<=g) (hgd:g∣q.period) (hf:qq (aw (ak q st)) g q.period r=true) {n:Int} (hn:st<=n) (hr:(n-st) % g=r % g):q.mem n:=by
 have hp:=hq.per;have jq:=VK r (show g≠0 by omega);have hr1:=VM r (show 0<g by omega);have h1:=(sm_ (ys:=aw (ak q st)) hp hg hgd (Sd hq hs) jq hr1).1 (LX hf);refine (An hq hs (vj hq hs) hn).1 (h1 _ (VK _ ad) (VM _ ad) ?_);rw [A7 _ hgd,hr]
theorem ww_ (ha:qa.WF) (hb:qb.WF) {g L:Int} (hs1:qa.frm<=st) (hs2:qb.frm<=st) (hg:g=(Int.gcd qa.period qb.period:Nat)) (vO:L=R*qa.period) (x:Int) :
  x∈rM qa qb st g (aw (ak qa st)) (aw (ak qb st)) R (aw (ak qa st)).length↔x∈bF (λn=>qa.mem n/\¬ qb.mem n) 0 (st+L):=by
 have hf0:=ha.frm;have hp:=ha.per;have hg1:1<=g:=by rw [hg];exact (oA hp).1
 have AY:g∣qa.period:=by rw [hg];exact MP _ _
 have hgb:g∣qb.period:=by rw [hg];exact M0 _ _
 have JI:0<=L:=by rw [vO];exact K_ ad ad
 have key:∀ {r:Int} {j:Nat},r∈aw (ak qa st)->j<R->qa.mem (st+(r+j*qa.period))/\0<=r+j*qa.period/\r+j*qa.period<L:=by
  intro r j hr hj;have hr':=(vj ha hs1 r).1 hr;have h3:=Su (a:=qa.period) (L:=L) (m:=j) (R:=R) hr'.1 hr'.2.1 vO ad;have h4:=h3.1.2 hj;refine ⟨(An ha hs1 (vj ha hs1) ad).1 ?_,ad,h4⟩;rw [show st+(r+j*qa.period)-st=r+j*qa.period from ad,ON,LV hr'.1 hr'.2.1];exact hr
 have nm:∀ {n:Int},0<=n->((!cg qb n)=true↔¬ qb.mem n):=λ{n} h=>by
  have:=Fq (p:=qb) h;cases hm:cg qb n <;> simp [hm] at this ⊢ <;> assumption
 unfold rM;rw [OC,VJ,M7,dX (VI _)];constructor
 .rintro (h|⟨r,hr,h⟩)
  .unfold kb at h;rw [N7,dX (VI _)] at h;exact ⟨h.1.1,ad,h.1.2.2,(nm h.1.1).1 h.2⟩
  split at h
  .simp at h
  unfold jM kb at h;rw [N7,VC] at h;obtain ⟨⟨j,hj,rfl⟩,h2⟩:=h;rw [Cv] at hj;obtain ⟨m,rfl⟩:=M1 hj.1;obtain ⟨k1,k2,k3⟩:=key hr (show m<R by omega);exact ⟨ad,ad,k1,(nm ad).1 h2⟩
 rintro ⟨h0,h1,h2,h3⟩;by_cases hx:x<st
 .refine .inl ?_;unfold kb;rw [N7,dX (VI _)];exact ⟨⟨h0,hx,h2⟩,(nm h0).2 h3⟩
 have hr:=(An ha hs1 (vj ha hs1) (show st<=x by omega)).2 h2;refine .inr ⟨_,hr,?_⟩;have hnf:¬ qq (aw (ak qb st)) g qb.period ((x-st) % qa.period)=true:=λhf=>
  h3 (xw_ hb hs2 hg1 hgb hf ad (by rw [A7 _ AY]))
 rw [if_neg hnf];unfold jM kb;rw [N7,VC];have e:=VE (x-st) qa.period;have oL:0<=(x-st) / qa.period:=N1 ad ad;refine ⟨⟨(x-st) / qa.period,(Cv _ _).2 ⟨oL,?_⟩,ad⟩,(nm h0).2 h3⟩;exact Int.ediv_lt_of_lt_mul ad (by rw [<- vO];omega)
theorem tw_ {k:Int} {n:Int} (h:gL k p.mem q.mem n):0<=n:=by
 unfold gL at h
 split at h
 .exact h.1.1
 split at h
 .exact h.elim And.left And.left
 exact h.1.1
theorem XU {k:Int} {T:Int} (h1:cM p.mem s T) (h2:cM q.mem s T):cM (gL k p.mem q.mem) s T:=by
 intro n hn;have a:=h1 n hn;have b:=h2 n hn;unfold gL
 split
 .exact ⟨λh=>⟨a.1 h.1,b.1 h.2⟩,λh=>⟨a.2 h.1,b.2 h.2⟩⟩
 split
 .exact ⟨λh=>h.imp a.1 b.1,λh=>h.imp a.2 b.2⟩
 exact ⟨λh=>⟨a.1 h.1,λg=>h.2 (b.2 g)⟩,λh=>⟨a.2 h.1,λg=>h.2 (b.1 g)⟩⟩
theorem Xj (kd:Int) (JY:kd=0\/kd=1\/kd=2) (h1 c1 h2 c2:Value) (p1 p2 qa qb q:Per) (w:World) (fN:cj w h1 c1 p1) (fk:cj w h2 c2 p2) (jr:Valid p1) (hv2:Valid p2) (fC:bV qa p1.mem) (eD:bV qb p2.mem)
  (hL:aV qa.period qb.period<=1099511627776) (hpp:kd=0->qa.period<=4294967295/\qb.period<=4294967295)
  (hq:bV q (gL kd p1.mem p2.mem)) (gF:cnt (gL kd p1.mem p2.mem) (max qa.frm qb.frm+aV qa.period qb.period).toNat<=1048576) :
  Calls Tryz.prog 190 #[ar h1 c1 p1.frm p1.period,ar h2 c2 p2.frm p2.period,.int .i64 kd] w (nG q w):=by
 have hk0:0<=kd:=ad;have sq:kd<=2:=ad;have TJ:=af JY;have mE:=af hpp;have Lo:=af gF;clear JY hpp gF;obtain ⟨a1,m1,a2,m2,rfl,rfl⟩:=fN.inn.form;obtain ⟨a3,m3,a4,m4,rfl,rfl⟩:=fk.inn.form;have fA:∀ W,Below w.heap.size w W->cj W (.slice a1 p1.head.length m1) (.slice a2 p1.cycle.length m2) p1:=λW hb=>fN.ext hb;have hl2:∀ W,Below w.heap.size w W->cj W (.slice a3 p2.head.length m3) (.slice a4 p2.cycle.length m4) p2:=λW hb=>fk.ext hb;have Rm:=(pg p1).2 jr;have Rn:=(pg p2).2 hv2;have ou:=af jr;have nw:=af hv2;have nr:=af fC;have mF:=af eD;have Tx:Hid (p1.frm<=562949953421312/\p1.period<=562949953421312):=by have:=jr.frm;have:=jr.per;exact af ad
 have zi:Hid (p2.frm<=562949953421312/\p2.period<=562949953421312):=by have:=hv2.frm;have:=hv2.per;exact af ad
 obtain ⟨b1,b2,_,b4,b5⟩:=fC.smaller jr.wf;obtain ⟨d1,d2,_,d4,d5⟩:=eD.smaller hv2.wf;have za0:=fC.wf.frm;have zb0:=eD.wf.frm;have BM:=fC.wf.per;have BN:=eD.wf.per;have e1:=jr.frm;have e2:=jr.per;have e3:=hv2.frm;have e4:=hv2.per;have Gn:=oA (b:=qb.period) BM;have hgl2:=xw (a:=qa.period) BN;clear fN fk jr hv2 fC eD;obtain ⟨st,hst⟩:∃ st,st=max (max qa.frm qb.frm) 0:=⟨_,rfl⟩;have nu:=af hst;have hs1:qa.frm<=st:=ad;have hs2:qb.frm<=st:=ad;have hs3:st<=1099511627776:=ad;clear hst;generalize hG:((Int.gcd qa.period qb.period:Nat):Int)=g at *;have HG:=af hG;clear hG
 go_in
 go_upto_region 4 with ((first|(go_at_call 92;first|((with_reducible refine (rD _ _ p1 _ (fA _ xE)).mono ?_);rintro e w1 ⟨rfl,hb1⟩;obtain ⟨hx1,gG⟩:=bd_ hb1;(try simp only [U7,Q1,fZ,O1] at hx1 gG);have hz1:w.heap.size+2<w1.heap.size:=(by have h7:=hb1.size;simp at h7;omega))|((with_reducible refine (rD _ _ p2 _ (hl2 _ xE)).mono ?_);rintro e w2 ⟨rfl,hb2⟩;obtain ⟨hx2,hf2⟩:=bd_ hb2;(try simp only [U7,Q1,fZ,O1] at hx2 hf2);have hz2:w.heap.size+2<w2.heap.size:=(by have h7:=hb2.size;omega);have hA:=(((((ag.new w #[.slice a1 p1.head.length m1,.int .i64 p1.frm,.int .i64 p1.period,.slice a2 p1.cycle.length m2] 80).alloc (.cells #[.slice a3 p2.head.length m3,.int .i64 p2.frm,.int .i64 p2.period,.slice a4 p2.cycle.length m4] 80)).alloc (.cells #[.slice none 0 0,.int .i64 0,.int .i64 0,.slice none 0 0] 80)).upto hb1 aR).upto hb2 ad);have hB:=((((ag.new (w.alloc (.cells #[.slice a1 p1.head.length m1,.int .i64 p1.frm,.int .i64 p1.period,.slice a2 p1.cycle.length m2] 80)) #[.slice a3 p2.head.length m3,.int .i64 p2.frm,.int .i64 p2.period,.slice a4 p2.cycle.length m4] 80).alloc (.cells #[.slice none 0 0,.int .i64 0,.int .i64 0,.slice none 0 0] 80)).upto hb1 aj).upto hb2 aR);simp only [U7] at hB;have A0:=(hA.cells 0).1;have A1:=(hA.cells 1).1;have A2:=(hA.cells 2).1;have A3:=(hA.cells 3).1;have B0:=(hB.cells 0).1;have B1:=(hB.cells 1).1;have B2:=(hB.cells 2).1;have B3:=(hB.cells 3).1))|(go_at_call 221;refine (qw_ _ _ _ _ p1 p2 qa qb 0 _ (fA _ xE) (hl2 _ xE) ou.o.wf nw.o.wf Tx.o.1 zi.o.1 Tx.o.2 zi.o.2 nr.o mF.o ad ad).mono ?_;rintro e w3 ⟨x1,x2,x3,x4,xv,yv,mb,he,hP,hb3⟩;rw [<- nu.o,HG.o] at he;rw [<- nu.o] at hP;subst he;obtain ⟨z1,y1,z2,y2,rfl,rfl⟩:=hP.a.form;obtain ⟨z3,y3,z4,y4,rfl,rfl⟩:=hP.b.form;obtain ⟨⟨⟨xa,xc,rfl,_⟩,n_,_⟩,_⟩:=hP.x;obtain ⟨⟨⟨ya,yc,rfl,_⟩,yG,_⟩,_⟩:=hP.y)))
 generalize Bk:w3.heap.size=pb at *;have hszb:w.heap.size+2<w2.heap.size:=hz2;have hszc:w2.heap.size<=pb:=by have:=hb3.size;omega
 have fm:ag w3 (w.heap.size+2) #[.slice none 0 0,.int .i64 0,.int .i64 0,.slice none 0 0] 80:=(((ag.at aj).upto hb1 aj).upto hb2 ad).upto hb3 ad;refine j9 (F:=λW3=>ag W3 pb #[.slice z1 qa.head.length y1,.int .i64 qa.frm,.int .i64 qa.period,.slice z2 qa.cycle.length y2,.slice z3 qb.head.length y3,.int .i64 qb.frm,.int .i64 qb.period,.slice z4 qb.cycle.length y4,.int .i64 st,.slice xa (aw (ak qa st)).length xc,.slice ya (aw (ak qb st)).length yc,.int .i64 g,.map (some mb)] 252/\ag W3 (w.heap.size+2) #[.slice none 0 0,.int .i64 0,.int .i64 0,.slice none 0 0] 80/\vp W3 w2.heap.size pb (.slice z1 qa.head.length y1) (.slice z2 qa.cycle.length y2) (.slice z3 qb.head.length y3) (.slice z4 qb.cycle.length y4) qa qb st (.slice xa (aw (ak qa st)).length xc) (.slice ya (aw (ak qb st)).length yc) mb/\Below w.heap.size w W3/\W3.heap.size=pb+1)
  ⟨ag.at Bk.symm,fm.alloc _,hP.below (Ea (Er _) _) ad,by exact xE,by simp [Bk]⟩ ?_
 clear hP fm hb1 hb2 hb3 hx1 gG hx2 hf2 hA hB A0 A1 A2 A3 B0 B1 B2 B3 Rm Rn hz1 Bk;rintro W3 ⟨bN,eu,hP,xS,hz3⟩;have c0:W3.cell? ⟨pb,0,none⟩=some (.slice z1 qa.head.length y1):=(bN.cells 0).1;have c1:W3.cell? ⟨pb,1,none⟩=some (.int .i64 qa.frm):=(bN.cells 1).1;have c2:W3.cell? ⟨pb,2,none⟩=some (.int .i64 qa.period):=(bN.cells 2).1;have c3:W3.cell? ⟨pb,3,none⟩=some (.slice z2 qa.cycle.length y2):=(bN.cells 3).1;have c4:W3.cell? ⟨pb,4,none⟩=some (.slice z3 qb.head.length y3):=(bN.cells 4).1;have c5:W3.cell? ⟨pb,5,none⟩=some (.int .i64 qb.frm):=(bN.cells 5).1;have c6:W3.cell? ⟨pb,6,none⟩=some (.int .i64 qb.period):=(bN.cells 6).1;have c7:W3.cell? ⟨pb,7,none⟩=some (.slice z4 qb.cycle.length y4):=(bN.cells 7).1;have c8:W3.cell? ⟨pb,8,none⟩=some (.int .i64 st):=(bN.cells 8).1;have c9:W3.cell? ⟨pb,9,none⟩=some (.slice xa (aw (ak qa st)).length xc):=(bN.cells 9).1;have c10:W3.cell? ⟨pb,10,none⟩=some (.slice ya (aw (ak qb st)).length yc):=(bN.cells 10).1;have c11:W3.cell? ⟨pb,11,none⟩=some (.int .i64 g):=(bN.cells 11).1;have c12:W3.cell? ⟨pb,12,none⟩=some (.map (some mb)):=(bN.cells 12).1;have JI:=Ae BM BN;have HLV:Hid (pL qa.period qb.period=.tuple #[.int .i64 (aV qa.period qb.period),.int .i64 0]):=af (by unfold pL;rw [if_pos hL]);generalize AD:aV qa.period qb.period=L at *;have np:=af AD;have iE:=af (q5n nr.o mF.o hs1 hs2 AD.symm HG.o.symm);have PK:=hP.at;rw [HG.o] at PK;have zD:=af PK;have HP:=af hP;have gA:=af bN;have oo:=af eu;have uU:=af hz3;have hcl:(bF (λn=>qa.mem n/\qb.mem n) 0 st).length<=1099511627776:=by
  have:=(fJ (S:=λn=>qa.mem n/\qb.mem n) (lo:=0) (hi:=st) (VI _)).length_le ad;omega
 have hcc:eZ (aw (ak qa st)) (aw (ak qb st)) g<=2199023255552:=by
  have h1:=iE.o.n;have h2:=Fi (λn=>p1.mem n/\p2.mem n) (st+L).toNat;omega
 clear AD PK hP bN eu hz3;obtain ⟨HL,Pv⟩:∃ HL,HL=bF (λn=>qa.mem n/\qb.mem n) 0 st:=⟨_,rfl⟩;have pU:=af Pv;rw [<- Pv] at hcl;obtain ⟨cn,AS⟩:∃ cn,cn=eZ (aw (ak qa st)) (aw (ak qb st)) g:=⟨_,rfl⟩;have m_:=af AS;rw [<- AS] at hcc;clear Pv AS;go_upto_region 9 with ((first|(go_at_call 222;refine (Zd _ _ _ BM ad BN ad).mono ?_;rintro e w4 ⟨he,nq,rfl⟩;rw [HLV.o] at he;subst he)|(go_at_call 223;refine (vm_ _ _ _ _ qa qb st _ _ g mb _ (zD.o.ext xE) nr.o.wf mF.o.wf (by have:=nu.o;omega) ad ad ad ad).mono ?_;rintro e w5 ⟨hv,rfl,az,hb5⟩;rw [<- pU.o] at az;obtain ⟨sN,sO,rfl⟩:=az.form;obtain ⟨hc5,Gl⟩:=bd_ hb5;(try simp only [U7,Q1,fZ,O1] at hc5 Gl);have od:=uU.o;have Rt:=hb5.size;(try simp only [fZ] at Rt);have hz5c:pb<w5.heap.size:=ad)|(go_at_call 224;refine (sr_ _ _ _ _ qa qb st _ _ g mb _ (zD.o.ext xE) ad ad (λx hx=>by have:=iE.o.hx.2 x hx;omega) (by rw [<- m_.o];omega)).mono ?_;rintro e w6 ⟨he,bG⟩;rw [<- m_.o] at he;subst he)))
 have JF:Below W3.heap.size W3 w6:=by exact xE
 have cO:=az.ext bG;have hsz6:=JF.size;have Ts:=af JF;have Em:=af cO;have fO:=gA.o.below JF;have d0:w6.cell? ⟨pb,0,none⟩=some (.slice z1 qa.head.length y1):=(fO.cells 0).1;have d1:w6.cell? ⟨pb,1,none⟩=some (.int .i64 qa.frm):=(fO.cells 1).1;have d2:w6.cell? ⟨pb,2,none⟩=some (.int .i64 qa.period):=(fO.cells 2).1;have d3:w6.cell? ⟨pb,3,none⟩=some (.slice z2 qa.cycle.length y2):=(fO.cells 3).1;have d4:w6.cell? ⟨pb,4,none⟩=some (.slice z3 qb.head.length y3):=(fO.cells 4).1;have d5:w6.cell? ⟨pb,5,none⟩=some (.int .i64 qb.frm):=(fO.cells 5).1;have d6:w6.cell? ⟨pb,6,none⟩=some (.int .i64 qb.period):=(fO.cells 6).1;have d7:w6.cell? ⟨pb,7,none⟩=some (.slice z4 qb.cycle.length y4):=(fO.cells 7).1;have d8:w6.cell? ⟨pb,8,none⟩=some (.int .i64 st):=(fO.cells 8).1;have d9:w6.cell? ⟨pb,9,none⟩=some (.slice xa (aw (ak qa st)).length xc):=(fO.cells 9).1;have d10:w6.cell? ⟨pb,10,none⟩=some (.slice ya (aw (ak qb st)).length yc):=(fO.cells 10).1;have d11:w6.cell? ⟨pb,11,none⟩=some (.int .i64 g):=(fO.cells 11).1;have d12:w6.cell? ⟨pb,12,none⟩=some (.map (some mb)):=(fO.cells 12).1;have Mr:=af fO;have hba:=Wh nr.o.wf (show 0<=st by omega);have dL:=Wh mF.o.wf (show 0<=st by omega);obtain ⟨bA,JQ⟩:∃ bA,bA=im qa st:=⟨_,rfl⟩;obtain ⟨bB,rW⟩:∃ bB,bB=im qb st:=⟨_,rfl⟩;obtain ⟨RA,FK⟩:∃ RA,RA=L / qa.period:=⟨_,rfl⟩;obtain ⟨RB,FM⟩:∃ RB,RB=L / qb.period:=⟨_,rfl⟩;obtain ⟨PA,vQ⟩:∃ PA,PA=((aw (ak qa st)).length:Int)*RA:=⟨_,rfl⟩;obtain ⟨PB,vR⟩:∃ PB,PB=((aw (ak qb st)).length:Int)*RB:=⟨_,rfl⟩;have UG:bA+PA=cnt p1.mem (st+L).toNat:=by rw [JQ,vQ,FK];exact iE.o.inA
 have UH:bB+PB=cnt p2.mem (st+L).toNat:=by rw [rW,vR,FM];exact iE.o.inB
 have Px:=Fi p1.mem (st+L).toNat;have Py:=Fi p2.mem (st+L).toNat;rw [<- JQ] at hba;rw [<- rW] at dL;have FL:0<=RA:=by rw [FK];exact N1 ad ad
 have q1h:0<=RB:=by rw [FM];exact N1 ad ad
 have hRA1:RA<=L:=by rw [FK];exact z_ _ ad
 have hRB1:RB<=L:=by rw [FM];exact z_ _ ad
 have hPA0:0<=PA:=by rw [vQ];exact K_ ad FL
 have hPB0:0<=PB:=by rw [vR];exact K_ ad q1h
 have hPA1:PA<=2199023255552:=ad;have hPB1:PB<=2199023255552:=ad;have hmA:IntKind.i64.wrap (((aw (ak qa st)).length:Int)*RA)=PA:=by rw [<- vQ];exact BG ⟨ad,ad⟩
 have hmB:IntKind.i64.wrap (((aw (ak qb st)).length:Int)*RB)=PB:=by rw [<- vR];exact BG ⟨ad,ad⟩
 have hsA0:0<=bA+PA:=ad;have hsA1:bA+PA<=2199023255552:=ad;have hsB0:0<=bB+PB:=ad;have hsB1:bB+PB<=2199023255552:=ad;have hxl9:(aw (ak qa st)).length<=17592186044416:=n_;have hyl9:(aw (ak qb st)).length<=17592186044416:=yG;have IE:=af UG;have LD:=af UH;have jf:=af JQ;have fQ:=af rW;have T5:=af FK;have q0x:=af FM;have bW:=af hb5;clear c0 c1 c2 c3 c4 c5 c6 c7 c8 c9 c10 c11 c12 JF cO az fO UG UH Px Py JQ rW FK FM vQ vR bG hb5 hc5 Gl;refine oz (w0:=w6) [0,1,2,3,4,5,6,7,8,9,10,11,12,13,14,15] [] (λv=>⟨#[ar (.slice a1 p1.head.length m1) (.slice a2 p1.cycle.length m2) p1.frm p1.period,ar (.slice a3 p2.head.length m3) (.slice a4 p2.cycle.length m4) p2.frm p2.period,.int .i64 kd,.pointer (some ⟨w.heap.size,0,none⟩),.pointer (some ⟨w.heap.size+1,0,none⟩),undef,.pointer (some ⟨w.heap.size+1+1,0,none⟩),.int .i64 0,.pointer (some ⟨pb,0,none⟩),.int .i64 L,.int .i64 0,.slice sN HL.length sO,.int .i64 (↑HL.length+↑cn),v 15,undef,undef,undef,undef,undef,undef,undef,undef,.agg #[.slice a1 p1.head.length m1,.int .i64 p1.frm,.int .i64 p1.period,.slice a2 p1.cycle.length m2],.bool true,.bool false,.bool false,.agg #[.slice a3 p2.head.length m3,.int .i64 p2.frm,.int .i64 p2.period,.slice a4 p2.cycle.length m4],.bool true,.bool false,.bool false,undef,.agg #[.slice a1 p1.head.length m1,.int .i64 p1.frm,.int .i64 p1.period,.slice a2 p1.cycle.length m2],.agg #[.slice a3 p2.head.length m3,.int .i64 p2.frm,.int .i64 p2.period,.slice a4 p2.cycle.length m4],rL (.slice z1 qa.head.length y1) (.slice z2 qa.cycle.length y2) (.slice z3 qb.head.length y3) (.slice z4 qb.cycle.length y4) qa qb st (.slice xa (aw (ak qa st)).length xc) (.slice ya (aw (ak qb st)).length yc) g mb,.tuple #[.int .i64 L,.int .i64 0],.pointer (some ⟨pb,0,none⟩),.pointer (some ⟨pb,2,none⟩),.int .i64 qa.period,.pointer (some ⟨pb,4,none⟩),.pointer (some ⟨pb,6,none⟩),.int .i64 qb.period,.tuple #[.int .i64 L,.int .i64 0],.int .i64 L,.int .i64 0,.int .i64 0,.bool false,undef,.agg #[.slice z1 qa.head.length y1,.int .i64 qa.frm,.int .i64 qa.period,.slice z2 qa.cycle.length y2,.slice z3 qb.head.length y3,.int .i64 qb.frm,.int .i64 qb.period,.slice z4 qb.cycle.length y4,.int .i64 st,.slice xa (aw (ak qa st)).length xc,.slice ya (aw (ak qb st)).length yc,.int .i64 g,.map (some mb)],.slice sN HL.length sO,.slice sN HL.length sO,.int .i64 ↑HL.length,.agg #[.slice z1 qa.head.length y1,.int .i64 qa.frm,.int .i64 qa.period,.slice z2 qa.cycle.length y2,.slice z3 qb.head.length y3,.int .i64 qb.frm,.int .i64 qb.period,.slice z4 qb.cycle.length y4,.int .i64 st,.slice xa (aw (ak qa st)).length xc,.slice ya (aw (ak qb st)).length yc,.int .i64 g,.map (some mb)],.int .i64 ↑cn,.int .i64 (↑HL.length+↑cn),v 0,v 1,v 2,v 3,v 4,v 5,v 6,v 7,v 8,v 9,v 10,v 11,v 12,v 13,v 14,undef,undef,undef,undef,undef,undef,undef,undef,undef,undef,undef,undef,undef,undef,undef,undef,undef,undef,undef,undef,undef,undef,undef,undef,undef,undef,undef,undef,undef,undef,undef,undef,undef,undef,undef,undef,undef,undef,undef,undef,undef,undef,undef,undef,undef,undef,undef,undef,undef,undef,undef,undef,undef,undef,undef,undef,undef,undef,undef,undef,undef,undef,undef,undef,undef,undef,undef,undef,undef,undef,undef,undef,undef,undef,undef,undef,undef,undef,undef,undef,undef,undef,undef,undef,undef,undef,undef,undef,undef,undef,undef,undef,undef,undef,undef,undef,undef,undef],[]⟩) [.pointer (some ⟨pb,0,none⟩),ar (.slice z1 qa.head.length y1) (.slice z2 qa.cycle.length y2) qa.frm qa.period,.pointer (some ⟨pb,8,none⟩),.int .i64 st,.int .i64 bA,.pointer (some ⟨pb,9,none⟩),.slice xa (aw (ak qa st)).length xc,.int .i64 (aw (ak qa st)).length,.int .i64 L,.pointer (some ⟨pb,0,none⟩),.pointer (some ⟨pb,2,none⟩),.int .i64 qa.period,.int .i64 RA,.int .i64 PA,.int .i64 (bA+PA),.int .i64 (bA+PA)] [] (λ_ _ _ _ _=>True) (λW=>W.cell? ⟨pb,0,none⟩=some (.slice z1 qa.head.length y1)/\W.cell? ⟨pb,1,none⟩=some (.int .i64 qa.frm)/\W.cell? ⟨pb,2,none⟩=some (.int .i64 qa.period)/\W.cell? ⟨pb,3,none⟩=some (.slice z2 qa.cycle.length y2)/\W.cell? ⟨pb,8,none⟩=some (.int .i64 st)/\W.cell? ⟨pb,9,none⟩=some (.slice xa (aw (ak qa st)).length xc)) (λW hb=>⟨bJ d0 hb,bJ d1 hb,bJ d2 hb,bJ d3 hb,bJ d8 hb,bJ d9 hb⟩) trivial trivial ?steps ?fin
 case steps=>
  refine .c [] [] rfl ?_ (.c [0] [] rfl ?_ (.c [] [] rfl ?_ (.c [2] [] rfl ?_ (.c [1,3] [] rfl ?_ (.c [] [] rfl ?_ (.c [5] [] rfl ?_ (.c [6] [] rfl ?_ (.c [] [] rfl ?_ (.c [] [] rfl ?_ (.c [9] [] rfl ?_ (.c [10] [] rfl ?_ (.c [8,11] [] rfl ?_ (.c [7,12] [] rfl ?_ (.c [4,13] [] rfl ?_ (.c [0,1,2,3,4,5,6,7,8,9,10,11,12,13,14] [] rfl ?_ (.n))))))))))))))));all_goals try exact oh
  .rintro v lo hi W hb ⟨g0,g1,g2,g3,g8,g9⟩ _;refine .inl ⟨rfl,λK hK=>?_⟩;simp only [ov,aD,Nat.reduceBEq,cond_true,cond_false];go_wp2_with (go_at_call 225;refine (q6o _ _ qa st _ (zD.o.a.ext (Et Ts.o hb)) nr.o.wf ad ad ad ad).mono ?_;rintro e w7 ⟨he,ek⟩;rw [<- jf.o] at he;subst he);exact aQ (hK w7 ek) (by simp [ov,aD,upd])
  rintro v lo hi W hb ⟨g0,g1,g2,g3,g8,g9⟩ _;refine .inl ⟨rfl,λK hK=>?_⟩;simp only [ov,aD,Nat.reduceBEq,cond_true,cond_false];go_wp2;exact aQ (hK W (JV _ _)) (by simp [ov,aD,upd,T5.o])
 case fin=>
  rintro v lo hi W7 ek _ hf _;show wpList _ _ _ [] _ _;have f13:v 15=.int .i64 (bA+PA):=(hf 15 rfl).2.2.2;clear hf;dsimp only;rw [f13];clear f13;generalize v 0=u54,v 1=u55,v 2=u56,v 3=u57,v 4=u58,v 5=u59,v 6=u60,v 7=u61,v 8=u62,v 9=u63,v 10=u64,v 11=u65,v 12=u66,v 13=u67,v 14=u68;clear v;have JG:Below W3.heap.size W3 W7:=Et Ts.o ek;have q6c:=Em.o.ext ek;have fP:=gA.o.below JG;have hsz8:=JG.size;clear d0 d1 d2 d3 d4 d5 d6 d7 d8 d9 d10 d11 d12 ek;obtain ⟨w8,rfl⟩:∃ w8,w8=W7:=⟨_,rfl⟩;have d0:w8.cell? ⟨pb,0,none⟩=some (.slice z1 qa.head.length y1):=(fP.cells 0).1;have d1:w8.cell? ⟨pb,1,none⟩=some (.int .i64 qa.frm):=(fP.cells 1).1;have d2:w8.cell? ⟨pb,2,none⟩=some (.int .i64 qa.period):=(fP.cells 2).1;have d3:w8.cell? ⟨pb,3,none⟩=some (.slice z2 qa.cycle.length y2):=(fP.cells 3).1;have d4:w8.cell? ⟨pb,4,none⟩=some (.slice z3 qb.head.length y3):=(fP.cells 4).1;have d5:w8.cell? ⟨pb,5,none⟩=some (.int .i64 qb.frm):=(fP.cells 5).1;have d6:w8.cell? ⟨pb,6,none⟩=some (.int .i64 qb.period):=(fP.cells 6).1;have d7:w8.cell? ⟨pb,7,none⟩=some (.slice z4 qb.cycle.length y4):=(fP.cells 7).1;have d8:w8.cell? ⟨pb,8,none⟩=some (.int .i64 st):=(fP.cells 8).1;have d9:w8.cell? ⟨pb,9,none⟩=some (.slice xa (aw (ak qa st)).length xc):=(fP.cells 9).1;have d10:w8.cell? ⟨pb,10,none⟩=some (.slice ya (aw (ak qb st)).length yc):=(fP.cells 10).1;have d11:w8.cell? ⟨pb,11,none⟩=some (.int .i64 g):=(fP.cells 11).1;have d12:w8.cell? ⟨pb,12,none⟩=some (.map (some mb)):=(fP.cells 12).1;have Ms:=af fP;have Eo:=af q6c;have Tt:=af JG;clear fP q6c JG Mr;go_wp2_with fail;refine oz (w0:=w8) [0,1,2,3,4,5,6,7,8,9,10,11,12,13,14,15] [] (λv=>⟨#[ar (.slice a1 p1.head.length m1) (.slice a2 p1.cycle.length m2) p1.frm p1.period,ar (.slice a3 p2.head.length m3) (.slice a4 p2.cycle.length m4) p2.frm p2.period,.int .i64 kd,.pointer (some ⟨w.heap.size,0,none⟩),.pointer (some ⟨w.heap.size+1,0,none⟩),undef,.pointer (some ⟨w.heap.size+1+1,0,none⟩),.int .i64 0,.pointer (some ⟨pb,0,none⟩),.int .i64 L,.int .i64 0,.slice sN HL.length sO,.int .i64 (↑HL.length+↑cn),.int .i64 (bA+PA),v 15,undef,undef,undef,undef,undef,undef,undef,.agg #[.slice a1 p1.head.length m1,.int .i64 p1.frm,.int .i64 p1.period,.slice a2 p1.cycle.length m2],.bool true,.bool false,.bool false,.agg #[.slice a3 p2.head.length m3,.int .i64 p2.frm,.int .i64 p2.period,.slice a4 p2.cycle.length m4],.bool true,.bool false,.bool false,undef,.agg #[.slice a1 p1.head.length m1,.int .i64 p1.frm,.int .i64 p1.period,.slice a2 p1.cycle.length m2],.agg #[.slice a3 p2.head.length m3,.int .i64 p2.frm,.int .i64 p2.period,.slice a4 p2.cycle.length m4],rL (.slice z1 qa.head.length y1) (.slice z2 qa.cycle.length y2) (.slice z3 qb.head.length y3) (.slice z4 qb.cycle.length y4) qa qb st (.slice xa (aw (ak qa st)).length xc) (.slice ya (aw (ak qb st)).length yc) g mb,.tuple #[.int .i64 L,.int .i64 0],.pointer (some ⟨pb,0,none⟩),.pointer (some ⟨pb,2,none⟩),.int .i64 qa.period,.pointer (some ⟨pb,4,none⟩),.pointer (some ⟨pb,6,none⟩),.int .i64 qb.period,.tuple #[.int .i64 L,.int .i64 0],.int .i64 L,.int .i64 0,.int .i64 0,.bool false,undef,.agg #[.slice z1 qa.head.length y1,.int .i64 qa.frm,.int .i64 qa.period,.slice z2 qa.cycle.length y2,.slice z3 qb.head.length y3,.int .i64 qb.frm,.int .i64 qb.period,.slice z4 qb.cycle.length y4,.int .i64 st,.slice xa (aw (ak qa st)).length xc,.slice ya (aw (ak qb st)).length yc,.int .i64 g,.map (some mb)],.slice sN HL.length sO,.slice sN HL.length sO,.int .i64 ↑HL.length,.agg #[.slice z1 qa.head.length y1,.int .i64 qa.frm,.int .i64 qa.period,.slice z2 qa.cycle.length y2,.slice z3 qb.head.length y3,.int .i64 qb.frm,.int .i64 qb.period,.slice z4 qb.cycle.length y4,.int .i64 st,.slice xa (aw (ak qa st)).length xc,.slice ya (aw (ak qb st)).length yc,.int .i64 g,.map (some mb)],.int .i64 ↑cn,.int .i64 (↑HL.length+↑cn),u54,u55,u56,u57,u58,u59,u60,u61,u62,u63,u64,u65,u66,u67,u68,v 0,v 1,v 2,v 3,v 4,v 5,v 6,v 7,v 8,v 9,v 10,v 11,v 12,v 13,v 14,undef,undef,undef,undef,undef,undef,undef,undef,undef,undef,undef,undef,undef,undef,undef,undef,undef,undef,undef,undef,undef,undef,undef,undef,undef,undef,undef,undef,undef,undef,undef,undef,undef,undef,undef,undef,undef,undef,undef,undef,undef,undef,undef,undef,undef,undef,undef,undef,undef,undef,undef,undef,undef,undef,undef,undef,undef,undef,undef,undef,undef,undef,undef,undef,undef,undef,undef,undef,undef,undef,undef,undef,undef,undef,undef,undef,undef,undef,undef,undef,undef,undef,undef],[]⟩) [.pointer (some ⟨pb,4,none⟩),ar (.slice z3 qb.head.length y3) (.slice z4 qb.cycle.length y4) qb.frm qb.period,.pointer (some ⟨pb,8,none⟩),.int .i64 st,.int .i64 bB,.pointer (some ⟨pb,10,none⟩),.slice ya (aw (ak qb st)).length yc,.int .i64 (aw (ak qb st)).length,.int .i64 L,.pointer (some ⟨pb,4,none⟩),.pointer (some ⟨pb,6,none⟩),.int .i64 qb.period,.int .i64 RB,.int .i64 PB,.int .i64 (bB+PB),.int .i64 (bB+PB)] [] (λ_ _ _ _ _=>True) (λW=>W.cell? ⟨pb,4,none⟩=some (.slice z3 qb.head.length y3)/\W.cell? ⟨pb,5,none⟩=some (.int .i64 qb.frm)/\W.cell? ⟨pb,6,none⟩=some (.int .i64 qb.period)/\W.cell? ⟨pb,7,none⟩=some (.slice z4 qb.cycle.length y4)/\W.cell? ⟨pb,8,none⟩=some (.int .i64 st)/\W.cell? ⟨pb,10,none⟩=some (.slice ya (aw (ak qb st)).length yc)) (λW hb=>⟨bJ d4 hb,bJ d5 hb,bJ d6 hb,bJ d7 hb,bJ d8 hb,bJ d10 hb⟩) trivial trivial ?steps ?fin
  case steps=>
   refine .c [] [] rfl ?_ (.c [0] [] rfl ?_ (.c [] [] rfl ?_ (.c [2] [] rfl ?_ (.c [1,3] [] rfl ?_ (.c [] [] rfl ?_ (.c [5] [] rfl ?_ (.c [6] [] rfl ?_ (.c [] [] rfl ?_ (.c [] [] rfl ?_ (.c [9] [] rfl ?_ (.c [10] [] rfl ?_ (.c [8,11] [] rfl ?_ (.c [7,12] [] rfl ?_ (.c [4,13] [] rfl ?_ (.c [0,1,2,3,4,5,6,7,8,9,10,11,12,13,14] [] rfl ?_ (.n))))))))))))))));all_goals try exact oh
   .rintro v lo hi W hb ⟨g4,g5,g6,g7,g8,g10⟩ _;refine .inl ⟨rfl,λK hK=>?_⟩;simp only [ov,aD,Nat.reduceBEq,cond_true,cond_false];go_wp2_with (go_at_call 225;refine (q6o _ _ qb st _ (zD.o.b.ext (Et Tt.o hb)) mF.o.wf ad ad ad ad).mono ?_;rintro e w7 ⟨he,ek⟩;rw [<- fQ.o] at he;subst he);exact aQ (hK w7 ek) (by simp [ov,aD,upd])
   rintro v lo hi W hb ⟨g4,g5,g6,g7,g8,g10⟩ _;refine .inl ⟨rfl,λK hK=>?_⟩;simp only [ov,aD,Nat.reduceBEq,cond_true,cond_false];go_wp2;exact aQ (hK W (JV _ _)) (by simp [ov,aD,upd,q0x.o])
  case fin=>
   rintro v lo hi Ul AJ _ hf _;show wpList _ _ _ [] _ _;have f13:v 15=.int .i64 (bB+PB):=(hf 15 rfl).2.2.2;clear hf;dsimp only;rw [f13];clear f13;generalize v 0=t54,v 1=t55,v 2=t56,v 3=t57,v 4=t58,v 5=t59,v 6=t60,v 7=t61,v 8=t62,v 9=t63,v 10=t64,v 11=t65,v 12=t66,v 13=t67,v 14=t68;clear v;have vJ:Below W3.heap.size W3 Ul:=Et Tt.o AJ;have q6z:=Eo.o.ext AJ;have cZ:=gA.o.below vJ;have q0j:=vJ.size;clear d0 d1 d2 d3 d4 d5 d6 d7 d8 d9 d10 d11 d12 AJ;obtain ⟨ic,rfl⟩:∃ ic,ic=Ul:=⟨_,rfl⟩;have rh:=af q6z;have Lv:=af vJ;have d0:ic.cell? ⟨pb,0,none⟩=some (.slice z1 qa.head.length y1):=(cZ.cells 0).1;have d1:ic.cell? ⟨pb,1,none⟩=some (.int .i64 qa.frm):=(cZ.cells 1).1;have d2:ic.cell? ⟨pb,2,none⟩=some (.int .i64 qa.period):=(cZ.cells 2).1;have d3:ic.cell? ⟨pb,3,none⟩=some (.slice z2 qa.cycle.length y2):=(cZ.cells 3).1;have d4:ic.cell? ⟨pb,4,none⟩=some (.slice z3 qb.head.length y3):=(cZ.cells 4).1;have d5:ic.cell? ⟨pb,5,none⟩=some (.int .i64 qb.frm):=(cZ.cells 5).1;have d6:ic.cell? ⟨pb,6,none⟩=some (.int .i64 qb.period):=(cZ.cells 6).1;have d7:ic.cell? ⟨pb,7,none⟩=some (.slice z4 qb.cycle.length y4):=(cZ.cells 7).1;have d8:ic.cell? ⟨pb,8,none⟩=some (.int .i64 st):=(cZ.cells 8).1;have d9:ic.cell? ⟨pb,9,none⟩=some (.slice xa (aw (ak qa st)).length xc):=(cZ.cells 9).1;have d10:ic.cell? ⟨pb,10,none⟩=some (.slice ya (aw (ak qb st)).length yc):=(cZ.cells 10).1;have d11:ic.cell? ⟨pb,11,none⟩=some (.int .i64 g):=(cZ.cells 11).1;have d12:ic.cell? ⟨pb,12,none⟩=some (.map (some mb)):=(cZ.cells 12).1;have q0a:=af cZ;have Vy:pb<ic.heap.size:=by have:=uU.o;omega
   clear cZ q6z vJ Ms;have gF:=Lo.o;have hmx:max qa.frm qb.frm=st:=by have:=nu.o;omega
   rw [hmx] at gF;have Dz:=af gF;clear hmx gF;have G4:=iE.o.n;rw [<- pU.o,<- m_.o] at G4;have hb1:=Fi (λn=>p1.mem n/\p2.mem n) (st+L).toNat;have mS:(HL.length:Int)+cn<=2199023255552:=ad;have uQ:=af G4;clear G4 hb1;go_upto_region 12 with (fail)
   refine j9 (F:=λU=>ag U ic.heap.size #[.int .i64 (↑HL.length+↑cn),.int .i64 (bA+PA+(bB+PB)-(↑HL.length+↑cn)),.int .i64 (bA+PA-(↑HL.length+↑cn))] 254/\Below ic.heap.size ic U) ⟨xB,xE⟩ ?_;rintro ow ⟨hbx,Ay⟩;have x0:=(hbx.cells 0).1;have x1:=(hbx.cells 1).1;have x2:=(hbx.cells 2).1;have oI:=Et Lv.o Ay;have dp:=gA.o.below oI;have q3a:=oI.size;have q2m:=af (rh.o.ext Ay);have qT:=af oI;clear hbx Ay oI d0 d1 d2 d3 d4 d5 d6 d7 d8 d9 d10 d11 d12 rh;have d0:ow.cell? ⟨pb,0,none⟩=some (.slice z1 qa.head.length y1):=(dp.cells 0).1;have d1:ow.cell? ⟨pb,1,none⟩=some (.int .i64 qa.frm):=(dp.cells 1).1;have d2:ow.cell? ⟨pb,2,none⟩=some (.int .i64 qa.period):=(dp.cells 2).1;have d3:ow.cell? ⟨pb,3,none⟩=some (.slice z2 qa.cycle.length y2):=(dp.cells 3).1;have d4:ow.cell? ⟨pb,4,none⟩=some (.slice z3 qb.head.length y3):=(dp.cells 4).1;have d5:ow.cell? ⟨pb,5,none⟩=some (.int .i64 qb.frm):=(dp.cells 5).1;have d6:ow.cell? ⟨pb,6,none⟩=some (.int .i64 qb.period):=(dp.cells 6).1;have d7:ow.cell? ⟨pb,7,none⟩=some (.slice z4 qb.cycle.length y4):=(dp.cells 7).1;have d8:ow.cell? ⟨pb,8,none⟩=some (.int .i64 st):=(dp.cells 8).1;have d9:ow.cell? ⟨pb,9,none⟩=some (.slice xa (aw (ak qa st)).length xc):=(dp.cells 9).1;have d10:ow.cell? ⟨pb,10,none⟩=some (.slice ya (aw (ak qb st)).length yc):=(dp.cells 10).1;have d11:ow.cell? ⟨pb,11,none⟩=some (.int .i64 g):=(dp.cells 11).1;have d12:ow.cell? ⟨pb,12,none⟩=some (.map (some mb)):=(dp.cells 12).1;clear dp
   go_cut [97] (λs wx=>s=.bool false/\wx=ow)
   case first=>
    have gF:=Dz.o;have h1:=uQ.o;have h2:=IE.o;have h4:=LD.o;rcases TJ.o with rfl|rfl|rfl
    .rw [GJ] at gF;have kr:decide ((1048576:Int)<(HL.length:Int)+(cn:Int))=false:=by rw [YW];omega
     clear h1 h2 h4 gF;go_wp2_with fail
     go_meet
     exact ⟨rfl,rfl⟩
    .rw [KN] at gF;have h3:=sp_ p1.mem p2.mem (st+L).toNat;have kr:decide ((1048576:Int)<bA+PA+(bB+PB)-((HL.length:Int)+(cn:Int)))=false:=by rw [YW];omega
     clear h1 h2 h4 h3 gF;go_wp2_with fail
     go_meet
     exact ⟨rfl,rfl⟩
    rw [XT] at gF;have h3:=v0_ p1.mem p2.mem (st+L).toNat;have kr:decide ((1048576:Int)<bA+PA-((HL.length:Int)+(cn:Int)))=false:=by rw [YW];omega
    clear h1 h2 h4 h3 gF;go_wp2_with fail
    go_meet
    exact ⟨rfl,rfl⟩
   case rest=>
    obtain ⟨rfl,rfl⟩:=hcut
    go_upto_block 0 with (fail)
    go_cut [16] (λs wx=>∃ (va:Option Addr) (vc:Nat) (LL:List Int),s=.slice va LL.length vc/\Hid (al wx W3.heap.size (.slice va LL.length vc) LL)/\Hid (Below W3.heap.size W3 wx)/\Hid (∀ x,x∈LL↔x∈bF (gL kd p1.mem p2.mem) 0 (st+L)))
    case first=>
     rcases TJ.o with rfl|rfl|rfl
     .have gF:=Dz.o;have G4:=uQ.o;rw [GJ] at gF;have CW:HL.length+cn<=1048576:=ad;obtain ⟨qC,bN⟩:=mE.o rfl;have Bj:=HP.o.pairB (base:=W3.heap.size) (by have:=uU.o;omega);rw [HG.o] at Bj;have Mt:=af Bj;have qW:Hid (HL.length+(iq (aw (ak qa st)) (aw (ak qb st)) qa.period qb.period st).length<=4398046511104):=af (by rw [<- iE.o.com,<- m_.o];omega);have uB:Hid (aV qa.period qb.period<=1099511627776):=af (by rw [np.o];exact hL);clear Bj gF G4;go_wp2_with (go_at_call 226;refine (yi_ _ _ _ _ qa qb st _ _ g mb W3.heap.size _ HL _ (Mt.o.below qT.o) HG.o.symm BM qC BN bN uB.o ad ad iE.o.hx iE.o.hy q2m.o ad qW.o).mono ?_;rintro e BK ⟨v11,rfl,cA,rV⟩;obtain ⟨LL,lR⟩:∃ LL,LL=HL ++ iq (aw (ak qa st)) (aw (ak qb st)) qa.period qb.period st:=⟨_,rfl⟩;rw [<- lR] at cA;have zx:=af lR;have HOW:=af cA;have oW:=af rV;clear cA rV lR;obtain ⟨va,vc,rfl⟩:=HOW.o.form)
      go_meet
      refine ⟨va,vc,LL,rfl,HOW,af (qT.o.trans oW.o),af λx=>?_⟩;rw [GJ,zx.o,VJ,pU.o,iE.o.headsEq,iE.o.meet,dX (VI _),dX (VI _)];constructor
      .rintro (⟨h1,h2,h3⟩|⟨h1,h2,h3⟩)
       .exact ⟨h1,ad,h3⟩
       exact ⟨ad,h2,h3⟩
      rintro ⟨h1,h2,h3⟩;by_cases hx:x<st
      .exact .inl ⟨h1,hx,h3⟩
      exact .inr ⟨ad,h2,h3⟩
     .have yq:=(fJ (S:=qa.mem) (lo:=0) (hi:=st+L) (VI _)).length_le ad;have gw:=(fJ (S:=qb.mem) (lo:=0) (hi:=st+L) (VI _)).length_le ad;obtain ⟨lA,CU⟩:∃ lA,lA=bF qa.mem 0 (st+L):=⟨_,rfl⟩;obtain ⟨lB,CV⟩:∃ lB,lB=bF qb.mem 0 (st+L):=⟨_,rfl⟩;rw [<- CU] at yq;rw [<- CV] at gw;have tg:=af CU;have DX:=af CV;clear CU CV;go_upto_region 19 with (fail)
      have zg:=qT;refine oz (w0:=wc) [0,1,2,3,4,5,6,7,8,9,10,11,12,13,14,15,16] [] (λv=>⟨#[ar (.slice a1 p1.head.length m1) (.slice a2 p1.cycle.length m2) p1.frm p1.period,ar (.slice a3 p2.head.length m3) (.slice a4 p2.cycle.length m4) p2.frm p2.period,.int .i64 1,.pointer (some ⟨w.heap.size,0,none⟩),.pointer (some ⟨w.heap.size+1,0,none⟩),undef,.pointer (some ⟨w.heap.size+1+1,0,none⟩),.int .i64 0,.pointer (some ⟨pb,0,none⟩),.int .i64 L,.int .i64 0,.slice sN HL.length sO,.int .i64 (↑HL.length+↑cn),.int .i64 (bA+PA),.int .i64 (bB+PB),.pointer (some ⟨ic.heap.size,0,none⟩),v 16,undef,undef,undef,undef,undef,u22,u23,u24,u25,u26,u27,u28,u29,u30,u31,u32,u33,u34,u35,u36,u37,u38,u39,u40,u41,u42,u43,u44,u45,u46,u47,u48,u49,u50,u51,u52,u53,u54,u55,u56,u57,u58,u59,u60,u61,u62,u63,u64,u65,u66,u67,u68,u69,u70,u71,u72,u73,u74,u75,u76,u77,u78,u79,u80,u81,u82,u83,u84,u85,u86,u87,u88,u89,u90,u91,u92,u93,u94,u95,u96,.bool false,u98,.int .i64 1,.bool false,.bool false,u102,u103,u104,.bool true,.bool true,v 0,v 1,v 2,v 3,v 4,v 5,v 6,v 7,v 8,v 9,v 10,v 11,v 12,v 13,v 14,v 15,undef,u124,u125,u126,u127,u128,u129,u130,u131,u132,u133,u134,u135,u136,u137,u138,u139,u140,u141,u142,u143,u144,u145,u146,u147,u148,undef,undef,undef,u152,u153,u154,u155,u156,u157,u158,u159,u160,u161,u162,u163,u164,u165,u166],[]⟩) [.pointer (some ⟨pb,0,none⟩),ar (.slice z1 qa.head.length y1) (.slice z2 qa.cycle.length y2) qa.frm qa.period,.pointer (some ⟨pb,8,none⟩),.int .i64 st,.int .i64 L,.int .i64 (st+L),undef,.pointer (some ⟨pb,4,none⟩),ar (.slice z3 qb.head.length y3) (.slice z4 qb.cycle.length y4) qb.frm qb.period,.pointer (some ⟨pb,8,none⟩),.int .i64 st,.int .i64 L,.int .i64 (st+L),undef,undef,undef,undef] [6,13,14,15,16] (λi v lo hi W=>match i with|6=>(∃ a c,v 6=.slice a lA.length c)/\rK W (lo 6) (hi 6) (v 6) lA|13=>(∃ a c,v 13=.slice a lB.length c)/\rK W (lo 13) (hi 13) (v 13) lB|14=>v 14=.slice (some ⟨lo 14,0,none⟩) 2 2/\lo 14<hi 14/\ag W (lo 14) #[v 6,v 13] 35/\Ints W (v 6) lA/\Ints W (v 13) lB|15=>(∃ a c,v 15=.slice a (lA ++ lB).length c)/\rK W (lo 15) (hi 15) (v 15) (lA ++ lB)|16=>(∃ a c,v 16=.slice a (lA ++ lB).length c)/\rK W (lo 15) (hi 15) (v 16) (lA ++ lB)|_=>True) (λW=>W.cell? ⟨pb,0,none⟩=some (.slice z1 qa.head.length y1)/\W.cell? ⟨pb,1,none⟩=some (.int .i64 qa.frm)/\W.cell? ⟨pb,2,none⟩=some (.int .i64 qa.period)/\W.cell? ⟨pb,3,none⟩=some (.slice z2 qa.cycle.length y2)/\W.cell? ⟨pb,4,none⟩=some (.slice z3 qb.head.length y3)/\W.cell? ⟨pb,5,none⟩=some (.int .i64 qb.frm)/\W.cell? ⟨pb,6,none⟩=some (.int .i64 qb.period)/\W.cell? ⟨pb,7,none⟩=some (.slice z4 qb.cycle.length y4)/\W.cell? ⟨pb,8,none⟩=some (.int .i64 st)) (λW hb=>⟨bJ d0 hb,bJ d1 hb,bJ d2 hb,bJ d3 hb,bJ d4 hb,bJ d5 hb,bJ d6 hb,bJ d7 hb,bJ d8 hb⟩) ?stab ?loc ?steps ?fin (λj=>match j with|0=>u107|1=>u108|2=>u109|3=>u110|4=>u111|5=>u112|6=>u113|7=>u114|8=>u115|9=>u116|10=>u117|11=>u118|12=>u119|13=>u120|14=>u121|15=>u122|16=>.slice none 0 0|_=>undef)
      case stab=>
       refine ⟨?_,?_,?_,?_,?_,trivial⟩
       .intro v lo hi W W' h hb;exact ⟨h.1,h.2.below hb⟩
       .intro v lo hi W W' h hb;exact ⟨h.1,h.2.below hb⟩
       .intro v lo hi W W' h hb;exact ⟨h.1,h.2.1,h.2.2.1.below hb,h.2.2.2.1.ext hb,h.2.2.2.2.ext hb⟩
       .intro v lo hi W W' h hb;exact ⟨h.1,h.2.below hb⟩
       intro v lo hi W W' h hb;exact ⟨h.1,h.2.below hb⟩
      case loc=>
       refine ⟨?_,?_,?_,?_,?_,trivial⟩
       .intro v v' lo lo' hi hi' W aA h;have q:=aA 6 (.inl rfl)
        (try dsimp only at h ⊢)
        simp only [q.1,q.2.1,q.2.2] at h;exact h
       .intro v v' lo lo' hi hi' W aA h;have q:=aA 13 (.inl rfl)
        (try dsimp only at h ⊢)
        simp only [q.1,q.2.1,q.2.2] at h;exact h
       .intro v v' lo lo' hi hi' W aA h;have q:=aA 14 (.inl rfl);have q6:=aA 6 (.inr (bM (by kernel_rfl)));have qH:=aA 13 (.inr (bM (by kernel_rfl)))
        (try dsimp only at h ⊢)
        simp only [q.1,q.2.1,q.2.2,q6.1,q6.2.1,q6.2.2,qH.1,qH.2.1,qH.2.2] at h;exact h
       .intro v v' lo lo' hi hi' W aA h;have q:=aA 15 (.inl rfl)
        (try dsimp only at h ⊢)
        simp only [q.1,q.2.1,q.2.2] at h;exact h
       intro v v' lo lo' hi hi' W aA h;have q:=aA 16 (.inl rfl);have BJ:=aA 15 (.inr (bM (by kernel_rfl)))
       (try dsimp only at h ⊢)
       simp only [q.1,q.2.1,q.2.2,BJ.1,BJ.2.1,BJ.2.2] at h;exact h
      case steps=>
       refine .c [] [] rfl ?_ (.c [0] [] rfl ?_ (.c [] [] rfl ?_ (.c [2] [] rfl ?_ (.c [] [] rfl ?_ (.c [3,4] [] rfl ?_ (.c [1,5] [] rfl ?_ (.c [] [] rfl ?_ (.c [7] [] rfl ?_ (.c [] [] rfl ?_ (.c [9] [] rfl ?_ (.c [] [] rfl ?_ (.c [10,11] [] rfl ?_ (.c [8,12] [] rfl ?_ (.c [] [6,13] rfl ?_ (.c [] [14] rfl ?_ (.c [] [15] rfl ?_ (.n)))))))))))))))));all_goals try exact oh
       .rintro v lo hi W hb ⟨g0,g1,g2,g3,g4,g5,g6,g7,g8⟩ _;refine .inl ⟨rfl,λK hK=>?_⟩;simp only [ov,aD,Nat.reduceBEq,cond_true,cond_false];go_wp2_with (go_at_call 228;refine (Xw _ _ qa 0 (st+L) _ (zD.o.a.ext (Et zg.o hb)) nr.o.wf ad ad ad ad ad ad).mono ?_;rintro e w7 ⟨x,rfl,tO,ek⟩;rw [<- tg.o] at tO);exact aQ (hK x w7 ek ⟨tO.form,tO.at⟩) (by simp [ov,aD,upd])
       .rintro v lo hi W hb ⟨g0,g1,g2,g3,g4,g5,g6,g7,g8⟩ _;refine .inl ⟨rfl,λK hK=>?_⟩;simp only [ov,aD,Nat.reduceBEq,cond_true,cond_false];go_wp2_with (go_at_call 228;refine (Xw _ _ qb 0 (st+L) _ (zD.o.b.ext (Et zg.o hb)) mF.o.wf ad ad ad ad ad ad).mono ?_;rintro e w7 ⟨x,rfl,tO,ek⟩;rw [<- DX.o] at tO);exact aQ (hK x w7 ek ⟨tO.form,tO.at⟩) (by simp [ov,aD,upd])
       .rintro v lo hi W hb ⟨g0,g1,g2,g3,g4,g5,g6,g7,g8⟩ ⟨⟨la6,lb6,D6⟩,⟨If,Ii,wS⟩,_⟩;refine .inl ⟨rfl,λK hK=>?_⟩;simp only [ov,aD,Nat.reduceBEq,cond_true,cond_false]
        (try dsimp only at D6 wS)
        obtain ⟨⟨a6,c6,e6⟩,o6⟩:=D6;obtain ⟨⟨a13,c13,lr⟩,o13⟩:=wS;have i6:=o6.inn.own.ints;have q6l:=o13.inn.own.ints
        (try simp only [e6,lr])
        go_wp2
        exact aQ (hK (.slice (some ⟨W.heap.size,0,none⟩) 2 2) _ (Ea (Er _) _) ⟨rfl,aj,by (try simp only [e6,lr]);exact ag.new _ _ _,i6.ext (Ea (Er _) _),q6l.ext (Ea (Er _) _)⟩) (by simp [ov,aD,upd,e6,lr])
       .rintro v lo hi W hb ⟨g0,g1,g2,g3,g4,g5,g6,g7,g8⟩ ⟨⟨Sf,Sh,Ip⟩,_⟩;refine .inl ⟨rfl,λK hK=>?_⟩;simp only [ov,aD,Nat.reduceBEq,cond_true,cond_false]
        (try dsimp only at Ip)
        obtain ⟨lO,q4v,Ft,Fu,Av⟩:=Ip
        (try simp only [lO])
        go_wp2_with (go_at_call 227;refine (ss_ (lo 14) 2 (v 6) (v 13) lA lB _ (λi=>(Ft.cells i).1) Fu Av ad ad ad).mono ?_;rintro e w7 ⟨x,rfl,tO,ek⟩)
        exact aQ (hK x w7 ek ⟨tO.form,tO.at⟩) (by simp [ov,aD,upd,lO])
       rintro v lo hi W hb ⟨g0,g1,g2,g3,g4,g5,g6,g7,g8⟩ ⟨⟨la15,lb15,Ti⟩,_⟩;refine .inl ⟨rfl,λK hK=>?_⟩;simp only [ov,aD,Nat.reduceBEq,cond_true,cond_false]
       (try dsimp only at Ti)
       obtain ⟨⟨a15,c15,pq⟩,o15⟩:=Ti
       (try simp only [pq])
       go_wp2
       exact aQ (hK (v 15) W (JV _ _) ⟨⟨a15,c15,pq⟩,o15⟩) (by simp [ov,aD,upd,pq])
      case fin=>
       rintro v lo hi W13 AK _ hf _;show wpList _ _ _ [] _ _;obtain ⟨_,_,k16,⟨ca,cc,qs⟩,X_⟩:=hf 16 rfl;have k15:=(hf 15 rfl).1;clear hf;have cA:=X_.inn.own.mono (base':=W3.heap.size) ad;rw [qs] at cA;clear X_;dsimp only;rw [qs];clear qs;obtain ⟨LL,lR⟩:∃ LL,LL=lA ++ lB:=⟨_,rfl⟩;rw [<- lR];rw [<- lR] at cA;have zx:=af lR;have HOW:=af cA;clear cA k15 k16 lR;go_wp2_with fail
       go_meet
       refine ⟨ca,cc,LL,rfl,HOW,af (Et zg.o AK),af λx=>?_⟩;rw [KN,zx.o,VJ,tg.o,DX.o,dX (VI _),dX (VI _),dX (VI _),nr.o.mem,mF.o.mem];constructor
       .rintro (⟨h1,h2,h3⟩|⟨h1,h2,h3⟩)
        .exact ⟨h1,h2,.inl h3⟩
        exact ⟨h1,h2,.inr h3⟩
       rintro ⟨h1,h2,h3|h3⟩
       .exact .inl ⟨h1,h2,h3⟩
       exact .inr ⟨h1,h2,h3⟩
     have wY:Hid (L=(RA.toNat:Int)*qa.period):=af (by
      rw [S6 FL,T5.o,G7 (by rw [<- np.o];exact EY)])
     go_wp2_with (go_at_call 229;refine (rb_ _ _ _ _ qa qb st _ _ g mb L _ (zD.o.ext qT.o) nr.o.wf mF.o.wf hs1 ad RA.toNat wY.o ad iE.o.hx ad ad ad ad ad).mono ?_;rintro e BK ⟨v11,rfl,cA,rV⟩;have HOW:=af (cA.mono (base':=W3.heap.size) ad);have oW:=af rV;clear cA rV;obtain ⟨va,vc,rfl⟩:=HOW.o.form)
     go_meet
     refine ⟨va,vc,_,rfl,HOW,af (Et qT.o oW.o),af λx=>?_⟩;rw [ww_ nr.o.wf mF.o.wf hs1 hs2 HG.o.symm wY.o,XT];rw [RP (T:=λn=>p1.mem n/\¬ p2.mem n) (VI _) (λn=>by rw [nr.o.mem,mF.o.mem])]
    case rest=>
     obtain ⟨va,vc,LL,rfl,q6d,DD,ky⟩:=hcut;have cA:=q6d.o;have q3a:W3.heap.size<=wc.heap.size:=DD.o.size;have HUP:Hid (cM (gL kd p1.mem p2.mem) st L):=af (XU ((nr.o.pfrom.mono hs1).of_dvd BM JI (by rw [<- np.o];exact EY)) ((mF.o.pfrom.mono hs2).of_dvd BN JI (by rw [<- np.o];exact I7)));clear q6d;generalize wc=BK at *;go_upto_region 24 with ((first|(go_at_call 69;refine (Kw _ LL W3.heap.size _ cA).mono ?_;rintro e SZ ⟨rfl,nU,AW⟩;have jO:=cA.below_grown (W0:=BK) (.inr trivial) ad AW;have q0h:=AW.size)|(go_at_call 230;refine (qh_ _ (aw LL) W3.heap.size _ nU).mono ?_;rintro e t_ ⟨v13,rfl,fM,AX,_⟩;have AK:=nU.below_grown (W0:=SZ) (.inr trivial) ad AX;have q0l:=AX.size;rw [nu_ (fJ (VI 0)).1 ky.o] at fM;obtain ⟨SL,PO⟩:∃ SL,SL=bF (gL kd p1.mem p2.mem) 0 (st+L):=⟨_,rfl⟩;rw [<- PO] at fM;have lI:=af PO;clear PO;obtain ⟨yM,wK,rfl⟩:=fM.form)))
     have FD:1<=L:=JI;have x_:=u8_ (U:=gL kd p1.mem p2.mem) (show 0<=st by omega) (show st<=st+L by omega);rw [<- lI.o] at x_;obtain ⟨i0,hi0⟩:∃ i0,i0=(bF (gL kd p1.mem p2.mem) 0 st).length:=⟨_,rfl⟩;rw [<- hi0] at x_;have HI0:=af hi0;have pT:=af x_;have FO:SL.Pairwise (· < ·):=by rw [lI.o];exact (fJ (VI 0)).1
     have q1q:=af FO;have Gq:i0<=SL.length:=by have:=pT.o.2.1;have h2:=congrArg List.length this;rw [MO,<- HI0.o] at h2;omega
     have hsll:(SL.length:Int)<=st+L:=by have:=(fJ (S:=gL kd p1.mem p2.mem) (lo:=0) (hi:=st+L) (VI 0)).length_le ad;rw [<- lI.o] at this;omega
     have kM:=fM.ints;have q1v:=af kM;obtain ⟨b3',F3,xY⟩:∃ c',wK=c'/\SL.length<=c':=by
      obtain ⟨⟨a,c,e,h1,h2,_⟩,_,_⟩:=kM;injection e with _ _ e3
      exact ⟨c,e3,h1⟩
     rw [<- F3] at xY;obtain ⟨ha',hrun',hint'⟩:=uc_ (a:=yM) (c:=wK) SL Gq xY;obtain ⟨da',Up,xI,_⟩:=Jn (a:=yM) (c:=wK) SL Gq;have q4x:=af hint';have q4n:=af xI;have rW:Below W3.heap.size W3 t_:=(DD.o).trans (jO.trans AK);have Dp:=af rW;have Mp:=af fM;have yy:=gA.o.below rW;have m8:t_.cell? ⟨pb,8,none⟩=some (.int .i64 st):=(yy.cells 8).1;have sl:=fM.inn;have q2u:=af sl;clear hi0 x_ FO kM F3 hint' xI rW fM nU AW AX yy sl;clear d0 d1 d2 d3 d4 d5 d6 d7 d8 d9 d10 d11 d12;go_upto_region 25 with (go_at_call 216;refine (tt _ SL st _ q1v.o q1q.o).mono ?_;rintro e yN ⟨he,Sx,rfl⟩;rw [pT.o.1] at he;generalize decide (st∈SL)=dB at he;subst he)
     obtain ⟨yN,pI⟩:∃ yN,yN=t_.drewN Sx:=⟨_,rfl⟩;rw [<- pI];have Fy:Below W3.heap.size W3 yN:=by rw [pI];exact Dp.o.trans (Below.drewN (JV _ _) _)
     have yi:IntsIn yN W3.heap.size t_.heap.size (.slice yM SL.length wK) SL:=by rw [pI];exact q2u.o.drewN _
     have m8:yN.cell? ⟨pb,8,none⟩=some (.int .i64 st):=by rw [pI];exact m8
     have q4i:t_.heap.size<=yN.heap.size:=by rw [pI,fZ];exact TZ _
     have Lw:=af Fy;have q0u:=af yi;clear pI Fy yi;refine oz (w0:=yN) [0,1,2,3,4,5,6,7,8] [9] (λv=>⟨#[ar (.slice a1 p1.head.length m1) (.slice a2 p1.cycle.length m2) p1.frm p1.period,ar (.slice a3 p2.head.length m3) (.slice a4 p2.cycle.length m4) p2.frm p2.period,.int .i64 kd,.pointer (some ⟨w.heap.size,0,none⟩),.pointer (some ⟨w.heap.size+1,0,none⟩),undef,.pointer (some ⟨w.heap.size+1+1,0,none⟩),.int .i64 0,.pointer (some ⟨pb,0,none⟩),.int .i64 L,.int .i64 0,.slice sN HL.length sO,.int .i64 (↑HL.length+↑cn),.int .i64 (bA+PA),.int .i64 (bB+PB),.pointer (some ⟨ic.heap.size,0,none⟩),.slice yM SL.length wK,.int .i64 ↑i0,.bool dB,v 8,undef,undef,u22,u23,u24,u25,u26,u27,u28,u29,u30,u31,u32,u33,u34,u35,u36,u37,u38,u39,u40,u41,u42,u43,u44,u45,u46,u47,u48,u49,u50,u51,u52,u53,u54,u55,u56,u57,u58,u59,u60,u61,u62,u63,u64,u65,u66,u67,u68,u69,u70,u71,u72,u73,u74,u75,u76,u77,u78,u79,u80,u81,u82,u83,u84,u85,u86,u87,u88,u89,u90,u91,u92,u93,u94,u95,u96,u97,u98,.int .i64 kd,u100,u101,u102,u103,u104,u105,u106,u107,u108,u109,u110,u111,u112,u113,u114,u115,u116,u117,u118,u119,u120,u121,u122,u123,u124,u125,u126,u127,.slice va LL.length vc,.tuple #[],.slice va LL.length vc,.slice yM SL.length wK,.tuple #[.int .i64 ↑i0,.bool dB],.slice yM SL.length wK,.pointer (some ⟨pb,8,none⟩),.int .i64 st,.tuple #[.int .i64 ↑i0,.bool dB],.int .i64 ↑i0,.bool dB,v 0,v 1,v 2,v 3,v 4,v 5,v 6,v 7,u147,u148,undef,undef,undef,u152,u153,u154,u155,u156,u157,u158,u159,u160,u161,u162,u163,u164,u165,u166],[]⟩) [.slice yM SL.length wK,.int .i64 i0,.int .i64 i0,.slice ha' i0 i0,.pointer (some ⟨pb,8,none⟩),.int .i64 st,.int .i64 L,.agg #[.slice ha' i0 i0,.int .i64 st,.int .i64 L,.slice none 0 0],undef] [8] (λi v lo hi W=>match i with|8=>v 8=.pointer (some ⟨lo 8,0,none⟩)/\lo 8<hi 8/\ag W (lo 8) #[.slice none 0 0,.int .i64 0,.int .i64 0,.slice none 0 0] 80|_=>True) (λW=>W.cell? ⟨pb,8,none⟩=some (.int .i64 st)) (λW hb=>bJ m8 hb) ?stab ?loc ?steps ?fin (λj=>match j with|0=>u139|1=>u140|2=>u141|3=>u142|4=>u143|5=>u144|6=>u145|7=>u146|8=>undef|_=>undef)
     case stab=>
      refine ⟨?_,trivial⟩;intro v lo hi W W' h hb;exact ⟨h.1,h.2.1,h.2.2.below hb⟩
     case loc=>
      refine ⟨?_,trivial⟩;intro v v' lo lo' hi hi' W aA h;have q:=aA 8 (.inl rfl)
      (try dsimp only at h ⊢)
      simp only [q.1,q.2.1,q.2.2] at h;exact h
     case steps=>
      refine .c [] [] rfl ?_ (.c [] [] rfl ?_ (.c [] [] rfl ?_ (.c [0,1,2] [] rfl ?_ (.c [] [] rfl ?_ (.c [4] [] rfl ?_ (.c [] [] rfl ?_ (.c [3,5,6] [] rfl ?_ (.c [] [] rfl ?_ (.n)))))))));all_goals try exact oh
      rintro v lo hi W hb g8 _;refine .inl ⟨rfl,λK hK=>?_⟩;simp only [ov,aD,Nat.reduceBEq,cond_true,cond_false];go_wp2;exact hK (.pointer (some ⟨W.heap.size,0,none⟩)) _ (Ea (Er _) _) ⟨rfl,aj,ag.new _ _ _⟩
     case fin=>
      rintro v lo hi W15 AL _ hf _;show wpList _ _ _ [_] _ _;have e7:v 7=.agg #[.slice ha' i0 i0,.int .i64 st,.int .i64 L,.slice none 0 0]:=(hf 7 rfl).2.2.2;obtain ⟨l8,_,k8,e8,lt8,cL⟩:=hf 8 rfl;clear hf;generalize lo 8=ob at *;generalize hi 8=hi8 at *;dsimp only;rw [e7,e8];clear e7 e8;generalize v 0=o0,v 1=o1,v 2=o2,v 3=o3,v 4=o4,v 5=o5,v 6=o6;clear v;have k0:=cL.cells 0;have k1:=cL.cells 1;have k2:=cL.cells 2;have k3:=cL.cells 3;have hob':t_.heap.size<=ob:=ad;have hpb3:=uU.o;go_upto_region 26 with (fail)
      refine j9 (F:=λzX=>ag zX ob #[.slice ha' i0 i0,.int .i64 st,.int .i64 L,.slice none 0 0] 80/\IntsIn zX W3.heap.size t_.heap.size (.slice yM SL.length wK) SL/\Below W3.heap.size W3 zX)
       ⟨ag.set4 cL,(((((q0u.o.below AL q4i).set _ ad).set _ ad).set _ ad).set _ ad),((((Lw.o.trans (AL.mono ad)).setCell (p:=⟨ob,0,none⟩) aR _).setCell (p:=⟨ob,1,none⟩) aR _).setCell (p:=⟨ob,2,none⟩) aR _).setCell (p:=⟨ob,3,none⟩) aR _⟩ ?_
      clear cL k0 k1 k2 k3 m8 AL;rintro zX ⟨cL,yj,Az⟩;have q0k:=Az.size;have Bg:=cL.lt;have HOB:=af cL;have q1t:=af yj;have oX:=af Az;clear cL yj Az;obtain ⟨DR,JE⟩:∃ DR,DR=SL.drop i0:=⟨_,rfl⟩;have DB:=af JE;have sj:DR.length=SL.length-i0:=by rw [JE];simp
      have qz:∀ y∈DR,st<=y/\y<st+L:=λy hy=>by
       rw [JE,pT.o.2.2] at hy;have:=(dX (show 0<=st by omega) y).1 hy;omega
      have Ls:=af qz;have Tr:=af sj;clear JE sj qz;go_wp2;go_loopw [151] (λi wr=>∃ (k:Nat) (cv:Value),k<=SL.length-i0/\i=.int .i64 k/\ag wr ob #[.slice ha' i0 i0,.int .i64 st,.int .i64 L,cv] 80/\al wr zX.heap.size cv ((DR.take k).map (· - st))/\zX.grownBy wr (some ob)) (λi _=>SL.length-i0-(intOf i).toNat)
      .exact ⟨0,.slice none 0 0,ad,rfl,HOB.o,al.nil _ _,P7 _ _⟩
      obtain ⟨k,cv,hk,rfl,cL,hown,hgr⟩:=hrel;have mh:=hgr.size;obtain ⟨ca,cc,rfl⟩:=hown.form;have wg:=q1t.o.of_blocks (w':=wr) λj h1 h2=>hgr.block j ad aR;by_cases hlt:k<SL.length-i0
      .obtain ⟨⟨a8,c8,kj,_,_,dJ⟩,_,wD⟩:=q4n.o wr wg.ints;rw [<- DB.o] at kj dJ wD;have pC:k<DR.length:=by rw [Tr.o];exact hlt
       rcases dJ with dJ|⟨b8,f8,eo,hcell⟩
       .rw [dJ] at pC;simp at pC
       injection kj with cN eP dz
       rw [eo] at cN;subst cN;have hcl:=hcell k pC;have hyb:=Ls.o _ (lg pC);have fg:(k:Int)<((SL.length-i0:Nat):Int):=ad;have Kd:(DR.take (k+1)).map (· - st)=(DR.take k).map (· - st) ++ [DR.getD k 0-st]:=by
        rw [LF pC,UZ];simp [pC]
       obtain ⟨y,hy⟩:∃ y,y=DR.getD k 0:=⟨_,rfl⟩;rw [<- hy] at hcl hyb Kd;obtain ⟨CL,vH⟩:∃ CL,CL=(DR.take k).map (· - st):=⟨_,rfl⟩;have hcll:CL.length<=k:=by rw [vH];simp;omega
       rw [<- vH] at hown cL Kd;have q3:wr.cell? ⟨ob,3,none⟩=some (.slice ca CL.length cc):=(cL.cells 3).1;have GT:ag wr pb #[.slice z1 qa.head.length y1,.int .i64 qa.frm,.int .i64 qa.period,.slice z2 qa.cycle.length y2,.slice z3 qb.head.length y3,.int .i64 qb.frm,.int .i64 qb.period,.slice z4 qb.cycle.length y4,.int .i64 st,.slice xa (aw (ak qa st)).length xc,.slice ya (aw (ak qb st)).length yc,.int .i64 g,.map (some mb)] 252:=(hgr.block pb ad aR).trans (gA.o.below oX.o);have q8:wr.cell? ⟨pb,8,none⟩=some (.int .i64 st):=(GT.cells 8).1;have HTS:=af Kd;have HOBr:=af cL;have HOWNr:=af hown;have BW:=af hgr;clear cL hown hgr wg Kd hy vH hcell GT eo eP dz wD;go_wp2_with (at_builtin;refine qc aC _ _ aC zX.heap.size (.slice ca CL.length cc) CL (y-st) aC (HOWNr.o.ext (Ea (Er _) _)) _ _ aC aj ⟨ad,ad⟩ ad aR ?_;intro gg cap yO Bh q0b q5z;have sC:=(HOBr.o.alloc (.cells #[.int .i64 (y-st)] 3)).upto q5z Bg;have r1:=(sC.cells 3).1;have r2:=(sC.cells 3).2);go_roundw
       .refine ⟨k+1,.slice (some ⟨gg,0,none⟩) (CL.length+1) cap,ad,by go_num,bE 3 _ sC,?_,xy_ BW.o (((JV _ wr).alloc mh _).trans q5z)⟩;rw [HTS.o];exact Bh.above ((cm.refl _ yO).setCell aR _)
       simp [intOf];omega
      obtain rfl:k=SL.length-i0:=ad;have hall:DR.take (SL.length-i0)=DR:=by rw [<- Tr.o];exact OC
      rw [hall] at hown;have cr:=Ox (U:=gL kd p1.mem p2.mem) (st:=st) (L:=L) ad FD (λn h=>tw_ h) HUP.o;obtain ⟨CL,vH⟩:∃ CL,CL=DR.map (· - st):=⟨_,rfl⟩;rw [hall,<- vH] at cL;rw [<- vH] at hown;have FH:cj wr (.slice ha' i0 i0) (.slice ca CL.length cc) (Per.mk (bF (gL kd p1.mem p2.mem) 0 st) st L ((bF (gL kd p1.mem p2.mem) st (st+L)).map (· - st))):=by
       refine ⟨?_,?_⟩
       .have:=q4x.o wr wg.ints;rw [pT.o.2.1] at this;exact this
       have:=hown.ints;rw [vH,DB.o,pT.o.2.2] at this;rw [vH,DB.o,pT.o.2.2];exact this
      have dR:Below w.heap.size w wr:=⟨hgr.os.trans (oX.o.os.trans xS.os),hgr.tape.trans (oX.o.tape.trans xS.tape),hgr.output.trans (oX.o.output.trans xS.output),by have:=xS.size;omega,λj hj=>(hgr.block j (by have:=xS.size;omega) aR).trans ((oX.o.block j (by have:=xS.size;omega)).trans (xS.block j hj))⟩;have G0:ag wr (w.heap.size+2) #[.slice none 0 0,.int .i64 0,.int .i64 0,.slice none 0 0] 80:=(hgr.block _ ad aR).trans (oo.o.below oX.o);have q0:wr.cell? ⟨ob,0,none⟩=some (.slice ha' i0 i0):=(cL.cells 0).1;have q1:wr.cell? ⟨ob,1,none⟩=some (.int .i64 st):=(cL.cells 1).1;have q2:wr.cell? ⟨ob,2,none⟩=some (.int .i64 L):=(cL.cells 2).1;have q3:wr.cell? ⟨ob,3,none⟩=some (.slice ca CL.length cc):=(cL.cells 3).1;have zL:=af cr;have Mv:=af FH;have DG:=af dR;have q3e:=af G0;have HQ:Hid (bV q (Per.mk (bF (gL kd p1.mem p2.mem) 0 st) st L ((bF (gL kd p1.mem p2.mem) st (st+L)).map (· - st))).mem):=af (hq.congr λn=>(cr.2 n).symm);clear cr FH dR G0 cL hown hgr wg hall vH;go_wp2_with (go_at_call 129;refine (Fg _ _ (Per.mk (bF (gL kd p1.mem p2.mem) 0 st) st L ((bF (gL kd p1.mem p2.mem) st (st+L)).map (· - st))) q _ Mv.o zL.o.1 (by show st<=_;omega) (by show L<=_;omega) HQ.o).mono ?_;rintro e w18 ⟨r1,r2,rfl,q6w,F0⟩;obtain ⟨n1,j1,n2,j2,rfl,rfl⟩:=q6w.form;have oN:=q3e.o.below F0;have g0:=oN.cells 0;have g1:=oN.cells 1;have g2:=oN.cells 2;have g3:=oN.cells 3;have q0m:=F0.size);have dR:=DG.o;exact VN (v:=.tuple #[ar (.slice n1 q.head.length j1) (.slice n2 q.cycle.length j2) q.frm q.period,.int .i64 0]) (by simp [results,Tryz.results190,go_sem, *]) rfl ⟨_,_,rfl,(q6w.above (by (repeat' (with_reducible first|exact cm.refl _ _|refine cm.alloc ?_ _|refine cm.drew ?_|refine cm.drewN ?_ _|refine cm.setCell ?_ (by first|(simp;done)|(simp;omega)|omega) _)))).mono ad,xE⟩
theorem qy_ (h1 c1 h2 c2:Value) (p1 p2 qa qb q:Per) (w:World) (fN:cj w h1 c1 p1) (fk:cj w h2 c2 p2) (jr:Valid p1) (hv2:Valid p2) (fC:bV qa p1.mem) (eD:bV qb p2.mem)
  (hL:aV qa.period qb.period<=1099511627776) (qC:qa.period<=4294967295) (bN:qb.period<=4294967295)
  (hq:bV q (λn=>p1.mem n/\p2.mem n)) (gF:cnt (λn=>p1.mem n/\p2.mem n) (max qa.frm qb.frm+aV qa.period qb.period).toNat<=1048576) :
  Calls Tryz.prog 190 #[ar h1 c1 p1.frm p1.period,ar h2 c2 p2.frm p2.period,.int .i64 0] w (nG q w):=
 Xj 0 (.inl rfl) h1 c1 h2 c2 p1 p2 qa qb q w fN fk jr hv2 fC eD hL (λ_=>⟨qC,bN⟩) (GJ _ _ ▸ hq) (GJ _ _ ▸ gF)
theorem tx_ (h1 c1 h2 c2:Value) (p1 p2 qa qb q:Per) (w:World) (fN:cj w h1 c1 p1) (fk:cj w h2 c2 p2) (jr:Valid p1) (hv2:Valid p2) (fC:bV qa p1.mem) (eD:bV qb p2.mem)
  (hL:aV qa.period qb.period<=1099511627776)
  (hq:bV q (λn=>p1.mem n\/p2.mem n)) (gF:cnt (λn=>p1.mem n\/p2.mem n) (max qa.frm qb.frm+aV qa.period qb.period).toNat<=1048576) :
  Calls Tryz.prog 190 #[ar h1 c1 p1.frm p1.period,ar h2 c2 p2.frm p2.period,.int .i64 1] w (nG q w):=
 Xj 1 (.inr (.inl rfl)) h1 c1 h2 c2 p1 p2 qa qb q w fN fk jr hv2 fC eD hL (λh=>ad) (KN _ _ ▸ hq) (KN _ _ ▸ gF)
theorem wq_ {l1 l2:List Int} (hl:l1.length=l2.length) (hk:k<l1.length) (h:l1.take k=l2.take k) (he:l1.getD k 0=l2.getD k 0):l1.take (k+1)=l2.take (k+1):=by
 rw [List.take_add_one,List.take_add_one,h];have h2:k<l2.length:=ad;rw [VS,VS,U2 hk,U2 h2] at he;rw [U2 hk,U2 h2];simp at he;simp [he]
theorem u0_ (p q:Per):p=q↔p.frm=q.frm/\p.period=q.period/\p.head=q.head/\p.cycle=q.cycle:=by
 constructor
 .rintro rfl;simp
 rintro ⟨h1,h2,h3,h4⟩;cases p;cases q;simp_all
instance:DecidableEq Per:=λp q=>decidable_of_iff _ (u0_ p q).symm
theorem q3z (h1 c1 h2 c2:Value) (p1 p2 qa qb q:Per) (w:World) (fN:cj w h1 c1 p1) (fk:cj w h2 c2 p2) (jr:Valid p1) (hv2:Valid p2) (fC:bV qa p1.mem) (eD:bV qb p2.mem)
  (hL:aV qa.period qb.period<=1099511627776) (qC:qa.period<=4294967295) (bN:qb.period<=4294967295)
  (hq:bV q (λn=>p1.mem n/\p2.mem n)) (gF:cnt (λn=>p1.mem n/\p2.mem n) (max qa.frm qb.frm+aV qa.period qb.period).toNat<=1048576) :
  Calls Tryz.prog 188 #[ar h1 c1 p1.frm p1.period,ar h2 c2 p2.frm p2.period] w (nG q w):=by
 have Mm:∀ W,Below w.heap.size w W->Calls Tryz.prog 190 #[ar h1 c1 p1.frm p1.period,ar h2 c2 p2.frm p2.period,.int .i64 0] W (nG q W):=λW hb=>qy_ h1 c1 h2 c2 p1 p2 qa qb q W (fN.ext hb) (fk.ext hb) jr hv2 fC eD hL qC bN hq gF;clear fN fk jr hv2 fC eD hL qC bN hq gF
 go_in
 go_wp2_with (go_at_call 190;refine (Mm _ xE).mono ?_;rintro e w2 ⟨h',c',rfl,fk,hb2⟩;obtain ⟨a1,c1,a2,c2,rfl,rfl⟩:=fk.form;obtain ⟨hc2,hf2⟩:=bd_ hb2;have kU:=af fk;clear fk)
 exact VN (v:=.tuple #[ar (.slice a1 q.head.length c1) (.slice a2 q.cycle.length c2) q.frm q.period,.int .i64 0]) (by simp [results,Tryz.results188,go_sem, *]) rfl ⟨_,_,rfl,(kU.o.above (by (repeat' (with_reducible first|exact cm.refl _ _|refine cm.alloc ?_ _|refine cm.drew ?_|refine cm.drewN ?_ _|refine cm.setCell ?_ (by first|(simp;done)|(simp;omega)|omega) _)))).mono aR,xE⟩
theorem q1j (h1 c1 h2 c2:Value) (p1 p2 qa qb q:Per) (w:World) (fN:cj w h1 c1 p1) (fk:cj w h2 c2 p2) (jr:Valid p1) (hv2:Valid p2) (fC:bV qa p1.mem) (eD:bV qb p2.mem)
  (hL:aV qa.period qb.period<=1099511627776)
  (hq:bV q (λn=>p1.mem n\/p2.mem n)) (gF:cnt (λn=>p1.mem n\/p2.mem n) (max qa.frm qb.frm+aV qa.period qb.period).toNat<=1048576) :
  Calls Tryz.prog 141 #[ar h1 c1 p1.frm p1.period,ar h2 c2 p2.frm p2.period] w (nG q w):=by
 have Mm:∀ W,Below w.heap.size w W->Calls Tryz.prog 190 #[ar h1 c1 p1.frm p1.period,ar h2 c2 p2.frm p2.period,.int .i64 1] W (nG q W):=λW hb=>tx_ h1 c1 h2 c2 p1 p2 qa qb q W (fN.ext hb) (fk.ext hb) jr hv2 fC eD hL hq gF;clear fN fk jr hv2 fC eD hL hq gF
 go_in
 go_wp2_with (go_at_call 190;refine (Mm _ xE).mono ?_;rintro e w2 ⟨h',c',rfl,fk,hb2⟩;obtain ⟨a1,c1,a2,c2,rfl,rfl⟩:=fk.form;obtain ⟨hc2,hf2⟩:=bd_ hb2;have kU:=af fk;clear fk)
 exact VN (v:=.tuple #[ar (.slice a1 q.head.length c1) (.slice a2 q.cycle.length c2) q.frm q.period,.int .i64 0]) (by simp [results,Tryz.results141,go_sem, *]) rfl ⟨_,_,rfl,(kU.o.above (by (repeat' (with_reducible first|exact cm.refl _ _|refine cm.alloc ?_ _|refine cm.drew ?_|refine cm.drewN ?_ _|refine cm.setCell ?_ (by first|(simp;done)|(simp;omega)|omega) _)))).mono aR,xE⟩
theorem Ints.lit {b:Nat} {t:TypeId} (h:ag w b (l.map (Value.int .i64)).toArray t) (hl:l.length<=17592186044416) (hr:∀ x∈l,aS x):Ints w (.slice (some ⟨b,0,none⟩) l.length l.length) l:=by
 refine ⟨⟨_,_,rfl,TZ _,ad,.inr ⟨b,0,rfl,λi hi=>?_⟩⟩,hl,hr⟩;rw [S1,(h.cells i).1];rw [List.getElem?_toArray,OA,U2 hi,VS,U2 hi];rfl
structure qn (w:World) (v:Value) (l:List Int):Prop where
 is:∃ a c,v=.slice a l.length c/\(l=[]\/∃ b o,a=some ⟨b,o,none⟩/\∀ i,i<l.length->w.cell? ⟨b,o+i,none⟩=some (.int .u8 (l.getD i 0)))
 len:l.length<=9223372036854775807
 rng:∀ x∈l,0<=x/\x<=255
theorem qn.ext (h:qn w v l) (hb:Below w.heap.size w W):qn W v l:=by
 obtain ⟨⟨a,c,rfl,h3⟩,h4,h5⟩:=h;refine ⟨⟨a,c,rfl,h3.imp id ?_⟩,h4,h5⟩;rintro ⟨b,o,rfl,hc⟩;exact ⟨b,o,rfl,λi hi=>an.cell hb (hc i hi)⟩
end
section
open Kal
end
section
open Go.RowKit Go.Maps Kal
end
end Go.Proofs.YtbmgmlbmgogeaaaGreat
end
namespace Go.Proofs.YtbmgmlbmgogeaaaGreat
section
open Go.ChangeShapes Go.WideShapes Go.ChangeAt Go.RowKit Go.Joins Kal
theorem Ny:ownKnob Tryz.prog.godebug=none:=by kernel_rfl
theorem yd_:laidOutB Tryz.prog=true:=by kernel_rfl
section
variable {H:Type} {enc:TypeId × Value->H} {w:World} {base:Nat} {spare:Nat->Bool} {held:Bool}
theorem Yi {n:Nat} {v:Value} {y:DataW H × List MemPlace} (h:DataW.trod enc Tryz.prog w base spare held n 24 [v]=some y):∃ l,qn w v l:=by
 rcases open_ints Tryz.underlying24 Tryz.underlying5 (by kernel_rfl) h with ⟨hcs,_⟩|⟨a,len,cap,zs,hcs,_,hl,hm,hz,_,hcell,jV⟩
 .simp at hcs;subst hcs;exact ⟨[],⟨none,0,rfl,.inl rfl⟩,aj,aj⟩
 simp at hcs;subst hcs;have GH:len<=zs.length:=by rw [hz];split <;> omega
 have hlen:(zs.take len).length=len:=by rw [MO];omega
 refine ⟨zs.take len,⟨some a,cap,by rw [hlen],?_⟩,?_,?_⟩
 .by_cases h0:len=0
  .exact .inl (by rw [h0];rfl)
  refine .inr ?_;obtain ⟨b,off,spot⟩:=a;have hc:=hcell 0 ad;have hspot:spot=none:=by simpa [Addr.add] using q8e hc
  subst hspot;refine ⟨b,off,rfl,λi hi=>?_⟩;rw [hlen] at hi;have h9:=hcell i ad;have e:(zs.take len).getD i 0=zs.getD i 0:=by
   rw [VS,VS,LJ hi]
  rw [e];have e2:(⟨b,off,none⟩:Addr).add i=⟨b,off+i,none⟩:=by
   rcases NR i with h|h
   .subst h;simp [Addr.add]
   simp [Addr.add];omega
  rwa [e2] at h9
 .rw [hlen];unfold maxLen at hm;omega
 intro x hx;exact bounds_u8 (jV x (S8 hx))
theorem ZJ {n:Nat} {t:TypeId} {k:IntKind} {v:Value} {y:DataW H × List MemPlace} (ht:Tryz.prog.underlying t=some (.int k)) (h:DataW.trod enc Tryz.prog w base spare held n t [v]=some y):∃ m,v=.int k m/\(Lit.int k m).wf=true:=by
 obtain ⟨m,hcs,_,hw⟩:=DataW.trod_int ht h;simp at hcs;exact ⟨m,hcs,hw⟩
end
end
end Go.Proofs.YtbmgmlbmgogeaaaGreat
section
variable {ops:Array Go.Oper}{a r s st x:Int}{m:List (List Kal.Per)}{l ys:List Int}{rest:List Go.Oper}{t:List Kal.Per}{cs:List Go.Value}{B R base c cap g hi k lo mb n:Nat}{o:Go.Oper}{row:Option Nat}{p q qa qb:Kal.Per}{c1 c2 h1 h2 v v' xv yv:Go.Value}{A C W W' W1 w w':Go.World}
namespace Go.Proofs.YtbmgmlbmgogeaaaGreat
section
open Go.RowKit Kal
structure PV where
 h:Value
 c:Value
 p:Per
instance:Inhabited PV:=⟨⟨.slice none 0 0,.slice none 0 0,⟨[],0,0,[]⟩⟩⟩
def PV.enc (x:PV):List Value:=[x.h,.int .i64 x.p.frm,.int .i64 x.p.period,x.c]
abbrev PV.val (x:PV):Value:=ar x.h x.c x.p.frm x.p.period
theorem PV.enc_len (x:PV):x.enc.length=4:=rfl
structure bD (W:World) (F:Nat->Prop) (x:PV):Prop where
 is:cj W x.h x.c x.p
 fr:aS x.p.frm
 pe:aS x.p.period
 bh:x.p.head≠[]->∀ k,x.h.ownBlock=some k->F k
 bc:x.p.cycle≠[]->∀ k,x.c.ownBlock=some k->F k
def aP (F:Nat->Prop) (W W':World):Prop:=∀ b,F b->b<W.heap.size->W'.heap[b]? = W.heap[b]?
theorem aP.trans {F:Nat->Prop} {B:World} (h:aP F A B) (g:aP F B C) (hs:A.heap.size<=B.heap.size):aP F A C:=λb hb hl=>(g b hb ad).trans (h b hb hl)
theorem aP.below {F:Nat->Prop} (h:Below W.heap.size W W'):aP F W W':=λb _ hl=>h.block b hl
theorem aP.mono {F G:Nat->Prop} (h:aP F W W') (hF:∀ b,G b->F b):aP G W W':=λb hb hl=>h b (hF b hb) hl
theorem Ints.keep {F:Nat->Prop} (h:Ints W v l) (hb:l≠[]->∀ k,v.ownBlock=some k->F k) (hk:aP F W W'):Ints W' v l:=by
 obtain ⟨⟨a,c,rfl,h1,h2,h3⟩,h4,h5⟩:=h;refine ⟨⟨a,c,rfl,h1,h2,?_⟩,h4,h5⟩;by_cases hl:l=[]
 .exact .inl hl
 rcases h3 with h3|⟨b,o,rfl,hc⟩
 .exact .inl h3
 have h0:=hc 0 (YA.2 hl);exact .inr ⟨b,o,rfl,λi hi=>(QM (hk b (hb hl b rfl) (N8 W _ h0))).trans (hc i hi)⟩
theorem bD.keep {F:Nat->Prop} {x:PV} (h:bD W F x) (hk:aP F W W'):bD W' F x:=⟨⟨h.is.hd.keep h.bh hk,h.is.cy.keep h.bc hk⟩,h.fr,h.pe,h.bh,h.bc⟩
theorem bD.mono {F G:Nat->Prop} {x:PV} (h:bD W F x) (hF:∀ b,F b->G b):bD W G x:=⟨h.is,h.fr,h.pe,λa k e=>hF k (h.bh a k e),λa k e=>hF k (h.bc a k e)⟩
structure b7 (W:World) (F:Nat->Prop) (v:Value) (n:Nat) (cs:List Value):Prop where
 is:∃ a c,v=.slice a n c/\n<=c/\c<=9223372036854775807/\(n=0\/∃ b o,a=some ⟨b,o,none⟩/\F b/\b<W.heap.size/\∀ i u,cs[i]? = some u->W.cell? ⟨b,o+i,none⟩=some u)
theorem b7.keep {F:Nat->Prop} (h:b7 W F v n cs) (hk:aP F W W') (hs:W.heap.size<=W'.heap.size):b7 W' F v n cs:=by
 obtain ⟨a,c,rfl,h1,h2,h3⟩:=h;refine ⟨a,c,rfl,h1,h2,h3.imp id ?_⟩;rintro ⟨b,o,rfl,hF,hl,hc⟩;exact ⟨b,o,rfl,hF,ad,λi u hi=>(QM (hk b hF hl)).trans (hc i u hi)⟩
theorem b7.mono {F G:Nat->Prop} (h:b7 W F v n cs) (hF:∀ b,F b->G b):b7 W G v n cs:=by
 obtain ⟨a,c,rfl,h1,h2,h3⟩:=h;refine ⟨a,c,rfl,h1,h2,h3.imp id ?_⟩;rintro ⟨b,o,rfl,hb,hl,hc⟩;exact ⟨b,o,rfl,hF b hb,hl,hc⟩
structure gR (W:World) (F:Nat->Prop) (v:Value) (L:List PV):Prop where
 row:b7 W F v L.length (L.flatMap PV.enc)
 len:L.length<=17592186044416
 all:∀ x∈L,bD W F x
def bK (W:World) (F:Nat->Prop) (v:Value) (t:List Per):Prop:=∃ L:List PV,L.map PV.p=t/\gR W F v L
theorem gR.keep {F:Nat->Prop} {L:List PV} (h:gR W F v L) (hk:aP F W W') (hs:W.heap.size<=W'.heap.size):gR W' F v L:=⟨h.row.keep hk hs,h.len,λx hx=>(h.all x hx).keep hk⟩
theorem gR.mono {F G:Nat->Prop} {L:List PV} (h:gR W F v L) (hF:∀ b,F b->G b):gR W G v L:=⟨h.row.mono hF,h.len,λx hx=>(h.all x hx).mono hF⟩
theorem bK.keep {F:Nat->Prop} (h:bK W F v t) (hk:aP F W W') (hs:W.heap.size<=W'.heap.size):bK W' F v t:=by
 obtain ⟨L,e,g⟩:=h;exact ⟨L,e,g.keep hk hs⟩
theorem bK.mono {F G:Nat->Prop} (h:bK W F v t) (hF:∀ b,F b->G b):bK W G v t:=by
 obtain ⟨L,e,g⟩:=h;exact ⟨L,e,g.mono hF⟩
theorem bK.ext {F:Nat->Prop} (h:bK W F v t) (hb:Below W.heap.size W W'):bK W' F v t:=h.keep (aP.below hb) hb.size
structure cI (W:World) (F:Nat->Prop) (v:Value) (L:List (Value × List Per)):Prop where
 row:b7 W F v L.length (L.map Prod.fst)
 len:L.length<=17592186044416
 all:∀ x∈L,bK W F x.1 x.2
def aF (W:World) (F:Nat->Prop) (v:Value) (m:List (List Per)):Prop:=∃ L:List (Value × List Per),L.map Prod.snd=m/\cI W F v L
theorem cI.keep {F:Nat->Prop} {L:List (Value × List Per)} (h:cI W F v L) (hk:aP F W W') (hs:W.heap.size<=W'.heap.size):cI W' F v L:=⟨h.row.keep hk hs,h.len,λx hx=>(h.all x hx).keep hk hs⟩
theorem cI.mono {F G:Nat->Prop} {L:List (Value × List Per)} (h:cI W F v L) (hF:∀ b,F b->G b):cI W G v L:=⟨h.row.mono hF,h.len,λx hx=>(h.all x hx).mono hF⟩
theorem aF.keep {F:Nat->Prop} (h:aF W F v m) (hk:aP F W W') (hs:W.heap.size<=W'.heap.size):aF W' F v m:=by
 obtain ⟨L,e,g⟩:=h;exact ⟨L,e,g.keep hk hs⟩
theorem aF.mono {F G:Nat->Prop} (h:aF W F v m) (hF:∀ b,F b->G b):aF W G v m:=by
 obtain ⟨L,e,g⟩:=h;exact ⟨L,e,g.mono hF⟩
theorem aF.ext {F:Nat->Prop} (h:aF W F v m) (hb:Below W.heap.size W W'):aF W' F v m:=h.keep (aP.below hb) hb.size
theorem nA {L:List PV}:∀ {j i:Nat} {u:Value},j<L.length->(L.getD j default).enc[i]? = some u->(L.flatMap PV.enc)[j*4+i]? = some u:=by
 induction L with
 | nil=>intro j i u h;simp at h
 | cons x L ih=>
  intro j i u hj hi;rw [S3];cases j with
  | zero=>
   have h4:i<x.enc.length:=(GD.1 hi).1;rw [M_ (by simpa using h4)];simpa using hi
  | succ j=>
   rw [ND (by rw [PV.enc_len];omega),PV.enc_len,show (j+1)*4+i-4=j*4+i by omega];exact ih (by simpa using hj) (by simpa using hi)
end
section
open Go.RowKit Go.Maps Kal
theorem dI {α:Type} {l:List α} {i:Nat} {d:α} (h:i<l.length):l.getD i d∈l:=by
 rw [VS,U2 h];exact NS h
theorem RV {α:Type} {l:List α} {d:α} {p:α->Bool} (h:k<l.length):(l.take (k+1)).any p=((l.take k).any p || p (l.getD k d)):=by
 rw [LF h,List.any_append,VS,U2 h];simp
def KV (g:Nat) (lb:Array Value) (L:List PV) (p:PV->Bool) (w:World):Prop:=
 ∀ (W:World) (x:PV),Below w.heap.size w W->x∈L->Calls Tryz.prog g (#[x.val] ++ lb) W λe w'=>e=.returned (.bool (p x))/\Below w.heap.size w w'
theorem tb_ (F:Nat->Prop) (v:Value) (L:List PV) (p:PV->Bool) (g:Nat) (lb:Array Value) (eg:∀ args w,(callFunc g args).run Tryz.prog w=.ok (.enter g args) w) (w:World) (hv:b7 w F v L.length (L.flatMap PV.enc)) (hlen:L.length<=17592186044416) (hp:KV g lb L p w) :
  Calls Tryz.prog 125 #[v,.func (.func g) #[] lb] w λe w'=>∃ i:Int,e=.returned (.int .i64 i)/\decide (0<=i)=L.any p/\Below w.heap.size w w':=by
 have mE:=af hp;obtain ⟨a1,c1,rfl,_,_,h3⟩:=hv;have HC:=af h3;clear hp h3
 go_in
 go_wp2
 go_loopw [5,8] (λ_ i wr=>∃ k:Nat,k<=L.length/\i=.int .i64 k/\(L.take k).any p=false/\Below w.heap.size w wr) (λ_ i _=>L.length-(intOf i).toNat)
 .exact ⟨0,ad,rfl,rfl,JV _ _⟩
 obtain ⟨k,hk,rfl,hpre,hb⟩:=hrel;have HB:=af hb;have cT:=af hpre;clear hpre;by_cases hlt:k<L.length
 .have cP:(k:Int)<L.length:=ad;rcases HC.o with h0|⟨b8,f8,rfl,hF,eo,hcell⟩
  .omega
  have e0:wr.cell? ⟨b8,f8+k*4,none⟩=some (L.getD k default).h:=Below.cell' hb (hcell (k*4+0) _ (nA hlt rfl)) eo;have e1:wr.cell? ⟨b8,f8+k*4+1,none⟩=some (.int .i64 (L.getD k default).p.frm):=Below.cell' hb (hcell (k*4+1) _ (nA hlt rfl)) eo;have e2:wr.cell? ⟨b8,f8+k*4+2,none⟩=some (.int .i64 (L.getD k default).p.period):=Below.cell' hb (hcell (k*4+2) _ (nA hlt rfl)) eo;have e3:wr.cell? ⟨b8,f8+k*4+3,none⟩=some (L.getD k default).c:=Below.cell' hb (hcell (k*4+3) _ (nA hlt rfl)) eo;have dj:=mE.o wr (L.getD k default) hb (dI hlt);have ig:Hid ((L.take (k+1)).any p=((L.take k).any p || p (L.getD k default))):=af (RV hlt);have ky:=af (dI (d:=default) hlt);generalize L.getD k default=y at *;clear hcell hb;cases hq:p y with
  | true=>
   rw [hq] at dj;have HQ:=af hq;clear hq;go_wp2_with (go_at_fn g;refine dj.mono ?_;rintro e w' ⟨rfl,hb'⟩);go_ret;refine ⟨_,rfl,?_,hb'⟩;rw [PH ad];exact (G8.2 ⟨y,ky.o,HQ.o⟩).symm
  | false=>
   rw [hq] at dj;have HQ:=af hq;clear hq;go_wp2_with (go_at_fn g;refine dj.mono ?_;rintro e w' ⟨rfl,hb'⟩);go_roundw
   .exact ⟨k+1,ad,by go_num,by rw [ig.o,cT.o,HQ.o];rfl,hb'⟩
   simp [intOf];omega
 obtain rfl:k=L.length:=ad;go_wp2;go_ret;refine ⟨_,rfl,?_,HB.o⟩;have:=cT.o;rw [OC] at this;rw [this];rfl
def SM (g:Nat) (lb:Array Value) (L:List (Value × List Per)) (p:(Value × List Per)->Bool) (w:World):Prop:=
 ∀ (W:World) (x:(Value × List Per)),Below w.heap.size w W->x∈L->Calls Tryz.prog g (#[x.1] ++ lb) W λe w'=>e=.returned (.bool (p x))/\Below w.heap.size w w'
theorem tc_ (F:Nat->Prop) (v:Value) (L:List (Value × List Per)) (p:(Value × List Per)->Bool) (g:Nat) (lb:Array Value) (eg:∀ args w,(callFunc g args).run Tryz.prog w=.ok (.enter g args) w) (w:World) (hv:b7 w F v L.length (L.map Prod.fst)) (hlen:L.length<=17592186044416) (hp:SM g lb L p w) :
  Calls Tryz.prog 146 #[v,.func (.func g) #[] lb] w λe w'=>∃ i:Int,e=.returned (.int .i64 i)/\decide (0<=i)=L.any p/\Below w.heap.size w w':=by
 have mE:=af hp;obtain ⟨a1,c1,rfl,_,_,h3⟩:=hv;have HC:=af h3;clear hp h3
 go_in
 go_wp2
 go_loopw [5,8] (λ_ i wr=>∃ k:Nat,k<=L.length/\i=.int .i64 k/\(L.take k).any p=false/\Below w.heap.size w wr) (λ_ i _=>L.length-(intOf i).toNat)
 .exact ⟨0,ad,rfl,rfl,JV _ _⟩
 obtain ⟨k,hk,rfl,hpre,hb⟩:=hrel;have HB:=af hb;have cT:=af hpre;clear hpre;by_cases hlt:k<L.length
 .have cP:(k:Int)<L.length:=ad;rcases HC.o with h0|⟨b8,f8,rfl,hF,eo,hcell⟩
  .omega
  have e0:wr.cell? ⟨b8,f8+k,none⟩=some (L.getD k (.slice none 0 0,[])).1:=Below.cell' hb (hcell k _ (by rw [OA,VS,U2 hlt];rfl)) eo;have dj:=mE.o wr (L.getD k (.slice none 0 0,[])) hb (dI hlt);have ig:Hid ((L.take (k+1)).any p=((L.take k).any p || p (L.getD k (.slice none 0 0,[])))):=af (RV hlt);have ky:=af (dI (d:=(.slice none 0 0,[])) hlt);generalize L.getD k (.slice none 0 0,[])=y at *;clear hcell hb;cases hq:p y with
  | true=>
   rw [hq] at dj;have HQ:=af hq;clear hq;go_wp2_with (go_at_fn g;refine dj.mono ?_;rintro e w' ⟨rfl,hb'⟩);go_ret;refine ⟨_,rfl,?_,hb'⟩;rw [PH ad];exact (G8.2 ⟨y,ky.o,HQ.o⟩).symm
  | false=>
   rw [hq] at dj;have HQ:=af hq;clear hq;go_wp2_with (go_at_fn g;refine dj.mono ?_;rintro e w' ⟨rfl,hb'⟩);go_roundw
   .exact ⟨k+1,ad,by go_num,by rw [ig.o,cT.o,HQ.o];rfl,hb'⟩
   simp [intOf];omega
 obtain rfl:k=L.length:=ad;go_wp2;go_ret;refine ⟨_,rfl,?_,HB.o⟩;have:=cT.o;rw [OC] at this;rw [this];rfl
theorem V8 (F:Nat->Prop) (v:Value) (L:List PV) (p:PV->Bool) (g:Nat) (lb:Array Value) (eg:∀ args w,(callFunc g args).run Tryz.prog w=.ok (.enter g args) w) (w:World) (hv:b7 w F v L.length (L.flatMap PV.enc)) (hlen:L.length<=17592186044416) (hp:KV g lb L p w) :
  Calls Tryz.prog 90 #[v,.func (.func g) #[] lb] w λe w'=>e=.returned (.bool (L.any p))/\Below w.heap.size w w':=by
 have HV:=af hv;have mE:=af hp;clear hp hv
 go_in
 go_wp2_with (go_at_call 125;refine (tb_ F v L p g lb eg _ HV.o hlen mE.o).mono ?_;rintro e w1 ⟨i,rfl,hi,hb1⟩;have HI:=af hi;clear hi)
 go_ret;exact ⟨bX HI.o,hb1⟩
theorem OU (F:Nat->Prop) (v:Value) (L:List (Value × List Per)) (p:(Value × List Per)->Bool) (g:Nat) (lb:Array Value) (eg:∀ args w,(callFunc g args).run Tryz.prog w=.ok (.enter g args) w) (w:World) (hv:b7 w F v L.length (L.map Prod.fst)) (hlen:L.length<=17592186044416) (hp:SM g lb L p w) :
  Calls Tryz.prog 107 #[v,.func (.func g) #[] lb] w λe w'=>e=.returned (.bool (L.any p))/\Below w.heap.size w w':=by
 have HV:=af hv;have mE:=af hp;clear hp hv
 go_in
 go_wp2_with (go_at_call 146;refine (tc_ F v L p g lb eg _ HV.o hlen mE.o).mono ?_;rintro e w1 ⟨i,rfl,hi,hb1⟩;have HI:=af hi;clear hi)
 go_ret;exact ⟨bX HI.o,hb1⟩
theorem Zv (v:Value) (l:List Int) (i:Nat) (k:Int) (hk:k=i) (w:World) (h:qn w v l) (hi:i<=100) :
  Calls Tryz.prog 81 #[v,.int .i64 k] w λe w'=>e=.returned (.int .i64 (l.getD i 0))/\Below w.heap.size w w':=by
 subst hk;obtain ⟨⟨a1,c1,rfl,h3⟩,g2,g3⟩:=h;by_cases hl:i<l.length
 .rcases h3 with h3|⟨b,o,rfl,hc⟩
  .rw [h3] at hl;simp at hl
  have hci:=hc i hl;have hr:=g3 _ (dI (d:=0) hl);have tJ:(i:Int)<l.length:=ad;generalize l.getD i 0=x at *;clear hc g3
  go_in
  go_wp2
  go_ret;exact ⟨rfl,xE⟩
 have hx:l.getD i 0=0:=by rw [VS,DS ad];rfl
 have tJ:¬ (i:Int)<l.length:=ad;rw [hx];clear h3 g3
 go_in
 go_wp2
 go_ret;exact ⟨rfl,xE⟩
theorem qn.rng0 (h:qn w v l) (i:Nat):0<=l.getD i 0/\l.getD i 0<=255:=by
 by_cases hl:i<l.length
 .exact h.rng _ (dI (d:=0) hl)
 rw [VS,DS ad];decide
theorem al.kept_far (h:al w base v l) (hg:w.grownBy w' row) (h1:∀ q,v.ownBlock=some q->q<B) (h2:∀ q,row=some q->B<=q):al w' base v l:=h.kept hg (by
 by_cases hn:v.ownBlock=none
 .exact .inl hn
 refine .inr λe=>?_;obtain ⟨q,hq⟩:=Option.ne_none_iff_exists'.1 hn;have:=h1 q hq;have:=h2 q (e.symm.trans hq);omega)
def gh (x k:Int):Bool:=(x / 2 ^ k.toNat).tmod 2 == 1
theorem q6t (k:Nat):upto (k+1)=upto k ++ [(k:Int)]:=by unfold upto;rw [q7x,UZ];rfl
theorem Yv {f:Int->Bool} {cl:List Int} (h:cl=(upto k).filter f) (hf:f k=true):cl ++ [(k:Int)]=(upto (k+1)).filter f:=by
 rw [q6t,MG,<- h,List.filter_cons_of_pos hf];rfl
theorem q7c {f:Int->Bool} {cl:List Int} (h:cl=(upto k).filter f) (hf:f k=false):cl=(upto (k+1)).filter f:=by
 rw [q6t,MG,<- h,q8r (by rw [hf];simp)];simp
theorem Js (f:Int->Bool) (k:Nat):aH 0 k ((upto k).filter f):=by
 refine aH.filter ⟨?_,λx hx=>?_⟩ f
 .unfold upto;rw [zf];exact List.pairwise_lt_range.imp λh=>ad
 obtain ⟨i,hi,rfl⟩:=VC.1 hx;rw [MN] at hi;omega
def dQ (l:List Int):Per:=⟨(upto (l.getD 1 0 % 9).toNat).filter (gh (l.getD 4 0)),l.getD 1 0 % 9,1+l.getD 0 0 % 12,(upto (1+l.getD 0 0 % 12).toNat).filter (gh (l.getD 2 0+256*l.getD 3 0))⟩
theorem KA (l:List Int):(dQ l).WF/\(dQ l).frm<=8/\(dQ l).period<=12:=by
 have h1:0<=l.getD 1 0 % 9/\l.getD 1 0 % 9<9:=ad;have h2:1<=1+l.getD 0 0 % 12/\1+l.getD 0 0 % 12<=12:=ad;refine ⟨⟨h1.1,h2.1,?_,?_⟩,by show l.getD 1 0 % 9<=8;omega,h2.2⟩
 .have:=Js (gh (l.getD 4 0)) (l.getD 1 0 % 9).toNat;rw [S6 h1.1] at this;exact this
 have:=Js (gh (l.getD 2 0+256*l.getD 3 0)) (1+l.getD 0 0 % 12).toNat;rw [S6 ad] at this;exact this
theorem ma_ (v:Value) (l:List Int) (w:World) (h1:qn w v l) :
  Calls Tryz.prog 80 #[v] w λe w'=>∃ (h c:Value),e=.returned (ar h c (dQ l).frm (dQ l).period)/\jC w' w.heap.size h c (dQ l)/\Below w.heap.size w w':=by
 have BV:Hid (dQ l=⟨(upto (l.getD 1 0 % 9).toNat).filter (gh (l.getD 4 0)),l.getD 1 0 % 9,1+l.getD 0 0 % 12,(upto (1+l.getD 0 0 % 12).toNat).filter (gh (l.getD 2 0+256*l.getD 3 0))⟩):=af rfl;have uh:=λW (i:Nat) (k:Int) (hk:k=i) (hi:i<=100) (hb:Below w.heap.size w W)=>Zv v l i k hk W (h1.ext hb) hi;have r0:=h1.rng0 0;have r1:=h1.rng0 1;have r2:=h1.rng0 2;have r3:=h1.rng0 3;have r4:=h1.rng0 4;obtain ⟨⟨a1,c1,rfl,_⟩,g2,_⟩:=h1;have Tj:=λW hb=>uh W 0 0 rfl ad hb;have jY:=λW hb=>uh W 1 1 rfl ad hb;have qM:=λW hb=>uh W 2 2 rfl ad hb;have Tk:=λW hb=>uh W 3 3 rfl ad hb;have qN:=λW hb=>uh W 4 4 rfl ad hb;generalize dQ l=fp at *;generalize l.getD 0 0=x0 at *;generalize l.getD 1 0=x1 at *;generalize l.getD 2 0=x2 at *;generalize l.getD 3 0=x3 at *;generalize l.getD 4 0=x4 at *;clear uh;have pr:=VK x1 (show (9:Int)≠0 by omega);have tE:=VM x1 (show (0:Int)<9 by omega);have xU:=VK x0 (show (12:Int)≠0 by omega);have PQ:=VM x0 (show (0:Int)<12 by omega)
 go_in
 go_wp2_with (go_at_call 81;first
  | ((with_reducible refine (jY _ xE).mono ?_);rintro e w1 ⟨rfl,hb1⟩;have hW1:Below w.heap.size w w1:=by exact xE)
  | ((with_reducible refine (Tj _ xE).mono ?_);rintro e w2 ⟨rfl,hb2⟩;have hW2:Below w.heap.size w w2:=by exact xE)
  | ((with_reducible refine (qM _ xE).mono ?_);rintro e w3 ⟨rfl,hb3⟩;have hW3:Below w.heap.size w w3:=by exact xE)
  | ((with_reducible refine (Tk _ xE).mono ?_);rintro e w4 ⟨rfl,hb4⟩;have JN:Below w.heap.size w w4:=by exact xE))
 obtain ⟨b3,AN⟩:∃ b3,b3=w2.heap.size:=⟨_,rfl⟩;rw [<- AN];have hz2:=hb2.size;have hz3:=hb3.size;have Kj:=hb4.size;simp only [U7] at hz2 hz3 Kj;have hz1:=hb1.size;simp only [U7] at hz1;have hbx:ag w4 b3 #[.slice none 0 0,.int .i64 (x1 % 9),.int .i64 (1+x0 % 12),.slice none 0 0] 80:=((ag.at AN).below hb3).below hb4;have eu:ag w4 w.heap.size #[.slice none 0 0,.int .i64 0,.int .i64 0,.slice none 0 0] 80:=((((ag.at (w:=w) rfl).below hb1).below hb2 |>.alloc _).below hb3).below hb4;have hb3l:w.heap.size<b3:=ad;have hb3z:b3<w4.heap.size:=ad;generalize x1 % 9=A at *;generalize x0 % 12=T0 at *;obtain ⟨N,hN⟩:∃ N:Nat,A=N:=⟨A.toNat,ad⟩;subst hN;obtain ⟨T,hT⟩:∃ T:Nat,1+T0=T:=⟨(1+T0).toNat,ad⟩;rw [hT] at hbx BV ⊢;have hTl:1<=T/\T<=12:=ad;have hx23:0<=x2+256*x3/\x2+256*x3<=65535:=ad;generalize x2+256*x3=bits at *;clear hT Tj jY qM Tk hb1 hb2 hb3 hb4 hW1 hW2 hW3 AN hz1 hz2 hz3 Kj;have HW4:=af JN;clear JN;go_loopw [5] (λkv wr=>∃ (k:Nat) (cl:List Int) (a:Option Addr) (c:Nat),k<=T/\kv=.int .i64 k/\Hid (cl=(upto k).filter (gh bits))/\Hid (al wr w4.heap.size (.slice a cl.length c) cl)/\Hid (ag wr b3 #[.slice none 0 0,.int .i64 N,.int .i64 T,.slice a cl.length c] 80)/\Hid (ag wr w.heap.size #[.slice none 0 0,.int .i64 0,.int .i64 0,.slice none 0 0] 80)/\Hid (Below w.heap.size w wr)/\w4.heap.size<=wr.heap.size) (λkv _=>T-(intOf kv).toNat)
 .exact ⟨0,[],none,0,ad,rfl,af rfl,af (al.nil _ _),af hbx,af eu,HW4,TZ _⟩
 obtain ⟨k,cl,a,c,hk,rfl,HR,HO,cD,oo,HB,hz⟩:=hrel;obtain ⟨wo,qF⟩:∃ wo,wo=wr:=⟨_,rfl⟩;subst qF;have m0:=(cD.o.cells 2).1;have m1:=(cD.o.cells 3).1;have hlen:cl.length<=12:=by rw [HR.o];have:=(Js (gh bits) k).length_le ad;omega
 by_cases hlt:k<T
 .have fg:(k:Int)<T:=ad;go_wp2_with (at_builtin;(refine qc aC _ _ aC w4.heap.size (.slice a cl.length c) cl k aC (HO.o.ext (Ea (Er _) _)) _ _ aC aj ⟨ad,ad⟩ ad aR ?_;intro g cap w5 az aJ cd;have iU:=(cD.o.alloc (.cells #[.int .i64 k] 3)).grown aJ (λe=>by have h7:=(HO.o.lt _ e.symm).1;omega);have sH:=(oo.o.alloc (.cells #[.int .i64 k] 3)).grown aJ (λe=>by have h7:=(HO.o.lt _ e.symm).1;omega);have g0:=iU.cells 3;have od:=aJ.size;rw [U7] at od;have lG:=af az;have yY:=af iU;have zG:=af sH;have gj:=af cd;clear az iU sH aJ cd))
  .go_roundw
   .have e:(cl ++ [(k:Int)]).length=cl.length+1:=by simp
    refine ⟨k+1,cl ++ [(k:Int)],some ⟨g,0,none⟩,cap,ad,by go_num,af (Yv HR.o (by simp only [gh,VG];assumption)),af ?_,af ?_,af ?_,af ?_,?_⟩
    .rw [e];exact lG.o.kept_lt (λq hq=>⟨DO _ _ _ q (by have:=(lG.o.lt q hq).1;show q≠b3;omega),aj⟩)
    .rw [e];exact bE 3 _ yY.o
    .exact zG.o.setNe _ ad
    .exact ((HB.o.trans (((Ea (Er wo) _).mono HB.o.size))).trans (gj.o.mono ad)).setCell (p:=⟨b3,3,none⟩) (by show w.heap.size<=b3;omega) _
    simp;omega
   simp [intOf];omega
  go_roundw
  .exact ⟨k+1,cl,a,c,ad,by go_num,af (q7c HR.o (by simp only [gh,VG];assumption)),HO,cD,oo,HB,hz⟩
  simp [intOf];omega
 obtain rfl:k=T:=ad;obtain ⟨W1,hW1⟩:∃ W1,W1=wo:=⟨_,rfl⟩;have hcl:=HO.o.lt;have BR:Hid (al wo w4.heap.size (.slice a cl.length c) cl):=HO;clear m1;go_wp2_with fail;clear m0;go_loopw [6] (λkv wr=>∃ (j:Nat) (hl:List Int) (a':Option Addr) (c':Nat),j<=N/\kv=.int .i64 j/\Hid (hl=(upto j).filter (gh x4))/\Hid (al wr wo.heap.size (.slice a' hl.length c') hl)/\Hid (al wr w4.heap.size (.slice a cl.length c) cl)/\Hid (ag wr b3 #[.slice a' hl.length c',.int .i64 N,.int .i64 k,.slice a cl.length c] 80)/\Hid (ag wr w.heap.size #[.slice none 0 0,.int .i64 0,.int .i64 0,.slice none 0 0] 80)/\Hid (Below w.heap.size w wr)/\wo.heap.size<=wr.heap.size) (λkv _=>N-(intOf kv).toNat)
 .exact ⟨0,[],none,0,ad,rfl,af rfl,af (al.nil _ _),HO,cD,oo,HB,TZ _⟩
 obtain ⟨j,hl,a',c',hj,rfl,jh,uH,y_,fE,o_,bl,hz2⟩:=hrel;obtain ⟨w7,hw7⟩:∃ w7,w7=wr:=⟨_,rfl⟩;subst hw7;have m0:=(fE.o.cells 1).1;have Vr:hl.length<=12:=by rw [jh.o];have:=(Js (gh x4) j).length_le ad;omega
 by_cases hlt2:j<N
 .have sm:(j:Int)<N:=ad;go_wp2_with (first|(go_at_call 81;(with_reducible refine (qN _ bl.o).mono ?_);rintro e w8 ⟨rfl,eo⟩;have AQ:=fE.o.below eo;have g1:=AQ.cells 0;have hz8:=eo.size;have Du:=af AQ;have fV:=af eo;clear AQ eo)|(at_builtin;(refine qc aC _ _ aC wo.heap.size (.slice a' hl.length c') hl j aC ((uH.o.ext fV.o).ext (Ea (Er _) _)) _ _ aC aj ⟨ad,ad⟩ ad aR ?_;intro g cap w5 az aJ cd;have hne:∀ q,(Value.slice a' hl.length c').ownBlock=some q->wo.heap.size<=q:=λq e=>(uH.o.lt _ e).1;have iU:=(Du.o.alloc (.cells #[.int .i64 j] 3)).grown aJ (λe=>by have h7:=hne _ e.symm;omega);have sH:=((o_.o.below fV.o).alloc (.cells #[.int .i64 j] 3)).grown aJ (λe=>by have h7:=hne _ e.symm;omega);have Gh:=((y_.o.ext fV.o).ext (Ea (Er _) (.cells #[.int .i64 j] 3))).kept_far aJ (λq hq=>(hcl q hq).2) hne;have g0:=iU.cells 0;have od:=aJ.size;rw [U7] at od;have lG:=af az;have DA:=af Gh;have yY:=af iU;have zG:=af sH;have gj:=af cd;clear az iU sH aJ cd Gh)))
  .go_roundw
   .have e:(hl ++ [(j:Int)]).length=hl.length+1:=by simp
    refine ⟨j+1,hl ++ [(j:Int)],some ⟨g,0,none⟩,cap,ad,by go_num,af (Yv jh.o (by simp only [gh,VG];assumption)),af ?_,af ?_,af ?_,af ?_,af ?_,?_⟩
    .rw [e];exact lG.o.kept_lt (λq hq=>⟨DO _ _ _ q (by have:=(lG.o.lt q hq).1;show q≠b3;omega),aj⟩)
    .exact DA.o.kept_lt (λq hq=>⟨DO _ _ _ q (by have:=(DA.o.lt q hq).1;show q≠b3;omega),aj⟩)
    .rw [e];exact bE 0 _ yY.o
    .exact zG.o.setNe _ ad
    .exact (((bl.o.trans (fV.o.mono bl.o.size)).trans (((Ea (Er w8) _).mono (by have:=bl.o.size;omega)))).trans (gj.o.mono ad)).setCell (p:=⟨b3,0,none⟩) (by show w.heap.size<=b3;omega) _
    simp;omega
   simp [intOf];omega
  go_roundw
  .exact ⟨j+1,hl,a',c',ad,by go_num,af (q7c jh.o (by simp only [gh,VG];assumption)),af (uH.o.ext fV.o),af (y_.o.ext fV.o),Du,af (o_.o.below fV.o),af (bl.o.trans (fV.o.mono bl.o.size)),ad⟩
  simp [intOf];omega
 obtain rfl:j=N:=ad;have g0:=fE.o.cells 0;have g1:=fE.o.cells 1;have g2:=fE.o.cells 2;have g3:=fE.o.cells 3;have q0:=o_.o.cells 0;have q1:=o_.o.cells 1;have q2:=o_.o.cells 2;have q3:=o_.o.cells 3;go_wp2;exact VN (v:=ar (.slice a' hl.length c') (.slice a cl.length c) j k) (by simp [results,Tryz.results80,go_sem, *]) rfl (by
  have e:fp=⟨hl,j,k,cl⟩:=by rw [BV.o,jh.o,HR.o];simp
  rw [e];exact ⟨_,_,rfl,⟨(uH.o.above (by (repeat' (with_reducible first|exact cm.refl _ _|refine cm.alloc ?_ _|refine cm.drew ?_|refine cm.drewN ?_ _|refine cm.setCell ?_ (by first|(simp;done)|(simp;omega)|omega) _)))).mono ad,(y_.o.above (by (repeat' (with_reducible first|exact cm.refl _ _|refine cm.alloc ?_ _|refine cm.drew ?_|refine cm.drewN ?_ _|refine cm.setCell ?_ (by first|(simp;done)|(simp;omega)|omega) _)))).mono ad⟩,by have:=bl.o;exact xE⟩)
def hasB (p:Per) (n:Int):Bool:=validB p && decide (0<=n) && cg p n
def inB (t:List Per) (n:Int):Bool:=t.all λp=>hasB p n
def gZ (t:List Per):Bool:=decide (1<=t.length) && decide (t.length<=4) && t.all validB
def ef (m:List (List Per)):Bool:=decide (m.length<=64) && m.all gZ
def pt (m:List (List Per)) (n:Int):Bool:=ef m && m.any λt=>inB t n
theorem Y5 {α:Type} (l:List α) (p:α->Bool):(!l.any λx=>!p x)=l.all p:=by
 induction l with
 | nil=>rfl
 | cons a l ih=>simp only [List.any_cons,List.all_cons,<- ih];cases p a <;> simp
theorem Nt (F:Nat->Prop) (x:PV) (n:Int) (db:Nat) (w:World) (hx:bD w F x) (hc:w.cell? ⟨db,0,none⟩=some (.int .i64 n)) (hn:aS n) :
  Calls Tryz.prog 214 #[x.val,.pointer (some ⟨db,0,none⟩)] w λe w'=>e=.returned (.bool (!hasB x.p n))/\Below w.heap.size w w':=by
 have H:=λW (h:Below w.heap.size w W)=>Nq x.h x.c x.p n W (hx.is.ext h) hn;have hlt:=N8 w _ hc;have e0:∀ o,(w.alloc o).cell? ⟨db,0,none⟩=some (.int .i64 n):=λo=>dW hc o;change ∀ W,_->Calls _ _ _ _ λe w'=>e=.returned (.bool (hasB x.p n))/\_ at H;clear hc hx;generalize hasB x.p n=b at H ⊢
 go_in
 go_wp2_with (go_at_call 215;refine (H _ xE).mono ?_;rintro e w1 ⟨rfl,hb1⟩)
 go_ret;exact ⟨rfl,xE⟩
theorem y2_ (F:Nat->Prop) (L:List PV) (n:Int) (db:Nat) (w:World) (hL:∀ x∈L,bD w F x) (hc:w.cell? ⟨db,0,none⟩=some (.int .i64 n)) (hn:aS n) :
  KV 214 #[.pointer (some ⟨db,0,none⟩)] L (λx=>!hasB x.p n) w:=λW x hW hx=>by
 have h:=Nt F x n db W ((hL x hx).keep (aP.below hW)) (an.cell hW hc) hn;have e:(#[x.val] ++ #[Value.pointer (some ⟨db,0,none⟩)])=#[x.val,.pointer (some ⟨db,0,none⟩)]:=by simp
 rw [e];exact h.mono λe w' ⟨h1,h2⟩=>⟨h1,hW.trans (h2.mono hW.size)⟩
theorem ZG (F:Nat->Prop) (v:Value) (t:List Per) (n:Int) (w:World) (ht:bK w F v t) (hn:aS n) :
  Calls Tryz.prog 180 #[v,.int .i64 n] w λe w'=>e=.returned (.bool (inB t n))/\Below w.heap.size w w':=by
 obtain ⟨L,rfl,hL⟩:=ht;have hb0:Below w.heap.size w (w.alloc (.cells #[.int .i64 n] 3)):=by exact xE
 have h0:=V8 F v L (λx=>!hasB x.p n) 214 #[.pointer (some ⟨w.heap.size,0,none⟩)] (enters_of Tryz.func214 (by kernel_rfl) rfl) (w.alloc (.cells #[.int .i64 n] 3)) (hL.row.keep (aP.below hb0) hb0.size) hL.len
  (y2_ F L n w.heap.size _ (λx hx=>(hL.all x hx).keep (aP.below hb0)) aj hn)
 have he:inB (L.map PV.p) n=!(L.any λx=>!hasB x.p n):=by rw [Y5];unfold inB;rw [List.all_map];rfl
 rw [he];clear hL he hb0;generalize (L.any λx=>!hasB x.p n)=b at h0 ⊢
 go_in
 go_wp2_with (go_at_call 90;refine h0.mono ?_;rintro e w1 ⟨rfl,hb1⟩)
 go_ret;exact ⟨rfl,xE⟩
theorem ug_ (F:Nat->Prop) (x:PV) (w:World) (hx:bD w F x) :
  Calls Tryz.prog 91 #[x.val] w λe w'=>e=.returned (.bool (!validB x.p))/\Below w.heap.size w w':=by
 have H:=λW (h:Below w.heap.size w W)=>rD x.h x.c x.p W (hx.is.ext h);clear hx;generalize validB x.p=b at H ⊢
 go_in
 go_wp2_with (go_at_call 92;refine (H _ xE).mono ?_;rintro e w1 ⟨rfl,hb1⟩)
 go_ret;exact ⟨rfl,xE⟩
theorem ra_ (F:Nat->Prop) (L:List PV) (w:World) (hL:∀ x∈L,bD w F x):KV 91 #[] L (λx=>!validB x.p) w:=λW x hW hx=>by
 have h:=ug_ F x W ((hL x hx).keep (aP.below hW));have e:(#[x.val] ++ (#[]:Array Value))=#[x.val]:=by simp
 rw [e];exact h.mono λe w' ⟨h1,h2⟩=>⟨h1,hW.trans (h2.mono hW.size)⟩
theorem xf_ (F:Nat->Prop) (v:Value) (t:List Per) (w:World) (ht:bK w F v t) :
  Calls Tryz.prog 90 #[v,.func (.func 91) #[] #[]] w λe w'=>e=.returned (.bool (!t.all validB))/\Below w.heap.size w w':=by
 obtain ⟨L,rfl,hL⟩:=ht;have h:=V8 F v L (λx=>!validB x.p) 91 #[] (enters_of Tryz.func91 (by kernel_rfl) rfl) w hL.row hL.len (ra_ F L w hL.all);have he:(!(L.map PV.p).all validB)=L.any λx=>!validB x.p:=by
  rw [List.all_map,<- Bool.not_not (L.any _),Y5];rfl
 rw [he];exact h
theorem RU {α:Type} {l:List α} {d:α} {p:α->Bool} (h:k<l.length):(l.take (k+1)).all p=((l.take k).all p && p (l.getD k d)):=by
 rw [LF h,List.all_append,VS,U2 h];simp
theorem all_false {α:Type} {l:List α} {d:α} {p:α->Bool} (h:k<l.length) (hp:p (l.getD k d)=false):l.all p=false:=by
 rw [List.all_eq_false];exact ⟨_,dI (d:=d) h,by rw [hp];decide⟩
theorem bK.form {F:Nat->Prop} (h:bK W F v t):∃ a c,v=.slice a t.length c/\t.length<=17592186044416:=by
 obtain ⟨L,rfl,hL⟩:=h;obtain ⟨a,c,rfl,_⟩:=hL.row;exact ⟨a,c,by rw [U6],by rw [U6];exact hL.len⟩
theorem cI.get {F:Nat->Prop} {a:Option Addr} {L:List (Value × List Per)} (h:cI w F (.slice a n c) L) (hk:k<L.length) :
  ∃ b o tv,a=some ⟨b,o,none⟩/\w.cell? ⟨b,o+k,none⟩=some tv/\bK w F tv ((L.map Prod.snd).getD k []):=by
 obtain ⟨a',c',he,h1,h2,h3⟩:=h.row;injection he with e1 _ e2
 subst e1;subst e2;rcases h3 with h3|⟨b,o,rfl,hF,hl,hc⟩
 .omega
 refine ⟨b,o,(L.getD k default).1,rfl,hc k _ ?_,?_⟩
 .rw [OA,VS,U2 hk];rfl
 have:=h.all _ (dI (d:=default) hk);rw [show (L.map Prod.snd).getD k []=(L.getD k default).2 by simp [VS,hk]];exact this
theorem tr (F:Nat->Prop) (v:Value) (m:List (List Per)) (w:World) (hm:aF w F v m) :
  Calls Tryz.prog 49 #[.agg #[v]] w λe w'=>e=.returned (.bool (ef m))/\Below w.heap.size w w':=by
 obtain ⟨L,AE,hL⟩:=hm;obtain ⟨a,c,rfl,_⟩:=hL.row;have HL:=af hL;have hlen:=hL.len;have dF:m.length=L.length:=by rw [<- AE];exact U6 _
 have qW:=af AE;have HM:=af dF;clear hL AE dF
 go_in
 go_wp2_with fail
 .rename_i JW;go_ret;refine ⟨bX ?_,xE⟩;have:=HM.o;unfold ef;rw [P9 ad];rfl
 rename_i JW;go_loopw [4,12] (λ_ i wr=>∃ k:Nat,k<=L.length/\i=.int .i64 k/\(m.take k).all gZ=true/\Below w.heap.size w wr) (λ_ i _=>L.length-(intOf i).toNat)
 .exact ⟨0,ad,rfl,rfl,xE⟩
 obtain ⟨k,hk,rfl,hpre,hb⟩:=hrel;have HB:=af hb;have cT:=af hpre;clear hpre;by_cases hlt:k<L.length
 .have cP:(k:Int)<L.length:=ad;obtain ⟨b8,f8,tv,rfl,hcell,hT⟩:=(HL.o.keep (aP.below hb) hb.size).get hlt;rw [qW.o] at hT;have HT:=af hT;have ig:Hid ((m.take (k+1)).all gZ=((m.take k).all gZ && gZ (m.getD k []))):=af (RU (by have:=HM.o;omega));have HF:Hid (gZ (m.getD k [])=false->ef m=false):=af λh=>by unfold ef;rw [all_false (d:=[]) (by have:=HM.o;omega) h,yw]
  generalize m.getD k []=t at *;obtain ⟨a2,c2,rfl,Rg⟩:=hT.form;have yW:=λW h=>xf_ F _ t W (HT.o.ext h);clear hT;by_cases h1:t.length<1
  .have Jy:(t.length:Int)<1:=ad;go_wp2;go_ret;refine ⟨bX (HF.o ?_).symm,HB.o⟩;unfold gZ;rw [P9 ad];rfl
  by_cases h2:4<t.length
  .have Fv:4<(t.length:Int):=ad;go_wp2;go_ret;refine ⟨bX (HF.o ?_).symm,HB.o⟩;unfold gZ;rw [P9 (p:=t.length<=4) ad,yw];rfl
  have Jy:¬ (t.length:Int)<1:=ad;have Fv:¬ 4<(t.length:Int):=ad;cases hq:t.all validB with
  | false=>
   rw [hq] at yW;have HQ:=af hq;clear hq;go_wp2_with (go_at_call 90;refine (yW _ xE).mono ?_;rintro e w1 ⟨rfl,hb1⟩);go_ret;refine ⟨bX (HF.o ?_).symm,xE⟩;unfold gZ;rw [HQ.o,yw]
  | true=>
   rw [hq] at yW;have HQ:=af hq;clear hq;go_wp2_with (go_at_call 90;refine (yW _ xE).mono ?_;rintro e w1 ⟨rfl,hb1⟩);go_roundw
   .refine ⟨k+1,ad,by go_num,?_,xE⟩;rw [ig.o,cT.o];unfold gZ;rw [HQ.o,PH ad,PH ad];rfl
   simp [intOf];omega
 obtain rfl:k=L.length:=ad;go_wp2;go_ret;refine ⟨bX ?_,HB.o⟩;have:=cT.o;rw [<- HM.o,OC] at this;unfold ef;rw [this,PH (by have:=HM.o;omega)];rfl
end
end Go.Proofs.YtbmgmlbmgogeaaaGreat
end
