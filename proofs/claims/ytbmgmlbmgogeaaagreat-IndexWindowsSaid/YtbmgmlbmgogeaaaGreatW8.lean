/- Part 8 of the proof of the laws. -/
import Derived.Test.YtbmgmlbmgogeaaaGreatW7
import Derived.Maps.RangeWalk
import Derived.Maps.OwnSet
import Derived.Test.YtbmgmlbmgogeaaaGreatW4
import Derived.Test.YtbmgmlbmgogeaaaGreatW6
set_option linter.unusedVariables false
set_option linter.unusedSimpArgs false
set_option maxRecDepth 100000
set_option maxHeartbeats 4000000
set_option linter.defProp false
abbrev q8s:=@List.filter_eq_self
section
variable {av bv:Array Go.Value}{a e i r s x:Int}{m:List (List Kal.Per)}{l:List Int}{t:List Kal.Per}{xs:List Go.Value}{B c j k n sz:Nat}{row:Option Nat}{p:Kal.Per}{v v':Go.Value}{A C W W' W1 W2 w w':Go.World}
namespace Go.Proofs.YtbmgmlbmgogeaaaGreat
section
open Go.RowKit Go.Maps Kal
abbrev fU (g:Nat->Bool):Array Value:=#[.bool (g 0),.bool (g 1),.bool (g 2),.bool (g 3),.bool (g 4),.bool (g 5),.bool (g 6)]
theorem H9 (g:Nat->Bool) {r:Nat} (h:r<7):(fU g)[r]? = some (.bool (g r)):=by
 have:r=0\/r=1\/r=2\/r=3\/r=4\/r=5\/r=6:=ad;rcases this with rfl|rfl|rfl|rfl|rfl|rfl|rfl <;> rfl
def uW (g:Nat->Bool) (f u:Int):Prop:=∃ d,f<=d/\d<=u/\d<f+7/\g (d % 7).toNat=true
def q2i (g:Nat->Bool) (f u:Int) (w:World) (e:Ending) (w':World):Prop:=∃ r:Bool,e=.returned (.bool r)/\(r=true↔uW g f u)/\Below w.heap.size w w'
theorem q4d (g:Nat->Bool) (len a b:Int) (w:World) (h1:0<=len) (h2:len<=10080) (a1:-2251799813685248<=a) (a2:a<=2251799813685248) (b1:-2251799813685248<=b) (b2:b<=2251799813685248) :
  Calls Tryz.prog 37 #[.agg (fU g),.int .i64 len,.agg #[.int .i64 a,.int .i64 b]] w (q2i g ((a-len) / 1440) (b / 1440) w):=by
 show Calls _ _ #[.agg #[.bool (g 0),.bool (g 1),.bool (g 2),.bool (g 3),.bool (g 4),.bool (g 5),.bool (g 6)],_,_] _ _;obtain ⟨f,hf⟩:∃ f,(a-len) / 1440=f:=⟨_,rfl⟩;obtain ⟨t,ht⟩:∃ t,b / 1440=t:=⟨_,rfl⟩;have hfb:-2000000000000<=f/\f<=2000000000000:=ad;have G9:-2000000000000<=t/\t<=2000000000000:=ad;obtain ⟨f1,f2⟩:=hfb;obtain ⟨t1,t2⟩:=G9;have HF:=λW=>Jj (a-len) W ad ad;have HT:=λW=>Jj b W ad ad;rw [hf] at HF;rw [ht] at HT;rw [hf,ht];have HF:=af HF;have HT:=af HT;clear hf ht
 go_in
 go_wp2_with fail
 go_quiet (first|(go_at_call 70;(with_reducible exact Calls.quiet_of_same ((HF.o _).mono λe w' h=>⟨h.1,h.2.symm⟩)))|(go_at_call 70;(with_reducible exact Calls.quiet_of_same ((HT.o _).mono λe w' h=>⟨h.1,h.2.symm⟩))))
 go_wp2_with fail
 have iB:Hid (ag ((w.alloc (.cells (fU g) 93)).alloc (.cells #[.int .i64 a,.int .i64 b] 29)) w.heap.size (fU g) 93):=af ((ag.at rfl).alloc _);go_loopw [9] (λv wr=>∃ d,v=.int .i64 d/\f<=d/\d<=f+7/\Hid (∀ x,f<=x->x<d->g (x % 7).toNat=false)/\Hid (ag wr w.heap.size (fU g) 93)/\Hid (Below w.heap.size w wr)) (λv _=>(f+7-intOf v).toNat)
 .exact ⟨f,rfl,ad,ad,af (by intro x h1 h2;omega),(by first|exact iB|exact af (iB.o.below (En (Er _) _))),af xE⟩
 obtain ⟨d,rfl,d1,d2,HN,HX,HB⟩:=hrel;have n_:=HX.o.lt;have done:¬ (d<=t/\d<f+7)->¬ uW g f t:=by
  rintro hc ⟨x,x1,x2,x3,x4⟩;have:=HN.o x x1 ad;rw [x4] at this;cases this
 have HD:=af done;clear done;by_cases hA:d<=t
 .by_cases hC:d<f+7
  .have HW:=λW=>Jh d W ad ad;obtain ⟨r,hr⟩:∃ r,d % 7=r:=⟨_,rfl⟩;have eu:0<=r/\r<7:=ad;obtain ⟨r1,r2⟩:=eu;rw [hr] at HW;have HW:=af HW;have q:wr.cell? ⟨w.heap.size,r.toNat,none⟩=some (.bool (g r.toNat)):=((HX.o.cells r.toNat).1).trans (H9 g ad);have HR:=af hr;have pF:r.toNat<7:=ad;clear hr;cases hg:g r.toNat with
   | true=>
    rw [hg] at q;have HG:=af hg;clear hg;go_wp2_with (go_at_call 71;refine (HW.o _).mono ?_;rintro e w1 ⟨rfl,rfl⟩);go_ret;exact ⟨true,rfl,⟨λ_=>⟨d,d1,hA,hC,by rw [HR.o];exact HG.o⟩,λ_=>rfl⟩,HB.o⟩
   | false=>
    rw [hg] at q;have HG:=af hg;clear hg;go_wp2_with (go_at_call 71;refine (HW.o _).mono ?_;rintro e w1 ⟨rfl,rfl⟩);go_roundw
    .exact ⟨d+1,rfl,ad,ad,af λx x1 x2=>by
     by_cases e:x=d
     .subst e;rw [HR.o];exact HG.o
     exact HN.o x x1 ad,HX,HB⟩
    simp [intOf];omega
  have HE:=af (HD.o ad);go_wp2;go_ret;exact ⟨false,rfl,⟨λh=>(by cases h),λh=>absurd h HE.o⟩,HB.o⟩
 have HE:=af (HD.o ad);go_wp2;go_ret;exact ⟨false,rfl,⟨λh=>(by cases h),λh=>absurd h HE.o⟩,HB.o⟩
abbrev ET:Value->Option (DataW Value × List MemPlace):=λv=>some (.held v,[])
structure fH (D:DataW Value) (E:List (Int × Value)):Prop where
 val:∀ i v,(i,v)∈E->∀ zd,D.atKey (.int .i64 i) zd=.held v
 has:∀ i,Maps.has D (.int .i64 i)=true↔i∈E.map Prod.fst
 nodup:(E.map Prod.fst).Nodup
def df (w:World) (b n:Nat) (E:List (Int × Value)):Prop:=∃ D,w.ownsMap Tryz.prog 3 ET b n D/\fH D E
structure kD (E:List (Int × Value)) (left:Lit->Bool) (l:List Int):Prop where
 nodup:l.Nodup
 mem:∀ x,x∈l↔(x∈E.map Prod.fst/\left (.int .i64 x)=false)
theorem kD.start {D:DataW Value} {E:List (Int × Value)} (h:fH D E):kD E (Maps.has D) []:=
 ⟨List.nodup_nil,λx=>by
  have:=h.has x;cases hh:Maps.has D (.int .i64 x) with
  | true=>simp
  | false=>rw [hh] at this;simp;simpa using this⟩
theorem kD.step {D:DataW Value} {E:List (Int × Value)} {left:Lit->Bool} (h:kD E left l) (hD:fH D E) (hl:left (.int .i64 x)=true) (hh:Maps.has D (.int .i64 x)=true) :
  kD E (λz=>left z && !z.sameKey (.int .i64 x)) (l ++ [x]):=by
 have hx:x ∉ l:=λhm=>by have:=((h.mem x).1 hm).2;rw [hl] at this;cases this
 refine ⟨yA.2 ⟨h.nodup,aj,?_⟩,λy=>?_⟩
 .intro a ha b hb;obtain rfl:b=x:=by simpa using hb
  rintro rfl;exact hx ha
 rw [VJ,h.mem,N2];have hs:Lit.sameKey (.int .i64 y) (.int .i64 x)=decide (y=x):=by simp [Lit.sameKey]
 rw [hs];by_cases e:y=x
 .subst e;simp;exact (hD.has y).1 hh |> VC.1 |> λ⟨p,hp,e⟩=>⟨p.2,by rw [<- e];exact hp⟩
 simp [e]
theorem kD.done {E:List (Int × Value)} {left:Lit->Bool} (h:kD E left l) (hE:(E.map Prod.fst).Pairwise (· < ·)) (hl:∀ kl,left kl=false):aw l=E.map Prod.fst:=
 Rz (Kq h.nodup) hE λx=>by rw [Cp,h.mem];simp [hl]
theorem y8_:∀ (key:Value) (kl:Lit),keyOf Tryz.prog 3 key=some kl->∃ x:Int,key=.int .i64 x:=λkey kl h=>by
 obtain ⟨x,hx,_⟩:=Maps.keyOf_int_inv Tryz.underlying3 h;exact ⟨x,hx⟩
theorem ya_ {kl:Lit} (h:keyOf Tryz.prog 3 (.int .i64 x)=some kl):kl=.int .i64 x/\aS x:=by
 obtain ⟨y,hy,hk,hw⟩:=Maps.keyOf_int_inv Tryz.underlying3 h;injection hy with _ hy
 subst hy;refine ⟨hk,?_⟩;have h2:=hw;simp [Lit.wf] at h2;have e1:IntKind.i64.min=-9223372036854775808:=rfl;exact ⟨ad,h2.2⟩
structure Nd (w:World) (b r n:Nat) (E:List (Int × Value)) (D:DataW Value) (v:Value) (W:World):Prop where
 ex:∃ left cnt l,W.ranges Tryz.prog 3 ET b r n D left cnt/\kD E left l/\al W (r+1) v l/\l.length+cnt<=n
 below:Below w.heap.size w W
def Oc (E:List (Int × Value)) (w:World) (e:Ending) (w':World):Prop:=∃ a c,e=.returned (.slice a E.length c)/\al w' w.heap.size (.slice a E.length c) (E.map Prod.fst)/\Below w.heap.size w w'
theorem Jf (p b n:Nat) (E:List (Int × Value)) (w:World) (hp:ag w p #[.map (some b)] 98) (hm:df w b n E) (hE:(E.map Prod.fst).Pairwise (· < ·)) (hn:n<=1000000) :
  Calls Tryz.prog 36 #[.pointer (some ⟨p,0,none⟩)] w (Oc E w):=by
 obtain ⟨D,hown,hD⟩:=hm;have hlt:=hown.lt;have hpl:=hp.lt;have q0:=(hp.cells 0).1;have hsz:=hown.size_le;have HD:=af hD;have HEE:=af hE;have aO:=af hown;clear hD hE hp
 go_in
 go_wp2_with (at_range;refine wpList_range_own _ rfl _ 96 rfl 3 95 (int_keyed Tryz.underlying3) Tryz.underlying96 _ b n D rfl aO.o ?_;intro w0 hrg hg hs0;have rj:=af hrg;have HG:=af hg;clear hrg hg)
 go_frame;have hz0:b<w0.heap.size:=ad;go_loopw [3,4,13,14,15,16,17,18,19,20] (λv3 _ _ _ _ _ _ _ _ _ wr=>∃ (a:Option Addr) (m c:Nat),v3=.slice a m c/\Hid (Nd w b w.heap.size n E D (.slice a m c) wr)) (λ_ _ _ _ _ _ _ _ _ _ wr=>wr.rangeLeft b w.heap.size)
 .exact ⟨none,0,0,rfl,af ⟨⟨_,_,[],rj.o,kD.start HD.o,al.nil _ _,by simpa using hsz⟩,(JV _ _).grown HG.o (TZ _) (λk e=>by cases e)⟩⟩
 obtain ⟨a,m,c,rfl,HS⟩:=hrel;obtain ⟨left,cnt,l,hr,hk,ho,hc⟩:=HS.o.ex;obtain ⟨a',c',he⟩:=ho.form;injection he with e1 e2 e3
 subst e2;clear e1 e3;have HR:=af hr;have HK:=af hk;have HO:=af ho;have HB:=af HS.o.below;clear hr hk ho;go_wp2_with (at_next;refine wpList_next_ranges _ rfl _ rfl 3 (int_keyed Tryz.underlying3) ET (Value.int .i64) (λv:Value=>v) y8_ (λv y hv=>⟨v,rfl⟩) b w.heap.size n _ _ _ rfl HR.o ?_ ?_)
 .intro h0 hl0;have HL:=af hl0;have pZ:=af (Kw (.slice a l.length c) l (w.heap.size+1) wr HO.o);clear hl0;go_wp2_with (go_at_call 69;(with_reducible refine pZ.o.mono ?_);rintro e w1 ⟨rfl,ho1,hg1⟩;have uG:=af ho1;have DK:=af hg1;clear ho1 hg1);go_ret;have hd:=HK.o.done HEE.o HL.o;have sy:l.length=E.length:=by rw [<- Ch,hd,U6]
  rw [sy] at uG ⊢;rw [hd] at uG;exact ⟨a,c,rfl,uG.o.mono ad,HB.o.grown DK.o (by have:=HB.o.size;omega) λk hk=>by have:=(HO.o.lt k hk).1;omega⟩
 intro x v kl yd yp w2 cnt2 hkey hlk hv hv2 hat hrg2 hlt2 hg2 hs2 hen;obtain ⟨rfl,hx⟩:=ya_ hkey;have hme:=HK.o.step HD.o hlk (has_true_of_atKey hat);have Ma:=af hme;have jh:=af hrg2;have yz:=HR.o.lt;have uH:=af (HO.o.kept hg2 (by
  rcases hq:(Value.slice a l.length c).ownBlock with _|q
  .exact .inl rfl
  exact .inr λe=>by have:=(HO.o.lt q hq).1;injection e with e;omega))
 have bl:=af (HB.o.grown hg2 (by have:=HB.o.size;omega) λk hk=>by injection hk with hk;omega);have hlt3:cnt2<cnt:=hlt2;have wF:=bl.o.size;clear hme hrg2 hlk hv hv2 hat hkey hg2 hs2;go_wp2_with (at_builtin;(refine qc aC _ _ aC (w.heap.size+1) (.slice a l.length c) l x aC (uH.o.ext (Ea (Er _) _)) w2.heap.size _ aC ((ag.at (w:=w2) (b:=w2.heap.size) (c:=#[.int .i64 x]) (t:=3) rfl).cells 0).1 hx ad (by rw [U7];omega) ?_);intro g cap w5 az aJ cd;have lG:=af az;have uq:=af aJ;have bW:=af cd;clear az aJ cd);have wB:=(jh.o.alloc (.cells #[.int .i64 x] 3)).kept uq.o (λe=>by have:=(HO.o.lt b (by rw [<- e])).1;omega) (λe=>by have:=(HO.o.lt _ (by rw [<- e])).1;omega);go_roundw
 .exact ⟨some ⟨g,0,none⟩,l.length+1,cap,rfl,af ⟨⟨_,cnt2,l ++ [x],wB,Ma.o,lG.o,aR⟩,(bl.o.alloc ad _).trans (bW.o.mono ad)⟩⟩
 rw [wB.left_eq,HR.o.left_eq];exact hlt3
theorem fH.nil:fH (.map []) []:=⟨aj,λi=>by simp [Maps.has],List.nodup_nil⟩
def Ob (w:World) (e:Ending) (w':World):Prop:=e=.returned (.pointer (some ⟨w.heap.size+1,0,none⟩))/\ag w' (w.heap.size+1) #[.map (some w.heap.size)] 98/\df w' w.heap.size 0 []/\Below w.heap.size w w'/\w'.heap.size=w.heap.size+2
theorem R2 (w:World):Calls Tryz.prog 31 #[] w (Ob w):=by
 have hmk:=@run_makeMap Tryz.prog
 go_in
 go_wp2;go_ret;refine ⟨rfl,ag.at aj,⟨_,World.ownsMap.alloc (World.ownsMap_made w _ _ _) _,fH.nil⟩,?_,aj⟩;exact Ea (Ea (Er w) _) _
theorem q7b (p b n:Nat) (E:List (Int × Value)) (w:World) (hp:ag w p #[.map (some b)] 98) (hm:df w b n E) (hE:(E.map Prod.fst).Pairwise (· < ·)) (hn:n<=1000000) :
  Calls Tryz.prog 22 #[.pointer (some ⟨p,0,none⟩)] w λe w'=>e=.returned (.int .i64 E.length)/\Below w.heap.size w w':=by
 have H:=af (Jf p b n E w hp hm hE hn);clear hp hm hE
 go_in
 go_wp2_with (go_at_call 36;refine H.o.mono ?_;rintro e w1 ⟨a,c,rfl,ho,hb⟩;have HB:=af hb;clear ho hb)
 go_ret;exact ⟨rfl,HB.o⟩
structure bC where
 a1:Option Addr
 n1:Nat
 c1:Nat
 len:Int
 a2:Option Addr
 n2:Nat
 c2:Nat
 g:Nat->Bool
abbrev bC.val (x:bC):Value:=.agg #[.slice x.a1 x.n1 x.c1,.int .i64 x.len,.slice x.a2 x.n2 x.c2,.bool (x.g 0),.bool (x.g 1),.bool (x.g 2),.bool (x.g 3),.bool (x.g 4),.bool (x.g 5),.bool (x.g 6)]
def dT (x:Int × bC):Int × Value:=(x.1,x.2.val)
theorem xH (E:List (Int × bC)):(E.map dT).map Prod.fst=E.map Prod.fst:=by rw [List.map_map];rfl
theorem zl_ (w:World):(zeroValue 95).run Tryz.prog w=.ok (.agg #[.slice none 0 0,.int .i64 0,.slice none 0 0,.bool false,.bool false,.bool false,.bool false,.bool false,.bool false,.bool false]) w:=by kernel_rfl
theorem KP (h:aS i):(Lit.int .i64 i).wf=true:=by
 obtain ⟨h1,h2⟩:=h;have e1:IntKind.i64.min=-9223372036854775808:=rfl;simp [Lit.wf];exact ⟨ad,h2⟩
theorem KM {j:Int} (h:i≠j):Lit.int .i64 i≠Lit.int .i64 j:=λe=>h (by injection e)
theorem df.kept {b:Nat} {E:List (Int × Value)} (h:df w b n E) (hg:w.grownBy w' row) (hne:some b≠row):df w' b n E:=by
 obtain ⟨D,h1,h2⟩:=h;exact ⟨D,h1.kept hg hne,h2⟩
theorem df.lt {b:Nat} {E:List (Int × Value)} (h:df w b n E):b<w.heap.size:=by obtain ⟨D,h1,_⟩:=h;exact h1.lt
theorem fH.del {D:DataW Value} {E:List (Int × Value)} (h:fH D E) (i:Int):fH (D.del (.int .i64 i)) (E.filter λx=>!(x.1 == i)):=by
 have hm:∀ x:Int × Value,x∈E.filter (λx=>!(x.1 == i))↔x∈E/\x.1≠i:=λx=>by rw [N7];simp
 refine ⟨λj v hv zd=>?_,λj=>?_,?_⟩
 .obtain ⟨h1,h2⟩:=(hm _).1 hv;rw [atKey_del_other (KM h2)];exact h.val j v h1 zd
 .by_cases e:j=i
  .subst e;rw [has_del_same];simp
  rw [has_del_other (KM e),h.has,VC,VC];constructor
  .rintro ⟨x,hx,rfl⟩;exact ⟨x,(hm x).2 ⟨hx,e⟩,rfl⟩
  rintro ⟨x,hx,rfl⟩;exact ⟨x,((hm x).1 hx).1,rfl⟩
 exact h.nodup.sublist (List.Sublist.map _ q8t)
theorem df.look {b:Nat} {E:List (Int × Value)} (h:df w b n E) (hi:aS i) :
  (∃ v,(i,v)∈E/\(Instr.lookup 96 (.map (some b)) (.int .i64 i) true).run Tryz.prog w=.ok (.tuple #[v,.bool true]) w/\(Instr.lookup 96 (.map (some b)) (.int .i64 i) false).run Tryz.prog w=.ok v w) \/
  (i ∉ E.map Prod.fst/\(Instr.lookup 96 (.map (some b)) (.int .i64 i) true).run Tryz.prog w=.ok (.tuple #[.agg #[.slice none 0 0,.int .i64 0,.slice none 0 0,.bool false,.bool false,.bool false,.bool false,.bool false,.bool false,.bool false],.bool false]) w):=by
 obtain ⟨D,hown,hD⟩:=h;obtain ⟨v,ps,hrun,hv⟩:=hown.look_ok (int_keyed Tryz.underlying3) Tryz.underlying96 (zl_ w) (zd:=.held _) rfl (T4 Tryz.underlying3 (KP hi));obtain ⟨v2,ps2,sJ,hv2⟩:=hown.lookup (int_keyed Tryz.underlying3) Tryz.underlying96 (zl_ w) (zd:=.held _) rfl (T4 Tryz.underlying3 (KP hi));injection hv with hv;injection hv with hv _
 injection hv2 with hv2;injection hv2 with hv2 _
 cases hh:Maps.has D (.int .i64 i) with
 | true=>
  obtain ⟨⟨j,u⟩,hx,rfl⟩:=VC.1 ((hD.has i).1 hh);rw [hD.val _ _ hx] at hv hv2;injection hv with hv
  injection hv2 with hv2
  subst hv;subst hv2;exact .inl ⟨_,hx,by rw [hh] at hrun;exact hrun,sJ⟩
 | false=>
  rw [atKey_of_not_has hh] at hv;injection hv with hv
  subst hv;exact .inr ⟨λhm=>(by rw [(hD.has i).2 hm] at hh;cases hh),by rw [hh] at hrun;exact hrun⟩
def Xy (b n:Nat) (E:List (Int × bC)) (i:Int) (w:World) (e:Ending) (w':World):Prop:=
 w.grownBy w' (some b)/\((i∈E.map Prod.fst/\e=.returned (.int .i64 0)/\df w' b n ((E.filter λx=>!(x.1 == i)).map dT))\/(i ∉ E.map Prod.fst/\e=.returned (.int .i64 4)/\df w' b n (E.map dT)))
theorem qm_ (E:List (Int × bC)) (i:Int):(E.map dT).filter (λx=>!(x.1 == i))=(E.filter λx=>!(x.1 == i)).map dT:=by rw [List.filter_map];rfl
theorem Xo (p b n:Nat) (E:List (Int × bC)) (i:Int) (w:World) (hp:ag w p #[.map (some b)] 98) (hm:df w b n (E.map dT)) (hi:aS i) :
  Calls Tryz.prog 26 #[.pointer (some ⟨p,0,none⟩),.int .i64 i] w (Xy b n E i w):=by
 have hpl:=hp.lt;have hbl:=hm.lt;have q0:=(hp.cells 0).1;have HM:=af hm;have HI:=af hi;have gA:=af hp;rcases hm.look hi with ⟨v,hx,hrun,-⟩|⟨hx,hrun⟩
 .obtain ⟨⟨j,u⟩,hu,hju⟩:=VC.1 hx;injection hju with e1 e2
  subst e1;subst e2;obtain ⟨D,hown,hD⟩:=hm;have dq:=af (show j∈E.map Prod.fst from VC.2 ⟨_,hu,rfl⟩);have HD:=af hD;have aO:=af hown;have q1:=dW q0 (.cells #[.slice u.a1 u.n1 u.c1,.int .i64 u.len,.slice u.a2 u.n2 u.c2,.bool (u.g 0),.bool (u.g 1),.bool (u.g 2),.bool (u.g 3),.bool (u.g 4),.bool (u.g 5),.bool (u.g 6)] 95);clear hx hu hown hD hp hi
  go_in
  go_wp2_with (at_delete;refine wpList_delete_own _ rfl _ _ 96 3 rfl 95 (int_keyed Tryz.underlying3) Tryz.underlying96 ET b n _ rfl (aO.o.alloc _) _ _ rfl (T4 Tryz.underlying3 (KP HI.o)) ?_;intro w5 az sM;have lG:=af az;have EC:=af sM;clear az sM)
  go_ret;refine ⟨?_,.inl ⟨dq.o,rfl,⟨_,lG.o,by rw [<- qm_];exact HD.o.del _⟩⟩⟩;have:=EC.o.grown;exact ((NK w _ none).but _).trans this
 rw [xH] at hx;have fu:=af hx;clear hx hp hi hm
 go_in
 go_wp2
 go_ret;exact ⟨NK w _ _,.inr ⟨fu.o,rfl,HM.o.kept (NK w _ none) aj⟩⟩
def Z4 (g:Nat) (lb:Array Value) (l:List ai) (p:ai->Bool) (w:World):Prop:=
 ∀ (W:World) (x:ai),Below w.heap.size w W->x∈l->Calls Tryz.prog g (#[bQ x] ++ lb) W λe w'=>e=.returned (.bool (p x))/\Below w.heap.size w w'
theorem ta_ (F:Nat->Prop) (v:Value) (l:List ai) (p:ai->Bool) (g:Nat) (lb:Array Value) (eg:∀ args w,(callFunc g args).run Tryz.prog w=.ok (.enter g args) w) (w:World) (hv:bZ w F v l) (hp:Z4 g lb l p w) :
  Calls Tryz.prog 116 #[v,.func (.func g) #[] lb] w λe w'=>∃ i:Int,e=.returned (.int .i64 i)/\decide (0<=i)=l.any p/\Below w.heap.size w w':=by
 have mE:=af hp;obtain ⟨a1,c1,rfl⟩:=hv.form;have hlen:=hv.len;have HC:=af hv;clear hp hv
 go_in
 go_wp2
 go_loopw [5,8] (λ_ i wr=>∃ k:Nat,k<=l.length/\i=.int .i64 k/\(l.take k).any p=false/\Below w.heap.size w wr) (λ_ i _=>l.length-(intOf i).toNat)
 .exact ⟨0,ad,rfl,rfl,JV _ _⟩
 obtain ⟨k,hk,rfl,hpre,hb⟩:=hrel;have HB:=af hb;have cT:=af hpre;clear hpre;by_cases hlt:k<l.length
 .have cP:(k:Int)<l.length:=ad;obtain ⟨b8,f8,y,rfl,eo,hy,_,e0,e1,e2⟩:=(HC.o.ext hb).get hlt;have dj:=mE.o wr y hb (hy ▸ dI hlt);have ig:Hid ((l.take (k+1)).any p=((l.take k).any p || p y)):=af (hy ▸ RV hlt);have ky:Hid (y∈l):=af (hy ▸ dI hlt);clear hb hy;cases hq:p y with
  | true=>
   rw [hq] at dj;have HQ:=af hq;clear hq;go_wp2_with (go_at_fn g;refine dj.mono ?_;rintro e w' ⟨rfl,hb'⟩);go_ret;refine ⟨_,rfl,?_,hb'⟩;rw [PH ad];exact (G8.2 ⟨y,ky.o,HQ.o⟩).symm
  | false=>
   rw [hq] at dj;have HQ:=af hq;clear hq;go_wp2_with (go_at_fn g;refine dj.mono ?_;rintro e w' ⟨rfl,hb'⟩);go_roundw
   .exact ⟨k+1,ad,by go_num,by rw [ig.o,cT.o,HQ.o];rfl,hb'⟩
   simp [intOf];omega
 obtain rfl:k=l.length:=ad;go_wp2;go_ret;refine ⟨_,rfl,?_,HB.o⟩;have:=cT.o;rw [OC] at this;rw [this];rfl
theorem V7 (F:Nat->Prop) (v:Value) (l:List ai) (p:ai->Bool) (g:Nat) (lb:Array Value) (eg:∀ args w,(callFunc g args).run Tryz.prog w=.ok (.enter g args) w) (w:World) (hv:bZ w F v l) (hp:Z4 g lb l p w) :
  Calls Tryz.prog 72 #[v,.func (.func g) #[] lb] w λe w'=>e=.returned (.bool (l.any p))/\Below w.heap.size w w':=by
 have HV:=af hv;have mE:=af hp;clear hp hv
 go_in
 go_wp2_with (go_at_call 116;refine (ta_ F v l p g lb eg _ HV.o mE.o).mono ?_;rintro e w1 ⟨i,rfl,hi,hb1⟩;have HI:=af hi;clear hi)
 go_ret;exact ⟨bX HI.o,hb1⟩
theorem sd_ (x y:ai) (xb:Nat) (w:World) (hx:ag w xb #[.int .i64 x.day,.int .i64 x.frm,.int .i64 x.fin] 46) :
  Calls Tryz.prog 101 #[bQ y,.pointer (some ⟨xb,0,none⟩)] w λe w'=>e=.returned (.bool (decide (eH x.frm x.fin y.frm y.fin)))/\Below w.heap.size w w':=by
 have hl:=hx.lt;have x1:=(hx.cells 1).1;have x2:=(hx.cells 2).1;obtain ⟨xd,xf,xt⟩:=x;obtain ⟨yd,yf,yt⟩:=y;have HC:=λW=>Pb xf xt yf yt W;have HC:=af HC;clear hx;show Calls _ _ #[.agg #[.int .i64 yd,.int .i64 yf,.int .i64 yt],_] _ _
 go_in
 go_wp2_with (go_at_call 66;refine (HC.o _).mono ?_;rintro e w1 ⟨rfl,hb1⟩)
 go_ret;exact ⟨rfl,xE⟩
theorem v4_ (a b:Int) (y:ai) (xb:Nat) (w:World) (hx:ag w xb #[.int .i64 a,.int .i64 b] 29) :
  Calls Tryz.prog 73 #[bQ y,.pointer (some ⟨xb,0,none⟩)] w λe w'=>e=.returned (.bool (decide (eH y.frm y.fin a b)))/\Below w.heap.size w w':=by
 have hl:=hx.lt;have x1:=(hx.cells 0).1;have x2:=(hx.cells 1).1;obtain ⟨yd,yf,yt⟩:=y;have HC:=λW=>Pb yf yt a b W;have HC:=af HC;clear hx;show Calls _ _ #[.agg #[.int .i64 yd,.int .i64 yf,.int .i64 yt],_] _ _
 go_in
 go_wp2_with (go_at_call 66;refine (HC.o _).mono ?_;rintro e w1 ⟨rfl,hb1⟩)
 go_ret;exact ⟨rfl,xE⟩
end
section
open Go.RowKit Go.Shelf Go.Maps Kal
attribute [local go_sem] GC
def zV (b:aE) (x:ai):Prop:=(∃ y,tC b x y)\/∃ y∈b.ext,eH x.frm x.fin y.frm y.fin
theorem se_ {a b:aE}:pn a b↔∃ x∈a.ext,zV b x:=MT
theorem RC {a b:aE}:pn a b↔∃ j,j<a.ext.length/\zV b (a.ext.getD j default):=by
 rw [se_];constructor
 .rintro ⟨x,hx,h⟩;obtain ⟨j,hj,rfl⟩:=tu (d:=default) hx;exact ⟨j,hj,h⟩
 rintro ⟨j,hj,h⟩;exact ⟨_,by rw [fx hj];exact NS hj,h⟩
def x0_ (A B:aE) (w:World) (e:Ending) (w':World):Prop:=∃ r:Bool,e=.returned (.bool r)/\(r=true↔pn A B)/\Below w.heap.size w w'
structure oV (w:World) (av bv:Array Value) (r:Bool) (W:World):Prop where
 below:Below w.heap.size w W
 b0:ag W w.heap.size av 43
 b1:ag W (w.heap.size+1) bv 43
 b2:ag W (w.heap.size+1+1) #[.bool r] 4
theorem oV.grow {r:Bool} (h:oV w av bv r A) (hg:A.grownBy C row) (hr:∀ k,row=some k->w.heap.size<=k/\∃ o:Obj,A.heap[k]? = some o/\o.isCells=false):oV w av bv r C:=by
 have key:∀ {b:Nat} {c:Array Value} {t:TypeId},ag A b c t->ag C b c t:=λ{b c t} hb=>hb.grown hg λe=>by
  obtain ⟨_,o,h1,h2⟩:=hr b e.symm;rw [hb] at h1;cases h1;cases h2
 exact ⟨h.below.grown hg h.below.size λk e=>(hr k e).1,key h.b0,key h.b1,key h.b2⟩
theorem oV.ext {r:Bool} (h:oV w av bv r A) (hb:Below A.heap.size A C):oV w av bv r C:=
 ⟨Et h.below hb,h.b0.below hb,h.b1.below hb,h.b2.below hb⟩
theorem oV.setR {r s:Bool} (h:oV w av bv r A):oV w av bv s (A.setCell ⟨w.heap.size+1+1,0,none⟩ (.bool s)):=
 ⟨h.below.setCell (p:=⟨w.heap.size+1+1,0,none⟩) aR _,h.b0.setNe _ ad,h.b1.setNe _ ad,bE 0 _ h.b2⟩
theorem W_ (F G:Nat->Prop) (qh qt qi qu:Value) (A B:aE) (w:World) (hA:bq w F qh qt A) (hB:bq w G qi qu B) (vA:bO A) (vB:bO B) :
  Calls Tryz.prog 55 #[.agg #[qh,.int .i64 A.len,qt],.agg #[qi,.int .i64 B.len,qu]] w (x0_ A B w):=by
 obtain ⟨LA,hA⟩:=hA;obtain ⟨LB,hB⟩:=hB;have hA:=hA.lt;have hB:=hB.lt;obtain ⟨a1,c1,rfl⟩:=hA.cl.form;obtain ⟨a2,c2,rfl⟩:=hA.ex.form;obtain ⟨a3,c3,rfl⟩:=hB.cl.form;obtain ⟨a4,c4,rfl⟩:=hB.ex.form;have hl:=hA.ex.len;have HA:=af hA;have HB:=af hB;have VA:=af vA;have VB:=af vB;clear hA hB vA vB;refine VL (n:=0).1 ?_;refine NT Tryz.func55 rfl trivial ?_ rfl;simp only [Tryz.ntmps55,NG,MH,M4,Nat.reduceAdd,Nat.reduceSub,N0,K7,Q3,QG,L4,S5];gi_wp2_with fail;have pY:Hid (oV w #[.slice a1 LA.length c1,.int .i64 A.len,.slice a2 A.ext.length c2] #[.slice a3 LB.length c3,.int .i64 B.len,.slice a4 B.ext.length c4] false (((w.alloc (.cells #[.slice a1 LA.length c1,.int .i64 A.len,.slice a2 A.ext.length c2] 43)).alloc (.cells #[.slice a3 LB.length c3,.int .i64 B.len,.slice a4 B.ext.length c4] 43)).alloc (.cells #[.bool false] 4))):=
  af ⟨by exact xE,((ag.at rfl).alloc _).alloc _,(ag.at aj).alloc _,ag.at aj⟩
 refine wpIn_loop (λa W=>∃ (k:Nat) (u6 u11 u12 u13 u14 u15 u16 u17 u18 u19 u20 u21 u22:Value) (ds:List Deferred),a=⟨#[.agg #[.slice a1 LA.length c1,.int .i64 A.len,.slice a2 A.ext.length c2],.agg #[.slice a3 LB.length c3,.int .i64 B.len,.slice a4 B.ext.length c4],.pointer (some ⟨w.heap.size,0,none⟩),.pointer (some ⟨w.heap.size+1,0,none⟩),.pointer (some ⟨w.heap.size+1+1,0,none⟩),undef,u6,.pointer (some ⟨w.heap.size,2,none⟩),.slice a2 A.ext.length c2,.int .i64 A.ext.length,.int .i64 k,u11,u12,u13,u14,u15,u16,u17,u18,u19,u20,u21,u22],ds⟩/\k<=A.ext.length/\Hid (∀ j,j<k->¬ zV B (A.ext.getD j default))/\
   Hid (oV w #[.slice a1 LA.length c1,.int .i64 A.len,.slice a2 A.ext.length c2] #[.slice a3 LB.length c3,.int .i64 B.len,.slice a4 B.ext.length c4] false W)/\Hid (cJ w.heap.size ds W)) (λa _=>A.ext.length-(intOf (a.tmps.getD 10 undef)).toNat) ?start ?round
 case start=>exact ⟨0,undef,undef,undef,undef,undef,undef,undef,undef,undef,undef,undef,undef,undef,[],rfl,ad,af (by intro j hj;omega),pY,af (cJ.nil _ _)⟩
 case round=>
  rintro _ W ⟨k,u6,u11,u12,u13,u14,u15,u16,u17,u18,u19,u20,u21,u22,ds,rfl,hk,HN,HS,HM⟩;have wG:=HS.o.below.size;have hwl:=HS.o.b2.lt;by_cases hlt:k<A.ext.length
  .have cP:(k:Int)<A.ext.length:=ad;obtain ⟨b8,f8,x,rfl,eo,hx,_,e0,e1,e2⟩:=(HA.o.below HS.o.below).ex.get hlt;have HX:=af hx;have hgx:=VA.o.val.ins (x:=x) (by rw [<- hx,fx hlt];exact NS hlt);obtain ⟨_,⟨gx1,gx2⟩,gx3,gx4⟩:=hgx;have r0:=dW ((HS.o.b1.cells 0).1) (.cells #[.int .i64 x.day,.int .i64 x.frm,.int .i64 x.fin] 46);have r1:=dW ((HS.o.b1.cells 1).1) (.cells #[.int .i64 x.day,.int .i64 x.frm,.int .i64 x.fin] 46);have r2:=dW ((HS.o.b1.cells 2).1) (.cells #[.int .i64 x.day,.int .i64 x.frm,.int .i64 x.fin] 46);clear hx;gi_wp2_with (refine ⟨trivial,rfl,?_⟩;gi_at_call 100;refine (VL.2 (ua_ a3 a4 LB.length c3 B.ext.length c4 B.len x _)).mono ?_;rintro e w' ⟨rfl,rfl⟩);generalize hW0:((W.alloc _).alloc _).alloc _=W0;have hE:Below W.heap.size W W0:=by rw [<- hW0];exact xE
   have hsz:W0.heap.size=W.heap.size+1+1+1:=by rw [<- hW0];simp
   have hxb:ag W0 W.heap.size #[.int .i64 x.day,.int .i64 x.frm,.int .i64 x.fin] 46:=by rw [<- hW0];exact ((ag.at rfl).alloc _).alloc _
   have tR:ag W0 (W.heap.size+1) #[.slice a3 LB.length c3,.int .i64 B.len,.slice a4 B.ext.length c4] 43:=by rw [<- hW0];exact (ag.at aj).alloc _
   have BC:ag W0 (W.heap.size+1+1) #[.int .i64 x.day,.int .i64 x.frm,.int .i64 x.fin] 46:=by rw [<- hW0];exact ag.at aj
   have kz:=af (HS.o.ext hE);have tq:=af hxb;have zr:=af (KeepsOthers.of_below hE);clear hW0 hxb r0 r1 r2 e0 e1 e2;refine E6 (α:=ai) (x:=none) (gf:=131) (lb:=#[.pointer (some ⟨W.heap.size+1,0,none⟩),.pointer (some ⟨W.heap.size+1+1,0,none⟩)]) rfl (enters_of Tryz.func131 (by kernel_rfl) rfl)
    (ub_ (λb=>G b/\b<w.heap.size) (λk=>k<W0.heap.size) a3 a4 c3 B.ext.length c4 (W.heap.size+1) (W.heap.size+1+1) W0.heap.size LB W0 B x (HB.o.below kz.o.below) VB.o (λk h=>by have:=kz.o.below.size;have:=h.2;show k<_;omega) (λk h=>h) (TZ _) tR BC tR.lt BC.lt ad ad ad ad)
    (λh k=>h.trans k) (λW1 l o o' hl ho hc=>cK.putObj (λk h=>h) W1 l o o' hl ho hc) (λW1 W2 hn hg=>cK.grown (λk h=>h) W1 W2 hn hg) (λy=>rfl)
    (λpre W'=>pre=[]/\oV w #[.slice a1 LA.length c1,.int .i64 A.len,.slice (some ⟨b8,f8,none⟩) A.ext.length c2] #[.slice a3 LB.length c3,.int .i64 B.len,.slice a4 B.ext.length c4] false W'/\KeepsOthers W0 W'/\ag W' W.heap.size #[.int .i64 x.day,.int .i64 x.frm,.int .i64 x.fin] 46)
    (λc' _ W'=>c'=.ret/\(∃ y,tC B x y)/\oV w #[.slice a1 LA.length c1,.int .i64 A.len,.slice (some ⟨b8,f8,none⟩) A.ext.length c2] #[.slice a3 LB.length c3,.int .i64 B.len,.slice a4 B.ext.length c4] true W'/\KeepsOthers W0 W')
    (λpre A' C row hI hg hr=>by
     have hr':∀ r,row=some r->W0.heap.size<=r/\∃ o:Obj,A'.heap[r]? = some o/\o.isCells=false:=λr e=>by
      rcases hr r e with ⟨h,_⟩|h
      .cases h
      exact h
     exact ⟨hI.1,hI.2.1.grow hg λr e=>⟨by have:=(hr' r e).1;omega,(hr' r e).2⟩,KeepsOthers.grow hI.2.2.1 hg λr e=>(hr' r e).1,hI.2.2.2.grown hg λe=>by
      obtain ⟨h,_⟩:=hr' _ e.symm;omega⟩)
    (λc' pre A' C row hI hg hr=>by
     have hr':∀ r,row=some r->W0.heap.size<=r/\∃ o:Obj,A'.heap[r]? = some o/\o.isCells=false:=λr e=>by
      rcases hr r e with ⟨h,_⟩|h
      .cases h
      exact h
     exact ⟨hI.1,hI.2.1,hI.2.2.1.grow hg λr e=>⟨by have:=(hr' r e).1;omega,(hr' r e).2⟩,KeepsOthers.grow hI.2.2.2 hg λr e=>(hr' r e).1⟩)
    (λ_ _ _ _ _ _ _ _ h=>h) (λ_ _ _ _ _ h=>h) ⟨rfl,kz.o,P8 _,tq.o⟩
    (λy a' _=>a'=⟨#[.agg #[.slice a1 LA.length c1,.int .i64 A.len,.slice (some ⟨b8,f8,none⟩) A.ext.length c2],.agg #[.slice a3 LB.length c3,.int .i64 B.len,.slice a4 B.ext.length c4],.pointer (some ⟨w.heap.size,0,none⟩),.pointer (some ⟨w.heap.size+1,0,none⟩),.pointer (some ⟨w.heap.size+1+1,0,none⟩),undef,.pointer (some ⟨W.heap.size,0,none⟩),.pointer (some ⟨w.heap.size,2,none⟩),.slice (some ⟨b8,f8,none⟩) A.ext.length c2,.int .i64 A.ext.length,.int .i64 k,.bool true,.pointer (some ⟨b8,f8+k*3,none⟩),bQ x,.agg #[.slice a3 LB.length c3,.int .i64 B.len,.slice a4 B.ext.length c4],bQ x,.func (.func 131) #[] #[.pointer (some ⟨W.heap.size+1,0,none⟩),.pointer (some ⟨W.heap.size+1+1,0,none⟩)],bQ y,u18,u19,u20,u21,u22],[]⟩)
    (λ_ _ _ _ _ _ _ _ _ h=>h) ?assign ?body ?done ?stop
   case assign=>
    intro l pre y W' K _ _ _ hK
    gi_wp2
    exact hK _ _ (World.grownBy.of_below (JV _ _) none) aj
   case body=>
    rintro l pre y _ W' ⟨rfl,hA,bP,-⟩ ⟨hy,-⟩ rfl;have q1:=(hA.b2.cells 0).1;have q2:=(hA.b2.cells 0).2;have jY:=af (hA.setR (s:=true));have dM:=af bP;have HY:=af hy;clear hA bP hy;gi_wp2_with fail;exact ⟨(K8 W' _ _).from _,rfl,⟨y,HY.o⟩,jY.o,dM.o.trans (K8 W' _ _)⟩
   case done=>
    rintro D xs W' hD aM ⟨rfl,hA,bP,hx1⟩ aL;have wj:¬ ∃ y,tC B x y:=λ⟨y,hy⟩=>by have:=(aM y).2 hy;simp at this
    have jV:=hA.b1.lt;have q3:=(hA.b1.cells 2).1;have q4:=(hA.b2.cells 0).1;have q5:=(hA.b2.cells 0).2;have jY:=af hA;have dM:=af bP;have fW:=af aL;have Mh:=af wj;have kA:=af hx1;have hM:cJ w.heap.size ({ target:=.collected D,args:=#[] } :: ds) W':=cJ.cons HM.o ad ((zr.o.trans bP).from _) ad aL;have pV:=af hM;have mO:=λW1 (hb:Below W'.heap.size W' W1)=>V7 (λb=>G b/\b<w.heap.size) (.slice a4 B.ext.length c4) B.ext (λy=>decide (eH x.frm x.fin y.frm y.fin)) 101 #[.pointer (some ⟨W.heap.size,0,none⟩)] (enters_of Tryz.func101 (by kernel_rfl) rfl) W1 ((HB.o.below jY.o.below).below hb).ex (λW2 y hb2 _=>(sd_ x y W.heap.size W2 ((hx1.below hb).below hb2)).mono λe w' h=>⟨h.1,Et hb2 h.2⟩);obtain ⟨q,hq⟩:∃ q,B.ext.any (λy=>decide (eH x.frm x.fin y.frm y.fin))=q:=⟨_,rfl⟩;rw [hq] at mO;have Dx:=af mO;have HQ:=af hq;clear aM hA bP aL wj hx1 hM mO hq tR BC;cases q with
    | true=>
     gi_wp2_with (refine ⟨trivial,rfl,?_⟩;gi_at_call 72;refine (VL.2 (Dx.o _ xE)).mono ?_;rintro e w4 ⟨rfl,hb4⟩;have qN:=af (jY.o.ext hb4);have q4:=(qN.o.b2.cells 0).1;have q5:=(qN.o.b2.cells 0).2;have cR:=af hb4;clear hb4)
     have kc:=qN.o.setR (s:=true);refine ik (B:=w.heap.size) _ _ (pV.o.keep (((KeepsOthers.of_below cR.o).trans (K8 w4 ⟨w.heap.size+1+1,0,none⟩ (.bool true))).from _)) λw' hs=>?_;have hc:=ag.c0 (hs.cells _ _ kc.b2 rfl);refine ⟨.bool true,by simp [results,Tryz.results55,go_sem,hc],true,rfl,⟨λ_=>RC.2 ⟨k,hlt,?_⟩,λ_=>rfl⟩,kc.below.trans hs.below⟩;rw [HX.o];obtain ⟨y,hy,h⟩:=G8.1 HQ.o;exact .inr ⟨y,hy,LX h⟩
    | false=>
     gi_wp2_with (refine ⟨trivial,rfl,?_⟩;gi_at_call 72;refine (VL.2 (Dx.o _ xE)).mono ?_;rintro e w4 ⟨rfl,hb4⟩;have qN:=af (jY.o.ext hb4);have cR:=af hb4;clear hb4)
     refine ⟨⟨k+1,_,_,_,_,_,_,_,_,_,_,_,_,_,_,by push_cast;rfl,ad,af λj hj=>?_,qN,af (pV.o.keep ((KeepsOthers.of_below cR.o).from _))⟩,by simp [intOf];omega⟩;by_cases e:j<k
     .exact HN.o j e
     obtain rfl:j=k:=ad;rw [HX.o];rintro (h|⟨y,hy,h⟩)
     .exact Mh.o h
     have:=HQ.o;rw [List.any_eq_false] at this;exact this y hy (PH h)
   case stop=>
    rintro D c' pre W' hD ⟨rfl,hy,hA,bP⟩ aL;have jY:=af hA;have HY:=af hy;have pV:=af (cJ.cons (D:=D) HM.o ad ((zr.o.trans bP).from _) ad aL);clear hA bP aL hy;gi_wp2_with fail;refine ik (B:=w.heap.size) _ _ pV.o λw' hs=>?_;have hc:=ag.c0 (hs.cells _ _ jY.o.b2 rfl);exact ⟨.bool true,by simp [results,Tryz.results55,go_sem,hc],true,rfl,⟨λ_=>RC.2 ⟨k,hlt,by rw [HX.o];exact .inl HY.o⟩,λ_=>rfl⟩,jY.o.below.trans hs.below⟩
  obtain rfl:k=A.ext.length:=ad;have fg:¬ (A.ext.length:Int)<A.ext.length:=ad;have q4:=(HS.o.b2.cells 0).1;have q5:=(HS.o.b2.cells 0).2;gi_wp2_with fail;have kc:=HS.o.setR (s:=false);refine ik (B:=w.heap.size) _ _ (HM.o.keep ((K8 W ⟨w.heap.size+1+1,0,none⟩ (.bool false)).from _)) λw' hs=>?_;have hc:=ag.c0 (hs.cells _ _ kc.b2 rfl);exact ⟨.bool false,by simp [results,Tryz.results55,go_sem,hc],false,rfl,⟨λh=>(by cases h),λh=>by obtain ⟨j,hj,h⟩:=RC.1 h;exact absurd h (HN.o j hj)⟩,kc.below.trans hs.below⟩
end
section
open Go.RowKit Go.Maps Kal
theorem SV {b:Int} (h:FV s p) (he:og p b=0):FV (max (s+b) 0) (jd p b):=by
 refine ⟨(St h.fac).2,?_⟩;unfold og at he
 split at he
 .cases he
 split at he
 .assumption
 cases he
theorem um_ (h c:Value) (p:Per) (b:Int) (w:World) (hp:cj w h c p) (hv:Valid p) (AO:b < -1099511627776\/1099511627776<b) :
  Calls Tryz.prog 133 #[ar h c p.frm p.period,.int .i64 b] w (Sz 1 w):=by
 have hl:∀ W,Below w.heap.size w W->cj W h c p:=λW hb=>hp.ext hb;have HV:=af ((pg p).2 hv);clear hp hv;rcases AO with hlo|lW
 all_goals
  go_in
  go_wp2_with (go_at_call 92;refine (rD h c p _ (hl _ xE)).mono ?_;rintro e w1 ⟨he,hb1⟩;rw [HV.o] at he;subst he;obtain ⟨hc1,gG⟩:=bd_ hb1;(try simp only [U7,Q1,fZ,O1] at hc1 gG);have hz1:=hb1.size;(try simp only [U7,Q1,fZ,O1] at hz1);have Hl:w.heap.size+1<w1.heap.size:=ad)
  refine VN (v:=.tuple #[ar (.slice none 0 0) (.slice none 0 0) 0 0,.int .i64 1]) ?_ rfl ⟨rfl,xE⟩;simp [results,Tryz.results133,go_sem, *]
theorem xb_ (s b:Int) (h c:Value) (p:Per) (w:World) (hp:cj w h c p) (hv:FV s p) (hb:aS b) :
  Calls Tryz.prog 133 #[ar h c p.frm p.period,.int .i64 b] w λe w'=>(og p b=0/\nG (jd p b) w e w')\/(∃ k,(k=1\/k=2)/\og p b=k/\Sz k w e w'):=by
 by_cases hr:b < -1099511627776\/1099511627776<b
 .refine (um_ h c p b w hp hv.valid hr).mono λe w' h=>.inr ⟨1,.inl rfl,if_pos hr,h⟩
 refine (xc_ h c p (jd p b) b w hp hv.valid ad ad ?_).mono λe w' h=>?_
 .exact (St hv.fac).1.congr λn=>by unfold tZ Ar;exact MT
 by_cases hf:(jd p b).frm<=1099511627776
 .exact .inl ⟨by unfold og;rw [if_neg hr,if_pos hf],h.1 hf⟩
 exact .inr ⟨2,.inr rfl,by unfold og;rw [if_neg hr,if_neg hf],h.2 ad⟩
def q4g (s b:Int) (m:List (List Per)) (w:World) (e:Ending) (w':World):Prop:=
 ((
  ∀ t∈m,∀ p∈t,og p b=0)/\Gk (max (s+b) 0) (mu m b) w e w') \/
  ∃ k,(∃ t∈m,∃ p∈t,og p b=k)/\k≠0/\e=.returned (.tuple #[.agg #[.slice none 0 0],.int .i64 k])/\Below w.heap.size w w'
noncomputable def BF (t:List Per) (b:Int) (i:Nat):List Per:=(t.take i).map (λp=>jd p b) ++ List.replicate (t.length-i) ⟨[],0,0,[]⟩
theorem wh_ {b:Int} {i:Nat} (h:i<t.length) (hp:t.getD i default=p):(BF t b i).set i (jd p b)=BF t b (i+1):=by
 have hl:((t.take i).map (λp=>jd p b)).length=i:=by simp;omega
 unfold BF;rw [q7y _ _ ad,hl,Nat.sub_self,show t.length-i=(t.length-(i+1))+1 by omega,List.replicate_succ,List.set_cons_zero,LF h,UZ,QL];have:t[i]=p:=by rw [<- hp,VS,U2 h];rfl
 rw [this];rfl
theorem wg_ {b:Int}:BF t b t.length=t.map λp=>jd p b:=by unfold BF;simp
structure SS (s b:Int) (m:List (List Per)) (w:World) (j:Nat) (lv:Value) (Lk:List (Value × List Per)) (W:World):Prop where
 below:Below w.heap.size w W
 rbx:ag W (w.heap.size+1) #[.slice none 0 0] 57
 row:aZ w.heap.size (λk=>k=w.heap.size\/k=w.heap.size+1) W lv Lk
 own:∀ g,lv.ownBlock=some g->w.heap.size+2<=g
 eq:Lk.map Prod.snd=mu (m.take j) b
 ok:∀ t∈m.take j,∀ p∈t,og p b=0
theorem Zn {b:Int}:(mu m b).length=m.length:=by unfold mu;simp
theorem q4o {b:Int} (k:MV s m) (h:∀ t∈m,∀ p∈t,og p b=0):∀ t∈mu m b,lj (max (s+b) 0) t:=λt ht=>by
 obtain ⟨u,hu,rfl⟩:=VC.1 ht;have hv:=k.vt u hu;refine ⟨λe=>hv.ne (q8w.1 e),λp hp=>?_,by simpa using hv.len⟩;obtain ⟨q,hq,rfl⟩:=VC.1 hp;exact SV (hv.fv q hq) (h u hu q hq)
theorem tv_ (s b:Int) (F:Nat->Prop) (v:Value) (m:List (List Per)) (w:World) (hm:aF w F v m) (k1:MV s m) (hb:aS b) :
  Calls Tryz.prog 103 #[.agg #[v],.int .i64 b] w (q4g s b m w):=by
 have ou:=λW (h:Below w.heap.size w W)=>tr F v m W (hm.ext h);rw [k1.val] at ou;have l1:=k1.len;obtain ⟨a1,c1,rfl⟩:=hm.form;have pV:=af hm;have LK:=af k1;have HBI:=af hb;obtain ⟨bi,pw,kJ,jP,hby⟩:=Am;clear hm k1 hb
 go_in
 go_wp2_with ((go_at_call 49;((with_reducible refine (ou _ (Ea (Ea (Er w) _) _)).mono ?_);rintro e w1 ⟨rfl,hb1⟩;have b0:ag w1 w.heap.size #[.slice a1 m.length c1] 57:=ag.below xB hb1;have b1:ag w1 (w.heap.size+1) #[.slice none 0 0] 57:=ag.below xB hb1;have x0:=b0.c0;have hW1:Below w.heap.size w w1:=Et (Ea (Ea (Er w) _) _) hb1;have iB:=af b0;have bm:=af b1;clear b0 b1)))
 have VH:SS s b m w 0 (.slice none 0 0) [] w1:=⟨hW1,bm.o,aZ.nil _ _ _,by simp [Value.ownBlock],rfl,aj⟩;have HSS:=af VH;have nx:=af hW1;clear VH hW1 hb1 ou;go_loopw [5,6,8,9,10,11,12,13,21] (λs5 lv _ _ _ _ _ _ idx wq=>∃ (j:Nat) (la:Option Addr) (lc:Nat) (Lk:List (Value × List Per)),j<=m.length/\s5=.int .i64 0/\idx=.int .i64 j/\lv=.slice la Lk.length lc/\Hid (SS s b m w j (.slice la Lk.length lc) Lk wq)) (λ_ _ _ _ _ _ _ _ idx _=>m.length-(intOf idx).toNat)
 .exact ⟨0,none,0,[],ad,rfl,rfl,rfl,HSS⟩
 obtain ⟨j,la,lc,Lk,hj,rfl,rfl,rfl,HS⟩:=hrel;obtain ⟨wo,qF⟩:∃ wo,wo=wr:=⟨_,rfl⟩;subst qF;by_cases dE:j<m.length
 .have sm:(j:Int)<m.length:=ad;obtain ⟨L2,hL2,dF⟩:=pV.o.ext HS.o.below;have hl2:L2.length=m.length:=by rw [<- hL2,U6]
  obtain ⟨b8,f8,c8,ta,tn,tc,t,he,e0,Ke,tN⟩:=dF.at (show j<L2.length by omega);injection he with q1 q2 q3
  subst q1;subst q3;rw [hL2] at tN;obtain ⟨tL,Rh,ia⟩:=Ke;obtain ⟨_,_,he,_⟩:=ia.row.is;have htn:tn=t.length:=by injection he with _ h _;rw [h,<- Rh,U6]
  have htn4:tn<=4:=by rw [htn];exact LK.o.tlen t (LH tN)
  have gW:=af htn;have iF:=af tN;have xj:=af ia;have MS:=af Rh;clear q2 dF tN hL2 hl2 ia he htn Rh;go_wp2_with (at_make;refine q8h _ rfl _ _ 78 rfl wo.heap.size 80 bi (.agg #[.slice none 0 0,.int .i64 0,.int .i64 0,.slice none 0 0]) 4 Tryz.underlying78 pw kJ jP .i64 .i64 _ _ tn rfl rfl rfl rfl (by rw [hby];omega) (by unfold maxLen;omega) aj ?_;intro w3 cY cW;have hb3:Below wo.heap.size wo w3:=((JV _ _).grown cW aj (λk e=>by cases e)));rw [Ze] at cY;have mf:cC wo.heap.size wo.heap.size tn w3 (List.replicate tn (default:PV)):=⟨by rw [List.length_replicate];exact cY,λx hx=>by rw [List.eq_of_mem_replicate hx];exact WZ _ _,aj,ad⟩;have tj:=af mf;have cq:=af hb3;clear cY cW mf hb3;go_loopw [5,10,11,12,13,30] (λs5 _ _ _ _ idx wq=>∃ (i:Nat) (M:List PV),i<=tn/\s5=.int .i64 0/\idx=.int .i64 i/\Hid (M.length=tn)/\Hid (M.map PV.p=BF t b i)/\Hid (cC wo.heap.size wo.heap.size tn wq M)/\Hid (Below wo.heap.size wo wq)/\Hid (∀ p∈t.take i,og p b=0)) (λ_ _ _ _ _ idx _=>tn-(intOf idx).toNat)
  .exact ⟨0,_,ad,rfl,rfl,af aj,af (by unfold BF;rw [gW.o];simp [show (default:PV).p=⟨[],0,0,[]⟩ from rfl]),tj,cq,af aj⟩
  obtain ⟨i,M,hi,rfl,rfl,eF,uo,HR,s_,zA⟩:=hrel;by_cases hil:i<tn
  .have tJ:(i:Int)<tn:=ad;have G_:=xj.o.keep (aP.below s_.o) s_.o.size;have Ri:tL.length=tn:=by have:=congrArg List.length MS.o;rw [U6] at this;rw [this];exact gW.o.symm
   obtain ⟨bt,ot,x,ha,hx,c_,_,z0,z1,z2,z3⟩:=G_.get (show i<tL.length by omega);subst ha;have kn:=(LK.o.vt t (LH iF.o)).fv x.p (by rw [c_,MS.o];exact dI (by rw [<- gW.o];exact hil));have C6:t.getD i default=x.p:=by rw [c_,MS.o]
   obtain ⟨xh,xc,xp⟩:=x;obtain ⟨eA,eE,eB,eW,fq,dZ,rfl,rfl⟩:=hx.form;dsimp only at z0 z1 z2 z3 kn C6;have T7:=λW (h:Below wr.heap.size wr W)=>xb_ s b _ _ xp W (hx.is.ext h) kn HBI.o;simp only [ar] at T7;have td:=af kn;have Cg:=af C6;have hle:=HR.o.le;clear G_ Ri hx c_ kn C6;go_wp2_with (go_at_call 133;((with_reducible refine (T7 _ (Ea (Er wr) _)).mono ?_);rintro e w7 h7;rcases h7 with ⟨JT,h',c',rfl,ho,ek⟩|⟨k,hk,Vc,rfl,ek⟩;(obtain ⟨ya,yn,yc,za,zn,zc,rfl,rfl⟩:=(ho.pv (SV td.o JT)).form;have ks:=ho.pv (SV td.o JT);have AA:Below wr.heap.size wr w7:=Et (Ea (Er wr) _) ek;obtain ⟨-,g0,g1,g2,g3,g4⟩:=((HR.o.below AA).below (Ea (Er w7) (.cells #[.slice ya yn yc,.int .i64 (jd xp b).frm,.int .i64 (jd xp b).period,.slice za zn zc] 80))).get (show i<M.length by have:=eF.o;omega);have B7:=af ks;have DC:=af AA;have Lu:=af JT;clear ho ks AA JT ek);rotate_left;(have AA:Below wo.heap.size wo w7:=Et (Ea s_.o _) ek;have hbx:=(HS.o.rbx.below AA).alloc (.cells #[.slice none 0 0,.int .i64 0,.int .i64 0,.slice none 0 0] 80);have x5:=hbx.cells 0;have cD:=af hbx;have DC:=af AA;clear hbx AA ek;rcases hk with rfl|rfl)))
   .have hcc:=ag.c0 (bE 0 (.slice none 0 0) cD.o);refine VN (v:=.tuple #[.agg #[.slice none 0 0],.int .i64 1]) (by simp [results,Tryz.results103,go_sem,hcc]) rfl (.inr ⟨1,?_,aG,rfl,?_⟩)
    .exact ⟨t,LH iF.o,xp,Cg.o ▸ dI (by rw [<- gW.o];exact hil),Vc⟩
    exact ((HS.o.below.trans ((Ea DC.o (.cells #[.slice none 0 0,.int .i64 0,.int .i64 0,.slice none 0 0] 80)).mono HS.o.below.size)).setCell (p:=⟨w.heap.size+1,0,none⟩) (show w.heap.size<=w.heap.size+1 by omega) _)
   .have hcc:=ag.c0 (bE 0 (.slice none 0 0) cD.o);refine VN (v:=.tuple #[.agg #[.slice none 0 0],.int .i64 2]) (by simp [results,Tryz.results103,go_sem,hcc]) rfl (.inr ⟨2,?_,aG,rfl,?_⟩)
    .exact ⟨t,LH iF.o,xp,Cg.o ▸ dI (by rw [<- gW.o];exact hil),Vc⟩
    exact ((HS.o.below.trans ((Ea DC.o (.cells #[.slice none 0 0,.int .i64 0,.int .i64 0,.slice none 0 0] 80)).mono HS.o.below.size)).setCell (p:=⟨w.heap.size+1,0,none⟩) (show w.heap.size<=w.heap.size+1 by omega) _)
   go_roundw
   .have oJ:Below w7.heap.size w7 (w7.alloc (.cells #[.slice ya yn yc,.int .i64 (jd xp b).frm,.int .i64 (jd xp b).period,.slice za zn zc] 80)):=Ea (Er _) _;have kL:i<t.length:=by rw [<- gW.o];exact hil
    have hwl:=HR.o.le;have Q5:=((HR.o.below DC.o).below oJ).set (x:=⟨.slice ya yn yc,.slice za zn zc,jd xp b⟩) (show i<M.length by have:=eF.o;omega) ((B7.o.keep (aP.below oJ)).mono λk hk=>by have h1:=hk.1;rw [U7] at h1;exact ⟨ad,ad⟩);refine ⟨i+1,_,ad,rfl,by go_num,af (by rw [OF];exact eF.o),af ?_,af Q5,af ((Ea (Et s_.o DC.o) _).trans (WT _ (TZ _) _ _ _ _)),af λp hp=>?_⟩
    .rw [yg,uo.o];exact wh_ kL Cg.o
    rw [LF kL] at hp;rcases VJ.1 hp with hp|hp
    .exact zA.o p hp
    rw [N2] at hp;have h1:=Cg.o;rw [VS,U2 kL] at h1;rw [hp,show t[i]=xp from h1];exact Lu.o
   simp [intOf];omega
  obtain rfl:i=tn:=ad;have kJ:=HS.o.rbx.lt;have hown:=HS.o.row.row.lt;have Ke:bK wr (λk=>wo.heap.size<=k) (.slice (some ⟨wo.heap.size,0,none⟩) i i) (t.map λp=>jd p b):=⟨M,by rw [uo.o,gW.o];exact wg_,by have h:=HR.o.term;rwa [eF.o] at h⟩;have zI:=af (λW (h:Below wr.heap.size wr W)=>(Ke.ext h).fresh (B:=w.heap.size) (v:=.slice la Lk.length lc) ad (λg hg=>(hown g hg).2));have hlk:Lk.length=j:=by have h:=congrArg List.length HS.o.eq;rw [U6,Zn,MO] at h;omega
  have hwl:=HR.o.le;clear Ke hown;go_wp2_with (at_builtin;(refine Ja aC _ _ aC w.heap.size (λk=>k=w.heap.size\/k=w.heap.size+1) (.slice la Lk.length lc) Lk (.slice (some ⟨wo.heap.size,0,none⟩) i i,t.map λp=>jd p b) aC (HS.o.row.below (Ea s_.o _)) (zI.o _ (Ea (Er _) _)) _ _ aC aj aR ad aR ?_;intro ga gc w8 nW jo eo lS;have tk:=af nW;have uu:=af jo;have fV:=af eo;have qQ:=af lS;clear nW jo eo lS));go_roundw
  .have CS:j+1<=m.length:=ad;obtain ⟨h1,h2⟩:=GD.1 iF.o;have hle:(Lk ++ [((Value.slice (some ⟨wo.heap.size,0,none⟩) i i),t.map λp=>jd p b)]).length=Lk.length+1:=by simp
   refine ⟨j+1,ga,gc,Lk ++ [((Value.slice (some ⟨wo.heap.size,0,none⟩) i i),t.map λp=>jd p b)],ad,rfl,by go_num,by rw [hle,hlk],af ⟨?_,?_,by rw [hle];exact tk.o,λg hg=>?_,?_,λu hu p hp=>?_⟩⟩
   .exact (HS.o.below.trans ((Ea s_.o _).mono HS.o.below.size)).trans fV.o
   .exact ((HS.o.rbx.below s_.o).alloc _).grown uu.o (λe=>HS.o.row.ne _ e.symm (.inr rfl))
   .rw [hle] at hg;rcases qQ.o with e|e
    .exact HS.o.own g (e ▸ hg)
    rw [e] at hg;cases hg;simp;omega
   .unfold mu;rw [UZ,HS.o.eq,LF h1,UZ,h2];rfl
   rw [LF h1] at hu;rcases VJ.1 hu with hu|hu
   .exact HS.o.ok u hu p hp
   rw [N2,h2] at hu;subst hu;exact zA.o p (by rw [PM (by rw [<- gW.o];exact TZ _)];exact hp)
  simp [intOf];omega
 obtain rfl:j=m.length:=ad;have hmx:aF wo (λ_=>True) (.slice la Lk.length lc) (mu m b):=⟨Lk,by rw [HS.o.eq,PM (TZ _)],HS.o.row.mix.mono λ_ _=>trivial⟩;have J6:∀ t∈m,∀ p∈t,og p b=0:=by have h:=HS.o.ok;rwa [PM (TZ _)] at h
 have gO:=af (Xi (max (s+b) 0) _ _ (mu m b) _ (Xv (λ_=>True) (.slice la Lk.length lc) (mu m b) wo.heap.size (wo.alloc (.cells #[.slice la Lk.length lc] 55)) (hmx.ext (Ea (Er wo) _)) (ag.new wo #[.slice la Lk.length lc] 55).c0) (q4o LK.o J6) (by rw [Zn];omega));have zA:=af J6;have kJ:=HS.o.rbx.lt;clear hmx J6;go_wp2_with (first|(go_at_call 110;refine (Xu _ _ ⟨_,_,_,rfl⟩).mono ?_;rintro e w4 ⟨rfl,rfl⟩)|(go_at_call 106;(refine gO.o.mono ?_;rintro e w5 ⟨v,mk,hN,fo,hb5,hres⟩;have CG:Below wo.heap.size wo w5:=Et (Ea (Er wo) _) hb5;have g2:=HS.o.rbx.below CG;have s1:=(g2.cells 0).1;have s2:=(g2.cells 0).2;have HN:=af hN;have zP:=af fo;have G2:=af g2;have MY:=af CG;clear hN fo g2 CG hb5;rcases hres with ⟨hval,rfl,ly⟩|⟨hval,rfl⟩;(obtain ⟨xa,xc,rfl⟩:=ly.form))))
 .have hcc:=ag.c0 (w:=w5.setCell ⟨w.heap.size+1,0,none⟩ (.slice xa mk.length xc)) (bE 0 (.slice xa mk.length xc) G2.o);refine VN (v:=.tuple #[.agg #[.slice xa mk.length xc],.int .i64 0]) (by simp [results,Tryz.results103,go_sem,hcc]) rfl (.inl ⟨zA.o,_,mk,HN.o,zP.o,(HS.o.below.trans (MY.o.mono HS.o.below.size)).setCell (p:=⟨w.heap.size+1,0,none⟩) (by show w.heap.size<=w.heap.size+1;omega) _,.inl ⟨hval,rfl,?_⟩⟩);exact (ly.set (b:=w.heap.size+1) aR).mono λk (hk:_<=k)=>by simp at hk;omega
 have hcc:=ag.c0 (w:=w5.setCell ⟨w.heap.size+1,0,none⟩ (.slice none 0 0)) (bE 0 (.slice none 0 0) G2.o);exact VN (v:=.tuple #[.agg #[.slice none 0 0],.int .i64 2]) (by simp [results,Tryz.results103,go_sem,hcc]) rfl (.inl ⟨zA.o,.slice none 0 0,mk,HN.o,zP.o,(HS.o.below.trans (MY.o.mono HS.o.below.size)).setCell (p:=⟨w.heap.size+1,0,none⟩) (by show w.heap.size<=w.heap.size+1;omega) _,.inr ⟨hval,rfl⟩⟩)
end
section
open Go.RowKit Go.Shelf Go.Maps Kal
attribute [local go_sem] GC
theorem Oy {b:Int} (k1:MV 0 m) (hb1:-1099511627776<=b) (hb2:b<=1000):(∀ t∈m,∀ p∈t,og p b=0)/\Ao (mr m b):=by
 have hf:∀ t∈m,qo 0 t:=λt ht=>(k1.vt t ht).f;refine ⟨λt ht p hp=>wf_ ((k1.vt t ht).fv p hp).fac hb1 ad ad,?_⟩;have h1:=(Sb (mu m b)).ok (Oz hf).1;have h2:=(Ad k1.vt).1 k1.val;have hl:(mu m b).length=m.length:=by unfold mu;simp
 refine ⟨by have:=h1.2.2.1;have:=h2.1;show (C8 (mu m b)).length<=64;omega,λt ht=>h1.2.2.2 4 ad (λu hu=>?_) t ht⟩;obtain ⟨x,hx,rfl⟩:=VC.1 hu;rw [U6];exact h2.2 x hx
theorem XS (F:Nat->Prop) (v:Value) (m:List (List Per)) (b:Int) (w:World) (h1:aF w F v m) (k1:MV 0 m) (hb1:-1099511627776<=b) (hb2:b<=1000) :
  Calls Tryz.prog 103 #[.agg #[v],.int .i64 b] w λe w'=>∃ a c,e=.returned (.tuple #[.agg #[.slice a (mr m b).length c],.int .i64 0])/\aF w' (λk=>w.heap.size<=k) (.slice a (mr m b).length c) (mr m b)/\MV (max b 0) (mr m b)/\Below w.heap.size w w':=
 (tv_ 0 b F v m w h1 k1 ⟨ad,ad⟩).mono λe w' h=>by
  obtain ⟨ok1,ok2⟩:=Oy k1 hb1 hb2;rcases h with ⟨_,h⟩|⟨k,⟨t,ht,p,hp,hk⟩,hk0,_⟩
  .obtain ⟨a,c,k,mk,rfl,g1,g2,⟨rfl,g3,g4⟩|⟨_,_,_,_,x,g3,g4⟩⟩:=h.num
   .obtain rfl:=Ag g3;rw [show (0:Int)+b=b by omega] at g4;exact ⟨a,c,rfl,g1,g4,g2⟩
   obtain rfl:=Ag g3;exact absurd ok2 g4
  exact absurd (ok1 t ht p hp) (by rw [hk];exact hk0)
theorem MV.sh {b:Int} (h:MV (max b 0) m) (hb:b<=0):MV 0 m:=by rwa [show max b 0=0 by omega] at h
theorem cI.cellB {F:Nat->Prop} {L:List (Value × List Per)} (h:cI W F v L):cI W (Bm W) v L:=by
 refine ⟨?_,h.len,λx hx=>?_⟩
 .obtain ⟨a,c,rfl,h1,h2,h3⟩:=h.row;refine ⟨a,c,rfl,h1,h2,?_⟩;by_cases hL:L.length=0
  .exact .inl hL
  rcases h3 with h3|⟨b,o,rfl,hb,hl,hc⟩
  .exact .inl h3
  refine .inr ⟨b,o,rfl,Kh (hc 0 (L.getD 0 default).1 ?_),hl,hc⟩;rw [OA,VS,U2 ad];rfl
 obtain ⟨T,e,g⟩:=h.all x hx;exact ⟨T,e,g.cellB⟩
theorem aF.put {F:Nat->Prop} {l:Nat} {o o':Obj} (h:aF W F v m) (hl:W.heap[l]? = some o) (ho:o.isCells=false):aF (W.putObj l o') (λ_=>True) v m:=by
 obtain ⟨L,e,g⟩:=h;refine aF.mono ⟨L,e,g.cellB.keep2 λb hb _=>N3 ?_⟩ λ_ _=>trivial;obtain ⟨x,hx,hc⟩:=hb;rintro rfl;rw [hl] at hx;cases hx;rw [ho] at hc;cases hc
theorem aF.grown {F:Nat->Prop} (h:aF W F v m) (hg:W.grownBy W' none):aF W' F v m:=h.keep2 λb _ hl=>hg.block b hl aj
structure fI where
 p:Pr
 vc:Value
 vd:Value
 vx:Value
 vy:Value
abbrev fI.val (y:fI):Value:=.agg #[y.vc,.int .i64 y.p.c.min,y.vd,.int .i64 y.p.d.min,.int .i64 y.p.k,y.vx,y.vy,.int .i64 (max 0 (-y.p.k))]
def pS (T:List Pr) (pre:List fI) (y:fI) (W:World):Prop:=(∃ r,T=pre.map fI.p ++ y.p :: r)/\aF W (λ_=>True) y.vx (js y.p)/\aF W (λ_=>True) y.vy (jt y.p)/\(∃ a n c,y.vc=.slice a n c)/\(∃ a n c,y.vd=.slice a n c)/\MV 0 (js y.p)/\MV 0 (jt y.p)
theorem pS.put {T:List Pr} (pre:List fI) (y:fI) (W:World) (l:Nat) (o o':Obj) (hl:W.heap[l]? = some o) (ho:o.isCells=false) (h:pS T pre y W):pS T pre y (W.putObj l o'):=⟨h.1,h.2.1.put hl ho,h.2.2.1.put hl ho,h.2.2.2⟩
theorem pS.grown {T:List Pr} (pre:List fI) (y:fI) (W W':World) (hg:W.grownBy W' none) (h:pS T pre y W):pS T pre y W':=⟨h.1,h.2.1.grown hg,h.2.2.1.grown hg,h.2.2.2⟩
def PA (a b:aE) (k:Nat):List Pr:=(a.cls.take k).flatMap λc=>b.cls.flatMap λd=>mm a.len b.len c d
def PB (a b:aE) (k j:Nat):List Pr:=PA a b k ++ (b.cls.take j).flatMap λd=>mm a.len b.len (a.cls.getD k default) d
def PC (a b:aE) (k j:Nat) (t:Int):List Pr:=PB a b k j ++ (pK (tW (a.cls.getD k default) (b.cls.getD j default) b.len) (t-1)).map λx=>⟨a.cls.getD k default,b.cls.getD j default,x⟩
theorem RR {α β:Type} {l:List α} {d:α} {f:α->List β} (hk:k<l.length):(l.take (k+1)).flatMap f=(l.take k).flatMap f ++ f (l.getD k d):=by
 rw [LF hk,MC,fx hk];simp
theorem Xd {α β:Type} {l:List α} {d:α} {f:α->List β} (hk:k<l.length):∃ r,l.flatMap f=(l.take k).flatMap f ++ f (l.getD k d) ++ r:=by
 refine ⟨(l.drop (k+1)).flatMap f,?_⟩;rw [<- RR hk,<- MC,S0]
theorem vu_ {lo hi t:Int} (h1:lo<=t) (h2:t<=hi):∃ r,pK lo hi=pK lo (t-1) ++ t :: r:=by
 have key:∀ n:Nat,∀ hi,t<=hi->(hi-t).toNat=n->∃ r,pK lo hi=pK lo (t-1) ++ t :: r:=by
  intro n;induction n with
  | zero=>
   intro hi h2 e;obtain rfl:hi=t:=ad;exact ⟨[],R7 h1⟩
  | succ n ih=>
   intro hi h2 e;obtain ⟨r,hr⟩:=ih (hi-1) ad ad;exact ⟨r ++ [hi],by rw [R7 ad,hr];simp⟩
 exact key _ hi h2 rfl
theorem x9_ {a b:aE}:PC a b k j (tW (a.cls.getD k default) (b.cls.getD j default) b.len)=PB a b k j:=by
 unfold PC;rw [So ad];simp
theorem zw_ {a b:aE} {t:Int} (h:tW (a.cls.getD k default) (b.cls.getD j default) b.len<=t):PC a b k j (t+1)=PC a b k j t ++ [⟨a.cls.getD k default,b.cls.getD j default,t⟩]:=by
 unfold PC;rw [show t+1-1=t by omega,R7 h,UZ,QL];rfl
theorem zv_ {a b:aE} {t:Int} (hj:j<b.cls.length) (h:t-1=yI (a.cls.getD k default) (b.cls.getD j default) a.len\/(yI (a.cls.getD k default) (b.cls.getD j default) a.len<t/\t=tW (a.cls.getD k default) (b.cls.getD j default) b.len)):PC a b k j t=PB a b k (j+1):=by
 unfold PC PB;rw [RR (d:=default) hj,<- QL]
 congr 1
 unfold mm;rcases h with h|⟨h1,h2⟩
 .rw [h]
 rw [So ad,So ad]
theorem x7_ {a b:aE}:PB a b k 0=PA a b k:=by unfold PB;simp
theorem zu_ {a b:aE} (hk:k<a.cls.length):PB a b k b.cls.length=PA a b (k+1):=by
 unfold PB PA;rw [RR (d:=default) hk,OC]
theorem zt_ {a b:aE}:PA a b a.cls.length=oC a b:=by unfold PA oC;rw [OC]
theorem x8_ {a b:aE} {t:Int} (hk:k<a.cls.length) (hj:j<b.cls.length) (h1:tW (a.cls.getD k default) (b.cls.getD j default) b.len<=t) (h2:t<=yI (a.cls.getD k default) (b.cls.getD j default) a.len) :
  ∃ r,oC a b=PC a b k j t ++ ⟨a.cls.getD k default,b.cls.getD j default,t⟩ :: r:=by
 obtain ⟨r1,e1⟩:=Xd (d:=default) (f:=λc=>b.cls.flatMap λd=>mm a.len b.len c d) hk;obtain ⟨r2,e2⟩:=Xd (d:=default) (f:=λd=>mm a.len b.len (a.cls.getD k default) d) hj;obtain ⟨r3,e3⟩:=vu_ h1 h2;unfold oC PC PB PA;rw [e1,e2];unfold mm at *;rw [e3,UZ,GB];simp only [QL,S5];exact ⟨_,rfl⟩
theorem Xl (a1 a2 a3 a4:Option Addr) (n1 c1 n2 c2 n3 c3 n4 c4:Nat) (la lb:Int) (w:World) :
  Calls Tryz.prog 56 #[.agg #[.slice a1 n1 c1,.int .i64 la,.slice a2 n2 c2],.agg #[.slice a3 n3 c3,.int .i64 lb,.slice a4 n4 c4]] w λe w'=>
   e=.returned (.func (.func 102) #[] #[.pointer (some ⟨w.heap.size,0,none⟩),.pointer (some ⟨w.heap.size+1,0,none⟩)])/\
   w'=(w.alloc (.cells #[.slice a1 n1 c1,.int .i64 la,.slice a2 n2 c2] 43)).alloc (.cells #[.slice a3 n3 c3,.int .i64 lb,.slice a4 n4 c4] 43):=by
 go_in
 go_wp2;go_ret;exact ⟨rfl,rfl⟩
end
section
open Go.RowKit Go.Shelf Go.Maps Kal
attribute [local go_sem] GC
theorem Xb (F G pb:Nat->Prop) (a1 a2 a3 a4:Option Addr) (c1 n2 c2 c3 n4 c4 ab bb n:Nat) (L M:List br) (w:World) (A B:aE)
  (hA:eV w F (.slice a1 L.length c1) (.slice a2 n2 c2) L A) (hB:eV w G (.slice a3 M.length c3) (.slice a4 n4 c4) M B) (vA:bO A) (vB:bO B) (hF:∀ k,F k->pb k) (hG:∀ k,G k->pb k) (bN:∀ k,pb k->k<n) (hn:n<=w.heap.size)
  (hab:ag w ab #[.slice a1 L.length c1,.int .i64 A.len,.slice a2 n2 c2] 43) (dL:ag w bb #[.slice a3 M.length c3,.int .i64 B.len,.slice a4 n4 c4] 43) (g1:pb ab) (g2:pb bb) :
  uY Tryz.prog 102 #[.pointer (some ⟨ab,0,none⟩),.pointer (some ⟨bb,0,none⟩)] (λy:fI=>#[y.val]) (cK pb n) none (pS (oC A B)) (λxs=>xs.map fI.p=oC A B) w:=by
 intro l' J Jx W hW hJ AC hY rP;obtain ⟨WQ,la2⟩:=vA.val.len;obtain ⟨Sg,lb2⟩:=vB.val.len;have Uz:=hA.below hW;have UA:=hB.below hW;have PW:ag W ab _ _:=hab.below hW;have xX:ag W bb _ _:=dL.below hW;have J5:n<=W.heap.size:=NN hn hW.size;have CU:A.cls.length=L.length:=by rw [<- hA.eq];exact U6 _
 have CV:B.cls.length=M.length:=by rw [<- hB.eq];exact U6 _
 have hllA:=hA.cl.len;have hllB:=hB.cl.len;have HJ:=af hJ;have HY:=af hY;have IS:=af Uz;have B_:=af UA;have pa:=af vA;have zO:=af vB;have HF:=af hF;have HG:=af hG;have gA:=af bN;have ue:=af PW;have fQ:=af xX;have tg:=af CU;have uB:=af CV;have s0:=(PW.cells 0).1;clear hJ hY AC hA hB Uz UA vA vB hF hG bN hab dL PW xX CU CV hW hn;refine K6 Tryz.func102 rfl trivial ?_ rfl;simp only [Tryz.ntmps102,NG,MH,M4,Nat.reduceAdd,Nat.reduceSub,N0,K7,Q3,QG,L4,S5];gi_wp2_with fail;clear s0;gi_loopw [15] (λvi wr=>∃ (k:Nat) (pre:List fI),k<=L.length/\vi=.int .i64 k/\Hid (pre.map fI.p=PA A B k)/\J pre wr/\Hid (cK pb n W wr)) (λvi _=>L.length-(intOf vi).toNat)
 .exact ⟨0,[],ad,rfl,af (by simp [PA]),rP,af cK.refl⟩
 obtain ⟨k,pre,hk,rfl,HP,dK,dM⟩:=hrel;have jy:=af dK;by_cases hlt:k<L.length
 .have cP:(k:Int)<L.length:=ad;have bP:=dM.o;obtain ⟨b,o,xa,xc,m,mi,rfl,dL,e0,e1,hm,mQ,hcl⟩:=(IS.o.cl.keep2 (W':=wr) (λb hb _=>bP.pb b (HF.o b hb))).get hlt;rw [IS.o.eq] at hcl;have hcm:(⟨m,mi⟩:ey)∈A.cls:=by rw [<- hcl,fx (by rw [tg.o];exact hlt)];exact NS _
  obtain ⟨iZ,jS⟩:-4320<=mi/\mi<=4320:=pa.o.min hcm;have iG:=af (pa.o.mv _ hcm);have cS:=af hcl;have HM:=af hm;have Bc:n<=wr.heap.size:=NN J5 bP.size;have r0:=dW ((bP.boxP g2 fQ.o).cells 0).1 (.cells #[.slice xa m.length xc,.int .i64 mi] 59);have hbx:ag (wr.alloc (.cells #[.slice xa m.length xc,.int .i64 mi] 59)) wr.heap.size #[.slice xa m.length xc,.int .i64 mi] 59:=ag.at rfl;have cD:=af hbx;have hJ1:=HJ.o pre wr (wr.alloc (.cells #[.slice xa m.length xc,.int .i64 mi] 59)) none jy.o (NK _ _ _) (λr e=>by cases e);have TH:Hid (cK pb n wr (wr.alloc (.cells #[.slice xa m.length xc,.int .i64 mi] 59))):=af (cK.below (Ea (Er wr) _) (λk hk=>by have:=gA.o k hk;omega));clear hm hcm hcl mQ bP dK hbx dL;gi_wp2_with fail;clear e0 e1 r0;obtain ⟨wo,rfl⟩:∃ wo:World,wo=wr:=⟨_,rfl⟩;gi_loopw [22] (λvi wr=>∃ (j:Nat) (pre:List fI),j<=M.length/\vi=.int .i64 j/\Hid (pre.map fI.p=PB A B k j)/\J pre wr/\Hid (cK pb n wo wr)/\Hid (ag wr wo.heap.size #[.slice xa m.length xc,.int .i64 mi] 59)) (λvi _=>M.length-(intOf vi).toNat)
  .exact ⟨0,pre,ad,rfl,af (by rw [x7_];exact HP.o),hJ1,TH,cD⟩
  obtain ⟨j,pre,hj,rfl,kU,dK,qV,HB⟩:=hrel;have nk:=af dK;by_cases hlt2:j<M.length
  .have A5:(j:Int)<M.length:=ad;have bP:=cK.trans dM.o qV.o;obtain ⟨b',o',ya,yc,m2,mj,rfl,dL,e0,e1,hm,mQ,hcl⟩:=(B_.o.cl.keep2 (W':=wr) (λb hb _=>bP.pb b (HG.o b hb))).get hlt2;rw [B_.o.eq] at hcl;have hcm:(⟨m2,mj⟩:ey)∈B.cls:=by rw [<- hcl,fx (by rw [uB.o];exact hlt2)];exact NS _
   obtain ⟨hmj1,hmj2⟩:-4320<=mj/\mj<=4320:=zO.o.min hcm;have zz:=af (zO.o.mv _ hcm);have Dy:=af hcl;have Mc:=af (λ(W':World) (h:de pb wr W')=>hm.kp HG.o h);have th:=af (λ(W':World) (h:de pb wr W')=>(HM.o.kp HF.o qV.o.pb).kp HF.o h);have Bb:n<=wr.heap.size:=NN J5 bP.size;have r0:=dW ((bP.boxP g1 ue.o).cells 1).1 (.cells #[.slice ya m2.length yc,.int .i64 mj] 59);have r1:=dW ((bP.boxP g2 fQ.o).cells 1).1 (.cells #[.slice ya m2.length yc,.int .i64 mj] 59);have r2:=dW (HB.o.cells 1).1 (.cells #[.slice ya m2.length yc,.int .i64 mj] 59);have q5c:-20<=(mi-mj-B.len) / 1440+1:=ad;have Qy:(mi-mj+A.len-1) / 1440<=20:=ad;obtain ⟨lo,hlo⟩:∃ lo,lo=(mi-mj-B.len) / 1440+1:=⟨_,rfl⟩;obtain ⟨hi,lW⟩:∃ hi,hi=(mi-mj+A.len-1) / 1440:=⟨_,rfl⟩;rw [<- hlo] at q5c;rw [<- lW] at Qy;have tf:=af (show tW (A.cls.getD k default) (B.cls.getD j default) B.len=lo by rw [hlo,cS.o,hcl];rfl);have TK:=af (show yI (A.cls.getD k default) (B.cls.getD j default) A.len=hi by rw [lW,cS.o,hcl];rfl);have DZ:=af hlo;have LC:=af lW;have iE:=af (λW=>Fb (mi-mj-B.len) W ⟨ad,ad⟩);have Iu:=af (λW=>Fb (mi-mj+A.len-1) W ⟨ad,ad⟩);have fE:Hid (ag (wr.alloc (.cells #[.slice ya m2.length yc,.int .i64 mj] 59)) wr.heap.size #[.slice ya m2.length yc,.int .i64 mj] 59):=af (ag.at rfl);have HJ1:=af (HJ.o pre wr (wr.alloc (.cells #[.slice ya m2.length yc,.int .i64 mj] 59)) none nk.o (NK _ _ _) (λr e=>by cases e));have q3i:Hid (cK pb n wr (wr.alloc (.cells #[.slice ya m2.length yc,.int .i64 mj] 59))):=af (cK.below (Ea (Er wr) _) (λk hk=>by have:=gA.o k hk;omega));have jf:Hid (ag (wr.alloc (.cells #[.slice ya m2.length yc,.int .i64 mj] 59)) wo.heap.size #[.slice xa m.length xc,.int .i64 mi] 59):=af (HB.o.alloc _);clear hm hcm hcl mQ bP dK dL hlo lW;gi_wp2_with (refine ⟨trivial,rfl,?_⟩;gi_at_call 62;first|((with_reducible refine (VL.2 (iE.o _)).mono ?_);rintro e w' ⟨rfl,rfl⟩)|((with_reducible refine (VL.2 (Iu.o _)).mono ?_);rintro e w' ⟨rfl,rfl⟩));rw [<- DZ.o,<- LC.o];clear r0 r1 r2;obtain ⟨wp,rfl⟩:∃ wp:World,wp=wr:=⟨_,rfl⟩;gi_loopw [10] (λvt wr=>∃ (t:Int) (pre:List fI),vt=.int .i64 t/\lo<=t/\Hid (t-1<=hi\/t=lo)/\Hid (pre.map fI.p=PC A B k j t)/\J pre wr/\Hid (cK pb n wp wr)/\Hid (ag wr wo.heap.size #[.slice xa m.length xc,.int .i64 mi] 59)/\Hid (ag wr wp.heap.size #[.slice ya m2.length yc,.int .i64 mj] 59)) (λvt _=>(hi+1-intOf vt).toNat)
   .exact ⟨lo,pre,rfl,VI _,af (.inr rfl),af (by rw [<- tf.o,x9_];exact kU.o),HJ1.o,q3i,jf,fE⟩
   obtain ⟨t,pre,rfl,oO,HT,o8,dK,nn,bm,bl⟩:=hrel;have DU:=af dK;by_cases hth:t<=hi
   .have bP:=cK.trans dM.o (cK.trans qV.o nn.o);have hsp:=x8_ (a:=A) (b:=B) (k:=k) (j:=j) (t:=t) (by rw [tg.o];exact hlt) (by rw [uB.o];exact hlt2) (by rw [tf.o];exact oO) (by rw [TK.o];exact hth);rw [cS.o,Dy.o] at hsp;have Ca:=af hsp;have hst:=zw_ (a:=A) (b:=B) (k:=k) (j:=j) (t:=t) (by rw [tf.o];exact oO);rw [cS.o,Dy.o] at hst;have zM:=af hst;have wh:=Mc.o wr nn.o.pb;have hmx:=th.o wr nn.o.pb;have p0:=(bm.o.cells 0).1;have p1:=(bm.o.cells 1).1;have p2:=(bl.o.cells 0).1;have p3:=(bl.o.cells 1).1;have hw0:=bm.o.lt;have hw1:=bl.o.lt;have ri:=af (λk' (h:pb k')=>show k'<wr.heap.size from by have:=gA.o k' h;have:=bP.size;omega);have qU:=af (λw1 (hb:Below wr.heap.size wr w1)=>HJ.o pre wr w1 none DU.o (World.grownBy.of_below hb none) (λr e=>by cases e));have uF:=af (λW' (h:Below wr.heap.size wr W')=>(hmx.ext h).mono (λ_ _=>trivial:∀ b,_->(λ_:Nat=>True) b));have qZ:=af (λW' (h:Below wr.heap.size wr W')=>(wh.ext h).mono (λ_ _=>trivial:∀ b,_->(λ_:Nat=>True) b));have Cb:=af (λ(_:t<0) W' (h:Below wr.heap.size wr W')=>XS F _ m t W' (hmx.ext h) iG.o ad ad);have IU:=af (λ(_:0<t) W' (h:Below wr.heap.size wr W')=>XS G _ m2 (-t) W' (wh.ext h) zz.o ad ad);clear hsp hst hmx wh bP dK;have Lx:=af (λ(vx vy:Value) (W':World) (_:∃ a n c,vx=.slice a n c) (h1:aF W' (λ_=>True) vx (js ⟨⟨m,mi⟩,⟨m2,mj⟩,t⟩)) (h2:aF W' (λ_=>True) vy (jt ⟨⟨m,mi⟩,⟨m2,mj⟩,t⟩)) (g1:MV 0 (js ⟨⟨m,mi⟩,⟨m2,mj⟩,t⟩)) (g2:MV 0 (jt ⟨⟨m,mi⟩,⟨m2,mj⟩,t⟩))=>
     (show pS (oC A B) pre ⟨⟨⟨m,mi⟩,⟨m2,mj⟩,t⟩,.slice xa m.length xc,.slice ya m2.length yc,vx,vy⟩ W' from ⟨by obtain ⟨r,hr⟩:=Ca.o;exact ⟨r,by rw [o8.o];exact hr⟩,h1,h2,⟨_,_,_,rfl⟩,⟨_,_,_,rfl⟩,g1,g2⟩))
    rcases XD t 0 with hs|hs|hs
    .have q3j:=af (Cb.o hs);have kA:=af (λW' v (h:aF W' (λ_=>True) v (mr m t))=>(show aF W' (λ_=>True) v (js ⟨⟨m,mi⟩,⟨m2,mj⟩,t⟩) by unfold js;rw [if_pos hs];exact h));have fX:=af (λW' v (h:aF W' (λ_=>True) v m2)=>(show aF W' (λ_=>True) v (jt ⟨⟨m,mi⟩,⟨m2,mj⟩,t⟩) by unfold jt;rw [if_neg (show ¬ 0<t by omega)];exact h));have DK:=af (λ(h:MV 0 (mr m t))=>(show MV 0 (js ⟨⟨m,mi⟩,⟨m2,mj⟩,t⟩) by unfold js;rw [if_pos hs];exact h));have mC:=af (show MV 0 (jt ⟨⟨m,mi⟩,⟨m2,mj⟩,t⟩) by unfold jt;rw [if_neg (show ¬ 0<t by omega)];exact zz.o);clear Cb IU;gi_wp2_with (refine ⟨trivial,rfl,?_⟩;gi_at_call 103;refine (VL.2 (q3j.o _ (Ea (Er wr) _))).mono ?_;rintro e w1 ⟨lE,qJ,rfl,ix,hv2,hb1⟩;have hbx:=ag.below (ag.at (w:=wr) rfl:ag (wr.alloc (.cells #[.slice xa m.length xc,.int .i64 mi,.slice ya m2.length yc,.int .i64 mj,.int .i64 t,.slice xa m.length xc,.slice ya m2.length yc,.int .i64 (max 0 (-t))] 118)) wr.heap.size #[.slice xa m.length xc,.int .i64 mi,.slice ya m2.length yc,.int .i64 mj,.int .i64 t,.slice xa m.length xc,.slice ya m2.length yc,.int .i64 (max 0 (-t))] 118) hb1;have q0:=(hbx.cells 0).1;have q1:=(hbx.cells 1).1;have q2:=(hbx.cells 2).1;have q3:=(hbx.cells 3).1;have q4:=(hbx.cells 4).1;have q5:=(hbx.cells 5).1;have q6:=(hbx.cells 6).1;have q7:=(hbx.cells 7).1;have f6:=(hbx.cells 5).2;have bL:=af (Et (Ea (Er wr) _) hb1);have L7:=af ix;have HZ:=af hb1.size;have fG:Below wr.heap.size wr (w1.setCell ⟨wr.heap.size,5,none⟩ (.slice lE (mr m t).length qJ)):=bL.o.setCell (TZ _) _;have hJ2:=qU.o _ fG;obtain ⟨fn,tmps,assign,body,i_,hR⟩:=HY.o pre _ _ hJ2 (Lx.o (.slice lE (mr m t).length qJ) (.slice ya m2.length yc) (w1.setCell ⟨wr.heap.size,5,none⟩ (.slice lE (mr m t).length qJ)) ⟨_,_,_,rfl⟩ (kA.o _ _ ((aF.set L7.o aj).mono λ_ _=>trivial)) (fX.o _ _ (qZ.o _ fG)) (DK.o (hv2.sh ad)) mC.o);dsimp only [fI.val] at i_;have HR:=af hR;have qO:=af (bm.o.below fG);have qP:=af (bl.o.below fG);have uA:=af (nn.o.trans (cK.below fG ri.o));clear ix hv2 hb1 hbx hR hJ2 fG);refine ⟨rfl,HR.o.mono ?_⟩;rintro e W' (⟨rfl,gS,eQ⟩|⟨rfl,fK⟩)
     .have uy:=af gS;have oi:=af eQ;clear gS eQ
      gi_wp2
      go_roundw
      .exact ⟨t+1,pre ++ [_],rfl,ad,af (.inl ad),af (by rw [zM.o,UZ,o8.o];rfl),uy.o,af (uA.o.trans oi.o),af (oi.o.box Bc qO.o),af (oi.o.box Bb qP.o)⟩
      simp [intOf];omega
     gi_wp2
     refine VN (QX rfl _ _ _) rfl ?_;exact ⟨⟨_,rfl⟩,.inr ⟨_,fK⟩⟩
    .subst hs;have fG:Below wr.heap.size wr (wr.alloc (.cells #[.slice xa m.length xc,.int .i64 mi,.slice ya m2.length yc,.int .i64 mj,.int .i64 0,.slice xa m.length xc,.slice ya m2.length yc,.int .i64 0] 118)):=Ea (Er wr) _;have hJ2:=qU.o _ fG;obtain ⟨fn,tmps,assign,body,i_,hR⟩:=HY.o pre _ _ hJ2 (Lx.o (.slice xa m.length xc) (.slice ya m2.length yc) _ ⟨_,_,_,rfl⟩ (by unfold js;rw [if_neg (show ¬ (0:Int)<0 by decide)];exact uF.o _ fG) (by unfold jt;rw [if_neg (show ¬ (0:Int)<0 by decide)];exact qZ.o _ fG) (by unfold js;rw [if_neg (show ¬ (0:Int)<0 by decide)];exact iG.o) (by unfold jt;rw [if_neg (show ¬ (0:Int)<0 by decide)];exact zz.o));dsimp only [fI.val] at i_;rw [show max (0:Int) (-0)=0 from by decide] at i_;have HR:=af hR;have qO:=af (bm.o.below fG);have qP:=af (bl.o.below fG);have uA:=af (nn.o.trans (cK.below fG ri.o));clear Cb IU hR hJ2 fG;gi_wp2_with fail;refine ⟨rfl,HR.o.mono ?_⟩;rintro e W' (⟨rfl,gS,eQ⟩|⟨rfl,fK⟩)
     .have uy:=af gS;have oi:=af eQ;clear gS eQ
      gi_wp2
      go_roundw
      .exact ⟨0+1,pre ++ [_],rfl,ad,af (.inl ad),af (by rw [zM.o,UZ,o8.o];rfl),uy.o,af (uA.o.trans oi.o),af (oi.o.box Bc qO.o),af (oi.o.box Bb qP.o)⟩
      simp [intOf];omega
     gi_wp2
     refine VN (QX rfl _ _ _) rfl ?_;exact ⟨⟨_,rfl⟩,.inr ⟨_,fK⟩⟩
    have q5g:=af (IU.o hs);have kA:=af (λW' v (h:aF W' (λ_=>True) v m)=>(show aF W' (λ_=>True) v (js ⟨⟨m,mi⟩,⟨m2,mj⟩,t⟩) by unfold js;rw [if_neg (show ¬ t<0 by omega)];exact h));have fX:=af (λW' v (h:aF W' (λ_=>True) v (mr m2 (-t)))=>(show aF W' (λ_=>True) v (jt ⟨⟨m,mi⟩,⟨m2,mj⟩,t⟩) by unfold jt;rw [if_pos hs];exact h));have DK:=af (show MV 0 (js ⟨⟨m,mi⟩,⟨m2,mj⟩,t⟩) by unfold js;rw [if_neg (show ¬ t<0 by omega)];exact iG.o);have mC:=af (λ(h:MV 0 (mr m2 (-t)))=>(show MV 0 (jt ⟨⟨m,mi⟩,⟨m2,mj⟩,t⟩) by unfold jt;rw [if_pos hs];exact h));clear Cb IU;gi_wp2_with (refine ⟨trivial,rfl,?_⟩;gi_at_call 103;refine (VL.2 (q5g.o _ (Ea (Er wr) _))).mono ?_;rintro e w1 ⟨lE,qJ,rfl,ix,hv2,hb1⟩;have hbx:=ag.below (ag.at (w:=wr) rfl:ag (wr.alloc (.cells #[.slice xa m.length xc,.int .i64 mi,.slice ya m2.length yc,.int .i64 mj,.int .i64 t,.slice xa m.length xc,.slice ya m2.length yc,.int .i64 (max 0 (-t))] 118)) wr.heap.size #[.slice xa m.length xc,.int .i64 mi,.slice ya m2.length yc,.int .i64 mj,.int .i64 t,.slice xa m.length xc,.slice ya m2.length yc,.int .i64 (max 0 (-t))] 118) hb1;have q0:=(hbx.cells 0).1;have q1:=(hbx.cells 1).1;have q2:=(hbx.cells 2).1;have q3:=(hbx.cells 3).1;have q4:=(hbx.cells 4).1;have q5:=(hbx.cells 5).1;have q6:=(hbx.cells 6).1;have q7:=(hbx.cells 7).1;have f6:=(hbx.cells 6).2;have bL:=af (Et (Ea (Er wr) _) hb1);have L7:=af ix;have HZ:=af hb1.size;have fG:Below wr.heap.size wr (w1.setCell ⟨wr.heap.size,6,none⟩ (.slice lE (mr m2 (-t)).length qJ)):=bL.o.setCell (TZ _) _;have hJ2:=qU.o _ fG;obtain ⟨fn,tmps,assign,body,i_,hR⟩:=HY.o pre _ _ hJ2 (Lx.o (.slice xa m.length xc) (.slice lE (mr m2 (-t)).length qJ) (w1.setCell ⟨wr.heap.size,6,none⟩ (.slice lE (mr m2 (-t)).length qJ)) ⟨_,_,_,rfl⟩ (kA.o _ _ (uF.o _ fG)) (fX.o _ _ ((aF.set L7.o aj).mono λ_ _=>trivial)) DK.o (mC.o (hv2.sh ad)));dsimp only [fI.val] at i_;have HR:=af hR;have qO:=af (bm.o.below fG);have qP:=af (bl.o.below fG);have uA:=af (nn.o.trans (cK.below fG ri.o));clear ix hv2 hb1 hbx hR hJ2 fG);refine ⟨rfl,HR.o.mono ?_⟩;rintro e W' (⟨rfl,gS,eQ⟩|⟨rfl,fK⟩)
    .have uy:=af gS;have oi:=af eQ;clear gS eQ
     gi_wp2
     go_roundw
     .exact ⟨t+1,pre ++ [_],rfl,ad,af (.inl ad),af (by rw [zM.o,UZ,o8.o];rfl),uy.o,af (uA.o.trans oi.o),af (oi.o.box Bc qO.o),af (oi.o.box Bb qP.o)⟩
     simp [intOf];omega
    gi_wp2
    refine VN (QX rfl _ _ _) rfl ?_;exact ⟨⟨_,rfl⟩,.inr ⟨_,fK⟩⟩
   have hq:t-1=hi\/(hi<t/\t=lo):=by
    rcases HT.o with h|h
    .exact .inl ad
    exact .inr ⟨ad,h⟩
   have Qi:=zv_ (a:=A) (b:=B) (k:=k) (j:=j) (t:=t) (by rw [uB.o];exact hlt2) (by rw [tf.o,TK.o];exact hq);clear hq;have HDN:=af Qi;clear Qi dK;gi_wp2_with fail;go_roundw
   .exact ⟨j+1,pre,ad,by go_num,af (by rw [<- HDN.o];exact o8.o),DU.o,af (qV.o.trans nn.o),bm⟩
   simp [intOf];omega
  obtain rfl:j=M.length:=ad;have fg:¬ (M.length:Int)<M.length:=ad;clear dK;gi_wp2_with fail;go_roundw
  .exact ⟨k+1,pre,ad,by go_num,af (by rw [<- zu_ (by rw [tg.o];exact hlt),uB.o];exact kU.o),nk.o,af (dM.o.trans qV.o)⟩
  simp [intOf];omega
 obtain rfl:k=L.length:=ad;have fg:¬ (L.length:Int)<L.length:=ad;gi_wp2_with fail;refine bodyPost_end (QX rfl _ _ _) rfl ?_;exact ⟨⟨_,rfl⟩,.inl ⟨pre,by rw [HP.o,<- tg.o,zt_],jy.o⟩⟩
end
section
open Go.RowKit Go.Shelf Go.Maps Kal
attribute [local go_sem] GC
def x3_ (A B:aE) (w:World) (e:Ending) (w':World):Prop:=∃ r k,e=.returned (.tuple #[.bool r,.int .i64 k])/\oB A B r k/\Below w.heap.size w w'
structure kE (w:World) (av bv:Array Value) (r:Bool) (k:Int) (W:World):Prop where
 below:Below w.heap.size w W
 b0:ag W w.heap.size av 43
 b1:ag W (w.heap.size+1) bv 43
 b2:ag W (w.heap.size+1+1) #[.bool r] 4
 b3:ag W (w.heap.size+1+1+1) #[.int .i64 k] 36
theorem kE.grow {r:Bool} (h:kE w av bv r e A) (hg:A.grownBy C row) (hr:∀ k,row=some k->w.heap.size<=k/\∃ o:Obj,A.heap[k]? = some o/\o.isCells=false):kE w av bv r e C:=by
 have key:∀ {b:Nat} {c:Array Value} {t:TypeId},ag A b c t->ag C b c t:=λ{b c t} hb=>hb.grown hg λe=>by
  obtain ⟨_,o,h1,h2⟩:=hr b e.symm;rw [hb] at h1;cases h1;cases h2
 exact ⟨h.below.grown hg h.below.size λk e=>(hr k e).1,key h.b0,key h.b1,key h.b2,key h.b3⟩
theorem kE.ext {r:Bool} (h:kE w av bv r e A) (hb:Below A.heap.size A C):kE w av bv r e C:=
 ⟨Et h.below hb,h.b0.below hb,h.b1.below hb,h.b2.below hb,h.b3.below hb⟩
theorem kE.setR {r s:Bool} {k l:Int} (h:kE w av bv r k A):kE w av bv s l ((A.setCell ⟨w.heap.size+1+1,0,none⟩ (.bool s)).setCell ⟨w.heap.size+1+1+1,0,none⟩ (.int .i64 l)):=
 ⟨(h.below.setCell (p:=⟨w.heap.size+1+1,0,none⟩) aR _).setCell (p:=⟨w.heap.size+1+1+1,0,none⟩) aR _,(h.b0.setNe _ (by show _≠_;omega)).setNe _ (by show _≠_;omega),(h.b1.setNe _ (by show _≠_;omega)).setNe _ (by show _≠_;omega),ag.setNe (t:=4) (c:=#[.bool s]) (bE 0 (.bool s) h.b2) _ aj,bE 0 _ (h.b3.setNe _ aj)⟩
theorem kE.setNe {r:Bool} {k:Int} {q:Nat} (h:kE w av bv r k A) (v:Value) (hq:w.heap.size+4<=q):kE w av bv r k (A.setCell ⟨q,0,none⟩ v):=
 ⟨h.below.setCell (p:=⟨q,0,none⟩) (by show w.heap.size<=q;omega) _,h.b0.setNe v ad,h.b1.setNe v ad,h.b2.setNe v ad,h.b3.setNe v ad⟩
def LtQ (lb:Nat) (pre:List fI) (W:World):Prop:=∃ lt:Bool,ag W lb #[.bool lt] 4/\(lt=true↔∃ y∈pre,∃ n,Ai y.p n)
theorem qn_ {n:List (List Per)} (h:MV 0 m) (g:MV 0 n):∀ t∈dY m n,qo 0 t:=λt ht=>by
 obtain ⟨x,hx,y,hy,rfl⟩:=Jk.1 ht;have h1:=(h.vt x hx).f;have h2:=(g.vt y hy).f;exact ⟨λe=>h1.1 (q7t.1 e).1,λp hp=>(VJ.1 hp).elim (h1.2 p) (h2.2 p)⟩
theorem cK.setCell {pb:Nat->Prop} {q:Nat} (v:Value) (h1:¬ pb q) (h2:q<n):cK pb n W (W.setCell ⟨q,0,none⟩ v):=
 ⟨λk hk=>DO W ⟨q,0,none⟩ v k (λe=>h1 ((show k=q from e) ▸ hk)),λk o hk ho _=>(DO W ⟨q,0,none⟩ v k (by show k≠q;omega)).trans ho,by simp [O1]⟩
theorem Sr {w7:World} {lb:Nat} {lt v:Bool} (h1:w.heap.size+4<=lb) (h2:lb<W1.heap.size) (hb:Below W2.heap.size W2 w7) (bP:KeepsOthers W1 W2) (hM:kE w av bv false 0 W2) (hl:ag W2 lb #[.bool lt] 4) :
  KeepsFrom W1.heap.size W2 (w7.setCell ⟨lb,0,none⟩ (.bool v))/\cK (λk=>k<W1.heap.size/\k≠lb) W1.heap.size W2 (w7.setCell ⟨lb,0,none⟩ (.bool v))/\kE w av bv false 0 (w7.setCell ⟨lb,0,none⟩ (.bool v))/\KeepsOthers W1 (w7.setCell ⟨lb,0,none⟩ (.bool v))/\ag (w7.setCell ⟨lb,0,none⟩ (.bool v)) lb #[.bool v] 4:=by
 have hk:=(KeepsOthers.of_below hb).trans (K8 w7 ⟨lb,0,none⟩ (.bool v));exact ⟨hk.from _,(cK.below hb (λk h=>N6 h.1 bP.size)).trans (cK.setCell _ (λh=>h.2 rfl) h2),(hM.ext hb).setNe _ h1,bP.trans hk,bE 0 _ (hl.below hb)⟩
theorem SC {pre:List fI} {y:fI} (h:∀ y∈pre,¬ jK y.p) (g:¬ jK y.p):∀ z∈pre ++ [y],¬ jK z.p:=λz hz=>by
 rcases VJ.1 hz with hz|hz
 .exact h z hz
 obtain rfl:=N2.1 hz;exact g
def Ib (n b:Nat) (y:fI) (W:World):Prop:=n<=b/\ag W b #[y.vc,.int .i64 y.p.c.min,y.vd,.int .i64 y.p.d.min,.int .i64 y.p.k,y.vx,y.vy,.int .i64 (max 0 (-y.p.k))] 118
theorem Ib.put {b:Nat} {y:fI} {l:Nat} {o o':Obj} (h:Ib n b y W) (hl:W.heap[l]? = some o) (ho:o.isCells=false):Ib n b y (W.putObj l o'):=
 ⟨h.1,(N3 (λe=>by subst e;rw [h.2] at hl;cases hl;cases ho)).trans h.2⟩
theorem v6_ (F G:Nat->Prop) (qh qt qi qu:Value) (A B:aE) (w:World) (hA:bq w F qh qt A) (hB:bq w G qi qu B) (vA:bO A) (vB:bO B) :
  Calls Tryz.prog 28 #[.agg #[qh,.int .i64 A.len,qt],.agg #[qi,.int .i64 B.len,qu]] w (x3_ A B w):=by
 have hA:=hA.lt;have hB:=hB.lt;have pa:=λW (hb:Below w.heap.size w W)=>Ab _ qh qt A W (hA.ext hb);have zO:=λW (hb:Below w.heap.size w W)=>Ab _ qi qu B W (hB.ext hb);rw [xx.2 vA.val] at pa;rw [xx.2 vB.val] at zO;have ue:=λW (hb:Below w.heap.size w W)=>W_ _ _ qh qt qi qu A B W (hA.ext hb) (hB.ext hb) vA vB;have jf:=λW (hb:Below w.heap.size w W)=>W_ _ _ qi qu qh qt B A W (hB.ext hb) (hA.ext hb) vB vA;obtain ⟨LA,hA⟩:=hA;obtain ⟨LB,hB⟩:=hB;obtain ⟨a1,c1,rfl⟩:=hA.cl.form;obtain ⟨a2,c2,rfl⟩:=hA.ex.form;obtain ⟨a3,c3,rfl⟩:=hB.cl.form;obtain ⟨a4,c4,rfl⟩:=hB.ex.form;have HA:=af hA;have HB:=af hB;have VA:=af vA;have VB:=af vB;have pa:=af pa;have zO:=af zO;have ue:=af ue;have jf:=af jf;clear hA hB vA vB;refine VL (n:=0).1 ?_;refine NT Tryz.func28 rfl trivial ?_ rfl;simp only [Tryz.ntmps28,NG,MH,M4,Nat.reduceAdd,Nat.reduceSub,N0,K7,Q3,QG,L4,S5];have pY:Hid (kE w #[.slice a1 LA.length c1,.int .i64 A.len,.slice a2 A.ext.length c2] #[.slice a3 LB.length c3,.int .i64 B.len,.slice a4 B.ext.length c4] false 0 ((((w.alloc (.cells #[.slice a1 LA.length c1,.int .i64 A.len,.slice a2 A.ext.length c2] 43)).alloc (.cells #[.slice a3 LB.length c3,.int .i64 B.len,.slice a4 B.ext.length c4] 43)).alloc (.cells #[.bool false] 4)).alloc (.cells #[.int .i64 0] 36))):=
  af ⟨by exact xE,(((ag.at rfl).alloc _).alloc _).alloc _,((ag.at aj).alloc _).alloc _,(ag.at aj).alloc _,ag.at aj⟩
 gi_wp2_with (first
  | (refine ⟨trivial,rfl,?_⟩;gi_at_call 23;(with_reducible refine (VL.2 (pa.o _ pY.o.below)).mono ?_);rintro e w1 ⟨rfl,hb1⟩;have kz:=af (pY.o.ext hb1);have x0:=(kz.o.b0.cells 0).1;have x1:=(kz.o.b0.cells 1).1;have x2:=(kz.o.b0.cells 2).1;have y0:=(kz.o.b1.cells 0).1;have y1:=(kz.o.b1.cells 1).1;have y2:=(kz.o.b1.cells 2).1;clear hb1)
  | (refine ⟨trivial,rfl,?_⟩;gi_at_call 23;(with_reducible refine (VL.2 (zO.o _ kz.o.below)).mono ?_);rintro e w2 ⟨rfl,hb2⟩;have dV:=af (kz.o.ext hb2);clear x0 x1 x2 y0 y1 y2;have x0:=(dV.o.b0.cells 0).1;have x1:=(dV.o.b0.cells 1).1;have x2:=(dV.o.b0.cells 2).1;have y0:=(dV.o.b1.cells 0).1;have y1:=(dV.o.b1.cells 1).1;have y2:=(dV.o.b1.cells 2).1;clear hb2)
  | (refine ⟨trivial,rfl,?_⟩;gi_at_call 55;(with_reducible refine (VL.2 (ue.o _ dV.o.below)).mono ?_);rintro e w3 ⟨r1,rfl,hr1,hb3⟩;have fR:=af (dV.o.ext hb3);have pX:=af hr1;clear hb3 hr1 x0 x1 x2 y0 y1 y2;have x0:=(fR.o.b0.cells 0).1;have x1:=(fR.o.b0.cells 1).1;have x2:=(fR.o.b0.cells 2).1;have y0:=(fR.o.b1.cells 0).1;have y1:=(fR.o.b1.cells 1).1;have y2:=(fR.o.b1.cells 2).1;have z0:=(fR.o.b2.cells 0).1;have z1:=(fR.o.b2.cells 0).2;have z2:=(fR.o.b3.cells 0).1;have z3:=(fR.o.b3.cells 0).2;cases r1)
  | (refine ⟨trivial,rfl,?_⟩;gi_at_call 55;(with_reducible refine (VL.2 (jf.o _ fR.o.below)).mono ?_);rintro e w4 ⟨r2,rfl,hr2,hb4⟩;have lH:=af (fR.o.ext hb4);have jh:=af hr2;clear hb4 hr2 x0 x1 x2 y0 y1 y2 z0 z1 z2 z3;have x0:=(lH.o.b0.cells 0).1;have x1:=(lH.o.b0.cells 1).1;have x2:=(lH.o.b0.cells 2).1;have y0:=(lH.o.b1.cells 0).1;have y1:=(lH.o.b1.cells 1).1;have y2:=(lH.o.b1.cells 2).1;have z0:=(lH.o.b2.cells 0).1;have z1:=(lH.o.b2.cells 0).2;have z2:=(lH.o.b3.cells 0).1;have z3:=(lH.o.b3.cells 0).2;cases r2)
  | (refine ⟨trivial,?_⟩;apply_assumption))
 .refine ⟨trivial,rfl,?_⟩
  gi_at_call 56
  refine (VL.2 (Xl a1 a2 a3 a4 LA.length c1 A.ext.length c2 LB.length c3 B.ext.length c4 A.len B.len w4)).mono ?_;rintro e w5 ⟨rfl,qE⟩;obtain ⟨W0,rfl⟩:∃ W0,W0=w5:=⟨_,rfl⟩;have hE:Below w4.heap.size w4 W0:=by rw [qE];exact xE
  have hsz:W0.heap.size=w4.heap.size+1+1:=by rw [qE];simp
  have La:Hid (ag W0 w4.heap.size #[.slice a1 LA.length c1,.int .i64 A.len,.slice a2 A.ext.length c2] 43):=af (by rw [qE];exact (ag.at rfl).alloc _);have cD:Hid (ag W0 (w4.heap.size+1) #[.slice a3 LB.length c3,.int .i64 B.len,.slice a4 B.ext.length c4] 43):=af (by rw [qE];exact ag.at aj);have oq:=af (lH.o.ext hE);have iB:=af oq.o.below;have hww:=oq.o.below.size;have hwl:=lH.o.b3.lt;have w_:Hid (∀ k,(F k/\k<w.heap.size)->k<W0.heap.size):=af (λk h=>ad);have Mu:Hid (∀ k,(G k/\k<w.heap.size)->k<W0.heap.size):=af (λk h=>ad);have gA:Hid (∀ k,k<W0.heap.size->k<W0.heap.size):=af (λk h=>h);have uL:Hid (w4.heap.size<W0.heap.size):=af ad;have kU:Hid (w4.heap.size+1<W0.heap.size):=af ad;have TU:Hid (¬ (pn A B\/pn B A)):=af (λh=>h.elim (λh=>by simpa using pX.o.2 h) (λh=>by simpa using jh.o.2 h));clear qE hE x0 x1 x2 y0 y1 y2 z0 z1 z2 z3;gi_wp2_with fail;refine E6 (α:=fI) (x:=none) (gf:=102) (lb:=#[.pointer (some ⟨w4.heap.size,0,none⟩),.pointer (some ⟨w4.heap.size+1,0,none⟩)]) rfl (enters_of Tryz.func102 (by kernel_rfl) rfl)
   (Xb (λb=>F b/\b<w.heap.size) (λb=>G b/\b<w.heap.size) (λk=>k<W0.heap.size) a1 a2 a3 a4 c1 A.ext.length c2 c3 B.ext.length c4 (w4.heap.size) (w4.heap.size+1) W0.heap.size LA LB W0 A B (HA.o.below iB.o) (HB.o.below iB.o) VA.o VB.o w_.o Mu.o gA.o (TZ _) La.o cD.o uL.o kU.o)
   (λh k=>h.trans k) (λW1 l o o' hl ho hc=>cK.putObj gA.o W1 l o o' hl ho hc) (λW1 W2 hn hg=>cK.grown gA.o W1 W2 hn hg) (λy=>rfl)
   (λpre W'=>(∀ y∈pre,∀ n,0<=n->n<=cH->¬ Ai y.p n)/\kE w #[.slice a1 LA.length c1,.int .i64 A.len,.slice a2 A.ext.length c2] #[.slice a3 LB.length c3,.int .i64 B.len,.slice a4 B.ext.length c4] false 0 W'/\KeepsOthers W0 W')
   (λc' _ W'=>c'=.ret/\Fe A B/\kE w #[.slice a1 LA.length c1,.int .i64 A.len,.slice a2 A.ext.length c2] #[.slice a3 LB.length c3,.int .i64 B.len,.slice a4 B.ext.length c4] true 0 W'/\KeepsOthers W0 W')
   (λpre A' C row hI hg hr=>by
     have hr':∀ r,row=some r->W0.heap.size<=r/\∃ o:Obj,A'.heap[r]? = some o/\o.isCells=false:=λr e=>by
      rcases hr r e with ⟨h,_⟩|h
      .cases h
      exact h
     exact ⟨hI.1,hI.2.1.grow hg λr e=>⟨by have:=(hr' r e).1;omega,(hr' r e).2⟩,KeepsOthers.grow hI.2.2 hg λr e=>(hr' r e).1⟩)
   (λc' pre A' C row hI hg hr=>by
     have hr':∀ r,row=some r->W0.heap.size<=r/\∃ o:Obj,A'.heap[r]? = some o/\o.isCells=false:=λr e=>by
      rcases hr r e with ⟨h,_⟩|h
      .cases h
      exact h
     exact ⟨hI.1,hI.2.1,hI.2.2.1.grow hg λr e=>⟨by have:=(hr' r e).1;omega,(hr' r e).2⟩,KeepsOthers.grow hI.2.2.2 hg λr e=>(hr' r e).1⟩)
   (λpre y W1 l o o' hl ho h=>pS.put pre y W1 l o o' hl ho h) (λpre y W1 W2 hg h=>pS.grown pre y W1 W2 hg h) ⟨aj,oq.o,P8 _⟩
   (λy a' W1=>∃ b,a'=⟨#[.agg #[.slice a1 LA.length c1,.int .i64 A.len,.slice a2 A.ext.length c2],.agg #[.slice a3 LB.length c3,.int .i64 B.len,.slice a4 B.ext.length c4],.pointer (some ⟨w.heap.size,0,none⟩),.pointer (some ⟨w.heap.size+1,0,none⟩),.pointer (some ⟨w.heap.size+1+1,0,none⟩),.pointer (some ⟨w.heap.size+1+1+1,0,none⟩),.pointer (some ⟨b,0,none⟩),undef,undef,undef,undef,undef,undef,.agg #[.slice a1 LA.length c1,.int .i64 A.len,.slice a2 A.ext.length c2],.bool true,.bool false,.bool false,.agg #[.slice a3 LB.length c3,.int .i64 B.len,.slice a4 B.ext.length c4],.bool true,.bool false,.bool false,.agg #[.slice a1 LA.length c1,.int .i64 A.len,.slice a2 A.ext.length c2],.agg #[.slice a3 LB.length c3,.int .i64 B.len,.slice a4 B.ext.length c4],.bool false,.bool false,.agg #[.slice a3 LB.length c3,.int .i64 B.len,.slice a4 B.ext.length c4],.agg #[.slice a1 LA.length c1,.int .i64 A.len,.slice a2 A.ext.length c2],.bool false,.bool false,.agg #[.slice a1 LA.length c1,.int .i64 A.len,.slice a2 A.ext.length c2],.agg #[.slice a3 LB.length c3,.int .i64 B.len,.slice a4 B.ext.length c4],.func (.func 102) #[] #[.pointer (some ⟨w4.heap.size,0,none⟩),.pointer (some ⟨w4.heap.size+1,0,none⟩)],y.val,undef,undef,undef,undef,undef,undef,undef,undef,undef,undef,undef,undef,undef,undef,undef,undef,undef,undef,undef,undef,undef,undef,undef,undef,undef,undef,undef,undef,undef,undef],[]⟩/\Ib W0.heap.size b y W1)
   (λy a' W1 l o o' _ hl ho h=>⟨h.choose,h.choose_spec.1,h.choose_spec.2.put hl ho⟩) ?assign ?body ?done ?stop
  case assign=>
   rintro l pre ⟨p,vc,vd,vx,vy⟩ W' K PT _ ⟨-,hx,hy,⟨x1,x2,x3,rfl⟩,⟨y1,y2,y3,rfl⟩,-⟩ hK;change aF W' _ vx (js p) at hx;change aF W' _ vy (jt p) at hy;obtain ⟨x4,x5,rfl⟩:=hx.form;obtain ⟨y4,y5,rfl⟩:=hy.form;dsimp only [fI.val]
   gi_wp2
   exact hK _ _ (NK _ _ _) ⟨W'.heap.size,rfl,PT,ag.at rfl⟩
  case body=>
   rintro l pre ⟨p,vc,vd,vx,vy⟩ _ W' ⟨hpre,iu,bP⟩ ⟨⟨r,hr⟩,hx,hy,⟨x1,x2,x3,rfl⟩,⟨y1,y2,y3,rfl⟩,mx,my⟩ ⟨b,rfl,kr,hbx⟩;change aF W' _ vx (js p) at hx;change aF W' _ vy (jt p) at hy;change MV 0 (js p) at mx;change MV 0 (jt p) at my;obtain ⟨x4,x5,rfl⟩:=hx.form;obtain ⟨y4,y5,rfl⟩:=hy.form;dsimp only [fI.val] at *;have q5:=(hbx.cells 5).1;have q6:=(hbx.cells 6).1;have hbl:=hbx.lt;have HF:=af (tt_ 0 _ _ _ _ _ _ 0 W' hx hy mx my ⟨ad,ad⟩);have cT:=af hpre;have iF:=af iu;have dM:=af bP;have HR:=af hr;clear hpre iu bP hr hx hy mx my;gi_wp2_with (refine ⟨trivial,rfl,?_⟩;gi_at_call 57;refine (LM l (VL.2 HF.o)).mono ?_;rintro e w6 ⟨n,bb,rfl,hN,bG⟩;have HN:=af hN;have bR:=af bG;have gN:=af (iF.o.ext bG);have z0:=(gN.o.b2.cells 0).1;have z1:=(gN.o.b2.cells 0).2;have z2:=(gN.o.b3.cells 0).1;have z3:=(gN.o.b3.cells 0).2;clear hN bG;cases bb)
   .refine ⟨(KeepsOthers.of_below bR.o).from _,cK.below bR.o (λk hk=>N6 hk dM.o.size),λy hy n h0 h1 hc=>?_,gN.o,dM.o.trans (KeepsOthers.of_below bR.o)⟩;rcases VJ.1 hy with hy|hy
    .exact cT.o y hy n h0 h1 hc
    obtain rfl:=N2.1 hy;rcases HN.o with ⟨h,_⟩|⟨_,_,h⟩
    .cases h
    exact h n ad h1 hc
   refine ⟨((KeepsOthers.of_below bR.o).trans ((K8 w6 ⟨w.heap.size+1+1,0,none⟩ (.bool true)).trans (K8 _ ⟨w.heap.size+1+1+1,0,none⟩ (.int .i64 0)))).from _,rfl,?_,gN.o.setR,dM.o.trans ((KeepsOthers.of_below bR.o).trans ((K8 w6 ⟨w.heap.size+1+1,0,none⟩ (.bool true)).trans (K8 _ ⟨w.heap.size+1+1+1,0,none⟩ (.int .i64 0))))⟩;rcases HN.o with ⟨_,h1,h2,h3,_⟩|⟨h,_⟩
   .exact ⟨p,by rw [HR.o];simp,n,ad,h2,h3⟩
   cases h
  case done=>
   rintro D xs W' hD aM ⟨hall,iu,bP⟩ aL;have UP:¬ (pn A B\/pn B A\/Fe A B):=λh=>by
    rcases h with h|h|⟨q,hq,n,h0,h1,h2⟩
    .exact TU.o (.inl h)
    .exact TU.o (.inr h)
    rw [<- aM] at hq;obtain ⟨y,hy,rfl⟩:=VC.1 hq;exact hall y hy n h0 h1 h2
   have jg:=af UP;have iF:=af iu;have fW:=af aL;have hDl:=(Q0.1 aL).1;have hMs:=iu.below.size;have hML:=iu.b3.lt;have qX:=af (iu.ext (Ea (Er W') (.cells #[.bool false] 4)));have x0:=(qX.o.b0.cells 0).1;have x1:=(qX.o.b0.cells 1).1;have x2:=(qX.o.b0.cells 2).1;have y0:=(qX.o.b1.cells 0).1;have y1:=(qX.o.b1.cells 1).1;have y2:=(qX.o.b1.cells 2).1;clear aM hall iu bP aL UP;gi_wp2_with (refine ⟨trivial,rfl,?_⟩;gi_at_call 56;refine (VL.2 (Xl a1 a2 a3 a4 LA.length c1 A.ext.length c2 LB.length c3 B.ext.length c4 A.len B.len _)).mono ?_;rintro e w' ⟨rfl,rfl⟩);generalize hW1:((W'.alloc _).alloc _).alloc _=W1;have hE:Below W'.heap.size W' W1:=by rw [<- hW1];exact xE
   have hsz:W1.heap.size=W'.heap.size+1+1+1:=by rw [<- hW1];simp
   have uB:Hid (ag W1 W'.heap.size #[.bool false] 4):=af (by rw [<- hW1];exact ((ag.at rfl).alloc _).alloc _);have La:Hid (ag W1 (W'.heap.size+1) #[.slice a1 LA.length c1,.int .i64 A.len,.slice a2 A.ext.length c2] 43):=af (by rw [<- hW1];exact (ag.at aj).alloc _);have cD:Hid (ag W1 (W'.heap.size+1+1) #[.slice a3 LB.length c3,.int .i64 B.len,.slice a4 B.ext.length c4] 43):=af (by rw [<- hW1];exact ag.at aj);have oq:=af (iF.o.ext hE);have iB:=af oq.o.below;have BS:=af ((hE.block D hDl).trans fW.o);have w_:Hid (∀ k,(F k/\k<w.heap.size)->k<W1.heap.size/\k≠W'.heap.size):=af (λk h=>ad);have Mu:Hid (∀ k,(G k/\k<w.heap.size)->k<W1.heap.size/\k≠W'.heap.size):=af (λk h=>ad);have gA:Hid (∀ k,(k<W1.heap.size/\k≠W'.heap.size)->k<W1.heap.size):=af (λk h=>h.1);have uL:Hid (W'.heap.size+1<W1.heap.size/\W'.heap.size+1≠W'.heap.size):=af ad;have kU:Hid (W'.heap.size+1+1<W1.heap.size/\W'.heap.size+1+1≠W'.heap.size):=af ad;clear hW1 hE x0 x1 x2 y0 y1 y2;refine E6 (α:=fI) (x:=none) (gf:=102) (lb:=#[.pointer (some ⟨W'.heap.size+1,0,none⟩),.pointer (some ⟨W'.heap.size+1+1,0,none⟩)]) rfl (enters_of Tryz.func102 (by kernel_rfl) rfl)
    (Xb (λb=>F b/\b<w.heap.size) (λb=>G b/\b<w.heap.size) (λk=>k<W1.heap.size/\k≠W'.heap.size) a1 a2 a3 a4 c1 A.ext.length c2 c3 B.ext.length c4 (W'.heap.size+1) (W'.heap.size+1+1) W1.heap.size LA LB W1 A B (HA.o.below iB.o) (HB.o.below iB.o) VA.o VB.o w_.o Mu.o gA.o (TZ _) La.o cD.o uL.o kU.o)
    (λh k=>h.trans k) (λW2 l o o' hl ho hc=>cK.putObj gA.o W2 l o o' hl ho hc) (λW2 W3 hn hg=>cK.grown gA.o W2 W3 hn hg) (λy=>rfl)
    (λpre W2=>(∀ y∈pre,¬ jK y.p)/\LtQ W'.heap.size pre W2/\kE w #[.slice a1 LA.length c1,.int .i64 A.len,.slice a2 A.ext.length c2] #[.slice a3 LB.length c3,.int .i64 B.len,.slice a4 B.ext.length c4] false 0 W2/\KeepsOthers W1 W2)
    (λc' _ W2=>c'=.ret/\Cz A B/\kE w #[.slice a1 LA.length c1,.int .i64 A.len,.slice a2 A.ext.length c2] #[.slice a3 LB.length c3,.int .i64 B.len,.slice a4 B.ext.length c4] false 2 W2/\KeepsOthers W1 W2)
    (λpre A' C row hI hg hr=>by
      have hr':∀ r,row=some r->W1.heap.size<=r/\∃ o:Obj,A'.heap[r]? = some o/\o.isCells=false:=λr e=>by
       rcases hr r e with ⟨h,_⟩|h
       .cases h
       exact h
      obtain ⟨h1,⟨lt,h2,h3⟩,h4,h5⟩:=hI;exact ⟨h1,⟨lt,h2.grown hg (λe=>by have:=(hr' _ e.symm).1;omega),h3⟩,h4.grow hg λr e=>⟨by have:=(hr' r e).1;omega,(hr' r e).2⟩,KeepsOthers.grow h5 hg λr e=>(hr' r e).1⟩)
    (λc' pre A' C row hI hg hr=>by
      have hr':∀ r,row=some r->W1.heap.size<=r/\∃ o:Obj,A'.heap[r]? = some o/\o.isCells=false:=λr e=>by
       rcases hr r e with ⟨h,_⟩|h
       .cases h
       exact h
      exact ⟨hI.1,hI.2.1,hI.2.2.1.grow hg λr e=>⟨by have:=(hr' r e).1;omega,(hr' r e).2⟩,KeepsOthers.grow hI.2.2.2 hg λr e=>(hr' r e).1⟩)
    (λpre y W2 l o o' hl ho h=>pS.put pre y W2 l o o' hl ho h) (λpre y W2 W3 hg h=>pS.grown pre y W2 W3 hg h) ⟨aj,⟨false,uB.o,aj⟩,oq.o,P8 _⟩
    (λy a' W2=>∃ b,a'=⟨#[.agg #[.slice a1 LA.length c1,.int .i64 A.len,.slice a2 A.ext.length c2],.agg #[.slice a3 LB.length c3,.int .i64 B.len,.slice a4 B.ext.length c4],.pointer (some ⟨w.heap.size,0,none⟩),.pointer (some ⟨w.heap.size+1,0,none⟩),.pointer (some ⟨w.heap.size+1+1,0,none⟩),.pointer (some ⟨w.heap.size+1+1+1,0,none⟩),undef,undef,undef,.pointer (some ⟨W'.heap.size,0,none⟩),.pointer (some ⟨b,0,none⟩),undef,undef,.agg #[.slice a1 LA.length c1,.int .i64 A.len,.slice a2 A.ext.length c2],.bool true,.bool false,.bool false,.agg #[.slice a3 LB.length c3,.int .i64 B.len,.slice a4 B.ext.length c4],.bool true,.bool false,.bool false,.agg #[.slice a1 LA.length c1,.int .i64 A.len,.slice a2 A.ext.length c2],.agg #[.slice a3 LB.length c3,.int .i64 B.len,.slice a4 B.ext.length c4],.bool false,.bool false,.agg #[.slice a3 LB.length c3,.int .i64 B.len,.slice a4 B.ext.length c4],.agg #[.slice a1 LA.length c1,.int .i64 A.len,.slice a2 A.ext.length c2],.bool false,.bool false,.agg #[.slice a1 LA.length c1,.int .i64 A.len,.slice a2 A.ext.length c2],.agg #[.slice a3 LB.length c3,.int .i64 B.len,.slice a4 B.ext.length c4],.func (.func 102) #[] #[.pointer (some ⟨w4.heap.size,0,none⟩),.pointer (some ⟨w4.heap.size+1,0,none⟩)],undef,undef,undef,undef,undef,undef,undef,undef,undef,undef,.agg #[.slice a1 LA.length c1,.int .i64 A.len,.slice a2 A.ext.length c2],.agg #[.slice a3 LB.length c3,.int .i64 B.len,.slice a4 B.ext.length c4],.func (.func 102) #[] #[.pointer (some ⟨W'.heap.size+1,0,none⟩),.pointer (some ⟨W'.heap.size+1+1,0,none⟩)],y.val,undef,undef,undef,undef,undef,undef,undef,undef,undef,undef,undef,undef,undef,undef,undef,undef,undef],[]⟩/\Ib W1.heap.size b y W2)
    (λy a' W2 l o o' _ hl ho h=>⟨h.choose,h.choose_spec.1,h.choose_spec.2.put hl ho⟩) ?assign2 ?body2 ?done2 ?stop2
   case assign2=>
    rintro l pre ⟨p,vc,vd,vx,vy⟩ W2 K hW2 _ ⟨-,hx,hy,⟨x1,x2,x3,rfl⟩,⟨y1,y2,y3,rfl⟩,-⟩ hK;change aF W2 _ vx (js p) at hx;change aF W2 _ vy (jt p) at hy;obtain ⟨x4,x5,rfl⟩:=hx.form;obtain ⟨y4,y5,rfl⟩:=hy.form;dsimp only [fI.val]
    gi_wp2
    exact hK _ _ (NK _ _ _) ⟨W2.heap.size,rfl,hW2,ag.at rfl⟩
   case body2=>
    rintro l pre ⟨p,vc,vd,vx,vy⟩ _ W2 ⟨hpre,hLQ,iu,bP⟩ ⟨⟨r,hr⟩,hx,hy,⟨x1,x2,x3,rfl⟩,⟨y1,y2,y3,rfl⟩,mx,my⟩ ⟨b,rfl,kr,hbx⟩;change aF W2 _ vx (js p) at hx;change aF W2 _ vy (jt p) at hy;change MV 0 (js p) at mx;change MV 0 (jt p) at my;obtain ⟨x4,x5,rfl⟩:=hx.form;obtain ⟨y4,y5,rfl⟩:=hy.form;dsimp only [fI.val] at *;obtain ⟨lt,gw,hlt⟩:=hLQ;have q5:=(hbx.cells 5).1;have q6:=(hbx.cells 6).1;have hbl:=hbx.lt;have sy:=gw.lt;have HND:=af (yf_ 0 _ _ _ _ _ _ W2 hx hy mx my);have Iv:=af (qn_ mx my);have cT:=af hpre;have iF:=af iu;have dM:=af bP;have uC:=af gw;have bU:=af hlt;have HR:=af hr;clear hpre iu bP hr hx hy mx my gw hlt hbx;cases lt;all_goals
     gi_wp2_with (first
      | (refine ⟨trivial,rfl,?_⟩;gi_at_call 58;refine (LM l (VL.2 HND.o)).mono ?_;rintro e w6 hres;obtain ⟨oa,oc,k,mk,rfl,ly,bG,hst⟩:=hres.num;have th:=af ly;have HST:=af hst;have bR:=af bG;have gN:=af (iF.o.ext bG);have oZ:=af (uC.o.below bG);have z0:=(gN.o.b2.cells 0).1;have z1:=(gN.o.b2.cells 0).2;have z2:=(gN.o.b3.cells 0).1;have z3:=(gN.o.b3.cells 0).2;have z4:=λo=>((gN.o.b2.alloc o).cells 0).1;have z5:=λo=>((gN.o.b2.alloc o).cells 0).2;have z6:=λo=>((gN.o.b3.alloc o).cells 0).1;have z7:=λo=>((gN.o.b3.alloc o).cells 0).2;have l0:=(oZ.o.cells 0).1;have l1:=(oZ.o.cells 0).2;have yo:W'.heap.size<w6.heap.size:=oZ.o.lt;have QT:=gN.o.b3.lt;have hk6:=bG.size;clear ly hst bG hres;rcases HST.o with ⟨rfl,hN,A9⟩|⟨rfl,rfl,rfl,rfl,hN⟩;all_goals (have HN:=af hN;clear hN);all_goals (try (have iG:=af A9;clear A9)))
      | (refine ⟨trivial,rfl,?_⟩;gi_at_call 59;refine (LM l (VL.2 (to_ _ _ mk _ (th.o.ext (Ea (Er w6) _))))).mono ?_;rintro e w7 ⟨bb,rfl,dL,ek⟩;have fQ:=af dL;have gV:=af (Et (Ea (Er w6) _) ek);clear dL ek l0 l1;have IG:=af (oZ.o.below gV.o);have l0:=(IG.o.cells 0).1;have l1:=(IG.o.cells 0).2;cases bb)
      | (refine ⟨trivial,?_⟩;apply_assumption))
    .have wj:∃ n,Ai p n:=by
      have h1:=fQ.o;have h2:¬ (ef mk=true/\∀ t∈mk,jG t):=λh=>by have:=h1.2 h;cases this
      obtain ⟨n,hn⟩:=q8j (λh:¬ ∃ n,aW mk n=>h2 ⟨iG.o.val,λt ht n hn=>h ⟨n,t,ht,hn⟩⟩);exact ⟨n,(HN.o.ok Iv.o).2.1 n |>.1 hn⟩
     obtain ⟨k1,k2,k3,k4,k5⟩:=Sr (v:=true) ad ad (Et bR.o gV.o) dM.o iF.o uC.o;exact ⟨k1,k2,SC cT.o (by rw [jK,<- Ag HN.o];exact λh=>h ((Ad iG.o.vt).1 iG.o.val)),⟨true,k5,⟨λ_=>⟨_,q7w _ (List.mem_singleton_self _),wj⟩,λ_=>rfl⟩⟩,k3,k4⟩
    .have wj:¬ ∃ n,Ai p n:=λ⟨n,hn⟩=>by
      obtain ⟨t,ht,h3⟩:=((HN.o.ok Iv.o).2.1 n).2 hn;exact (fQ.o.1 aj).2 t ht n h3
     obtain ⟨k1,k2,k3,k4,k5⟩:=Sr (v:=false) ad ad (Et bR.o gV.o) dM.o iF.o uC.o;exact ⟨k1,k2,SC cT.o (by rw [jK,<- Ag HN.o];exact λh=>h ((Ad iG.o.vt).1 iG.o.val)),⟨false,k5,⟨λh=>(by cases h),λ⟨y,hy,h⟩=>by
      rcases VJ.1 hy with hy|hy
      .exact bU.o.2 ⟨y,hy,h⟩
      obtain rfl:=N2.1 hy;exact absurd h wj⟩⟩,k3,k4⟩
    .obtain ⟨m,hm1,ix⟩:=HN.o;exact ⟨((KeepsOthers.of_below (Ea bR.o _)).trans ((K8 _ ⟨w.heap.size+1+1,0,none⟩ (.bool false)).trans (K8 _ ⟨w.heap.size+1+1+1,0,none⟩ (.int .i64 2)))).from _,rfl,⟨p,by rw [HR.o];simp,by rw [jK,<- Ag hm1];exact ix⟩,(gN.o.ext (Ea (Er w6) _)).setR,dM.o.trans ((KeepsOthers.of_below (Ea bR.o _)).trans ((K8 _ ⟨w.heap.size+1+1,0,none⟩ (.bool false)).trans (K8 _ ⟨w.heap.size+1+1+1,0,none⟩ (.int .i64 2))))⟩
    .obtain ⟨k1,k2,k3,k4,k5⟩:=Sr (v:=true) ad ad (Ea bR.o (.cells #[.slice oa mk.length oc] 57)) dM.o iF.o uC.o;rw [World.setCell_alloc_past _ _ _ _ yo] at k1 k2 k3 k4 k5;exact ⟨k1,k2,SC cT.o (by rw [jK,<- Ag HN.o];exact λh=>h ((Ad iG.o.vt).1 iG.o.val)),⟨true,k5,⟨λ_=>by
      obtain ⟨y,hy,h⟩:=bU.o.1 aj;exact ⟨y,MK _ hy,h⟩,λ_=>rfl⟩⟩,k3,k4⟩
    obtain ⟨m,hm1,ix⟩:=HN.o;exact ⟨((KeepsOthers.of_below (Ea bR.o _)).trans ((K8 _ ⟨w.heap.size+1+1,0,none⟩ (.bool false)).trans (K8 _ ⟨w.heap.size+1+1+1,0,none⟩ (.int .i64 2)))).from _,rfl,⟨p,by rw [HR.o];simp,by rw [jK,<- Ag hm1];exact ix⟩,(gN.o.ext (Ea (Er w6) _)).setR,dM.o.trans ((KeepsOthers.of_below (Ea bR.o _)).trans ((K8 _ ⟨w.heap.size+1+1,0,none⟩ (.bool false)).trans (K8 _ ⟨w.heap.size+1+1+1,0,none⟩ (.int .i64 2))))⟩
   case done2=>
    rintro D2 xs W2 JD aM ⟨hpre,⟨lt,gw,hlt⟩,iu,bP⟩ aL;have FN:¬ Cz A B:=λ⟨q,hq,hb⟩=>by
     rw [<- aM] at hq;obtain ⟨y,hy,rfl⟩:=VC.1 hq;exact hpre y hy hb
    have FE:lt=true↔hs_ A B:=by
     rw [hlt];unfold hs_;rw [<- aM];exact ⟨λ⟨y,hy,h⟩=>⟨y.p,VC.2 ⟨y,hy,rfl⟩,h⟩,λ⟨q,hq,h⟩=>by obtain ⟨y,hy,rfl⟩:=VC.1 hq;exact ⟨y,hy,h⟩⟩
    have B_:=af FN;have qW:=af FE;have e_:=bP.same D _ BS.o rfl;have hM:cJ w.heap.size [{ target:=.collected D2,args:=#[] },{ target:=.collected D,args:=#[] }] W2:=cJ.cons (tw ad BS.o) ad (bP.from _) ad aL;have HM:=af hM;have qY:=af iu;have q0:=(gw.cells 0).1;have z0:=(iu.b2.cells 0).1;have z1:=(iu.b2.cells 0).2;have z2:=(iu.b3.cells 0).1;have z3:=(iu.b3.cells 0).2;clear FN FE e_ hM iu bP aL aM hpre gw hlt;gi_wp2_with fail;have kc:=qY.o.setR (s:=lt) (l:=0);refine ik (B:=w.heap.size) _ _ (HM.o.keep (((K8 W2 ⟨w.heap.size+1+1,0,none⟩ (.bool lt)).trans (K8 _ ⟨w.heap.size+1+1+1,0,none⟩ (.int .i64 0))).from _)) λw' hs=>?_;have hc1:=ag.c0 (hs.cells _ _ kc.b2 rfl);have hc2:=ag.c0 (hs.cells _ _ kc.b3 rfl);exact ⟨.tuple #[.bool lt,.int .i64 0],by simp [results,Tryz.results28,go_sem,hc1,hc2],lt,0,rfl,.inr ⟨jg.o,.inr ⟨B_.o,rfl,qW.o⟩⟩,kc.below.trans hs.below⟩
   case stop2=>
    rintro D2 c' pre W2 JD ⟨rfl,FN,iu,bP⟩ aL;have B_:=af FN;have hM:cJ w.heap.size [{ target:=.collected D2,args:=#[] },{ target:=.collected D,args:=#[] }] W2:=cJ.cons (tw ad BS.o) ad (bP.from _) ad aL;have HM:=af hM;have qY:=af iu;clear iu aL hM bP FN;gi_wp2_with fail;refine ik (B:=w.heap.size) _ _ HM.o λw' hs=>?_;have hc1:=ag.c0 (hs.cells _ _ qY.o.b2 rfl);have hc2:=ag.c0 (hs.cells _ _ qY.o.b3 rfl);exact ⟨.tuple #[.bool false,.int .i64 2],by simp [results,Tryz.results28,go_sem,hc1,hc2],false,2,rfl,.inr ⟨jg.o,.inl ⟨B_.o,rfl,rfl⟩⟩,qY.o.below.trans hs.below⟩
  case stop=>
   rintro D c' pre W' hD ⟨rfl,UD,iu,bP⟩ aL;have hM:cJ w.heap.size [{ target:=.collected D,args:=#[] }] W':=tw ad aL;have iF:=af iu;have HEM:=af UD;have HM:=af hM;clear iu UD aL hM bP;gi_wp2_with fail;refine ik (B:=w.heap.size) _ _ HM.o λw' hs=>?_;have hc1:=ag.c0 (hs.cells _ _ iF.o.b2 rfl);have hc2:=ag.c0 (hs.cells _ _ iF.o.b3 rfl);exact ⟨.tuple #[.bool true,.int .i64 0],by simp [results,Tryz.results28,go_sem,hc1,hc2],true,0,rfl,.inl ⟨.inr (.inr HEM.o),rfl,rfl⟩,iF.o.below.trans hs.below⟩
 .have kc:=lH.o.setR (s:=true) (l:=0);refine ik (B:=w.heap.size) _ _ (cJ.nil _ _) λw' hs=>?_;have hc1:=ag.c0 (hs.cells _ _ kc.b2 rfl);have hc2:=ag.c0 (hs.cells _ _ kc.b3 rfl);exact ⟨.tuple #[.bool true,.int .i64 0],by simp [results,Tryz.results28,go_sem,hc1,hc2],true,0,rfl,.inl ⟨.inr (.inl (jh.o.1 aj)),rfl,rfl⟩,kc.below.trans hs.below⟩
 have kc:=fR.o.setR (s:=true) (l:=0);refine ik (B:=w.heap.size) _ _ (cJ.nil _ _) λw' hs=>?_;have hc1:=ag.c0 (hs.cells _ _ kc.b2 rfl);have hc2:=ag.c0 (hs.cells _ _ kc.b3 rfl);exact ⟨.tuple #[.bool true,.int .i64 0],by simp [results,Tryz.results28,go_sem,hc1,hc2],true,0,rfl,.inl ⟨.inl (pX.o.1 aj),rfl,rfl⟩,kc.below.trans hs.below⟩
end
section
open Go.RowKit Go.Maps Kal
def vm (g:Nat->Bool) (s:aE):Prop:=∀ x,iN s x->g (x.frm / 1440 % 7).toNat=true
theorem YH {len:Int}:∀ {l:List ai},len<=jl len l/\∀ x∈l,x.fin-x.frm<=jl len l:=by
 intro l;have key:∀ (l:List ai) (len:Int),len<=jl len l/\∀ x∈l,x.fin-x.frm<=jl len l:=by
  intro l;induction l with
  | nil=>intro len;exact ⟨VI _,aj⟩
  | cons y r ih=>
   intro len;obtain ⟨h1,h2⟩:=ih (max len (y.fin-y.frm));have e:jl len (y :: r)=jl (max len (y.fin-y.frm)) r:=rfl;rw [e];refine ⟨ad,λx hx=>?_⟩;rcases U3.1 hx with rfl|hx
   .omega
   exact h2 x hx
 exact key l len
theorem y9_ {s:aE} {x:ai} (h:iN s x):x.fin-x.frm<=jl s.len s.ext:=by
 rcases h with ⟨c,hc,⟨_,ho⟩,_⟩|h
 .have e1:x.frm=x.day*1440+c.min:=congrArg ai.frm ho;have e2:x.fin=x.day*1440+c.min+s.len:=congrArg ai.fin ho;have:=(YH (len:=s.len) (l:=s.ext)).1;omega
 exact YH.2 x h
theorem q1w {g:Nat->Bool} {s:aE} {b:Int} (hg:vm g s) (h:eG s a b):uW g ((a-jl s.len s.ext) / 1440) (b / 1440):=by
 obtain ⟨hab,x,hx,h1,h2⟩:=h;have h3:=y9_ hx;have h4:=hg x hx;generalize jl s.len s.ext=m at *;obtain ⟨f,hf⟩:∃ f,(a-m) / 1440=f:=⟨_,rfl⟩;obtain ⟨d,hd⟩:∃ d,x.frm / 1440=d:=⟨_,rfl⟩;obtain ⟨u,hu⟩:∃ u,b / 1440=u:=⟨_,rfl⟩;have l1:f<=d:=ad;have l2:d<=u:=ad;rw [hd] at h4;rw [hf,hu];refine ⟨f+(d-f) % 7,ad,ad,ad,?_⟩;rw [show (f+(d-f) % 7) % 7=d % 7 by omega];exact h4
theorem fH.put {D:DataW Value} {E E':List (Int × Value)} (h:fH D E) (hD:IsMap D) (hi:i ∉ E.map Prod.fst) (hm:∀ x,x∈E'↔x=(i,v)\/x∈E) (hn:(E'.map Prod.fst).Nodup):fH (D.put (.int .i64 i) (.held v)) E':=by
 have hne:∀ j u,(j,u)∈E->j≠i:=λj u hx e=>hi (VC.2 ⟨_,hx,e⟩);refine ⟨λj u hx zd=>?_,λj=>?_,hn⟩
 .rcases (hm _).1 hx with e|hx
  .injection e with e1 e2
   subst e1;subst e2;exact atKey_put_same hD (by simp [WideAt.IsKeyLit]) _ _
  rw [atKey_put_other (KM (hne j u hx))];exact h.val j u hx zd
 by_cases e:j=i
 .subst e;rw [has_put_same hD (by simp [WideAt.IsKeyLit])];simp only [true_iff];exact VC.2 ⟨(j,v),(hm _).2 (.inl rfl),rfl⟩
 rw [has_put_other (KM e),h.has,VC,VC];constructor
 .rintro ⟨x,hx,rfl⟩;exact ⟨x,(hm x).2 (.inr hx),rfl⟩
 rintro ⟨x,hx,rfl⟩;rcases (hm x).1 hx with rfl|hx
 .exact absurd rfl e
 exact ⟨x,hx,rfl⟩
structure tz (W:World) (G:Nat->Prop) (x:bC) (s:aE):Prop where
 str:bq W G (.slice x.a1 x.n1 x.c1) (.slice x.a2 x.n2 x.c2) s
 len:x.len=s.len
 ms:bO s
 days:vm x.g s
structure fy (W:World) (p b n:Nat) (G:Nat->Prop) (E:List (Int × bC)) (L:IL):Prop where
 box:ag W p #[.map (some b)] 98
 map:df W b n (E.map dT)
 num:n<=1000000
 asc:je L
 ids:E.map Prod.fst=ids L
 ent:∀ i x,(i,x)∈E->aS i/\1<=i/\∃ s,(i,s)∈L/\tz W G x s
 apart:p≠b/\¬ G b
theorem tz.keep {G:Nat->Prop} {x:bC} {s:aE} (h:tz W G x s) (hk:aP G W W') (hs:W.heap.size<=W'.heap.size):tz W' G x s:=⟨h.str.keep hk hs,h.len,h.ms,h.days⟩
theorem fy.ext {p b:Nat} {G:Nat->Prop} {E:List (Int × bC)} {L:IL} (h:fy W p b n G E L) (hb:Below W.heap.size W W'):fy W' p b n G E L:=
 ⟨h.box.below hb,h.map.kept (World.grownBy.of_below hb none) aj,h.num,h.asc,h.ids,λi x hx=>by
  obtain ⟨h1,h2,s,h3,h4⟩:=h.ent i x hx;exact ⟨h1,h2,s,h3,h4.keep (aP.below hb) hb.size⟩,h.apart⟩
theorem fy.sorted {p b:Nat} {G:Nat->Prop} {E:List (Int × bC)} {L:IL} (h:fy W p b n G E L):((E.map dT).map Prod.fst).Pairwise (· < ·):=by rw [xH,h.ids];exact h.asc
def fs (g:Nat->Bool) (r:Nat) (b:Bool):Nat->Bool:=λi=>if i=r then b else g i
def p_ (g h:Nat->Bool):Prop:=∀ i,g i=true->h i=true
theorem p_.upd (g:Nat->Bool) (r:Nat):p_ g (fs g r true):=λi h=>by unfold fs;split <;> simp [h]
theorem KF (g:Nat->Bool) (r:Nat) (b:Bool):fs g r b r=b:=by simp [fs]
theorem q4b (g:Nat->Bool) {r:Nat} (b:Bool) (h:r<7):(fU g).setIfInBounds r (.bool b)=fU (fs g r b):=by
 have:r=0\/r=1\/r=2\/r=3\/r=4\/r=5\/r=6:=ad;rcases this with rfl|rfl|rfl|rfl|rfl|rfl|rfl <;> rfl
theorem ag.setW {b:Nat} {g:Nat->Bool} {t:TypeId} (h:ag W b (fU g) t) {r:Nat} (u:Bool) (hr:r<7):ag (W.setCell ⟨b,r,none⟩ (.bool u)) b (fU (fs g r u)) t:=by
 have:=bE r (.bool u) h;rw [q4b g u hr] at this;exact this
theorem ag.atW {b:Nat} {g:Nat->Bool} {t:TypeId} (h:ag W b (fU g) t) {r:Nat} (hr:r<7):W.cell? ⟨b,r,none⟩=some (.bool (g r)):=((h.cells r).1).trans (H9 g hr)
def KI (f:Nat->Bool) (p:Per):Prop:=∀ d,p.mem d->f (d % 7).toNat=true
theorem wl_ {f:Nat->Bool} (hw:p.WF) (h1:∀ r∈mq p 7,f r.toNat=true) (h2:∀ d∈p.head,f (d % 7).toNat=true):KI f p:=by
 intro d hd;have hp:=hw.per;have hf:=hw.frm;have h0:=hd.1;by_cases hlt:d<p.frm
 .exact h2 d ((Per.mem_lo h0 hlt).1 hd)
 have hc:=(Per.mem_hi h0 ad).1 hd;refine h1 (d % 7) ?_;unfold mq upto eM;rw [N7,G8];refine ⟨VC.2 ⟨(d % 7).toNat,by rw [MN];show _<7;omega,ad⟩,_,hc,PH ?_⟩;have e_:((Int.gcd p.period 7:Nat):Int)∣p.period:=MP ..;have ki:((Int.gcd p.period 7:Nat):Int)∣7:=M0 ..;have e1:(p.frm+(d-p.frm) % p.period) % p.period=d % p.period:=by
  rw [Int.add_emod_emod];congr 1;omega
 have e2:=congrArg (· % ((Int.gcd p.period 7:Nat):Int)) e1;simp only [A7 _ e_] at e2;rw [e2,A7 _ ki]
def vq (h:Nat->Bool) (t:List Per):Prop:=∀ d,bj t d->h (d % 7).toNat=true
def gY (h f:Nat->Bool) (r:Nat):Nat->Bool:=λi=>if i<r then h i && f i else h i
theorem uo_ (h f:Nat->Bool):gY h f 0=h:=by funext i;simp [gY]
theorem un_ (h f:Nat->Bool) (r:Nat):fs (gY h f r) r (gY h f r r && f r)=gY h f (r+1):=by
 funext i
 unfold fs gY;by_cases e:i=r
 .subst e;simp
 by_cases e2:i<r
 .simp [e,e2,show i<r+1 by omega]
 simp [e,e2,show ¬ i<r+1 by omega]
theorem vq.nil {h:Nat->Bool} (hh:∀ i,i<7->h i=true):vq h []:=λd _=>hh _ ad
theorem vq.step {h f:Nat->Bool} (ht:vq h t) (hf:KI f p):vq (gY h f 7) (t ++ [p]):=by
 intro d hd;have h1:=ht d (λq hq=>hd q (by simp [hq]));have h2:=hf d (hd p aj);unfold gY;rw [if_pos ad,h1,h2];rfl
def xq (g:Nat->Bool) (q:Int) (t:List Per):Prop:=∀ d,bj t d->g ((d+q) % 7).toNat=true
def uV (g:Nat->Bool) (c:ey):Prop:=∀ t∈c.days,xq g (c.min / 1440) t
theorem xq.mono {g g':Nat->Bool} {q:Int} (h:xq g q t) (hl:p_ g g'):xq g' q t:=λd hd=>hl _ (h d hd)
theorem uV.mono {g g':Nat->Bool} {c:ey} (h:uV g c) (hl:p_ g g'):uV g' c:=λt ht=>(h t ht).mono hl
def qj (h:Nat->Bool) (q:Int) (g:Nat->Bool) (r:Nat):Prop:=∀ i,i<r->h i=true->g (((i:Nat)+q) % 7).toNat=true
theorem qj.zero {h g:Nat->Bool} {q:Int}:qj h q g 0:=λi hi=>ad
theorem qj.skip {h g:Nat->Bool} {q:Int} {r:Nat} (hm:qj h q g r) (hr:h r=false):qj h q g (r+1):=λi hi hh=>by
 by_cases e:i=r
 .subst e;rw [hr] at hh;cases hh
 exact hm i ad hh
theorem qj.take {h g:Nat->Bool} {q:Int} {r:Nat} (hm:qj h q g r):qj h q (fs g (((r:Nat)+q) % 7).toNat true) (r+1):=λi hi hh=>by
 by_cases e:i=r
 .subst e;exact KF _ _ _
 exact p_.upd _ _ _ (hm i ad hh)
theorem qj.done {h g:Nat->Bool} {q:Int} (hm:qj h q g 7) (hs:vq h t):xq g q t:=λd hd=>by
 have h1:=hm (d % 7).toNat ad (hs d hd);have e:(((d % 7).toNat:Int)+q) % 7=(d+q) % 7:=ad;rw [e] at h1;exact h1
theorem v2_ {g:Nat->Bool} {s:aE} (h1:∀ c∈s.cls,uV g c) (h2:∀ x∈s.ext,g (x.frm / 1440 % 7).toNat=true):vm g s:=by
 rintro x (⟨c,hc,⟨⟨t,ht,hm⟩,ho⟩,_⟩|hx)
 .have h3:=h1 c hc t ht x.day hm;have e1:x.frm=x.day*1440+c.min:=congrArg ai.frm ho;have e:x.frm / 1440=x.day+c.min / 1440:=ad;rw [e];exact h3
 exact h2 x hx
theorem Im {b:Nat} {t:TypeId} {x0 x1 x2 x3 x4 x5 x6 y0 y1 y2 y3 y4 y5 y6:Value} (h:ag W b #[x0,x1,x2,x3,x4,x5,x6] t) :
  ag (((((((W.setCell ⟨b,0,none⟩ y0).setCell ⟨b,1,none⟩ y1).setCell ⟨b,2,none⟩ y2).setCell ⟨b,3,none⟩ y3).setCell ⟨b,4,none⟩ y4).setCell ⟨b,5,none⟩ y5).setCell ⟨b,6,none⟩ y6) b #[y0,y1,y2,y3,y4,y5,y6] t:=by
 have h0:ag _ b #[y0,x1,x2,x3,x4,x5,x6] t:=bE 0 y0 h;have h1:ag _ b #[y0,y1,x2,x3,x4,x5,x6] t:=bE 1 y1 h0;have h2:ag _ b #[y0,y1,y2,x3,x4,x5,x6] t:=bE 2 y2 h1;have h3:ag _ b #[y0,y1,y2,y3,x4,x5,x6] t:=bE 3 y3 h2;have h4:ag _ b #[y0,y1,y2,y3,y4,x5,x6] t:=bE 4 y4 h3;have h5:ag _ b #[y0,y1,y2,y3,y4,y5,x6] t:=bE 5 y5 h4;exact bE 6 y6 h5
theorem yt_ (h:r∈mq p 7):0<=r/\r<7:=by
 unfold mq upto at h;obtain ⟨i,hi,rfl⟩:=VC.1 (N7.1 h).1;rw [MN] at hi;have:(7:Int).toNat=7:=rfl;omega
theorem OY {P:Int->Prop} (hk:k<l.length) (h:∀ x∈l.take k,P x) (hx:P (l.getD k 0)):∀ x∈l.take (k+1),P x:=by
 rw [LF hk];intro x hm;rcases VJ.1 hm with hm|hm
 .exact h x hm
 obtain rfl:x=l[k]:=by simpa using hm
 rw [VS,U2 hk] at hx;exact hx
theorem Ints.elem {a:Option Addr} (h:Ints W (.slice a n c) l) (hk:k<l.length):∃ b o,a=some ⟨b,o,none⟩/\n=l.length/\W.cell? ⟨b,o+k,none⟩=some (.int .i64 (l.getD k 0))/\l.getD k 0∈l/\b<W.heap.size:=by
 obtain ⟨⟨a',c',he,_,_,h3⟩,_,_⟩:=h;injection he with e1 e2 e3
 rcases h3 with h3|⟨b,o,e4,hc⟩
 .rw [h3] at hk;simp at hk
 refine ⟨b,o,e1.trans e4,e2,hc k hk,?_,N8 W _ (hc k hk)⟩;rw [VS,U2 hk];exact NS hk
theorem Ints.far {g:Nat->Bool} {t:TypeId} (h:Ints W v l) (hB:ag W B (fU g) t):l≠[]->∀ k,v.ownBlock=some k->k≠B:=by
 intro hl k hk e;subst e;obtain ⟨⟨a',c',rfl,_,_,h3⟩,_,_⟩:=h;rcases h3 with h3|⟨b,o,rfl,hc⟩
 .exact hl h3
 have h0:=hc 0 (YA.2 hl);have hkb:b=k:=by simpa [Value.ownBlock] using hk
 subst hkb;have h1:=(hB.cells (o+0)).1;rw [h0] at h1;by_cases e7:o+0<7
 .rw [H9 g e7] at h1;cases h1
 rw [q7l (by show 7<=o+0;omega)] at h1;cases h1
theorem Ints.grown (h:Ints W v l) (hf:l≠[]->∀ k,v.ownBlock=some k->k≠B) (hg:W.grownBy W' (some B)):Ints W' v l:=
 h.keep (F:=λk=>k≠B) hf (aP.grown hg λh=>h rfl)
theorem sz_ (h c:Value) (p:Per) (w:World) (hp:cj w h c p) (hv:Valid p) :
  Calls Tryz.prog 97 #[ar h c p.frm p.period] w λe w'=>∃ g,e=.returned (.agg (fU g))/\KI g p/\Below w.heap.size w w':=by
 obtain ⟨ax,cx,rfl⟩:∃ a c,h=.slice a p.head.length c:=by obtain ⟨⟨a,c,e,_⟩,_,_⟩:=hp.hd;exact ⟨a,c,e⟩
 obtain ⟨ay,cy,rfl⟩:∃ a k,c=.slice a p.cycle.length k:=by obtain ⟨⟨a,k,e,_⟩,_,_⟩:=hp.cy;exact ⟨a,k,e⟩
 have HR:=af (λW (hb:Below w.heap.size w W)=>qa_ _ _ p 7 W (hp.ext hb) hv aG aG);simp only [ar] at HR;have HP:=af hp;have HV:=af hv;have we:=hp.hd.len;clear hp hv;unfold ar
 go_in
 go_wp2_with (go_at_call 128;(with_reducible refine (HR.o _ xE).mono ?_);rintro e w1 ⟨v,rfl,hi,hb1⟩;have HI:=af hi;have bm:=af hb1;have hw1:=hb1.size;simp only [U7] at hw1;obtain ⟨⟨va,vc,Hc,_⟩,Kg,_⟩:=hi;subst Hc;clear hb1)
 have eO:Below w.heap.size w w1:=Et xE bm.o;have h0:ag w1 w.heap.size #[.slice ax p.head.length cx,.int .i64 p.frm,.int .i64 p.period,.slice ay p.cycle.length cy] 80:=ag.below xB bm.o;have h1:ag w1 (w.heap.size+1) #[.bool false,.bool false,.bool false,.bool false,.bool false,.bool false,.bool false] 93:=ag.below xB bm.o;have h2:ag w1 (w.heap.size+1+1) (fU λ_=>false) 93:=ag.below xB bm.o;have H0:=af h0;have H1:=af h1;have H2:=af h2;have gj:=af eO;have zj:=af (HI.o.far h2);have ti:=af (HP.o.hd.ext eO);have HFH:=af ((HP.o.hd.ext eO).far h2);have hzz:w.heap.size+1+1<w1.heap.size:=h2.lt;clear h0 h1 h2 eO;obtain ⟨l,hl⟩:∃ l,mq p 7=l:=⟨_,rfl⟩;have np:=af hl;rw [hl] at HI zj Kg;simp only [hl];clear hl;go_loopw [7,17] (λ_ vi wr=>∃ (k:Nat) (g:Nat->Bool),k<=l.length/\vi=.int .i64 k/\Hid (∀ r∈l.take k,g r.toNat=true)/\Hid (ag wr (w.heap.size+1+1) (fU g) 93)/\Hid (w1.grownBy wr (some (w.heap.size+1+1)))) (λ_ vi _=>l.length-(intOf vi).toNat)
 .exact ⟨0,_,ad,rfl,af aj,H2,af ⟨rfl,rfl,rfl,TZ _,λ_ _ _=>rfl⟩⟩
 obtain ⟨k,g,hk,rfl,HS,HX,HG⟩:=hrel;have hwg:=HG.o.size;by_cases hlt:k<l.length
 .have cP:(k:Int)<l.length:=ad;obtain ⟨b8,f8,rfl,-,AR,sA,-⟩:=(HI.o.grown zj.o HG.o).elem hlt;have eu:=yt_ (p:=p) (by rw [np.o];exact sA);obtain ⟨r,hr⟩:∃ r,l.getD k 0=r:=⟨_,rfl⟩;rw [hr] at AR sA eu;obtain ⟨r1,r2⟩:=eu;have tj:=af hr;have pF:r.toNat<7:=ad;have q0:=HX.o.atW pF;have q1:=(HX.o.cells r.toNat).2;clear hr sA;go_wp2;go_roundw
  .exact ⟨k+1,fs g r.toNat true,ad,by go_num,af (OY hlt (λx hx=>p_.upd _ _ _ (HS.o x hx)) (by rw [tj.o];exact KF _ _ _)),af (HX.o.setW true pF),af (World.grownBy.set' HG.o _)⟩
  simp [intOf];omega
 obtain rfl:k=l.length:=ad;have IS:Hid (∀ r∈l,g r.toNat=true):=af (by have:=HS.o;rwa [OC] at this);have z0:=((((H0.o.cells 0).1)));have hz0:wr.cell? ⟨w.heap.size,0,none⟩=some (.slice ax p.head.length cx):=by
  have:ag wr w.heap.size _ _:=(HG.o.block w.heap.size ad (by intro e;injection e with e;omega)).trans H0.o;exact (this.cells 0).1
 clear HS z0;go_wp2;go_loopw [9,27] (λ_ vi wq=>∃ (k:Nat) (g:Nat->Bool),k<=p.head.length/\vi=.int .i64 k/\Hid (∀ r∈l,g r.toNat=true)/\Hid (∀ d∈p.head.take k,g (d % 7).toNat=true)/\Hid (ag wq (w.heap.size+1+1) (fU g) 93)/\Hid (w1.grownBy wq (some (w.heap.size+1+1)))) (λ_ vi _=>p.head.length-(intOf vi).toNat)
 .exact ⟨0,g,ad,rfl,IS,af aj,HX,HG⟩
 obtain ⟨k,g',eQ,rfl,HS,dV,fX,mC⟩:=hrel;by_cases hlt:k<p.head.length
 .have cP:(k:Int)<p.head.length:=ad;obtain ⟨b8,f8,rfl,-,AR,sA,-⟩:=(ti.o.grown HFH.o mC.o).elem hlt;obtain ⟨d,hd⟩:∃ d,p.head.getD k 0=d:=⟨_,rfl⟩;rw [hd] at AR sA;have tj:=af hd;have AT:=HV.o.wf.head.2 d sA;have AV:=HV.o.frm;obtain ⟨d1,d2⟩:=AT;have HW:=λW=>Jh d W ad ad;obtain ⟨r,hr⟩:∃ r,d % 7=r:=⟨_,rfl⟩;have eu:0<=r/\r<7:=ad;obtain ⟨r1,r2⟩:=eu;rw [hr] at HW;have HW:=af HW;have pX:=af hr;have pF:r.toNat<7:=ad;have q0:=fX.o.atW pF;have q1:=(fX.o.cells r.toNat).2;clear hr hd sA d1 d2 AV;go_wp2_with (go_at_call 71;refine (HW.o _).mono ?_;rintro e w5 ⟨rfl,rfl⟩);go_roundw
  .exact ⟨k+1,fs g' r.toNat true,ad,by go_num,af (λx hx=>p_.upd _ _ _ (HS.o x hx)),af (OY (P:=λd=>fs g' r.toNat true (d % 7).toNat=true) hlt (λx hx=>p_.upd _ _ _ (dV.o x hx)) (by rw [tj.o,pX.o];exact KF _ _ _)),af (fX.o.setW true pF),af (World.grownBy.set' mC.o _)⟩
  simp [intOf];omega
 obtain rfl:k=p.head.length:=ad;have pZ:Hid (KI g' p):=af (wl_ HV.o.wf (by rw [np.o];exact HS.o) (by have:=dV.o;rwa [OC] at this));have y0:=(fX.o.cells 0).1;have y1:=(fX.o.cells 1).1;have y2:=(fX.o.cells 2).1;have y3:=(fX.o.cells 3).1;have y4:=(fX.o.cells 4).1;have y5:=(fX.o.cells 5).1;have y6:=(fX.o.cells 6).1;have hres:ag wr (w.heap.size+1) _ _:=(mC.o.block (w.heap.size+1) ad (by intro e;injection e with e;omega)).trans H1.o;have j0:=(hres.cells 0);have j1:=(hres.cells 1);have j2:=(hres.cells 2);have j3:=(hres.cells 3);have j4:=(hres.cells 4);have j5:=(hres.cells 5);have j6:=(hres.cells 6);have iL:=af hres;have Ld:Hid (Below w.heap.size w wr):=af (gj.o.grown mC.o ad (λk e=>by injection e with e;omega));clear hres;go_wp2_with fail;have aM:=Im (y0:=.bool (g' 0)) (y1:=.bool (g' 1)) (y2:=.bool (g' 2)) (y3:=.bool (g' 3)) (y4:=.bool (g' 4)) (y5:=.bool (g' 5)) (y6:=.bool (g' 6)) iL.o;have s0:=(aM.cells 0).1;have s1:=(aM.cells 1).1;have s2:=(aM.cells 2).1;have s3:=(aM.cells 3).1;have s4:=(aM.cells 4).1;have s5:=(aM.cells 5).1;have s6:=(aM.cells 6).1;have kh:=Ld.o
 trace_state
 exact VN (v:=.agg (fU g')) (by simp [results,Tryz.results97,go_sem,s0,s1,s2,s3,s4,s5,s6]) rfl ⟨g',rfl,pZ.o,xE⟩
theorem ZI (f:Nat->Bool) {r:Nat} (h:r<7) (W:World):(Instr.index 93 (.agg #[.bool (f 0),.bool (f 1),.bool (f 2),.bool (f 3),.bool (f 4),.bool (f 5),.bool (f 6)]) (.int .i64 r)).run Tryz.prog W=.ok (.bool (f r)) W:=by
 have i0:∀ W,(Instr.index 93 (.agg #[.bool (f 0),.bool (f 1),.bool (f 2),.bool (f 3),.bool (f 4),.bool (f 5),.bool (f 6)]) (.int .i64 0)).run Tryz.prog W=.ok (.bool (f 0)) W:=λ_=>by kernel_rfl
 have i1:∀ W,(Instr.index 93 (.agg #[.bool (f 0),.bool (f 1),.bool (f 2),.bool (f 3),.bool (f 4),.bool (f 5),.bool (f 6)]) (.int .i64 1)).run Tryz.prog W=.ok (.bool (f 1)) W:=λ_=>by kernel_rfl
 have i2:∀ W,(Instr.index 93 (.agg #[.bool (f 0),.bool (f 1),.bool (f 2),.bool (f 3),.bool (f 4),.bool (f 5),.bool (f 6)]) (.int .i64 2)).run Tryz.prog W=.ok (.bool (f 2)) W:=λ_=>by kernel_rfl
 have i3:∀ W,(Instr.index 93 (.agg #[.bool (f 0),.bool (f 1),.bool (f 2),.bool (f 3),.bool (f 4),.bool (f 5),.bool (f 6)]) (.int .i64 3)).run Tryz.prog W=.ok (.bool (f 3)) W:=λ_=>by kernel_rfl
 have i4:∀ W,(Instr.index 93 (.agg #[.bool (f 0),.bool (f 1),.bool (f 2),.bool (f 3),.bool (f 4),.bool (f 5),.bool (f 6)]) (.int .i64 4)).run Tryz.prog W=.ok (.bool (f 4)) W:=λ_=>by kernel_rfl
 have i5:∀ W,(Instr.index 93 (.agg #[.bool (f 0),.bool (f 1),.bool (f 2),.bool (f 3),.bool (f 4),.bool (f 5),.bool (f 6)]) (.int .i64 5)).run Tryz.prog W=.ok (.bool (f 5)) W:=λ_=>by kernel_rfl
 have i6:∀ W,(Instr.index 93 (.agg #[.bool (f 0),.bool (f 1),.bool (f 2),.bool (f 3),.bool (f 4),.bool (f 5),.bool (f 6)]) (.int .i64 6)).run Tryz.prog W=.ok (.bool (f 6)) W:=λ_=>by kernel_rfl
 have:r=0\/r=1\/r=2\/r=3\/r=4\/r=5\/r=6:=ad;rcases this with rfl|rfl|rfl|rfl|rfl|rfl|rfl
 .exact i0 W
 .exact i1 W
 .exact i2 W
 .exact i3 W
 .exact i4 W
 .exact i5 W
 exact i6 W
theorem Xt (h:ef m=true):m.length<=64/\∀ t∈m,t.length<=4/\∀ p∈t,Valid p:=by
 unfold ef at h;rw [NU,QN,MI] at h;refine ⟨h.1,λt ht=>?_⟩;have h2:=h.2 t ht;unfold gZ at h2;rw [NU,NU,QN,QN,MI] at h2;exact ⟨h2.1.2,λp hp=>(pg p).1 (h2.2 p hp)⟩
structure mI (w:World) (c:Array Value) (g:Nat->Bool) (W:World):Prop where
 b0:ag W w.heap.size c 43
 b1:ag W (w.heap.size+1) #[.bool false,.bool false,.bool false,.bool false,.bool false,.bool false,.bool false] 93
 b2:ag W (w.heap.size+1+1) (fU g) 93
 below:Below w.heap.size w W
theorem mI.ext {c:Array Value} {g:Nat->Bool} (h:mI w c g W) (hb:Below W.heap.size W W'):mI w c g W':=⟨h.b0.below hb,h.b1.below hb,h.b2.below hb,h.below.trans (hb.mono h.below.size)⟩
theorem mI.far {c:Array Value} {g:Nat->Bool} (h:mI w c g W) (hg:W.grownBy W' (some k)) (hk:w.heap.size+1+1<k):mI w c g W':=by
 have hl:=h.b2.lt;exact ⟨(hg.block _ ad (by rintro ⟨⟩;omega)).trans h.b0,(hg.block _ ad (by rintro ⟨⟩;omega)).trans h.b1,(hg.block _ ad (by rintro ⟨⟩;omega)).trans h.b2,h.below.grown hg h.below.size λq e=>by injection e with e;omega⟩
theorem mI.set {c:Array Value} {g:Nat->Bool} {r:Nat} (h:mI w c g W) (hr:r<7):mI w c (fs g r true) (W.setCell ⟨w.heap.size+1+1,r,none⟩ (.bool true)):=
 ⟨h.b0.setNe _ ad,h.b1.setNe _ ad,h.b2.setW true hr,h.below.setCell (p:=⟨w.heap.size+1+1,r,none⟩) (by show w.heap.size<=w.heap.size+1+1;omega) _⟩
theorem Pf {α:Type} {P:α->Prop} {d:α} {l:List α} (hk:k<l.length) (h:∀ x∈l.take k,P x) (hx:P (l.getD k d)):∀ x∈l.take (k+1),P x:=by
 rw [LF hk];intro x hm;rcases VJ.1 hm with hm|hm
 .exact h x hm
 obtain rfl:x=l[k]:=by simpa using hm
 rw [VS,U2 hk] at hx;exact hx
theorem px_ (F:Nat->Prop) (cv ev:Value) (s:aE) (w:World) (h:bq w F cv ev s) (hv:nE ef s) :
  Calls Tryz.prog 52 #[.agg #[cv,.int .i64 s.len,ev]] w λe w'=>∃ g,e=.returned (.agg (fU g))/\vm g s/\Below w.heap.size w w':=by
 obtain ⟨L,hS⟩:=h;obtain ⟨a1,c1,rfl⟩:=hS.cl.form;obtain ⟨a2,c2,rfl⟩:=hS.ex.form;have CE:=hS.cl.len;have hEl:=hS.ex.len;have hlc:s.cls.length=L.length:=by rw [<- hS.eq,U6]
 have HS:=af hS;have HV:=af hv;have zu:=af hlc;clear hS hv hlc;obtain ⟨cs,hcs⟩:∃ cs:Array Value,cs=#[.slice a1 L.length c1,.int .i64 s.len,.slice a2 s.ext.length c2]:=⟨_,rfl⟩;have Ir:=af hcs;have Ep:Hid (mI w cs (λ_=>false) (((w.alloc (.cells cs 43)).alloc (.cells #[.bool false,.bool false,.bool false,.bool false,.bool false,.bool false,.bool false] 93)).alloc (.cells #[.bool false,.bool false,.bool false,.bool false,.bool false,.bool false,.bool false] 93))):=
  af ⟨xB,xB,ag.at aj,xE⟩
 rw [hcs] at Ep;clear hcs
 go_in
 go_wp2
 go_loopw [5,7,8,10,11,12,13,14,20] (λ_ _ _ _ _ _ _ _ vi wr=>∃ (k:Nat) (g:Nat->Bool),k<=L.length/\vi=.int .i64 k/\Hid (∀ c∈s.cls.take k,uV g c)/\Hid (mI w #[.slice a1 L.length c1,.int .i64 s.len,.slice a2 s.ext.length c2] g wr)) (λ_ _ _ _ _ _ _ _ vi _=>L.length-(intOf vi).toNat)
 .exact ⟨0,_,ad,rfl,af aj,Ep⟩
 obtain ⟨k,g,hk,rfl,HC,HP⟩:=hrel;obtain ⟨wk,nZ⟩:∃ x,x=wr:=⟨_,rfl⟩;subst nZ;have hwr:=HP.o.b2.lt;by_cases hlt:k<L.length
 .have cP:(k:Int)<L.length:=ad;obtain ⟨b,o,av,cv,m,mi,rfl,hbl,e0,e1,hm,qA,hD⟩:=HS.o.cl.get hlt;have Uq:=an.cell HP.o.below e0;have nK:=an.cell HP.o.below e1;have mR:k<s.cls.length:=by rw [zu.o];exact hlt
  have hcl:s.cls.getD k default=⟨m,mi⟩:=by rw [<- HS.o.eq];exact hD
  have hmem:(⟨m,mi⟩:ey)∈s.cls:=by rw [<- hcl,fx mR];exact NS mR
  obtain ⟨kP,hb1,hb2⟩:=HV.o.cl hmem;obtain ⟨dF,fo⟩:=Xt kP;have hb1:-4320<=mi:=hb1;have hb2:mi<=4320:=hb2;have dF:m.length<=64:=dF;obtain ⟨L2,hL2,hM⟩:=hm;have hl2:m.length=L2.length:=by rw [<- hL2,U6]
  have HM:=af hM;have fG:=af hL2;have zv:=af hl2;have uR:=af fo;have cS:=af hcl;have LP:=af mR;obtain ⟨q,hq⟩:∃ q,mi / 1440=q:=⟨_,rfl⟩;have HQ:=af hq;have eD:-3<=q/\q<=3:=ad;obtain ⟨q1,q2⟩:=eD;have kS:=af (λW=>Jj mi W ad ad);rw [hq] at kS;have Ln:Hid (ag (wk.alloc (.cells #[.slice av m.length cv,.int .i64 mi] 59)) wk.heap.size #[.slice av m.length cv,.int .i64 mi] 59):=af (ag.new _ _ _);have kU:=af (HP.o.ext (Ea (Er _) (.cells #[.slice av m.length cv,.int .i64 mi] 59)));clear hM hL2 hl2 fo hcl mR hq hmem kP e0 e1 hD qA;go_wp2;go_loopw [7,8,10,11,12,13,14,28] (λ_ _ _ _ _ _ _ vi wq=>∃ (i:Nat) (g2:Nat->Bool),i<=m.length/\vi=.int .i64 i/\Hid (∀ t∈m.take i,xq g2 q t)/\Hid (∀ c∈s.cls.take k,uV g2 c)/\Hid (mI w #[.slice (some ⟨b,o,none⟩) L.length c1,.int .i64 s.len,.slice a2 s.ext.length c2] g2 wq)/\Hid (ag wq wk.heap.size #[.slice av m.length cv,.int .i64 mi] 59)) (λ_ _ _ _ _ _ _ vi _=>m.length-(intOf vi).toNat)
  .exact ⟨0,g,ad,rfl,af aj,HC,kU,Ln⟩
  obtain ⟨i,g2,hi,rfl,HT,ie,IN,mz⟩:=hrel;obtain ⟨wq,Bz⟩:∃ x,x=wr:=⟨_,rfl⟩;subst Bz;have Bz:=mz.o.lt;by_cases hlt2:i<m.length
  .have A5:(i:Int)<m.length:=ad;obtain ⟨b2,o2,Um,at_,nt,ct,t,Hc,et,oQ,tS⟩:=HM.o.at (k:=i) (by rw [<- zv.o];exact hlt2);injection Hc with jr hv2 hv3
   subst jr;have et':=an.cell IN.o.below et;rw [fG.o] at tS;have kt:t∈m:=LH tS;obtain ⟨ia,hvp⟩:=uR.o t kt;obtain ⟨at2,ct2,Rk,_⟩:=oQ.form;injection Rk with oO yC sL
   subst yC;obtain ⟨L3,hL3,FP⟩:=oQ;have hl3:t.length=L3.length:=by rw [<- hL3,U6]
   have MR:=af FP;have LR:=af hL3;have zw:=af hl3;have HVP:=af hvp;have mG:Hid (m.getD i []=t):=af (by rw [VS,tS];rfl);have LD:Hid (ag (wq.alloc (.cells #[.bool true,.bool true,.bool true,.bool true,.bool true,.bool true,.bool true] 93)) wq.heap.size (fU λ_=>true) 93):=af (ag.new _ _ _);have o8:=af (IN.o.ext (Ea (Er _) (.cells #[.bool true,.bool true,.bool true,.bool true,.bool true,.bool true,.bool true] 93)));have HC3:=af (mz.o.alloc (.cells #[.bool true,.bool true,.bool true,.bool true,.bool true,.bool true,.bool true] 93));have hpc:=IN.o.b2.lt;clear FP hL3 hl3 hvp tS kt et hv2 hv3 oO sL;go_wp2;go_loopw [10,11,12,35] (λ_ _ _ vi w3=>∃ (j:Nat) (h:Nat->Bool),j<=t.length/\vi=.int .i64 j/\Hid (vq h (t.take j))/\Hid (ag w3 wq.heap.size (fU h) 93)/\Hid (mI w #[.slice (some ⟨b,o,none⟩) L.length c1,.int .i64 s.len,.slice a2 s.ext.length c2] g2 w3)/\Hid (ag w3 wk.heap.size #[.slice (some ⟨b2,o2,none⟩) m.length cv,.int .i64 mi] 59)) (λ_ _ _ vi _=>t.length-(intOf vi).toNat)
   .exact ⟨0,_,ad,rfl,af (vq.nil λ_ _=>rfl),LD,o8,HC3⟩
   obtain ⟨j,h,hj,rfl,pZ,ux,ti,Is⟩:=hrel;obtain ⟨w3,hw3⟩:∃ x,x=wr:=⟨_,rfl⟩;subst hw3;have hw3:=ux.o.lt;by_cases hlt3:j<t.length
   .have q5e:(j:Int)<t.length:=ad;obtain ⟨b3,o3,x,Bw,hx,c_,hb3,y0,y1,y2,y3⟩:=MR.o.get (k:=j) (by rw [<- zw.o];exact hlt3);subst Bw;rw [LR.o] at c_;obtain ⟨xh,xc,xp⟩:=x;obtain ⟨eA,eE,eB,eW,fq,dZ,rfl,rfl⟩:=hx.form;dsimp only at y0 y1 y2 y3 c_;have z0:=an.cell ti.o.below y0;have z1:=an.cell ti.o.below y1;have z2:=an.cell ti.o.below y2;have z3:=an.cell ti.o.below y3;have C0:xp∈t:=by rw [c_,fx hlt3];exact NS hlt3
    have HFC:=af (λW (hb:Below w.heap.size w W)=>show Calls _ _ #[.agg #[.slice eA eE eB,.int .i64 xp.frm,.int .i64 xp.period,.slice eW fq dZ]] W _ from sz_ (.slice eA eE eB) (.slice eW fq dZ) xp W (hx.is.ext hb) (HVP.o xp C0));have jA:Hid (t.take (j+1)=t.take j ++ [xp]):=af (by rw [LF hlt3,c_,fx hlt3]);clear y0 y1 y2 y3 c_ C0 hx;go_wp2_with (go_at_call 97;(with_reducible refine (HFC.o _ (Ea ti.o.below _)).mono ?_);rintro e w9 ⟨f,rfl,hf,bg⟩;have HF:=af hf;have jx:=af (Et (Ea (Er w3) _) bg);clear hf bg);have ID:=af (ux.o.below jx.o);have uM:=af (ti.o.ext jx.o);have HC9:=af (Is.o.below jx.o);go_loopw [11,12,41] (λ_ _ vi w4=>∃ r:Nat,r<=7/\vi=.int .i64 r/\Hid (ag w4 wq.heap.size (fU (gY h f r)) 93)/\Hid (mI w #[.slice (some ⟨b,o,none⟩) L.length c1,.int .i64 s.len,.slice a2 s.ext.length c2] g2 w4)/\Hid (ag w4 wk.heap.size #[.slice (some ⟨b2,o2,none⟩) m.length cv,.int .i64 mi] 59)) (λ_ _ vi _=>7-(intOf vi).toNat)
    .exact ⟨0,ad,rfl,by rw [uo_];exact ID,uM,HC9⟩
    obtain ⟨r,hr,rfl,uv,TX,Iq⟩:=hrel;obtain ⟨w4,hw4⟩:∃ x,x=wr:=⟨_,rfl⟩;subst hw4;by_cases hlt4:r<7
    .have q4p:(r:Int)<7:=ad;have hix:=ZI f hlt4 w4;obtain ⟨bv,nQ⟩:∃ bv,gY h f r r=bv:=⟨_,rfl⟩;have i0:=uv.o.atW hlt4;rw [nQ] at i0;have i1:=(uv.o.cells r).2;have HST:Hid (∀ u,u=(bv && f r)->ag (w4.setCell ⟨wq.heap.size,r,none⟩ (.bool u)) wq.heap.size (fU (gY h f (r+1))) 93):=af λu hu=>by
      have:=uv.o.setW u hlt4;rw [<- un_,nQ,<- hu];exact this
     have mE:=af (λu=>TX.o.far (W':=w4.setCell ⟨wq.heap.size,r,none⟩ u) (World.grownBy.set' ⟨rfl,rfl,rfl,TZ _,λ_ _ _=>rfl⟩ _) ad);have wV:=af (λu=>Iq.o.setNe (k:=wq.heap.size) (i:=r) u ad);clear nQ;cases bv
     .go_wp2
      go_roundw
      .exact ⟨r+1,ad,by go_num,af (HST.o _ rfl),af (mE.o _),af (wV.o _)⟩
      simp [intOf];omega
     go_wp2
     go_roundw
     .exact ⟨r+1,ad,by go_num,af (HST.o _ rfl),af (mE.o _),af (wV.o _)⟩
     simp [intOf];omega
    obtain rfl:r=7:=ad;go_wp2;go_roundw
    .exact ⟨j+1,gY h f 7,ad,by go_num,af (by rw [jA.o];exact pZ.o.step HF.o),uv,TX,Iq⟩
    simp [intOf];omega
   obtain rfl:j=t.length:=ad;have HSF:Hid (vq h t):=af (by have:=pZ.o;rwa [OC] at this);have i0:=ux.o.atW (r:=0) ad;have i1:=ux.o.atW (r:=1) ad;have i2:=ux.o.atW (r:=2) ad;have i3:=ux.o.atW (r:=3) ad;have i4:=ux.o.atW (r:=4) ad;have i5:=ux.o.atW (r:=5) ad;have i6:=ux.o.atW (r:=6) ad;clear pZ;go_wp2;go_loopw [13,14,56] (λ_ _ vi w5=>∃ (r:Nat) (g3:Nat->Bool),r<=7/\vi=.int .i64 r/\Hid (qj h q g3 r)/\Hid (∀ t∈m.take i,xq g3 q t)/\Hid (∀ c∈s.cls.take k,uV g3 c)/\Hid (mI w #[.slice (some ⟨b,o,none⟩) L.length c1,.int .i64 s.len,.slice a2 s.ext.length c2] g3 w5)/\Hid (ag w5 wk.heap.size #[.slice (some ⟨b2,o2,none⟩) m.length cv,.int .i64 mi] 59)) (λ_ _ vi _=>7-(intOf vi).toNat)
   .exact ⟨0,g2,ad,rfl,af qj.zero,HT,ie,ti,Is⟩
   obtain ⟨r,g3,hr,rfl,iG,EC,Ll,zC,bW⟩:=hrel;obtain ⟨w5,qE⟩:∃ x,x=wr:=⟨_,rfl⟩;subst qE;by_cases hlt4:r<7
   .have q4p:(r:Int)<7:=ad;have hix:=ZI h hlt4 w5;have f1:=(bW.o.cells 1).1;obtain ⟨bv,nQ⟩:∃ bv,h r=bv:=⟨_,rfl⟩;have Dr:=af nQ;rw [nQ] at hix;clear nQ;cases bv
    .go_wp2
     go_roundw
     .exact ⟨r+1,g3,ad,by go_num,af (iG.o.skip Dr.o),EC,Ll,zC,bW⟩
     simp [intOf];omega
    have HW:=λW=>Jh ((r:Int)+q) W ad ad;obtain ⟨z,hz⟩:∃ z,((r:Int)+q) % 7=z:=⟨_,rfl⟩;have hzb:0<=z/\z<7:=ad;obtain ⟨z1,z2⟩:=hzb;rw [hz] at HW;have HW:=af HW;have HZ:=af hz;have yH:z.toNat<7:=ad;have p0:=zC.o.b2.atW yH;have p1:=(zC.o.b2.cells z.toNat).2;clear hz;go_wp2_with (first|(go_at_call 70;(with_reducible refine (kS.o _).mono ?_);rintro e w6 ⟨rfl,rfl⟩)|(go_at_call 71;(with_reducible refine (HW.o _).mono ?_);rintro e w7 ⟨rfl,rfl⟩));go_roundw
    .exact ⟨r+1,fs g3 z.toNat true,ad,by go_num,af (by rw [<- HZ.o];exact iG.o.take),af (λt ht=>(EC.o t ht).mono (p_.upd _ _)),af (λc hc=>(Ll.o c hc).mono (p_.upd _ _)),af (zC.o.set yH),af (bW.o.setNe _ ad)⟩
    simp [intOf];omega
   obtain rfl:r=7:=ad;go_wp2;go_roundw
   .exact ⟨i+1,g3,ad,by go_num,af (Pf (d:=[]) hlt2 EC.o (by rw [mG.o];exact iG.o.done HSF.o)),Ll,zC,bW⟩
   simp [intOf];omega
  obtain rfl:i=m.length:=ad;have HTA:Hid (∀ t∈m,xq g2 q t):=af (by have:=HT.o;rwa [OC] at this);clear HT;go_wp2;go_roundw
  .exact ⟨k+1,g2,ad,by go_num,af (Pf (d:=default) LP.o ie.o (by rw [cS.o];intro t ht;have:=HTA.o t ht;rw [<- HQ.o] at this;exact this)),IN⟩
  simp [intOf];omega
 obtain rfl:k=L.length:=ad;have Lm:Hid (∀ c∈s.cls,uV g c):=af (by have:=HC.o;rwa [<- zu.o,OC] at this);have p2:=(HP.o.b0.cells 2).1;clear HC;go_wp2;go_loopw [16,74] (λ_ vi wx=>∃ (k:Nat) (g:Nat->Bool),k<=s.ext.length/\vi=.int .i64 k/\Hid (∀ c∈s.cls,uV g c)/\Hid (∀ x∈s.ext.take k,g (x.frm / 1440 % 7).toNat=true)/\Hid (mI w #[.slice a1 L.length c1,.int .i64 s.len,.slice a2 s.ext.length c2] g wx)) (λ_ vi _=>s.ext.length-(intOf vi).toNat)
 .exact ⟨0,g,ad,rfl,Lm,af aj,HP⟩
 obtain ⟨k,g,hk,rfl,HC,HX,HP⟩:=hrel;have hwx:=HP.o.b2.lt;by_cases hlt:k<s.ext.length
 .have cP:(k:Int)<s.ext.length:=ad;obtain ⟨b',o',y,FW,dL,hy,oS,e0,e1,e2⟩:=(HS.o.ex).get hlt;subst FW;have z0:=an.cell HP.o.below e0;have z1:=an.cell HP.o.below e1;have z2:=an.cell HP.o.below e2;have hg:=HV.o.ins (x:=y) (by rw [<- hy,fx hlt];exact NS hlt);obtain ⟨_,⟨g1,g2⟩,_,_⟩:=hg;have HF:=λW=>Jj y.frm W ad ad;obtain ⟨d,hd⟩:∃ d,y.frm / 1440=d:=⟨_,rfl⟩;rw [hd] at HF;have HF:=af HF;have HW:=λW=>Jh d W ad ad;obtain ⟨z,hz⟩:∃ z,d % 7=z:=⟨_,rfl⟩;have hzb:0<=z/\z<7:=ad;obtain ⟨zz1,zz2⟩:=hzb;rw [hz] at HW;have HW:=af HW;have HZ:=af (show (s.ext.getD k default).frm / 1440 % 7=z by rw [hy,hd,hz]);have yH:z.toNat<7:=ad;have p0:=HP.o.b2.atW yH;have p1:=(HP.o.b2.cells z.toNat).2;clear hz hd e0 e1 e2 hy oS;go_wp2_with (first|(go_at_call 70;(with_reducible refine (HF.o _).mono ?_);rintro e w6 ⟨rfl,rfl⟩)|(go_at_call 71;(with_reducible refine (HW.o _).mono ?_);rintro e w7 ⟨rfl,rfl⟩));go_roundw
  .exact ⟨k+1,fs g z.toNat true,ad,by go_num,af (λc hc=>(HC.o c hc).mono (p_.upd _ _)),af (Pf (P:=λx:ai=>fs g z.toNat true (x.frm / 1440 % 7).toNat=true) (d:=default) hlt (λx hx=>p_.upd _ _ _ (HX.o x hx)) (by rw [HZ.o];exact KF _ _ _)),af ((HP.o.set yH).ext (Ea (Er _) _))⟩
  simp [intOf];omega
 obtain rfl:k=s.ext.length:=ad;have zA:Hid (vm g s):=af (v2_ HC.o (by have:=HX.o;rwa [OC] at this));have y0:=HP.o.b2.atW (r:=0) ad;have y1:=HP.o.b2.atW (r:=1) ad;have y2:=HP.o.b2.atW (r:=2) ad;have y3:=HP.o.b2.atW (r:=3) ad;have y4:=HP.o.b2.atW (r:=4) ad;have y5:=HP.o.b2.atW (r:=5) ad;have y6:=HP.o.b2.atW (r:=6) ad;have j0:=HP.o.b1.cells 0;have j1:=HP.o.b1.cells 1;have j2:=HP.o.b1.cells 2;have j3:=HP.o.b1.cells 3;have j4:=HP.o.b1.cells 4;have j5:=HP.o.b1.cells 5;have j6:=HP.o.b1.cells 6;go_wp2_with fail;have aM:=Im (y0:=.bool (g 0)) (y1:=.bool (g 1)) (y2:=.bool (g 2)) (y3:=.bool (g 3)) (y4:=.bool (g 4)) (y5:=.bool (g 5)) (y6:=.bool (g 6)) HP.o.b1;have s0:=(aM.cells 0).1;have s1:=(aM.cells 1).1;have s2:=(aM.cells 2).1;have s3:=(aM.cells 3).1;have s4:=(aM.cells 4).1;have s5:=(aM.cells 5).1;have s6:=(aM.cells 6).1;have kh:=HP.o.below;exact VN (v:=.agg (fU g)) (by simp [results,Tryz.results52,go_sem,s0,s1,s2,s3,s4,s5,s6]) rfl ⟨g,rfl,zA.o,xE⟩
theorem nx_ {l:List ai}:∀ u∈l.flatMap bH,u.oneCell'=true:=λu hu=>by
 obtain ⟨x,_,hx⟩:=M7.1 hu;unfold bH at hx;simp at hx;rcases hx with rfl|rfl|rfl <;> rfl
theorem sn_ (F:Nat->Prop) (v:Value) (l:List ai) (w:World) (h:bZ w F v l) (hl:l.length<=1000000) :
  Calls Tryz.prog 95 #[v] w λe w'=>∃ a c,e=.returned (.slice a l.length c)/\bZ w' (λb=>w.heap.size<=b/\b<w'.heap.size) (.slice a l.length c) l/\Below w.heap.size w w':=by
 obtain ⟨a1,c1,rfl⟩:=h.form;obtain ⟨i,hi,h1,h2,h3⟩:=KC;have HI:=af (And.intro hi (And.intro h1 (And.intro h2 h3)));have HX:=af (λW (hb:Below w.heap.size w W)=>(h.ext hb).row);have HA:=af h.all;have q1g:=h.len;obtain ⟨a',c',he,g1,g2,g3⟩:=h.row;injection he with e1 _ e2
 subst e1;subst e2;clear h hi h1 h2 h3;cases a1 with
 | none=>
  have hl0:l=[]:=by
   rcases g3 with g3|⟨b,o,e,_⟩
   .exact NL g3
   cases e
  subst hl0;have hnil:(binOp .eql 41 (.slice none 0 c1) (.slice none 0 0)).run Tryz.prog w=.ok (.bool true) w:=Lib.run_eql_slice_nil w 41 46 none 0 c1 0 0 rfl;simp only [M4]
  go_in
  go_wp2;go_ret;exact ⟨none,0,rfl,⟨⟨none,0,rfl,aj,ad,.inl rfl⟩,aj,aj⟩,JV _ _⟩
 | some a0=>
  have hnil:(binOp .eql 41 (.slice (some a0) l.length c1) (.slice none 0 0)).run Tryz.prog w=.ok (.bool false) w:=Lib.run_eql_slice_nil w 41 46 (some a0) l.length c1 0 0 rfl;clear g3
  go_in
  go_wp2_with (at_builtin;(refine O_ aC _ _ _ _ aC i _ 3 24 Tryz.underlying41 HI.o.1 HI.o.2.1 HI.o.2.2.1 HI.o.2.2.2 rfl aG aG w.heap.size (.slice (some ⟨w.heap.size,0,none⟩) 0 0) (.slice (some a0) l.length c1) 0 l.length [] (l.flatMap bH) F aC ⟨rfl,.inr ⟨w.heap.size,0,#[],rfl,TZ _,DP w _,TZ _,by simp [maxLen],rfl,rfl⟩⟩ aC (HX.o _ (Ea (Er w) _)) (Co xG l) nx_ ad aj ?_);intro v5 w5 az aJ kq;rw [S1,L4] at az;obtain ⟨yK,yL,rfl⟩:=kF az)
  go_ret;have hb5:Below w.heap.size w w5:=(Ea (Er w) _).trans (Below.grown (JV _ _) aJ aj (λk e=>by simp [Value.ownBlock] at e;omega));refine ⟨yK,yL,rfl,⟨?_,q1g,λx hx=>HA.o x hx⟩,hb5⟩;have hR:dO w.heap.size (λ_=>False) w5 (.slice yK l.length yL) l:=⟨az,λx hx=>HA.o x hx,λ_ _ h=>h,hl⟩;obtain ⟨a9,c9,e9,k1,k2,k3⟩:=hR.rowR;refine ⟨a9,c9,e9,k1,k2,k3.imp id ?_⟩;rintro ⟨b,o,e,hF,hl',hc⟩;exact ⟨b,o,e,⟨hF.1,hl'⟩,hl',hc⟩
theorem aN.low {α:Type} {e:TypeId} {enc:α->List Value} {R:World->(Nat->Prop)->α->Prop} {A:Nat->Prop} {L:List α} (hR:rH R) (h:aN e sz enc R B A W v L) (hg:W.grownBy W' (some k)) (hk:k<B):aN e sz enc R B A W' v L:=
 ⟨h.row.kept hg (.inr λe=>by have:=(h.row.lt k e).1;omega),λx hx=>hR.keep (h.all x hx) (aP.grown hg λhf=>by have:=hf.1;omega) hg.size,h.ne,h.len⟩
theorem vk {b:Nat} {c:Array Value} {t:TypeId} (h:ag W b c t):∀ j u,c.toList[j]? = some u->W.cell? ⟨b,j,none⟩=some u:=λj u hu=>by
 rw [(h.cells j).1,<- hu];simp
def Kz (s:aE) (w:World) (e:Ending) (w':World):Prop:=∃ a1 c1 a2 c2,e=.returned (.agg #[.slice a1 s.cls.length c1,.int .i64 s.len,.slice a2 s.ext.length c2])/\bq w' (λb=>w.heap.size<=b/\b<w'.heap.size) (.slice a1 s.cls.length c1) (.slice a2 s.ext.length c2) s/\Below w.heap.size w w'
theorem st_ (F:Nat->Prop) (cv ev:Value) (s:aE) (w:World) (h:bq w F cv ev s) (hv:nE ef s) :
  Calls Tryz.prog 51 #[.agg #[cv,.int .i64 s.len,ev]] w (Kz s w):=by
 obtain ⟨L,hS⟩:=h;obtain ⟨a1,c1,rfl⟩:=hS.cl.form;obtain ⟨a2,c2,rfl⟩:=hS.ex.form;have CE:=hS.cl.len;have hEl:=hv.next;have hlc:s.cls.length=L.length:=by rw [<- hS.eq,U6]
 have GO:=hv.ncls;have HS:=af hS;have HV:=af hv;have zu:=af hlc;have cS:=af (λW (hb:Below w.heap.size w W)=>sn_ F _ s.ext W (hS.ex.ext hb) ad);clear hS hv hlc
 go_in
 go_upto_region 1 with (fail)
 refine j9 (F:=λU=>ag U w.heap.size #[.slice a1 L.length c1,.int .i64 s.len,.slice a2 s.ext.length c2] 43/\ag U (w.heap.size+1) #[.slice none 0 0,.int .i64 0,.slice none 0 0] 43/\Below w.heap.size w U) ⟨xB,xB,xE⟩ ?_;rintro W0 ⟨hx0,hx1,eI⟩;have x0:=(hx0.cells 0).1;have x1:=(hx0.cells 1).1;have x2:=(hx0.cells 2).1;have H0:=af hx0;have H1:=af hx1;have hz0:w.heap.size+1<W0.heap.size:=hx1.lt;clear hx0 hx1;refine oz (w0:=W0) [0,1,2,3,4,5,6] [7] (λv=>⟨#[.agg #[.slice a1 L.length c1,.int .i64 s.len,.slice a2 s.ext.length c2],.pointer (some ⟨w.heap.size,0,none⟩),.pointer (some ⟨w.heap.size+1,0,none⟩),v 6,undef,undef,undef,undef,undef,undef,undef,undef,v 0,v 1,v 2,v 3,v 4,v 5,undef,undef,undef,undef,undef,undef,undef,undef,undef,undef,undef,undef,undef,undef,undef,undef,undef,undef,undef,undef,undef,undef,undef,undef,undef,undef,undef,undef,undef,undef,undef,undef,undef,undef,undef,undef,undef,undef,undef,undef,undef,undef,undef,undef,undef,undef,undef,undef,undef,undef,undef,undef,undef,undef],[]⟩) [.pointer (some ⟨w.heap.size,1,none⟩),.int .i64 s.len,.pointer (some ⟨w.heap.size,2,none⟩),.slice a2 s.ext.length c2,undef,undef,undef] [4,5,6] (λi v lo hi W=>match i with|4=>∃ a c,v 4=.slice a s.ext.length c/\bZ W (λb=>lo 4<=b/\b<hi 4) (v 4) s.ext|5=>v 5=.agg #[.slice none 0 0,.int .i64 s.len,v 4]|6=>v 6=.pointer (some ⟨lo 6,0,none⟩)/\lo 6<hi 6/\ag W (lo 6) #[.slice none 0 0,.int .i64 0,.slice none 0 0] 43|_=>True) (λW=>W.cell? ⟨w.heap.size,1,none⟩=some (.int .i64 s.len)/\W.cell? ⟨w.heap.size,2,none⟩=some (.slice a2 s.ext.length c2)) (λW hb=>⟨an.cell hb x1,an.cell hb x2⟩) ?stab ?loc ?steps ?fin
 case stab=>
  refine ⟨?_,?_,?_,trivial⟩
  .intro v lo hi W W' h hb;exact (let ⟨a,c,e,h⟩:=h;⟨a,c,e,h.ext hb⟩)
  .intro v lo hi W W' h hb;exact h
  intro v lo hi W W' h hb;exact ⟨h.1,h.2.1,h.2.2.below hb⟩
 case loc=>
  refine ⟨?_,?_,?_,trivial⟩
  .intro v v' lo lo' hi hi' W aA h;have q:=aA 4 (.inl rfl)
   (try dsimp only at h ⊢)
   simp only [q.1,q.2.1,q.2.2] at h;exact h
  .intro v v' lo lo' hi hi' W aA h;have q:=aA 5 (.inl rfl);have q4:=aA 4 (.inr (bM (by kernel_rfl)))
   (try dsimp only at h ⊢)
   simp only [q.1,q.2.1,q.2.2,q4.1,q4.2.1,q4.2.2] at h;exact h
  intro v v' lo lo' hi hi' W aA h;have q:=aA 6 (.inl rfl)
  (try dsimp only at h ⊢)
  simp only [q.1,q.2.1,q.2.2] at h;exact h
 case steps=>
  refine .c [] [] rfl ?_ (.c [0] [] rfl ?_ (.c [] [] rfl ?_ (.c [2] [] rfl ?_ (.c [3] [] rfl ?_ (.c [1] [4] rfl ?_ (.c [] [] rfl ?_ (.n)))))));all_goals try exact oh
  .rintro v lo hi W hb ⟨g1,g2⟩ _;refine .inl ⟨rfl,λK hK=>?_⟩;simp only [ov,aD,Nat.reduceBEq,cond_true,cond_false];go_wp2_with (go_at_call 95;(with_reducible refine (cS.o _ (Et eI hb)).mono ?_);rintro e w9 ⟨a9,c9,rfl,nT,bg⟩);exact aQ (hK (.slice a9 s.ext.length c9) w9 bg ⟨a9,c9,rfl,nT⟩) (by simp [ov,aD,upd])
  .rintro v lo hi W hb ⟨g1,g2⟩ ⟨⟨WR,WU,D4⟩,_⟩;refine .inl ⟨rfl,λK hK=>?_⟩;simp only [ov,aD,Nat.reduceBEq,cond_true,cond_false]
   (try dsimp only at D4)
   obtain ⟨a9,c9,e4,_⟩:=D4
   (try simp only [e4])
   go_wp2
   exact aQ (hK (.agg #[.slice none 0 0,.int .i64 s.len,v 4]) W (JV _ _) rfl) (by simp [ov,aD,upd,e4])
  rintro v lo hi W hb ⟨g1,g2⟩ _;refine .inl ⟨rfl,λK hK=>?_⟩;simp only [ov,aD,Nat.reduceBEq,cond_true,cond_false];go_wp2;exact hK (.pointer (some ⟨W.heap.size,0,none⟩)) _ (Ea (Er _) _) ⟨rfl,aj,ag.new _ _ _⟩
 case fin=>
  rintro v lo hi W5 hb5 ⟨g1,g2⟩ hf hap;show wpList _ _ _ [_] _ _;obtain ⟨l4,-,h4,a4,c4,e4,gx⟩:=hf 4 rfl;have e5:v 5=.agg #[.slice none 0 0,.int .i64 s.len,v 4]:=(hf 5 rfl).2.2.2;obtain ⟨l6,-,h6,e6,Sk,hbox⟩:=hf 6 rfl;have hd:=hap 4 6 rfl rfl aG;clear hf hap;rw [e4] at e5;dsimp only;rw [e5,e6];clear e5 e6;rw [e4] at gx;clear e4;obtain ⟨ob,cL⟩:∃ ob,ob=lo 6:=⟨_,rfl⟩;rw [<- cL] at hd hbox l6 Sk ⊢;generalize lo 4=KH at *;generalize hi 4=Pa at *;generalize hi 6=h6v at *;clear cL;generalize v 0=z0 at *;generalize v 1=z1 at *;generalize v 2=z2 at *;generalize v 3=z3 at *;generalize v 4=z4 at *;have q0:=hbox.cells 0;have q1:=hbox.cells 1;have q2:=hbox.cells 2;have Dq:=af hbox;have kW:=af gx;have bW:=af hb5;have Bg:=hbox.lt;clear hbox gx hb5 g1 g2 x0 x1 x2;have Uf:=af (H0.o.below bW.o);have zT:=af (H1.o.below bW.o);have y0:=(Uf.o.cells 0).1;go_wp2_with fail;refine j9 (F:=λU=>ag U w.heap.size #[.slice a1 L.length c1,.int .i64 s.len,.slice a2 s.ext.length c2] 43/\ag U (w.heap.size+1) #[.slice none 0 0,.int .i64 0,.slice none 0 0] 43/\ag U ob #[.slice none 0 0,.int .i64 s.len,.slice a4 s.ext.length c4] 43/\bZ U (λb=>KH<=b/\b<Pa) (.slice a4 s.ext.length c4) s.ext/\Below w.heap.size w U) ⟨?_,?_,?_,?_,?_⟩ ?_
  .exact ((Uf.o.setNe _ ad).setNe _ ad).setNe _ ad
  .exact ((zT.o.setNe _ ad).setNe _ ad).setNe _ ad
  .exact xK Dq.o
  .have hg:World.grownBy W5 (((W5.setCell ⟨ob,0,none⟩ (.slice none 0 0)).setCell ⟨ob,1,none⟩ (.int .i64 s.len)).setCell ⟨ob,2,none⟩ (.slice a4 s.ext.length c4)) (some ob):=World.grownBy.set' (World.grownBy.set' (World.grownBy.set' ⟨rfl,rfl,rfl,TZ _,λ_ _ _=>rfl⟩ _) _) _;exact kW.o.keep (aP.grown hg ad) hg.size
  .exact (((Et eI bW.o).setCell (p:=⟨ob,0,none⟩) (by show w.heap.size<=ob;omega) _).setCell (p:=⟨ob,1,none⟩) (by show w.heap.size<=ob;omega) _).setCell (p:=⟨ob,2,none⟩) (by show w.heap.size<=ob;omega) _
  rintro W1 ⟨hc0,hc1,py,si,hcb⟩;have K0:=af hc0;have K1:=af hc1;have KO:=af py;have KX:=af si;have KB:=af hcb;have hoW:ob<W1.heap.size:=py.lt;clear hc0 hc1 py si hcb y0;have hoB:w.heap.size+1<ob:=ad;have HDJ:=af (show ¬ (KH<=ob/\ob<Pa) by omega);have TL:=af (show w.heap.size+1<KH by omega);clear l6 Sk hd h4 h6 eI Bg;go_loopw [5,6,8,9,11,21] (λ_ _ _ _ _ vi wr=>∃ (k:Nat) (v:Value) (M:List br),k<=L.length/\vi=.int .i64 k/\M.length=k/\Hid (M.map br.cls=s.cls.take k)/\Hid (rq W1.heap.size (λ_=>False) wr v M)/\Hid (ag wr ob #[v,.int .i64 s.len,.slice a4 s.ext.length c4] 43)/\Hid (W1.grownBy wr (some ob))) (λ_ _ _ _ _ vi _=>L.length-(intOf vi).toNat)
  .exact ⟨0,.slice none 0 0,[],ad,rfl,rfl,af aj,af aN.nil,KO,af ⟨rfl,rfl,rfl,TZ _,λ_ _ _=>rfl⟩⟩
  obtain ⟨k,v,M,hk,rfl,q6b,HM,nw,gk,HG⟩:=hrel;obtain ⟨wk,nZ⟩:∃ x,x=wr:=⟨_,rfl⟩;subst nZ;obtain ⟨va,vc,rfl,-⟩:=nw.o.form;have B5:=af q6b;clear q6b;have Vi:=HG.o.size;have mw:Hid (Below w.heap.size w wk):=af (KB.o.grown HG.o KB.o.size λq e=>by injection e with e;omega);have J1:=mw.o.size;by_cases hlt:k<L.length
  .have cP:(k:Int)<L.length:=ad;obtain ⟨b,o,av,cv,m,mi,rfl,hbl,e0,e1,hm,qA,hD⟩:=HS.o.cl.get hlt;have e0:=an.cell mw.o e0;have e1:=an.cell mw.o e1;have mR:k<s.cls.length:=by rw [zu.o];exact hlt
   have hcl:s.cls.getD k default=⟨m,mi⟩:=by rw [<- HS.o.eq];exact hD
   have hmem:(⟨m,mi⟩:ey)∈s.cls:=by rw [<- hcl,fx mR];exact NS mR
   have lJ:Hid (s.cls.take (k+1)=s.cls.take k ++ [⟨m,mi⟩]):=af (by rw [LF mR,<- fx (d:=default) mR,hcl]);obtain ⟨kP,hb1,hb2⟩:=HV.o.cl hmem;obtain ⟨dF,fo⟩:=Xt kP;have dF:m.length<=64:=dF;obtain ⟨L2,hL2,UM⟩:=hm;have hl2:m.length=L2.length:=by rw [<- hL2,U6]
   have mD:=af UM;have fG:=af hL2;have zv:=af hl2;have uR:=af fo;have uE:=af qA;have PG:=nw.o.len;clear UM hL2 hl2 fo hmem kP hcl mR hD qA hb1 hb2;go_upto_region 7 with (fail)
   refine j9 (F:=λU=>ag U wk.heap.size #[.slice av m.length cv,.int .i64 mi] 59/\ag U (wk.heap.size+1) #[.slice none 0 0] 57/\U.heap.size=wk.heap.size+2/\Below wk.heap.size wk U) ⟨(ag.new _ _ _).alloc _,ag.at aj,aj,Ea (Ea (Er _) _) _⟩ ?_;rintro W2 ⟨hcb,AT,hs2,F6⟩;have Ln:=af hcb;have HDB:=af AT;have dV:=af hs2;have Le:=af F6;clear hcb AT hs2 F6 e0 e1;go_loopw [8,9,11,29] (λ_ _ _ vi wq=>∃ (i:Nat) (tv:Value) (N:List (Value × List Per)),i<=m.length/\vi=.int .i64 i/\N.length=i/\Hid (N.map Prod.snd=m.take i)/\Hid (EO W2.heap.size (λ_=>False) wq tv N)/\Hid (ag wq (wk.heap.size+1) #[tv] 57)/\Hid (W2.grownBy wq (some (wk.heap.size+1)))) (λ_ _ _ vi _=>m.length-(intOf vi).toNat)
   .exact ⟨0,.slice none 0 0,[],ad,rfl,rfl,af aj,af aN.nil,HDB,af ⟨rfl,rfl,rfl,TZ _,λ_ _ _=>rfl⟩⟩
   obtain ⟨i,tv,N,hi,rfl,UQ,HN,HZ,s9,mC⟩:=hrel;obtain ⟨wq,Bz⟩:∃ x,x=wr:=⟨_,rfl⟩;subst Bz;obtain ⟨ta,tc,rfl,-⟩:=HZ.o.form;have iH:=af UQ;clear UQ;have hqz:=mC.o.size;have hqs:wk.heap.size+2<=wq.heap.size:=by have:=dV.o;omega
   have DW:Hid (Below wk.heap.size wk wq):=af (Le.o.grown mC.o (by have:=dV.o;omega) λq e=>by injection e with e;omega);have s_:Hid (Below w.heap.size w wq):=af (Et mw.o DW.o);have hNl:=HZ.o.len;by_cases hlt2:i<m.length
   .have A5:(i:Int)<m.length:=ad;obtain ⟨b2,o2,Um,at_,nt,ct,t,Hc,et,oQ,tS⟩:=mD.o.at (k:=i) (by rw [<- zv.o];exact hlt2);injection Hc with jr hv2 hv3
    subst jr;have et:=an.cell s_.o et;rw [fG.o] at tS;have kt:t∈m:=LH tS;obtain ⟨ia,hvp⟩:=uR.o t kt;obtain ⟨at2,ct2,Rk,_⟩:=oQ.form;injection Rk with oO yC sL
    subst yC;obtain ⟨L3,hL3,FP⟩:=oQ;have hl3:t.length=L3.length:=by rw [<- hL3,U6]
    have MR:=af FP;have LR:=af hL3;have zw:=af hl3;have IV:Hid (m.take (i+1)=m.take i ++ [t]):=af (by rw [LF hlt2];rw [U2 hlt2] at tS;rw [S7 tS]);clear FP hL3 hl3 hvp tS kt hv2 hv3 oO sL;go_wp2;go_loopw [9,11,35] (λfv _ vi w3=>∃ (j:Nat) (Lp:List PV),j<=t.length/\vi=.int .i64 j/\Lp.length=j/\Hid (Lp.map PV.p=t.take j)/\Hid (EN wq.heap.size (λ_=>False) w3 fv Lp)/\Hid (Below wq.heap.size wq w3)) (λ_ _ vi _=>t.length-(intOf vi).toNat)
    .exact ⟨0,[],ad,rfl,rfl,af aj,af aN.nil,af (JV _ _)⟩
    obtain ⟨j,Lp,hj,rfl,UL,TN,HP,cq⟩:=hrel;obtain ⟨w3,hw3⟩:∃ x,x=wr:=⟨_,rfl⟩;subst hw3;obtain ⟨fa,fc,rfl,-⟩:=HP.o.form;have LW:=af UL;clear UL;have tQ:=cq.o.size;have nO:Below w.heap.size w w3:=Et s_.o cq.o;have HBU3:=af nO;by_cases hlt3:j<t.length
    .have q5e:(j:Int)<t.length:=ad;obtain ⟨b3,o3,x,Bw,hx,c_,hb3,y0,y1,y2,y3⟩:=MR.o.get (k:=j) (by rw [<- zw.o];exact hlt3);subst Bw;rw [LR.o] at c_;obtain ⟨xh,xc,xp⟩:=x;obtain ⟨eA,eE,eB,eW,fq,dZ,rfl,rfl⟩:=hx.form;dsimp only at y0 y1 y2 y3 c_;have y0:=an.cell nO y0;have y1:=an.cell nO y1;have y2:=an.cell nO y2;have y3:=an.cell nO y3;have qR:=af (λW (hb:Below w.heap.size w W)=>Cn (.slice eA eE eB) xp.head W (hx.is.hd.ext hb));have ie:=af (λW (hb:Below w.heap.size w W)=>Cn (.slice eW fq dZ) xp.cycle W (hx.is.cy.ext hb));have tq:=af (And.intro hx.fr hx.pe);have jA:Hid (t.take (j+1)=t.take j ++ [xp]):=af (by rw [LF hlt3,c_,fx hlt3]);clear c_ hx hb3;go_upto_region 13 with (fail)
     refine j9 (F:=λU=>ag U w3.heap.size #[.slice eA eE eB,.int .i64 xp.frm,.int .i64 xp.period,.slice eW fq dZ] 80/\Below w3.heap.size w3 U) ⟨ag.new _ _ _,Ea (Er _) _⟩ ?_;rintro W4 ⟨bN,AM⟩;have k0:=(bN.cells 0).1;have k1:=(bN.cells 1).1;have k2:=(bN.cells 2).1;have k3:=(bN.cells 3).1;have eI:Below w.heap.size w W4:=Et nO AM;have yU:=af AM;clear bN AM nO y0 y1 y2 y3;refine oz (w0:=W4) [0,1,2,3,4,5,6,7,8,9,10,11,12] [13,14] (λv=>⟨#[.agg #[.slice (some ⟨b,o,none⟩) L.length c1,.int .i64 s.len,.slice a2 s.ext.length c2],.pointer (some ⟨w.heap.size,0,none⟩),.pointer (some ⟨w.heap.size+1,0,none⟩),.pointer (some ⟨ob,0,none⟩),undef,.pointer (some ⟨wk.heap.size,0,none⟩),.pointer (some ⟨wk.heap.size+1,0,none⟩),undef,.slice (some ⟨b3,o3,none⟩) t.length ct,.slice fa Lp.length fc,undef,.pointer (some ⟨w3.heap.size,0,none⟩),z0,z1,z2,z3,z4,.agg #[.slice none 0 0,.int .i64 s.len,.slice a4 s.ext.length c4],.pointer (some ⟨w.heap.size,0,none⟩),.slice (some ⟨b,o,none⟩) L.length c1,.int .i64 ↑L.length,.int .i64 ↑k,.bool true,.pointer (some ⟨b,o+k*2,none⟩),.agg #[.slice (some ⟨b2,o2,none⟩) m.length cv,.int .i64 mi],.pointer (some ⟨wk.heap.size,0,none⟩),.pointer (some ⟨wk.heap.size,0,none⟩),.slice (some ⟨b2,o2,none⟩) m.length cv,.int .i64 ↑m.length,.int .i64 ↑i,.bool true,.pointer (some ⟨b2,o2+i,none⟩),.slice (some ⟨b3,o3,none⟩) t.length ct,.slice (some ⟨b3,o3,none⟩) t.length ct,.int .i64 ↑t.length,.int .i64 ↑j,.bool true,.pointer (some ⟨b3,o3+j*4,none⟩),.agg #[.slice eA eE eB,.int .i64 xp.frm,.int .i64 xp.period,.slice eW fq dZ],v 0,v 1,v 2,v 3,v 4,v 5,v 6,v 7,v 8,v 9,v 10,v 11,v 12,u52,u53,u54,u55,u56,u57,u58,u59,u60,u61,u62,u63,u64,u65,u66,u67,u68,u69,u70,undef],[]⟩) [.slice fa Lp.length fc,.pointer (some ⟨w3.heap.size,0,none⟩),.slice eA eE eB,undef,.pointer (some ⟨w3.heap.size,1,none⟩),.int .i64 xp.frm,.pointer (some ⟨w3.heap.size,2,none⟩),.int .i64 xp.period,.pointer (some ⟨w3.heap.size,3,none⟩),.slice eW fq dZ,undef,undef,undef] [3,10,11,12] (λi v lo hi W=>match i with|3=>(∃ a c,v 3=.slice a xp.head.length c)/\rK W (lo 3) (hi 3) (v 3) xp.head|10=>(∃ a c,v 10=.slice a xp.cycle.length c)/\rK W (lo 10) (hi 10) (v 10) xp.cycle|11=>∃ y3 z3 y4 z4,v 3=.slice y3 xp.head.length z3/\v 10=.slice y4 xp.cycle.length z4/\v 11=.agg #[.slice y3 xp.head.length z3,.int .i64 xp.frm,.int .i64 xp.period,.slice y4 xp.cycle.length z4]|12=>∃ y3 z3 y4 z4,v 11=.agg #[.slice y3 xp.head.length z3,.int .i64 xp.frm,.int .i64 xp.period,.slice y4 xp.cycle.length z4]/\v 12=.slice (some ⟨lo 12,0,none⟩) 1 1/\lo 12<hi 12/\ag W (lo 12) #[.slice y3 xp.head.length z3,.int .i64 xp.frm,.int .i64 xp.period,.slice y4 xp.cycle.length z4] 80|_=>True) (λW=>W.cell? ⟨w3.heap.size,0,none⟩=some (.slice eA eE eB)/\W.cell? ⟨w3.heap.size,1,none⟩=some (.int .i64 xp.frm)/\W.cell? ⟨w3.heap.size,2,none⟩=some (.int .i64 xp.period)/\W.cell? ⟨w3.heap.size,3,none⟩=some (.slice eW fq dZ)) (λW hb=>⟨an.cell hb k0,an.cell hb k1,an.cell hb k2,an.cell hb k3⟩) ?stab13 ?loc13 ?steps13 ?fin13 (λj=>match j with|0=>u39|1=>u40|2=>u41|3=>u42|4=>u43|5=>u44|6=>u45|7=>u46|8=>u47|9=>u48|10=>u49|11=>u50|12=>u51|_=>undef)
     case stab13=>
      refine ⟨?_,?_,?_,?_,trivial⟩
      .intro v lo hi W W' h hb;exact ⟨h.1,h.2.below hb⟩
      .intro v lo hi W W' h hb;exact ⟨h.1,h.2.below hb⟩
      .intro v lo hi W W' h hb;exact h
      intro v lo hi W W' h hb;exact (let ⟨y3,z3,y4,z4,e,e2,h1,h⟩:=h;⟨y3,z3,y4,z4,e,e2,h1,h.below hb⟩)
     case loc13=>
      refine ⟨?_,?_,?_,?_,trivial⟩
      .intro v v' lo lo' hi hi' W aA h;have q:=aA 3 (.inl rfl)
       (try dsimp only at h ⊢)
       simp only [q.1,q.2.1,q.2.2] at h;exact h
      .intro v v' lo lo' hi hi' W aA h;have q:=aA 10 (.inl rfl)
       (try dsimp only at h ⊢)
       simp only [q.1,q.2.1,q.2.2] at h;exact h
      .intro v v' lo lo' hi hi' W aA h;have q:=aA 11 (.inl rfl);have q3:=aA 3 (.inr (bM (by kernel_rfl)));have pM:=aA 10 (.inr (bM (by kernel_rfl)))
       (try dsimp only at h ⊢)
       simp only [q.1,q.2.1,q.2.2,q3.1,q3.2.1,q3.2.2,pM.1,pM.2.1,pM.2.2] at h;exact h
      intro v v' lo lo' hi hi' W aA h;have q:=aA 12 (.inl rfl);have mX:=aA 11 (.inr (bM (by kernel_rfl)))
      (try dsimp only at h ⊢)
      simp only [q.1,q.2.1,q.2.2,mX.1,mX.2.1,mX.2.2] at h;exact h
     case steps13=>
      refine .c [] [] rfl ?_ (.c [] [] rfl ?_ (.c [1] [] rfl ?_ (.c [2] [] rfl ?_ (.c [] [] rfl ?_ (.c [4] [] rfl ?_ (.c [] [] rfl ?_ (.c [6] [] rfl ?_ (.c [] [] rfl ?_ (.c [8] [] rfl ?_ (.c [9] [] rfl ?_ (.c [5,7] [3,10] rfl ?_ (.c [] [11] rfl ?_ (.n)))))))))))));all_goals try exact oh
      .rintro v lo hi W hb ⟨g0,g1,g2,g3⟩ _;refine .inl ⟨rfl,λK hK=>?_⟩;simp only [ov,aD,Nat.reduceBEq,cond_true,cond_false];go_wp2_with (go_at_call 96;(with_reducible refine (qR.o _ (Et eI hb)).mono ?_);rintro e w9 ⟨x,rfl,nT,bg⟩);exact aQ (hK x w9 bg ⟨nT.form,nT.at⟩) (by simp [ov,aD,upd])
      .rintro v lo hi W hb ⟨g0,g1,g2,g3⟩ _;refine .inl ⟨rfl,λK hK=>?_⟩;simp only [ov,aD,Nat.reduceBEq,cond_true,cond_false];go_wp2_with (go_at_call 96;(with_reducible refine (ie.o _ (Et eI hb)).mono ?_);rintro e w9 ⟨x,rfl,nT,bg⟩);exact aQ (hK x w9 bg ⟨nT.form,nT.at⟩) (by simp [ov,aD,upd])
      .rintro v lo hi W hb ⟨g0,g1,g2,g3⟩ ⟨⟨la3,lb3,D3⟩,⟨Ic,Ig,wR⟩,_⟩;refine .inl ⟨rfl,λK hK=>?_⟩;simp only [ov,aD,Nat.reduceBEq,cond_true,cond_false]
       (try dsimp only at D3 wR)
       obtain ⟨⟨y3,z3,e3⟩,_⟩:=D3;obtain ⟨⟨y4,z4,e4⟩,_⟩:=wR
       (try simp only [e3,e4])
       go_wp2
       exact aQ (hK (.agg #[.slice y3 xp.head.length z3,.int .i64 xp.frm,.int .i64 xp.period,.slice y4 xp.cycle.length z4]) W (JV _ _) ⟨y3,z3,y4,z4,e3,e4,rfl⟩) (by simp [ov,aD,upd,e3,e4])
      rintro v lo hi W hb ⟨g0,g1,g2,g3⟩ ⟨⟨Ie,Ih,yR⟩,_⟩;refine .inl ⟨rfl,λK hK=>?_⟩;simp only [ov,aD,Nat.reduceBEq,cond_true,cond_false]
      (try dsimp only at yR)
      obtain ⟨y3,z3,y4,z4,e3,e4,e11⟩:=yR
      (try simp only [e11])
      go_wp2
      exact aQ (hK (.slice (some ⟨W.heap.size,0,none⟩) 1 1) _ (Ea (Er _) _) ⟨y3,z3,y4,z4,e11,rfl,aj,ag.new _ _ _⟩) (by simp [ov,aD,upd,e11,e3,e4])
     case fin13=>
      rintro v lo hi W6 bG ⟨g0,g1,g2,g3⟩ hf hap;show wpList _ _ _ [_,_] _ _;obtain ⟨l3,-,h3,⟨y3,z3,e3⟩,mT⟩:=hf 3 rfl;obtain ⟨l10,-,h10,⟨y4,z4,ir⟩,wm⟩:=hf 10 rfl;obtain ⟨-,-,-,y3',z3',y4',z4',lP,E8,e11⟩:=hf 11 rfl;obtain ⟨sR,-,oG,wM,wP,wN,wQ,vl,gi,jc,hbox⟩:=hf 12 rfl;have e0:v 0=.slice fa Lp.length fc:=(hf 0 rfl).2.2.2;clear hf hap;rw [e3] at lP;rw [ir] at E8;rw [e11] at vl;injection lP with i1 _ i2
      injection E8 with i3 _ i4
      subst i1;subst i2;subst i3;subst i4;obtain ⟨rfl,rfl,rfl,rfl⟩:wM=y3/\wP=z3/\wN=y4/\wQ=z4:=by simp at vl;simp [vl]
      rw [e3] at mT;rw [ir] at wm;have B7:Hid (bD W6 (λb=>w3.heap.size<=b/\b<W6.heap.size) ⟨.slice wM xp.head.length wP,.slice wN xp.cycle.length wQ,xp⟩):=af ⟨⟨mT.1.own.ints,wm.1.own.ints⟩,tq.o.1,tq.o.2,λ_ q hq=>by have h1:=(mT.1.own.lt q hq);have:=yU.o.size;omega,λ_ q hq=>by have h1:=(wm.1.own.lt q hq);have:=yU.o.size;omega⟩;dsimp only;rw [e0,gi];obtain ⟨nb,kr⟩:∃ nb,nb=lo 12:=⟨_,rfl⟩;rw [<- kr] at hbox sR jc ⊢;clear kr;have cD:=af hbox;have bR:=af (Et yU.o bG);have Dm:=af (Et cq.o bR.o);have BD:=Dm.o.size;have hnl:=hbox.lt;clear hbox bG g0 g1 g2 g3 k0 k1 k2 k3 mT wm e3 ir e11 vl gi e0 eI;generalize v 1=y1,v 2=y2,v 3=y3,v 4=y4,v 5=y5,v 6=y6,v 7=y7,v 8=y8,v 9=y9,v 10=sY,v 11=sZ;have hLl2:=HP.o.len;obtain ⟨iP,VZ,V0,V1,V2⟩:=Am;have IF:=af (And.intro VZ (And.intro V0 (And.intro V1 V2)));clear VZ V0 V1 V2;have Ec:=af hlt3;refine mL aC _ _ _ _ aC iP _ 4 64 Tryz.underlying78 IF.o.1 IF.o.2.1 IF.o.2.2.1 IF.o.2.2.2 rfl aG aG wq.heap.size (.slice fa Lp.length fc) Lp.length (Lp.flatMap PV.enc) (PV.enc ⟨.slice wM xp.head.length wP,.slice wN xp.cycle.length wQ,xp⟩) rfl aC (HP.o.below Jv bR.o).row nb 1 aC (vk cD.o) B7.o.one (by have:=LW.o;omega) ad ?_;intro v' w9 au aq aI;have uM:=af (aN.push Jv (HP.o.below Jv bR.o) (B7.o.mono λq hq=>⟨ad,λh=>h,λe=>by have:=(HP.o.row.lt q e).2;omega⟩) au aq aI (λh=>h) (by have:=LW.o;omega));have jx:=af (Dm.o.grown aq BD λq e=>((HP.o.below Jv bR.o).row.lt q e).1);clear au aq aI;go_wp2;go_roundw
      .exact ⟨j+1,Lp ++ [⟨.slice wM xp.head.length wP,.slice wN xp.cycle.length wQ,xp⟩],Ec.o,by go_num,by rw [MB,LW.o];rfl,af (by rw [UZ,TN.o,jA.o];rfl),uM,jx⟩
      have:=Ec.o;simp [intOf];omega
    obtain rfl:j=t.length:=ad;have Iv:Hid (bK w3 (λb=>wq.heap.size<=b) (.slice fa Lp.length fc) t):=af ⟨Lp,by rw [TN.o,OC],HP.o.termL.mono λq hq=>hq.1⟩;have d0:=(((s9.o.below cq.o).alloc (.cells #[.slice fa Lp.length fc] 78)).cells 0);have d1:=((s9.o.below cq.o).cells 0);obtain ⟨iT,V3,V4,V5,q6k⟩:=Kx;have kT:=af (And.intro V3 (And.intro V4 (And.intro V5 q6k)));clear V3 V4 V5 q6k;have Eb:=af hlt2;go_wp2_with (at_builtin;(refine mL aC _ _ _ _ aC iT _ 1 24 Tryz.underlying55 kT.o.1 kT.o.2.1 kT.o.2.2.1 kT.o.2.2.2 rfl aG aG W2.heap.size (.slice ta N.length tc) N.length (N.flatMap λx=>[x.1]) [.slice fa Lp.length fc] rfl aC ((HZ.o.below Cq cq.o).below Cq (Ea (Er _) _)).row w3.heap.size 1 aC (vk (ag.new w3 #[.slice fa Lp.length fc] 78)) (by simp [Value.oneCell']) (by have:=iH.o;omega) aR ?_);intro v' w9 au aq aI;obtain ⟨na,nc,rfl⟩:=kF au;have gI:∀ q,(Value.slice ta N.length tc).ownBlock=some q->W2.heap.size<=q:=λq e=>(HZ.o.row.lt q e).1;have Bo:=dV.o;have d2:=(((s9.o.below cq.o).alloc (.cells #[.slice fa Lp.length fc] 78)).grown aq (λe=>by have:=gI _ e.symm;omega));have g2:=d2.cells 0;have mA:=af d2;have I3:=af (aN.push (y:=(.slice fa Lp.length fc,t)) Cq ((HZ.o.below Cq cq.o).below Cq (Ea (Er _) _)) ((bK.ext Iv.o (Ea (Er _) _)).mono λq hq=>⟨ad,λh=>h,λe=>by have:=(HZ.o.row.lt q e).2;omega⟩) au aq aI (λh=>h) (by have:=iH.o;omega));have fF:=af aq;have jg:=af gI;clear au aq aI d2 gI Bo);go_roundw
    .have Bo:=dV.o;have fS:World.grownBy w9 (w9.setCell ⟨wk.heap.size+1,0,none⟩ (.slice na (N.length+1) nc)) (some (wk.heap.size+1)):=World.grownBy.set' ⟨rfl,rfl,rfl,TZ _,λ_ _ _=>rfl⟩ _;have lV:W2.grownBy w9 (some (wk.heap.size+1)):=by
      have h1:W2.grownBy (w3.alloc (.cells #[.slice fa Lp.length fc] 78)) (some (wk.heap.size+1)):=World.grownBy.trans' mC.o (World.grownBy.of_below (Ea cq.o _) _);exact ⟨fF.o.os.trans h1.os,fF.o.tape.trans h1.tape,fF.o.output.trans h1.output,NN h1.size fF.o.size,λq hq hne=>(fF.o.block q (N6 hq h1.size) (λe=>by have:=jg.o q e.symm;omega)).trans (h1.block q hq hne)⟩
     refine ⟨i+1,.slice na (N.length+1) nc,N ++ [(.slice fa Lp.length fc,t)],Eb.o,by go_num,by rw [MB,iH.o];rfl,af (by rw [UZ,HN.o,IV.o];rfl),af (I3.o.low Cq fS ad),af (bE 0 _ mA.o),af (World.grownBy.trans' lV fS)⟩
    have:=Eb.o;simp [intOf];omega
   obtain rfl:i=m.length:=ad;have HFM:Hid (aF wq (λb=>W2.heap.size<=b) (.slice ta N.length tc) m):=af ⟨N,by rw [HN.o,OC],HZ.o.mixL.mono λq hq=>hq.1⟩;have Bo:=dV.o;have U8:ag wq wk.heap.size #[.slice av m.length cv,.int .i64 mi] 59:=(mC.o.block wk.heap.size ad (by intro e;injection e with e;omega)).trans Ln.o;have k1:=(U8.cells 1).1;have k0:=(s9.o.cells 0).1;have J7:ag wq ob #[.slice va M.length vc,.int .i64 s.len,.slice a4 s.ext.length c4] 43:=gk.o.below DW.o;have o0:=J7.cells 0;have d0:=((J7.alloc (.cells #[.slice ta N.length tc,.int .i64 mi] 59)).cells 0);have HOQ:=af J7;obtain ⟨iC,Hp,Hq,Hr,Hs⟩:=q7a;have uw:=af (And.intro Hp (And.intro Hq (And.intro Hr Hs)));have D_:=af hlt;clear Hp Hq Hr Hs U8 J7;go_wp2_with (at_builtin;(refine mL aC _ _ _ _ aC iC _ 2 32 Tryz.underlying40 uw.o.1 uw.o.2.1 uw.o.2.2.1 uw.o.2.2.2 rfl aG aG W1.heap.size (.slice va M.length vc) M.length (M.flatMap br.enc) (br.enc ⟨.slice ta N.length tc,m,mi⟩) rfl aC ((nw.o.below mM DW.o).below mM (Ea (Er _) _)).row wq.heap.size 1 aC (vk (ag.new wq #[.slice ta N.length tc,.int .i64 mi] 59)) (by simp [br.enc,Value.oneCell']) (by have:=B5.o;have:=zu.o;omega) aR ?_);intro v' w9 au aq aI;obtain ⟨na,nc,rfl⟩:=kF au;have gI:∀ q,(Value.slice va M.length vc).ownBlock=some q->W1.heap.size<=q:=λq e=>(nw.o.row.lt q e).1;have d2:=((HOQ.o.alloc (.cells #[.slice ta N.length tc,.int .i64 mi] 59)).grown aq (λe=>by have:=gI _ e.symm;omega));have g2:=d2.cells 0;have mA:=af d2;have MW:=af (aN.push (y:=⟨.slice ta N.length tc,m,mi⟩) mM ((nw.o.below mM DW.o).below mM (Ea (Er _) _)) ⟨(HFM.o.ext (Ea (Er _) _)).mono λq hq=>⟨ad,λh=>h,λe=>by have:=(nw.o.row.lt q e).2;omega⟩,uE.o⟩ au aq aI (λh=>h) (by have:=B5.o;have:=zu.o;omega));have fF:=af aq;have jg:=af gI;clear au aq aI d2 gI);go_roundw
   .have fS:World.grownBy w9 (w9.setCell ⟨ob,0,none⟩ (.slice na (M.length+1) nc)) (some ob):=World.grownBy.set' ⟨rfl,rfl,rfl,TZ _,λ_ _ _=>rfl⟩ _;have lV:W1.grownBy w9 (some ob):=by
     have h1:W1.grownBy (wq.alloc (.cells #[.slice ta N.length tc,.int .i64 mi] 59)) (some ob):=World.grownBy.trans' HG.o (World.grownBy.of_below (Ea DW.o _) _);exact ⟨fF.o.os.trans h1.os,fF.o.tape.trans h1.tape,fF.o.output.trans h1.output,NN h1.size fF.o.size,λq hq hne=>(fF.o.block q (N6 hq h1.size) (λe=>by have:=jg.o q e.symm;omega)).trans (h1.block q hq hne)⟩
    exact ⟨k+1,.slice na (M.length+1) nc,M ++ [⟨.slice ta N.length tc,m,mi⟩],D_.o,by go_num,by rw [MB,B5.o];rfl,af (by rw [UZ,HM.o,lJ.o];rfl),af (MW.o.low mM fS ad),af (bE 0 _ mA.o),af (World.grownBy.trans' lV fS)⟩
   have:=D_.o;simp [intOf];omega
  obtain rfl:k=L.length:=ad;have hmc:M.map br.cls=s.cls:=by have:=HM.o;rwa [PM (by rw [zu.o];exact TZ _)] at this
  have HMC:=af hmc;have dF:M.length=s.cls.length:=by rw [<- hmc,U6]
  have lF:=af dF;have t0:=(gk.o.cells 0).1;have t1:=(gk.o.cells 1).1;have t2:=(gk.o.cells 2).1;have hr1:ag wk (w.heap.size+1) #[.slice none 0 0,.int .i64 0,.slice none 0 0] 43:=(HG.o.block _ ad (by intro e;injection e with e;omega)).trans K1.o;have pX:=af hr1;have j0:=hr1.cells 0;have j1:=hr1.cells 1;have j2:=hr1.cells 2;clear hmc dF hr1;go_wp2_with fail;have aM:=xK (x':=.slice va M.length vc) (y':=.int .i64 s.len) (z':=.slice a4 s.ext.length c4) pX.o;have s0:=(aM.cells 0).1;have s1:=(aM.cells 1).1;have s2:=(aM.cells 2).1;have kh:=mw.o;have fS:World.grownBy wk (((wk.setCell ⟨w.heap.size+1,0,none⟩ (.slice va M.length vc)).setCell ⟨w.heap.size+1,1,none⟩ (.int .i64 s.len)).setCell ⟨w.heap.size+1,2,none⟩ (.slice a4 s.ext.length c4)) (some (w.heap.size+1)):=World.grownBy.set' (World.grownBy.set' (World.grownBy.set' ⟨rfl,rfl,rfl,TZ _,λ_ _ _=>rfl⟩ _) _) _;have hV9:=(nw.o.low mM fS ad).clsL;have hX9:bZ _ (λb=>KH<=b/\b<Pa) _ s.ext:=((KX.o.keep (aP.grown HG.o HDJ.o) HG.o.size)).keep (aP.grown fS (by have:=TL.o;omega)) fS.size;have hkb:=KB.o.size;have hst:bq _ (λb=>w.heap.size<=b) (.slice va M.length vc) (.slice a4 s.ext.length c4) s:=⟨M,HMC.o,hV9.mono λb h=>by have:=h.1;omega,hX9.mono λb h=>by have:=TL.o;omega,HS.o.len⟩;refine VN (v:=.agg #[.slice va M.length vc,.int .i64 s.len,.slice a4 s.ext.length c4]) (by simp [results,Tryz.results51,go_sem,s0,s1,s2]) rfl ?_;rw [lF.o] at hst ⊢;exact ⟨va,vc,a4,c4,rfl,hst.lt,xE⟩
def ba.key (x:ba):Int × aE:=(x.id,x.s)
structure eX (W:World) (q:Nat) (G:Nat->Prop) (v:Value) (M:List ba) (L:IL):Prop where
 box:ag W q #[v] 53
 row:b7 W G v M.length (M.flatMap ba.enc)
 all:∀ x∈M,rr W G x
 eq:M.map ba.key=L
 asc:je L
 apart:¬ G q
theorem eX.keep {q:Nat} {G:Nat->Prop} {M:List ba} {L:IL} (h:eX W q G v M L) (hk:aP (λk=>G k\/k=q) W W') (hs:W.heap.size<=W'.heap.size):eX W' q G v M L:=
 ⟨(hk q (.inr rfl) h.box.lt).trans h.box,h.row.keep (hk.mono λb hb=>.inl hb) hs,λx hx=>xC.keep (h.all x hx) (hk.mono λb hb=>.inl hb) hs,h.eq,h.asc,h.apart⟩
theorem eX.ext {q:Nat} {G:Nat->Prop} {M:List ba} {L:IL} (h:eX W q G v M L) (hb:Below W.heap.size W W'):eX W' q G v M L:=h.keep (aP.below hb) hb.size
theorem eX.grown {q:Nat} {G:Nat->Prop} {M:List ba} {L:IL} (h:eX W q G v M L) (hg:W.grownBy W' (some k)) (hk:¬ G k) (hq:k≠q):eX W' q G v M L:=
 h.keep (aP.grown hg λh=>h.elim hk hq) hg.size
theorem eX.len {q:Nat} {G:Nat->Prop} {M:List ba} {L:IL} (h:eX W q G v M L):L.length=M.length:=by rw [<- h.eq,U6]
theorem eX.form {q:Nat} {G:Nat->Prop} {M:List ba} {L:IL} (h:eX W q G v M L):∃ a c,v=.slice a M.length c:=by obtain ⟨a,c,e,_⟩:=h.row.is;exact ⟨a,c,e⟩
theorem eX.get {q:Nat} {G:Nat->Prop} {a:Option Addr} {M:List ba} {L:IL} (h:eX W q G (.slice a n c) M L) (hk:k<M.length) :
  ∃ b o x,a=some ⟨b,o,none⟩/\b<W.heap.size/\M[k]? = some x/\L[k]? = some (x.id,x.s)/\rr W G x/\W.cell? ⟨b,o+k*4,none⟩=some (.int .i64 x.id)/\W.cell? ⟨b,o+k*4+1,none⟩=some x.cv/\W.cell? ⟨b,o+k*4+2,none⟩=some (.int .i64 x.s.len)/\W.cell? ⟨b,o+k*4+3,none⟩=some x.ev:=by
 obtain ⟨a',c',he,h1,h2,h3⟩:=h.row.is;injection he with e1 _ e2
 subst e1;subst e2;have hx:M[k]? = some (M.getD k default):=by rw [VS,U2 hk];rfl
 rcases h3 with h3|⟨b,o,rfl,hF,hl,hc⟩
 .omega
 exact ⟨b,o,M.getD k default,rfl,hl,hx,by rw [<- h.eq,OA,hx];rfl,h.all _ (LH hx),hc (k*4+0) _ (k_ ba.enc_len default hk rfl),hc (k*4+1) _ (k_ ba.enc_len default hk rfl),hc (k*4+2) _ (k_ ba.enc_len default hk rfl),hc (k*4+3) _ (k_ ba.enc_len default hk rfl)⟩
def gM:IL->Int->Int
 | [],_=>-1
 | (j,_) :: r,i=>if j=i then 0 else if gM r i<0 then -1 else gM r i+1
theorem q2w {L:IL} (h:i ∉ ids L):gM L i=-1:=by
 induction L with
 | nil=>rfl
 | cons x L ih=>
  obtain ⟨j,t⟩:=x;have h1:j≠i:=λe=>h (by subst e;simp [ids]);have h2:i ∉ ids L:=λe=>h (by unfold ids at *;simp [e]);unfold gM;rw [if_neg h1,ih h2];rfl
theorem q3r {L:IL} {t:aE} (hk:L[k]? = some (i,t)) (h:∀ j,j<k->∀ x,L[j]? = some x->x.1≠i):gM L i=k:=by
 induction L generalizing k with
 | nil=>simp at hk
 | cons x L ih=>
  obtain ⟨j,u⟩:=x;cases k with
  | zero=>
   simp at hk;unfold gM;rw [if_pos hk.1];rfl
  | succ k=>
   have h1:j≠i:=h 0 ad _ rfl;have h2:=ih (k:=k) (by simpa using hk) λm hm x hx=>h (m+1) ad x (by simpa using hx);unfold gM;rw [if_neg h1,h2,if_neg ad];omega
theorem XZ (q:Nat) (G:Nat->Prop) (v:Value) (M:List ba) (L:IL) (i:Int) (w:World) (h:eX w q G v M L) (hl:M.length<=100000) :
  Calls Tryz.prog 54 #[.pointer (some ⟨q,0,none⟩),.int .i64 i] w λe w'=>e=.returned (.int .i64 (gM L i))/\w'=w:=by
 obtain ⟨a,c,rfl⟩:=h.form;have H:=af h;have q0:=(h.box.cells 0).1;have FE:=h.len;have qW:=af FE;clear h FE
 go_in
 go_wp2
 go_loopw [5] (λiv wr=>∃ k:Nat,k<=M.length/\iv=.int .i64 k/\wr=w/\Hid (∀ j,j<k->∀ x,L[j]? = some x->x.1≠i)) (λiv _=>M.length-(intOf iv).toNat)
 .exact ⟨0,ad,rfl,rfl,af λj hj=>ad⟩
 obtain ⟨k,hk,rfl,rfl,HN⟩:=hrel;by_cases hlt:k<M.length
 .have cP:(k:Int)<M.length:=ad;obtain ⟨b,o,x,rfl,hbl,hx,PE,hri,e0,e1,e2,e3⟩:=H.o.get hlt;obtain ⟨y,hy⟩:∃ y,x.id=y:=⟨_,rfl⟩;rw [hy] at e0 PE;have oj:=af PE;clear hx PE hri hy;by_cases oR:y=i
  .subst oR;have HP:=af (q3r oj.o HN.o);go_wp2;go_ret;exact ⟨by rw [HP.o];rfl,rfl⟩
  have jg:=af oR;go_wp2;go_roundw
  .exact ⟨k+1,ad,by go_num,trivial,af λj hj z hz=>by
   by_cases e:j=k
   .subst e;rw [oj.o] at hz;injection hz with hz;rw [<- hz];exact jg.o
   exact HN.o j ad z hz⟩
  simp [intOf];omega
 obtain rfl:k=M.length:=ad;have HP:Hid (gM L i=-1):=af (q2w λhm=>by
  obtain ⟨x,hx,he⟩:=VC.1 hm;obtain ⟨j,hj,e⟩:=MA.1 hx;exact HN.o j (by rw [<- qW.o];exact hj) x (by rw [U2 hj,e]) he)
 go_wp2
 go_ret;exact ⟨by rw [HP.o];rfl,rfl⟩
theorem X0 {α:Type} {F:Nat->Prop} {f:α->List Value} (hf:∀ x,(f x).length=sz) {a:Option Addr} {L:List α} (h:b7 W F (.slice a n c) L.length (L.flatMap f)) {i m c':Nat} (mQ:i+m<=L.length) (hm:m<=c') (hc:c'<=9223372036854775807) {a':Option Addr} (ha:m=0\/∃ b o,a=some ⟨b,o,none⟩/\a'=some ⟨b,o+i*sz,none⟩) :
  b7 W F (.slice a' m c') m (((L.drop i).take m).flatMap f):=by
 obtain ⟨a2,c2,he,h1,h2,h3⟩:=h;injection he with e1 _ e2
 refine ⟨a',c',rfl,hm,hc,?_⟩;by_cases h0:m=0
 .exact .inl h0
 obtain ⟨b,o,hab,ha'⟩:=ha.resolve_left h0;rcases h3 with h3|⟨b2,o2,hb2,hF,hl,hcell⟩
 .omega
 rw [<- e1,hab] at hb2;injection hb2 with hb2
 injection hb2 with q1 q2
 subst q1;subst q2;refine .inr ⟨b,o+i*sz,ha',hF,hl,λj u hj=>?_⟩;rw [OE];refine hcell (i*sz+j) u ?_;have e3:L=L.take i ++ L.drop i:=(S0 i L).symm;have hlen:((L.take i).flatMap f).length=i*sz:=by rw [Co hf,MO,EB ad]
 rw [e3,MC,ND (by rw [hlen];omega),hlen,Nat.add_sub_cancel_left];have e4:L.drop i=(L.drop i).take m ++ (L.drop i).drop m:=(S0 m _).symm;rw [e4,MC,M_ (by exact (GD.1 hj).1)];exact hj
theorem Sn {G:Nat->Prop} {M:List ba} (h:∀ x∈M,rr W G x):∀ u∈M.flatMap ba.enc,u.oneCell'=true:=λu hu=>by
 obtain ⟨x,hx,hu⟩:=M7.1 hu;obtain ⟨a,c,a',c',e1,e2⟩:=(h x hx).1.form;unfold ba.enc at hu;rw [e1,e2] at hu;simp at hu;rcases hu with rfl|rfl|rfl|rfl <;> rfl
theorem yn_ {e:TypeId} (h:W.ownsRow B e sz v n xs):b7 W (λb=>B<=b) v n xs:=by
 obtain ⟨hl,⟨rfl,h2⟩|⟨g,cap,cur,rfl,hb,hg,h3,h4,h5,h6⟩⟩:=h
 .rw [h2];exact ⟨none,0,rfl,ad,ad,.inl rfl⟩
 have h':W.ownsRow B e sz (.slice (some ⟨g,0,none⟩) n cap) n xs:=⟨hl,.inr ⟨g,cap,cur,rfl,hb,hg,h3,h4,h5,h6⟩⟩;refine ⟨_,cap,rfl,h3,h4,.inr ⟨g,0,rfl,hb,(h'.lt g rfl).2,λi u hi=>?_⟩⟩;rw [S1];have:=(GD.1 hi).1;exact (h'.cellAt i (by rw [<- hl];exact this)).trans hi
theorem Of {L:IL} (h:je L) {t:aE} (hk:L[k]? = some (i,t)):L.take k ++ L.drop (k+1)=dP L i:=by
 have hlt:k<L.length:=(GD.1 hk).1;have he:L[k]=(i,t):=(GD.1 hk).2;have hsp:L=L.take k ++ (i,t) :: L.drop (k+1):=by rw [<- he,<- GE hlt,S0]
 have h2:=h;rw [hsp] at h2;unfold je ids at h2;rw [UZ,GB,N9,N4] at h2
 conv=>rhs;rw [hsp]
 unfold dP;rw [MG,q8r aj,q8s.2,q8s.2]
 .intro x hx;have:=h2.2.1.1 x.1 (VC.2 ⟨x,hx,rfl⟩);have:x.1≠i:=by have h3:i<x.1:=this;omega
  simpa using this
 intro x hx;have:=h2.2.2 x.1 (VC.2 ⟨x,hx,rfl⟩) i aj;have:x.1≠i:=ad;simpa using this
theorem XY {L:IL}:(i ∉ ids L/\gM L i=-1)\/∃ (k:Nat) (t:aE),L[k]? = some (i,t)/\gM L i=k:=by
 induction L with
 | nil=>exact .inl ⟨by simp [ids],rfl⟩
 | cons x L ih=>
  obtain ⟨j,u⟩:=x;by_cases e:j=i
  .subst e;exact .inr ⟨0,u,rfl,by unfold gM;rw [if_pos rfl];rfl⟩
  unfold gM;rw [if_neg e];rcases ih with ⟨h1,h2⟩|⟨k,t,h1,h2⟩
  .refine .inl ⟨λhm=>?_,by rw [h2];rfl⟩;unfold ids at hm h1;rw [GB,U3] at hm;exact hm.elim (λh=>e h.symm) h1
  exact .inr ⟨k+1,t,by simpa using h1,by rw [h2,if_neg ad];omega⟩
theorem Ni {L:IL} (h:je L) (i:Int):je (dP L i):=by
 unfold je ids dP;exact List.Pairwise.sublist (List.Sublist.map _ q8t) h
theorem Y7 {q:Nat} {G:Nat->Prop} {x:Value} {M:List ba} {L:IL} (hd:ag W q #[x] 53) (ho:W.ownsRow B 68 4 v' M.length (M.flatMap ba.enc)) (hq:q<B) (hG:¬ G q) (ha:∀ x∈M,rr W (λk=>G k\/B<=k) x) (he:M.map ba.key=L) (hs:je L) :
  eX (W.setCell ⟨q,0,none⟩ v') q (λk=>G k\/B<=k) v' M L:=by
 have hk:aP (λk=>G k\/B<=k) W (W.setCell ⟨q,0,none⟩ v'):=aP.grown (World.grownBy.set' (P7 W (some q)) v') λe=>e.elim hG ad;exact ⟨bE 0 v' hd,((yn_ ho).mono λb hb=>.inr hb).keep hk aj,λx hx=>xC.keep (ha x hx) hk aj,he,hs,λe=>e.elim hG ad⟩
theorem q4s {q:Nat} {G:Nat->Prop} {w9:World} {x:Value} {M:List ba} {L:IL} (H:eX w q G v M L) (hd:ag w9 q #[x] 53) (ho:w9.ownsRow w.heap.size 68 4 v' (k+(M.length-(k+1))) (((M.drop 0).take k).flatMap ba.enc ++ ((M.drop (k+1)).take (M.length-(k+1))).flatMap ba.enc)) (hg:w.grownBy w9 (some q)) (hk:k<M.length) (hdel:L.take k ++ L.drop (k+1)=dP L i) :
  w.grownBy (w9.setCell ⟨q,0,none⟩ v') (some q)/\∃ v2 M',eX (w9.setCell ⟨q,0,none⟩ v') q (λk=>G k\/w.heap.size<=k) v2 M' (dP L i)/\M'.length<=M.length:=by
 refine ⟨World.grownBy.set' hg v',v',M.take k ++ M.drop (k+1),Y7 hd ?_ H.box.lt H.apart ?_ ?_ (Ni H.asc i),by rw [MB,MO,S2];omega⟩
 .have e1:(M.take k ++ M.drop (k+1)).length=k+(M.length-(k+1)):=by rw [MB,MO,S2];omega
  rw [e1,MC];rw [List.drop_zero,PM (l:=M.drop (k+1)) (by rw [S2];omega)] at ho;exact ho
 .intro y hy;have hm:y∈M:=(VJ.1 hy).elim S8 rX;exact xC.mono (xC.keep (H.all y hm) (aP.grown hg H.apart) hg.size) λb hb=>.inl hb
 rw [<- hdel,<- H.eq,UZ,Y8,List.map_drop]
def Y1 (q:Nat) (G:Nat->Prop) (M:List ba) (L:IL) (i:Int) (w:World) (e:Ending) (w':World):Prop:=
 (i ∉ ids L/\e=.returned (.int .i64 4)/\w'=w) \/
 (i∈ids L/\e=.returned (.int .i64 0)/\w.grownBy w' (some q)/\∃ v' M',eX w' q (λk=>G k\/w.heap.size<=k) v' M' (dP L i)/\M'.length<=M.length)
theorem r4_ (q:Nat) (G:Nat->Prop) (v:Value) (M:List ba) (L:IL) (i:Int) (w:World) (h:eX w q G v M L) (hl:M.length<=1000) :
  Calls Tryz.prog 35 #[.pointer (some ⟨q,0,none⟩),.int .i64 i] w (Y1 q G M L i w):=by
 obtain ⟨a,c,rfl⟩:=h.form;have H:=af h;have hq:=h.box.lt;have HF:=af (XZ q G _ M L i w h ad);obtain ⟨a2,c2,PY,gF,hcm,-⟩:=h.row.is;injection PY with e1 _ e2
 subst e1;subst e2;have q0:=(h.box.cells 0).1;have qf:=(h.box.cells 0).2;rcases XY (L:=L) (i:=i) with ⟨qB,hp⟩|⟨k,t,hk,hp⟩
 .rw [hp] at HF;have iH:=af qB;clear h qB hp
  go_in
  go_wp2_with (go_at_call 54;(with_reducible refine HF.o.mono ?_);rintro e w1 ⟨rfl,rfl⟩)
  go_ret;exact .inl ⟨iH.o,rfl,rfl⟩
 rw [hp] at HF;have CT:k<L.length:=(GD.1 hk).1;have Vm:k<M.length:=by rw [<- h.len];exact CT
 have Lr:=af (Of h.asc hk);have dq:Hid (i∈ids L):=af (VC.2 ⟨_,LH hk,rfl⟩);have fg:(k:Int)<M.length:=ad;obtain ⟨b8,f8,x8,rfl,-⟩:=h.get Vm;obtain ⟨iM,Ht,Hu,Hv,Hw⟩:=Zb;have eT:=af (And.intro Ht (And.intro Hu (And.intro Hv Hw)));clear h hk hp Ht Hu Hv Hw
 go_in
 go_upto_region 5 with (first|(go_at_call 54;(with_reducible refine HF.o.mono ?_);rintro e w1 ⟨rfl,e1⟩;obtain rfl:w=w1:=e1.symm;have hk0:¬ (k:Int)<0:=ad)|(at_builtin;(refine O_ aC _ _ _ _ aC iM _ 4 64 Tryz.underlying51 eT.o.1 eT.o.2.1 eT.o.2.2.1 eT.o.2.2.2 rfl aG aG w.heap.size (.slice (some ⟨w.heap.size,0,none⟩) 0 0) (.slice (some ⟨b8,f8,none⟩) k c) 0 k [] (((M.drop 0).take k).flatMap ba.enc) G aC ⟨rfl,.inr ⟨w.heap.size,0,#[],rfl,TZ _,DP w _,TZ _,by simp [maxLen],rfl,rfl⟩⟩ aC (X0 ba.enc_len (b7.keep H.o.row (aP.below (Ea (Er w) _)) aj) ad ad hcm (.inr ⟨b8,f8,rfl,aj⟩)) (by rw [Co ba.enc_len,MO,S2];congr 1;omega) (Sn (G:=G) (λx hx=>(xC.keep (H.o.all x (rX (S8 hx))) (aP.below (Ea (Er w) (.cells #[] 68))) aj))) ad aj ?_);intro v5 w5 az aJ kq;rw [S1,L4] at az;obtain ⟨yK,yL,rfl⟩:=kF az;have lG:=af az;have hb5:Below w.heap.size w w5:=((Ea (Er w) _).trans (Below.grown (JV _ _) aJ aj (λk e=>by simp [Value.ownBlock] at e;omega)));have bW:=af hb5;have od:=hb5.size;clear az aJ kq hb5))
 have iU:=H.o.box.below bW.o;have q5:=(iU.cells 0).1;have q6:=(iU.cells 0).2;have sq:(0:Int)<=(k:Int)+1:=ad;have hk2:(k:Int)+1<=M.length:=ad;have mR:k+1<=M.length:=ad;clear iU;have HQ5:=af (H.o.box.below bW.o);go_wp2_with (at_builtin;(refine O_ aC _ _ _ _ aC iM _ 4 64 Tryz.underlying51 eT.o.1 eT.o.2.1 eT.o.2.2.1 eT.o.2.2.2 rfl aG aG w.heap.size (.slice yK k yL) (.slice (if c=k+1 then some ⟨b8,f8,none⟩ else some ⟨b8,f8+(k+1)*4,none⟩) (M.length-(k+1)) (c-(k+1))) k (M.length-(k+1)) (((M.drop 0).take k).flatMap ba.enc) (((M.drop (k+1)).take (M.length-(k+1))).flatMap ba.enc) G aC lG.o aC (X0 ba.enc_len (b7.keep H.o.row (aP.below bW.o) od) ad ad ad (if hc:c=k+1 then .inl ad else .inr ⟨b8,f8,rfl,by rw [if_neg hc]⟩)) (by rw [Co ba.enc_len,MO,S2];congr 1;omega) (Sn (G:=G) (λx hx=>(xC.keep (H.o.all x (rX (S8 hx))) (aP.below bW.o) od))) ad ad ?_);intro v9 w9 au aq aI;obtain ⟨na9,nc9,rfl⟩:=kF au;have tH:w.grownBy w9 (some q):=(World.grownBy.of_below (bW.o.grown aq ad (λq' e=>(lG.o.lt q' e).1)) (some q));have d2:=HQ5.o.grown aq (λe=>by have:=(lG.o.lt _ e.symm).1;omega);have g2:=d2.cells 0;have mA:=af d2;clear d2;have jz:=af au;clear au aq aI);all_goals go_wp2_with fail
 all_goals go_ret
 all_goals exact .inr ⟨dq.o,rfl,q4s H.o mA.o jz.o tH Vm Lr.o⟩
end
end Go.Proofs.YtbmgmlbmgogeaaaGreat
end
