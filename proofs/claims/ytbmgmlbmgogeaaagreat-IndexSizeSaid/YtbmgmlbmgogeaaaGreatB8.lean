/- Part 8 of the proof of the laws. -/
import Derived.Test.YtbmgmlbmgogeaaaGreatB7
import Derived.Maps.RangeWalk
import Derived.Maps.OwnSet
import Derived.Test.YtbmgmlbmgogeaaaGreatB4
import Derived.Test.YtbmgmlbmgogeaaaGreatB6
set_option linter.unusedVariables false
set_option linter.unusedSimpArgs false
set_option maxRecDepth 100000
set_option maxHeartbeats 4000000
section
variable {av bv:Array Go.Value}{a e i r s x:Int}{m:List (List Kal.Per)}{l:List Int}{t:List Kal.Per}{xs:List Go.Value}{B c j k n sz:Nat}{row:Option Nat}{p:Kal.Per}{v v':Go.Value}{A C W W' W1 W2 w w':Go.World}
namespace Go.Proofs.YtbmgmlbmgogeaaaGreat
section
open Go.RowKit Go.Maps Kal
abbrev fB (g:Nat->Bool):Array Value:=#[.bool (g 0),.bool (g 1),.bool (g 2),.bool (g 3),.bool (g 4),.bool (g 5),.bool (g 6)]
theorem GG (g:Nat->Bool) {r:Nat} (h:r<7):(fB g)[r]? = some (.bool (g r)):=by
 have:r=0\/r=1\/r=2\/r=3\/r=4\/r=5\/r=6:=aa;rcases this with rfl|rfl|rfl|rfl|rfl|rfl|rfl <;> rfl
def t_ (g:Nat->Bool) (f u:Int):Prop:=∃ d,f<=d/\d<=u/\d<f+7/\g (d % 7).toNat=true
def Mt (g:Nat->Bool) (f u:Int) (w:World) (e:Ending) (w':World):Prop:=∃ r:Bool,e=.returned (.bool r)/\(r=true↔t_ g f u)/\Below w.heap.size w w'
theorem zk_ (g:Nat->Bool) (len a b:Int) (w:World) (h1:0<=len) (h2:len<=10080) (a1:-2251799813685248<=a) (a2:a<=2251799813685248) (b1:-2251799813685248<=b) (b2:b<=2251799813685248) :
  Calls Tryz.prog 37 #[.agg (fB g),.int .i64 len,.agg #[.int .i64 a,.int .i64 b]] w (Mt g ((a-len) / 1440) (b / 1440) w):=by
 show Calls _ _ #[.agg #[.bool (g 0),.bool (g 1),.bool (g 2),.bool (g 3),.bool (g 4),.bool (g 5),.bool (g 6)],_,_] _ _;obtain ⟨f,hf⟩:∃ f,(a-len) / 1440=f:=⟨_,rfl⟩;obtain ⟨t,ht⟩:∃ t,b / 1440=t:=⟨_,rfl⟩;have hfb:-2000000000000<=f/\f<=2000000000000:=aa;have Ge:-2000000000000<=t/\t<=2000000000000:=aa;obtain ⟨f1,f2⟩:=hfb;obtain ⟨t1,t2⟩:=Ge;have HF:=λW=>Ih (a-len) W aa aa;have HT:=λW=>Ih b W aa aa;rw [hf] at HF;rw [ht] at HT;rw [hf,ht];have HF:=ad HF;have HT:=ad HT;clear hf ht
 go_in
 go_wp2_with fail
 go_quiet (first|(go_at_call 70;(with_reducible exact Calls.quiet_of_same ((HF.o _).mono λe w' h=>⟨h.1,h.2.symm⟩)))|(go_at_call 70;(with_reducible exact Calls.quiet_of_same ((HT.o _).mono λe w' h=>⟨h.1,h.2.symm⟩))))
 go_wp2_with fail
 have ks:Hid (af ((w.alloc (.cells (fB g) 93)).alloc (.cells #[.int .i64 a,.int .i64 b] 29)) w.heap.size (fB g) 93):=ad ((af.at rfl).alloc _);go_loopw [9] (λv wr=>∃ d,v=.int .i64 d/\f<=d/\d<=f+7/\Hid (∀ x,f<=x->x<d->g (x % 7).toNat=false)/\Hid (af wr w.heap.size (fB g) 93)/\Hid (Below w.heap.size w wr)) (λv _=>(f+7-intOf v).toNat)
 .exact ⟨f,rfl,aa,aa,ad (by intro x h1 h2;omega),(by first|exact ks|exact ad (ks.o.below (En (Er _) _))),ad xE⟩
 obtain ⟨d,rfl,d1,d2,HN,HX,HB⟩:=hrel;have nw:=HX.o.lt;have done:¬ (d<=t/\d<f+7)->¬ t_ g f t:=by
  rintro hc ⟨x,x1,x2,x3,x4⟩;have:=HN.o x x1 aa;rw [x4] at this;cases this
 have HD:=ad done;clear done;by_cases hA:d<=t
 .by_cases hC:d<f+7
  .have HW:=λW=>Ie d W aa aa;obtain ⟨r,hr⟩:∃ r,d % 7=r:=⟨_,rfl⟩;have dY:0<=r/\r<7:=aa;obtain ⟨r1,r2⟩:=dY;rw [hr] at HW;have HW:=ad HW;have q:wr.cell? ⟨w.heap.size,r.toNat,none⟩=some (.bool (g r.toNat)):=((HX.o.cells r.toNat).1).trans (GG g aa);have HR:=ad hr;have B9:r.toNat<7:=aa;clear hr;cases hg:g r.toNat with
   | true=>
    rw [hg] at q;have HG:=ad hg;clear hg;go_wp2_with (go_at_call 71;refine (HW.o _).mono ?_;rintro e w1 ⟨rfl,rfl⟩);go_ret;exact ⟨true,rfl,⟨λ_=>⟨d,d1,hA,hC,by rw [HR.o];exact HG.o⟩,λ_=>rfl⟩,HB.o⟩
   | false=>
    rw [hg] at q;have HG:=ad hg;clear hg;go_wp2_with (go_at_call 71;refine (HW.o _).mono ?_;rintro e w1 ⟨rfl,rfl⟩);go_roundw
    .exact ⟨d+1,rfl,aa,aa,ad λx x1 x2=>by
     by_cases e:x=d
     .subst e;rw [HR.o];exact HG.o
     exact HN.o x x1 aa,HX,HB⟩
    simp [intOf];omega
  have HE:=ad (HD.o aa);go_wp2;go_ret;exact ⟨false,rfl,⟨λh=>(by cases h),λh=>absurd h HE.o⟩,HB.o⟩
 have HE:=ad (HD.o aa);go_wp2;go_ret;exact ⟨false,rfl,⟨λh=>(by cases h),λh=>absurd h HE.o⟩,HB.o⟩
abbrev DS:Value->Option (DataW Value × List MemPlace):=λv=>some (.held v,[])
structure eZ (D:DataW Value) (E:List (Int × Value)):Prop where
 val:∀ i v,(i,v)∈E->∀ zd,D.atKey (.int .i64 i) zd=.held v
 has:∀ i,Maps.has D (.int .i64 i)=true↔i∈E.map Prod.fst
 nodup:(E.map Prod.fst).Nodup
def cT (w:World) (b n:Nat) (E:List (Int × Value)):Prop:=∃ D,w.ownsMap Tryz.prog 3 DS b n D/\eZ D E
structure jW (E:List (Int × Value)) (left:Lit->Bool) (l:List Int):Prop where
 nodup:l.Nodup
 mem:∀ x,x∈l↔(x∈E.map Prod.fst/\left (.int .i64 x)=false)
theorem jW.start {D:DataW Value} {E:List (Int × Value)} (h:eZ D E):jW E (Maps.has D) []:=
 ⟨List.nodup_nil,λx=>by
  have:=h.has x;cases hh:Maps.has D (.int .i64 x) with
  | true=>simp
  | false=>rw [hh] at this;simp;simpa using this⟩
theorem jW.step {D:DataW Value} {E:List (Int × Value)} {left:Lit->Bool} (h:jW E left l) (hD:eZ D E) (hl:left (.int .i64 x)=true) (hh:Maps.has D (.int .i64 x)=true) :
  jW E (λz=>left z && !z.sameKey (.int .i64 x)) (l ++ [x]):=by
 have hx:x ∉ l:=λhm=>by have:=((h.mem x).1 hm).2;rw [hl] at this;cases this
 refine ⟨List.nodup_append.2 ⟨h.nodup,ag,?_⟩,λy=>?_⟩
 .intro a ha b hb;obtain rfl:b=x:=by simpa using hb
  rintro rfl;exact hx ha
 rw [List.mem_append,h.mem,List.mem_singleton];have hs:Lit.sameKey (.int .i64 y) (.int .i64 x)=decide (y=x):=by simp [Lit.sameKey]
 rw [hs];by_cases e:y=x
 .subst e;simp;exact (hD.has y).1 hh |> List.mem_map.1 |> λ⟨p,hp,e⟩=>⟨p.2,by rw [<- e];exact hp⟩
 simp [e]
theorem jW.done {E:List (Int × Value)} {left:Lit->Bool} (h:jW E left l) (hE:(E.map Prod.fst).Pairwise (· < ·)) (hl:∀ kl,left kl=false):ar l=E.map Prod.fst:=
 PP (Jv h.nodup) hE λx=>by rw [Bx,h.mem];simp [hl]
theorem xf_:∀ (key:Value) (kl:Lit),keyOf Tryz.prog 3 key=some kl->∃ x:Int,key=.int .i64 x:=λkey kl h=>by
 obtain ⟨x,hx,_⟩:=Maps.keyOf_int_inv Tryz.underlying3 h;exact ⟨x,hx⟩
theorem xh_ {kl:Lit} (h:keyOf Tryz.prog 3 (.int .i64 x)=some kl):kl=.int .i64 x/\aP x:=by
 obtain ⟨y,hy,hk,hw⟩:=Maps.keyOf_int_inv Tryz.underlying3 h;injection hy with _ hy
 subst hy;refine ⟨hk,?_⟩;have h2:=hw;simp [Lit.wf] at h2;have e1:IntKind.i64.min=-9223372036854775808:=rfl;exact ⟨aa,h2.2⟩
structure Mc (w:World) (b r n:Nat) (E:List (Int × Value)) (D:DataW Value) (v:Value) (W:World):Prop where
 ex:∃ left cnt l,W.ranges Tryz.prog 3 DS b r n D left cnt/\jW E left l/\ak W (r+1) v l/\l.length+cnt<=n
 below:Below w.heap.size w W
def Mw (E:List (Int × Value)) (w:World) (e:Ending) (w':World):Prop:=∃ a c,e=.returned (.slice a E.length c)/\ak w' w.heap.size (.slice a E.length c) (E.map Prod.fst)/\Below w.heap.size w w'
theorem Ib (p b n:Nat) (E:List (Int × Value)) (w:World) (hp:af w p #[.map (some b)] 98) (hm:cT w b n E) (hE:(E.map Prod.fst).Pairwise (· < ·)) (hn:n<=1000000) :
  Calls Tryz.prog 36 #[.pointer (some ⟨p,0,none⟩)] w (Mw E w):=by
 obtain ⟨D,hown,hD⟩:=hm;have hlt:=hown.lt;have hpl:=hp.lt;have q0:=(hp.cells 0).1;have hsz:=hown.size_le;have HD:=ad hD;have YF:=ad hE;have aM:=ad hown;clear hD hE hp
 go_in
 go_wp2_with (at_range;refine wpList_range_own _ rfl _ 96 rfl 3 95 (int_keyed Tryz.underlying3) Tryz.underlying96 _ b n D rfl aM.o ?_;intro w0 hrg hg hs0;have qA:=ad hrg;have HG:=ad hg;clear hrg hg)
 go_frame;have hz0:b<w0.heap.size:=aa;go_loopw [3,4,13,14,15,16,17,18,19,20] (λv3 _ _ _ _ _ _ _ _ _ wr=>∃ (a:Option Addr) (m c:Nat),v3=.slice a m c/\Hid (Mc w b w.heap.size n E D (.slice a m c) wr)) (λ_ _ _ _ _ _ _ _ _ _ wr=>wr.rangeLeft b w.heap.size)
 .exact ⟨none,0,0,rfl,ad ⟨⟨_,_,[],qA.o,jW.start HD.o,ak.nil _ _,by simpa using hsz⟩,(Below.refl _ _).grown HG.o (Nat.le_refl _) (λk e=>by cases e)⟩⟩
 obtain ⟨a,m,c,rfl,HS⟩:=hrel;obtain ⟨left,cnt,l,hr,hk,ho,hc⟩:=HS.o.ex;obtain ⟨a',c',he⟩:=ho.form;injection he with e1 e2 e3
 subst e2;clear e1 e3;have HR:=ad hr;have HK:=ad hk;have HO:=ad ho;have HB:=ad HS.o.below;clear hr hk ho;go_wp2_with (at_next;refine wpList_next_ranges _ rfl _ rfl 3 (int_keyed Tryz.underlying3) DS (Value.int .i64) (λv:Value=>v) xf_ (λv y hv=>⟨v,rfl⟩) b w.heap.size n _ _ _ rfl HR.o ?_ ?_)
 .intro h0 hl0;have HL:=ad hl0;have yH:=ad (JD (.slice a l.length c) l (w.heap.size+1) wr HO.o);clear hl0;go_wp2_with (go_at_call 69;(with_reducible refine yH.o.mono ?_);rintro e w1 ⟨rfl,ho1,hg1⟩;have Dp:=ad ho1;have CW:=ad hg1;clear ho1 hg1);go_ret;have hd:=HK.o.done YF.o HL.o;have rJ:l.length=E.length:=by rw [<- Bp,hd,List.length_map]
  rw [rJ] at Dp ⊢;rw [hd] at Dp;exact ⟨a,c,rfl,Dp.o.mono aa,HB.o.grown CW.o (by have:=HB.o.size;omega) λk hk=>by have:=(HO.o.lt k hk).1;omega⟩
 intro x v kl yd yp w2 cnt2 hkey hlk hv hv2 hat hrg2 hlt2 hg2 hs2 hen;obtain ⟨rfl,hx⟩:=xh_ hkey;have hme:=HK.o.step HD.o hlk (has_true_of_atKey hat);have KY:=ad hme;have kB:=ad hrg2;have xj:=HR.o.lt;have tM:=ad (HO.o.kept hg2 (by
  rcases hq:(Value.slice a l.length c).ownBlock with _|q
  .exact .inl rfl
  exact .inr λe=>by have:=(HO.o.lt q hq).1;injection e with e;omega))
 have bj:=ad (HB.o.grown hg2 (by have:=HB.o.size;omega) λk hk=>by injection hk with hk;omega);have hlt3:cnt2<cnt:=hlt2;have AC:=bj.o.size;clear hme hrg2 hlk hv hv2 hat hkey hg2 hs2;go_wp2_with (at_builtin;(refine pA az _ _ az (w.heap.size+1) (.slice a l.length c) l x az (tM.o.ext (Ea (Er _) _)) w2.heap.size _ az ((af.at (w:=w2) (b:=w2.heap.size) (c:=#[.int .i64 x]) (t:=3) rfl).cells 0).1 hx aa (by rw [World.size_alloc];omega) ?_);intro g cap w5 aw aH bU;have kT:=ad aw;have YM:=ad aH;have cr:=ad bU;clear aw aH bU);have vq:=(kB.o.alloc (.cells #[.int .i64 x] 3)).kept YM.o (λe=>by have:=(HO.o.lt b (by rw [<- e])).1;omega) (λe=>by have:=(HO.o.lt _ (by rw [<- e])).1;omega);go_roundw
 .exact ⟨some ⟨g,0,none⟩,l.length+1,cap,rfl,ad ⟨⟨_,cnt2,l ++ [x],vq,KY.o,kT.o,aO⟩,(bj.o.alloc aa _).trans (cr.o.mono aa)⟩⟩
 rw [vq.left_eq,HR.o.left_eq];exact hlt3
theorem eZ.nil:eZ (.map []) []:=⟨ag,λi=>by simp [Maps.has],List.nodup_nil⟩
def Mv (w:World) (e:Ending) (w':World):Prop:=e=.returned (.pointer (some ⟨w.heap.size+1,0,none⟩))/\af w' (w.heap.size+1) #[.map (some w.heap.size)] 98/\cT w' w.heap.size 0 []/\Below w.heap.size w w'/\w'.heap.size=w.heap.size+2
theorem Qh (w:World):Calls Tryz.prog 31 #[] w (Mv w):=by
 have hmk:=@run_makeMap Tryz.prog
 go_in
 go_wp2;go_ret;refine ⟨rfl,af.at ag,⟨_,World.ownsMap.alloc (World.ownsMap_made w _ _ _) _,eZ.nil⟩,?_,ag⟩;exact Ea (Ea (Er w) _) _
theorem Wr (p b n:Nat) (E:List (Int × Value)) (w:World) (hp:af w p #[.map (some b)] 98) (hm:cT w b n E) (hE:(E.map Prod.fst).Pairwise (· < ·)) (hn:n<=1000000) :
  Calls Tryz.prog 22 #[.pointer (some ⟨p,0,none⟩)] w λe w'=>e=.returned (.int .i64 E.length)/\Below w.heap.size w w':=by
 have H:=ad (Ib p b n E w hp hm hE hn);clear hp hm hE
 go_in
 go_wp2_with (go_at_call 36;refine H.o.mono ?_;rintro e w1 ⟨a,c,rfl,ho,hb⟩;have HB:=ad hb;clear ho hb)
 go_ret;exact ⟨rfl,HB.o⟩
structure bm where
 a1:Option Addr
 n1:Nat
 c1:Nat
 len:Int
 a2:Option Addr
 n2:Nat
 c2:Nat
 g:Nat->Bool
abbrev bm.val (x:bm):Value:=.agg #[.slice x.a1 x.n1 x.c1,.int .i64 x.len,.slice x.a2 x.n2 x.c2,.bool (x.g 0),.bool (x.g 1),.bool (x.g 2),.bool (x.g 3),.bool (x.g 4),.bool (x.g 5),.bool (x.g 6)]
def dJ (x:Int × bm):Int × Value:=(x.1,x.2.val)
theorem wz (E:List (Int × bm)):(E.map dJ).map Prod.fst=E.map Prod.fst:=by rw [List.map_map];rfl
theorem X4 (w:World):(zeroValue 95).run Tryz.prog w=.ok (.agg #[.slice none 0 0,.int .i64 0,.slice none 0 0,.bool false,.bool false,.bool false,.bool false,.bool false,.bool false,.bool false]) w:=by kernel_rfl
theorem JU (h:aP i):(Lit.int .i64 i).wf=true:=by
 obtain ⟨h1,h2⟩:=h;have e1:IntKind.i64.min=-9223372036854775808:=rfl;simp [Lit.wf];exact ⟨aa,h2⟩
theorem JQ {j:Int} (h:i≠j):Lit.int .i64 i≠Lit.int .i64 j:=λe=>h (by injection e)
theorem cT.kept {b:Nat} {E:List (Int × Value)} (h:cT w b n E) (hg:w.grownBy w' row) (hne:some b≠row):cT w' b n E:=by
 obtain ⟨D,h1,h2⟩:=h;exact ⟨D,h1.kept hg hne,h2⟩
theorem cT.lt {b:Nat} {E:List (Int × Value)} (h:cT w b n E):b<w.heap.size:=by obtain ⟨D,h1,_⟩:=h;exact h1.lt
theorem eZ.del {D:DataW Value} {E:List (Int × Value)} (h:eZ D E) (i:Int):eZ (D.del (.int .i64 i)) (E.filter λx=>!(x.1 == i)):=by
 have hm:∀ x:Int × Value,x∈E.filter (λx=>!(x.1 == i))↔x∈E/\x.1≠i:=λx=>by rw [List.mem_filter];simp
 refine ⟨λj v hv zd=>?_,λj=>?_,?_⟩
 .obtain ⟨h1,h2⟩:=(hm _).1 hv;rw [atKey_del_other (JQ h2)];exact h.val j v h1 zd
 .by_cases e:j=i
  .subst e;rw [has_del_same];simp
  rw [has_del_other (JQ e),h.has,List.mem_map,List.mem_map];constructor
  .rintro ⟨x,hx,rfl⟩;exact ⟨x,(hm x).2 ⟨hx,e⟩,rfl⟩
  rintro ⟨x,hx,rfl⟩;exact ⟨x,((hm x).1 hx).1,rfl⟩
 exact h.nodup.sublist (List.Sublist.map _ List.filter_sublist)
theorem cT.look {b:Nat} {E:List (Int × Value)} (h:cT w b n E) (hi:aP i) :
  (∃ v,(i,v)∈E/\(Instr.lookup 96 (.map (some b)) (.int .i64 i) true).run Tryz.prog w=.ok (.tuple #[v,.bool true]) w/\(Instr.lookup 96 (.map (some b)) (.int .i64 i) false).run Tryz.prog w=.ok v w) \/
  (i ∉ E.map Prod.fst/\(Instr.lookup 96 (.map (some b)) (.int .i64 i) true).run Tryz.prog w=.ok (.tuple #[.agg #[.slice none 0 0,.int .i64 0,.slice none 0 0,.bool false,.bool false,.bool false,.bool false,.bool false,.bool false,.bool false],.bool false]) w):=by
 obtain ⟨D,hown,hD⟩:=h;obtain ⟨v,ps,hrun,hv⟩:=hown.look_ok (int_keyed Tryz.underlying3) Tryz.underlying96 (X4 w) (zd:=.held _) rfl (keyOf_int_mk Tryz.underlying3 (JU hi));obtain ⟨v2,ps2,rU,hv2⟩:=hown.lookup (int_keyed Tryz.underlying3) Tryz.underlying96 (X4 w) (zd:=.held _) rfl (keyOf_int_mk Tryz.underlying3 (JU hi));injection hv with hv;injection hv with hv _
 injection hv2 with hv2;injection hv2 with hv2 _
 cases hh:Maps.has D (.int .i64 i) with
 | true=>
  obtain ⟨⟨j,u⟩,hx,rfl⟩:=List.mem_map.1 ((hD.has i).1 hh);rw [hD.val _ _ hx] at hv hv2;injection hv with hv
  injection hv2 with hv2
  subst hv;subst hv2;exact .inl ⟨_,hx,by rw [hh] at hrun;exact hrun,rU⟩
 | false=>
  rw [atKey_of_not_has hh] at hv;injection hv with hv
  subst hv;exact .inr ⟨λhm=>(by rw [(hD.has i).2 hm] at hh;cases hh),by rw [hh] at hrun;exact hrun⟩
def Vs (b n:Nat) (E:List (Int × bm)) (i:Int) (w:World) (e:Ending) (w':World):Prop:=
 w.grownBy w' (some b)/\((i∈E.map Prod.fst/\e=.returned (.int .i64 0)/\cT w' b n ((E.filter λx=>!(x.1 == i)).map dJ))\/(i ∉ E.map Prod.fst/\e=.returned (.int .i64 4)/\cT w' b n (E.map dJ)))
theorem q3_ (E:List (Int × bm)) (i:Int):(E.map dJ).filter (λx=>!(x.1 == i))=(E.filter λx=>!(x.1 == i)).map dJ:=by rw [List.filter_map];rfl
theorem Vi (p b n:Nat) (E:List (Int × bm)) (i:Int) (w:World) (hp:af w p #[.map (some b)] 98) (hm:cT w b n (E.map dJ)) (hi:aP i) :
  Calls Tryz.prog 26 #[.pointer (some ⟨p,0,none⟩),.int .i64 i] w (Vs b n E i w):=by
 have hpl:=hp.lt;have hbl:=hm.lt;have q0:=(hp.cells 0).1;have HM:=ad hm;have HI:=ad hi;have fV:=ad hp;rcases hm.look hi with ⟨v,hx,hrun,-⟩|⟨hx,hrun⟩
 .obtain ⟨⟨j,u⟩,hu,hju⟩:=List.mem_map.1 hx;injection hju with e1 e2
  subst e1;subst e2;obtain ⟨D,hown,hD⟩:=hm;have dL:=ad (show j∈E.map Prod.fst from List.mem_map.2 ⟨_,hu,rfl⟩);have HD:=ad hD;have aM:=ad hown;have q1:=fy q0 (.cells #[.slice u.a1 u.n1 u.c1,.int .i64 u.len,.slice u.a2 u.n2 u.c2,.bool (u.g 0),.bool (u.g 1),.bool (u.g 2),.bool (u.g 3),.bool (u.g 4),.bool (u.g 5),.bool (u.g 6)] 95);clear hx hu hown hD hp hi
  go_in
  go_wp2_with (at_delete;refine wpList_delete_own _ rfl _ _ 96 3 rfl 95 (int_keyed Tryz.underlying3) Tryz.underlying96 DS b n _ rfl (aM.o.alloc _) _ _ rfl (keyOf_int_mk Tryz.underlying3 (JU HI.o)) ?_;intro w5 aw rX;have kT:=ad aw;have DE:=ad rX;clear aw rX)
  go_ret;refine ⟨?_,.inl ⟨dL.o,rfl,⟨_,kT.o,by rw [<- q3_];exact HD.o.del _⟩⟩⟩;have:=DE.o.grown;exact ((World.grownBy_alloc w _ none).but _).trans this
 rw [wz] at hx;have dZ:=ad hx;clear hx hp hi hm
 go_in
 go_wp2
 go_ret;exact ⟨World.grownBy_alloc w _ _,.inr ⟨dZ.o,rfl,HM.o.kept (World.grownBy_alloc w _ none) ag⟩⟩
def XV (g:Nat) (lb:Array Value) (l:List ai) (p:ai->Bool) (w:World):Prop:=
 ∀ (W:World) (x:ai),Below w.heap.size w W->x∈l->Calls Tryz.prog g (#[bZ x] ++ lb) W λe w'=>e=.returned (.bool (p x))/\Below w.heap.size w w'
theorem sn_ (F:Nat->Prop) (v:Value) (l:List ai) (p:ai->Bool) (g:Nat) (lb:Array Value) (eg:∀ args w,(callFunc g args).run Tryz.prog w=.ok (.enter g args) w) (w:World) (hv:b_ w F v l) (hp:XV g lb l p w) :
  Calls Tryz.prog 116 #[v,.func (.func g) #[] lb] w λe w'=>∃ i:Int,e=.returned (.int .i64 i)/\decide (0<=i)=l.any p/\Below w.heap.size w w':=by
 have lS:=ad hp;obtain ⟨a1,c1,rfl⟩:=hv.form;have hlen:=hv.len;have HC:=ad hv;clear hp hv
 go_in
 go_wp2
 go_loopw [5,8] (λ_ i wr=>∃ k:Nat,k<=l.length/\i=.int .i64 k/\(l.take k).any p=false/\Below w.heap.size w wr) (λ_ i _=>l.length-(intOf i).toNat)
 .exact ⟨0,aa,rfl,rfl,Below.refl _ _⟩
 obtain ⟨k,hk,rfl,hpre,hb⟩:=hrel;have HB:=ad hb;have cM:=ad hpre;clear hpre;by_cases hlt:k<l.length
 .have dh:(k:Int)<l.length:=aa;obtain ⟨b8,f8,y,rfl,ee,hy,_,e0,e1,e2⟩:=(HC.o.ext hb).get hlt;have cZ:=lS.o wr y hb (hy ▸ dz hlt);have gY:Hid ((l.take (k+1)).any p=((l.take k).any p || p y)):=ad (hy ▸ Qa hlt);have jT:Hid (y∈l):=ad (hy ▸ dz hlt);clear hb hy;cases hq:p y with
  | true=>
   rw [hq] at cZ;have HQ:=ad hq;clear hq;go_wp2_with (go_at_fn g;refine cZ.mono ?_;rintro e w' ⟨rfl,hb'⟩);go_ret;refine ⟨_,rfl,?_,hb'⟩;rw [decide_eq_true aa];exact (List.any_eq_true.2 ⟨y,jT.o,HQ.o⟩).symm
  | false=>
   rw [hq] at cZ;have HQ:=ad hq;clear hq;go_wp2_with (go_at_fn g;refine cZ.mono ?_;rintro e w' ⟨rfl,hb'⟩);go_roundw
   .exact ⟨k+1,aa,by go_num,by rw [gY.o,cM.o,HQ.o];rfl,hb'⟩
   simp [intOf];omega
 obtain rfl:k=l.length:=aa;go_wp2;go_ret;refine ⟨_,rfl,?_,HB.o⟩;have:=cM.o;rw [List.take_length] at this;rw [this];rfl
theorem Uk (F:Nat->Prop) (v:Value) (l:List ai) (p:ai->Bool) (g:Nat) (lb:Array Value) (eg:∀ args w,(callFunc g args).run Tryz.prog w=.ok (.enter g args) w) (w:World) (hv:b_ w F v l) (hp:XV g lb l p w) :
  Calls Tryz.prog 72 #[v,.func (.func g) #[] lb] w λe w'=>e=.returned (.bool (l.any p))/\Below w.heap.size w w':=by
 have HV:=ad hv;have lS:=ad hp;clear hp hv
 go_in
 go_wp2_with (go_at_call 116;refine (sn_ F v l p g lb eg _ HV.o lS.o).mono ?_;rintro e w1 ⟨i,rfl,hi,hb1⟩;have HI:=ad hi;clear hi)
 go_ret;exact ⟨bT HI.o,hb1⟩
theorem rs_ (x y:ai) (xb:Nat) (w:World) (hx:af w xb #[.int .i64 x.day,.int .i64 x.frm,.int .i64 x.fin] 46) :
  Calls Tryz.prog 101 #[bZ y,.pointer (some ⟨xb,0,none⟩)] w λe w'=>e=.returned (.bool (decide (fI x.frm x.fin y.frm y.fin)))/\Below w.heap.size w w':=by
 have hl:=hx.lt;have x1:=(hx.cells 1).1;have x2:=(hx.cells 2).1;obtain ⟨xd,xf,xt⟩:=x;obtain ⟨yd,yf,yt⟩:=y;have HC:=λW=>UG xf xt yf yt W;have HC:=ad HC;clear hx;show Calls _ _ #[.agg #[.int .i64 yd,.int .i64 yf,.int .i64 yt],_] _ _
 go_in
 go_wp2_with (go_at_call 66;refine (HC.o _).mono ?_;rintro e w1 ⟨rfl,hb1⟩)
 go_ret;exact ⟨rfl,xE⟩
theorem uf_ (a b:Int) (y:ai) (xb:Nat) (w:World) (hx:af w xb #[.int .i64 a,.int .i64 b] 29) :
  Calls Tryz.prog 73 #[bZ y,.pointer (some ⟨xb,0,none⟩)] w λe w'=>e=.returned (.bool (decide (fI y.frm y.fin a b)))/\Below w.heap.size w w':=by
 have hl:=hx.lt;have x1:=(hx.cells 0).1;have x2:=(hx.cells 1).1;obtain ⟨yd,yf,yt⟩:=y;have HC:=λW=>UG yf yt a b W;have HC:=ad HC;clear hx;show Calls _ _ #[.agg #[.int .i64 yd,.int .i64 yf,.int .i64 yt],_] _ _
 go_in
 go_wp2_with (go_at_call 66;refine (HC.o _).mono ?_;rintro e w1 ⟨rfl,hb1⟩)
 go_ret;exact ⟨rfl,xE⟩
end
section
open Go.RowKit Go.Shelf Go.Maps Kal
attribute [local go_sem] Oper.semAt_some
def yQ (b:aE) (x:ai):Prop:=(∃ y,sR b x y)\/∃ y∈b.ext,fI x.frm x.fin y.frm y.fin
theorem rt_ {a b:aE}:oO a b↔∃ x∈a.ext,yQ b x:=Iff.rfl
theorem PQ {a b:aE}:oO a b↔∃ j,j<a.ext.length/\yQ b (a.ext.getD j default):=by
 rw [rt_];constructor
 .rintro ⟨x,hx,h⟩;obtain ⟨j,hj,rfl⟩:=wt (d:=default) hx;exact ⟨j,hj,h⟩
 rintro ⟨j,hj,h⟩;exact ⟨_,by rw [fG hj];exact List.getElem_mem hj,h⟩
def w4_ (A B:aE) (w:World) (e:Ending) (w':World):Prop:=∃ r:Bool,e=.returned (.bool r)/\(r=true↔oO A B)/\Below w.heap.size w w'
structure ow (w:World) (av bv:Array Value) (r:Bool) (W:World):Prop where
 below:Below w.heap.size w W
 b0:af W w.heap.size av 43
 b1:af W (w.heap.size+1) bv 43
 b2:af W (w.heap.size+1+1) #[.bool r] 4
theorem ow.grow {r:Bool} (h:ow w av bv r A) (hg:A.grownBy C row) (hr:∀ k,row=some k->w.heap.size<=k/\∃ o:Obj,A.heap[k]? = some o/\o.isCells=false):ow w av bv r C:=by
 have key:∀ {b:Nat} {c:Array Value} {t:TypeId},af A b c t->af C b c t:=λ{b c t} hb=>hb.grown hg λe=>by
  obtain ⟨_,o,h1,h2⟩:=hr b e.symm;rw [hb] at h1;cases h1;cases h2
 exact ⟨h.below.grown hg h.below.size λk e=>(hr k e).1,key h.b0,key h.b1,key h.b2⟩
theorem ow.ext {r:Bool} (h:ow w av bv r A) (hb:Below A.heap.size A C):ow w av bv r C:=
 ⟨Et h.below hb,h.b0.below hb,h.b1.below hb,h.b2.below hb⟩
theorem ow.setR {r s:Bool} (h:ow w av bv r A):ow w av bv s (A.setCell ⟨w.heap.size+1+1,0,none⟩ (.bool s)):=
 ⟨h.below.setCell (p:=⟨w.heap.size+1+1,0,none⟩) aO _,h.b0.setNe _ aa,h.b1.setNe _ aa,br 0 _ h.b2⟩
theorem U3 (F G:Nat->Prop) (pD pM pE pN:Value) (A B:aE) (w:World) (hA:bq w F pD pM A) (hB:bq w G pE pN B) (vA:bM A) (vB:bM B) :
  Calls Tryz.prog 55 #[.agg #[pD,.int .i64 A.len,pM],.agg #[pE,.int .i64 B.len,pN]] w (w4_ A B w):=by
 obtain ⟨LA,hA⟩:=hA;obtain ⟨LB,hB⟩:=hB;have hA:=hA.lt;have hB:=hB.lt;obtain ⟨a1,c1,rfl⟩:=hA.cl.form;obtain ⟨a2,c2,rfl⟩:=hA.ex.form;obtain ⟨a3,c3,rfl⟩:=hB.cl.form;obtain ⟨a4,c4,rfl⟩:=hB.ex.form;have hl:=hA.ex.len;have HA:=ad hA;have HB:=ad hB;have VA:=ad vA;have VB:=ad vB;clear hA hB vA vB;refine callsIn_wide (n:=0).1 ?_;refine callsIn_of_wp_marks Tryz.func55 rfl trivial ?_ rfl;simp only [Tryz.ntmps55,List.size_toArray,List.length_cons,List.length_nil,Nat.reduceAdd,Nat.reduceSub,Array.replicate_succ,Array.replicate_zero,List.push_toArray,List.append_toArray,List.nil_append,List.cons_append];gi_wp2_with fail;have sE:Hid (ow w #[.slice a1 LA.length c1,.int .i64 A.len,.slice a2 A.ext.length c2] #[.slice a3 LB.length c3,.int .i64 B.len,.slice a4 B.ext.length c4] false (((w.alloc (.cells #[.slice a1 LA.length c1,.int .i64 A.len,.slice a2 A.ext.length c2] 43)).alloc (.cells #[.slice a3 LB.length c3,.int .i64 B.len,.slice a4 B.ext.length c4] 43)).alloc (.cells #[.bool false] 4))):=
  ad ⟨by exact xE,((af.at rfl).alloc _).alloc _,(af.at ag).alloc _,af.at ag⟩
 refine wpIn_loop (λa W=>∃ (k:Nat) (u6 u11 u12 u13 u14 u15 u16 u17 u18 u19 u20 u21 u22:Value) (ds:List Deferred),a=⟨#[.agg #[.slice a1 LA.length c1,.int .i64 A.len,.slice a2 A.ext.length c2],.agg #[.slice a3 LB.length c3,.int .i64 B.len,.slice a4 B.ext.length c4],.pointer (some ⟨w.heap.size,0,none⟩),.pointer (some ⟨w.heap.size+1,0,none⟩),.pointer (some ⟨w.heap.size+1+1,0,none⟩),undef,u6,.pointer (some ⟨w.heap.size,2,none⟩),.slice a2 A.ext.length c2,.int .i64 A.ext.length,.int .i64 k,u11,u12,u13,u14,u15,u16,u17,u18,u19,u20,u21,u22],ds⟩/\k<=A.ext.length/\Hid (∀ j,j<k->¬ yQ B (A.ext.getD j default))/\
   Hid (ow w #[.slice a1 LA.length c1,.int .i64 A.len,.slice a2 A.ext.length c2] #[.slice a3 LB.length c3,.int .i64 B.len,.slice a4 B.ext.length c4] false W)/\Hid (cL w.heap.size ds W)) (λa _=>A.ext.length-(intOf (a.tmps.getD 10 undef)).toNat) ?start ?round
 case start=>exact ⟨0,undef,undef,undef,undef,undef,undef,undef,undef,undef,undef,undef,undef,undef,[],rfl,aa,ad (by intro j hj;omega),sE,ad (cL.nil _ _)⟩
 case round=>
  rintro _ W ⟨k,u6,u11,u12,u13,u14,u15,u16,u17,u18,u19,u20,u21,u22,ds,rfl,hk,HN,HS,HM⟩;have xx:=HS.o.below.size;have hwl:=HS.o.b2.lt;by_cases hlt:k<A.ext.length
  .have dh:(k:Int)<A.ext.length:=aa;obtain ⟨b8,f8,x,rfl,ee,hx,_,e0,e1,e2⟩:=(HA.o.below HS.o.below).ex.get hlt;have HX:=ad hx;have hgx:=VA.o.val.ins (x:=x) (by rw [<- hx,fG hlt];exact List.getElem_mem hlt);obtain ⟨_,⟨gx1,gx2⟩,gx3,gx4⟩:=hgx;have r0:=fy ((HS.o.b1.cells 0).1) (.cells #[.int .i64 x.day,.int .i64 x.frm,.int .i64 x.fin] 46);have r1:=fy ((HS.o.b1.cells 1).1) (.cells #[.int .i64 x.day,.int .i64 x.frm,.int .i64 x.fin] 46);have r2:=fy ((HS.o.b1.cells 2).1) (.cells #[.int .i64 x.day,.int .i64 x.frm,.int .i64 x.fin] 46);clear hx;gi_wp2_with (refine ⟨trivial,rfl,?_⟩;gi_at_call 100;refine (callsIn_wide.2 (tk_ a3 a4 LB.length c3 B.ext.length c4 B.len x _)).mono ?_;rintro e w' ⟨rfl,rfl⟩);generalize hW0:((W.alloc _).alloc _).alloc _=W0;have hE:Below W.heap.size W W0:=by rw [<- hW0];exact xE
   have hsz:W0.heap.size=W.heap.size+1+1+1:=by rw [<- hW0];simp
   have hxb:af W0 W.heap.size #[.int .i64 x.day,.int .i64 x.frm,.int .i64 x.fin] 46:=by rw [<- hW0];exact ((af.at rfl).alloc _).alloc _
   have AA:af W0 (W.heap.size+1) #[.slice a3 LB.length c3,.int .i64 B.len,.slice a4 B.ext.length c4] 43:=by rw [<- hW0];exact (af.at ag).alloc _
   have AL:af W0 (W.heap.size+1+1) #[.int .i64 x.day,.int .i64 x.frm,.int .i64 x.fin] 46:=by rw [<- hW0];exact af.at ag
   have kV:=ad (HS.o.ext hE);have sH:=ad hxb;have Da:=ad (KeepsOthers.of_below hE);clear hW0 hxb r0 r1 r2 e0 e1 e2;refine If (α:=ai) (x:=none) (gf:=131) (lb:=#[.pointer (some ⟨W.heap.size+1,0,none⟩),.pointer (some ⟨W.heap.size+1+1,0,none⟩)]) rfl (enters_of Tryz.func131 (by kernel_rfl) rfl)
    (tl_ (λb=>G b/\b<w.heap.size) (λk=>k<W0.heap.size) a3 a4 c3 B.ext.length c4 (W.heap.size+1) (W.heap.size+1+1) W0.heap.size LB W0 B x (HB.o.below kV.o.below) VB.o (λk h=>by have:=kV.o.below.size;have:=h.2;show k<_;omega) (λk h=>h) (Nat.le_refl _) AA AL AA.lt AL.lt aa aa aa aa)
    (λh k=>h.trans k) (λW1 l o o' hl ho hc=>cF.putObj (λk h=>h) W1 l o o' hl ho hc) (λW1 W2 hn hg=>cF.grown (λk h=>h) W1 W2 hn hg) (λy=>rfl)
    (λpre W'=>pre=[]/\ow w #[.slice a1 LA.length c1,.int .i64 A.len,.slice (some ⟨b8,f8,none⟩) A.ext.length c2] #[.slice a3 LB.length c3,.int .i64 B.len,.slice a4 B.ext.length c4] false W'/\KeepsOthers W0 W'/\af W' W.heap.size #[.int .i64 x.day,.int .i64 x.frm,.int .i64 x.fin] 46)
    (λc' _ W'=>c'=.ret/\(∃ y,sR B x y)/\ow w #[.slice a1 LA.length c1,.int .i64 A.len,.slice (some ⟨b8,f8,none⟩) A.ext.length c2] #[.slice a3 LB.length c3,.int .i64 B.len,.slice a4 B.ext.length c4] true W'/\KeepsOthers W0 W')
    (λpre A' C row hI hg hr=>by
     have hr':∀ r,row=some r->W0.heap.size<=r/\∃ o:Obj,A'.heap[r]? = some o/\o.isCells=false:=λr e=>by
      rcases hr r e with ⟨h,_⟩|h
      .cases h
      exact h
     exact ⟨hI.1,hI.2.1.grow hg λr e=>⟨by have:=(hr' r e).1;omega,(hr' r e).2⟩,KeepsOthers.grow hI.2.2.1 hg λr e=>(hr' r e).1,hI.2.2.2.grown hg λe=>by
      obtain ⟨h,_⟩:=hr' _ e.symm;omega⟩)
    (λc' pre A' C row hI hg hr=>by
     have hr':∀ r,row=some r->W0.heap.size<=r/\∃ o:Obj,A'.heap[r]? = some o/\o.isCells=false:=λr e=>by
      rcases hr r e with ⟨h,_⟩|h
      .cases h
      exact h
     exact ⟨hI.1,hI.2.1,hI.2.2.1.grow hg λr e=>⟨by have:=(hr' r e).1;omega,(hr' r e).2⟩,KeepsOthers.grow hI.2.2.2 hg λr e=>(hr' r e).1⟩)
    (λ_ _ _ _ _ _ _ _ h=>h) (λ_ _ _ _ _ h=>h) ⟨rfl,kV.o,KeepsOthers.refl _,sH.o⟩
    (λy a' _=>a'=⟨#[.agg #[.slice a1 LA.length c1,.int .i64 A.len,.slice (some ⟨b8,f8,none⟩) A.ext.length c2],.agg #[.slice a3 LB.length c3,.int .i64 B.len,.slice a4 B.ext.length c4],.pointer (some ⟨w.heap.size,0,none⟩),.pointer (some ⟨w.heap.size+1,0,none⟩),.pointer (some ⟨w.heap.size+1+1,0,none⟩),undef,.pointer (some ⟨W.heap.size,0,none⟩),.pointer (some ⟨w.heap.size,2,none⟩),.slice (some ⟨b8,f8,none⟩) A.ext.length c2,.int .i64 A.ext.length,.int .i64 k,.bool true,.pointer (some ⟨b8,f8+k*3,none⟩),bZ x,.agg #[.slice a3 LB.length c3,.int .i64 B.len,.slice a4 B.ext.length c4],bZ x,.func (.func 131) #[] #[.pointer (some ⟨W.heap.size+1,0,none⟩),.pointer (some ⟨W.heap.size+1+1,0,none⟩)],bZ y,u18,u19,u20,u21,u22],[]⟩)
    (λ_ _ _ _ _ _ _ _ _ h=>h) ?assign ?body ?done ?stop
   case assign=>
    intro l pre y W' K _ _ _ hK
    gi_wp2
    exact hK _ _ (World.grownBy.of_below (Below.refl _ _) none) ag
   case body=>
    rintro l pre y _ W' ⟨rfl,hA,bR,-⟩ ⟨hy,-⟩ rfl;have q1:=(hA.b2.cells 0).1;have q2:=(hA.b2.cells 0).2;have kr:=ad (hA.setR (s:=true));have dS:=ad bR;have HY:=ad hy;clear hA bR hy;gi_wp2_with fail;exact ⟨(KeepsOthers.setCell W' _ _).from _,rfl,⟨y,HY.o⟩,kr.o,dS.o.trans (KeepsOthers.setCell W' _ _)⟩
   case done=>
    rintro D xs W' hD aL ⟨rfl,hA,bR,hx1⟩ aJ;have vh:¬ ∃ y,sR B x y:=λ⟨y,hy⟩=>by have:=(aL y).2 hy;simp at this
    have jA:=hA.b1.lt;have q3:=(hA.b1.cells 2).1;have q4:=(hA.b2.cells 0).1;have q5:=(hA.b2.cells 0).2;have kr:=ad hA;have dS:=ad bR;have fC:=ad aJ;have K7:=ad vh;have kY:=ad hx1;have hM:cL w.heap.size ({ target:=.collected D,args:=#[] } :: ds) W':=cL.cons HM.o aa ((Da.o.trans bR).from _) aa aJ;have sy:=ad hM;have l_:=λW1 (hb:Below W'.heap.size W' W1)=>Uk (λb=>G b/\b<w.heap.size) (.slice a4 B.ext.length c4) B.ext (λy=>decide (fI x.frm x.fin y.frm y.fin)) 101 #[.pointer (some ⟨W.heap.size,0,none⟩)] (enters_of Tryz.func101 (by kernel_rfl) rfl) W1 ((HB.o.below kr.o.below).below hb).ex (λW2 y hb2 _=>(rs_ x y W.heap.size W2 ((hx1.below hb).below hb2)).mono λe w' h=>⟨h.1,Et hb2 h.2⟩);obtain ⟨q,hq⟩:∃ q,B.ext.any (λy=>decide (fI x.frm x.fin y.frm y.fin))=q:=⟨_,rfl⟩;rw [hq] at l_;have CH:=ad l_;have HQ:=ad hq;clear aL hA bR aJ vh hx1 hM l_ hq AA AL;cases q with
    | true=>
     gi_wp2_with (refine ⟨trivial,rfl,?_⟩;gi_at_call 72;refine (callsIn_wide.2 (CH.o _ xE)).mono ?_;rintro e w4 ⟨rfl,hb4⟩;have qc:=ad (kr.o.ext hb4);have q4:=(qc.o.b2.cells 0).1;have q5:=(qc.o.b2.cells 0).2;have cD:=ad hb4;clear hb4)
     have jH:=qc.o.setR (s:=true);refine jY (B:=w.heap.size) _ _ (sy.o.keep (((KeepsOthers.of_below cD.o).trans (KeepsOthers.setCell w4 ⟨w.heap.size+1+1,0,none⟩ (.bool true))).from _)) λw' hs=>?_;have hc:=af.c0 (hs.cells _ _ jH.b2 rfl);refine ⟨.bool true,by simp [results,Tryz.results55,go_sem,hc],true,rfl,⟨λ_=>PQ.2 ⟨k,hlt,?_⟩,λ_=>rfl⟩,jH.below.trans hs.below⟩;rw [HX.o];obtain ⟨y,hy,h⟩:=List.any_eq_true.1 HQ.o;exact .inr ⟨y,hy,of_decide_eq_true h⟩
    | false=>
     gi_wp2_with (refine ⟨trivial,rfl,?_⟩;gi_at_call 72;refine (callsIn_wide.2 (CH.o _ xE)).mono ?_;rintro e w4 ⟨rfl,hb4⟩;have qc:=ad (kr.o.ext hb4);have cD:=ad hb4;clear hb4)
     refine ⟨⟨k+1,_,_,_,_,_,_,_,_,_,_,_,_,_,_,by push_cast;rfl,aa,ad λj hj=>?_,qc,ad (sy.o.keep ((KeepsOthers.of_below cD.o).from _))⟩,by simp [intOf];omega⟩;by_cases e:j<k
     .exact HN.o j e
     obtain rfl:j=k:=aa;rw [HX.o];rintro (h|⟨y,hy,h⟩)
     .exact K7.o h
     have:=HQ.o;rw [List.any_eq_false] at this;exact this y hy (decide_eq_true h)
   case stop=>
    rintro D c' pre W' hD ⟨rfl,hy,hA,bR⟩ aJ;have kr:=ad hA;have HY:=ad hy;have sy:=ad (cL.cons (D:=D) HM.o aa ((Da.o.trans bR).from _) aa aJ);clear hA bR aJ hy;gi_wp2_with fail;refine jY (B:=w.heap.size) _ _ sy.o λw' hs=>?_;have hc:=af.c0 (hs.cells _ _ kr.o.b2 rfl);exact ⟨.bool true,by simp [results,Tryz.results55,go_sem,hc],true,rfl,⟨λ_=>PQ.2 ⟨k,hlt,by rw [HX.o];exact .inl HY.o⟩,λ_=>rfl⟩,kr.o.below.trans hs.below⟩
  obtain rfl:k=A.ext.length:=aa;have fM:¬ (A.ext.length:Int)<A.ext.length:=aa;have q4:=(HS.o.b2.cells 0).1;have q5:=(HS.o.b2.cells 0).2;gi_wp2_with fail;have jH:=HS.o.setR (s:=false);refine jY (B:=w.heap.size) _ _ (HM.o.keep ((KeepsOthers.setCell W ⟨w.heap.size+1+1,0,none⟩ (.bool false)).from _)) λw' hs=>?_;have hc:=af.c0 (hs.cells _ _ jH.b2 rfl);exact ⟨.bool false,by simp [results,Tryz.results55,go_sem,hc],false,rfl,⟨λh=>(by cases h),λh=>by obtain ⟨j,hj,h⟩:=PQ.1 h;exact absurd h (HN.o j hj)⟩,jH.below.trans hs.below⟩
end
section
open Go.RowKit Go.Maps Kal
theorem Rb {b:Int} (h:FV s p) (he:nA p b=0):FV (max (s+b) 0) (iK p b):=by
 refine ⟨(QM h.fac).2,?_⟩;unfold nA at he
 split at he
 .cases he
 split at he
 .assumption
 cases he
theorem tx_ (h c:Value) (p:Per) (b:Int) (w:World) (hp:bX w h c p) (hv:Valid p) (zM:b < -1099511627776\/1099511627776<b) :
  Calls Tryz.prog 133 #[an h c p.frm p.period,.int .i64 b] w (QS 1 w):=by
 have hl:∀ W,Below w.heap.size w W->bX W h c p:=λW hb=>hp.ext hb;have HV:=ad ((oL p).2 hv);clear hp hv;rcases zM with hlo|ly
 all_goals
  go_in
  go_wp2_with (go_at_call 92;refine (qO h c p _ (hl _ xE)).mono ?_;rintro e w1 ⟨he,hb1⟩;rw [HV.o] at he;subst he;obtain ⟨hc1,gh⟩:=fJ hb1;(try simp only [World.size_alloc,World.size_drew,fE,World.size_setCell] at hc1 gh);have hz1:=hb1.size;(try simp only [World.size_alloc,World.size_drew,fE,World.size_setCell] at hz1);have Gr:w.heap.size+1<w1.heap.size:=aa)
  refine bodyPost_ret (v:=.tuple #[an (.slice none 0 0) (.slice none 0 0) 0 0,.int .i64 1]) ?_ rfl ⟨rfl,xE⟩;simp [results,Tryz.results133,go_sem, *]
theorem wg_ (s b:Int) (h c:Value) (p:Per) (w:World) (hp:bX w h c p) (hv:FV s p) (hb:aP b) :
  Calls Tryz.prog 133 #[an h c p.frm p.period,.int .i64 b] w λe w'=>(nA p b=0/\mO (iK p b) w e w')\/(∃ k,(k=1\/k=2)/\nA p b=k/\QS k w e w'):=by
 by_cases hr:b < -1099511627776\/1099511627776<b
 .refine (tx_ h c p b w hp hv.valid hr).mono λe w' h=>.inr ⟨1,.inl rfl,if_pos hr,h⟩
 refine (wh_ h c p (iK p b) b w hp hv.valid aa aa ?_).mono λe w' h=>?_
 .exact (QM hv.fac).1.congr λn=>by unfold ti zo;exact Iff.rfl
 by_cases hf:(iK p b).frm<=1099511627776
 .exact .inl ⟨by unfold nA;rw [if_neg hr,if_pos hf],h.1 hf⟩
 exact .inr ⟨2,.inr rfl,by unfold nA;rw [if_neg hr,if_neg hf],h.2 aa⟩
def MX (s b:Int) (m:List (List Per)) (w:World) (e:Ending) (w':World):Prop:=
 ((
  ∀ t∈m,∀ p∈t,nA p b=0)/\EB (max (s+b) 0) (lN m b) w e w') \/
  ∃ k,(∃ t∈m,∃ p∈t,nA p b=k)/\k≠0/\e=.returned (.tuple #[.agg #[.slice none 0 0],.int .i64 k])/\Below w.heap.size w w'
noncomputable def AN (t:List Per) (b:Int) (i:Nat):List Per:=(t.take i).map (λp=>iK p b) ++ List.replicate (t.length-i) ⟨[],0,0,[]⟩
theorem vo_ {b:Int} {i:Nat} (h:i<t.length) (hp:t.getD i default=p):(AN t b i).set i (iK p b)=AN t b (i+1):=by
 have hl:((t.take i).map (λp=>iK p b)).length=i:=by simp;omega
 unfold AN;rw [List.set_append_right _ _ aa,hl,Nat.sub_self,show t.length-i=(t.length-(i+1))+1 by omega,List.replicate_succ,List.set_cons_zero,List.take_succ_eq_append_getElem h,List.map_append,List.append_assoc];have:t[i]=p:=by rw [<- hp,List.getD_eq_getElem?_getD,List.getElem?_eq_getElem h];rfl
 rw [this];rfl
theorem vn_ {b:Int}:AN t b t.length=t.map λp=>iK p b:=by unfold AN;simp
structure SS (s b:Int) (m:List (List Per)) (w:World) (j:Nat) (lv:Value) (Lk:List (Value × List Per)) (W:World):Prop where
 below:Below w.heap.size w W
 rbx:af W (w.heap.size+1) #[.slice none 0 0] 57
 row:aY w.heap.size (λk=>k=w.heap.size\/k=w.heap.size+1) W lv Lk
 own:∀ g,lv.ownBlock=some g->w.heap.size+2<=g
 eq:Lk.map Prod.snd=lN (m.take j) b
 ok:∀ t∈m.take j,∀ p∈t,nA p b=0
theorem Xq {b:Int}:(lN m b).length=m.length:=by unfold lN;simp
theorem MZ {b:Int} (k:MV s m) (h:∀ t∈m,∀ p∈t,nA p b=0):∀ t∈lN m b,kJ (max (s+b) 0) t:=λt ht=>by
 obtain ⟨u,hu,rfl⟩:=List.mem_map.1 ht;have hv:=k.vt u hu;refine ⟨λe=>hv.ne (List.map_eq_nil_iff.1 e),λp hp=>?_,by simpa using hv.len⟩;obtain ⟨q,hq,rfl⟩:=List.mem_map.1 hp;exact Rb (hv.fv q hq) (h u hu q hq)
theorem t8_ (s b:Int) (F:Nat->Prop) (v:Value) (m:List (List Per)) (w:World) (hm:aA w F v m) (k1:MV s m) (hb:aP b) :
  Calls Tryz.prog 103 #[.agg #[v],.int .i64 b] w (MX s b m w):=by
 have nI:=λW (h:Below w.heap.size w W)=>sI F v m W (hm.ext h);rw [k1.val] at nI;have l1:=k1.len;obtain ⟨a1,c1,rfl⟩:=hm.form;have sy:=ad hm;have KF:=ad k1;have Yu:=ad hb;obtain ⟨bi,oU,kc,ju,hby⟩:=zg;clear hm k1 hb
 go_in
 go_wp2_with ((go_at_call 49;((with_reducible refine (nI _ (Ea (Ea (Er w) _) _)).mono ?_);rintro e w1 ⟨rfl,hb1⟩;have b0:af w1 w.heap.size #[.slice a1 m.length c1] 57:=af.below xB hb1;have b1:af w1 (w.heap.size+1) #[.slice none 0 0] 57:=af.below xB hb1;have x0:=b0.c0;have hW1:Below w.heap.size w w1:=Et (Ea (Ea (Er w) _) _) hb1;have ks:=ad b0;have bo:=ad b1;clear b0 b1)))
 have TS:SS s b m w 0 (.slice none 0 0) [] w1:=⟨hW1,bo.o,aY.nil _ _ _,by simp [Value.ownBlock],rfl,ag⟩;have Zi:=ad TS;have qD:=ad hW1;clear TS hW1 hb1 nI;go_loopw [5,6,8,9,10,11,12,13,21] (λs5 lv _ _ _ _ _ _ idx wq=>∃ (j:Nat) (la:Option Addr) (lc:Nat) (Lk:List (Value × List Per)),j<=m.length/\s5=.int .i64 0/\idx=.int .i64 j/\lv=.slice la Lk.length lc/\Hid (SS s b m w j (.slice la Lk.length lc) Lk wq)) (λ_ _ _ _ _ _ _ _ idx _=>m.length-(intOf idx).toNat)
 .exact ⟨0,none,0,[],aa,rfl,rfl,rfl,Zi⟩
 obtain ⟨j,la,lc,Lk,hj,rfl,rfl,rfl,HS⟩:=hrel;obtain ⟨wo,pU⟩:∃ wo,wo=wr:=⟨_,rfl⟩;subst pU;by_cases dr:j<m.length
 .have rD:(j:Int)<m.length:=aa;obtain ⟨L2,hL2,dt⟩:=sy.o.ext HS.o.below;have hl2:L2.length=m.length:=by rw [<- hL2,List.length_map]
  obtain ⟨b8,f8,c8,ta,tn,tc,t,he,e0,Jp,sY⟩:=dt.at (show j<L2.length by omega);injection he with q1 q2 q3
  subst q1;subst q3;rw [hL2] at sY;obtain ⟨tL,Pw,gT⟩:=Jp;obtain ⟨_,_,he,_⟩:=gT.row.is;have htn:tn=t.length:=by injection he with _ h _;rw [h,<- Pw,List.length_map]
  have htn4:tn<=4:=by rw [htn];exact KF.o.tlen t (List.mem_of_getElem? sY)
  have gI:=ad htn;have il:=ad sY;have vZ:=ad gT;have LM:=ad Pw;clear q2 dt sY hL2 hl2 gT he htn Pw;go_wp2_with (at_make;refine wpList_make_full _ rfl _ _ 78 rfl wo.heap.size 80 bi (.agg #[.slice none 0 0,.int .i64 0,.int .i64 0,.slice none 0 0]) 4 Tryz.underlying78 oU kc ju .i64 .i64 _ _ tn rfl rfl rfl rfl (by rw [hby];omega) (by unfold maxLen;omega) ag ?_;intro w3 cQ cO;have hb3:Below wo.heap.size wo w3:=((Below.refl _ _).grown cO ag (λk e=>by cases e)));rw [Xi] at cQ;have lG:cu wo.heap.size wo.heap.size tn w3 (List.replicate tn (default:PV)):=⟨by rw [List.length_replicate];exact cQ,λx hx=>by rw [List.eq_of_mem_replicate hx];exact U2 _ _,ag,aa⟩;have sC:=ad lG;have cm:=ad hb3;clear cQ cO lG hb3;go_loopw [5,10,11,12,13,30] (λs5 _ _ _ _ idx wq=>∃ (i:Nat) (M:List PV),i<=tn/\s5=.int .i64 0/\idx=.int .i64 i/\Hid (M.length=tn)/\Hid (M.map PV.p=AN t b i)/\Hid (cu wo.heap.size wo.heap.size tn wq M)/\Hid (Below wo.heap.size wo wq)/\Hid (∀ p∈t.take i,nA p b=0)) (λ_ _ _ _ _ idx _=>tn-(intOf idx).toNat)
  .exact ⟨0,_,aa,rfl,rfl,ad ag,ad (by unfold AN;rw [gI.o];simp [show (default:PV).p=⟨[],0,0,[]⟩ from rfl]),sC,cm,ad ag⟩
  obtain ⟨i,M,hi,rfl,rfl,jC,oC,HR,sr,yu⟩:=hrel;by_cases hil:i<tn
  .have z_:(i:Int)<tn:=aa;have Gf:=vZ.o.keep (aN.below sr.o) sr.o.size;have Px:tL.length=tn:=by have:=congrArg List.length LM.o;rw [List.length_map] at this;rw [this];exact gI.o.symm
   obtain ⟨bt,ot,x,ha,hx,cS,_,z0,z1,z2,z3⟩:=Gf.get (show i<tL.length by omega);subst ha;have gO:=(KF.o.vt t (List.mem_of_getElem? il.o)).fv x.p (by rw [cS,LM.o];exact dz (by rw [<- gI.o];exact hil));have Cb:t.getD i default=x.p:=by rw [cS,LM.o]
   obtain ⟨xh,xc,xp⟩:=x;obtain ⟨d_,eh,ed,eH,eR,dP,rfl,rfl⟩:=hx.form;dsimp only at z0 z1 z2 z3 gO Cb;have Sk:=λW (h:Below wr.heap.size wr W)=>wg_ s b _ _ xp W (hx.is.ext h) gO Yu.o;simp only [an] at Sk;have nB:=ad gO;have Bo:=ad Cb;have hle:=HR.o.le;clear Gf Px hx cS gO Cb;go_wp2_with (go_at_call 133;((with_reducible refine (Sk _ (Ea (Er wr) _)).mono ?_);rintro e w7 h7;rcases h7 with ⟨IX,h',c',rfl,ho,dW⟩|⟨k,hk,Tv,rfl,dW⟩;(obtain ⟨ya,yn,yc,za,zn,zc,rfl,rfl⟩:=(ho.pv (Rb nB.o IX)).form;have jQ:=ho.pv (Rb nB.o IX);have zy:Below wr.heap.size wr w7:=Et (Ea (Er wr) _) dW;obtain ⟨-,g0,g1,g2,g3,g4⟩:=((HR.o.below zy).below (Ea (Er w7) (.cells #[.slice ya yn yc,.int .i64 (iK xp b).frm,.int .i64 (iK xp b).period,.slice za zn zc] 80))).get (show i<M.length by have:=jC.o;omega);have Be:=ad jQ;have CO:=ad zy;have YD:=ad IX;clear ho jQ zy IX dW);rotate_left;(have zy:Below wo.heap.size wo w7:=Et (Ea sr.o _) dW;have hbx:=(HS.o.rbx.below zy).alloc (.cells #[.slice none 0 0,.int .i64 0,.int .i64 0,.slice none 0 0] 80);have x5:=hbx.cells 0;have cw:=ad hbx;have CO:=ad zy;clear hbx zy dW;rcases hk with rfl|rfl)))
   .have hcc:=af.c0 (br 0 (.slice none 0 0) cw.o);refine bodyPost_ret (v:=.tuple #[.agg #[.slice none 0 0],.int .i64 1]) (by simp [results,Tryz.results103,go_sem,hcc]) rfl (.inr ⟨1,?_,aF,rfl,?_⟩)
    .exact ⟨t,List.mem_of_getElem? il.o,xp,Bo.o ▸ dz (by rw [<- gI.o];exact hil),Tv⟩
    exact ((HS.o.below.trans ((Ea CO.o (.cells #[.slice none 0 0,.int .i64 0,.int .i64 0,.slice none 0 0] 80)).mono HS.o.below.size)).setCell (p:=⟨w.heap.size+1,0,none⟩) (show w.heap.size<=w.heap.size+1 by omega) _)
   .have hcc:=af.c0 (br 0 (.slice none 0 0) cw.o);refine bodyPost_ret (v:=.tuple #[.agg #[.slice none 0 0],.int .i64 2]) (by simp [results,Tryz.results103,go_sem,hcc]) rfl (.inr ⟨2,?_,aF,rfl,?_⟩)
    .exact ⟨t,List.mem_of_getElem? il.o,xp,Bo.o ▸ dz (by rw [<- gI.o];exact hil),Tv⟩
    exact ((HS.o.below.trans ((Ea CO.o (.cells #[.slice none 0 0,.int .i64 0,.int .i64 0,.slice none 0 0] 80)).mono HS.o.below.size)).setCell (p:=⟨w.heap.size+1,0,none⟩) (show w.heap.size<=w.heap.size+1 by omega) _)
   go_roundw
   .have nW:Below w7.heap.size w7 (w7.alloc (.cells #[.slice ya yn yc,.int .i64 (iK xp b).frm,.int .i64 (iK xp b).period,.slice za zn zc] 80)):=Ea (Er _) _;have kf:i<t.length:=by rw [<- gI.o];exact hil
    have hwl:=HR.o.le;have Pi:=((HR.o.below CO.o).below nW).set (x:=⟨.slice ya yn yc,.slice za zn zc,iK xp b⟩) (show i<M.length by have:=jC.o;omega) ((Be.o.keep (aN.below nW)).mono λk hk=>by have h1:=hk.1;rw [World.size_alloc] at h1;exact ⟨aa,aa⟩);refine ⟨i+1,_,aa,rfl,by go_num,ad (by rw [List.length_set];exact jC.o),ad ?_,ad Pi,ad ((Ea (Et sr.o CO.o) _).trans (UY _ (Nat.le_refl _) _ _ _ _)),ad λp hp=>?_⟩
    .rw [List.map_set,oC.o];exact vo_ kf Bo.o
    rw [List.take_succ_eq_append_getElem kf] at hp;rcases List.mem_append.1 hp with hp|hp
    .exact yu.o p hp
    rw [List.mem_singleton] at hp;have h1:=Bo.o;rw [List.getD_eq_getElem?_getD,List.getElem?_eq_getElem kf] at h1;rw [hp,show t[i]=xp from h1];exact YD.o
   simp [intOf];omega
  obtain rfl:i=tn:=aa;have kc:=HS.o.rbx.lt;have hown:=HS.o.row.row.lt;have Jp:bG wr (λk=>wo.heap.size<=k) (.slice (some ⟨wo.heap.size,0,none⟩) i i) (t.map λp=>iK p b):=⟨M,by rw [oC.o,gI.o];exact vn_,by have h:=HR.o.term;rwa [jC.o] at h⟩;have yD:=ad (λW (h:Below wr.heap.size wr W)=>(Jp.ext h).fresh (B:=w.heap.size) (v:=.slice la Lk.length lc) aa (λg hg=>(hown g hg).2));have hlk:Lk.length=j:=by have h:=congrArg List.length HS.o.eq;rw [List.length_map,Xq,List.length_take] at h;omega
  have hwl:=HR.o.le;clear Jp hown;go_wp2_with (at_builtin;(refine Hz az _ _ az w.heap.size (λk=>k=w.heap.size\/k=w.heap.size+1) (.slice la Lk.length lc) Lk (.slice (some ⟨wo.heap.size,0,none⟩) i i,t.map λp=>iK p b) az (HS.o.row.below (Ea sr.o _)) (yD.o _ (Ea (Er _) _)) _ _ az ag aO aa aO ?_;intro ga gc w8 nr iX ee lp;have yz:=ad nr;have tz:=ad iX;have gG:=ad ee;have qg:=ad lp;clear nr iX ee lp));go_roundw
  .have BY:j+1<=m.length:=aa;obtain ⟨h1,h2⟩:=List.getElem?_eq_some_iff.1 il.o;have hle:(Lk ++ [((Value.slice (some ⟨wo.heap.size,0,none⟩) i i),t.map λp=>iK p b)]).length=Lk.length+1:=by simp
   refine ⟨j+1,ga,gc,Lk ++ [((Value.slice (some ⟨wo.heap.size,0,none⟩) i i),t.map λp=>iK p b)],aa,rfl,by go_num,by rw [hle,hlk],ad ⟨?_,?_,by rw [hle];exact yz.o,λg hg=>?_,?_,λu hu p hp=>?_⟩⟩
   .exact (HS.o.below.trans ((Ea sr.o _).mono HS.o.below.size)).trans gG.o
   .exact ((HS.o.rbx.below sr.o).alloc _).grown tz.o (λe=>HS.o.row.ne _ e.symm (.inr rfl))
   .rw [hle] at hg;rcases qg.o with e|e
    .exact HS.o.own g (e ▸ hg)
    rw [e] at hg;cases hg;simp;omega
   .unfold lN;rw [List.map_append,HS.o.eq,List.take_succ_eq_append_getElem h1,List.map_append,h2];rfl
   rw [List.take_succ_eq_append_getElem h1] at hu;rcases List.mem_append.1 hu with hu|hu
   .exact HS.o.ok u hu p hp
   rw [List.mem_singleton,h2] at hu;subst hu;exact yu.o p (by rw [List.take_of_length_le (by rw [<- gI.o];exact Nat.le_refl _)];exact hp)
  simp [intOf];omega
 obtain rfl:j=m.length:=aa;have hmx:aA wo (λ_=>True) (.slice la Lk.length lc) (lN m b):=⟨Lk,by rw [HS.o.eq,List.take_of_length_le (Nat.le_refl _)],HS.o.row.mix.mono λ_ _=>trivial⟩;have Jg:∀ t∈m,∀ p∈t,nA p b=0:=by have h:=HS.o.ok;rwa [List.take_of_length_le (Nat.le_refl _)] at h
 have gX:=ad (Vd (max (s+b) 0) _ _ (lN m b) _ (Vp (λ_=>True) (.slice la Lk.length lc) (lN m b) wo.heap.size (wo.alloc (.cells #[.slice la Lk.length lc] 55)) (hmx.ext (Ea (Er wo) _)) (af.new wo #[.slice la Lk.length lc] 55).c0) (MZ KF.o Jg) (by rw [Xq];omega));have yu:=ad Jg;have kc:=HS.o.rbx.lt;clear hmx Jg;go_wp2_with (first|(go_at_call 110;refine (Vo _ _ ⟨_,_,_,rfl⟩).mono ?_;rintro e w4 ⟨rfl,rfl⟩)|(go_at_call 106;(refine gX.o.mono ?_;rintro e w5 ⟨v,mk,hN,eQ,hb5,hres⟩;have BP:Below wo.heap.size wo w5:=Et (Ea (Er wo) _) hb5;have g2:=HS.o.rbx.below BP;have s1:=(g2.cells 0).1;have s2:=(g2.cells 0).2;have HN:=ad hN;have yL:=ad eQ;have G2:=ad g2;have LU:=ad BP;clear hN eQ g2 BP hb5;rcases hres with ⟨hval,rfl,kN⟩|⟨hval,rfl⟩;(obtain ⟨xa,xc,rfl⟩:=kN.form))))
 .have hcc:=af.c0 (w:=w5.setCell ⟨w.heap.size+1,0,none⟩ (.slice xa mk.length xc)) (br 0 (.slice xa mk.length xc) G2.o);refine bodyPost_ret (v:=.tuple #[.agg #[.slice xa mk.length xc],.int .i64 0]) (by simp [results,Tryz.results103,go_sem,hcc]) rfl (.inl ⟨yu.o,_,mk,HN.o,yL.o,(HS.o.below.trans (LU.o.mono HS.o.below.size)).setCell (p:=⟨w.heap.size+1,0,none⟩) (by show w.heap.size<=w.heap.size+1;omega) _,.inl ⟨hval,rfl,?_⟩⟩);exact (kN.set (b:=w.heap.size+1) aO).mono λk (hk:_<=k)=>by simp at hk;omega
 have hcc:=af.c0 (w:=w5.setCell ⟨w.heap.size+1,0,none⟩ (.slice none 0 0)) (br 0 (.slice none 0 0) G2.o);exact bodyPost_ret (v:=.tuple #[.agg #[.slice none 0 0],.int .i64 2]) (by simp [results,Tryz.results103,go_sem,hcc]) rfl (.inl ⟨yu.o,.slice none 0 0,mk,HN.o,yL.o,(HS.o.below.trans (LU.o.mono HS.o.below.size)).setCell (p:=⟨w.heap.size+1,0,none⟩) (by show w.heap.size<=w.heap.size+1;omega) _,.inr ⟨hval,rfl⟩⟩)
end
section
open Go.RowKit Go.Shelf Go.Maps Kal
attribute [local go_sem] Oper.semAt_some
theorem MP {b:Int} (k1:MV 0 m) (hb1:-1099511627776<=b) (hb2:b<=1000):(∀ t∈m,∀ p∈t,nA p b=0)/\zk (lM m b):=by
 have hf:∀ t∈m,pJ 0 t:=λt ht=>(k1.vt t ht).f;refine ⟨λt ht p hp=>vm_ ((k1.vt t ht).fv p hp).fac hb1 aa aa,?_⟩;have h1:=(Qr (lN m b)).ok (MQ hf).1;have h2:=(yW k1.vt).1 k1.val;have hl:(lN m b).length=m.length:=by unfold lN;simp
 refine ⟨by have:=h1.2.2.1;have:=h2.1;show (Cd (lN m b)).length<=64;omega,λt ht=>h1.2.2.2 4 aa (λu hu=>?_) t ht⟩;obtain ⟨x,hx,rfl⟩:=List.mem_map.1 hu;rw [List.length_map];exact h2.2 x hx
theorem VL (F:Nat->Prop) (v:Value) (m:List (List Per)) (b:Int) (w:World) (h1:aA w F v m) (k1:MV 0 m) (hb1:-1099511627776<=b) (hb2:b<=1000) :
  Calls Tryz.prog 103 #[.agg #[v],.int .i64 b] w λe w'=>∃ a c,e=.returned (.tuple #[.agg #[.slice a (lM m b).length c],.int .i64 0])/\aA w' (λk=>w.heap.size<=k) (.slice a (lM m b).length c) (lM m b)/\MV (max b 0) (lM m b)/\Below w.heap.size w w':=
 (t8_ 0 b F v m w h1 k1 ⟨aa,aa⟩).mono λe w' h=>by
  obtain ⟨ok1,ok2⟩:=MP k1 hb1 hb2;rcases h with ⟨_,h⟩|⟨k,⟨t,ht,p,hp,hk⟩,hk0,_⟩
  .obtain ⟨a,c,k,mk,rfl,g1,g2,⟨rfl,g3,g4⟩|⟨_,_,_,_,x,g3,g4⟩⟩:=h.num
   .obtain rfl:=yY g3;rw [show (0:Int)+b=b by omega] at g4;exact ⟨a,c,rfl,g1,g4,g2⟩
   obtain rfl:=yY g3;exact absurd ok2 g4
  exact absurd (ok1 t ht p hp) (by rw [hk];exact hk0)
theorem MV.sh {b:Int} (h:MV (max b 0) m) (hb:b<=0):MV 0 m:=by rwa [show max b 0=0 by omega] at h
theorem cE.cellB {F:Nat->Prop} {L:List (Value × List Per)} (h:cE W F v L):cE W (zY W) v L:=by
 refine ⟨?_,h.len,λx hx=>?_⟩
 .obtain ⟨a,c,rfl,h1,h2,h3⟩:=h.row;refine ⟨a,c,rfl,h1,h2,?_⟩;by_cases hL:L.length=0
  .exact .inl hL
  rcases h3 with h3|⟨b,o,rfl,hb,hl,hc⟩
  .exact .inl h3
  refine .inr ⟨b,o,rfl,Jc (hc 0 (L.getD 0 default).1 ?_),hl,hc⟩;rw [List.getElem?_map,List.getD_eq_getElem?_getD,List.getElem?_eq_getElem aa];rfl
 obtain ⟨T,e,g⟩:=h.all x hx;exact ⟨T,e,g.cellB⟩
theorem aA.put {F:Nat->Prop} {l:Nat} {o o':Obj} (h:aA W F v m) (hl:W.heap[l]? = some o) (ho:o.isCells=false):aA (W.putObj l o') (λ_=>True) v m:=by
 obtain ⟨L,e,g⟩:=h;refine aA.mono ⟨L,e,g.cellB.keep2 λb hb _=>World.putObj_heap_other ?_⟩ λ_ _=>trivial;obtain ⟨x,hx,hc⟩:=hb;rintro rfl;rw [hl] at hx;cases hx;rw [ho] at hc;cases hc
theorem aA.grown {F:Nat->Prop} (h:aA W F v m) (hg:W.grownBy W' none):aA W' F v m:=h.keep2 λb _ hl=>hg.block b hl ag
structure fe where
 p:Pr
 vc:Value
 vd:Value
 vx:Value
 vy:Value
abbrev fe.val (y:fe):Value:=.agg #[y.vc,.int .i64 y.p.c.min,y.vd,.int .i64 y.p.d.min,.int .i64 y.p.k,y.vx,y.vy,.int .i64 (max 0 (-y.p.k))]
def pt (T:List Pr) (pre:List fe) (y:fe) (W:World):Prop:=(∃ r,T=pre.map fe.p ++ y.p :: r)/\aA W (λ_=>True) y.vx (i7 y.p)/\aA W (λ_=>True) y.vy (i_ y.p)/\(∃ a n c,y.vc=.slice a n c)/\(∃ a n c,y.vd=.slice a n c)/\MV 0 (i7 y.p)/\MV 0 (i_ y.p)
theorem pt.put {T:List Pr} (pre:List fe) (y:fe) (W:World) (l:Nat) (o o':Obj) (hl:W.heap[l]? = some o) (ho:o.isCells=false) (h:pt T pre y W):pt T pre y (W.putObj l o'):=⟨h.1,h.2.1.put hl ho,h.2.2.1.put hl ho,h.2.2.2⟩
theorem pt.grown {T:List Pr} (pre:List fe) (y:fe) (W W':World) (hg:W.grownBy W' none) (h:pt T pre y W):pt T pre y W':=⟨h.1,h.2.1.grown hg,h.2.2.1.grown hg,h.2.2.2⟩
def PA (a b:aE) (k:Nat):List Pr:=(a.cls.take k).flatMap λc=>b.cls.flatMap λd=>lJ a.len b.len c d
def PB (a b:aE) (k j:Nat):List Pr:=PA a b k ++ (b.cls.take j).flatMap λd=>lJ a.len b.len (a.cls.getD k default) d
def PC (a b:aE) (k j:Nat) (t:Int):List Pr:=PB a b k j ++ (pf (tg (a.cls.getD k default) (b.cls.getD j default) b.len) (t-1)).map λx=>⟨a.cls.getD k default,b.cls.getD j default,x⟩
theorem P7 {α β:Type} {l:List α} {d:α} {f:α->List β} (hk:k<l.length):(l.take (k+1)).flatMap f=(l.take k).flatMap f ++ f (l.getD k d):=by
 rw [List.take_succ_eq_append_getElem hk,List.flatMap_append,fG hk];simp
theorem U_ {α β:Type} {l:List α} {d:α} {f:α->List β} (hk:k<l.length):∃ r,l.flatMap f=(l.take k).flatMap f ++ f (l.getD k d) ++ r:=by
 refine ⟨(l.drop (k+1)).flatMap f,?_⟩;rw [<- P7 hk,<- List.flatMap_append,List.take_append_drop]
theorem v2_ {lo hi t:Int} (h1:lo<=t) (h2:t<=hi):∃ r,pf lo hi=pf lo (t-1) ++ t :: r:=by
 have key:∀ n:Nat,∀ hi,t<=hi->(hi-t).toNat=n->∃ r,pf lo hi=pf lo (t-1) ++ t :: r:=by
  intro n;induction n with
  | zero=>
   intro hi h2 e;obtain rfl:hi=t:=aa;exact ⟨[],Qm h1⟩
  | succ n ih=>
   intro hi h2 e;obtain ⟨r,hr⟩:=ih (hi-1) aa aa;exact ⟨r ++ [hi],by rw [Qm aa,hr];simp⟩
 exact key _ hi h2 rfl
theorem we_ {a b:aE}:PC a b k j (tg (a.cls.getD k default) (b.cls.getD j default) b.len)=PB a b k j:=by
 unfold PC;rw [QH aa];simp
theorem yy_ {a b:aE} {t:Int} (h:tg (a.cls.getD k default) (b.cls.getD j default) b.len<=t):PC a b k j (t+1)=PC a b k j t ++ [⟨a.cls.getD k default,b.cls.getD j default,t⟩]:=by
 unfold PC;rw [show t+1-1=t by omega,Qm h,List.map_append,List.append_assoc];rfl
theorem yx_ {a b:aE} {t:Int} (hj:j<b.cls.length) (h:t-1=xD (a.cls.getD k default) (b.cls.getD j default) a.len\/(xD (a.cls.getD k default) (b.cls.getD j default) a.len<t/\t=tg (a.cls.getD k default) (b.cls.getD j default) b.len)):PC a b k j t=PB a b k (j+1):=by
 unfold PC PB;rw [P7 (d:=default) hj,<- List.append_assoc]
 congr 1
 unfold lJ;rcases h with h|⟨h1,h2⟩
 .rw [h]
 rw [QH aa,QH aa]
theorem wc_ {a b:aE}:PB a b k 0=PA a b k:=by unfold PB;simp
theorem yw_ {a b:aE} (hk:k<a.cls.length):PB a b k b.cls.length=PA a b (k+1):=by
 unfold PB PA;rw [P7 (d:=default) hk,List.take_length]
theorem yv_ {a b:aE}:PA a b a.cls.length=nN a b:=by unfold PA nN;rw [List.take_length]
theorem wd_ {a b:aE} {t:Int} (hk:k<a.cls.length) (hj:j<b.cls.length) (h1:tg (a.cls.getD k default) (b.cls.getD j default) b.len<=t) (h2:t<=xD (a.cls.getD k default) (b.cls.getD j default) a.len) :
  ∃ r,nN a b=PC a b k j t ++ ⟨a.cls.getD k default,b.cls.getD j default,t⟩ :: r:=by
 obtain ⟨r1,e1⟩:=U_ (d:=default) (f:=λc=>b.cls.flatMap λd=>lJ a.len b.len c d) hk;obtain ⟨r2,e2⟩:=U_ (d:=default) (f:=λd=>lJ a.len b.len (a.cls.getD k default) d) hj;obtain ⟨r3,e3⟩:=v2_ h1 h2;unfold nN PC PB PA;rw [e1,e2];unfold lJ at *;rw [e3,List.map_append,List.map_cons];simp only [List.append_assoc,List.cons_append];exact ⟨_,rfl⟩
theorem Vf (a1 a2 a3 a4:Option Addr) (n1 c1 n2 c2 n3 c3 n4 c4:Nat) (la lb:Int) (w:World) :
  Calls Tryz.prog 56 #[.agg #[.slice a1 n1 c1,.int .i64 la,.slice a2 n2 c2],.agg #[.slice a3 n3 c3,.int .i64 lb,.slice a4 n4 c4]] w λe w'=>
   e=.returned (.func (.func 102) #[] #[.pointer (some ⟨w.heap.size,0,none⟩),.pointer (some ⟨w.heap.size+1,0,none⟩)])/\
   w'=(w.alloc (.cells #[.slice a1 n1 c1,.int .i64 la,.slice a2 n2 c2] 43)).alloc (.cells #[.slice a3 n3 c3,.int .i64 lb,.slice a4 n4 c4] 43):=by
 go_in
 go_wp2;go_ret;exact ⟨rfl,rfl⟩
end
section
open Go.RowKit Go.Shelf Go.Maps Kal
attribute [local go_sem] Oper.semAt_some
theorem U5 (F G pb:Nat->Prop) (a1 a2 a3 a4:Option Addr) (c1 n2 c2 c3 n4 c4 ab bb n:Nat) (L M:List bl) (w:World) (A B:aE)
  (hA:eG w F (.slice a1 L.length c1) (.slice a2 n2 c2) L A) (hB:eG w G (.slice a3 M.length c3) (.slice a4 n4 c4) M B) (vA:bM A) (vB:bM B) (hF:∀ k,F k->pb k) (hG:∀ k,G k->pb k) (bJ:∀ k,pb k->k<n) (hn:n<=w.heap.size)
  (hab:af w ab #[.slice a1 L.length c1,.int .i64 A.len,.slice a2 n2 c2] 43) (dD:af w bb #[.slice a3 M.length c3,.int .i64 B.len,.slice a4 n4 c4] 43) (g1:pb ab) (g2:pb bb) :
  ud Tryz.prog 102 #[.pointer (some ⟨ab,0,none⟩),.pointer (some ⟨bb,0,none⟩)] (λy:fe=>#[y.val]) (cF pb n) none (pt (nN A B)) (λxs=>xs.map fe.p=nN A B) w:=by
 intro l' J Jx W hW hJ zA hY qY;obtain ⟨U7,la2⟩:=vA.val.len;obtain ⟨Qy,lb2⟩:=vB.val.len;have SQ:=hA.below hW;have SR:=hB.below hW;have Oc:af W ab _ _:=hab.below hW;have wP:af W bb _ _:=dD.below hW;have Jb:n<=W.heap.size:=Nat.le_trans hn hW.size;have B5:A.cls.length=L.length:=by rw [<- hA.eq];exact List.length_map _
 have B6:B.cls.length=M.length:=by rw [<- hB.eq];exact List.length_map _
 have hllA:=hA.cl.len;have hllB:=hB.cl.len;have HJ:=ad hJ;have HY:=ad hY;have Hg:=ad SQ;have Bh:=ad SR;have oH:=ad vA;have yK:=ad vB;have HF:=ad hF;have HG:=ad hG;have fV:=ad bJ;have Cu:=ad Oc;have fw:=ad wP;have sw:=ad B5;have tH:=ad B6;have s0:=(Oc.cells 0).1;clear hJ hY zA hA hB SQ SR vA vB hF hG bJ hab dD Oc wP B5 B6 hW hn;refine callsIn_of_wp Tryz.func102 rfl trivial ?_ rfl;simp only [Tryz.ntmps102,List.size_toArray,List.length_cons,List.length_nil,Nat.reduceAdd,Nat.reduceSub,Array.replicate_succ,Array.replicate_zero,List.push_toArray,List.append_toArray,List.nil_append,List.cons_append];gi_wp2_with fail;clear s0;gi_loopw [15] (λvi wr=>∃ (k:Nat) (pre:List fe),k<=L.length/\vi=.int .i64 k/\Hid (pre.map fe.p=PA A B k)/\J pre wr/\Hid (cF pb n W wr)) (λvi _=>L.length-(intOf vi).toNat)
 .exact ⟨0,[],aa,rfl,ad (by simp [PA]),qY,ad cF.refl⟩
 obtain ⟨k,pre,hk,rfl,HP,dC,dS⟩:=hrel;have jd:=ad dC;by_cases hlt:k<L.length
 .have dh:(k:Int)<L.length:=aa;have bR:=dS.o;obtain ⟨b,o,xa,xc,m,mi,rfl,dD,e0,e1,hm,oe,hcl⟩:=(Hg.o.cl.keep2 (W':=wr) (λb hb _=>bR.pb b (HF.o b hb))).get hlt;rw [Hg.o.eq] at hcl;have hcm:(⟨m,mi⟩:eA)∈A.cls:=by rw [<- hcl,fG (by rw [sw.o];exact hlt)];exact List.getElem_mem _
  obtain ⟨lz,nj⟩:-4320<=mi/\mi<=4320:=oH.o.min hcm;have je:=ad (oH.o.mv _ hcm);have dw:=ad hcl;have HM:=ad hm;have Am:n<=wr.heap.size:=Nat.le_trans Jb bR.size;have r0:=fy ((bR.boxP g2 fw.o).cells 0).1 (.cells #[.slice xa m.length xc,.int .i64 mi] 59);have hbx:af (wr.alloc (.cells #[.slice xa m.length xc,.int .i64 mi] 59)) wr.heap.size #[.slice xa m.length xc,.int .i64 mi] 59:=af.at rfl;have cw:=ad hbx;have hJ1:=HJ.o pre wr (wr.alloc (.cells #[.slice xa m.length xc,.int .i64 mi] 59)) none jd.o (World.grownBy_alloc _ _ _) (λr e=>by cases e);have R1:Hid (cF pb n wr (wr.alloc (.cells #[.slice xa m.length xc,.int .i64 mi] 59))):=ad (cF.below (Ea (Er wr) _) (λk hk=>by have:=fV.o k hk;omega));clear hm hcm hcl oe bR dC hbx dD;gi_wp2_with fail;clear e0 e1 r0;obtain ⟨wo,rfl⟩:∃ wo:World,wo=wr:=⟨_,rfl⟩;gi_loopw [22] (λvi wr=>∃ (j:Nat) (pre:List fe),j<=M.length/\vi=.int .i64 j/\Hid (pre.map fe.p=PB A B k j)/\J pre wr/\Hid (cF pb n wo wr)/\Hid (af wr wo.heap.size #[.slice xa m.length xc,.int .i64 mi] 59)) (λvi _=>M.length-(intOf vi).toNat)
  .exact ⟨0,pre,aa,rfl,ad (by rw [wc_];exact HP.o),hJ1,R1,cw⟩
  obtain ⟨j,pre,hj,rfl,kA,dC,qn,HB⟩:=hrel;have mC:=ad dC;by_cases hlt2:j<M.length
  .have Ae:(j:Int)<M.length:=aa;have bR:=cF.trans dS.o qn.o;obtain ⟨b',o',ya,yc,m2,mj,rfl,dD,e0,e1,hm,oe,hcl⟩:=(Bh.o.cl.keep2 (W':=wr) (λb hb _=>bR.pb b (HG.o b hb))).get hlt2;rw [Bh.o.eq] at hcl;have hcm:(⟨m2,mj⟩:eA)∈B.cls:=by rw [<- hcl,fG (by rw [tH.o];exact hlt2)];exact List.getElem_mem _
   obtain ⟨hmj1,hmj2⟩:-4320<=mj/\mj<=4320:=yK.o.min hcm;have yr:=ad (yK.o.mv _ hcm);have CJ:=ad hcl;have K2:=ad (λ(W':World) (h:cX pb wr W')=>hm.kp HG.o h);have vU:=ad (λ(W':World) (h:cX pb wr W')=>(HM.o.kp HF.o qn.o.pb).kp HF.o h);have Al:n<=wr.heap.size:=Nat.le_trans Jb bR.size;have r0:=fy ((bR.boxP g1 Cu.o).cells 1).1 (.cells #[.slice ya m2.length yc,.int .i64 mj] 59);have r1:=fy ((bR.boxP g2 fw.o).cells 1).1 (.cells #[.slice ya m2.length yc,.int .i64 mj] 59);have r2:=fy (HB.o.cells 1).1 (.cells #[.slice ya m2.length yc,.int .i64 mj] 59);have OZ:-20<=(mi-mj-B.len) / 1440+1:=aa;have ON:(mi-mj+A.len-1) / 1440<=20:=aa;obtain ⟨lo,hlo⟩:∃ lo,lo=(mi-mj-B.len) / 1440+1:=⟨_,rfl⟩;obtain ⟨hi,ly⟩:∃ hi,hi=(mi-mj+A.len-1) / 1440:=⟨_,rfl⟩;rw [<- hlo] at OZ;rw [<- ly] at ON;have su:=ad (show tg (A.cls.getD k default) (B.cls.getD j default) B.len=lo by rw [hlo,dw.o,hcl];rfl);have R3:=ad (show xD (A.cls.getD k default) (B.cls.getD j default) A.len=hi by rw [ly,dw.o,hcl];rfl);have Dd:=ad hlo;have Ky:=ad ly;have jB:=ad (λW=>D_ (mi-mj-B.len) W ⟨aa,aa⟩);have GW:=ad (λW=>D_ (mi-mj+A.len-1) W ⟨aa,aa⟩);have eY:Hid (af (wr.alloc (.cells #[.slice ya m2.length yc,.int .i64 mj] 59)) wr.heap.size #[.slice ya m2.length yc,.int .i64 mj] 59):=ad (af.at rfl);have YT:=ad (HJ.o pre wr (wr.alloc (.cells #[.slice ya m2.length yc,.int .i64 mj] 59)) none mC.o (World.grownBy_alloc _ _ _) (λr e=>by cases e));have KG:Hid (cF pb n wr (wr.alloc (.cells #[.slice ya m2.length yc,.int .i64 mj] 59))):=ad (cF.below (Ea (Er wr) _) (λk hk=>by have:=fV.o k hk;omega));have iL:Hid (af (wr.alloc (.cells #[.slice ya m2.length yc,.int .i64 mj] 59)) wo.heap.size #[.slice xa m.length xc,.int .i64 mi] 59):=ad (HB.o.alloc _);clear hm hcm hcl oe bR dC dD hlo ly;gi_wp2_with (refine ⟨trivial,rfl,?_⟩;gi_at_call 62;first|((with_reducible refine (callsIn_wide.2 (jB.o _)).mono ?_);rintro e w' ⟨rfl,rfl⟩)|((with_reducible refine (callsIn_wide.2 (GW.o _)).mono ?_);rintro e w' ⟨rfl,rfl⟩));rw [<- Dd.o,<- Ky.o];clear r0 r1 r2;obtain ⟨wp,rfl⟩:∃ wp:World,wp=wr:=⟨_,rfl⟩;gi_loopw [10] (λvt wr=>∃ (t:Int) (pre:List fe),vt=.int .i64 t/\lo<=t/\Hid (t-1<=hi\/t=lo)/\Hid (pre.map fe.p=PC A B k j t)/\J pre wr/\Hid (cF pb n wp wr)/\Hid (af wr wo.heap.size #[.slice xa m.length xc,.int .i64 mi] 59)/\Hid (af wr wp.heap.size #[.slice ya m2.length yc,.int .i64 mj] 59)) (λvt _=>(hi+1-intOf vt).toNat)
   .exact ⟨lo,pre,rfl,Int.le_refl _,ad (.inr rfl),ad (by rw [<- su.o,we_];exact kA.o),YT.o,KG,iL,eY⟩
   obtain ⟨t,pre,rfl,oi,HT,oE,dC,mD,bo,bj⟩:=hrel;have C9:=ad dC;by_cases hth:t<=hi
   .have bR:=cF.trans dS.o (cF.trans qn.o mD.o);have hsp:=wd_ (a:=A) (b:=B) (k:=k) (j:=j) (t:=t) (by rw [sw.o];exact hlt) (by rw [tH.o];exact hlt2) (by rw [su.o];exact oi) (by rw [R3.o];exact hth);rw [dw.o,CJ.o] at hsp;have Bi:=ad hsp;have hst:=yy_ (a:=A) (b:=B) (k:=k) (j:=j) (t:=t) (by rw [su.o];exact oi);rw [dw.o,CJ.o] at hst;have yI:=ad hst;have ve:=K2.o wr mD.o.pb;have hmx:=vU.o wr mD.o.pb;have p0:=(bo.o.cells 0).1;have p1:=(bo.o.cells 1).1;have p2:=(bj.o.cells 0).1;have p3:=(bj.o.cells 1).1;have hw0:=bo.o.lt;have hw1:=bj.o.lt;have qz:=ad (λk' (h:pb k')=>show k'<wr.heap.size from by have:=fV.o k' h;have:=bR.size;omega);have ql:=ad (λw1 (hb:Below wr.heap.size wr w1)=>HJ.o pre wr w1 none C9.o (World.grownBy.of_below hb none) (λr e=>by cases e));have tK:=ad (λW' (h:Below wr.heap.size wr W')=>(hmx.ext h).mono (λ_ _=>trivial:∀ b,_->(λ_:Nat=>True) b));have qt:=ad (λW' (h:Below wr.heap.size wr W')=>(ve.ext h).mono (λ_ _=>trivial:∀ b,_->(λ_:Nat=>True) b));have Bj:=ad (λ(_:t<0) W' (h:Below wr.heap.size wr W')=>VL F _ m t W' (hmx.ext h) je.o aa aa);have Hi:=ad (λ(_:0<t) W' (h:Below wr.heap.size wr W')=>VL G _ m2 (-t) W' (ve.ext h) yr.o aa aa);clear hsp hst hmx ve bR dC;have Ku:=ad (λ(vx vy:Value) (W':World) (_:∃ a n c,vx=.slice a n c) (h1:aA W' (λ_=>True) vx (i7 ⟨⟨m,mi⟩,⟨m2,mj⟩,t⟩)) (h2:aA W' (λ_=>True) vy (i_ ⟨⟨m,mi⟩,⟨m2,mj⟩,t⟩)) (g1:MV 0 (i7 ⟨⟨m,mi⟩,⟨m2,mj⟩,t⟩)) (g2:MV 0 (i_ ⟨⟨m,mi⟩,⟨m2,mj⟩,t⟩))=>
     (show pt (nN A B) pre ⟨⟨⟨m,mi⟩,⟨m2,mj⟩,t⟩,.slice xa m.length xc,.slice ya m2.length yc,vx,vy⟩ W' from ⟨by obtain ⟨r,hr⟩:=Bi.o;exact ⟨r,by rw [oE.o];exact hr⟩,h1,h2,⟨_,_,_,rfl⟩,⟨_,_,_,rfl⟩,g1,g2⟩))
    rcases Int.lt_trichotomy t 0 with hs|hs|hs
    .have LH:=ad (Bj.o hs);have kY:=ad (λW' v (h:aA W' (λ_=>True) v (lM m t))=>(show aA W' (λ_=>True) v (i7 ⟨⟨m,mi⟩,⟨m2,mj⟩,t⟩) by unfold i7;rw [if_pos hs];exact h));have iQ:=ad (λW' v (h:aA W' (λ_=>True) v m2)=>(show aA W' (λ_=>True) v (i_ ⟨⟨m,mi⟩,⟨m2,mj⟩,t⟩) by unfold i_;rw [if_neg (show ¬ 0<t by omega)];exact h));have CW:=ad (λ(h:MV 0 (lM m t))=>(show MV 0 (i7 ⟨⟨m,mi⟩,⟨m2,mj⟩,t⟩) by unfold i7;rw [if_pos hs];exact h));have lR:=ad (show MV 0 (i_ ⟨⟨m,mi⟩,⟨m2,mj⟩,t⟩) by unfold i_;rw [if_neg (show ¬ 0<t by omega)];exact yr.o);clear Bj Hi;gi_wp2_with (refine ⟨trivial,rfl,?_⟩;gi_at_call 103;refine (callsIn_wide.2 (LH.o _ (Ea (Er wr) _))).mono ?_;rintro e w1 ⟨kR,p_,rfl,ic,hv2,hb1⟩;have hbx:=af.below (af.at (w:=wr) rfl:af (wr.alloc (.cells #[.slice xa m.length xc,.int .i64 mi,.slice ya m2.length yc,.int .i64 mj,.int .i64 t,.slice xa m.length xc,.slice ya m2.length yc,.int .i64 (max 0 (-t))] 118)) wr.heap.size #[.slice xa m.length xc,.int .i64 mi,.slice ya m2.length yc,.int .i64 mj,.int .i64 t,.slice xa m.length xc,.slice ya m2.length yc,.int .i64 (max 0 (-t))] 118) hb1;have q0:=(hbx.cells 0).1;have q1:=(hbx.cells 1).1;have q2:=(hbx.cells 2).1;have q3:=(hbx.cells 3).1;have q4:=(hbx.cells 4).1;have q5:=(hbx.cells 5).1;have q6:=(hbx.cells 6).1;have q7:=(hbx.cells 7).1;have f6:=(hbx.cells 5).2;have bH:=ad (Et (Ea (Er wr) _) hb1);have KV:=ad ic;have HZ:=ad hb1.size;have fT:Below wr.heap.size wr (w1.setCell ⟨wr.heap.size,5,none⟩ (.slice kR (lM m t).length p_)):=bH.o.setCell (Nat.le_refl _) _;have hJ2:=ql.o _ fT;obtain ⟨fn,tmps,assign,body,iF,hR⟩:=HY.o pre _ _ hJ2 (Ku.o (.slice kR (lM m t).length p_) (.slice ya m2.length yc) (w1.setCell ⟨wr.heap.size,5,none⟩ (.slice kR (lM m t).length p_)) ⟨_,_,_,rfl⟩ (kY.o _ _ ((aA.set KV.o ag).mono λ_ _=>trivial)) (iQ.o _ _ (qt.o _ fT)) (CW.o (hv2.sh aa)) lR.o);dsimp only [fe.val] at iF;have HR:=ad hR;have qd:=ad (bo.o.below fT);have qe:=ad (bj.o.below fT);have tF:=ad (mD.o.trans (cF.below fT qz.o));clear ic hv2 hb1 hbx hR hJ2 fT);refine ⟨rfl,HR.o.mono ?_⟩;rintro e W' (⟨rfl,gz,eC⟩|⟨rfl,fh⟩)
     .have tD:=ad gz;have nC:=ad eC;clear gz eC
      gi_wp2
      go_roundw
      .exact ⟨t+1,pre ++ [_],rfl,aa,ad (.inl aa),ad (by rw [yI.o,List.map_append,oE.o];rfl),tD.o,ad (tF.o.trans nC.o),ad (nC.o.box Am qd.o),ad (nC.o.box Al qe.o)⟩
      simp [intOf];omega
     gi_wp2
     refine bodyPost_ret (results_none rfl _ _ _) rfl ?_;exact ⟨⟨_,rfl⟩,.inr ⟨_,fh⟩⟩
    .subst hs;have fT:Below wr.heap.size wr (wr.alloc (.cells #[.slice xa m.length xc,.int .i64 mi,.slice ya m2.length yc,.int .i64 mj,.int .i64 0,.slice xa m.length xc,.slice ya m2.length yc,.int .i64 0] 118)):=Ea (Er wr) _;have hJ2:=ql.o _ fT;obtain ⟨fn,tmps,assign,body,iF,hR⟩:=HY.o pre _ _ hJ2 (Ku.o (.slice xa m.length xc) (.slice ya m2.length yc) _ ⟨_,_,_,rfl⟩ (by unfold i7;rw [if_neg (show ¬ (0:Int)<0 by decide)];exact tK.o _ fT) (by unfold i_;rw [if_neg (show ¬ (0:Int)<0 by decide)];exact qt.o _ fT) (by unfold i7;rw [if_neg (show ¬ (0:Int)<0 by decide)];exact je.o) (by unfold i_;rw [if_neg (show ¬ (0:Int)<0 by decide)];exact yr.o));dsimp only [fe.val] at iF;rw [show max (0:Int) (-0)=0 from by decide] at iF;have HR:=ad hR;have qd:=ad (bo.o.below fT);have qe:=ad (bj.o.below fT);have tF:=ad (mD.o.trans (cF.below fT qz.o));clear Bj Hi hR hJ2 fT;gi_wp2_with fail;refine ⟨rfl,HR.o.mono ?_⟩;rintro e W' (⟨rfl,gz,eC⟩|⟨rfl,fh⟩)
     .have tD:=ad gz;have nC:=ad eC;clear gz eC
      gi_wp2
      go_roundw
      .exact ⟨0+1,pre ++ [_],rfl,aa,ad (.inl aa),ad (by rw [yI.o,List.map_append,oE.o];rfl),tD.o,ad (tF.o.trans nC.o),ad (nC.o.box Am qd.o),ad (nC.o.box Al qe.o)⟩
      simp [intOf];omega
     gi_wp2
     refine bodyPost_ret (results_none rfl _ _ _) rfl ?_;exact ⟨⟨_,rfl⟩,.inr ⟨_,fh⟩⟩
    have LJ:=ad (Hi.o hs);have kY:=ad (λW' v (h:aA W' (λ_=>True) v m)=>(show aA W' (λ_=>True) v (i7 ⟨⟨m,mi⟩,⟨m2,mj⟩,t⟩) by unfold i7;rw [if_neg (show ¬ t<0 by omega)];exact h));have iQ:=ad (λW' v (h:aA W' (λ_=>True) v (lM m2 (-t)))=>(show aA W' (λ_=>True) v (i_ ⟨⟨m,mi⟩,⟨m2,mj⟩,t⟩) by unfold i_;rw [if_pos hs];exact h));have CW:=ad (show MV 0 (i7 ⟨⟨m,mi⟩,⟨m2,mj⟩,t⟩) by unfold i7;rw [if_neg (show ¬ t<0 by omega)];exact je.o);have lR:=ad (λ(h:MV 0 (lM m2 (-t)))=>(show MV 0 (i_ ⟨⟨m,mi⟩,⟨m2,mj⟩,t⟩) by unfold i_;rw [if_pos hs];exact h));clear Bj Hi;gi_wp2_with (refine ⟨trivial,rfl,?_⟩;gi_at_call 103;refine (callsIn_wide.2 (LJ.o _ (Ea (Er wr) _))).mono ?_;rintro e w1 ⟨kR,p_,rfl,ic,hv2,hb1⟩;have hbx:=af.below (af.at (w:=wr) rfl:af (wr.alloc (.cells #[.slice xa m.length xc,.int .i64 mi,.slice ya m2.length yc,.int .i64 mj,.int .i64 t,.slice xa m.length xc,.slice ya m2.length yc,.int .i64 (max 0 (-t))] 118)) wr.heap.size #[.slice xa m.length xc,.int .i64 mi,.slice ya m2.length yc,.int .i64 mj,.int .i64 t,.slice xa m.length xc,.slice ya m2.length yc,.int .i64 (max 0 (-t))] 118) hb1;have q0:=(hbx.cells 0).1;have q1:=(hbx.cells 1).1;have q2:=(hbx.cells 2).1;have q3:=(hbx.cells 3).1;have q4:=(hbx.cells 4).1;have q5:=(hbx.cells 5).1;have q6:=(hbx.cells 6).1;have q7:=(hbx.cells 7).1;have f6:=(hbx.cells 6).2;have bH:=ad (Et (Ea (Er wr) _) hb1);have KV:=ad ic;have HZ:=ad hb1.size;have fT:Below wr.heap.size wr (w1.setCell ⟨wr.heap.size,6,none⟩ (.slice kR (lM m2 (-t)).length p_)):=bH.o.setCell (Nat.le_refl _) _;have hJ2:=ql.o _ fT;obtain ⟨fn,tmps,assign,body,iF,hR⟩:=HY.o pre _ _ hJ2 (Ku.o (.slice xa m.length xc) (.slice kR (lM m2 (-t)).length p_) (w1.setCell ⟨wr.heap.size,6,none⟩ (.slice kR (lM m2 (-t)).length p_)) ⟨_,_,_,rfl⟩ (kY.o _ _ (tK.o _ fT)) (iQ.o _ _ ((aA.set KV.o ag).mono λ_ _=>trivial)) CW.o (lR.o (hv2.sh aa)));dsimp only [fe.val] at iF;have HR:=ad hR;have qd:=ad (bo.o.below fT);have qe:=ad (bj.o.below fT);have tF:=ad (mD.o.trans (cF.below fT qz.o));clear ic hv2 hb1 hbx hR hJ2 fT);refine ⟨rfl,HR.o.mono ?_⟩;rintro e W' (⟨rfl,gz,eC⟩|⟨rfl,fh⟩)
    .have tD:=ad gz;have nC:=ad eC;clear gz eC
     gi_wp2
     go_roundw
     .exact ⟨t+1,pre ++ [_],rfl,aa,ad (.inl aa),ad (by rw [yI.o,List.map_append,oE.o];rfl),tD.o,ad (tF.o.trans nC.o),ad (nC.o.box Am qd.o),ad (nC.o.box Al qe.o)⟩
     simp [intOf];omega
    gi_wp2
    refine bodyPost_ret (results_none rfl _ _ _) rfl ?_;exact ⟨⟨_,rfl⟩,.inr ⟨_,fh⟩⟩
   have hq:t-1=hi\/(hi<t/\t=lo):=by
    rcases HT.o with h|h
    .exact .inl aa
    exact .inr ⟨aa,h⟩
   have Oy:=yx_ (a:=A) (b:=B) (k:=k) (j:=j) (t:=t) (by rw [tH.o];exact hlt2) (by rw [su.o,R3.o];exact hq);clear hq;have YC:=ad Oy;clear Oy dC;gi_wp2_with fail;go_roundw
   .exact ⟨j+1,pre,aa,by go_num,ad (by rw [<- YC.o];exact oE.o),C9.o,ad (qn.o.trans mD.o),bo⟩
   simp [intOf];omega
  obtain rfl:j=M.length:=aa;have fM:¬ (M.length:Int)<M.length:=aa;clear dC;gi_wp2_with fail;go_roundw
  .exact ⟨k+1,pre,aa,by go_num,ad (by rw [<- yw_ (by rw [sw.o];exact hlt),tH.o];exact kA.o),mC.o,ad (dS.o.trans qn.o)⟩
  simp [intOf];omega
 obtain rfl:k=L.length:=aa;have fM:¬ (L.length:Int)<L.length:=aa;gi_wp2_with fail;refine bodyPost_end (results_none rfl _ _ _) rfl ?_;exact ⟨⟨_,rfl⟩,.inl ⟨pre,by rw [HP.o,<- sw.o,yv_],jd.o⟩⟩
end
section
open Go.RowKit Go.Shelf Go.Maps Kal
attribute [local go_sem] Oper.semAt_some
def w7_ (A B:aE) (w:World) (e:Ending) (w':World):Prop:=∃ r k,e=.returned (.tuple #[.bool r,.int .i64 k])/\nM A B r k/\Below w.heap.size w w'
structure jX (w:World) (av bv:Array Value) (r:Bool) (k:Int) (W:World):Prop where
 below:Below w.heap.size w W
 b0:af W w.heap.size av 43
 b1:af W (w.heap.size+1) bv 43
 b2:af W (w.heap.size+1+1) #[.bool r] 4
 b3:af W (w.heap.size+1+1+1) #[.int .i64 k] 36
theorem jX.grow {r:Bool} (h:jX w av bv r e A) (hg:A.grownBy C row) (hr:∀ k,row=some k->w.heap.size<=k/\∃ o:Obj,A.heap[k]? = some o/\o.isCells=false):jX w av bv r e C:=by
 have key:∀ {b:Nat} {c:Array Value} {t:TypeId},af A b c t->af C b c t:=λ{b c t} hb=>hb.grown hg λe=>by
  obtain ⟨_,o,h1,h2⟩:=hr b e.symm;rw [hb] at h1;cases h1;cases h2
 exact ⟨h.below.grown hg h.below.size λk e=>(hr k e).1,key h.b0,key h.b1,key h.b2,key h.b3⟩
theorem jX.ext {r:Bool} (h:jX w av bv r e A) (hb:Below A.heap.size A C):jX w av bv r e C:=
 ⟨Et h.below hb,h.b0.below hb,h.b1.below hb,h.b2.below hb,h.b3.below hb⟩
theorem jX.setR {r s:Bool} {k l:Int} (h:jX w av bv r k A):jX w av bv s l ((A.setCell ⟨w.heap.size+1+1,0,none⟩ (.bool s)).setCell ⟨w.heap.size+1+1+1,0,none⟩ (.int .i64 l)):=
 ⟨(h.below.setCell (p:=⟨w.heap.size+1+1,0,none⟩) aO _).setCell (p:=⟨w.heap.size+1+1+1,0,none⟩) aO _,(h.b0.setNe _ (by show _≠_;omega)).setNe _ (by show _≠_;omega),(h.b1.setNe _ (by show _≠_;omega)).setNe _ (by show _≠_;omega),af.setNe (t:=4) (c:=#[.bool s]) (br 0 (.bool s) h.b2) _ ag,br 0 _ (h.b3.setNe _ ag)⟩
theorem jX.setNe {r:Bool} {k:Int} {q:Nat} (h:jX w av bv r k A) (v:Value) (hq:w.heap.size+4<=q):jX w av bv r k (A.setCell ⟨q,0,none⟩ v):=
 ⟨h.below.setCell (p:=⟨q,0,none⟩) (by show w.heap.size<=q;omega) _,h.b0.setNe v aa,h.b1.setNe v aa,h.b2.setNe v aa,h.b3.setNe v aa⟩
def Zy (lb:Nat) (pre:List fe) (W:World):Prop:=∃ lt:Bool,af W lb #[.bool lt] 4/\(lt=true↔∃ y∈pre,∃ n,yZ y.p n)
theorem q4_ {n:List (List Per)} (h:MV 0 m) (g:MV 0 n):∀ t∈dO m n,pJ 0 t:=λt ht=>by
 obtain ⟨x,hx,y,hy,rfl⟩:=Ii.1 ht;have h1:=(h.vt x hx).f;have h2:=(g.vt y hy).f;exact ⟨λe=>h1.1 (List.append_eq_nil_iff.1 e).1,λp hp=>(List.mem_append.1 hp).elim (h1.2 p) (h2.2 p)⟩
theorem cF.setCell {pb:Nat->Prop} {q:Nat} (v:Value) (h1:¬ pb q) (h2:q<n):cF pb n W (W.setCell ⟨q,0,none⟩ v):=
 ⟨λk hk=>Below.heap_setCell W ⟨q,0,none⟩ v k (λe=>h1 ((show k=q from e) ▸ hk)),λk o hk ho _=>(Below.heap_setCell W ⟨q,0,none⟩ v k (by show k≠q;omega)).trans ho,by simp [World.size_setCell]⟩
theorem QK {w7:World} {lb:Nat} {lt v:Bool} (h1:w.heap.size+4<=lb) (h2:lb<W1.heap.size) (hb:Below W2.heap.size W2 w7) (bR:KeepsOthers W1 W2) (hM:jX w av bv false 0 W2) (hl:af W2 lb #[.bool lt] 4) :
  KeepsFrom W1.heap.size W2 (w7.setCell ⟨lb,0,none⟩ (.bool v))/\cF (λk=>k<W1.heap.size/\k≠lb) W1.heap.size W2 (w7.setCell ⟨lb,0,none⟩ (.bool v))/\jX w av bv false 0 (w7.setCell ⟨lb,0,none⟩ (.bool v))/\KeepsOthers W1 (w7.setCell ⟨lb,0,none⟩ (.bool v))/\af (w7.setCell ⟨lb,0,none⟩ (.bool v)) lb #[.bool v] 4:=by
 have hk:=(KeepsOthers.of_below hb).trans (KeepsOthers.setCell w7 ⟨lb,0,none⟩ (.bool v));exact ⟨hk.from _,(cF.below hb (λk h=>Nat.lt_of_lt_of_le h.1 bR.size)).trans (cF.setCell _ (λh=>h.2 rfl) h2),(hM.ext hb).setNe _ h1,bR.trans hk,br 0 _ (hl.below hb)⟩
theorem QV {pre:List fe} {y:fe} (h:∀ y∈pre,¬ jo y.p) (g:¬ jo y.p):∀ z∈pre ++ [y],¬ jo z.p:=λz hz=>by
 rcases List.mem_append.1 hz with hz|hz
 .exact h z hz
 obtain rfl:=List.mem_singleton.1 hz;exact g
def GJ (n b:Nat) (y:fe) (W:World):Prop:=n<=b/\af W b #[y.vc,.int .i64 y.p.c.min,y.vd,.int .i64 y.p.d.min,.int .i64 y.p.k,y.vx,y.vy,.int .i64 (max 0 (-y.p.k))] 118
theorem GJ.put {b:Nat} {y:fe} {l:Nat} {o o':Obj} (h:GJ n b y W) (hl:W.heap[l]? = some o) (ho:o.isCells=false):GJ n b y (W.putObj l o'):=
 ⟨h.1,(World.putObj_heap_other (λe=>by subst e;rw [h.2] at hl;cases hl;cases ho)).trans h.2⟩
theorem ug_ (F G:Nat->Prop) (pD pM pE pN:Value) (A B:aE) (w:World) (hA:bq w F pD pM A) (hB:bq w G pE pN B) (vA:bM A) (vB:bM B) :
  Calls Tryz.prog 28 #[.agg #[pD,.int .i64 A.len,pM],.agg #[pE,.int .i64 B.len,pN]] w (w7_ A B w):=by
 have hA:=hA.lt;have hB:=hB.lt;have oH:=λW (hb:Below w.heap.size w W)=>Bs _ pD pM A W (hA.ext hb);have yK:=λW (hb:Below w.heap.size w W)=>Bs _ pE pN B W (hB.ext hb);rw [yV.2 vA.val] at oH;rw [yV.2 vB.val] at yK;have Cu:=λW (hb:Below w.heap.size w W)=>U3 _ _ pD pM pE pN A B W (hA.ext hb) (hB.ext hb) vA vB;have iL:=λW (hb:Below w.heap.size w W)=>U3 _ _ pE pN pD pM B A W (hB.ext hb) (hA.ext hb) vB vA;obtain ⟨LA,hA⟩:=hA;obtain ⟨LB,hB⟩:=hB;obtain ⟨a1,c1,rfl⟩:=hA.cl.form;obtain ⟨a2,c2,rfl⟩:=hA.ex.form;obtain ⟨a3,c3,rfl⟩:=hB.cl.form;obtain ⟨a4,c4,rfl⟩:=hB.ex.form;have HA:=ad hA;have HB:=ad hB;have VA:=ad vA;have VB:=ad vB;have oH:=ad oH;have yK:=ad yK;have Cu:=ad Cu;have iL:=ad iL;clear hA hB vA vB;refine callsIn_wide (n:=0).1 ?_;refine callsIn_of_wp_marks Tryz.func28 rfl trivial ?_ rfl;simp only [Tryz.ntmps28,List.size_toArray,List.length_cons,List.length_nil,Nat.reduceAdd,Nat.reduceSub,Array.replicate_succ,Array.replicate_zero,List.push_toArray,List.append_toArray,List.nil_append,List.cons_append];have sE:Hid (jX w #[.slice a1 LA.length c1,.int .i64 A.len,.slice a2 A.ext.length c2] #[.slice a3 LB.length c3,.int .i64 B.len,.slice a4 B.ext.length c4] false 0 ((((w.alloc (.cells #[.slice a1 LA.length c1,.int .i64 A.len,.slice a2 A.ext.length c2] 43)).alloc (.cells #[.slice a3 LB.length c3,.int .i64 B.len,.slice a4 B.ext.length c4] 43)).alloc (.cells #[.bool false] 4)).alloc (.cells #[.int .i64 0] 36))):=
  ad ⟨by exact xE,(((af.at rfl).alloc _).alloc _).alloc _,((af.at ag).alloc _).alloc _,(af.at ag).alloc _,af.at ag⟩
 gi_wp2_with (first
  | (refine ⟨trivial,rfl,?_⟩;gi_at_call 23;(with_reducible refine (callsIn_wide.2 (oH.o _ sE.o.below)).mono ?_);rintro e w1 ⟨rfl,hb1⟩;have kV:=ad (sE.o.ext hb1);have x0:=(kV.o.b0.cells 0).1;have x1:=(kV.o.b0.cells 1).1;have x2:=(kV.o.b0.cells 2).1;have y0:=(kV.o.b1.cells 0).1;have y1:=(kV.o.b1.cells 1).1;have y2:=(kV.o.b1.cells 2).1;clear hb1)
  | (refine ⟨trivial,rfl,?_⟩;gi_at_call 23;(with_reducible refine (callsIn_wide.2 (yK.o _ kV.o.below)).mono ?_);rintro e w2 ⟨rfl,hb2⟩;have dM:=ad (kV.o.ext hb2);clear x0 x1 x2 y0 y1 y2;have x0:=(dM.o.b0.cells 0).1;have x1:=(dM.o.b0.cells 1).1;have x2:=(dM.o.b0.cells 2).1;have y0:=(dM.o.b1.cells 0).1;have y1:=(dM.o.b1.cells 1).1;have y2:=(dM.o.b1.cells 2).1;clear hb2)
  | (refine ⟨trivial,rfl,?_⟩;gi_at_call 55;(with_reducible refine (callsIn_wide.2 (Cu.o _ dM.o.below)).mono ?_);rintro e w3 ⟨r1,rfl,hr1,hb3⟩;have fx:=ad (dM.o.ext hb3);have py:=ad hr1;clear hb3 hr1 x0 x1 x2 y0 y1 y2;have x0:=(fx.o.b0.cells 0).1;have x1:=(fx.o.b0.cells 1).1;have x2:=(fx.o.b0.cells 2).1;have y0:=(fx.o.b1.cells 0).1;have y1:=(fx.o.b1.cells 1).1;have y2:=(fx.o.b1.cells 2).1;have z0:=(fx.o.b2.cells 0).1;have z1:=(fx.o.b2.cells 0).2;have z2:=(fx.o.b3.cells 0).1;have z3:=(fx.o.b3.cells 0).2;cases r1)
  | (refine ⟨trivial,rfl,?_⟩;gi_at_call 55;(with_reducible refine (callsIn_wide.2 (iL.o _ fx.o.below)).mono ?_);rintro e w4 ⟨r2,rfl,hr2,hb4⟩;have kW:=ad (fx.o.ext hb4);have kB:=ad hr2;clear hb4 hr2 x0 x1 x2 y0 y1 y2 z0 z1 z2 z3;have x0:=(kW.o.b0.cells 0).1;have x1:=(kW.o.b0.cells 1).1;have x2:=(kW.o.b0.cells 2).1;have y0:=(kW.o.b1.cells 0).1;have y1:=(kW.o.b1.cells 1).1;have y2:=(kW.o.b1.cells 2).1;have z0:=(kW.o.b2.cells 0).1;have z1:=(kW.o.b2.cells 0).2;have z2:=(kW.o.b3.cells 0).1;have z3:=(kW.o.b3.cells 0).2;cases r2)
  | (refine ⟨trivial,?_⟩;apply_assumption))
 .refine ⟨trivial,rfl,?_⟩
  gi_at_call 56
  refine (callsIn_wide.2 (Vf a1 a2 a3 a4 LA.length c1 A.ext.length c2 LB.length c3 B.ext.length c4 A.len B.len w4)).mono ?_;rintro e w5 ⟨rfl,xu⟩;obtain ⟨W0,rfl⟩:∃ W0,W0=w5:=⟨_,rfl⟩;have hE:Below w4.heap.size w4 W0:=by rw [xu];exact xE
  have hsz:W0.heap.size=w4.heap.size+1+1:=by rw [xu];simp
  have Kb:Hid (af W0 w4.heap.size #[.slice a1 LA.length c1,.int .i64 A.len,.slice a2 A.ext.length c2] 43):=ad (by rw [xu];exact (af.at rfl).alloc _);have cw:Hid (af W0 (w4.heap.size+1) #[.slice a3 LB.length c3,.int .i64 B.len,.slice a4 B.ext.length c4] 43):=ad (by rw [xu];exact af.at ag);have nH:=ad (kW.o.ext hE);have ks:=ad nH.o.below;have hww:=nH.o.below.size;have hwl:=kW.o.b3.lt;have vW:Hid (∀ k,(F k/\k<w.heap.size)->k<W0.heap.size):=ad (λk h=>aa);have Lj:Hid (∀ k,(G k/\k<w.heap.size)->k<W0.heap.size):=ad (λk h=>aa);have fV:Hid (∀ k,k<W0.heap.size->k<W0.heap.size):=ad (λk h=>h);have tP:Hid (w4.heap.size<W0.heap.size):=ad aa;have kA:Hid (w4.heap.size+1<W0.heap.size):=ad aa;have Sc:Hid (¬ (oO A B\/oO B A)):=ad (λh=>h.elim (λh=>by simpa using py.o.2 h) (λh=>by simpa using kB.o.2 h));clear xu hE x0 x1 x2 y0 y1 y2 z0 z1 z2 z3;gi_wp2_with fail;refine If (α:=fe) (x:=none) (gf:=102) (lb:=#[.pointer (some ⟨w4.heap.size,0,none⟩),.pointer (some ⟨w4.heap.size+1,0,none⟩)]) rfl (enters_of Tryz.func102 (by kernel_rfl) rfl)
   (U5 (λb=>F b/\b<w.heap.size) (λb=>G b/\b<w.heap.size) (λk=>k<W0.heap.size) a1 a2 a3 a4 c1 A.ext.length c2 c3 B.ext.length c4 (w4.heap.size) (w4.heap.size+1) W0.heap.size LA LB W0 A B (HA.o.below ks.o) (HB.o.below ks.o) VA.o VB.o vW.o Lj.o fV.o (Nat.le_refl _) Kb.o cw.o tP.o kA.o)
   (λh k=>h.trans k) (λW1 l o o' hl ho hc=>cF.putObj fV.o W1 l o o' hl ho hc) (λW1 W2 hn hg=>cF.grown fV.o W1 W2 hn hg) (λy=>rfl)
   (λpre W'=>(∀ y∈pre,∀ n,0<=n->n<=cC->¬ yZ y.p n)/\jX w #[.slice a1 LA.length c1,.int .i64 A.len,.slice a2 A.ext.length c2] #[.slice a3 LB.length c3,.int .i64 B.len,.slice a4 B.ext.length c4] false 0 W'/\KeepsOthers W0 W')
   (λc' _ W'=>c'=.ret/\Eb A B/\jX w #[.slice a1 LA.length c1,.int .i64 A.len,.slice a2 A.ext.length c2] #[.slice a3 LB.length c3,.int .i64 B.len,.slice a4 B.ext.length c4] true 0 W'/\KeepsOthers W0 W')
   (λpre A' C row hI hg hr=>by
     have hr':∀ r,row=some r->W0.heap.size<=r/\∃ o:Obj,A'.heap[r]? = some o/\o.isCells=false:=λr e=>by
      rcases hr r e with ⟨h,_⟩|h
      .cases h
      exact h
     exact ⟨hI.1,hI.2.1.grow hg λr e=>⟨by have:=(hr' r e).1;omega,(hr' r e).2⟩,KeepsOthers.grow hI.2.2 hg λr e=>(hr' r e).1⟩)
   (λc' pre A' C row hI hg hr=>by
     have hr':∀ r,row=some r->W0.heap.size<=r/\∃ o:Obj,A'.heap[r]? = some o/\o.isCells=false:=λr e=>by
      rcases hr r e with ⟨h,_⟩|h
      .cases h
      exact h
     exact ⟨hI.1,hI.2.1,hI.2.2.1.grow hg λr e=>⟨by have:=(hr' r e).1;omega,(hr' r e).2⟩,KeepsOthers.grow hI.2.2.2 hg λr e=>(hr' r e).1⟩)
   (λpre y W1 l o o' hl ho h=>pt.put pre y W1 l o o' hl ho h) (λpre y W1 W2 hg h=>pt.grown pre y W1 W2 hg h) ⟨ag,nH.o,KeepsOthers.refl _⟩
   (λy a' W1=>∃ b,a'=⟨#[.agg #[.slice a1 LA.length c1,.int .i64 A.len,.slice a2 A.ext.length c2],.agg #[.slice a3 LB.length c3,.int .i64 B.len,.slice a4 B.ext.length c4],.pointer (some ⟨w.heap.size,0,none⟩),.pointer (some ⟨w.heap.size+1,0,none⟩),.pointer (some ⟨w.heap.size+1+1,0,none⟩),.pointer (some ⟨w.heap.size+1+1+1,0,none⟩),.pointer (some ⟨b,0,none⟩),undef,undef,undef,undef,undef,undef,.agg #[.slice a1 LA.length c1,.int .i64 A.len,.slice a2 A.ext.length c2],.bool true,.bool false,.bool false,.agg #[.slice a3 LB.length c3,.int .i64 B.len,.slice a4 B.ext.length c4],.bool true,.bool false,.bool false,.agg #[.slice a1 LA.length c1,.int .i64 A.len,.slice a2 A.ext.length c2],.agg #[.slice a3 LB.length c3,.int .i64 B.len,.slice a4 B.ext.length c4],.bool false,.bool false,.agg #[.slice a3 LB.length c3,.int .i64 B.len,.slice a4 B.ext.length c4],.agg #[.slice a1 LA.length c1,.int .i64 A.len,.slice a2 A.ext.length c2],.bool false,.bool false,.agg #[.slice a1 LA.length c1,.int .i64 A.len,.slice a2 A.ext.length c2],.agg #[.slice a3 LB.length c3,.int .i64 B.len,.slice a4 B.ext.length c4],.func (.func 102) #[] #[.pointer (some ⟨w4.heap.size,0,none⟩),.pointer (some ⟨w4.heap.size+1,0,none⟩)],y.val,undef,undef,undef,undef,undef,undef,undef,undef,undef,undef,undef,undef,undef,undef,undef,undef,undef,undef,undef,undef,undef,undef,undef,undef,undef,undef,undef,undef,undef,undef],[]⟩/\GJ W0.heap.size b y W1)
   (λy a' W1 l o o' _ hl ho h=>⟨h.choose,h.choose_spec.1,h.choose_spec.2.put hl ho⟩) ?assign ?body ?done ?stop
  case assign=>
   rintro l pre ⟨p,vc,vd,vx,vy⟩ W' K Oa _ ⟨-,hx,hy,⟨x1,x2,x3,rfl⟩,⟨y1,y2,y3,rfl⟩,-⟩ hK;change aA W' _ vx (i7 p) at hx;change aA W' _ vy (i_ p) at hy;obtain ⟨x4,x5,rfl⟩:=hx.form;obtain ⟨y4,y5,rfl⟩:=hy.form;dsimp only [fe.val]
   gi_wp2
   exact hK _ _ (World.grownBy_alloc _ _ _) ⟨W'.heap.size,rfl,Oa,af.at rfl⟩
  case body=>
   rintro l pre ⟨p,vc,vd,vx,vy⟩ _ W' ⟨hpre,ia,bR⟩ ⟨⟨r,hr⟩,hx,hy,⟨x1,x2,x3,rfl⟩,⟨y1,y2,y3,rfl⟩,mx,my⟩ ⟨b,rfl,jP,hbx⟩;change aA W' _ vx (i7 p) at hx;change aA W' _ vy (i_ p) at hy;change MV 0 (i7 p) at mx;change MV 0 (i_ p) at my;obtain ⟨x4,x5,rfl⟩:=hx.form;obtain ⟨y4,y5,rfl⟩:=hy.form;dsimp only [fe.val] at *;have q5:=(hbx.cells 5).1;have q6:=(hbx.cells 6).1;have hbl:=hbx.lt;have HF:=ad (t6_ 0 _ _ _ _ _ _ 0 W' hx hy mx my ⟨aa,aa⟩);have cM:=ad hpre;have il:=ad ia;have dS:=ad bR;have HR:=ad hr;clear hpre ia bR hr hx hy mx my;gi_wp2_with (refine ⟨trivial,rfl,?_⟩;gi_at_call 57;refine (CallsIn.inRound l (callsIn_wide.2 HF.o)).mono ?_;rintro e w6 ⟨n,bb,rfl,hN,bD⟩;have HN:=ad hN;have bO:=ad bD;have iO:=ad (il.o.ext bD);have z0:=(iO.o.b2.cells 0).1;have z1:=(iO.o.b2.cells 0).2;have z2:=(iO.o.b3.cells 0).1;have z3:=(iO.o.b3.cells 0).2;clear hN bD;cases bb)
   .refine ⟨(KeepsOthers.of_below bO.o).from _,cF.below bO.o (λk hk=>Nat.lt_of_lt_of_le hk dS.o.size),λy hy n h0 h1 hc=>?_,iO.o,dS.o.trans (KeepsOthers.of_below bO.o)⟩;rcases List.mem_append.1 hy with hy|hy
    .exact cM.o y hy n h0 h1 hc
    obtain rfl:=List.mem_singleton.1 hy;rcases HN.o with ⟨h,_⟩|⟨_,_,h⟩
    .cases h
    exact h n aa h1 hc
   refine ⟨((KeepsOthers.of_below bO.o).trans ((KeepsOthers.setCell w6 ⟨w.heap.size+1+1,0,none⟩ (.bool true)).trans (KeepsOthers.setCell _ ⟨w.heap.size+1+1+1,0,none⟩ (.int .i64 0)))).from _,rfl,?_,iO.o.setR,dS.o.trans ((KeepsOthers.of_below bO.o).trans ((KeepsOthers.setCell w6 ⟨w.heap.size+1+1,0,none⟩ (.bool true)).trans (KeepsOthers.setCell _ ⟨w.heap.size+1+1+1,0,none⟩ (.int .i64 0))))⟩;rcases HN.o with ⟨_,h1,h2,h3,_⟩|⟨h,_⟩
   .exact ⟨p,by rw [HR.o];simp,n,aa,h2,h3⟩
   cases h
  case done=>
   rintro D xs W' hD aL ⟨hall,ia,bR⟩ aJ;have S7:¬ (oO A B\/oO B A\/Eb A B):=λh=>by
    rcases h with h|h|⟨q,hq,n,h0,h1,h2⟩
    .exact Sc.o (.inl h)
    .exact Sc.o (.inr h)
    rw [<- aL] at hq;obtain ⟨y,hy,rfl⟩:=List.mem_map.1 hq;exact hall y hy n h0 h1 h2
   have jE:=ad S7;have il:=ad ia;have fC:=ad aJ;have hDl:=(Array.getElem?_eq_some_iff.1 aJ).1;have hMs:=ia.below.size;have hML:=ia.b3.lt;have qq:=ad (ia.ext (Ea (Er W') (.cells #[.bool false] 4)));have x0:=(qq.o.b0.cells 0).1;have x1:=(qq.o.b0.cells 1).1;have x2:=(qq.o.b0.cells 2).1;have y0:=(qq.o.b1.cells 0).1;have y1:=(qq.o.b1.cells 1).1;have y2:=(qq.o.b1.cells 2).1;clear aL hall ia bR aJ S7;gi_wp2_with (refine ⟨trivial,rfl,?_⟩;gi_at_call 56;refine (callsIn_wide.2 (Vf a1 a2 a3 a4 LA.length c1 A.ext.length c2 LB.length c3 B.ext.length c4 A.len B.len _)).mono ?_;rintro e w' ⟨rfl,rfl⟩);generalize hW1:((W'.alloc _).alloc _).alloc _=W1;have hE:Below W'.heap.size W' W1:=by rw [<- hW1];exact xE
   have hsz:W1.heap.size=W'.heap.size+1+1+1:=by rw [<- hW1];simp
   have tH:Hid (af W1 W'.heap.size #[.bool false] 4):=ad (by rw [<- hW1];exact ((af.at rfl).alloc _).alloc _);have Kb:Hid (af W1 (W'.heap.size+1) #[.slice a1 LA.length c1,.int .i64 A.len,.slice a2 A.ext.length c2] 43):=ad (by rw [<- hW1];exact (af.at ag).alloc _);have cw:Hid (af W1 (W'.heap.size+1+1) #[.slice a3 LB.length c3,.int .i64 B.len,.slice a4 B.ext.length c4] 43):=ad (by rw [<- hW1];exact af.at ag);have nH:=ad (il.o.ext hE);have ks:=ad nH.o.below;have AZ:=ad ((hE.block D hDl).trans fC.o);have vW:Hid (∀ k,(F k/\k<w.heap.size)->k<W1.heap.size/\k≠W'.heap.size):=ad (λk h=>aa);have Lj:Hid (∀ k,(G k/\k<w.heap.size)->k<W1.heap.size/\k≠W'.heap.size):=ad (λk h=>aa);have fV:Hid (∀ k,(k<W1.heap.size/\k≠W'.heap.size)->k<W1.heap.size):=ad (λk h=>h.1);have tP:Hid (W'.heap.size+1<W1.heap.size/\W'.heap.size+1≠W'.heap.size):=ad aa;have kA:Hid (W'.heap.size+1+1<W1.heap.size/\W'.heap.size+1+1≠W'.heap.size):=ad aa;clear hW1 hE x0 x1 x2 y0 y1 y2;refine If (α:=fe) (x:=none) (gf:=102) (lb:=#[.pointer (some ⟨W'.heap.size+1,0,none⟩),.pointer (some ⟨W'.heap.size+1+1,0,none⟩)]) rfl (enters_of Tryz.func102 (by kernel_rfl) rfl)
    (U5 (λb=>F b/\b<w.heap.size) (λb=>G b/\b<w.heap.size) (λk=>k<W1.heap.size/\k≠W'.heap.size) a1 a2 a3 a4 c1 A.ext.length c2 c3 B.ext.length c4 (W'.heap.size+1) (W'.heap.size+1+1) W1.heap.size LA LB W1 A B (HA.o.below ks.o) (HB.o.below ks.o) VA.o VB.o vW.o Lj.o fV.o (Nat.le_refl _) Kb.o cw.o tP.o kA.o)
    (λh k=>h.trans k) (λW2 l o o' hl ho hc=>cF.putObj fV.o W2 l o o' hl ho hc) (λW2 W3 hn hg=>cF.grown fV.o W2 W3 hn hg) (λy=>rfl)
    (λpre W2=>(∀ y∈pre,¬ jo y.p)/\Zy W'.heap.size pre W2/\jX w #[.slice a1 LA.length c1,.int .i64 A.len,.slice a2 A.ext.length c2] #[.slice a3 LB.length c3,.int .i64 B.len,.slice a4 B.ext.length c4] false 0 W2/\KeepsOthers W1 W2)
    (λc' _ W2=>c'=.ret/\BG A B/\jX w #[.slice a1 LA.length c1,.int .i64 A.len,.slice a2 A.ext.length c2] #[.slice a3 LB.length c3,.int .i64 B.len,.slice a4 B.ext.length c4] false 2 W2/\KeepsOthers W1 W2)
    (λpre A' C row hI hg hr=>by
      have hr':∀ r,row=some r->W1.heap.size<=r/\∃ o:Obj,A'.heap[r]? = some o/\o.isCells=false:=λr e=>by
       rcases hr r e with ⟨h,_⟩|h
       .cases h
       exact h
      obtain ⟨h1,⟨lt,h2,h3⟩,h4,h5⟩:=hI;exact ⟨h1,⟨lt,h2.grown hg (λe=>by have:=(hr' _ e.symm).1;omega),h3⟩,h4.grow hg λr e=>⟨by have:=(hr' r e).1;omega,(hr' r e).2⟩,KeepsOthers.grow h5 hg λr e=>(hr' r e).1⟩)
    (λc' pre A' C row hI hg hr=>by
      have hr':∀ r,row=some r->W1.heap.size<=r/\∃ o:Obj,A'.heap[r]? = some o/\o.isCells=false:=λr e=>by
       rcases hr r e with ⟨h,_⟩|h
       .cases h
       exact h
      exact ⟨hI.1,hI.2.1,hI.2.2.1.grow hg λr e=>⟨by have:=(hr' r e).1;omega,(hr' r e).2⟩,KeepsOthers.grow hI.2.2.2 hg λr e=>(hr' r e).1⟩)
    (λpre y W2 l o o' hl ho h=>pt.put pre y W2 l o o' hl ho h) (λpre y W2 W3 hg h=>pt.grown pre y W2 W3 hg h) ⟨ag,⟨false,tH.o,ag⟩,nH.o,KeepsOthers.refl _⟩
    (λy a' W2=>∃ b,a'=⟨#[.agg #[.slice a1 LA.length c1,.int .i64 A.len,.slice a2 A.ext.length c2],.agg #[.slice a3 LB.length c3,.int .i64 B.len,.slice a4 B.ext.length c4],.pointer (some ⟨w.heap.size,0,none⟩),.pointer (some ⟨w.heap.size+1,0,none⟩),.pointer (some ⟨w.heap.size+1+1,0,none⟩),.pointer (some ⟨w.heap.size+1+1+1,0,none⟩),undef,undef,undef,.pointer (some ⟨W'.heap.size,0,none⟩),.pointer (some ⟨b,0,none⟩),undef,undef,.agg #[.slice a1 LA.length c1,.int .i64 A.len,.slice a2 A.ext.length c2],.bool true,.bool false,.bool false,.agg #[.slice a3 LB.length c3,.int .i64 B.len,.slice a4 B.ext.length c4],.bool true,.bool false,.bool false,.agg #[.slice a1 LA.length c1,.int .i64 A.len,.slice a2 A.ext.length c2],.agg #[.slice a3 LB.length c3,.int .i64 B.len,.slice a4 B.ext.length c4],.bool false,.bool false,.agg #[.slice a3 LB.length c3,.int .i64 B.len,.slice a4 B.ext.length c4],.agg #[.slice a1 LA.length c1,.int .i64 A.len,.slice a2 A.ext.length c2],.bool false,.bool false,.agg #[.slice a1 LA.length c1,.int .i64 A.len,.slice a2 A.ext.length c2],.agg #[.slice a3 LB.length c3,.int .i64 B.len,.slice a4 B.ext.length c4],.func (.func 102) #[] #[.pointer (some ⟨w4.heap.size,0,none⟩),.pointer (some ⟨w4.heap.size+1,0,none⟩)],undef,undef,undef,undef,undef,undef,undef,undef,undef,undef,.agg #[.slice a1 LA.length c1,.int .i64 A.len,.slice a2 A.ext.length c2],.agg #[.slice a3 LB.length c3,.int .i64 B.len,.slice a4 B.ext.length c4],.func (.func 102) #[] #[.pointer (some ⟨W'.heap.size+1,0,none⟩),.pointer (some ⟨W'.heap.size+1+1,0,none⟩)],y.val,undef,undef,undef,undef,undef,undef,undef,undef,undef,undef,undef,undef,undef,undef,undef,undef,undef],[]⟩/\GJ W1.heap.size b y W2)
    (λy a' W2 l o o' _ hl ho h=>⟨h.choose,h.choose_spec.1,h.choose_spec.2.put hl ho⟩) ?assign2 ?body2 ?done2 ?stop2
   case assign2=>
    rintro l pre ⟨p,vc,vd,vx,vy⟩ W2 K hW2 _ ⟨-,hx,hy,⟨x1,x2,x3,rfl⟩,⟨y1,y2,y3,rfl⟩,-⟩ hK;change aA W2 _ vx (i7 p) at hx;change aA W2 _ vy (i_ p) at hy;obtain ⟨x4,x5,rfl⟩:=hx.form;obtain ⟨y4,y5,rfl⟩:=hy.form;dsimp only [fe.val]
    gi_wp2
    exact hK _ _ (World.grownBy_alloc _ _ _) ⟨W2.heap.size,rfl,hW2,af.at rfl⟩
   case body2=>
    rintro l pre ⟨p,vc,vd,vx,vy⟩ _ W2 ⟨hpre,Z7,ia,bR⟩ ⟨⟨r,hr⟩,hx,hy,⟨x1,x2,x3,rfl⟩,⟨y1,y2,y3,rfl⟩,mx,my⟩ ⟨b,rfl,jP,hbx⟩;change aA W2 _ vx (i7 p) at hx;change aA W2 _ vy (i_ p) at hy;change MV 0 (i7 p) at mx;change MV 0 (i_ p) at my;obtain ⟨x4,x5,rfl⟩:=hx.form;obtain ⟨y4,y5,rfl⟩:=hy.form;dsimp only [fe.val] at *;obtain ⟨lt,fQ,hlt⟩:=Z7;have q5:=(hbx.cells 5).1;have q6:=(hbx.cells 6).1;have hbl:=hbx.lt;have rJ:=fQ.lt;have Y6:=ad (xm_ 0 _ _ _ _ _ _ W2 hx hy mx my);have GX:=ad (q4_ mx my);have cM:=ad hpre;have il:=ad ia;have dS:=ad bR;have tI:=ad fQ;have b6:=ad hlt;have HR:=ad hr;clear hpre ia bR hr hx hy mx my fQ hlt hbx;cases lt;all_goals
     gi_wp2_with (first
      | (refine ⟨trivial,rfl,?_⟩;gi_at_call 58;refine (CallsIn.inRound l (callsIn_wide.2 Y6.o)).mono ?_;rintro e w6 hres;obtain ⟨oa,oc,k,mk,rfl,kN,bD,hst⟩:=hres.num;have vU:=ad kN;have HST:=ad hst;have bO:=ad bD;have iO:=ad (il.o.ext bD);have tG:=ad (tI.o.below bD);have z0:=(iO.o.b2.cells 0).1;have z1:=(iO.o.b2.cells 0).2;have z2:=(iO.o.b3.cells 0).1;have z3:=(iO.o.b3.cells 0).2;have z4:=λo=>((iO.o.b2.alloc o).cells 0).1;have z5:=λo=>((iO.o.b2.alloc o).cells 0).2;have z6:=λo=>((iO.o.b3.alloc o).cells 0).1;have z7:=λo=>((iO.o.b3.alloc o).cells 0).2;have l0:=(tG.o.cells 0).1;have l1:=(tG.o.cells 0).2;have I7:W'.heap.size<w6.heap.size:=tG.o.lt;have hm6:=iO.o.b3.lt;have hk6:=bD.size;clear kN hst bD hres;rcases HST.o with ⟨rfl,hN,Ai⟩|⟨rfl,rfl,rfl,rfl,hN⟩;all_goals (have HN:=ad hN;clear hN);all_goals (try (have je:=ad Ai;clear Ai)))
      | (refine ⟨trivial,rfl,?_⟩;gi_at_call 59;refine (CallsIn.inRound l (callsIn_wide.2 (t2_ _ _ mk _ (vU.o.ext (Ea (Er w6) _))))).mono ?_;rintro e w7 ⟨bb,rfl,dD,dW⟩;have fw:=ad dD;have gF:=ad (Et (Ea (Er w6) _) dW);clear dD dW l0 l1;have G8:=ad (tG.o.below gF.o);have l0:=(G8.o.cells 0).1;have l1:=(G8.o.cells 0).2;cases bb)
      | (refine ⟨trivial,?_⟩;apply_assumption))
    .have vh:∃ n,yZ p n:=by
      have h1:=fw.o;have h2:¬ (dU mk=true/\∀ t∈mk,jk t):=λh=>by have:=h1.2 h;cases this
      obtain ⟨n,hn⟩:=Classical.byContradiction (λh:¬ ∃ n,aT mk n=>h2 ⟨je.o.val,λt ht n hn=>h ⟨n,t,ht,hn⟩⟩);exact ⟨n,(HN.o.ok GX.o).2.1 n |>.1 hn⟩
     obtain ⟨k1,k2,k3,k4,k5⟩:=QK (v:=true) aa aa (Et bO.o gF.o) dS.o il.o tI.o;exact ⟨k1,k2,QV cM.o (by rw [jo,<- yY HN.o];exact λh=>h ((yW je.o.vt).1 je.o.val)),⟨true,k5,⟨λ_=>⟨_,List.mem_append_right _ (List.mem_singleton_self _),vh⟩,λ_=>rfl⟩⟩,k3,k4⟩
    .have vh:¬ ∃ n,yZ p n:=λ⟨n,hn⟩=>by
      obtain ⟨t,ht,h3⟩:=((HN.o.ok GX.o).2.1 n).2 hn;exact (fw.o.1 ag).2 t ht n h3
     obtain ⟨k1,k2,k3,k4,k5⟩:=QK (v:=false) aa aa (Et bO.o gF.o) dS.o il.o tI.o;exact ⟨k1,k2,QV cM.o (by rw [jo,<- yY HN.o];exact λh=>h ((yW je.o.vt).1 je.o.val)),⟨false,k5,⟨λh=>(by cases h),λ⟨y,hy,h⟩=>by
      rcases List.mem_append.1 hy with hy|hy
      .exact b6.o.2 ⟨y,hy,h⟩
      obtain rfl:=List.mem_singleton.1 hy;exact absurd h vh⟩⟩,k3,k4⟩
    .obtain ⟨m,hm1,ic⟩:=HN.o;exact ⟨((KeepsOthers.of_below (Ea bO.o _)).trans ((KeepsOthers.setCell _ ⟨w.heap.size+1+1,0,none⟩ (.bool false)).trans (KeepsOthers.setCell _ ⟨w.heap.size+1+1+1,0,none⟩ (.int .i64 2)))).from _,rfl,⟨p,by rw [HR.o];simp,by rw [jo,<- yY hm1];exact ic⟩,(iO.o.ext (Ea (Er w6) _)).setR,dS.o.trans ((KeepsOthers.of_below (Ea bO.o _)).trans ((KeepsOthers.setCell _ ⟨w.heap.size+1+1,0,none⟩ (.bool false)).trans (KeepsOthers.setCell _ ⟨w.heap.size+1+1+1,0,none⟩ (.int .i64 2))))⟩
    .obtain ⟨k1,k2,k3,k4,k5⟩:=QK (v:=true) aa aa (Ea bO.o (.cells #[.slice oa mk.length oc] 57)) dS.o il.o tI.o;rw [World.setCell_alloc_past _ _ _ _ I7] at k1 k2 k3 k4 k5;exact ⟨k1,k2,QV cM.o (by rw [jo,<- yY HN.o];exact λh=>h ((yW je.o.vt).1 je.o.val)),⟨true,k5,⟨λ_=>by
      obtain ⟨y,hy,h⟩:=b6.o.1 ag;exact ⟨y,List.mem_append_left _ hy,h⟩,λ_=>rfl⟩⟩,k3,k4⟩
    obtain ⟨m,hm1,ic⟩:=HN.o;exact ⟨((KeepsOthers.of_below (Ea bO.o _)).trans ((KeepsOthers.setCell _ ⟨w.heap.size+1+1,0,none⟩ (.bool false)).trans (KeepsOthers.setCell _ ⟨w.heap.size+1+1+1,0,none⟩ (.int .i64 2)))).from _,rfl,⟨p,by rw [HR.o];simp,by rw [jo,<- yY hm1];exact ic⟩,(iO.o.ext (Ea (Er w6) _)).setR,dS.o.trans ((KeepsOthers.of_below (Ea bO.o _)).trans ((KeepsOthers.setCell _ ⟨w.heap.size+1+1,0,none⟩ (.bool false)).trans (KeepsOthers.setCell _ ⟨w.heap.size+1+1+1,0,none⟩ (.int .i64 2))))⟩
   case done2=>
    rintro D2 xs W2 Z1 aL ⟨hpre,⟨lt,fQ,hlt⟩,ia,bR⟩ aJ;have EW:¬ BG A B:=λ⟨q,hq,hb⟩=>by
     rw [<- aL] at hq;obtain ⟨y,hy,rfl⟩:=List.mem_map.1 hq;exact hpre y hy hb
    have EM:lt=true↔I3 A B:=by
     rw [hlt];unfold I3;rw [<- aL];exact ⟨λ⟨y,hy,h⟩=>⟨y.p,List.mem_map.2 ⟨y,hy,rfl⟩,h⟩,λ⟨q,hq,h⟩=>by obtain ⟨y,hy,rfl⟩:=List.mem_map.1 hq;exact ⟨y,hy,h⟩⟩
    have Bh:=ad EW;have qo:=ad EM;have fm:=bR.same D _ AZ.o rfl;have hM:cL w.heap.size [{ target:=.collected D2,args:=#[] },{ target:=.collected D,args:=#[] }] W2:=cL.cons (sK aa AZ.o) aa (bR.from _) aa aJ;have HM:=ad hM;have qs:=ad ia;have q0:=(fQ.cells 0).1;have z0:=(ia.b2.cells 0).1;have z1:=(ia.b2.cells 0).2;have z2:=(ia.b3.cells 0).1;have z3:=(ia.b3.cells 0).2;clear EW EM fm hM ia bR aJ aL hpre fQ hlt;gi_wp2_with fail;have jH:=qs.o.setR (s:=lt) (l:=0);refine jY (B:=w.heap.size) _ _ (HM.o.keep (((KeepsOthers.setCell W2 ⟨w.heap.size+1+1,0,none⟩ (.bool lt)).trans (KeepsOthers.setCell _ ⟨w.heap.size+1+1+1,0,none⟩ (.int .i64 0))).from _)) λw' hs=>?_;have hc1:=af.c0 (hs.cells _ _ jH.b2 rfl);have hc2:=af.c0 (hs.cells _ _ jH.b3 rfl);exact ⟨.tuple #[.bool lt,.int .i64 0],by simp [results,Tryz.results28,go_sem,hc1,hc2],lt,0,rfl,.inr ⟨jE.o,.inr ⟨Bh.o,rfl,qo.o⟩⟩,jH.below.trans hs.below⟩
   case stop2=>
    rintro D2 c' pre W2 Z1 ⟨rfl,EW,ia,bR⟩ aJ;have Bh:=ad EW;have hM:cL w.heap.size [{ target:=.collected D2,args:=#[] },{ target:=.collected D,args:=#[] }] W2:=cL.cons (sK aa AZ.o) aa (bR.from _) aa aJ;have HM:=ad hM;have qs:=ad ia;clear ia aJ hM bR EW;gi_wp2_with fail;refine jY (B:=w.heap.size) _ _ HM.o λw' hs=>?_;have hc1:=af.c0 (hs.cells _ _ qs.o.b2 rfl);have hc2:=af.c0 (hs.cells _ _ qs.o.b3 rfl);exact ⟨.tuple #[.bool false,.int .i64 2],by simp [results,Tryz.results28,go_sem,hc1,hc2],false,2,rfl,.inr ⟨jE.o,.inl ⟨Bh.o,rfl,rfl⟩⟩,qs.o.below.trans hs.below⟩
  case stop=>
   rintro D c' pre W' hD ⟨rfl,SV,ia,bR⟩ aJ;have hM:cL w.heap.size [{ target:=.collected D,args:=#[] }] W':=sK aa aJ;have il:=ad ia;have YG:=ad SV;have HM:=ad hM;clear ia SV aJ hM bR;gi_wp2_with fail;refine jY (B:=w.heap.size) _ _ HM.o λw' hs=>?_;have hc1:=af.c0 (hs.cells _ _ il.o.b2 rfl);have hc2:=af.c0 (hs.cells _ _ il.o.b3 rfl);exact ⟨.tuple #[.bool true,.int .i64 0],by simp [results,Tryz.results28,go_sem,hc1,hc2],true,0,rfl,.inl ⟨.inr (.inr YG.o),rfl,rfl⟩,il.o.below.trans hs.below⟩
 .have jH:=kW.o.setR (s:=true) (l:=0);refine jY (B:=w.heap.size) _ _ (cL.nil _ _) λw' hs=>?_;have hc1:=af.c0 (hs.cells _ _ jH.b2 rfl);have hc2:=af.c0 (hs.cells _ _ jH.b3 rfl);exact ⟨.tuple #[.bool true,.int .i64 0],by simp [results,Tryz.results28,go_sem,hc1,hc2],true,0,rfl,.inl ⟨.inr (.inl (kB.o.1 ag)),rfl,rfl⟩,jH.below.trans hs.below⟩
 have jH:=fx.o.setR (s:=true) (l:=0);refine jY (B:=w.heap.size) _ _ (cL.nil _ _) λw' hs=>?_;have hc1:=af.c0 (hs.cells _ _ jH.b2 rfl);have hc2:=af.c0 (hs.cells _ _ jH.b3 rfl);exact ⟨.tuple #[.bool true,.int .i64 0],by simp [results,Tryz.results28,go_sem,hc1,hc2],true,0,rfl,.inl ⟨.inl (py.o.1 ag),rfl,rfl⟩,jH.below.trans hs.below⟩
end
section
open Go.RowKit Go.Maps Kal
def uq (g:Nat->Bool) (s:aE):Prop:=∀ x,gq s x->g (x.frm / 1440 % 7).toNat=true
theorem Wx {len:Int}:∀ {l:List ai},len<=iU len l/\∀ x∈l,x.fin-x.frm<=iU len l:=by
 intro l;have key:∀ (l:List ai) (len:Int),len<=iU len l/\∀ x∈l,x.fin-x.frm<=iU len l:=by
  intro l;induction l with
  | nil=>intro len;exact ⟨Int.le_refl _,ag⟩
  | cons y r ih=>
   intro len;obtain ⟨h1,h2⟩:=ih (max len (y.fin-y.frm));have e:iU len (y :: r)=iU (max len (y.fin-y.frm)) r:=rfl;rw [e];refine ⟨aa,λx hx=>?_⟩;rcases List.mem_cons.1 hx with rfl|hx
   .omega
   exact h2 x hx
 exact key l len
theorem xg_ {s:aE} {x:ai} (h:gq s x):x.fin-x.frm<=iU s.len s.ext:=by
 rcases h with ⟨c,hc,⟨_,ho⟩,_⟩|h
 .have e1:x.frm=x.day*1440+c.min:=congrArg ai.frm ho;have e2:x.fin=x.day*1440+c.min+s.len:=congrArg ai.fin ho;have:=(Wx (len:=s.len) (l:=s.ext)).1;omega
 exact Wx.2 x h
theorem zl_ {g:Nat->Bool} {s:aE} {b:Int} (hg:uq g s) (h:gJ s a b):t_ g ((a-iU s.len s.ext) / 1440) (b / 1440):=by
 obtain ⟨hab,x,hx,h1,h2⟩:=h;have h3:=xg_ hx;have h4:=hg x hx;generalize iU s.len s.ext=m at *;obtain ⟨f,hf⟩:∃ f,(a-m) / 1440=f:=⟨_,rfl⟩;obtain ⟨d,hd⟩:∃ d,x.frm / 1440=d:=⟨_,rfl⟩;obtain ⟨u,hu⟩:∃ u,b / 1440=u:=⟨_,rfl⟩;have l1:f<=d:=aa;have l2:d<=u:=aa;rw [hd] at h4;rw [hf,hu];refine ⟨f+(d-f) % 7,aa,aa,aa,?_⟩;rw [show (f+(d-f) % 7) % 7=d % 7 by omega];exact h4
theorem eZ.put {D:DataW Value} {E E':List (Int × Value)} (h:eZ D E) (hD:IsMap D) (hi:i ∉ E.map Prod.fst) (hm:∀ x,x∈E'↔x=(i,v)\/x∈E) (hn:(E'.map Prod.fst).Nodup):eZ (D.put (.int .i64 i) (.held v)) E':=by
 have hne:∀ j u,(j,u)∈E->j≠i:=λj u hx e=>hi (List.mem_map.2 ⟨_,hx,e⟩);refine ⟨λj u hx zd=>?_,λj=>?_,hn⟩
 .rcases (hm _).1 hx with e|hx
  .injection e with e1 e2
   subst e1;subst e2;exact atKey_put_same hD (by simp [WideAt.IsKeyLit]) _ _
  rw [atKey_put_other (JQ (hne j u hx))];exact h.val j u hx zd
 by_cases e:j=i
 .subst e;rw [has_put_same hD (by simp [WideAt.IsKeyLit])];simp only [true_iff];exact List.mem_map.2 ⟨(j,v),(hm _).2 (.inl rfl),rfl⟩
 rw [has_put_other (JQ e),h.has,List.mem_map,List.mem_map];constructor
 .rintro ⟨x,hx,rfl⟩;exact ⟨x,(hm x).2 (.inr hx),rfl⟩
 rintro ⟨x,hx,rfl⟩;rcases (hm x).1 hx with rfl|hx
 .exact absurd rfl e
 exact ⟨x,hx,rfl⟩
structure sO (W:World) (G:Nat->Prop) (x:bm) (s:aE):Prop where
 str:bq W G (.slice x.a1 x.n1 x.c1) (.slice x.a2 x.n2 x.c2) s
 len:x.len=s.len
 ms:bM s
 days:uq x.g s
structure fg (W:World) (p b n:Nat) (G:Nat->Prop) (E:List (Int × bm)) (L:IL):Prop where
 box:af W p #[.map (some b)] 98
 map:cT W b n (E.map dJ)
 num:n<=1000000
 asc:ja L
 ids:E.map Prod.fst=ids L
 ent:∀ i x,(i,x)∈E->aP i/\1<=i/\∃ s,(i,s)∈L/\sO W G x s
 apart:p≠b/\¬ G b
theorem sO.keep {G:Nat->Prop} {x:bm} {s:aE} (h:sO W G x s) (hk:aN G W W') (hs:W.heap.size<=W'.heap.size):sO W' G x s:=⟨h.str.keep hk hs,h.len,h.ms,h.days⟩
theorem fg.ext {p b:Nat} {G:Nat->Prop} {E:List (Int × bm)} {L:IL} (h:fg W p b n G E L) (hb:Below W.heap.size W W'):fg W' p b n G E L:=
 ⟨h.box.below hb,h.map.kept (World.grownBy.of_below hb none) ag,h.num,h.asc,h.ids,λi x hx=>by
  obtain ⟨h1,h2,s,h3,h4⟩:=h.ent i x hx;exact ⟨h1,h2,s,h3,h4.keep (aN.below hb) hb.size⟩,h.apart⟩
theorem fg.sorted {p b:Nat} {G:Nat->Prop} {E:List (Int × bm)} {L:IL} (h:fg W p b n G E L):((E.map dJ).map Prod.fst).Pairwise (· < ·):=by rw [wz,h.ids];exact h.asc
def eS (g:Nat->Bool) (r:Nat) (b:Bool):Nat->Bool:=λi=>if i=r then b else g i
def pz (g h:Nat->Bool):Prop:=∀ i,g i=true->h i=true
theorem pz.upd (g:Nat->Bool) (r:Nat):pz g (eS g r true):=λi h=>by unfold eS;split <;> simp [h]
theorem JK (g:Nat->Bool) (r:Nat) (b:Bool):eS g r b r=b:=by simp [eS]
theorem Mp (g:Nat->Bool) {r:Nat} (b:Bool) (h:r<7):(fB g).setIfInBounds r (.bool b)=fB (eS g r b):=by
 have:r=0\/r=1\/r=2\/r=3\/r=4\/r=5\/r=6:=aa;rcases this with rfl|rfl|rfl|rfl|rfl|rfl|rfl <;> rfl
theorem af.setW {b:Nat} {g:Nat->Bool} {t:TypeId} (h:af W b (fB g) t) {r:Nat} (u:Bool) (hr:r<7):af (W.setCell ⟨b,r,none⟩ (.bool u)) b (fB (eS g r u)) t:=by
 have:=br r (.bool u) h;rw [Mp g u hr] at this;exact this
theorem af.atW {b:Nat} {g:Nat->Bool} {t:TypeId} (h:af W b (fB g) t) {r:Nat} (hr:r<7):W.cell? ⟨b,r,none⟩=some (.bool (g r)):=((h.cells r).1).trans (GG g hr)
def JM (f:Nat->Bool) (p:Per):Prop:=∀ d,p.mem d->f (d % 7).toNat=true
theorem vr_ {f:Nat->Bool} (hw:p.WF) (h1:∀ r∈lL p 7,f r.toNat=true) (h2:∀ d∈p.head,f (d % 7).toNat=true):JM f p:=by
 intro d hd;have hp:=hw.per;have hf:=hw.frm;have h0:=hd.1;by_cases hlt:d<p.frm
 .exact h2 d ((Per.mem_lo h0 hlt).1 hd)
 have hc:=(Per.mem_hi h0 aa).1 hd;refine h1 (d % 7) ?_;unfold lL upto ez;rw [List.mem_filter,List.any_eq_true];refine ⟨List.mem_map.2 ⟨(d % 7).toNat,by rw [List.mem_range];show _<7;omega,aa⟩,_,hc,decide_eq_true ?_⟩;have fm:((Int.gcd p.period 7:Nat):Int)∣p.period:=Int.gcd_dvd_left ..;have kM:((Int.gcd p.period 7:Nat):Int)∣7:=Int.gcd_dvd_right ..;have e1:(p.frm+(d-p.frm) % p.period) % p.period=d % p.period:=by
  rw [Int.add_emod_emod];congr 1;omega
 have e2:=congrArg (· % ((Int.gcd p.period 7:Nat):Int)) e1;simp only [Int.emod_emod_of_dvd _ fm] at e2;rw [e2,Int.emod_emod_of_dvd _ kM]
def uv (h:Nat->Bool) (t:List Per):Prop:=∀ d,ba t d->h (d % 7).toNat=true
def gL (h f:Nat->Bool) (r:Nat):Nat->Bool:=λi=>if i<r then h i && f i else h i
theorem tz_ (h f:Nat->Bool):gL h f 0=h:=by funext i;simp [gL]
theorem ty_ (h f:Nat->Bool) (r:Nat):eS (gL h f r) r (gL h f r r && f r)=gL h f (r+1):=by
 funext i
 unfold eS gL;by_cases e:i=r
 .subst e;simp
 by_cases e2:i<r
 .simp [e,e2,show i<r+1 by omega]
 simp [e,e2,show ¬ i<r+1 by omega]
theorem uv.nil {h:Nat->Bool} (hh:∀ i,i<7->h i=true):uv h []:=λd _=>hh _ aa
theorem uv.step {h f:Nat->Bool} (ht:uv h t) (hf:JM f p):uv (gL h f 7) (t ++ [p]):=by
 intro d hd;have h1:=ht d (λq hq=>hd q (by simp [hq]));have h2:=hf d (hd p ag);unfold gL;rw [if_pos aa,h1,h2];rfl
def we (g:Nat->Bool) (q:Int) (t:List Per):Prop:=∀ d,ba t d->g ((d+q) % 7).toNat=true
def tZ (g:Nat->Bool) (c:eA):Prop:=∀ t∈c.days,we g (c.min / 1440) t
theorem we.mono {g g':Nat->Bool} {q:Int} (h:we g q t) (hl:pz g g'):we g' q t:=λd hd=>hl _ (h d hd)
theorem tZ.mono {g g':Nat->Bool} {c:eA} (h:tZ g c) (hl:pz g g'):tZ g' c:=λt ht=>(h t ht).mono hl
def pF (h:Nat->Bool) (q:Int) (g:Nat->Bool) (r:Nat):Prop:=∀ i,i<r->h i=true->g (((i:Nat)+q) % 7).toNat=true
theorem pF.zero {h g:Nat->Bool} {q:Int}:pF h q g 0:=λi hi=>aa
theorem pF.skip {h g:Nat->Bool} {q:Int} {r:Nat} (hm:pF h q g r) (hr:h r=false):pF h q g (r+1):=λi hi hh=>by
 by_cases e:i=r
 .subst e;rw [hr] at hh;cases hh
 exact hm i aa hh
theorem pF.take {h g:Nat->Bool} {q:Int} {r:Nat} (hm:pF h q g r):pF h q (eS g (((r:Nat)+q) % 7).toNat true) (r+1):=λi hi hh=>by
 by_cases e:i=r
 .subst e;exact JK _ _ _
 exact pz.upd _ _ _ (hm i aa hh)
theorem pF.done {h g:Nat->Bool} {q:Int} (hm:pF h q g 7) (hs:uv h t):we g q t:=λd hd=>by
 have h1:=hm (d % 7).toNat aa (hs d hd);have e:(((d % 7).toNat:Int)+q) % 7=(d+q) % 7:=aa;rw [e] at h1;exact h1
theorem ud_ {g:Nat->Bool} {s:aE} (h1:∀ c∈s.cls,tZ g c) (h2:∀ x∈s.ext,g (x.frm / 1440 % 7).toNat=true):uq g s:=by
 rintro x (⟨c,hc,⟨⟨t,ht,hm⟩,ho⟩,_⟩|hx)
 .have h3:=h1 c hc t ht x.day hm;have e1:x.frm=x.day*1440+c.min:=congrArg ai.frm ho;have e:x.frm / 1440=x.day+c.min / 1440:=aa;rw [e];exact h3
 exact h2 x hx
theorem GP {b:Nat} {t:TypeId} {x0 x1 x2 x3 x4 x5 x6 y0 y1 y2 y3 y4 y5 y6:Value} (h:af W b #[x0,x1,x2,x3,x4,x5,x6] t) :
  af (((((((W.setCell ⟨b,0,none⟩ y0).setCell ⟨b,1,none⟩ y1).setCell ⟨b,2,none⟩ y2).setCell ⟨b,3,none⟩ y3).setCell ⟨b,4,none⟩ y4).setCell ⟨b,5,none⟩ y5).setCell ⟨b,6,none⟩ y6) b #[y0,y1,y2,y3,y4,y5,y6] t:=by
 have h0:af _ b #[y0,x1,x2,x3,x4,x5,x6] t:=br 0 y0 h;have h1:af _ b #[y0,y1,x2,x3,x4,x5,x6] t:=br 1 y1 h0;have h2:af _ b #[y0,y1,y2,x3,x4,x5,x6] t:=br 2 y2 h1;have h3:af _ b #[y0,y1,y2,y3,x4,x5,x6] t:=br 3 y3 h2;have h4:af _ b #[y0,y1,y2,y3,y4,x5,x6] t:=br 4 y4 h3;have h5:af _ b #[y0,y1,y2,y3,y4,y5,x6] t:=br 5 y5 h4;exact br 6 y6 h5
theorem y0_ (h:r∈lL p 7):0<=r/\r<7:=by
 unfold lL upto at h;obtain ⟨i,hi,rfl⟩:=List.mem_map.1 (List.mem_filter.1 h).1;rw [List.mem_range] at hi;have:(7:Int).toNat=7:=rfl;omega
theorem Us {P:Int->Prop} (hk:k<l.length) (h:∀ x∈l.take k,P x) (hx:P (l.getD k 0)):∀ x∈l.take (k+1),P x:=by
 rw [List.take_succ_eq_append_getElem hk];intro x hm;rcases List.mem_append.1 hm with hm|hm
 .exact h x hm
 obtain rfl:x=l[k]:=by simpa using hm
 rw [List.getD_eq_getElem?_getD,List.getElem?_eq_getElem hk] at hx;exact hx
theorem Ints.elem {a:Option Addr} (h:Ints W (.slice a n c) l) (hk:k<l.length):∃ b o,a=some ⟨b,o,none⟩/\n=l.length/\W.cell? ⟨b,o+k,none⟩=some (.int .i64 (l.getD k 0))/\l.getD k 0∈l/\b<W.heap.size:=by
 obtain ⟨⟨a',c',he,_,_,h3⟩,_,_⟩:=h;injection he with e1 e2 e3
 rcases h3 with h3|⟨b,o,e4,hc⟩
 .rw [h3] at hk;simp at hk
 refine ⟨b,o,e1.trans e4,e2,hc k hk,?_,World.block_lt_of_cell? W _ (hc k hk)⟩;rw [List.getD_eq_getElem?_getD,List.getElem?_eq_getElem hk];exact List.getElem_mem hk
theorem Ints.far {g:Nat->Bool} {t:TypeId} (h:Ints W v l) (hB:af W B (fB g) t):l≠[]->∀ k,v.ownBlock=some k->k≠B:=by
 intro hl k hk e;subst e;obtain ⟨⟨a',c',rfl,_,_,h3⟩,_,_⟩:=h;rcases h3 with h3|⟨b,o,rfl,hc⟩
 .exact hl h3
 have h0:=hc 0 (List.length_pos_iff.2 hl);have hkb:b=k:=by simpa [Value.ownBlock] using hk
 subst hkb;have h1:=(hB.cells (o+0)).1;rw [h0] at h1;by_cases e7:o+0<7
 .rw [GG g e7] at h1;cases h1
 rw [Array.getElem?_eq_none (by show 7<=o+0;omega)] at h1;cases h1
theorem Ints.grown (h:Ints W v l) (hf:l≠[]->∀ k,v.ownBlock=some k->k≠B) (hg:W.grownBy W' (some B)):Ints W' v l:=
 h.keep (F:=λk=>k≠B) hf (aN.grown hg λh=>h rfl)
theorem sd_ (h c:Value) (p:Per) (w:World) (hp:bX w h c p) (hv:Valid p) :
  Calls Tryz.prog 97 #[an h c p.frm p.period] w λe w'=>∃ g,e=.returned (.agg (fB g))/\JM g p/\Below w.heap.size w w':=by
 obtain ⟨ax,cx,rfl⟩:∃ a c,h=.slice a p.head.length c:=by obtain ⟨⟨a,c,e,_⟩,_,_⟩:=hp.hd;exact ⟨a,c,e⟩
 obtain ⟨ay,cy,rfl⟩:∃ a k,c=.slice a p.cycle.length k:=by obtain ⟨⟨a,k,e,_⟩,_,_⟩:=hp.cy;exact ⟨a,k,e⟩
 have HR:=ad (λW (hb:Below w.heap.size w W)=>pr_ _ _ p 7 W (hp.ext hb) hv aF aF);simp only [an] at HR;have HP:=ad hp;have HV:=ad hv;have uZ:=hp.hd.len;clear hp hv;unfold an
 go_in
 go_wp2_with (go_at_call 128;(with_reducible refine (HR.o _ xE).mono ?_);rintro e w1 ⟨v,rfl,hi,hb1⟩;have HI:=ad hi;have bo:=ad hb1;have hw1:=hb1.size;simp only [World.size_alloc] at hw1;obtain ⟨⟨va,vc,Gh,_⟩,Js,_⟩:=hi;subst Gh;clear hb1)
 have fk:Below w.heap.size w w1:=Et xE bo.o;have h0:af w1 w.heap.size #[.slice ax p.head.length cx,.int .i64 p.frm,.int .i64 p.period,.slice ay p.cycle.length cy] 80:=af.below xB bo.o;have h1:af w1 (w.heap.size+1) #[.bool false,.bool false,.bool false,.bool false,.bool false,.bool false,.bool false] 93:=af.below xB bo.o;have h2:af w1 (w.heap.size+1+1) (fB λ_=>false) 93:=af.below xB bo.o;have H0:=ad h0;have H1:=ad h1;have H2:=ad h2;have ij:=ad fk;have qk:=ad (HI.o.far h2);have sB:=ad (HP.o.hd.ext fk);have YJ:=ad ((HP.o.hd.ext fk).far h2);have hzz:w.heap.size+1+1<w1.heap.size:=h2.lt;clear h0 h1 h2 fk;obtain ⟨l,hl⟩:∃ l,lL p 7=l:=⟨_,rfl⟩;have mE:=ad hl;rw [hl] at HI qk Js;simp only [hl];clear hl;go_loopw [7,17] (λ_ vi wr=>∃ (k:Nat) (g:Nat->Bool),k<=l.length/\vi=.int .i64 k/\Hid (∀ r∈l.take k,g r.toNat=true)/\Hid (af wr (w.heap.size+1+1) (fB g) 93)/\Hid (w1.grownBy wr (some (w.heap.size+1+1)))) (λ_ vi _=>l.length-(intOf vi).toNat)
 .exact ⟨0,_,aa,rfl,ad ag,H2,ad ⟨rfl,rfl,rfl,Nat.le_refl _,λ_ _ _=>rfl⟩⟩
 obtain ⟨k,g,hk,rfl,HS,HX,HG⟩:=hrel;have hwg:=HG.o.size;by_cases hlt:k<l.length
 .have dh:(k:Int)<l.length:=aa;obtain ⟨b8,f8,rfl,-,Fq,Af,-⟩:=(HI.o.grown qk.o HG.o).elem hlt;have dY:=y0_ (p:=p) (by rw [mE.o];exact Af);obtain ⟨r,hr⟩:∃ r,l.getD k 0=r:=⟨_,rfl⟩;rw [hr] at Fq Af dY;obtain ⟨r1,r2⟩:=dY;have sC:=ad hr;have B9:r.toNat<7:=aa;have q0:=HX.o.atW B9;have q1:=(HX.o.cells r.toNat).2;clear hr Af;go_wp2;go_roundw
  .exact ⟨k+1,eS g r.toNat true,aa,by go_num,ad (Us hlt (λx hx=>pz.upd _ _ _ (HS.o x hx)) (by rw [sC.o];exact JK _ _ _)),ad (HX.o.setW true B9),ad (World.grownBy.set' HG.o _)⟩
  simp [intOf];omega
 obtain rfl:k=l.length:=aa;have Hg:Hid (∀ r∈l,g r.toNat=true):=ad (by have:=HS.o;rwa [List.take_length] at this);have z0:=((((H0.o.cells 0).1)));have hz0:wr.cell? ⟨w.heap.size,0,none⟩=some (.slice ax p.head.length cx):=by
  have:af wr w.heap.size _ _:=(HG.o.block w.heap.size aa (by intro e;injection e with e;omega)).trans H0.o;exact (this.cells 0).1
 clear HS z0;go_wp2;go_loopw [9,27] (λ_ vi wq=>∃ (k:Nat) (g:Nat->Bool),k<=p.head.length/\vi=.int .i64 k/\Hid (∀ r∈l,g r.toNat=true)/\Hid (∀ d∈p.head.take k,g (d % 7).toNat=true)/\Hid (af wq (w.heap.size+1+1) (fB g) 93)/\Hid (w1.grownBy wq (some (w.heap.size+1+1)))) (λ_ vi _=>p.head.length-(intOf vi).toNat)
 .exact ⟨0,g,aa,rfl,Hg,ad ag,HX,HG⟩
 obtain ⟨k,g',eC,rfl,HS,dM,iQ,lR⟩:=hrel;by_cases hlt:k<p.head.length
 .have dh:(k:Int)<p.head.length:=aa;obtain ⟨b8,f8,rfl,-,Fq,Af,-⟩:=(sB.o.grown YJ.o lR.o).elem hlt;obtain ⟨d,hd⟩:∃ d,p.head.getD k 0=d:=⟨_,rfl⟩;rw [hd] at Fq Af;have sC:=ad hd;have zQ:=HV.o.wf.head.2 d Af;have zT:=HV.o.frm;obtain ⟨d1,d2⟩:=zQ;have HW:=λW=>Ie d W aa aa;obtain ⟨r,hr⟩:∃ r,d % 7=r:=⟨_,rfl⟩;have dY:0<=r/\r<7:=aa;obtain ⟨r1,r2⟩:=dY;rw [hr] at HW;have HW:=ad HW;have py:=ad hr;have B9:r.toNat<7:=aa;have q0:=iQ.o.atW B9;have q1:=(iQ.o.cells r.toNat).2;clear hr hd Af d1 d2 zT;go_wp2_with (go_at_call 71;refine (HW.o _).mono ?_;rintro e w5 ⟨rfl,rfl⟩);go_roundw
  .exact ⟨k+1,eS g' r.toNat true,aa,by go_num,ad (λx hx=>pz.upd _ _ _ (HS.o x hx)),ad (Us (P:=λd=>eS g' r.toNat true (d % 7).toNat=true) hlt (λx hx=>pz.upd _ _ _ (dM.o x hx)) (by rw [sC.o,py.o];exact JK _ _ _)),ad (iQ.o.setW true B9),ad (World.grownBy.set' lR.o _)⟩
  simp [intOf];omega
 obtain rfl:k=p.head.length:=aa;have yH:Hid (JM g' p):=ad (vr_ HV.o.wf (by rw [mE.o];exact HS.o) (by have:=dM.o;rwa [List.take_length] at this));have y0:=(iQ.o.cells 0).1;have y1:=(iQ.o.cells 1).1;have y2:=(iQ.o.cells 2).1;have y3:=(iQ.o.cells 3).1;have y4:=(iQ.o.cells 4).1;have y5:=(iQ.o.cells 5).1;have y6:=(iQ.o.cells 6).1;have hres:af wr (w.heap.size+1) _ _:=(lR.o.block (w.heap.size+1) aa (by intro e;injection e with e;omega)).trans H1.o;have j0:=(hres.cells 0);have j1:=(hres.cells 1);have j2:=(hres.cells 2);have j3:=(hres.cells 3);have j4:=(hres.cells 4);have j5:=(hres.cells 5);have j6:=(hres.cells 6);have iu:=ad hres;have Ke:Hid (Below w.heap.size w wr):=ad (ij.o.grown lR.o aa (λk e=>by injection e with e;omega));clear hres;go_wp2_with fail;have aL:=GP (y0:=.bool (g' 0)) (y1:=.bool (g' 1)) (y2:=.bool (g' 2)) (y3:=.bool (g' 3)) (y4:=.bool (g' 4)) (y5:=.bool (g' 5)) (y6:=.bool (g' 6)) iu.o;have s0:=(aL.cells 0).1;have s1:=(aL.cells 1).1;have s2:=(aL.cells 2).1;have s3:=(aL.cells 3).1;have s4:=(aL.cells 4).1;have s5:=(aL.cells 5).1;have s6:=(aL.cells 6).1;have jL:=Ke.o
 trace_state
 exact bodyPost_ret (v:=.agg (fB g')) (by simp [results,Tryz.results97,go_sem,s0,s1,s2,s3,s4,s5,s6]) rfl ⟨g',rfl,yH.o,xE⟩
theorem XG (f:Nat->Bool) {r:Nat} (h:r<7) (W:World):(Instr.index 93 (.agg #[.bool (f 0),.bool (f 1),.bool (f 2),.bool (f 3),.bool (f 4),.bool (f 5),.bool (f 6)]) (.int .i64 r)).run Tryz.prog W=.ok (.bool (f r)) W:=by
 have i0:∀ W,(Instr.index 93 (.agg #[.bool (f 0),.bool (f 1),.bool (f 2),.bool (f 3),.bool (f 4),.bool (f 5),.bool (f 6)]) (.int .i64 0)).run Tryz.prog W=.ok (.bool (f 0)) W:=λ_=>by kernel_rfl
 have i1:∀ W,(Instr.index 93 (.agg #[.bool (f 0),.bool (f 1),.bool (f 2),.bool (f 3),.bool (f 4),.bool (f 5),.bool (f 6)]) (.int .i64 1)).run Tryz.prog W=.ok (.bool (f 1)) W:=λ_=>by kernel_rfl
 have i2:∀ W,(Instr.index 93 (.agg #[.bool (f 0),.bool (f 1),.bool (f 2),.bool (f 3),.bool (f 4),.bool (f 5),.bool (f 6)]) (.int .i64 2)).run Tryz.prog W=.ok (.bool (f 2)) W:=λ_=>by kernel_rfl
 have i3:∀ W,(Instr.index 93 (.agg #[.bool (f 0),.bool (f 1),.bool (f 2),.bool (f 3),.bool (f 4),.bool (f 5),.bool (f 6)]) (.int .i64 3)).run Tryz.prog W=.ok (.bool (f 3)) W:=λ_=>by kernel_rfl
 have i4:∀ W,(Instr.index 93 (.agg #[.bool (f 0),.bool (f 1),.bool (f 2),.bool (f 3),.bool (f 4),.bool (f 5),.bool (f 6)]) (.int .i64 4)).run Tryz.prog W=.ok (.bool (f 4)) W:=λ_=>by kernel_rfl
 have i5:∀ W,(Instr.index 93 (.agg #[.bool (f 0),.bool (f 1),.bool (f 2),.bool (f 3),.bool (f 4),.bool (f 5),.bool (f 6)]) (.int .i64 5)).run Tryz.prog W=.ok (.bool (f 5)) W:=λ_=>by kernel_rfl
 have i6:∀ W,(Instr.index 93 (.agg #[.bool (f 0),.bool (f 1),.bool (f 2),.bool (f 3),.bool (f 4),.bool (f 5),.bool (f 6)]) (.int .i64 6)).run Tryz.prog W=.ok (.bool (f 6)) W:=λ_=>by kernel_rfl
 have:r=0\/r=1\/r=2\/r=3\/r=4\/r=5\/r=6:=aa;rcases this with rfl|rfl|rfl|rfl|rfl|rfl|rfl
 .exact i0 W
 .exact i1 W
 .exact i2 W
 .exact i3 W
 .exact i4 W
 .exact i5 W
 exact i6 W
theorem Vn (h:dU m=true):m.length<=64/\∀ t∈m,t.length<=4/\∀ p∈t,Valid p:=by
 unfold dU at h;rw [Bool.and_eq_true,decide_eq_true_iff,List.all_eq_true] at h;refine ⟨h.1,λt ht=>?_⟩;have h2:=h.2 t ht;unfold gM at h2;rw [Bool.and_eq_true,Bool.and_eq_true,decide_eq_true_iff,decide_eq_true_iff,List.all_eq_true] at h2;exact ⟨h2.1.2,λp hp=>(oL p).1 (h2.2 p hp)⟩
structure lV (w:World) (c:Array Value) (g:Nat->Bool) (W:World):Prop where
 b0:af W w.heap.size c 43
 b1:af W (w.heap.size+1) #[.bool false,.bool false,.bool false,.bool false,.bool false,.bool false,.bool false] 93
 b2:af W (w.heap.size+1+1) (fB g) 93
 below:Below w.heap.size w W
theorem lV.ext {c:Array Value} {g:Nat->Bool} (h:lV w c g W) (hb:Below W.heap.size W W'):lV w c g W':=⟨h.b0.below hb,h.b1.below hb,h.b2.below hb,h.below.trans (hb.mono h.below.size)⟩
theorem lV.far {c:Array Value} {g:Nat->Bool} (h:lV w c g W) (hg:W.grownBy W' (some k)) (hk:w.heap.size+1+1<k):lV w c g W':=by
 have hl:=h.b2.lt;exact ⟨(hg.block _ aa (by rintro ⟨⟩;omega)).trans h.b0,(hg.block _ aa (by rintro ⟨⟩;omega)).trans h.b1,(hg.block _ aa (by rintro ⟨⟩;omega)).trans h.b2,h.below.grown hg h.below.size λq e=>by injection e with e;omega⟩
theorem lV.set {c:Array Value} {g:Nat->Bool} {r:Nat} (h:lV w c g W) (hr:r<7):lV w c (eS g r true) (W.setCell ⟨w.heap.size+1+1,r,none⟩ (.bool true)):=
 ⟨h.b0.setNe _ aa,h.b1.setNe _ aa,h.b2.setW true hr,h.below.setCell (p:=⟨w.heap.size+1+1,r,none⟩) (by show w.heap.size<=w.heap.size+1+1;omega) _⟩
theorem Nv {α:Type} {P:α->Prop} {d:α} {l:List α} (hk:k<l.length) (h:∀ x∈l.take k,P x) (hx:P (l.getD k d)):∀ x∈l.take (k+1),P x:=by
 rw [List.take_succ_eq_append_getElem hk];intro x hm;rcases List.mem_append.1 hm with hm|hm
 .exact h x hm
 obtain rfl:x=l[k]:=by simpa using hm
 rw [List.getD_eq_getElem?_getD,List.getElem?_eq_getElem hk] at hx;exact hx
theorem pg_ (F:Nat->Prop) (cv ev:Value) (s:aE) (w:World) (h:bq w F cv ev s) (hv:mN dU s) :
  Calls Tryz.prog 52 #[.agg #[cv,.int .i64 s.len,ev]] w λe w'=>∃ g,e=.returned (.agg (fB g))/\uq g s/\Below w.heap.size w w':=by
 obtain ⟨L,hS⟩:=h;obtain ⟨a1,c1,rfl⟩:=hS.cl.form;obtain ⟨a2,c2,rfl⟩:=hS.ex.form;have BM:=hS.cl.len;have Z3:=hS.ex.len;have hlc:s.cls.length=L.length:=by rw [<- hS.eq,List.length_map]
 have HS:=ad hS;have HV:=ad hv;have yj:=ad hlc;clear hS hv hlc;obtain ⟨cs,hcs⟩:∃ cs:Array Value,cs=#[.slice a1 L.length c1,.int .i64 s.len,.slice a2 s.ext.length c2]:=⟨_,rfl⟩;have HCS:=ad hcs;have Dv:Hid (lV w cs (λ_=>false) (((w.alloc (.cells cs 43)).alloc (.cells #[.bool false,.bool false,.bool false,.bool false,.bool false,.bool false,.bool false] 93)).alloc (.cells #[.bool false,.bool false,.bool false,.bool false,.bool false,.bool false,.bool false] 93))):=
  ad ⟨xB,xB,af.at ag,xE⟩
 rw [hcs] at Dv;clear hcs
 go_in
 go_wp2
 go_loopw [5,7,8,10,11,12,13,14,20] (λ_ _ _ _ _ _ _ _ vi wr=>∃ (k:Nat) (g:Nat->Bool),k<=L.length/\vi=.int .i64 k/\Hid (∀ c∈s.cls.take k,tZ g c)/\Hid (lV w #[.slice a1 L.length c1,.int .i64 s.len,.slice a2 s.ext.length c2] g wr)) (λ_ _ _ _ _ _ _ _ vi _=>L.length-(intOf vi).toNat)
 .exact ⟨0,_,aa,rfl,ad ag,Dv⟩
 obtain ⟨k,g,hk,rfl,HC,HP⟩:=hrel;obtain ⟨wk,r_⟩:∃ x,x=wr:=⟨_,rfl⟩;subst r_;have hwr:=HP.o.b2.lt;by_cases hlt:k<L.length
 .have dh:(k:Int)<L.length:=aa;obtain ⟨b,o,av,cv,m,mi,rfl,hbl,e0,e1,hm,rL,hD⟩:=HS.o.cl.get hlt;have SF:=al.cell HP.o.below e0;have mS:=al.cell HP.o.below e1;have og:k<s.cls.length:=by rw [yj.o];exact hlt
  have hcl:s.cls.getD k default=⟨m,mi⟩:=by rw [<- HS.o.eq];exact hD
  have hmem:(⟨m,mi⟩:eA)∈s.cls:=by rw [<- hcl,fG og];exact List.getElem_mem og
  obtain ⟨kj,hb1,hb2⟩:=HV.o.cl hmem;obtain ⟨dt,eQ⟩:=Vn kj;have hb1:-4320<=mi:=hb1;have hb2:mi<=4320:=hb2;have dt:m.length<=64:=dt;obtain ⟨L2,hL2,hM⟩:=hm;have hl2:m.length=L2.length:=by rw [<- hL2,List.length_map]
  have HM:=ad hM;have fT:=ad hL2;have yk:=ad hl2;have tV:=ad eQ;have dw:=ad hcl;have KI:=ad og;obtain ⟨q,hq⟩:∃ q,mi / 1440=q:=⟨_,rfl⟩;have HQ:=ad hq;have ef:-3<=q/\q<=3:=aa;obtain ⟨q1,q2⟩:=ef;have kt:=ad (λW=>Ih mi W aa aa);rw [hq] at kt;have Km:Hid (af (wk.alloc (.cells #[.slice av m.length cv,.int .i64 mi] 59)) wk.heap.size #[.slice av m.length cv,.int .i64 mi] 59):=ad (af.new _ _ _);have kA:=ad (HP.o.ext (Ea (Er _) (.cells #[.slice av m.length cv,.int .i64 mi] 59)));clear hM hL2 hl2 eQ hcl og hq hmem kj e0 e1 hD rL;go_wp2;go_loopw [7,8,10,11,12,13,14,28] (λ_ _ _ _ _ _ _ vi wq=>∃ (i:Nat) (g2:Nat->Bool),i<=m.length/\vi=.int .i64 i/\Hid (∀ t∈m.take i,we g2 q t)/\Hid (∀ c∈s.cls.take k,tZ g2 c)/\Hid (lV w #[.slice (some ⟨b,o,none⟩) L.length c1,.int .i64 s.len,.slice a2 s.ext.length c2] g2 wq)/\Hid (af wq wk.heap.size #[.slice av m.length cv,.int .i64 mi] 59)) (λ_ _ _ _ _ _ _ vi _=>m.length-(intOf vi).toNat)
  .exact ⟨0,g,aa,rfl,ad ag,HC,kA,Km⟩
  obtain ⟨i,g2,hi,rfl,HT,kS,Hc,lP⟩:=hrel;obtain ⟨wq,Ju⟩:∃ x,x=wr:=⟨_,rfl⟩;subst Ju;have Ju:=lP.o.lt;by_cases hlt2:i<m.length
  .have Ae:(i:Int)<m.length:=aa;obtain ⟨b2,o2,SB,at_,nt,ct,t,Gh,et,om,td⟩:=HM.o.at (k:=i) (by rw [<- yk.o];exact hlt2);injection Gh with iZ hv2 hv3
   subst iZ;have et':=al.cell Hc.o.below et;rw [fT.o] at td;have jR:t∈m:=List.mem_of_getElem? td;obtain ⟨gT,hvp⟩:=tV.o t jR;obtain ⟨ZC,ZH,Pz,_⟩:=om.form;injection Pz with oi xq rW
   subst xq;obtain ⟨L3,hL3,EY⟩:=om;have hl3:t.length=L3.length:=by rw [<- hL3,List.length_map]
   have LK:=ad EY;have KK:=ad hL3;have yl:=ad hl3;have Zp:=ad hvp;have lU:Hid (m.getD i []=t):=ad (by rw [List.getD_eq_getElem?_getD,td];rfl);have Kz:Hid (af (wq.alloc (.cells #[.bool true,.bool true,.bool true,.bool true,.bool true,.bool true,.bool true] 93)) wq.heap.size (fB λ_=>true) 93):=ad (af.new _ _ _);have oE:=ad (Hc.o.ext (Ea (Er _) (.cells #[.bool true,.bool true,.bool true,.bool true,.bool true,.bool true,.bool true] 93)));have Yx:=ad (lP.o.alloc (.cells #[.bool true,.bool true,.bool true,.bool true,.bool true,.bool true,.bool true] 93));have hpc:=Hc.o.b2.lt;clear EY hL3 hl3 hvp td jR et hv2 hv3 oi rW;go_wp2;go_loopw [10,11,12,35] (λ_ _ _ vi w3=>∃ (j:Nat) (h:Nat->Bool),j<=t.length/\vi=.int .i64 j/\Hid (uv h (t.take j))/\Hid (af w3 wq.heap.size (fB h) 93)/\Hid (lV w #[.slice (some ⟨b,o,none⟩) L.length c1,.int .i64 s.len,.slice a2 s.ext.length c2] g2 w3)/\Hid (af w3 wk.heap.size #[.slice (some ⟨b2,o2,none⟩) m.length cv,.int .i64 mi] 59)) (λ_ _ _ vi _=>t.length-(intOf vi).toNat)
   .exact ⟨0,_,aa,rfl,ad (uv.nil λ_ _=>rfl),Kz,oE,Yx⟩
   obtain ⟨j,h,hj,rfl,yH,tC,sB,GU⟩:=hrel;obtain ⟨w3,hw3⟩:∃ x,x=wr:=⟨_,rfl⟩;subst hw3;have hw3:=tC.o.lt;by_cases hlt3:j<t.length
   .have OW:(j:Int)<t.length:=aa;obtain ⟨b3,o3,x,AG,hx,cS,hb3,y0,y1,y2,y3⟩:=LK.o.get (k:=j) (by rw [<- yl.o];exact hlt3);subst AG;rw [KK.o] at cS;obtain ⟨xh,xc,xp⟩:=x;obtain ⟨d_,eh,ed,eH,eR,dP,rfl,rfl⟩:=hx.form;dsimp only at y0 y1 y2 y3 cS;have z0:=al.cell sB.o.below y0;have z1:=al.cell sB.o.below y1;have z2:=al.cell sB.o.below y2;have z3:=al.cell sB.o.below y3;have B8:xp∈t:=by rw [cS,fG hlt3];exact List.getElem_mem hlt3
    have YH:=ad (λW (hb:Below w.heap.size w W)=>show Calls _ _ #[.agg #[.slice d_ eh ed,.int .i64 xp.frm,.int .i64 xp.period,.slice eH eR dP]] W _ from sd_ (.slice d_ eh ed) (.slice eH eR dP) xp W (hx.is.ext hb) (Zp.o xp B8));have jf:Hid (t.take (j+1)=t.take j ++ [xp]):=ad (by rw [List.take_succ_eq_append_getElem hlt3,cS,fG hlt3]);clear y0 y1 y2 y3 cS B8 hx;go_wp2_with (go_at_call 97;(with_reducible refine (YH.o _ (Ea sB.o.below _)).mono ?_);rintro e w9 ⟨f,rfl,hf,bg⟩;have HF:=ad hf;have jc:=ad (Et (Ea (Er w3) _) bg);clear hf bg);have G5:=ad (tC.o.below jc.o);have tQ:=ad (sB.o.ext jc.o);have Yy:=ad (GU.o.below jc.o);go_loopw [11,12,41] (λ_ _ vi w4=>∃ r:Nat,r<=7/\vi=.int .i64 r/\Hid (af w4 wq.heap.size (fB (gL h f r)) 93)/\Hid (lV w #[.slice (some ⟨b,o,none⟩) L.length c1,.int .i64 s.len,.slice a2 s.ext.length c2] g2 w4)/\Hid (af w4 wk.heap.size #[.slice (some ⟨b2,o2,none⟩) m.length cv,.int .i64 mi] 59)) (λ_ _ vi _=>7-(intOf vi).toNat)
    .exact ⟨0,aa,rfl,by rw [tz_];exact G5,tQ,Yy⟩
    obtain ⟨r,hr,rfl,tA,Sd,GT⟩:=hrel;obtain ⟨w4,hw4⟩:∃ x,x=wr:=⟨_,rfl⟩;subst hw4;by_cases hlt4:r<7
    .have OX:(r:Int)<7:=aa;have hix:=XG f hlt4 w4;obtain ⟨bv,mZ⟩:∃ bv,gL h f r r=bv:=⟨_,rfl⟩;have i0:=tA.o.atW hlt4;rw [mZ] at i0;have i1:=(tA.o.cells r).2;have HST:Hid (∀ u,u=(bv && f r)->af (w4.setCell ⟨wq.heap.size,r,none⟩ (.bool u)) wq.heap.size (fB (gL h f (r+1))) 93):=ad λu hu=>by
      have:=tA.o.setW u hlt4;rw [<- ty_,mZ,<- hu];exact this
     have lS:=ad (λu=>Sd.o.far (W':=w4.setCell ⟨wq.heap.size,r,none⟩ u) (World.grownBy.set' ⟨rfl,rfl,rfl,Nat.le_refl _,λ_ _ _=>rfl⟩ _) aa);have CF:=ad (λu=>GT.o.setNe (k:=wq.heap.size) (i:=r) u aa);clear mZ;cases bv
     .go_wp2
      go_roundw
      .exact ⟨r+1,aa,by go_num,ad (HST.o _ rfl),ad (lS.o _),ad (CF.o _)⟩
      simp [intOf];omega
     go_wp2
     go_roundw
     .exact ⟨r+1,aa,by go_num,ad (HST.o _ rfl),ad (lS.o _),ad (CF.o _)⟩
     simp [intOf];omega
    obtain rfl:r=7:=aa;go_wp2;go_roundw
    .exact ⟨j+1,gL h f 7,aa,by go_num,ad (by rw [jf.o];exact yH.o.step HF.o),tA,Sd,GT⟩
    simp [intOf];omega
   obtain rfl:j=t.length:=aa;have Zf:Hid (uv h t):=ad (by have:=yH.o;rwa [List.take_length] at this);have i0:=tC.o.atW (r:=0) aa;have i1:=tC.o.atW (r:=1) aa;have i2:=tC.o.atW (r:=2) aa;have i3:=tC.o.atW (r:=3) aa;have i4:=tC.o.atW (r:=4) aa;have i5:=tC.o.atW (r:=5) aa;have i6:=tC.o.atW (r:=6) aa;clear yH;go_wp2;go_loopw [13,14,56] (λ_ _ vi w5=>∃ (r:Nat) (g3:Nat->Bool),r<=7/\vi=.int .i64 r/\Hid (pF h q g3 r)/\Hid (∀ t∈m.take i,we g3 q t)/\Hid (∀ c∈s.cls.take k,tZ g3 c)/\Hid (lV w #[.slice (some ⟨b,o,none⟩) L.length c1,.int .i64 s.len,.slice a2 s.ext.length c2] g3 w5)/\Hid (af w5 wk.heap.size #[.slice (some ⟨b2,o2,none⟩) m.length cv,.int .i64 mi] 59)) (λ_ _ vi _=>7-(intOf vi).toNat)
   .exact ⟨0,g2,aa,rfl,ad pF.zero,HT,kS,sB,GU⟩
   obtain ⟨r,g3,hr,rfl,je,DE,Kk,Dw,cr⟩:=hrel;obtain ⟨w5,xu⟩:∃ x,x=wr:=⟨_,rfl⟩;subst xu;by_cases hlt4:r<7
   .have OX:(r:Int)<7:=aa;have hix:=XG h hlt4 w5;have f1:=(cr.o.cells 1).1;obtain ⟨bv,mZ⟩:∃ bv,h r=bv:=⟨_,rfl⟩;have CC:=ad mZ;rw [mZ] at hix;clear mZ;cases bv
    .go_wp2
     go_roundw
     .exact ⟨r+1,g3,aa,by go_num,ad (je.o.skip CC.o),DE,Kk,Dw,cr⟩
     simp [intOf];omega
    have HW:=λW=>Ie ((r:Int)+q) W aa aa;obtain ⟨z,hz⟩:∃ z,((r:Int)+q) % 7=z:=⟨_,rfl⟩;have hzb:0<=z/\z<7:=aa;obtain ⟨z1,z2⟩:=hzb;rw [hz] at HW;have HW:=ad HW;have HZ:=ad hz;have xC:z.toNat<7:=aa;have p0:=Dw.o.b2.atW xC;have p1:=(Dw.o.b2.cells z.toNat).2;clear hz;go_wp2_with (first|(go_at_call 70;(with_reducible refine (kt.o _).mono ?_);rintro e w6 ⟨rfl,rfl⟩)|(go_at_call 71;(with_reducible refine (HW.o _).mono ?_);rintro e w7 ⟨rfl,rfl⟩));go_roundw
    .exact ⟨r+1,eS g3 z.toNat true,aa,by go_num,ad (by rw [<- HZ.o];exact je.o.take),ad (λt ht=>(DE.o t ht).mono (pz.upd _ _)),ad (λc hc=>(Kk.o c hc).mono (pz.upd _ _)),ad (Dw.o.set xC),ad (cr.o.setNe _ aa)⟩
    simp [intOf];omega
   obtain rfl:r=7:=aa;go_wp2;go_roundw
   .exact ⟨i+1,g3,aa,by go_num,ad (Nv (d:=[]) hlt2 DE.o (by rw [lU.o];exact je.o.done Zf.o)),Kk,Dw,cr⟩
   simp [intOf];omega
  obtain rfl:i=m.length:=aa;have Zk:Hid (∀ t∈m,we g2 q t):=ad (by have:=HT.o;rwa [List.take_length] at this);clear HT;go_wp2;go_roundw
  .exact ⟨k+1,g2,aa,by go_num,ad (Nv (d:=default) KI.o kS.o (by rw [dw.o];intro t ht;have:=Zk.o t ht;rw [<- HQ.o] at this;exact this)),Hc⟩
  simp [intOf];omega
 obtain rfl:k=L.length:=aa;have Kl:Hid (∀ c∈s.cls,tZ g c):=ad (by have:=HC.o;rwa [<- yj.o,List.take_length] at this);have p2:=(HP.o.b0.cells 2).1;clear HC;go_wp2;go_loopw [16,74] (λ_ vi wx=>∃ (k:Nat) (g:Nat->Bool),k<=s.ext.length/\vi=.int .i64 k/\Hid (∀ c∈s.cls,tZ g c)/\Hid (∀ x∈s.ext.take k,g (x.frm / 1440 % 7).toNat=true)/\Hid (lV w #[.slice a1 L.length c1,.int .i64 s.len,.slice a2 s.ext.length c2] g wx)) (λ_ vi _=>s.ext.length-(intOf vi).toNat)
 .exact ⟨0,g,aa,rfl,Kl,ad ag,HP⟩
 obtain ⟨k,g,hk,rfl,HC,HX,HP⟩:=hrel;have hwx:=HP.o.b2.lt;by_cases hlt:k<s.ext.length
 .have dh:(k:Int)<s.ext.length:=aa;obtain ⟨b',o',y,Fb,dD,hy,oo,e0,e1,e2⟩:=(HS.o.ex).get hlt;subst Fb;have z0:=al.cell HP.o.below e0;have z1:=al.cell HP.o.below e1;have z2:=al.cell HP.o.below e2;have hg:=HV.o.ins (x:=y) (by rw [<- hy,fG hlt];exact List.getElem_mem hlt);obtain ⟨_,⟨g1,g2⟩,_,_⟩:=hg;have HF:=λW=>Ih y.frm W aa aa;obtain ⟨d,hd⟩:∃ d,y.frm / 1440=d:=⟨_,rfl⟩;rw [hd] at HF;have HF:=ad HF;have HW:=λW=>Ie d W aa aa;obtain ⟨z,hz⟩:∃ z,d % 7=z:=⟨_,rfl⟩;have hzb:0<=z/\z<7:=aa;obtain ⟨zz1,zz2⟩:=hzb;rw [hz] at HW;have HW:=ad HW;have HZ:=ad (show (s.ext.getD k default).frm / 1440 % 7=z by rw [hy,hd,hz]);have xC:z.toNat<7:=aa;have p0:=HP.o.b2.atW xC;have p1:=(HP.o.b2.cells z.toNat).2;clear hz hd e0 e1 e2 hy oo;go_wp2_with (first|(go_at_call 70;(with_reducible refine (HF.o _).mono ?_);rintro e w6 ⟨rfl,rfl⟩)|(go_at_call 71;(with_reducible refine (HW.o _).mono ?_);rintro e w7 ⟨rfl,rfl⟩));go_roundw
  .exact ⟨k+1,eS g z.toNat true,aa,by go_num,ad (λc hc=>(HC.o c hc).mono (pz.upd _ _)),ad (Nv (P:=λx:ai=>eS g z.toNat true (x.frm / 1440 % 7).toNat=true) (d:=default) hlt (λx hx=>pz.upd _ _ _ (HX.o x hx)) (by rw [HZ.o];exact JK _ _ _)),ad ((HP.o.set xC).ext (Ea (Er _) _))⟩
  simp [intOf];omega
 obtain rfl:k=s.ext.length:=aa;have yu:Hid (uq g s):=ad (ud_ HC.o (by have:=HX.o;rwa [List.take_length] at this));have y0:=HP.o.b2.atW (r:=0) aa;have y1:=HP.o.b2.atW (r:=1) aa;have y2:=HP.o.b2.atW (r:=2) aa;have y3:=HP.o.b2.atW (r:=3) aa;have y4:=HP.o.b2.atW (r:=4) aa;have y5:=HP.o.b2.atW (r:=5) aa;have y6:=HP.o.b2.atW (r:=6) aa;have j0:=HP.o.b1.cells 0;have j1:=HP.o.b1.cells 1;have j2:=HP.o.b1.cells 2;have j3:=HP.o.b1.cells 3;have j4:=HP.o.b1.cells 4;have j5:=HP.o.b1.cells 5;have j6:=HP.o.b1.cells 6;go_wp2_with fail;have aL:=GP (y0:=.bool (g 0)) (y1:=.bool (g 1)) (y2:=.bool (g 2)) (y3:=.bool (g 3)) (y4:=.bool (g 4)) (y5:=.bool (g 5)) (y6:=.bool (g 6)) HP.o.b1;have s0:=(aL.cells 0).1;have s1:=(aL.cells 1).1;have s2:=(aL.cells 2).1;have s3:=(aL.cells 3).1;have s4:=(aL.cells 4).1;have s5:=(aL.cells 5).1;have s6:=(aL.cells 6).1;have jL:=HP.o.below;exact bodyPost_ret (v:=.agg (fB g)) (by simp [results,Tryz.results52,go_sem,s0,s1,s2,s3,s4,s5,s6]) rfl ⟨g,rfl,yu.o,xE⟩
theorem nm_ {l:List ai}:∀ u∈l.flatMap cV,u.oneCell'=true:=λu hu=>by
 obtain ⟨x,_,hx⟩:=List.mem_flatMap.1 hu;unfold cV at hx;simp at hx;rcases hx with rfl|rfl|rfl <;> rfl
theorem s2_ (F:Nat->Prop) (v:Value) (l:List ai) (w:World) (h:b_ w F v l) (hl:l.length<=1000000) :
  Calls Tryz.prog 95 #[v] w λe w'=>∃ a c,e=.returned (.slice a l.length c)/\b_ w' (λb=>w.heap.size<=b/\b<w'.heap.size) (.slice a l.length c) l/\Below w.heap.size w w':=by
 obtain ⟨a1,c1,rfl⟩:=h.form;obtain ⟨i,hi,h1,h2,h3⟩:=Xe;have HI:=ad (And.intro hi (And.intro h1 (And.intro h2 h3)));have HX:=ad (λW (hb:Below w.heap.size w W)=>(h.ext hb).row);have HA:=ad h.all;have FP:=h.len;obtain ⟨a',c',he,g1,g2,g3⟩:=h.row;injection he with e1 _ e2
 subst e1;subst e2;clear h hi h1 h2 h3;cases a1 with
 | none=>
  have hl0:l=[]:=by
   rcases g3 with g3|⟨b,o,e,_⟩
   .exact List.eq_nil_of_length_eq_zero g3
   cases e
  subst hl0;have hnil:(binOp .eql 41 (.slice none 0 c1) (.slice none 0 0)).run Tryz.prog w=.ok (.bool true) w:=Lib.run_eql_slice_nil w 41 46 none 0 c1 0 0 rfl;simp only [List.length_nil]
  go_in
  go_wp2;go_ret;exact ⟨none,0,rfl,⟨⟨none,0,rfl,ag,aa,.inl rfl⟩,ag,ag⟩,Below.refl _ _⟩
 | some a0=>
  have hnil:(binOp .eql 41 (.slice (some a0) l.length c1) (.slice none 0 0)).run Tryz.prog w=.ok (.bool false) w:=Lib.run_eql_slice_nil w 41 46 (some a0) l.length c1 0 0 rfl;clear g3
  go_in
  go_wp2_with (at_builtin;(refine Nn az _ _ _ _ az i _ 3 24 Tryz.underlying41 HI.o.1 HI.o.2.1 HI.o.2.2.1 HI.o.2.2.2 rfl aF aF w.heap.size (.slice (some ⟨w.heap.size,0,none⟩) 0 0) (.slice (some a0) l.length c1) 0 l.length [] (l.flatMap cV) F az ⟨rfl,.inr ⟨w.heap.size,0,#[],rfl,Nat.le_refl _,World.alloc_heap_new w _,Nat.le_refl _,by simp [maxLen],rfl,rfl⟩⟩ az (HX.o _ (Ea (Er w) _)) (Eh Jr l) nm_ aa ag ?_);intro v5 w5 aw aH jO;rw [Nat.zero_add,List.nil_append] at aw;obtain ⟨xG,xH,rfl⟩:=k_ aw)
  go_ret;have hb5:Below w.heap.size w w5:=(Ea (Er w) _).trans (Below.grown (Below.refl _ _) aH ag (λk e=>by simp [Value.ownBlock] at e;omega));refine ⟨xG,xH,rfl,⟨?_,FP,λx hx=>HA.o x hx⟩,hb5⟩;have hR:e_ w.heap.size (λ_=>False) w5 (.slice xG l.length xH) l:=⟨aw,λx hx=>HA.o x hx,λ_ _ h=>h,hl⟩;obtain ⟨a9,c9,e9,k1,k2,k3⟩:=hR.rowR;refine ⟨a9,c9,e9,k1,k2,k3.imp id ?_⟩;rintro ⟨b,o,e,hF,hl',hc⟩;exact ⟨b,o,e,⟨hF.1,hl'⟩,hl',hc⟩
theorem aV.low {α:Type} {e:TypeId} {enc:α->List Value} {R:World->(Nat->Prop)->α->Prop} {A:Nat->Prop} {L:List α} (hR:uB R) (h:aV e sz enc R B A W v L) (hg:W.grownBy W' (some k)) (hk:k<B):aV e sz enc R B A W' v L:=
 ⟨h.row.kept hg (.inr λe=>by have:=(h.row.lt k e).1;omega),λx hx=>hR.keep (h.all x hx) (aN.grown hg λhf=>by have:=hf.1;omega) hg.size,h.ne,h.len⟩
theorem um {b:Nat} {c:Array Value} {t:TypeId} (h:af W b c t):∀ j u,c.toList[j]? = some u->W.cell? ⟨b,j,none⟩=some u:=λj u hu=>by
 rw [(h.cells j).1,<- hu];simp
def JG (s:aE) (w:World) (e:Ending) (w':World):Prop:=∃ a1 c1 a2 c2,e=.returned (.agg #[.slice a1 s.cls.length c1,.int .i64 s.len,.slice a2 s.ext.length c2])/\bq w' (λb=>w.heap.size<=b/\b<w'.heap.size) (.slice a1 s.cls.length c1) (.slice a2 s.ext.length c2) s/\Below w.heap.size w w'
theorem s7_ (F:Nat->Prop) (cv ev:Value) (s:aE) (w:World) (h:bq w F cv ev s) (hv:mN dU s) :
  Calls Tryz.prog 51 #[.agg #[cv,.int .i64 s.len,ev]] w (JG s w):=by
 obtain ⟨L,hS⟩:=h;obtain ⟨a1,c1,rfl⟩:=hS.cl.form;obtain ⟨a2,c2,rfl⟩:=hS.ex.form;have BM:=hS.cl.len;have Z3:=hv.next;have hlc:s.cls.length=L.length:=by rw [<- hS.eq,List.length_map]
 have Jd:=hv.ncls;have HS:=ad hS;have HV:=ad hv;have yj:=ad hlc;have dw:=ad (λW (hb:Below w.heap.size w W)=>s2_ F _ s.ext W (hS.ex.ext hb) aa);clear hS hv hlc
 go_in
 go_upto_region 1 with (fail)
 refine iR (F:=λU=>af U w.heap.size #[.slice a1 L.length c1,.int .i64 s.len,.slice a2 s.ext.length c2] 43/\af U (w.heap.size+1) #[.slice none 0 0,.int .i64 0,.slice none 0 0] 43/\Below w.heap.size w U) ⟨xB,xB,xE⟩ ?_;rintro W0 ⟨hx0,hx1,eo⟩;have x0:=(hx0.cells 0).1;have x1:=(hx0.cells 1).1;have x2:=(hx0.cells 2).1;have H0:=ad hx0;have H1:=ad hx1;have hz0:w.heap.size+1<W0.heap.size:=hx1.lt;clear hx0 hx1;refine oK (w0:=W0) [0,1,2,3,4,5,6] [7] (λv=>⟨#[.agg #[.slice a1 L.length c1,.int .i64 s.len,.slice a2 s.ext.length c2],.pointer (some ⟨w.heap.size,0,none⟩),.pointer (some ⟨w.heap.size+1,0,none⟩),v 6,undef,undef,undef,undef,undef,undef,undef,undef,v 0,v 1,v 2,v 3,v 4,v 5,undef,undef,undef,undef,undef,undef,undef,undef,undef,undef,undef,undef,undef,undef,undef,undef,undef,undef,undef,undef,undef,undef,undef,undef,undef,undef,undef,undef,undef,undef,undef,undef,undef,undef,undef,undef,undef,undef,undef,undef,undef,undef,undef,undef,undef,undef,undef,undef,undef,undef,undef,undef,undef,undef],[]⟩) [.pointer (some ⟨w.heap.size,1,none⟩),.int .i64 s.len,.pointer (some ⟨w.heap.size,2,none⟩),.slice a2 s.ext.length c2,undef,undef,undef] [4,5,6] (λi v lo hi W=>match i with|4=>∃ a c,v 4=.slice a s.ext.length c/\b_ W (λb=>lo 4<=b/\b<hi 4) (v 4) s.ext|5=>v 5=.agg #[.slice none 0 0,.int .i64 s.len,v 4]|6=>v 6=.pointer (some ⟨lo 6,0,none⟩)/\lo 6<hi 6/\af W (lo 6) #[.slice none 0 0,.int .i64 0,.slice none 0 0] 43|_=>True) (λW=>W.cell? ⟨w.heap.size,1,none⟩=some (.int .i64 s.len)/\W.cell? ⟨w.heap.size,2,none⟩=some (.slice a2 s.ext.length c2)) (λW hb=>⟨al.cell hb x1,al.cell hb x2⟩) ?stab ?loc ?steps ?fin
 case stab=>
  refine ⟨?_,?_,?_,trivial⟩
  .intro v lo hi W W' h hb;exact (let ⟨a,c,e,h⟩:=h;⟨a,c,e,h.ext hb⟩)
  .intro v lo hi W W' h hb;exact h
  intro v lo hi W W' h hb;exact ⟨h.1,h.2.1,h.2.2.below hb⟩
 case loc=>
  refine ⟨?_,?_,?_,trivial⟩
  .intro v v' lo lo' hi hi' W aC h;have q:=aC 4 (.inl rfl)
   (try dsimp only at h ⊢)
   simp only [q.1,q.2.1,q.2.2] at h;exact h
  .intro v v' lo lo' hi hi' W aC h;have q:=aC 5 (.inl rfl);have q4:=aC 4 (.inr (bI (by kernel_rfl)))
   (try dsimp only at h ⊢)
   simp only [q.1,q.2.1,q.2.2,q4.1,q4.2.1,q4.2.2] at h;exact h
  intro v v' lo lo' hi hi' W aC h;have q:=aC 6 (.inl rfl)
  (try dsimp only at h ⊢)
  simp only [q.1,q.2.1,q.2.2] at h;exact h
 case steps=>
  refine .c [] [] rfl ?_ (.c [0] [] rfl ?_ (.c [] [] rfl ?_ (.c [2] [] rfl ?_ (.c [3] [] rfl ?_ (.c [1] [4] rfl ?_ (.c [] [] rfl ?_ (.n)))))));all_goals try exact pj
  .rintro v lo hi W hb ⟨g1,g2⟩ _;refine .inl ⟨rfl,λK hK=>?_⟩;simp only [ov,aD,Nat.reduceBEq,cond_true,cond_false];go_wp2_with (go_at_call 95;(with_reducible refine (dw.o _ (Et eo hb)).mono ?_);rintro e w9 ⟨a9,c9,rfl,nk,bg⟩);exact aU (hK (.slice a9 s.ext.length c9) w9 bg ⟨a9,c9,rfl,nk⟩) (by simp [ov,aD,upd])
  .rintro v lo hi W hb ⟨g1,g2⟩ ⟨⟨U8,U9,D4⟩,_⟩;refine .inl ⟨rfl,λK hK=>?_⟩;simp only [ov,aD,Nat.reduceBEq,cond_true,cond_false]
   (try dsimp only at D4)
   obtain ⟨a9,c9,e4,_⟩:=D4
   (try simp only [e4])
   go_wp2
   exact aU (hK (.agg #[.slice none 0 0,.int .i64 s.len,v 4]) W (Below.refl _ _) rfl) (by simp [ov,aD,upd,e4])
  rintro v lo hi W hb ⟨g1,g2⟩ _;refine .inl ⟨rfl,λK hK=>?_⟩;simp only [ov,aD,Nat.reduceBEq,cond_true,cond_false];go_wp2;exact hK (.pointer (some ⟨W.heap.size,0,none⟩)) _ (Ea (Er _) _) ⟨rfl,ag,af.new _ _ _⟩
 case fin=>
  rintro v lo hi W5 hb5 ⟨g1,g2⟩ hf hap;show wpList _ _ _ [_] _ _;obtain ⟨l4,-,h4,a4,c4,e4,fS⟩:=hf 4 rfl;have e5:v 5=.agg #[.slice none 0 0,.int .i64 s.len,v 4]:=(hf 5 rfl).2.2.2;obtain ⟨l6,-,h6,e6,QD,hbox⟩:=hf 6 rfl;have hd:=hap 4 6 rfl rfl aF;clear hf hap;rw [e4] at e5;dsimp only;rw [e5,e6];clear e5 e6;rw [e4] at fS;clear e4;obtain ⟨ob,cG⟩:∃ ob,ob=lo 6:=⟨_,rfl⟩;rw [<- cG] at hd hbox l6 QD ⊢;generalize lo 4=JP at *;generalize hi 4=Nz at *;generalize hi 6=ZV at *;clear cG;generalize v 0=z0 at *;generalize v 1=z1 at *;generalize v 2=z2 at *;generalize v 3=z3 at *;generalize v 4=z4 at *;have q0:=hbox.cells 0;have q1:=hbox.cells 1;have q2:=hbox.cells 2;have CB:=ad hbox;have kD:=ad fS;have cr:=ad hb5;have Ao:=hbox.lt;clear hbox fS hb5 g1 g2 x0 x1 x2;have Sv:=ad (H0.o.below cr.o);have yO:=ad (H1.o.below cr.o);have y0:=(Sv.o.cells 0).1;go_wp2_with fail;refine iR (F:=λU=>af U w.heap.size #[.slice a1 L.length c1,.int .i64 s.len,.slice a2 s.ext.length c2] 43/\af U (w.heap.size+1) #[.slice none 0 0,.int .i64 0,.slice none 0 0] 43/\af U ob #[.slice none 0 0,.int .i64 s.len,.slice a4 s.ext.length c4] 43/\b_ U (λb=>JP<=b/\b<Nz) (.slice a4 s.ext.length c4) s.ext/\Below w.heap.size w U) ⟨?_,?_,?_,?_,?_⟩ ?_
  .exact ((Sv.o.setNe _ aa).setNe _ aa).setNe _ aa
  .exact ((yO.o.setNe _ aa).setNe _ aa).setNe _ aa
  .exact wC CB.o
  .have hg:World.grownBy W5 (((W5.setCell ⟨ob,0,none⟩ (.slice none 0 0)).setCell ⟨ob,1,none⟩ (.int .i64 s.len)).setCell ⟨ob,2,none⟩ (.slice a4 s.ext.length c4)) (some ob):=World.grownBy.set' (World.grownBy.set' (World.grownBy.set' ⟨rfl,rfl,rfl,Nat.le_refl _,λ_ _ _=>rfl⟩ _) _) _;exact kD.o.keep (aN.grown hg aa) hg.size
  .exact (((Et eo cr.o).setCell (p:=⟨ob,0,none⟩) (by show w.heap.size<=ob;omega) _).setCell (p:=⟨ob,1,none⟩) (by show w.heap.size<=ob;omega) _).setCell (p:=⟨ob,2,none⟩) (by show w.heap.size<=ob;omega) _
  rintro W1 ⟨hc0,hc1,BR,rz,hcb⟩;have K0:=ad hc0;have K1:=ad hc1;have KO:=ad BR;have KX:=ad rz;have KB:=ad hcb;have hoW:ob<W1.heap.size:=BR.lt;clear hc0 hc1 BR rz hcb y0;have hoB:w.heap.size+1<ob:=aa;have YB:=ad (show ¬ (JP<=ob/\ob<Nz) by omega);have R4:=ad (show w.heap.size+1<JP by omega);clear l6 QD hd h4 h6 eo Ao;go_loopw [5,6,8,9,11,21] (λ_ _ _ _ _ vi wr=>∃ (k:Nat) (v:Value) (M:List bl),k<=L.length/\vi=.int .i64 k/\M.length=k/\Hid (M.map bl.cls=s.cls.take k)/\Hid (qI W1.heap.size (λ_=>False) wr v M)/\Hid (af wr ob #[v,.int .i64 s.len,.slice a4 s.ext.length c4] 43)/\Hid (W1.grownBy wr (some ob))) (λ_ _ _ _ _ vi _=>L.length-(intOf vi).toNat)
  .exact ⟨0,.slice none 0 0,[],aa,rfl,rfl,ad ag,ad aV.nil,KO,ad ⟨rfl,rfl,rfl,Nat.le_refl _,λ_ _ _=>rfl⟩⟩
  obtain ⟨k,v,M,hk,rfl,S5,HM,mH,gH,HG⟩:=hrel;obtain ⟨wk,r_⟩:∃ x,x=wr:=⟨_,rfl⟩;subst r_;obtain ⟨va,vc,rfl,-⟩:=mH.o.form;have Ba:=ad S5;clear S5;have TA:=HG.o.size;have lO:Hid (Below w.heap.size w wk):=ad (KB.o.grown HG.o KB.o.size λq e=>by injection e with e;omega);have I6:=lO.o.size;by_cases hlt:k<L.length
  .have dh:(k:Int)<L.length:=aa;obtain ⟨b,o,av,cv,m,mi,rfl,hbl,e0,e1,hm,rL,hD⟩:=HS.o.cl.get hlt;have e0:=al.cell lO.o e0;have e1:=al.cell lO.o e1;have og:k<s.cls.length:=by rw [yj.o];exact hlt
   have hcl:s.cls.getD k default=⟨m,mi⟩:=by rw [<- HS.o.eq];exact hD
   have hmem:(⟨m,mi⟩:eA)∈s.cls:=by rw [<- hcl,fG og];exact List.getElem_mem og
   have kX:Hid (s.cls.take (k+1)=s.cls.take k ++ [⟨m,mi⟩]):=ad (by rw [List.take_succ_eq_append_getElem og,<- fG (d:=default) og,hcl]);obtain ⟨kj,hb1,hb2⟩:=HV.o.cl hmem;obtain ⟨dt,eQ⟩:=Vn kj;have dt:m.length<=64:=dt;obtain ⟨L2,hL2,S4⟩:=hm;have hl2:m.length=L2.length:=by rw [<- hL2,List.length_map]
   have sA:=ad S4;have fT:=ad hL2;have yk:=ad hl2;have tV:=ad eQ;have vT:=ad rL;have NY:=mH.o.len;clear S4 hL2 hl2 eQ hmem kj hcl og hD rL hb1 hb2;go_upto_region 7 with (fail)
   refine iR (F:=λU=>af U wk.heap.size #[.slice av m.length cv,.int .i64 mi] 59/\af U (wk.heap.size+1) #[.slice none 0 0] 57/\U.heap.size=wk.heap.size+2/\Below wk.heap.size wk U) ⟨(af.new _ _ _).alloc _,af.at ag,ag,Ea (Ea (Er _) _) _⟩ ?_;rintro W2 ⟨hcb,zQ,hs2,Fi⟩;have Km:=ad hcb;have YA:=ad zQ;have dM:=ad hs2;have Kf:=ad Fi;clear hcb zQ hs2 Fi e0 e1;go_loopw [8,9,11,29] (λ_ _ _ vi wq=>∃ (i:Nat) (tv:Value) (N:List (Value × List Per)),i<=m.length/\vi=.int .i64 i/\N.length=i/\Hid (N.map Prod.snd=m.take i)/\Hid (DN W2.heap.size (λ_=>False) wq tv N)/\Hid (af wq (wk.heap.size+1) #[tv] 57)/\Hid (W2.grownBy wq (some (wk.heap.size+1)))) (λ_ _ _ vi _=>m.length-(intOf vi).toNat)
   .exact ⟨0,.slice none 0 0,[],aa,rfl,rfl,ad ag,ad aV.nil,YA,ad ⟨rfl,rfl,rfl,Nat.le_refl _,λ_ _ _=>rfl⟩⟩
   obtain ⟨i,tv,N,hi,rfl,S8,HN,HZ,sq,lR⟩:=hrel;obtain ⟨wq,Ju⟩:∃ x,x=wr:=⟨_,rfl⟩;subst Ju;obtain ⟨ta,tc,rfl,-⟩:=HZ.o.form;have im:=ad S8;clear S8;have hqz:=lR.o.size;have hqs:wk.heap.size+2<=wq.heap.size:=by have:=dM.o;omega
   have C_:Hid (Below wk.heap.size wk wq):=ad (Kf.o.grown lR.o (by have:=dM.o;omega) λq e=>by injection e with e;omega);have sr:Hid (Below w.heap.size w wq):=ad (Et lO.o C_.o);have hNl:=HZ.o.len;by_cases hlt2:i<m.length
   .have Ae:(i:Int)<m.length:=aa;obtain ⟨b2,o2,SB,at_,nt,ct,t,Gh,et,om,td⟩:=sA.o.at (k:=i) (by rw [<- yk.o];exact hlt2);injection Gh with iZ hv2 hv3
    subst iZ;have et:=al.cell sr.o et;rw [fT.o] at td;have jR:t∈m:=List.mem_of_getElem? td;obtain ⟨gT,hvp⟩:=tV.o t jR;obtain ⟨ZC,ZH,Pz,_⟩:=om.form;injection Pz with oi xq rW
    subst xq;obtain ⟨L3,hL3,EY⟩:=om;have hl3:t.length=L3.length:=by rw [<- hL3,List.length_map]
    have LK:=ad EY;have KK:=ad hL3;have yl:=ad hl3;have Hj:Hid (m.take (i+1)=m.take i ++ [t]):=ad (by rw [List.take_succ_eq_append_getElem hlt2];rw [List.getElem?_eq_getElem hlt2] at td;rw [Option.some.inj td]);clear EY hL3 hl3 hvp td jR hv2 hv3 oi rW;go_wp2;go_loopw [9,11,35] (λfv _ vi w3=>∃ (j:Nat) (Lp:List PV),j<=t.length/\vi=.int .i64 j/\Lp.length=j/\Hid (Lp.map PV.p=t.take j)/\Hid (DM wq.heap.size (λ_=>False) w3 fv Lp)/\Hid (Below wq.heap.size wq w3)) (λ_ _ vi _=>t.length-(intOf vi).toNat)
    .exact ⟨0,[],aa,rfl,rfl,ad ag,ad aV.nil,ad (Below.refl _ _)⟩
    obtain ⟨j,Lp,hj,rfl,S3,R6,HP,cm⟩:=hrel;obtain ⟨w3,hw3⟩:∃ x,x=wr:=⟨_,rfl⟩;subst hw3;obtain ⟨fa,fc,rfl,-⟩:=HP.o.form;have KQ:=ad S3;clear S3;have s_:=cm.o.size;have mX:Below w.heap.size w w3:=Et sr.o cm.o;have Yv:=ad mX;by_cases hlt3:j<t.length
    .have OW:(j:Int)<t.length:=aa;obtain ⟨b3,o3,x,AG,hx,cS,hb3,y0,y1,y2,y3⟩:=LK.o.get (k:=j) (by rw [<- yl.o];exact hlt3);subst AG;rw [KK.o] at cS;obtain ⟨xh,xc,xp⟩:=x;obtain ⟨d_,eh,ed,eH,eR,dP,rfl,rfl⟩:=hx.form;dsimp only at y0 y1 y2 y3 cS;have y0:=al.cell mX y0;have y1:=al.cell mX y1;have y2:=al.cell mX y2;have y3:=al.cell mX y3;have qh:=ad (λW (hb:Below w.heap.size w W)=>Bw (.slice d_ eh ed) xp.head W (hx.is.hd.ext hb));have kS:=ad (λW (hb:Below w.heap.size w W)=>Bw (.slice eH eR dP) xp.cycle W (hx.is.cy.ext hb));have sH:=ad (And.intro hx.fr hx.pe);have jf:Hid (t.take (j+1)=t.take j ++ [xp]):=ad (by rw [List.take_succ_eq_append_getElem hlt3,cS,fG hlt3]);clear cS hx hb3;go_upto_region 13 with (fail)
     refine iR (F:=λU=>af U w3.heap.size #[.slice d_ eh ed,.int .i64 xp.frm,.int .i64 xp.period,.slice eH eR dP] 80/\Below w3.heap.size w3 U) ⟨af.new _ _ _,Ea (Er _) _⟩ ?_;rintro W4 ⟨bJ,zK⟩;have k0:=(bJ.cells 0).1;have k1:=(bJ.cells 1).1;have k2:=(bJ.cells 2).1;have k3:=(bJ.cells 3).1;have eo:Below w.heap.size w W4:=Et mX zK;have xP:=ad zK;clear bJ zK mX y0 y1 y2 y3;refine oK (w0:=W4) [0,1,2,3,4,5,6,7,8,9,10,11,12] [13,14] (λv=>⟨#[.agg #[.slice (some ⟨b,o,none⟩) L.length c1,.int .i64 s.len,.slice a2 s.ext.length c2],.pointer (some ⟨w.heap.size,0,none⟩),.pointer (some ⟨w.heap.size+1,0,none⟩),.pointer (some ⟨ob,0,none⟩),undef,.pointer (some ⟨wk.heap.size,0,none⟩),.pointer (some ⟨wk.heap.size+1,0,none⟩),undef,.slice (some ⟨b3,o3,none⟩) t.length ct,.slice fa Lp.length fc,undef,.pointer (some ⟨w3.heap.size,0,none⟩),z0,z1,z2,z3,z4,.agg #[.slice none 0 0,.int .i64 s.len,.slice a4 s.ext.length c4],.pointer (some ⟨w.heap.size,0,none⟩),.slice (some ⟨b,o,none⟩) L.length c1,.int .i64 ↑L.length,.int .i64 ↑k,.bool true,.pointer (some ⟨b,o+k*2,none⟩),.agg #[.slice (some ⟨b2,o2,none⟩) m.length cv,.int .i64 mi],.pointer (some ⟨wk.heap.size,0,none⟩),.pointer (some ⟨wk.heap.size,0,none⟩),.slice (some ⟨b2,o2,none⟩) m.length cv,.int .i64 ↑m.length,.int .i64 ↑i,.bool true,.pointer (some ⟨b2,o2+i,none⟩),.slice (some ⟨b3,o3,none⟩) t.length ct,.slice (some ⟨b3,o3,none⟩) t.length ct,.int .i64 ↑t.length,.int .i64 ↑j,.bool true,.pointer (some ⟨b3,o3+j*4,none⟩),.agg #[.slice d_ eh ed,.int .i64 xp.frm,.int .i64 xp.period,.slice eH eR dP],v 0,v 1,v 2,v 3,v 4,v 5,v 6,v 7,v 8,v 9,v 10,v 11,v 12,u52,u53,u54,u55,u56,u57,u58,u59,u60,u61,u62,u63,u64,u65,u66,u67,u68,u69,u70,undef],[]⟩) [.slice fa Lp.length fc,.pointer (some ⟨w3.heap.size,0,none⟩),.slice d_ eh ed,undef,.pointer (some ⟨w3.heap.size,1,none⟩),.int .i64 xp.frm,.pointer (some ⟨w3.heap.size,2,none⟩),.int .i64 xp.period,.pointer (some ⟨w3.heap.size,3,none⟩),.slice eH eR dP,undef,undef,undef] [3,10,11,12] (λi v lo hi W=>match i with|3=>(∃ a c,v 3=.slice a xp.head.length c)/\qT W (lo 3) (hi 3) (v 3) xp.head|10=>(∃ a c,v 10=.slice a xp.cycle.length c)/\qT W (lo 10) (hi 10) (v 10) xp.cycle|11=>∃ y3 z3 y4 z4,v 3=.slice y3 xp.head.length z3/\v 10=.slice y4 xp.cycle.length z4/\v 11=.agg #[.slice y3 xp.head.length z3,.int .i64 xp.frm,.int .i64 xp.period,.slice y4 xp.cycle.length z4]|12=>∃ y3 z3 y4 z4,v 11=.agg #[.slice y3 xp.head.length z3,.int .i64 xp.frm,.int .i64 xp.period,.slice y4 xp.cycle.length z4]/\v 12=.slice (some ⟨lo 12,0,none⟩) 1 1/\lo 12<hi 12/\af W (lo 12) #[.slice y3 xp.head.length z3,.int .i64 xp.frm,.int .i64 xp.period,.slice y4 xp.cycle.length z4] 80|_=>True) (λW=>W.cell? ⟨w3.heap.size,0,none⟩=some (.slice d_ eh ed)/\W.cell? ⟨w3.heap.size,1,none⟩=some (.int .i64 xp.frm)/\W.cell? ⟨w3.heap.size,2,none⟩=some (.int .i64 xp.period)/\W.cell? ⟨w3.heap.size,3,none⟩=some (.slice eH eR dP)) (λW hb=>⟨al.cell hb k0,al.cell hb k1,al.cell hb k2,al.cell hb k3⟩) ?stab13 ?loc13 ?steps13 ?fin13 (λj=>match j with|0=>u39|1=>u40|2=>u41|3=>u42|4=>u43|5=>u44|6=>u45|7=>u46|8=>u47|9=>u48|10=>u49|11=>u50|12=>u51|_=>undef)
     case stab13=>
      refine ⟨?_,?_,?_,?_,trivial⟩
      .intro v lo hi W W' h hb;exact ⟨h.1,h.2.below hb⟩
      .intro v lo hi W W' h hb;exact ⟨h.1,h.2.below hb⟩
      .intro v lo hi W W' h hb;exact h
      intro v lo hi W W' h hb;exact (let ⟨y3,z3,y4,z4,e,e2,h1,h⟩:=h;⟨y3,z3,y4,z4,e,e2,h1,h.below hb⟩)
     case loc13=>
      refine ⟨?_,?_,?_,?_,trivial⟩
      .intro v v' lo lo' hi hi' W aC h;have q:=aC 3 (.inl rfl)
       (try dsimp only at h ⊢)
       simp only [q.1,q.2.1,q.2.2] at h;exact h
      .intro v v' lo lo' hi hi' W aC h;have q:=aC 10 (.inl rfl)
       (try dsimp only at h ⊢)
       simp only [q.1,q.2.1,q.2.2] at h;exact h
      .intro v v' lo lo' hi hi' W aC h;have q:=aC 11 (.inl rfl);have q3:=aC 3 (.inr (bI (by kernel_rfl)));have pX:=aC 10 (.inr (bI (by kernel_rfl)))
       (try dsimp only at h ⊢)
       simp only [q.1,q.2.1,q.2.2,q3.1,q3.2.1,q3.2.2,pX.1,pX.2.1,pX.2.2] at h;exact h
      intro v v' lo lo' hi hi' W aC h;have q:=aC 12 (.inl rfl);have nz:=aC 11 (.inr (bI (by kernel_rfl)))
      (try dsimp only at h ⊢)
      simp only [q.1,q.2.1,q.2.2,nz.1,nz.2.1,nz.2.2] at h;exact h
     case steps13=>
      refine .c [] [] rfl ?_ (.c [] [] rfl ?_ (.c [1] [] rfl ?_ (.c [2] [] rfl ?_ (.c [] [] rfl ?_ (.c [4] [] rfl ?_ (.c [] [] rfl ?_ (.c [6] [] rfl ?_ (.c [] [] rfl ?_ (.c [8] [] rfl ?_ (.c [9] [] rfl ?_ (.c [5,7] [3,10] rfl ?_ (.c [] [11] rfl ?_ (.n)))))))))))));all_goals try exact pj
      .rintro v lo hi W hb ⟨g0,g1,g2,g3⟩ _;refine .inl ⟨rfl,λK hK=>?_⟩;simp only [ov,aD,Nat.reduceBEq,cond_true,cond_false];go_wp2_with (go_at_call 96;(with_reducible refine (qh.o _ (Et eo hb)).mono ?_);rintro e w9 ⟨x,rfl,nk,bg⟩);exact aU (hK x w9 bg ⟨nk.form,nk.at⟩) (by simp [ov,aD,upd])
      .rintro v lo hi W hb ⟨g0,g1,g2,g3⟩ _;refine .inl ⟨rfl,λK hK=>?_⟩;simp only [ov,aD,Nat.reduceBEq,cond_true,cond_false];go_wp2_with (go_at_call 96;(with_reducible refine (kS.o _ (Et eo hb)).mono ?_);rintro e w9 ⟨x,rfl,nk,bg⟩);exact aU (hK x w9 bg ⟨nk.form,nk.at⟩) (by simp [ov,aD,upd])
      .rintro v lo hi W hb ⟨g0,g1,g2,g3⟩ ⟨⟨la3,lb3,D3⟩,⟨la10,lb10,Ry⟩,_⟩;refine .inl ⟨rfl,λK hK=>?_⟩;simp only [ov,aD,Nat.reduceBEq,cond_true,cond_false]
       (try dsimp only at D3 Ry)
       obtain ⟨⟨y3,z3,e3⟩,_⟩:=D3;obtain ⟨⟨y4,z4,e4⟩,_⟩:=Ry
       (try simp only [e3,e4])
       go_wp2
       exact aU (hK (.agg #[.slice y3 xp.head.length z3,.int .i64 xp.frm,.int .i64 xp.period,.slice y4 xp.cycle.length z4]) W (Below.refl _ _) ⟨y3,z3,y4,z4,e3,e4,rfl⟩) (by simp [ov,aD,upd,e3,e4])
      rintro v lo hi W hb ⟨g0,g1,g2,g3⟩ ⟨⟨Qw,Qz,GR⟩,_⟩;refine .inl ⟨rfl,λK hK=>?_⟩;simp only [ov,aD,Nat.reduceBEq,cond_true,cond_false]
      (try dsimp only at GR)
      obtain ⟨y3,z3,y4,z4,e3,e4,e11⟩:=GR
      (try simp only [e11])
      go_wp2
      exact aU (hK (.slice (some ⟨W.heap.size,0,none⟩) 1 1) _ (Ea (Er _) _) ⟨y3,z3,y4,z4,e11,rfl,ag,af.new _ _ _⟩) (by simp [ov,aD,upd,e11,e3,e4])
     case fin13=>
      rintro v lo hi W6 bD ⟨g0,g1,g2,g3⟩ hf hap;show wpList _ _ _ [_,_] _ _;obtain ⟨l3,-,h3,⟨y3,z3,e3⟩,mg⟩:=hf 3 rfl;obtain ⟨l10,-,h10,⟨y4,z4,h_⟩,vj⟩:=hf 10 rfl;obtain ⟨-,-,-,y3',z3',y4',z4',lh,DZ,e11⟩:=hf 11 rfl;obtain ⟨sd,-,nT,vJ,vM,vK,vN,uo,fL,iJ,hbox⟩:=hf 12 rfl;have e0:v 0=.slice fa Lp.length fc:=(hf 0 rfl).2.2.2;clear hf hap;rw [e3] at lh;rw [h_] at DZ;rw [e11] at uo;injection lh with i1 _ i2
      injection DZ with i3 _ i4
      subst i1;subst i2;subst i3;subst i4;obtain ⟨rfl,rfl,rfl,rfl⟩:vJ=y3/\vM=z3/\vK=y4/\vN=z4:=by simp at uo;simp [uo]
      rw [e3] at mg;rw [h_] at vj;have Be:Hid (bp W6 (λb=>w3.heap.size<=b/\b<W6.heap.size) ⟨.slice vJ xp.head.length vM,.slice vK xp.cycle.length vN,xp⟩):=ad ⟨⟨mg.1.own.ints,vj.1.own.ints⟩,sH.o.1,sH.o.2,λ_ q hq=>by have h1:=(mg.1.own.lt q hq);have:=xP.o.size;omega,λ_ q hq=>by have h1:=(vj.1.own.lt q hq);have:=xP.o.size;omega⟩;dsimp only;rw [e0,fL];obtain ⟨nb,jP⟩:∃ nb,nb=lo 12:=⟨_,rfl⟩;rw [<- jP] at hbox sd iJ ⊢;clear jP;have cw:=ad hbox;have bO:=ad (Et xP.o bD);have Cx:=ad (Et cm.o bO.o);have AM:=Cx.o.size;have hnl:=hbox.lt;clear hbox bD g0 g1 g2 g3 k0 k1 k2 k3 mg vj e3 h_ e11 uo fL e0 eo;generalize v 1=y1,v 2=y2,v 3=y3,v 4=y4,v 5=y5,v 6=y6,v 7=y7,v 8=y8,v 9=y9,v 10=sl,v 11=sm;have Z8:=HP.o.len;obtain ⟨iP,Uc,Ud,Ue,Uf⟩:=zg;have G7:=ad (And.intro Uc (And.intro Ud (And.intro Ue Uf)));clear Uc Ud Ue Uf;have Di:=ad hlt3;refine nK az _ _ _ _ az iP _ 4 64 Tryz.underlying78 G7.o.1 G7.o.2.1 G7.o.2.2.1 G7.o.2.2.2 rfl aF aF wq.heap.size (.slice fa Lp.length fc) Lp.length (Lp.flatMap PV.enc) (PV.enc ⟨.slice vJ xp.head.length vM,.slice vK xp.cycle.length vN,xp⟩) rfl az (HP.o.below Iv bO.o).row nb 1 az (um cw.o) Be.o.one (by have:=KQ.o;omega) aa ?_;intro v' w9 au aq aK;have tQ:=ad (aV.push Iv (HP.o.below Iv bO.o) (Be.o.mono λq hq=>⟨aa,λh=>h,λe=>by have:=(HP.o.row.lt q e).2;omega⟩) au aq aK (λh=>h) (by have:=KQ.o;omega));have jc:=ad (Cx.o.grown aq AM λq e=>((HP.o.below Iv bO.o).row.lt q e).1);clear au aq aK;go_wp2;go_roundw
      .exact ⟨j+1,Lp ++ [⟨.slice vJ xp.head.length vM,.slice vK xp.cycle.length vN,xp⟩],Di.o,by go_num,by rw [List.length_append,KQ.o];rfl,ad (by rw [List.map_append,R6.o,jf.o];rfl),tQ,jc⟩
      have:=Di.o;simp [intOf];omega
    obtain rfl:j=t.length:=aa;have GX:Hid (bG w3 (λb=>wq.heap.size<=b) (.slice fa Lp.length fc) t):=ad ⟨Lp,by rw [R6.o,List.take_length],HP.o.termL.mono λq hq=>hq.1⟩;have d0:=(((sq.o.below cm.o).alloc (.cells #[.slice fa Lp.length fc] 78)).cells 0);have d1:=((sq.o.below cm.o).cells 0);obtain ⟨iT,Ug,Uh,Ui,Uj⟩:=JE;have ku:=ad (And.intro Ug (And.intro Uh (And.intro Ui Uj)));clear Ug Uh Ui Uj;have Dh:=ad hlt2;go_wp2_with (at_builtin;(refine nK az _ _ _ _ az iT _ 1 24 Tryz.underlying55 ku.o.1 ku.o.2.1 ku.o.2.2.1 ku.o.2.2.2 rfl aF aF W2.heap.size (.slice ta N.length tc) N.length (N.flatMap λx=>[x.1]) [.slice fa Lp.length fc] rfl az ((HZ.o.below By cm.o).below By (Ea (Er _) _)).row w3.heap.size 1 az (um (af.new w3 #[.slice fa Lp.length fc] 78)) (by simp [Value.oneCell']) (by have:=im.o;omega) aO ?_);intro v' w9 au aq aK;obtain ⟨na,nc,rfl⟩:=k_ au;have gi:∀ q,(Value.slice ta N.length tc).ownBlock=some q->W2.heap.size<=q:=λq e=>(HZ.o.row.lt q e).1;have Ay:=dM.o;have d2:=(((sq.o.below cm.o).alloc (.cells #[.slice fa Lp.length fc] 78)).grown aq (λe=>by have:=gi _ e.symm;omega));have g2:=d2.cells 0;have oA:=ad d2;have Hr:=ad (aV.push (y:=(.slice fa Lp.length fc,t)) By ((HZ.o.below By cm.o).below By (Ea (Er _) _)) ((bG.ext GX.o (Ea (Er _) _)).mono λq hq=>⟨aa,λh=>h,λe=>by have:=(HZ.o.row.lt q e).2;omega⟩) au aq aK (λh=>h) (by have:=im.o;omega));have iN:=ad aq;have jE:=ad gi;clear au aq aK d2 gi Ay);go_roundw
    .have Ay:=dM.o;have fP:World.grownBy w9 (w9.setCell ⟨wk.heap.size+1,0,none⟩ (.slice na (N.length+1) nc)) (some (wk.heap.size+1)):=World.grownBy.set' ⟨rfl,rfl,rfl,Nat.le_refl _,λ_ _ _=>rfl⟩ _;have lx:W2.grownBy w9 (some (wk.heap.size+1)):=by
      have h1:W2.grownBy (w3.alloc (.cells #[.slice fa Lp.length fc] 78)) (some (wk.heap.size+1)):=World.grownBy.trans' lR.o (World.grownBy.of_below (Ea cm.o _) _);exact ⟨iN.o.os.trans h1.os,iN.o.tape.trans h1.tape,iN.o.output.trans h1.output,Nat.le_trans h1.size iN.o.size,λq hq hne=>(iN.o.block q (Nat.lt_of_lt_of_le hq h1.size) (λe=>by have:=jE.o q e.symm;omega)).trans (h1.block q hq hne)⟩
     refine ⟨i+1,.slice na (N.length+1) nc,N ++ [(.slice fa Lp.length fc,t)],Dh.o,by go_num,by rw [List.length_append,im.o];rfl,ad (by rw [List.map_append,HN.o,Hj.o];rfl),ad (Hr.o.low By fP aa),ad (br 0 _ oA.o),ad (World.grownBy.trans' lx fP)⟩
    have:=Dh.o;simp [intOf];omega
   obtain rfl:i=m.length:=aa;have YK:Hid (aA wq (λb=>W2.heap.size<=b) (.slice ta N.length tc) m):=ad ⟨N,by rw [HN.o,List.take_length],HZ.o.mixL.mono λq hq=>hq.1⟩;have Ay:=dM.o;have Tp:af wq wk.heap.size #[.slice av m.length cv,.int .i64 mi] 59:=(lR.o.block wk.heap.size aa (by intro e;injection e with e;omega)).trans Km.o;have k1:=(Tp.cells 1).1;have k0:=(sq.o.cells 0).1;have Jh:af wq ob #[.slice va M.length vc,.int .i64 s.len,.slice a4 s.ext.length c4] 43:=gH.o.below C_.o;have o0:=Jh.cells 0;have d0:=((Jh.alloc (.cells #[.slice ta N.length tc,.int .i64 mi] 59)).cells 0);have Y9:=ad Jh;obtain ⟨iC,Gu,Gv,Gw,Gx⟩:=Xa;have tB:=ad (And.intro Gu (And.intro Gv (And.intro Gw Gx)));have Dg:=ad hlt;clear Gu Gv Gw Gx Tp Jh;go_wp2_with (at_builtin;(refine nK az _ _ _ _ az iC _ 2 32 Tryz.underlying40 tB.o.1 tB.o.2.1 tB.o.2.2.1 tB.o.2.2.2 rfl aF aF W1.heap.size (.slice va M.length vc) M.length (M.flatMap bl.enc) (bl.enc ⟨.slice ta N.length tc,m,mi⟩) rfl az ((mH.o.below lY C_.o).below lY (Ea (Er _) _)).row wq.heap.size 1 az (um (af.new wq #[.slice ta N.length tc,.int .i64 mi] 59)) (by simp [bl.enc,Value.oneCell']) (by have:=Ba.o;have:=yj.o;omega) aO ?_);intro v' w9 au aq aK;obtain ⟨na,nc,rfl⟩:=k_ au;have gi:∀ q,(Value.slice va M.length vc).ownBlock=some q->W1.heap.size<=q:=λq e=>(mH.o.row.lt q e).1;have d2:=((Y9.o.alloc (.cells #[.slice ta N.length tc,.int .i64 mi] 59)).grown aq (λe=>by have:=gi _ e.symm;omega));have g2:=d2.cells 0;have oA:=ad d2;have LQ:=ad (aV.push (y:=⟨.slice ta N.length tc,m,mi⟩) lY ((mH.o.below lY C_.o).below lY (Ea (Er _) _)) ⟨(YK.o.ext (Ea (Er _) _)).mono λq hq=>⟨aa,λh=>h,λe=>by have:=(mH.o.row.lt q e).2;omega⟩,vT.o⟩ au aq aK (λh=>h) (by have:=Ba.o;have:=yj.o;omega));have iN:=ad aq;have jE:=ad gi;clear au aq aK d2 gi);go_roundw
   .have fP:World.grownBy w9 (w9.setCell ⟨ob,0,none⟩ (.slice na (M.length+1) nc)) (some ob):=World.grownBy.set' ⟨rfl,rfl,rfl,Nat.le_refl _,λ_ _ _=>rfl⟩ _;have lx:W1.grownBy w9 (some ob):=by
     have h1:W1.grownBy (wq.alloc (.cells #[.slice ta N.length tc,.int .i64 mi] 59)) (some ob):=World.grownBy.trans' HG.o (World.grownBy.of_below (Ea C_.o _) _);exact ⟨iN.o.os.trans h1.os,iN.o.tape.trans h1.tape,iN.o.output.trans h1.output,Nat.le_trans h1.size iN.o.size,λq hq hne=>(iN.o.block q (Nat.lt_of_lt_of_le hq h1.size) (λe=>by have:=jE.o q e.symm;omega)).trans (h1.block q hq hne)⟩
    exact ⟨k+1,.slice na (M.length+1) nc,M ++ [⟨.slice ta N.length tc,m,mi⟩],Dg.o,by go_num,by rw [List.length_append,Ba.o];rfl,ad (by rw [List.map_append,HM.o,kX.o];rfl),ad (LQ.o.low lY fP aa),ad (br 0 _ oA.o),ad (World.grownBy.trans' lx fP)⟩
   have:=Dg.o;simp [intOf];omega
  obtain rfl:k=L.length:=aa;have hmc:M.map bl.cls=s.cls:=by have:=HM.o;rwa [List.take_of_length_le (by rw [yj.o];exact Nat.le_refl _)] at this
  have Y1:=ad hmc;have dt:M.length=s.cls.length:=by rw [<- hmc,List.length_map]
  have kz:=ad dt;have t0:=(gH.o.cells 0).1;have t1:=(gH.o.cells 1).1;have t2:=(gH.o.cells 2).1;have hr1:af wk (w.heap.size+1) #[.slice none 0 0,.int .i64 0,.slice none 0 0] 43:=(HG.o.block _ aa (by intro e;injection e with e;omega)).trans K1.o;have py:=ad hr1;have j0:=hr1.cells 0;have j1:=hr1.cells 1;have j2:=hr1.cells 2;clear hmc dt hr1;go_wp2_with fail;have aL:=wC (x':=.slice va M.length vc) (y':=.int .i64 s.len) (z':=.slice a4 s.ext.length c4) py.o;have s0:=(aL.cells 0).1;have s1:=(aL.cells 1).1;have s2:=(aL.cells 2).1;have jL:=lO.o;have fP:World.grownBy wk (((wk.setCell ⟨w.heap.size+1,0,none⟩ (.slice va M.length vc)).setCell ⟨w.heap.size+1,1,none⟩ (.int .i64 s.len)).setCell ⟨w.heap.size+1,2,none⟩ (.slice a4 s.ext.length c4)) (some (w.heap.size+1)):=World.grownBy.set' (World.grownBy.set' (World.grownBy.set' ⟨rfl,rfl,rfl,Nat.le_refl _,λ_ _ _=>rfl⟩ _) _) _;have hV9:=(mH.o.low lY fP aa).clsL;have hX9:b_ _ (λb=>JP<=b/\b<Nz) _ s.ext:=((KX.o.keep (aN.grown HG.o YB.o) HG.o.size)).keep (aN.grown fP (by have:=R4.o;omega)) fP.size;have hkb:=KB.o.size;have hst:bq _ (λb=>w.heap.size<=b) (.slice va M.length vc) (.slice a4 s.ext.length c4) s:=⟨M,Y1.o,hV9.mono λb h=>by have:=h.1;omega,hX9.mono λb h=>by have:=R4.o;omega,HS.o.len⟩;refine bodyPost_ret (v:=.agg #[.slice va M.length vc,.int .i64 s.len,.slice a4 s.ext.length c4]) (by simp [results,Tryz.results51,go_sem,s0,s1,s2]) rfl ?_;rw [kz.o] at hst ⊢;exact ⟨va,vc,a4,c4,rfl,hst.lt,xE⟩
def a_.key (x:a_):Int × aE:=(x.id,x.s)
structure eI (W:World) (q:Nat) (G:Nat->Prop) (v:Value) (M:List a_) (L:IL):Prop where
 box:af W q #[v] 53
 row:bS W G v M.length (M.flatMap a_.enc)
 all:∀ x∈M,qJ W G x
 eq:M.map a_.key=L
 asc:ja L
 apart:¬ G q
theorem eI.keep {q:Nat} {G:Nat->Prop} {M:List a_} {L:IL} (h:eI W q G v M L) (hk:aN (λk=>G k\/k=q) W W') (hs:W.heap.size<=W'.heap.size):eI W' q G v M L:=
 ⟨(hk q (.inr rfl) h.box.lt).trans h.box,h.row.keep (hk.mono λb hb=>.inl hb) hs,λx hx=>wu.keep (h.all x hx) (hk.mono λb hb=>.inl hb) hs,h.eq,h.asc,h.apart⟩
theorem eI.ext {q:Nat} {G:Nat->Prop} {M:List a_} {L:IL} (h:eI W q G v M L) (hb:Below W.heap.size W W'):eI W' q G v M L:=h.keep (aN.below hb) hb.size
theorem eI.grown {q:Nat} {G:Nat->Prop} {M:List a_} {L:IL} (h:eI W q G v M L) (hg:W.grownBy W' (some k)) (hk:¬ G k) (hq:k≠q):eI W' q G v M L:=
 h.keep (aN.grown hg λh=>h.elim hk hq) hg.size
theorem eI.len {q:Nat} {G:Nat->Prop} {M:List a_} {L:IL} (h:eI W q G v M L):L.length=M.length:=by rw [<- h.eq,List.length_map]
theorem eI.form {q:Nat} {G:Nat->Prop} {M:List a_} {L:IL} (h:eI W q G v M L):∃ a c,v=.slice a M.length c:=by obtain ⟨a,c,e,_⟩:=h.row.is;exact ⟨a,c,e⟩
theorem eI.get {q:Nat} {G:Nat->Prop} {a:Option Addr} {M:List a_} {L:IL} (h:eI W q G (.slice a n c) M L) (hk:k<M.length) :
  ∃ b o x,a=some ⟨b,o,none⟩/\b<W.heap.size/\M[k]? = some x/\L[k]? = some (x.id,x.s)/\qJ W G x/\W.cell? ⟨b,o+k*4,none⟩=some (.int .i64 x.id)/\W.cell? ⟨b,o+k*4+1,none⟩=some x.cv/\W.cell? ⟨b,o+k*4+2,none⟩=some (.int .i64 x.s.len)/\W.cell? ⟨b,o+k*4+3,none⟩=some x.ev:=by
 obtain ⟨a',c',he,h1,h2,h3⟩:=h.row.is;injection he with e1 _ e2
 subst e1;subst e2;have hx:M[k]? = some (M.getD k default):=by rw [List.getD_eq_getElem?_getD,List.getElem?_eq_getElem hk];rfl
 rcases h3 with h3|⟨b,o,rfl,hF,hl,hc⟩
 .omega
 exact ⟨b,o,M.getD k default,rfl,hl,hx,by rw [<- h.eq,List.getElem?_map,hx];rfl,h.all _ (List.mem_of_getElem? hx),hc (k*4+0) _ (lX a_.enc_len default hk rfl),hc (k*4+1) _ (lX a_.enc_len default hk rfl),hc (k*4+2) _ (lX a_.enc_len default hk rfl),hc (k*4+3) _ (lX a_.enc_len default hk rfl)⟩
def gp:IL->Int->Int
 | [],_=>-1
 | (j,_) :: r,i=>if j=i then 0 else if gp r i<0 then -1 else gp r i+1
theorem zy_ {L:IL} (h:i ∉ ids L):gp L i=-1:=by
 induction L with
 | nil=>rfl
 | cons x L ih=>
  obtain ⟨j,t⟩:=x;have h1:j≠i:=λe=>h (by subst e;simp [ids]);have h2:i ∉ ids L:=λe=>h (by unfold ids at *;simp [e]);unfold gp;rw [if_neg h1,ih h2];rfl
theorem zx_ {L:IL} {t:aE} (hk:L[k]? = some (i,t)) (h:∀ j,j<k->∀ x,L[j]? = some x->x.1≠i):gp L i=k:=by
 induction L generalizing k with
 | nil=>simp at hk
 | cons x L ih=>
  obtain ⟨j,u⟩:=x;cases k with
  | zero=>
   simp at hk;unfold gp;rw [if_pos hk.1];rfl
  | succ k=>
   have h1:j≠i:=h 0 aa _ rfl;have h2:=ih (k:=k) (by simpa using hk) λm hm x hx=>h (m+1) aa x (by simpa using hx);unfold gp;rw [if_neg h1,h2,if_neg aa];omega
theorem VU (q:Nat) (G:Nat->Prop) (v:Value) (M:List a_) (L:IL) (i:Int) (w:World) (h:eI w q G v M L) (hl:M.length<=100000) :
  Calls Tryz.prog 54 #[.pointer (some ⟨q,0,none⟩),.int .i64 i] w λe w'=>e=.returned (.int .i64 (gp L i))/\w'=w:=by
 obtain ⟨a,c,rfl⟩:=h.form;have H:=ad h;have q0:=(h.box.cells 0).1;have EM:=h.len;have qo:=ad EM;clear h EM
 go_in
 go_wp2
 go_loopw [5] (λiv wr=>∃ k:Nat,k<=M.length/\iv=.int .i64 k/\wr=w/\Hid (∀ j,j<k->∀ x,L[j]? = some x->x.1≠i)) (λiv _=>M.length-(intOf iv).toNat)
 .exact ⟨0,aa,rfl,rfl,ad λj hj=>aa⟩
 obtain ⟨k,hk,rfl,rfl,HN⟩:=hrel;by_cases hlt:k<M.length
 .have dh:(k:Int)<M.length:=aa;obtain ⟨b,o,x,rfl,hbl,hx,NW,hri,e0,e1,e2,e3⟩:=H.o.get hlt;obtain ⟨y,hy⟩:∃ y,x.id=y:=⟨_,rfl⟩;rw [hy] at e0 NW;have nD:=ad NW;clear hx NW hri hy;by_cases hxy:y=i
  .subst hxy;have HP:=ad (zx_ nD.o HN.o);go_wp2;go_ret;exact ⟨by rw [HP.o];rfl,rfl⟩
  have jE:=ad hxy;go_wp2;go_roundw
  .exact ⟨k+1,aa,by go_num,trivial,ad λj hj z hz=>by
   by_cases e:j=k
   .subst e;rw [nD.o] at hz;injection hz with hz;rw [<- hz];exact jE.o
   exact HN.o j aa z hz⟩
  simp [intOf];omega
 obtain rfl:k=M.length:=aa;have HP:Hid (gp L i=-1):=ad (zy_ λhm=>by
  obtain ⟨x,hx,he⟩:=List.mem_map.1 hm;obtain ⟨j,hj,e⟩:=List.mem_iff_getElem.1 hx;exact HN.o j (by rw [<- qo.o];exact hj) x (by rw [List.getElem?_eq_getElem hj,e]) he)
 go_wp2
 go_ret;exact ⟨by rw [HP.o];rfl,rfl⟩
theorem VV {α:Type} {F:Nat->Prop} {f:α->List Value} (hf:∀ x,(f x).length=sz) {a:Option Addr} {L:List α} (h:bS W F (.slice a n c) L.length (L.flatMap f)) {i m c':Nat} (oe:i+m<=L.length) (hm:m<=c') (hc:c'<=9223372036854775807) {a':Option Addr} (ha:m=0\/∃ b o,a=some ⟨b,o,none⟩/\a'=some ⟨b,o+i*sz,none⟩) :
  bS W F (.slice a' m c') m (((L.drop i).take m).flatMap f):=by
 obtain ⟨a2,c2,he,h1,h2,h3⟩:=h;injection he with e1 _ e2
 refine ⟨a',c',rfl,hm,hc,?_⟩;by_cases h0:m=0
 .exact .inl h0
 obtain ⟨b,o,hab,ha'⟩:=ha.resolve_left h0;rcases h3 with h3|⟨b2,o2,hb2,hF,hl,hcell⟩
 .omega
 rw [<- e1,hab] at hb2;injection hb2 with hb2
 injection hb2 with q1 q2
 subst q1;subst q2;refine .inr ⟨b,o+i*sz,ha',hF,hl,λj u hj=>?_⟩;rw [Nat.add_assoc];refine hcell (i*sz+j) u ?_;have e3:L=L.take i ++ L.drop i:=(List.take_append_drop i L).symm;have hlen:((L.take i).flatMap f).length=i*sz:=by rw [Eh hf,List.length_take,Nat.min_eq_left aa]
 rw [e3,List.flatMap_append,List.getElem?_append_right (by rw [hlen];omega),hlen,Nat.add_sub_cancel_left];have e4:L.drop i=(L.drop i).take m ++ (L.drop i).drop m:=(List.take_append_drop m _).symm;rw [e4,List.flatMap_append,List.getElem?_append_left (by exact (List.getElem?_eq_some_iff.1 hj).1)];exact hj
theorem QG {G:Nat->Prop} {M:List a_} (h:∀ x∈M,qJ W G x):∀ u∈M.flatMap a_.enc,u.oneCell'=true:=λu hu=>by
 obtain ⟨x,hx,hu⟩:=List.mem_flatMap.1 hu;obtain ⟨a,c,a',c',e1,e2⟩:=(h x hx).1.form;unfold a_.enc at hu;rw [e1,e2] at hu;simp at hu;rcases hu with rfl|rfl|rfl|rfl <;> rfl
theorem xu_ {e:TypeId} (h:W.ownsRow B e sz v n xs):bS W (λb=>B<=b) v n xs:=by
 obtain ⟨hl,⟨rfl,h2⟩|⟨g,cap,cur,rfl,hb,hg,h3,h4,h5,h6⟩⟩:=h
 .rw [h2];exact ⟨none,0,rfl,aa,aa,.inl rfl⟩
 have h':W.ownsRow B e sz (.slice (some ⟨g,0,none⟩) n cap) n xs:=⟨hl,.inr ⟨g,cap,cur,rfl,hb,hg,h3,h4,h5,h6⟩⟩;refine ⟨_,cap,rfl,h3,h4,.inr ⟨g,0,rfl,hb,(h'.lt g rfl).2,λi u hi=>?_⟩⟩;rw [Nat.zero_add];have:=(List.getElem?_eq_some_iff.1 hi).1;exact (h'.cellAt i (by rw [<- hl];exact this)).trans hi
theorem Mz {L:IL} (h:ja L) {t:aE} (hk:L[k]? = some (i,t)):L.take k ++ L.drop (k+1)=dF L i:=by
 have hlt:k<L.length:=(List.getElem?_eq_some_iff.1 hk).1;have he:L[k]=(i,t):=(List.getElem?_eq_some_iff.1 hk).2;have hsp:L=L.take k ++ (i,t) :: L.drop (k+1):=by rw [<- he,<- List.drop_eq_getElem_cons hlt,List.take_append_drop]
 have h2:=h;rw [hsp] at h2;unfold ja ids at h2;rw [List.map_append,List.map_cons,List.pairwise_append,List.pairwise_cons] at h2
 conv=>rhs;rw [hsp]
 unfold dF;rw [List.filter_append,List.filter_cons_of_neg ag,List.filter_eq_self.2,List.filter_eq_self.2]
 .intro x hx;have:=h2.2.1.1 x.1 (List.mem_map.2 ⟨x,hx,rfl⟩);have:x.1≠i:=by have h3:i<x.1:=this;omega
  simpa using this
 intro x hx;have:=h2.2.2 x.1 (List.mem_map.2 ⟨x,hx,rfl⟩) i ag;have:x.1≠i:=aa;simpa using this
theorem VT {L:IL}:(i ∉ ids L/\gp L i=-1)\/∃ (k:Nat) (t:aE),L[k]? = some (i,t)/\gp L i=k:=by
 induction L with
 | nil=>exact .inl ⟨by simp [ids],rfl⟩
 | cons x L ih=>
  obtain ⟨j,u⟩:=x;by_cases e:j=i
  .subst e;exact .inr ⟨0,u,rfl,by unfold gp;rw [if_pos rfl];rfl⟩
  unfold gp;rw [if_neg e];rcases ih with ⟨h1,h2⟩|⟨k,t,h1,h2⟩
  .refine .inl ⟨λhm=>?_,by rw [h2];rfl⟩;unfold ids at hm h1;rw [List.map_cons,List.mem_cons] at hm;exact hm.elim (λh=>e h.symm) h1
  exact .inr ⟨k+1,t,by simpa using h1,by rw [h2,if_neg aa];omega⟩
theorem z3_ {L:IL} (h:ja L) (i:Int):ja (dF L i):=by
 unfold ja ids dF;exact List.Pairwise.sublist (List.Sublist.map _ List.filter_sublist) h
theorem W_ {q:Nat} {G:Nat->Prop} {x:Value} {M:List a_} {L:IL} (hd:af W q #[x] 53) (ho:W.ownsRow B 68 4 v' M.length (M.flatMap a_.enc)) (hq:q<B) (hG:¬ G q) (ha:∀ x∈M,qJ W (λk=>G k\/B<=k) x) (he:M.map a_.key=L) (hs:ja L) :
  eI (W.setCell ⟨q,0,none⟩ v') q (λk=>G k\/B<=k) v' M L:=by
 have hk:aN (λk=>G k\/B<=k) W (W.setCell ⟨q,0,none⟩ v'):=aN.grown (World.grownBy.set' (World.grownBy.refl W (some q)) v') λe=>e.elim hG aa;exact ⟨br 0 v' hd,((xu_ ho).mono λb hb=>.inr hb).keep hk ag,λx hx=>wu.keep (ha x hx) hk ag,he,hs,λe=>e.elim hG aa⟩
theorem Mf {q:Nat} {G:Nat->Prop} {w9:World} {x:Value} {M:List a_} {L:IL} (H:eI w q G v M L) (hd:af w9 q #[x] 53) (ho:w9.ownsRow w.heap.size 68 4 v' (k+(M.length-(k+1))) (((M.drop 0).take k).flatMap a_.enc ++ ((M.drop (k+1)).take (M.length-(k+1))).flatMap a_.enc)) (hg:w.grownBy w9 (some q)) (hk:k<M.length) (hdel:L.take k ++ L.drop (k+1)=dF L i) :
  w.grownBy (w9.setCell ⟨q,0,none⟩ v') (some q)/\∃ v2 M',eI (w9.setCell ⟨q,0,none⟩ v') q (λk=>G k\/w.heap.size<=k) v2 M' (dF L i)/\M'.length<=M.length:=by
 refine ⟨World.grownBy.set' hg v',v',M.take k ++ M.drop (k+1),W_ hd ?_ H.box.lt H.apart ?_ ?_ (z3_ H.asc i),by rw [List.length_append,List.length_take,List.length_drop];omega⟩
 .have e1:(M.take k ++ M.drop (k+1)).length=k+(M.length-(k+1)):=by rw [List.length_append,List.length_take,List.length_drop];omega
  rw [e1,List.flatMap_append];rw [List.drop_zero,List.take_of_length_le (l:=M.drop (k+1)) (by rw [List.length_drop];omega)] at ho;exact ho
 .intro y hy;have hm:y∈M:=(List.mem_append.1 hy).elim List.mem_of_mem_take List.mem_of_mem_drop;exact wu.mono (wu.keep (H.all y hm) (aN.grown hg H.apart) hg.size) λb hb=>.inl hb
 rw [<- hdel,<- H.eq,List.map_append,List.map_take,List.map_drop]
def WT (q:Nat) (G:Nat->Prop) (M:List a_) (L:IL) (i:Int) (w:World) (e:Ending) (w':World):Prop:=
 (i ∉ ids L/\e=.returned (.int .i64 4)/\w'=w) \/
 (i∈ids L/\e=.returned (.int .i64 0)/\w.grownBy w' (some q)/\∃ v' M',eI w' q (λk=>G k\/w.heap.size<=k) v' M' (dF L i)/\M'.length<=M.length)
theorem qk_ (q:Nat) (G:Nat->Prop) (v:Value) (M:List a_) (L:IL) (i:Int) (w:World) (h:eI w q G v M L) (hl:M.length<=1000) :
  Calls Tryz.prog 35 #[.pointer (some ⟨q,0,none⟩),.int .i64 i] w (WT q G M L i w):=by
 obtain ⟨a,c,rfl⟩:=h.form;have H:=ad h;have hq:=h.box.lt;have HF:=ad (VU q G _ M L i w h aa);obtain ⟨a2,c2,Od,f_,hcm,-⟩:=h.row.is;injection Od with e1 _ e2
 subst e1;subst e2;have q0:=(h.box.cells 0).1;have qf:=(h.box.cells 0).2;rcases VT (L:=L) (i:=i) with ⟨pR,hp⟩|⟨k,t,hk,hp⟩
 .rw [hp] at HF;have im:=ad pR;clear h pR hp
  go_in
  go_wp2_with (go_at_call 54;(with_reducible refine HF.o.mono ?_);rintro e w1 ⟨rfl,rfl⟩)
  go_ret;exact .inl ⟨im.o,rfl,rfl⟩
 rw [hp] at HF;have BZ:k<L.length:=(List.getElem?_eq_some_iff.1 hk).1;have B4:k<M.length:=by rw [<- h.len];exact BZ
 have Kq:=ad (Mz h.asc hk);have dL:Hid (i∈ids L):=ad (List.mem_map.2 ⟨_,List.mem_of_getElem? hk,rfl⟩);have fM:(k:Int)<M.length:=aa;obtain ⟨b8,f8,x8,rfl,-⟩:=h.get B4;obtain ⟨iM,Gy,Gz,GA,GB⟩:=Xf;have eF:=ad (And.intro Gy (And.intro Gz (And.intro GA GB)));clear h hk hp Gy Gz GA GB
 go_in
 go_upto_region 5 with (first|(go_at_call 54;(with_reducible refine HF.o.mono ?_);rintro e w1 ⟨rfl,e1⟩;obtain rfl:w=w1:=e1.symm;have hk0:¬ (k:Int)<0:=aa)|(at_builtin;(refine Nn az _ _ _ _ az iM _ 4 64 Tryz.underlying51 eF.o.1 eF.o.2.1 eF.o.2.2.1 eF.o.2.2.2 rfl aF aF w.heap.size (.slice (some ⟨w.heap.size,0,none⟩) 0 0) (.slice (some ⟨b8,f8,none⟩) k c) 0 k [] (((M.drop 0).take k).flatMap a_.enc) G az ⟨rfl,.inr ⟨w.heap.size,0,#[],rfl,Nat.le_refl _,World.alloc_heap_new w _,Nat.le_refl _,by simp [maxLen],rfl,rfl⟩⟩ az (VV a_.enc_len (bS.keep H.o.row (aN.below (Ea (Er w) _)) ag) aa aa hcm (.inr ⟨b8,f8,rfl,ag⟩)) (by rw [Eh a_.enc_len,List.length_take,List.length_drop];congr 1;omega) (QG (G:=G) (λx hx=>(wu.keep (H.o.all x (List.mem_of_mem_drop (List.mem_of_mem_take hx))) (aN.below (Ea (Er w) (.cells #[] 68))) ag))) aa ag ?_);intro v5 w5 aw aH jO;rw [Nat.zero_add,List.nil_append] at aw;obtain ⟨xG,xH,rfl⟩:=k_ aw;have kT:=ad aw;have hb5:Below w.heap.size w w5:=((Ea (Er w) _).trans (Below.grown (Below.refl _ _) aH ag (λk e=>by simp [Value.ownBlock] at e;omega)));have cr:=ad hb5;have nx:=hb5.size;clear aw aH jO hb5))
 have iz:=H.o.box.below cr.o;have q5:=(iz.cells 0).1;have q6:=(iz.cells 0).2;have Ac:(0:Int)<=(k:Int)+1:=aa;have hk2:(k:Int)+1<=M.length:=aa;have og:k+1<=M.length:=aa;clear iz;have Zc:=ad (H.o.box.below cr.o);go_wp2_with (at_builtin;(refine Nn az _ _ _ _ az iM _ 4 64 Tryz.underlying51 eF.o.1 eF.o.2.1 eF.o.2.2.1 eF.o.2.2.2 rfl aF aF w.heap.size (.slice xG k xH) (.slice (if c=k+1 then some ⟨b8,f8,none⟩ else some ⟨b8,f8+(k+1)*4,none⟩) (M.length-(k+1)) (c-(k+1))) k (M.length-(k+1)) (((M.drop 0).take k).flatMap a_.enc) (((M.drop (k+1)).take (M.length-(k+1))).flatMap a_.enc) G az kT.o az (VV a_.enc_len (bS.keep H.o.row (aN.below cr.o) nx) aa aa aa (if hc:c=k+1 then .inl aa else .inr ⟨b8,f8,rfl,by rw [if_neg hc]⟩)) (by rw [Eh a_.enc_len,List.length_take,List.length_drop];congr 1;omega) (QG (G:=G) (λx hx=>(wu.keep (H.o.all x (List.mem_of_mem_drop (List.mem_of_mem_take hx))) (aN.below cr.o) nx))) aa aa ?_);intro v9 w9 au aq aK;obtain ⟨na9,nc9,rfl⟩:=k_ au;have sV:w.grownBy w9 (some q):=(World.grownBy.of_below (cr.o.grown aq aa (λq' e=>(kT.o.lt q' e).1)) (some q));have d2:=Zc.o.grown aq (λe=>by have:=(kT.o.lt _ e.symm).1;omega);have g2:=d2.cells 0;have oA:=ad d2;clear d2;have kU:=ad au;clear au aq aK);all_goals go_wp2_with fail
 all_goals go_ret
 all_goals exact .inr ⟨dL.o,rfl,Mf H.o oA.o kU.o sV B4 Kq.o⟩
end
end Go.Proofs.YtbmgmlbmgogeaaaGreat
end
