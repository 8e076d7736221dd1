/- Part 6 of the proof of MixedMatchesReference_said. -/
import Derived.Test.YthjnojbeimchdaaGreatQ5
import Derived.Maps.OwnIn
import Derived.Lib.AppendZerosOnto
set_option linter.unusedVariables false
set_option linter.unusedSimpArgs false
set_option maxRecDepth 100000
set_option maxHeartbeats 4000000
section
variable {ops:Array Go.Oper}{b:Bool}{e:Go.Ending}{F P a at_ n r s x y:Int}{T m m1 m2:List (List Kal.Per)}{l:List Int}{rest:List Go.Oper}{L:List Go.Proofs.YthjnojbeimchdaaGreat.PV}{t u:List Kal.Per}{xs:List Go.Value}{B base cap g i j k:Nat}{o:Go.Oper}{row:Option Nat}{p q:Kal.Per}{h lv v:Go.Value}{A W W' w w':Go.World}
namespace Go.Proofs.YthjnojbeimchdaaGreat
open Go.RowKit Go.Shelf Go.Maps Kal
attribute [local go_sem] Oper.semAt_some
structure aw_ (s:Int) (t:List Per):Prop where
 ne:t≠[]
 fv:∀ p∈t,FV s p
 len:t.length≤1000000
theorem aw_.f (h:aw_ s t):vn_ s t:=⟨h.ne,fun p hp=>(h.fv p hp).fac⟩
theorem aw_.merged (h:aw_ s t) (hm:b8_ t u) (hv:∀ p∈u,FV s p):aw_ s u:=by
 obtain ⟨h1,_,h3⟩:=hm.ok h.f;exact ⟨h1.1,hv,Nat.le_trans h3 h.len⟩
structure NI (B:Nat) (w:World) (s:Int) (lv:Value) (L:List (Value × List Per)) (W:World):Prop where
 below:Below B w W
 row:RowT B (fun k=>k=B∨k=B+1) W lv L
 rbx:Bxx W B #[.slice none 0 0] 28
 lbx:Bxx W (B+1) #[lv] 26
 vt:∀ x∈L,aw_ s x.2
theorem NI.grow {L:List (Value × List Per)} (h:NI B w s lv L W) (hB:B≤w.heap.size) (hg:W.grownBy W' row) (hr:∀ r,row=some r->B≤r∧∃ o:Obj,W.heap[r]? = some o∧o.isCells=false):NI B w s lv L W':=by
 have key:∀ {b:Nat} {c:Array Value} {t:TypeId},Bxx W b c t->Bxx W' b c t:=fun {b c t} hx=>by
  refine (hg.block b hx.lt fun e=>?_).trans hx;obtain ⟨_,o,ho,hc⟩:=hr b e.symm;rw [show W.heap[b]? = _ from hx] at ho;cases ho;cases hc
 exact ⟨h.below.grown hg (Nat.le_trans hB h.below.size) (fun k e=>(hr k e).1),h.row.grow hg (fun r e=>(hr r e).2),key h.rbx,key h.lbx,h.vt⟩
theorem NI.ext {L:List (Value × List Per)} (h:NI B w s lv L W) (hB:B≤w.heap.size) (hb:Below W.heap.size W W'):NI B w s lv L W':=
 ⟨h.below.trans (hb.mono (Nat.le_trans hB h.below.size)),h.row.below hb,h.rbx.below hb,h.lbx.below hb,h.vt⟩
def lenW (B:Nat) (W:World):Nat:=match W.cell? ⟨B+1,0,none⟩ with|some (.slice _ n _)=>n|_=>0
theorem NI.lenW {L:List (Value × List Per)} (h:NI B w s lv L W):lenW B W=L.length:=by
 obtain ⟨a,c,rfl,_⟩:=h.row.form;have h1:=(h.lbx.cells 0).1;unfold Go.Proofs.YthjnojbeimchdaaGreat.lenW;rw [h1];rfl
theorem ab_.single {F:Nat->Prop} (h:ab_ W F v t) (h1:t.length=1):∃ b o c a1 n1 c1 a2 n2 c2,v=.slice (some ⟨b,o,none⟩) 1 c∧PVok W F ⟨.slice a1 n1 c1,.slice a2 n2 c2,t.getD 0 default⟩∧
  W.cell? ⟨b,o,none⟩=some (.slice a1 n1 c1)∧W.cell? ⟨b,o+1,none⟩=some (.int .i64 (t.getD 0 default).frm)∧W.cell? ⟨b,o+2,none⟩=some (.int .i64 (t.getD 0 default).period)∧W.cell? ⟨b,o+3,none⟩=some (.slice a2 n2 c2):=by
 obtain ⟨L,rfl,hL⟩:=h;obtain ⟨a,c,rfl,_⟩:=hL.row.is;have hl:L.length=1:=by simpa using h1
 obtain ⟨b,o,x,rfl,hx,hxp,_,e0,e1,e2,e3⟩:=hL.get (show 0<L.length by omega);obtain ⟨xh,xc,xp⟩:=x;obtain ⟨a1,n1,c1,a2,n2,c2,rfl,rfl⟩:=hx.form;dsimp only at e0 e1 e2 e3 hxp;subst hxp;rw [hl];simp only [Nat.zero_mul,Nat.add_zero] at e0 e1 e2 e3;exact ⟨b,o,c,a1,n1,c1,a2,n2,c2,rfl,hx,e0,e1,e2,e3⟩
theorem og_ {n:Nat} {a1 a2:Option Addr} {n1 c1 n2 c2:Nat} (h:PVok W (fun b=>n≤b∧b≠n) ⟨.slice a1 n1 c1,.slice a2 n2 c2,q⟩) (hn:n≤W.heap.size) :
  ab_ (W.alloc (.cells #[.slice a1 n1 c1,.int .i64 q.frm,.int .i64 q.period,.slice a2 n2 c2] 39)) (fun b=>n≤b∧(b≠n∨b=W.heap.size)) (.slice (some ⟨W.heap.size,0,none⟩) 1 1) [q]:=by
 have hb:=Bxx.new W #[.slice a1 n1 c1,.int .i64 q.frm,.int .i64 q.period,.slice a2 n2 c2] 39;refine ⟨[⟨.slice a1 n1 c1,.slice a2 n2 c2,q⟩],rfl,⟨_,1,rfl,sq_,oq_,.inr ⟨W.heap.size,0,rfl,⟨hn,.inr rfl⟩,hb.lt,fun i u hi=>?_⟩⟩,sq_,fun x hx=>?_⟩
 ·rw [Nat.zero_add];refine (hb.cells i).1.trans ?_;rw [<- hi]
  match i with
  | 0=>rfl
  | 1=>rfl
  | 2=>rfl
  | 3=>rfl
  | k+4=>rfl
 ·obtain rfl:x=⟨.slice a1 n1 c1,.slice a2 n2 c2,q⟩:=by simpa using hx
  exact (h.keep (a5_.below (Ea (Er W) _))).mono fun b hb=>⟨hb.1,.inl hb.2⟩
theorem RowT.boxO {A:Nat->Prop} {L:List (Value × List Per)} (h:RowT B A W v L) (hg:W.grownBy W' row) (hA:∀ k,row=some k->A k):RowT B A W' v L:=by
 rcases row with _|k
 ·exact ⟨h.row.kept hg (by cases v.ownBlock <;> simp),fun x hx=>(h.all x hx).keep (fun b _ hl=>hg.block b hl sq_) hg.size,h.ne,h.len⟩
 ·exact h.box hg (hA k rfl)
def c8_ (s:Int) (T:List (List Per)) (w:World) (e:Ending) (w':World):Prop:=
 ∃ (v:Value) (m:List (List Per)),bf_ T m∧(∀ t∈m,aw_ s t)∧Below w.heap.size w w'∧
  ((bj_ m=true∧e=.returned (.tuple #[.agg #[v],.int .i64 0])∧MixR w' (fun b=>w.heap.size≤b) v m)∨(bj_ m=false∧e=.returned (.tuple #[.agg #[.slice none 0 0],.int .i64 2])))
structure NO (B n D k:Nat) (w:World) (lv ov:Value) (M LO:List (Value × List Per)) (W:World):Prop where
 below:Below B w W
 lrow:RowT B (fun k=>k=B∨k=B+1∨n≤k) W lv M
 orow:RowT B (fun k=>k=B∨k=B+1∨k=n) W ov LO
 own:∀ g,ov.ownBlock=some g->n≤g
 obx:Bxx W n #[ov] 28
 rbx:Bxx W B #[.slice none 0 0] 28
 dfr:W.heap[D]? = some (.deferred (some []))
 eq:LO.map Prod.snd=ddL [] ((M.map Prod.snd).take k)
 len:LO.length≤k
theorem NO.ext {n D:Nat} {ov:Value} {M LO:List (Value × List Per)} (h:NO B n D k w lv ov M LO W) (hB:B≤w.heap.size) (hb:Below W.heap.size W W'):NO B n D k w lv ov M LO W':=
 ⟨h.below.trans (hb.mono (Nat.le_trans hB h.below.size)),h.lrow.below hb,h.orow.below hb,h.own,h.obx.below hb,h.rbx.below hb,(hb.block D (Array.getElem?_eq_some_iff.1 h.dfr).1).trans h.dfr,h.eq,h.len⟩
theorem Bxx.c0 {b:Nat} {t:TypeId} (h:Bxx w b #[v] t):w.cell? ⟨b,0,none⟩=some v:=(h.cells 0).1
theorem EyT.put (pre:List (Value × List Per)) (y:Value × List Per) (W:World) (l:Nat) (o o':Obj) (hl:W.heap[l]? = some o) (ho:o.isCells=false) (h:EyT T pre y W):EyT T pre y (W.putObj l o'):=
 ⟨h.1,_,(h.2.choose_spec).put hl ho⟩
theorem mn_ {F:Fence} {nF:Nat} {a:Act} {Q:Exit->Act->World->Prop} (hgd:o.guard=none) (sx x:Operand)
  (ho:o.op=.call { callee:=.builtin .append,args:=#[sx,x],argTypes:=#[26,26] }) (B:Nat) (A:Nat->Prop) (v:Value) (L:List (Value × List Per)) (y:Value × List Per) (hs:a.eval sx=v) (h:RowT B A w v L)
  (hy:ab_ w (RowF B A v) y.1 y.2) (blk c:Nat) (hx:a.eval x=.slice (some ⟨blk,0,none⟩) 1 c) (hnew:w.cell? ⟨blk,0,none⟩=some y.1) (hA:¬ A w.heap.size) (hl:L.length<1000000) (hB:B≤w.heap.size)
  (k:∀ (a':Option Addr) (c':Nat) (w':World),RowT B A w' (.slice a' (L.length+1) c') (L ++ [y])->w.grownBy w' v.ownBlock->Below B w w'->((Value.slice a' (L.length+1) c').ownBlock=v.ownBlock∨(Value.slice a' (L.length+1) c').ownBlock=some w.heap.size)->wpListIn F nF Tryz.prog ops Q rest (a.put o.dst (.slice a' (L.length+1) c')) w') :
  wpListIn F nF Tryz.prog ops Q (o :: rest) a w:=by
 obtain ⟨i,hi,h1,h2,h3⟩:=gi_;refine wpListIn_append_own_at w hgd sx x 26 ho B 36 i (.slice none 0 0) 1 24 rfl hi h1 h2 h3 rfl oq_ v L.length (L.map Prod.fst) hs h.row ⟨blk,0,none⟩ 1 c [y.1] hx rfl ?_ (by simp;exact hy.one) (by unfold maxLen;omega) oq_ hB ?_
 ·intro j u hu
  match j,hu with
  | 0,hu=>simp at hu;subst hu;exact hnew
 ·intro v' w' hown' hgrow _ hb;have hp:=h.push hy hown' hgrow hb hA hl;obtain ⟨a',c',rfl,_⟩:=hp.form;have e:(L ++ [y]).length=L.length+1:=by simp
  rw [e] at hp hb ⊢;exact k a' c' w' hp hgrow ((Below.refl B w).grown hgrow hB fun k e=>(h.row.lt k e).1) hb
theorem de_ {a:Act} {Q:Exit->Act->World->Prop} (hgd:o.guard=none) (sx x:Operand)
  (ho:o.op=.call { callee:=.builtin .append,args:=#[sx,x],argTypes:=#[26,26] }) (B:Nat) (A:Nat->Prop) (v:Value) (L:List (Value × List Per)) (y:Value × List Per) (hs:a.eval sx=v) (h:RowT B A w v L)
  (hy:ab_ w (RowF B A v) y.1 y.2) (blk c:Nat) (hx:a.eval x=.slice (some ⟨blk,0,none⟩) 1 c) (hnew:w.cell? ⟨blk,0,none⟩=some y.1) (hA:¬ A w.heap.size) (hl:L.length<1000000) (hB:B≤w.heap.size)
  (k:∀ (a':Option Addr) (c':Nat) (w':World),RowT B A w' (.slice a' (L.length+1) c') (L ++ [y])->w.grownBy w' v.ownBlock->Below B w w'->((Value.slice a' (L.length+1) c').ownBlock=v.ownBlock∨(Value.slice a' (L.length+1) c').ownBlock=some w.heap.size)->wpList Tryz.prog ops Q rest (a.put o.dst (.slice a' (L.length+1) c')) w') :
  wpList Tryz.prog ops Q (o :: rest) a w:=by
 obtain ⟨i,hi,h1,h2,h3⟩:=gi_;refine wpList_append_own_at w hgd sx x 26 ho B 36 i (.slice none 0 0) 1 24 rfl hi h1 h2 h3 rfl oq_ v L.length (L.map Prod.fst) hs h.row ⟨blk,0,none⟩ 1 c [y.1] hx rfl ?_ (by simp;exact hy.one) (by unfold maxLen;omega) oq_ hB ?_
 ·intro j u hu
  match j,hu with
  | 0,hu=>simp at hu;subst hu;exact hnew
 ·intro v' w' hown' hgrow _ hb;have hp:=h.push hy hown' hgrow hb hA hl;obtain ⟨a',c',rfl,_⟩:=hp.form;have e:(L ++ [y]).length=L.length+1:=by simp
  rw [e] at hp hb ⊢;exact k a' c' w' hp hgrow ((Below.refl B w).grown hgrow hB fun k e=>(h.row.lt k e).1) hb
theorem ab_.fresh {n:Nat} {u:Value} (h:ab_ W (fun b=>n≤b) u t) (h1:B+2≤n) (hv:∀ g,v.ownBlock=some g->g<n):ab_ W (RowF B (fun k=>k=B∨k=B+1) v) u t:=
 h.mono fun b (hb:n≤b)=>⟨oq_,(by rintro (h|h) <;> omega),fun e=>by have:=hv b e;omega⟩
theorem RowT.row_cells {A:Nat->Prop} {L:List (Value × List Per)} (h:RowT B A W v L):∀ r,v.ownBlock=some r->∃ o:Obj,W.heap[r]? = some o∧o.isCells=true:=by
 intro r hr;obtain ⟨_,⟨rfl,_⟩|⟨g,cap,cur,rfl,_,hh,_⟩⟩:=h.row
 ·cases hr
 ·obtain rfl:g=r:=by simpa [Value.ownBlock] using hr
  exact ⟨_,hh,rfl⟩
theorem KeepsOthers.of_below {C:World} (h:Below A.heap.size A C):KeepsOthers A C:=⟨h.size,fun k o hk _=>(h.block k (Array.getElem?_eq_some_iff.1 hk).1).trans hk⟩
theorem ek_ (s:Int) (g:Nat) (lb:Array Value) (T:List (List Per)) (w:World) (hit:n3_ g lb T w) (hT:∀ t∈T,aw_ s t) (hTl:T.length≤100000) :
  Calls Tryz.prog 68 #[.func (.func g) #[] lb] w (c8_ s T w):=by
 refine callsIn_wide (n:=0).1 ?_;refine callsIn_of_wp_marks Tryz.func68 rfl trivial ?_ rfl;simp only [Tryz.ntmps68,List.size_toArray,List.length_cons,List.length_nil,Nat.reduceAdd,Nat.reduceSub,Array.replicate_succ,Array.replicate_zero,List.push_toArray,List.append_toArray,List.nil_append,List.cons_append]
 gi_wp2_with fail
 generalize hW0:(w.alloc _).alloc _=W0;have hE:Below w.heap.size w W0:=by rw [<- hW0];exact xE
 have hsz:W0.heap.size=w.heap.size+2:=by rw [<- hW0];simp
 have hrb:Bxx W0 w.heap.size #[.slice none 0 0] 28:=by rw [<- hW0];exact (Bxx.at rfl).alloc _
 have hlb:Bxx W0 (w.heap.size+1) #[.slice none 0 0] 26:=by rw [<- hW0];exact Bxx.at sq_
 have HIT:=hq_ hit;have HST:Hid (NI w.heap.size w s (.slice none 0 0) [] W0):=hq_ ⟨hE,RowT.nil _ _ _,hrb,hlb,sq_⟩;have HT:=hq_ hT;clear hW0 hrb hlb hit hT;refine jh_ (α:=Value × List Per) (x:=none) (gf:=g) (lb:=lb) rfl HIT.out.1 (HIT.out.2 W0 hE) (fun h k=>h.trans k) (KpB.putObj (by intro k hk;omega)) (fun y=>rfl)
  (fun pre W'=>∃ lv L,b0_ (pre.map Prod.snd) (L.map Prod.snd)∧NI w.heap.size w s lv L W'∧L.length≤pre.length∧∃ r,T=pre.map Prod.snd ++ r)
  (by
   rintro pre A C row ⟨lv,L,h1,h2,h3,h4⟩ hg hr;refine ⟨lv,L,h1,h2.grow (Nat.le_refl _) hg fun r e=>?_,h3,h4⟩;rcases hr r e with ⟨h,_⟩|⟨h,h'⟩
   ·cases h
   ·exact ⟨oq_,h'⟩)
  EyT.put (by exact ⟨_,[],b0_.nil,HST.out,sq_,T,sq_⟩)
  (fun y=>⟨#[.func (Fn.func g) #[] lb,undef,.pointer (some ⟨w.heap.size,0,none⟩),.int .i64 0,.pointer (some ⟨w.heap.size+1,0,none⟩),y.1,undef,undef,undef,undef,undef,undef,undef,undef,.func (Fn.func g) #[] lb,y.1,undef,undef,undef,undef,undef,undef,undef,undef,undef,undef,undef,undef,undef,undef,undef,undef,undef,undef,undef,undef,undef,undef,undef,undef,undef,undef,undef,undef,undef,undef,undef,undef,undef,undef,undef,undef,undef,undef,undef,undef,undef,undef,undef,undef,undef,undef,undef,undef,undef,undef,undef,undef,undef,undef,undef,undef,undef,undef,undef,undef,undef,undef,undef,undef,undef,undef,undef,undef,undef,undef,undef,undef,undef,undef,undef,undef,undef,undef,undef,undef,undef,undef,undef,undef,undef,undef,undef,undef,undef,undef,undef,undef,undef,undef,undef,undef,undef,undef,undef,undef,undef,undef,undef,undef,undef],[]⟩) ?assign ?body ?done
 case assign=>
  intro l y W' K hK;unfold tenc
  gi_wp2
  exact hK
 case body=>
  rintro l pre y W' ⟨lv,L,hMA,hNI,hLl,-⟩ ⟨⟨r,hTr⟩,F,hyt⟩;obtain ⟨yv,yt⟩:=y;dsimp only at hTr hyt;have hvt:=HT.out yt (by rw [hTr];simp);have hpl:pre.length≤100000:=by
   have:=congrArg List.length hTr;rw [List.length_append,List.length_map,List.length_cons] at this;omega
  obtain ⟨ya,yc,rfl,_⟩:=hyt.form;obtain ⟨la,lc,rfl,_⟩:=hNI.row.form;have hwz:=hNI.lbx.lt;have hown:=hNI.row.row.lt;have HM:=qm_ F s _ yt W' hyt hvt.fv hvt.len;have HVT:=hq_ hvt;have HNI:=hq_ hNI;have HMA:=hq_ hMA;have HTR:=hq_ hTr;clear hNI hMA hTr hyt hvt
  gi_wp2_with (first
   | (refine ⟨trivial,rfl,?_⟩;gi_at_call 108;refine (CallsIn.inRound l (callsIn_wide.2 HM)).mono ?_;rintro e w1 ⟨v',u,rfl,hmt,hfv,htr,hb1⟩;obtain ⟨va,vc,rfl,_⟩:=htr.form;have HMT:=hq_ hmt;have HFV:=hq_ hfv;have HTR1:=hq_ htr;have HROW:=(fun W (hW:Below w1.heap.size w1 W)=>(htr.ext hW).fresh (B:=w.heap.size) (v:=.slice la L.length lc) oq_ (fun g hg=>(hown g hg).2));have HB1:=hq_ hb1;clear hmt hfv htr hb1)
   | (refine ⟨trivial,rfl,?_⟩;gi_at_call 75;refine (CallsIn.inRound l (callsIn_wide.2 (kz_ _ _ u _ (HTR1.out.ext (by exact Below.refl _ _)) (fun p hp=>(HFV.out p hp).validB)))).mono ?_;rintro e w2 ⟨b,rfl,hbar,hb2⟩;have HBAR:=hq_ hbar;have HB2:=hq_ hb2;clear hbar hb2;have hbx:=HNI.out.lbx.below (Et HB1.out HB2.out);have q2:=(hbx.cells 0).1;have q3:=(hbx.cells 0).2;clear hbx;cases b)
   | (gi_at_builtin;refine mn_ rq_ _ _ rq_ w.heap.size (fun k=>k=w.heap.size∨k=w.heap.size+1) (.slice la L.length lc) L (.slice va u.length vc,u) rq_ (HNI.out.row.below (Ea (Et HB1.out HB2.out) _)) (HROW _ (Ea HB2.out _)) _ _ rq_ sq_ (by have:=HB1.out.size;have:=HB2.out.size;simp;omega) oq_ (by have:=HB1.out.size;have:=HB2.out.size;simp;omega) ?_;intro ga gc w3 hr3 hg3 hb3 _;have hbx3:=((HNI.out.lbx.below (Et HB1.out HB2.out)).alloc (.cells #[.slice va u.length vc] 36)).grown hg3 (by rintro e;exact HNI.out.row.ne _ e.symm (.inr rfl));have q4:=(hbx3.cells 0).1;have q5:=(hbx3.cells 0).2;have HBX3:=hq_ hbx3;have HR3:=hq_ hr3;have HG3:=hq_ hg3;have HB3:=hq_ hb3;clear hbx3 hr3 hg3 hb3))
  ·have h12:=Et HB1.out HB2.out;have hal:Below w.heap.size W' (w2.alloc (.cells #[.slice va u.length vc] 36)):=(Ea h12 _).mono oq_;refine ⟨((KeepsOthers.grown_cells (KeepsOthers.of_below (Ea h12 _)) HG3.out (HNI.out.row.below (Ea h12 _)).row_cells).trans (KeepsOthers.setCell w3 _ _)).from _,fun k hk=>?_,.slice ga (L.length+1) gc,L ++ [(.slice va u.length vc,u)],?_,⟨?_,?_,?_,?_,?_⟩,?_,?_⟩
   ·exact (((hal.trans HB3.out).setCell (p:=⟨w.heap.size+1,0,none⟩) (Nat.le_succ _) _).block k hk)
   ·rw [List.map_append,List.map_append];exact HMA.out.keep1 HMT.out (by have:=HBAR.out;simpa using this)
   ·exact (HNI.out.below.trans (hal.trans HB3.out)).setCell (p:=⟨w.heap.size+1,0,none⟩) (Nat.le_succ _) _
   ·exact HR3.out.box (World.grownBy.set' ⟨rfl,rfl,rfl,Nat.le_refl _,fun _ _ _=>rfl⟩ _) (.inr rfl)
   ·exact Bxx.setNe (((HNI.out.rbx.below h12).alloc _).grown HG3.out (fun e=>HNI.out.row.ne _ e.symm (.inl rfl))) _ oq_
   ·exact a4_ 0 _ HBX3.out
   ·intro x hx;rcases List.mem_append.1 hx with hx|hx
    ·exact HNI.out.vt x hx
    ·obtain rfl:x=(.slice va u.length vc,u):=by simpa using hx
     exact HVT.out.merged HMT.out HFV.out
   ·simp;omega
   ·exact ⟨r,by rw [List.map_append,List.append_assoc];exact HTR.out⟩
  ·have h12:=Et HB1.out HB2.out;refine ⟨(KeepsOthers.of_below h12).from _,fun k hk=>h12.block k oq_,_,L,?_,HNI.out.ext (Nat.le_refl _) h12,?_,?_⟩
   ·rw [List.map_append];exact HMA.out.skip1 HMT.out (by have:=HBAR.out;simpa using this)
   ·simp;omega
   ·exact ⟨r,by rw [List.map_append,List.append_assoc];exact HTR.out⟩
 case done=>
  rintro D xs W' hD hfin ⟨lv,L,hMA,hNI,hLl,-⟩ hdef;have hxl:xs.length=T.length:=by rw [<- show xs.map Prod.snd=T from hfin,List.length_map]
  have hLL:L.length≤100000:=oq_;rw [show xs.map Prod.snd=T from hfin] at hMA;have HMA:=hq_ hMA;have HNI:=hq_ hNI;have HDEF:=hq_ hdef;clear hfin hMA hNI hdef hxl hLl
  gi_wp2_with fail
  refine wpIn_wide.2 ?_
  go_loopw [6,7,8,9,10,28] (fun s6 _ _ _ _ _ wr=>∃ (b:Bool) (lv:Value) (M:List (Value × List Per)),s6=.bool b∧M.length≤100000∧Hid (∀ m,ck_ (M.map Prod.snd) m->ck_ (L.map Prod.snd) m)∧Hid (b=false->cj_ (az_ (M.map Prod.snd)) M.length)∧Hid (NI w.heap.size w s lv M wr)∧Hid (wr.heap[D]? = some (.deferred (some []))))
   (fun s6 _ _ _ _ _ wr=>2*lenW w.heap.size wr+(match s6 with|.bool true=>1|_=>0))
  case atStart=>exact ⟨true,lv,L,rfl,hLL,hq_ (fun _ h=>h),hq_ (fun h=>absurd h dq_),HNI,HDEF⟩
  case round=>
   obtain ⟨b,lv,M,rfl,hMl,HJ,HNP,HN,HD⟩:=hrel;have hlw:=HN.out.lenW;obtain ⟨la,lc,rfl,_,_,hfm⟩:=HN.out.row.form;have q2:=(HN.out.lbx.cells 0).1;cases b with
   | true=>
    have HLW:=hq_ hlw;clear hlw;go_wp2_with fail
    go_step3
    go_wp2_with fail
    go_step3
    go_wp2_with fail
    go_loopw [6,7,8,9,10,28] (fun s6 _ _ _ _ idx wr=>∃ ii:Nat,ii≤M.length∧s6=.bool false∧idx=.int .i64 ii∧Hid (∀ i' j',i'<ii->i'<j'->j'<M.length->¬ az_ (M.map Prod.snd) i' j')∧Hid (NI w.heap.size w s (.slice la M.length lc) M wr)∧Hid (wr.heap[D]? = some (.deferred (some [])))) (fun _ _ _ _ _ idx _=>M.length-(intOf idx).toNat)
    case atStart=>exact ⟨0,oq_,rfl,rfl,hq_ (fun _ _ h=>absurd h oq_),HN,HD⟩
    case round=>
     obtain ⟨ii,hii,rfl,rfl,HN2,HI2,HD2⟩:=hrel;have q2:=(HI2.out.lbx.cells 0).1
     by_cases hlt:ii<M.length
     ·have hiI:(ii:Int)<M.length:=oq_;rcases hfm with h0|⟨g1,rfl⟩
      ·omega
      go_wp2_with fail
      go_loopw [6,8,9,10] (fun s6 jv _ _ wr=>∃ jj:Nat,ii<jj∧jj≤M.length∧s6=.bool false∧jv=.int .i64 jj∧Hid (∀ j',ii<j'->j'<jj->¬ az_ (M.map Prod.snd) ii j')∧Hid (NI w.heap.size w s (.slice (some ⟨g1,0,none⟩) M.length lc) M wr)∧Hid (wr.heap[D]? = some (.deferred (some [])))) (fun _ jv _ _ _=>M.length-(intOf jv).toNat)
      case atStart=>exact ⟨ii+1,oq_,oq_,rfl,by go_num,hq_ (fun _ h1 h2=>absurd h2 oq_),HI2,HD2⟩
      case round=>
       obtain ⟨jj,hij,hjj,rfl,rfl,HN3,HI3,HD3⟩:=hrel;have q2:=(HI3.out.lbx.cells 0).1;obtain ⟨htx,q3,-⟩:=HI3.out.row.get rfl hlt;have hdx:(M.map Prod.snd).getD ii []=(M.getD ii default).2:=by simp [List.getD_eq_getElem?_getD,hlt]
       have HMX:Hid (M.getD ii default∈M):=hq_ (aa_ hlt);generalize M.getD ii default=X at *;obtain ⟨xv,xt⟩:=X;dsimp only at q3 hdx htx;have HDX:=hq_ hdx
       by_cases hjl:jj<M.length
       ·have hjI:(jj:Int)<M.length:=oq_
        by_cases hx1:xt.length=1
        ·obtain ⟨bx,ox,cx,ax1,nx1,cx1,ax2,nx2,cx2,rfl,hpx,x0,x1,x2,x3⟩:=htx.single hx1;obtain ⟨hty,q4,-⟩:=HI3.out.row.get rfl hjl;have hdy:(M.map Prod.snd).getD jj []=(M.getD jj default).2:=by simp [List.getD_eq_getElem?_getD,hjl]
         have HMY:Hid (M.getD jj default∈M):=hq_ (aa_ hjl);generalize M.getD jj default=Y at *;obtain ⟨yv,yt⟩:=Y;dsimp only at q4 hdy hty;have HDY:=hq_ hdy;have HX1:=hq_ hx1
         by_cases hy1:yt.length=1
         ·obtain ⟨by',oy,cy,ay1,ny1,cy1,ay2,ny2,cy2,rfl,hpy,y0,y1,y2,y3⟩:=hty.single hy1;have HY1:=hq_ hy1;have hfx:=(HI3.out.vt _ HMX.out).fv _ (aa_ (d:=default) (show 0<xt.length by omega));have hfy:=(HI3.out.vt _ HMY.out).fv _ (aa_ (d:=default) (show 0<yt.length by omega));have HJN:Hid (az_ (M.map Prod.snd) ii jj↔divB (xt.getD 0 default) (yt.getD 0 default)=true):=hq_ (by unfold az_;rw [hdx,hdy];exact ⟨fun h=>h.2.2,fun h=>⟨hx1,hy1,h⟩⟩);have HJA:Hid (ct_ (M.map Prod.snd) ii jj=((M.map Prod.snd).set ii [orP (xt.getD 0 default) (yt.getD 0 default)]).eraseIdx jj):=hq_ (by unfold ct_;rw [hdx,hdy]);generalize xt.getD 0 default=xp at *;generalize yt.getD 0 default=yp at *;have HDIV:=fun W=>je_ ⟨.slice ax1 nx1 cx1,.slice ax2 nx2 cx2,xp⟩ ⟨.slice ay1 ny1 cy1,.slice ay2 ny2 cy2,yp⟩ W hfx.valid.wf.per hfx.valid.per hfy.valid.wf.per hfy.valid.per;change ∀ W,Calls _ _ #[perV _ _ xp.frm xp.period,perV _ _ yp.frm yp.period] W fun e w'=>e=.returned (.bool (divB xp yp))∧_ at HDIV;have HFX:=hq_ hfx;have HFY:=hq_ hfy;have HPX:=hq_ hpx;have HPY:=hq_ hpy;generalize divB xp yp=dd at *;clear htx hty hdx hdy hx1 hy1 hfx hfy hpx hpy;go_wp2_with fail
          refine ai_ (w0:=wr) [0,1,2,3,4,5,6,7,8,9,10,11,12,13,14,15,16,17,18,19,20] [21] (fun v=>⟨#[.func (Fn.func g) #[] lb,undef,.pointer (some ⟨w.heap.size,0,none⟩),.int .i64 0,.pointer (some ⟨w.heap.size+1,0,none⟩),undef,.bool false,.int .i64 ↑ii,.int .i64 ↑jj,u9,u10,undef,undef,undef,.func (Fn.func g) #[] lb,undef,undef,undef,undef,undef,undef,undef,undef,undef,undef,.bool true,.slice (some ⟨g1,0,none⟩) M.length lc,.int .i64 ↑M.length,.int .i64 ↑ii,.bool true,.int .i64 ↑ii,.int .i64 ↑ii,.int .i64 (↑ii+1),.int .i64 ↑jj,.slice (some ⟨g1,0,none⟩) M.length lc,.int .i64 ↑M.length,.bool true,.bool true,.slice (some ⟨g1,0,none⟩) M.length lc,.int .i64 ↑ii,.pointer (some ⟨g1,ii,none⟩),.slice (some ⟨bx,ox,none⟩) 1 cx,.int .i64 1,.bool true,.bool true,u45,u46,v 0,v 1,v 2,v 3,v 4,v 5,v 6,v 7,v 8,v 9,v 10,v 11,v 12,v 13,v 14,v 15,v 16,v 17,v 18,v 19,v 20,u68,u69,u70,u71,u72,u73,u74,u75,u76,u77,u78,u79,u80,u81,u82,u83,u84,u85,u86,u87,u88,u89,u90,u91,u92,u93,u94,u95,u96,u97,undef,undef,undef,undef,undef,undef,undef,undef,undef,undef,undef,undef,undef,undef,undef,undef,undef,undef,undef,undef,undef,undef,undef],[{ target:=.collected D,args:=#[] }]⟩) [.slice (some ⟨g1,0,none⟩) M.length lc,.int .i64 jj,.pointer (some ⟨g1,jj,none⟩),.slice (some ⟨by',oy,none⟩) 1 cy,.int .i64 1,.bool false,.bool false,.slice (some ⟨g1,0,none⟩) M.length lc,.int .i64 ii,.pointer (some ⟨g1,ii,none⟩),.slice (some ⟨bx,ox,none⟩) 1 cx,.pointer (some ⟨bx,ox,none⟩),perV (.slice ax1 nx1 cx1) (.slice ax2 nx2 cx2) xp.frm xp.period,.slice (some ⟨g1,0,none⟩) M.length lc,.int .i64 jj,.pointer (some ⟨g1,jj,none⟩),.slice (some ⟨by',oy,none⟩) 1 cy,.pointer (some ⟨by',oy,none⟩),perV (.slice ay1 ny1 cy1) (.slice ay2 ny2 cy2) yp.frm yp.period,.bool dd,.bool (!dd)] [] (fun _ _ _ _ _=>True) (fun W=>W.cell? ⟨w.heap.size+1,0,none⟩=some (.slice (some ⟨g1,0,none⟩) M.length lc)∧W.cell? ⟨g1,ii,none⟩=some (.slice (some ⟨bx,ox,none⟩) 1 cx)∧W.cell? ⟨g1,jj,none⟩=some (.slice (some ⟨by',oy,none⟩) 1 cy)∧(W.cell? ⟨bx,ox,none⟩=some (.slice ax1 nx1 cx1)∧W.cell? ⟨bx,ox+1,none⟩=some (.int .i64 xp.frm)∧W.cell? ⟨bx,ox+2,none⟩=some (.int .i64 xp.period)∧W.cell? ⟨bx,ox+3,none⟩=some (.slice ax2 nx2 cx2))∧(W.cell? ⟨by',oy,none⟩=some (.slice ay1 ny1 cy1)∧W.cell? ⟨by',oy+1,none⟩=some (.int .i64 yp.frm)∧W.cell? ⟨by',oy+2,none⟩=some (.int .i64 yp.period)∧W.cell? ⟨by',oy+3,none⟩=some (.slice ay2 ny2 cy2))) (fun W hb=>⟨cux q2 hb,cux q3 hb,cux q4 hb,⟨cux x0 hb,cux x1 hb,cux x2 hb,cux x3 hb⟩,cux y0 hb,cux y1 hb,cux y2 hb,cux y3 hb⟩) trivial trivial ?steps ?fin (fun j=>match j with|0=>u47|1=>u48|2=>u49|3=>u50|4=>u51|5=>u52|6=>u53|7=>u54|8=>u55|9=>u56|10=>u57|11=>u58|12=>u59|13=>u60|14=>u61|15=>u62|16=>u63|17=>u64|18=>u65|19=>u66|20=>u67|_=>undef)
          case steps=>
           clear q2 q3 q4 x0 x1 x2 x3 y0 y1 y2 y3;refine .c [] [] rfl ?_ (.c [] [] rfl ?_ (.c [0,1] [] rfl ?_ (.c [2] [] rfl ?_ (.c [3] [] rfl ?_ (.c [4] [] rfl ?_ (.c [5] [] rfl ?_ (.c [6] [] rfl ?_ (.c [6] [] rfl ?_ (.c [6,7,8] [] rfl ?_ (.c [6,9] [] rfl ?_ (.c [6,10] [] rfl ?_ (.c [6,11] [] rfl ?_ (.c [6] [] rfl ?_ (.c [6] [] rfl ?_ (.c [6,13,14] [] rfl ?_ (.c [6,15] [] rfl ?_ (.c [6,16] [] rfl ?_ (.c [6,17] [] rfl ?_ (.c [6,12,18] [] rfl ?_ (.c [6,19] [] rfl ?_ (.n)))))))))))))))))))))
           all_goals try exact stw
           ·rintro v lo hi W hb ⟨s2,s3,s4,⟨g0,g1_,g2,g3⟩,k0,k1,k2,k3⟩ _;refine .inl ⟨rfl,fun K hK=>?_⟩;simp only [ov,vat,Nat.reduceBEq,cond_true,cond_false];go_wp2_with (go_at_call 109;refine (HDIV _).mono ?_;rintro e w9 ⟨rfl,hb9⟩)
            exact acx (hK w9 hb9) (by simp [ov,vat,upd])
          case fin=>
           rintro v lo hi9 W2 hb ⟨s2,s3,s4,⟨g0,g1_,g2,g3⟩,k0,k1,k2,k3⟩ hf hap;show wpList _ _ _ [_] _ _;have e6:v 6=.bool false:=(hf 6 rfl).2.2.2;have e20:v 20=.bool (!dd):=(hf 20 rfl).2.2.2;clear hf hap;dsimp only;rw [e6,e20];clear e6 e20;generalize v 0=z0,v 1=z1,v 2=z2,v 3=z3,v 4=z4,v 5=z5,v 7=z7,v 8=z8,v 9=z9,v 10=z10,v 11=z11,v 12=z12,v 13=z13,v 14=z14,v 15=z15,v 16=z16,v 17=z17,v 18=z18,v 19=z19;have HB4:=hq_ hb;clear hb;cases dd with
           | false=>
            clear s2 s3 s4 g0 g1_ g2 g3 k0 k1 k2 k3;go_wp2_with fail
            go_roundw
            case rel=>exact ⟨jj+1,oq_,oq_,rfl,by go_num,hq_ (fun j' h1 h2=>by
             by_cases h3:j'<jj
             ·exact HN3.out j' h1 h3
             ·obtain rfl:j'=jj:=oq_;rw [HJN.out];decide),hq_ (HI3.out.ext (Nat.le_refl _) HB4.out),hq_ ((HB4.out.block D (Array.getElem?_eq_some_iff.1 HD3.out).1).trans HD3.out)⟩
            case measure=>simp [intOf];omega
           | true=>
            obtain ⟨q,hq⟩:∃ q,q=orP xp yp:=⟨_,rfl⟩;have HFQ:Hid (FV s q):=hq_ (by rw [hq];exact HFX.out.or HFY.out);have HQ:=hq_ hq;have HOR:∀ W,Below W2.heap.size W2 W->Calls Tryz.prog 73 #[perV (.slice ax1 nx1 cx1) (.slice ax2 nx2 cx2) xp.frm xp.period,perV (.slice ay1 ny1 cy1) (.slice ay2 ny2 cy2) yp.frm yp.period] W (b6_ q W):=fun W h=>by
             rw [hq];exact rr_ s _ _ _ _ xp yp W (HPX.out.is.ext (Et HB4.out h)) (HPY.out.is.ext (Et HB4.out h)) HFX.out HFY.out
            clear hq;have hW2:=HB4.out.size;have hlbz:=HI3.out.lbx.lt;go_wp2_with fail
            refine Code.wp_mono (Q:=fun e a' W'=>e=.normal∧(∃ (nb:Nat) (h c:Value) (z69 z70 z71 z72 z73 z74 z75 z76 z77 z78 z79 z80 z81 z82 z83 z84:Value),a'=⟨#[.func (Fn.func g) #[] lb,undef,.pointer (some ⟨w.heap.size,0,none⟩),.int .i64 0,.pointer (some ⟨w.heap.size+1,0,none⟩),undef,.bool false,.int .i64 ↑ii,.int .i64 ↑jj,.pointer (some ⟨nb,0,none⟩),.int .i64 0,undef,undef,undef,.func (Fn.func g) #[] lb,undef,undef,undef,undef,undef,undef,undef,undef,undef,undef,.bool true,.slice (some ⟨g1,0,none⟩) M.length lc,.int .i64 ↑M.length,.int .i64 ↑ii,.bool true,.int .i64 ↑ii,.int .i64 ↑ii,.int .i64 (↑ii+1),.int .i64 ↑jj,.slice (some ⟨g1,0,none⟩) M.length lc,.int .i64 ↑M.length,.bool true,.bool true,.slice (some ⟨g1,0,none⟩) M.length lc,.int .i64 ↑ii,.pointer (some ⟨g1,ii,none⟩),.slice (some ⟨bx,ox,none⟩) 1 cx,.int .i64 1,.bool true,.bool true,u45,u46,z0,z1,z2,z3,z4,z5,.bool false,z7,z8,z9,z10,z11,z12,z13,z14,z15,z16,z17,z18,z19,.bool false,.bool false,z69,z70,z71,z72,z73,z74,z75,z76,z77,z78,z79,z80,z81,z82,z83,z84,u85,u86,u87,u88,u89,u90,u91,u92,u93,u94,u95,u96,u97,undef,undef,undef,undef,undef,undef,undef,undef,undef,undef,undef,undef,undef,undef,undef,undef,undef,undef,undef,undef,undef,undef,undef],[{ target:=.collected D,args:=#[] }]⟩∧MgP (W2.heap.size-1) q nb h c W')∧Below W2.heap.size W2 W') ?imp ?reg
            case reg=>
             refine cx_ (w0:=W2) [0,1,2,3,4,5,6,7,8,9,10,11,12,13,14,15,16] 15 17 [18] (fun v=>⟨#[.func (Fn.func g) #[] lb,undef,.pointer (some ⟨w.heap.size,0,none⟩),.int .i64 0,.pointer (some ⟨w.heap.size+1,0,none⟩),undef,.bool false,.int .i64 ↑ii,.int .i64 ↑jj,v 16,u10,undef,undef,undef,.func (Fn.func g) #[] lb,undef,undef,undef,undef,undef,undef,undef,undef,undef,undef,.bool true,.slice (some ⟨g1,0,none⟩) M.length lc,.int .i64 ↑M.length,.int .i64 ↑ii,.bool true,.int .i64 ↑ii,.int .i64 ↑ii,.int .i64 (↑ii+1),.int .i64 ↑jj,.slice (some ⟨g1,0,none⟩) M.length lc,.int .i64 ↑M.length,.bool true,.bool true,.slice (some ⟨g1,0,none⟩) M.length lc,.int .i64 ↑ii,.pointer (some ⟨g1,ii,none⟩),.slice (some ⟨bx,ox,none⟩) 1 cx,.int .i64 1,.bool true,.bool true,u45,u46,z0,z1,z2,z3,z4,z5,.bool false,z7,z8,z9,z10,z11,z12,z13,z14,z15,z16,z17,z18,z19,.bool false,.bool false,v 13,v 0,v 1,v 2,v 3,v 4,v 5,v 6,v 7,v 8,v 9,v 10,v 11,v 12,v 14,v 15,u85,u86,u87,u88,u89,u90,u91,u92,u93,u94,u95,u96,u97,undef,undef,undef,undef,undef,undef,undef,undef,undef,undef,undef,undef,undef,undef,undef,undef,undef,undef,undef,undef,undef,undef,undef],[{ target:=.collected D,args:=#[] }]⟩) [.slice (some ⟨g1,0,none⟩) M.length lc,.int .i64 ii,.pointer (some ⟨g1,ii,none⟩),.slice (some ⟨bx,ox,none⟩) 1 cx,.pointer (some ⟨bx,ox,none⟩),perV (.slice ax1 nx1 cx1) (.slice ax2 nx2 cx2) xp.frm xp.period,.slice (some ⟨g1,0,none⟩) M.length lc,.int .i64 jj,.pointer (some ⟨g1,jj,none⟩),.slice (some ⟨by',oy,none⟩) 1 cy,.pointer (some ⟨by',oy,none⟩),perV (.slice ay1 ny1 cy1) (.slice ay2 ny2 cy2) yp.frm yp.period,undef,undef,undef,.int .i64 0,undef] [12,13,14,16] (fun i v lo hi W=>match i with|12=>∃ h c,v 12=.tuple #[perV h c q.frm q.period,.int .i64 0]∧e4_ W (lo 12) (hi 12) h c q|13=>v 13=v 12∧∃ h c,v 13=.tuple #[perV h c q.frm q.period,.int .i64 0]|14=>∃ h c,v 13=.tuple #[perV h c q.frm q.period,.int .i64 0]∧v 14=perV h c q.frm q.period|16=>v 16=.pointer (some ⟨lo 16,0,none⟩)∧lo 16<hi 16∧Bxx W (lo 16) #[.slice none 0 0,.int .i64 0,.int .i64 0,.slice none 0 0] 39|_=>True) (fun W=>W.cell? ⟨w.heap.size+1,0,none⟩=some (.slice (some ⟨g1,0,none⟩) M.length lc)∧W.cell? ⟨g1,ii,none⟩=some (.slice (some ⟨bx,ox,none⟩) 1 cx)∧W.cell? ⟨g1,jj,none⟩=some (.slice (some ⟨by',oy,none⟩) 1 cy)∧(W.cell? ⟨bx,ox,none⟩=some (.slice ax1 nx1 cx1)∧W.cell? ⟨bx,ox+1,none⟩=some (.int .i64 xp.frm)∧W.cell? ⟨bx,ox+2,none⟩=some (.int .i64 xp.period)∧W.cell? ⟨bx,ox+3,none⟩=some (.slice ax2 nx2 cx2))∧(W.cell? ⟨by',oy,none⟩=some (.slice ay1 ny1 cy1)∧W.cell? ⟨by',oy+1,none⟩=some (.int .i64 yp.frm)∧W.cell? ⟨by',oy+2,none⟩=some (.int .i64 yp.period)∧W.cell? ⟨by',oy+3,none⟩=some (.slice ay2 ny2 cy2))) (fun W hb=>⟨cux s2 hb,cux s3 hb,cux s4 hb,⟨cux g0 hb,cux g1_ hb,cux g2 hb,cux g3 hb⟩,cux k0 hb,cux k1 hb,cux k2 hb,cux k3 hb⟩) ?stab ?loc ?steps ?fin ?fin2 (fun j=>match j with|0=>u70|1=>u71|2=>u72|3=>u73|4=>u74|5=>u75|6=>u76|7=>u77|8=>u78|9=>u79|10=>u80|11=>u81|12=>u82|13=>u69|14=>u83|15=>u84|16=>u9|_=>undef)
             case stab=>
              refine ⟨?_,?_,?_,?_,trivial⟩
              ·intro v lo hi W W' h hb;exact (let ⟨x1,x2,e,hp⟩:=h;⟨x1,x2,e,hp.below hb⟩)
              ·intro v lo hi W W' h hb;exact h
              ·intro v lo hi W W' h hb;exact h
              ·intro v lo hi W W' h hb;exact ⟨h.1,h.2.1,h.2.2.below hb⟩
             case loc=>
              refine ⟨?_,?_,?_,?_,trivial⟩
              ·intro v v' lo lo' hi hi' W hag h;have q:=hag 12 (.inl rfl)
               (try dsimp only at h ⊢)
               simp only [q.1,q.2.1,q.2.2] at h;exact h
              ·intro v v' lo lo' hi hi' W hag h;have q:=hag 13 (.inl rfl);have q12:=hag 12 (.inr (Rdp (by kernel_rfl)))
               (try dsimp only at h ⊢)
               simp only [q.1,q.2.1,q.2.2,q12.1,q12.2.1,q12.2.2] at h;exact h
              ·intro v v' lo lo' hi hi' W hag h;have q:=hag 14 (.inl rfl);have q13:=hag 13 (.inr (Rdp (by kernel_rfl)))
               (try dsimp only at h ⊢)
               simp only [q.1,q.2.1,q.2.2,q13.1,q13.2.1,q13.2.2] at h;exact h
              ·intro v v' lo lo' hi hi' W hag h;have q:=hag 16 (.inl rfl)
               (try dsimp only at h ⊢)
               simp only [q.1,q.2.1,q.2.2] at h;exact h
             case steps=>
              clear s2 s3 s4 g0 g1_ g2 g3 k0 k1 k2 k3;refine .c [] [] rfl ?_ (.c [] [] rfl ?_ (.c [0,1] [] rfl ?_ (.c [2] [] rfl ?_ (.c [3] [] rfl ?_ (.c [4] [] rfl ?_ (.c [] [] rfl ?_ (.c [] [] rfl ?_ (.c [6,7] [] rfl ?_ (.c [8] [] rfl ?_ (.c [9] [] rfl ?_ (.c [10] [] rfl ?_ (.c [5,11] [] rfl ?_ (.c [] [12] rfl ?_ (.c [] [13] rfl ?_ (.c [] [13] rfl ?_ (.c [] [] rfl ?_ (.n)))))))))))))))))
              all_goals try exact stl
              ·rintro v lo hi W hb ⟨s2,s3,s4,⟨g0,g1_,g2,g3⟩,k0,k1,k2,k3⟩ _;refine ⟨rfl,fun K hK=>?_⟩;simp only [ov,vat,Nat.reduceBEq,cond_true,cond_false];go_wp2_with (go_at_call 73;refine (HOR _ xE).mono ?_;rintro e w9 ⟨h',c',rfl,ho,hb9⟩)
               exact acx (hK (.tuple #[perV h' c' q.frm q.period,.int .i64 0]) w9 hb9 ⟨h',c',rfl,ho.at⟩) (by simp [ov,vat,upd])
              ·rintro v lo hi W hb ⟨s2,s3,s4,⟨g0,g1_,g2,g3⟩,k0,k1,k2,k3⟩ ⟨⟨la12,lb12,D12⟩,_⟩;refine ⟨rfl,fun K hK=>?_⟩;simp only [ov,vat,Nat.reduceBEq,cond_true,cond_false]
               (try dsimp only at D12)
               obtain ⟨h8,c8,e8,_⟩:=D12;go_wp2_with fail
               exact acx (hK (v 12) W (Below.refl _ _) ⟨rfl,h8,c8,e8⟩) (by simp [ov,vat,upd,e8])
              ·rintro v lo hi W hb ⟨s2,s3,s4,⟨g0,g1_,g2,g3⟩,k0,k1,k2,k3⟩ ⟨⟨la13,lb13,D13⟩,_⟩;refine ⟨rfl,fun K hK=>?_⟩;simp only [ov,vat,Nat.reduceBEq,cond_true,cond_false]
               (try dsimp only at D13)
               obtain ⟨-,h9,c9,e9⟩:=D13;simp only [e9];go_wp2_with fail
               exact acx (hK (perV h9 c9 q.frm q.period) W (Below.refl _ _) ⟨h9,c9,e9,rfl⟩) (by simp [ov,vat,upd,e9])
              ·rintro v lo hi W hb ⟨s2,s3,s4,⟨g0,g1_,g2,g3⟩,k0,k1,k2,k3⟩ ⟨⟨la13,lb13,D13⟩,_⟩;refine ⟨rfl,fun K hK=>?_⟩;simp only [ov,vat,Nat.reduceBEq,cond_true,cond_false]
               (try dsimp only at D13)
               obtain ⟨-,h9,c9,e9⟩:=D13;simp only [e9];go_wp2_with fail
               exact acx (hK W (Below.refl _ _)) (by simp [ov,vat,upd,e9])
              ·rintro v lo hi W hb ⟨s2,s3,s4,⟨g0,g1_,g2,g3⟩,k0,k1,k2,k3⟩ _;refine ⟨rfl,fun K hK=>?_⟩;simp only [ov,vat,Nat.reduceBEq,cond_true,cond_false];go_wp2_with fail
               exact hK (.pointer (some ⟨W.heap.size,0,none⟩)) _ (Ea (Er _) _) ⟨rfl,sq_,Bxx.new _ _ _⟩
             case fin=>
              rintro v lo hi9 W5 hb5-hf hap;show wpList _ _ _ [_,_] _ _;obtain ⟨l8,-,h8,h,c,e8,hp8⟩:=hf 12 rfl;obtain ⟨-,-,-,e9,-⟩:=hf 13 rfl;obtain ⟨-,-,-,h',c',e9',e10⟩:=hf 14 rfl;have e11:v 15=.int .i64 0:=(hf 15 rfl).2.2.2;obtain ⟨l12,-,h12,e12,lt12,hbox⟩:=hf 16 rfl;have hd:=hap 12 16 rfl rfl dq_;clear hf hap;rw [e9,e8] at e9';obtain ⟨rfl,rfl⟩:h=h'∧c=c':=by simpa [perV] using e9'
              dsimp only;rw [e10,e11,e12];clear e10 e11 e12 e9 e9' e8;obtain ⟨nb,hnb⟩:∃ nb,nb=lo 16:=⟨_,rfl⟩;rw [<- hnb] at hd hbox l12 lt12 ⊢;have hpi:=hp8.inn;generalize lo 12=l8v at *;generalize hi9 12=h8v at *;generalize hi9 16=h12v at *;clear hnb hp8;obtain ⟨a5,m5,a6,m6,rfl,rfl⟩:=hpi.form;have g0:=hbox.cells 0;have g1:=hbox.cells 1;have g2:=hbox.cells 2;have g3:=hbox.cells 3;have HMG:=hq_ (MgP.of hpi HFQ.out (show W2.heap.size-1<l8v by omega) hbox oq_ oq_);have HB5:=hq_ hb5;clear hbox hpi hd;generalize v 0=y0,v 1=y1,v 2=y2,v 3=y3,v 4=y4,v 5=y5,v 6=y6,v 7=y7,v 8=y8,v 9=y9,v 10=y10,v 11=y11,v 12=y12,v 13=y13;go_wp2_with fail
              exact ⟨⟨_,_,HMG.out⟩,by have hb5:=HB5.out;exact xE⟩
             case fin2=>
              rintro v lo hi9 W5 hb5-hf hap;obtain ⟨l8,-,h8,h,c,e8,hp8⟩:=hf 12 rfl dq_;obtain ⟨-,-,-,e9,-⟩:=hf 13 rfl dq_;obtain ⟨-,-,-,h',c',e9',e10⟩:=hf 14 rfl dq_;obtain ⟨l12,-,h12,e12,lt12,hbox⟩:=hf 16 rfl dq_;have hd:=hap 12 16 rfl rfl dq_ dq_ dq_;clear hf hap;rw [e9,e8] at e9';obtain ⟨rfl,rfl⟩:h=h'∧c=c':=by simpa [perV] using e9'
              have e99:=e9.trans e8;dsimp only;rw [e10,e12,e99];clear e10 e12 e9 e9' e8 e99;obtain ⟨nb,hnb⟩:∃ nb,nb=lo 16:=⟨_,rfl⟩;rw [<- hnb] at hd hbox l12 lt12 ⊢;have hpi:=hp8.inn;generalize lo 12=l8v at *;generalize hi9 12=h8v at *;generalize hi9 16=h12v at *;clear hnb hp8;obtain ⟨a5,m5,a6,m6,rfl,rfl⟩:=hpi.form;have g0:=hbox.cells 0;have g1:=hbox.cells 1;have g2:=hbox.cells 2;have g3:=hbox.cells 3;have HMG:=hq_ (MgP.of hpi HFQ.out (show W2.heap.size-1<l8v by omega) hbox oq_ oq_);have HB5:=hq_ hb5;clear hbox hpi hd;generalize v 0=y0,v 1=y1,v 2=y2,v 3=y3,v 4=y4,v 5=y5,v 6=y6,v 7=y7,v 8=y8,v 9=y9,v 10=y10,v 11=y11,v 12=y12,v 15=z15;constructor
              ·show wpList _ _ _ [_,_,_] _ _;go_wp2_with fail
               exact ⟨⟨_,_,HMG.out⟩,by have hb5:=HB5.out;exact xE⟩
              ·show wpList _ _ _ [_,_,_] _ _;go_wp2_with fail
               exact ⟨⟨_,_,HMG.out⟩,by have hb5:=HB5.out;exact xE⟩
            case imp=>
             rintro e a' W6 ⟨rfl,⟨nb,h,c,z69,z70,z71,z72,z73,z74,z75,z76,z77,z78,z79,z80,z81,z82,z83,z84,rfl,hP⟩,hb6⟩;obtain ⟨a5,n5,m5,a6,n6,m6,rfl,rfl⟩:=hP.ok.form;have p0:=hP.c0;have p1:=hP.c1;have p2:=hP.c2;have p3:=hP.c3;have hB6:=Et HB4.out hb6;have hn6:=HI3.out.ext (Nat.le_refl _) hB6;have r2:=(hn6.lbx.cells 0).1;have hrow6:=hn6.row.below (Ea (Er W6) (.cells #[.slice a5 n5 m5,.int .i64 q.frm,.int .i64 q.period,.slice a6 n6 m6] 39));obtain ⟨-,r0,r1⟩:=hrow6.get rfl hlt;have hz6:=hb6.size;have hg1:=(hn6.row.row.lt g1 rfl).2;have hg1n:=hn6.row.ne g1 rfl;have hone:=(og_ hP.ok (show W2.heap.size-1≤W6.heap.size by have:=hb6.size;omega)).mono (G:=RowF w.heap.size (fun k=>k=w.heap.size∨k=w.heap.size+1) (.slice (some ⟨g1,0,none⟩) M.length lc)) (fun b hb=>by
              have hg3:=(HI3.out.row.row.lt g1 rfl).2;obtain ⟨h1,h2⟩:=hb;exact ⟨oq_,(by rintro (h|h) <;> omega),fun e=>by simp [Value.ownBlock] at e;omega⟩)
             have hset:=hrow6.set (y:=(.slice (some ⟨W6.heap.size,0,none⟩) 1 1,[q])) ii hone;have hlb7:=Bxx.setNe (hn6.lbx.alloc (.cells #[.slice a5 n5 m5,.int .i64 q.frm,.int .i64 q.period,.slice a6 n6 m6] 39)) (k:=g1) (i:=ii) (.slice (some ⟨W6.heap.size,0,none⟩) 1 1) (fun e=>hg1n (.inr e.symm));have hrb7:=Bxx.setNe (hn6.rbx.alloc (.cells #[.slice a5 n5 m5,.int .i64 q.frm,.int .i64 q.period,.slice a6 n6 m6] 39)) (k:=g1) (i:=ii) (.slice (some ⟨W6.heap.size,0,none⟩) 1 1) (fun e=>hg1n (.inl e.symm));have hko:=(KeepsOthers.alloc W6 (.cells #[.slice a5 n5 m5,.int .i64 q.frm,.int .i64 q.period,.slice a6 n6 m6] 39)).trans (KeepsOthers.setCell _ ⟨g1,ii,none⟩ (.slice (some ⟨W6.heap.size,0,none⟩) 1 1));have hbl:=((Below.refl w.heap.size W6).alloc oq_ (.cells #[.slice a5 n5 m5,.int .i64 q.frm,.int .i64 q.period,.slice a6 n6 m6] 39)).setCell (p:=⟨g1,ii,none⟩) (show w.heap.size≤g1 from (hn6.row.row.lt g1 rfl).1) (.slice (some ⟨W6.heap.size,0,none⟩) 1 1);have hcomm:=World.setCell_alloc_past (w:=W6) (.cells #[.slice a5 n5 m5,.int .i64 q.frm,.int .i64 q.period,.slice a6 n6 m6] 39) g1 ii (.slice (some ⟨W6.heap.size,0,none⟩) 1 1) hg1;rw [hcomm] at hlb7 hrb7 hko hbl;dsimp only at hset;rw [hcomm] at hset;generalize hW7:(W6.setCell _ _).alloc _=W7 at hlb7 hrb7 hko hbl hset;have HW7:=hq_ hW7;have r3:=(hlb7.cells 0).1;have HLB7:=hq_ hlb7;have HRB7:=hq_ hrb7;have HKO:=hq_ hko;have HBL:=hq_ hbl;have hdel:=ps_ _ _ _ _ _ jj _ _ hset (by rw [List.length_set];exact hjl);rw [List.length_set] at hdel;have HROW7:=hq_ hset;rw [<- hW7] at r3 hdel;have HN6:=hq_ hn6;have HB6:=hq_ hB6;clear hP hn6 hrow6 hset hone hb6 hB6 hlb7 hrb7 hko hbl hcomm hW7;go_wp2_with (go_at_call 110;refine hdel.mono ?_;rintro e w8 ⟨rfl,hr8,hg8⟩;rw [HW7.out] at hg8;have hl8:=HLB7.out.grown hg8 (by rintro e;cases e;exact hg1n (.inr rfl));have t0:=(hl8.cells 0).1;have t1:=(hl8.cells 0).2;have HL8:=hq_ hl8;have HR8:=hq_ hr8;have HG8:=hq_ hg8;clear hl8 hr8 hg8)
             have hgB:=(HROW7.out.row.lt g1 rfl);have hNI':NI w.heap.size w s (.slice (some ⟨g1,0,none⟩) (M.length-1) lc) ((M.set ii (.slice (some ⟨W6.heap.size,0,none⟩) 1 1,[q])).eraseIdx jj) (w8.setCell ⟨w.heap.size+1,0,none⟩ (.slice (some ⟨g1,0,none⟩) (M.length-1) lc)):=by
              refine ⟨(HN6.out.below.trans (HBL.out.trans (World.grownBy.below' HG8.out hgB.1 oq_))).setCell (p:=⟨w.heap.size+1,0,none⟩) (Nat.le_succ _) _,HR8.out.box (World.grownBy.set' ⟨rfl,rfl,rfl,Nat.le_refl _,fun _ _ _=>rfl⟩ _) (.inr rfl),Bxx.setNe (HRB7.out.grown HG8.out (by rintro e;cases e;exact hg1n (.inl rfl))) _ oq_,a4_ 0 _ HL8.out,fun x hx=>?_⟩;rcases List.mem_or_eq_of_mem_set (List.mem_of_mem_eraseIdx hx) with h2|rfl
              ·exact HN6.out.vt x h2
              ·exact ⟨sq_,fun p hp=>(List.mem_singleton.1 hp) ▸ HFQ.out,sq_⟩
             have hD':(w8.setCell ⟨w.heap.size+1,0,none⟩ (.slice (some ⟨g1,0,none⟩) (M.length-1) lc)).heap[D]? = some (.deferred (some [])):=
              ((KeepsOthers.grown_cells ((KeepsOthers.of_below HB6.out).trans HKO.out) HG8.out (fun r e=>by cases e;exact HROW7.out.row_cells g1 rfl)).trans (KeepsOthers.setCell w8 _ _)).same D _ HD3.out rfl
             have hJ':∀ m,ck_ (((M.set ii (.slice (some ⟨W6.heap.size,0,none⟩) 1 1,[q])).eraseIdx jj).map Prod.snd) m->ck_ (L.map Prod.snd) m:=fun m hm=>HJ.out m (ck_.step (i:=ii) (j:=jj) ⟨hij,by rw [List.length_map];exact hjl,by have:=HJN.out;simpa using this,fun i' j' h1 h2 h3=>HN2.out i' j' h1 h2 (by rwa [List.length_map] at h3),HN3.out⟩ (by
              rw [HJA.out,<- HQ.out,show ((M.map Prod.snd).set ii [q]).eraseIdx jj=((M.set ii (.slice (some ⟨W6.heap.size,0,none⟩) 1 1,[q])).eraseIdx jj).map Prod.snd by simp [List.eraseIdx_eq_take_drop_succ,List.map_set]];exact hm))
             have hlen':((M.set ii (.slice (some ⟨W6.heap.size,0,none⟩) 1 1,[q])).eraseIdx jj).length=M.length-1:=by rw [List.length_eraseIdx_of_lt (by rw [List.length_set];exact hjl),List.length_set]
             have hlw':=hNI'.lenW;rw [hlen'] at hlw';simp only [Exit.noGoto_normal,Exit.inBlock];go_roundw
             case rel=>
              (repeat apply Exists.intro)
              exact ⟨⟨true,_,_,rfl,by rw [hlen'];omega,hq_ hJ',hq_ (fun h=>absurd h dq_),hq_ hNI',hq_ hD'⟩,rfl⟩
             case measure=>simp [hlw',HLW.out];omega
         ·obtain ⟨ya,yc,rfl,_⟩:=hty.form;have HY1:=hq_ hy1;have hyI:(yt.length:Int)≠1:=oq_;have HJN:Hid (¬ az_ (M.map Prod.snd) ii jj):=hq_ (by unfold az_;rw [hdy];exact fun h=>hy1 h.2.1);clear htx hty hdx hdy hx1 hy1;go_wp2_with fail
          go_quiet (fail)
          go_wp2_with fail
          go_roundw
          case rel=>exact ⟨jj+1,oq_,oq_,rfl,by go_num,hq_ (fun j' h1 h2=>by
           by_cases h3:j'<jj
           ·exact HN3.out j' h1 h3
           ·obtain rfl:j'=jj:=oq_;exact HJN.out),hq_ (HI3.out.ext (Nat.le_refl _) (Below.drewN (Below.refl _ _) _)),hq_ (by exact HD3.out)⟩
          case measure=>simp [intOf];omega
        ·obtain ⟨xa,xc,rfl,_⟩:=htx.form;have HX1:=hq_ hx1;have hxI:(xt.length:Int)≠1:=oq_;have HJN:Hid (∀ j',¬ az_ (M.map Prod.snd) ii j'):=hq_ (fun j' h=>by unfold az_ at h;rw [hdx] at h;exact hx1 h.1);clear htx hdx hx1;go_wp2_with fail
         go_roundw
         case rel=>exact ⟨ii+1,oq_,rfl,by go_num,hq_ (fun i' j' h1 h2 h3=>by
          by_cases h4:i'<ii
          ·exact HN2.out i' j' h4 h2 h3
          ·obtain rfl:i'=ii:=oq_;exact HJN.out j'),HI3,HD3⟩
         case measure=>simp [intOf];omega
       ·obtain rfl:jj=M.length:=oq_;clear htx hdx;go_wp2_with fail
        go_roundw
        case rel=>exact ⟨ii+1,oq_,rfl,by go_num,hq_ (fun i' j' h1 h2 h3=>by
         by_cases h4:i'<ii
         ·exact HN2.out i' j' h4 h2 h3
         ·obtain rfl:i'=ii:=oq_;exact HN3.out j' h2 h3),HI3,HD3⟩
        case measure=>simp [intOf];omega
     ·obtain rfl:ii=M.length:=oq_;have hlw2:=HI2.out.lenW;go_wp2_with fail
      simp only [Exit.noGoto_normal,Exit.inBlock];go_roundw
      case rel=>
       (repeat apply Exists.intro)
       exact ⟨⟨false,_,M,rfl,hMl,HJ,hq_ (fun _ i' j' h1 h2=>HN2.out i' j' oq_ h1 h2),HI2,HD2⟩,rfl⟩
      case measure=>simp [hlw2,HLW.out]
   | false=>
    have HLW:=hq_ hlw;clear hlw;go_wp2_with fail
    refine wpIn_wide.2 ?_;have hjt:ck_ (L.map Prod.snd) (M.map Prod.snd):=HJ.out _ (ck_.done (by rw [List.length_map];have:=HNP.out;simpa using this));have HJT:=hq_ hjt;obtain ⟨n,hn⟩:∃ n,n=wr.heap.size:=⟨_,rfl⟩;have hno:NO w.heap.size n D 0 w (.slice la M.length lc) (.slice none 0 0) M [] (wr.alloc (.cells #[.slice none 0 0] 28)):=
     ⟨HN.out.below.alloc (HN.out.below.size) _,((HN.out.row.mono (A':=fun k=>k=w.heap.size∨k=w.heap.size+1∨n≤k) (fun k hk=>by rcases hk with h|h|h;exact .inl (.inl h);exact .inl (.inr h);exact .inr oq_)).below (Ea (Er _) _)),RowT.nil _ _ _,by simp [Value.ownBlock],Bxx.at hn,HN.out.rbx.alloc _,(Below.heap_alloc _ _ _ (Array.getElem?_eq_some_iff.1 HD.out).1).trans HD.out,by simp [ddL],sq_⟩
    have HNO:=hq_ hno;have HVT:=hq_ HN.out.vt;have hwn:w.heap.size+1<n:=by have:=HN.out.lbx.lt;omega
    have q1:=Ext.cell (Ea (Er wr) (.cells #[.slice none 0 0] 28)) ((HN.out.lbx.cells 0).1.trans (show _=some (Value.slice la M.length lc) from rfl));clear hjt hno;go_wp2_with fail
    rw [<- hn];have HEQ:=hq_ hn;clear hn
    go_loopw [13,100] (fun _ idx wr=>∃ (k:Nat) (ov:Value) (LO:List (Value × List Per)),k≤M.length∧idx=.int .i64 k∧Hid (NO w.heap.size n D k w (.slice la M.length lc) ov M LO wr)) (fun _ idx _=>M.length-(intOf idx).toNat)
    case atStart=>exact ⟨0,_,[],oq_,rfl,HNO⟩
    case round=>
     obtain ⟨k,ov,LO,hk,rfl,HO⟩:=hrel;obtain ⟨oa,oc,rfl,_⟩:=HO.out.orow.form;have o1:=HO.out.obx.c0
     by_cases hkl:k<M.length
     ·have hkI:(k:Int)<M.length:=oq_;rcases hfm with h0|⟨g1,rfl⟩
      ·omega
      obtain ⟨hty,m1,-⟩:=HO.out.lrow.get rfl hkl;have HDD:Hid (ddL [] ((M.map Prod.snd).take (k+1))=dd1 (ddL [] ((M.map Prod.snd).take k)) (M.getD k default).2):=hq_ (by
       rw [List.take_succ_eq_append_getElem (by simpa using hkl),oc_];simp [List.getD_eq_getElem?_getD,hkl])
      generalize M.getD k default=Y at *;obtain ⟨yv,yt⟩:=Y;dsimp only at m1 hty;obtain ⟨ya,yc,rfl,_⟩:=hty.form;have HTY:=hq_ hty;have o2:=(HO.out.obx.alloc (.cells #[.slice ya yt.length yc] 36)).c0;clear hty;have hcon:=mt_ (fun b=>w.heap.size≤b) _ (.slice oa LO.length oc) LO (.slice ya yt.length yc) yt wr.heap.size (wr.alloc (.cells #[.slice ya yt.length yc] 36)) (HO.out.orow.below (Ea (Er _) _)).mix (HTY.out.ext (Ea (Er _) _)) (Bxx.new wr _ 36).c0;have hzn:=HO.out.obx.lt;have hzB:=HO.out.below.size;go_wp2_with (first|(go_at_call 57;refine hcon.mono ?_;rintro e w5 ⟨b,rfl,hbb,hb5⟩;have HBB:=hq_ hbb;have HB5:Hid (Below wr.heap.size wr w5):=hq_ ((Ea (Er wr) _).trans (hb5.mono sq_));have o3:=(HO.out.obx.below HB5.out).c0;have o4:=Ext.cell hb5 (Bxx.new wr #[.slice ya yt.length yc] 36).c0;have hz5:=HB5.out.size;clear hbb hb5;cases b)|(at_builtin;refine de_ rq_ _ _ rq_ w.heap.size (fun k=>k=w.heap.size∨k=w.heap.size+1∨k=n) (.slice oa LO.length oc) LO (.slice ya yt.length yc,yt) rq_ (HO.out.orow.below (Ea HB5.out _)) ((HTY.out.ext (Ea HB5.out _)).mono fun b hb=>⟨hb.1,fun h=>by rcases h with h|h|h;exact hb.2.1 (.inl h);exact hb.2.1 (.inr (.inl h));exact hb.2.1 (.inr (.inr oq_)),fun e=>hb.2.1 (.inr (.inr (HO.out.own b e)))⟩) _ _ rq_ sq_ tq_ (by have:=HO.out.len;omega) tq_ ?_;intro ga gc w6 hr6 hg6 hb6 hbo6;have hob6:=((HO.out.obx.below HB5.out).alloc (.cells #[.slice ya yt.length yc] 36)).grown hg6 (by rintro e;exact HO.out.orow.ne _ e.symm (.inr (.inr rfl)));have p1:=(hob6.cells 0).1;have p2:=(hob6.cells 0).2;have HOB6:=hq_ hob6;have HR6:=hq_ hr6;have HG6:=hq_ hg6;have HB6:=hq_ hb6;have HBO6:=hq_ hbo6;clear hob6 hr6 hg6 hb6 hbo6))
      ·have hal:=Ea HB5.out (.cells #[.slice ya yt.length yc] 36);go_roundw
       case rel=>
        refine ⟨k+1,.slice ga (LO.length+1) gc,LO ++ [(.slice ya yt.length yc,yt)],oq_,by go_num,hq_ ⟨?_,?_,?_,?_,?_,?_,?_,?_,?_⟩⟩
        ·exact ((HO.out.below.trans (hal.mono hzB)).trans HB6.out).setCell (p:=⟨n,0,none⟩) (show w.heap.size≤n by omega) _
        ·exact ((HO.out.lrow.below hal).boxO HG6.out fun g hg=>.inr (.inr (HO.out.own g hg))).box (World.grownBy.set' ⟨rfl,rfl,rfl,Nat.le_refl _,fun _ _ _=>rfl⟩ _) (.inr (.inr (Nat.le_refl n)))
        ·exact HR6.out.box (World.grownBy.set' ⟨rfl,rfl,rfl,Nat.le_refl _,fun _ _ _=>rfl⟩ _) (.inr (.inr rfl))
        ·intro g hg;rcases HBO6.out with e|e
         ·exact HO.out.own g (e ▸ hg)
         ·rw [e] at hg;cases hg;simp;omega
        ·exact a4_ 0 _ HOB6.out
        ·exact Bxx.setNe ((HO.out.rbx.below hal).grown HG6.out (fun e=>by have:=HO.out.own _ e.symm;omega)) _ oq_
        ·exact ((KeepsOthers.grown_cells (KeepsOthers.of_below hal) HG6.out (HO.out.orow.below hal).row_cells).trans (KeepsOthers.setCell w6 _ _)).same D _ HO.out.dfr rfl
        ·rw [List.map_append,HO.out.eq,HDD.out];exact (g5_ (by rw [<- HO.out.eq];have:=HBB.out;simpa using this)).symm
        ·simp;exact HO.out.len
       case measure=>simp [intOf];omega
      ·go_roundw
       case rel=>
        have h5:=HO.out.ext (Nat.le_refl _) HB5.out;exact ⟨k+1,_,LO,oq_,by go_num,hq_ { h5 with eq:=(by rw [HDD.out,nv_ (by rw [<- HO.out.eq];have:=HBB.out;simpa using this)];exact HO.out.eq),len:=Nat.le_succ_of_le HO.out.len }⟩
       case measure=>simp [intOf];omega
     ·obtain rfl:k=M.length:=oq_;have hmv:=bh_ (fun b=>w.heap.size≤b) (.slice oa LO.length oc) (LO.map Prod.snd) wr ⟨LO,rfl,HO.out.orow.mix⟩;have hnorm:bf_ T (LO.map Prod.snd):=⟨_,_,HMA.out,HJT.out,by rw [HO.out.eq,List.take_of_length_le sq_]⟩;have hvt:∀ t∈LO.map Prod.snd,aw_ s t:=fun t ht=>by
       rw [HO.out.eq,List.take_of_length_le sq_,lc_] at ht;rcases ht with ht|ht
       ·simp at ht
       ·obtain ⟨x,hx,rfl⟩:=List.mem_map.1 ht;exact HVT.out x hx
      have HNT:=hq_ hnorm;have HVV:=hq_ hvt;clear hnorm hvt;go_wp2_with (go_at_call 18;refine hmv.mono ?_;rintro e w7 ⟨rfl,hb7⟩;have HB7:=hq_ hb7;have h7:=HO.out.ext (Nat.le_refl _) hb7;have HO7:=hq_ h7;have s1:=h7.obx.c0;have s2:=(h7.rbx.cells 0).1;have s3:=(h7.rbx.cells 0).2;clear h7 hb7;cases hval:bj_ (LO.map Prod.snd))
      all_goals have hnorm:=HNT.out
      all_goals have hvt:=HVV.out
      ·have hrb:Bxx (w7.setCell ⟨w.heap.size,0,none⟩ (.slice none 0 0)) w.heap.size #[.slice none 0 0] 28:=a4_ 0 _ HO7.out.rbx;have hM:b5_ w.heap.size [{ target:=.collected D,args:=#[] }] (w7.setCell ⟨w.heap.size,0,none⟩ (.slice none 0 0)):=dl_ oq_ ((KeepsOthers.setCell w7 _ _).same D _ HO7.out.dfr rfl);have hrow:=HO7.out.orow.box (World.grownBy.set' (i:=0) ⟨rfl,rfl,rfl,Nat.le_refl _,fun _ _ _=>rfl⟩ (.slice none 0 0)) (.inl rfl);refine ce_ (B:=w.heap.size) _ _ hM fun w' hs=>?_;have hc:=Bxx.c0 (hs.cells _ _ hrb rfl);refine ⟨.tuple #[.agg #[.slice none 0 0],.int .i64 2],by simp [results,Tryz.results68,go_sem,hc],.slice oa LO.length oc,LO.map Prod.snd,hnorm,hvt,((HO7.out.below).setCell (p:=⟨w.heap.size,0,none⟩) (Nat.le_refl _) _).trans hs.below,.inr ⟨hval,rfl⟩⟩
      ·have hrb:Bxx (w7.setCell ⟨w.heap.size,0,none⟩ (.slice oa LO.length oc)) w.heap.size #[.slice oa LO.length oc] 28:=a4_ 0 _ HO7.out.rbx;have hM:b5_ w.heap.size [{ target:=.collected D,args:=#[] }] (w7.setCell ⟨w.heap.size,0,none⟩ (.slice oa LO.length oc)):=dl_ oq_ ((KeepsOthers.setCell w7 _ _).same D _ HO7.out.dfr rfl);have hrow:=HO7.out.orow.box (World.grownBy.set' (i:=0) ⟨rfl,rfl,rfl,Nat.le_refl _,fun _ _ _=>rfl⟩ (.slice oa LO.length oc)) (.inl rfl);refine ce_ (B:=w.heap.size) _ _ hM fun w' hs=>?_;have hc:=Bxx.c0 (hs.cells _ _ hrb rfl);refine ⟨.tuple #[.agg #[.slice oa LO.length oc],.int .i64 0],by simp [results,Tryz.results68,go_sem,hc],.slice oa LO.length oc,LO.map Prod.snd,hnorm,hvt,((HO7.out.below).setCell (p:=⟨w.heap.size,0,none⟩) (Nat.le_refl _) _).trans hs.below,.inl ⟨hval,rfl,LO,rfl,(hrow.shut hs).mix⟩⟩
end Go.Proofs.YthjnojbeimchdaaGreat
namespace Go.Proofs.YthjnojbeimchdaaGreat
open Go.RowKit Go.Maps Kal
theorem kk_ (c:Array Value) (n:Nat):(Builtin.zeroCells c n).size=n*c.size:=by simp [Builtin.zeroCells]
theorem sm_ (n:Nat) (w:World) (hn:n≤1000000) :
  Calls Tryz.prog 146 #[.slice none 0 0,.int .i64 (n:Int)] w fun e w'=>∃ v,e=.returned v∧w'.ownsRow w.heap.size 39 4 v 0 []∧Below w.heap.size w w':=by
 obtain ⟨i0,hi0,hz0,hs0,hb0⟩:=f1_
 by_cases hpos:0<n
 ·have hrz:∀ ty,(Builtin.append_ #[36,3] ty #[.slice none 0 0,.int .i64 (n:Int)]).run Tryz.prog w =
    .ok (.slice (some ⟨w.heap.size,0,none⟩) n (grownCap w n 0 39)) (w.drew.alloc (.cells (#[] ++ Builtin.zeroCells (Value.agg #[.slice none 0 0,.int .i64 0,.int .i64 0,.slice none 0 0]).cells n ++ Builtin.zeroCells (Value.agg #[.slice none 0 0,.int .i64 0,.int .i64 0,.slice none 0 0]).cells (grownCap w n 0 39-n)) 39)):=fun ty=>by
   have h:=Lib.run_append_grow_zeros w 36 3 ty 39 i0 (Value.agg #[.slice none 0 0,.int .i64 0,.int .i64 0,.slice none 0 0]) .i64 .i64 Tryz.underlying36 Tryz.underlying3 hi0 hz0 none 0 0 [] (run_firstCells_none w.drew i0.size 0 0 0) n hpos oq_ oq_ oq_ (by rw [hb0];omega)
    (growslice_fits oq_ (by rw [hb0];omega))
   simpa using h
  have hGn:n≤grownCap w n 0 39:=grownCap_ge w _ _ _;have hGm:=grownCap_le_maxLen w n 0 39 (by unfold maxLen;omega);obtain ⟨G,hG⟩:∃ G,G=grownCap w n 0 39:=⟨_,rfl⟩;rw [<- hG] at hrz hGn hGm;have hG63:G≤9223372036854775807:=by unfold maxLen at hGm;omega
  have HGM:=hq_ hGm;clear hG hGm;have hnI:(0:Int)<(n:Int):=oq_
  go_enter Tryz.func146,Tryz.ntmps146
  go_wp2_with (at_builtin;refine Lib.wpList_append_run _ rfl _ _ _ _ rfl _ _ rfl rfl _ _ (hrz _) ?_)
  go_ret;refine ⟨_,rfl,⟨rfl,.inr ⟨w.heap.size,G,_,rfl,Nat.le_refl _,World.alloc_heap_new w.drew _,sq_,HGM.out,?_,sq_⟩⟩,?_⟩
  ·simp only [Array.size_append,kk_];simp [Value.cells];omega
  ·exact ((Below.refl _ _).drew).alloc (Nat.le_refl _) _
 ·obtain rfl:n=0:=oq_
  go_enter Tryz.func146,Tryz.ntmps146
  go_wp2_with fail
  go_ret;exact ⟨_,rfl,World.ownsRow_nil _ _ _ _,Below.refl _ _⟩
theorem by_ {a:Act} {Q:Exit->Act->World->Prop} (hgd:o.guard=none) (s x:Operand)
  (ho:o.op=.call { callee:=.builtin .append,args:=#[s,x],argTypes:=#[36,36] }) (base:Nat) (v xv:Value) (n m:Nat) (xs ys:List Value) (F:Nat->Prop) (hs:a.eval s=v) (hown:w.ownsRow base 39 4 v n xs)
  (hx:a.eval x=xv) (hxs:RowR w F xv m ys) (hyl:ys.length=m*4) (h1c:∀ u∈ys,u.oneCell'=true) (hlen:n+m≤1000000) (hbase:base≤w.heap.size)
  (h:∀ v' w',w'.ownsRow base 39 4 v' (n+m) (xs ++ ys)->w.grownBy w' v.ownBlock->wpList Tryz.prog ops Q rest (a.put o.dst v') w') :
  wpList Tryz.prog ops Q (o :: rest) a w:=by
 obtain ⟨i,hi,h1,h2,h3⟩:=f1_;obtain ⟨xa,xc,rfl,g1,g2,g3⟩:=hxs;refine wpList_plain hgd fun K hK=>?_;rcases g3 with rfl|⟨b,off,rfl,_,_,hcell⟩
 ·have hy0:ys=[]:=List.eq_nil_of_length_eq_zero oq_;subst hy0;have hrun:(Builtin.append_ #[36,36] o.type #[v,.slice xa 0 xc]).run Tryz.prog w=.ok v w:=by
   obtain ⟨r1,r2⟩:=hown;rcases r2 with ⟨rfl,r0⟩|⟨g,cap,cur,rfl,r5,r6,r7,r8,r9,r10⟩
   ·cases xa <;> simp [Builtin.append_,run_underlying Tryz.underlying36,sizeOf,typeInfo,hi,Builtin.lenOf,Builtin.firstCells,loadCells,loadCellsFrom,storeCells]
   ·cases xa <;> simp [Builtin.append_,run_underlying Tryz.underlying36,sizeOf,typeInfo,hi,Builtin.lenOf,Builtin.firstCells,r7,loadCells,loadCellsFrom,storeCells]
  unfold Oper.wp execOp;simp only [ho,resolve,invoke,builtin,Sem.run_bind,Sem.run_pure,Result.andThen_ok,List.map_toArray,List.map_cons,List.map_nil,hs,hx,hrun];exact hK _ _ (h v w (by simpa using hown) (World.grownBy.refl w _))
 ·obtain ⟨v',w',hrun,k2,k3,_,k5⟩:=run_append_own_at (P:=Tryz.prog) w base 36 o.type 39 i (Value.agg #[.slice none 0 0,.int .i64 0,.int .i64 0,.slice none 0 0]) 4 64 Tryz.underlying36 hi h1 h2 h3 rfl oq_ v n xs hown ⟨b,off,none⟩ m xc ys hyl
   (fun j u hu=>by rw [show (⟨b,off,none⟩:Addr).add j=⟨b,off+j,none⟩ from by simp [Addr.add]];exact hcell j u hu) h1c (by unfold maxLen;omega) oq_ hbase
  unfold Oper.wp execOp;simp only [ho,resolve,invoke,builtin,Sem.run_bind,Sem.run_pure,Result.andThen_ok,List.map_toArray,List.map_cons,List.map_nil,hs,hx,hrun];exact hK _ _ (h v' w' k2 k3)
theorem bm_ {n:Nat} (h:w.ownsRow base 39 4 v n xs):∃ a c,v=.slice a n c:=by
 rcases h.2 with ⟨rfl,h0⟩|⟨g,cap,cur,rfl,_⟩
 ·exact ⟨none,0,by rw [h0]⟩
 ·exact ⟨_,cap,rfl⟩
theorem oz_ (F1 F2:Nat->Prop) (b c:Nat) (v1 v2:Value) (n1 n2:Nat) (l1 l2:List Value) (w:World) (hb:Bxx' w b #[v1,v2]) (h1:RowR w F1 v1 n1 l1) (h2:RowR w F2 v2 n2 l2) (g1:l1.length=n1*4) (g2:l2.length=n2*4)
  (o1:∀ u∈l1,u.oneCell'=true) (o2:∀ u∈l2,u.oneCell'=true) (hl:n1+n2≤1000000) (hc:2≤c) (hc1:c≤1000) :
  Calls Tryz.prog 116 #[.slice (some ⟨b,0,none⟩) 2 c] w fun e w'=>∃ v,e=.returned v∧w'.ownsRow w.heap.size 39 4 v (n1+n2) (l1 ++ l2)∧Below w.heap.size w w':=by
 obtain ⟨a1,c1,rfl⟩:∃ a c,v1=.slice a n1 c:=by obtain ⟨a,c,e,_⟩:=h1;exact ⟨a,c,e⟩
 obtain ⟨a2,c2,rfl⟩:∃ a c,v2=.slice a n2 c:=by obtain ⟨a,c,e,_⟩:=h2;exact ⟨a,c,e⟩
 have q0:w.cell? ⟨b,0,none⟩=some (.slice a1 n1 c1):=(hb 0);have q1:w.cell? ⟨b,1,none⟩=some (.slice a2 n2 c2):=(hb 1);have H1:=fun W (h:Below w.heap.size w W)=>h1.keep (a5_.below h) h.size;have H2:=fun W (h:Below w.heap.size w W)=>h2.keep (a5_.below h) h.size;have HH1:=hq_ H1;have HH2:=hq_ H2;have HO1:=hq_ o1;have HO2:=hq_ o2;clear h1 h2 hb H1 H2 o1 o2
 go_enter Tryz.func116,Tryz.ntmps116
 go_wp2_with fail
 go_loop [11,3] (fun i n=>(i=.int .i64 0∧n=.int .i64 0)∨(i=.int .i64 1∧n=.int .i64 n1)∨(i=.int .i64 2∧n=.int .i64 (n1+n2))) (fun i _=>2-(intOf i).toNat)
 case atStart=>exact .inl ⟨rfl,rfl⟩
 case round=>
  rcases hrel with ⟨rfl,rfl⟩|⟨rfl,rfl⟩|⟨rfl,rfl⟩
  ·go_wp2_with fail
   go_round
   case rel=>exact .inr (.inl ⟨rfl,rfl⟩)
   case measure=>simp [intOf]
  ·go_wp2_with fail
   go_round
   case rel=>exact .inr (.inr ⟨rfl,rfl⟩)
   case measure=>simp [intOf]
  ·go_wp2_with (go_at_call 146;rw [show ((n1:Int)+(n2:Int))=((n1+n2:Nat):Int) from by push_cast;rfl];refine (sm_ (n1+n2) _ hl).mono ?_;rintro e w2 ⟨v2,rfl,hown2,hb2⟩;obtain ⟨va,vc,rfl⟩:=bm_ hown2;obtain ⟨hc2,hf2⟩:=au_ hb2;(try simp only [World.size_alloc,World.size_drew,af_,World.size_setCell] at hc2 hf2))
   have hE2:Below w.heap.size w w2:=hb2;have HOWN2:=hq_ hown2;clear hown2 hb2 hc2 hf2
   go_loopw [27,6] (fun i ns wr=>((i=.int .i64 0∧wr.ownsRow w.heap.size 39 4 ns 0 [])∨(i=.int .i64 1∧wr.ownsRow w.heap.size 39 4 ns n1 l1)∨(i=.int .i64 2∧wr.ownsRow w.heap.size 39 4 ns (n1+n2) (l1 ++ l2)))∧Below w.heap.size w wr) (fun i _ _=>2-(intOf i).toNat)
   case atStart=>exact ⟨.inl ⟨rfl,HOWN2.out⟩,hE2⟩
   case round=>
    obtain ⟨hrel,hEr⟩:=hrel;have q0:=Ext.cell hEr q0;have q1:=Ext.cell hEr q1;have hszr:=hEr.size;rcases hrel with ⟨rfl,hown⟩|⟨rfl,hown⟩|⟨rfl,hown⟩
    ·obtain ⟨na,nc,rfl⟩:=bm_ hown;have HOWN:=hq_ hown;clear hown;go_wp2_with (at_builtin;refine by_ rq_ _ _ rq_ w.heap.size (.slice na 0 nc) (.slice a1 n1 c1) 0 n1 [] l1 F1 rq_ HOWN.out rq_ (HH1.out _ hEr) g1 HO1.out oq_ oq_ ?_;intro v5 w5 hown5 hgrow5;rw [Nat.zero_add,List.nil_append] at hown5;obtain ⟨na5,nc5,rfl⟩:=bm_ hown5)
     go_roundw
     case rel=>exact ⟨.inr (.inl ⟨rfl,hown5⟩),hEr.grown hgrow5 hEr.size (fun k e=>(HOWN.out.lt k e).1)⟩
     case measure=>simp [intOf]
    ·obtain ⟨na,nc,rfl⟩:=bm_ hown;have HOWN:=hq_ hown;clear hown;go_wp2_with (at_builtin;refine by_ rq_ _ _ rq_ w.heap.size (.slice na n1 nc) (.slice a2 n2 c2) n1 n2 l1 l2 F2 rq_ HOWN.out rq_ (HH2.out _ hEr) g2 HO2.out oq_ oq_ ?_;intro v5 w5 hown5 hgrow5;obtain ⟨na5,nc5,rfl⟩:=bm_ hown5)
     go_roundw
     case rel=>exact ⟨.inr (.inr ⟨rfl,hown5⟩),hEr.grown hgrow5 hEr.size (fun k e=>(HOWN.out.lt k e).1)⟩
     case measure=>simp [intOf]
    ·obtain ⟨na,nc,rfl⟩:=bm_ hown;have HOWN:=hq_ hown;clear hown;go_wp2_with fail
     go_ret;exact ⟨_,rfl,HOWN.out,hEr⟩
theorem s5_ (n:Nat) (w:World) (hn:n≤1000000) :
  Calls Tryz.prog 114 #[.slice none 0 0,.int .i64 (n:Int)] w fun e w'=>∃ v,e=.returned v∧w'.ownsRow w.heap.size 36 1 v 0 []∧Below w.heap.size w w':=by
 obtain ⟨i0,hi0,hz0,hs0,hb0⟩:=gi_
 by_cases hpos:0<n
 ·have hrz:∀ ty,(Builtin.append_ #[26,3] ty #[.slice none 0 0,.int .i64 (n:Int)]).run Tryz.prog w =
    .ok (.slice (some ⟨w.heap.size,0,none⟩) n (grownCap w n 0 36)) (w.drew.alloc (.cells (#[] ++ Builtin.zeroCells (Value.slice none 0 0).cells n ++ Builtin.zeroCells (Value.slice none 0 0).cells (grownCap w n 0 36-n)) 36)):=fun ty=>by
   have h:=Lib.run_append_grow_zeros w 26 3 ty 36 i0 (Value.slice none 0 0) .i64 .i64 Tryz.underlying26 Tryz.underlying3 hi0 hz0 none 0 0 [] (run_firstCells_none w.drew i0.size 0 0 0) n hpos oq_ oq_ oq_ (by rw [hb0];omega)
    (growslice_fits oq_ (by rw [hb0];omega))
   simpa using h
  have hGn:n≤grownCap w n 0 36:=grownCap_ge w _ _ _;have hGm:=grownCap_le_maxLen w n 0 36 (by unfold maxLen;omega);obtain ⟨G,hG⟩:∃ G,G=grownCap w n 0 36:=⟨_,rfl⟩;rw [<- hG] at hrz hGn hGm;have hG63:G≤9223372036854775807:=by unfold maxLen at hGm;omega
  have HGM:=hq_ hGm;clear hG hGm;have hnI:(0:Int)<(n:Int):=oq_
  go_enter Tryz.func114,Tryz.ntmps114
  go_wp2_with (at_builtin;refine Lib.wpList_append_run _ rfl _ _ _ _ rfl _ _ rfl rfl _ _ (hrz _) ?_)
  go_ret;refine ⟨_,rfl,⟨rfl,.inr ⟨w.heap.size,G,_,rfl,Nat.le_refl _,World.alloc_heap_new w.drew _,sq_,HGM.out,?_,sq_⟩⟩,?_⟩
  ·simp only [Array.size_append,kk_];simp [Value.cells];omega
  ·exact ((Below.refl _ _).drew).alloc (Nat.le_refl _) _
 ·obtain rfl:n=0:=oq_
  go_enter Tryz.func114,Tryz.ntmps114
  go_wp2_with fail
  go_ret;exact ⟨_,rfl,World.ownsRow_nil _ _ _ _,Below.refl _ _⟩
theorem co_ {a:Act} {Q:Exit->Act->World->Prop} (hgd:o.guard=none) (s x:Operand)
  (ho:o.op=.call { callee:=.builtin .append,args:=#[s,x],argTypes:=#[26,26] }) (base:Nat) (v xv:Value) (n m:Nat) (xs ys:List Value) (F:Nat->Prop) (hs:a.eval s=v) (hown:w.ownsRow base 36 1 v n xs)
  (hx:a.eval x=xv) (hxs:RowR w F xv m ys) (hyl:ys.length=m*1) (h1c:∀ u∈ys,u.oneCell'=true) (hlen:n+m≤1000000) (hbase:base≤w.heap.size)
  (h:∀ v' w',w'.ownsRow base 36 1 v' (n+m) (xs ++ ys)->w.grownBy w' v.ownBlock->wpList Tryz.prog ops Q rest (a.put o.dst v') w') :
  wpList Tryz.prog ops Q (o :: rest) a w:=by
 obtain ⟨i,hi,h1,h2,h3⟩:=gi_;obtain ⟨xa,xc,rfl,g1,g2,g3⟩:=hxs;refine wpList_plain hgd fun K hK=>?_;rcases g3 with rfl|⟨b,off,rfl,_,_,hcell⟩
 ·have hy0:ys=[]:=List.eq_nil_of_length_eq_zero oq_;subst hy0;have hrun:(Builtin.append_ #[26,26] o.type #[v,.slice xa 0 xc]).run Tryz.prog w=.ok v w:=by
   obtain ⟨r1,r2⟩:=hown;rcases r2 with ⟨rfl,r0⟩|⟨g,cap,cur,rfl,r5,r6,r7,r8,r9,r10⟩
   ·cases xa <;> simp [Builtin.append_,run_underlying Tryz.underlying26,sizeOf,typeInfo,hi,Builtin.lenOf,Builtin.firstCells,loadCells,loadCellsFrom,storeCells]
   ·cases xa <;> simp [Builtin.append_,run_underlying Tryz.underlying26,sizeOf,typeInfo,hi,Builtin.lenOf,Builtin.firstCells,r7,loadCells,loadCellsFrom,storeCells]
  unfold Oper.wp execOp;simp only [ho,resolve,invoke,builtin,Sem.run_bind,Sem.run_pure,Result.andThen_ok,List.map_toArray,List.map_cons,List.map_nil,hs,hx,hrun];exact hK _ _ (h v w (by simpa using hown) (World.grownBy.refl w _))
 ·obtain ⟨v',w',hrun,k2,k3,_,k5⟩:=run_append_own_at (P:=Tryz.prog) w base 26 o.type 36 i (Value.slice none 0 0) 1 24 Tryz.underlying26 hi h1 h2 h3 rfl oq_ v n xs hown ⟨b,off,none⟩ m xc ys hyl
   (fun j u hu=>by rw [show (⟨b,off,none⟩:Addr).add j=⟨b,off+j,none⟩ from by simp [Addr.add]];exact hcell j u hu) h1c (by unfold maxLen;omega) oq_ hbase
  unfold Oper.wp execOp;simp only [ho,resolve,invoke,builtin,Sem.run_bind,Sem.run_pure,Result.andThen_ok,List.map_toArray,List.map_cons,List.map_nil,hs,hx,hrun];exact hK _ _ (h v' w' k2 k3)
theorem cu_ {n:Nat} (h:w.ownsRow base 36 1 v n xs):∃ a c,v=.slice a n c:=by
 rcases h.2 with ⟨rfl,h0⟩|⟨g,cap,cur,rfl,_⟩
 ·exact ⟨none,0,by rw [h0]⟩
 ·exact ⟨_,cap,rfl⟩
theorem pr_ (F1 F2:Nat->Prop) (b c:Nat) (v1 v2:Value) (n1 n2:Nat) (l1 l2:List Value) (w:World) (hb:Bxx' w b #[v1,v2]) (h1:RowR w F1 v1 n1 l1) (h2:RowR w F2 v2 n2 l2) (g1:l1.length=n1*1) (g2:l2.length=n2*1)
  (o1:∀ u∈l1,u.oneCell'=true) (o2:∀ u∈l2,u.oneCell'=true) (hl:n1+n2≤1000000) (hc:2≤c) (hc1:c≤1000) :
  Calls Tryz.prog 69 #[.slice (some ⟨b,0,none⟩) 2 c] w fun e w'=>∃ v,e=.returned v∧w'.ownsRow w.heap.size 36 1 v (n1+n2) (l1 ++ l2)∧Below w.heap.size w w':=by
 obtain ⟨a1,c1,rfl⟩:∃ a c,v1=.slice a n1 c:=by obtain ⟨a,c,e,_⟩:=h1;exact ⟨a,c,e⟩
 obtain ⟨a2,c2,rfl⟩:∃ a c,v2=.slice a n2 c:=by obtain ⟨a,c,e,_⟩:=h2;exact ⟨a,c,e⟩
 have q0:w.cell? ⟨b,0,none⟩=some (.slice a1 n1 c1):=(hb 0);have q1:w.cell? ⟨b,1,none⟩=some (.slice a2 n2 c2):=(hb 1);have H1:=fun W (h:Below w.heap.size w W)=>h1.keep (a5_.below h) h.size;have H2:=fun W (h:Below w.heap.size w W)=>h2.keep (a5_.below h) h.size;have HH1:=hq_ H1;have HH2:=hq_ H2;have HO1:=hq_ o1;have HO2:=hq_ o2;clear h1 h2 hb H1 H2 o1 o2
 go_enter Tryz.func69,Tryz.ntmps69
 go_wp2_with fail
 go_loop [11,3] (fun i n=>(i=.int .i64 0∧n=.int .i64 0)∨(i=.int .i64 1∧n=.int .i64 n1)∨(i=.int .i64 2∧n=.int .i64 (n1+n2))) (fun i _=>2-(intOf i).toNat)
 case atStart=>exact .inl ⟨rfl,rfl⟩
 case round=>
  rcases hrel with ⟨rfl,rfl⟩|⟨rfl,rfl⟩|⟨rfl,rfl⟩
  ·go_wp2_with fail
   go_round
   case rel=>exact .inr (.inl ⟨rfl,rfl⟩)
   case measure=>simp [intOf]
  ·go_wp2_with fail
   go_round
   case rel=>exact .inr (.inr ⟨rfl,rfl⟩)
   case measure=>simp [intOf]
  ·go_wp2_with (go_at_call 114;rw [show ((n1:Int)+(n2:Int))=((n1+n2:Nat):Int) from by push_cast;rfl];refine (s5_ (n1+n2) _ hl).mono ?_;rintro e w2 ⟨v2,rfl,hown2,hb2⟩;obtain ⟨va,vc,rfl⟩:=cu_ hown2;obtain ⟨hc2,hf2⟩:=au_ hb2;(try simp only [World.size_alloc,World.size_drew,af_,World.size_setCell] at hc2 hf2))
   have hE2:Below w.heap.size w w2:=hb2;have HOWN2:=hq_ hown2;clear hown2 hb2 hc2 hf2
   go_loopw [27,6] (fun i ns wr=>((i=.int .i64 0∧wr.ownsRow w.heap.size 36 1 ns 0 [])∨(i=.int .i64 1∧wr.ownsRow w.heap.size 36 1 ns n1 l1)∨(i=.int .i64 2∧wr.ownsRow w.heap.size 36 1 ns (n1+n2) (l1 ++ l2)))∧Below w.heap.size w wr) (fun i _ _=>2-(intOf i).toNat)
   case atStart=>exact ⟨.inl ⟨rfl,HOWN2.out⟩,hE2⟩
   case round=>
    obtain ⟨hrel,hEr⟩:=hrel;have q0:=Ext.cell hEr q0;have q1:=Ext.cell hEr q1;have hszr:=hEr.size;rcases hrel with ⟨rfl,hown⟩|⟨rfl,hown⟩|⟨rfl,hown⟩
    ·obtain ⟨na,nc,rfl⟩:=cu_ hown;have HOWN:=hq_ hown;clear hown;go_wp2_with (at_builtin;refine co_ rq_ _ _ rq_ w.heap.size (.slice na 0 nc) (.slice a1 n1 c1) 0 n1 [] l1 F1 rq_ HOWN.out rq_ (HH1.out _ hEr) g1 HO1.out oq_ oq_ ?_;intro v5 w5 hown5 hgrow5;rw [Nat.zero_add,List.nil_append] at hown5;obtain ⟨na5,nc5,rfl⟩:=cu_ hown5)
     go_roundw
     case rel=>exact ⟨.inr (.inl ⟨rfl,hown5⟩),hEr.grown hgrow5 hEr.size (fun k e=>(HOWN.out.lt k e).1)⟩
     case measure=>simp [intOf]
    ·obtain ⟨na,nc,rfl⟩:=cu_ hown;have HOWN:=hq_ hown;clear hown;go_wp2_with (at_builtin;refine co_ rq_ _ _ rq_ w.heap.size (.slice na n1 nc) (.slice a2 n2 c2) n1 n2 l1 l2 F2 rq_ HOWN.out rq_ (HH2.out _ hEr) g2 HO2.out oq_ oq_ ?_;intro v5 w5 hown5 hgrow5;obtain ⟨na5,nc5,rfl⟩:=cu_ hown5)
     go_roundw
     case rel=>exact ⟨.inr (.inr ⟨rfl,hown5⟩),hEr.grown hgrow5 hEr.size (fun k e=>(HOWN.out.lt k e).1)⟩
     case measure=>simp [intOf]
    ·obtain ⟨na,nc,rfl⟩:=cu_ hown;have HOWN:=hq_ hown;clear hown;go_wp2_with fail
     go_ret;exact ⟨_,rfl,HOWN.out,hEr⟩
theorem MixR.form {F:Nat->Prop} (h:MixR W F v m):∃ a c,v=.slice a m.length c:=by
 obtain ⟨L,rfl,hL⟩:=h;obtain ⟨a,c,rfl,_⟩:=hL.row.is;exact ⟨a,c,by rw [List.length_map]⟩
theorem MixR.set {n:Nat} {u:Value} {b:Nat} (h:MixR W (fun k=>n≤k) v m) (hb:b<n):MixR (W.setCell ⟨b,i,none⟩ u) (fun k=>n≤k) v m:=
 h.keep (fun k hk _=>Below.heap_setCell W ⟨b,i,none⟩ u k (by show k≠b;omega)) (by rw [World.size_setCell];exact Nat.le_refl _)
structure MV (s:Int) (m:List (List Per)):Prop where
 val:bj_ m=true
 vt:∀ t∈m,aw_ s t
theorem MV.len (h:MV s m):m.length≤64:=by
 have:=h.val;unfold bj_ at this;rw [Bool.and_eq_true,decide_eq_true_iff] at this;exact this.1
theorem MixL.cells_one {F:Nat->Prop} {L:List (Value × List Per)} (h:MixL W F v L):∀ u∈L.map Prod.fst,u.oneCell'=true:=fun u hu=>by
 obtain ⟨x,hx,rfl⟩:=List.mem_map.1 hu;exact (h.all x hx).one
theorem kq_ {L:List (Value × List Per)} (h:W.ownsRow B 36 1 v L.length (L.map Prod.fst)) (hl:L.length≤1000000) (ha:∀ x∈L,∃ F,ab_ W F x.1 x.2):MixL W (fun _=>True) v L:=by
 refine ⟨?_,oq_,fun x hx=>(ha x hx).choose_spec.mono fun _ _=>trivial⟩;obtain ⟨hl,⟨rfl,h2⟩|⟨g,cap,cur,rfl,hb,hg,h3,h4,h5,h6⟩⟩:=h
 ·rw [h2];exact ⟨none,0,rfl,oq_,oq_,.inl rfl⟩
 ·refine ⟨_,cap,rfl,h3,h4,.inr ⟨g,0,rfl,trivial,(Array.getElem?_eq_some_iff.1 hg).1,fun i u hi=>?_⟩⟩;rw [Nat.zero_add];have h7:W.ownsRow B 36 1 (.slice (some ⟨g,0,none⟩) L.length cap) L.length (L.map Prod.fst):=⟨hl,.inr ⟨g,cap,cur,rfl,hb,hg,h3,h4,h5,h6⟩⟩;have:=(List.getElem?_eq_some_iff.1 hi).1;rw [List.length_map] at this;exact (h7.cellAt i oq_).trans hi
theorem kn_ (F1 F2:Nat->Prop) (b c:Nat) (v1 v2:Value) (m1 m2:List (List Per)) (w:World) (hb:Bxx' w b #[v1,v2]) (h1:MixR w F1 v1 m1) (h2:MixR w F2 v2 m2) (hl:m1.length+m2.length≤1000000) (hc:2≤c) (hc1:c≤1000) :
  Calls Tryz.prog 69 #[.slice (some ⟨b,0,none⟩) 2 c] w fun e w'=>∃ v,e=.returned v∧MixR w' (fun _=>True) v (m1 ++ m2)∧Below w.heap.size w w':=by
 obtain ⟨L1,rfl,hL1⟩:=h1;obtain ⟨L2,rfl,hL2⟩:=h2;rw [List.length_map,List.length_map] at hl;refine (pr_ F1 F2 b c v1 v2 _ _ _ _ w hb hL1.row hL2.row sq_ sq_ hL1.cells_one hL2.cells_one hl hc hc1).mono ?_;rintro e w' ⟨v,rfl,hr,hbl⟩;refine ⟨v,rfl,⟨L1 ++ L2,by rw [List.map_append],kq_ (by rw [List.length_append,List.map_append];exact hr) (by rw [List.length_append];exact hl) fun x hx=>?_⟩,hbl⟩;rcases List.mem_append.1 hx with hx|hx
 ·exact ⟨_,(hL1.all x hx).ext hbl⟩
 ·exact ⟨_,(hL2.all x hx).ext hbl⟩
theorem ln_ (s:Int) (F1 F2:Nat->Prop) (v1 v2:Value) (m1 m2:List (List Per)) (w:World) (h1:MixR w F1 v1 m1) (h2:MixR w F2 v2 m2) (k1:MV s m1) (k2:MV s m2) :
  Calls Tryz.prog 21 #[.agg #[v1],.agg #[v2]] w (c8_ s (m1 ++ m2) w):=by
 have HV1:=fun W (h:Below w.heap.size w W)=>bh_ F1 v1 m1 W (h1.ext h);have HV2:=fun W (h:Below w.heap.size w W)=>bh_ F2 v2 m2 W (h2.ext h);rw [k1.val] at HV1;rw [k2.val] at HV2;have l1:=k1.len;have l2:=k2.len;have HCO:=fun W (h:Below w.heap.size w W) b hb=>kn_ F1 F2 b 2 v1 v2 m1 m2 W hb (h1.ext h) (h2.ext h) oq_ oq_ oq_;obtain ⟨a1,c1,rfl⟩:=h1.form;obtain ⟨a2,c2,rfl⟩:=h2.form;have HVT:Hid (∀ t∈m1 ++ m2,aw_ s t):=hq_ fun t ht=>(List.mem_append.1 ht).elim (k1.vt t) (k2.vt t);clear h1 h2 k1 k2
 go_enter Tryz.func21,Tryz.ntmps21
 go_wp2_with (first|(go_at_call 18;first
   | ((with_reducible refine (HV1 _ xE).mono ?_);rintro e w1 ⟨rfl,hb1⟩;have b0:Bxx w1 w.heap.size #[.slice a1 m1.length c1] 28:=Bxx.below xB hb1;have b1:Bxx w1 (w.heap.size+1) #[.slice a2 m2.length c2] 28:=Bxx.below xB hb1;have b2:Bxx w1 (w.heap.size+1+1) #[.slice none 0 0] 28:=Bxx.below xB hb1;have x0:=b0.c0;have x1:=b1.c0;have hW1:Below w.heap.size w w1:=by exact xE)
   | ((with_reducible refine (HV2 _ xE).mono ?_);rintro e w2 ⟨rfl,hb2⟩;have d0:=b0.below hb2;have d1:=b1.below hb2;have d2:=b2.below hb2;have y0:=d0.c0;have y1:=d1.c0;have hW2:Below w.heap.size w w2:=by exact xE))|(go_at_call 69;(refine (HCO (w2.alloc (.cells #[.slice a1 m1.length c1,.slice a2 m2.length c2] 26)) (Ea hW2 _) w2.heap.size (fun i=>((Bxx.new w2 _ 26).cells i).1)).mono ?_;rintro e w3 ⟨v,rfl,hm,hb3⟩;obtain ⟨va,vc,rfl⟩:=hm.form;rw [List.length_append] at hm;have f2:=(d2.alloc (.cells #[.slice a1 m1.length c1,.slice a2 m2.length c2] 26)).below hb3;have hW3:Below w.heap.size w w3:=Et (Ea hW2 _) hb3;have HM:=hq_ hm;have F2:=hq_ f2;have hz3:=f2.lt;clear hm f2))|(go_at_call 61;refine (dn_ _ _ ⟨_,_,_,rfl⟩).mono ?_;rintro e w4 ⟨rfl,rfl⟩)|(go_at_call 68;refine (ek_ s _ _ (m1 ++ m2) _ (dv_ (fun _=>True) (.slice va (m1.length+m2.length) vc) (m1 ++ m2) w3.heap.size _ (HM.out.ext (Ea (Er w3) _)) (Bxx.new w3 _ 26).c0) HVT.out tq_).mono ?_;rintro e w5 ⟨v,m,hN,hvt,hb5,hres⟩;have g2:=(F2.out.alloc (.cells #[.slice va (m1.length+m2.length) vc] 26)).below hb5;have s1:=(g2.cells 0).1;have s2:=(g2.cells 0).2;have hW5:Below w.heap.size w w5:=Et (Ea hW3 _) hb5;have HN:=hq_ hN;have HVV:=hq_ hvt;have G2:=hq_ g2;clear hN hvt g2;rcases hres with ⟨hval,rfl,hmr⟩|⟨hval,rfl⟩;(obtain ⟨xa,xc,rfl⟩:=hmr.form)))
 ·have hcc:=Bxx.c0 (w:=w5.setCell ⟨w.heap.size+1+1,0,none⟩ (.slice xa m.length xc)) (a4_ 0 (.slice xa m.length xc) G2.out);refine bodyPost_ret (v:=.tuple #[.agg #[.slice xa m.length xc],.int .i64 0]) (by simp [results,Tryz.results21,go_sem,hcc]) rfl ⟨_,m,HN.out,HVV.out,hW5.setCell (p:=⟨w.heap.size+1+1,0,none⟩) (by show w.heap.size≤w.heap.size+1+1;omega) _,.inl ⟨hval,rfl,?_⟩⟩;exact (hmr.set (b:=w.heap.size+1+1) tq_).mono fun b (hb:_≤b)=>by simp at hb;omega
 ·have hcc:=Bxx.c0 (w:=w5.setCell ⟨w.heap.size+1+1,0,none⟩ (.slice none 0 0)) (a4_ 0 (.slice none 0 0) G2.out);exact bodyPost_ret (v:=.tuple #[.agg #[.slice none 0 0],.int .i64 2]) (by simp [results,Tryz.results21,go_sem,hcc]) rfl ⟨.slice none 0 0,m,HN.out,HVV.out,hW5.setCell (p:=⟨w.heap.size+1+1,0,none⟩) (by show w.heap.size≤w.heap.size+1+1;omega) _,.inr ⟨hval,rfl⟩⟩
end Go.Proofs.YthjnojbeimchdaaGreat
namespace Go.Proofs.YthjnojbeimchdaaGreat
open Go.RowKit Go.Shelf Kal
attribute [local go_sem] Oper.semAt_some
theorem be_.cells_one {F:Nat->Prop} (h:be_ W F v L):∀ u∈L.flatMap PV.enc,u.oneCell'=true:=fun u hu=>by
 obtain ⟨x,hx,hu⟩:=List.mem_flatMap.1 hu;exact (h.all x hx).one u hu
theorem gw_ (h:W.ownsRow B 39 4 v L.length (L.flatMap PV.enc)) (hl:L.length≤1000000) (ha:∀ x∈L,∃ F,PVok W F x):be_ W (fun _=>True) v L:=by
 refine ⟨?_,oq_,fun x hx=>(ha x hx).choose_spec.mono fun _ _=>trivial⟩;obtain ⟨hl,⟨rfl,h2⟩|⟨g,cap,cur,rfl,hb,hg,h3,h4,h5,h6⟩⟩:=h
 ·rw [h2];exact ⟨none,0,rfl,oq_,oq_,.inl rfl⟩
 ·refine ⟨_,cap,rfl,h3,h4,.inr ⟨g,0,rfl,trivial,(Array.getElem?_eq_some_iff.1 hg).1,fun i u hi=>?_⟩⟩;rw [Nat.zero_add];have h7:W.ownsRow B 39 4 (.slice (some ⟨g,0,none⟩) L.length cap) L.length (L.flatMap PV.enc):=⟨hl,.inr ⟨g,cap,cur,rfl,hb,hg,h3,h4,h5,h6⟩⟩;have:=(List.getElem?_eq_some_iff.1 hi).1;rw [c3_] at this;exact (h7.cellAt i oq_).trans hi
theorem pu_ (F1 F2:Nat->Prop) (b c:Nat) (v1 v2:Value) (t1 t2:List Per) (w:World) (hb:Bxx' w b #[v1,v2]) (h1:ab_ w F1 v1 t1) (h2:ab_ w F2 v2 t2) (hl:t1.length+t2.length≤1000000) (hc:2≤c) (hc1:c≤1000) :
  Calls Tryz.prog 116 #[.slice (some ⟨b,0,none⟩) 2 c] w fun e w'=>∃ v,e=.returned v∧ab_ w' (fun _=>True) v (t1 ++ t2)∧Below w.heap.size w w':=by
 obtain ⟨L1,rfl,hL1⟩:=h1;obtain ⟨L2,rfl,hL2⟩:=h2;rw [List.length_map,List.length_map] at hl;refine (oz_ F1 F2 b c v1 v2 _ _ _ _ w hb hL1.row hL2.row c3_ c3_ hL1.cells_one hL2.cells_one hl hc hc1).mono ?_;rintro e w' ⟨v,rfl,hr,hbl⟩;refine ⟨v,rfl,⟨L1 ++ L2,by rw [List.map_append],gw_ (by rw [List.length_append,List.flatMap_append];exact hr) (by rw [List.length_append];exact hl) fun x hx=>?_⟩,hbl⟩;rcases List.mem_append.1 hx with hx|hx
 ·exact ⟨_,(hL1.all x hx).keep (a5_.below hbl)⟩
 ·exact ⟨_,(hL2.all x hx).keep (a5_.below hbl)⟩
theorem ly_ (v1 v2:Value) (w:World) (h1:∃ a n c,v1=.slice a n c) (h2:∃ a n c,v2=.slice a n c) :
  Calls Tryz.prog 70 #[.agg #[v1],.agg #[v2]] w fun e w'=>e=.returned (.func (.func 115) #[] #[.pointer (some ⟨w.heap.size,0,none⟩),.pointer (some ⟨w.heap.size+1,0,none⟩)])∧w'=(w.alloc (.cells #[v1] 28)).alloc (.cells #[v2] 28):=by
 obtain ⟨a,n,c,rfl⟩:=h1;obtain ⟨a',n',c',rfl⟩:=h2
 go_enter Tryz.func70,Tryz.ntmps70
 go_wp2
 go_ret;exact ⟨rfl,rfl⟩
theorem mg_ {x:List Per} (hk:m1[k]? = some x):ao_ (m1.take (k+1)) m2=ao_ (m1.take k) m2 ++ m2.map (x ++ ·):=by
 obtain ⟨h1,rfl⟩:=List.getElem?_eq_some_iff.1 hk;unfold ao_;rw [List.take_succ_eq_append_getElem h1,List.flatMap_append];simp
theorem ox_ {x y:List Per} (hk:m1[k]? = some x) (hj:m2[j]? = some y):∃ r,ao_ m1 m2=(ao_ (m1.take k) m2 ++ (m2.take j).map (x ++ ·)) ++ (x ++ y) :: r:=by
 obtain ⟨h1,rfl⟩:=List.getElem?_eq_some_iff.1 hk;obtain ⟨h2,rfl⟩:=List.getElem?_eq_some_iff.1 hj;refine ⟨(m2.drop (j+1)).map (m1[k] ++ ·) ++ ao_ (m1.drop (k+1)) m2,?_⟩;have e1:m1=m1.take k ++ m1[k] :: m1.drop (k+1):=by rw [<- List.drop_eq_getElem_cons h1,List.take_append_drop]
 have e2:m2=m2.take j ++ m2[j] :: m2.drop (j+1):=by rw [<- List.drop_eq_getElem_cons h2,List.take_append_drop]
 have e3:m2.map (m1[k] ++ ·)=(m2.take j).map (m1[k] ++ ·) ++ (m1[k] ++ m2[j]) :: (m2.drop (j+1)).map (m1[k] ++ ·):=by
  conv=>lhs;rw [e2]
  simp only [List.map_append,List.map_cons]
 have e4:ao_ m1 m2=ao_ (m1.take k) m2 ++ (m2.map (m1[k] ++ ·) ++ ao_ (m1.drop (k+1)) m2):=by
  conv=>lhs;rw [e1]
  unfold ao_;rw [List.flatMap_append,List.flatMap_cons]
 rw [e4,e3];simp
theorem MixL.at {F:Nat->Prop} {L:List (Value × List Per)} (h:MixL W F v L) (hk:k<L.length):∃ b o c a n c' x,v=.slice (some ⟨b,o,none⟩) L.length c∧W.cell? ⟨b,o+k,none⟩=some (.slice a n c')∧ab_ W F (.slice a n c') x∧(L.map Prod.snd)[k]? = some x:=by
 obtain ⟨a',c,rfl,_,_,h3⟩:=h.row.is;rcases h3 with h0|⟨b,o,rfl,hF,hb,hcell⟩
 ·omega
 have hyt:=h.all _ (aa_ (d:=default) hk);obtain ⟨a,c',e,_⟩:=hyt.form;refine ⟨b,o,c,a,_,c',(L.getD k default).2,rfl,?_,by rw [<- e];exact hyt,by rw [List.getElem?_map,List.getD_eq_getElem?_getD,List.getElem?_eq_getElem hk];rfl⟩;rw [<- e];exact hcell k _ (by rw [List.getElem?_map,List.getD_eq_getElem?_getD,List.getElem?_eq_getElem hk];rfl)
theorem KpB.lt {n:Nat} {wr:World} (h:KpB (fun k=>k<n) W wr) (hn:n≤W.heap.size) (hk:k<n):k<wr.heap.size:=by
 have h1:=h k hk;rw [Array.getElem?_eq_getElem (show k<W.heap.size by omega)] at h1;exact (Array.getElem?_eq_some_iff.1 h1).1
theorem lz_ (F1 F2:Nat->Prop) (v1 v2:Value) (m1 m2:List (List Per)) (b1 b2:Nat) (w:World) (h1:MixR w F1 v1 m1) (h2:MixR w F2 v2 m2) (hb1:w.cell? ⟨b1,0,none⟩=some v1) (hb2:w.cell? ⟨b2,0,none⟩=some v2) (hl1:∀ t∈m1,t.length≤500000) (hl2:∀ t∈m2,t.length≤500000) :
  n3_ 115 #[.pointer (some ⟨b1,0,none⟩),.pointer (some ⟨b2,0,none⟩)] (ao_ m1 m2) w:=by
 refine ⟨enters_of Tryz.func115 (by kernel_rfl) rfl,fun W0 hW0=>?_⟩;obtain ⟨L1,hT1,hL1⟩:=h1;obtain ⟨L2,hT2,hL2⟩:=h2;intro l' J W hW hJ hY hJ0;have hlt1:=World.block_lt_of_cell? w _ hb1;have hlt2:=World.block_lt_of_cell? w _ hb2;have hWw:Below w.heap.size w W:=hW0.trans (hW.mono hW0.size);have hws:=hWw.size;have c1:=Ext.cell hWw hb1;have c2:=Ext.cell hWw hb2;obtain ⟨a1,k1,rfl,_,_,_⟩:=hL1.row.is;obtain ⟨a2,k2,rfl,_,_,_⟩:=hL2.row.is;have hn1:=hL1.len;have hn2:=hL2.len;have H1:Hid (∀ wr,KpB (fun k=>k<w.heap.size) W wr->MixL wr (fun b=>F1 b∧b<w.heap.size) (.slice a1 L1.length k1) L1):=hq_ fun wr h=>hL1.lt.keep2 fun b hb _=>(h b hb.2).trans (hWw.block b hb.2);have H2:Hid (∀ wr,KpB (fun k=>k<w.heap.size) W wr->MixL wr (fun b=>F2 b∧b<w.heap.size) (.slice a2 L2.length k2) L2):=hq_ fun wr h=>hL2.lt.keep2 fun b hb _=>(h b hb.2).trans (hWw.block b hb.2);have HT1:=hq_ hT1;have HT2:=hq_ hT2;have HJ:=hq_ hJ;have HY:=hq_ hY;have HL1:=hq_ hl1;have HL2:=hq_ hl2;clear hL1 hL2 hT1 hT2 hJ hY hb1 hb2 hl1 hl2;refine callsIn_of_wp Tryz.func115 rfl trivial ?_ rfl;simp only [Tryz.ntmps115,List.size_toArray,List.length_cons,List.length_nil,Nat.reduceAdd,Nat.reduceSub,Array.replicate_succ,Array.replicate_zero,List.push_toArray,List.append_toArray,List.nil_append,List.cons_append]
 gi_wp2_with fail
 gi_loopw [5,7,11] (fun _ _ i wr=>∃ (k:Nat) (pre:List (Value × List Per)),k≤L1.length∧i=.int .i64 k∧Hid (pre.map Prod.snd=ao_ (m1.take k) m2)∧J pre wr∧KpB (fun k=>k<w.heap.size) W wr) (fun _ _ i _=>L1.length-(intOf i).toNat)
 case atStart=>exact ⟨0,[],oq_,rfl,hq_ rfl,hJ0,fun _ _=>rfl⟩
 case round=>
  obtain ⟨k,pre,hk,rfl,HP,hJw,hK⟩:=hrel;have HK:=hq_ hK;have HJW:=hq_ hJw
  by_cases hlt:k<L1.length
  ·have hlI:(k:Int)<L1.length:=oq_;obtain ⟨b8,f8,c8,xa,xn,xc,x,he,e0,htx,hmx⟩:=(H1.out wr hK).at hlt;cases he;rw [HT1.out] at hmx;have HMX:=hq_ hmx;have c2r:=(World.cell?_of_block (w:=W) (w':=wr) (a:=⟨b2,0,none⟩) (hK b2 hlt2)).trans c2;have HXL:=hq_ (HL1.out x (List.mem_of_getElem? hmx));have HTX:=hq_ htx;clear htx hmx hK hJw
   gi_wp2_with fail
   gi_loopw [7,18] (fun _ i wr=>∃ (j:Nat) (pre:List (Value × List Per)),j≤L2.length∧i=.int .i64 j∧Hid (pre.map Prod.snd=ao_ (m1.take k) m2 ++ (m2.take j).map (x ++ ·))∧J pre wr∧KpB (fun k=>k<w.heap.size) W wr) (fun _ i _=>L2.length-(intOf i).toNat)
   case atStart=>exact ⟨0,pre,oq_,rfl,hq_ (by rw [HP.out];simp),HJW.out,HK.out⟩
   case round=>
    obtain ⟨j,pre,hj,rfl,HP2,hJw,hK⟩:=hrel;have HK2:=hq_ hK;have HJW2:=hq_ hJw
    by_cases hjl:j<L2.length
    ·have hjI:(j:Int)<L2.length:=oq_;obtain ⟨b9,f9,c9,ya,yn,yc,y,he,e1,hty,hmy⟩:=(H2.out wr hK).at hjl;cases he;rw [HT2.out] at hmy;have htx:=HTX.out.keep2 (W':=wr) (fun b hb _=>(hK b hb.2).trans (HK.out b hb.2).symm);have hyl:=HL2.out y (List.mem_of_getElem? hmy);have hxl:=HXL.out;have HC:=pu_ _ _ wr.heap.size 2 (.slice xa xn xc) (.slice ya yn yc) x y (wr.alloc (.cells #[.slice xa xn xc,.slice ya yn yc] 36)) (fun i=>((Bxx.new wr _ 36).cells i).1) (htx.ext (Ea (Er wr) _)) (hty.ext (Ea (Er wr) _)) oq_ oq_ oq_;obtain ⟨r0,hr0⟩:=ox_ HMX.out hmy;have HR0:=hq_ hr0;have HMY:=hq_ hmy;clear htx hty hmy hr0 hyl hxl
     gi_wp2_with (refine ⟨trivial,rfl,?_⟩;gi_at_call 116;refine (callsIn_wide.2 HC).mono ?_;rintro e w3 ⟨v3,rfl,ht3,hb3⟩;obtain ⟨za,zc,rfl,_⟩:=ht3.form;rw [List.length_append] at ht3;have hb4:=(Ea (Er wr) (.cells #[.slice xa xn xc,.slice ya yn yc] 36)).trans (hb3.mono sq_);have hJ3:=HJ.out pre wr w3 none hJw (World.grownBy.of_below hb4 none) (fun r e=>by cases e);have hEy:EyT (ao_ m1 m2) pre (.slice za (x.length+y.length) zc,x ++ y) w3:=⟨⟨r0,by rw [HP2.out];exact HR0.out⟩,_,ht3⟩;obtain ⟨fn,tmps,assign,body,hyy,hR⟩:=HY.out pre _ w3 hJ3 hEy;unfold tenc at hyy;have HR:=hq_ hR;have HB4:=hq_ hb4;clear hEy hJ3 hR hb3 hb4 ht3)
     refine ⟨rfl,HR.out.mono ?_⟩;rintro e W' ⟨rfl,hJ',hk'⟩
     gi_wp2
     go_roundw
     case rel=>exact ⟨j+1,pre ++ [(.slice za (x.length+y.length) zc,x ++ y)],oq_,by go_num,hq_ (by rw [List.map_append,HP2.out,List.append_assoc];congr 1;obtain ⟨h1,rfl⟩:=List.getElem?_eq_some_iff.1 HMY.out;rw [List.take_succ_eq_append_getElem h1,List.map_append];rfl),hJ',(HK2.out.trans (fun b hb=>HB4.out.block b (HK2.out.lt hws hb))).trans hk'⟩
     case measure=>simp [intOf];omega
    ·obtain rfl:j=L2.length:=oq_;clear hK hJw
     gi_wp2
     go_roundw
     case rel=>exact ⟨k+1,pre,oq_,by go_num,hq_ (by rw [HP2.out,mg_ HMX.out,List.take_of_length_le (l:=m2) (by rw [<- HT2.out];simp)]),HJW2.out,HK2.out⟩
     case measure=>simp [intOf];omega
  ·obtain rfl:k=L1.length:=oq_;clear hK hJw
   gi_wp2
   refine bodyPost_end (results_none rfl _ _ _) rfl ?_;refine ⟨⟨_,rfl⟩,pre,?_,HJW.out⟩;show _=_;rw [HP.out,List.take_of_length_le (l:=m1) (by rw [<- HT1.out];simp)]
end Go.Proofs.YthjnojbeimchdaaGreat
namespace Go.Proofs.YthjnojbeimchdaaGreat
open Go.RowKit Go.Maps Kal
theorem MV.tlen (h:MV s m):∀ t∈m,t.length≤4:=fun t ht=>by
 have h1:=h.val;unfold bj_ at h1;rw [Bool.and_eq_true] at h1;have h2:=List.all_eq_true.1 h1.2 t ht;unfold br_ at h2;rw [Bool.and_eq_true,Bool.and_eq_true,decide_eq_true_iff,decide_eq_true_iff] at h2;exact h2.1.2
theorem gd_:∀ {a b:List (List Per)},(ao_ a b).length=a.length*b.length
 | [],b=>by simp [ao_]
 | x :: a,b=>by
  have h:=gd_ (a:=a) (b:=b);have e:ao_ (x :: a) b=b.map (x ++ ·) ++ ao_ a b:=rfl;rw [e,List.length_append,List.length_map,h,List.length_cons,Nat.succ_mul,Nat.add_comm]
theorem jx_ (s:Int) (F1 F2:Nat->Prop) (v1 v2:Value) (m1 m2:List (List Per)) (w:World) (h1:MixR w F1 v1 m1) (h2:MixR w F2 v2 m2) (k1:MV s m1) (k2:MV s m2) :
  Calls Tryz.prog 22 #[.agg #[v1],.agg #[v2]] w (c8_ s (ao_ m1 m2) w):=by
 have HV1:=fun W (h:Below w.heap.size w W)=>bh_ F1 v1 m1 W (h1.ext h);have HV2:=fun W (h:Below w.heap.size w W)=>bh_ F2 v2 m2 W (h2.ext h);rw [k1.val] at HV1;rw [k2.val] at HV2;have l1:=k1.len;have l2:=k2.len;have HVT:Hid (∀ t∈ao_ m1 m2,aw_ s t):=hq_ fun t ht=>by
  obtain ⟨x,hx,y,hy,rfl⟩:=hi_.1 ht;refine ⟨fun e=>(k1.vt x hx).ne (List.append_eq_nil_iff.1 e).1,fun p hp=>(List.mem_append.1 hp).elim ((k1.vt x hx).fv p) ((k2.vt y hy).fv p),?_⟩;rw [List.length_append];have:=k1.tlen x hx;have:=k2.tlen y hy;omega
 have hpl:(ao_ m1 m2).length≤4096:=by rw [gd_];exact Nat.mul_le_mul l1 l2
 have HIT:=fun W (h:Below w.heap.size w W) b1 b2 hb1 hb2=>lz_ F1 F2 v1 v2 m1 m2 b1 b2 W (h1.ext h) (h2.ext h) hb1 hb2 (fun t ht=>by have:=k1.tlen t ht;omega) (fun t ht=>by have:=k2.tlen t ht;omega);obtain ⟨a1,c1,rfl⟩:=h1.form;obtain ⟨a2,c2,rfl⟩:=h2.form;have hit:=hq_ HIT;clear h1 h2 k1 k2 HIT
 go_enter Tryz.func22,Tryz.ntmps22
 go_wp2_with (first|(go_at_call 18;first
   | ((with_reducible refine (HV1 _ xE).mono ?_);rintro e w1 ⟨rfl,hb1⟩;have b0:Bxx w1 w.heap.size #[.slice a1 m1.length c1] 28:=Bxx.below xB hb1;have b1:Bxx w1 (w.heap.size+1) #[.slice a2 m2.length c2] 28:=Bxx.below xB hb1;have b2:Bxx w1 (w.heap.size+1+1) #[.slice none 0 0] 28:=Bxx.below xB hb1;have x0:=b0.c0;have x1:=b1.c0;have hW1:Below w.heap.size w w1:=by exact xE)
   | ((with_reducible refine (HV2 _ xE).mono ?_);rintro e w2 ⟨rfl,hb2⟩;have d0:=b0.below hb2;have d1:=b1.below hb2;have d2:=b2.below hb2;have y0:=d0.c0;have y1:=d1.c0;have hW2:Below w.heap.size w w2:=by exact xE))|(go_at_call 70;refine (ly_ _ _ _ ⟨_,_,_,rfl⟩ ⟨_,_,_,rfl⟩).mono ?_;rintro e w4 ⟨rfl,rfl⟩;have hz2:=d2.lt)|(go_at_call 68;refine (ek_ s _ _ (ao_ m1 m2) _ (hit.out _ (Ea (Ea hW2 _) _) w2.heap.size (w2.heap.size+1) ((Bxx.new w2 #[.slice a1 m1.length c1] 28).alloc (.cells #[.slice a2 m2.length c2] 28)).c0 (Bxx.at (w:=w2.alloc (.cells #[.slice a1 m1.length c1] 28)) (c:=#[.slice a2 m2.length c2]) (t:=28) sq_).c0) HVT.out oq_).mono ?_;rintro e w5 ⟨v,m,hN,hvt,hb5,hres⟩;have g2:=((d2.alloc (.cells #[.slice a1 m1.length c1] 28)).alloc (.cells #[.slice a2 m2.length c2] 28)).below hb5;have s1:=(g2.cells 0).1;have s2:=(g2.cells 0).2;have hW5:Below w.heap.size w w5:=Et (Ea (Ea hW2 _) _) hb5;have HN:=hq_ hN;have HVV:=hq_ hvt;have G2:=hq_ g2;clear hN hvt g2;rcases hres with ⟨hval,rfl,hmr⟩|⟨hval,rfl⟩;(obtain ⟨xa,xc,rfl⟩:=hmr.form)))
 ·have hcc:=Bxx.c0 (w:=w5.setCell ⟨w.heap.size+1+1,0,none⟩ (.slice xa m.length xc)) (a4_ 0 (.slice xa m.length xc) G2.out);refine bodyPost_ret (v:=.tuple #[.agg #[.slice xa m.length xc],.int .i64 0]) (by simp [results,Tryz.results22,go_sem,hcc]) rfl ⟨_,m,HN.out,HVV.out,hW5.setCell (p:=⟨w.heap.size+1+1,0,none⟩) (by show w.heap.size≤w.heap.size+1+1;omega) _,.inl ⟨hval,rfl,?_⟩⟩;exact (hmr.set (b:=w.heap.size+1+1) tq_).mono fun b (hb:_≤b)=>by simp at hb;omega
 ·have hcc:=Bxx.c0 (w:=w5.setCell ⟨w.heap.size+1+1,0,none⟩ (.slice none 0 0)) (a4_ 0 (.slice none 0 0) G2.out);exact bodyPost_ret (v:=.tuple #[.agg #[.slice none 0 0],.int .i64 2]) (by simp [results,Tryz.results22,go_sem,hcc]) rfl ⟨.slice none 0 0,m,HN.out,HVV.out,hW5.setCell (p:=⟨w.heap.size+1+1,0,none⟩) (by show w.heap.size≤w.heap.size+1+1;omega) _,.inr ⟨hval,rfl⟩⟩
structure Row5 (G:Nat->Prop) (g cap:Nat) (W:World) (L:List PV):Prop where
 row:W.ownsRow 0 39 4 (.slice (some ⟨g,0,none⟩) L.length cap) L.length (L.flatMap PV.enc)
 all:∀ x∈L,PVok W (fun b=>G b∧b≠g) x
 lim:L.length≤1000000
theorem Row5.set {G:Nat->Prop} (h:Row5 G g cap W L) (hj:j<L.length) {x:PV} (hx:PVok W (fun b=>G b∧b≠g) x) :
  Row5 G g cap ((((W.setCell ⟨g,j*4,none⟩ x.h).setCell ⟨g,j*4+1,none⟩ (.int .i64 x.p.frm)).setCell ⟨g,j*4+2,none⟩ (.int .i64 x.p.period)).setCell ⟨g,j*4+3,none⟩ x.c) (L.set j x):=by
 have hg:W.grownBy ((((W.setCell ⟨g,j*4,none⟩ x.h).setCell ⟨g,j*4+1,none⟩ (.int .i64 x.p.frm)).setCell ⟨g,j*4+2,none⟩ (.int .i64 x.p.period)).setCell ⟨g,j*4+3,none⟩ x.c) (some g):=
  World.grownBy.set' (World.grownBy.set' (World.grownBy.set' (World.grownBy.set' ⟨rfl,rfl,rfl,Nat.le_refl _,fun _ _ _=>rfl⟩ _) _) _) _
 refine ⟨?_,fun y hy=>?_,by rw [List.length_set];exact h.lim⟩
 ·rw [List.length_set,<- np_ hj];exact ((((h.row.stored _ _).1.stored _ _).1.stored _ _).1.stored _ _).1
 ·refine PVok.keep ?_ (a5_.grown hg fun h=>h.2 rfl);rcases List.mem_or_eq_of_mem_set hy with hy|rfl
  ·exact h.all y hy
  ·exact hx
theorem Row5.mono {G H:Nat->Prop} (h:Row5 G g cap W L) (hs:∀ b,G b->H b):Row5 H g cap W L:=⟨h.row,fun x hx=>(h.all x hx).mono fun b hb=>⟨hs b hb.1,hb.2⟩,h.lim⟩
theorem Row5.term {G:Nat->Prop} (h:Row5 G g cap W L):be_ W (fun b=>G b∨b=g) (.slice (some ⟨g,0,none⟩) L.length cap) L:=by
 have h0:=gw_ h.row h.lim fun x hx=>⟨_,h.all x hx⟩;refine ⟨?_,h0.len,fun x hx=>(h.all x hx).mono fun b hb=>.inl hb.1⟩;obtain ⟨a,c,e,h1,h2,h3⟩:=h0.row;cases e;refine ⟨_,_,rfl,h1,h2,h3.imp id ?_⟩;rintro ⟨b,o,e,_,hl,hc⟩;cases e;exact ⟨g,0,rfl,.inr rfl,hl,hc⟩
theorem qx_ (F:Nat->Prop) (v:Value) (t:List Per) (w:World) (ht:ab_ w F v t) (hl:t.length≤1000000) (hne:t≠[]) :
  Calls Tryz.prog 118 #[v] w fun e w'=>∃ g cap L,e=.returned (.slice (some ⟨g,0,none⟩) L.length cap)∧L.map PV.p=t∧w.heap.size≤g∧Row5 (fun b=>F b∧b<w.heap.size) g cap w' L∧Below w.heap.size w w':=by
 obtain ⟨L,rfl,hL⟩:=ht;rw [List.length_map] at hl;have hlen:0<L.length:=List.length_pos_iff.2 fun e=>hne (by rw [e];rfl);obtain ⟨a1,c1,rfl,hx1,hx2,h3⟩:=hL.row.is;rcases h3 with h3|⟨b,o,rfl,hF,hbl,hc⟩
 ·omega
 have HL:=hq_ hL;have HR:=fun W (h:Below w.heap.size w W)=>hL.row.keep (a5_.below h) h.size;have HRR:=hq_ HR;have hone:=hL.cells_one;have HONE:=hq_ hone;clear hL hc HR hone;have hnil:(binOp .eql 36 (.slice (some ⟨b,o,none⟩) L.length c1) (.slice none 0 0)).run Tryz.prog w=.ok (.bool false) w:=Lib.run_eql_slice_nil w 36 39 (some ⟨b,o,none⟩) L.length c1 0 0 rfl
 go_enter Tryz.func118,Tryz.ntmps118
 go_wp2_with (at_builtin;refine by_ rq_ _ _ rq_ w.heap.size (.slice (some ⟨w.heap.size,0,none⟩) 0 0) (.slice (some ⟨b,o,none⟩) L.length c1) 0 L.length [] (L.flatMap PV.enc) F rq_ ⟨rfl,.inr ⟨w.heap.size,0,#[],rfl,Nat.le_refl _,World.alloc_heap_new w _,Nat.le_refl _,by simp [maxLen],rfl,rfl⟩⟩ rq_ (HRR.out _ (Ea (Er w) _)) c3_ HONE.out oq_ sq_ ?_;intro v5 w5 hown5 hgrow5;rw [Nat.zero_add,List.nil_append] at hown5;obtain ⟨na5,nc5,rfl⟩:=bm_ hown5)
 go_ret;have hb5:Below w.heap.size w w5:=(Ea (Er w) _).trans (Below.grown (Below.refl _ _) hgrow5 sq_ (fun k e=>by simp [Value.ownBlock] at e;omega));obtain ⟨hl5,⟨he,h0⟩|⟨g,cap,cur,he,hg1,hg,h6,h7,h8,h9⟩⟩:=hown5
 ·omega
 cases he;refine ⟨g,nc5,L,rfl,rfl,hg1,⟨⟨hl5,.inr ⟨g,nc5,cur,rfl,Nat.zero_le _,hg,h6,h7,h8,h9⟩⟩,fun x hx=>((HL.out.lt.all x hx).keep (a5_.below hb5)).mono fun k hk=>⟨hk,by have:=hk.2;omega⟩,hl⟩,hb5⟩
theorem o2_ (s:Int) (F G:Nat->Prop) (v:Value) (t:List Per) (fh fc:Value) (f:Per) (w:World) (ht:ab_ w F v t) (hv:aw_ s t) (hf:PVok w G ⟨fh,fc,f⟩) (hff:FV s f) :
  Calls Tryz.prog 71 #[v,perV fh fc f.frm f.period] w fun e w'=>∃ v',e=.returned (.tuple #[v',.bool true])∧ab_ w' (fun b=>F b∨w.heap.size≤b) v' (wiP t f)∧Below w.heap.size w w':=by
 have HCL:=fun W (h:Below w.heap.size w W)=>qx_ F v t W (ht.ext h) hv.len hv.ne;have HFI:=fun W (h:Below w.heap.size w W)=>(hf.is.ext h);obtain ⟨a3,n3,c3,a4,n4,c4,rfl,rfl⟩:=hf.form;have HTR:=hq_ ht;obtain ⟨L,rfl,hL⟩:=ht;have hlen:0<L.length:=List.length_pos_iff.2 fun e=>hv.ne (by rw [e];rfl);obtain ⟨a1,c1,rfl,hx1,hx2,_⟩:=hL.row.is;have hlm:=hL.len;obtain ⟨b1,o1,x,ha,hx,hxp,hbz,e0,e1,e2,e3⟩:=hL.get hlen;subst ha;have hwi:wiP (L.map PV.p) f=(L.map PV.p).set 0 (bu_ x.p f):=by
  cases hLm:L.map PV.p with
  | nil=>exact absurd hLm hv.ne
  | cons p r=>rw [hLm] at hxp;rw [hxp];rfl
 have hfx:=hv.fv x.p (by rw [hxp];exact aa_ (by simpa using hlen));obtain ⟨xh,xc,xp⟩:=x;obtain ⟨ax1,nx1,cx1,ax2,nx2,cx2,rfl,rfl⟩:=hx.form;dsimp only at e0 e1 e2 e3 hfx hwi;have HMI:=fun W (h:Below w.heap.size w W)=>vf_ s (.slice ax1 nx1 cx1) (.slice ax2 nx2 cx2) (.slice a3 n3 c3) (.slice a4 n4 c4) xp f W (hx.is.ext h) (HFI W h) hfx hff;have HFM:=hq_ (hfx.minus hff);have HWI:=hq_ hwi;simp only [Nat.zero_mul,Nat.add_zero] at e0 e1 e2 e3;generalize bu_ xp f=q at *;clear hL hx hxp hwi hfx hff hf HFI hv
 go_enter Tryz.func71,Tryz.ntmps71
 go_wp2_with fail
 go_loopw [6,7,8,9,10,13] (fun _ _ _ _ _ i wr=>i=.int .i64 0∧Below w.heap.size w wr∧wr.cell? ⟨w.heap.size,0,none⟩=some (.slice a3 n3 c3)∧wr.cell? ⟨w.heap.size,1,none⟩=some (.int .i64 f.frm)∧wr.cell? ⟨w.heap.size,2,none⟩=some (.int .i64 f.period)∧wr.cell? ⟨w.heap.size,3,none⟩=some (.slice a4 n4 c4)) (fun _ _ _ _ _ i _=>L.length-(intOf i).toNat)
 case atStart=>exact ⟨rfl,by exact xE,sq_,sq_,sq_,sq_⟩
 case round=>
  obtain ⟨rfl,hb,f0,f1,f2,f3⟩:=hrel;have e0:=Ext.cell hb e0;have e1:=Ext.cell hb e1;have e2:=Ext.cell hb e2;have e3:=Ext.cell hb e3;have hlI:(0:Int)<L.length:=oq_;have g0:=ag_ f0 (.cells #[.slice ax1 nx1 cx1,.int .i64 xp.frm,.int .i64 xp.period,.slice ax2 nx2 cx2] 39);have g1:=ag_ f1 (.cells #[.slice ax1 nx1 cx1,.int .i64 xp.frm,.int .i64 xp.period,.slice ax2 nx2 cx2] 39);have g2:=ag_ f2 (.cells #[.slice ax1 nx1 cx1,.int .i64 xp.frm,.int .i64 xp.period,.slice ax2 nx2 cx2] 39);have g3:=ag_ f3 (.cells #[.slice ax1 nx1 cx1,.int .i64 xp.frm,.int .i64 xp.period,.slice ax2 nx2 cx2] 39);go_wp2_with (first|(go_at_call 117;refine (HMI _ (Ea hb _)).mono ?_;rintro e w2 ⟨h',c',rfl,ho,hb2⟩;obtain ⟨a5,m5,a6,m6,rfl,rfl⟩:=ho.form;have HPV:=hq_ (ho.pv HFM.out);have HWZ:Hid (w.heap.size≤(wr.alloc (.cells #[.slice ax1 nx1 cx1,.int .i64 xp.frm,.int .i64 xp.period,.slice ax2 nx2 cx2] 39)).heap.size):=hq_ (Ea hb _).size;have hE2:Below w.heap.size w w2:=Et (Ea hb _) hb2;clear ho hb2)|(go_at_call 118;refine (HCL _ (Ea hE2 _)).mono ?_;(rintro e w4 ⟨g,cap,M,rfl,hMp,hgz,hr5,hb4⟩);(have HMP:=hq_ hMp);(have hml:0<M.length:=(by rw [<- List.length_map (f:=PV.p),hMp,List.length_map];exact hlen));(have hmI:(0:Int)<M.length:=oq_);(have hbx:=(Bxx.new w2 #[.slice a5 q.head.length m5,.int .i64 q.frm,.int .i64 q.period,.slice a6 q.cycle.length m6] 39).below hb4);(have s0:=(hbx.cells 0).1);(have s1:=(hbx.cells 1).1);(have s2:=(hbx.cells 2).1);(have s3:=(hbx.cells 3).1);(have k0:=(hr5.row.cellAt 0 oq_).trans (av_ (j:=0) (i:=0) hml rfl));(have k1:=(hr5.row.cellAt 1 oq_).trans (av_ (j:=0) (i:=1) hml rfl));(have k2:=(hr5.row.cellAt 2 oq_).trans (av_ (j:=0) (i:=2) hml rfl));(have k3:=(hr5.row.cellAt 3 oq_).trans (av_ (j:=0) (i:=3) hml rfl));(have l0:=hr5.row.frozenAt 0);(have l1:=hr5.row.frozenAt 1);(have l2:=hr5.row.frozenAt 2);(have l3:=hr5.row.frozenAt 3);(have HR5:=hq_ hr5);(have HB4:=hq_ hb4);(rw [World.size_alloc] at hgz);(clear hbx hr5 hb4 hMp)))
  go_ret2;have hpv:PVok w4 (fun b=>(F b∨w.heap.size≤b)∧b≠g) ⟨.slice a5 q.head.length m5,.slice a6 q.cycle.length m6,q⟩:=(HPV.out.keep (a5_.below (Et (Ea (Er w2) _) HB4.out))).mono fun b hb=>⟨.inr (by have:=hb.1;have:=HWZ.out;omega),by have:=hb.2;omega⟩;have hset:=(HR5.out.mono (H:=fun b=>F b∨w.heap.size≤b) fun b hb=>.inl hb.1).set (x:=⟨_,_,q⟩) hml hpv;simp only [Nat.zero_mul,Nat.zero_add] at hset;have hz:=hE2.size;have hE4:Below w.heap.size w w4:=Et (Ea hE2 _) HB4.out;refine ⟨_,rfl,⟨M.set 0 ⟨.slice a5 q.head.length m5,.slice a6 q.cycle.length m6,q⟩,?_,?_⟩,?_⟩
  ·rw [List.map_set,HMP.out,HWI.out]
  ·have h1:=hset.term;rw [List.length_set] at h1;exact h1.mono fun b hb=>hb.elim id fun e=>.inr oq_
  ·exact ((((Below.setCell hE4 (p:=⟨g,0,none⟩) (show w.heap.size≤g by omega) _).setCell (p:=⟨g,1,none⟩) (show w.heap.size≤g by omega) _).setCell (p:=⟨g,2,none⟩) (show w.heap.size≤g by omega) _).setCell (p:=⟨g,3,none⟩) (show w.heap.size≤g by omega) _)
theorem mc_ (h:bj_ m=true):∀ t∈m,TV t∧t≠[]:=fun t ht=>by
 unfold bj_ at h;rw [Bool.and_eq_true] at h;have h2:=List.all_eq_true.1 h.2 t ht;unfold br_ at h2;rw [Bool.and_eq_true,Bool.and_eq_true,decide_eq_true_iff,decide_eq_true_iff] at h2;exact ⟨fun p hp=>List.all_eq_true.1 h2.2 p hp,fun e=>by have:=h2.1.1;rw [e] at this;simp at this⟩
open Classical in
noncomputable def recB (t:List Per):Bool:=decide (recT t)
open Classical in
noncomputable def barB (t:List Per):Bool:=decide (bt_ t)
theorem nc_:recB t=true↔recT t:=by simp [recB]
theorem on_:barB t=true↔bt_ t:=by simp [barB]
theorem jc_ {c:Bool} (h:b=true↔c=true):b=c:=by cases b <;> cases c <;> simp_all
theorem vu_ (h:b=true↔recT t):b=recB t:=jc_ (h.trans nc_.symm)
theorem wu_ (h:b=true↔bt_ t):b=barB t:=jc_ (h.trans on_.symm)
theorem wb_:(¬ (!barB t)=true)↔bt_ t:=by rw [<- on_];cases barB t <;> simp
theorem qi_ (F:Nat->Prop) (v:Value) (t:List Per) (w:World) (ht:ab_ w F v t) (hv:TV t) :
  Calls Tryz.prog 74 #[v] w fun e w'=>e=.returned (.bool (!barB t))∧Below w.heap.size w w':=by
 have H:=kz_ F v t w ht hv;obtain ⟨a,c,rfl,_⟩:=ht.form;clear ht hv
 go_enter Tryz.func74,Tryz.ntmps74
 go_wp2_with (go_at_call 75;refine H.mono ?_;rintro e w1 ⟨b,rfl,hb,hb1⟩;have HB:=hq_ hb;clear hb)
 go_ret;exact ⟨by rw [wu_ HB.out];rfl,hb1⟩
theorem qg_ (F:Nat->Prop) (v:Value) (m:List (List Per)) (w:World) (hm:MixR w F v m) (hv:∀ t∈m,TV t) :
  Calls Tryz.prog 57 #[v,.func (.func 74) #[] #[]] w fun e w'=>e=.returned (.bool (m.any fun t=>!barB t))∧Below w.heap.size w w':=by
 obtain ⟨L,rfl,hL⟩:=hm;have h:=fo_ F v L (fun x=>!barB x.2) 74 #[] (enters_of Tryz.func74 (by kernel_rfl) rfl) w hL.row hL.len (fun W x hW hx=>by
  have h:=qi_ F x.1 x.2 W ((hL.all x hx).ext hW) (hv _ (List.mem_map.2 ⟨x,hx,rfl⟩));have e:(#[x.1] ++ (#[]:Array Value))=#[x.1]:=by simp
  rw [e];exact h.mono fun e w' ⟨h1,h2⟩=>⟨h1,hW.trans (h2.mono hW.size)⟩)
 rw [List.any_map];exact h
theorem qe_ (F:Nat->Prop) (v:Value) (m:List (List Per)) (w:World) (hm:MixR w F v m) (hv:∀ t∈m,TV t) :
  Calls Tryz.prog 57 #[v,.func (.func 76) #[] #[]] w fun e w'=>e=.returned (.bool (m.any recB))∧Below w.heap.size w w':=by
 obtain ⟨L,rfl,hL⟩:=hm;have h:=fo_ F v L (fun x=>recB x.2) 76 #[] (enters_of Tryz.func76 (by kernel_rfl) rfl) w hL.row hL.len (fun W x hW hx=>by
  have h:=hg_ F x.1 x.2 W ((hL.all x hx).ext hW) (hv _ (List.mem_map.2 ⟨x,hx,rfl⟩));have e:(#[x.1] ++ (#[]:Array Value))=#[x.1]:=by simp
  rw [e];exact h.mono fun e w' ⟨b,h1,h2,h3⟩=>⟨by rw [h1,vu_ h2],hW.trans (h3.mono hW.size)⟩)
 rw [List.any_map];exact h
theorem ko_ (F:Nat->Prop) (v:Value) (m:List (List Per)) (w:World) (hm:MixR w F v m) :
  Calls Tryz.prog 25 #[.agg #[v]] w fun e w'=>∃ b,e=.returned (.bool b)∧(b=true↔bj_ m=true∧∀ t∈m,bt_ t)∧Below w.heap.size w w':=by
 have HV:=fun W h=>bh_ F v m W (hm.ext h);obtain ⟨a,c,rfl⟩:=hm.form;cases hq:bj_ m with
 | false=>
  rw [hq] at HV;clear hm hq
  go_enter Tryz.func25,Tryz.ntmps25
  go_wp2_with (go_at_call 18;refine (HV _ xE).mono ?_;rintro e w1 ⟨rfl,hb1⟩)
  go_ret;exact ⟨false,rfl,⟨fun h=>absurd h dq_,fun h=>absurd h.1 dq_⟩,xE⟩
 | true=>
  rw [hq] at HV;have HA:=fun W (h:Below w.heap.size w W)=>qg_ F (.slice a m.length c) m W (hm.ext h) (fun t ht=>(mc_ hq t ht).1);have HI:Hid ((m.any (fun t=>!barB t)=false)↔∀ t∈m,bt_ t):=hq_ (by rw [List.any_eq_false];exact forall_congr' fun t=>forall_congr' fun _=>by exact wb_);clear hm hq;generalize m.any (fun t=>!barB t)=b at *
  go_enter Tryz.func25,Tryz.ntmps25
  go_wp2_with (first|(go_at_call 18;refine (HV _ xE).mono ?_;rintro e w1 ⟨rfl,hb1⟩;have hbx:Bxx w1 w.heap.size #[.slice a m.length c] 28:=Bxx.below xB hb1;have x0:=hbx.c0;have hW1:Below w.heap.size w w1:=by exact xE)|(go_at_call 57;refine (HA _ hW1).mono ?_;rintro e w2 ⟨rfl,hb2⟩;have hW2:Below w.heap.size w w2:=Et hW1 hb2))
  go_ret;exact ⟨!b,by first|rfl|simp,⟨fun h=>⟨by first|rfl|trivial,HI.out.1 (by simpa using h)⟩,fun h=>by simpa using HI.out.2 h.2⟩,hW2⟩
theorem pl_ (F:Nat->Prop) (v:Value) (m:List (List Per)) (w:World) (hm:MixR w F v m) :
  Calls Tryz.prog 26 #[.agg #[v]] w fun e w'=>∃ b,e=.returned (.bool b)∧(b=true↔bj_ m=true∧∀ t∈m,¬ recT t)∧Below w.heap.size w w':=by
 have HV:=fun W h=>bh_ F v m W (hm.ext h);obtain ⟨a,c,rfl⟩:=hm.form;cases hq:bj_ m with
 | false=>
  rw [hq] at HV;clear hm hq
  go_enter Tryz.func26,Tryz.ntmps26
  go_wp2_with (go_at_call 18;refine (HV _ xE).mono ?_;rintro e w1 ⟨rfl,hb1⟩)
  go_ret;exact ⟨false,rfl,⟨fun h=>absurd h dq_,fun h=>absurd h.1 dq_⟩,xE⟩
 | true=>
  rw [hq] at HV;have HA:=fun W (h:Below w.heap.size w W)=>qe_ F (.slice a m.length c) m W (hm.ext h) (fun t ht=>(mc_ hq t ht).1);have HI:Hid ((m.any recB=false)↔∀ t∈m,¬ recT t):=hq_ (by rw [List.any_eq_false];exact forall_congr' fun t=>forall_congr' fun _=>by rw [<- nc_]);clear hm hq;generalize m.any recB=b at *
  go_enter Tryz.func26,Tryz.ntmps26
  go_wp2_with (first|(go_at_call 18;refine (HV _ xE).mono ?_;rintro e w1 ⟨rfl,hb1⟩;have hbx:Bxx w1 w.heap.size #[.slice a m.length c] 28:=Bxx.below xB hb1;have x0:=hbx.c0;have hW1:Below w.heap.size w w1:=by exact xE)|(go_at_call 57;refine (HA _ hW1).mono ?_;rintro e w2 ⟨rfl,hb2⟩;have hW2:Below w.heap.size w w2:=Et hW1 hb2))
  go_ret;exact ⟨!b,by first|rfl|simp,⟨fun h=>⟨by first|rfl|trivial,HI.out.1 (by simpa using h)⟩,fun h=>by simpa using HI.out.2 h.2⟩,hW2⟩
theorem ti_ (h:aw_ s t):br_ t=true↔t.length≤4:=by
 unfold br_;rw [Bool.and_eq_true,Bool.and_eq_true,decide_eq_true_iff,decide_eq_true_iff,List.all_eq_true];exact ⟨fun g=>g.1.2,fun g=>⟨⟨List.length_pos_iff.2 h.ne,g⟩,fun p hp=>(h.fv p hp).validB⟩⟩
theorem d8_ (h:∀ t∈m,aw_ s t):bj_ m=true↔cv_ m:=by
 unfold bj_ cv_;rw [Bool.and_eq_true,decide_eq_true_iff,List.all_eq_true];exact and_congr Iff.rfl (forall_congr' fun t=>forall_congr' fun ht=>ti_ (h t ht))
theorem c8_.num (h:c8_ s T w e w'):∃ (a:Option Addr) (c:Nat) (k:Int) (mk:List (List Per)),e=.returned (.tuple #[.agg #[.slice a mk.length c],.int .i64 k])∧MixR w' (fun b=>w.heap.size≤b) (.slice a mk.length c) mk∧Below w.heap.size w w'∧
  ((k=0∧bf_ T mk∧MV s mk)∨(k=2∧a=none∧c=0∧mk=[]∧∃ m,bf_ T m∧¬ cv_ m)):=by
 obtain ⟨v,m,hN,hvt,hb,⟨hval,rfl,hm⟩|⟨hval,rfl⟩⟩:=h
 ·obtain ⟨a,c,rfl⟩:=hm.form;exact ⟨a,c,0,m,rfl,hm,hb,.inl ⟨rfl,hN,hval,hvt⟩⟩
 ·exact ⟨none,0,2,[],rfl,⟨[],rfl,⟨none,0,rfl,sq_,oq_,.inl rfl⟩,sq_,sq_⟩,hb,.inr ⟨rfl,rfl,rfl,rfl,m,hN,fun g=>by rw [(d8_ hvt).2 g] at hval;cases hval⟩⟩
theorem dz_:∀ {m:List (List Per)} {t:List Per},(minL m t).length=m.length*t.length
 | [],t=>by simp [minL]
 | x :: m,t=>by
  have h:=dz_ (m:=m) (t:=t);have e:minL (x :: m) t=(t.map fun f=>wiP x f) ++ minL m t:=rfl;rw [e,List.length_append,List.length_map,h,List.length_cons,Nat.succ_mul,Nat.add_comm]
def fk_ (s:Int) (m1 m2:List (List Per)) (w:World) (e:Ending) (w':World):Prop:=
 ∃ (v:Value) (r:Option (List (List Per))),b4_ m1 m2 r∧Below w.heap.size w w'∧
  ((∃ k,r=some k∧MV s k∧e=.returned (.tuple #[.agg #[v],.int .i64 0])∧MixR w' (fun b=>w.heap.size≤b) v k)∨(r=none∧e=.returned (.tuple #[.agg #[.slice none 0 0],.int .i64 2])))
structure MS (s:Int) (m1 m2:List (List Per)) (w:World) (b6 j:Nat) (a:Option Addr) (c:Nat) (k:Int) (mk:List (List Per)) (W:World):Prop where
 below:Below w.heap.size w W
 obx:Bxx W b6 #[.slice a mk.length c] 28
 rbx:Bxx W (w.heap.size+1+1) #[.slice none 0 0] 28
 mix:MixR W (fun b=>w.heap.size+2<b∧b≠b6) (.slice a mk.length c) mk
 lt:w.heap.size+2<b6
 st:(k=0∧MV s mk∧∀ r,fy_ mk (m2.drop j) r->b4_ m1 m2 r)∨(k=2∧a=none∧c=0∧mk=[]∧b4_ m1 m2 none)
theorem ft_ (s:Int) (F1 F2:Nat->Prop) (v1 v2:Value) (m1 m2:List (List Per)) (w:World) (h1:MixR w F1 v1 m1) (h2:MixR w F2 v2 m2) (k1:MV s m1) (k2:MV s m2) :
  Calls Tryz.prog 23 #[.agg #[v1],.agg #[v2]] w (fk_ s m1 m2 w):=by
 have HV1:=fun W (h:Below w.heap.size w W)=>bh_ F1 v1 m1 W (h1.ext h);have HV2:=fun W (h:Below w.heap.size w W)=>bh_ F2 v2 m2 W (h2.ext h);rw [k1.val] at HV1;rw [k2.val] at HV2;have l1:=k1.len;have l2:=k2.len;obtain ⟨a1,c1,rfl⟩:=h1.form;obtain ⟨a2,c2,rfl⟩:=h2.form;have HIT:=fun W (h:Below w.heap.size w W) b1 hb1=>dv_ F1 (.slice a1 m1.length c1) m1 b1 W (h1.ext h) hb1;have hit:=hq_ HIT;have HM2:=hq_ h2;have HVT:=hq_ k1.vt;have HK2:=hq_ k2;clear h1 h2 k1 k2 HIT
 go_enter Tryz.func23,Tryz.ntmps23
 go_wp2_with (first|(go_at_call 18;first
   | ((with_reducible refine (HV1 _ xE).mono ?_);rintro e w1 ⟨rfl,hb1⟩;have b0:Bxx w1 w.heap.size #[.slice a1 m1.length c1] 28:=Bxx.below xB hb1;have b1:Bxx w1 (w.heap.size+1) #[.slice a2 m2.length c2] 28:=Bxx.below xB hb1;have b2:Bxx w1 (w.heap.size+1+1) #[.slice none 0 0] 28:=Bxx.below xB hb1;have x0:=b0.c0;have x1:=b1.c0;have hW1:Below w.heap.size w w1:=by exact xE)
   | ((with_reducible refine (HV2 _ xE).mono ?_);rintro e w2 ⟨rfl,hb2⟩;have d0:=b0.below hb2;have d1:=b1.below hb2;have d2:=b2.below hb2;have y0:=d0.c0;have y1:=d1.c0;have hW2:Below w.heap.size w w2:=by exact xE))|(go_at_call 61;refine (dn_ _ _ ⟨_,_,_,rfl⟩).mono ?_;rintro e w4 ⟨rfl,rfl⟩)|(go_at_call 68;refine (ek_ s _ _ m1 _ (hit.out _ (Ea hW2 _) w2.heap.size (Bxx.new w2 #[.slice a1 m1.length c1] 26).c0) HVT.out oq_).mono ?_;rintro e w5 hres;obtain ⟨oa,oc,k,mk,rfl,hmr,hb5,hst⟩:=hres.num;have g1:=(d1.alloc (.cells #[.slice a1 m1.length c1] 26)).below hb5;have g2:=(d2.alloc (.cells #[.slice a1 m1.length c1] 26)).below hb5;have hW5:Below w.heap.size w w5:=Et (Ea hW2 _) hb5;have s1:=g1.c0;have s2:=(g1.alloc (.cells #[.slice oa mk.length oc] 28)).c0;have HMR:=hq_ hmr;have HST:=hq_ hst;have G1:=hq_ g1;have G2:=hq_ g2;clear hmr hst g1 g2 hres))
 obtain ⟨b6,hb6⟩:∃ b6,b6=w5.heap.size:=⟨_,rfl⟩;have hg2:=G2.out.lt;have hz5:(w2.alloc (.cells #[.slice a1 m1.length c1] 26)).heap.size≤w5.heap.size:=hb5.size;have hz2:=d2.lt;have hms:MS s m1 m2 w b6 0 oa oc k mk (w5.alloc (.cells #[.slice oa mk.length oc] 28)):=by
  refine ⟨Ea hW5 _,Bxx.at hb6,G2.out.alloc _,?_,oq_,?_⟩
  ·refine (HMR.out.lt.ext (Ea (Er _) _)).mono fun b hb=>?_;obtain ⟨hb1,hb2⟩:=hb;simp at hb1;exact ⟨oq_,oq_⟩
  ·rcases HST.out with ⟨h1,h2,h3⟩|⟨h1,h2,h3,h4,m,h5,h6⟩
   ·exact .inl ⟨h1,h3,fun r hr=>⟨mk,h2,.inl ⟨(d8_ h3.vt).1 h3.val,hr⟩⟩⟩
   ·exact .inr ⟨h1,h2,h3,h4,m,h5,.inr ⟨h6,rfl⟩⟩
 rw [<- hb6];have HMS:=hq_ hms;have hm2l:m2.length≤64:=l2;clear hms hb6 hz5 hg2 hb5 hW5 hz2 d0 d1 d2 s1 s2 hb2 hb1 b0 b1 b2 x0 x1 y0 y1 HMR HST G1 G2
 go_loopw [5,7,9,10,12,14,15,16,36] (fun s5 ev _ _ _ _ _ _ idx wr=>∃ (j:Nat) (a:Option Addr) (c:Nat) (k:Int) (mk:List (List Per)),j≤m2.length∧s5=.int .i64 0∧idx=.int .i64 j∧ev=.int .i64 k∧Hid (MS s m1 m2 w b6 j a c k mk wr)) (fun _ _ _ _ _ _ _ _ idx _=>m2.length-(intOf idx).toNat)
 case atStart=>exact ⟨0,oa,oc,k,mk,oq_,rfl,rfl,rfl,HMS⟩
 case round=>
  obtain ⟨j,a,c,k,mk,hj,rfl,rfl,rfl,HM⟩:=hrel;obtain ⟨wo,hwo⟩:∃ wo,wo=wr:=⟨_,rfl⟩;subst hwo;have r1:=HM.out.obx.c0;have r2:=(HM.out.rbx.cells 0).1;have r3:=(HM.out.rbx.cells 0).2
  by_cases hjl:j<m2.length
  ·have hjI:(j:Int)<m2.length:=oq_;obtain ⟨L2,hL2,hml⟩:=HM2.out.ext HM.out.below;have hl2:L2.length=m2.length:=by rw [<- hL2,List.length_map]
   obtain ⟨b8,f8,c8,ta,tn,tc,t,he,e0,htt,hmt⟩:=hml.at (show j<L2.length by omega);injection he with q1 q2 q3
   subst q1;subst q3;clear q2;rw [hL2] at hmt;have HTT:=hq_ htt;have HMT:=hq_ hmt;clear hml htt hmt hL2 hl2;have HM':=HM.out.st;rcases HM' with ⟨rfl,hmv,hto⟩|⟨rfl,rfl,rfl,rfl,hnone⟩
   ·have hmkl:=hmv.len;have HMV:=hq_ hmv;have HTO:=hq_ hto;clear hmv hto;go_wp2_with fail
    go_loopw [5,10,12,14,15,16,47] (fun s5 lv _ _ _ _ idx wq=>∃ (i:Nat) (la:Option Addr) (lc:Nat) (Lk:List (Value × List Per)),i≤mk.length∧s5=.int .i64 0∧idx=.int .i64 i∧lv=.slice la Lk.length lc∧Hid (Below wo.heap.size wo wq)∧Hid (RowT 0 (fun k=>k≤w.heap.size+2∨k=b6) wq (.slice la Lk.length lc) Lk)∧Hid (∀ g,(Value.slice la Lk.length lc).ownBlock=some g->wo.heap.size≤g)∧Hid (Lk.map Prod.snd=minL (mk.take i) t)) (fun _ _ _ _ _ _ idx _=>mk.length-(intOf idx).toNat)
    case atStart=>exact ⟨0,none,0,[],oq_,rfl,rfl,rfl,hq_ (Below.refl _ _),hq_ (RowT.nil _ _ _),hq_ (by simp [Value.ownBlock]),hq_ rfl⟩
    case round=>
     obtain ⟨i,la,lc,Lk,hi,rfl,rfl,rfl,HBQ,HRT,HOW,HEQ⟩:=hrel
     by_cases hil:i<mk.length
     ·have hiI:(i:Int)<mk.length:=oq_;obtain ⟨L1,hL1,hml⟩:=HM.out.mix.lt;have hl1:L1.length=mk.length:=by rw [<- hL1,List.length_map]
      obtain ⟨b9,f9,c9,sa,sn,sc,u,he,e1,hut,hmu⟩:=hml.at (show i<L1.length by omega);injection he with q1 q2 q3
      subst q1;subst q3;rw [hL1] at hmu;have hvu:=HMV.out.vt u (List.mem_of_getElem? hmu);have HUT:=hq_ hut;have HU2:=fun W (h:Below wo.heap.size wo W)=>(hut.keep (a5_.below h) h.size);have e1:=Ext.cell HBQ.out e1;have HMU:=hq_ hmu;have HVU:=hq_ hvu;obtain ⟨tL,htL,htl⟩:=HTT.out;obtain ⟨_,_,he,_⟩:=htl.row.is;have htn:tn=t.length:=by injection he with _ h _;rw [h,<- htL,List.length_map]
      have htn4:tn≤4:=by rw [htn];exact HK2.out.tlen t (List.mem_of_getElem? HMT.out)
      have HTN:=hq_ htn;clear q2 hml hut hmu hvu hL1 hl1 he htn;go_wp2_with fail
      go_loopw [5,10,14,15,16,53] (fun s5 lv _ _ _ idx wq=>∃ (i3:Nat) (la:Option Addr) (lc:Nat) (Lk:List (Value × List Per)),i3≤tn∧s5=.int .i64 0∧idx=.int .i64 i3∧lv=.slice la Lk.length lc∧Hid (Below wo.heap.size wo wq)∧Hid (RowT 0 (fun k=>k≤w.heap.size+2∨k=b6) wq (.slice la Lk.length lc) Lk)∧Hid (∀ g,(Value.slice la Lk.length lc).ownBlock=some g->wo.heap.size≤g)∧Hid (Lk.map Prod.snd=minL (mk.take i) t ++ (t.take i3).map fun f=>wiP u f)) (fun _ _ _ _ _ idx _=>tn-(intOf idx).toNat)
      case atStart=>exact ⟨0,la,lc,Lk,oq_,rfl,rfl,rfl,HBQ,HRT,HOW,hq_ (by rw [HEQ.out];simp)⟩
      case round=>
       obtain ⟨i3,la,lc,Lk,hi3,rfl,rfl,rfl,HBQ2,HRT2,HOW2,HEQ2⟩:=hrel
       by_cases hi3l:i3<tn
       ·have hi3I:(i3:Int)<tn:=oq_;have htl2:=htl.keep (a5_.below HBQ2.out) HBQ2.out.size;have htLl:tL.length=tn:=by have:=congrArg List.length htL;rw [List.length_map] at this;rw [this];exact HTN.out.symm
        obtain ⟨bt,ot,x,ha,hx,hxp,_,z0,z1,z2,z3⟩:=htl2.get (show i3<tL.length by omega);subst ha;have hfx:=(HK2.out.vt t (List.mem_of_getElem? HMT.out)).fv x.p (by rw [hxp,htL];exact aa_ (by rw [<- HTN.out];exact hi3l));have hxg:t[i3]? = some x.p:=by rw [hxp,htL,List.getD_eq_getElem?_getD,List.getElem?_eq_getElem (by rw [<- HTN.out];exact hi3l)];rfl
        obtain ⟨xh,xc,xp⟩:=x;obtain ⟨ax1,nx1,cx1,ax2,nx2,cx2,rfl,rfl⟩:=hx.form;dsimp only at z0 z1 z2 z3 hfx hxg;have hown:=HRT2.out.row.lt;have hal:=Ea (Er wr) (.cells #[.slice ax1 nx1 cx1,.int .i64 xp.frm,.int .i64 xp.period,.slice ax2 nx2 cx2] 39);have HWO:=o2_ s _ F2 (.slice sa sn sc) u (.slice ax1 nx1 cx1) (.slice ax2 nx2 cx2) xp (wr.alloc (.cells #[.slice ax1 nx1 cx1,.int .i64 xp.frm,.int .i64 xp.period,.slice ax2 nx2 cx2] 39)) (HU2 wr HBQ2.out |>.ext hal) HVU.out (hx.keep (a5_.below hal)) hfx;have hb6z:=HM.out.obx.lt;have hb6l:=HM.out.lt;have hwz0:=HBQ2.out.size;have HROW:Hid (∀ (W7 W:World) (v':Value) (u':List Per),ab_ W7 (fun b=>((w.heap.size+2<b∧b≠b6)∧b<wo.heap.size)∨(wr.alloc (.cells #[.slice ax1 nx1 cx1,.int .i64 xp.frm,.int .i64 xp.period,.slice ax2 nx2 cx2] 39)).heap.size≤b) v' u'->Below W7.heap.size W7 W->ab_ W (RowF 0 (fun k=>k≤w.heap.size+2∨k=b6) (.slice la Lk.length lc)) v' u'):=hq_ fun W7 W v' u' ht h=>(ht.ext h).mono fun b hb=>by
         have hs:=World.size_alloc wr (.cells #[.slice ax1 nx1 cx1,.int .i64 xp.frm,.int .i64 xp.period,.slice ax2 nx2 cx2] 39);have ho:=fun e=>HOW2.out b e;have ho2:=fun e=>(hown b e).2;refine ⟨Nat.zero_le _,?_,fun e=>?_⟩
         ·rcases hb with ⟨⟨h1,h2⟩,h3⟩|h1
          ·rintro (h|h) <;> omega
          ·rintro (h|h) <;> omega
         ·have h4:=ho e;have h5:=ho2 e;rcases hb with ⟨⟨h1,h2⟩,h3⟩|h1 <;> omega
        have HLK:Hid (Lk.length<1000000):=hq_ (by
         have h1:=congrArg List.length HEQ2.out;rw [List.length_map,List.length_append,List.length_map,dz_,List.length_take,List.length_take] at h1;have h2:min i mk.length*t.length≤64*4:=Nat.mul_le_mul oq_ (by rw [<- HTN.out];exact htn4);have h3:=HTN.out;omega)
        have HXG:=hq_ hxg;have HAL:=hq_ hal;clear htl2 htLl hx hxp hfx hxg hal hown;go_wp2_with (first|(go_at_call 71;refine HWO.mono ?_;rintro e w7 ⟨v',rfl,ht7,hb7⟩;obtain ⟨va,vc,rfl,_⟩:=ht7.form;have hE7:=HAL.out.trans (hb7.mono HAL.out.size);have HT7:=hq_ ht7;have HE7:=hq_ hE7;have hz7:=hE7.size;clear ht7 hb7 hE7)|(at_builtin;refine de_ rq_ _ _ rq_ 0 (fun k=>k≤w.heap.size+2∨k=b6) (.slice la Lk.length lc) Lk (.slice va (wiP u xp).length vc,wiP u xp) rq_ (HRT2.out.below (Ea HE7.out _)) (HROW.out w7 _ _ _ HT7.out (Ea (Er w7) _)) _ _ rq_ sq_ tq_ (HLK.out) oq_ ?_;intro ga gc w8 hr8 hg8 hb8 hbo8;have HR8:=hq_ hr8;have HG8:=hq_ hg8;have HBO8:=hq_ hbo8;clear hr8 hg8 hb8 hbo8))
        go_roundw
        case rel=>
         have hle:(Lk ++ [(Value.slice va (wiP u xp).length vc,wiP u xp)]).length=Lk.length+1:=by simp
         refine ⟨i3+1,ga,gc,Lk ++ [(.slice va (wiP u xp).length vc,wiP u xp)],oq_,rfl,by go_num,by rw [hle],hq_ ?_,hq_ (by rw [hle];exact HR8.out),hq_ (fun g hg=>?_),hq_ ?_⟩
         ·have h1:Below wo.heap.size wo (w7.alloc (.cells #[.slice va (wiP u xp).length vc] 36)):=Et HBQ2.out (Ea HE7.out _);exact h1.grown HG8.out h1.size (fun k e=>HOW2.out k e)
         ·rw [hle] at hg;rcases HBO8.out with e|e
          ·exact HOW2.out g (e ▸ hg)
          ·rw [e] at hg;cases hg;simp;omega
         ·rw [List.map_append,HEQ2.out,List.append_assoc]
          congr 1
          obtain ⟨h1,h2⟩:=List.getElem?_eq_some_iff.1 HXG.out;rw [List.take_succ_eq_append_getElem h1,List.map_append,h2];rfl
        case measure=>simp [intOf];omega
       ·obtain rfl:i3=tn:=oq_;go_wp2_with fail
        go_roundw
        case rel=>exact ⟨i+1,la,lc,Lk,oq_,rfl,by go_num,rfl,HBQ2,HRT2,HOW2,hq_ (by
         rw [HEQ2.out,List.take_of_length_le (l:=t) (by rw [HTN.out];exact Nat.le_refl _)];obtain ⟨h1,h2⟩:=List.getElem?_eq_some_iff.1 HMU.out;unfold minL;rw [List.take_succ_eq_append_getElem h1,List.flatMap_append,h2];simp)⟩
        case measure=>simp [intOf];omega
     ·obtain rfl:i=mk.length:=oq_;have hmx:MixR wr (fun _=>True) (.slice la Lk.length lc) (minL mk t):=⟨Lk,by rw [HEQ.out,List.take_of_length_le (Nat.le_refl _)],HRT.out.mix.mono fun _ _=>trivial⟩;have hvt:∀ x∈minL mk t,aw_ s x:=fun x hx=>by
       obtain ⟨u,hu,f,hf,rfl⟩:=k1_.1 hx;have h1:=HMV.out.vt u hu;have h2:=(HK2.out.vt t (List.mem_of_getElem? HMT.out)).fv f hf;cases u with
       | nil=>exact absurd rfl h1.ne
       | cons p r=>exact ⟨by simp [wiP],fun q hq=>by
         rcases List.mem_cons.1 hq with rfl|hq
         ·exact (h1.fv p sq_).minus h2
         ·exact h1.fv q (by simp [hq]),by have:=h1.len;simpa [wiP] using this⟩
      have htl:(minL mk t).length≤256:=by rw [dz_];exact Nat.mul_le_mul hmkl (HK2.out.tlen t (List.mem_of_getElem? HMT.out))
      have hNO:=ek_ s _ _ (minL mk t) _ (dv_ (fun _=>True) (.slice la Lk.length lc) (minL mk t) wr.heap.size (wr.alloc (.cells #[.slice la Lk.length lc] 26)) (hmx.ext (Ea (Er wr) _)) (Bxx.new wr #[.slice la Lk.length lc] 26).c0) hvt oq_;have HNOH:=hq_ hNO;have hwz:=HBQ.out.size;clear hmx hvt hNO;go_wp2_with (first|(go_at_call 61;refine (dn_ _ _ ⟨_,_,_,rfl⟩).mono ?_;rintro e w4 ⟨rfl,rfl⟩)|(go_at_call 68;refine HNOH.out.mono ?_;rintro e w5 hres;obtain ⟨oa,oc,k9,mk9,rfl,hmr,hb5,hst⟩:=hres.num;have hE5:Below wo.heap.size wo w5:=Et (Ea HBQ.out _) hb5;have ho5:=HM.out.obx.below hE5;have s1:=(ho5.cells 0).1;have s2:=(ho5.cells 0).2;have HMR:=hq_ hmr;have HST:=hq_ hst;have HO5:=hq_ ho5;have HE5:=hq_ hE5;clear hmr hst hres hb5 hE5 ho5))
      go_roundw
      case rel=>
       have hbl:=HM.out.lt;have hbz:=HM.out.obx.lt;have hsz:=World.size_alloc wr (.cells #[.slice la Lk.length lc] 26);have hdr:m2.drop j=t :: m2.drop (j+1):=by
        obtain ⟨h1,h2⟩:=List.getElem?_eq_some_iff.1 HMT.out;rw [List.drop_eq_getElem_cons h1,h2]
       refine ⟨j+1,oa,oc,k9,mk9,oq_,rfl,by go_num,rfl,hq_ ⟨?_,a4_ 0 _ HO5.out,?_,?_,hbl,?_⟩⟩
       ·exact (HM.out.below.trans (HE5.out.mono HM.out.below.size)).setCell (p:=⟨b6,0,none⟩) (show w.heap.size≤b6 by omega) _
       ·exact Bxx.setNe (HM.out.rbx.below HE5.out) _ oq_
       ·exact (HMR.out.set (b:=b6) oq_).mono fun b (hb:_≤b)=>⟨oq_,oq_⟩
       ·rcases HST.out with ⟨h1,h2,h3⟩|⟨h1,h2,h3,h4,m,h5,h6⟩
        ·exact .inl ⟨h1,h3,fun r hr=>HTO.out r (by rw [hdr];exact .step h2 ((d8_ h3.vt).1 h3.val) hr)⟩
        ·exact .inr ⟨h1,h2,h3,h4,HTO.out none (by rw [hdr];exact .big h5 h6)⟩
      case measure=>simp [intOf];omega
   ·have HNO:=hq_ hnone;clear hnone;go_wp2_with fail
    have hcc:=Bxx.c0 (w:=wo.setCell ⟨w.heap.size+1+1,0,none⟩ (.slice none 0 0)) (a4_ 0 (.slice none 0 0) HM.out.rbx);exact bodyPost_ret (v:=.tuple #[.agg #[.slice none 0 0],.int .i64 2]) (by simp [results,Tryz.results23,go_sem,hcc]) rfl ⟨.slice none 0 0,none,HNO.out,HM.out.below.setCell (p:=⟨w.heap.size+1+1,0,none⟩) (by show w.heap.size≤w.heap.size+1+1;omega) _,.inr ⟨rfl,rfl⟩⟩
  ·obtain rfl:j=m2.length:=oq_;go_wp2_with fail
   have hcc:=Bxx.c0 (w:=wo.setCell ⟨w.heap.size+1+1,0,none⟩ (.slice a mk.length c)) (a4_ 0 (.slice a mk.length c) HM.out.rbx);have hbe:=HM.out.below.setCell (p:=⟨w.heap.size+1+1,0,none⟩) (by show w.heap.size≤w.heap.size+1+1;omega) (.slice a mk.length c);rcases HM.out.st with ⟨rfl,hmv,hto⟩|⟨rfl,rfl,rfl,rfl,hnone⟩
   ·refine bodyPost_ret (v:=.tuple #[.agg #[.slice a mk.length c],.int .i64 0]) (by simp [results,Tryz.results23,go_sem,hcc]) rfl ⟨.slice a mk.length c,some mk,hto _ (by rw [List.drop_of_length_le (Nat.le_refl _)];exact .nil),hbe,.inl ⟨mk,rfl,hmv,rfl,?_⟩⟩;exact (HM.out.mix.keep (fun b hb _=>Below.heap_setCell wo ⟨w.heap.size+1+1,0,none⟩ _ b (by show b≠w.heap.size+1+1;have:=hb.1;omega)) (by rw [World.size_setCell];exact Nat.le_refl _)).mono fun b hb=>by have:=hb.1;omega
   ·simp only [List.length_nil] at hcc;exact bodyPost_ret (v:=.tuple #[.agg #[.slice none 0 0],.int .i64 2]) (by simp [results,Tryz.results23,go_sem,hcc]) rfl ⟨.slice none 0 0,none,hnone,hbe,.inr ⟨rfl,rfl⟩⟩
theorem fk_.num (h:fk_ s m1 m2 w e w'):∃ (a:Option Addr) (c:Nat) (k:Int) (mk:List (List Per)),e=.returned (.tuple #[.agg #[.slice a mk.length c],.int .i64 k])∧MixR w' (fun b=>w.heap.size≤b) (.slice a mk.length c) mk∧Below w.heap.size w w'∧
  ((k=0∧b4_ m1 m2 (some mk)∧MV s mk)∨(k=2∧a=none∧c=0∧mk=[]∧b4_ m1 m2 none)):=by
 obtain ⟨v,r,hM,hb,⟨k,rfl,hmv,rfl,hm⟩|⟨rfl,rfl⟩⟩:=h
 ·obtain ⟨a,c,rfl⟩:=hm.form;exact ⟨a,c,0,k,rfl,hm,hb,.inl ⟨rfl,hM,hmv⟩⟩
 ·exact ⟨none,0,2,[],rfl,⟨[],rfl,⟨none,0,rfl,sq_,oq_,.inl rfl⟩,sq_,sq_⟩,hb,.inr ⟨rfl,rfl,rfl,rfl,hM⟩⟩
def wq_ (s:Int) (m1 m2:List (List Per)) (w:World) (e:Ending) (w':World):Prop:=
 ∃ (a:Option Addr) (n c:Nat) (a':Option Addr) (n' c':Nat) (k:Int),e=.returned (.tuple #[.agg #[.slice a n c],.agg #[.slice a' n' c'],.int .i64 k])∧Below w.heap.size w w'∧
  ((k=0∧∃ mk nk,b4_ m1 m2 (some mk)∧b4_ m2 m1 (some nk)∧MV s mk∧MV s nk∧MixR w' (fun b=>w.heap.size≤b) (.slice a n c) mk∧MixR w' (fun b=>w.heap.size≤b) (.slice a' n' c') nk)∨(k=2∧(b4_ m1 m2 none∨((∃ mk,b4_ m1 m2 (some mk))∧b4_ m2 m1 none))))
theorem s9_ (s:Int) (F1 F2:Nat->Prop) (v1 v2:Value) (m1 m2:List (List Per)) (w:World) (h1:MixR w F1 v1 m1) (h2:MixR w F2 v2 m2) (k1:MV s m1) (k2:MV s m2) :
  Calls Tryz.prog 82 #[.agg #[v1],.agg #[v2]] w (wq_ s m1 m2 w):=by
 have HM:=fun W (h:Below w.heap.size w W)=>ft_ s F1 F2 v1 v2 m1 m2 W (h1.ext h) (h2.ext h) k1 k2;have HN:=fun W (h:Below w.heap.size w W)=>ft_ s F2 F1 v2 v1 m2 m1 W (h2.ext h) (h1.ext h) k2 k1;obtain ⟨a1,c1,rfl⟩:=h1.form;obtain ⟨a2,c2,rfl⟩:=h2.form;have HNH:=hq_ HN;clear h1 h2 k1 k2 HN
 go_enter Tryz.func82,Tryz.ntmps82
 go_wp2_with (go_at_call 23;first
  | ((with_reducible refine (HM _ (Ea (Ea (Ea (Ea (Er w) _) _) _) _)).mono ?_);rintro e w1 hres;obtain ⟨oa,oc,k,mk,rfl,hmr,hb1,hst⟩:=hres.num;have hW1:Below w.heap.size w w1:=Et (Ea (Ea (Ea (Ea (Er w) _) _) _) _) hb1;have b0:Bxx w1 w.heap.size #[.slice a1 m1.length c1] 28:=Bxx.below xB hb1;have b1:Bxx w1 (w.heap.size+1) #[.slice a2 m2.length c2] 28:=Bxx.below xB hb1;have b2:Bxx w1 (w.heap.size+1+1) #[.slice none 0 0] 28:=Bxx.below xB hb1;have b3:Bxx w1 (w.heap.size+1+1+1) #[.slice none 0 0] 28:=Bxx.below xB hb1;have x0:=(b0.alloc (.cells #[.slice oa mk.length oc] 28)).c0;have x1:=(b1.alloc (.cells #[.slice oa mk.length oc] 28)).c0;have x2:=(b2.alloc (.cells #[.slice oa mk.length oc] 28)).c0;have x3:=(b3.alloc (.cells #[.slice oa mk.length oc] 28)).c0;have y2:=((b2.alloc (.cells #[.slice oa mk.length oc] 28)).cells 0).2;have y3:=((b3.alloc (.cells #[.slice oa mk.length oc] 28)).cells 0).2;have z3:=(Bxx.alloc (Bxx.setNe b3 (k:=w.heap.size+1+1) (i:=0) (.slice none 0 0) oq_) (.cells #[.slice oa mk.length oc] 28)).c0;have z4:=(Bxx.cells (Bxx.alloc (Bxx.setNe b3 (k:=w.heap.size+1+1) (i:=0) (.slice none 0 0) oq_) (.cells #[.slice oa mk.length oc] 28)) 0).2;have B2:=hq_ b2;have B3:=hq_ b3;have HMR:=hq_ hmr;have HST:=hq_ hst;have HW1:=hq_ hW1;have hz:=b3.lt;clear hmr hst hres hb1 b0 b1 b2 b3 hW1;((rcases HST.out with ⟨rfl,hM,hmv⟩|⟨rfl,rfl,rfl,rfl,hM⟩) <;> (try simp only [List.length_nil] at x0 x1 x2 x3 y2 y3 z3 z4)))
  | (refine (HNH.out _ (Ea HW1.out _)).mono ?_;rintro e w2 hres;obtain ⟨oa2,oc2,k2,nk,rfl,hnr,hb2,hst2⟩:=hres.num;have HNR:=hq_ hnr;have HST2:=hq_ hst2;have HB2:=hq_ hb2;have HB7:=hq_ ((Bxx.new w1 #[.slice oa mk.length oc] 28).below hb2);have HX2:=hq_ ((B2.out.alloc (.cells #[.slice oa mk.length oc] 28)).below hb2);have HX3:=hq_ ((B3.out.alloc (.cells #[.slice oa mk.length oc] 28)).below hb2);have hz2:=hb2.size;clear hnr hst2 hres hb2))
 ·have e7:=(Bxx.drewB (HB7.out.alloc (.cells #[.slice oa2 nk.length oc2] 28))).c0;have e9:=(Bxx.drewB (Bxx.new w2 #[.slice oa2 nk.length oc2] 28)).c0;have p2:=HX2.out.alloc (.cells #[.slice oa2 nk.length oc2] 28);have p3:=HX3.out.alloc (.cells #[.slice oa2 nk.length oc2] 28);have q3:=Bxx.setNe p3 (k:=w.heap.size+1+1) (i:=0) (.slice oa mk.length oc) oq_;have e2:=p2.c0;have e3:=q3.c0;have g2:=(p2.cells 0).2;have g3:=(q3.cells 0).2;have e3':=p3.c0;have g3':=(p3.cells 0).2;have hc3:=Bxx.c0 (a4_ 0 (.slice oa2 nk.length oc2) q3);have hc2:=Bxx.c0 (Bxx.setNe (b:=w.heap.size+1+1) (a4_ 0 (.slice oa mk.length oc) p2) (k:=w.heap.size+1+1+1) (i:=0) (.slice oa2 nk.length oc2) oq_);have hl1:=HB7.out.lt
  go_region
  go_wp2
  have E:Below w.heap.size w w2:=Et HW1.out (Et (Ea (Er w1) _) HB2.out);have E':=((Ea E (.cells #[.slice oa2 nk.length oc2] 28)).setCell (p:=⟨w.heap.size+1+1,0,none⟩) (show w.heap.size≤w.heap.size+1+1 by omega) (.slice oa mk.length oc)).setCell (p:=⟨w.heap.size+1+1+1,0,none⟩) (show w.heap.size≤w.heap.size+1+1+1 by omega) (.slice oa2 nk.length oc2);have hm:=HMR.out;have hn:=HNR.out;simp only [World.size_alloc] at hm hn;have hm2:=(MixR.ext hm (Et (Ea (Er w1) _) HB2.out));have hm3:=MixR.set (i:=0) (u:=.slice oa2 nk.length oc2) (MixR.set (i:=0) (u:=.slice oa mk.length oc) (MixR.ext hm2 (Ea (Er w2) (.cells #[.slice oa2 nk.length oc2] 28))) (b:=w.heap.size+1+1) oq_) (b:=w.heap.size+1+1+1) oq_;have hn3:=MixR.set (i:=0) (u:=.slice oa2 nk.length oc2) (MixR.set (i:=0) (u:=.slice oa mk.length oc) (MixR.ext hn (Ea (Er w2) (.cells #[.slice oa2 nk.length oc2] 28))) (b:=w.heap.size+1+1) oq_) (b:=w.heap.size+1+1+1) oq_;refine bodyPost_ret (v:=.tuple #[.agg #[.slice oa mk.length oc],.agg #[.slice oa2 nk.length oc2],.int .i64 k2]) (by simp [results,Tryz.results82,go_sem,hc2,hc3]) rfl ⟨oa,mk.length,oc,oa2,nk.length,oc2,k2,rfl,Ed E',?_⟩;rcases HST2.out with ⟨rfl,hN,hnv⟩|⟨rfl,rfl,rfl,rfl,hN⟩
  ·exact .inl ⟨rfl,mk,nk,hM,hN,hmv,hnv,MixR.mono (MixR.ext hm3 (Ed (Er _))) (fun b hb=>oq_),MixR.mono (MixR.ext hn3 (Ed (Er _))) (fun b hb=>oq_)⟩
  ·exact .inr ⟨rfl,.inr ⟨⟨mk,hM⟩,hN⟩⟩
 ·have h2:=B2.out.alloc (.cells #[.slice none 0 0] 28);have h3:=B3.out.alloc (.cells #[.slice none 0 0] 28);have hc2:=Bxx.c0 (Bxx.setNe (b:=w.heap.size+1+1) (a4_ 0 (.slice none 0 0) h2) (k:=w.heap.size+1+1+1) (i:=0) (.slice none 0 0) oq_);have hc3:=Bxx.c0 (b:=w.heap.size+1+1+1) (a4_ 0 (.slice none 0 0) (Bxx.setNe h3 (k:=w.heap.size+1+1) (i:=0) (.slice none 0 0) oq_));exact bodyPost_ret (v:=.tuple #[.agg #[.slice none 0 0],.agg #[.slice none 0 0],.int .i64 2]) (by simp [results,Tryz.results82,go_sem,hc2,hc3]) rfl ⟨none,0,0,none,0,0,2,rfl,((Ea HW1.out _).setCell (p:=⟨w.heap.size+1+1,0,none⟩) (show w.heap.size≤w.heap.size+1+1 by omega) _).setCell (p:=⟨w.heap.size+1+1+1,0,none⟩) (show w.heap.size≤w.heap.size+1+1+1 by omega) _,.inr ⟨rfl,.inl hM⟩⟩
def x2_ (m1 m2:List (List Per)):Option (List (List Per) × List (List Per))->Prop
 | some (mk,nk)=>b4_ m1 m2 (some mk)∧b4_ m2 m1 (some nk)
 | none=>b4_ m1 m2 none∨((∃ mk,b4_ m1 m2 (some mk))∧b4_ m2 m1 none)
theorem wn_ {n:Nat} (h:ab_ W (fun b=>n≤b) v t) (hn:n≤W.heap.size) :
  MixR (W.alloc (.cells #[v] 36)) (fun b=>n≤b) (.slice (some ⟨W.heap.size,0,none⟩) 1 1) [t]:=by
 have hb:=Bxx.new W #[v] 36;refine ⟨[(v,t)],rfl,⟨_,1,rfl,sq_,oq_,.inr ⟨W.heap.size,0,rfl,hn,hb.lt,fun i u hi=>?_⟩⟩,sq_,fun x hx=>?_⟩
 ·cases i with
  | zero=>rw [show u=v by simpa using hi.symm];exact hb.c0
  | succ i=>simp at hi
 ·rw [List.mem_singleton] at hx;subst hx;exact h.ext (Ea (Er W) _)
noncomputable def ofM (p:Per):List (List Per):=if fe_ (canonC p.mem) then [] else [[canonC p.mem]]
def x9_ (m:List (List Per)) (w:World) (e:Ending) (w':World):Prop:=∃ (a:Option Addr) (c:Nat),e=.returned (.agg #[.slice a m.length c])∧MixR w' (fun b=>w.heap.size≤b) (.slice a m.length c) m∧Below w.heap.size w w'
theorem qb_ (s:Int) (h c:Value) (p:Per) (w:World) (hp:a8_ w h c p) (hv:FV s p) :
  Calls Tryz.prog 54 #[perV h c p.frm p.period] w (x9_ (ofM p) w):=by
 have HC:=fun W (hb:Below w.heap.size w W)=>nq_ s h c p W (hp.ext hb) hv;simp only [perV] at HC
 go_enter Tryz.func54,Tryz.ntmps54
 go_wp2_with (first|(go_at_call 97;((with_reducible refine (HC _ (Ea (Ea (Er w) _) _)).mono ?_);rintro e w1 ⟨h',c',rfl,ho,hb1⟩;obtain ⟨xa,xn,xc,ya,yn,yc,rfl,rfl⟩:=(ho.pv (hv.canon).2).form;have ho2:=hq_ (ho.pv (hv.canon).2);have hW1:Below w.heap.size w w1:=Et (Ea (Ea (Er w) _) _) hb1;have HO:=hq_ ho;have B2:=hq_ (show Bxx w1 (w.heap.size+1) #[.slice none 0 0] 28 from Bxx.below xB hb1);clear ho hb1))|(go_at_call 98;(with_reducible refine (sf_ (.slice xa xn xc) (.slice ya yn yc) (canonC p.mem) _ (HO.out.is.ext (Ea (Er w1) _))).mono ?_);rintro e w2 ⟨rfl,hb2⟩;have HB2:=hq_ hb2;have X3:=((Bxx.new w1 #[.slice xa xn xc,.int .i64 (canonC p.mem).frm,.int .i64 (canonC p.mem).period,.slice ya yn yc] 39).below hb2);have X2:=((B2.out.alloc (.cells #[.slice xa xn xc,.int .i64 (canonC p.mem).frm,.int .i64 (canonC p.mem).period,.slice ya yn yc] 39)).below hb2);have e2:=X2.c0;have f2:=(X2.cells 0).2;have e3:=(X3.cells 0).1;have e4:=(X3.cells 1).1;have e5:=(X3.cells 2).1;have e6:=(X3.cells 3).1;have X2':=(X2.alloc (.cells #[.slice xa xn xc,.int .i64 (canonC p.mem).frm,.int .i64 (canonC p.mem).period,.slice ya yn yc] 39)).alloc (.cells #[.slice (some { block:=w2.heap.size,off:=0 }) 1 1] 36);have e7:=X2'.c0;have e8:=(X2'.cells 0).2;clear hb2;obtain ⟨eb,heb⟩:∃ eb,eb=fe_ (canonC p.mem):=⟨_,rfl⟩;rw [<- heb];have HEB:=hq_ heb;clear heb;rcases eb))
 ·have hc2:=Bxx.c0 (a4_ 0 (.slice (some ⟨w2.heap.size+1,0,none⟩) 1 1) X2');have E1:Below w.heap.size w ((((w2.alloc (.cells #[.slice xa xn xc,.int .i64 (canonC p.mem).frm,.int .i64 (canonC p.mem).period,.slice ya yn yc] 39)).alloc (.cells #[.slice (some { block:=w2.heap.size,off:=0 }) 1 1] 36)).setCell ⟨w.heap.size+1,0,none⟩ (.slice (some ⟨w2.heap.size+1,0,none⟩) 1 1))):=(Ea (Ea (Et (Ea hW1 _) HB2.out) _) _).setCell (p:=⟨w.heap.size+1,0,none⟩) (show w.heap.size≤w.heap.size+1 by omega) _;have h0:=B2.out.lt;have hz:w1.heap.size+1≤w2.heap.size:=by have:=HB2.out.size;rwa [World.size_alloc] at this
  have h1:=(ho2.out.keep (a5_.below (Ea (Er w1) _))).keep (a5_.below HB2.out);have h2:=og_ (n:=w.heap.size+1) (W:=w2) (h1.mono fun b hb=>⟨by simp only [World.size_alloc] at hb;omega,by simp only [World.size_alloc] at hb;omega⟩) (by have:=HB2.out.size;simp only [World.size_alloc] at this;omega);have h3:=wn_ (n:=w.heap.size+1+1) (h2.mono (G:=fun b=>w.heap.size+1+1≤b) fun b hb=>by have:=HB2.out.size;simp only [World.size_alloc] at this;have hb':w.heap.size+1≤b∧(b≠w.heap.size+1∨b=w2.heap.size):=hb;show w.heap.size+1+1≤b;omega) (by rw [World.size_alloc];omega);have h4:=MixR.set (i:=0) (u:=.slice (some ⟨w2.heap.size+1,0,none⟩) 1 1) h3 (b:=w.heap.size+1) oq_;have e:ofM p=[[canonC p.mem]]:=by rw [ofM,<- HEB.out];rfl
  rw [World.size_alloc] at h4;refine bodyPost_ret (v:=.agg #[.slice (some ⟨w2.heap.size+1,0,none⟩) 1 1]) (by simp [results,Tryz.results54,go_sem,hc2]) rfl ⟨_,1,by rw [e];rfl,?_,E1⟩;rw [e];exact h4.mono fun b hb=>oq_
 ·have hc2:=Bxx.c0 (a4_ 0 (.slice none 0 0) X2);have E1:Below w.heap.size w (w2.setCell ⟨w.heap.size+1,0,none⟩ (.slice none 0 0)):=(Et (Ea hW1 _) HB2.out).setCell (p:=⟨w.heap.size+1,0,none⟩) (show w.heap.size≤w.heap.size+1 by omega) _;have e:ofM p=[]:=by rw [ofM,<- HEB.out];rfl
  refine bodyPost_ret (v:=.agg #[.slice none 0 0]) (by simp [results,Tryz.results54,go_sem,hc2]) rfl ⟨none,0,by rw [e];rfl,?_,E1⟩;rw [e];exact ⟨[],rfl,⟨none,0,rfl,sq_,oq_,.inl rfl⟩,sq_,sq_⟩
end Go.Proofs.YthjnojbeimchdaaGreat
namespace Kal
structure InvS (a m x y u v:Int) (U V:Int):Prop where
 x1:1≤x
 xy:x<y
 ym:y≤m
 gu:m∣a*u-x
 gv:m∣a*v-y
 cop:Int.gcd x y=1
 u1:-U≤u∧u≤U
 v1:-V≤v∧v≤V
 pos:0≤U∧0≤V
 le:x*V+y*U≤m
theorem InvS.start {m:Int} (ha:0≤a) (hm:2≤m) (h:Int.gcd a m=1):InvS a m (a % m) m 1 0 1 0:=by
 have h0:=Int.emod_nonneg a (show m≠0 by omega);have h1:=Int.emod_lt_of_pos a (show 0<m by omega);have hg:Int.gcd (a % m) m=1:=by rw [ha_ ha oq_];exact h
 refine ⟨?_,h1,oq_,?_,⟨-1,oq_⟩,hg,oq_,oq_,oq_,oq_⟩
 ·rcases Int.lt_or_le 0 (a % m) with h2|h2
  ·omega
  ·have e:a % m=0:=oq_;rw [e,Int.gcd_zero_left] at hg;omega
 ·rw [Int.mul_one];exact bq_ (Int.emod_emod_of_dvd a (Int.dvd_refl m)).symm
theorem InvS.step {m u v U V:Int} (h:InvS a m x y u v U V) (hx:1<x) :
  InvS a m (y-y / x*x) x (v-y / x*u) u (V+y / x*U) U∧0≤y / x∧y / x≤y∧y / x*x≤y∧0≤y / x*x∧-m≤y / x*u∧y / x*u≤m∧-m≤v-y / x*u∧v-y / x*u≤m:=by
 obtain ⟨x1,xy,ym,gu,gv,cop,u1,v1,pos,le⟩:=h;have e0:=Int.emod_nonneg y (show x≠0 by omega);have e1:=Int.emod_lt_of_pos y (show 0<x by omega);have em:y-y / x*x=y % x:=by have:=Int.emod_def y x;rw [Int.mul_comm] at this;omega
 have q0:0≤y / x:=Int.ediv_nonneg oq_ oq_;have qy:y / x≤y:=Int.ediv_le_self x oq_;have hr1:1≤y % x:=by
  rcases Int.lt_or_le 0 (y % x) with h2|h2
  ·omega
  ·have e:y % x=0:=oq_;have hd:x∣y:=Int.dvd_of_emod_eq_zero e;have h3:((Int.gcd x y:Nat):Int)=x:=(Int.gcd_eq_left_iff_dvd oq_).2 hd;omega
 generalize y / x=q at *;have a1:q*u≤q*U:=Int.mul_le_mul_of_nonneg_left u1.2 q0;have a2:q*(-U)≤q*u:=Int.mul_le_mul_of_nonneg_left u1.1 q0;rw [Int.mul_neg] at a2;have a3:q*U≤y*U:=Int.mul_le_mul_of_nonneg_right qy pos.1;have a4:0≤q*U:=Int.mul_nonneg q0 pos.1;have a5:V≤x*V:=by
  have:=Int.mul_le_mul_of_nonneg_right x1 pos.2;omega
 have a6:0≤x*V:=Int.mul_nonneg oq_ pos.2;have a7:0≤q*x:=Int.mul_nonneg q0 oq_;refine ⟨⟨oq_,oq_,oq_,?_,gu,?_,oq_,u1,oq_,?_⟩,q0,qy,oq_,a7,oq_,oq_,oq_,oq_⟩
 ·have:a*(v-q*u)-(y-q*x)=(a*v-y)-q*(a*u-x):=by
   rw [Int.mul_sub,Int.mul_sub,Int.mul_left_comm q a u];omega
  rw [this];exact Int.dvd_sub gv (Int.dvd_trans gu (Int.dvd_mul_left _ _))
 ·rw [em,ha_ oq_ oq_,Int.gcd_comm];exact cop
 ·have b1:(y-q*x)*U=y*U-q*x*U:=Int.sub_mul _ _ _;have b2:x*(V+q*U)=x*V+q*x*U:=by rw [Int.mul_add,<- Int.mul_assoc,Int.mul_comm x q]
  rw [b1,b2];omega
theorem InvS.fin {m u v U V:Int} (h:InvS a m x y u v U V) (hx:¬ 1<x) (hm:2≤m) :
  -m≤u∧u≤m∧u.tmod m % m=u % m∧-m<u.tmod m∧u.tmod m<m∧m∣a*(u % m)-1:=by
 obtain ⟨x1,xy,ym,gu,gv,cop,u1,v1,pos,le⟩:=h;obtain rfl:x=1:=oq_;have a1:U≤y*U:=by
  have:=Int.mul_le_mul_of_nonneg_right (show (1:Int)≤y by omega) pos.1;omega
 have t1:=Int.tmod_lt_of_pos u (show 0<m by omega);have t2:=Int.lt_tmod_of_pos u (show 0<m by omega);refine ⟨oq_,oq_,?_,t2,t1,?_⟩
 ·have hd:m∣u.tmod m-u:=by
   have:=Int.mul_tdiv_add_tmod u m;exact ⟨-(u.tdiv m),by rw [Int.mul_neg];omega⟩
  exact bp_ hd
 ·have hd:m∣u % m-u:=bq_ (Int.emod_emod_of_dvd u (Int.dvd_refl m));have e:a*(u % m)-1=a*(u % m-u)+(a*u-1):=by rw [Int.mul_sub];omega
  rw [e];exact Int.dvd_add (Int.dvd_trans hd (Int.dvd_mul_left _ _)) gu
def xf_ (a m r:Int):Prop:=0≤r∧r<m∧m∣a*r-1
theorem pv_ {step:Int} (h:(r-at_) % ((Int.gcd step P:Nat):Int)≠0):cp_ at_ step r P 0 0 false:=by
 refine .inr ⟨rfl,rfl,rfl,fun x ⟨h1,h2⟩=>h ?_⟩;have d1:((Int.gcd step P:Nat):Int)∣x-at_:=Int.dvd_trans (Int.gcd_dvd_left ..) (bq_ h1);have d2:((Int.gcd step P:Nat):Int)∣x-r:=Int.dvd_trans (Int.gcd_dvd_right ..) (bq_ h2);have:r-at_=(x-at_)-(x-r):=oq_;rw [this];exact Int.emod_eq_zero_of_dvd (Int.dvd_sub d1 d2)
theorem uh_ {step:Int} (hs:1≤step) (h0:0≤at_) (h1:at_<step) (hP:1≤P) (h:(r-at_) % ((Int.gcd step P:Nat):Int)=0) (hn:P / ((Int.gcd step P:Nat):Int)=1):cp_ at_ step r P at_ step true:=by
 have hd:((Int.gcd step P:Nat):Int)∣P:=Int.gcd_dvd_right ..;have e:((Int.gcd step P:Nat):Int)=P:=by
  have:=Int.ediv_mul_cancel hd;rw [hn] at this;omega
 have el:lcmI step P=step:=by
  unfold lcmI;rw [e];exact Int.ediv_mul_cancel (by have:((Int.gcd step P:Nat):Int)∣step:=Int.gcd_dvd_left ..;rwa [e] at this)
 refine .inl ⟨rfl,el.symm,h0,by rw [el];exact h1,rfl,?_⟩;rw [e] at h;exact (bp_ (Int.dvd_of_emod_eq_zero h)).symm
theorem u9_ {step inv:Int} (hs:1≤step) (h0:0≤at_) (h1:at_<step) (hP:1≤P) {g:Int} (hg:g=((Int.gcd step P:Nat):Int)) (hn:n=P / g) (h:(r-at_) % g=0) (hi:n∣step / g*inv-1) :
  cp_ at_ step r P (at_+((r-at_) / g % n*inv) % n*step) (step*n) true∧lcmI step P=step*n:=by
 have hgl:g∣step:=by rw [hg];exact Int.gcd_dvd_left ..
 have hgr:g∣P:=by rw [hg];exact Int.gcd_dvd_right ..
 have hg1:1≤g:=by rw [hg];have:=Int.gcd_pos_of_ne_zero_left P (show step≠0 by omega);omega
 have el:lcmI step P=step*n:=by
  unfold lcmI;rw [<- hg,hn];have a1:=Int.ediv_mul_cancel hgl;have a2:=Int.ediv_mul_cancel hgr
  calc step / g*P=step / g*(P / g*g):=by rw [a2]
   _=(step / g*g)*(P / g):=by rw [Int.mul_comm (P / g) g,<- Int.mul_assoc]
   _=step*(P / g):=by rw [a1]
 have hn1:1≤n:=by
  rw [hn];have a2:=Int.ediv_mul_cancel hgr;rcases Int.lt_or_le 0 (P / g) with h2|h2
  ·omega
  ·have:=Int.mul_le_mul_of_nonneg_right h2 (show 0≤g by omega);omega
 refine ⟨.inl ⟨rfl,el.symm,?_⟩,el⟩;generalize hk:((r-at_) / g % n*inv) % n=k;have k0:0≤k:=by rw [<- hk];exact Int.emod_nonneg _ oq_
 have k1:k<n:=by rw [<- hk];exact Int.emod_lt_of_pos _ oq_
 have b0:0≤k*step:=Int.mul_nonneg k0 oq_;refine ⟨oq_,?_,?_,?_⟩
 ·rw [el];have:(k+1)*step≤n*step:=Int.mul_le_mul_of_nonneg_right oq_ oq_;rw [Int.add_mul,Int.one_mul,Int.mul_comm n step] at this;omega
 ·rw [Int.add_mul_emod_self_right]
 ·apply bp_;obtain ⟨w,hw⟩:=Int.dvd_of_emod_eq_zero h;have ew:(r-at_) / g=w:=by rw [hw];exact Int.mul_ediv_cancel_left _ oq_
  rw [ew] at hk;have a1:=Int.ediv_mul_cancel hgl;generalize step / g=t at *;have d1:n∣k-w*inv:=by
   have e1:k % n=(w*inv) % n:=by rw [<- hk,Int.emod_emod_of_dvd _ (Int.dvd_refl n),Int.mul_emod,Int.emod_emod_of_dvd _ (Int.dvd_refl n),<- Int.mul_emod]
   exact bq_ e1
  have d2:n∣k*t-w:=by
   have e:k*t-w=(k-w*inv)*t+w*(t*inv-1):=by
    rw [Int.sub_mul,Int.mul_sub,Int.mul_one,Int.mul_comm t inv,<- Int.mul_assoc];omega
   rw [e];exact Int.dvd_add (Int.dvd_trans d1 (Int.dvd_mul_right _ _)) (Int.dvd_trans hi (Int.dvd_mul_left _ _))
  obtain ⟨z,hz⟩:=d2;refine ⟨z,?_⟩;have e:at_+k*step-r=(k*t-w)*g:=by
   rw [Int.sub_mul,Int.mul_assoc,a1,Int.mul_comm w g];omega
  rw [e,hz];have a2:=Int.ediv_mul_cancel hgr;rw [<- hn] at a2
  calc n*z*g=n*g*z:=by rw [Int.mul_assoc,Int.mul_comm z g,<- Int.mul_assoc]
   _=P*z:=by rw [a2]
theorem ld_ {b:Int} (h:Fac s p):a6_ (shP p b) (shS p b)∧Fac (max (s+b) 0) (shP p b):=by
 have hf:=h.wf.frm;have hp:=h.wf.per;have hpf:am_ (shS p b) (max (p.frm+b) 0) p.period:=fun n hn=>by
  unfold shS;have:=h.wf.pfrom (n-b) oq_;rw [this,show n-b+p.period=n+p.period-b from by omega];constructor <;> rintro ⟨_,h⟩ <;> exact ⟨oq_,h⟩
 have hc:=gv_ (h3_ (S:=shS p b) (f:=max (p.frm+b) 0) oq_ hp (fun n hn=>hn.1) hpf);refine ⟨hc,ie_ hc (fun n hn=>?_) oq_ (by have:=h.frm;omega) hp h.dvd hpf⟩;have:=hn.1;have:=h.low _ hn.2;omega
open Classical in
noncomputable def shE (p:Per) (b:Int):Int:=if b < -1099511627776∨1099511627776<b then 1 else if (shP p b).frm≤1099511627776 then 0 else 2
theorem w0_ {b:Int} (h:1≤a):Int.gcd (a / ((Int.gcd a b:Nat):Int)) (b / ((Int.gcd a b:Nat):Int))=1:=
 Int.gcd_ediv_gcd_ediv_gcd (Int.gcd_pos_of_ne_zero_left b oq_)
theorem cp_.unique {step a' s':Int} {b':Bool} (hs:1≤step) (hP:1≤P) (h:cp_ at_ step r P a s b) (g:cp_ at_ step r P a' s' b'):a=a'∧s=s'∧b=b':=by
 rcases h with ⟨rfl,rfl,h⟩|⟨rfl,rfl,rfl,h⟩ <;> rcases g with ⟨rfl,rfl,g⟩|⟨rfl,rfl,rfl,g⟩
 ·exact ⟨(fi_ hs hP h).symm.trans (fi_ hs hP g),rfl,rfl⟩
 ·exact absurd ⟨h.2.2.1,h.2.2.2⟩ (g a)
 ·exact absurd ⟨g.2.2.1,g.2.2.2⟩ (h a')
 ·exact ⟨rfl,rfl,rfl⟩
theorem tu_ {step:Int} (hs:1≤step) (hP:1≤P):∃ a s b,cp_ at_ step r P a s b:=by
 by_cases h:(r-at_) % ((Int.gcd step P:Nat):Int)=0
 ·refine ⟨_,_,true,.inl ⟨rfl,rfl,eg_ hs hP ?_⟩⟩;exact (bp_ (Int.dvd_of_emod_eq_zero h)).symm
 ·exact ⟨0,0,false,pv_ h⟩
theorem cp_.bounds {step:Int} (hs:1≤step) (hP:1≤P) (hd:step∣27720) (hp:P∣27720) (h:cp_ at_ step r P a s true):0≤a∧a<s∧s∣27720:=by
 rcases h with ⟨_,rfl,h⟩|⟨h,_⟩
 ·exact ⟨h.1,h.2.1,nb_ hs hP hd hp⟩
 ·cases h
def fs_ (S:Int->Prop) (p:Per) (t:List Per) (at_ step:Int) (j:Nat) (x:Int):Prop:=S x∨∃ c∈p.cycle.take j,x % p.period=resP p c∧ClsS t at_ step x
theorem qw_ {S:Int->Prop} {step:Int}:fs_ S p t at_ step 0 x↔S x:=by simp [fs_]
theorem tw_ {S:Int->Prop} {step:Int}:fs_ S p t at_ step p.cycle.length x↔S x∨ClsS (p :: t) at_ step x:=by
 unfold fs_;rw [List.take_length,t0_]
theorem fp_ (h:j<l.length) {c:Int}:c∈l.take (j+1)↔c∈l.take j∨c=l.getD j 0:=by
 rw [List.take_succ_eq_append_getElem h,List.mem_append,List.mem_singleton,List.getD_eq_getElem?_getD,List.getElem?_eq_getElem h];rfl
theorem qq_ {S:Int->Prop} {step:Int} (hw:p.WF) (hj:j<p.cycle.length) (hs:1≤step) (h0:0≤at_) (h1:at_<step) {a2 s2:Int}
  (h:cp_ at_ step (resP p (p.cycle.getD j 0)) p.period a2 s2 b):fs_ S p t at_ step (j+1) x↔fs_ S p t at_ step j x∨(b=true∧ClsS t a2 s2 x):=by
 unfold fs_;rw [<- h.cls hw hs h0 h1,or_assoc];refine or_congr Iff.rfl ⟨?_,?_⟩
 ·rintro ⟨c,hc,h2⟩;rcases (fp_ hj).1 hc with hc|rfl
  ·exact .inl ⟨c,hc,h2⟩
  ·exact .inr h2
 ·rintro (⟨c,hc,h2⟩|h2)
  ·exact ⟨c,(fp_ hj).2 (.inl hc),h2⟩
  ·exact ⟨_,(fp_ hj).2 (.inr rfl),h2⟩
theorem hm_ {step:Int}:ClsS [] at_ step x↔x % step=at_:=by simp [ClsS]
theorem t8_ {f l:Int} (hw:∀ p∈t,p.WF) (hf:ba_ t≤f) (h:cn_ F (fun x=>False∨ClsS t 0 1 x) f l b):ax_ F (tmem t) f (if b=true then l else 0) b:=
 (h.congr (T:=tmem t) fun x hx=>by rw [false_or,ri_ hw oq_]).next
theorem rw_ (hne:t≠[]) (hw:∀ p∈t,p.WF) {f:Int} (h:bs_ (cq_ t t.length 0) f n b):q6_ t f n b:=
 h.congr fun x _=>(mi_ hne hw).symm
theorem sy_ {L:List (List Per)}:mmem (L ++ [t]) n↔mmem L n∨tmem t n:=by rw [p5_];unfold mmem;simp
theorem s8_ {f:Int}:ax_ F (mmem []) f 0 false:=.inr ⟨rfl,rfl,fun _ _ _ h=>k7_ h⟩
def FarI:Int:=1152921504606846976
def perE:Per:=⟨[],0,1,[]⟩
theorem nh_ (n:Int):¬ perE.mem n:=by
 unfold Per.mem perE;simp
theorem ul_ (n:Int):(ev 9 12).mem n↔tmem [ev 1 4,ev 3 6] n:=by rw [hw_,bv_]
theorem ni_:aq_ perE [[ev 1 4,ev 3 6]]=ev 9 12:=by
 show orP perE (andP (ev 1 4) (ev 3 6))=_;refine d7_ ((gk_ oq_ oq_).congr fun n=>?_);have h:=(x1.fac.and x2.fac).1.mem n;show (ev 9 12).mem n↔perE.mem n∨(andP (ev 1 4) (ev 3 6)).mem n;rw [h,ul_];unfold tmem;simp only [List.forall_mem_cons,List.not_mem_nil];exact ⟨fun h=>.inr ⟨h.1,h.2.1⟩,fun h=>h.elim (fun h=>absurd h (nh_ n)) fun h=>⟨h.1,h.2,fun x hx=>absurd hx sq_⟩⟩
theorem kh_ (n:Int):mmem [[ev 1 4,ev 3 6]] n↔0≤n∧n % 12=9:=by
 rw [lu_,hw_];exact ⟨fun h=>h.elim id fun h=>absurd h k7_,.inl⟩
theorem vc_:ax_ FarI (mmem [[ev 1 4,ev 3 6]]) 0 9 true:=
 .inl ⟨rfl,oq_,dq_,(kh_ 9).2 oq_,fun x h1 h2 h=>by have:=(kh_ x).1 h;omega⟩
theorem tj_:ax_ FarI (mmem (ao_ [[ev 1 4]] [[ev 3 6]])) 10 21 true:=
 .inl ⟨rfl,oq_,dq_,(kh_ 21).2 oq_,fun x h1 h2 h=>by have:=(kh_ x).1 h;omega⟩
theorem tl_:ax_ FarI (mmem ([[(⟨[],5,2,[1]⟩:Per)]] ++ [])) 0 6 true:=
 .inl ⟨rfl,oq_,dq_,(m4_ 6).2 oq_,fun x h1 h2 h=>by have:=(m4_ x).1 h;omega⟩
theorem up_:recT [ev 1 4,ev 3 6]:=⟨9,dq_,(hw_ 9).2 oq_⟩
theorem ok_two (h:t.length≤4) (h':u.length≤4):cv_ [t,u]:=⟨sq_,fun x hx=>by
 simp at hx;rcases hx with rfl|rfl
 ·exact h
 ·exact h'⟩
end Kal
end
namespace Go.Proofs.YthjnojbeimchdaaGreat
open Go.RowKit Go.Maps Kal
theorem j6_ {s:Int} (h:0≤s):FV s perE:=by
 refine ⟨⟨⟨dq_,dq_,⟨by simp [perE,Rise],by simp [perE]⟩,⟨by simp [perE,Rise],by simp [perE]⟩⟩,fun n hn=>absurd hn (nh_ n),by show (0:Int)≤s+9;omega,dq_⟩,dq_⟩
def q8_ (q:Per) (w:World) (e:Ending) (w':World):Prop:=∃ h c,e=.returned (.tuple #[perV h c q.frm q.period,.int .i64 0])∧a8_ w' h c q∧Below w.heap.size w w'
structure JS (s:Int) (w:World) (b4:Nat) (q:Per) (a1:Option Addr) (n1 c1:Nat) (a2:Option Addr) (n2 c2:Nat) (W:World):Prop where
 below:Below w.heap.size w W
 rbx:Bxx W (w.heap.size+1) #[.slice none 0 0,.int .i64 0,.int .i64 0,.slice none 0 0] 39
 abx:Bxx W b4 #[.slice a1 n1 c1,.int .i64 q.frm,.int .i64 q.period,.slice a2 n2 c2] 39
 pv:PVok W (fun b=>w.heap.size+1<b∧b≠b4) ⟨.slice a1 n1 c1,.slice a2 n2 c2,q⟩
 lt:w.heap.size+1<b4
 fv:FV s q
structure JP (s:Int) (w:World) (b4 b7:Nat) (q:Per) (a1:Option Addr) (n1 c1:Nat) (a2:Option Addr) (n2 c2:Nat) (r:Per) (e1:Option Addr) (f1 g1:Nat) (e2:Option Addr) (f2 g2:Nat) (W:World):Prop where
 js:JS s w b4 q a1 n1 c1 a2 n2 c2 W
 px:Bxx W b7 #[.slice e1 f1 g1,.int .i64 r.frm,.int .i64 r.period,.slice e2 f2 g2] 39
 pva:PVok W (fun b=>w.heap.size+1<b∧b≠b4∧b<b7) ⟨.slice a1 n1 c1,.slice a2 n2 c2,q⟩
 pvr:PVok W (fun b=>b<w.heap.size∨(w.heap.size+1<b∧b≠b4∧b≠b7)) ⟨.slice e1 f1 g1,.slice e2 f2 g2,r⟩
 lt7:b4<b7
 fvr:FV s r
theorem ex_ {W:World} {b k:Nat} (x y z u:Value) (h:k≠b):((((W.setCell ⟨b,0,none⟩ x).setCell ⟨b,1,none⟩ y).setCell ⟨b,2,none⟩ z).setCell ⟨b,3,none⟩ u).heap[k]? = W.heap[k]?:=by
 rw [Below.heap_setCell _ ⟨b,3,none⟩ u k h,Below.heap_setCell _ ⟨b,2,none⟩ z k h,Below.heap_setCell _ ⟨b,1,none⟩ y k h,Below.heap_setCell _ ⟨b,0,none⟩ x k h]
theorem gt_ {B b:Nat} {w W:World} (hb:Below B w W) (h:B≤b) (x y z u:Value):Below B w ((((W.setCell ⟨b,0,none⟩ x).setCell ⟨b,1,none⟩ y).setCell ⟨b,2,none⟩ z).setCell ⟨b,3,none⟩ u):=
 hb.trans (ei_ (i:=0) W h x y z u)
section
variable {s:Int} {w W W':World} {b4 b7:Nat} {q r:Per} {a1 a2 e1 e2:Option Addr} {n1 c1 n2 c2 f1 g1 f2 g2:Nat}
theorem JS.ext (h:JS s w b4 q a1 n1 c1 a2 n2 c2 W) (hb:Below W.heap.size W W'):JS s w b4 q a1 n1 c1 a2 n2 c2 W':=
 ⟨Et h.below hb,h.rbx.below hb,h.abx.below hb,h.pv.keep (a5_.below hb),h.lt,h.fv⟩
theorem JP.ext (h:JP s w b4 b7 q a1 n1 c1 a2 n2 c2 r e1 f1 g1 e2 f2 g2 W) (hb:Below W.heap.size W W'):JP s w b4 b7 q a1 n1 c1 a2 n2 c2 r e1 f1 g1 e2 f2 g2 W':=
 ⟨h.js.ext hb,h.px.below hb,h.pva.keep (a5_.below hb),h.pvr.keep (a5_.below hb),h.lt7,h.fvr⟩
theorem JP.store {r':Per} {e1' e2':Option Addr} {f1' g1' f2' g2':Nat} (h:JP s w b4 b7 q a1 n1 c1 a2 n2 c2 r e1 f1 g1 e2 f2 g2 W) (hp:PVok W (fun b=>w.heap.size+1<b∧b≠b4∧b≠b7) ⟨.slice e1' f1' g1',.slice e2' f2' g2',r'⟩) (hv:FV s r') :
  JP s w b4 b7 q a1 n1 c1 a2 n2 c2 r' e1' f1' g1' e2' f2' g2' ((((W.setCell ⟨b7,0,none⟩ (.slice e1' f1' g1')).setCell ⟨b7,1,none⟩ (.int .i64 r'.frm)).setCell ⟨b7,2,none⟩ (.int .i64 r'.period)).setCell ⟨b7,3,none⟩ (.slice e2' f2' g2')):=by
 have l4:=h.js.lt;have l7:=h.lt7;have hn:∀ k,k≠b7->_:=fun k hk=>ex_ (W:=W) (.slice e1' f1' g1') (.int .i64 r'.frm) (.int .i64 r'.period) (.slice e2' f2' g2') hk;have hkeep:∀ {F:Nat->Prop},(∀ b,F b->b≠b7)->a5_ F W _:=fun hF b hb _=>hn b (hF b hb);have hpa:=h.pva.keep (hkeep fun b hb=>oq_);exact ⟨⟨gt_ h.js.below oq_ _ _ _ _,(hn _ oq_).trans h.js.rbx,(hn _ oq_).trans h.js.abx,hpa.mono fun b hb=>⟨hb.1,hb.2.1⟩,l4,h.js.fv⟩,dg_ h.px,hpa,
  (hp.keep (hkeep fun b hb=>hb.2.2)).mono fun b hb=>.inr hb,l7,hv⟩
theorem JS.store {r':Per} {e1' e2':Option Addr} {f1' g1' f2' g2':Nat} (h:JS s w b4 q a1 n1 c1 a2 n2 c2 W) (hp:PVok W (fun b=>w.heap.size+1<b∧b≠b4) ⟨.slice e1' f1' g1',.slice e2' f2' g2',r'⟩) (hv:FV s r') :
  JS s w b4 r' e1' f1' g1' e2' f2' g2' ((((W.setCell ⟨b4,0,none⟩ (.slice e1' f1' g1')).setCell ⟨b4,1,none⟩ (.int .i64 r'.frm)).setCell ⟨b4,2,none⟩ (.int .i64 r'.period)).setCell ⟨b4,3,none⟩ (.slice e2' f2' g2')):=by
 have l4:=h.lt;have hn:∀ k,k≠b4->_:=fun k hk=>ex_ (W:=W) (.slice e1' f1' g1') (.int .i64 r'.frm) (.int .i64 r'.period) (.slice e2' f2' g2') hk;exact ⟨gt_ h.below oq_ _ _ _ _,(hn _ oq_).trans h.rbx,dg_ h.abx,hp.keep fun b hb _=>hn b hb.2,l4,hv⟩
end
theorem i8_ (s:Int) (F:Nat->Prop) (v:Value) (m:List (List Per)) (w:World) (hm:MixR w F v m) (k1:MV s m) (hs:0≤s) :
  Calls Tryz.prog 24 #[.agg #[v]] w (q8_ (aq_ perE m) w):=by
 have HV1:=fun W (h:Below w.heap.size w W)=>bh_ F v m W (hm.ext h);rw [k1.val] at HV1;have l1:=k1.len;obtain ⟨a1,c1,rfl⟩:=hm.form;have HM1:=hq_ hm;have HK1:=hq_ k1;clear hm k1
 go_enter Tryz.func24,Tryz.ntmps24
 go_wp2_with ((go_at_call 18;((with_reducible refine (HV1 _ (Ea (Ea (Er w) _) _)).mono ?_);rintro e w1 ⟨rfl,hb1⟩;have b0:Bxx w1 w.heap.size #[.slice a1 m.length c1] 28:=Bxx.below xB hb1;have b1:Bxx w1 (w.heap.size+1) #[.slice none 0 0,.int .i64 0,.int .i64 0,.slice none 0 0] 39:=Bxx.below xB hb1;have x0:=(b0.alloc (.cells #[.slice none 0 0,.int .i64 0,.int .i64 1,.slice none 0 0] 39)).c0;have hW1:Below w.heap.size w w1:=Et (Ea (Ea (Er w) _) _) hb1;have HB0:=hq_ b0;have HB1:=hq_ b1;clear b0 b1)))
 obtain ⟨b4,hb4⟩:∃ b4,b4=w1.heap.size:=⟨_,rfl⟩;have hz1:=HB1.out.lt;have hjs:JS s w b4 (aq_ perE (m.take 0)) none 0 0 none 0 0 (w1.alloc (.cells #[.slice none 0 0,.int .i64 0,.int .i64 1,.slice none 0 0] 39)):=by
  refine ⟨Ea hW1 _,HB1.out.alloc _,Bxx.at hb4,⟨⟨Ints.nil _,Ints.nil _⟩,show InI (0:Int) from ⟨dq_,dq_⟩,show InI (1:Int) from ⟨dq_,dq_⟩,fun h=>absurd rfl h,fun h=>absurd rfl h⟩,oq_,j6_ hs⟩
 rw [<- hb4];have HJS:=hq_ hjs;clear hjs hb1 hW1 x0 hb4
 go_loopw [3,6,7,9,10,11,12,13,22] (fun s3 _ _ _ _ _ _ _ idx wr=>∃ (j:Nat) (x1:Option Addr) (y1 z1:Nat) (x2:Option Addr) (y2 z2:Nat),j≤m.length∧s3=.int .i64 0∧idx=.int .i64 j∧Hid (JS s w b4 (aq_ perE (m.take j)) x1 y1 z1 x2 y2 z2 wr)) (fun _ _ _ _ _ _ _ _ idx _=>m.length-(intOf idx).toNat)
 case atStart=>exact ⟨0,none,0,0,none,0,0,oq_,rfl,rfl,HJS⟩
 case round=>
  obtain ⟨j,x1,y1,z1,x2,y2,z2,hj,rfl,rfl,HM⟩:=hrel;obtain ⟨wo,hwo⟩:∃ wo,wo=wr:=⟨_,rfl⟩;subst hwo;have r1:=(HM.out.abx.cells 0).1;have r2:=(HM.out.abx.cells 1).1;have r3:=(HM.out.abx.cells 2).1;have r4:=(HM.out.abx.cells 3).1
  by_cases hjl:j<m.length
  ·have hjI:(j:Int)<m.length:=oq_;obtain ⟨L2,hL2,hml⟩:=HM1.out.lt;have hl2:L2.length=m.length:=by rw [<- hL2,List.length_map]
   obtain ⟨b8,f8,c8,ta,tn,tc,t,he,e0,htt,hmt⟩:=hml.at (show j<L2.length by omega);injection he with q1 q2 q3
   subst q1;subst q3;clear q2;rw [hL2] at hmt;have hvt:=HK1.out.vt t (List.mem_of_getElem? hmt);obtain ⟨tL,htL,htl⟩:=htt;obtain ⟨_,_,he,_⟩:=htl.row.is;have htn:tn=tL.length:=by injection he with _ h _
   have ht0:0<tL.length:=by have:=List.length_pos_iff.2 hvt.ne;rw [<- htL,List.length_map] at this;exact this
   have ht4:tL.length≤4:=by have:=HK1.out.tlen t (List.mem_of_getElem? hmt);rw [<- htL,List.length_map] at this;exact this
   obtain ⟨bt,ot,x,ha,hx,hxp,_,u0,u1,u2,u3⟩:=htl.get ht0;subst ha;subst htn;have htc:tL.length≤tc:=by obtain ⟨_,_,he,h1,_⟩:=htl.row.is;injection he with _ _ h3;rw [h3];exact h1
   obtain ⟨xh,xc,xp⟩:=x;obtain ⟨ax1,nx1,cx1,ax2,nx2,cx2,rfl,rfl⟩:=hx.form;dsimp only at u0 u1 u2 u3;have e0:=Ext.cell HM.out.below e0;have u0:=Ext.cell HM.out.below u0;have u1:=Ext.cell HM.out.below u1;have u2:=Ext.cell HM.out.below u2;have u3:=Ext.cell HM.out.below u3;have HTL:=hq_ htl;have HX:=hq_ hx;have HXP:=hq_ hxp;have HMT:=hq_ hmt;have HVT:=hq_ hvt;have HTLE:=hq_ htL;simp only [Nat.zero_mul,Nat.add_zero] at u0 u1 u2 u3;clear hml htl hx hxp hmt hvt hL2 hl2 htL he;obtain ⟨b7,hb7⟩:∃ b7,b7=wo.heap.size:=⟨_,rfl⟩;have HJ:Hid (JP s w b4 b7 (aq_ perE (m.take j)) x1 y1 z1 x2 y2 z2 (andL xp ((tL.map PV.p).tail.take 0)) ax1 nx1 cx1 ax2 nx2 cx2 (wo.alloc (.cells #[.slice ax1 nx1 cx1,.int .i64 xp.frm,.int .i64 xp.period,.slice ax2 nx2 cx2] 39))):=by
    have hab:=HM.out.abx.lt;refine hq_ ⟨HM.out.ext (Ea (Er _) _),Bxx.at hb7,((HM.out.pv.lt).keep (a5_.below (Ea (Er _) _))).mono fun b hb=>?_,(HX.out.keep (a5_.below (Ea HM.out.below _))).mono fun b hb=>.inl hb.2,oq_,HVT.out.fv _ ?_⟩
    ·exact ⟨hb.1.1,hb.1.2,oq_⟩
    ·rw [show (andL xp ((tL.map PV.p).tail.take 0))=xp from rfl,show xp=_ from HXP.out,HTLE.out];exact aa_ (List.length_pos_iff.2 HVT.out.ne)
   go_wp2_with fail
   ·rw [<- hb7];clear hb7;have h1l:tL.length=1:=oq_
    go_loopw [3,9,10,11,32] (fun s3 _ _ _ idx wq=>∃ (i:Nat) (y1':Option Addr) (f1 g1:Nat) (y2':Option Addr) (f2 g2:Nat),i≤tL.length-1∧s3=.int .i64 0∧idx=.int .i64 i∧Hid (JP s w b4 b7 (aq_ perE (m.take j)) x1 y1 z1 x2 y2 z2 (andL xp ((tL.map PV.p).tail.take i)) y1' f1 g1 y2' f2 g2 wq)) (fun _ _ _ _ idx _=>tL.length-1-(intOf idx).toNat)
    case atStart=>exact ⟨0,ax1,nx1,cx1,ax2,nx2,cx2,oq_,rfl,rfl,HJ⟩
    case round=>
     obtain ⟨i,y1',f1,g1,y2',f2,g2,hi,rfl,rfl,HP⟩:=hrel;obtain rfl:i=0:=oq_;have a0:=(HP.out.js.abx.cells 0).1;have a1_:=(HP.out.js.abx.cells 1).1;have a2_:=(HP.out.js.abx.cells 2).1;have a3_:=(HP.out.js.abx.cells 3).1;have p0:=(HP.out.px.cells 0).1;have p1:=(HP.out.px.cells 1).1;have p2:=(HP.out.px.cells 2).1;have p3:=(HP.out.px.cells 3).1;have HOR:=rr_ s _ _ _ _ _ _ _ HP.out.js.pv.is HP.out.pvr.is HP.out.js.fv HP.out.fvr;simp only [perV] at HOR;have e8:andL xp ((tL.map PV.p).tail.take (0))=f6_ t:=by
      rw [List.take_of_length_le (by simp;try omega),<- HTLE.out];cases hLL:tL.map PV.p with
      | nil=>rw [List.map_eq_nil_iff] at hLL;rw [hLL] at ht0;exact absurd ht0 sq_
      | cons p r=>rw [hLL] at HXP;rw [show xp=p from HXP.out];rfl
     rw [e8] at HOR;have HE8:=hq_ e8;have hvr:FV s (orP (aq_ perE (m.take j)) (f6_ t)):=HP.out.js.fv.or (e8 ▸ HP.out.fvr);have HVR:=hq_ hvr;generalize hq8:orP (aq_ perE (m.take j)) (f6_ t)=q8 at *;clear hvr;rw [e8] at p1 p2;clear e8;go_wp2_with (go_at_call 73;((with_reducible refine HOR.mono ?_);rintro e w7 ⟨h',c',rfl,ho,hb7'⟩;obtain ⟨ya,yn,yc,za,zn,zc,rfl,rfl⟩:=(ho.pv HVR.out).form;have HP7:=hq_ (HP.out.ext hb7');have HO:=hq_ (ho.pv HVR.out);have HB7:=hq_ hb7';have p7:=HP7.out.js.abx.alloc (.cells #[.slice ya yn yc,.int .i64 q8.frm,.int .i64 q8.period,.slice za zn zc] 39);have c0:=p7.cells 0;have c1':=p7.cells 1;have c2':=p7.cells 2;have c3:=p7.cells 3;obtain ⟨c00,c01⟩:=c0;obtain ⟨c10,c11⟩:=c1';obtain ⟨c20,c21⟩:=c2';obtain ⟨c30,c31⟩:=c3;clear ho hb7' p7))
     go_roundw
     case rel=>
      refine ⟨j+1,ya,yn,yc,za,zn,zc,oq_,rfl,by go_num,hq_ ?_⟩;have l4:=HP7.out.js.lt;have hl4:=HP.out.js.abx.lt;have hal:Below w7.heap.size w7 (w7.alloc (.cells #[.slice ya yn yc,.int .i64 q8.frm,.int .i64 q8.period,.slice za zn zc] 39)):=Ea (Er _) _;have hpv:PVok w7 (fun b=>w.heap.size+1<b∧b≠b4) ⟨.slice ya yn yc,.slice za zn zc,q8⟩:=HO.out.mono fun b hb=>by have h1:=hb.1;exact ⟨oq_,oq_⟩
      have h9:=(HP7.out.js.ext hal).store (hpv.keep (a5_.below hal)) HVR.out;have e9:aq_ perE (m.take (j+1))=q8:=by
       obtain ⟨h1,h2⟩:=List.getElem?_eq_some_iff.1 HMT.out;unfold aq_ at hq8 ⊢;rw [List.take_succ_eq_append_getElem h1,List.foldl_append,h2];exact hq8
      rw [e9];exact h9
     case measure=>simp [intOf];omega
   ·rw [<- hb7];clear hb7
    go_loopw [3,9,10,11,32] (fun s3 _ _ _ idx wq=>∃ (i:Nat) (y1':Option Addr) (f1 g1:Nat) (y2':Option Addr) (f2 g2:Nat),i≤tL.length-1∧s3=.int .i64 0∧idx=.int .i64 i∧Hid (JP s w b4 b7 (aq_ perE (m.take j)) x1 y1 z1 x2 y2 z2 (andL xp ((tL.map PV.p).tail.take i)) y1' f1 g1 y2' f2 g2 wq)) (fun _ _ _ _ idx _=>tL.length-1-(intOf idx).toNat)
    case atStart=>exact ⟨0,ax1,nx1,cx1,ax2,nx2,cx2,oq_,rfl,rfl,HJ⟩
    case round=>
     obtain ⟨i,y1',f1,g1,y2',f2,g2,hi,rfl,rfl,HP⟩:=hrel
     by_cases hil:i<tL.length-1
     ·have hiI:(i:Int)<(tL.length-1:Nat):=oq_;have htl2:=HTL.out.keep (a5_.below HP.out.js.below) HP.out.js.below.size;obtain ⟨bt',ot',z,ha,hz,hzp,_,k0,k1,k2,k3⟩:=htl2.get (show i+1<tL.length by omega);cases ha;obtain ⟨zh,zc,zp⟩:=z;obtain ⟨az1,nz1,cz1,az2,nz2,cz2,rfl,rfl⟩:=hz.form;dsimp only at k0 k1 k2 k3 hzp;have hfz:FV s zp:=by rw [hzp,HTLE.out];exact HVT.out.fv _ (aa_ (by rw [<- HTLE.out,List.length_map];omega))
      rw [show ot+(i+1)*4=ot+4+i*4 by omega] at k0 k1 k2 k3;have p0:=((HP.out.px.alloc (.cells #[.slice az1 nz1 cz1,.int .i64 zp.frm,.int .i64 zp.period,.slice az2 nz2 cz2] 39)).cells 0).1;have p1:=((HP.out.px.alloc (.cells #[.slice az1 nz1 cz1,.int .i64 zp.frm,.int .i64 zp.period,.slice az2 nz2 cz2] 39)).cells 1).1;have p2:=((HP.out.px.alloc (.cells #[.slice az1 nz1 cz1,.int .i64 zp.frm,.int .i64 zp.period,.slice az2 nz2 cz2] 39)).cells 2).1;have p3:=((HP.out.px.alloc (.cells #[.slice az1 nz1 cz1,.int .i64 zp.frm,.int .i64 zp.period,.slice az2 nz2 cz2] 39)).cells 3).1;have HAND:=fun W (hb:Below wr.heap.size wr W)=>tb_ s _ _ _ _ _ zp W (HP.out.pvr.is.ext hb) (hz.is.ext hb) HP.out.fvr hfz;simp only [perV] at HAND;have HZP:=hq_ hzp;clear htl2 hz hzp;go_wp2_with (go_at_call 72;((with_reducible refine (HAND _ (Ea (Er wr) _)).mono ?_);rintro e w7 ⟨h',c',rfl,ho,hb7'⟩;have hvr:=HP.out.fvr.and hfz;obtain ⟨ya,yn,yc,za,zn,zc,rfl,rfl⟩:=(ho.pv hvr).form;have HP7:=hq_ (HP.out.ext (Et (Ea (Er wr) _) hb7'));have HO:=hq_ (ho.pv hvr);have HVR:=hq_ hvr;have HB7:=hq_ hb7';have p7:=HP7.out.px.alloc (.cells #[.slice ya yn yc,.int .i64 (andP (andL xp ((tL.map PV.p).tail.take i)) zp).frm,.int .i64 (andP (andL xp ((tL.map PV.p).tail.take i)) zp).period,.slice za zn zc] 39);have c0:=p7.cells 0;have c1':=p7.cells 1;have c2':=p7.cells 2;have c3:=p7.cells 3;obtain ⟨c00,c01⟩:=c0;obtain ⟨c10,c11⟩:=c1';obtain ⟨c20,c21⟩:=c2';obtain ⟨c30,c31⟩:=c3;clear ho hvr hb7' p7))
      go_roundw
      case rel=>
       refine ⟨i+1,ya,yn,yc,za,zn,zc,oq_,rfl,by go_num,hq_ ?_⟩;have l4:=HP7.out.js.lt;have l7:=HP7.out.lt7;have hl7:=HP.out.px.lt;have hpv:PVok w7 (fun b=>w.heap.size+1<b∧b≠b4∧b≠b7) ⟨.slice ya yn yc,.slice za zn zc,andP (andL xp ((tL.map PV.p).tail.take i)) zp⟩:=HO.out.mono fun b hb=>by have h1:=hb.1;rw [World.size_alloc] at h1;exact ⟨oq_,oq_,oq_⟩
       have hal:Below w7.heap.size w7 (w7.alloc (.cells #[.slice ya yn yc,.int .i64 (andP (andL xp ((tL.map PV.p).tail.take i)) zp).frm,.int .i64 (andP (andL xp ((tL.map PV.p).tail.take i)) zp).period,.slice za zn zc] 39)):=Ea (Er _) _;have h9:=(HP7.out.ext hal).store (hpv.keep (a5_.below hal)) HVR.out;have e9:andL xp ((tL.map PV.p).tail.take (i+1))=andP (andL xp ((tL.map PV.p).tail.take i)) zp:=by
        have hi2:i<(tL.map PV.p).tail.length:=by simp;omega
        unfold andL;rw [List.take_succ_eq_append_getElem hi2,List.foldl_append];have:(tL.map PV.p).tail[i]=zp:=by rw [HZP.out,List.getD_eq_getElem?_getD,List.getElem?_eq_getElem tq_];simp
        rw [this];rfl
       rw [e9];exact h9
      case measure=>simp [intOf];omega
     ·obtain rfl:i=tL.length-1:=oq_;have a0:=(HP.out.js.abx.cells 0).1;have a1_:=(HP.out.js.abx.cells 1).1;have a2_:=(HP.out.js.abx.cells 2).1;have a3_:=(HP.out.js.abx.cells 3).1;have p0:=(HP.out.px.cells 0).1;have p1:=(HP.out.px.cells 1).1;have p2:=(HP.out.px.cells 2).1;have p3:=(HP.out.px.cells 3).1;have HOR:=rr_ s _ _ _ _ _ _ _ HP.out.js.pv.is HP.out.pvr.is HP.out.js.fv HP.out.fvr;simp only [perV] at HOR;have e8:andL xp ((tL.map PV.p).tail.take (tL.length-1))=f6_ t:=by
       rw [List.take_of_length_le (by simp;try omega),<- HTLE.out];cases hLL:tL.map PV.p with
       | nil=>rw [List.map_eq_nil_iff] at hLL;rw [hLL] at ht0;exact absurd ht0 sq_
       | cons p r=>rw [hLL] at HXP;rw [show xp=p from HXP.out];rfl
      rw [e8] at HOR;have HE8:=hq_ e8;have hvr:FV s (orP (aq_ perE (m.take j)) (f6_ t)):=HP.out.js.fv.or (e8 ▸ HP.out.fvr);have HVR:=hq_ hvr;generalize hq8:orP (aq_ perE (m.take j)) (f6_ t)=q8 at *;clear hvr;rw [e8] at p1 p2;clear e8;go_wp2_with (go_at_call 73;((with_reducible refine HOR.mono ?_);rintro e w7 ⟨h',c',rfl,ho,hb7'⟩;obtain ⟨ya,yn,yc,za,zn,zc,rfl,rfl⟩:=(ho.pv HVR.out).form;have HP7:=hq_ (HP.out.ext hb7');have HO:=hq_ (ho.pv HVR.out);have HB7:=hq_ hb7';have p7:=HP7.out.js.abx.alloc (.cells #[.slice ya yn yc,.int .i64 q8.frm,.int .i64 q8.period,.slice za zn zc] 39);have c0:=p7.cells 0;have c1':=p7.cells 1;have c2':=p7.cells 2;have c3:=p7.cells 3;obtain ⟨c00,c01⟩:=c0;obtain ⟨c10,c11⟩:=c1';obtain ⟨c20,c21⟩:=c2';obtain ⟨c30,c31⟩:=c3;clear ho hb7' p7))
      go_roundw
      case rel=>
       refine ⟨j+1,ya,yn,yc,za,zn,zc,oq_,rfl,by go_num,hq_ ?_⟩;have l4:=HP7.out.js.lt;have hl4:=HP.out.js.abx.lt;have hal:Below w7.heap.size w7 (w7.alloc (.cells #[.slice ya yn yc,.int .i64 q8.frm,.int .i64 q8.period,.slice za zn zc] 39)):=Ea (Er _) _;have hpv:PVok w7 (fun b=>w.heap.size+1<b∧b≠b4) ⟨.slice ya yn yc,.slice za zn zc,q8⟩:=HO.out.mono fun b hb=>by have h1:=hb.1;exact ⟨oq_,oq_⟩
       have h9:=(HP7.out.js.ext hal).store (hpv.keep (a5_.below hal)) HVR.out;have e9:aq_ perE (m.take (j+1))=q8:=by
        obtain ⟨h1,h2⟩:=List.getElem?_eq_some_iff.1 HMT.out;unfold aq_ at hq8 ⊢;rw [List.take_succ_eq_append_getElem h1,List.foldl_append,h2];exact hq8
       rw [e9];exact h9
      case measure=>simp [intOf];omega
  ·obtain rfl:j=m.length:=oq_;have s0:=HM.out.rbx.cells 0;have s1:=HM.out.rbx.cells 1;have s2:=HM.out.rbx.cells 2;have s3:=HM.out.rbx.cells 3;go_wp2_with fail
   have hr0:Bxx ((((wo.setCell ⟨w.heap.size+1,0,none⟩ (.slice x1 y1 z1)).setCell ⟨w.heap.size+1,1,none⟩ (.int .i64 (aq_ perE m).frm)).setCell ⟨w.heap.size+1,2,none⟩ (.int .i64 (aq_ perE m).period)).setCell ⟨w.heap.size+1,3,none⟩ (.slice x2 y2 z2)) (w.heap.size+1) #[.slice x1 y1 z1,.int .i64 (aq_ perE m).frm,.int .i64 (aq_ perE m).period,.slice x2 y2 z2] 39:=dg_ HM.out.rbx;have k0:=(hr0.cells 0).1;have k1:=(hr0.cells 1).1;have k2:=(hr0.cells 2).1;have k3:=(hr0.cells 3).1;have hpv:=HM.out.pv;rw [List.take_of_length_le (Nat.le_refl _)] at hpv;refine bodyPost_ret (v:=.tuple #[perV (.slice x1 y1 z1) (.slice x2 y2 z2) (aq_ perE m).frm (aq_ perE m).period,.int .i64 0]) (by simp [results,Tryz.results24,go_sem,k0,k1,k2,k3]) rfl ⟨_,_,rfl,?_,gt_ HM.out.below oq_ _ _ _ _⟩;exact (hpv.keep (fun b hb _=>ex_ _ _ _ _ (by have:=hb.1;omega))).is
end Go.Proofs.YthjnojbeimchdaaGreat
section
variable {ops:Array Go.Oper}{b:Bool}{e:Go.Ending}{F P a at_ n r s x y:Int}{T m m1 m2:List (List Kal.Per)}{l:List Int}{rest:List Go.Oper}{L:List Go.Proofs.YthjnojbeimchdaaGreat.PV}{t u:List Kal.Per}{xs:List Go.Value}{B base cap g i j k:Nat}{o:Go.Oper}{row:Option Nat}{p q:Kal.Per}{h lv v:Go.Value}{A W W' w w':Go.World}
namespace Go.Proofs.YthjnojbeimchdaaGreat
open Go.RowKit Go.Maps Kal
theorem q3_:∀ {t:List Per} {p:Per},FV s p->(∀ q∈t,FV s q)->FV s (andL p t)
 | [],p,h,_=>h
 | q :: t,p,h,g=>q3_ (t:=t) (p:=andP p q) (h.and (g q sq_)) fun r hr=>g r (by simp [hr])
theorem u2_ (h:aw_ s t):FV s (f6_ t):=by
 cases t with
 | nil=>exact absurd rfl h.ne
 | cons p r=>exact q3_ (h.fv p sq_) fun q hq=>h.fv q (by simp [hq])
theorem kb_:∀ {m:List (List Per)} {all:Per},FV s all->(∀ t∈m,aw_ s t)->FV s (aq_ all m)
 | [],all,h,_=>h
 | t :: m,all,h,g=>kb_ (m:=m) (all:=orP all (f6_ t)) (h.or (u2_ (g t sq_))) fun r hr=>g r (by simp [hr])
theorem a8_.sl {c:Value} (hp:a8_ W h c p):∃ a1 n1 c1 a2 n2 c2,h=.slice a1 n1 c1∧c=.slice a2 n2 c2:=by
 obtain ⟨⟨a1,c1,e1,_⟩,_⟩:=hp.hd;obtain ⟨⟨a2,c2,e2,_⟩,_⟩:=hp.cy;exact ⟨a1,_,c1,a2,_,c2,e1,e2⟩
theorem qc_ (s:Int) (F:Nat->Prop) (v:Value) (m:List (List Per)) (a b:Int) (w:World) (h1:MixR w F v m) (k1:MV s m) (hs:0≤s) (h0:0≤a) (hab:a≤b) (hb:b≤1099511627776) :
  Calls Tryz.prog 15 #[.agg #[v],.int .i64 a,.int .i64 b] w fun e w'=>e=.returned (.tuple #[.int .i64 (ay_ (aq_ perE m) b-ay_ (aq_ perE m) a),.int .i64 0])∧Below w.heap.size w w':=by
 have HV1:=fun W (h:Below w.heap.size w W)=>bh_ F v m W (h1.ext h);rw [k1.val] at HV1;have HJ:=fun W (h:Below w.heap.size w W)=>i8_ s F v m W (h1.ext h) k1 hs;have hfv:=kb_ (j6_ hs) k1.vt;have HFV:=hq_ hfv;obtain ⟨a1,c1,rfl⟩:=h1.form;clear h1 k1 hfv;generalize aq_ perE m=q at *
 go_enter Tryz.func15,Tryz.ntmps15
 go_wp2_with (first|(go_at_call 18;refine (HV1 _ (Ea (Er w) _)).mono ?_;rintro e w1 ⟨rfl,hb1⟩;have b0:Bxx w1 w.heap.size #[.slice a1 m.length c1] 28:=Bxx.below xB hb1;have x0:=b0.c0;have hW1:Below w.heap.size w w1:=Et (Ea (Er w) _) hb1)|(go_at_call 24;refine (HJ _ hW1).mono ?_;rintro e w2 ⟨h,c,rfl,hp,hb2⟩;obtain ⟨xa,xn,xc,ya,yn,yc,rfl,rfl⟩:=hp.sl;have HP:=hq_ hp;have hW2:Below w.heap.size w w2:=Et hW1 hb2;clear hp)|(go_at_call 42;((with_reducible refine (ud_ (.slice xa xn xc) (.slice ya yn yc) q a b _ (HP.out.ext (Ea (Er w2) _)) HFV.out.valid h0 hab hb).mono ?_);rintro e w3 ⟨rfl,hb3⟩)))
 go_ret2;exact ⟨rfl,Et (Ea hW2 _) hb3⟩
end Go.Proofs.YthjnojbeimchdaaGreat
end
