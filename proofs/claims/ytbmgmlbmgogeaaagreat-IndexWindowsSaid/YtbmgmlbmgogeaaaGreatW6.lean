/- Part 6 of the proof of the laws. -/
import Derived.Test.YtbmgmlbmgogeaaaGreatW5
import Derived.Maps.OwnIn
import Derived.Lib.AppendZerosOnto
import Derived.Test.YtbmgmlbmgogeaaaGreatW4
import Derived.Laws.EntriesVeiled
set_option linter.unusedVariables false
set_option linter.unusedSimpArgs false
set_option maxRecDepth 100000
set_option maxHeartbeats 4000000
set_option linter.defProp false
abbrev LH:=@List.mem_of_getElem?
abbrev q8p:=@Int.tmod_lt_of_pos
abbrev q7q:=@Int.mul_tdiv_add_tmod
abbrev DL:=@Int.tdiv_eq_ediv_of_nonneg
section
variable {ops:Array Go.Oper}{b:Bool}{F P a at_ d r s x y:Int}{m:List (List Kal.Per)}{l:List Int}{rest:List Go.Oper}{L:List Go.Proofs.YtbmgmlbmgogeaaaGreat.PV}{t u:List Kal.Per}{xs:List Go.Value}{B base c cap g j k n:Nat}{o:Go.Oper}{row:Option Nat}{p q:Kal.Per}{lv v:Go.Value}{A C W W' W1 W2 w w':Go.World}
namespace Go.Proofs.YtbmgmlbmgogeaaaGreat
section
open Go.RowKit Go.Shelf Go.Maps Kal
attribute [local go_sem] GC
structure lj (s:Int) (t:List Per):Prop where
 ne:t≠[]
 fv:∀ p∈t,FV s p
 len:t.length<=1000000
theorem lj.f (h:lj s t):qo s t:=⟨h.ne,λp hp=>(h.fv p hp).fac⟩
theorem lj.merged (h:lj s t) (hm:pj t u) (hv:∀ p∈u,FV s p):lj s u:=by
 obtain ⟨h1,_,h3⟩:=hm.ok h.f;exact ⟨h1.1,hv,NN h3 h.len⟩
structure NI (B:Nat) (w:World) (s:Int) (lv:Value) (L:List (Value × List Per)) (W:World):Prop where
 below:Below B w W
 row:aZ B (λk=>k=B\/k=B+1) W lv L
 rbx:ag W B #[.slice none 0 0] 57
 lbx:ag W (B+1) #[lv] 55
 vt:∀ x∈L,lj s x.2
theorem NI.grow {L:List (Value × List Per)} (h:NI B w s lv L W) (hB:B<=w.heap.size) (hg:W.grownBy W' row) (hr:∀ r,row=some r->B<=r/\∃ o:Obj,W.heap[r]? = some o/\o.isCells=false):NI B w s lv L W':=by
 have key:∀ {b:Nat} {c:Array Value} {t:TypeId},ag W b c t->ag W' b c t:=λ{b c t} hx=>by
  refine (hg.block b hx.lt λe=>?_).trans hx;obtain ⟨_,o,ho,hc⟩:=hr b e.symm;rw [show W.heap[b]? = _ from hx] at ho;cases ho;cases hc
 exact ⟨h.below.grown hg (NN hB h.below.size) (λk e=>(hr k e).1),h.row.grow hg (λr e=>(hr r e).2),key h.rbx,key h.lbx,h.vt⟩
theorem NI.ext {L:List (Value × List Per)} (h:NI B w s lv L W) (hB:B<=w.heap.size) (hb:Below W.heap.size W W'):NI B w s lv L W':=
 ⟨h.below.trans (hb.mono (NN hB h.below.size)),h.row.below hb,h.rbx.below hb,h.lbx.below hb,h.vt⟩
def lenW (B:Nat) (W:World):Nat:=match W.cell? ⟨B+1,0,none⟩ with|some (.slice _ n _)=>n|_=>0
theorem NI.lenW {L:List (Value × List Per)} (h:NI B w s lv L W):lenW B W=L.length:=by
 obtain ⟨a,c,rfl,_⟩:=h.row.form;have h1:=(h.lbx.cells 0).1;unfold Go.Proofs.YtbmgmlbmgogeaaaGreat.lenW;rw [h1];rfl
theorem bK.single {F:Nat->Prop} (h:bK W F v t) (h1:t.length=1):∃ b o c a1 n1 c1 a2 n2 c2,v=.slice (some ⟨b,o,none⟩) 1 c/\bD W F ⟨.slice a1 n1 c1,.slice a2 n2 c2,t.getD 0 default⟩/\
  W.cell? ⟨b,o,none⟩=some (.slice a1 n1 c1)/\W.cell? ⟨b,o+1,none⟩=some (.int .i64 (t.getD 0 default).frm)/\W.cell? ⟨b,o+2,none⟩=some (.int .i64 (t.getD 0 default).period)/\W.cell? ⟨b,o+3,none⟩=some (.slice a2 n2 c2):=by
 obtain ⟨L,rfl,hL⟩:=h;obtain ⟨a,c,rfl,_⟩:=hL.row.is;have hl:L.length=1:=by simpa using h1
 obtain ⟨b,o,x,rfl,hx,c_,_,e0,e1,e2,e3⟩:=hL.get (show 0<L.length by omega);obtain ⟨xh,xc,xp⟩:=x;obtain ⟨a1,n1,c1,a2,n2,c2,rfl,rfl⟩:=hx.form;dsimp only at e0 e1 e2 e3 c_;subst c_;rw [hl];simp only [WN,Nat.add_zero] at e0 e1 e2 e3;exact ⟨b,o,c,a1,n1,c1,a2,n2,c2,rfl,hx,e0,e1,e2,e3⟩
theorem q6i {a1 a2:Option Addr} {n1 c1 n2 c2:Nat} (h:bD W (λb=>n<=b/\b≠n) ⟨.slice a1 n1 c1,.slice a2 n2 c2,q⟩) (hn:n<=W.heap.size) :
  bK (W.alloc (.cells #[.slice a1 n1 c1,.int .i64 q.frm,.int .i64 q.period,.slice a2 n2 c2] 80)) (λb=>n<=b/\(b≠n\/b=W.heap.size)) (.slice (some ⟨W.heap.size,0,none⟩) 1 1) [q]:=by
 have hb:=ag.new W #[.slice a1 n1 c1,.int .i64 q.frm,.int .i64 q.period,.slice a2 n2 c2] 80;refine ⟨[⟨.slice a1 n1 c1,.slice a2 n2 c2,q⟩],rfl,⟨_,1,rfl,aj,ad,.inr ⟨W.heap.size,0,rfl,⟨hn,.inr rfl⟩,hb.lt,λi u hi=>?_⟩⟩,aj,λx hx=>?_⟩
 .rw [S1];refine (hb.cells i).1.trans ?_;rw [<- hi]
  match i with
  | 0=>rfl
  | 1=>rfl
  | 2=>rfl
  | 3=>rfl
  | k+4=>rfl
 obtain rfl:x=⟨.slice a1 n1 c1,.slice a2 n2 c2,q⟩:=by simpa using hx
 exact (h.keep (aP.below (Ea (Er W) _))).mono λb hb=>⟨hb.1,.inl hb.2⟩
theorem aZ.boxO {A:Nat->Prop} {L:List (Value × List Per)} (h:aZ B A W v L) (hg:W.grownBy W' row) (hA:∀ k,row=some k->A k):aZ B A W' v L:=by
 rcases row with _|k
 .exact ⟨h.row.kept hg (by cases v.ownBlock <;> simp),λx hx=>(h.all x hx).keep (λb _ hl=>hg.block b hl aj) hg.size,h.ne,h.len⟩
 exact h.box hg (hA k rfl)
def Gk (s:Int) (T:List (List Per)) (w:World) (e:Ending) (w':World):Prop:=
 ∃ (v:Value) (m:List (List Per)),qk T m/\(∀ t∈m,lj s t)/\Below w.heap.size w w'/\
  ((ef m=true/\e=.returned (.tuple #[.agg #[v],.int .i64 0])/\aF w' (λb=>w.heap.size<=b) v m)\/(ef m=false/\e=.returned (.tuple #[.agg #[.slice none 0 0],.int .i64 2])))
structure NO (B n D k:Nat) (w:World) (lv ov:Value) (M LO:List (Value × List Per)) (W:World):Prop where
 below:Below B w W
 lrow:aZ B (λk=>k=B\/k=B+1\/n<=k) W lv M
 orow:aZ B (λk=>k=B\/k=B+1\/k=n) W ov LO
 own:∀ g,ov.ownBlock=some g->n<=g
 obx:ag W n #[ov] 57
 rbx:ag W B #[.slice none 0 0] 57
 dfr:W.heap[D]? = some (.deferred (some []))
 eq:LO.map Prod.snd=nJ [] ((M.map Prod.snd).take k)
 len:LO.length<=k
theorem NO.ext {D:Nat} {ov:Value} {M LO:List (Value × List Per)} (h:NO B n D k w lv ov M LO W) (hB:B<=w.heap.size) (hb:Below W.heap.size W W'):NO B n D k w lv ov M LO W':=
 ⟨h.below.trans (hb.mono (NN hB h.below.size)),h.lrow.below hb,h.orow.below hb,h.own,h.obx.below hb,h.rbx.below hb,(hb.block D (Q0.1 h.dfr).1).trans h.dfr,h.eq,h.len⟩
theorem ag.c0 {b:Nat} {t:TypeId} (h:ag w b #[v] t):w.cell? ⟨b,0,none⟩=some v:=(h.cells 0).1
theorem wT.put {T:List (List Per)} (pre:List (Value × List Per)) (y:Value × List Per) (W:World) (l:Nat) (o o':Obj) (hl:W.heap[l]? = some o) (ho:o.isCells=false) (h:wT T pre y W):wT T pre y (W.putObj l o'):=
 ⟨h.1,_,(h.2.choose_spec).put hl ho⟩
theorem ns_ {F:Fence} {nF:Nat} {a:Act} {Q:Exit->Act->World->Prop} (hgd:o.guard=none) (sx x:Operand)
  (ho:o.op=.call { callee:=.builtin .append,args:=#[sx,x],argTypes:=#[55,55] }) (B:Nat) (A:Nat->Prop) (v:Value) (L:List (Value × List Per)) (y:Value × List Per) (hs:a.eval sx=v) (h:aZ B A w v L)
  (hy:bK w (cU B A v) y.1 y.2) (blk c:Nat) (hx:a.eval x=.slice (some ⟨blk,0,none⟩) 1 c) (hnew:w.cell? ⟨blk,0,none⟩=some y.1) (hA:¬ A w.heap.size) (hl:L.length<1000000) (hB:B<=w.heap.size)
  (k:∀ (a':Option Addr) (c':Nat) (w':World),aZ B A w' (.slice a' (L.length+1) c') (L ++ [y])->w.grownBy w' v.ownBlock->Below B w w'->((Value.slice a' (L.length+1) c').ownBlock=v.ownBlock\/(Value.slice a' (L.length+1) c').ownBlock=some w.heap.size)->wpListIn F nF Tryz.prog ops Q rest (a.put o.dst (.slice a' (L.length+1) c')) w') :
  wpListIn F nF Tryz.prog ops Q (o :: rest) a w:=by
 obtain ⟨i,hi,h1,h2,h3⟩:=Kx;refine wpListIn_append_own_at w hgd sx x 55 ho B 78 i (.slice none 0 0) 1 24 rfl hi h1 h2 h3 rfl ad v L.length (L.map Prod.fst) hs h.row ⟨blk,0,none⟩ 1 c [y.1] hx rfl ?_ (by simp;exact hy.one) (by unfold maxLen;omega) ad hB ?_
 .intro j u hu
  match j,hu with
  | 0,hu=>simp at hu;subst hu;exact hnew
 intro v' w' hown' hgrow _ hb;have hp:=h.push hy hown' hgrow hb hA hl;obtain ⟨a',c',rfl,_⟩:=hp.form;have e:(L ++ [y]).length=L.length+1:=by simp
 rw [e] at hp hb ⊢;exact k a' c' w' hp hgrow ((JV B w).grown hgrow hB λk e=>(h.row.lt k e).1) hb
theorem Ja {a:Act} {Q:Exit->Act->World->Prop} (hgd:o.guard=none) (sx x:Operand)
  (ho:o.op=.call { callee:=.builtin .append,args:=#[sx,x],argTypes:=#[55,55] }) (B:Nat) (A:Nat->Prop) (v:Value) (L:List (Value × List Per)) (y:Value × List Per) (hs:a.eval sx=v) (h:aZ B A w v L)
  (hy:bK w (cU B A v) y.1 y.2) (blk c:Nat) (hx:a.eval x=.slice (some ⟨blk,0,none⟩) 1 c) (hnew:w.cell? ⟨blk,0,none⟩=some y.1) (hA:¬ A w.heap.size) (hl:L.length<1000000) (hB:B<=w.heap.size)
  (k:∀ (a':Option Addr) (c':Nat) (w':World),aZ B A w' (.slice a' (L.length+1) c') (L ++ [y])->w.grownBy w' v.ownBlock->Below B w w'->((Value.slice a' (L.length+1) c').ownBlock=v.ownBlock\/(Value.slice a' (L.length+1) c').ownBlock=some w.heap.size)->wpList Tryz.prog ops Q rest (a.put o.dst (.slice a' (L.length+1) c')) w') :
  wpList Tryz.prog ops Q (o :: rest) a w:=by
 obtain ⟨i,hi,h1,h2,h3⟩:=Kx;refine wpList_append_own_at w hgd sx x 55 ho B 78 i (.slice none 0 0) 1 24 rfl hi h1 h2 h3 rfl ad v L.length (L.map Prod.fst) hs h.row ⟨blk,0,none⟩ 1 c [y.1] hx rfl ?_ (by simp;exact hy.one) (by unfold maxLen;omega) ad hB ?_
 .intro j u hu
  match j,hu with
  | 0,hu=>simp at hu;subst hu;exact hnew
 intro v' w' hown' hgrow _ hb;have hp:=h.push hy hown' hgrow hb hA hl;obtain ⟨a',c',rfl,_⟩:=hp.form;have e:(L ++ [y]).length=L.length+1:=by simp
 rw [e] at hp hb ⊢;exact k a' c' w' hp hgrow ((JV B w).grown hgrow hB λk e=>(h.row.lt k e).1) hb
theorem bK.fresh {u:Value} (h:bK W (λb=>n<=b) u t) (h1:B+2<=n) (hv:∀ g,v.ownBlock=some g->g<n):bK W (cU B (λk=>k=B\/k=B+1) v) u t:=
 h.mono λb (hb:n<=b)=>⟨ad,(by rintro (h|h) <;> omega),λe=>by have:=hv b e;omega⟩
theorem aZ.row_cells {A:Nat->Prop} {L:List (Value × List Per)} (h:aZ B A W v L):∀ r,v.ownBlock=some r->∃ o:Obj,W.heap[r]? = some o/\o.isCells=true:=by
 intro r hr;obtain ⟨_,⟨rfl,_⟩|⟨g,cap,cur,rfl,_,hh,_⟩⟩:=h.row
 .cases hr
 obtain rfl:g=r:=by simpa [Value.ownBlock] using hr
 exact ⟨_,hh,rfl⟩
theorem KeepsOthers.of_below (h:Below A.heap.size A C):KeepsOthers A C:=⟨h.size,λk o hk _=>(h.block k (Q0.1 hk).1).trans hk⟩
theorem Xi (s:Int) (g:Nat) (lb:Array Value) (T:List (List Per)) (w:World) (hit:KT g lb T w) (hT:∀ t∈T,lj s t) (hTl:T.length<=100000) :
  Calls Tryz.prog 106 #[.func (.func g) #[] lb] w (Gk s T w):=by
 refine VL (n:=0).1 ?_;refine NT Tryz.func106 rfl trivial ?_ rfl;simp only [Tryz.ntmps106,NG,MH,M4,Nat.reduceAdd,Nat.reduceSub,N0,K7,Q3,QG,L4,S5];gi_wp2_with fail;generalize hW0:(w.alloc _).alloc _=W0;have hE:Below w.heap.size w W0:=by rw [<- hW0];exact xE
 have hsz:W0.heap.size=w.heap.size+2:=by rw [<- hW0];simp
 have eu:ag W0 w.heap.size #[.slice none 0 0] 57:=by rw [<- hW0];exact (ag.at rfl).alloc _
 have gw:ag W0 (w.heap.size+1) #[.slice none 0 0] 55:=by rw [<- hW0];exact ag.at aj
 have kT:=af hit;have HST:Hid (NI w.heap.size w s (.slice none 0 0) [] W0):=af ⟨hE,aZ.nil _ _ _,eu,gw,aj⟩;have HT:=af hT;clear hW0 eu gw hit hT;refine WK (α:=Value × List Per) (x:=none) (gf:=g) (lb:=lb) rfl kT.o.1 (kT.o.2 W0 hE) (λh k=>h.trans k) (de.putObj (by intro k hk;omega)) (λy=>rfl)
  (λpre W'=>∃ lv L,il (pre.map Prod.snd) (L.map Prod.snd)/\NI w.heap.size w s lv L W'/\L.length<=pre.length/\∃ r,T=pre.map Prod.snd ++ r)
  (by
   rintro pre A C row ⟨lv,L,h1,h2,h3,h4⟩ hg hr;refine ⟨lv,L,h1,h2.grow (TZ _) hg λr e=>?_,h3,h4⟩;rcases hr r e with ⟨h,_⟩|⟨h,h'⟩
   .cases h
   exact ⟨ad,h'⟩)
  wT.put (by exact ⟨_,[],il.nil,HST.o,aj,T,aj⟩)
  (λy=>⟨#[.func (Fn.func g) #[] lb,undef,.pointer (some ⟨w.heap.size,0,none⟩),.int .i64 0,.pointer (some ⟨w.heap.size+1,0,none⟩),y.1,undef,undef,undef,undef,undef,undef,undef,undef,.func (Fn.func g) #[] lb,y.1,undef,undef,undef,undef,undef,undef,undef,undef,undef,undef,undef,undef,undef,undef,undef,undef,undef,undef,undef,undef,undef,undef,undef,undef,undef,undef,undef,undef,undef,undef,undef,undef,undef,undef,undef,undef,undef,undef,undef,undef,undef,undef,undef,undef,undef,undef,undef,undef,undef,undef,undef,undef,undef,undef,undef,undef,undef,undef,undef,undef,undef,undef,undef,undef,undef,undef,undef,undef,undef,undef,undef,undef,undef,undef,undef,undef,undef,undef,undef,undef,undef,undef,undef,undef,undef,undef,undef,undef,undef,undef,undef,undef,undef,undef,undef,undef,undef,undef,undef,undef,undef,undef,undef,undef,undef],[]⟩) ?assign ?body ?done
 case assign=>
  intro l y W' K hK;unfold sX
  gi_wp2
  exact hK
 case body=>
  rintro l pre y W' ⟨lv,L,CF,xT,CE,-⟩ ⟨⟨r,vT⟩,F,kR⟩;obtain ⟨yv,yt⟩:=y;dsimp only at vT kR;have fo:=HT.o yt (by rw [vT];simp);have hpl:pre.length<=100000:=by
   have:=congrArg List.length vT;rw [MB,U6,MH] at this;omega
  obtain ⟨ya,yc,rfl,_⟩:=kR.form;obtain ⟨la,lc,rfl,_⟩:=xT.row.form;have jV:=xT.lbx.lt;have hown:=xT.row.row.lt;have HM:=ts_ F s _ yt W' kR fo.fv fo.len;have uR:=af fo;have iH:=af xT;have qX:=af CF;have T_:=af vT;clear xT CF vT kR fo;gi_wp2_with (first
   | (refine ⟨trivial,rfl,?_⟩;gi_at_call 139;refine (LM l (VL.2 HM)).mono ?_;rintro e w1 ⟨v',u,rfl,tN,oM,oQ,hb1⟩;obtain ⟨va,vc,rfl,_⟩:=oQ.form;have iF:=af tN;have Iw:=af oM;have q2a:=af oQ;have zI:=(λW (hW:Below w1.heap.size w1 W)=>(oQ.ext hW).fresh (B:=w.heap.size) (v:=.slice la L.length lc) ad (λg hg=>(hown g hg).2));have bm:=af hb1;clear tN oM oQ hb1)
   | (refine ⟨trivial,rfl,?_⟩;gi_at_call 109;refine (LM l (VL.2 (q7j _ _ u _ (q2a.o.ext (by exact JV _ _)) (λp hp=>(Iw.o p hp).validB)))).mono ?_;rintro e w2 ⟨b,rfl,F5,hb2⟩;have Do:=af F5;have bl:=af hb2;clear F5 hb2;have hbx:=iH.o.lbx.below (Et bm.o bl.o);have q2:=(hbx.cells 0).1;have q3:=(hbx.cells 0).2;clear hbx;cases b)
   | (gi_at_builtin;refine ns_ aC _ _ aC w.heap.size (λk=>k=w.heap.size\/k=w.heap.size+1) (.slice la L.length lc) L (.slice va u.length vc,u) aC (iH.o.row.below (Ea (Et bm.o bl.o) _)) (zI _ (Ea bl.o _)) _ _ aC aj (by have:=bm.o.size;have:=bl.o.size;simp;omega) ad (by have:=bm.o.size;have:=bl.o.size;simp;omega) ?_;intro ga gc w3 hr3 hg3 hb3 _;have vV:=((iH.o.lbx.below (Et bm.o bl.o)).alloc (.cells #[.slice va u.length vc] 78)).grown hg3 (by rintro e;exact iH.o.row.ne _ e.symm (.inr rfl));have q4:=(vV.cells 0).1;have q5:=(vV.cells 0).2;have Lh:=af vV;have B8:=af hr3;have Iy:=af hg3;have cq:=af hb3;clear vV hr3 hg3 hb3))
  .have oG:=Et bm.o bl.o;have oJ:Below w.heap.size W' (w2.alloc (.cells #[.slice va u.length vc] 78)):=(Ea oG _).mono ad;refine ⟨((KeepsOthers.grown_cells (KeepsOthers.of_below (Ea oG _)) Iy.o (iH.o.row.below (Ea oG _)).row_cells).trans (K8 w3 _ _)).from _,λk hk=>?_,.slice ga (L.length+1) gc,L ++ [(.slice va u.length vc,u)],?_,⟨?_,?_,?_,?_,?_⟩,?_,?_⟩
   .exact (((oJ.trans cq.o).setCell (p:=⟨w.heap.size+1,0,none⟩) (Nat.le_succ _) _).block k hk)
   .rw [UZ,UZ];exact qX.o.keep1 iF.o (by have:=Do.o;simpa using this)
   .exact (iH.o.below.trans (oJ.trans cq.o)).setCell (p:=⟨w.heap.size+1,0,none⟩) (Nat.le_succ _) _
   .exact B8.o.box (World.grownBy.set' ⟨rfl,rfl,rfl,TZ _,λ_ _ _=>rfl⟩ _) (.inr rfl)
   .exact ag.setNe (((iH.o.rbx.below oG).alloc _).grown Iy.o (λe=>iH.o.row.ne _ e.symm (.inl rfl))) _ ad
   .exact bE 0 _ Lh.o
   .intro x hx;rcases VJ.1 hx with hx|hx
    .exact iH.o.vt x hx
    obtain rfl:x=(.slice va u.length vc,u):=by simpa using hx
    exact uR.o.merged iF.o Iw.o
   .simp;omega
   exact ⟨r,by rw [UZ,QL];exact T_.o⟩
  have oG:=Et bm.o bl.o;refine ⟨(KeepsOthers.of_below oG).from _,λk hk=>oG.block k ad,_,L,?_,iH.o.ext (TZ _) oG,?_,?_⟩
  .rw [UZ];exact qX.o.skip1 iF.o (by have:=Do.o;simpa using this)
  .simp;omega
  exact ⟨r,by rw [UZ,QL];exact T_.o⟩
 case done=>
  rintro D xs W' hD aM ⟨lv,L,CF,xT,CE,-⟩ aL;have n_:xs.length=T.length:=by rw [<- show xs.map Prod.snd=T from aM,U6]
  have AD:L.length<=100000:=ad;rw [show xs.map Prod.snd=T from aM] at CF;have qX:=af CF;have iH:=af xT;have fW:=af aL;clear aM CF xT aL n_ CE;gi_wp2_with fail;refine wpIn_wide.2 ?_;go_loopw [6,7,8,9,10,28] (λs6 _ _ _ _ _ wr=>∃ (b:Bool) (lv:Value) (M:List (Value × List Per)),s6=.bool b/\M.length<=100000/\Hid (∀ m,lL (M.map Prod.snd) m->lL (L.map Prod.snd) m)/\Hid (b=false->Hx (pk (M.map Prod.snd)) M.length)/\Hid (NI w.heap.size w s lv M wr)/\Hid (wr.heap[D]? = some (.deferred (some []))))
   (λs6 _ _ _ _ _ wr=>2*lenW w.heap.size wr+(match s6 with|.bool true=>1|_=>0))
  .exact ⟨true,lv,L,rfl,AD,af (λ_ h=>h),af (λh=>absurd h aG),iH,fW⟩
  obtain ⟨b,lv,M,rfl,PG,HJ,HNP,HN,HD⟩:=hrel;have tM:=HN.o.lenW;obtain ⟨la,lc,rfl,_,_,AV⟩:=HN.o.row.form;have q2:=(HN.o.lbx.cells 0).1;cases b with
  | true=>
   have L5:=af tM;clear tM;go_wp2_with fail
   go_step3
   go_wp2_with fail
   go_step3
   go_wp2
   go_loopw [6,7,8,9,10,28] (λs6 _ _ _ _ idx wr=>∃ ii:Nat,ii<=M.length/\s6=.bool false/\idx=.int .i64 ii/\Hid (∀ i' j',i'<ii->i'<j'->j'<M.length->¬ pk (M.map Prod.snd) i' j')/\Hid (NI w.heap.size w s (.slice la M.length lc) M wr)/\Hid (wr.heap[D]? = some (.deferred (some [])))) (λ_ _ _ _ _ idx _=>M.length-(intOf idx).toNat)
   .exact ⟨0,ad,rfl,rfl,af (λ_ _ h=>absurd h ad),HN,HD⟩
   obtain ⟨ii,hii,rfl,rfl,pW,wW,mA⟩:=hrel;have q2:=(wW.o.lbx.cells 0).1;by_cases hlt:ii<M.length
   .have tJ:(ii:Int)<M.length:=ad;rcases AV with h0|⟨g1,rfl⟩
    .omega
    go_wp2
    go_loopw [6,8,9,10] (λs6 jv _ _ wr=>∃ jj:Nat,ii<jj/\jj<=M.length/\s6=.bool false/\jv=.int .i64 jj/\Hid (∀ j',ii<j'->j'<jj->¬ pk (M.map Prod.snd) ii j')/\Hid (NI w.heap.size w s (.slice (some ⟨g1,0,none⟩) M.length lc) M wr)/\Hid (wr.heap[D]? = some (.deferred (some [])))) (λ_ jv _ _ _=>M.length-(intOf jv).toNat)
    .exact ⟨ii+1,ad,ad,rfl,by go_num,af (λ_ h1 h2=>absurd h2 ad),wW,mA⟩
    obtain ⟨jj,gq,hjj,rfl,rfl,q_,nj,BU⟩:=hrel;have q2:=(nj.o.lbx.cells 0).1;obtain ⟨nX,q3,-⟩:=nj.o.row.get rfl hlt;have mP:(M.map Prod.snd).getD ii []=(M.getD ii default).2:=by simp [VS,hlt]
    have uF:Hid (M.getD ii default∈M):=af (dI hlt);generalize M.getD ii default=X at *;obtain ⟨xv,xt⟩:=X;dsimp only at q3 mP nX;have Lt:=af mP;by_cases dE:jj<M.length
    .have sm:(jj:Int)<M.length:=ad;by_cases hx1:xt.length=1
     .obtain ⟨bx,ox,cx,eA,eE,eB,eW,fq,dZ,rfl,VD,x0,x1,x2,x3⟩:=nX.single hx1;obtain ⟨pH,q4,-⟩:=nj.o.row.get rfl dE;have kK:(M.map Prod.snd).getD jj []=(M.getD jj default).2:=by simp [VS,dE]
      have qZ:Hid (M.getD jj default∈M):=af (dI dE);generalize M.getD jj default=Y at *;obtain ⟨yv,yt⟩:=Y;dsimp only at q4 kK pH;have It:=af kK;have kA:=af hx1;by_cases hy1:yt.length=1
      .obtain ⟨nC,oy,cy,kY,lC,lk,kZ,lD,lq,rfl,q5t,y0,y1,y2,y3⟩:=pH.single hy1;have zT:=af hy1;have kn:=(nj.o.vt _ uF.o).fv _ (dI (d:=default) (show 0<xt.length by omega));have sk:=(nj.o.vt _ qZ.o).fv _ (dI (d:=default) (show 0<yt.length by omega));have uz:Hid (pk (M.map Prod.snd) ii jj↔jN (xt.getD 0 default) (yt.getD 0 default)=true):=af (by unfold pk;rw [mP,kK];exact ⟨λh=>h.2.2,λh=>⟨hx1,hy1,h⟩⟩);have HJA:Hid (rG (M.map Prod.snd) ii jj=((M.map Prod.snd).set ii [wJ (xt.getD 0 default) (yt.getD 0 default)]).eraseIdx jj):=af (by unfold rG;rw [mP,kK]);generalize xt.getD 0 default=xp at *;generalize yt.getD 0 default=yp at *;have nf:=λW=>Wy ⟨.slice eA eE eB,.slice eW fq dZ,xp⟩ ⟨.slice kY lC lk,.slice kZ lD lq,yp⟩ W kn.valid.wf.per kn.valid.per sk.valid.wf.per sk.valid.per;change ∀ W,Calls _ _ #[ar _ _ xp.frm xp.period,ar _ _ yp.frm yp.period] W λe w'=>e=.returned (.bool (jN xp yp))/\_ at nf;have td:=af kn;have DJ:=af sk;have IP:=af VD;have HPY:=af q5t;generalize jN xp yp=dd at *;clear nX pH mP kK hx1 hy1 kn sk VD q5t;go_wp2_with fail;refine oz (w0:=wr) [0,1,2,3,4,5,6,7,8,9,10,11,12,13,14,15,16,17,18,19,20] [21] (λv=>⟨#[.func (Fn.func g) #[] lb,undef,.pointer (some ⟨w.heap.size,0,none⟩),.int .i64 0,.pointer (some ⟨w.heap.size+1,0,none⟩),undef,.bool false,.int .i64 ↑ii,.int .i64 ↑jj,u9,u10,undef,undef,undef,.func (Fn.func g) #[] lb,undef,undef,undef,undef,undef,undef,undef,undef,undef,undef,.bool true,.slice (some ⟨g1,0,none⟩) M.length lc,.int .i64 ↑M.length,.int .i64 ↑ii,.bool true,.int .i64 ↑ii,.int .i64 ↑ii,.int .i64 (↑ii+1),.int .i64 ↑jj,.slice (some ⟨g1,0,none⟩) M.length lc,.int .i64 ↑M.length,.bool true,.bool true,.slice (some ⟨g1,0,none⟩) M.length lc,.int .i64 ↑ii,.pointer (some ⟨g1,ii,none⟩),.slice (some ⟨bx,ox,none⟩) 1 cx,.int .i64 1,.bool true,.bool true,u45,u46,v 0,v 1,v 2,v 3,v 4,v 5,v 6,v 7,v 8,v 9,v 10,v 11,v 12,v 13,v 14,v 15,v 16,v 17,v 18,v 19,v 20,u68,u69,u70,u71,u72,u73,u74,u75,u76,u77,u78,u79,u80,u81,u82,u83,u84,u85,u86,u87,u88,u89,u90,u91,u92,u93,u94,u95,u96,u97,undef,undef,undef,undef,undef,undef,undef,undef,undef,undef,undef,undef,undef,undef,undef,undef,undef,undef,undef,undef,undef,undef,undef],[{ target:=.collected D,args:=#[] }]⟩) [.slice (some ⟨g1,0,none⟩) M.length lc,.int .i64 jj,.pointer (some ⟨g1,jj,none⟩),.slice (some ⟨nC,oy,none⟩) 1 cy,.int .i64 1,.bool false,.bool false,.slice (some ⟨g1,0,none⟩) M.length lc,.int .i64 ii,.pointer (some ⟨g1,ii,none⟩),.slice (some ⟨bx,ox,none⟩) 1 cx,.pointer (some ⟨bx,ox,none⟩),ar (.slice eA eE eB) (.slice eW fq dZ) xp.frm xp.period,.slice (some ⟨g1,0,none⟩) M.length lc,.int .i64 jj,.pointer (some ⟨g1,jj,none⟩),.slice (some ⟨nC,oy,none⟩) 1 cy,.pointer (some ⟨nC,oy,none⟩),ar (.slice kY lC lk) (.slice kZ lD lq) yp.frm yp.period,.bool dd,.bool (!dd)] [] (λ_ _ _ _ _=>True) (λW=>W.cell? ⟨w.heap.size+1,0,none⟩=some (.slice (some ⟨g1,0,none⟩) M.length lc)/\W.cell? ⟨g1,ii,none⟩=some (.slice (some ⟨bx,ox,none⟩) 1 cx)/\W.cell? ⟨g1,jj,none⟩=some (.slice (some ⟨nC,oy,none⟩) 1 cy)/\(W.cell? ⟨bx,ox,none⟩=some (.slice eA eE eB)/\W.cell? ⟨bx,ox+1,none⟩=some (.int .i64 xp.frm)/\W.cell? ⟨bx,ox+2,none⟩=some (.int .i64 xp.period)/\W.cell? ⟨bx,ox+3,none⟩=some (.slice eW fq dZ))/\(W.cell? ⟨nC,oy,none⟩=some (.slice kY lC lk)/\W.cell? ⟨nC,oy+1,none⟩=some (.int .i64 yp.frm)/\W.cell? ⟨nC,oy+2,none⟩=some (.int .i64 yp.period)/\W.cell? ⟨nC,oy+3,none⟩=some (.slice kZ lD lq))) (λW hb=>⟨bJ q2 hb,bJ q3 hb,bJ q4 hb,⟨bJ x0 hb,bJ x1 hb,bJ x2 hb,bJ x3 hb⟩,bJ y0 hb,bJ y1 hb,bJ y2 hb,bJ y3 hb⟩) trivial trivial ?steps ?fin (λj=>match j with|0=>u47|1=>u48|2=>u49|3=>u50|4=>u51|5=>u52|6=>u53|7=>u54|8=>u55|9=>u56|10=>u57|11=>u58|12=>u59|13=>u60|14=>u61|15=>u62|16=>u63|17=>u64|18=>u65|19=>u66|20=>u67|_=>undef)
       case steps=>
        clear q2 q3 q4 x0 x1 x2 x3 y0 y1 y2 y3;refine .c [] [] rfl ?_ (.c [] [] rfl ?_ (.c [0,1] [] rfl ?_ (.c [2] [] rfl ?_ (.c [3] [] rfl ?_ (.c [4] [] rfl ?_ (.c [5] [] rfl ?_ (.c [6] [] rfl ?_ (.c [6] [] rfl ?_ (.c [6,7,8] [] rfl ?_ (.c [6,9] [] rfl ?_ (.c [6,10] [] rfl ?_ (.c [6,11] [] rfl ?_ (.c [6] [] rfl ?_ (.c [6] [] rfl ?_ (.c [6,13,14] [] rfl ?_ (.c [6,15] [] rfl ?_ (.c [6,16] [] rfl ?_ (.c [6,17] [] rfl ?_ (.c [6,12,18] [] rfl ?_ (.c [6,19] [] rfl ?_ (.n)))))))))))))))))))));all_goals try exact oh
        rintro v lo hi W hb ⟨s2,s3,s4,⟨g0,vF,g2,g3⟩,k0,k1,k2,k3⟩ _;refine .inl ⟨rfl,λK hK=>?_⟩;simp only [ov,aD,Nat.reduceBEq,cond_true,cond_false];go_wp2_with (go_at_call 140;refine (nf _).mono ?_;rintro e w9 ⟨rfl,bg⟩);exact aQ (hK w9 bg) (by simp [ov,aD,upd])
       case fin=>
        rintro v lo gU W2 hb ⟨s2,s3,s4,⟨g0,vF,g2,g3⟩,k0,k1,k2,k3⟩ hf hap;show wpList _ _ _ [_] _ _;have e6:v 6=.bool false:=(hf 6 rfl).2.2.2;have Ur:v 20=.bool (!dd):=(hf 20 rfl).2.2.2;clear hf hap;dsimp only;rw [e6,Ur];clear e6 Ur;generalize v 0=z0,v 1=z1,v 2=z2,v 3=z3,v 4=z4,v 5=z5,v 7=z7,v 8=z8,v 9=z9,v 10=yP,v 11=yQ,v 12=z12,v 13=S_,v 14=Ta,v 15=K5,v 16=Tb,v 17=z17,v 18=Tc,v 19=Td;have cR:=af hb;clear hb;cases dd with
        | false=>
         clear s2 s3 s4 g0 vF g2 g3 k0 k1 k2 k3;go_wp2;go_roundw
         .exact ⟨jj+1,ad,ad,rfl,by go_num,af (λj' h1 h2=>by
          by_cases h3:j'<jj
          .exact q_.o j' h1 h3
          obtain rfl:j'=jj:=ad;rw [uz.o];decide),af (nj.o.ext (TZ _) cR.o),af ((cR.o.block D (Q0.1 BU.o).1).trans BU.o)⟩
         simp [intOf];omega
        | true=>
         obtain ⟨q,hq⟩:∃ q,q=wJ xp yp:=⟨_,rfl⟩;have zk:Hid (FV s q):=af (by rw [hq];exact td.o.or DJ.o);have HQ:=af hq;have Mn:∀ W,Below W2.heap.size W2 W->Calls Tryz.prog 141 #[ar (.slice eA eE eB) (.slice eW fq dZ) xp.frm xp.period,ar (.slice kY lC lk) (.slice kZ lD lq) yp.frm yp.period] W (nG q W):=λW h=>by
          rw [hq];exact q5l s _ _ _ _ xp yp W (IP.o.is.ext (Et cR.o h)) (HPY.o.is.ext (Et cR.o h)) td.o DJ.o
         clear hq;have hW2:=cR.o.size;have hlbz:=nj.o.lbx.lt;go_wp2_with fail;refine D0 (Q:=λe a' W'=>e=.normal/\(∃ (nb:Nat) (h c:Value) (ZT z70 ZU z72 q7h ZW z75 z76 z77 z78 z79 z80 ZX z82 ZY ZZ:Value),a'=⟨#[.func (Fn.func g) #[] lb,undef,.pointer (some ⟨w.heap.size,0,none⟩),.int .i64 0,.pointer (some ⟨w.heap.size+1,0,none⟩),undef,.bool false,.int .i64 ↑ii,.int .i64 ↑jj,.pointer (some ⟨nb,0,none⟩),.int .i64 0,undef,undef,undef,.func (Fn.func g) #[] lb,undef,undef,undef,undef,undef,undef,undef,undef,undef,undef,.bool true,.slice (some ⟨g1,0,none⟩) M.length lc,.int .i64 ↑M.length,.int .i64 ↑ii,.bool true,.int .i64 ↑ii,.int .i64 ↑ii,.int .i64 (↑ii+1),.int .i64 ↑jj,.slice (some ⟨g1,0,none⟩) M.length lc,.int .i64 ↑M.length,.bool true,.bool true,.slice (some ⟨g1,0,none⟩) M.length lc,.int .i64 ↑ii,.pointer (some ⟨g1,ii,none⟩),.slice (some ⟨bx,ox,none⟩) 1 cx,.int .i64 1,.bool true,.bool true,u45,u46,z0,z1,z2,z3,z4,z5,.bool false,z7,z8,z9,yP,yQ,z12,S_,Ta,K5,Tb,z17,Tc,Td,.bool false,.bool false,ZT,z70,ZU,z72,q7h,ZW,z75,z76,z77,z78,z79,z80,ZX,z82,ZY,ZZ,u85,u86,u87,u88,u89,u90,u91,u92,u93,u94,u95,u96,u97,undef,undef,undef,undef,undef,undef,undef,undef,undef,undef,undef,undef,undef,undef,undef,undef,undef,undef,undef,undef,undef,undef,undef],[{ target:=.collected D,args:=#[] }]⟩/\xr (W2.heap.size-1) q nb h c W')/\Below W2.heap.size W2 W') ?imp ?reg
         case reg=>
          refine PX (w0:=W2) [0,1,2,3,4,5,6,7,8,9,10,11,12,13,14,15,16] 15 17 [18] (λv=>⟨#[.func (Fn.func g) #[] lb,undef,.pointer (some ⟨w.heap.size,0,none⟩),.int .i64 0,.pointer (some ⟨w.heap.size+1,0,none⟩),undef,.bool false,.int .i64 ↑ii,.int .i64 ↑jj,v 16,u10,undef,undef,undef,.func (Fn.func g) #[] lb,undef,undef,undef,undef,undef,undef,undef,undef,undef,undef,.bool true,.slice (some ⟨g1,0,none⟩) M.length lc,.int .i64 ↑M.length,.int .i64 ↑ii,.bool true,.int .i64 ↑ii,.int .i64 ↑ii,.int .i64 (↑ii+1),.int .i64 ↑jj,.slice (some ⟨g1,0,none⟩) M.length lc,.int .i64 ↑M.length,.bool true,.bool true,.slice (some ⟨g1,0,none⟩) M.length lc,.int .i64 ↑ii,.pointer (some ⟨g1,ii,none⟩),.slice (some ⟨bx,ox,none⟩) 1 cx,.int .i64 1,.bool true,.bool true,u45,u46,z0,z1,z2,z3,z4,z5,.bool false,z7,z8,z9,yP,yQ,z12,S_,Ta,K5,Tb,z17,Tc,Td,.bool false,.bool false,v 13,v 0,v 1,v 2,v 3,v 4,v 5,v 6,v 7,v 8,v 9,v 10,v 11,v 12,v 14,v 15,u85,u86,u87,u88,u89,u90,u91,u92,u93,u94,u95,u96,u97,undef,undef,undef,undef,undef,undef,undef,undef,undef,undef,undef,undef,undef,undef,undef,undef,undef,undef,undef,undef,undef,undef,undef],[{ target:=.collected D,args:=#[] }]⟩) [.slice (some ⟨g1,0,none⟩) M.length lc,.int .i64 ii,.pointer (some ⟨g1,ii,none⟩),.slice (some ⟨bx,ox,none⟩) 1 cx,.pointer (some ⟨bx,ox,none⟩),ar (.slice eA eE eB) (.slice eW fq dZ) xp.frm xp.period,.slice (some ⟨g1,0,none⟩) M.length lc,.int .i64 jj,.pointer (some ⟨g1,jj,none⟩),.slice (some ⟨nC,oy,none⟩) 1 cy,.pointer (some ⟨nC,oy,none⟩),ar (.slice kY lC lk) (.slice kZ lD lq) yp.frm yp.period,undef,undef,undef,.int .i64 0,undef] [12,13,14,16] (λi v lo hi W=>match i with|12=>∃ h c,v 12=.tuple #[ar h c q.frm q.period,.int .i64 0]/\xO W (lo 12) (hi 12) h c q|13=>v 13=v 12/\∃ h c,v 13=.tuple #[ar h c q.frm q.period,.int .i64 0]|14=>∃ h c,v 13=.tuple #[ar h c q.frm q.period,.int .i64 0]/\v 14=ar h c q.frm q.period|16=>v 16=.pointer (some ⟨lo 16,0,none⟩)/\lo 16<hi 16/\ag W (lo 16) #[.slice none 0 0,.int .i64 0,.int .i64 0,.slice none 0 0] 80|_=>True) (λW=>W.cell? ⟨w.heap.size+1,0,none⟩=some (.slice (some ⟨g1,0,none⟩) M.length lc)/\W.cell? ⟨g1,ii,none⟩=some (.slice (some ⟨bx,ox,none⟩) 1 cx)/\W.cell? ⟨g1,jj,none⟩=some (.slice (some ⟨nC,oy,none⟩) 1 cy)/\(W.cell? ⟨bx,ox,none⟩=some (.slice eA eE eB)/\W.cell? ⟨bx,ox+1,none⟩=some (.int .i64 xp.frm)/\W.cell? ⟨bx,ox+2,none⟩=some (.int .i64 xp.period)/\W.cell? ⟨bx,ox+3,none⟩=some (.slice eW fq dZ))/\(W.cell? ⟨nC,oy,none⟩=some (.slice kY lC lk)/\W.cell? ⟨nC,oy+1,none⟩=some (.int .i64 yp.frm)/\W.cell? ⟨nC,oy+2,none⟩=some (.int .i64 yp.period)/\W.cell? ⟨nC,oy+3,none⟩=some (.slice kZ lD lq))) (λW hb=>⟨bJ s2 hb,bJ s3 hb,bJ s4 hb,⟨bJ g0 hb,bJ vF hb,bJ g2 hb,bJ g3 hb⟩,bJ k0 hb,bJ k1 hb,bJ k2 hb,bJ k3 hb⟩) ?stab ?loc ?steps ?fin ?fin2 (λj=>match j with|0=>u70|1=>u71|2=>u72|3=>u73|4=>u74|5=>u75|6=>u76|7=>u77|8=>u78|9=>u79|10=>u80|11=>u81|12=>u82|13=>u69|14=>u83|15=>u84|16=>u9|_=>undef)
          case stab=>
           refine ⟨?_,?_,?_,?_,trivial⟩
           .intro v lo hi W W' h hb;exact (let ⟨x1,x2,e,hp⟩:=h;⟨x1,x2,e,hp.below hb⟩)
           .intro v lo hi W W' h hb;exact h
           .intro v lo hi W W' h hb;exact h
           intro v lo hi W W' h hb;exact ⟨h.1,h.2.1,h.2.2.below hb⟩
          case loc=>
           refine ⟨?_,?_,?_,?_,trivial⟩
           .intro v v' lo lo' hi hi' W aA h;have q:=aA 12 (.inl rfl)
            (try dsimp only at h ⊢)
            simp only [q.1,q.2.1,q.2.2] at h;exact h
           .intro v v' lo lo' hi hi' W aA h;have q:=aA 13 (.inl rfl);have tY:=aA 12 (.inr (bM (by kernel_rfl)))
            (try dsimp only at h ⊢)
            simp only [q.1,q.2.1,q.2.2,tY.1,tY.2.1,tY.2.2] at h;exact h
           .intro v v' lo lo' hi hi' W aA h;have q:=aA 14 (.inl rfl);have qH:=aA 13 (.inr (bM (by kernel_rfl)))
            (try dsimp only at h ⊢)
            simp only [q.1,q.2.1,q.2.2,qH.1,qH.2.1,qH.2.2] at h;exact h
           intro v v' lo lo' hi hi' W aA h;have q:=aA 16 (.inl rfl)
           (try dsimp only at h ⊢)
           simp only [q.1,q.2.1,q.2.2] at h;exact h
          case steps=>
           clear s2 s3 s4 g0 vF g2 g3 k0 k1 k2 k3;refine .c [] [] rfl ?_ (.c [] [] rfl ?_ (.c [0,1] [] rfl ?_ (.c [2] [] rfl ?_ (.c [3] [] rfl ?_ (.c [4] [] rfl ?_ (.c [] [] rfl ?_ (.c [] [] rfl ?_ (.c [6,7] [] rfl ?_ (.c [8] [] rfl ?_ (.c [9] [] rfl ?_ (.c [10] [] rfl ?_ (.c [5,11] [] rfl ?_ (.c [] [12] rfl ?_ (.c [] [13] rfl ?_ (.c [] [13] rfl ?_ (.c [] [] rfl ?_ (.n)))))))))))))))));all_goals try exact SQ
           .rintro v lo hi W hb ⟨s2,s3,s4,⟨g0,vF,g2,g3⟩,k0,k1,k2,k3⟩ _;refine ⟨rfl,λK hK=>?_⟩;simp only [ov,aD,Nat.reduceBEq,cond_true,cond_false];go_wp2_with (go_at_call 141;refine (Mn _ xE).mono ?_;rintro e w9 ⟨h',c',rfl,ho,bg⟩);exact aQ (hK (.tuple #[ar h' c' q.frm q.period,.int .i64 0]) w9 bg ⟨h',c',rfl,ho.at⟩) (by simp [ov,aD,upd])
           .rintro v lo hi W hb ⟨s2,s3,s4,⟨g0,vF,g2,g3⟩,k0,k1,k2,k3⟩ ⟨⟨la12,lb12,Th⟩,_⟩;refine ⟨rfl,λK hK=>?_⟩;simp only [ov,aD,Nat.reduceBEq,cond_true,cond_false]
            (try dsimp only at Th)
            obtain ⟨h8,c8,e8,_⟩:=Th;go_wp2;exact aQ (hK (v 12) W (JV _ _) ⟨rfl,h8,c8,e8⟩) (by simp [ov,aD,upd,e8])
           .rintro v lo hi W hb ⟨s2,s3,s4,⟨g0,vF,g2,g3⟩,k0,k1,k2,k3⟩ ⟨⟨If,Ii,wS⟩,_⟩;refine ⟨rfl,λK hK=>?_⟩;simp only [ov,aD,Nat.reduceBEq,cond_true,cond_false]
            (try dsimp only at wS)
            obtain ⟨-,h9,c9,e9⟩:=wS;simp only [e9];go_wp2;exact aQ (hK (ar h9 c9 q.frm q.period) W (JV _ _) ⟨h9,c9,e9,rfl⟩) (by simp [ov,aD,upd,e9])
           .rintro v lo hi W hb ⟨s2,s3,s4,⟨g0,vF,g2,g3⟩,k0,k1,k2,k3⟩ ⟨⟨If,Ii,wS⟩,_⟩;refine ⟨rfl,λK hK=>?_⟩;simp only [ov,aD,Nat.reduceBEq,cond_true,cond_false]
            (try dsimp only at wS)
            obtain ⟨-,h9,c9,e9⟩:=wS;simp only [e9];go_wp2;exact aQ (hK W (JV _ _)) (by simp [ov,aD,upd,e9])
           rintro v lo hi W hb ⟨s2,s3,s4,⟨g0,vF,g2,g3⟩,k0,k1,k2,k3⟩ _;refine ⟨rfl,λK hK=>?_⟩;simp only [ov,aD,Nat.reduceBEq,cond_true,cond_false];go_wp2;exact hK (.pointer (some ⟨W.heap.size,0,none⟩)) _ (Ea (Er _) _) ⟨rfl,aj,ag.new _ _ _⟩
          case fin=>
           rintro v lo gU W5 hb5-hf hap;show wpList _ _ _ [_,_] _ _;obtain ⟨l8,-,h8,h,c,e8,sE⟩:=hf 12 rfl;obtain ⟨-,-,-,e9,-⟩:=hf 13 rfl;obtain ⟨-,-,-,h',c',nL,ir⟩:=hf 14 rfl;have e11:v 15=.int .i64 0:=(hf 15 rfl).2.2.2;obtain ⟨sR,-,oG,gi,jc,hbox⟩:=hf 16 rfl;have hd:=hap 12 16 rfl rfl aG;clear hf hap;rw [e9,e8] at nL;obtain ⟨rfl,rfl⟩:h=h'/\c=c':=by simpa [ar] using nL
           dsimp only;rw [ir,e11,gi];clear ir e11 gi e9 nL e8;obtain ⟨nb,kr⟩:∃ nb,nb=lo 16:=⟨_,rfl⟩;rw [<- kr] at hd hbox sR jc ⊢;have nV:=sE.inn;generalize lo 12=BI at *;generalize gU 12=Pg at *;generalize gU 16=Au at *;clear kr sE;obtain ⟨a5,m5,a6,m6,rfl,rfl⟩:=nV.form;have g0:=hbox.cells 0;have g1:=hbox.cells 1;have g2:=hbox.cells 2;have g3:=hbox.cells 3;have uD:=af (xr.of nV zk.o (show W2.heap.size-1<BI by omega) hbox ad ad);have bW:=af hb5;clear hbox nV hd;generalize v 0=y0,v 1=y1,v 2=y2,v 3=y3,v 4=y4,v 5=y5,v 6=y6,v 7=y7,v 8=y8,v 9=y9,v 10=sY,v 11=sZ,v 12=ub,v 13=ZM;go_wp2;exact ⟨⟨_,_,uD.o⟩,by have hb5:=bW.o;exact xE⟩
          case fin2=>
           rintro v lo gU W5 hb5-hf hap;obtain ⟨l8,-,h8,h,c,e8,sE⟩:=hf 12 rfl aG;obtain ⟨-,-,-,e9,-⟩:=hf 13 rfl aG;obtain ⟨-,-,-,h',c',nL,ir⟩:=hf 14 rfl aG;obtain ⟨sR,-,oG,gi,jc,hbox⟩:=hf 16 rfl aG;have hd:=hap 12 16 rfl rfl aG aG aG;clear hf hap;rw [e9,e8] at nL;obtain ⟨rfl,rfl⟩:h=h'/\c=c':=by simpa [ar] using nL
           have E_:=e9.trans e8;dsimp only;rw [ir,gi,E_];clear ir gi e9 nL e8 E_;obtain ⟨nb,kr⟩:∃ nb,nb=lo 16:=⟨_,rfl⟩;rw [<- kr] at hd hbox sR jc ⊢;have nV:=sE.inn;generalize lo 12=BI at *;generalize gU 12=Pg at *;generalize gU 16=Au at *;clear kr sE;obtain ⟨a5,m5,a6,m6,rfl,rfl⟩:=nV.form;have g0:=hbox.cells 0;have g1:=hbox.cells 1;have g2:=hbox.cells 2;have g3:=hbox.cells 3;have uD:=af (xr.of nV zk.o (show W2.heap.size-1<BI by omega) hbox ad ad);have bW:=af hb5;clear hbox nV hd;generalize v 0=y0,v 1=y1,v 2=y2,v 3=y3,v 4=y4,v 5=y5,v 6=y6,v 7=y7,v 8=y8,v 9=y9,v 10=sY,v 11=sZ,v 12=ub,v 15=K5;constructor
           .show wpList _ _ _ [_,_,_] _ _;go_wp2;exact ⟨⟨_,_,uD.o⟩,by have hb5:=bW.o;exact xE⟩
           show wpList _ _ _ [_,_,_] _ _;go_wp2;exact ⟨⟨_,_,uD.o⟩,by have hb5:=bW.o;exact xE⟩
         case imp=>
          rintro e a' W6 ⟨rfl,⟨nb,h,c,ZT,z70,ZU,z72,q7h,ZW,z75,z76,z77,z78,z79,z80,ZX,z82,ZY,ZZ,rfl,hP⟩,bG⟩;obtain ⟨a5,n5,m5,a6,n6,m6,rfl,rfl⟩:=hP.ok.form;have p0:=hP.c0;have p1:=hP.c1;have p2:=hP.c2;have p3:=hP.c3;have Pk:=Et cR.o bG;have wi:=nj.o.ext (TZ _) Pk;have r2:=(wi.lbx.cells 0).1;have sI:=wi.row.below (Ea (Er W6) (.cells #[.slice a5 n5 m5,.int .i64 q.frm,.int .i64 q.period,.slice a6 n6 m6] 80));obtain ⟨-,r0,r1⟩:=sI.get rfl hlt;have BD:=bG.size;have hg1:=(wi.row.row.lt g1 rfl).2;have vY:=wi.row.ne g1 rfl;have jU:=(q6i hP.ok (show W2.heap.size-1<=W6.heap.size by have:=bG.size;omega)).mono (G:=cU w.heap.size (λk=>k=w.heap.size\/k=w.heap.size+1) (.slice (some ⟨g1,0,none⟩) M.length lc)) (λb hb=>by
           have hg3:=(nj.o.row.row.lt g1 rfl).2;obtain ⟨h1,h2⟩:=hb;exact ⟨ad,(by rintro (h|h) <;> omega),λe=>by simp [Value.ownBlock] at e;omega⟩)
          have cr:=sI.set (y:=(.slice (some ⟨W6.heap.size,0,none⟩) 1 1,[q])) ii jU;have su:=ag.setNe (wi.lbx.alloc (.cells #[.slice a5 n5 m5,.int .i64 q.frm,.int .i64 q.period,.slice a6 n6 m6] 80)) (k:=g1) (i:=ii) (.slice (some ⟨W6.heap.size,0,none⟩) 1 1) (λe=>vY (.inr e.symm));have wC:=ag.setNe (wi.rbx.alloc (.cells #[.slice a5 n5 m5,.int .i64 q.frm,.int .i64 q.period,.slice a6 n6 m6] 80)) (k:=g1) (i:=ii) (.slice (some ⟨W6.heap.size,0,none⟩) 1 1) (λe=>vY (.inl e.symm));have J0:=(q7s W6 (.cells #[.slice a5 n5 m5,.int .i64 q.frm,.int .i64 q.period,.slice a6 n6 m6] 80)).trans (K8 _ ⟨g1,ii,none⟩ (.slice (some ⟨W6.heap.size,0,none⟩) 1 1));have hbl:=((JV w.heap.size W6).alloc ad (.cells #[.slice a5 n5 m5,.int .i64 q.frm,.int .i64 q.period,.slice a6 n6 m6] 80)).setCell (p:=⟨g1,ii,none⟩) (show w.heap.size<=g1 from (wi.row.row.lt g1 rfl).1) (.slice (some ⟨W6.heap.size,0,none⟩) 1 1);have se:=World.setCell_alloc_past (w:=W6) (.cells #[.slice a5 n5 m5,.int .i64 q.frm,.int .i64 q.period,.slice a6 n6 m6] 80) g1 ii (.slice (some ⟨W6.heap.size,0,none⟩) 1 1) hg1;rw [se] at su wC J0 hbl;dsimp only at cr;rw [se] at cr;generalize PU:(W6.setCell _ _).alloc _=W7 at su wC J0 hbl cr;have IW:=af PU;have r3:=(su.cells 0).1;have q1b:=af su;have q4m:=af wC;have dM:=af J0;have wU:=af hbl;have hdel:=r3_ _ _ _ _ _ jj _ _ cr (by rw [OF];exact dE);rw [OF] at hdel;have xe:=af cr;rw [<- PU] at r3 hdel;have TT:=af wi;have bR:=af Pk;clear hP wi sI cr jU bG Pk su wC J0 hbl se PU;go_wp2_with (go_at_call 142;refine hdel.mono ?_;rintro e w8 ⟨rfl,nW,jo⟩;rw [IW.o] at jo;have J2:=q1b.o.grown jo (by rintro e;cases e;exact vY (.inr rfl));have t0:=(J2.cells 0).1;have t1:=(J2.cells 0).2;have II:=af J2;have tk:=af nW;have uu:=af jo;clear J2 nW jo);have hgB:=(xe.o.row.lt g1 rfl);have FF:NI w.heap.size w s (.slice (some ⟨g1,0,none⟩) (M.length-1) lc) ((M.set ii (.slice (some ⟨W6.heap.size,0,none⟩) 1 1,[q])).eraseIdx jj) (w8.setCell ⟨w.heap.size+1,0,none⟩ (.slice (some ⟨g1,0,none⟩) (M.length-1) lc)):=by
           refine ⟨(TT.o.below.trans (wU.o.trans (World.grownBy.below' uu.o hgB.1 ad))).setCell (p:=⟨w.heap.size+1,0,none⟩) (Nat.le_succ _) _,tk.o.box (World.grownBy.set' ⟨rfl,rfl,rfl,TZ _,λ_ _ _=>rfl⟩ _) (.inr rfl),ag.setNe (q4m.o.grown uu.o (by rintro e;cases e;exact vY (.inl rfl))) _ ad,bE 0 _ II.o,λx hx=>?_⟩;rcases YM (Y_ hx) with h2|rfl
           .exact TT.o.vt x h2
           exact ⟨aj,λp hp=>(N2.1 hp) ▸ zk.o,aj⟩
          have vI:(w8.setCell ⟨w.heap.size+1,0,none⟩ (.slice (some ⟨g1,0,none⟩) (M.length-1) lc)).heap[D]? = some (.deferred (some [])):=
           ((KeepsOthers.grown_cells ((KeepsOthers.of_below bR.o).trans dM.o) uu.o (λr e=>by cases e;exact xe.o.row_cells g1 rfl)).trans (K8 w8 _ _)).same D _ BU.o rfl
          have gS:∀ m,lL (((M.set ii (.slice (some ⟨W6.heap.size,0,none⟩) 1 1,[q])).eraseIdx jj).map Prod.snd) m->lL (L.map Prod.snd) m:=λm hm=>HJ.o m (lL.step (i:=ii) (j:=jj) ⟨gq,by rw [U6];exact dE,by have:=uz.o;simpa using this,λi' j' h1 h2 h3=>pW.o i' j' h1 h2 (by rwa [U6] at h3),q_.o⟩ (by
           rw [HJA.o,<- HQ.o,show ((M.map Prod.snd).set ii [q]).eraseIdx jj=((M.set ii (.slice (some ⟨W6.heap.size,0,none⟩) 1 1,[q])).eraseIdx jj).map Prod.snd by simp [q7v,yg]];exact hm))
          have yr:((M.set ii (.slice (some ⟨W6.heap.size,0,none⟩) 1 1,[q])).eraseIdx jj).length=M.length-1:=by rw [YD (by rw [OF];exact dE),OF]
          have GG:=FF.lenW;rw [yr] at GG;simp only [Exit.noGoto_normal,Exit.inBlock];go_roundw
          ·(repeat apply Exists.intro)
           exact ⟨⟨true,_,_,rfl,by rw [yr];omega,af gS,af (λh=>absurd h aG),af FF,af vI⟩,rfl⟩
          simp [GG,L5.o];omega
      obtain ⟨ya,yc,rfl,_⟩:=pH.form;have zT:=af hy1;have C7:(yt.length:Int)≠1:=ad;have uz:Hid (¬ pk (M.map Prod.snd) ii jj):=af (by unfold pk;rw [kK];exact λh=>hy1 h.2.1);clear nX pH mP kK hx1 hy1;go_wp2_with fail;go_quiet (fail)
      go_wp2
      go_roundw
      .exact ⟨jj+1,ad,ad,rfl,by go_num,af (λj' h1 h2=>by
       by_cases h3:j'<jj
       .exact q_.o j' h1 h3
       obtain rfl:j'=jj:=ad;exact uz.o),af (nj.o.ext (TZ _) (Below.drewN (JV _ _) _)),af (by exact BU.o)⟩
      simp [intOf];omega
     obtain ⟨xa,xc,rfl,_⟩:=nX.form;have kA:=af hx1;have Hi:(xt.length:Int)≠1:=ad;have uz:Hid (∀ j',¬ pk (M.map Prod.snd) ii j'):=af (λj' h=>by unfold pk at h;rw [mP] at h;exact hx1 h.1);clear nX mP hx1;go_wp2;go_roundw
     .exact ⟨ii+1,ad,rfl,by go_num,af (λi' j' h1 h2 h3=>by
      by_cases h4:i'<ii
      .exact pW.o i' j' h4 h2 h3
      obtain rfl:i'=ii:=ad;exact uz.o j'),nj,BU⟩
     simp [intOf];omega
    obtain rfl:jj=M.length:=ad;clear nX mP;go_wp2;go_roundw
    .exact ⟨ii+1,ad,rfl,by go_num,af (λi' j' h1 h2 h3=>by
     by_cases h4:i'<ii
     .exact pW.o i' j' h4 h2 h3
     obtain rfl:i'=ii:=ad;exact q_.o j' h2 h3),nj,BU⟩
    simp [intOf];omega
   obtain rfl:ii=M.length:=ad;have q2v:=wW.o.lenW;go_wp2_with fail;simp only [Exit.noGoto_normal,Exit.inBlock];go_roundw
   ·(repeat apply Exists.intro)
    exact ⟨⟨false,_,M,rfl,PG,HJ,af (λ_ i' j' h1 h2=>pW.o i' j' ad h1 h2),wW,mA⟩,rfl⟩
   simp [q2v,L5.o]
  | false=>
   have L5:=af tM;clear tM;go_wp2_with fail;refine wpIn_wide.2 ?_;have CS:lL (L.map Prod.snd) (M.map Prod.snd):=HJ.o _ (lL.done (by rw [U6];have:=HNP.o;simpa using this));have HJT:=af CS;obtain ⟨n,hn⟩:∃ n,n=wr.heap.size:=⟨_,rfl⟩;have hno:NO w.heap.size n D 0 w (.slice la M.length lc) (.slice none 0 0) M [] (wr.alloc (.cells #[.slice none 0 0] 57)):=
    ⟨HN.o.below.alloc (HN.o.below.size) _,((HN.o.row.mono (A':=λk=>k=w.heap.size\/k=w.heap.size+1\/n<=k) (λk hk=>by rcases hk with h|h|h;exact .inl (.inl h);exact .inl (.inr h);exact .inr ad)).below (Ea (Er _) _)),aZ.nil _ _ _,by simp [Value.ownBlock],ag.at hn,HN.o.rbx.alloc _,(DN _ _ _ (Q0.1 HD.o).1).trans HD.o,by simp [nJ],aj⟩
   have gO:=af hno;have uR:=af HN.o.vt;have hwn:w.heap.size+1<n:=by have:=HN.o.lbx.lt;omega
   have q1:=an.cell (Ea (Er wr) (.cells #[.slice none 0 0] 57)) ((HN.o.lbx.cells 0).1.trans (show _=some (Value.slice la M.length lc) from rfl));clear CS hno;go_wp2_with fail;rw [<- hn];have uo:=af hn;clear hn;go_loopw [13,100] (λ_ idx wr=>∃ (k:Nat) (ov:Value) (LO:List (Value × List Per)),k<=M.length/\idx=.int .i64 k/\Hid (NO w.heap.size n D k w (.slice la M.length lc) ov M LO wr)) (λ_ idx _=>M.length-(intOf idx).toNat)
   .exact ⟨0,_,[],ad,rfl,gO⟩
   obtain ⟨k,ov,LO,hk,rfl,HO⟩:=hrel;obtain ⟨oa,oc,rfl,_⟩:=HO.o.orow.form;have o1:=HO.o.obx.c0;by_cases lu:k<M.length
   .have fg:(k:Int)<M.length:=ad;rcases AV with h0|⟨g1,rfl⟩
    .omega
    obtain ⟨pH,m1,-⟩:=HO.o.lrow.get rfl lu;have Tq:Hid (nJ [] ((M.map Prod.snd).take (k+1))=tx (nJ [] ((M.map Prod.snd).take k)) (M.getD k default).2):=af (by
     rw [LF (by simpa using lu),xo_];simp [VS,lu])
    generalize M.getD k default=Y at *;obtain ⟨yv,yt⟩:=Y;dsimp only at m1 pH;obtain ⟨ya,yc,rfl,_⟩:=pH.form;have Ua:=af pH;have o2:=(HO.o.obx.alloc (.cells #[.slice ya yt.length yc] 78)).c0;clear pH;have hcon:=nv_ (λb=>w.heap.size<=b) _ (.slice oa LO.length oc) LO (.slice ya yt.length yc) yt wr.heap.size (wr.alloc (.cells #[.slice ya yt.length yc] 78)) (HO.o.orow.below (Ea (Er _) _)).mix (Ua.o.ext (Ea (Er _) _)) (ag.new wr _ 78).c0;have yH:=HO.o.obx.lt;have hzB:=HO.o.below.size;go_wp2_with (first|(go_at_call 107;refine hcon.mono ?_;rintro e w5 ⟨b,rfl,dL,hb5⟩;have fQ:=af dL;have bW:Hid (Below wr.heap.size wr w5):=af ((Ea (Er wr) _).trans (hb5.mono aj));have o3:=(HO.o.obx.below bW.o).c0;have o4:=an.cell hb5 (ag.new wr #[.slice ya yt.length yc] 78).c0;have od:=bW.o.size;clear dL hb5;cases b)|(at_builtin;refine Ja aC _ _ aC w.heap.size (λk=>k=w.heap.size\/k=w.heap.size+1\/k=n) (.slice oa LO.length oc) LO (.slice ya yt.length yc,yt) aC (HO.o.orow.below (Ea bW.o _)) ((Ua.o.ext (Ea bW.o _)).mono λb hb=>⟨hb.1,λh=>by rcases h with h|h|h;exact hb.2.1 (.inl h);exact hb.2.1 (.inr (.inl h));exact hb.2.1 (.inr (.inr ad)),λe=>hb.2.1 (.inr (.inr (HO.o.own b e)))⟩) _ _ aC aj aR (by have:=HO.o.len;omega) aR ?_;intro ga gc w6 GZ iX bG q6e;have jT:=((HO.o.obx.below bW.o).alloc (.cells #[.slice ya yt.length yc] 78)).grown iX (by rintro e;exact HO.o.orow.ne _ e.symm (.inr (.inr rfl)));have p1:=(jT.cells 0).1;have p2:=(jT.cells 0).2;have Ml:=af jT;have Mz:=af GZ;have ur:=af iX;have bR:=af bG;have Lf:=af q6e;clear jT GZ iX bG q6e))
    .have oJ:=Ea bW.o (.cells #[.slice ya yt.length yc] 78);go_roundw
     .refine ⟨k+1,.slice ga (LO.length+1) gc,LO ++ [(.slice ya yt.length yc,yt)],ad,by go_num,af ⟨?_,?_,?_,?_,?_,?_,?_,?_,?_⟩⟩
      .exact ((HO.o.below.trans (oJ.mono hzB)).trans bR.o).setCell (p:=⟨n,0,none⟩) (show w.heap.size<=n by omega) _
      .exact ((HO.o.lrow.below oJ).boxO ur.o λg hg=>.inr (.inr (HO.o.own g hg))).box (World.grownBy.set' ⟨rfl,rfl,rfl,TZ _,λ_ _ _=>rfl⟩ _) (.inr (.inr (TZ n)))
      .exact Mz.o.box (World.grownBy.set' ⟨rfl,rfl,rfl,TZ _,λ_ _ _=>rfl⟩ _) (.inr (.inr rfl))
      .intro g hg;rcases Lf.o with e|e
       .exact HO.o.own g (e ▸ hg)
       rw [e] at hg;cases hg;simp;omega
      .exact bE 0 _ Ml.o
      .exact ag.setNe ((HO.o.rbx.below oJ).grown ur.o (λe=>by have:=HO.o.own _ e.symm;omega)) _ ad
      .exact ((KeepsOthers.grown_cells (KeepsOthers.of_below oJ) ur.o (HO.o.orow.below oJ).row_cells).trans (K8 w6 _ _)).same D _ HO.o.dfr rfl
      .rw [UZ,HO.o.eq,Tq.o];exact (Sl (by rw [<- HO.o.eq];have:=fQ.o;simpa using this)).symm
      simp;exact HO.o.len
     simp [intOf];omega
    go_roundw
    .have h5:=HO.o.ext (TZ _) bW.o;exact ⟨k+1,_,LO,ad,by go_num,af { h5 with eq:=(by rw [Tq.o,SA (by rw [<- HO.o.eq];have:=fQ.o;simpa using this)];exact HO.o.eq),len:=Nat.le_succ_of_le HO.o.len }⟩
    simp [intOf];omega
   obtain rfl:k=M.length:=ad;have A9:=tr (λb=>w.heap.size<=b) (.slice oa LO.length oc) (LO.map Prod.snd) wr ⟨LO,rfl,HO.o.orow.mix⟩;have lZ:qk T (LO.map Prod.snd):=⟨_,_,qX.o,HJT.o,by rw [HO.o.eq,PM aj]⟩;have fo:∀ t∈LO.map Prod.snd,lj s t:=λt ht=>by
    rw [HO.o.eq,PM aj,Sq] at ht;rcases ht with ht|ht
    .simp at ht
    obtain ⟨x,hx,rfl⟩:=VC.1 ht;exact uR.o x hx
   have Mi:=af lZ;have zP:=af fo;clear lZ fo;go_wp2_with (go_at_call 49;refine A9.mono ?_;rintro e w7 ⟨rfl,ek⟩;have gV:=af ek;have h7:=HO.o.ext (TZ _) ek;have iJ:=af h7;have s1:=h7.obx.c0;have s2:=(h7.rbx.cells 0).1;have s3:=(h7.rbx.cells 0).2;clear h7 ek;cases hval:ef (LO.map Prod.snd));all_goals have lZ:=Mi.o
   all_goals have fo:=zP.o
   .have eu:ag (w7.setCell ⟨w.heap.size,0,none⟩ (.slice none 0 0)) w.heap.size #[.slice none 0 0] 57:=bE 0 _ iJ.o.rbx;have hM:cJ w.heap.size [{ target:=.collected D,args:=#[] }] (w7.setCell ⟨w.heap.size,0,none⟩ (.slice none 0 0)):=tw ad ((K8 w7 _ _).same D _ iJ.o.dfr rfl);have hrow:=iJ.o.orow.box (World.grownBy.set' (i:=0) ⟨rfl,rfl,rfl,TZ _,λ_ _ _=>rfl⟩ (.slice none 0 0)) (.inl rfl);refine ik (B:=w.heap.size) _ _ hM λw' hs=>?_;have hc:=ag.c0 (hs.cells _ _ eu rfl);refine ⟨.tuple #[.agg #[.slice none 0 0],.int .i64 2],by simp [results,Tryz.results106,go_sem,hc],.slice oa LO.length oc,LO.map Prod.snd,lZ,fo,((iJ.o.below).setCell (p:=⟨w.heap.size,0,none⟩) (TZ _) _).trans hs.below,.inr ⟨hval,rfl⟩⟩
   have eu:ag (w7.setCell ⟨w.heap.size,0,none⟩ (.slice oa LO.length oc)) w.heap.size #[.slice oa LO.length oc] 57:=bE 0 _ iJ.o.rbx;have hM:cJ w.heap.size [{ target:=.collected D,args:=#[] }] (w7.setCell ⟨w.heap.size,0,none⟩ (.slice oa LO.length oc)):=tw ad ((K8 w7 _ _).same D _ iJ.o.dfr rfl);have hrow:=iJ.o.orow.box (World.grownBy.set' (i:=0) ⟨rfl,rfl,rfl,TZ _,λ_ _ _=>rfl⟩ (.slice oa LO.length oc)) (.inl rfl);refine ik (B:=w.heap.size) _ _ hM λw' hs=>?_;have hc:=ag.c0 (hs.cells _ _ eu rfl);refine ⟨.tuple #[.agg #[.slice oa LO.length oc],.int .i64 0],by simp [results,Tryz.results106,go_sem,hc],.slice oa LO.length oc,LO.map Prod.snd,lZ,fo,((iJ.o.below).setCell (p:=⟨w.heap.size,0,none⟩) (TZ _) _).trans hs.below,.inl ⟨hval,rfl,LO,rfl,(hrow.shut hs).mix⟩⟩
end
section
open Go.RowKit Go.Maps Kal
theorem uh_ (c:Array Value) (n:Nat):(Builtin.zeroCells c n).size=n*c.size:=by simp [Builtin.zeroCells]
theorem vh_ (n:Nat) (w:World) (hn:n<=1000000) :
  Calls Tryz.prog 187 #[.slice none 0 0,.int .i64 (n:Int)] w λe w'=>∃ v,e=.returned v/\w'.ownsRow w.heap.size 80 4 v 0 []/\Below w.heap.size w w':=by
 obtain ⟨i0,hi0,hz0,hs0,hb0⟩:=Am;by_cases ep:0<n
 .have G1:∀ ty,(Builtin.append_ #[78,3] ty #[.slice none 0 0,.int .i64 (n:Int)]).run Tryz.prog w =
    .ok (.slice (some ⟨w.heap.size,0,none⟩) n (grownCap w n 0 80)) (w.drew.alloc (.cells (#[] ++ Builtin.zeroCells (Value.agg #[.slice none 0 0,.int .i64 0,.int .i64 0,.slice none 0 0]).cells n ++ Builtin.zeroCells (Value.agg #[.slice none 0 0,.int .i64 0,.int .i64 0,.slice none 0 0]).cells (grownCap w n 0 80-n)) 80)):=λty=>by
   have h:=Lib.run_append_grow_zeros w 78 3 ty 80 i0 (Value.agg #[.slice none 0 0,.int .i64 0,.int .i64 0,.slice none 0 0]) .i64 .i64 Tryz.underlying78 Tryz.underlying3 hi0 hz0 none 0 0 [] (run_firstCells_none w.drew i0.size 0 0 0) n ep ad ad ad (by rw [hb0];omega)
    (growslice_fits ad (by rw [hb0];omega))
   simpa using h
  have Pu:n<=grownCap w n 0 80:=grownCap_ge w _ _ _;have vM:=grownCap_le_maxLen w n 0 80 (by unfold maxLen;omega);obtain ⟨G,hG⟩:∃ G,G=grownCap w n 0 80:=⟨_,rfl⟩;rw [<- hG] at G1 Pu vM;have Pt:G<=9223372036854775807:=by unfold maxLen at vM;omega
  have zm:=af vM;clear hG vM;have Vu:(0:Int)<(n:Int):=ad
  go_in
  go_wp2_with (at_builtin;refine Lib.wpList_append_run _ rfl _ _ _ _ rfl _ _ rfl rfl _ _ (G1 _) ?_)
  go_ret;refine ⟨_,rfl,⟨rfl,.inr ⟨w.heap.size,G,_,rfl,TZ _,DP w.drew _,aj,zm.o,?_,aj⟩⟩,?_⟩
  .simp only [Array.size_append,uh_];simp [Value.cells];omega
  exact ((JV _ _).drew).alloc (TZ _) _
 obtain rfl:n=0:=ad
 go_in
 go_wp2
 go_ret;exact ⟨_,rfl,q8f _ _ _ _,JV _ _⟩
theorem Ws {a:Act} {Q:Exit->Act->World->Prop} (hgd:o.guard=none) (s x:Operand)
  (ho:o.op=.call { callee:=.builtin .append,args:=#[s,x],argTypes:=#[78,78] }) (base:Nat) (v xv:Value) (n m:Nat) (xs ys:List Value) (F:Nat->Prop) (hs:a.eval s=v) (hown:w.ownsRow base 80 4 v n xs)
  (hx:a.eval x=xv) (mW:b7 w F xv m ys) (yG:ys.length=m*4) (h1c:∀ u∈ys,u.oneCell'=true) (hlen:n+m<=1000000) (hbase:base<=w.heap.size)
  (h:∀ v' w',w'.ownsRow base 80 4 v' (n+m) (xs ++ ys)->w.grownBy w' v.ownBlock->wpList Tryz.prog ops Q rest (a.put o.dst v') w') :
  wpList Tryz.prog ops Q (o :: rest) a w:=by
 obtain ⟨i,hi,h1,h2,h3⟩:=Am;obtain ⟨xa,xc,rfl,g1,g2,g3⟩:=mW;refine wpList_plain hgd λK hK=>?_;rcases g3 with rfl|⟨b,off,rfl,_,_,hcell⟩
 .have yF:ys=[]:=NL ad;subst yF;have hrun:(Builtin.append_ #[78,78] o.type #[v,.slice xa 0 xc]).run Tryz.prog w=.ok v w:=by
   obtain ⟨r1,r2⟩:=hown;rcases r2 with ⟨rfl,r0⟩|⟨g,cap,cur,rfl,r5,r6,r7,r8,r9,YX⟩
   .cases xa <;> simp [Builtin.append_,run_underlying Tryz.underlying78,sizeOf,typeInfo,hi,Builtin.lenOf,Builtin.firstCells,loadCells,loadCellsFrom,storeCells]
   cases xa <;> simp [Builtin.append_,run_underlying Tryz.underlying78,sizeOf,typeInfo,hi,Builtin.lenOf,Builtin.firstCells,r7,loadCells,loadCellsFrom,storeCells]
  unfold Oper.wp execOp;simp only [ho,resolve,invoke,builtin,NM,L_,MM,QE,GB,Q6,hs,hx,hrun];exact hK _ _ (h v w (by simpa using hown) (P7 w _))
 obtain ⟨v',w',hrun,k2,k3,_,k5⟩:=q8g (P:=Tryz.prog) w base 78 o.type 80 i (Value.agg #[.slice none 0 0,.int .i64 0,.int .i64 0,.slice none 0 0]) 4 64 Tryz.underlying78 hi h1 h2 h3 rfl ad v n xs hown ⟨b,off,none⟩ m xc ys yG
  (λj u hu=>by rw [show (⟨b,off,none⟩:Addr).add j=⟨b,off+j,none⟩ from by simp [Addr.add]];exact hcell j u hu) h1c (by unfold maxLen;omega) ad hbase
 unfold Oper.wp execOp;simp only [ho,resolve,invoke,builtin,NM,L_,MM,QE,GB,Q6,hs,hx,hrun];exact hK _ _ (h v' w' k2 k3)
theorem Cr (h:w.ownsRow base 80 4 v n xs):∃ a c,v=.slice a n c:=by
 rcases h.2 with ⟨rfl,h0⟩|⟨g,cap,cur,rfl,_⟩
 .exact ⟨none,0,by rw [h0]⟩
 exact ⟨_,cap,rfl⟩
theorem qi_ (F1 F2:Nat->Prop) (b c:Nat) (v1 v2:Value) (n1 n2:Nat) (l1 l2:List Value) (w:World) (hb:qK w b #[v1,v2]) (h1:b7 w F1 v1 n1 l1) (h2:b7 w F2 v2 n2 l2) (g1:l1.length=n1*4) (g2:l2.length=n2*4)
  (o1:∀ u∈l1,u.oneCell'=true) (o2:∀ u∈l2,u.oneCell'=true) (hl:n1+n2<=1000000) (hc:2<=c) (hc1:c<=1000) :
  Calls Tryz.prog 138 #[.slice (some ⟨b,0,none⟩) 2 c] w λe w'=>∃ v,e=.returned v/\w'.ownsRow w.heap.size 80 4 v (n1+n2) (l1 ++ l2)/\Below w.heap.size w w':=by
 obtain ⟨a1,c1,rfl⟩:∃ a c,v1=.slice a n1 c:=by obtain ⟨a,c,e,_⟩:=h1;exact ⟨a,c,e⟩
 obtain ⟨a2,c2,rfl⟩:∃ a c,v2=.slice a n2 c:=by obtain ⟨a,c,e,_⟩:=h2;exact ⟨a,c,e⟩
 have q0:w.cell? ⟨b,0,none⟩=some (.slice a1 n1 c1):=(hb 0);have q1:w.cell? ⟨b,1,none⟩=some (.slice a2 n2 c2):=(hb 1);have H1:=λW (h:Below w.heap.size w W)=>h1.keep (aP.below h) h.size;have H2:=λW (h:Below w.heap.size w W)=>h2.keep (aP.below h) h.size;have HH1:=af H1;have HH2:=af H2;have uG:=af o1;have uH:=af o2;clear h1 h2 hb H1 H2 o1 o2
 go_in
 go_wp2_with fail
 go_loop [11,3] (λi n=>(i=.int .i64 0/\n=.int .i64 0)\/(i=.int .i64 1/\n=.int .i64 n1)\/(i=.int .i64 2/\n=.int .i64 (n1+n2))) (λi _=>2-(intOf i).toNat)
 .exact .inl ⟨rfl,rfl⟩
 rcases hrel with ⟨rfl,rfl⟩|⟨rfl,rfl⟩|⟨rfl,rfl⟩
 .go_wp2_with fail
  go_round
  .exact .inr (.inl ⟨rfl,rfl⟩)
  simp [intOf]
 .go_wp2_with fail
  go_round
  .exact .inr (.inr ⟨rfl,rfl⟩)
  simp [intOf]
 go_wp2_with (go_at_call 187;rw [show ((n1:Int)+(n2:Int))=((n1+n2:Nat):Int) from by push_cast;rfl];refine (vh_ (n1+n2) _ hl).mono ?_;rintro e w2 ⟨v2,rfl,hown2,hb2⟩;obtain ⟨va,vc,rfl⟩:=Cr hown2;obtain ⟨hc2,hf2⟩:=bd_ hb2;(try simp only [U7,Q1,fZ,O1] at hc2 hf2))
 have cE:Below w.heap.size w w2:=hb2;have fw:=af hown2;clear hown2 hb2 hc2 hf2;go_loopw [27,6] (λi ns wr=>((i=.int .i64 0/\wr.ownsRow w.heap.size 80 4 ns 0 [])\/(i=.int .i64 1/\wr.ownsRow w.heap.size 80 4 ns n1 l1)\/(i=.int .i64 2/\wr.ownsRow w.heap.size 80 4 ns (n1+n2) (l1 ++ l2)))/\Below w.heap.size w wr) (λi _ _=>2-(intOf i).toNat)
 .exact ⟨.inl ⟨rfl,fw.o⟩,cE⟩
 obtain ⟨hrel,dR⟩:=hrel;have q0:=an.cell dR q0;have q1:=an.cell dR q1;have mh:=dR.size;rcases hrel with ⟨rfl,hown⟩|⟨rfl,hown⟩|⟨rfl,hown⟩
 .obtain ⟨na,nc,rfl⟩:=Cr hown;have aO:=af hown;clear hown;go_wp2_with (at_builtin;refine Ws aC _ _ aC w.heap.size (.slice na 0 nc) (.slice a1 n1 c1) 0 n1 [] l1 F1 aC aO.o aC (HH1.o _ dR) g1 uG.o ad ad ?_;intro v5 w5 az aJ;rw [S1,L4] at az;obtain ⟨yK,yL,rfl⟩:=Cr az);go_roundw
  .exact ⟨.inr (.inl ⟨rfl,az⟩),dR.grown aJ dR.size (λk e=>(aO.o.lt k e).1)⟩
  simp [intOf]
 .obtain ⟨na,nc,rfl⟩:=Cr hown;have aO:=af hown;clear hown;go_wp2_with (at_builtin;refine Ws aC _ _ aC w.heap.size (.slice na n1 nc) (.slice a2 n2 c2) n1 n2 l1 l2 F2 aC aO.o aC (HH2.o _ dR) g2 uH.o ad ad ?_;intro v5 w5 az aJ;obtain ⟨yK,yL,rfl⟩:=Cr az);go_roundw
  .exact ⟨.inr (.inr ⟨rfl,az⟩),dR.grown aJ dR.size (λk e=>(aO.o.lt k e).1)⟩
  simp [intOf]
 obtain ⟨na,nc,rfl⟩:=Cr hown;have aO:=af hown;clear hown;go_wp2;go_ret;exact ⟨_,rfl,aO.o,dR⟩
theorem aF.form {F:Nat->Prop} (h:aF W F v m):∃ a c,v=.slice a m.length c:=by
 obtain ⟨L,rfl,hL⟩:=h;obtain ⟨a,c,rfl,_⟩:=hL.row.is;exact ⟨a,c,by rw [U6]⟩
theorem aF.set {u:Value} {b i:Nat} (h:aF W (λk=>n<=k) v m) (hb:b<n):aF (W.setCell ⟨b,i,none⟩ u) (λk=>n<=k) v m:=
 h.keep (λk hk _=>DO W ⟨b,i,none⟩ u k (by show k≠b;omega)) (by rw [O1];exact TZ _)
structure MV (s:Int) (m:List (List Per)):Prop where
 val:ef m=true
 vt:∀ t∈m,lj s t
theorem MV.len (h:MV s m):m.length<=64:=by
 have:=h.val;unfold ef at this;rw [NU,QN] at this;exact this.1
end
section
open Go.RowKit Go.Shelf Kal
attribute [local go_sem] GC
theorem gR.cells_one {F:Nat->Prop} (h:gR W F v L):∀ u∈L.flatMap PV.enc,u.oneCell'=true:=λu hu=>by
 obtain ⟨x,hx,hu⟩:=M7.1 hu;exact (h.all x hx).one u hu
theorem r9_ (h:W.ownsRow B 80 4 v L.length (L.flatMap PV.enc)) (hl:L.length<=1000000) (ha:∀ x∈L,∃ F,bD W F x):gR W (λ_=>True) v L:=by
 refine ⟨?_,ad,λx hx=>(ha x hx).choose_spec.mono λ_ _=>trivial⟩;obtain ⟨hl,⟨rfl,h2⟩|⟨g,cap,cur,rfl,hb,hg,h3,h4,h5,h6⟩⟩:=h
 .rw [h2];exact ⟨none,0,rfl,ad,ad,.inl rfl⟩
 refine ⟨_,cap,rfl,h3,h4,.inr ⟨g,0,rfl,trivial,(Q0.1 hg).1,λi u hi=>?_⟩⟩;rw [S1];have h7:W.ownsRow B 80 4 (.slice (some ⟨g,0,none⟩) L.length cap) L.length (L.flatMap PV.enc):=⟨hl,.inr ⟨g,cap,cur,rfl,hb,hg,h3,h4,h5,h6⟩⟩;have:=(GD.1 hi).1;rw [Cs] at this;exact (h7.cellAt i ad).trans hi
theorem qj_ (F1 F2:Nat->Prop) (b c:Nat) (v1 v2:Value) (t1 t2:List Per) (w:World) (hb:qK w b #[v1,v2]) (h1:bK w F1 v1 t1) (h2:bK w F2 v2 t2) (hl:t1.length+t2.length<=1000000) (hc:2<=c) (hc1:c<=1000) :
  Calls Tryz.prog 138 #[.slice (some ⟨b,0,none⟩) 2 c] w λe w'=>∃ v,e=.returned v/\bK w' (λ_=>True) v (t1 ++ t2)/\Below w.heap.size w w':=by
 obtain ⟨L1,rfl,gn⟩:=h1;obtain ⟨L2,rfl,hL2⟩:=h2;rw [U6,U6] at hl;refine (qi_ F1 F2 b c v1 v2 _ _ _ _ w hb gn.row hL2.row Cs Cs gn.cells_one hL2.cells_one hl hc hc1).mono ?_;rintro e w' ⟨v,rfl,hr,hbl⟩;refine ⟨v,rfl,⟨L1 ++ L2,by rw [UZ],r9_ (by rw [MB,MC];exact hr) (by rw [MB];exact hl) λx hx=>?_⟩,hbl⟩;rcases VJ.1 hx with hx|hx
 .exact ⟨_,(gn.all x hx).keep (aP.below hbl)⟩
 exact ⟨_,(hL2.all x hx).keep (aP.below hbl)⟩
theorem XW (v1 v2:Value) (w:World) (h1:∃ a n c,v1=.slice a n c) (h2:∃ a n c,v2=.slice a n c) :
  Calls Tryz.prog 105 #[.agg #[v1],.agg #[v2]] w λe w'=>e=.returned (.func (.func 137) #[] #[.pointer (some ⟨w.heap.size,0,none⟩),.pointer (some ⟨w.heap.size+1,0,none⟩)])/\w'=(w.alloc (.cells #[v1] 57)).alloc (.cells #[v2] 57):=by
 obtain ⟨a,n,c,rfl⟩:=h1;obtain ⟨a',n',c',rfl⟩:=h2
 go_in
 go_wp2;go_ret;exact ⟨rfl,rfl⟩
theorem w8_ {m1 m2:List (List Per)} {x:List Per} (hk:m1[k]? = some x):dY (m1.take (k+1)) m2=dY (m1.take k) m2 ++ m2.map (x ++ ·):=by
 obtain ⟨h1,rfl⟩:=GD.1 hk;unfold dY;rw [LF h1,MC];simp
theorem r0_ {m1 m2:List (List Per)} {x y:List Per} (hk:m1[k]? = some x) (hj:m2[j]? = some y):∃ r,dY m1 m2=(dY (m1.take k) m2 ++ (m2.take j).map (x ++ ·)) ++ (x ++ y) :: r:=by
 obtain ⟨h1,rfl⟩:=GD.1 hk;obtain ⟨h2,rfl⟩:=GD.1 hj;refine ⟨(m2.drop (j+1)).map (m1[k] ++ ·) ++ dY (m1.drop (k+1)) m2,?_⟩;have e1:m1=m1.take k ++ m1[k] :: m1.drop (k+1):=by rw [<- GE h1,S0]
 have e2:m2=m2.take j ++ m2[j] :: m2.drop (j+1):=by rw [<- GE h2,S0]
 have e3:m2.map (m1[k] ++ ·)=(m2.take j).map (m1[k] ++ ·) ++ (m1[k] ++ m2[j]) :: (m2.drop (j+1)).map (m1[k] ++ ·):=by
  conv=>lhs;rw [e2]
  simp only [UZ,GB]
 have e4:dY m1 m2=dY (m1.take k) m2 ++ (m2.map (m1[k] ++ ·) ++ dY (m1.drop (k+1)) m2):=by
  conv=>lhs;rw [e1]
  unfold dY;rw [MC,S3]
 rw [e4,e3];simp
theorem cI.at {F:Nat->Prop} {L:List (Value × List Per)} (h:cI W F v L) (hk:k<L.length):∃ b o c a n c' x,v=.slice (some ⟨b,o,none⟩) L.length c/\W.cell? ⟨b,o+k,none⟩=some (.slice a n c')/\bK W F (.slice a n c') x/\(L.map Prod.snd)[k]? = some x:=by
 obtain ⟨a',c,rfl,_,_,h3⟩:=h.row.is;rcases h3 with h0|⟨b,o,rfl,hF,hb,hcell⟩
 .omega
 have kR:=h.all _ (dI (d:=default) hk);obtain ⟨a,c',e,_⟩:=kR.form;refine ⟨b,o,c,a,_,c',(L.getD k default).2,rfl,?_,by rw [<- e];exact kR,by rw [OA,VS,U2 hk];rfl⟩;rw [<- e];exact hcell k _ (by rw [OA,VS,U2 hk];rfl)
theorem de.lt {wr:World} (h:de (λk=>k<n) W wr) (hn:n<=W.heap.size) (hk:k<n):k<wr.heap.size:=by
 have h1:=h k hk;rw [zo (show k<W.heap.size by omega)] at h1;exact (Q0.1 h1).1
theorem XX (F1 F2:Nat->Prop) (v1 v2:Value) (m1 m2:List (List Per)) (b1 b2:Nat) (w:World) (h1:aF w F1 v1 m1) (h2:aF w F2 v2 m2) (hb1:w.cell? ⟨b1,0,none⟩=some v1) (hb2:w.cell? ⟨b2,0,none⟩=some v2) (fA:∀ t∈m1,t.length<=500000) (hl2:∀ t∈m2,t.length<=500000) :
  KT 137 #[.pointer (some ⟨b1,0,none⟩),.pointer (some ⟨b2,0,none⟩)] (dY m1 m2) w:=by
 refine ⟨enters_of Tryz.func137 (by kernel_rfl) rfl,λW0 hW0=>?_⟩;obtain ⟨L1,PQ,gn⟩:=h1;obtain ⟨L2,UW,hL2⟩:=h2;intro l' J W hW hJ hY rP;have hlt1:=N8 w _ hb1;have hlt2:=N8 w _ hb2;have xV:Below w.heap.size w W:=hW0.trans (hW.mono hW0.size);have wG:=xV.size;have c1:=an.cell xV hb1;have c2:=an.cell xV hb2;obtain ⟨a1,k1,rfl,_,_,_⟩:=gn.row.is;obtain ⟨a2,k2,rfl,_,_,_⟩:=hL2.row.is;have mS:=gn.len;have CW:=hL2.len;have H1:Hid (∀ wr,de (λk=>k<w.heap.size) W wr->cI wr (λb=>F1 b/\b<w.heap.size) (.slice a1 L1.length k1) L1):=af λwr h=>gn.lt.keep2 λb hb _=>(h b hb.2).trans (xV.block b hb.2);have H2:Hid (∀ wr,de (λk=>k<w.heap.size) W wr->cI wr (λb=>F2 b/\b<w.heap.size) (.slice a2 L2.length k2) L2):=af λwr h=>hL2.lt.keep2 λb hb _=>(h b hb.2).trans (xV.block b hb.2);have q6g:=af PQ;have T9:=af UW;have HJ:=af hJ;have HY:=af hY;have HL1:=af fA;have fG:=af hl2;clear gn hL2 PQ UW hJ hY hb1 hb2 fA hl2;refine K6 Tryz.func137 rfl trivial ?_ rfl;simp only [Tryz.ntmps137,NG,MH,M4,Nat.reduceAdd,Nat.reduceSub,N0,K7,Q3,QG,L4,S5];gi_wp2_with fail;gi_loopw [5,7,11] (λ_ _ i wr=>∃ (k:Nat) (pre:List (Value × List Per)),k<=L1.length/\i=.int .i64 k/\Hid (pre.map Prod.snd=dY (m1.take k) m2)/\J pre wr/\de (λk=>k<w.heap.size) W wr) (λ_ _ i _=>L1.length-(intOf i).toNat)
 .exact ⟨0,[],ad,rfl,af rfl,rP,λ_ _=>rfl⟩
 obtain ⟨k,pre,hk,rfl,HP,dK,hK⟩:=hrel;have HK:=af hK;have jy:=af dK;by_cases hlt:k<L1.length
 .have cP:(k:Int)<L1.length:=ad;obtain ⟨b8,f8,c8,xa,xn,xc,x,he,e0,nX,hmx⟩:=(H1.o wr hK).at hlt;cases he;rw [q6g.o] at hmx;have uF:=af hmx;have c2r:=(QM (w:=W) (w':=wr) (a:=⟨b2,0,none⟩) (hK b2 hlt2)).trans c2;have IY:=af (HL1.o x (LH hmx));have HTX:=af nX;clear nX hmx hK dK;gi_wp2_with fail;gi_loopw [7,18] (λ_ i wr=>∃ (j:Nat) (pre:List (Value × List Per)),j<=L2.length/\i=.int .i64 j/\Hid (pre.map Prod.snd=dY (m1.take k) m2 ++ (m2.take j).map (x ++ ·))/\J pre wr/\de (λk=>k<w.heap.size) W wr) (λ_ i _=>L2.length-(intOf i).toNat)
  .exact ⟨0,pre,ad,rfl,af (by rw [HP.o];simp),jy.o,HK.o⟩
  obtain ⟨j,pre,hj,rfl,kU,dK,hK⟩:=hrel;have te:=af hK;have nk:=af dK;by_cases dE:j<L2.length
  .have sm:(j:Int)<L2.length:=ad;obtain ⟨b9,f9,c9,ya,yn,yc,y,he,e1,pH,wh⟩:=(H2.o wr hK).at dE;cases he;rw [T9.o] at wh;have nX:=HTX.o.keep2 (W':=wr) (λb hb _=>(hK b hb.2).trans (HK.o b hb.2).symm);have yG:=fG.o y (LH wh);have n_:=IY.o;have HC:=qj_ _ _ wr.heap.size 2 (.slice xa xn xc) (.slice ya yn yc) x y (wr.alloc (.cells #[.slice xa xn xc,.slice ya yn yc] 78)) (λi=>((ag.new wr _ 78).cells i).1) (nX.ext (Ea (Er wr) _)) (pH.ext (Ea (Er wr) _)) ad ad ad;obtain ⟨r0,jq⟩:=r0_ uF.o wh;have tj:=af jq;have qZ:=af wh;clear nX pH wh jq yG n_;gi_wp2_with (refine ⟨trivial,rfl,?_⟩;gi_at_call 138;refine (VL.2 HC).mono ?_;rintro e w3 ⟨v3,rfl,sL,hb3⟩;obtain ⟨za,zc,rfl,_⟩:=sL.form;rw [MB] at sL;have hb4:=(Ea (Er wr) (.cells #[.slice xa xn xc,.slice ya yn yc] 78)).trans (hb3.mono aj);have hJ3:=HJ.o pre wr w3 none dK (World.grownBy.of_below hb4 none) (λr e=>by cases e);have vL:wT (dY m1 m2) pre (.slice za (x.length+y.length) zc,x ++ y) w3:=⟨⟨r0,by rw [kU.o];exact tj.o⟩,_,sL⟩;obtain ⟨fn,tmps,assign,body,i_,hR⟩:=HY.o pre _ w3 hJ3 vL;unfold sX at i_;have HR:=af hR;have cR:=af hb4;clear vL hJ3 hR hb3 hb4 sL);refine ⟨rfl,HR.o.mono ?_⟩;rintro e W' ⟨rfl,gS,eQ⟩
   gi_wp2
   go_roundw
   .exact ⟨j+1,pre ++ [(.slice za (x.length+y.length) zc,x ++ y)],ad,by go_num,af (by rw [UZ,kU.o,QL];congr 1;obtain ⟨h1,rfl⟩:=GD.1 qZ.o;rw [LF h1,UZ];rfl),gS,(te.o.trans (λb hb=>cR.o.block b (te.o.lt wG hb))).trans eQ⟩
   simp [intOf];omega
  obtain rfl:j=L2.length:=ad;clear hK dK
  gi_wp2
  go_roundw
  .exact ⟨k+1,pre,ad,by go_num,af (by rw [kU.o,w8_ uF.o,PM (l:=m2) (by rw [<- T9.o];simp)]),nk.o,te.o⟩
  simp [intOf];omega
 obtain rfl:k=L1.length:=ad;clear hK dK
 gi_wp2
 refine bodyPost_end (QX rfl _ _ _) rfl ?_;refine ⟨⟨_,rfl⟩,pre,?_,jy.o⟩;show _=_;rw [HP.o,PM (l:=m1) (by rw [<- q6g.o];simp)]
end
section
open Go.RowKit Go.Maps Kal
theorem MV.tlen (h:MV s m):∀ t∈m,t.length<=4:=λt ht=>by
 have h1:=h.val;unfold ef at h1;rw [NU] at h1;have h2:=MI.1 h1.2 t ht;unfold gZ at h2;rw [NU,NU,QN,QN] at h2;exact h2.1.2
theorem Wn:∀ {a b:List (List Per)},(dY a b).length=a.length*b.length
 | [],b=>by simp [dY]
 | x :: a,b=>by
  have h:=Wn (a:=a) (b:=b);have e:dY (x :: a) b=b.map (x ++ ·) ++ dY a b:=rfl;rw [e,MB,U6,h,MH,Q_,Nat.add_comm]
theorem yf_ (s:Int) (F1 F2:Nat->Prop) (v1 v2:Value) (m1 m2:List (List Per)) (w:World) (h1:aF w F1 v1 m1) (h2:aF w F2 v2 m2) (k1:MV s m1) (k2:MV s m2) :
  Calls Tryz.prog 58 #[.agg #[v1],.agg #[v2]] w (Gk s (dY m1 m2) w):=by
 have ou:=λW (h:Below w.heap.size w W)=>tr F1 v1 m1 W (h1.ext h);have nw:=λW (h:Below w.heap.size w W)=>tr F2 v2 m2 W (h2.ext h);rw [k1.val] at ou;rw [k2.val] at nw;have l1:=k1.len;have l2:=k2.len;have uR:Hid (∀ t∈dY m1 m2,lj s t):=af λt ht=>by
  obtain ⟨x,hx,y,hy,rfl⟩:=Jk.1 ht;refine ⟨λe=>(k1.vt x hx).ne (q7t.1 e).1,λp hp=>(VJ.1 hp).elim ((k1.vt x hx).fv p) ((k2.vt y hy).fv p),?_⟩;rw [MB];have:=k1.tlen x hx;have:=k2.tlen y hy;omega
 have hpl:(dY m1 m2).length<=4096:=by rw [Wn];exact Nat.mul_le_mul l1 l2
 have kT:=λW (h:Below w.heap.size w W) b1 b2 hb1 hb2=>XX F1 F2 v1 v2 m1 m2 b1 b2 W (h1.ext h) (h2.ext h) hb1 hb2 (λt ht=>by have:=k1.tlen t ht;omega) (λt ht=>by have:=k2.tlen t ht;omega);obtain ⟨a1,c1,rfl⟩:=h1.form;obtain ⟨a2,c2,rfl⟩:=h2.form;have hit:=af kT;clear h1 h2 k1 k2 kT
 go_in
 go_wp2_with (first|(go_at_call 49;first
   | ((with_reducible refine (ou _ xE).mono ?_);rintro e w1 ⟨rfl,hb1⟩;have b0:ag w1 w.heap.size #[.slice a1 m1.length c1] 57:=ag.below xB hb1;have b1:ag w1 (w.heap.size+1) #[.slice a2 m2.length c2] 57:=ag.below xB hb1;have b2:ag w1 (w.heap.size+1+1) #[.slice none 0 0] 57:=ag.below xB hb1;have x0:=b0.c0;have x1:=b1.c0;have hW1:Below w.heap.size w w1:=by exact xE)
   | ((with_reducible refine (nw _ xE).mono ?_);rintro e w2 ⟨rfl,hb2⟩;have d0:=b0.below hb2;have d1:=b1.below hb2;have d2:=b2.below hb2;have y0:=d0.c0;have y1:=d1.c0;have hW2:Below w.heap.size w w2:=by exact xE))|(go_at_call 105;refine (XW _ _ _ ⟨_,_,_,rfl⟩ ⟨_,_,_,rfl⟩).mono ?_;rintro e w4 ⟨rfl,rfl⟩;have hz2:=d2.lt)|(go_at_call 106;refine (Xi s _ _ (dY m1 m2) _ (hit.o _ (Ea (Ea hW2 _) _) w2.heap.size (w2.heap.size+1) ((ag.new w2 #[.slice a1 m1.length c1] 57).alloc (.cells #[.slice a2 m2.length c2] 57)).c0 (ag.at (w:=w2.alloc (.cells #[.slice a1 m1.length c1] 57)) (c:=#[.slice a2 m2.length c2]) (t:=57) aj).c0) uR.o ad).mono ?_;rintro e w5 ⟨v,m,hN,fo,hb5,hres⟩;have g2:=((d2.alloc (.cells #[.slice a1 m1.length c1] 57)).alloc (.cells #[.slice a2 m2.length c2] 57)).below hb5;have s1:=(g2.cells 0).1;have s2:=(g2.cells 0).2;have CG:Below w.heap.size w w5:=Et (Ea (Ea hW2 _) _) hb5;have HN:=af hN;have zP:=af fo;have G2:=af g2;clear hN fo g2;rcases hres with ⟨hval,rfl,ly⟩|⟨hval,rfl⟩;(obtain ⟨xa,xc,rfl⟩:=ly.form)))
 .have hcc:=ag.c0 (w:=w5.setCell ⟨w.heap.size+1+1,0,none⟩ (.slice xa m.length xc)) (bE 0 (.slice xa m.length xc) G2.o);refine VN (v:=.tuple #[.agg #[.slice xa m.length xc],.int .i64 0]) (by simp [results,Tryz.results58,go_sem,hcc]) rfl ⟨_,m,HN.o,zP.o,CG.setCell (p:=⟨w.heap.size+1+1,0,none⟩) (by show w.heap.size<=w.heap.size+1+1;omega) _,.inl ⟨hval,rfl,?_⟩⟩;exact (ly.set (b:=w.heap.size+1+1) aR).mono λb (hb:_<=b)=>by simp at hb;omega
 have hcc:=ag.c0 (w:=w5.setCell ⟨w.heap.size+1+1,0,none⟩ (.slice none 0 0)) (bE 0 (.slice none 0 0) G2.o);exact VN (v:=.tuple #[.agg #[.slice none 0 0],.int .i64 2]) (by simp [results,Tryz.results58,go_sem,hcc]) rfl ⟨.slice none 0 0,m,HN.o,zP.o,CG.setCell (p:=⟨w.heap.size+1+1,0,none⟩) (by show w.heap.size<=w.heap.size+1+1;omega) _,.inr ⟨hval,rfl⟩⟩
theorem wt_ (h:ef m=true):∀ t∈m,TV t/\t≠[]:=λt ht=>by
 unfold ef at h;rw [NU] at h;have h2:=MI.1 h.2 t ht;unfold gZ at h2;rw [NU,NU,QN,QN] at h2;exact ⟨λp hp=>MI.1 h2.2 p hp,λe=>by have:=h2.1.1;rw [e] at this;simp at this⟩
open Classical in
noncomputable def jI (t:List Per):Bool:=decide (jG t)
theorem Yg:jI t=true↔jG t:=by simp [jI]
theorem qg_ {c:Bool} (h:b=true↔c=true):b=c:=by cases b <;> cases c <;> simp_all
theorem Nj (h:b=true↔jG t):b=jI t:=qg_ (h.trans Yg.symm)
theorem q5f:(¬ (!jI t)=true)↔jG t:=by rw [<- Yg];cases jI t <;> simp
theorem sx_ (F:Nat->Prop) (v:Value) (t:List Per) (w:World) (ht:bK w F v t) (hv:TV t) :
  Calls Tryz.prog 108 #[v] w λe w'=>e=.returned (.bool (!jI t))/\Below w.heap.size w w':=by
 have H:=q7j F v t w ht hv;obtain ⟨a,c,rfl,_⟩:=ht.form;clear ht hv
 go_in
 go_wp2_with (go_at_call 109;refine H.mono ?_;rintro e w1 ⟨b,rfl,hb,hb1⟩;have HB:=af hb;clear hb)
 go_ret;exact ⟨by rw [Nj HB.o];rfl,hb1⟩
theorem sf_ (F:Nat->Prop) (v:Value) (m:List (List Per)) (w:World) (hm:aF w F v m) (hv:∀ t∈m,TV t) :
  Calls Tryz.prog 107 #[v,.func (.func 108) #[] #[]] w λe w'=>e=.returned (.bool (m.any λt=>!jI t))/\Below w.heap.size w w':=by
 obtain ⟨L,rfl,hL⟩:=hm;have h:=OU F v L (λx=>!jI x.2) 108 #[] (enters_of Tryz.func108 (by kernel_rfl) rfl) w hL.row hL.len (λW x hW hx=>by
  have h:=sx_ F x.1 x.2 W ((hL.all x hx).ext hW) (hv _ (VC.2 ⟨x,hx,rfl⟩));have e:(#[x.1] ++ (#[]:Array Value))=#[x.1]:=by simp
  rw [e];exact h.mono λe w' ⟨h1,h2⟩=>⟨h1,hW.trans (h2.mono hW.size)⟩)
 rw [List.any_map];exact h
theorem to_ (F:Nat->Prop) (v:Value) (m:List (List Per)) (w:World) (hm:aF w F v m) :
  Calls Tryz.prog 59 #[.agg #[v]] w λe w'=>∃ b,e=.returned (.bool b)/\(b=true↔ef m=true/\∀ t∈m,jG t)/\Below w.heap.size w w':=by
 have HV:=λW h=>tr F v m W (hm.ext h);obtain ⟨a,c,rfl⟩:=hm.form;cases hq:ef m with
 | false=>
  rw [hq] at HV;clear hm hq
  go_in
  go_wp2_with (go_at_call 49;refine (HV _ xE).mono ?_;rintro e w1 ⟨rfl,hb1⟩)
  go_ret;exact ⟨false,rfl,⟨λh=>absurd h aG,λh=>absurd h.1 aG⟩,xE⟩
 | true=>
  rw [hq] at HV;have HA:=λW (h:Below w.heap.size w W)=>sf_ F (.slice a m.length c) m W (hm.ext h) (λt ht=>(wt_ hq t ht).1);have HI:Hid ((m.any (λt=>!jI t)=false)↔∀ t∈m,jG t):=af (by rw [List.any_eq_false];exact forall_congr' λt=>forall_congr' λ_=>by exact q5f);clear hm hq;generalize m.any (λt=>!jI t)=b at *
  go_in
  go_wp2_with (first|(go_at_call 49;refine (HV _ xE).mono ?_;rintro e w1 ⟨rfl,hb1⟩;have hbx:ag w1 w.heap.size #[.slice a m.length c] 57:=ag.below xB hb1;have x0:=hbx.c0;have hW1:Below w.heap.size w w1:=by exact xE)|(go_at_call 107;refine (HA _ hW1).mono ?_;rintro e w2 ⟨rfl,hb2⟩;have hW2:Below w.heap.size w w2:=Et hW1 hb2))
  go_ret;exact ⟨!b,by first|rfl|simp,⟨λh=>⟨by first|rfl|trivial,HI.o.1 (by simpa using h)⟩,λh=>by simpa using HI.o.2 h.2⟩,hW2⟩
theorem wu_ (h:lj s t):gZ t=true↔t.length<=4:=by
 unfold gZ;rw [NU,NU,QN,QN,MI];exact ⟨λg=>g.1.2,λg=>⟨⟨YA.2 h.ne,g⟩,λp hp=>(h.fv p hp).validB⟩⟩
theorem Ad (h:∀ t∈m,lj s t):ef m=true↔Ao m:=by
 unfold ef Ao;rw [NU,QN,MI];exact and_congr MT (forall_congr' λt=>forall_congr' λht=>wu_ (h t ht))
theorem Gk.num {T:List (List Per)} {e:Ending} (h:Gk s T w e w'):∃ (a:Option Addr) (c:Nat) (k:Int) (mk:List (List Per)),e=.returned (.tuple #[.agg #[.slice a mk.length c],.int .i64 k])/\aF w' (λb=>w.heap.size<=b) (.slice a mk.length c) mk/\Below w.heap.size w w'/\
  ((k=0/\qk T mk/\MV s mk)\/(k=2/\a=none/\c=0/\mk=[]/\∃ m,qk T m/\¬ Ao m)):=by
 obtain ⟨v,m,hN,fo,hb,⟨hval,rfl,hm⟩|⟨hval,rfl⟩⟩:=h
 .obtain ⟨a,c,rfl⟩:=hm.form;exact ⟨a,c,0,m,rfl,hm,hb,.inl ⟨rfl,hN,hval,fo⟩⟩
 exact ⟨none,0,2,[],rfl,⟨[],rfl,⟨none,0,rfl,aj,ad,.inl rfl⟩,aj,aj⟩,hb,.inr ⟨rfl,rfl,rfl,rfl,m,hN,λg=>by rw [(Ad fo).2 g] at hval;cases hval⟩⟩
theorem q4k (h:bK W (λb=>n<=b) v t) (hn:n<=W.heap.size) :
  aF (W.alloc (.cells #[v] 78)) (λb=>n<=b) (.slice (some ⟨W.heap.size,0,none⟩) 1 1) [t]:=by
 have hb:=ag.new W #[v] 78;refine ⟨[(v,t)],rfl,⟨_,1,rfl,aj,ad,.inr ⟨W.heap.size,0,rfl,hn,hb.lt,λi u hi=>?_⟩⟩,aj,λx hx=>?_⟩
 .cases i with
  | zero=>rw [show u=v by simpa using hi.symm];exact hb.c0
  | succ i=>simp at hi
 rw [N2] at hx;subst hx;exact h.ext (Ea (Er W) _)
noncomputable def ofM (p:Per):List (List Per):=if Ap (canonC p.mem) then [] else [[canonC p.mem]]
def Oa (m:List (List Per)) (w:World) (e:Ending) (w':World):Prop:=∃ (a:Option Addr) (c:Nat),e=.returned (.agg #[.slice a m.length c])/\aF w' (λb=>w.heap.size<=b) (.slice a m.length c) m/\Below w.heap.size w w'
theorem q3h (s:Int) (h c:Value) (p:Per) (w:World) (hp:cj w h c p) (hv:FV s p) :
  Calls Tryz.prog 53 #[ar h c p.frm p.period] w (Oa (ofM p) w):=by
 have HC:=λW (hb:Below w.heap.size w W)=>Ya s h c p W (hp.ext hb) hv;simp only [ar] at HC
 go_in
 go_wp2_with (first|(go_at_call 98;((with_reducible refine (HC _ (Ea (Ea (Er w) _) _)).mono ?_);rintro e w1 ⟨h',c',rfl,ho,hb1⟩;obtain ⟨xa,xn,xc,ya,yn,yc,rfl,rfl⟩:=(ho.pv (hv.canon).2).form;have ho2:=af (ho.pv (hv.canon).2);have hW1:Below w.heap.size w w1:=Et (Ea (Ea (Er w) _) _) hb1;have HO:=af ho;have B2:=af (show ag w1 (w.heap.size+1) #[.slice none 0 0] 57 from ag.below xB hb1);clear ho hb1))|(go_at_call 99;(with_reducible refine (v7_ (.slice xa xn xc) (.slice ya yn yc) (canonC p.mem) _ (HO.o.is.ext (Ea (Er w1) _))).mono ?_);rintro e w2 ⟨rfl,hb2⟩;have bl:=af hb2;have X3:=((ag.new w1 #[.slice xa xn xc,.int .i64 (canonC p.mem).frm,.int .i64 (canonC p.mem).period,.slice ya yn yc] 80).below hb2);have X2:=((B2.o.alloc (.cells #[.slice xa xn xc,.int .i64 (canonC p.mem).frm,.int .i64 (canonC p.mem).period,.slice ya yn yc] 80)).below hb2);have e2:=X2.c0;have f2:=(X2.cells 0).2;have e3:=(X3.cells 0).1;have e4:=(X3.cells 1).1;have e5:=(X3.cells 2).1;have e6:=(X3.cells 3).1;have Ng:=(X2.alloc (.cells #[.slice xa xn xc,.int .i64 (canonC p.mem).frm,.int .i64 (canonC p.mem).period,.slice ya yn yc] 80)).alloc (.cells #[.slice (some { block:=w2.heap.size,off:=0 }) 1 1] 78);have e7:=Ng.c0;have e8:=(Ng.cells 0).2;clear hb2;obtain ⟨eb,Qn⟩:∃ eb,eb=Ap (canonC p.mem):=⟨_,rfl⟩;rw [<- Qn];have DD:=af Qn;clear Qn;rcases eb))
 .have hc2:=ag.c0 (bE 0 (.slice (some ⟨w2.heap.size+1,0,none⟩) 1 1) Ng);have E1:Below w.heap.size w ((((w2.alloc (.cells #[.slice xa xn xc,.int .i64 (canonC p.mem).frm,.int .i64 (canonC p.mem).period,.slice ya yn yc] 80)).alloc (.cells #[.slice (some { block:=w2.heap.size,off:=0 }) 1 1] 78)).setCell ⟨w.heap.size+1,0,none⟩ (.slice (some ⟨w2.heap.size+1,0,none⟩) 1 1))):=(Ea (Ea (Et (Ea hW1 _) bl.o) _) _).setCell (p:=⟨w.heap.size+1,0,none⟩) (show w.heap.size<=w.heap.size+1 by omega) _;have h0:=B2.o.lt;have hz:w1.heap.size+1<=w2.heap.size:=by have:=bl.o.size;rwa [U7] at this
  have h1:=(ho2.o.keep (aP.below (Ea (Er w1) _))).keep (aP.below bl.o);have h2:=q6i (n:=w.heap.size+1) (W:=w2) (h1.mono λb hb=>⟨by simp only [U7] at hb;omega,by simp only [U7] at hb;omega⟩) (by have:=bl.o.size;simp only [U7] at this;omega);have h3:=q4k (n:=w.heap.size+1+1) (h2.mono (G:=λb=>w.heap.size+1+1<=b) λb hb=>by have:=bl.o.size;simp only [U7] at this;have hb':w.heap.size+1<=b/\(b≠w.heap.size+1\/b=w2.heap.size):=hb;show w.heap.size+1+1<=b;omega) (by rw [U7];omega);have h4:=aF.set (i:=0) (u:=.slice (some ⟨w2.heap.size+1,0,none⟩) 1 1) h3 (b:=w.heap.size+1) ad;have e:ofM p=[[canonC p.mem]]:=by rw [ofM,<- DD.o];rfl
  rw [U7] at h4;refine VN (v:=.agg #[.slice (some ⟨w2.heap.size+1,0,none⟩) 1 1]) (by simp [results,Tryz.results53,go_sem,hc2]) rfl ⟨_,1,by rw [e];rfl,?_,E1⟩;rw [e];exact h4.mono λb hb=>ad
 have hc2:=ag.c0 (bE 0 (.slice none 0 0) X2);have E1:Below w.heap.size w (w2.setCell ⟨w.heap.size+1,0,none⟩ (.slice none 0 0)):=(Et (Ea hW1 _) bl.o).setCell (p:=⟨w.heap.size+1,0,none⟩) (show w.heap.size<=w.heap.size+1 by omega) _;have e:ofM p=[]:=by rw [ofM,<- DD.o];rfl
 refine VN (v:=.agg #[.slice none 0 0]) (by simp [results,Tryz.results53,go_sem,hc2]) rfl ⟨none,0,by rw [e];rfl,?_,E1⟩;rw [e];exact ⟨[],rfl,⟨none,0,rfl,aj,ad,.inl rfl⟩,aj,aj⟩
end
end Go.Proofs.YtbmgmlbmgogeaaaGreat
namespace Kal
section
structure kC (a m x y u v:Int) (U V:Int):Prop where
 x1:1<=x
 xy:x<y
 ym:y<=m
 gu:m∣a*u-x
 gv:m∣a*v-y
 cop:Int.gcd x y=1
 u1:-U<=u/\u<=U
 v1:-V<=v/\v<=V
 pos:0<=U/\0<=V
 le:x*V+y*U<=m
theorem kC.start {m:Int} (ha:0<=a) (hm:2<=m) (h:Int.gcd a m=1):kC a m (a % m) m 1 0 1 0:=by
 have h0:=VK a (show m≠0 by omega);have h1:=VM a (show 0<m by omega);have hg:Int.gcd (a % m) m=1:=by rw [Kn ha ad];exact h
 refine ⟨?_,h1,ad,?_,⟨-1,ad⟩,hg,ad,ad,ad,ad⟩
 .rcases NC 0 (a % m) with h2|h2
  .omega
  have e:a % m=0:=ad;rw [e,Int.gcd_zero_left] at hg;omega
 rw [GS];exact u_ (A7 a (Int.dvd_refl m)).symm
theorem kC.step {m u v U V:Int} (h:kC a m x y u v U V) (hx:1<x) :
  kC a m (y-y / x*x) x (v-y / x*u) u (V+y / x*U) U/\0<=y / x/\y / x<=y/\y / x*x<=y/\0<=y / x*x/\-m<=y / x*u/\y / x*u<=m/\-m<=v-y / x*u/\v-y / x*u<=m:=by
 obtain ⟨x1,xy,ym,gu,gv,cop,u1,v1,pos,le⟩:=h;have e0:=VK y (show x≠0 by omega);have e1:=VM y (show 0<x by omega);have em:y-y / x*x=y % x:=by have:=Int.emod_def y x;rw [LY] at this;omega
 have q0:0<=y / x:=N1 ad ad;have qy:y / x<=y:=z_ x ad;have hr1:1<=y % x:=by
  rcases NC 0 (y % x) with h2|h2
  .omega
  have e:y % x=0:=ad;have hd:x∣y:=NB e;have h3:((Int.gcd x y:Nat):Int)=x:=(Int.gcd_eq_left_iff_dvd ad).2 hd;omega
 generalize y / x=q at *;have a1:q*u<=q*U:=NQ u1.2 q0;have a2:q*(-U)<=q*u:=NQ u1.1 q0;rw [OI] at a2;have a3:q*U<=y*U:=NX qy pos.1;have a4:0<=q*U:=K_ q0 pos.1;have a5:V<=x*V:=by
  have:=NX x1 pos.2;omega
 have a6:0<=x*V:=K_ ad pos.2;have a7:0<=q*x:=K_ q0 ad;refine ⟨⟨ad,ad,ad,?_,gu,?_,ad,u1,ad,?_⟩,q0,qy,ad,a7,ad,ad,ad,ad⟩
 .have:a*(v-q*u)-(y-q*x)=(a*v-y)-q*(a*u-x):=by
   rw [QI,QI,Int.mul_left_comm q a u];omega
  rw [this];exact XB gv (QO gu (r_ _ _))
 .rw [em,Kn ad ad,Int.gcd_comm];exact cop
 have b1:(y-q*x)*U=y*U-q*x*U:=NJ _ _ _;have b2:x*(V+q*U)=x*V+q*x*U:=by rw [O9,<- AZ,LY x q]
 rw [b1,b2];omega
theorem kC.fin {m u v U V:Int} (h:kC a m x y u v U V) (hx:¬ 1<x) (hm:2<=m) :
  -m<=u/\u<=m/\u.tmod m % m=u % m/\-m<u.tmod m/\u.tmod m<m/\m∣a*(u % m)-1:=by
 obtain ⟨x1,xy,ym,gu,gv,cop,u1,v1,pos,le⟩:=h;obtain rfl:x=1:=ad;have a1:U<=y*U:=by
  have:=NX (show (1:Int)<=y by omega) pos.1;omega
 have t1:=q8p u (show 0<m by omega);have t2:=Int.lt_tmod_of_pos u (show 0<m by omega);refine ⟨ad,ad,?_,t2,t1,?_⟩
 .have hd:m∣u.tmod m-u:=by
   have:=q7q u m;exact ⟨-(u.tdiv m),by rw [OI];omega⟩
  exact ve hd
 have hd:m∣u % m-u:=u_ (A7 u (Int.dvd_refl m));have e:a*(u % m)-1=a*(u % m-u)+(a*u-1):=by rw [QI];omega
 rw [e];exact Int.dvd_add (QO hd (r_ _ _)) gu
def q4r (a m r:Int):Prop:=0<=r/\r<m/\m∣a*r-1
theorem Zf {step:Int} (h:(r-at_) % ((Int.gcd step P:Nat):Int)≠0):nD at_ step r P 0 0 false:=by
 refine .inr ⟨rfl,rfl,rfl,λx ⟨h1,h2⟩=>h ?_⟩;have d1:((Int.gcd step P:Nat):Int)∣x-at_:=QO (MP ..) (u_ h1);have d2:((Int.gcd step P:Nat):Int)∣x-r:=QO (M0 ..) (u_ h2);have:r-at_=(x-at_)-(x-r):=ad;rw [this];exact NA (XB d1 d2)
theorem yh_ {step:Int} (hs:1<=step) (h0:0<=at_) (h1:at_<step) (hP:1<=P) (h:(r-at_) % ((Int.gcd step P:Nat):Int)=0) (hn:P / ((Int.gcd step P:Nat):Int)=1):nD at_ step r P at_ step true:=by
 have hd:((Int.gcd step P:Nat):Int)∣P:=M0 ..;have e:((Int.gcd step P:Nat):Int)=P:=by
  have:=G7 hd;rw [hn] at this;omega
 have el:aV step P=step:=by
  unfold aV;rw [e];exact G7 (by have:((Int.gcd step P:Nat):Int)∣step:=MP ..;rwa [e] at this)
 refine .inl ⟨rfl,el.symm,h0,by rw [el];exact h1,rfl,?_⟩;rw [e] at h;exact (ve (NB h)).symm
theorem yk_ {step inv:Int} (hs:1<=step) (h0:0<=at_) (h1:at_<step) (hP:1<=P) {g n:Int} (hg:g=((Int.gcd step P:Nat):Int)) (hn:n=P / g) (h:(r-at_) % g=0) (hi:n∣step / g*inv-1) :
  nD at_ step r P (at_+((r-at_) / g % n*inv) % n*step) (step*n) true/\aV step P=step*n:=by
 have Gn:g∣step:=by rw [hg];exact MP ..
 have hgr:g∣P:=by rw [hg];exact M0 ..
 have hg1:1<=g:=by rw [hg];have:=q8l P (show step≠0 by omega);omega
 have el:aV step P=step*n:=by
  unfold aV;rw [<- hg,hn];have a1:=G7 Gn;have a2:=G7 hgr
  calc step / g*P=step / g*(P / g*g):=by rw [a2]
   _=(step / g*g)*(P / g):=by rw [LY (P / g) g,<- AZ]
   _=step*(P / g):=by rw [a1]
 have mS:1<=n:=by
  rw [hn];have a2:=G7 hgr;rcases NC 0 (P / g) with h2|h2
  .omega
  have:=NX h2 (show 0<=g by omega);omega
 refine ⟨.inl ⟨rfl,el.symm,?_⟩,el⟩;generalize hk:((r-at_) / g % n*inv) % n=k;have k0:0<=k:=by rw [<- hk];exact VK _ ad
 have k1:k<n:=by rw [<- hk];exact VM _ ad
 have b0:0<=k*step:=K_ k0 ad;refine ⟨ad,?_,?_,?_⟩
 .rw [el];have:(k+1)*step<=n*step:=NX ad ad;rw [OM,Int.one_mul,LY n step] at this;omega
 .rw [ON]
 apply ve;obtain ⟨w,hw⟩:=NB h;have ew:(r-at_) / g=w:=by rw [hw];exact q8n _ ad
 rw [ew] at hk;have a1:=G7 Gn;generalize step / g=t at *;have d1:n∣k-w*inv:=by
  have e1:k % n=(w*inv) % n:=by rw [<- hk,A7 _ (Int.dvd_refl n),GK,A7 _ (Int.dvd_refl n),<- GK]
  exact u_ e1
 have d2:n∣k*t-w:=by
  have e:k*t-w=(k-w*inv)*t+w*(t*inv-1):=by
   rw [NJ,QI,GS,LY t inv,<- AZ];omega
  rw [e];exact Int.dvd_add (QO d1 (Int.dvd_mul_right _ _)) (QO hi (r_ _ _))
 obtain ⟨z,hz⟩:=d2;refine ⟨z,?_⟩;have e:at_+k*step-r=(k*t-w)*g:=by
  rw [NJ,AZ,a1,LY w g];omega
 rw [e,hz];have a2:=G7 hgr;rw [<- hn] at a2
 calc n*z*g=n*g*z:=by rw [AZ,LY z g,<- AZ]
  _=P*z:=by rw [a2]
theorem St {b:Int} (h:dU s p):bV (jd p b) (tZ p b)/\dU (max (s+b) 0) (jd p b):=by
 have hf:=h.wf.frm;have hp:=h.wf.per;have h_:cM (tZ p b) (max (p.frm+b) 0) p.period:=λn hn=>by
  unfold tZ;have:=h.wf.pfrom (n-b) ad;rw [this,show n-b+p.period=n+p.period-b from by omega];constructor <;> rintro ⟨_,h⟩ <;> exact ⟨ad,h⟩
 have hc:=Ff (OR (S:=tZ p b) (f:=max (p.frm+b) 0) ad hp (λn hn=>hn.1) h_);refine ⟨hc,Jr hc (λn hn=>?_) ad (by have:=h.frm;omega) hp h.dvd h_⟩;have:=hn.1;have:=h.low _ hn.2;omega
open Classical in
noncomputable def og (p:Per) (b:Int):Int:=if b < -1099511627776\/1099511627776<b then 1 else if (jd p b).frm<=1099511627776 then 0 else 2
theorem wf_ {b:Int} (h:dU s p) (h0:-1099511627776<=b) (h1:max (s+b) 0+9<=1099511627776) (h2:b<=1099511627776):og p b=0:=by
 unfold og;rw [if_neg ad,if_pos (by have:=(St (b:=b) h).2.frm;omega)]
theorem No {b:Int} (h:1<=a):Int.gcd (a / ((Int.gcd a b:Nat):Int)) (b / ((Int.gcd a b:Nat):Int))=1:=
 Int.gcd_ediv_gcd_ediv_gcd (q8l b ad)
theorem nD.unique {step a' s':Int} {b':Bool} (hs:1<=step) (hP:1<=P) (h:nD at_ step r P a s b) (g:nD at_ step r P a' s' b'):a=a'/\s=s'/\b=b':=by
 rcases h with ⟨rfl,rfl,h⟩|⟨rfl,rfl,rfl,h⟩ <;> rcases g with ⟨rfl,rfl,g⟩|⟨rfl,rfl,rfl,g⟩
 .exact ⟨(Fk hs hP h).symm.trans (Fk hs hP g),rfl,rfl⟩
 .exact absurd ⟨h.2.2.1,h.2.2.2⟩ (g a)
 .exact absurd ⟨g.2.2.1,g.2.2.2⟩ (h a')
 exact ⟨rfl,rfl,rfl⟩
theorem w0_ {step:Int} (hs:1<=step) (hP:1<=P):∃ a s b,nD at_ step r P a s b:=by
 by_cases h:(r-at_) % ((Int.gcd step P:Nat):Int)=0
 .refine ⟨_,_,true,.inl ⟨rfl,rfl,I_ hs hP ?_⟩⟩;exact (ve (NB h)).symm
 exact ⟨0,0,false,Zf h⟩
theorem nD.bounds {step:Int} (hs:1<=step) (hP:1<=P) (hd:step∣27720) (hp:P∣27720) (h:nD at_ step r P a s true):0<=a/\a<s/\s∣27720:=by
 rcases h with ⟨_,rfl,h⟩|⟨h,_⟩
 .exact ⟨h.1,h.2.1,YG hs hP hd hp⟩
 cases h
def vE (S:Int->Prop) (p:Per) (t:List Per) (at_ step:Int) (j:Nat) (x:Int):Prop:=S x\/∃ c∈p.cycle.take j,x % p.period=cF p c/\dA t at_ step x
theorem ti_ {S:Int->Prop} {step:Int}:vE S p t at_ step 0 x↔S x:=by simp [vE]
theorem vv_ {S:Int->Prop} {step:Int}:vE S p t at_ step p.cycle.length x↔S x\/dA (p :: t) at_ step x:=by
 unfold vE;rw [OC,uy_]
theorem OZ (h:j<l.length) {c:Int}:c∈l.take (j+1)↔c∈l.take j\/c=l.getD j 0:=by
 rw [LF h,VJ,N2,VS,U2 h];rfl
theorem th_ {S:Int->Prop} {step:Int} (hw:p.WF) (hj:j<p.cycle.length) (hs:1<=step) (h0:0<=at_) (h1:at_<step) {a2 s2:Int}
  (h:nD at_ step (cF p (p.cycle.getD j 0)) p.period a2 s2 b):vE S p t at_ step (j+1) x↔vE S p t at_ step j x\/(b=true/\dA t a2 s2 x):=by
 unfold vE;rw [<- h.cls hw hs h0 h1,or_assoc];refine or_congr MT ⟨?_,?_⟩
 .rintro ⟨c,hc,h2⟩;rcases (OZ hj).1 hc with hc|rfl
  .exact .inl ⟨c,hc,h2⟩
  exact .inr h2
 rintro (⟨c,hc,h2⟩|h2)
 .exact ⟨c,(OZ hj).2 (.inl hc),h2⟩
 exact ⟨_,(OZ hj).2 (.inr rfl),h2⟩
theorem Ki {step:Int}:dA [] at_ step x↔x % step=at_:=by simp [dA]
theorem vw_ {f l:Int} (hw:∀ p∈t,p.WF) (hf:f_ t<=f) (h:kG F (λx=>False\/dA t 0 1 x) f l b):eh F (bj t) f (if b=true then l else 0) b:=
 (h.congr (T:=bj t) λx hx=>by rw [false_or,so_ hw ad]).next
theorem sv_ (hne:t≠[]) (hw:∀ p∈t,p.WF) {f n:Int} (h:ji (nH t t.length 0) f n b):YZ t f n b:=
 h.congr λx _=>(q7i hne hw).symm
theorem w3_ {L:List (List Per)} {n:Int}:aW (L ++ [t]) n↔aW L n\/bj t n:=by rw [qv_];unfold aW;simp
theorem w5_ {f:Int}:eh F (aW []) f 0 false:=.inr ⟨rfl,rfl,λ_ _ _ h=>YI h⟩
def cH:Int:=1152921504606846976
end
end Kal
namespace Go.Proofs.YtbmgmlbmgogeaaaGreat
section
open Go.RowKit Go.Maps Kal
structure RS (w:World) (v:Value) (n:Nat):Prop where
 is:∃ a c,v=.slice a n c/\(n=0\/∃ b o,a=some ⟨b,o,none⟩/\∀ i,i<n->∃ (u:Value) (l:List Int),w.cell? ⟨b,o+i,none⟩=some u/\qn w u l)
 len:n<=9223372036854775807
structure xz (w:World) (v:Value) (ll:List (List Int)):Prop where
 is:∃ a c,v=.slice a ll.length c/\(ll=[]\/∃ b o,a=some ⟨b,o,none⟩/\∀ i,i<ll.length->∃ (u:Value),w.cell? ⟨b,o+i,none⟩=some u/\qn w u (ll.getD i []))
 len:ll.length<=9223372036854775807
theorem xz.ext {ll:List (List Int)} (h:xz w v ll) (hb:Below w.heap.size w W):xz W v ll:=by
 obtain ⟨⟨a,c,rfl,h1⟩,h2⟩:=h;refine ⟨⟨a,c,rfl,h1.imp id ?_⟩,h2⟩;rintro ⟨b,o,rfl,hc⟩;exact ⟨b,o,rfl,λi hi=>by obtain ⟨u,h3,h4⟩:=hc i hi;exact ⟨u,an.cell hb h3,h4.ext hb⟩⟩
theorem RS.rows (h:RS w v n):∃ ll:List (List Int),ll.length=n/\xz w v ll:=by
 obtain ⟨⟨a,c,rfl,h1⟩,h2⟩:=h;rcases h1 with rfl|⟨b,o,rfl,hc⟩
 .exact ⟨[],rfl,⟨a,c,rfl,.inl rfl⟩,aj⟩
 have hch:∃ X:Nat->List Int,∀ i,i<n->∃ u,w.cell? ⟨b,o+i,none⟩=some u/\qn w u (X i):=by
  refine ⟨λi=>if hi:i<n then (hc i hi).choose_spec.choose else [],λi hi=>?_⟩;simp only [dif_pos hi];exact ⟨_,(hc i hi).choose_spec.choose_spec⟩
 obtain ⟨X,hX⟩:=hch;have hl:((List.range n).map X).length=n:=by simp
 refine ⟨(List.range n).map X,hl,⟨_,c,by rw [hl],.inr ⟨b,o,rfl,λi hi=>?_⟩⟩,by rw [hl];exact h2⟩;rw [hl] at hi;obtain ⟨u,h3,h4⟩:=hX i hi;exact ⟨u,h3,by rw [VS];simpa [hi] using h4⟩
def lN (m:List (List Per)) (l:List Int):List (List Per):=
 if 0<m.length/\(l.getD 0 0<128\/m.length=3)/\(m.getLastD []).length<3 then m.dropLast ++ [m.getLastD [] ++ [dQ l]]
 else if m.length<3 then m ++ [[dQ l]] else m
def tD (ll:List (List Int)):List (List Per):=(ll.take 9).foldl lN []
theorem t3_ {ll:List (List Int)} {i:Nat} (hi:i<ll.length) (h:m=(ll.take i).foldl lN []):lN m (ll.getD i [])=(ll.take (i+1)).foldl lN []:=by
 rw [LF hi,GQ,<- h,VS,U2 hi];rfl
theorem wo_ (l:List Int):lN [] l=[[dQ l]]:=by simp [lN]
theorem ue_ {m0:List (List Per)} (h:(l.getD 0 0<128\/m0.length+1=3)/\t.length<3):lN (m0 ++ [t]) l=m0 ++ [t ++ [dQ l]]:=by
 unfold lN;rw [if_pos ⟨aj,by simpa using h.1,by simpa using h.2⟩];simp
theorem wn_ {m0:List (List Per)} (h:¬ ((l.getD 0 0<128\/m0.length+1=3)/\t.length<3)) (h3:m0.length+1<3):lN (m0 ++ [t]) l=m0 ++ [t] ++ [[dQ l]]:=by
 unfold lN;rw [if_neg (by rintro ⟨_,h1,h2⟩;exact h ⟨by simpa using h1,by simpa using h2⟩),if_pos (by simpa using h3)]
theorem uf_ {m0:List (List Per)} (h:¬ ((l.getD 0 0<128\/m0.length+1=3)/\t.length<3)) (h3:¬ m0.length+1<3):lN (m0 ++ [t]) l=m0 ++ [t]:=by
 unfold lN;rw [if_neg (by rintro ⟨_,h1,h2⟩;exact h ⟨by simpa using h1,by simpa using h2⟩),if_neg (by simpa using h3)]
structure iO (p:Per):Prop where
 wf:p.WF
 frm:p.frm<=8
 per:p.period<=12
theorem iO.dvd (h:iO p):p.period∣27720:=by
 have h1:=h.wf.per;have h2:=h.per;obtain ⟨k,hk⟩:∃ k:Nat,p.period=k:=⟨p.period.toNat,ad⟩;rw [hk] at h1 h2 ⊢;have:∀ k:Nat,k<=12->1<=k->k∣27720:=by decide
 exact TA.2 (this k ad ad)
theorem iO.fv (h:iO p):FV 0 p:=⟨⟨h.wf,λn hn=>hn.1,by have:=h.frm;omega,h.dvd⟩,by have:=h.frm;omega⟩
structure rI (m:List (List Per)):Prop where
 len:m.length<=3
 ne:∀ t∈m,t≠[]
 tlen:∀ t∈m,t.length<=3
 fac:∀ t∈m,∀ p∈t,iO p
theorem rI.vt (h:rI m):∀ t∈m,lj 0 t:=λt ht=>⟨h.ne t ht,λp hp=>(h.fac t ht p hp).fv,by have:=h.tlen t ht;omega⟩
theorem rI.mv (h:rI m):MV 0 m:=⟨(Ad h.vt).2 ⟨by have:=h.len;omega,λt ht=>by have:=h.tlen t ht;omega⟩,h.vt⟩
theorem ud_ (h:rI m):rI (lN m l):=by
 have hf:iO (dQ l):=⟨(KA l).1,(KA l).2.1,(KA l).2.2⟩;unfold lN
 split
 .rename_i h1;obtain ⟨h1,_,h3⟩:=h1;have hl:m.getLastD []∈m:=by
   cases m with
   | nil=>simp at h1
   | cons x m=>rw [List.getLastD_cons];exact List.getLastD_mem_cons ..
  have key:∀ {P:List Per->Prop},(∀ t∈m,P t)->P (m.getLastD [] ++ [dQ l])->∀ t∈m.dropLast ++ [m.getLastD [] ++ [dQ l]],P t:=λg1 g2 t ht=>by
   rcases VJ.1 ht with ht|ht
   .exact g1 t (List.dropLast_subset _ ht)
   rw [N2] at ht;subst ht;exact g2
  refine ⟨by have:=h.len;rw [MB,List.length_dropLast,NF];omega,key h.ne aj,key h.tlen (by rw [MB,NF];omega),key h.fac λp hp=>?_⟩;rcases VJ.1 hp with hp|hp
  .exact h.fac _ hl p hp
  rw [N2] at hp;subst hp;exact hf
 split
 .rename_i h2;have key:∀ {P:List Per->Prop},(∀ t∈m,P t)->P [dQ l]->∀ t∈m ++ [[dQ l]],P t:=λg1 g2 t ht=>by
   rcases VJ.1 ht with ht|ht
   .exact g1 t ht
   rw [N2] at ht;subst ht;exact g2
  exact ⟨by rw [MB,NF];omega,key h.ne aj,key h.tlen aj,key h.fac λp hp=>by rw [N2] at hp;subst hp;exact hf⟩
 exact h
theorem Rx (ll:List (List Int)):rI (tD ll):=by
 have key:∀ (l:List (List Int)) (m:List (List Per)),rI m->rI (l.foldl lN m):=by
  intro l;induction l with
  | nil=>exact λm h=>h
  | cons x l ih=>exact λm h=>ih _ (ud_ h)
 exact key _ _ ⟨aj,aj,aj,aj⟩
abbrev rp (B:Nat) (k:Nat):Prop:=k=B\/k=B+1
structure EM (B:Nat) (v:Value) (L0:List (Value × List Per)) (g cap:Nat) (M:List PV) (W:World):Prop where
 own:W.ownsRow B 80 4 (.slice (some ⟨g,0,none⟩) M.length cap) M.length (M.flatMap PV.enc)
 all:∀ x∈L0,bK W (λb=>cU B (rp B) v b/\b≠g) x.1 x.2
 pvs:∀ x∈M,bD W (λb=>cU B (rp B) v b/\b≠g) x
 g:cU B (rp B) v g
 len:1<=M.length
structure ny (B:Nat) (w:World) (v:Value) (L:List (Value × List Per)) (W:World):Prop where
 below:Below B w W
 rbx:ag W B #[.slice none 0 0] 57
 obx:ag W (B+1) #[v] 57
 row:aZ B (rp B) W v L
 md:rI (L.map Prod.snd)
 last:L=[]\/∃ L0 g cap M,L=L0 ++ [(.slice (some ⟨g,0,none⟩) M.length cap,M.map PV.p)]/\EM B v L0 g cap M W
theorem EM.ext {L0:List (Value × List Per)} {M:List PV} (h:EM B v L0 g cap M W) (hb:Below W.heap.size W W'):EM B v L0 g cap M W':=
 ⟨h.own.kept (row:=none) (World.grownBy.of_below hb _) (by right;simp [Value.ownBlock]),λx hx=>(h.all x hx).ext hb,λx hx=>(h.pvs x hx).keep (aP.below hb),h.g,h.len⟩
theorem ny.ext {L:List (Value × List Per)} (h:ny B w v L W) (hB:B<=w.heap.size) (hb:Below W.heap.size W W'):ny B w v L W':=
 ⟨h.below.trans (hb.mono (NN hB h.below.size)),h.rbx.below hb,h.obx.below hb,h.row.below hb,h.md,h.last.imp id λ⟨L0,g,cap,M,e,hl⟩=>⟨L0,g,cap,M,e,hl.ext hb⟩⟩
theorem YP {F:Nat->Prop} (h:W.ownsRow B 80 4 (.slice (some ⟨g,0,none⟩) n cap) n (L.flatMap PV.enc)) (hn:L.length=n) (h1:1<=n) (hl:n<=1000) (hF:F g) (ha:∀ x∈L,bD W F x):bK W F (.slice (some ⟨g,0,none⟩) n cap) (L.map PV.p):=by
 subst hn;have h2:L.length<=cap/\cap<=9223372036854775807:=by
  rcases h.2 with ⟨h',_⟩|⟨_,_,_,h',_,_,h3,h4,_⟩
  .cases h'
  cases h';exact ⟨h3,h4⟩
 refine ⟨L,rfl,⟨_,_,rfl,h2.1,h2.2,.inr ⟨g,0,rfl,hF,(h.lt g rfl).2,λi u hi=>?_⟩⟩,ad,ha⟩;rw [S1];have:=(GD.1 hi).1;rw [Cs] at this;exact (h.cellAt i this).trans hi
theorem os_ {b:Nat} {u:Value} {t:TypeId} (h:ag W b #[u] t) (e:W'.heap[b]? = W.heap[b]?):ag (W'.setCell ⟨b,0,none⟩ v) b #[v] t:=bE 0 v (e.trans h)
theorem YK {wo:World} {a:Option Addr} {L:List (Value × List Per)} {x:PV} (hk:W2.heap.size=k) (hS:ny w.heap.size w (.slice a L.length c) L wo) (hb2:Below wo.heap.size wo W2) (ks:bD W2 (λb=>wo.heap.size<=b/\b<W2.heap.size) x) :
  bK ((W2.alloc (.cells #[x.h,.int .i64 x.p.frm,.int .i64 x.p.period,x.c] 80)).alloc (.cells #[.slice (some ⟨k,0,none⟩) 1 1] 78)) (cU w.heap.size (rp w.heap.size) (.slice a L.length c)) (.slice (some ⟨k,0,none⟩) 1 1) [x.p]:=by
 subst hk;have kJ:=hS.obx.lt;have hz2:=hb2.size;have tU:∀ q,(Value.slice a L.length c).ownBlock=some q->q<wo.heap.size:=λq e=>(hS.row.row.lt q e).2;have hown:=(World.ownsRow_lit (base:=w.heap.size) (e:=80) (size:=4) W2 #[x.h,.int .i64 x.p.frm,.int .i64 x.p.period,x.c] 1 ad (by unfold maxLen;omega) rfl).alloc (.cells #[.slice (some ⟨W2.heap.size,0,none⟩) 1 1] 78);refine YP (L:=[x]) hown rfl (TZ _) ad ⟨ad,?_,λe=>by have:=tU _ e;omega⟩ λy hy=>?_
 .rintro (h|h) <;> omega
 rw [N2] at hy;subst hy;refine (ks.keep (aP.below (Ea (Ea (Er _) _) _))).mono λb hb=>⟨ad,?_,λe=>by have:=tU _ e;omega⟩;rintro (h|h) <;> omega
theorem ny.new {wo w8:World} {a:Option Addr} {L:List (Value × List Per)} {ga:Option Addr} {gc:Nat} {x:PV} (hk:W2.heap.size=k) (hS:ny w.heap.size w (.slice a L.length c) L wo) (hb2:Below wo.heap.size wo W2)
  (ks:bD W2 (λb=>wo.heap.size<=b/\b<W2.heap.size) x) (A8:iO x.p) (hl:L.length<3)
  (nW:aZ w.heap.size (rp w.heap.size) w8 (.slice ga (L.length+1) gc) (L ++ [(.slice (some ⟨k,0,none⟩) 1 1,[x.p])]))
  (jo:((W2.alloc (.cells #[x.h,.int .i64 x.p.frm,.int .i64 x.p.period,x.c] 80)).alloc (.cells #[.slice (some ⟨k,0,none⟩) 1 1] 78)).grownBy w8 (Value.slice a L.length c).ownBlock)
  (eo:Below w.heap.size ((W2.alloc (.cells #[x.h,.int .i64 x.p.frm,.int .i64 x.p.period,x.c] 80)).alloc (.cells #[.slice (some ⟨k,0,none⟩) 1 1] 78)) w8)
  (hloc:(Value.slice ga (L.length+1) gc).ownBlock=(Value.slice a L.length c).ownBlock\/(Value.slice ga (L.length+1) gc).ownBlock=some (k+2)) :
  ny w.heap.size w (.slice ga (L.length+1) gc) (L ++ [(.slice (some ⟨k,0,none⟩) 1 1,[x.p])]) (w8.setCell ⟨w.heap.size+1,0,none⟩ (.slice ga (L.length+1) gc)):=by
 subst hk;have kJ:=hS.obx.lt;have hz2:=hb2.size;have tU:∀ q,(Value.slice a L.length c).ownBlock=some q->q<wo.heap.size:=λq e=>(hS.row.row.lt q e).2;have Hd:=hS.row.ne;have fB:=World.ownsRow_lit (base:=w.heap.size) (e:=80) (size:=4) W2 #[x.h,.int .i64 x.p.frm,.int .i64 x.p.period,x.c] 1 ad (by unfold maxLen;omega) rfl;have oJ:Below W2.heap.size W2 ((W2.alloc (.cells #[x.h,.int .i64 x.p.frm,.int .i64 x.p.period,x.c] 80)).alloc (.cells #[.slice (some ⟨W2.heap.size,0,none⟩) 1 1] 78)):=Ea (Ea (Er _) _) _;have hown1:=fB.alloc (.cells #[.slice (some ⟨W2.heap.size,0,none⟩) 1 1] 78);generalize hv:Value.slice a L.length c=v at *;generalize hv':Value.slice ga (L.length+1) gc=v' at *;have hz3:((W2.alloc (.cells #[x.h,.int .i64 x.p.frm,.int .i64 x.p.period,x.c] 80)).alloc (.cells #[.slice (some ⟨W2.heap.size,0,none⟩) 1 1] 78)).heap.size=W2.heap.size+2:=by simp
 generalize ((W2.alloc (.cells #[x.h,.int .i64 x.p.frm,.int .i64 x.p.period,x.c] 80)).alloc (.cells #[.slice (some ⟨W2.heap.size,0,none⟩) 1 1] 78))=W3 at *;have AI:Below wo.heap.size wo W3:=Et hb2 oJ;have cr:w8.grownBy (w8.setCell ⟨w.heap.size+1,0,none⟩ v') (some (w.heap.size+1)):=World.grownBy.set' ⟨rfl,rfl,rfl,TZ _,λ_ _ _=>rfl⟩ _;have Q8:=jo.size;have q7e:∀ b,b<W3.heap.size->b≠w.heap.size+1->v.ownBlock≠some b->(w8.setCell ⟨w.heap.size+1,0,none⟩ v').heap[b]? = W3.heap[b]?:=λb h1 h2 h3=>
  (cr.block b ad (λe=>h2 (by cases e;rfl))).trans (jo.block b h1 (λe=>h3 e.symm))
 have ja:∀ b,b<wo.heap.size->b≠w.heap.size+1->v.ownBlock≠some b->(w8.setCell ⟨w.heap.size+1,0,none⟩ v').heap[b]? = wo.heap[b]?:=λb h1 h2 h3=>(q7e b ad h2 h3).trans (AI.block b h1);have keep2:∀ b,b<W2.heap.size->b≠w.heap.size+1->v.ownBlock≠some b->(w8.setCell ⟨w.heap.size+1,0,none⟩ v').heap[b]? = W2.heap[b]?:=λb h1 h2 h3=>(q7e b ad h2 h3).trans (oJ.block b h1);have Bv:∀ b,v'.ownBlock=some b->v.ownBlock=some b\/b=W2.heap.size+2:=λb e=>by
  rcases hloc with h|h
  .exact .inl (h ▸ e)
  rw [h] at e;cases e;exact .inr rfl
 refine ⟨((hS.below.trans (AI.mono hS.below.size)).trans eo).setCell (p:=⟨w.heap.size+1,0,none⟩) (by show w.heap.size<=w.heap.size+1;omega) _,(ja _ ad ad (λe=>Hd _ e (.inl rfl))).trans hS.rbx,
  os_ hS.obx ((jo.block _ ad (λe=>Hd _ e.symm (.inr rfl))).trans (AI.block _ ad)),nW.box cr (.inr rfl),?_,.inr ⟨L,W2.heap.size,1,[x],rfl,⟨?_,λy hy=>?_,λy hy=>?_,?_,aj⟩⟩⟩
 .have hm:=hS.md;rw [UZ];have key:∀ {P:List Per->Prop},(∀ t∈L.map Prod.snd,P t)->P [x.p]->∀ t∈L.map Prod.snd ++ [[x.p]],P t:=λh1 h2 t ht=>by
   rcases VJ.1 ht with ht|ht
   .exact h1 t ht
   rw [N2] at ht;subst ht;exact h2
  exact ⟨aR,key hm.ne aj,key hm.tlen aj,key hm.fac (λp hp=>by rw [N2] at hp;subst hp;exact A8)⟩
 .have h1:=hown1.kept jo (.inr λe=>by have:=tU W2.heap.size e.symm;omega);exact h1.kept cr (.inr λe=>by have e:W2.heap.size=w.heap.size+1:=S7 e;omega)
 .refine ((hS.row.all y hy).lt.keep (λb hb hl=>?_) ?_).mono λb hb=>⟨⟨hb.1.1,hb.1.2.1,λe=>?_⟩,?_⟩
  .exact ja b hb.2 (λe=>hb.1.2.1 (.inr e)) hb.1.2.2
  .have:=cr.size;omega
  .rcases Bv b e with h|h
   .exact hb.1.2.2 h
   have:=hb.2;omega
  have:=hb.2;omega
 .rw [N2] at hy;subst hy;refine (ks.keep (λb hb hl=>?_)).mono λb hb=>⟨⟨ad,?_,λe=>?_⟩,ad⟩
  .exact keep2 b hb.2 ad (λe=>by have:=tU b e;omega)
  .rintro (h|h) <;> omega
  rcases Bv b e with h|h
  .have:=tU b h;omega
  omega
 refine ⟨ad,?_,λe=>?_⟩
 .rintro (h|h) <;> omega
 rcases Bv _ e with h|h
 .have:=tU _ h;omega
 omega
theorem ny.more {wo W9:World} {ab:Nat} {L0:List (Value × List Per)} {g' cap':Nat} {M:List PV} {x:PV} (hS:ny w.heap.size w (.slice (some ⟨ab,0,none⟩) (L0.length+1) c) (L0 ++ [(.slice (some ⟨g,0,none⟩) M.length cap,M.map PV.p)]) wo)
  (dF:EM w.heap.size (.slice (some ⟨ab,0,none⟩) (L0.length+1) c) L0 g cap M wo) (hb2:Below wo.heap.size wo W2) (ks:bD W2 (λb=>wo.heap.size<=b/\b<W2.heap.size) x) (A8:iO x.p) (hM:M.length<3)
  (hg:W2.grownBy W9 (some g)) (hown:W9.ownsRow w.heap.size 80 4 (.slice (some ⟨g',0,none⟩) (M.length+1) cap') (M.length+1) ((M ++ [x]).flatMap PV.enc)) (hloc:g'=g\/W2.heap.size<=g') :
  ny w.heap.size w (.slice (some ⟨ab,0,none⟩) (L0.length+1) c) (L0 ++ [(.slice (some ⟨g',0,none⟩) (M.length+1) cap',(M ++ [x]).map PV.p)]) (W9.setCell ⟨ab,L0.length,none⟩ (.slice (some ⟨g',0,none⟩) (M.length+1) cap')):=by
 have kJ:=hS.obx.lt;have hz2:=hb2.size;have hz9:=hg.size;have hle:(L0 ++ [((Value.slice (some ⟨g,0,none⟩) M.length cap),M.map PV.p)]).length=L0.length+1:=by simp
 have hrow:=hS.row.row;rw [hle,UZ] at hrow;have hab:=hrow.lt ab rfl;have Hd:=hS.row.ne ab rfl;obtain ⟨g0,g1,g2⟩:=dF.g;have vZ:ab≠g:=λe=>g2 (by simp [Value.ownBlock,e]);have Gn:=(dF.own.lt g rfl).2;have cr:W9.grownBy (W9.setCell ⟨ab,L0.length,none⟩ (.slice (some ⟨g',0,none⟩) (M.length+1) cap')) (some ab):=World.grownBy.set' ⟨rfl,rfl,rfl,TZ _,λ_ _ _=>rfl⟩ _;have keep2:∀ b,b<W2.heap.size->b≠g->b≠ab->(W9.setCell ⟨ab,L0.length,none⟩ (.slice (some ⟨g',0,none⟩) (M.length+1) cap')).heap[b]? = W2.heap[b]?:=λb h1 h2 h3=>
  (cr.block b ad (λe=>h3 (by cases e;rfl))).trans (hg.block b h1 (λe=>h2 (by cases e;rfl)))
 have ja:∀ b,b<wo.heap.size->b≠g->b≠ab->(W9.setCell ⟨ab,L0.length,none⟩ (.slice (some ⟨g',0,none⟩) (M.length+1) cap')).heap[b]? = wo.heap[b]?:=λb h1 h2 h3=>(keep2 b ad h2 h3).trans (hb2.block b h1);have hsz:=cr.size;have gB:g≠w.heap.size:=λe=>g1 (.inl e);have gB1:g≠w.heap.size+1:=λe=>g1 (.inr e);have aB:ab≠w.heap.size:=λe=>Hd (.inl e);have aB1:ab≠w.heap.size+1:=λe=>Hd (.inr e);have q1c:g'≠ab:=by rcases hloc with h|h <;> omega
 have hown':=hown.kept cr (.inr λe=>by injection e with e;exact q1c e);have EV:∀ y∈L0,bK (W9.setCell ⟨ab,L0.length,none⟩ (.slice (some ⟨g',0,none⟩) (M.length+1) cap')) (λb=>cU w.heap.size (rp w.heap.size) (.slice (some ⟨ab,0,none⟩) (L0.length+1) c) b/\b≠g') y.1 y.2:=λy hy=>by
  refine ((dF.all y hy).lt.keep (λb hb hl=>?_) ad).mono λb hb=>⟨hb.1.1,?_⟩
  .exact ja b hb.2 hb.1.2 λe=>hb.1.1.2.2 (by simp [Value.ownBlock,e])
  rcases hloc with h|h
  .rw [h];exact hb.1.2
  have:=hb.2;omega
 have pvs:∀ y∈M ++ [x],bD (W9.setCell ⟨ab,L0.length,none⟩ (.slice (some ⟨g',0,none⟩) (M.length+1) cap')) (λb=>cU w.heap.size (rp w.heap.size) (.slice (some ⟨ab,0,none⟩) (L0.length+1) c) b/\b≠g') y:=λy hy=>by
  rcases VJ.1 hy with hy|hy
  .refine ((dF.pvs y hy).lt.keep (λb hb hl=>?_)).mono λb hb=>⟨hb.1.1,?_⟩
   .exact ja b hb.2 hb.1.2 λe=>hb.1.1.2.2 (by simp [Value.ownBlock,e])
   rcases hloc with h|h
   .rw [h];exact hb.1.2
   have:=hb.2;omega
  rw [N2] at hy;subst hy;refine (ks.keep (λb hb hl=>keep2 b hb.2 ad ad)).mono λb hb=>⟨⟨ad,?_,λe=>?_⟩,ad⟩
  .rintro (h|h) <;> omega
  simp [Value.ownBlock] at e;omega
 have Vg:cU w.heap.size (rp w.heap.size) (.slice (some ⟨ab,0,none⟩) (L0.length+1) c) g':=by
  refine ⟨ad,?_,λe=>?_⟩
  .rintro (h|h) <;> omega
  simp [Value.ownBlock] at e;omega
 refine ⟨((hS.below.trans (hb2.mono hS.below.size)).trans (World.grownBy.below' hg ad ad)).setCell (p:=⟨ab,L0.length,none⟩) hab.1 _,(ja _ ad ad ad).trans hS.rbx,(ja _ ad ad ad).trans hS.obx,?_,?_,
  .inr ⟨L0,g',cap',M ++ [x],aj,⟨by simpa using hown',EV,pvs,Vg,aj⟩⟩⟩
 .have hr2:=(hrow.kept (World.grownBy.of_below hb2 none) (.inr (by simp [Value.ownBlock]))).kept hg (.inr λe=>vZ (by simpa [Value.ownBlock] using e));have hr3:=(hr2.stored L0.length (.slice (some ⟨g',0,none⟩) (M.length+1) cap')).1;rw [q7y _ _ aj,U6,Nat.sub_self] at hr3;refine ⟨by rw [MB,UZ (f:=Prod.fst)];exact hr3,λy hy=>?_,hS.row.ne,by simp;have:=hS.row.len;rw [hle] at this;omega⟩;rcases VJ.1 hy with hy|hy
  .exact (EV y hy).mono λb hb=>hb.1
  rw [N2] at hy;subst hy;exact YP hown' aj ad ad Vg λy hy=>(pvs y hy).mono λb hb=>hb.1
 have hm:=hS.md;rw [UZ] at hm ⊢;have hmem:M.map PV.p∈L0.map Prod.snd ++ [((Value.slice (some ⟨g,0,none⟩) M.length cap),M.map PV.p)].map Prod.snd:=by simp
 have key:∀ {P:List Per->Prop},(∀ t∈L0.map Prod.snd ++ [((Value.slice (some ⟨g,0,none⟩) M.length cap),M.map PV.p)].map Prod.snd,P t)->P ((M ++ [x]).map PV.p)->∀ t∈L0.map Prod.snd ++ [((Value.slice (some ⟨g',0,none⟩) (M.length+1) cap'),(M ++ [x]).map PV.p)].map Prod.snd,P t:=λh1 h2 t ht=>by
  rcases VJ.1 ht with ht|ht
  .exact h1 t (MK _ ht)
  simp only [GB,Q6,N2] at ht;subst ht;exact h2
 refine ⟨by have:=hm.len;simp at this ⊢;omega,key hm.ne aj,key hm.tlen aR,key hm.fac λp hp=>?_⟩;rw [UZ] at hp;rcases VJ.1 hp with hp|hp
 .exact hm.fac _ hmem p hp
 simp only [GB,Q6,N2] at hp;subst hp;exact A8
theorem qc_ (w:World) {a:Act} {K:Act->World->Prop} {Q:Exit->Act->World->Prop} (sx x:Operand)
  (ho:o.op=.call { callee:=.builtin .append,args:=#[sx,x],argTypes:=#[78,78] }) (B g cap:Nat) (M:List PV) (y:PV) (hs:a.eval sx=.slice (some ⟨g,0,none⟩) M.length cap)
  (h:w.ownsRow B 80 4 (.slice (some ⟨g,0,none⟩) M.length cap) M.length (M.flatMap PV.enc)) (blk c:Nat) (hx:a.eval x=.slice (some ⟨blk,0,none⟩) 1 c)
  (hnew:ag w blk #[y.h,.int .i64 y.p.frm,.int .i64 y.p.period,y.c] 80) (jU:∀ u∈y.enc,u.oneCell'=true) (hl:M.length<=1000) (hB:B<=w.heap.size)
  (k:∀ (g' cap':Nat) (w':World),w'.ownsRow B 80 4 (.slice (some ⟨g',0,none⟩) (M.length+1) cap') (M.length+1) ((M ++ [y]).flatMap PV.enc)->w.grownBy w' (some g)->(g'=g\/g'=w.heap.size)->K (a.put o.dst (.slice (some ⟨g',0,none⟩) (M.length+1) cap')) w') :
  Oper.wp Tryz.prog o a w K Q:=by
 obtain ⟨i,hi,h1,h2,h3⟩:=Am;refine wp_append_lies w sx x 78 ho B 80 i (.agg #[.slice none 0 0,.int .i64 0,.int .i64 0,.slice none 0 0]) 4 64 Tryz.underlying78 hi h1 h2 h3 rfl ad _ M.length (M.flatMap PV.enc) hs h ⟨blk,0,none⟩ 1 c y.enc hx rfl ?_ jU ad (by unfold maxLen;omega) ad hB _ rfl ?_
 .intro j u hu;have e:({ block:=blk,off:=0 }:Addr).add j=⟨blk,j,none⟩:=by
   rcases NR j with h|h
   .subst h;simp [Addr.add]
   simp [Addr.add];omega
  rw [e,(hnew.cells j).1,<- hu]
  match j with
  | 0=>rfl
  | 1=>rfl
  | 2=>rfl
  | 3=>rfl
  | k+4=>rfl
 intro g' cap' w' hown' hgrow hloc _;exact k g' cap' w' (by rw [MC];simpa using hown') hgrow (hloc.imp (λe=>(S7 e).symm) id)
def q5p (x0:Int) (a m:Nat) (v:Value):Prop:=∃ c:Bool,v=.bool c/\(c=true↔((x0<128\/a+1=3)/\m<3))
theorem x6_ (v:Value) (ll:List (List Int)) (w:World) (h:xz w v ll) :
  Calls Tryz.prog 42 #[v] w λe w'=>∃ (a:Option Addr) (c:Nat),e=.returned (.agg #[.slice a (tD ll).length c])/\aF w' (λb=>w.heap.size<=b) (.slice a (tD ll).length c) (tD ll)/\rI (tD ll)/\Below w.heap.size w w':=by
 have HR:=af h;obtain ⟨⟨a1,c1,rfl,_⟩,hn⟩:=h;obtain ⟨n,hnl⟩:∃ n,ll.length=n:=⟨_,rfl⟩;have IJ:=af hnl;simp only [hnl] at hn ⊢;clear hnl;have TO:Hid (∀ i,i<=9->(i=9\/i=n)->(ll.take i).foldl lN []=tD ll):=af λi h9 h=>by
  rcases h with rfl|rfl
  .rfl
  have e1:ll.take 9=ll:=PM (by have:=IJ.o;omega);have e2:ll.take i=ll:=PM (by have:=IJ.o;omega);unfold tD;rw [e1,e2]
 go_in
 go_wp2_with fail
 have q6m:ny w.heap.size w (.slice none 0 0) [] ((w.alloc (.cells #[.slice none 0 0] 57)).alloc (.cells #[.slice none 0 0] 57)):=
  ⟨Ea (Ea (Er w) _) _,(ag.new w _ _).alloc _,ag.at aj,aZ.nil _ _ _,⟨aj,aj,aj,aj⟩,.inl rfl⟩
 have q5o:=af q6m;clear q6m;go_loopw [4,5,6] (λiv _ _ wr=>∃ (i:Nat) (v:Value) (L:List (Value × List Per)),i<=9/\i<=n/\iv=.int .i64 i/\Hid (L.map Prod.snd=(ll.take i).foldl lN [])/\Hid (ny w.heap.size w v L wr)) (λiv _ _ _=>9-(intOf iv).toNat)
 .exact ⟨0,_,[],ad,ad,rfl,af rfl,q5o⟩
 obtain ⟨i,v,L,gU,hin,rfl,HQ,HS⟩:=hrel;obtain ⟨a2,c2,rfl,hc1,hc2,q5y⟩:=HS.o.row.form;obtain ⟨wo,qF⟩:∃ wo,wo=wr:=⟨_,rfl⟩;subst qF;have b3:=HS.o.obx.c0;have CE:L.length<=3:=by have h:=HS.o.md.len;rwa [U6] at h
 by_cases hil:i<n
 .have hilI:(i:Int)<n:=ad;have kL:i<ll.length:=by rw [IJ.o];exact hil
  by_cases hi:i<9
  .have tJ:(i:Int)<9:=ad;obtain ⟨⟨a1',c1',he,h3⟩,-⟩:=HR.o.ext HS.o.below;injection he with e1 e2 e3
   subst e1;subst e3;rcases h3 with h0|⟨b,o,rfl,hc⟩
   .rw [h0] at kL;simp at kL
   obtain ⟨u,hcell,hby⟩:=hc i kL;have IT:=af (t3_ kL HQ.o);generalize ll.getD i []=l at *;have A8:=ma_ u l wo hby;have hfw:=KA l;have EA:=af (wo_ l);have Ez:=af (λm0 t=>ue_ (m0:=m0) (t:=t) (l:=l));have q7g:=af (λm0 t=>wn_ (m0:=m0) (t:=t) (l:=l));have q2r:=af (λm0 t=>uf_ (m0:=m0) (t:=t) (l:=l));have Ty:=af hfw;clear hfw;have HBY:=af hby;have jq:=hby.rng0 0;have uh:=af (λW (h:Below wo.heap.size wo W)=>Zv u l 0 0 rfl W (hby.ext h) ad);obtain ⟨p,hpl⟩:∃ p,dQ l=p:=⟨_,rfl⟩;rw [hpl] at A8 EA Ez q7g Ty;clear hpl kL;generalize l.getD 0 0=x0 at *;obtain ⟨⟨ua,uc,rfl,_⟩,_,_⟩:=hby;clear hc e2;obtain ⟨q6a,YN,YO⟩:=Ty.o;have Eu:Hid (iO p):=af ⟨q6a,YN,YO⟩;clear q6a YN YO;rcases HS.o.last with hL|⟨L0,g,cap,M,hL,dF⟩
   .subst hL;go_wp2_with (first|(go_at_call 80;(refine A8.mono ?_;rintro e w1 ⟨h',c',rfl,ho,hb1⟩;have h_:iO p:=Eu.o;have ks:=ho.pv h_.fv;obtain ⟨ya,yn,yc,za,zn,zc,rfl,rfl⟩:=ks.form;have B7:=af ks;have w_:=af h_;have cE:Below wo.heap.size wo (w1.alloc (.cells #[.slice ya yn yc,.int .i64 p.frm,.int .i64 p.period,.slice za zn zc] 80)):=Ea hb1 _;have AF:=HS.o.ext (TZ _) cE;have d3:=AF.obx.cells 0;have k4:=an.cell cE hcell;have nx:=af hb1.size;have mB:=af cE;have dV:=af AF;have uP:=af ((ks.keep (aP.below (Ea (Er w1) (.cells #[.slice ya yn yc,.int .i64 p.frm,.int .i64 p.period,.slice za zn zc] 80)))).mono (G:=λb=>wo.heap.size<=b/\b<(w1.alloc (.cells #[.slice ya yn yc,.int .i64 p.frm,.int .i64 p.period,.slice za zn zc] 80)).heap.size) λb hb=>⟨hb.1,by rw [U7];have:=hb.2;omega⟩);clear ho h_ ks cE AF hb1))|(at_builtin;(refine Ja aC _ _ aC w.heap.size (rp w.heap.size) (.slice a2 ([]:List (Value × List Per)).length c2) ([]:List (Value × List Per)) (.slice (some ⟨w1.heap.size+1,0,none⟩) 1 1,[p]) aC (dV.o.row.below (Ea (Ea (Er _) _) _)) (YK (x:=⟨_,_,p⟩) aj HS.o mB.o uP.o) _ _ aC (ag.at (c:=#[.slice (some ⟨w1.heap.size+1,0,none⟩) 1 1]) (t:=78) aj).c0 (by have h7:=dV.o.obx.lt;rw [U7] at h7;rintro (h|h) <;> simp at h <;> omega) (by simp;try omega) (by have h7:=dV.o.obx.lt;rw [U7] at h7;simp;omega) ?_;intro ga gc w8 nW jo eo lS;have Hh:=((dV.o.obx.alloc _).alloc _).grown jo (λe=>HS.o.row.ne _ e.symm (.inr rfl));have d8:=Hh.cells 0;have tk:=af nW;have uu:=af jo;have fV:=af eo;have qQ:=af lS;clear Hh nW jo eo lS)));go_roundw
    .exact ⟨i+1,.slice ga (([]:List (Value × List Per)).length+1) gc,[] ++ [(.slice (some ⟨w1.heap.size+1,0,none⟩) 1 1,[p])],ad,ad,by go_num,af (by rw [<- IT.o];exact EA.o.symm),af (ny.new (x:=⟨_,_,p⟩) aj HS.o mB.o uP.o w_.o aj tk.o uu.o fV.o (by have h:=qQ.o;simp only [U7] at h;exact h))⟩
    simp [intOf];omega
   subst hL;have hle:(L0 ++ [((Value.slice (some ⟨g,0,none⟩) M.length cap),M.map PV.p)]).length=L0.length+1:=by simp
   obtain ⟨ab,rfl⟩:∃ ab,a2=some ⟨ab,0,none⟩:=q5y.resolve_left (by rw [hle];omega);have Qt:wo.cell? ⟨ab,L0.length,none⟩=some (.slice (some ⟨g,0,none⟩) M.length cap):=by
    have h9:=(HS.o.row.get rfl (k:=L0.length) (by rw [hle];omega)).2.1;rw [h9];simp
   have hM1:=dF.len;have lF:=af dF;rw [hle] at b3 CE;clear dF q5y;have eF:=af hle;go_upto_region 7 with (go_at_call 80;(refine A8.mono ?_;rintro e w1 ⟨h',c',rfl,ho,hb1⟩;have h_:iO p:=Eu.o;have ks:=ho.pv h_.fv;obtain ⟨ya,yn,yc,za,zn,zc,rfl,rfl⟩:=ks.form;have B7:=af ks;have w_:=af h_;have cE:Below wo.heap.size wo (w1.alloc (.cells #[.slice ya yn yc,.int .i64 p.frm,.int .i64 p.period,.slice za zn zc] 80)):=Ea hb1 _;have AF:=HS.o.ext (TZ _) cE;have d3:=AF.obx.cells 0;have k4:=an.cell cE hcell;have nx:=af hb1.size;have mB:=af cE;have dV:=af AF;have uP:=af ((ks.keep (aP.below (Ea (Er w1) (.cells #[.slice ya yn yc,.int .i64 p.frm,.int .i64 p.period,.slice za zn zc] 80)))).mono (G:=λb=>wo.heap.size<=b/\b<(w1.alloc (.cells #[.slice ya yn yc,.int .i64 p.frm,.int .i64 p.period,.slice za zn zc] 80)).heap.size) λb hb=>⟨hb.1,by rw [U7];have:=hb.2;omega⟩);clear ho h_ ks cE AF hb1))
   refine D0 (Q:=λe a' W'=>e=.normal/\(∃ (I5:Value) (z26 C_ z28 Da Db z31 z32 z33 Dc z35 Dd z37 De z39 z40 z41 Df Te z44 z45 z46 Tf Tg:Value),a'=⟨#[.slice (some ⟨b,o,none⟩) n c1,undef,.pointer (some ⟨w.heap.size,0,none⟩),.pointer (some ⟨w.heap.size+1,0,none⟩),.int .i64 ↑i,.int .i64 (↑L0.length+1),.pointer (some ⟨w1.heap.size,0,none⟩),.agg #[.slice none 0 0],.int .i64 ↑i,.slice (some ⟨b,o,none⟩) n c1,.int .i64 ↑n,.bool true,.bool true,.int .i64 ↑i,.bool true,.bool true,u16,u17,.pointer (some ⟨w.heap.size+1,0,none⟩),.slice (some ⟨ab,0,none⟩) (L0.length+1) c2,.int .i64 (↑L0.length+1),.slice (some ⟨b,o,none⟩) n c1,.int .i64 ↑i,.pointer (some ⟨b,o+i,none⟩),.slice ua l.length uc,ar (.slice ya yn yc) (.slice za zn zc) p.frm p.period,z26,C_,z28,Da,Db,z31,z32,z33,Dc,z35,Dd,z37,De,z39,z40,z41,Df,Te,z44,z45,z46,Tf,Tg,I5,u50,u51,u52,u53,u54,u55,u56,u57,u58,u59,u60,u61,u62,u63,u64,u65,u66,u67,u68,u69,u70,u71,u72,undef],[]⟩/\q5p x0 L0.length M.length I5)/\Below (w1.alloc (.cells #[.slice ya yn yc,.int .i64 p.frm,.int .i64 p.period,.slice za zn zc] 80)).heap.size (w1.alloc (.cells #[.slice ya yn yc,.int .i64 p.frm,.int .i64 p.period,.slice za zn zc] 80)) W') ?imp ?reg
   case reg=>
    by_cases hM:M.length<3
    .have JK:(M.length:Int)<3:=ad;go_wp2_with (go_at_call 81;(refine (uh.o _ mB.o).mono ?_;rintro e w3 ⟨rfl,hb3⟩;have e3:=(dV.o.ext (TZ _) hb3).obx.c0;rw [hle] at e3;have f3:=an.cell (Et mB.o hb3) Qt));all_goals refine ⟨⟨_,rfl,?_⟩,hb3.mono aj⟩
     all_goals simp only [V6,NU,OB,beq_iff_eq,NV,false_iff,true_iff]
     all_goals omega
    have JK:¬ (M.length:Int)<3:=ad;go_wp2_with (go_at_call 81;(refine (uh.o _ mB.o).mono ?_;rintro e w3 ⟨rfl,hb3⟩;have e3:=(dV.o.ext (TZ _) hb3).obx.c0;rw [hle] at e3;have f3:=an.cell (Et mB.o hb3) Qt));all_goals refine ⟨⟨_,rfl,?_⟩,hb3.mono aj⟩
    all_goals simp only [V6,NU,OB,beq_iff_eq,NV,false_iff,true_iff]
    all_goals omega
   case imp=>
    rintro e a' w3 ⟨rfl,⟨cndv,z26,C_,z28,Da,Db,z31,z32,z33,Dc,z35,Dd,z37,De,z39,z40,z41,Df,Te,z44,z45,z46,Tf,Tg,rfl,hcnd⟩,hb3⟩;obtain ⟨I5,rfl,hcnd⟩:=hcnd;have uk:=af hcnd;clear hcnd;have um:=af (Et mB.o hb3);have PN:=dV.o.ext (TZ _) hb3;have fR:=af PN;have e3:=PN.obx.cells 0;rw [hle] at e3;have f3:=an.cell um.o Qt;have bN:=(ag.new w1 #[.slice ya yn yc,.int .i64 p.frm,.int .i64 p.period,.slice za zn zc] 80).below hb3;have p0:=(bN.cells 0).1;have p1:=(bN.cells 1).1;have p2:=(bN.cells 2).1;have p3:=(bN.cells 3).1;have zE:=af ((uP.o.keep (aP.below hb3)).mono (G:=λb=>wo.heap.size<=b/\b<w3.heap.size) λb hb=>⟨hb.1,N6 hb.2 hb3.size⟩);have hw13:w1.heap.size<w3.heap.size:=by have:=hb3.size;rw [U7] at this;omega
    clear PN hb3 bN;cases I5
    .by_cases h3:L0.length+1<3
     .have h3I:(L0.length:Int)+1<3:=ad;go_wp2_with (at_builtin;(refine Ja aC _ _ aC w.heap.size (rp w.heap.size) (.slice (some ⟨ab,0,none⟩) (L0 ++ [((Value.slice (some ⟨g,0,none⟩) M.length cap),M.map PV.p)]).length c2) (L0 ++ [((Value.slice (some ⟨g,0,none⟩) M.length cap),M.map PV.p)]) (.slice (some ⟨w3.heap.size,0,none⟩) 1 1,[p]) (by rw [hle];rfl) (fR.o.row.below (Ea (Ea (Er _) _) _)) (YK (x:=⟨_,_,p⟩) rfl HS.o um.o zE.o) _ _ aC (ag.at (c:=#[.slice (some ⟨w3.heap.size,0,none⟩) 1 1]) (t:=78) aj).c0 (by have h7:=fR.o.obx.lt;rintro (h|h) <;> simp at h <;> omega) (by simp;try omega) (by have h7:=fR.o.obx.lt;simp;omega) ?_;intro ga gc w8 nW jo eo lS;have Hh:=((fR.o.obx.alloc _).alloc _).grown jo (λe=>HS.o.row.ne _ e.symm (.inr rfl));have d8:=Hh.cells 0;have tk:=af nW;have uu:=af jo;have fV:=af eo;have qQ:=af lS;clear Hh nW jo eo lS));go_roundw
      .have h9:=ny.new (x:=⟨_,_,p⟩) rfl HS.o um.o zE.o w_.o (by rw [hle];omega) tk.o uu.o fV.o (by have h:=qQ.o;simp only [U7] at h;exact h);rw [hle] at h9;exact ⟨i+1,_,_,ad,ad,by go_num,af (by rw [<- IT.o];simp only [UZ,GB,Q6];exact (q7g.o _ _ (λh=>by have:=uk.o.2 (by simpa using h);cases this) (by simpa using h3)).symm),af h9⟩
      simp [intOf];omega
     have h3I:¬ (L0.length:Int)+1<3:=ad;go_wp2;go_roundw
     .have h9:=fR.o;rw [hle] at h9;exact ⟨i+1,_,_,ad,ad,by go_num,af (by rw [<- IT.o];simp only [UZ,GB,Q6];exact (q2r.o _ _ (λh=>by have:=uk.o.2 (by simpa using h);cases this) (by simpa using h3)).symm),af h9⟩
     simp [intOf];omega
    have HM:=af (uk.o.1 aj).2;go_wp2_with fail;have lP:w3.cell? ⟨w.heap.size+1,0,none⟩=some (.slice (some ⟨ab,0,none⟩) (L0.length+1) c2):=e3.1;have dF:=lF.o;have Qs:some (w.heap.size+1)≠some g:=λe=>dF.g.2.1 (.inr (S7 e).symm);have vZ:some ab≠some g:=λe=>dF.g.2.2 e;have Gn:=(dF.own.lt g rfl).2;have wF:=mB.o.size;have hw1l:wo.heap.size<=w1.heap.size:=nx.o;have v_:some w1.heap.size≠some g:=λe=>by have:=S7 e;omega
    have HOW:=af (λW (h:Below w3.heap.size w3 W)=>((dF.ext um.o).ext h).own);have hbz3:w.heap.size<=w3.heap.size:=by have:=fR.o.obx.lt;omega
    have hgl3:g<w3.heap.size:=by have:=um.o.size;omega
    clear dF;refine O0 (w0:=w3) (some g) 12 [0,1,2,3,4,5,6,7,8,9,10,11,12,13] [14] (λv=>⟨#[.slice (some ⟨b,o,none⟩) n c1,undef,.pointer (some ⟨w.heap.size,0,none⟩),.pointer (some ⟨w.heap.size+1,0,none⟩),.int .i64 ↑i,.int .i64 (↑L0.length+1),.pointer (some ⟨w1.heap.size,0,none⟩),.agg #[.slice none 0 0],.int .i64 ↑i,.slice (some ⟨b,o,none⟩) n c1,.int .i64 ↑n,.bool true,.bool true,.int .i64 ↑i,.bool true,.bool true,u16,u17,.pointer (some ⟨w.heap.size+1,0,none⟩),.slice (some ⟨ab,0,none⟩) (L0.length+1) c2,.int .i64 (↑L0.length+1),.slice (some ⟨b,o,none⟩) n c1,.int .i64 ↑i,.pointer (some ⟨b,o+i,none⟩),.slice ua l.length uc,ar (.slice ya yn yc) (.slice za zn zc) p.frm p.period,z26,C_,z28,Da,Db,z31,z32,z33,Dc,z35,Dd,z37,De,z39,z40,z41,Df,Te,z44,z45,z46,Tf,Tg,.bool true,v 0,v 1,v 2,v 3,v 4,v 5,v 6,v 7,v 8,v 9,v 10,v 11,v 12,v 13,u64,u65,u66,u67,u68,u69,u70,u71,u72,undef],[]⟩) (λj=>match j with|0=>u50|1=>u51|2=>u52|3=>u53|4=>u54|5=>u55|6=>u56|7=>u57|8=>u58|9=>u59|10=>u60|11=>u61|12=>u62|13=>u63|_=>undef)
     (λi v lo hi W=>match i with
      | 0=>v 0=.pointer (some ⟨w.heap.size+1,0,none⟩)
      | 1=>v 1=.slice (some ⟨ab,0,none⟩) (L0.length+1) c2
      | 2=>v 2=.int .i64 (L0.length+1)
      | 3=>v 3=.int .i64 L0.length
      | 4=>v 4=.pointer (some ⟨w.heap.size+1,0,none⟩)
      | 5=>v 5=.slice (some ⟨ab,0,none⟩) (L0.length+1) c2
      | 6=>v 6=.int .i64 (L0.length+1)
      | 7=>v 7=.int .i64 L0.length
      | 8=>v 8=.pointer (some ⟨ab,L0.length,none⟩)
      | 9=>v 9=.slice (some ⟨g,0,none⟩) M.length cap
      | 10=>v 10=ar (.slice ya yn yc) (.slice za zn zc) p.frm p.period
      | 11=>v 11=.slice (some ⟨lo 11,0,none⟩) 1 1/\lo 11<hi 11/\w3.heap.size<=lo 11/\hi 11<=W.heap.size/\ag W (lo 11) #[.slice ya yn yc,.int .i64 p.frm,.int .i64 p.period,.slice za zn zc] 80
      | 12=>∃ g' cap',v 12=.slice (some ⟨g',0,none⟩) (M.length+1) cap'/\W.ownsRow w.heap.size 80 4 (.slice (some ⟨g',0,none⟩) (M.length+1) cap') (M.length+1) ((M ++ [(⟨.slice ya yn yc,.slice za zn zc,p⟩:PV)]).flatMap PV.enc)/\(g'=g\/w3.heap.size<=g')
      | 13=>v 13=.pointer (some ⟨ab,L0.length,none⟩)
      | _=>True)
     (λW=>W.cell? ⟨w.heap.size+1,0,none⟩=some (.slice (some ⟨ab,0,none⟩) (L0.length+1) c2)/\W.cell? ⟨ab,L0.length,none⟩=some (.slice (some ⟨g,0,none⟩) M.length cap)/\W.cell? ⟨w1.heap.size,0,none⟩=some (.slice ya yn yc)/\W.cell? ⟨w1.heap.size,1,none⟩=some (.int .i64 p.frm)/\W.cell? ⟨w1.heap.size,2,none⟩=some (.int .i64 p.period)/\W.cell? ⟨w1.heap.size,3,none⟩=some (.slice za zn zc)) rfl (by kernel_rfl) aG rfl ?stab ?loc (λW hb=>⟨hb.cell lP Qs,hb.cell f3 vZ,hb.cell p0 v_,hb.cell p1 v_,hb.cell p2 v_,hb.cell p3 v_⟩) ?steps ?fin
    case stab=>
     rintro (_|_|_|_|_|_|_|_|_|_|_|_|_|_|i) v lo hi W W' h hb
     .exact h
     .exact h
     .exact h
     .exact h
     .exact h
     .exact h
     .exact h
     .exact h
     .exact h
     .exact h
     .exact h
     .rw [if_neg aG] at hb;exact ⟨h.1,h.2.1,h.2.2.1,NN h.2.2.2.1 hb.size,(hb.block (lo 11) (by have:=h.2.1;have:=h.2.2.2.1;omega) (λe=>by have h7:lo 11=g:=S7 e;have:=h.2.2.1;omega)).trans h.2.2.2.2⟩
     .rw [if_pos rfl] at hb;exact (let ⟨g',cap',e,ho,hl⟩:=h;⟨g',cap',e,ho.kept (row:=none) (World.grownBy.of_below hb _) (by right;simp [Value.ownBlock]),hl⟩)
     .exact h
     trivial
    case loc=>
     rintro (_|_|_|_|_|_|_|_|_|_|_|_|_|_|i) v v' lo lo' hi hi' W aA h
     .exact (aA 0 (.inl rfl)).1 ▸ h
     .exact (aA 1 (.inl rfl)).1 ▸ h
     .exact (aA 2 (.inl rfl)).1 ▸ h
     .exact (aA 3 (.inl rfl)).1 ▸ h
     .exact (aA 4 (.inl rfl)).1 ▸ h
     .exact (aA 5 (.inl rfl)).1 ▸ h
     .exact (aA 6 (.inl rfl)).1 ▸ h
     .exact (aA 7 (.inl rfl)).1 ▸ h
     .exact (aA 8 (.inl rfl)).1 ▸ h
     .exact (aA 9 (.inl rfl)).1 ▸ h
     .exact (aA 10 (.inl rfl)).1 ▸ h
     .have q:=aA 11 (.inl rfl);have pM:=aA 10 (.inr (bM (by kernel_rfl)))
      (try dsimp only at h ⊢);(try simp only [q.1,q.2.1,q.2.2,pM.1,pM.2.1,pM.2.2] at h);exact h
     .have q:=aA 12 (.inl rfl);have q9:=aA 9 (.inr (bM (by kernel_rfl)));have mX:=aA 11 (.inr (bM (by kernel_rfl)))
      (try dsimp only at h ⊢);(try simp only [q.1,q.2.1,q.2.2,q9.1,q9.2.1,q9.2.2,mX.1,mX.2.1,mX.2.2] at h);exact h
     .exact (aA 13 (.inl rfl)).1 ▸ h
     trivial
    case steps=>
     refine cw.cons rfl ?_ (cw.cons rfl ?_ (cw.cons rfl ?_ (cw.cons rfl ?_ (cw.cons rfl ?_ (cw.cons rfl ?_ (cw.cons rfl ?_ (cw.cons rfl ?_ (cw.cons rfl ?_ (cw.cons rfl ?_ (cw.cons rfl ?_ (cw.cons rfl ?_ (cw.cons rfl ?_ (cw.cons rfl ?_ cw.nil)))))))))))))
     .rintro v lo hi W hb aX ⟨g0,g1,g2,g3,g4,g5⟩ hd K hK;replace hK:=λx W' (h:Below W.heap.size W W')=>hK x W' (by rw [if_neg aG];exact h);clear aX;clear hd;dsimp only;go_wp2;exact aQ (hK (.pointer (some ⟨w.heap.size+1,0,none⟩)) W (JV _ _) rfl) aj
     .rintro v lo hi W hb aX ⟨g0,g1,g2,g3,g4,g5⟩ hd K hK;replace hK:=λx W' (h:Below W.heap.size W W')=>hK x W' (by rw [if_neg aG];exact h);clear aX;have e0:v 0=.pointer (some ⟨w.heap.size+1,0,none⟩):=(hd 0 (bM (by kernel_rfl))).2.2;clear hd;dsimp only
      (try simp only [e0])
      go_wp2
      exact aQ (hK (.slice (some ⟨ab,0,none⟩) (L0.length+1) c2) W (JV _ _) rfl) (by simp [e0])
     .rintro v lo hi W hb aX ⟨g0,g1,g2,g3,g4,g5⟩ hd K hK;replace hK:=λx W' (h:Below W.heap.size W W')=>hK x W' (by rw [if_neg aG];exact h);clear aX;clear hd;dsimp only;go_wp2;exact aQ (hK (.int .i64 (L0.length+1)) W (JV _ _) rfl) aj
     .rintro v lo hi W hb aX ⟨g0,g1,g2,g3,g4,g5⟩ hd K hK;replace hK:=λx W' (h:Below W.heap.size W W')=>hK x W' (by rw [if_neg aG];exact h);clear aX;have e2:v 2=.int .i64 (L0.length+1):=(hd 2 (bM (by kernel_rfl))).2.2;clear hd;dsimp only
      (try simp only [e2])
      go_wp2
      exact aQ (hK (.int .i64 L0.length) W (JV _ _) rfl) (by simp [e2])
     .rintro v lo hi W hb aX ⟨g0,g1,g2,g3,g4,g5⟩ hd K hK;replace hK:=λx W' (h:Below W.heap.size W W')=>hK x W' (by rw [if_neg aG];exact h);clear aX;clear hd;dsimp only;go_wp2;exact aQ (hK (.pointer (some ⟨w.heap.size+1,0,none⟩)) W (JV _ _) rfl) aj
     .rintro v lo hi W hb aX ⟨g0,g1,g2,g3,g4,g5⟩ hd K hK;replace hK:=λx W' (h:Below W.heap.size W W')=>hK x W' (by rw [if_neg aG];exact h);clear aX;have e4:v 4=.pointer (some ⟨w.heap.size+1,0,none⟩):=(hd 4 (bM (by kernel_rfl))).2.2;clear hd;dsimp only
      (try simp only [e4])
      go_wp2
      exact aQ (hK (.slice (some ⟨ab,0,none⟩) (L0.length+1) c2) W (JV _ _) rfl) (by simp [e4])
     .rintro v lo hi W hb aX ⟨g0,g1,g2,g3,g4,g5⟩ hd K hK;replace hK:=λx W' (h:Below W.heap.size W W')=>hK x W' (by rw [if_neg aG];exact h);clear aX;clear hd;dsimp only;go_wp2;exact aQ (hK (.int .i64 (L0.length+1)) W (JV _ _) rfl) aj
     .rintro v lo hi W hb aX ⟨g0,g1,g2,g3,g4,g5⟩ hd K hK;replace hK:=λx W' (h:Below W.heap.size W W')=>hK x W' (by rw [if_neg aG];exact h);clear aX;have e6:v 6=.int .i64 (L0.length+1):=(hd 6 (bM (by kernel_rfl))).2.2;clear hd;dsimp only
      (try simp only [e6])
      go_wp2
      exact aQ (hK (.int .i64 L0.length) W (JV _ _) rfl) (by simp [e6])
     .rintro v lo hi W hb aX ⟨g0,g1,g2,g3,g4,g5⟩ hd K hK;replace hK:=λx W' (h:Below W.heap.size W W')=>hK x W' (by rw [if_neg aG];exact h);clear aX;have e5:v 5=.slice (some ⟨ab,0,none⟩) (L0.length+1) c2:=(hd 5 (bM (by kernel_rfl))).2.2;have e7:v 7=.int .i64 L0.length:=(hd 7 (bM (by kernel_rfl))).2.2;clear hd;dsimp only
      (try simp only [e5,e7])
      go_wp2
      exact aQ (hK (.pointer (some ⟨ab,L0.length,none⟩)) W (JV _ _) rfl) (by simp [e5,e7])
     .rintro v lo hi W hb aX ⟨g0,g1,g2,g3,g4,g5⟩ hd K hK;replace hK:=λx W' (h:Below W.heap.size W W')=>hK x W' (by rw [if_neg aG];exact h);clear aX;have e8:v 8=.pointer (some ⟨ab,L0.length,none⟩):=(hd 8 (bM (by kernel_rfl))).2.2;clear hd;dsimp only
      (try simp only [e8])
      go_wp2
      exact aQ (hK (.slice (some ⟨g,0,none⟩) M.length cap) W (JV _ _) rfl) (by simp [e8])
     .rintro v lo hi W hb aX ⟨g0,g1,g2,g3,g4,g5⟩ hd K hK;replace hK:=λx W' (h:Below W.heap.size W W')=>hK x W' (by rw [if_neg aG];exact h);clear aX;clear hd;dsimp only;go_wp2;exact aQ (hK (ar (.slice ya yn yc) (.slice za zn zc) p.frm p.period) W (JV _ _) rfl) (by simp [ite_true])
     .rintro v lo hi W hb aX ⟨g0,g1,g2,g3,g4,g5⟩ hd K hK;replace hK:=λx W' (h:Below W.heap.size W W')=>hK x W' (by rw [if_neg aG];exact h);clear aX;have ir:v 10=ar (.slice ya yn yc) (.slice za zn zc) p.frm p.period:=(hd 10 (bM (by kernel_rfl))).2.2;clear hd;dsimp only
      (try simp only [ir])
      go_wp2
      exact aQ (hK (.slice (some ⟨W.heap.size,0,none⟩) 1 1) _ (Ea (Er _) _) ⟨rfl,aj,hb.size,aj,ag.new _ _ _⟩) (by simp [ir])
     .rintro v lo hi W hb aX ⟨g0,g1,g2,g3,g4,g5⟩ hd K hK;replace hK:=λx W' (h:W.grownBy W' (some g))=>hK x W' (by rw [if_pos rfl];exact h);replace aX:=aX rfl;have e9:v 9=.slice (some ⟨g,0,none⟩) M.length cap:=(hd 9 (bM (by kernel_rfl))).2.2;obtain ⟨Ie,Ih,yR⟩:=hd 11 (bM (by kernel_rfl));clear hd;dsimp only
      (try simp only [e9])
      obtain ⟨e11,h11a,h11b,h11c,q4c⟩:=yR;refine qc_ W _ _ aC w.heap.size g cap M ⟨.slice ya yn yc,.slice za zn zc,p⟩ (by first|rfl|exact e9) (HOW.o _ aX) (lo 11) 1 (by first|exact e11|(simp [e11];done)) q4c (PV.enc_one _ rfl rfl) (by have:=HM.o;omega) (by have h8:=aX.size;omega) ?_;intro g' cap' w9 au aq aI;exact aQ (hK (.slice (some ⟨g',0,none⟩) (M.length+1) cap') w9 aq ⟨g',cap',rfl,au,aI.imp id (λe=>by rw [e];exact hb.size)⟩) (by simp only [e9];rfl)
     rintro v lo hi W hb aX ⟨g0,g1,g2,g3,g4,g5⟩ hd K hK;replace hK:=λx W' (h:Below W.heap.size W W')=>hK x W' (by rw [if_neg aG];exact h);clear aX;have e1:v 1=.slice (some ⟨ab,0,none⟩) (L0.length+1) c2:=(hd 1 (bM (by kernel_rfl))).2.2;have e3:v 3=.int .i64 L0.length:=(hd 3 (bM (by kernel_rfl))).2.2;clear hd;dsimp only
     (try simp only [e1,e3])
     go_wp2
     exact aQ (hK (.pointer (some ⟨ab,L0.length,none⟩)) W (JV _ _) rfl) (by simp [e1,e3])
    case fin=>
     rintro v lo hi9' W9 tH ⟨g0,g1,-,-,-,-⟩ hf hap;show wpList _ _ _ [_] _ _;have lr:v 13=.pointer (some ⟨ab,L0.length,none⟩):=(hf 13 rfl).2.2.2;obtain ⟨-,-,-,g',cap',gi,au,aI⟩:=hf 12 rfl;clear hf hap;dsimp only;rw [lr,gi];clear gi lr;have yz:=fR.o.row.row;have fz:W9.frozen? ⟨ab,L0.length,none⟩=false:=(tH.frozen_far _ (yz.lt ab rfl).2 vZ).trans (yz.frozenAt L0.length);have fF:=af tH;have iK:=af au;have q4t:=af aI;clear yz tH au aI;generalize v 0=z0,v 1=z1,v 2=z2,v 3=z3,v 4=z4,v 5=z5,v 6=z6,v 7=z7,v 8=z8,v 9=z9,v 10=yP,v 11=yQ;go_wp2;go_roundw
     .have h8:=HS.o;have h7:=lF.o;rw [hle] at h8 h7;exact ⟨i+1,_,_,ad,ad,by go_num,af (by rw [<- IT.o];simp only [UZ,GB,Q6];exact (Ez.o _ _ (by simpa using uk.o.1 aj)).symm),af (ny.more h8 h7 um.o zE.o w_.o HM.o fF.o iK.o q4t.o)⟩
     simp [intOf];omega
  obtain rfl:i=9:=ad;have r2:=HS.o.rbx.cells 0;go_wp2_with fail;have cr:=HS.o.row.box (World.grownBy.set' (i:=0) ⟨rfl,rfl,rfl,TZ _,λ_ _ _=>rfl⟩ (.slice a2 L.length c2)) (.inl rfl);have hcc:=ag.c0 (bE 0 (.slice a2 L.length c2) HS.o.rbx);exact VN (v:=.agg #[.slice a2 L.length c2]) (by simp [results,Tryz.results42,go_sem,hcc]) rfl (by rw [<- TO.o _ gU aj,<- HQ.o];exact ⟨a2,c2,by rw [U6],⟨L,rfl,by rw [U6];exact cr.mix⟩,HS.o.md,HS.o.below.setCell (p:=⟨w.heap.size,0,none⟩) (TZ _) _⟩)
 obtain rfl:i=n:=ad;have r2:=HS.o.rbx.cells 0;go_wp2_with fail;have cr:=HS.o.row.box (World.grownBy.set' (i:=0) ⟨rfl,rfl,rfl,TZ _,λ_ _ _=>rfl⟩ (.slice a2 L.length c2)) (.inl rfl);have hcc:=ag.c0 (bE 0 (.slice a2 L.length c2) HS.o.rbx);exact VN (v:=.agg #[.slice a2 L.length c2]) (by simp [results,Tryz.results42,go_sem,hcc]) rfl (by rw [<- TO.o _ gU aj,<- HQ.o];exact ⟨a2,c2,by rw [U6],⟨L,rfl,by rw [U6];exact cr.mix⟩,HS.o.md,HS.o.below.setCell (p:=⟨w.heap.size,0,none⟩) (TZ _) _⟩)
theorem ym_ (a m:Int) (w:World) (ha:0<=a) (ha1:a<=9007199254740992) (h2:2<=m) (hm:m<=4294967295) (hg:Int.gcd a m=1) :
  Calls Tryz.prog 219 #[.int .i64 a,.int .i64 m] w λe w'=>∃ r,e=.returned (.int .i64 r)/\q4r a m r/\∃ n,w'=w.drewN n:=by
 have HS:=af (kC.start ha h2 hg);have r0:=VK a (show m≠0 by omega);have r1:=VM a (show 0<m by omega);clear hg
 go_in
 go_wp2_with fail
 repeat (go_quiet (fail);go_wp2_with fail)
 go_loopw [5,6,7,8] (λvx vy vu vv wr=>∃ x y u v U V:Int,vx=.int .i64 x/\vy=.int .i64 y/\vu=.int .i64 u/\vv=.int .i64 v/\kC a m x y u v U V/\∃ n,wr=w.drewN n) (λvx _ _ _ _=>(intOf vx).toNat)
 .exact ⟨_,_,_,_,_,_,rfl,rfl,rfl,rfl,HS.o,0,rfl⟩
 obtain ⟨x,y,u,v,U,V,rfl,rfl,rfl,rfl,hE,n,rfl⟩:=hrel;have x1:=hE.x1;have xy:=hE.xy;have ym:=hE.ym;by_cases hz:1<x
 .obtain ⟨cE,h1,h2',h3,h4,h5,h6,h7,h8⟩:=hE.step hz;have y1:=cE.x1;have y2:=cE.xy;have HE:=af cE;clear hE cE;go_wp2_with fail
  repeat (go_quiet (fail);go_wp2_with fail)
  go_roundw
  .exact ⟨_,_,_,_,_,_,rfl,rfl,rfl,rfl,HE.o,_,rfl⟩
  simp [intOf];omega
 obtain ⟨h1,h2',h3,h4,h5,h6⟩:=hE.fin hz h2;have u0:=VK u (show m≠0 by omega);have u1:=VM u (show 0<m by omega);have H3:=af h3;have H6:=af h6;clear h3 h6 hE;go_wp2_with fail
 repeat (go_quiet (fail);go_wp2_with fail)
 go_ret;exact ⟨_,rfl,⟨by rw [H3.o];exact u0,by rw [H3.o];exact u1,by rw [H3.o];exact H6.o⟩,n,rfl⟩
theorem uz_ (at_ step r P:Int) (w:World) (h0:0<=at_) (h1:at_<step) (r0:0<=r) (r1:r<P) (hs:step<=27720) (hp:P<=27720) :
  Calls Tryz.prog 186 #[.agg #[.int .i64 at_,.int .i64 step],.int .i64 r,.int .i64 P] w λe w'=>∃ a s b,e=.returned (.tuple #[.agg #[.int .i64 a,.int .i64 s],.bool b])/\nD at_ step r P a s b/\Below w.heap.size w w':=by
 have s1:1<=step:=ad;have p1:1<=P:=ad;have hg:=oA (b:=P) s1;have hg2:=xw (a:=step) p1;have HG:=λW=>Al step P W s1 ad p1 ad;have gO:=λh=>af (Zf (at_:=at_) (step:=step) (r:=r) (P:=P) h);have uf:=λh hn=>af (yh_ (at_:=at_) (step:=step) (r:=r) (P:=P) s1 h0 h1 p1 h hn);have uK:=λinv h hi=>af (yk_ (at_:=at_) (step:=step) (r:=r) (P:=P) (inv:=inv) s1 h0 h1 p1 rfl rfl h hi);have iV:=No (a:=step) (b:=P) s1;have sj:((Int.gcd step P:Nat):Int)∣step:=MP ..;have hdr:((Int.gcd step P:Nat):Int)∣P:=M0 ..;generalize ((Int.gcd step P:Nat):Int)=g at *;have kt:(r-at_).tmod g=0↔(r-at_) % g=0:=by
  constructor
  .exact λh=>NA (Int.dvd_of_tmod_eq_zero h)
  exact λh=>q8o (NB h)
 by_cases hd:(r-at_) % g=0
 .have hT:=kt.2 hd;have mS:1<=P / g:=(QK ad).2 ad;have CW:P / g<=P:=z_ _ ad;have htn:P.tdiv g=P / g:=q7r hdr;by_cases hn:P / g=1
  .have HA:=uf hd hn;rw [hn] at htn;clear gO uf uK hd hn mS CW iV kt sj hdr
   go_in
   go_wp2_with (go_at_call 176;(refine (HG _).mono ?_;rintro e w1 ⟨rfl,nq,rfl⟩))
   exact VN (v:=.tuple #[.agg #[.int .i64 at_,.int .i64 step],.bool true]) (by simp [results,Tryz.results186,go_sem]) rfl ⟨_,_,_,rfl,HA.o,xE⟩
  have HO:=λinv hi=>uK inv hd hi;have Kc:(r-at_).tdiv g=(r-at_) / g:=q7r (NB hd);have eD:=Xa (x:=r-at_) (B:=27720) hg.1 ad ad ad;have hsg:step.tdiv g=step / g:=q7r sj;have hs1:1<=step / g:=(QK ad).2 ad;have hs2:step / g<=step:=z_ _ ad;generalize P / g=n at *;generalize step / g=sg at *;generalize (r-at_) / g=q0 at *;have J4:2<=n:=ad;have t1:=q8p q0 (show 0<n by omega);have t2:=Int.lt_tmod_of_pos q0 (show 0<n by omega);have t3:q0.tmod n % n=q0 % n:=ve ⟨-(q0.tdiv n),by have:=q7q q0 n;rw [OI];omega⟩;have t4:=VK q0 (show n≠0 by omega);have t5:=VM q0 (show 0<n by omega);have q4l:=λW=>ym_ sg n W ad ad J4 ad iV;obtain ⟨t0,yB⟩:∃ t0,q0.tmod n=t0:=⟨_,rfl⟩;rw [yB] at t1 t2 t3;generalize q0 % n=wn at *;have F8:-27720<=t0+n:=ad;have gw:0<=step*n/\step*n<=768398400:=⟨K_ ad ad,yu (show step<=27720 from hs) (show n<=27720 by omega) ad ad⟩;clear gO uf uK hd hn mS iV kt sj hdr
  go_in
  go_wp2_with (first|(go_at_call 176;(refine (HG _).mono ?_;rintro e w1 ⟨rfl,nq,rfl⟩))|(go_at_call 219;(refine (q4l _).mono ?_;rintro e w2 ⟨inv,rfl,hinv,Sy,rfl⟩;have i0:=hinv.1;have i1:=hinv.2.1;have HI:=af (HO inv hinv.2.2);have hp:0<=wn*inv/\wn*inv<=768398400:=⟨K_ ad ad,yu (show wn<=27720 by omega) (show inv<=27720 by omega) ad ad⟩;have hk0:=VK (wn*inv) (show n≠0 by omega);have sq:=VM (wn*inv) (show 0<n by omega);have hq:0<=(wn*inv % n)*step/\(wn*inv % n)*step<=768398400:=⟨K_ ad ad,yu (show wn*inv % n<=27720 by omega) (show step<=27720 from hs) ad ad⟩;clear hinv))|(go_at_call 218;first
    | ((with_reducible refine (Je wn inv _ ad ad ad ad).mono ?_);rintro e w3 ⟨rfl,rfl⟩)
    | ((with_reducible refine (Je (wn*inv % n) step _ ad ad ad ad).mono ?_);rintro e w3 ⟨rfl,rfl⟩)
    | ((with_reducible refine (Je step n _ ad ad ad ad).mono ?_);rintro e w3 ⟨rfl,rfl⟩))|(go_at_call 220;(refine (WG _ _ _ hp.1 ad ad ad).mono ?_;rintro e w4 ⟨rfl,nq3,rfl⟩)))
  exact VN (v:=.tuple #[.agg #[.int .i64 (at_+wn*inv % n*step),.int .i64 (step*n)],.bool true]) (by simp [results,Tryz.results186,go_sem]) rfl ⟨_,_,_,rfl,HI.o.1,xE⟩
 have hT:¬ (r-at_).tmod g=0:=λh=>hd (kt.1 h);have HN:=gO hd;clear gO uf uK hd iV kt sj hdr
 go_in
 go_wp2_with (go_at_call 176;(refine (HG _).mono ?_;rintro e w1 ⟨rfl,nq,rfl⟩))
 exact VN (v:=.tuple #[.agg #[.int .i64 0,.int .i64 0],.bool false]) (by simp [results,Tryz.results186,go_sem]) rfl ⟨_,_,_,rfl,HN.o,xE⟩
theorem xm_ (at_ step r P:Int) (h0:0<=at_) (h1:at_<step) (r0:0<=r) (r1:r<P) (hs:step<=27720) (hp:P<=27720):∃ a s b,nD at_ step r P a s b/\∀ w,
  Calls Tryz.prog 186 #[.agg #[.int .i64 at_,.int .i64 step],.int .i64 r,.int .i64 P] w λe w'=>e=.returned (.tuple #[.agg #[.int .i64 a,.int .i64 s],.bool b])/\Below w.heap.size w w':=by
 obtain ⟨a,s,b,hm⟩:=w0_ (at_:=at_) (r:=r) (show 1<=step by omega) (show 1<=P by omega);refine ⟨a,s,b,hm,λw=>(uz_ at_ step r P w h0 h1 r0 r1 hs hp).mono ?_⟩;rintro e w' ⟨a',s',b',rfl,GI,hb⟩;obtain ⟨rfl,rfl,rfl⟩:=hm.unique ad ad GI;exact ⟨rfl,hb⟩
end
end Go.Proofs.YtbmgmlbmgogeaaaGreat
end
namespace Go.Proofs.YtbmgmlbmgogeaaaGreat
section
open Go.RowKit Go.Maps Kal
structure LB (w0:World) (b1 b2 b3 b4 b5:Nat):Prop where
 h4:w0.heap.size<=b4
 h5:w0.heap.size<=b5
 n14:b1≠b4
 n15:b1≠b5
 n24:b2≠b4
 n25:b2≠b5
 n34:b3≠b4
 n35:b3≠b5
 n45:b4≠b5
structure LS (w0:World) (b1 b2 b3 b4 b5:Nat) (v:Value) (f l:Int) (fb:Bool) (W:World):Prop where
 below:Below w0.heap.size w0 W
 c1:ag W b1 #[v] 78
 c2:ag W b2 #[.func (.func 185) #[] #[.pointer (some ⟨b1,0,none⟩),.pointer (some ⟨b2,0,none⟩),.pointer (some ⟨b3,0,none⟩),.pointer (some ⟨b4,0,none⟩),.pointer (some ⟨b5,0,none⟩)]] 223
 c3:ag W b3 #[.int .i64 f] 3
 c4:ag W b4 #[.int .i64 l] 3
 c5:ag W b5 #[.bool fb] 4
section
variable {w0 W W':World} {b1 b2 b3 b4 b5:Nat} {v:Value} {f l l':Int} {fb:Bool}
theorem LS.ext (h:LS w0 b1 b2 b3 b4 b5 v f l fb W) (hb:Below W.heap.size W W'):LS w0 b1 b2 b3 b4 b5 v f l fb W':=
 ⟨Et h.below hb,h.c1.below hb,h.c2.below hb,h.c3.below hb,h.c4.below hb,h.c5.below hb⟩
theorem LS.put (h:LS w0 b1 b2 b3 b4 b5 v f l fb W) (hb:LB w0 b1 b2 b3 b4 b5):LS w0 b1 b2 b3 b4 b5 v f l' true ((W.setCell ⟨b4,0,none⟩ (.int .i64 l')).setCell ⟨b5,0,none⟩ (.bool true)):=
 ⟨(
  h.below.setCell (p:=⟨b4,0,none⟩) hb.h4 _).setCell (p:=⟨b5,0,none⟩) hb.h5 _,
  (h.c1.setNe _ hb.n14).setNe _ hb.n15,(h.c2.setNe _ hb.n24).setNe _ hb.n25,(h.c3.setNe _ hb.n34).setNe _ hb.n35,
  ag.setNe (bE 0 _ h.c4) _ hb.n45,bE 0 _ (h.c5.setNe _ hb.n45.symm)⟩
end
theorem Ss {W:World} {b:Nat} {x y x' y':Value} {t:TypeId} (h:ag W b #[x,y] t):ag ((W.setCell ⟨b,0,none⟩ x').setCell ⟨b,1,none⟩ y') b #[x',y'] t:=by
 have h1:=bE 1 y' (bE 0 x' h);simpa [ag] using h1
theorem RD {B b:Nat} {w W:World} (hb:Below B w W) (h:B<=b) (x y:Value):Below B w ((W.setCell ⟨b,0,none⟩ x).setCell ⟨b,1,none⟩ y):=
 (hb.setCell (p:=⟨b,0,none⟩) h _).setCell (p:=⟨b,1,none⟩) h _
def Nb (w0:World) (b1 b2 b3 b4 b5:Nat) (v:Value) (f:Int) (S:Int->Prop) (w:World) (e:Ending) (w':World):Prop:=
 ∃ l fb,e=.returned (.tuple #[])/\LS w0 b1 b2 b3 b4 b5 v f l fb w'/\aP (λb=>b≠b4/\b≠b5) w w'/\w.heap.size<=w'.heap.size/\kG cH S f l fb
theorem YF {W W':World} {b4 b5:Nat} (v4 v5:Value) (hb:Below W.heap.size W W'):aP (λb=>b≠b4/\b≠b5) W ((W'.setCell ⟨b4,0,none⟩ v4).setCell ⟨b5,0,none⟩ v5):=λb h hl=>
 ((DO _ ⟨b5,0,none⟩ v5 b h.2).trans (DO _ ⟨b4,0,none⟩ v4 b h.1)).trans (hb.block b hl)
theorem qp_ (s:Int) (w0:World) (b1 b2 b3 b4 b5:Nat) (hB:LB w0 b1 b2 b3 b4 b5) (v:Value) (L:List PV) (hL:gR w0 (λb=>b<w0.heap.size) v L) (hv:∀ p∈L.map PV.p,FV s p) (f:Int) (f0:0<=f) (f1:f<=1152921504606846976) :
  ∀ (n i:Nat) (at_ step l:Int) (fb:Bool) (S:Int->Prop) (w:World),i+n=L.length->0<=at_->at_<step->step∣27720->LS w0 b1 b2 b3 b4 b5 v f l fb w->kG cH S f l fb->
   Calls Tryz.prog 185 #[.int .i64 i,.agg #[.int .i64 at_,.int .i64 step],.pointer (some ⟨b1,0,none⟩),.pointer (some ⟨b2,0,none⟩),.pointer (some ⟨b3,0,none⟩),.pointer (some ⟨b4,0,none⟩),.pointer (some ⟨b5,0,none⟩)] w
    (Nb w0 b1 b2 b3 b4 b5 v f (λx=>S x\/dA ((L.map PV.p).drop i) at_ step x) w):=by
 intro n;induction n with
 | zero=>
  intro i at_ step l fb S w hi h0 h1 hd hs cz;have fA:=hL.len;obtain rfl:i=L.length:=ad;obtain ⟨a1,c1,rfl,hx1,hx2,_⟩:=hL.row.is;have s1:step<=27720:=QV aG hd;have s0:0<step:=ad;have q1:=(hs.c1.alloc (.cells #[.int .i64 at_,.int .i64 step] 225)).c0;have q3:=(hs.c3.alloc (.cells #[.int .i64 at_,.int .i64 step] 225)).c0;have q4:=((hs.c4.alloc (.cells #[.int .i64 at_,.int .i64 step] 225)).cells 0);have q5:=((hs.c5.alloc (.cells #[.int .i64 at_,.int .i64 step] 225)).cells 0);have q6:=((ag.setNe (i:=0) (hs.c5.alloc (.cells #[.int .i64 at_,.int .i64 step] 225)) (.int .i64 at_) hB.n45.symm).cells 0);have hle:l<=1152921504606846976:=cz.le;have hl0:-9223372036854775808<=l:=by
   rcases cz with ⟨_,h,_⟩|⟨_,h,_⟩
   .omega
   rw [h];decide
  have BZ:=af (cz.leaf (at_:=at_) (show 1<=step by omega) h0 h1 f0);have HS:=af hs;have Tn:=af cz;clear hs cz hi;by_cases hlt:at_<f
  .have T0:0<=f-at_+step-1:=ad;have Rl:upTo f at_ step=at_+(f-at_+step-1) / step*step:=if_pos hlt;have e:=OG (f-at_+step-1) step;have e0:=VK (f-at_+step-1) (show step≠0 by omega);have e1:=VM (f-at_+step-1) s0;rw [LY step] at e;have q0:0<=(f-at_+step-1) / step:=N1 T0 ad;have q9:(f-at_+step-1) / step<=f-at_+step-1:=z_ _ T0;have Kc:(f-at_+step-1).tdiv step=(f-at_+step-1) / step:=DL T0;generalize (f-at_+step-1) / step=q at *;have q3':=(HS.o.c3.alloc (.cells #[.int .i64 (at_+q*step),.int .i64 step] 225)).c0;have q4':=((HS.o.c4.alloc (.cells #[.int .i64 (at_+q*step),.int .i64 step] 225)).cells 0);have q5':=((HS.o.c5.alloc (.cells #[.int .i64 (at_+q*step),.int .i64 step] 225)).cells 0);have q6':=((ag.setNe (i:=0) (HS.o.c5.alloc (.cells #[.int .i64 (at_+q*step),.int .i64 step] 225)) (.int .i64 (at_+q*step)) hB.n45.symm).cells 0);rw [Rl] at BZ;have hmu:0<=q*step/\q*step<=f-at_+step-1:=⟨K_ q0 ad,ad⟩
   go_in
   go_wp2_with fail
   go_region
   all_goals go_wp2_with fail
   .refine ⟨rfl,.tuple #[],by simp [results,Tryz.results185,go_sem],at_+q*step,true,rfl,((HS.o.ext (Ea (Er _) _)).put hB).ext (Ed (Er _)),YF _ _ (Ea (Er w) _),aj,?_⟩;refine (BZ.o.1 (by assumption)).congr λx hx=>?_;rw [N5 aj,Ki]
   refine ⟨rfl,.tuple #[],by simp [results,Tryz.results185,go_sem],l,fb,rfl,(HS.o.ext (Ea (Er _) _)).ext (Ed (Er _)),aP.below (Ed (Ea (Er w) _)),aj,?_⟩;refine (BZ.o.2 ad).congr λx hx=>?_;rw [N5 aj,Ki]
  have Rl:upTo f at_ step=at_:=if_neg hlt;rw [Rl] at BZ
  go_in
  go_wp2_with fail
  .refine ⟨rfl,.tuple #[],by simp [results,Tryz.results185,go_sem],at_,true,rfl,(HS.o.ext (Ea (Er _) _)).put hB,YF _ _ (Ea (Er w) _),aj,?_⟩;refine (BZ.o.1 (by assumption)).congr λx hx=>?_;rw [N5 aj,Ki]
  refine ⟨rfl,.tuple #[],by simp [results,Tryz.results185,go_sem],l,fb,rfl,HS.o.ext (Ea (Er _) _),aP.below (Ea (Er w) _),aj,?_⟩;refine (BZ.o.2 ad).congr λx hx=>?_;rw [N5 aj,Ki]
 | succ n ih=>
  intro ii at_ step l fb S w hi h0 h1 hd hs cz;have IH:=af ih;clear ih;have fA:=hL.len;have tK:ii<L.length:=ad;have tJ:(ii:Int)<L.length:=ad;have s1:step<=27720:=QV aG hd;obtain ⟨a1,c1,rfl,hx1,hx2,_⟩:=hL.row.is;obtain ⟨tb,o1,x,ha,hx,c_,Ga,e0,e1,e2,e3⟩:=hL.get tK;subst ha;have oM:FV s x.p:=hv _ (by rw [c_];exact dI (by simpa using tK));have hdr:(L.map PV.p).drop ii=x.p :: (L.map PV.p).drop (ii+1):=by
   rw [GE (by simpa using tK),c_,VS,U2 (by simpa using tK)];rfl
  obtain ⟨xh,xc,xp⟩:=x;obtain ⟨eA,eE,eB,eW,fq,dZ,rfl,rfl⟩:=hx.form;dsimp only at e0 e1 e2 e3 oM hdr;have mV:=hx.is.cy;dsimp only at mV;obtain ⟨⟨ah,ch,he,_,_,hcl⟩,lx,hrg⟩:=mV;injection he with cN eP dz
  subst cN;subst eP;subst dz;have hw:=oM.fac.wf;have f0':=hw.frm;have f1':=oM.far;have p0:=hw.per;have p1:=oM.fac.per;have HD:Hid (step∣27720):=af hd;have Iw:=af oM;have DB:=af hdr;have ze:=af hw.cyc;have Uc:=af hw;have LC:=af hi;have HX:=af hx;have pU:=af hL;have IA:=af hv;have cS:=af hcl;have bY:=af hs.below;have q1:=(hs.c1.alloc (.cells #[.int .i64 at_,.int .i64 step] 225)).c0;have E0:=dW (an.cell hs.below e0) (.cells #[.int .i64 at_,.int .i64 step] 225);have E1:=dW (an.cell hs.below e1) (.cells #[.int .i64 at_,.int .i64 step] 225);have E2:=dW (an.cell hs.below e2) (.cells #[.int .i64 at_,.int .i64 step] 225);have E3:=dW (an.cell hs.below e3) (.cells #[.int .i64 at_,.int .i64 step] 225);have EE0:=af e0;have EE1:=af e1;have EE2:=af e2;have EE3:=af e3;have HS:=af hs;have Tn:=af cz;have Gz:Hid (w.heap.size≠b4/\w.heap.size≠b5):=af ⟨by have:=hs.c4.lt;omega,by have:=hs.c5.lt;omega⟩;clear hs cz hi e0 e1 e2 e3 hcl hrg hx oM hdr hL hv hw c_
  go_in
  go_wp2_with fail
  obtain ⟨bw,cB⟩:∃ bw,bw=w.heap.size:=⟨_,rfl⟩;rw [<- cB];have bL:=af cB;have HN:Hid (bw≠b4/\bw≠b5):=af (by rw [cB];exact Gz.o);clear q1 E0 E1 E2 E3 cB Gz;go_loopw [10,11,12,23] (λ_ _ _ idx wr=>∃ (j:Nat) (l':Int) (Cw:Bool),j<=xp.cycle.length/\idx=.int .i64 j/\Hid (LS w0 b1 b2 b3 b4 b5 (.slice (some ⟨tb,o1,none⟩) L.length c1) f l' Cw wr)/\Hid (ag wr bw #[.int .i64 at_,.int .i64 step] 225)/\Hid (aP (λb=>b≠b4/\b≠b5) w wr)/\Hid (w.heap.size<=wr.heap.size)/\Hid (kG cH (vE S xp ((L.map PV.p).drop (ii+1)) at_ step j) f l' Cw)) (λ_ _ _ idx _=>xp.cycle.length-(intOf idx).toNat)
  .exact ⟨0,l,fb,ad,rfl,af (HS.o.ext (Ea (Er _) _)),af (ag.at bL.o),af (aP.below (Ea (Er w) _)),af aj,af (Tn.o.congr λx _=>ti_)⟩
  obtain ⟨j,l',Cw,hj,rfl,j7,cD,uA,Cc,gj⟩:=hrel;by_cases dE:j<xp.cycle.length
  .have sm:(j:Int)<xp.cycle.length:=ad;rcases cS.o with h9|⟨bc,oc,rfl,hcc⟩
   .rw [h9] at dE;simp at dE
   have c0:=an.cell j7.o.below (hcc j dE);have hcr:=ze.o.2 _ (dI (d:=0) dE);have ig:=λa2 s2 bb x (h:nD at_ step (cF xp (xp.cycle.getD j 0)) xp.period a2 s2 bb)=>th_ (S:=S) (t:=(L.map PV.p).drop (ii+1)) (x:=x) Uc.o dE ad h0 h1 h;generalize xp.cycle.getD j 0=c at *;have hr:=KE Uc.o c;obtain ⟨a2,s2,bb,hM,Ma⟩:=xm_ at_ step (cF xp c) xp.period h0 h1 hr.1 hr.2 s1 p1;have iL:=λW=>Wm (.slice eA eE eB) (.slice (some ⟨bc,oc,none⟩) xp.cycle.length dZ) xp c W f0' ad p0 ad hcr.1 ad;have rk:=af (λx=>ig a2 s2 bb x hM);have HM:=af hM;have q1:=j7.o.c1.c0;have q2:=j7.o.c2.c0;have m0:wr.cell? ⟨bw,0,none⟩=some (.int .i64 at_):=(cD.o.cells 0).1;have m1:wr.cell? ⟨bw,1,none⟩=some (.int .i64 step):=(cD.o.cells 1).1;have E0:=an.cell j7.o.below EE0.o;have E1:=an.cell j7.o.below EE1.o;have E2:=an.cell j7.o.below EE2.o;have E3:=an.cell j7.o.below EE3.o;generalize cF xp c=r at *;clear hcc ig hM;go_wp2_with fail;have uB:=af q2;clear q2;refine D0 (Q:=λe a' W'=>e=.normal/\(∃ (nb:Nat) (C_ z28 Da Db z31 z32 z33 Dc z35 Dd z37 De z39 z40 z41 Df:Value),a'=⟨#[.int .i64 ↑ii,.agg #[.int .i64 at_,.int .i64 step],.pointer (some ⟨b1,0,none⟩),.pointer (some ⟨b2,0,none⟩),.pointer (some ⟨b3,0,none⟩),.pointer (some ⟨b4,0,none⟩),.pointer (some ⟨b5,0,none⟩),undef,.pointer (some ⟨bw,0,none⟩),undef,.int .i64 c,.pointer (some ⟨nb,0,none⟩),.bool bb,.int .i64 ↑ii,.slice (some ⟨tb,o1,none⟩) L.length c1,.int .i64 ↑L.length,.bool true,.slice (some ⟨tb,o1,none⟩) L.length c1,.int .i64 ↑ii,.pointer (some ⟨tb,o1+ii*4,none⟩),.pointer (some ⟨tb,o1+ii*4+3,none⟩),.slice (some ⟨bc,oc,none⟩) xp.cycle.length dZ,.int .i64 ↑xp.cycle.length,.int .i64 ↑j,.bool true,.pointer (some ⟨bc,oc+j,none⟩),.int .i64 c,C_,z28,Da,Db,z31,z32,z33,Dc,z35,Dd,z37,De,z39,z40,z41,Df,u43,u44,u45,u46,u47,u48,u49,undef,undef,undef,undef,undef,undef,undef,undef,undef,undef,undef,undef,undef,undef,undef,undef,undef,undef,undef,undef,undef,undef,undef,undef,undef,undef,undef,undef,undef,undef,undef,undef,undef,undef,undef,undef,undef,undef,undef],[]⟩/\ag W' nb #[.int .i64 a2,.int .i64 s2] 225)/\Below wr.heap.size wr W') ?imp ?reg
   case reg=>
    refine PX (w0:=wr) [0,1,2,3,4,5,6,7,8,9,10,11,12,13,14,15,16] 15 17 [18] (λv=>⟨#[.int .i64 ↑ii,.agg #[.int .i64 at_,.int .i64 step],.pointer (some ⟨b1,0,none⟩),.pointer (some ⟨b2,0,none⟩),.pointer (some ⟨b3,0,none⟩),.pointer (some ⟨b4,0,none⟩),.pointer (some ⟨b5,0,none⟩),undef,.pointer (some ⟨bw,0,none⟩),undef,.int .i64 c,v 16,u12,.int .i64 ↑ii,.slice (some ⟨tb,o1,none⟩) L.length c1,.int .i64 ↑L.length,.bool true,.slice (some ⟨tb,o1,none⟩) L.length c1,.int .i64 ↑ii,.pointer (some ⟨tb,o1+ii*4,none⟩),.pointer (some ⟨tb,o1+ii*4+3,none⟩),.slice (some ⟨bc,oc,none⟩) xp.cycle.length dZ,.int .i64 ↑xp.cycle.length,.int .i64 ↑j,.bool true,.pointer (some ⟨bc,oc+j,none⟩),.int .i64 c,v 13,v 0,v 1,v 2,v 3,v 4,v 5,v 6,v 7,v 8,v 9,v 10,v 11,v 12,v 14,v 15,u43,u44,u45,u46,u47,u48,u49,undef,undef,undef,undef,undef,undef,undef,undef,undef,undef,undef,undef,undef,undef,undef,undef,undef,undef,undef,undef,undef,undef,undef,undef,undef,undef,undef,undef,undef,undef,undef,undef,undef,undef,undef,undef,undef,undef,undef],[]⟩) [.agg #[.int .i64 at_,.int .i64 step],.slice (some ⟨tb,o1,none⟩) L.length c1,.int .i64 ii,.pointer (some ⟨tb,o1+ii*4,none⟩),ar (.slice eA eE eB) (.slice (some ⟨bc,oc,none⟩) xp.cycle.length dZ) xp.frm xp.period,.int .i64 c,.int .i64 r,.slice (some ⟨tb,o1,none⟩) L.length c1,.int .i64 ii,.pointer (some ⟨tb,o1+ii*4,none⟩),.pointer (some ⟨tb,o1+ii*4+2,none⟩),.int .i64 xp.period,.tuple #[.agg #[.int .i64 a2,.int .i64 s2],.bool bb],.tuple #[.agg #[.int .i64 a2,.int .i64 s2],.bool bb],.agg #[.int .i64 a2,.int .i64 s2],.bool bb,undef] [16] (λi v lo hi W=>match i with|16=>v 16=.pointer (some ⟨lo 16,0,none⟩)/\lo 16<hi 16/\ag W (lo 16) #[.int .i64 0,.int .i64 0] 225|_=>True) (λW=>(W.cell? ⟨bw,0,none⟩=some (.int .i64 at_)/\W.cell? ⟨bw,1,none⟩=some (.int .i64 step))/\W.cell? ⟨b1,0,none⟩=some (.slice (some ⟨tb,o1,none⟩) L.length c1)/\W.cell? ⟨tb,o1+ii*4,none⟩=some (.slice eA eE eB)/\W.cell? ⟨tb,o1+ii*4+1,none⟩=some (.int .i64 xp.frm)/\W.cell? ⟨tb,o1+ii*4+2,none⟩=some (.int .i64 xp.period)/\W.cell? ⟨tb,o1+ii*4+3,none⟩=some (.slice (some ⟨bc,oc,none⟩) xp.cycle.length dZ)) (λW hb=>⟨⟨bJ m0 hb,bJ m1 hb⟩,bJ q1 hb,bJ E0 hb,bJ E1 hb,bJ E2 hb,bJ E3 hb⟩) ?stab ?loc ?steps ?fin ?fin2 (λj=>match j with|0=>u28|1=>u29|2=>u30|3=>u31|4=>u32|5=>u33|6=>u34|7=>u35|8=>u36|9=>u37|10=>u38|11=>u39|12=>u40|13=>u27|14=>u41|15=>u42|16=>u11|_=>undef)
    case stab=>
     refine ⟨?_,trivial⟩;intro v lo hi W W' h hb;exact ⟨h.1,h.2.1,h.2.2.below hb⟩
    case loc=>
     refine ⟨?_,trivial⟩;intro v v' lo lo' hi hi' W aA h;have q:=aA 16 (.inl rfl)
     (try dsimp only at h ⊢)
     simp only [q.1,q.2.1,q.2.2] at h;exact h
    case steps=>
     clear m0 m1 q1 E0 E1 E2 E3;refine .c [] [] rfl ?_ (.c [] [] rfl ?_ (.c [] [] rfl ?_ (.c [1,2] [] rfl ?_ (.c [3] [] rfl ?_ (.c [] [] rfl ?_ (.c [4,5] [] rfl ?_ (.c [] [] rfl ?_ (.c [] [] rfl ?_ (.c [7,8] [] rfl ?_ (.c [9] [] rfl ?_ (.c [10] [] rfl ?_ (.c [0,6,11] [] rfl ?_ (.c [12] [] rfl ?_ (.c [13] [] rfl ?_ (.c [13] [] rfl ?_ (.c [] [] rfl ?_ (.n)))))))))))))))));all_goals try exact SQ
     .rintro v lo hi W hb ⟨⟨n0,n1⟩,nv,g0,g1,g2,g3⟩ _;refine ⟨rfl,λK hK=>?_⟩;simp only [ov,aD,Nat.reduceBEq,cond_true,cond_false];go_wp2_with (go_at_call 183;refine (iL _).mono ?_;rintro e w9 ⟨rfl,bg⟩);exact aQ (hK w9 bg) (by simp [ov,aD,upd])
     .rintro v lo hi W hb ⟨⟨n0,n1⟩,nv,g0,g1,g2,g3⟩ _;refine ⟨rfl,λK hK=>?_⟩;simp only [ov,aD,Nat.reduceBEq,cond_true,cond_false];go_wp2_with (go_at_call 186;refine (Ma _).mono ?_;rintro e w9 ⟨rfl,bg⟩);exact aQ (hK w9 bg) (by simp [ov,aD,upd])
     rintro v lo hi W hb ⟨⟨n0,n1⟩,nv,g0,g1,g2,g3⟩ _;refine ⟨rfl,λK hK=>?_⟩;simp only [ov,aD,Nat.reduceBEq,cond_true,cond_false];go_wp2;exact hK (.pointer (some ⟨W.heap.size,0,none⟩)) _ (Ea (Er _) _) ⟨rfl,aj,ag.new _ _ _⟩
    case fin=>
     rintro v lo gU W2 hb ⟨⟨n0,n1⟩,nv,g0,g1,g2,g3⟩ hf hap;show wpList _ _ _ [_,_] _ _;obtain ⟨KG,-,h16,qs,Sj,hbox⟩:=hf 16 rfl;have lO:v 14=.agg #[.int .i64 a2,.int .i64 s2]:=(hf 14 rfl).2.2.2;have pq:v 15=.bool bb:=(hf 15 rfl).2.2.2;clear hf hap;dsimp only;rw [lO,pq,qs];clear lO pq qs;generalize lo 16=nb at *;have b0:=hbox.cells 0;have b1':=hbox.cells 1;have gk:=af hbox;have fQ:=af hb;clear n0 n1 nv g0 g1 g2 g3 hbox hb;generalize v 0=y0,v 1=y1,v 2=y2,v 3=y3,v 4=y4,v 5=y5,v 6=y6,v 7=y7,v 8=y8,v 9=y9,v 10=sY,v 11=sZ,v 12=ub,v 13=ZM;go_wp2;exact ⟨Ss gk.o,RD fQ.o KG _ _⟩
    case fin2=>
     rintro v lo gU W2 hb ⟨⟨n0,n1⟩,nv,g0,g1,g2,g3⟩ hf hap;obtain ⟨KG,-,h16,qs,Sj,hbox⟩:=hf 16 rfl aG;have lO:v 14=.agg #[.int .i64 a2,.int .i64 s2]:=(hf 14 rfl aG).2.2.2;have lr:v 13=.tuple #[.agg #[.int .i64 a2,.int .i64 s2],.bool bb]:=(hf 13 rfl aG).2.2.2;clear hf hap;dsimp only;rw [lr,lO,qs];clear lr lO qs;generalize lo 16=nb at *;have b0:=hbox.cells 0;have b1':=hbox.cells 1;have gk:=af hbox;have fQ:=af hb;clear n0 n1 nv g0 g1 g2 g3 hbox hb;generalize v 0=y0,v 1=y1,v 2=y2,v 3=y3,v 4=y4,v 5=y5,v 6=y6,v 7=y7,v 8=y8,v 9=y9,v 10=sY,v 11=sZ,v 12=ub,v 15=y15;constructor
     .show wpList _ _ _ [_,_,_] _ _;go_wp2;exact ⟨Ss gk.o,RD fQ.o KG _ _⟩
     show wpList _ _ _ [_,_,_] _ _;go_wp2;exact ⟨Ss gk.o,RD fQ.o KG _ _⟩
   case imp=>
    rintro e a' W6 ⟨rfl,⟨nb,C_,z28,Da,Db,z31,z32,z33,Dc,z35,Dd,z37,De,z39,z40,z41,Df,rfl,hbox⟩,bG⟩;have gN:=af (j7.o.ext bG);have q2:=gN.o.c2.c0;have n0:=(hbox.cells 0).1;have n1:=(hbox.cells 1).1;have bR:=af bG;clear bG hbox;cases bb
    .go_wp2
     go_roundw
     .exact ⟨j+1,l',Cw,ad,by go_num,gN,af (cD.o.below bR.o),af (uA.o.trans (aP.below bR.o) Cc.o),af (NN Cc.o bR.o.size),af (gj.o.congr λx _=>by rw [rk.o];simp)⟩
     simp [intOf];omega
    obtain ⟨t0,t1,t2⟩:=HM.o.bounds ad p0 HD.o Iw.o.fac.dvd;have T2:=af t2;clear t2;have LG:=IH.o (ii+1) a2 s2 l' Cw (vE S xp ((L.map PV.p).drop (ii+1)) at_ step j) W6 (by have:=LC.o;omega) t0 t1 T2.o gN.o gj.o;rw [show ((ii+1:Nat):Int)=(ii:Int)+1 from by omega] at LG;go_wp2_with (go_at_call 185;(refine LG.mono ?_;rintro e w7 ⟨l2,fb2,rfl,Kb,Vl,VT,rY⟩;have HS7:=af Kb;have TG:=af Vl;have I2:=af VT;have Lc:=af rY;clear Kb Vl VT rY LG));go_roundw
    .have q5k:aP (λb=>b≠b4/\b≠b5) w w7:=(uA.o.trans (aP.below bR.o) Cc.o).trans TG.o (NN Cc.o bR.o.size);have hw4:=hB.h4;have qE:=hB.h5;have hbwz:=cD.o.lt;have Q7:=bR.o.size;refine ⟨j+1,l2,fb2,ad,by go_num,HS7,af ?_,af q5k,af (NN (NN Cc.o bR.o.size) I2.o),af (Lc.o.congr λx _=>by rw [rk.o];simp)⟩;exact (TG.o bw ⟨HN.o.1,HN.o.2⟩ ad).trans (cD.o.below bR.o)
    simp [intOf];omega
  obtain rfl:j=xp.cycle.length:=ad;go_wp2_with fail;refine ⟨rfl,.tuple #[],by simp [results,Tryz.results185,go_sem],l',Cw,rfl,j7.o,uA.o,Cc.o,?_⟩;refine gj.o.congr λx hx=>?_;rw [vv_,DB.o]
end
end Go.Proofs.YtbmgmlbmgogeaaaGreat
section
variable {ops:Array Go.Oper}{b:Bool}{F P a at_ d r s x y:Int}{m:List (List Kal.Per)}{l:List Int}{rest:List Go.Oper}{L:List Go.Proofs.YtbmgmlbmgogeaaaGreat.PV}{t u:List Kal.Per}{xs:List Go.Value}{B base c cap g j k n:Nat}{o:Go.Oper}{row:Option Nat}{p q:Kal.Per}{lv v:Go.Value}{A C W W' W1 W2 w w':Go.World}
namespace Go.Proofs.YtbmgmlbmgogeaaaGreat
section
open Go.RowKit Go.Maps Kal
theorem yb_ (s:Int) (F:Nat->Prop) (v:Value) (t:List Per) (f:Int) (w:World) (ht:bK w F v t) (hv:∀ p∈t,FV s p) (f0:0<=f) (f1:f<=1152921504606846976) :
  Calls Tryz.prog 136 #[v,.int .i64 f] w λe w'=>∃ n b,e=.returned (.tuple #[.int .i64 n,.bool b])/\eh cH (bj t) (max f (f_ t)) n b/\Below w.heap.size w w':=by
 have HST:=λW (h:Below w.heap.size w W)=>wm_ F v t W (ht.ext h);obtain ⟨L,rfl,hL⟩:=ht;obtain ⟨a1,c1,rfl,hx1,hx2,_⟩:=hL.row.is;have hs0:=(Fl (t:=L.map PV.p)).1;have hs1:f_ (L.map PV.p)<=1099511627776:=X6 aG λp hp=>(hv p hp).far;have eU:=af (λl b (h:kG cH (λx=>False\/dA (L.map PV.p) 0 1 x) (max f (f_ (L.map PV.p))) l b)=>vw_ (F:=cH) (λp hp=>(hv p hp).fac.wf) (show f_ (L.map PV.p)<=max f (f_ (L.map PV.p)) by omega) h);have BP:=af (λw0 b1 b2 b3 b4 b5 hB AD f f0 f1=>qp_ s w0 b1 b2 b3 b4 b5 hB (.slice a1 L.length c1) L AD hv f f0 f1);have fA:=hL.len;have xj:=af (hL.lt.mono λb hb=>hb.2);clear hL hv;generalize f_ (L.map PV.p)=st at *
 go_in
 go_wp2_with fail
 refine D0 (Q:=λe a' W'=>e=.normal/\(∃ z9 yP yQ z12:Value,a'=⟨#[.slice a1 L.length c1,.int .i64 f,.pointer (some ⟨w.heap.size,0,none⟩),.pointer (some ⟨w.heap.size+1,0,none⟩),.int .i64 0,.bool false,undef,undef,undef,z9,yP,yQ,z12,undef,undef,undef,undef,undef,undef,undef],[]⟩)/\ag W' w.heap.size #[.slice a1 L.length c1] 78/\ag W' (w.heap.size+1) #[.int .i64 (max f st)] 3/\Below w.heap.size w W') ?imp ?reg
 case reg=>
  have iB:Hid (ag ((w.alloc (.cells #[.slice a1 L.length c1] 78)).alloc (.cells #[.int .i64 f] 3)) w.heap.size #[.slice a1 L.length c1] 78):=af ((ag.new w _ _).alloc _);have bm:Hid (ag ((w.alloc (.cells #[.slice a1 L.length c1] 78)).alloc (.cells #[.int .i64 f] 3)) (w.heap.size+1) #[.int .i64 f] 3):=af (ag.at aj);have key:f<st\/st<=f:=NC f st;rcases key with hlt|JW
  all_goals
   go_region_with (go_at_call 184;(refine (HST _ xE).mono ?_;rintro e w1 ⟨rfl,hb1⟩;have b0:ag w1 w.heap.size #[.slice a1 L.length c1] 78:=iB.o.drewB.below hb1;have b1:ag w1 (w.heap.size+1) #[.int .i64 f] 3:=bm.o.drewB.below hb1;have x0:=b0.c0;have x1:=b1.cells 0;have hW1:Below w.heap.size w w1:=Et (Ed (Ea (Ea (Er w) _) _)) hb1))
   all_goals exact ⟨rfl,⟨_,_,_,_,rfl⟩,b0.setNe _ ad,bE 0 _ b1,hW1.setCell (p:=⟨w.heap.size+1,0,none⟩) (by show w.heap.size<=w.heap.size+1;omega) _⟩
 case imp=>
  rintro e a' W2 ⟨rfl,⟨z9,yP,yQ,z12,rfl⟩,h0,h1,h2⟩;have hl1':=h1.lt;have hLB:LB w w.heap.size (W2.heap.size+1+1) (w.heap.size+1) W2.heap.size (W2.heap.size+1):=⟨ad,ad,ad,ad,ad,ad,ad,ad,ad⟩;go_wp2_with (go_at_call 185;(refine (BP.o w w.heap.size (W2.heap.size+1+1) (w.heap.size+1) W2.heap.size (W2.heap.size+1) hLB xj.o (max f st) ad ad L.length 0 0 1 1152921504606846976 false (λ_=>False) _ ad ad ad ⟨27720,aG⟩ ⟨Ea (Ea (Ea h2 _) _) _,((h0.alloc _).alloc _).alloc _,xB,((h1.alloc _).alloc _).alloc _,xB,by exact xB⟩ kG.start).mono ?_;rintro e w7 ⟨l,fb,rfl,hs,-,hz,cz⟩;have q4:=hs.c4.c0;have q5:=hs.c5.c0;have HN:=af (eU.o l fb cz);have bY:=hs.below;cases fb))
  .go_ret2;exact ⟨_,_,rfl,HN.o,bY⟩
  go_ret2;exact ⟨_,_,rfl,HN.o,bY⟩
end
section
open Go.RowKit Go.Shelf Go.Maps Kal
attribute [local go_sem] GC
structure LZ (B:Nat) (w:World) (f n:Int) (b:Bool) (W:World):Prop where
 below:Below B w W
 c3:ag W B #[.int .i64 f] 3
 c6:ag W (B+1) #[.int .i64 n] 3
 c7:ag W (B+1+1) #[.bool b] 4
theorem LZ.grow {f n:Int} (h:LZ B w f n b W) (hB:B<=w.heap.size) (hg:W.grownBy W' row) (hr:∀ r,row=some r->B<=r/\∃ o:Obj,W.heap[r]? = some o/\o.isCells=false):LZ B w f n b W':=by
 have key:∀ {b:Nat} {c:Array Value} {t:TypeId},ag W b c t->ag W' b c t:=λ{b c t} hx=>by
  refine (hg.block b hx.lt λe=>?_).trans hx;obtain ⟨_,o,ho,hc⟩:=hr b e.symm;rw [show W.heap[b]? = _ from hx] at ho;cases ho;cases hc
 exact ⟨h.below.grown hg (NN hB h.below.size) (λk e=>(hr k e).1),key h.c3,key h.c6,key h.c7⟩
theorem LZ.ext {f n:Int} (h:LZ B w f n b W) (hB:B<=w.heap.size) (hb:Below W.heap.size W W'):LZ B w f n b W':=
 ⟨h.below.trans (hb.mono (NN hB h.below.size)),h.c3.below hb,h.c6.below hb,h.c7.below hb⟩
theorem LZ.put {f n n':Int} (h:LZ B w f n b W):LZ B w f n' true ((W.setCell ⟨B+1,0,none⟩ (.int .i64 n')).setCell ⟨B+1+1,0,none⟩ (.bool true)):=
 ⟨(h.below.setCell (p:=⟨B+1,0,none⟩) (Nat.le_succ _) _).setCell (p:=⟨B+1+1,0,none⟩) (by show B<=B+1+1;omega) _,ag.setNe (h.c3.setNe _ ad) _ ad,ag.setNe (bE 0 _ h.c6) _ ad,bE 0 _ (h.c7.setNe _ ad)⟩
theorem Oi {f n m:Int} {S T:Int->Prop} (h:eh F S f n b) (g:eh F T f m true) (hc:b=false\/m<n):eh F (λx=>S x\/T x) f m true:=by
 have:=Xh h g;rw [if_pos ⟨rfl,hc⟩,Bool.or_true] at this;exact this
theorem q3w {f n m:Int} {S T:Int->Prop} {c:Bool} (h:eh F S f n b) (g:eh F T f m c) (hc:c=false\/(b=true/\¬ m<n)):eh F (λx=>S x\/T x) f n b:=by
 have:=Xh h g;rcases hc with rfl|⟨rfl,hc⟩
 .rw [if_neg (λe=>by cases e.1),Bool.or_false] at this;exact this
 rw [if_neg (λe=>by rcases e.2 with e|e;cases e;exact hc e)] at this;exact this
theorem Zh {f n:Int} {L:List (List Per)} (h:eh F (λx=>aW L x\/bj t x) f n b):eh F (aW (L ++ [t])) f n b:=h.congr λx _ _=>w3_
theorem xD {W0:World} {f n:Int} {c:Bool} {pre:List (Value × List Per)} {y:Value × List Per} {a:Act} (hw:w.heap.size<=W'.heap.size) (hl:LZ w.heap.size w f n b W') (h:eh cH (aW (pre.map Prod.snd)) f n b) (hb:Below W'.heap.size W' W1) (g:eh cH (bj y.2) f d c) (hc:c=false\/(b=true/\¬ d<n)) :
  K2 W0.heap.size (de λk=>k<w.heap.size) (λW'=>∃ n b,eh cH (aW ((pre ++ [y]).map Prod.snd)) f n b/\LZ w.heap.size w f n b W') W' .normal a W1:=
 ⟨(KeepsOthers.of_below hb).from _,λk hk=>hb.block k ad,n,b,by rw [UZ];exact Zh (q3w h g hc),hl.ext (TZ _) hb⟩
theorem Kr {W0:World} {f n:Int} {pre:List (Value × List Per)} {y:Value × List Per} {a:Act} (hw:w.heap.size<=W'.heap.size) (hl:LZ w.heap.size w f n b W') (h:eh cH (aW (pre.map Prod.snd)) f n b) (hb:Below W'.heap.size W' W1) (g:eh cH (bj y.2) f d true) (hc:b=false\/d<n) :
  K2 W0.heap.size (de λk=>k<w.heap.size) (λW'=>∃ n b,eh cH (aW ((pre ++ [y]).map Prod.snd)) f n b/\LZ w.heap.size w f n b W') W' .normal a ((W1.setCell ⟨w.heap.size+1,0,none⟩ (.int .i64 d)).setCell ⟨w.heap.size+1+1,0,none⟩ (.bool true)):=
 ⟨(((KeepsOthers.of_below hb).trans (K8 W1 _ _)).trans (K8 _ _ _)).from _,λk hk=>((DO _ ⟨w.heap.size+1+1,0,none⟩ _ k (by show k≠w.heap.size+1+1;omega)).trans (DO _ ⟨w.heap.size+1,0,none⟩ _ k (by show k≠w.heap.size+1;omega))).trans (hb.block k ad),d,true,by rw [UZ];exact Zh (Oi h g hc),(hl.ext (TZ _) hb).put⟩
theorem XQ (s:Int) (g:Nat) (lb:Array Value) (T:List (List Per)) (f:Int) (w:World) (hit:KT g lb T w) (hT:∀ t∈T,lj s t) (f0:0<=f) (f1:f<=9223372036854775807) :
  Calls Tryz.prog 104 #[.func (.func g) #[] lb,.int .i64 f] w λe w'=>∃ n b,e=.returned (.tuple #[.int .i64 n,.bool b])/\eh cH (aW T) f n b/\Below w.heap.size w w':=by
 refine VL (n:=0).1 ?_;refine NT Tryz.func104 rfl trivial ?_ rfl;simp only [Tryz.ntmps104,NG,MH,M4,Nat.reduceAdd,Nat.reduceSub,N0,K7,Q3,QG,L4,S5];gi_wp2_with fail;generalize hW0:((w.alloc _).alloc _).alloc _=W0;have hE:Below w.heap.size w W0:=by rw [<- hW0];exact xE
 have hsz:W0.heap.size=w.heap.size+3:=by rw [<- hW0];simp
 have hb3:ag W0 w.heap.size #[.int .i64 f] 3:=by rw [<- hW0];exact ((ag.at rfl).alloc _).alloc _
 have bG:ag W0 (w.heap.size+1) #[.int .i64 0] 3:=by rw [<- hW0];exact (ag.at aj).alloc _
 have ek:ag W0 (w.heap.size+1+1) #[.bool false] 4:=by rw [<- hW0];exact ag.at aj
 have kT:=af hit;have HST:Hid (LZ w.heap.size w f 0 false W0):=af ⟨hE,hb3,bG,ek⟩;have HT:=af hT;clear hW0 hb3 bG ek hit hT;refine WK (α:=Value × List Per) (x:=none) (gf:=g) (lb:=lb) rfl kT.o.1 (kT.o.2 W0 hE) (λh k=>h.trans k) (de.putObj (by intro k hk;omega)) (λy=>rfl)
  (λpre W'=>∃ n b,eh cH (aW (pre.map Prod.snd)) f n b/\LZ w.heap.size w f n b W')
  (by
   rintro pre A C row ⟨n,b,h1,h2⟩ hg hr;refine ⟨n,b,h1,h2.grow (TZ _) hg λr e=>?_⟩;rcases hr r e with ⟨h,_⟩|⟨h,h'⟩
   .cases h
   exact ⟨ad,h'⟩)
  wT.put (by exact ⟨0,false,w5_,HST.o⟩)
  (λy=>⟨#[.func (Fn.func g) #[] lb,.int .i64 f,undef,.pointer (some ⟨w.heap.size,0,none⟩),.int .i64 0,.bool false,.pointer (some ⟨w.heap.size+1,0,none⟩),.pointer (some ⟨w.heap.size+1+1,0,none⟩),y.1,undef,undef,.func (Fn.func g) #[] lb,y.1,undef,undef,undef,undef,undef,undef,undef,undef,undef,undef,undef,undef,undef,undef,undef,undef,undef,undef,undef,undef,undef,undef,undef,undef,undef,undef,undef,undef,undef,undef,undef,undef,undef,undef,undef],[]⟩) ?assign ?body ?done
 case assign=>
  intro l y W' K hK;unfold sX
  gi_wp2
  exact hK
 case body=>
  rintro l pre y W' ⟨n,b,hN,vN⟩ ⟨⟨r,vT⟩,F,kR⟩;obtain ⟨yv,yt⟩:=y;dsimp only at vT kR;have fo:=HT.o yt (by rw [vT];simp);obtain ⟨ya,yc,rfl,_⟩:=kR.form;have PR:TV yt:=λp hp=>(fo.fv p hp).validB;have yE:∀ p∈yt,p.WF:=λp hp=>(fo.fv p hp).fac.wf;have hs1:f_ yt<=cH:=X6 aG λp hp=>ZN (fo.fv p hp).far aG;have tm:=af (λd ok h=>wr_ fo.ne yE hs1 (sv_ (f:=f) (n:=d) (b:=ok) fo.ne yE h));have Tu:=af (λW (h:Below W'.heap.size W' W)=>XG F _ yt f W (kR.ext h) PR ⟨ad,ad⟩);have T6:=af (λW (h:Below W'.heap.size W' W)=>Xn F _ yt W (kR.ext h) PR);have tg:=af (λW (h:Below W'.heap.size W' W) (h1:f<=1152921504606846976)=>yb_ s F _ yt f W (kR.ext h) fo.fv f0 h1);have q3:=vN.c3.c0;have jV:=vN.c7.lt;have jZ:=af vN;have HN:=af hN;clear hN vN vT kR fo PR yE hs1;have ib:w.heap.size<=W'.heap.size:=ad;generalize US:K2 W0.heap.size _ _ W'=Q9;have T3:=af US;clear US;by_cases hff:f<=1152921504606846976;all_goals
   (try have DI:Hid (cH<f):=af (Int.not_le.1 hff))
   cases b
   .
    gi_wp2_with (first
     | (refine ⟨trivial,rfl,?_⟩;gi_at_call 134;refine (LM l (VL.2 (Tu.o W' (Er _)))).mono ?_;rintro e w1 ⟨d,ok,rfl,eO,hb1⟩;have bm:=af hb1;have bL:=af hb1;have gn:=jZ.o.ext (TZ _) hb1;have r3:=gn.c3.c0;have r6:=gn.c6.cells 0;have r7:=gn.c7.cells 0;have gW:=af (tm.o d ok eO);clear hb1 gn eO;cases ok;rotate_left;(have fu:=af (gW.o.1 aj));rotate_left)
     | (refine ⟨trivial,rfl,?_⟩;gi_at_call 135;refine (LM l (VL.2 (T6.o _ bm.o))).mono ?_;rintro e w2 ⟨b2,rfl,bS,hb2⟩;have bl:=af hb2;have bL:=af (Et bm.o hb2);have hL2:=jZ.o.ext (TZ _) (Et bm.o hb2);have s3:=hL2.c3.c0;have s6:=hL2.c6.cells 0;have s7:=hL2.c7.cells 0;have Mg:=af (show b2=false->¬ mo yt from λh0 h=>by have h1:=bS.2 h;rw [h0] at h1;cases h1);clear hb2 hL2 bS;cases b2)
     | (refine ⟨trivial,rfl,?_⟩;gi_at_call 136;(refine (LM l (VL.2 (tg.o _ (Et bm.o bl.o) (by assumption)))).mono ?_);rintro e w3 ⟨m3,c3,rfl,iy,hb3⟩;have bL:=af (Et (Et bm.o bl.o) hb3);have hL3:=jZ.o.ext (TZ _) (Et (Et bm.o bl.o) hb3);have u3:=hL3.c3.c0;have u6:=hL3.c6.cells 0;have u7:=hL3.c7.cells 0;have fu:=af (gW.o.2.2 aj m3 c3 iy);clear hb3 hL3 iy;cases c3)
     | (refine ⟨trivial,?_⟩;apply_assumption))
    all_goals rw [<- T3.o]
    all_goals first
     | exact xD (y:=(.slice ya yt.length yc,yt)) ib jZ.o HN.o bL.o fu.o (.inl rfl)
     | exact Kr (y:=(.slice ya yt.length yc,yt)) ib jZ.o HN.o bL.o fu.o (.inl rfl)
     | exact xD (y:=(.slice ya yt.length yc,yt)) ib jZ.o HN.o bL.o fu.o (.inr ⟨rfl,Int.not_lt.2 (by assumption)⟩)
     | exact Kr (y:=(.slice ya yt.length yc,yt)) ib jZ.o HN.o bL.o fu.o (.inr (by assumption))
     | exact xD (y:=(.slice ya yt.length yc,yt)) ib jZ.o HN.o bL.o (gW.o.2.1 aj (.inr (Mg.o aj))) (.inl rfl)
     | exact xD (y:=(.slice ya yt.length yc,yt)) ib jZ.o HN.o bL.o (gW.o.2.1 aj (.inl DI.o)) (.inl rfl)
   
   gi_wp2_with (first
    | (refine ⟨trivial,rfl,?_⟩;gi_at_call 134;refine (LM l (VL.2 (Tu.o W' (Er _)))).mono ?_;rintro e w1 ⟨d,ok,rfl,eO,hb1⟩;have bm:=af hb1;have bL:=af hb1;have gn:=jZ.o.ext (TZ _) hb1;have r3:=gn.c3.c0;have r6:=gn.c6.cells 0;have r7:=gn.c7.cells 0;have gW:=af (tm.o d ok eO);clear hb1 gn eO;cases ok;rotate_left;(have fu:=af (gW.o.1 aj));rotate_left)
    | (refine ⟨trivial,rfl,?_⟩;gi_at_call 135;refine (LM l (VL.2 (T6.o _ bm.o))).mono ?_;rintro e w2 ⟨b2,rfl,bS,hb2⟩;have bl:=af hb2;have bL:=af (Et bm.o hb2);have hL2:=jZ.o.ext (TZ _) (Et bm.o hb2);have s3:=hL2.c3.c0;have s6:=hL2.c6.cells 0;have s7:=hL2.c7.cells 0;have Mg:=af (show b2=false->¬ mo yt from λh0 h=>by have h1:=bS.2 h;rw [h0] at h1;cases h1);clear hb2 hL2 bS;cases b2)
    | (refine ⟨trivial,rfl,?_⟩;gi_at_call 136;(refine (LM l (VL.2 (tg.o _ (Et bm.o bl.o) (by assumption)))).mono ?_);rintro e w3 ⟨m3,c3,rfl,iy,hb3⟩;have bL:=af (Et (Et bm.o bl.o) hb3);have hL3:=jZ.o.ext (TZ _) (Et (Et bm.o bl.o) hb3);have u3:=hL3.c3.c0;have u6:=hL3.c6.cells 0;have u7:=hL3.c7.cells 0;have fu:=af (gW.o.2.2 aj m3 c3 iy);clear hb3 hL3 iy;cases c3)
    | (refine ⟨trivial,?_⟩;apply_assumption))
   all_goals rw [<- T3.o]
   all_goals first
    | exact xD (y:=(.slice ya yt.length yc,yt)) ib jZ.o HN.o bL.o fu.o (.inl rfl)
    | exact Kr (y:=(.slice ya yt.length yc,yt)) ib jZ.o HN.o bL.o fu.o (.inl rfl)
    | exact xD (y:=(.slice ya yt.length yc,yt)) ib jZ.o HN.o bL.o fu.o (.inr ⟨rfl,Int.not_lt.2 (by assumption)⟩)
    | exact Kr (y:=(.slice ya yt.length yc,yt)) ib jZ.o HN.o bL.o fu.o (.inr (by assumption))
    | exact xD (y:=(.slice ya yt.length yc,yt)) ib jZ.o HN.o bL.o (gW.o.2.1 aj (.inr (Mg.o aj))) (.inl rfl)
    | exact xD (y:=(.slice ya yt.length yc,yt)) ib jZ.o HN.o bL.o (gW.o.2.1 aj (.inl DI.o)) (.inl rfl)
 case done=>
  rintro D xs W' hD aM ⟨n,b,hN,vN⟩ aL;rw [show xs.map Prod.snd=T from aM] at hN;have q6:=vN.c6.c0;have q7:=vN.c7.c0;have hM:cJ w.heap.size [{ target:=.collected D,args:=#[] }] W':=tw ad aL;have HM:=af hM;have HN:=af hN;have jZ:=af vN;clear aM hN vN aL hM;gi_wp2_with fail;refine wpIn_wide.2 ?_;go_quiet (fail);go_wp2_with fail
  gi_wp2_with fail
  refine ik (B:=w.heap.size) _ _ HM.o λw' hs=>⟨.tuple #[.int .i64 n,.bool b],by simp [results,Tryz.results104,go_sem],n,b,rfl,HN.o,(En jZ.o.below _).trans hs.below⟩
end
section
open Go.RowKit Go.Maps Kal
def Yd (S:Int->Prop) (f:Int) (w:World) (e:Ending) (w':World):Prop:=∃ n b,e=.returned (.tuple #[.int .i64 n,.bool b])/\eh cH S f n b/\Below w.heap.size w w'
theorem w4_ (s:Int) (F:Nat->Prop) (v:Value) (m:List (List Per)) (f:Int) (w:World) (h1:aF w F v m) (k1:MV s m) (hf:aS f) :
  Calls Tryz.prog 61 #[.agg #[v],.int .i64 f] w (Yd (aW m) (max f 0) w):=by
 have ou:=λW (h:Below w.heap.size w W)=>tr F v m W (h1.ext h);rw [k1.val] at ou;obtain ⟨a1,c1,rfl⟩:=h1.form;have eF:=af (λW (h:Below w.heap.size w W) b1 hb1=>XQ s _ _ m (max f 0) W (Xv F (.slice a1 m.length c1) m b1 W (h1.ext h) hb1) k1.vt ad (by have:=hf.2;omega));clear h1 k1;have key:f<0\/0<=f:=NC f 0;rcases key with hf0|hf0
 all_goals
  go_in
  go_wp2_with (first|(go_at_call 49;refine (ou _ (Ea (Er w) _)).mono ?_;rintro e w1 ⟨rfl,hb1⟩;have b0:ag w1 w.heap.size #[.slice a1 m.length c1] 57:=ag.below xB hb1;have x0:=b0.c0;have hW1:Below w.heap.size w w1:=Et (Ea (Er w) _) hb1)|(go_at_call 110;refine (Xu _ _ ⟨_,_,_,rfl⟩).mono ?_;rintro e w4 ⟨rfl,rfl⟩)|(go_at_call 104;((with_reducible refine (eF.o _ (Ea hW1 _) w1.heap.size (ag.new w1 #[.slice a1 m.length c1] 55).c0).mono ?_);rintro e w5 ⟨n,b,rfl,hn,hb5⟩)))
  go_ret2;exact ⟨n,b,rfl,hn,Et (Ea hW1 _) hb5⟩
theorem tt_ (s:Int) (F1 F2:Nat->Prop) (v1 v2:Value) (m1 m2:List (List Per)) (f:Int) (w:World) (h1:aF w F1 v1 m1) (h2:aF w F2 v2 m2) (k1:MV s m1) (k2:MV s m2) (hf:aS f) :
  Calls Tryz.prog 57 #[.agg #[v1],.agg #[v2],.int .i64 f] w (Yd (aW (dY m1 m2)) (max f 0) w):=by
 have ou:=λW (h:Below w.heap.size w W)=>tr F1 v1 m1 W (h1.ext h);have nw:=λW (h:Below w.heap.size w W)=>tr F2 v2 m2 W (h2.ext h);rw [k1.val] at ou;rw [k2.val] at nw;have UY:∀ t∈dY m1 m2,lj s t:=λt ht=>by
  obtain ⟨x,hx,y,hy,rfl⟩:=Jk.1 ht;refine ⟨λe=>(k1.vt x hx).ne (q7t.1 e).1,λp hp=>(VJ.1 hp).elim ((k1.vt x hx).fv p) ((k2.vt y hy).fv p),?_⟩;rw [MB];have:=k1.tlen x hx;have:=k2.tlen y hy;omega
 have eF:=af (λW (h:Below w.heap.size w W) b1 b2 hb1 hb2=>XQ s _ _ (dY m1 m2) (max f 0) W (XX F1 F2 v1 v2 m1 m2 b1 b2 W (h1.ext h) (h2.ext h) hb1 hb2 (λt ht=>by have:=k1.tlen t ht;omega) (λt ht=>by have:=k2.tlen t ht;omega)) UY ad (by have:=hf.2;omega));obtain ⟨a1,c1,rfl⟩:=h1.form;obtain ⟨a2,c2,rfl⟩:=h2.form;clear h1 h2 k1 k2 UY;have key:f<0\/0<=f:=NC f 0;rcases key with hf0|hf0
 all_goals
  go_in
  go_wp2_with (first|(go_at_call 49;first
    | ((with_reducible refine (ou _ (Ea (Ea (Er w) _) _)).mono ?_);rintro e w1 ⟨rfl,hb1⟩;have b0:ag w1 w.heap.size #[.slice a1 m1.length c1] 57:=ag.below xB hb1;have b1:ag w1 (w.heap.size+1) #[.slice a2 m2.length c2] 57:=ag.below xB hb1;have x0:=b0.c0;have x1:=b1.c0;have hW1:Below w.heap.size w w1:=Et (Ea (Ea (Er w) _) _) hb1)
    | ((with_reducible refine (nw _ hW1).mono ?_);rintro e w2 ⟨rfl,hb2⟩;have d0:=b0.below hb2;have d1:=b1.below hb2;have y0:=d0.c0;have y1:=d1.c0;have hW2:Below w.heap.size w w2:=Et hW1 hb2))|(go_at_call 105;refine (XW _ _ _ ⟨_,_,_,rfl⟩ ⟨_,_,_,rfl⟩).mono ?_;rintro e w4 ⟨rfl,rfl⟩)|(go_at_call 104;((with_reducible refine (eF.o _ (Ea (Ea hW2 _) _) w2.heap.size (w2.heap.size+1) ((ag.new w2 #[.slice a1 m1.length c1] 57).alloc (.cells #[.slice a2 m2.length c2] 57)).c0 (ag.at (w:=w2.alloc (.cells #[.slice a1 m1.length c1] 57)) (c:=#[.slice a2 m2.length c2]) (t:=57) aj).c0).mono ?_);rintro e w5 ⟨n,b,rfl,hn,hb5⟩)))
  go_ret2;exact ⟨n,b,rfl,hn,Et (Ea (Ea hW2 _) _) hb5⟩
end
end Go.Proofs.YtbmgmlbmgogeaaaGreat
end
