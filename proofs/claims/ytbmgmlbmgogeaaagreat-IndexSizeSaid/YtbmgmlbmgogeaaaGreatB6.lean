/- Part 6 of the proof of the laws. -/
import Derived.Test.YtbmgmlbmgogeaaaGreatB5
import Derived.Maps.OwnIn
import Derived.Lib.AppendZerosOnto
import Derived.Test.YtbmgmlbmgogeaaaGreatB4
import Derived.Laws.EntriesVeiled
set_option linter.unusedVariables false
set_option linter.unusedSimpArgs false
set_option maxRecDepth 100000
set_option maxHeartbeats 4000000
section
variable {ops:Array Go.Oper}{b:Bool}{F P a at_ d r s x y:Int}{m:List (List Kal.Per)}{l:List Int}{rest:List Go.Oper}{L:List Go.Proofs.YtbmgmlbmgogeaaaGreat.PV}{t u:List Kal.Per}{xs:List Go.Value}{B base c cap g j k n:Nat}{o:Go.Oper}{row:Option Nat}{p q:Kal.Per}{lv v:Go.Value}{A C W W' W1 W2 w w':Go.World}
namespace Go.Proofs.YtbmgmlbmgogeaaaGreat
section
open Go.RowKit Go.Shelf Go.Maps Kal
attribute [local go_sem] Oper.semAt_some
structure kJ (s:Int) (t:List Per):Prop where
 ne:t≠[]
 fv:∀ p∈t,FV s p
 len:t.length<=1000000
theorem kJ.f (h:kJ s t):pJ s t:=⟨h.ne,λp hp=>(h.fv p hp).fac⟩
theorem kJ.merged (h:kJ s t) (hm:oM t u) (hv:∀ p∈u,FV s p):kJ s u:=by
 obtain ⟨h1,_,h3⟩:=hm.ok h.f;exact ⟨h1.1,hv,Nat.le_trans h3 h.len⟩
structure NI (B:Nat) (w:World) (s:Int) (lv:Value) (L:List (Value × List Per)) (W:World):Prop where
 below:Below B w W
 row:aY B (λk=>k=B\/k=B+1) W lv L
 rbx:af W B #[.slice none 0 0] 57
 lbx:af W (B+1) #[lv] 55
 vt:∀ x∈L,kJ s x.2
theorem NI.grow {L:List (Value × List Per)} (h:NI B w s lv L W) (hB:B<=w.heap.size) (hg:W.grownBy W' row) (hr:∀ r,row=some r->B<=r/\∃ o:Obj,W.heap[r]? = some o/\o.isCells=false):NI B w s lv L W':=by
 have key:∀ {b:Nat} {c:Array Value} {t:TypeId},af W b c t->af W' b c t:=λ{b c t} hx=>by
  refine (hg.block b hx.lt λe=>?_).trans hx;obtain ⟨_,o,ho,hc⟩:=hr b e.symm;rw [show W.heap[b]? = _ from hx] at ho;cases ho;cases hc
 exact ⟨h.below.grown hg (Nat.le_trans hB h.below.size) (λk e=>(hr k e).1),h.row.grow hg (λr e=>(hr r e).2),key h.rbx,key h.lbx,h.vt⟩
theorem NI.ext {L:List (Value × List Per)} (h:NI B w s lv L W) (hB:B<=w.heap.size) (hb:Below W.heap.size W W'):NI B w s lv L W':=
 ⟨h.below.trans (hb.mono (Nat.le_trans hB h.below.size)),h.row.below hb,h.rbx.below hb,h.lbx.below hb,h.vt⟩
def lenW (B:Nat) (W:World):Nat:=match W.cell? ⟨B+1,0,none⟩ with|some (.slice _ n _)=>n|_=>0
theorem NI.lenW {L:List (Value × List Per)} (h:NI B w s lv L W):lenW B W=L.length:=by
 obtain ⟨a,c,rfl,_⟩:=h.row.form;have h1:=(h.lbx.cells 0).1;unfold Go.Proofs.YtbmgmlbmgogeaaaGreat.lenW;rw [h1];rfl
theorem bG.single {F:Nat->Prop} (h:bG W F v t) (h1:t.length=1):∃ b o c a1 n1 c1 a2 n2 c2,v=.slice (some ⟨b,o,none⟩) 1 c/\bp W F ⟨.slice a1 n1 c1,.slice a2 n2 c2,t.getD 0 default⟩/\
  W.cell? ⟨b,o,none⟩=some (.slice a1 n1 c1)/\W.cell? ⟨b,o+1,none⟩=some (.int .i64 (t.getD 0 default).frm)/\W.cell? ⟨b,o+2,none⟩=some (.int .i64 (t.getD 0 default).period)/\W.cell? ⟨b,o+3,none⟩=some (.slice a2 n2 c2):=by
 obtain ⟨L,rfl,hL⟩:=h;obtain ⟨a,c,rfl,_⟩:=hL.row.is;have hl:L.length=1:=by simpa using h1
 obtain ⟨b,o,x,rfl,hx,cS,_,e0,e1,e2,e3⟩:=hL.get (show 0<L.length by omega);obtain ⟨xh,xc,xp⟩:=x;obtain ⟨a1,n1,c1,a2,n2,c2,rfl,rfl⟩:=hx.form;dsimp only at e0 e1 e2 e3 cS;subst cS;rw [hl];simp only [Nat.zero_mul,Nat.add_zero] at e0 e1 e2 e3;exact ⟨b,o,c,a1,n1,c1,a2,n2,c2,rfl,hx,e0,e1,e2,e3⟩
theorem WJ {a1 a2:Option Addr} {n1 c1 n2 c2:Nat} (h:bp W (λb=>n<=b/\b≠n) ⟨.slice a1 n1 c1,.slice a2 n2 c2,q⟩) (hn:n<=W.heap.size) :
  bG (W.alloc (.cells #[.slice a1 n1 c1,.int .i64 q.frm,.int .i64 q.period,.slice a2 n2 c2] 80)) (λb=>n<=b/\(b≠n\/b=W.heap.size)) (.slice (some ⟨W.heap.size,0,none⟩) 1 1) [q]:=by
 have hb:=af.new W #[.slice a1 n1 c1,.int .i64 q.frm,.int .i64 q.period,.slice a2 n2 c2] 80;refine ⟨[⟨.slice a1 n1 c1,.slice a2 n2 c2,q⟩],rfl,⟨_,1,rfl,ag,aa,.inr ⟨W.heap.size,0,rfl,⟨hn,.inr rfl⟩,hb.lt,λi u hi=>?_⟩⟩,ag,λx hx=>?_⟩
 .rw [Nat.zero_add];refine (hb.cells i).1.trans ?_;rw [<- hi]
  match i with
  | 0=>rfl
  | 1=>rfl
  | 2=>rfl
  | 3=>rfl
  | k+4=>rfl
 obtain rfl:x=⟨.slice a1 n1 c1,.slice a2 n2 c2,q⟩:=by simpa using hx
 exact (h.keep (aN.below (Ea (Er W) _))).mono λb hb=>⟨hb.1,.inl hb.2⟩
theorem aY.boxO {A:Nat->Prop} {L:List (Value × List Per)} (h:aY B A W v L) (hg:W.grownBy W' row) (hA:∀ k,row=some k->A k):aY B A W' v L:=by
 rcases row with _|k
 .exact ⟨h.row.kept hg (by cases v.ownBlock <;> simp),λx hx=>(h.all x hx).keep (λb _ hl=>hg.block b hl ag) hg.size,h.ne,h.len⟩
 exact h.box hg (hA k rfl)
def EB (s:Int) (T:List (List Per)) (w:World) (e:Ending) (w':World):Prop:=
 ∃ (v:Value) (m:List (List Per)),pG T m/\(∀ t∈m,kJ s t)/\Below w.heap.size w w'/\
  ((dU m=true/\e=.returned (.tuple #[.agg #[v],.int .i64 0])/\aA w' (λb=>w.heap.size<=b) v m)\/(dU m=false/\e=.returned (.tuple #[.agg #[.slice none 0 0],.int .i64 2])))
structure NO (B n D k:Nat) (w:World) (lv ov:Value) (M LO:List (Value × List Per)) (W:World):Prop where
 below:Below B w W
 lrow:aY B (λk=>k=B\/k=B+1\/n<=k) W lv M
 orow:aY B (λk=>k=B\/k=B+1\/k=n) W ov LO
 own:∀ g,ov.ownBlock=some g->n<=g
 obx:af W n #[ov] 57
 rbx:af W B #[.slice none 0 0] 57
 dfr:W.heap[D]? = some (.deferred (some []))
 eq:LO.map Prod.snd=mR [] ((M.map Prod.snd).take k)
 len:LO.length<=k
theorem NO.ext {D:Nat} {ov:Value} {M LO:List (Value × List Per)} (h:NO B n D k w lv ov M LO W) (hB:B<=w.heap.size) (hb:Below W.heap.size W W'):NO B n D k w lv ov M LO W':=
 ⟨h.below.trans (hb.mono (Nat.le_trans hB h.below.size)),h.lrow.below hb,h.orow.below hb,h.own,h.obx.below hb,h.rbx.below hb,(hb.block D (Array.getElem?_eq_some_iff.1 h.dfr).1).trans h.dfr,h.eq,h.len⟩
theorem af.c0 {b:Nat} {t:TypeId} (h:af w b #[v] t):w.cell? ⟨b,0,none⟩=some v:=(h.cells 0).1
theorem vP.put {T:List (List Per)} (pre:List (Value × List Per)) (y:Value × List Per) (W:World) (l:Nat) (o o':Obj) (hl:W.heap[l]? = some o) (ho:o.isCells=false) (h:vP T pre y W):vP T pre y (W.putObj l o'):=
 ⟨h.1,_,(h.2.choose_spec).put hl ho⟩
theorem nh_ {F:Fence} {nF:Nat} {a:Act} {Q:Exit->Act->World->Prop} (hgd:o.guard=none) (sx x:Operand)
  (ho:o.op=.call { callee:=.builtin .append,args:=#[sx,x],argTypes:=#[55,55] }) (B:Nat) (A:Nat->Prop) (v:Value) (L:List (Value × List Per)) (y:Value × List Per) (hs:a.eval sx=v) (h:aY B A w v L)
  (hy:bG w (cN B A v) y.1 y.2) (blk c:Nat) (hx:a.eval x=.slice (some ⟨blk,0,none⟩) 1 c) (hnew:w.cell? ⟨blk,0,none⟩=some y.1) (hA:¬ A w.heap.size) (hl:L.length<1000000) (hB:B<=w.heap.size)
  (k:∀ (a':Option Addr) (c':Nat) (w':World),aY B A w' (.slice a' (L.length+1) c') (L ++ [y])->w.grownBy w' v.ownBlock->Below B w w'->((Value.slice a' (L.length+1) c').ownBlock=v.ownBlock\/(Value.slice a' (L.length+1) c').ownBlock=some w.heap.size)->wpListIn F nF Tryz.prog ops Q rest (a.put o.dst (.slice a' (L.length+1) c')) w') :
  wpListIn F nF Tryz.prog ops Q (o :: rest) a w:=by
 obtain ⟨i,hi,h1,h2,h3⟩:=JE;refine wpListIn_append_own_at w hgd sx x 55 ho B 78 i (.slice none 0 0) 1 24 rfl hi h1 h2 h3 rfl aa v L.length (L.map Prod.fst) hs h.row ⟨blk,0,none⟩ 1 c [y.1] hx rfl ?_ (by simp;exact hy.one) (by unfold maxLen;omega) aa hB ?_
 .intro j u hu
  match j,hu with
  | 0,hu=>simp at hu;subst hu;exact hnew
 intro v' w' hown' hgrow _ hb;have hp:=h.push hy hown' hgrow hb hA hl;obtain ⟨a',c',rfl,_⟩:=hp.form;have e:(L ++ [y]).length=L.length+1:=by simp
 rw [e] at hp hb ⊢;exact k a' c' w' hp hgrow ((Below.refl B w).grown hgrow hB λk e=>(h.row.lt k e).1) hb
theorem Hz {a:Act} {Q:Exit->Act->World->Prop} (hgd:o.guard=none) (sx x:Operand)
  (ho:o.op=.call { callee:=.builtin .append,args:=#[sx,x],argTypes:=#[55,55] }) (B:Nat) (A:Nat->Prop) (v:Value) (L:List (Value × List Per)) (y:Value × List Per) (hs:a.eval sx=v) (h:aY B A w v L)
  (hy:bG w (cN B A v) y.1 y.2) (blk c:Nat) (hx:a.eval x=.slice (some ⟨blk,0,none⟩) 1 c) (hnew:w.cell? ⟨blk,0,none⟩=some y.1) (hA:¬ A w.heap.size) (hl:L.length<1000000) (hB:B<=w.heap.size)
  (k:∀ (a':Option Addr) (c':Nat) (w':World),aY B A w' (.slice a' (L.length+1) c') (L ++ [y])->w.grownBy w' v.ownBlock->Below B w w'->((Value.slice a' (L.length+1) c').ownBlock=v.ownBlock\/(Value.slice a' (L.length+1) c').ownBlock=some w.heap.size)->wpList Tryz.prog ops Q rest (a.put o.dst (.slice a' (L.length+1) c')) w') :
  wpList Tryz.prog ops Q (o :: rest) a w:=by
 obtain ⟨i,hi,h1,h2,h3⟩:=JE;refine wpList_append_own_at w hgd sx x 55 ho B 78 i (.slice none 0 0) 1 24 rfl hi h1 h2 h3 rfl aa v L.length (L.map Prod.fst) hs h.row ⟨blk,0,none⟩ 1 c [y.1] hx rfl ?_ (by simp;exact hy.one) (by unfold maxLen;omega) aa hB ?_
 .intro j u hu
  match j,hu with
  | 0,hu=>simp at hu;subst hu;exact hnew
 intro v' w' hown' hgrow _ hb;have hp:=h.push hy hown' hgrow hb hA hl;obtain ⟨a',c',rfl,_⟩:=hp.form;have e:(L ++ [y]).length=L.length+1:=by simp
 rw [e] at hp hb ⊢;exact k a' c' w' hp hgrow ((Below.refl B w).grown hgrow hB λk e=>(h.row.lt k e).1) hb
theorem bG.fresh {u:Value} (h:bG W (λb=>n<=b) u t) (h1:B+2<=n) (hv:∀ g,v.ownBlock=some g->g<n):bG W (cN B (λk=>k=B\/k=B+1) v) u t:=
 h.mono λb (hb:n<=b)=>⟨aa,(by rintro (h|h) <;> omega),λe=>by have:=hv b e;omega⟩
theorem aY.row_cells {A:Nat->Prop} {L:List (Value × List Per)} (h:aY B A W v L):∀ r,v.ownBlock=some r->∃ o:Obj,W.heap[r]? = some o/\o.isCells=true:=by
 intro r hr;obtain ⟨_,⟨rfl,_⟩|⟨g,cap,cur,rfl,_,hh,_⟩⟩:=h.row
 .cases hr
 obtain rfl:g=r:=by simpa [Value.ownBlock] using hr
 exact ⟨_,hh,rfl⟩
theorem KeepsOthers.of_below (h:Below A.heap.size A C):KeepsOthers A C:=⟨h.size,λk o hk _=>(h.block k (Array.getElem?_eq_some_iff.1 hk).1).trans hk⟩
theorem Vd (s:Int) (g:Nat) (lb:Array Value) (T:List (List Per)) (w:World) (hit:JY g lb T w) (hT:∀ t∈T,kJ s t) (hTl:T.length<=100000) :
  Calls Tryz.prog 106 #[.func (.func g) #[] lb] w (EB s T w):=by
 refine callsIn_wide (n:=0).1 ?_;refine callsIn_of_wp_marks Tryz.func106 rfl trivial ?_ rfl;simp only [Tryz.ntmps106,List.size_toArray,List.length_cons,List.length_nil,Nat.reduceAdd,Nat.reduceSub,Array.replicate_succ,Array.replicate_zero,List.push_toArray,List.append_toArray,List.nil_append,List.cons_append];gi_wp2_with fail;generalize hW0:(w.alloc _).alloc _=W0;have hE:Below w.heap.size w W0:=by rw [<- hW0];exact xE
 have hsz:W0.heap.size=w.heap.size+2:=by rw [<- hW0];simp
 have dY:af W0 w.heap.size #[.slice none 0 0] 57:=by rw [<- hW0];exact (af.at rfl).alloc _
 have fQ:af W0 (w.heap.size+1) #[.slice none 0 0] 55:=by rw [<- hW0];exact af.at ag
 have ku:=ad hit;have HST:Hid (NI w.heap.size w s (.slice none 0 0) [] W0):=ad ⟨hE,aY.nil _ _ _,dY,fQ,ag⟩;have HT:=ad hT;clear hW0 dY fQ hit hT;refine UV (α:=Value × List Per) (x:=none) (gf:=g) (lb:=lb) rfl ku.o.1 (ku.o.2 W0 hE) (λh k=>h.trans k) (cX.putObj (by intro k hk;omega)) (λy=>rfl)
  (λpre W'=>∃ lv L,g_ (pre.map Prod.snd) (L.map Prod.snd)/\NI w.heap.size w s lv L W'/\L.length<=pre.length/\∃ r,T=pre.map Prod.snd ++ r)
  (by
   rintro pre A C row ⟨lv,L,h1,h2,h3,h4⟩ hg hr;refine ⟨lv,L,h1,h2.grow (Nat.le_refl _) hg λr e=>?_,h3,h4⟩;rcases hr r e with ⟨h,_⟩|⟨h,h'⟩
   .cases h
   exact ⟨aa,h'⟩)
  vP.put (by exact ⟨_,[],g_.nil,HST.o,ag,T,ag⟩)
  (λy=>⟨#[.func (Fn.func g) #[] lb,undef,.pointer (some ⟨w.heap.size,0,none⟩),.int .i64 0,.pointer (some ⟨w.heap.size+1,0,none⟩),y.1,undef,undef,undef,undef,undef,undef,undef,undef,.func (Fn.func g) #[] lb,y.1,undef,undef,undef,undef,undef,undef,undef,undef,undef,undef,undef,undef,undef,undef,undef,undef,undef,undef,undef,undef,undef,undef,undef,undef,undef,undef,undef,undef,undef,undef,undef,undef,undef,undef,undef,undef,undef,undef,undef,undef,undef,undef,undef,undef,undef,undef,undef,undef,undef,undef,undef,undef,undef,undef,undef,undef,undef,undef,undef,undef,undef,undef,undef,undef,undef,undef,undef,undef,undef,undef,undef,undef,undef,undef,undef,undef,undef,undef,undef,undef,undef,undef,undef,undef,undef,undef,undef,undef,undef,undef,undef,undef,undef,undef,undef,undef,undef,undef,undef,undef,undef,undef,undef,undef,undef],[]⟩) ?assign ?body ?done
 case assign=>
  intro l y W' K hK;unfold sk
  gi_wp2
  exact hK
 case body=>
  rintro l pre y W' ⟨lv,L,BN,wL,BM,-⟩ ⟨⟨r,uP⟩,F,ko⟩;obtain ⟨yv,yt⟩:=y;dsimp only at uP ko;have eQ:=HT.o yt (by rw [uP];simp);have hpl:pre.length<=100000:=by
   have:=congrArg List.length uP;rw [List.length_append,List.length_map,List.length_cons] at this;omega
  obtain ⟨ya,yc,rfl,_⟩:=ko.form;obtain ⟨la,lc,rfl,_⟩:=wL.row.form;have jA:=wL.lbx.lt;have hown:=wL.row.row.lt;have HM:=t5_ F s _ yt W' ko eQ.fv eQ.len;have tV:=ad eQ;have im:=ad wL;have qq:=ad BN;have Sn:=ad uP;clear wL BN uP ko eQ;gi_wp2_with (first
   | (refine ⟨trivial,rfl,?_⟩;gi_at_call 139;refine (CallsIn.inRound l (callsIn_wide.2 HM)).mono ?_;rintro e w1 ⟨v',u,rfl,sY,nZ,om,hb1⟩;obtain ⟨va,vc,rfl,_⟩:=om.form;have il:=ad sY;have GY:=ad nZ;have LP:=ad om;have yD:=(λW (hW:Below w1.heap.size w1 W)=>(om.ext hW).fresh (B:=w.heap.size) (v:=.slice la L.length lc) aa (λg hg=>(hown g hg).2));have bo:=ad hb1;clear sY nZ om hb1)
   | (refine ⟨trivial,rfl,?_⟩;gi_at_call 109;refine (CallsIn.inRound l (callsIn_wide.2 (UX _ _ u _ (LP.o.ext (by exact Below.refl _ _)) (λp hp=>(GY.o p hp).validB)))).mono ?_;rintro e w2 ⟨b,rfl,Fh,hb2⟩;have Cz:=ad Fh;have bj:=ad hb2;clear Fh hb2;have hbx:=im.o.lbx.below (Et bo.o bj.o);have q2:=(hbx.cells 0).1;have q3:=(hbx.cells 0).2;clear hbx;cases b)
   | (gi_at_builtin;refine nh_ az _ _ az w.heap.size (λk=>k=w.heap.size\/k=w.heap.size+1) (.slice la L.length lc) L (.slice va u.length vc,u) az (im.o.row.below (Ea (Et bo.o bj.o) _)) (yD _ (Ea bj.o _)) _ _ az ag (by have:=bo.o.size;have:=bj.o.size;simp;omega) aa (by have:=bo.o.size;have:=bj.o.size;simp;omega) ?_;intro ga gc w3 hr3 hg3 hb3 _;have uS:=((im.o.lbx.below (Et bo.o bj.o)).alloc (.cells #[.slice va u.length vc] 78)).grown hg3 (by rintro e;exact im.o.row.ne _ e.symm (.inr rfl));have q4:=(uS.cells 0).1;have q5:=(uS.cells 0).2;have Ki:=ad uS;have Bf:=ad hr3;have RU:=ad hg3;have cm:=ad hb3;clear uS hr3 hg3 hb3))
  .have nT:=Et bo.o bj.o;have nW:Below w.heap.size W' (w2.alloc (.cells #[.slice va u.length vc] 78)):=(Ea nT _).mono aa;refine ⟨((KeepsOthers.grown_cells (KeepsOthers.of_below (Ea nT _)) RU.o (im.o.row.below (Ea nT _)).row_cells).trans (KeepsOthers.setCell w3 _ _)).from _,λk hk=>?_,.slice ga (L.length+1) gc,L ++ [(.slice va u.length vc,u)],?_,⟨?_,?_,?_,?_,?_⟩,?_,?_⟩
   .exact (((nW.trans cm.o).setCell (p:=⟨w.heap.size+1,0,none⟩) (Nat.le_succ _) _).block k hk)
   .rw [List.map_append,List.map_append];exact qq.o.keep1 il.o (by have:=Cz.o;simpa using this)
   .exact (im.o.below.trans (nW.trans cm.o)).setCell (p:=⟨w.heap.size+1,0,none⟩) (Nat.le_succ _) _
   .exact Bf.o.box (World.grownBy.set' ⟨rfl,rfl,rfl,Nat.le_refl _,λ_ _ _=>rfl⟩ _) (.inr rfl)
   .exact af.setNe (((im.o.rbx.below nT).alloc _).grown RU.o (λe=>im.o.row.ne _ e.symm (.inl rfl))) _ aa
   .exact br 0 _ Ki.o
   .intro x hx;rcases List.mem_append.1 hx with hx|hx
    .exact im.o.vt x hx
    obtain rfl:x=(.slice va u.length vc,u):=by simpa using hx
    exact tV.o.merged il.o GY.o
   .simp;omega
   exact ⟨r,by rw [List.map_append,List.append_assoc];exact Sn.o⟩
  have nT:=Et bo.o bj.o;refine ⟨(KeepsOthers.of_below nT).from _,λk hk=>nT.block k aa,_,L,?_,im.o.ext (Nat.le_refl _) nT,?_,?_⟩
  .rw [List.map_append];exact qq.o.skip1 il.o (by have:=Cz.o;simpa using this)
  .simp;omega
  exact ⟨r,by rw [List.map_append,List.append_assoc];exact Sn.o⟩
 case done=>
  rintro D xs W' hD aL ⟨lv,L,BN,wL,BM,-⟩ aJ;have nw:xs.length=T.length:=by rw [<- show xs.map Prod.snd=T from aL,List.length_map]
  have zB:L.length<=100000:=aa;rw [show xs.map Prod.snd=T from aL] at BN;have qq:=ad BN;have im:=ad wL;have fC:=ad aJ;clear aL BN wL aJ nw BM;gi_wp2_with fail;refine wpIn_wide.2 ?_;go_loopw [6,7,8,9,10,28] (λs6 _ _ _ _ _ wr=>∃ (b:Bool) (lv:Value) (M:List (Value × List Per)),s6=.bool b/\M.length<=100000/\Hid (∀ m,ld (M.map Prod.snd) m->ld (L.map Prod.snd) m)/\Hid (b=false->GC (oN (M.map Prod.snd)) M.length)/\Hid (NI w.heap.size w s lv M wr)/\Hid (wr.heap[D]? = some (.deferred (some []))))
   (λs6 _ _ _ _ _ wr=>2*lenW w.heap.size wr+(match s6 with|.bool true=>1|_=>0))
  .exact ⟨true,lv,L,rfl,zB,ad (λ_ h=>h),ad (λh=>absurd h aF),im,fC⟩
  obtain ⟨b,lv,M,rfl,NY,HJ,Y7,HN,HD⟩:=hrel;have sX:=HN.o.lenW;obtain ⟨la,lc,rfl,_,_,zT⟩:=HN.o.row.form;have q2:=(HN.o.lbx.cells 0).1;cases b with
  | true=>
   have KU:=ad sX;clear sX;go_wp2_with fail
   go_step3
   go_wp2_with fail
   go_step3
   go_wp2
   go_loopw [6,7,8,9,10,28] (λs6 _ _ _ _ idx wr=>∃ ii:Nat,ii<=M.length/\s6=.bool false/\idx=.int .i64 ii/\Hid (∀ i' j',i'<ii->i'<j'->j'<M.length->¬ oN (M.map Prod.snd) i' j')/\Hid (NI w.heap.size w s (.slice la M.length lc) M wr)/\Hid (wr.heap[D]? = some (.deferred (some [])))) (λ_ _ _ _ _ idx _=>M.length-(intOf idx).toNat)
   .exact ⟨0,aa,rfl,rfl,ad (λ_ _ h=>absurd h aa),HN,HD⟩
   obtain ⟨ii,hii,rfl,rfl,px,vR,oA⟩:=hrel;have q2:=(vR.o.lbx.cells 0).1;by_cases hlt:ii<M.length
   .have z_:(ii:Int)<M.length:=aa;rcases zT with h0|⟨g1,rfl⟩
    .omega
    go_wp2
    go_loopw [6,8,9,10] (λs6 jv _ _ wr=>∃ jj:Nat,ii<jj/\jj<=M.length/\s6=.bool false/\jv=.int .i64 jj/\Hid (∀ j',ii<j'->j'<jj->¬ oN (M.map Prod.snd) ii j')/\Hid (NI w.heap.size w s (.slice (some ⟨g1,0,none⟩) M.length lc) M wr)/\Hid (wr.heap[D]? = some (.deferred (some [])))) (λ_ jv _ _ _=>M.length-(intOf jv).toNat)
    .exact ⟨ii+1,aa,aa,rfl,by go_num,ad (λ_ h1 h2=>absurd h2 aa),vR,oA⟩
    obtain ⟨jj,gD,hjj,rfl,rfl,qu,mB,A4⟩:=hrel;have q2:=(mB.o.lbx.cells 0).1;obtain ⟨nu,q3,-⟩:=mB.o.row.get rfl hlt;have me:(M.map Prod.snd).getD ii []=(M.getD ii default).2:=by simp [List.getD_eq_getElem?_getD,hlt]
    have tK:Hid (M.getD ii default∈M):=ad (dz hlt);generalize M.getD ii default=X at *;obtain ⟨xv,xt⟩:=X;dsimp only at q3 me nu;have RM:=ad me;by_cases dr:jj<M.length
    .have rD:(jj:Int)<M.length:=aa;by_cases hx1:xt.length=1
     .obtain ⟨bx,ox,cx,d_,eh,ed,eH,eR,dP,rfl,TP,x0,x1,x2,x3⟩:=nu.single hx1;obtain ⟨o_,q4,-⟩:=mB.o.row.get rfl dr;have ke:(M.map Prod.snd).getD jj []=(M.getD jj default).2:=by simp [List.getD_eq_getElem?_getD,dr]
      have qt:Hid (M.getD jj default∈M):=ad (dz dr);generalize M.getD jj default=Y at *;obtain ⟨yv,yt⟩:=Y;dsimp only at q4 ke o_;have GV:=ad ke;have kY:=ad hx1;by_cases hy1:yt.length=1
      .obtain ⟨mL,oy,cy,kF,kP,kK,kG,kQ,kL,rfl,TQ,y0,y1,y2,y3⟩:=o_.single hy1;have yO:=ad hy1;have gO:=(mB.o.vt _ tK.o).fv _ (dz (d:=default) (show 0<xt.length by omega));have rB:=(mB.o.vt _ qt.o).fv _ (dz (d:=default) (show 0<yt.length by omega));have tE:Hid (oN (M.map Prod.snd) ii jj↔js (xt.getD 0 default) (yt.getD 0 default)=true):=ad (by unfold oN;rw [me,ke];exact ⟨λh=>h.2.2,λh=>⟨hx1,hy1,h⟩⟩);have YU:Hid (qQ (M.map Prod.snd) ii jj=((M.map Prod.snd).set ii [vG (xt.getD 0 default) (yt.getD 0 default)]).eraseIdx jj):=ad (by unfold qQ;rw [me,ke]);generalize xt.getD 0 default=xp at *;generalize yt.getD 0 default=yp at *;have mw:=λW=>UI ⟨.slice d_ eh ed,.slice eH eR dP,xp⟩ ⟨.slice kF kP kK,.slice kG kQ kL,yp⟩ W gO.valid.wf.per gO.valid.per rB.valid.wf.per rB.valid.per;change ∀ W,Calls _ _ #[an _ _ xp.frm xp.period,an _ _ yp.frm yp.period] W λe w'=>e=.returned (.bool (js xp yp))/\_ at mw;have nB:=ad gO;have CV:=ad rB;have Hd:=ad TP;have Zb:=ad TQ;generalize js xp yp=dd at *;clear nu o_ me ke hx1 hy1 gO rB TP TQ;go_wp2_with fail;refine oK (w0:=wr) [0,1,2,3,4,5,6,7,8,9,10,11,12,13,14,15,16,17,18,19,20] [21] (λv=>⟨#[.func (Fn.func g) #[] lb,undef,.pointer (some ⟨w.heap.size,0,none⟩),.int .i64 0,.pointer (some ⟨w.heap.size+1,0,none⟩),undef,.bool false,.int .i64 ↑ii,.int .i64 ↑jj,u9,u10,undef,undef,undef,.func (Fn.func g) #[] lb,undef,undef,undef,undef,undef,undef,undef,undef,undef,undef,.bool true,.slice (some ⟨g1,0,none⟩) M.length lc,.int .i64 ↑M.length,.int .i64 ↑ii,.bool true,.int .i64 ↑ii,.int .i64 ↑ii,.int .i64 (↑ii+1),.int .i64 ↑jj,.slice (some ⟨g1,0,none⟩) M.length lc,.int .i64 ↑M.length,.bool true,.bool true,.slice (some ⟨g1,0,none⟩) M.length lc,.int .i64 ↑ii,.pointer (some ⟨g1,ii,none⟩),.slice (some ⟨bx,ox,none⟩) 1 cx,.int .i64 1,.bool true,.bool true,u45,u46,v 0,v 1,v 2,v 3,v 4,v 5,v 6,v 7,v 8,v 9,v 10,v 11,v 12,v 13,v 14,v 15,v 16,v 17,v 18,v 19,v 20,u68,u69,u70,u71,u72,u73,u74,u75,u76,u77,u78,u79,u80,u81,u82,u83,u84,u85,u86,u87,u88,u89,u90,u91,u92,u93,u94,u95,u96,u97,undef,undef,undef,undef,undef,undef,undef,undef,undef,undef,undef,undef,undef,undef,undef,undef,undef,undef,undef,undef,undef,undef,undef],[{ target:=.collected D,args:=#[] }]⟩) [.slice (some ⟨g1,0,none⟩) M.length lc,.int .i64 jj,.pointer (some ⟨g1,jj,none⟩),.slice (some ⟨mL,oy,none⟩) 1 cy,.int .i64 1,.bool false,.bool false,.slice (some ⟨g1,0,none⟩) M.length lc,.int .i64 ii,.pointer (some ⟨g1,ii,none⟩),.slice (some ⟨bx,ox,none⟩) 1 cx,.pointer (some ⟨bx,ox,none⟩),an (.slice d_ eh ed) (.slice eH eR dP) xp.frm xp.period,.slice (some ⟨g1,0,none⟩) M.length lc,.int .i64 jj,.pointer (some ⟨g1,jj,none⟩),.slice (some ⟨mL,oy,none⟩) 1 cy,.pointer (some ⟨mL,oy,none⟩),an (.slice kF kP kK) (.slice kG kQ kL) yp.frm yp.period,.bool dd,.bool (!dd)] [] (λ_ _ _ _ _=>True) (λW=>W.cell? ⟨w.heap.size+1,0,none⟩=some (.slice (some ⟨g1,0,none⟩) M.length lc)/\W.cell? ⟨g1,ii,none⟩=some (.slice (some ⟨bx,ox,none⟩) 1 cx)/\W.cell? ⟨g1,jj,none⟩=some (.slice (some ⟨mL,oy,none⟩) 1 cy)/\(W.cell? ⟨bx,ox,none⟩=some (.slice d_ eh ed)/\W.cell? ⟨bx,ox+1,none⟩=some (.int .i64 xp.frm)/\W.cell? ⟨bx,ox+2,none⟩=some (.int .i64 xp.period)/\W.cell? ⟨bx,ox+3,none⟩=some (.slice eH eR dP))/\(W.cell? ⟨mL,oy,none⟩=some (.slice kF kP kK)/\W.cell? ⟨mL,oy+1,none⟩=some (.int .i64 yp.frm)/\W.cell? ⟨mL,oy+2,none⟩=some (.int .i64 yp.period)/\W.cell? ⟨mL,oy+3,none⟩=some (.slice kG kQ kL))) (λW hb=>⟨bF q2 hb,bF q3 hb,bF q4 hb,⟨bF x0 hb,bF x1 hb,bF x2 hb,bF x3 hb⟩,bF y0 hb,bF y1 hb,bF y2 hb,bF y3 hb⟩) trivial trivial ?steps ?fin (λj=>match j with|0=>u47|1=>u48|2=>u49|3=>u50|4=>u51|5=>u52|6=>u53|7=>u54|8=>u55|9=>u56|10=>u57|11=>u58|12=>u59|13=>u60|14=>u61|15=>u62|16=>u63|17=>u64|18=>u65|19=>u66|20=>u67|_=>undef)
       case steps=>
        clear q2 q3 q4 x0 x1 x2 x3 y0 y1 y2 y3;refine .c [] [] rfl ?_ (.c [] [] rfl ?_ (.c [0,1] [] rfl ?_ (.c [2] [] rfl ?_ (.c [3] [] rfl ?_ (.c [4] [] rfl ?_ (.c [5] [] rfl ?_ (.c [6] [] rfl ?_ (.c [6] [] rfl ?_ (.c [6,7,8] [] rfl ?_ (.c [6,9] [] rfl ?_ (.c [6,10] [] rfl ?_ (.c [6,11] [] rfl ?_ (.c [6] [] rfl ?_ (.c [6] [] rfl ?_ (.c [6,13,14] [] rfl ?_ (.c [6,15] [] rfl ?_ (.c [6,16] [] rfl ?_ (.c [6,17] [] rfl ?_ (.c [6,12,18] [] rfl ?_ (.c [6,19] [] rfl ?_ (.n)))))))))))))))))))));all_goals try exact pj
        rintro v lo hi W hb ⟨s2,s3,s4,⟨g0,uD,g2,g3⟩,k0,k1,k2,k3⟩ _;refine .inl ⟨rfl,λK hK=>?_⟩;simp only [ov,aD,Nat.reduceBEq,cond_true,cond_false];go_wp2_with (go_at_call 140;refine (mw _).mono ?_;rintro e w9 ⟨rfl,bg⟩);exact aU (hK w9 bg) (by simp [ov,aD,upd])
       case fin=>
        rintro v lo gC W2 hb ⟨s2,s3,s4,⟨g0,uD,g2,g3⟩,k0,k1,k2,k3⟩ hf hap;show wpList _ _ _ [_] _ _;have e6:v 6=.bool false:=(hf 6 rfl).2.2.2;have SG:v 20=.bool (!dd):=(hf 20 rfl).2.2.2;clear hf hap;dsimp only;rw [e6,SG];clear e6 SG;generalize v 0=z0,v 1=z1,v 2=z2,v 3=z3,v 4=z4,v 5=z5,v 7=z7,v 8=z8,v 9=z9,v 10=xL,v 11=xM,v 12=z12,v 13=Ro,v 14=Rp,v 15=J6,v 16=Rq,v 17=Rr,v 18=Rs,v 19=Rt;have cD:=ad hb;clear hb;cases dd with
        | false=>
         clear s2 s3 s4 g0 uD g2 g3 k0 k1 k2 k3;go_wp2;go_roundw
         .exact ⟨jj+1,aa,aa,rfl,by go_num,ad (λj' h1 h2=>by
          by_cases h3:j'<jj
          .exact qu.o j' h1 h3
          obtain rfl:j'=jj:=aa;rw [tE.o];decide),ad (mB.o.ext (Nat.le_refl _) cD.o),ad ((cD.o.block D (Array.getElem?_eq_some_iff.1 A4.o).1).trans A4.o)⟩
         simp [intOf];omega
        | true=>
         obtain ⟨q,hq⟩:∃ q,q=vG xp yp:=⟨_,rfl⟩;have x_:Hid (FV s q):=ad (by rw [hq];exact nB.o.or CV.o);have HQ:=ad hq;have Lc:∀ W,Below W2.heap.size W2 W->Calls Tryz.prog 141 #[an (.slice d_ eh ed) (.slice eH eR dP) xp.frm xp.period,an (.slice kF kP kK) (.slice kG kQ kL) yp.frm yp.period] W (mO q W):=λW h=>by
          rw [hq];exact MU s _ _ _ _ xp yp W (Hd.o.is.ext (Et cD.o h)) (Zb.o.is.ext (Et cD.o h)) nB.o CV.o
         clear hq;have hW2:=cD.o.size;have hlbz:=mB.o.lbx.lt;go_wp2_with fail;refine Code.wp_mono (Q:=λe a' W'=>e=.normal/\(∃ (nb:Nat) (h c:Value) (Ye z70 Yf z72 Yg Yh z75 z76 Yi Yj Yk z80 Yl Ym Yn Yo:Value),a'=⟨#[.func (Fn.func g) #[] lb,undef,.pointer (some ⟨w.heap.size,0,none⟩),.int .i64 0,.pointer (some ⟨w.heap.size+1,0,none⟩),undef,.bool false,.int .i64 ↑ii,.int .i64 ↑jj,.pointer (some ⟨nb,0,none⟩),.int .i64 0,undef,undef,undef,.func (Fn.func g) #[] lb,undef,undef,undef,undef,undef,undef,undef,undef,undef,undef,.bool true,.slice (some ⟨g1,0,none⟩) M.length lc,.int .i64 ↑M.length,.int .i64 ↑ii,.bool true,.int .i64 ↑ii,.int .i64 ↑ii,.int .i64 (↑ii+1),.int .i64 ↑jj,.slice (some ⟨g1,0,none⟩) M.length lc,.int .i64 ↑M.length,.bool true,.bool true,.slice (some ⟨g1,0,none⟩) M.length lc,.int .i64 ↑ii,.pointer (some ⟨g1,ii,none⟩),.slice (some ⟨bx,ox,none⟩) 1 cx,.int .i64 1,.bool true,.bool true,u45,u46,z0,z1,z2,z3,z4,z5,.bool false,z7,z8,z9,xL,xM,z12,Ro,Rp,J6,Rq,Rr,Rs,Rt,.bool false,.bool false,Ye,z70,Yf,z72,Yg,Yh,z75,z76,Yi,Yj,Yk,z80,Yl,Ym,Yn,Yo,u85,u86,u87,u88,u89,u90,u91,u92,u93,u94,u95,u96,u97,undef,undef,undef,undef,undef,undef,undef,undef,undef,undef,undef,undef,undef,undef,undef,undef,undef,undef,undef,undef,undef,undef,undef],[{ target:=.collected D,args:=#[] }]⟩/\wg (W2.heap.size-1) q nb h c W')/\Below W2.heap.size W2 W') ?imp ?reg
         case reg=>
          refine Ny (w0:=W2) [0,1,2,3,4,5,6,7,8,9,10,11,12,13,14,15,16] 15 17 [18] (λv=>⟨#[.func (Fn.func g) #[] lb,undef,.pointer (some ⟨w.heap.size,0,none⟩),.int .i64 0,.pointer (some ⟨w.heap.size+1,0,none⟩),undef,.bool false,.int .i64 ↑ii,.int .i64 ↑jj,v 16,u10,undef,undef,undef,.func (Fn.func g) #[] lb,undef,undef,undef,undef,undef,undef,undef,undef,undef,undef,.bool true,.slice (some ⟨g1,0,none⟩) M.length lc,.int .i64 ↑M.length,.int .i64 ↑ii,.bool true,.int .i64 ↑ii,.int .i64 ↑ii,.int .i64 (↑ii+1),.int .i64 ↑jj,.slice (some ⟨g1,0,none⟩) M.length lc,.int .i64 ↑M.length,.bool true,.bool true,.slice (some ⟨g1,0,none⟩) M.length lc,.int .i64 ↑ii,.pointer (some ⟨g1,ii,none⟩),.slice (some ⟨bx,ox,none⟩) 1 cx,.int .i64 1,.bool true,.bool true,u45,u46,z0,z1,z2,z3,z4,z5,.bool false,z7,z8,z9,xL,xM,z12,Ro,Rp,J6,Rq,Rr,Rs,Rt,.bool false,.bool false,v 13,v 0,v 1,v 2,v 3,v 4,v 5,v 6,v 7,v 8,v 9,v 10,v 11,v 12,v 14,v 15,u85,u86,u87,u88,u89,u90,u91,u92,u93,u94,u95,u96,u97,undef,undef,undef,undef,undef,undef,undef,undef,undef,undef,undef,undef,undef,undef,undef,undef,undef,undef,undef,undef,undef,undef,undef],[{ target:=.collected D,args:=#[] }]⟩) [.slice (some ⟨g1,0,none⟩) M.length lc,.int .i64 ii,.pointer (some ⟨g1,ii,none⟩),.slice (some ⟨bx,ox,none⟩) 1 cx,.pointer (some ⟨bx,ox,none⟩),an (.slice d_ eh ed) (.slice eH eR dP) xp.frm xp.period,.slice (some ⟨g1,0,none⟩) M.length lc,.int .i64 jj,.pointer (some ⟨g1,jj,none⟩),.slice (some ⟨mL,oy,none⟩) 1 cy,.pointer (some ⟨mL,oy,none⟩),an (.slice kF kP kK) (.slice kG kQ kL) yp.frm yp.period,undef,undef,undef,.int .i64 0,undef] [12,13,14,16] (λi v lo hi W=>match i with|12=>∃ h c,v 12=.tuple #[an h c q.frm q.period,.int .i64 0]/\wG W (lo 12) (hi 12) h c q|13=>v 13=v 12/\∃ h c,v 13=.tuple #[an h c q.frm q.period,.int .i64 0]|14=>∃ h c,v 13=.tuple #[an h c q.frm q.period,.int .i64 0]/\v 14=an h c q.frm q.period|16=>v 16=.pointer (some ⟨lo 16,0,none⟩)/\lo 16<hi 16/\af W (lo 16) #[.slice none 0 0,.int .i64 0,.int .i64 0,.slice none 0 0] 80|_=>True) (λW=>W.cell? ⟨w.heap.size+1,0,none⟩=some (.slice (some ⟨g1,0,none⟩) M.length lc)/\W.cell? ⟨g1,ii,none⟩=some (.slice (some ⟨bx,ox,none⟩) 1 cx)/\W.cell? ⟨g1,jj,none⟩=some (.slice (some ⟨mL,oy,none⟩) 1 cy)/\(W.cell? ⟨bx,ox,none⟩=some (.slice d_ eh ed)/\W.cell? ⟨bx,ox+1,none⟩=some (.int .i64 xp.frm)/\W.cell? ⟨bx,ox+2,none⟩=some (.int .i64 xp.period)/\W.cell? ⟨bx,ox+3,none⟩=some (.slice eH eR dP))/\(W.cell? ⟨mL,oy,none⟩=some (.slice kF kP kK)/\W.cell? ⟨mL,oy+1,none⟩=some (.int .i64 yp.frm)/\W.cell? ⟨mL,oy+2,none⟩=some (.int .i64 yp.period)/\W.cell? ⟨mL,oy+3,none⟩=some (.slice kG kQ kL))) (λW hb=>⟨bF s2 hb,bF s3 hb,bF s4 hb,⟨bF g0 hb,bF uD hb,bF g2 hb,bF g3 hb⟩,bF k0 hb,bF k1 hb,bF k2 hb,bF k3 hb⟩) ?stab ?loc ?steps ?fin ?fin2 (λj=>match j with|0=>u70|1=>u71|2=>u72|3=>u73|4=>u74|5=>u75|6=>u76|7=>u77|8=>u78|9=>u79|10=>u80|11=>u81|12=>u82|13=>u69|14=>u83|15=>u84|16=>u9|_=>undef)
          case stab=>
           refine ⟨?_,?_,?_,?_,trivial⟩
           .intro v lo hi W W' h hb;exact (let ⟨x1,x2,e,hp⟩:=h;⟨x1,x2,e,hp.below hb⟩)
           .intro v lo hi W W' h hb;exact h
           .intro v lo hi W W' h hb;exact h
           intro v lo hi W W' h hb;exact ⟨h.1,h.2.1,h.2.2.below hb⟩
          case loc=>
           refine ⟨?_,?_,?_,?_,trivial⟩
           .intro v v' lo lo' hi hi' W aC h;have q:=aC 12 (.inl rfl)
            (try dsimp only at h ⊢)
            simp only [q.1,q.2.1,q.2.2] at h;exact h
           .intro v v' lo lo' hi hi' W aC h;have q:=aC 13 (.inl rfl);have th:=aC 12 (.inr (bI (by kernel_rfl)))
            (try dsimp only at h ⊢)
            simp only [q.1,q.2.1,q.2.2,th.1,th.2.1,th.2.2] at h;exact h
           .intro v v' lo lo' hi hi' W aC h;have q:=aC 14 (.inl rfl);have pY:=aC 13 (.inr (bI (by kernel_rfl)))
            (try dsimp only at h ⊢)
            simp only [q.1,q.2.1,q.2.2,pY.1,pY.2.1,pY.2.2] at h;exact h
           intro v v' lo lo' hi hi' W aC h;have q:=aC 16 (.inl rfl)
           (try dsimp only at h ⊢)
           simp only [q.1,q.2.1,q.2.2] at h;exact h
          case steps=>
           clear s2 s3 s4 g0 uD g2 g3 k0 k1 k2 k3;refine .c [] [] rfl ?_ (.c [] [] rfl ?_ (.c [0,1] [] rfl ?_ (.c [2] [] rfl ?_ (.c [3] [] rfl ?_ (.c [4] [] rfl ?_ (.c [] [] rfl ?_ (.c [] [] rfl ?_ (.c [6,7] [] rfl ?_ (.c [8] [] rfl ?_ (.c [9] [] rfl ?_ (.c [10] [] rfl ?_ (.c [5,11] [] rfl ?_ (.c [] [12] rfl ?_ (.c [] [13] rfl ?_ (.c [] [13] rfl ?_ (.c [] [] rfl ?_ (.n)))))))))))))))));all_goals try exact Q_
           .rintro v lo hi W hb ⟨s2,s3,s4,⟨g0,uD,g2,g3⟩,k0,k1,k2,k3⟩ _;refine ⟨rfl,λK hK=>?_⟩;simp only [ov,aD,Nat.reduceBEq,cond_true,cond_false];go_wp2_with (go_at_call 141;refine (Lc _ xE).mono ?_;rintro e w9 ⟨h',c',rfl,ho,bg⟩);exact aU (hK (.tuple #[an h' c' q.frm q.period,.int .i64 0]) w9 bg ⟨h',c',rfl,ho.at⟩) (by simp [ov,aD,upd])
           .rintro v lo hi W hb ⟨s2,s3,s4,⟨g0,uD,g2,g3⟩,k0,k1,k2,k3⟩ ⟨⟨la12,lb12,Rz⟩,_⟩;refine ⟨rfl,λK hK=>?_⟩;simp only [ov,aD,Nat.reduceBEq,cond_true,cond_false]
            (try dsimp only at Rz)
            obtain ⟨h8,c8,e8,_⟩:=Rz;go_wp2;exact aU (hK (v 12) W (Below.refl _ _) ⟨rfl,h8,c8,e8⟩) (by simp [ov,aD,upd,e8])
           .rintro v lo hi W hb ⟨s2,s3,s4,⟨g0,uD,g2,g3⟩,k0,k1,k2,k3⟩ ⟨⟨GK,GM,vO⟩,_⟩;refine ⟨rfl,λK hK=>?_⟩;simp only [ov,aD,Nat.reduceBEq,cond_true,cond_false]
            (try dsimp only at vO)
            obtain ⟨-,h9,c9,e9⟩:=vO;simp only [e9];go_wp2;exact aU (hK (an h9 c9 q.frm q.period) W (Below.refl _ _) ⟨h9,c9,e9,rfl⟩) (by simp [ov,aD,upd,e9])
           .rintro v lo hi W hb ⟨s2,s3,s4,⟨g0,uD,g2,g3⟩,k0,k1,k2,k3⟩ ⟨⟨GK,GM,vO⟩,_⟩;refine ⟨rfl,λK hK=>?_⟩;simp only [ov,aD,Nat.reduceBEq,cond_true,cond_false]
            (try dsimp only at vO)
            obtain ⟨-,h9,c9,e9⟩:=vO;simp only [e9];go_wp2;exact aU (hK W (Below.refl _ _)) (by simp [ov,aD,upd,e9])
           rintro v lo hi W hb ⟨s2,s3,s4,⟨g0,uD,g2,g3⟩,k0,k1,k2,k3⟩ _;refine ⟨rfl,λK hK=>?_⟩;simp only [ov,aD,Nat.reduceBEq,cond_true,cond_false];go_wp2;exact hK (.pointer (some ⟨W.heap.size,0,none⟩)) _ (Ea (Er _) _) ⟨rfl,ag,af.new _ _ _⟩
          case fin=>
           rintro v lo gC W5 hb5-hf hap;show wpList _ _ _ [_,_] _ _;obtain ⟨l8,-,h8,h,c,e8,rP⟩:=hf 12 rfl;obtain ⟨-,-,-,e9,-⟩:=hf 13 rfl;obtain ⟨-,-,-,h',c',mU,h_⟩:=hf 14 rfl;have e11:v 15=.int .i64 0:=(hf 15 rfl).2.2.2;obtain ⟨sd,-,nT,fL,iJ,hbox⟩:=hf 16 rfl;have hd:=hap 12 16 rfl rfl aF;clear hf hap;rw [e9,e8] at mU;obtain ⟨rfl,rfl⟩:h=h'/\c=c':=by simpa [an] using mU
           dsimp only;rw [h_,e11,fL];clear h_ e11 fL e9 mU e8;obtain ⟨nb,jP⟩:∃ nb,nb=lo 16:=⟨_,rfl⟩;rw [<- jP] at hd hbox sd iJ ⊢;have np:=rP.inn;generalize lo 12=AQ at *;generalize gC 12=NB at *;generalize gC 16=zr at *;clear jP rP;obtain ⟨a5,m5,a6,m6,rfl,rfl⟩:=np.form;have g0:=hbox.cells 0;have g1:=hbox.cells 1;have g2:=hbox.cells 2;have g3:=hbox.cells 3;have tJ:=ad (wg.of np x_.o (show W2.heap.size-1<AQ by omega) hbox aa aa);have cr:=ad hb5;clear hbox np hd;generalize v 0=y0,v 1=y1,v 2=y2,v 3=y3,v 4=y4,v 5=y5,v 6=y6,v 7=y7,v 8=y8,v 9=y9,v 10=sl,v 11=sm,v 12=tk,v 13=XQ;go_wp2;exact ⟨⟨_,_,tJ.o⟩,by have hb5:=cr.o;exact xE⟩
          case fin2=>
           rintro v lo gC W5 hb5-hf hap;obtain ⟨l8,-,h8,h,c,e8,rP⟩:=hf 12 rfl aF;obtain ⟨-,-,-,e9,-⟩:=hf 13 rfl aF;obtain ⟨-,-,-,h',c',mU,h_⟩:=hf 14 rfl aF;obtain ⟨sd,-,nT,fL,iJ,hbox⟩:=hf 16 rfl aF;have hd:=hap 12 16 rfl rfl aF aF aF;clear hf hap;rw [e9,e8] at mU;obtain ⟨rfl,rfl⟩:h=h'/\c=c':=by simpa [an] using mU
           have D0:=e9.trans e8;dsimp only;rw [h_,fL,D0];clear h_ fL e9 mU e8 D0;obtain ⟨nb,jP⟩:∃ nb,nb=lo 16:=⟨_,rfl⟩;rw [<- jP] at hd hbox sd iJ ⊢;have np:=rP.inn;generalize lo 12=AQ at *;generalize gC 12=NB at *;generalize gC 16=zr at *;clear jP rP;obtain ⟨a5,m5,a6,m6,rfl,rfl⟩:=np.form;have g0:=hbox.cells 0;have g1:=hbox.cells 1;have g2:=hbox.cells 2;have g3:=hbox.cells 3;have tJ:=ad (wg.of np x_.o (show W2.heap.size-1<AQ by omega) hbox aa aa);have cr:=ad hb5;clear hbox np hd;generalize v 0=y0,v 1=y1,v 2=y2,v 3=y3,v 4=y4,v 5=y5,v 6=y6,v 7=y7,v 8=y8,v 9=y9,v 10=sl,v 11=sm,v 12=tk,v 15=J6;constructor
           .show wpList _ _ _ [_,_,_] _ _;go_wp2;exact ⟨⟨_,_,tJ.o⟩,by have hb5:=cr.o;exact xE⟩
           show wpList _ _ _ [_,_,_] _ _;go_wp2;exact ⟨⟨_,_,tJ.o⟩,by have hb5:=cr.o;exact xE⟩
         case imp=>
          rintro e a' W6 ⟨rfl,⟨nb,h,c,Ye,z70,Yf,z72,Yg,Yh,z75,z76,Yi,Yj,Yk,z80,Yl,Ym,Yn,Yo,rfl,hP⟩,bD⟩;obtain ⟨a5,n5,m5,a6,n6,m6,rfl,rfl⟩:=hP.ok.form;have p0:=hP.c0;have p1:=hP.c1;have p2:=hP.c2;have p3:=hP.c3;have NF:=Et cD.o bD;have vg:=mB.o.ext (Nat.le_refl _) NF;have r2:=(vg.lbx.cells 0).1;have rT:=vg.row.below (Ea (Er W6) (.cells #[.slice a5 n5 m5,.int .i64 q.frm,.int .i64 q.period,.slice a6 n6 m6] 80));obtain ⟨-,r0,r1⟩:=rT.get rfl hlt;have AM:=bD.size;have hg1:=(vg.row.row.lt g1 rfl).2;have uW:=vg.row.ne g1 rfl;have jz:=(WJ hP.ok (show W2.heap.size-1<=W6.heap.size by have:=bD.size;omega)).mono (G:=cN w.heap.size (λk=>k=w.heap.size\/k=w.heap.size+1) (.slice (some ⟨g1,0,none⟩) M.length lc)) (λb hb=>by
           have hg3:=(mB.o.row.row.lt g1 rfl).2;obtain ⟨h1,h2⟩:=hb;exact ⟨aa,(by rintro (h|h) <;> omega),λe=>by simp [Value.ownBlock] at e;omega⟩)
          have cd:=rT.set (y:=(.slice (some ⟨W6.heap.size,0,none⟩) 1 1,[q])) ii jz;have rH:=af.setNe (vg.lbx.alloc (.cells #[.slice a5 n5 m5,.int .i64 q.frm,.int .i64 q.period,.slice a6 n6 m6] 80)) (k:=g1) (i:=ii) (.slice (some ⟨W6.heap.size,0,none⟩) 1 1) (λe=>uW (.inr e.symm));have vr:=af.setNe (vg.rbx.alloc (.cells #[.slice a5 n5 m5,.int .i64 q.frm,.int .i64 q.period,.slice a6 n6 m6] 80)) (k:=g1) (i:=ii) (.slice (some ⟨W6.heap.size,0,none⟩) 1 1) (λe=>uW (.inl e.symm));have I5:=(KeepsOthers.alloc W6 (.cells #[.slice a5 n5 m5,.int .i64 q.frm,.int .i64 q.period,.slice a6 n6 m6] 80)).trans (KeepsOthers.setCell _ ⟨g1,ii,none⟩ (.slice (some ⟨W6.heap.size,0,none⟩) 1 1));have hbl:=((Below.refl w.heap.size W6).alloc aa (.cells #[.slice a5 n5 m5,.int .i64 q.frm,.int .i64 q.period,.slice a6 n6 m6] 80)).setCell (p:=⟨g1,ii,none⟩) (show w.heap.size<=g1 from (vg.row.row.lt g1 rfl).1) (.slice (some ⟨W6.heap.size,0,none⟩) 1 1);have ry:=World.setCell_alloc_past (w:=W6) (.cells #[.slice a5 n5 m5,.int .i64 q.frm,.int .i64 q.period,.slice a6 n6 m6] 80) g1 ii (.slice (some ⟨W6.heap.size,0,none⟩) 1 1) hg1;rw [ry] at rH vr I5 hbl;dsimp only at cd;rw [ry] at cd;generalize Ob:(W6.setCell _ _).alloc _=W7 at rH vr I5 hbl cd;have Hk:=ad Ob;have r3:=(rH.cells 0).1;have KP:=ad rH;have Lr:=ad vr;have dS:=ad I5;have vQ:=ad hbl;have hdel:=qj_ _ _ _ _ _ jj _ _ cd (by rw [List.length_set];exact dr);rw [List.length_set] at hdel;have vX:=ad cd;rw [<- Ob] at r3 hdel;have Sb:=ad vg;have bO:=ad NF;clear hP vg rT cd jz bD NF rH vr I5 hbl ry Ob;go_wp2_with (go_at_call 142;refine hdel.mono ?_;rintro e w8 ⟨rfl,nr,iX⟩;rw [Hk.o] at iX;have I8:=KP.o.grown iX (by rintro e;cases e;exact uW (.inr rfl));have t0:=(I8.cells 0).1;have t1:=(I8.cells 0).2;have G9:=ad I8;have yz:=ad nr;have tz:=ad iX;clear I8 nr iX);have hgB:=(vX.o.row.lt g1 rfl);have EN:NI w.heap.size w s (.slice (some ⟨g1,0,none⟩) (M.length-1) lc) ((M.set ii (.slice (some ⟨W6.heap.size,0,none⟩) 1 1,[q])).eraseIdx jj) (w8.setCell ⟨w.heap.size+1,0,none⟩ (.slice (some ⟨g1,0,none⟩) (M.length-1) lc)):=by
           refine ⟨(Sb.o.below.trans (vQ.o.trans (World.grownBy.below' tz.o hgB.1 aa))).setCell (p:=⟨w.heap.size+1,0,none⟩) (Nat.le_succ _) _,yz.o.box (World.grownBy.set' ⟨rfl,rfl,rfl,Nat.le_refl _,λ_ _ _=>rfl⟩ _) (.inr rfl),af.setNe (Lr.o.grown tz.o (by rintro e;cases e;exact uW (.inl rfl))) _ aa,br 0 _ G9.o,λx hx=>?_⟩;rcases List.mem_or_eq_of_mem_set (List.mem_of_mem_eraseIdx hx) with h2|rfl
           .exact Sb.o.vt x h2
           exact ⟨ag,λp hp=>(List.mem_singleton.1 hp) ▸ x_.o,ag⟩
          have zv:(w8.setCell ⟨w.heap.size+1,0,none⟩ (.slice (some ⟨g1,0,none⟩) (M.length-1) lc)).heap[D]? = some (.deferred (some [])):=
           ((KeepsOthers.grown_cells ((KeepsOthers.of_below bO.o).trans dS.o) tz.o (λr e=>by cases e;exact vX.o.row_cells g1 rfl)).trans (KeepsOthers.setCell w8 _ _)).same D _ A4.o rfl
          have gz:∀ m,ld (((M.set ii (.slice (some ⟨W6.heap.size,0,none⟩) 1 1,[q])).eraseIdx jj).map Prod.snd) m->ld (L.map Prod.snd) m:=λm hm=>HJ.o m (ld.step (i:=ii) (j:=jj) ⟨gD,by rw [List.length_map];exact dr,by have:=tE.o;simpa using this,λi' j' h1 h2 h3=>px.o i' j' h1 h2 (by rwa [List.length_map] at h3),qu.o⟩ (by
           rw [YU.o,<- HQ.o,show ((M.map Prod.snd).set ii [q]).eraseIdx jj=((M.set ii (.slice (some ⟨W6.heap.size,0,none⟩) 1 1,[q])).eraseIdx jj).map Prod.snd by simp [List.eraseIdx_eq_take_drop_succ,List.map_set]];exact hm))
          have wY:((M.set ii (.slice (some ⟨W6.heap.size,0,none⟩) 1 1,[q])).eraseIdx jj).length=M.length-1:=by rw [List.length_eraseIdx_of_lt (by rw [List.length_set];exact dr),List.length_set]
          have FS:=EN.lenW;rw [wY] at FS;simp only [Exit.noGoto_normal,Exit.inBlock];go_roundw
          ·(repeat apply Exists.intro)
           exact ⟨⟨true,_,_,rfl,by rw [wY];omega,ad gz,ad (λh=>absurd h aF),ad EN,ad zv⟩,rfl⟩
          simp [FS,KU.o];omega
      obtain ⟨ya,yc,rfl,_⟩:=o_.form;have yO:=ad hy1;have Cc:(yt.length:Int)≠1:=aa;have tE:Hid (¬ oN (M.map Prod.snd) ii jj):=ad (by unfold oN;rw [ke];exact λh=>hy1 h.2.1);clear nu o_ me ke hx1 hy1;go_wp2_with fail;go_quiet (fail)
      go_wp2
      go_roundw
      .exact ⟨jj+1,aa,aa,rfl,by go_num,ad (λj' h1 h2=>by
       by_cases h3:j'<jj
       .exact qu.o j' h1 h3
       obtain rfl:j'=jj:=aa;exact tE.o),ad (mB.o.ext (Nat.le_refl _) (Below.drewN (Below.refl _ _) _)),ad (by exact A4.o)⟩
      simp [intOf];omega
     obtain ⟨xa,xc,rfl,_⟩:=nu.form;have kY:=ad hx1;have Gn:(xt.length:Int)≠1:=aa;have tE:Hid (∀ j',¬ oN (M.map Prod.snd) ii j'):=ad (λj' h=>by unfold oN at h;rw [me] at h;exact hx1 h.1);clear nu me hx1;go_wp2;go_roundw
     .exact ⟨ii+1,aa,rfl,by go_num,ad (λi' j' h1 h2 h3=>by
      by_cases h4:i'<ii
      .exact px.o i' j' h4 h2 h3
      obtain rfl:i'=ii:=aa;exact tE.o j'),mB,A4⟩
     simp [intOf];omega
    obtain rfl:jj=M.length:=aa;clear nu me;go_wp2;go_roundw
    .exact ⟨ii+1,aa,rfl,by go_num,ad (λi' j' h1 h2 h3=>by
     by_cases h4:i'<ii
     .exact px.o i' j' h4 h2 h3
     obtain rfl:i'=ii:=aa;exact qu.o j' h2 h3),mB,A4⟩
    simp [intOf];omega
   obtain rfl:ii=M.length:=aa;have O4:=vR.o.lenW;go_wp2_with fail;simp only [Exit.noGoto_normal,Exit.inBlock];go_roundw
   ·(repeat apply Exists.intro)
    exact ⟨⟨false,_,M,rfl,NY,HJ,ad (λ_ i' j' h1 h2=>px.o i' j' aa h1 h2),vR,oA⟩,rfl⟩
   simp [O4,KU.o]
  | false=>
   have KU:=ad sX;clear sX;go_wp2_with fail;refine wpIn_wide.2 ?_;have BY:ld (L.map Prod.snd) (M.map Prod.snd):=HJ.o _ (ld.done (by rw [List.length_map];have:=Y7.o;simpa using this));have YV:=ad BY;obtain ⟨n,hn⟩:∃ n,n=wr.heap.size:=⟨_,rfl⟩;have hno:NO w.heap.size n D 0 w (.slice la M.length lc) (.slice none 0 0) M [] (wr.alloc (.cells #[.slice none 0 0] 57)):=
    ⟨HN.o.below.alloc (HN.o.below.size) _,((HN.o.row.mono (A':=λk=>k=w.heap.size\/k=w.heap.size+1\/n<=k) (λk hk=>by rcases hk with h|h|h;exact .inl (.inl h);exact .inl (.inr h);exact .inr aa)).below (Ea (Er _) _)),aY.nil _ _ _,by simp [Value.ownBlock],af.at hn,HN.o.rbx.alloc _,(Below.heap_alloc _ _ _ (Array.getElem?_eq_some_iff.1 HD.o).1).trans HD.o,by simp [mR],ag⟩
   have gX:=ad hno;have tV:=ad HN.o.vt;have hwn:w.heap.size+1<n:=by have:=HN.o.lbx.lt;omega
   have q1:=al.cell (Ea (Er wr) (.cells #[.slice none 0 0] 57)) ((HN.o.lbx.cells 0).1.trans (show _=some (Value.slice la M.length lc) from rfl));clear BY hno;go_wp2_with fail;rw [<- hn];have oC:=ad hn;clear hn;go_loopw [13,100] (λ_ idx wr=>∃ (k:Nat) (ov:Value) (LO:List (Value × List Per)),k<=M.length/\idx=.int .i64 k/\Hid (NO w.heap.size n D k w (.slice la M.length lc) ov M LO wr)) (λ_ idx _=>M.length-(intOf idx).toNat)
   .exact ⟨0,_,[],aa,rfl,gX⟩
   obtain ⟨k,ov,LO,hk,rfl,HO⟩:=hrel;obtain ⟨oa,oc,rfl,_⟩:=HO.o.orow.form;have o1:=HO.o.obx.c0;by_cases ng:k<M.length
   .have fM:(k:Int)<M.length:=aa;rcases zT with h0|⟨g1,rfl⟩
    .omega
    obtain ⟨o_,m1,-⟩:=HO.o.lrow.get rfl ng;have RK:Hid (mR [] ((M.map Prod.snd).take (k+1))=sM (mR [] ((M.map Prod.snd).take k)) (M.getD k default).2):=ad (by
     rw [List.take_succ_eq_append_getElem (by simpa using ng),wv_];simp [List.getD_eq_getElem?_getD,ng])
    generalize M.getD k default=Y at *;obtain ⟨yv,yt⟩:=Y;dsimp only at m1 o_;obtain ⟨ya,yc,rfl,_⟩:=o_.form;have So:=ad o_;have o2:=(HO.o.obx.alloc (.cells #[.slice ya yt.length yc] 78)).c0;clear o_;have hcon:=nk_ (λb=>w.heap.size<=b) _ (.slice oa LO.length oc) LO (.slice ya yt.length yc) yt wr.heap.size (wr.alloc (.cells #[.slice ya yt.length yc] 78)) (HO.o.orow.below (Ea (Er _) _)).mix (So.o.ext (Ea (Er _) _)) (af.new wr _ 78).c0;have xC:=HO.o.obx.lt;have hzB:=HO.o.below.size;go_wp2_with (first|(go_at_call 107;refine hcon.mono ?_;rintro e w5 ⟨b,rfl,dD,hb5⟩;have fw:=ad dD;have cr:Hid (Below wr.heap.size wr w5):=ad ((Ea (Er wr) _).trans (hb5.mono ag));have o3:=(HO.o.obx.below cr.o).c0;have o4:=al.cell hb5 (af.new wr #[.slice ya yt.length yc] 78).c0;have nx:=cr.o.size;clear dD hb5;cases b)|(at_builtin;refine Hz az _ _ az w.heap.size (λk=>k=w.heap.size\/k=w.heap.size+1\/k=n) (.slice oa LO.length oc) LO (.slice ya yt.length yc,yt) az (HO.o.orow.below (Ea cr.o _)) ((So.o.ext (Ea cr.o _)).mono λb hb=>⟨hb.1,λh=>by rcases h with h|h|h;exact hb.2.1 (.inl h);exact hb.2.1 (.inr (.inl h));exact hb.2.1 (.inr (.inr aa)),λe=>hb.2.1 (.inr (.inr (HO.o.own b e)))⟩) _ _ az ag aO (by have:=HO.o.len;omega) aO ?_;intro ga gc w6 F7 lu bD Fl;have jy:=((HO.o.obx.below cr.o).alloc (.cells #[.slice ya yt.length yc] 78)).grown lu (by rintro e;exact HO.o.orow.ne _ e.symm (.inr (.inr rfl)));have p1:=(jy.cells 0).1;have p2:=(jy.cells 0).2;have La:=ad jy;have Lq:=ad F7;have Kv:=ad lu;have bO:=ad bD;have Kg:=ad Fl;clear jy F7 lu bD Fl))
    .have nW:=Ea cr.o (.cells #[.slice ya yt.length yc] 78);go_roundw
     .refine ⟨k+1,.slice ga (LO.length+1) gc,LO ++ [(.slice ya yt.length yc,yt)],aa,by go_num,ad ⟨?_,?_,?_,?_,?_,?_,?_,?_,?_⟩⟩
      .exact ((HO.o.below.trans (nW.mono hzB)).trans bO.o).setCell (p:=⟨n,0,none⟩) (show w.heap.size<=n by omega) _
      .exact ((HO.o.lrow.below nW).boxO Kv.o λg hg=>.inr (.inr (HO.o.own g hg))).box (World.grownBy.set' ⟨rfl,rfl,rfl,Nat.le_refl _,λ_ _ _=>rfl⟩ _) (.inr (.inr (Nat.le_refl n)))
      .exact Lq.o.box (World.grownBy.set' ⟨rfl,rfl,rfl,Nat.le_refl _,λ_ _ _=>rfl⟩ _) (.inr (.inr rfl))
      .intro g hg;rcases Kg.o with e|e
       .exact HO.o.own g (e ▸ hg)
       rw [e] at hg;cases hg;simp;omega
      .exact br 0 _ La.o
      .exact af.setNe ((HO.o.rbx.below nW).grown Kv.o (λe=>by have:=HO.o.own _ e.symm;omega)) _ aa
      .exact ((KeepsOthers.grown_cells (KeepsOthers.of_below nW) Kv.o (HO.o.orow.below nW).row_cells).trans (KeepsOthers.setCell w6 _ _)).same D _ HO.o.dfr rfl
      .rw [List.map_append,HO.o.eq,RK.o];exact (QE (by rw [<- HO.o.eq];have:=fw.o;simpa using this)).symm
      simp;exact HO.o.len
     simp [intOf];omega
    go_roundw
    .have h5:=HO.o.ext (Nat.le_refl _) cr.o;exact ⟨k+1,_,LO,aa,by go_num,ad { h5 with eq:=(by rw [RK.o,QT (by rw [<- HO.o.eq];have:=fw.o;simpa using this)];exact HO.o.eq),len:=Nat.le_succ_of_le HO.o.len }⟩
    simp [intOf];omega
   obtain rfl:k=M.length:=aa;have Ai:=sI (λb=>w.heap.size<=b) (.slice oa LO.length oc) (LO.map Prod.snd) wr ⟨LO,rfl,HO.o.orow.mix⟩;have lD:pG T (LO.map Prod.snd):=⟨_,_,qq.o,YV.o,by rw [HO.o.eq,List.take_of_length_le ag]⟩;have eQ:∀ t∈LO.map Prod.snd,kJ s t:=λt ht=>by
    rw [HO.o.eq,List.take_of_length_le ag,QJ] at ht;rcases ht with ht|ht
    .simp at ht
    obtain ⟨x,hx,rfl⟩:=List.mem_map.1 ht;exact tV.o x hx
   have K8:=ad lD;have yL:=ad eQ;clear lD eQ;go_wp2_with (go_at_call 49;refine Ai.mono ?_;rintro e w7 ⟨rfl,dW⟩;have gF:=ad dW;have h7:=HO.o.ext (Nat.le_refl _) dW;have iq:=ad h7;have s1:=h7.obx.c0;have s2:=(h7.rbx.cells 0).1;have s3:=(h7.rbx.cells 0).2;clear h7 dW;cases hval:dU (LO.map Prod.snd));all_goals have lD:=K8.o
   all_goals have eQ:=yL.o
   .have dY:af (w7.setCell ⟨w.heap.size,0,none⟩ (.slice none 0 0)) w.heap.size #[.slice none 0 0] 57:=br 0 _ iq.o.rbx;have hM:cL w.heap.size [{ target:=.collected D,args:=#[] }] (w7.setCell ⟨w.heap.size,0,none⟩ (.slice none 0 0)):=sK aa ((KeepsOthers.setCell w7 _ _).same D _ iq.o.dfr rfl);have hrow:=iq.o.orow.box (World.grownBy.set' (i:=0) ⟨rfl,rfl,rfl,Nat.le_refl _,λ_ _ _=>rfl⟩ (.slice none 0 0)) (.inl rfl);refine jY (B:=w.heap.size) _ _ hM λw' hs=>?_;have hc:=af.c0 (hs.cells _ _ dY rfl);refine ⟨.tuple #[.agg #[.slice none 0 0],.int .i64 2],by simp [results,Tryz.results106,go_sem,hc],.slice oa LO.length oc,LO.map Prod.snd,lD,eQ,((iq.o.below).setCell (p:=⟨w.heap.size,0,none⟩) (Nat.le_refl _) _).trans hs.below,.inr ⟨hval,rfl⟩⟩
   have dY:af (w7.setCell ⟨w.heap.size,0,none⟩ (.slice oa LO.length oc)) w.heap.size #[.slice oa LO.length oc] 57:=br 0 _ iq.o.rbx;have hM:cL w.heap.size [{ target:=.collected D,args:=#[] }] (w7.setCell ⟨w.heap.size,0,none⟩ (.slice oa LO.length oc)):=sK aa ((KeepsOthers.setCell w7 _ _).same D _ iq.o.dfr rfl);have hrow:=iq.o.orow.box (World.grownBy.set' (i:=0) ⟨rfl,rfl,rfl,Nat.le_refl _,λ_ _ _=>rfl⟩ (.slice oa LO.length oc)) (.inl rfl);refine jY (B:=w.heap.size) _ _ hM λw' hs=>?_;have hc:=af.c0 (hs.cells _ _ dY rfl);refine ⟨.tuple #[.agg #[.slice oa LO.length oc],.int .i64 0],by simp [results,Tryz.results106,go_sem,hc],.slice oa LO.length oc,LO.map Prod.snd,lD,eQ,((iq.o.below).setCell (p:=⟨w.heap.size,0,none⟩) (Nat.le_refl _) _).trans hs.below,.inl ⟨hval,rfl,LO,rfl,(hrow.shut hs).mix⟩⟩
end
section
open Go.RowKit Go.Maps Kal
theorem ts_ (c:Array Value) (n:Nat):(Builtin.zeroCells c n).size=n*c.size:=by simp [Builtin.zeroCells]
theorem up_ (n:Nat) (w:World) (hn:n<=1000000) :
  Calls Tryz.prog 187 #[.slice none 0 0,.int .i64 (n:Int)] w λe w'=>∃ v,e=.returned v/\w'.ownsRow w.heap.size 80 4 v 0 []/\Below w.heap.size w w':=by
 obtain ⟨i0,hi0,hz0,hs0,hb0⟩:=zg;by_cases dX:0<n
 .have F9:∀ ty,(Builtin.append_ #[78,3] ty #[.slice none 0 0,.int .i64 (n:Int)]).run Tryz.prog w =
    .ok (.slice (some ⟨w.heap.size,0,none⟩) n (grownCap w n 0 80)) (w.drew.alloc (.cells (#[] ++ Builtin.zeroCells (Value.agg #[.slice none 0 0,.int .i64 0,.int .i64 0,.slice none 0 0]).cells n ++ Builtin.zeroCells (Value.agg #[.slice none 0 0,.int .i64 0,.int .i64 0,.slice none 0 0]).cells (grownCap w n 0 80-n)) 80)):=λty=>by
   have h:=Lib.run_append_grow_zeros w 78 3 ty 80 i0 (Value.agg #[.slice none 0 0,.int .i64 0,.int .i64 0,.slice none 0 0]) .i64 .i64 Tryz.underlying78 Tryz.underlying3 hi0 hz0 none 0 0 [] (run_firstCells_none w.drew i0.size 0 0 0) n dX aa aa aa (by rw [hb0];omega)
    (growslice_fits aa (by rw [hb0];omega))
   simpa using h
  have NP:n<=grownCap w n 0 80:=grownCap_ge w _ _ _;have uJ:=grownCap_le_maxLen w n 0 80 (by unfold maxLen;omega);obtain ⟨G,hG⟩:∃ G,G=grownCap w n 0 80:=⟨_,rfl⟩;rw [<- hG] at F9 NP uJ;have NN:G<=9223372036854775807:=by unfold maxLen at uJ;omega
  have ye:=ad uJ;clear hG uJ;have TJ:(0:Int)<(n:Int):=aa
  go_in
  go_wp2_with (at_builtin;refine Lib.wpList_append_run _ rfl _ _ _ _ rfl _ _ rfl rfl _ _ (F9 _) ?_)
  go_ret;refine ⟨_,rfl,⟨rfl,.inr ⟨w.heap.size,G,_,rfl,Nat.le_refl _,World.alloc_heap_new w.drew _,ag,ye.o,?_,ag⟩⟩,?_⟩
  .simp only [Array.size_append,ts_];simp [Value.cells];omega
  exact ((Below.refl _ _).drew).alloc (Nat.le_refl _) _
 obtain rfl:n=0:=aa
 go_in
 go_wp2
 go_ret;exact ⟨_,rfl,World.ownsRow_nil _ _ _ _,Below.refl _ _⟩
theorem UE {a:Act} {Q:Exit->Act->World->Prop} (hgd:o.guard=none) (s x:Operand)
  (ho:o.op=.call { callee:=.builtin .append,args:=#[s,x],argTypes:=#[78,78] }) (base:Nat) (v xv:Value) (n m:Nat) (xs ys:List Value) (F:Nat->Prop) (hs:a.eval s=v) (hown:w.ownsRow base 80 4 v n xs)
  (hx:a.eval x=xv) (mm:bS w F xv m ys) (xA:ys.length=m*4) (h1c:∀ u∈ys,u.oneCell'=true) (hlen:n+m<=1000000) (hbase:base<=w.heap.size)
  (h:∀ v' w',w'.ownsRow base 80 4 v' (n+m) (xs ++ ys)->w.grownBy w' v.ownBlock->wpList Tryz.prog ops Q rest (a.put o.dst v') w') :
  wpList Tryz.prog ops Q (o :: rest) a w:=by
 obtain ⟨i,hi,h1,h2,h3⟩:=zg;obtain ⟨xa,xc,rfl,g1,g2,g3⟩:=mm;refine wpList_plain hgd λK hK=>?_;rcases g3 with rfl|⟨b,off,rfl,_,_,hcell⟩
 .have xz:ys=[]:=List.eq_nil_of_length_eq_zero aa;subst xz;have hrun:(Builtin.append_ #[78,78] o.type #[v,.slice xa 0 xc]).run Tryz.prog w=.ok v w:=by
   obtain ⟨r1,r2⟩:=hown;rcases r2 with ⟨rfl,r0⟩|⟨g,cap,cur,rfl,r5,r6,r7,r8,r9,WZ⟩
   .cases xa <;> simp [Builtin.append_,run_underlying Tryz.underlying78,sizeOf,typeInfo,hi,Builtin.lenOf,Builtin.firstCells,loadCells,loadCellsFrom,storeCells]
   cases xa <;> simp [Builtin.append_,run_underlying Tryz.underlying78,sizeOf,typeInfo,hi,Builtin.lenOf,Builtin.firstCells,r7,loadCells,loadCellsFrom,storeCells]
  unfold Oper.wp execOp;simp only [ho,resolve,invoke,builtin,Sem.run_bind,Sem.run_pure,Result.andThen_ok,List.map_toArray,List.map_cons,List.map_nil,hs,hx,hrun];exact hK _ _ (h v w (by simpa using hown) (World.grownBy.refl w _))
 obtain ⟨v',w',hrun,k2,k3,_,k5⟩:=run_append_own_at (P:=Tryz.prog) w base 78 o.type 80 i (Value.agg #[.slice none 0 0,.int .i64 0,.int .i64 0,.slice none 0 0]) 4 64 Tryz.underlying78 hi h1 h2 h3 rfl aa v n xs hown ⟨b,off,none⟩ m xc ys xA
  (λj u hu=>by rw [show (⟨b,off,none⟩:Addr).add j=⟨b,off+j,none⟩ from by simp [Addr.add]];exact hcell j u hu) h1c (by unfold maxLen;omega) aa hbase
 unfold Oper.wp execOp;simp only [ho,resolve,invoke,builtin,Sem.run_bind,Sem.run_pure,Result.andThen_ok,List.map_toArray,List.map_cons,List.map_nil,hs,hx,hrun];exact hK _ _ (h v' w' k2 k3)
theorem Bz (h:w.ownsRow base 80 4 v n xs):∃ a c,v=.slice a n c:=by
 rcases h.2 with ⟨rfl,h0⟩|⟨g,cap,cur,rfl,_⟩
 .exact ⟨none,0,by rw [h0]⟩
 exact ⟨_,cap,rfl⟩
theorem pz_ (F1 F2:Nat->Prop) (b c:Nat) (v1 v2:Value) (n1 n2:Nat) (l1 l2:List Value) (w:World) (hb:tm w b #[v1,v2]) (h1:bS w F1 v1 n1 l1) (h2:bS w F2 v2 n2 l2) (g1:l1.length=n1*4) (g2:l2.length=n2*4)
  (o1:∀ u∈l1,u.oneCell'=true) (o2:∀ u∈l2,u.oneCell'=true) (hl:n1+n2<=1000000) (hc:2<=c) (hc1:c<=1000) :
  Calls Tryz.prog 138 #[.slice (some ⟨b,0,none⟩) 2 c] w λe w'=>∃ v,e=.returned v/\w'.ownsRow w.heap.size 80 4 v (n1+n2) (l1 ++ l2)/\Below w.heap.size w w':=by
 obtain ⟨a1,c1,rfl⟩:∃ a c,v1=.slice a n1 c:=by obtain ⟨a,c,e,_⟩:=h1;exact ⟨a,c,e⟩
 obtain ⟨a2,c2,rfl⟩:∃ a c,v2=.slice a n2 c:=by obtain ⟨a,c,e,_⟩:=h2;exact ⟨a,c,e⟩
 have q0:w.cell? ⟨b,0,none⟩=some (.slice a1 n1 c1):=(hb 0);have q1:w.cell? ⟨b,1,none⟩=some (.slice a2 n2 c2):=(hb 1);have H1:=λW (h:Below w.heap.size w W)=>h1.keep (aN.below h) h.size;have H2:=λW (h:Below w.heap.size w W)=>h2.keep (aN.below h) h.size;have YN:=ad H1;have YO:=ad H2;have Dp:=ad o1;have tM:=ad o2;clear h1 h2 hb H1 H2 o1 o2
 go_in
 go_wp2_with fail
 go_loop [11,3] (λi n=>(i=.int .i64 0/\n=.int .i64 0)\/(i=.int .i64 1/\n=.int .i64 n1)\/(i=.int .i64 2/\n=.int .i64 (n1+n2))) (λi _=>2-(intOf i).toNat)
 .exact .inl ⟨rfl,rfl⟩
 rcases hrel with ⟨rfl,rfl⟩|⟨rfl,rfl⟩|⟨rfl,rfl⟩
 .go_wp2_with fail
  go_round
  .exact .inr (.inl ⟨rfl,rfl⟩)
  simp [intOf]
 .go_wp2_with fail
  go_round
  .exact .inr (.inr ⟨rfl,rfl⟩)
  simp [intOf]
 go_wp2_with (go_at_call 187;rw [show ((n1:Int)+(n2:Int))=((n1+n2:Nat):Int) from by push_cast;rfl];refine (up_ (n1+n2) _ hl).mono ?_;rintro e w2 ⟨v2,rfl,hown2,hb2⟩;obtain ⟨va,vc,rfl⟩:=Bz hown2;obtain ⟨hc2,hf2⟩:=fJ hb2;(try simp only [World.size_alloc,World.size_drew,fE,World.size_setCell] at hc2 hf2))
 have cz:Below w.heap.size w w2:=hb2;have eU:=ad hown2;clear hown2 hb2 hc2 hf2;go_loopw [27,6] (λi ns wr=>((i=.int .i64 0/\wr.ownsRow w.heap.size 80 4 ns 0 [])\/(i=.int .i64 1/\wr.ownsRow w.heap.size 80 4 ns n1 l1)\/(i=.int .i64 2/\wr.ownsRow w.heap.size 80 4 ns (n1+n2) (l1 ++ l2)))/\Below w.heap.size w wr) (λi _ _=>2-(intOf i).toNat)
 .exact ⟨.inl ⟨rfl,eU.o⟩,cz⟩
 obtain ⟨hrel,dH⟩:=hrel;have q0:=al.cell dH q0;have q1:=al.cell dH q1;have lI:=dH.size;rcases hrel with ⟨rfl,hown⟩|⟨rfl,hown⟩|⟨rfl,hown⟩
 .obtain ⟨na,nc,rfl⟩:=Bz hown;have aM:=ad hown;clear hown;go_wp2_with (at_builtin;refine UE az _ _ az w.heap.size (.slice na 0 nc) (.slice a1 n1 c1) 0 n1 [] l1 F1 az aM.o az (YN.o _ dH) g1 Dp.o aa aa ?_;intro v5 w5 aw aH;rw [Nat.zero_add,List.nil_append] at aw;obtain ⟨xG,xH,rfl⟩:=Bz aw);go_roundw
  .exact ⟨.inr (.inl ⟨rfl,aw⟩),dH.grown aH dH.size (λk e=>(aM.o.lt k e).1)⟩
  simp [intOf]
 .obtain ⟨na,nc,rfl⟩:=Bz hown;have aM:=ad hown;clear hown;go_wp2_with (at_builtin;refine UE az _ _ az w.heap.size (.slice na n1 nc) (.slice a2 n2 c2) n1 n2 l1 l2 F2 az aM.o az (YO.o _ dH) g2 tM.o aa aa ?_;intro v5 w5 aw aH;obtain ⟨xG,xH,rfl⟩:=Bz aw);go_roundw
  .exact ⟨.inr (.inr ⟨rfl,aw⟩),dH.grown aH dH.size (λk e=>(aM.o.lt k e).1)⟩
  simp [intOf]
 obtain ⟨na,nc,rfl⟩:=Bz hown;have aM:=ad hown;clear hown;go_wp2;go_ret;exact ⟨_,rfl,aM.o,dH⟩
theorem aA.form {F:Nat->Prop} (h:aA W F v m):∃ a c,v=.slice a m.length c:=by
 obtain ⟨L,rfl,hL⟩:=h;obtain ⟨a,c,rfl,_⟩:=hL.row.is;exact ⟨a,c,by rw [List.length_map]⟩
theorem aA.set {u:Value} {b i:Nat} (h:aA W (λk=>n<=k) v m) (hb:b<n):aA (W.setCell ⟨b,i,none⟩ u) (λk=>n<=k) v m:=
 h.keep (λk hk _=>Below.heap_setCell W ⟨b,i,none⟩ u k (by show k≠b;omega)) (by rw [World.size_setCell];exact Nat.le_refl _)
structure MV (s:Int) (m:List (List Per)):Prop where
 val:dU m=true
 vt:∀ t∈m,kJ s t
theorem MV.len (h:MV s m):m.length<=64:=by
 have:=h.val;unfold dU at this;rw [Bool.and_eq_true,decide_eq_true_iff] at this;exact this.1
end
section
open Go.RowKit Go.Shelf Kal
attribute [local go_sem] Oper.semAt_some
theorem gy.cells_one {F:Nat->Prop} (h:gy W F v L):∀ u∈L.flatMap PV.enc,u.oneCell'=true:=λu hu=>by
 obtain ⟨x,hx,hu⟩:=List.mem_flatMap.1 hu;exact (h.all x hx).one u hu
theorem qo_ (h:W.ownsRow B 80 4 v L.length (L.flatMap PV.enc)) (hl:L.length<=1000000) (ha:∀ x∈L,∃ F,bp W F x):gy W (λ_=>True) v L:=by
 refine ⟨?_,aa,λx hx=>(ha x hx).choose_spec.mono λ_ _=>trivial⟩;obtain ⟨hl,⟨rfl,h2⟩|⟨g,cap,cur,rfl,hb,hg,h3,h4,h5,h6⟩⟩:=h
 .rw [h2];exact ⟨none,0,rfl,aa,aa,.inl rfl⟩
 refine ⟨_,cap,rfl,h3,h4,.inr ⟨g,0,rfl,trivial,(Array.getElem?_eq_some_iff.1 hg).1,λi u hi=>?_⟩⟩;rw [Nat.zero_add];have h7:W.ownsRow B 80 4 (.slice (some ⟨g,0,none⟩) L.length cap) L.length (L.flatMap PV.enc):=⟨hl,.inr ⟨g,cap,cur,rfl,hb,hg,h3,h4,h5,h6⟩⟩;have:=(List.getElem?_eq_some_iff.1 hi).1;rw [BA] at this;exact (h7.cellAt i aa).trans hi
theorem q0_ (F1 F2:Nat->Prop) (b c:Nat) (v1 v2:Value) (t1 t2:List Per) (w:World) (hb:tm w b #[v1,v2]) (h1:bG w F1 v1 t1) (h2:bG w F2 v2 t2) (hl:t1.length+t2.length<=1000000) (hc:2<=c) (hc1:c<=1000) :
  Calls Tryz.prog 138 #[.slice (some ⟨b,0,none⟩) 2 c] w λe w'=>∃ v,e=.returned v/\bG w' (λ_=>True) v (t1 ++ t2)/\Below w.heap.size w w':=by
 obtain ⟨L1,rfl,fO⟩:=h1;obtain ⟨L2,rfl,hL2⟩:=h2;rw [List.length_map,List.length_map] at hl;refine (pz_ F1 F2 b c v1 v2 _ _ _ _ w hb fO.row hL2.row BA BA fO.cells_one hL2.cells_one hl hc hc1).mono ?_;rintro e w' ⟨v,rfl,hr,hbl⟩;refine ⟨v,rfl,⟨L1 ++ L2,by rw [List.map_append],qo_ (by rw [List.length_append,List.flatMap_append];exact hr) (by rw [List.length_append];exact hl) λx hx=>?_⟩,hbl⟩;rcases List.mem_append.1 hx with hx|hx
 .exact ⟨_,(fO.all x hx).keep (aN.below hbl)⟩
 exact ⟨_,(hL2.all x hx).keep (aN.below hbl)⟩
theorem VR (v1 v2:Value) (w:World) (h1:∃ a n c,v1=.slice a n c) (h2:∃ a n c,v2=.slice a n c) :
  Calls Tryz.prog 105 #[.agg #[v1],.agg #[v2]] w λe w'=>e=.returned (.func (.func 137) #[] #[.pointer (some ⟨w.heap.size,0,none⟩),.pointer (some ⟨w.heap.size+1,0,none⟩)])/\w'=(w.alloc (.cells #[v1] 57)).alloc (.cells #[v2] 57):=by
 obtain ⟨a,n,c,rfl⟩:=h1;obtain ⟨a',n',c',rfl⟩:=h2
 go_in
 go_wp2;go_ret;exact ⟨rfl,rfl⟩
theorem vf_ {m1 m2:List (List Per)} {x:List Per} (hk:m1[k]? = some x):dO (m1.take (k+1)) m2=dO (m1.take k) m2 ++ m2.map (x ++ ·):=by
 obtain ⟨h1,rfl⟩:=List.getElem?_eq_some_iff.1 hk;unfold dO;rw [List.take_succ_eq_append_getElem h1,List.flatMap_append];simp
theorem qg_ {m1 m2:List (List Per)} {x y:List Per} (hk:m1[k]? = some x) (hj:m2[j]? = some y):∃ r,dO m1 m2=(dO (m1.take k) m2 ++ (m2.take j).map (x ++ ·)) ++ (x ++ y) :: r:=by
 obtain ⟨h1,rfl⟩:=List.getElem?_eq_some_iff.1 hk;obtain ⟨h2,rfl⟩:=List.getElem?_eq_some_iff.1 hj;refine ⟨(m2.drop (j+1)).map (m1[k] ++ ·) ++ dO (m1.drop (k+1)) m2,?_⟩;have e1:m1=m1.take k ++ m1[k] :: m1.drop (k+1):=by rw [<- List.drop_eq_getElem_cons h1,List.take_append_drop]
 have e2:m2=m2.take j ++ m2[j] :: m2.drop (j+1):=by rw [<- List.drop_eq_getElem_cons h2,List.take_append_drop]
 have e3:m2.map (m1[k] ++ ·)=(m2.take j).map (m1[k] ++ ·) ++ (m1[k] ++ m2[j]) :: (m2.drop (j+1)).map (m1[k] ++ ·):=by
  conv=>lhs;rw [e2]
  simp only [List.map_append,List.map_cons]
 have e4:dO m1 m2=dO (m1.take k) m2 ++ (m2.map (m1[k] ++ ·) ++ dO (m1.drop (k+1)) m2):=by
  conv=>lhs;rw [e1]
  unfold dO;rw [List.flatMap_append,List.flatMap_cons]
 rw [e4,e3];simp
theorem cE.at {F:Nat->Prop} {L:List (Value × List Per)} (h:cE W F v L) (hk:k<L.length):∃ b o c a n c' x,v=.slice (some ⟨b,o,none⟩) L.length c/\W.cell? ⟨b,o+k,none⟩=some (.slice a n c')/\bG W F (.slice a n c') x/\(L.map Prod.snd)[k]? = some x:=by
 obtain ⟨a',c,rfl,_,_,h3⟩:=h.row.is;rcases h3 with h0|⟨b,o,rfl,hF,hb,hcell⟩
 .omega
 have ko:=h.all _ (dz (d:=default) hk);obtain ⟨a,c',e,_⟩:=ko.form;refine ⟨b,o,c,a,_,c',(L.getD k default).2,rfl,?_,by rw [<- e];exact ko,by rw [List.getElem?_map,List.getD_eq_getElem?_getD,List.getElem?_eq_getElem hk];rfl⟩;rw [<- e];exact hcell k _ (by rw [List.getElem?_map,List.getD_eq_getElem?_getD,List.getElem?_eq_getElem hk];rfl)
theorem cX.lt {wr:World} (h:cX (λk=>k<n) W wr) (hn:n<=W.heap.size) (hk:k<n):k<wr.heap.size:=by
 have h1:=h k hk;rw [Array.getElem?_eq_getElem (show k<W.heap.size by omega)] at h1;exact (Array.getElem?_eq_some_iff.1 h1).1
theorem VS (F1 F2:Nat->Prop) (v1 v2:Value) (m1 m2:List (List Per)) (b1 b2:Nat) (w:World) (h1:aA w F1 v1 m1) (h2:aA w F2 v2 m2) (hb1:w.cell? ⟨b1,0,none⟩=some v1) (hb2:w.cell? ⟨b2,0,none⟩=some v2) (fA:∀ t∈m1,t.length<=500000) (hl2:∀ t∈m2,t.length<=500000) :
  JY 137 #[.pointer (some ⟨b1,0,none⟩),.pointer (some ⟨b2,0,none⟩)] (dO m1 m2) w:=by
 refine ⟨enters_of Tryz.func137 (by kernel_rfl) rfl,λW0 hW0=>?_⟩;obtain ⟨L1,N8,fO⟩:=h1;obtain ⟨L2,Td,hL2⟩:=h2;intro l' J W hW hJ hY qY;have hlt1:=World.block_lt_of_cell? w _ hb1;have hlt2:=World.block_lt_of_cell? w _ hb2;have wN:Below w.heap.size w W:=hW0.trans (hW.mono hW0.size);have xx:=wN.size;have c1:=al.cell wN hb1;have c2:=al.cell wN hb2;obtain ⟨a1,k1,rfl,_,_,_⟩:=fO.row.is;obtain ⟨a2,k2,rfl,_,_,_⟩:=hL2.row.is;have mf:=fO.len;have B7:=hL2.len;have H1:Hid (∀ wr,cX (λk=>k<w.heap.size) W wr->cE wr (λb=>F1 b/\b<w.heap.size) (.slice a1 L1.length k1) L1):=ad λwr h=>fO.lt.keep2 λb hb _=>(h b hb.2).trans (wN.block b hb.2);have H2:Hid (∀ wr,cX (λk=>k<w.heap.size) W wr->cE wr (λb=>F2 b/\b<w.heap.size) (.slice a2 L2.length k2) L2):=ad λwr h=>hL2.lt.keep2 λb hb _=>(h b hb.2).trans (wN.block b hb.2);have Sl:=ad N8;have Sm:=ad Td;have HJ:=ad hJ;have HY:=ad hY;have YY:=ad fA;have fT:=ad hl2;clear fO hL2 N8 Td hJ hY hb1 hb2 fA hl2;refine callsIn_of_wp Tryz.func137 rfl trivial ?_ rfl;simp only [Tryz.ntmps137,List.size_toArray,List.length_cons,List.length_nil,Nat.reduceAdd,Nat.reduceSub,Array.replicate_succ,Array.replicate_zero,List.push_toArray,List.append_toArray,List.nil_append,List.cons_append];gi_wp2_with fail;gi_loopw [5,7,11] (λ_ _ i wr=>∃ (k:Nat) (pre:List (Value × List Per)),k<=L1.length/\i=.int .i64 k/\Hid (pre.map Prod.snd=dO (m1.take k) m2)/\J pre wr/\cX (λk=>k<w.heap.size) W wr) (λ_ _ i _=>L1.length-(intOf i).toNat)
 .exact ⟨0,[],aa,rfl,ad rfl,qY,λ_ _=>rfl⟩
 obtain ⟨k,pre,hk,rfl,HP,dC,hK⟩:=hrel;have HK:=ad hK;have jd:=ad dC;by_cases hlt:k<L1.length
 .have dh:(k:Int)<L1.length:=aa;obtain ⟨b8,f8,c8,xa,xn,xc,x,he,e0,nu,hmx⟩:=(H1.o wr hK).at hlt;cases he;rw [Sl.o] at hmx;have tK:=ad hmx;have c2r:=(World.cell?_of_block (w:=W) (w':=wr) (a:=⟨b2,0,none⟩) (hK b2 hlt2)).trans c2;have Hm:=ad (YY.o x (List.mem_of_getElem? hmx));have Zm:=ad nu;clear nu hmx hK dC;gi_wp2_with fail;gi_loopw [7,18] (λ_ i wr=>∃ (j:Nat) (pre:List (Value × List Per)),j<=L2.length/\i=.int .i64 j/\Hid (pre.map Prod.snd=dO (m1.take k) m2 ++ (m2.take j).map (x ++ ·))/\J pre wr/\cX (λk=>k<w.heap.size) W wr) (λ_ i _=>L2.length-(intOf i).toNat)
  .exact ⟨0,pre,aa,rfl,ad (by rw [HP.o];simp),jd.o,HK.o⟩
  obtain ⟨j,pre,hj,rfl,kA,dC,hK⟩:=hrel;have ss:=ad hK;have mC:=ad dC;by_cases dr:j<L2.length
  .have rD:(j:Int)<L2.length:=aa;obtain ⟨b9,f9,c9,ya,yn,yc,y,he,e1,o_,ve⟩:=(H2.o wr hK).at dr;cases he;rw [Sm.o] at ve;have nu:=Zm.o.keep2 (W':=wr) (λb hb _=>(hK b hb.2).trans (HK.o b hb.2).symm);have xA:=fT.o y (List.mem_of_getElem? ve);have nw:=Hm.o;have HC:=q0_ _ _ wr.heap.size 2 (.slice xa xn xc) (.slice ya yn yc) x y (wr.alloc (.cells #[.slice xa xn xc,.slice ya yn yc] 78)) (λi=>((af.new wr _ 78).cells i).1) (nu.ext (Ea (Er wr) _)) (o_.ext (Ea (Er wr) _)) aa aa aa;obtain ⟨r0,iY⟩:=qg_ tK.o ve;have sC:=ad iY;have qt:=ad ve;clear nu o_ ve iY xA nw;gi_wp2_with (refine ⟨trivial,rfl,?_⟩;gi_at_call 138;refine (callsIn_wide.2 HC).mono ?_;rintro e w3 ⟨v3,rfl,rW,hb3⟩;obtain ⟨za,zc,rfl,_⟩:=rW.form;rw [List.length_append] at rW;have hb4:=(Ea (Er wr) (.cells #[.slice xa xn xc,.slice ya yn yc] 78)).trans (hb3.mono ag);have hJ3:=HJ.o pre wr w3 none dC (World.grownBy.of_below hb4 none) (λr e=>by cases e);have uI:vP (dO m1 m2) pre (.slice za (x.length+y.length) zc,x ++ y) w3:=⟨⟨r0,by rw [kA.o];exact sC.o⟩,_,rW⟩;obtain ⟨fn,tmps,assign,body,iF,hR⟩:=HY.o pre _ w3 hJ3 uI;unfold sk at iF;have HR:=ad hR;have cD:=ad hb4;clear uI hJ3 hR hb3 hb4 rW);refine ⟨rfl,HR.o.mono ?_⟩;rintro e W' ⟨rfl,gz,eC⟩
   gi_wp2
   go_roundw
   .exact ⟨j+1,pre ++ [(.slice za (x.length+y.length) zc,x ++ y)],aa,by go_num,ad (by rw [List.map_append,kA.o,List.append_assoc];congr 1;obtain ⟨h1,rfl⟩:=List.getElem?_eq_some_iff.1 qt.o;rw [List.take_succ_eq_append_getElem h1,List.map_append];rfl),gz,(ss.o.trans (λb hb=>cD.o.block b (ss.o.lt xx hb))).trans eC⟩
   simp [intOf];omega
  obtain rfl:j=L2.length:=aa;clear hK dC
  gi_wp2
  go_roundw
  .exact ⟨k+1,pre,aa,by go_num,ad (by rw [kA.o,vf_ tK.o,List.take_of_length_le (l:=m2) (by rw [<- Sm.o];simp)]),mC.o,ss.o⟩
  simp [intOf];omega
 obtain rfl:k=L1.length:=aa;clear hK dC
 gi_wp2
 refine bodyPost_end (results_none rfl _ _ _) rfl ?_;refine ⟨⟨_,rfl⟩,pre,?_,jd.o⟩;show _=_;rw [HP.o,List.take_of_length_le (l:=m1) (by rw [<- Sl.o];simp)]
end
section
open Go.RowKit Go.Maps Kal
theorem MV.tlen (h:MV s m):∀ t∈m,t.length<=4:=λt ht=>by
 have h1:=h.val;unfold dU at h1;rw [Bool.and_eq_true] at h1;have h2:=List.all_eq_true.1 h1.2 t ht;unfold gM at h2;rw [Bool.and_eq_true,Bool.and_eq_true,decide_eq_true_iff,decide_eq_true_iff] at h2;exact h2.1.2
theorem UA:∀ {a b:List (List Per)},(dO a b).length=a.length*b.length
 | [],b=>by simp [dO]
 | x :: a,b=>by
  have h:=UA (a:=a) (b:=b);have e:dO (x :: a) b=b.map (x ++ ·) ++ dO a b:=rfl;rw [e,List.length_append,List.length_map,h,List.length_cons,Nat.succ_mul,Nat.add_comm]
theorem xm_ (s:Int) (F1 F2:Nat->Prop) (v1 v2:Value) (m1 m2:List (List Per)) (w:World) (h1:aA w F1 v1 m1) (h2:aA w F2 v2 m2) (k1:MV s m1) (k2:MV s m2) :
  Calls Tryz.prog 58 #[.agg #[v1],.agg #[v2]] w (EB s (dO m1 m2) w):=by
 have nI:=λW (h:Below w.heap.size w W)=>sI F1 v1 m1 W (h1.ext h);have mH:=λW (h:Below w.heap.size w W)=>sI F2 v2 m2 W (h2.ext h);rw [k1.val] at nI;rw [k2.val] at mH;have l1:=k1.len;have l2:=k2.len;have tV:Hid (∀ t∈dO m1 m2,kJ s t):=ad λt ht=>by
  obtain ⟨x,hx,y,hy,rfl⟩:=Ii.1 ht;refine ⟨λe=>(k1.vt x hx).ne (List.append_eq_nil_iff.1 e).1,λp hp=>(List.mem_append.1 hp).elim ((k1.vt x hx).fv p) ((k2.vt y hy).fv p),?_⟩;rw [List.length_append];have:=k1.tlen x hx;have:=k2.tlen y hy;omega
 have hpl:(dO m1 m2).length<=4096:=by rw [UA];exact Nat.mul_le_mul l1 l2
 have ku:=λW (h:Below w.heap.size w W) b1 b2 hb1 hb2=>VS F1 F2 v1 v2 m1 m2 b1 b2 W (h1.ext h) (h2.ext h) hb1 hb2 (λt ht=>by have:=k1.tlen t ht;omega) (λt ht=>by have:=k2.tlen t ht;omega);obtain ⟨a1,c1,rfl⟩:=h1.form;obtain ⟨a2,c2,rfl⟩:=h2.form;have hit:=ad ku;clear h1 h2 k1 k2 ku
 go_in
 go_wp2_with (first|(go_at_call 49;first
   | ((with_reducible refine (nI _ xE).mono ?_);rintro e w1 ⟨rfl,hb1⟩;have b0:af w1 w.heap.size #[.slice a1 m1.length c1] 57:=af.below xB hb1;have b1:af w1 (w.heap.size+1) #[.slice a2 m2.length c2] 57:=af.below xB hb1;have b2:af w1 (w.heap.size+1+1) #[.slice none 0 0] 57:=af.below xB hb1;have x0:=b0.c0;have x1:=b1.c0;have hW1:Below w.heap.size w w1:=by exact xE)
   | ((with_reducible refine (mH _ xE).mono ?_);rintro e w2 ⟨rfl,hb2⟩;have d0:=b0.below hb2;have d1:=b1.below hb2;have d2:=b2.below hb2;have y0:=d0.c0;have y1:=d1.c0;have hW2:Below w.heap.size w w2:=by exact xE))|(go_at_call 105;refine (VR _ _ _ ⟨_,_,_,rfl⟩ ⟨_,_,_,rfl⟩).mono ?_;rintro e w4 ⟨rfl,rfl⟩;have hz2:=d2.lt)|(go_at_call 106;refine (Vd s _ _ (dO m1 m2) _ (hit.o _ (Ea (Ea hW2 _) _) w2.heap.size (w2.heap.size+1) ((af.new w2 #[.slice a1 m1.length c1] 57).alloc (.cells #[.slice a2 m2.length c2] 57)).c0 (af.at (w:=w2.alloc (.cells #[.slice a1 m1.length c1] 57)) (c:=#[.slice a2 m2.length c2]) (t:=57) ag).c0) tV.o aa).mono ?_;rintro e w5 ⟨v,m,hN,eQ,hb5,hres⟩;have g2:=((d2.alloc (.cells #[.slice a1 m1.length c1] 57)).alloc (.cells #[.slice a2 m2.length c2] 57)).below hb5;have s1:=(g2.cells 0).1;have s2:=(g2.cells 0).2;have BP:Below w.heap.size w w5:=Et (Ea (Ea hW2 _) _) hb5;have HN:=ad hN;have yL:=ad eQ;have G2:=ad g2;clear hN eQ g2;rcases hres with ⟨hval,rfl,kN⟩|⟨hval,rfl⟩;(obtain ⟨xa,xc,rfl⟩:=kN.form)))
 .have hcc:=af.c0 (w:=w5.setCell ⟨w.heap.size+1+1,0,none⟩ (.slice xa m.length xc)) (br 0 (.slice xa m.length xc) G2.o);refine bodyPost_ret (v:=.tuple #[.agg #[.slice xa m.length xc],.int .i64 0]) (by simp [results,Tryz.results58,go_sem,hcc]) rfl ⟨_,m,HN.o,yL.o,BP.setCell (p:=⟨w.heap.size+1+1,0,none⟩) (by show w.heap.size<=w.heap.size+1+1;omega) _,.inl ⟨hval,rfl,?_⟩⟩;exact (kN.set (b:=w.heap.size+1+1) aO).mono λb (hb:_<=b)=>by simp at hb;omega
 have hcc:=af.c0 (w:=w5.setCell ⟨w.heap.size+1+1,0,none⟩ (.slice none 0 0)) (br 0 (.slice none 0 0) G2.o);exact bodyPost_ret (v:=.tuple #[.agg #[.slice none 0 0],.int .i64 2]) (by simp [results,Tryz.results58,go_sem,hcc]) rfl ⟨.slice none 0 0,m,HN.o,yL.o,BP.setCell (p:=⟨w.heap.size+1+1,0,none⟩) (by show w.heap.size<=w.heap.size+1+1;omega) _,.inr ⟨hval,rfl⟩⟩
theorem vz_ (h:dU m=true):∀ t∈m,TV t/\t≠[]:=λt ht=>by
 unfold dU at h;rw [Bool.and_eq_true] at h;have h2:=List.all_eq_true.1 h.2 t ht;unfold gM at h2;rw [Bool.and_eq_true,Bool.and_eq_true,decide_eq_true_iff,decide_eq_true_iff] at h2;exact ⟨λp hp=>List.all_eq_true.1 h2.2 p hp,λe=>by have:=h2.1.1;rw [e] at this;simp at this⟩
open Classical in
noncomputable def jm (t:List Per):Bool:=decide (jk t)
theorem V8:jm t=true↔jk t:=by simp [jm]
theorem px_ {c:Bool} (h:b=true↔c=true):b=c:=by cases b <;> cases c <;> simp_all
theorem z4_ (h:b=true↔jk t):b=jm t:=px_ (h.trans V8.symm)
theorem zr_:(¬ (!jm t)=true)↔jk t:=by rw [<- V8];cases jm t <;> simp
theorem sb_ (F:Nat->Prop) (v:Value) (t:List Per) (w:World) (ht:bG w F v t) (hv:TV t) :
  Calls Tryz.prog 108 #[v] w λe w'=>e=.returned (.bool (!jm t))/\Below w.heap.size w w':=by
 have H:=UX F v t w ht hv;obtain ⟨a,c,rfl,_⟩:=ht.form;clear ht hv
 go_in
 go_wp2_with (go_at_call 109;refine H.mono ?_;rintro e w1 ⟨b,rfl,hb,hb1⟩;have HB:=ad hb;clear hb)
 go_ret;exact ⟨by rw [z4_ HB.o];rfl,hb1⟩
theorem ru_ (F:Nat->Prop) (v:Value) (m:List (List Per)) (w:World) (hm:aA w F v m) (hv:∀ t∈m,TV t) :
  Calls Tryz.prog 107 #[v,.func (.func 108) #[] #[]] w λe w'=>e=.returned (.bool (m.any λt=>!jm t))/\Below w.heap.size w w':=by
 obtain ⟨L,rfl,hL⟩:=hm;have h:=Nc F v L (λx=>!jm x.2) 108 #[] (enters_of Tryz.func108 (by kernel_rfl) rfl) w hL.row hL.len (λW x hW hx=>by
  have h:=sb_ F x.1 x.2 W ((hL.all x hx).ext hW) (hv _ (List.mem_map.2 ⟨x,hx,rfl⟩));have e:(#[x.1] ++ (#[]:Array Value))=#[x.1]:=by simp
  rw [e];exact h.mono λe w' ⟨h1,h2⟩=>⟨h1,hW.trans (h2.mono hW.size)⟩)
 rw [List.any_map];exact h
theorem t2_ (F:Nat->Prop) (v:Value) (m:List (List Per)) (w:World) (hm:aA w F v m) :
  Calls Tryz.prog 59 #[.agg #[v]] w λe w'=>∃ b,e=.returned (.bool b)/\(b=true↔dU m=true/\∀ t∈m,jk t)/\Below w.heap.size w w':=by
 have HV:=λW h=>sI F v m W (hm.ext h);obtain ⟨a,c,rfl⟩:=hm.form;cases hq:dU m with
 | false=>
  rw [hq] at HV;clear hm hq
  go_in
  go_wp2_with (go_at_call 49;refine (HV _ xE).mono ?_;rintro e w1 ⟨rfl,hb1⟩)
  go_ret;exact ⟨false,rfl,⟨λh=>absurd h aF,λh=>absurd h.1 aF⟩,xE⟩
 | true=>
  rw [hq] at HV;have HA:=λW (h:Below w.heap.size w W)=>ru_ F (.slice a m.length c) m W (hm.ext h) (λt ht=>(vz_ hq t ht).1);have HI:Hid ((m.any (λt=>!jm t)=false)↔∀ t∈m,jk t):=ad (by rw [List.any_eq_false];exact forall_congr' λt=>forall_congr' λ_=>by exact zr_);clear hm hq;generalize m.any (λt=>!jm t)=b at *
  go_in
  go_wp2_with (first|(go_at_call 49;refine (HV _ xE).mono ?_;rintro e w1 ⟨rfl,hb1⟩;have hbx:af w1 w.heap.size #[.slice a m.length c] 57:=af.below xB hb1;have x0:=hbx.c0;have hW1:Below w.heap.size w w1:=by exact xE)|(go_at_call 107;refine (HA _ hW1).mono ?_;rintro e w2 ⟨rfl,hb2⟩;have hW2:Below w.heap.size w w2:=Et hW1 hb2))
  go_ret;exact ⟨!b,by first|rfl|simp,⟨λh=>⟨by first|rfl|trivial,HI.o.1 (by simpa using h)⟩,λh=>by simpa using HI.o.2 h.2⟩,hW2⟩
theorem w0_ (h:kJ s t):gM t=true↔t.length<=4:=by
 unfold gM;rw [Bool.and_eq_true,Bool.and_eq_true,decide_eq_true_iff,decide_eq_true_iff,List.all_eq_true];exact ⟨λg=>g.1.2,λg=>⟨⟨List.length_pos_iff.2 h.ne,g⟩,λp hp=>(h.fv p hp).validB⟩⟩
theorem yW (h:∀ t∈m,kJ s t):dU m=true↔zk m:=by
 unfold dU zk;rw [Bool.and_eq_true,decide_eq_true_iff,List.all_eq_true];exact and_congr Iff.rfl (forall_congr' λt=>forall_congr' λht=>w0_ (h t ht))
theorem EB.num {T:List (List Per)} {e:Ending} (h:EB s T w e w'):∃ (a:Option Addr) (c:Nat) (k:Int) (mk:List (List Per)),e=.returned (.tuple #[.agg #[.slice a mk.length c],.int .i64 k])/\aA w' (λb=>w.heap.size<=b) (.slice a mk.length c) mk/\Below w.heap.size w w'/\
  ((k=0/\pG T mk/\MV s mk)\/(k=2/\a=none/\c=0/\mk=[]/\∃ m,pG T m/\¬ zk m)):=by
 obtain ⟨v,m,hN,eQ,hb,⟨hval,rfl,hm⟩|⟨hval,rfl⟩⟩:=h
 .obtain ⟨a,c,rfl⟩:=hm.form;exact ⟨a,c,0,m,rfl,hm,hb,.inl ⟨rfl,hN,hval,eQ⟩⟩
 exact ⟨none,0,2,[],rfl,⟨[],rfl,⟨none,0,rfl,ag,aa,.inl rfl⟩,ag,ag⟩,hb,.inr ⟨rfl,rfl,rfl,rfl,m,hN,λg=>by rw [(yW eQ).2 g] at hval;cases hval⟩⟩
theorem zn_ (h:bG W (λb=>n<=b) v t) (hn:n<=W.heap.size) :
  aA (W.alloc (.cells #[v] 78)) (λb=>n<=b) (.slice (some ⟨W.heap.size,0,none⟩) 1 1) [t]:=by
 have hb:=af.new W #[v] 78;refine ⟨[(v,t)],rfl,⟨_,1,rfl,ag,aa,.inr ⟨W.heap.size,0,rfl,hn,hb.lt,λi u hi=>?_⟩⟩,ag,λx hx=>?_⟩
 .cases i with
  | zero=>rw [show u=v by simpa using hi.symm];exact hb.c0
  | succ i=>simp at hi
 rw [List.mem_singleton] at hx;subst hx;exact h.ext (Ea (Er W) _)
noncomputable def ofM (p:Per):List (List Per):=if zl (canonC p.mem) then [] else [[canonC p.mem]]
def Mu (m:List (List Per)) (w:World) (e:Ending) (w':World):Prop:=∃ (a:Option Addr) (c:Nat),e=.returned (.agg #[.slice a m.length c])/\aA w' (λb=>w.heap.size<=b) (.slice a m.length c) m/\Below w.heap.size w w'
theorem zq_ (s:Int) (h c:Value) (p:Per) (w:World) (hp:bX w h c p) (hv:FV s p) :
  Calls Tryz.prog 53 #[an h c p.frm p.period] w (Mu (ofM p) w):=by
 have HC:=λW (hb:Below w.heap.size w W)=>V2 s h c p W (hp.ext hb) hv;simp only [an] at HC
 go_in
 go_wp2_with (first|(go_at_call 98;((with_reducible refine (HC _ (Ea (Ea (Er w) _) _)).mono ?_);rintro e w1 ⟨h',c',rfl,ho,hb1⟩;obtain ⟨xa,xn,xc,ya,yn,yc,rfl,rfl⟩:=(ho.pv (hv.canon).2).form;have ho2:=ad (ho.pv (hv.canon).2);have hW1:Below w.heap.size w w1:=Et (Ea (Ea (Er w) _) _) hb1;have HO:=ad ho;have B2:=ad (show af w1 (w.heap.size+1) #[.slice none 0 0] 57 from af.below xB hb1);clear ho hb1))|(go_at_call 99;(with_reducible refine (uh_ (.slice xa xn xc) (.slice ya yn yc) (canonC p.mem) _ (HO.o.is.ext (Ea (Er w1) _))).mono ?_);rintro e w2 ⟨rfl,hb2⟩;have bj:=ad hb2;have X3:=((af.new w1 #[.slice xa xn xc,.int .i64 (canonC p.mem).frm,.int .i64 (canonC p.mem).period,.slice ya yn yc] 80).below hb2);have X2:=((B2.o.alloc (.cells #[.slice xa xn xc,.int .i64 (canonC p.mem).frm,.int .i64 (canonC p.mem).period,.slice ya yn yc] 80)).below hb2);have e2:=X2.c0;have f2:=(X2.cells 0).2;have e3:=(X3.cells 0).1;have e4:=(X3.cells 1).1;have e5:=(X3.cells 2).1;have e6:=(X3.cells 3).1;have Me:=(X2.alloc (.cells #[.slice xa xn xc,.int .i64 (canonC p.mem).frm,.int .i64 (canonC p.mem).period,.slice ya yn yc] 80)).alloc (.cells #[.slice (some { block:=w2.heap.size,off:=0 }) 1 1] 78);have e7:=Me.c0;have e8:=(Me.cells 0).2;clear hb2;obtain ⟨eb,OD⟩:∃ eb,eb=zl (canonC p.mem):=⟨_,rfl⟩;rw [<- OD];have CP:=ad OD;clear OD;rcases eb))
 .have hc2:=af.c0 (br 0 (.slice (some ⟨w2.heap.size+1,0,none⟩) 1 1) Me);have E1:Below w.heap.size w ((((w2.alloc (.cells #[.slice xa xn xc,.int .i64 (canonC p.mem).frm,.int .i64 (canonC p.mem).period,.slice ya yn yc] 80)).alloc (.cells #[.slice (some { block:=w2.heap.size,off:=0 }) 1 1] 78)).setCell ⟨w.heap.size+1,0,none⟩ (.slice (some ⟨w2.heap.size+1,0,none⟩) 1 1))):=(Ea (Ea (Et (Ea hW1 _) bj.o) _) _).setCell (p:=⟨w.heap.size+1,0,none⟩) (show w.heap.size<=w.heap.size+1 by omega) _;have h0:=B2.o.lt;have hz:w1.heap.size+1<=w2.heap.size:=by have:=bj.o.size;rwa [World.size_alloc] at this
  have h1:=(ho2.o.keep (aN.below (Ea (Er w1) _))).keep (aN.below bj.o);have h2:=WJ (n:=w.heap.size+1) (W:=w2) (h1.mono λb hb=>⟨by simp only [World.size_alloc] at hb;omega,by simp only [World.size_alloc] at hb;omega⟩) (by have:=bj.o.size;simp only [World.size_alloc] at this;omega);have h3:=zn_ (n:=w.heap.size+1+1) (h2.mono (G:=λb=>w.heap.size+1+1<=b) λb hb=>by have:=bj.o.size;simp only [World.size_alloc] at this;have hb':w.heap.size+1<=b/\(b≠w.heap.size+1\/b=w2.heap.size):=hb;show w.heap.size+1+1<=b;omega) (by rw [World.size_alloc];omega);have h4:=aA.set (i:=0) (u:=.slice (some ⟨w2.heap.size+1,0,none⟩) 1 1) h3 (b:=w.heap.size+1) aa;have e:ofM p=[[canonC p.mem]]:=by rw [ofM,<- CP.o];rfl
  rw [World.size_alloc] at h4;refine bodyPost_ret (v:=.agg #[.slice (some ⟨w2.heap.size+1,0,none⟩) 1 1]) (by simp [results,Tryz.results53,go_sem,hc2]) rfl ⟨_,1,by rw [e];rfl,?_,E1⟩;rw [e];exact h4.mono λb hb=>aa
 have hc2:=af.c0 (br 0 (.slice none 0 0) X2);have E1:Below w.heap.size w (w2.setCell ⟨w.heap.size+1,0,none⟩ (.slice none 0 0)):=(Et (Ea hW1 _) bj.o).setCell (p:=⟨w.heap.size+1,0,none⟩) (show w.heap.size<=w.heap.size+1 by omega) _;have e:ofM p=[]:=by rw [ofM,<- CP.o];rfl
 refine bodyPost_ret (v:=.agg #[.slice none 0 0]) (by simp [results,Tryz.results53,go_sem,hc2]) rfl ⟨none,0,by rw [e];rfl,?_,E1⟩;rw [e];exact ⟨[],rfl,⟨none,0,rfl,ag,aa,.inl rfl⟩,ag,ag⟩
end
end Go.Proofs.YtbmgmlbmgogeaaaGreat
namespace Kal
section
structure jV (a m x y u v:Int) (U V:Int):Prop where
 x1:1<=x
 xy:x<y
 ym:y<=m
 gu:m∣a*u-x
 gv:m∣a*v-y
 cop:Int.gcd x y=1
 u1:-U<=u/\u<=U
 v1:-V<=v/\v<=V
 pos:0<=U/\0<=V
 le:x*V+y*U<=m
theorem jV.start {m:Int} (ha:0<=a) (hm:2<=m) (h:Int.gcd a m=1):jV a m (a % m) m 1 0 1 0:=by
 have h0:=Int.emod_nonneg a (show m≠0 by omega);have h1:=Int.emod_lt_of_pos a (show 0<m by omega);have hg:Int.gcd (a % m) m=1:=by rw [Jq ha aa];exact h
 refine ⟨?_,h1,aa,?_,⟨-1,aa⟩,hg,aa,aa,aa,aa⟩
 .rcases Int.lt_or_le 0 (a % m) with h2|h2
  .omega
  have e:a % m=0:=aa;rw [e,Int.gcd_zero_left] at hg;omega
 rw [Int.mul_one];exact uf (Int.emod_emod_of_dvd a (Int.dvd_refl m)).symm
theorem jV.step {m u v U V:Int} (h:jV a m x y u v U V) (hx:1<x) :
  jV a m (y-y / x*x) x (v-y / x*u) u (V+y / x*U) U/\0<=y / x/\y / x<=y/\y / x*x<=y/\0<=y / x*x/\-m<=y / x*u/\y / x*u<=m/\-m<=v-y / x*u/\v-y / x*u<=m:=by
 obtain ⟨x1,xy,ym,gu,gv,cop,u1,v1,pos,le⟩:=h;have e0:=Int.emod_nonneg y (show x≠0 by omega);have e1:=Int.emod_lt_of_pos y (show 0<x by omega);have em:y-y / x*x=y % x:=by have:=Int.emod_def y x;rw [Int.mul_comm] at this;omega
 have q0:0<=y / x:=Int.ediv_nonneg aa aa;have qy:y / x<=y:=Int.ediv_le_self x aa;have hr1:1<=y % x:=by
  rcases Int.lt_or_le 0 (y % x) with h2|h2
  .omega
  have e:y % x=0:=aa;have hd:x∣y:=Int.dvd_of_emod_eq_zero e;have h3:((Int.gcd x y:Nat):Int)=x:=(Int.gcd_eq_left_iff_dvd aa).2 hd;omega
 generalize y / x=q at *;have a1:q*u<=q*U:=Int.mul_le_mul_of_nonneg_left u1.2 q0;have a2:q*(-U)<=q*u:=Int.mul_le_mul_of_nonneg_left u1.1 q0;rw [Int.mul_neg] at a2;have a3:q*U<=y*U:=Int.mul_le_mul_of_nonneg_right qy pos.1;have a4:0<=q*U:=Int.mul_nonneg q0 pos.1;have a5:V<=x*V:=by
  have:=Int.mul_le_mul_of_nonneg_right x1 pos.2;omega
 have a6:0<=x*V:=Int.mul_nonneg aa pos.2;have a7:0<=q*x:=Int.mul_nonneg q0 aa;refine ⟨⟨aa,aa,aa,?_,gu,?_,aa,u1,aa,?_⟩,q0,qy,aa,a7,aa,aa,aa,aa⟩
 .have:a*(v-q*u)-(y-q*x)=(a*v-y)-q*(a*u-x):=by
   rw [Int.mul_sub,Int.mul_sub,Int.mul_left_comm q a u];omega
  rw [this];exact Int.dvd_sub gv (Int.dvd_trans gu (Int.dvd_mul_left _ _))
 .rw [em,Jq aa aa,Int.gcd_comm];exact cop
 have b1:(y-q*x)*U=y*U-q*x*U:=Int.sub_mul _ _ _;have b2:x*(V+q*U)=x*V+q*x*U:=by rw [Int.mul_add,<- Int.mul_assoc,Int.mul_comm x q]
 rw [b1,b2];omega
theorem jV.fin {m u v U V:Int} (h:jV a m x y u v U V) (hx:¬ 1<x) (hm:2<=m) :
  -m<=u/\u<=m/\u.tmod m % m=u % m/\-m<u.tmod m/\u.tmod m<m/\m∣a*(u % m)-1:=by
 obtain ⟨x1,xy,ym,gu,gv,cop,u1,v1,pos,le⟩:=h;obtain rfl:x=1:=aa;have a1:U<=y*U:=by
  have:=Int.mul_le_mul_of_nonneg_right (show (1:Int)<=y by omega) pos.1;omega
 have t1:=Int.tmod_lt_of_pos u (show 0<m by omega);have t2:=Int.lt_tmod_of_pos u (show 0<m by omega);refine ⟨aa,aa,?_,t2,t1,?_⟩
 .have hd:m∣u.tmod m-u:=by
   have:=Int.mul_tdiv_add_tmod u m;exact ⟨-(u.tdiv m),by rw [Int.mul_neg];omega⟩
  exact uh hd
 have hd:m∣u % m-u:=uf (Int.emod_emod_of_dvd u (Int.dvd_refl m));have e:a*(u % m)-1=a*(u % m-u)+(a*u-1):=by rw [Int.mul_sub];omega
 rw [e];exact Int.dvd_add (Int.dvd_trans hd (Int.dvd_mul_left _ _)) gu
def MT (a m r:Int):Prop:=0<=r/\r<m/\m∣a*r-1
theorem Xj {step:Int} (h:(r-at_) % ((Int.gcd step P:Nat):Int)≠0):mM at_ step r P 0 0 false:=by
 refine .inr ⟨rfl,rfl,rfl,λx ⟨h1,h2⟩=>h ?_⟩;have d1:((Int.gcd step P:Nat):Int)∣x-at_:=Int.dvd_trans (Int.gcd_dvd_left ..) (uf h1);have d2:((Int.gcd step P:Nat):Int)∣x-r:=Int.dvd_trans (Int.gcd_dvd_right ..) (uf h2);have:r-at_=(x-at_)-(x-r):=aa;rw [this];exact Int.emod_eq_zero_of_dvd (Int.dvd_sub d1 d2)
theorem xo_ {step:Int} (hs:1<=step) (h0:0<=at_) (h1:at_<step) (hP:1<=P) (h:(r-at_) % ((Int.gcd step P:Nat):Int)=0) (hn:P / ((Int.gcd step P:Nat):Int)=1):mM at_ step r P at_ step true:=by
 have hd:((Int.gcd step P:Nat):Int)∣P:=Int.gcd_dvd_right ..;have e:((Int.gcd step P:Nat):Int)=P:=by
  have:=Int.ediv_mul_cancel hd;rw [hn] at this;omega
 have el:aS step P=step:=by
  unfold aS;rw [e];exact Int.ediv_mul_cancel (by have:((Int.gcd step P:Nat):Int)∣step:=Int.gcd_dvd_left ..;rwa [e] at this)
 refine .inl ⟨rfl,el.symm,h0,by rw [el];exact h1,rfl,?_⟩;rw [e] at h;exact (uh (Int.dvd_of_emod_eq_zero h)).symm
theorem xr_ {step inv:Int} (hs:1<=step) (h0:0<=at_) (h1:at_<step) (hP:1<=P) {g n:Int} (hg:g=((Int.gcd step P:Nat):Int)) (hn:n=P / g) (h:(r-at_) % g=0) (hi:n∣step / g*inv-1) :
  mM at_ step r P (at_+((r-at_) / g % n*inv) % n*step) (step*n) true/\aS step P=step*n:=by
 have FC:g∣step:=by rw [hg];exact Int.gcd_dvd_left ..
 have hgr:g∣P:=by rw [hg];exact Int.gcd_dvd_right ..
 have hg1:1<=g:=by rw [hg];have:=Int.gcd_pos_of_ne_zero_left P (show step≠0 by omega);omega
 have el:aS step P=step*n:=by
  unfold aS;rw [<- hg,hn];have a1:=Int.ediv_mul_cancel FC;have a2:=Int.ediv_mul_cancel hgr
  calc step / g*P=step / g*(P / g*g):=by rw [a2]
   _=(step / g*g)*(P / g):=by rw [Int.mul_comm (P / g) g,<- Int.mul_assoc]
   _=step*(P / g):=by rw [a1]
 have mf:1<=n:=by
  rw [hn];have a2:=Int.ediv_mul_cancel hgr;rcases Int.lt_or_le 0 (P / g) with h2|h2
  .omega
  have:=Int.mul_le_mul_of_nonneg_right h2 (show 0<=g by omega);omega
 refine ⟨.inl ⟨rfl,el.symm,?_⟩,el⟩;generalize hk:((r-at_) / g % n*inv) % n=k;have k0:0<=k:=by rw [<- hk];exact Int.emod_nonneg _ aa
 have k1:k<n:=by rw [<- hk];exact Int.emod_lt_of_pos _ aa
 have b0:0<=k*step:=Int.mul_nonneg k0 aa;refine ⟨aa,?_,?_,?_⟩
 .rw [el];have:(k+1)*step<=n*step:=Int.mul_le_mul_of_nonneg_right aa aa;rw [Int.add_mul,Int.one_mul,Int.mul_comm n step] at this;omega
 .rw [Int.add_mul_emod_self_right]
 apply uh;obtain ⟨w,hw⟩:=Int.dvd_of_emod_eq_zero h;have ew:(r-at_) / g=w:=by rw [hw];exact Int.mul_ediv_cancel_left _ aa
 rw [ew] at hk;have a1:=Int.ediv_mul_cancel FC;generalize step / g=t at *;have d1:n∣k-w*inv:=by
  have e1:k % n=(w*inv) % n:=by rw [<- hk,Int.emod_emod_of_dvd _ (Int.dvd_refl n),Int.mul_emod,Int.emod_emod_of_dvd _ (Int.dvd_refl n),<- Int.mul_emod]
  exact uf e1
 have d2:n∣k*t-w:=by
  have e:k*t-w=(k-w*inv)*t+w*(t*inv-1):=by
   rw [Int.sub_mul,Int.mul_sub,Int.mul_one,Int.mul_comm t inv,<- Int.mul_assoc];omega
  rw [e];exact Int.dvd_add (Int.dvd_trans d1 (Int.dvd_mul_right _ _)) (Int.dvd_trans hi (Int.dvd_mul_left _ _))
 obtain ⟨z,hz⟩:=d2;refine ⟨z,?_⟩;have e:at_+k*step-r=(k*t-w)*g:=by
  rw [Int.sub_mul,Int.mul_assoc,a1,Int.mul_comm w g];omega
 rw [e,hz];have a2:=Int.ediv_mul_cancel hgr;rw [<- hn] at a2
 calc n*z*g=n*g*z:=by rw [Int.mul_assoc,Int.mul_comm z g,<- Int.mul_assoc]
  _=P*z:=by rw [a2]
theorem QM {b:Int} (h:dK s p):bP (iK p b) (ti p b)/\dK (max (s+b) 0) (iK p b):=by
 have hf:=h.wf.frm;have hp:=h.wf.per;have gS:cH (ti p b) (max (p.frm+b) 0) p.period:=λn hn=>by
  unfold ti;have:=h.wf.pfrom (n-b) aa;rw [this,show n-b+p.period=n+p.period-b from by omega];constructor <;> rintro ⟨_,h⟩ <;> exact ⟨aa,h⟩
 have hc:=Ec (M_ (S:=ti p b) (f:=max (p.frm+b) 0) aa hp (λn hn=>hn.1) gS);refine ⟨hc,Ir hc (λn hn=>?_) aa (by have:=h.frm;omega) hp h.dvd gS⟩;have:=hn.1;have:=h.low _ hn.2;omega
open Classical in
noncomputable def nA (p:Per) (b:Int):Int:=if b < -1099511627776\/1099511627776<b then 1 else if (iK p b).frm<=1099511627776 then 0 else 2
theorem vm_ {b:Int} (h:dK s p) (h0:-1099511627776<=b) (h1:max (s+b) 0+9<=1099511627776) (h2:b<=1099511627776):nA p b=0:=by
 unfold nA;rw [if_neg aa,if_pos (by have:=(QM (b:=b) h).2.frm;omega)]
theorem z9_ {b:Int} (h:1<=a):Int.gcd (a / ((Int.gcd a b:Nat):Int)) (b / ((Int.gcd a b:Nat):Int))=1:=
 Int.gcd_ediv_gcd_ediv_gcd (Int.gcd_pos_of_ne_zero_left b aa)
theorem mM.unique {step a' s':Int} {b':Bool} (hs:1<=step) (hP:1<=P) (h:mM at_ step r P a s b) (g:mM at_ step r P a' s' b'):a=a'/\s=s'/\b=b':=by
 rcases h with ⟨rfl,rfl,h⟩|⟨rfl,rfl,rfl,h⟩ <;> rcases g with ⟨rfl,rfl,g⟩|⟨rfl,rfl,rfl,g⟩
 .exact ⟨(Ej hs hP h).symm.trans (Ej hs hP g),rfl,rfl⟩
 .exact absurd ⟨h.2.2.1,h.2.2.2⟩ (g a)
 .exact absurd ⟨g.2.2.1,g.2.2.2⟩ (h a')
 exact ⟨rfl,rfl,rfl⟩
theorem v7_ {step:Int} (hs:1<=step) (hP:1<=P):∃ a s b,mM at_ step r P a s b:=by
 by_cases h:(r-at_) % ((Int.gcd step P:Nat):Int)=0
 .refine ⟨_,_,true,.inl ⟨rfl,rfl,Hy hs hP ?_⟩⟩;exact (uh (Int.dvd_of_emod_eq_zero h)).symm
 exact ⟨0,0,false,Xj h⟩
theorem mM.bounds {step:Int} (hs:1<=step) (hP:1<=P) (hd:step∣27720) (hp:P∣27720) (h:mM at_ step r P a s true):0<=a/\a<s/\s∣27720:=by
 rcases h with ⟨_,rfl,h⟩|⟨h,_⟩
 .exact ⟨h.1,h.2.1,Ww hs hP hd hp⟩
 cases h
def uC (S:Int->Prop) (p:Per) (t:List Per) (at_ step:Int) (j:Nat) (x:Int):Prop:=S x\/∃ c∈p.cycle.take j,x % p.period=cA p c/\eE t at_ step x
theorem sw_ {S:Int->Prop} {step:Int}:uC S p t at_ step 0 x↔S x:=by simp [uC]
theorem v3_ {S:Int->Prop} {step:Int}:uC S p t at_ step p.cycle.length x↔S x\/eE (p :: t) at_ step x:=by
 unfold uC;rw [List.take_length,u9_]
theorem Nh (h:j<l.length) {c:Int}:c∈l.take (j+1)↔c∈l.take j\/c=l.getD j 0:=by
 rw [List.take_succ_eq_append_getElem h,List.mem_append,List.mem_singleton,List.getD_eq_getElem?_getD,List.getElem?_eq_getElem h];rfl
theorem sv_ {S:Int->Prop} {step:Int} (hw:p.WF) (hj:j<p.cycle.length) (hs:1<=step) (h0:0<=at_) (h1:at_<step) {a2 s2:Int}
  (h:mM at_ step (cA p (p.cycle.getD j 0)) p.period a2 s2 b):uC S p t at_ step (j+1) x↔uC S p t at_ step j x\/(b=true/\eE t a2 s2 x):=by
 unfold uC;rw [<- h.cls hw hs h0 h1,or_assoc];refine or_congr Iff.rfl ⟨?_,?_⟩
 .rintro ⟨c,hc,h2⟩;rcases (Nh hj).1 hc with hc|rfl
  .exact .inl ⟨c,hc,h2⟩
  exact .inr h2
 rintro (⟨c,hc,h2⟩|h2)
 .exact ⟨c,(Nh hj).2 (.inl hc),h2⟩
 exact ⟨_,(Nh hj).2 (.inr rfl),h2⟩
theorem Jf {step:Int}:eE [] at_ step x↔x % step=at_:=by simp [eE]
theorem v4_ {f l:Int} (hw:∀ p∈t,p.WF) (hf:fH t<=f) (h:j8 F (λx=>False\/eE t 0 1 x) f l b):dV F (ba t) f (if b=true then l else 0) b:=
 (h.congr (T:=ba t) λx hx=>by rw [false_or,s3_ hw aa]).next
theorem s9_ (hne:t≠[]) (hw:∀ p∈t,p.WF) {f n:Int} (h:iS (mP t t.length 0) f n b):WR t f n b:=
 h.congr λx _=>(VE hne hw).symm
theorem va_ {L:List (List Per)} {n:Int}:aT (L ++ [t]) n↔aT L n\/ba t n:=by rw [qb_];unfold aT;simp
theorem vc_ {f:Int}:dV F (aT []) f 0 false:=.inr ⟨rfl,rfl,λ_ _ _ h=>Wy h⟩
def cC:Int:=1152921504606846976
end
end Kal
namespace Go.Proofs.YtbmgmlbmgogeaaaGreat
section
open Go.RowKit Go.Maps Kal
structure P8 (w:World) (v:Value) (n:Nat):Prop where
 is:∃ a c,v=.slice a n c/\(n=0\/∃ b o,a=some ⟨b,o,none⟩/\∀ i,i<n->∃ (u:Value) (l:List Int),w.cell? ⟨b,o+i,none⟩=some u/\pI w u l)
 len:n<=9223372036854775807
structure wj (w:World) (v:Value) (ll:List (List Int)):Prop where
 is:∃ a c,v=.slice a ll.length c/\(ll=[]\/∃ b o,a=some ⟨b,o,none⟩/\∀ i,i<ll.length->∃ (u:Value),w.cell? ⟨b,o+i,none⟩=some u/\pI w u (ll.getD i []))
 len:ll.length<=9223372036854775807
theorem wj.ext {ll:List (List Int)} (h:wj w v ll) (hb:Below w.heap.size w W):wj W v ll:=by
 obtain ⟨⟨a,c,rfl,h1⟩,h2⟩:=h;refine ⟨⟨a,c,rfl,h1.imp id ?_⟩,h2⟩;rintro ⟨b,o,rfl,hc⟩;exact ⟨b,o,rfl,λi hi=>by obtain ⟨u,h3,h4⟩:=hc i hi;exact ⟨u,al.cell hb h3,h4.ext hb⟩⟩
theorem P8.rows (h:P8 w v n):∃ ll:List (List Int),ll.length=n/\wj w v ll:=by
 obtain ⟨⟨a,c,rfl,h1⟩,h2⟩:=h;rcases h1 with rfl|⟨b,o,rfl,hc⟩
 .exact ⟨[],rfl,⟨a,c,rfl,.inl rfl⟩,ag⟩
 have hch:∃ X:Nat->List Int,∀ i,i<n->∃ u,w.cell? ⟨b,o+i,none⟩=some u/\pI w u (X i):=by
  refine ⟨λi=>if hi:i<n then (hc i hi).choose_spec.choose else [],λi hi=>?_⟩;simp only [dif_pos hi];exact ⟨_,(hc i hi).choose_spec.choose_spec⟩
 obtain ⟨X,hX⟩:=hch;have hl:((List.range n).map X).length=n:=by simp
 refine ⟨(List.range n).map X,hl,⟨_,c,by rw [hl],.inr ⟨b,o,rfl,λi hi=>?_⟩⟩,by rw [hl];exact h2⟩;rw [hl] at hi;obtain ⟨u,h3,h4⟩:=hX i hi;exact ⟨u,h3,by rw [List.getD_eq_getElem?_getD];simpa [hi] using h4⟩
def lg (m:List (List Per)) (l:List Int):List (List Per):=
 if 0<m.length/\(l.getD 0 0<128\/m.length=3)/\(m.getLastD []).length<3 then m.dropLast ++ [m.getLastD [] ++ [dG l]]
 else if m.length<3 then m ++ [[dG l]] else m
def sS (ll:List (List Int)):List (List Per):=(ll.take 9).foldl lg []
theorem sh_ {ll:List (List Int)} {i:Nat} (hi:i<ll.length) (h:m=(ll.take i).foldl lg []):lg m (ll.getD i [])=(ll.take (i+1)).foldl lg []:=by
 rw [List.take_succ_eq_append_getElem hi,List.foldl_append,<- h,List.getD_eq_getElem?_getD,List.getElem?_eq_getElem hi];rfl
theorem vu_ (l:List Int):lg [] l=[[dG l]]:=by simp [lg]
theorem to_ {m0:List (List Per)} (h:(l.getD 0 0<128\/m0.length+1=3)/\t.length<3):lg (m0 ++ [t]) l=m0 ++ [t ++ [dG l]]:=by
 unfold lg;rw [if_pos ⟨ag,by simpa using h.1,by simpa using h.2⟩];simp
theorem vt_ {m0:List (List Per)} (h:¬ ((l.getD 0 0<128\/m0.length+1=3)/\t.length<3)) (h3:m0.length+1<3):lg (m0 ++ [t]) l=m0 ++ [t] ++ [[dG l]]:=by
 unfold lg;rw [if_neg (by rintro ⟨_,h1,h2⟩;exact h ⟨by simpa using h1,by simpa using h2⟩),if_pos (by simpa using h3)]
theorem tp_ {m0:List (List Per)} (h:¬ ((l.getD 0 0<128\/m0.length+1=3)/\t.length<3)) (h3:¬ m0.length+1<3):lg (m0 ++ [t]) l=m0 ++ [t]:=by
 unfold lg;rw [if_neg (by rintro ⟨_,h1,h2⟩;exact h ⟨by simpa using h1,by simpa using h2⟩),if_neg (by simpa using h3)]
structure iw (p:Per):Prop where
 wf:p.WF
 frm:p.frm<=8
 per:p.period<=12
theorem iw.dvd (h:iw p):p.period∣27720:=by
 have h1:=h.wf.per;have h2:=h.per;obtain ⟨k,hk⟩:∃ k:Nat,p.period=k:=⟨p.period.toNat,aa⟩;rw [hk] at h1 h2 ⊢;have:∀ k:Nat,k<=12->1<=k->k∣27720:=by decide
 exact Int.natCast_dvd_natCast.2 (this k aa aa)
theorem iw.fv (h:iw p):FV 0 p:=⟨⟨h.wf,λn hn=>hn.1,by have:=h.frm;omega,h.dvd⟩,by have:=h.frm;omega⟩
structure qR (m:List (List Per)):Prop where
 len:m.length<=3
 ne:∀ t∈m,t≠[]
 tlen:∀ t∈m,t.length<=3
 fac:∀ t∈m,∀ p∈t,iw p
theorem qR.vt (h:qR m):∀ t∈m,kJ 0 t:=λt ht=>⟨h.ne t ht,λp hp=>(h.fac t ht p hp).fv,by have:=h.tlen t ht;omega⟩
theorem qR.mv (h:qR m):MV 0 m:=⟨(yW h.vt).2 ⟨by have:=h.len;omega,λt ht=>by have:=h.tlen t ht;omega⟩,h.vt⟩
theorem tn_ (h:qR m):qR (lg m l):=by
 have hf:iw (dG l):=⟨(JH l).1,(JH l).2.1,(JH l).2.2⟩;unfold lg
 split
 .rename_i h1;obtain ⟨h1,_,h3⟩:=h1;have hl:m.getLastD []∈m:=by
   cases m with
   | nil=>simp at h1
   | cons x m=>rw [List.getLastD_cons];exact List.getLastD_mem_cons ..
  have key:∀ {P:List Per->Prop},(∀ t∈m,P t)->P (m.getLastD [] ++ [dG l])->∀ t∈m.dropLast ++ [m.getLastD [] ++ [dG l]],P t:=λg1 g2 t ht=>by
   rcases List.mem_append.1 ht with ht|ht
   .exact g1 t (List.dropLast_subset _ ht)
   rw [List.mem_singleton] at ht;subst ht;exact g2
  refine ⟨by have:=h.len;rw [List.length_append,List.length_dropLast,List.length_singleton];omega,key h.ne ag,key h.tlen (by rw [List.length_append,List.length_singleton];omega),key h.fac λp hp=>?_⟩;rcases List.mem_append.1 hp with hp|hp
  .exact h.fac _ hl p hp
  rw [List.mem_singleton] at hp;subst hp;exact hf
 split
 .rename_i h2;have key:∀ {P:List Per->Prop},(∀ t∈m,P t)->P [dG l]->∀ t∈m ++ [[dG l]],P t:=λg1 g2 t ht=>by
   rcases List.mem_append.1 ht with ht|ht
   .exact g1 t ht
   rw [List.mem_singleton] at ht;subst ht;exact g2
  exact ⟨by rw [List.length_append,List.length_singleton];omega,key h.ne ag,key h.tlen ag,key h.fac λp hp=>by rw [List.mem_singleton] at hp;subst hp;exact hf⟩
 exact h
theorem PN (ll:List (List Int)):qR (sS ll):=by
 have key:∀ (l:List (List Int)) (m:List (List Per)),qR m->qR (l.foldl lg m):=by
  intro l;induction l with
  | nil=>exact λm h=>h
  | cons x l ih=>exact λm h=>ih _ (tn_ h)
 exact key _ _ ⟨ag,ag,ag,ag⟩
abbrev qH (B:Nat) (k:Nat):Prop:=k=B\/k=B+1
structure DL (B:Nat) (v:Value) (L0:List (Value × List Per)) (g cap:Nat) (M:List PV) (W:World):Prop where
 own:W.ownsRow B 80 4 (.slice (some ⟨g,0,none⟩) M.length cap) M.length (M.flatMap PV.enc)
 all:∀ x∈L0,bG W (λb=>cN B (qH B) v b/\b≠g) x.1 x.2
 pvs:∀ x∈M,bp W (λb=>cN B (qH B) v b/\b≠g) x
 g:cN B (qH B) v g
 len:1<=M.length
structure mI (B:Nat) (w:World) (v:Value) (L:List (Value × List Per)) (W:World):Prop where
 below:Below B w W
 rbx:af W B #[.slice none 0 0] 57
 obx:af W (B+1) #[v] 57
 row:aY B (qH B) W v L
 md:qR (L.map Prod.snd)
 last:L=[]\/∃ L0 g cap M,L=L0 ++ [(.slice (some ⟨g,0,none⟩) M.length cap,M.map PV.p)]/\DL B v L0 g cap M W
theorem DL.ext {L0:List (Value × List Per)} {M:List PV} (h:DL B v L0 g cap M W) (hb:Below W.heap.size W W'):DL B v L0 g cap M W':=
 ⟨h.own.kept (row:=none) (World.grownBy.of_below hb _) (by right;simp [Value.ownBlock]),λx hx=>(h.all x hx).ext hb,λx hx=>(h.pvs x hx).keep (aN.below hb),h.g,h.len⟩
theorem mI.ext {L:List (Value × List Per)} (h:mI B w v L W) (hB:B<=w.heap.size) (hb:Below W.heap.size W W'):mI B w v L W':=
 ⟨h.below.trans (hb.mono (Nat.le_trans hB h.below.size)),h.rbx.below hb,h.obx.below hb,h.row.below hb,h.md,h.last.imp id λ⟨L0,g,cap,M,e,hl⟩=>⟨L0,g,cap,M,e,hl.ext hb⟩⟩
theorem WC {F:Nat->Prop} (h:W.ownsRow B 80 4 (.slice (some ⟨g,0,none⟩) n cap) n (L.flatMap PV.enc)) (hn:L.length=n) (h1:1<=n) (hl:n<=1000) (hF:F g) (ha:∀ x∈L,bp W F x):bG W F (.slice (some ⟨g,0,none⟩) n cap) (L.map PV.p):=by
 subst hn;have h2:L.length<=cap/\cap<=9223372036854775807:=by
  rcases h.2 with ⟨h',_⟩|⟨_,_,_,h',_,_,h3,h4,_⟩
  .cases h'
  cases h';exact ⟨h3,h4⟩
 refine ⟨L,rfl,⟨_,_,rfl,h2.1,h2.2,.inr ⟨g,0,rfl,hF,(h.lt g rfl).2,λi u hi=>?_⟩⟩,aa,ha⟩;rw [Nat.zero_add];have:=(List.getElem?_eq_some_iff.1 hi).1;rw [BA] at this;exact (h.cellAt i this).trans hi
theorem oe_ {b:Nat} {u:Value} {t:TypeId} (h:af W b #[u] t) (e:W'.heap[b]? = W.heap[b]?):af (W'.setCell ⟨b,0,none⟩ v) b #[v] t:=br 0 v (e.trans h)
theorem WA {wo:World} {a:Option Addr} {L:List (Value × List Per)} {x:PV} (hk:W2.heap.size=k) (hS:mI w.heap.size w (.slice a L.length c) L wo) (hb2:Below wo.heap.size wo W2) (jQ:bp W2 (λb=>wo.heap.size<=b/\b<W2.heap.size) x) :
  bG ((W2.alloc (.cells #[x.h,.int .i64 x.p.frm,.int .i64 x.p.period,x.c] 80)).alloc (.cells #[.slice (some ⟨k,0,none⟩) 1 1] 78)) (cN w.heap.size (qH w.heap.size) (.slice a L.length c)) (.slice (some ⟨k,0,none⟩) 1 1) [x.p]:=by
 subst hk;have kc:=hS.obx.lt;have hz2:=hb2.size;have te:∀ q,(Value.slice a L.length c).ownBlock=some q->q<wo.heap.size:=λq e=>(hS.row.row.lt q e).2;have hown:=(World.ownsRow_lit (base:=w.heap.size) (e:=80) (size:=4) W2 #[x.h,.int .i64 x.p.frm,.int .i64 x.p.period,x.c] 1 aa (by unfold maxLen;omega) rfl).alloc (.cells #[.slice (some ⟨W2.heap.size,0,none⟩) 1 1] 78);refine WC (L:=[x]) hown rfl (Nat.le_refl _) aa ⟨aa,?_,λe=>by have:=te _ e;omega⟩ λy hy=>?_
 .rintro (h|h) <;> omega
 rw [List.mem_singleton] at hy;subst hy;refine (jQ.keep (aN.below (Ea (Ea (Er _) _) _))).mono λb hb=>⟨aa,?_,λe=>by have:=te _ e;omega⟩;rintro (h|h) <;> omega
theorem mI.new {wo w8:World} {a:Option Addr} {L:List (Value × List Per)} {ga:Option Addr} {gc:Nat} {x:PV} (hk:W2.heap.size=k) (hS:mI w.heap.size w (.slice a L.length c) L wo) (hb2:Below wo.heap.size wo W2)
  (jQ:bp W2 (λb=>wo.heap.size<=b/\b<W2.heap.size) x) (Ah:iw x.p) (hl:L.length<3)
  (nr:aY w.heap.size (qH w.heap.size) w8 (.slice ga (L.length+1) gc) (L ++ [(.slice (some ⟨k,0,none⟩) 1 1,[x.p])]))
  (iX:((W2.alloc (.cells #[x.h,.int .i64 x.p.frm,.int .i64 x.p.period,x.c] 80)).alloc (.cells #[.slice (some ⟨k,0,none⟩) 1 1] 78)).grownBy w8 (Value.slice a L.length c).ownBlock)
  (ee:Below w.heap.size ((W2.alloc (.cells #[x.h,.int .i64 x.p.frm,.int .i64 x.p.period,x.c] 80)).alloc (.cells #[.slice (some ⟨k,0,none⟩) 1 1] 78)) w8)
  (hloc:(Value.slice ga (L.length+1) gc).ownBlock=(Value.slice a L.length c).ownBlock\/(Value.slice ga (L.length+1) gc).ownBlock=some (k+2)) :
  mI w.heap.size w (.slice ga (L.length+1) gc) (L ++ [(.slice (some ⟨k,0,none⟩) 1 1,[x.p])]) (w8.setCell ⟨w.heap.size+1,0,none⟩ (.slice ga (L.length+1) gc)):=by
 subst hk;have kc:=hS.obx.lt;have hz2:=hb2.size;have te:∀ q,(Value.slice a L.length c).ownBlock=some q->q<wo.heap.size:=λq e=>(hS.row.row.lt q e).2;have Gi:=hS.row.ne;have eW:=World.ownsRow_lit (base:=w.heap.size) (e:=80) (size:=4) W2 #[x.h,.int .i64 x.p.frm,.int .i64 x.p.period,x.c] 1 aa (by unfold maxLen;omega) rfl;have nW:Below W2.heap.size W2 ((W2.alloc (.cells #[x.h,.int .i64 x.p.frm,.int .i64 x.p.period,x.c] 80)).alloc (.cells #[.slice (some ⟨W2.heap.size,0,none⟩) 1 1] 78)):=Ea (Ea (Er _) _) _;have hown1:=eW.alloc (.cells #[.slice (some ⟨W2.heap.size,0,none⟩) 1 1] 78);generalize hv:Value.slice a L.length c=v at *;generalize hv':Value.slice ga (L.length+1) gc=v' at *;have hz3:((W2.alloc (.cells #[x.h,.int .i64 x.p.frm,.int .i64 x.p.period,x.c] 80)).alloc (.cells #[.slice (some ⟨W2.heap.size,0,none⟩) 1 1] 78)).heap.size=W2.heap.size+2:=by simp
 generalize ((W2.alloc (.cells #[x.h,.int .i64 x.p.frm,.int .i64 x.p.period,x.c] 80)).alloc (.cells #[.slice (some ⟨W2.heap.size,0,none⟩) 1 1] 78))=W3 at *;have zG:Below wo.heap.size wo W3:=Et hb2 nW;have cd:w8.grownBy (w8.setCell ⟨w.heap.size+1,0,none⟩ v') (some (w.heap.size+1)):=World.grownBy.set' ⟨rfl,rfl,rfl,Nat.le_refl _,λ_ _ _=>rfl⟩ _;have Pn:=iX.size;have xF:∀ b,b<W3.heap.size->b≠w.heap.size+1->v.ownBlock≠some b->(w8.setCell ⟨w.heap.size+1,0,none⟩ v').heap[b]? = W3.heap[b]?:=λb h1 h2 h3=>
  (cd.block b aa (λe=>h2 (by cases e;rfl))).trans (iX.block b h1 (λe=>h3 e.symm))
 have iG:∀ b,b<wo.heap.size->b≠w.heap.size+1->v.ownBlock≠some b->(w8.setCell ⟨w.heap.size+1,0,none⟩ v').heap[b]? = wo.heap[b]?:=λb h1 h2 h3=>(xF b aa h2 h3).trans (zG.block b h1);have keep2:∀ b,b<W2.heap.size->b≠w.heap.size+1->v.ownBlock≠some b->(w8.setCell ⟨w.heap.size+1,0,none⟩ v').heap[b]? = W2.heap[b]?:=λb h1 h2 h3=>(xF b aa h2 h3).trans (nW.block b h1);have AF:∀ b,v'.ownBlock=some b->v.ownBlock=some b\/b=W2.heap.size+2:=λb e=>by
  rcases hloc with h|h
  .exact .inl (h ▸ e)
  rw [h] at e;cases e;exact .inr rfl
 refine ⟨((hS.below.trans (zG.mono hS.below.size)).trans ee).setCell (p:=⟨w.heap.size+1,0,none⟩) (by show w.heap.size<=w.heap.size+1;omega) _,(iG _ aa aa (λe=>Gi _ e (.inl rfl))).trans hS.rbx,
  oe_ hS.obx ((iX.block _ aa (λe=>Gi _ e.symm (.inr rfl))).trans (zG.block _ aa)),nr.box cd (.inr rfl),?_,.inr ⟨L,W2.heap.size,1,[x],rfl,⟨?_,λy hy=>?_,λy hy=>?_,?_,ag⟩⟩⟩
 .have hm:=hS.md;rw [List.map_append];have key:∀ {P:List Per->Prop},(∀ t∈L.map Prod.snd,P t)->P [x.p]->∀ t∈L.map Prod.snd ++ [[x.p]],P t:=λh1 h2 t ht=>by
   rcases List.mem_append.1 ht with ht|ht
   .exact h1 t ht
   rw [List.mem_singleton] at ht;subst ht;exact h2
  exact ⟨aO,key hm.ne ag,key hm.tlen ag,key hm.fac (λp hp=>by rw [List.mem_singleton] at hp;subst hp;exact Ah)⟩
 .have h1:=hown1.kept iX (.inr λe=>by have:=te W2.heap.size e.symm;omega);exact h1.kept cd (.inr λe=>by have e:W2.heap.size=w.heap.size+1:=Option.some.inj e;omega)
 .refine ((hS.row.all y hy).lt.keep (λb hb hl=>?_) ?_).mono λb hb=>⟨⟨hb.1.1,hb.1.2.1,λe=>?_⟩,?_⟩
  .exact iG b hb.2 (λe=>hb.1.2.1 (.inr e)) hb.1.2.2
  .have:=cd.size;omega
  .rcases AF b e with h|h
   .exact hb.1.2.2 h
   have:=hb.2;omega
  have:=hb.2;omega
 .rw [List.mem_singleton] at hy;subst hy;refine (jQ.keep (λb hb hl=>?_)).mono λb hb=>⟨⟨aa,?_,λe=>?_⟩,aa⟩
  .exact keep2 b hb.2 aa (λe=>by have:=te b e;omega)
  .rintro (h|h) <;> omega
  rcases AF b e with h|h
  .have:=te b h;omega
  omega
 refine ⟨aa,?_,λe=>?_⟩
 .rintro (h|h) <;> omega
 rcases AF _ e with h|h
 .have:=te _ h;omega
 omega
theorem mI.more {wo W9:World} {ab:Nat} {L0:List (Value × List Per)} {g' cap':Nat} {M:List PV} {x:PV} (hS:mI w.heap.size w (.slice (some ⟨ab,0,none⟩) (L0.length+1) c) (L0 ++ [(.slice (some ⟨g,0,none⟩) M.length cap,M.map PV.p)]) wo)
  (dt:DL w.heap.size (.slice (some ⟨ab,0,none⟩) (L0.length+1) c) L0 g cap M wo) (hb2:Below wo.heap.size wo W2) (jQ:bp W2 (λb=>wo.heap.size<=b/\b<W2.heap.size) x) (Ah:iw x.p) (hM:M.length<3)
  (hg:W2.grownBy W9 (some g)) (hown:W9.ownsRow w.heap.size 80 4 (.slice (some ⟨g',0,none⟩) (M.length+1) cap') (M.length+1) ((M ++ [x]).flatMap PV.enc)) (hloc:g'=g\/W2.heap.size<=g') :
  mI w.heap.size w (.slice (some ⟨ab,0,none⟩) (L0.length+1) c) (L0 ++ [(.slice (some ⟨g',0,none⟩) (M.length+1) cap',(M ++ [x]).map PV.p)]) (W9.setCell ⟨ab,L0.length,none⟩ (.slice (some ⟨g',0,none⟩) (M.length+1) cap')):=by
 have kc:=hS.obx.lt;have hz2:=hb2.size;have hz9:=hg.size;have hle:(L0 ++ [((Value.slice (some ⟨g,0,none⟩) M.length cap),M.map PV.p)]).length=L0.length+1:=by simp
 have hrow:=hS.row.row;rw [hle,List.map_append] at hrow;have hab:=hrow.lt ab rfl;have Gi:=hS.row.ne ab rfl;obtain ⟨g0,g1,g2⟩:=dt.g;have uX:ab≠g:=λe=>g2 (by simp [Value.ownBlock,e]);have FC:=(dt.own.lt g rfl).2;have cd:W9.grownBy (W9.setCell ⟨ab,L0.length,none⟩ (.slice (some ⟨g',0,none⟩) (M.length+1) cap')) (some ab):=World.grownBy.set' ⟨rfl,rfl,rfl,Nat.le_refl _,λ_ _ _=>rfl⟩ _;have keep2:∀ b,b<W2.heap.size->b≠g->b≠ab->(W9.setCell ⟨ab,L0.length,none⟩ (.slice (some ⟨g',0,none⟩) (M.length+1) cap')).heap[b]? = W2.heap[b]?:=λb h1 h2 h3=>
  (cd.block b aa (λe=>h3 (by cases e;rfl))).trans (hg.block b h1 (λe=>h2 (by cases e;rfl)))
 have iG:∀ b,b<wo.heap.size->b≠g->b≠ab->(W9.setCell ⟨ab,L0.length,none⟩ (.slice (some ⟨g',0,none⟩) (M.length+1) cap')).heap[b]? = wo.heap[b]?:=λb h1 h2 h3=>(keep2 b aa h2 h3).trans (hb2.block b h1);have hsz:=cd.size;have gB:g≠w.heap.size:=λe=>g1 (.inl e);have gB1:g≠w.heap.size+1:=λe=>g1 (.inr e);have aB:ab≠w.heap.size:=λe=>Gi (.inl e);have aB1:ab≠w.heap.size+1:=λe=>Gi (.inr e);have Nj:g'≠ab:=by rcases hloc with h|h <;> omega
 have hown':=hown.kept cd (.inr λe=>by injection e with e;exact Nj e);have DU:∀ y∈L0,bG (W9.setCell ⟨ab,L0.length,none⟩ (.slice (some ⟨g',0,none⟩) (M.length+1) cap')) (λb=>cN w.heap.size (qH w.heap.size) (.slice (some ⟨ab,0,none⟩) (L0.length+1) c) b/\b≠g') y.1 y.2:=λy hy=>by
  refine ((dt.all y hy).lt.keep (λb hb hl=>?_) aa).mono λb hb=>⟨hb.1.1,?_⟩
  .exact iG b hb.2 hb.1.2 λe=>hb.1.1.2.2 (by simp [Value.ownBlock,e])
  rcases hloc with h|h
  .rw [h];exact hb.1.2
  have:=hb.2;omega
 have pvs:∀ y∈M ++ [x],bp (W9.setCell ⟨ab,L0.length,none⟩ (.slice (some ⟨g',0,none⟩) (M.length+1) cap')) (λb=>cN w.heap.size (qH w.heap.size) (.slice (some ⟨ab,0,none⟩) (L0.length+1) c) b/\b≠g') y:=λy hy=>by
  rcases List.mem_append.1 hy with hy|hy
  .refine ((dt.pvs y hy).lt.keep (λb hb hl=>?_)).mono λb hb=>⟨hb.1.1,?_⟩
   .exact iG b hb.2 hb.1.2 λe=>hb.1.1.2.2 (by simp [Value.ownBlock,e])
   rcases hloc with h|h
   .rw [h];exact hb.1.2
   have:=hb.2;omega
  rw [List.mem_singleton] at hy;subst hy;refine (jQ.keep (λb hb hl=>keep2 b hb.2 aa aa)).mono λb hb=>⟨⟨aa,?_,λe=>?_⟩,aa⟩
  .rintro (h|h) <;> omega
  simp [Value.ownBlock] at e;omega
 have Tz:cN w.heap.size (qH w.heap.size) (.slice (some ⟨ab,0,none⟩) (L0.length+1) c) g':=by
  refine ⟨aa,?_,λe=>?_⟩
  .rintro (h|h) <;> omega
  simp [Value.ownBlock] at e;omega
 refine ⟨((hS.below.trans (hb2.mono hS.below.size)).trans (World.grownBy.below' hg aa aa)).setCell (p:=⟨ab,L0.length,none⟩) hab.1 _,(iG _ aa aa aa).trans hS.rbx,(iG _ aa aa aa).trans hS.obx,?_,?_,
  .inr ⟨L0,g',cap',M ++ [x],ag,⟨by simpa using hown',DU,pvs,Tz,ag⟩⟩⟩
 .have hr2:=(hrow.kept (World.grownBy.of_below hb2 none) (.inr (by simp [Value.ownBlock]))).kept hg (.inr λe=>uX (by simpa [Value.ownBlock] using e));have hr3:=(hr2.stored L0.length (.slice (some ⟨g',0,none⟩) (M.length+1) cap')).1;rw [List.set_append_right _ _ ag,List.length_map,Nat.sub_self] at hr3;refine ⟨by rw [List.length_append,List.map_append (f:=Prod.fst)];exact hr3,λy hy=>?_,hS.row.ne,by simp;have:=hS.row.len;rw [hle] at this;omega⟩;rcases List.mem_append.1 hy with hy|hy
  .exact (DU y hy).mono λb hb=>hb.1
  rw [List.mem_singleton] at hy;subst hy;exact WC hown' ag aa aa Tz λy hy=>(pvs y hy).mono λb hb=>hb.1
 have hm:=hS.md;rw [List.map_append] at hm ⊢;have hmem:M.map PV.p∈L0.map Prod.snd ++ [((Value.slice (some ⟨g,0,none⟩) M.length cap),M.map PV.p)].map Prod.snd:=by simp
 have key:∀ {P:List Per->Prop},(∀ t∈L0.map Prod.snd ++ [((Value.slice (some ⟨g,0,none⟩) M.length cap),M.map PV.p)].map Prod.snd,P t)->P ((M ++ [x]).map PV.p)->∀ t∈L0.map Prod.snd ++ [((Value.slice (some ⟨g',0,none⟩) (M.length+1) cap'),(M ++ [x]).map PV.p)].map Prod.snd,P t:=λh1 h2 t ht=>by
  rcases List.mem_append.1 ht with ht|ht
  .exact h1 t (List.mem_append_left _ ht)
  simp only [List.map_cons,List.map_nil,List.mem_singleton] at ht;subst ht;exact h2
 refine ⟨by have:=hm.len;simp at this ⊢;omega,key hm.ne ag,key hm.tlen aO,key hm.fac λp hp=>?_⟩;rw [List.map_append] at hp;rcases List.mem_append.1 hp with hp|hp
 .exact hm.fac _ hmem p hp
 simp only [List.map_cons,List.map_nil,List.mem_singleton] at hp;subst hp;exact Ah
theorem pt_ (w:World) {a:Act} {K:Act->World->Prop} {Q:Exit->Act->World->Prop} (sx x:Operand)
  (ho:o.op=.call { callee:=.builtin .append,args:=#[sx,x],argTypes:=#[78,78] }) (B g cap:Nat) (M:List PV) (y:PV) (hs:a.eval sx=.slice (some ⟨g,0,none⟩) M.length cap)
  (h:w.ownsRow B 80 4 (.slice (some ⟨g,0,none⟩) M.length cap) M.length (M.flatMap PV.enc)) (blk c:Nat) (hx:a.eval x=.slice (some ⟨blk,0,none⟩) 1 c)
  (hnew:af w blk #[y.h,.int .i64 y.p.frm,.int .i64 y.p.period,y.c] 80) (jz:∀ u∈y.enc,u.oneCell'=true) (hl:M.length<=1000) (hB:B<=w.heap.size)
  (k:∀ (g' cap':Nat) (w':World),w'.ownsRow B 80 4 (.slice (some ⟨g',0,none⟩) (M.length+1) cap') (M.length+1) ((M ++ [y]).flatMap PV.enc)->w.grownBy w' (some g)->(g'=g\/g'=w.heap.size)->K (a.put o.dst (.slice (some ⟨g',0,none⟩) (M.length+1) cap')) w') :
  Oper.wp Tryz.prog o a w K Q:=by
 obtain ⟨i,hi,h1,h2,h3⟩:=zg;refine wp_append_lies w sx x 78 ho B 80 i (.agg #[.slice none 0 0,.int .i64 0,.int .i64 0,.slice none 0 0]) 4 64 Tryz.underlying78 hi h1 h2 h3 rfl aa _ M.length (M.flatMap PV.enc) hs h ⟨blk,0,none⟩ 1 c y.enc hx rfl ?_ jz aa (by unfold maxLen;omega) aa hB _ rfl ?_
 .intro j u hu;have e:({ block:=blk,off:=0 }:Addr).add j=⟨blk,j,none⟩:=by
   rcases Nat.eq_zero_or_pos j with h|h
   .subst h;simp [Addr.add]
   simp [Addr.add];omega
  rw [e,(hnew.cells j).1,<- hu]
  match j with
  | 0=>rfl
  | 1=>rfl
  | 2=>rfl
  | 3=>rfl
  | k+4=>rfl
 intro g' cap' w' hown' hgrow hloc _;exact k g' cap' w' (by rw [List.flatMap_append];simpa using hown') hgrow (hloc.imp (λe=>(Option.some.inj e).symm) id)
def J7 (x0:Int) (a m:Nat) (v:Value):Prop:=∃ c:Bool,v=.bool c/\(c=true↔((x0<128\/a+1=3)/\m<3))
theorem wb_ (v:Value) (ll:List (List Int)) (w:World) (h:wj w v ll) :
  Calls Tryz.prog 42 #[v] w λe w'=>∃ (a:Option Addr) (c:Nat),e=.returned (.agg #[.slice a (sS ll).length c])/\aA w' (λb=>w.heap.size<=b) (.slice a (sS ll).length c) (sS ll)/\qR (sS ll)/\Below w.heap.size w w':=by
 have HR:=ad h;obtain ⟨⟨a1,c1,rfl,_⟩,hn⟩:=h;obtain ⟨n,hnl⟩:∃ n,ll.length=n:=⟨_,rfl⟩;have G_:=ad hnl;simp only [hnl] at hn ⊢;clear hnl;have R7:Hid (∀ i,i<=9->(i=9\/i=n)->(ll.take i).foldl lg []=sS ll):=ad λi h9 h=>by
  rcases h with rfl|rfl
  .rfl
  have e1:ll.take 9=ll:=List.take_of_length_le (by have:=G_.o;omega);have e2:ll.take i=ll:=List.take_of_length_le (by have:=G_.o;omega);unfold sS;rw [e1,e2]
 go_in
 go_wp2_with fail
 have FY:mI w.heap.size w (.slice none 0 0) [] ((w.alloc (.cells #[.slice none 0 0] 57)).alloc (.cells #[.slice none 0 0] 57)):=
  ⟨Ea (Ea (Er w) _) _,(af.new w _ _).alloc _,af.at ag,aY.nil _ _ _,⟨ag,ag,ag,ag⟩,.inl rfl⟩
 have KW:=ad FY;clear FY;go_loopw [4,5,6] (λiv _ _ wr=>∃ (i:Nat) (v:Value) (L:List (Value × List Per)),i<=9/\i<=n/\iv=.int .i64 i/\Hid (L.map Prod.snd=(ll.take i).foldl lg [])/\Hid (mI w.heap.size w v L wr)) (λiv _ _ _=>9-(intOf iv).toNat)
 .exact ⟨0,_,[],aa,aa,rfl,ad rfl,KW⟩
 obtain ⟨i,v,L,gC,hin,rfl,HQ,HS⟩:=hrel;obtain ⟨a2,c2,rfl,hc1,hc2,wT⟩:=HS.o.row.form;obtain ⟨wo,pU⟩:∃ wo,wo=wr:=⟨_,rfl⟩;subst pU;have b3:=HS.o.obx.c0;have BM:L.length<=3:=by have h:=HS.o.md.len;rwa [List.length_map] at h
 by_cases hil:i<n
 .have hilI:(i:Int)<n:=aa;have kf:i<ll.length:=by rw [G_.o];exact hil
  by_cases hi:i<9
  .have z_:(i:Int)<9:=aa;obtain ⟨⟨ZA,c1',he,h3⟩,-⟩:=HR.o.ext HS.o.below;injection he with e1 e2 e3
   subst e1;subst e3;rcases h3 with h0|⟨b,o,rfl,hc⟩
   .rw [h0] at kf;simp at kf
   obtain ⟨u,hcell,hby⟩:=hc i kf;have Hh:=ad (sh_ kf HQ.o);generalize ll.getD i []=l at *;have Ah:=lz_ u l wo hby;have hfw:=JH l;have DC:=ad (vu_ l);have DB:=ad (λm0 t=>to_ (m0:=m0) (t:=t) (l:=l));have DD:=ad (λm0 t=>vt_ (m0:=m0) (t:=t) (l:=l));have LF:=ad (λm0 t=>tp_ (m0:=m0) (t:=t) (l:=l));have RT:=ad hfw;clear hfw;have HBY:=ad hby;have iY:=hby.rng0 0;have tr:=ad (λW (h:Below wo.heap.size wo W)=>Xy u l 0 0 rfl W (hby.ext h) aa);obtain ⟨p,hpl⟩:∃ p,dG l=p:=⟨_,rfl⟩;rw [hpl] at Ah DC DB DD RT;clear hpl kf;generalize l.getD 0 0=x0 at *;obtain ⟨⟨ua,uc,rfl,_⟩,_,_⟩:=hby;clear hc e2;obtain ⟨WK,WM,WN⟩:=RT.o;have Dx:Hid (iw p):=ad ⟨WK,WM,WN⟩;clear WK WM WN;rcases HS.o.last with hL|⟨L0,g,cap,M,hL,dt⟩
   .subst hL;go_wp2_with (first|(go_at_call 80;(refine Ah.mono ?_;rintro e w1 ⟨h',c',rfl,ho,hb1⟩;have gS:iw p:=Dx.o;have jQ:=ho.pv gS.fv;obtain ⟨ya,yn,yc,za,zn,zc,rfl,rfl⟩:=jQ.form;have Be:=ad jQ;have vW:=ad gS;have cz:Below wo.heap.size wo (w1.alloc (.cells #[.slice ya yn yc,.int .i64 p.frm,.int .i64 p.period,.slice za zn zc] 80)):=Ea hb1 _;have zD:=HS.o.ext (Nat.le_refl _) cz;have d3:=zD.obx.cells 0;have k4:=al.cell cz hcell;have qD:=ad hb1.size;have lQ:=ad cz;have dM:=ad zD;have tT:=ad ((jQ.keep (aN.below (Ea (Er w1) (.cells #[.slice ya yn yc,.int .i64 p.frm,.int .i64 p.period,.slice za zn zc] 80)))).mono (G:=λb=>wo.heap.size<=b/\b<(w1.alloc (.cells #[.slice ya yn yc,.int .i64 p.frm,.int .i64 p.period,.slice za zn zc] 80)).heap.size) λb hb=>⟨hb.1,by rw [World.size_alloc];have:=hb.2;omega⟩);clear ho gS jQ cz zD hb1))|(at_builtin;(refine Hz az _ _ az w.heap.size (qH w.heap.size) (.slice a2 ([]:List (Value × List Per)).length c2) ([]:List (Value × List Per)) (.slice (some ⟨w1.heap.size+1,0,none⟩) 1 1,[p]) az (dM.o.row.below (Ea (Ea (Er _) _) _)) (WA (x:=⟨_,_,p⟩) ag HS.o lQ.o tT.o) _ _ az (af.at (c:=#[.slice (some ⟨w1.heap.size+1,0,none⟩) 1 1]) (t:=78) ag).c0 (by have h7:=dM.o.obx.lt;rw [World.size_alloc] at h7;rintro (h|h) <;> simp at h <;> omega) (by simp;try omega) (by have h7:=dM.o.obx.lt;rw [World.size_alloc] at h7;simp;omega) ?_;intro ga gc w8 nr iX ee lp;have Gm:=((dM.o.obx.alloc _).alloc _).grown iX (λe=>HS.o.row.ne _ e.symm (.inr rfl));have d8:=Gm.cells 0;have yz:=ad nr;have tz:=ad iX;have gG:=ad ee;have qg:=ad lp;clear Gm nr iX ee lp)));go_roundw
    .exact ⟨i+1,.slice ga (([]:List (Value × List Per)).length+1) gc,[] ++ [(.slice (some ⟨w1.heap.size+1,0,none⟩) 1 1,[p])],aa,aa,by go_num,ad (by rw [<- Hh.o];exact DC.o.symm),ad (mI.new (x:=⟨_,_,p⟩) ag HS.o lQ.o tT.o vW.o ag yz.o tz.o gG.o (by have h:=qg.o;simp only [World.size_alloc] at h;exact h))⟩
    simp [intOf];omega
   subst hL;have hle:(L0 ++ [((Value.slice (some ⟨g,0,none⟩) M.length cap),M.map PV.p)]).length=L0.length+1:=by simp
   obtain ⟨ab,rfl⟩:∃ ab,a2=some ⟨ab,0,none⟩:=wT.resolve_left (by rw [hle];omega);have OI:wo.cell? ⟨ab,L0.length,none⟩=some (.slice (some ⟨g,0,none⟩) M.length cap):=by
    have h9:=(HS.o.row.get rfl (k:=L0.length) (by rw [hle];omega)).2.1;rw [h9];simp
   have hM1:=dt.len;have kz:=ad dt;rw [hle] at b3 BM;clear dt wT;have jC:=ad hle;go_upto_region 7 with (go_at_call 80;(refine Ah.mono ?_;rintro e w1 ⟨h',c',rfl,ho,hb1⟩;have gS:iw p:=Dx.o;have jQ:=ho.pv gS.fv;obtain ⟨ya,yn,yc,za,zn,zc,rfl,rfl⟩:=jQ.form;have Be:=ad jQ;have vW:=ad gS;have cz:Below wo.heap.size wo (w1.alloc (.cells #[.slice ya yn yc,.int .i64 p.frm,.int .i64 p.period,.slice za zn zc] 80)):=Ea hb1 _;have zD:=HS.o.ext (Nat.le_refl _) cz;have d3:=zD.obx.cells 0;have k4:=al.cell cz hcell;have qD:=ad hb1.size;have lQ:=ad cz;have dM:=ad zD;have tT:=ad ((jQ.keep (aN.below (Ea (Er w1) (.cells #[.slice ya yn yc,.int .i64 p.frm,.int .i64 p.period,.slice za zn zc] 80)))).mono (G:=λb=>wo.heap.size<=b/\b<(w1.alloc (.cells #[.slice ya yn yc,.int .i64 p.frm,.int .i64 p.period,.slice za zn zc] 80)).heap.size) λb hb=>⟨hb.1,by rw [World.size_alloc];have:=hb.2;omega⟩);clear ho gS jQ cz zD hb1))
   refine Code.wp_mono (Q:=λe a' W'=>e=.normal/\(∃ (Ht:Value) (z26 Ci z28 Cj Ck z31 Cl z33 Cm Cn Co z37 Cp Cq z40 Cr Cs Ru z44 Rv z46 Rw Rx:Value),a'=⟨#[.slice (some ⟨b,o,none⟩) n c1,undef,.pointer (some ⟨w.heap.size,0,none⟩),.pointer (some ⟨w.heap.size+1,0,none⟩),.int .i64 ↑i,.int .i64 (↑L0.length+1),.pointer (some ⟨w1.heap.size,0,none⟩),.agg #[.slice none 0 0],.int .i64 ↑i,.slice (some ⟨b,o,none⟩) n c1,.int .i64 ↑n,.bool true,.bool true,.int .i64 ↑i,.bool true,.bool true,u16,u17,.pointer (some ⟨w.heap.size+1,0,none⟩),.slice (some ⟨ab,0,none⟩) (L0.length+1) c2,.int .i64 (↑L0.length+1),.slice (some ⟨b,o,none⟩) n c1,.int .i64 ↑i,.pointer (some ⟨b,o+i,none⟩),.slice ua l.length uc,an (.slice ya yn yc) (.slice za zn zc) p.frm p.period,z26,Ci,z28,Cj,Ck,z31,Cl,z33,Cm,Cn,Co,z37,Cp,Cq,z40,Cr,Cs,Ru,z44,Rv,z46,Rw,Rx,Ht,u50,u51,u52,u53,u54,u55,u56,u57,u58,u59,u60,u61,u62,u63,u64,u65,u66,u67,u68,u69,u70,u71,u72,undef],[]⟩/\J7 x0 L0.length M.length Ht)/\Below (w1.alloc (.cells #[.slice ya yn yc,.int .i64 p.frm,.int .i64 p.period,.slice za zn zc] 80)).heap.size (w1.alloc (.cells #[.slice ya yn yc,.int .i64 p.frm,.int .i64 p.period,.slice za zn zc] 80)) W') ?imp ?reg
   case reg=>
    by_cases hM:M.length<3
    .have IK:(M.length:Int)<3:=aa;go_wp2_with (go_at_call 81;(refine (tr.o _ lQ.o).mono ?_;rintro e w3 ⟨rfl,hb3⟩;have e3:=(dM.o.ext (Nat.le_refl _) hb3).obx.c0;rw [hle] at e3;have f3:=al.cell (Et lQ.o hb3) OI));all_goals refine ⟨⟨_,rfl,?_⟩,hb3.mono ag⟩
     all_goals simp only [Bool.or_eq_true,Bool.and_eq_true,decide_eq_true_eq,beq_iff_eq,Bool.false_eq_true,false_iff,true_iff]
     all_goals omega
    have IK:¬ (M.length:Int)<3:=aa;go_wp2_with (go_at_call 81;(refine (tr.o _ lQ.o).mono ?_;rintro e w3 ⟨rfl,hb3⟩;have e3:=(dM.o.ext (Nat.le_refl _) hb3).obx.c0;rw [hle] at e3;have f3:=al.cell (Et lQ.o hb3) OI));all_goals refine ⟨⟨_,rfl,?_⟩,hb3.mono ag⟩
    all_goals simp only [Bool.or_eq_true,Bool.and_eq_true,decide_eq_true_eq,beq_iff_eq,Bool.false_eq_true,false_iff,true_iff]
    all_goals omega
   case imp=>
    rintro e a' w3 ⟨rfl,⟨ZG,z26,Ci,z28,Cj,Ck,z31,Cl,z33,Cm,Cn,Co,z37,Cp,Cq,z40,Cr,Cs,Ru,z44,Rv,z46,Rw,Rx,rfl,hcnd⟩,hb3⟩;obtain ⟨Ht,rfl,hcnd⟩:=hcnd;have tw:=ad hcnd;clear hcnd;have tx:=ad (Et lQ.o hb3);have N5:=dM.o.ext (Nat.le_refl _) hb3;have fx:=ad N5;have e3:=N5.obx.cells 0;rw [hle] at e3;have f3:=al.cell tx.o OI;have bJ:=(af.new w1 #[.slice ya yn yc,.int .i64 p.frm,.int .i64 p.period,.slice za zn zc] 80).below hb3;have p0:=(bJ.cells 0).1;have p1:=(bJ.cells 1).1;have p2:=(bJ.cells 2).1;have p3:=(bJ.cells 3).1;have yy:=ad ((tT.o.keep (aN.below hb3)).mono (G:=λb=>wo.heap.size<=b/\b<w3.heap.size) λb hb=>⟨hb.1,Nat.lt_of_lt_of_le hb.2 hb3.size⟩);have hw13:w1.heap.size<w3.heap.size:=by have:=hb3.size;rw [World.size_alloc] at this;omega
    clear N5 hb3 bJ;cases Ht
    .by_cases h3:L0.length+1<3
     .have ZR:(L0.length:Int)+1<3:=aa;go_wp2_with (at_builtin;(refine Hz az _ _ az w.heap.size (qH w.heap.size) (.slice (some ⟨ab,0,none⟩) (L0 ++ [((Value.slice (some ⟨g,0,none⟩) M.length cap),M.map PV.p)]).length c2) (L0 ++ [((Value.slice (some ⟨g,0,none⟩) M.length cap),M.map PV.p)]) (.slice (some ⟨w3.heap.size,0,none⟩) 1 1,[p]) (by rw [hle];rfl) (fx.o.row.below (Ea (Ea (Er _) _) _)) (WA (x:=⟨_,_,p⟩) rfl HS.o tx.o yy.o) _ _ az (af.at (c:=#[.slice (some ⟨w3.heap.size,0,none⟩) 1 1]) (t:=78) ag).c0 (by have h7:=fx.o.obx.lt;rintro (h|h) <;> simp at h <;> omega) (by simp;try omega) (by have h7:=fx.o.obx.lt;simp;omega) ?_;intro ga gc w8 nr iX ee lp;have Gm:=((fx.o.obx.alloc _).alloc _).grown iX (λe=>HS.o.row.ne _ e.symm (.inr rfl));have d8:=Gm.cells 0;have yz:=ad nr;have tz:=ad iX;have gG:=ad ee;have qg:=ad lp;clear Gm nr iX ee lp));go_roundw
      .have h9:=mI.new (x:=⟨_,_,p⟩) rfl HS.o tx.o yy.o vW.o (by rw [hle];omega) yz.o tz.o gG.o (by have h:=qg.o;simp only [World.size_alloc] at h;exact h);rw [hle] at h9;exact ⟨i+1,_,_,aa,aa,by go_num,ad (by rw [<- Hh.o];simp only [List.map_append,List.map_cons,List.map_nil];exact (DD.o _ _ (λh=>by have:=tw.o.2 (by simpa using h);cases this) (by simpa using h3)).symm),ad h9⟩
      simp [intOf];omega
     have ZR:¬ (L0.length:Int)+1<3:=aa;go_wp2;go_roundw
     .have h9:=fx.o;rw [hle] at h9;exact ⟨i+1,_,_,aa,aa,by go_num,ad (by rw [<- Hh.o];simp only [List.map_append,List.map_cons,List.map_nil];exact (LF.o _ _ (λh=>by have:=tw.o.2 (by simpa using h);cases this) (by simpa using h3)).symm),ad h9⟩
     simp [intOf];omega
    have HM:=ad (tw.o.1 ag).2;go_wp2_with fail;have lh:w3.cell? ⟨w.heap.size+1,0,none⟩=some (.slice (some ⟨ab,0,none⟩) (L0.length+1) c2):=e3.1;have dt:=kz.o;have OH:some (w.heap.size+1)≠some g:=λe=>dt.g.2.1 (.inr (Option.some.inj e).symm);have uX:some ab≠some g:=λe=>dt.g.2.2 e;have FC:=(dt.own.lt g rfl).2;have AC:=lQ.o.size;have hw1l:wo.heap.size<=w1.heap.size:=qD.o;have uY:some w1.heap.size≠some g:=λe=>by have:=Option.some.inj e;omega
    have HOW:=ad (λW (h:Below w3.heap.size w3 W)=>((dt.ext tx.o).ext h).own);have hbz3:w.heap.size<=w3.heap.size:=by have:=fx.o.obx.lt;omega
    have hgl3:g<w3.heap.size:=by have:=tx.o.size;omega
    clear dt;refine Ni (w0:=w3) (some g) 12 [0,1,2,3,4,5,6,7,8,9,10,11,12,13] [14] (λv=>⟨#[.slice (some ⟨b,o,none⟩) n c1,undef,.pointer (some ⟨w.heap.size,0,none⟩),.pointer (some ⟨w.heap.size+1,0,none⟩),.int .i64 ↑i,.int .i64 (↑L0.length+1),.pointer (some ⟨w1.heap.size,0,none⟩),.agg #[.slice none 0 0],.int .i64 ↑i,.slice (some ⟨b,o,none⟩) n c1,.int .i64 ↑n,.bool true,.bool true,.int .i64 ↑i,.bool true,.bool true,u16,u17,.pointer (some ⟨w.heap.size+1,0,none⟩),.slice (some ⟨ab,0,none⟩) (L0.length+1) c2,.int .i64 (↑L0.length+1),.slice (some ⟨b,o,none⟩) n c1,.int .i64 ↑i,.pointer (some ⟨b,o+i,none⟩),.slice ua l.length uc,an (.slice ya yn yc) (.slice za zn zc) p.frm p.period,z26,Ci,z28,Cj,Ck,z31,Cl,z33,Cm,Cn,Co,z37,Cp,Cq,z40,Cr,Cs,Ru,z44,Rv,z46,Rw,Rx,.bool true,v 0,v 1,v 2,v 3,v 4,v 5,v 6,v 7,v 8,v 9,v 10,v 11,v 12,v 13,u64,u65,u66,u67,u68,u69,u70,u71,u72,undef],[]⟩) (λj=>match j with|0=>u50|1=>u51|2=>u52|3=>u53|4=>u54|5=>u55|6=>u56|7=>u57|8=>u58|9=>u59|10=>u60|11=>u61|12=>u62|13=>u63|_=>undef)
     (λi v lo hi W=>match i with
      | 0=>v 0=.pointer (some ⟨w.heap.size+1,0,none⟩)
      | 1=>v 1=.slice (some ⟨ab,0,none⟩) (L0.length+1) c2
      | 2=>v 2=.int .i64 (L0.length+1)
      | 3=>v 3=.int .i64 L0.length
      | 4=>v 4=.pointer (some ⟨w.heap.size+1,0,none⟩)
      | 5=>v 5=.slice (some ⟨ab,0,none⟩) (L0.length+1) c2
      | 6=>v 6=.int .i64 (L0.length+1)
      | 7=>v 7=.int .i64 L0.length
      | 8=>v 8=.pointer (some ⟨ab,L0.length,none⟩)
      | 9=>v 9=.slice (some ⟨g,0,none⟩) M.length cap
      | 10=>v 10=an (.slice ya yn yc) (.slice za zn zc) p.frm p.period
      | 11=>v 11=.slice (some ⟨lo 11,0,none⟩) 1 1/\lo 11<hi 11/\w3.heap.size<=lo 11/\hi 11<=W.heap.size/\af W (lo 11) #[.slice ya yn yc,.int .i64 p.frm,.int .i64 p.period,.slice za zn zc] 80
      | 12=>∃ g' cap',v 12=.slice (some ⟨g',0,none⟩) (M.length+1) cap'/\W.ownsRow w.heap.size 80 4 (.slice (some ⟨g',0,none⟩) (M.length+1) cap') (M.length+1) ((M ++ [(⟨.slice ya yn yc,.slice za zn zc,p⟩:PV)]).flatMap PV.enc)/\(g'=g\/w3.heap.size<=g')
      | 13=>v 13=.pointer (some ⟨ab,L0.length,none⟩)
      | _=>True)
     (λW=>W.cell? ⟨w.heap.size+1,0,none⟩=some (.slice (some ⟨ab,0,none⟩) (L0.length+1) c2)/\W.cell? ⟨ab,L0.length,none⟩=some (.slice (some ⟨g,0,none⟩) M.length cap)/\W.cell? ⟨w1.heap.size,0,none⟩=some (.slice ya yn yc)/\W.cell? ⟨w1.heap.size,1,none⟩=some (.int .i64 p.frm)/\W.cell? ⟨w1.heap.size,2,none⟩=some (.int .i64 p.period)/\W.cell? ⟨w1.heap.size,3,none⟩=some (.slice za zn zc)) rfl (by kernel_rfl) aF rfl ?stab ?loc (λW hb=>⟨hb.cell lh OH,hb.cell f3 uX,hb.cell p0 uY,hb.cell p1 uY,hb.cell p2 uY,hb.cell p3 uY⟩) ?steps ?fin
    case stab=>
     rintro (_|_|_|_|_|_|_|_|_|_|_|_|_|_|i) v lo hi W W' h hb
     .exact h
     .exact h
     .exact h
     .exact h
     .exact h
     .exact h
     .exact h
     .exact h
     .exact h
     .exact h
     .exact h
     .rw [if_neg aF] at hb;exact ⟨h.1,h.2.1,h.2.2.1,Nat.le_trans h.2.2.2.1 hb.size,(hb.block (lo 11) (by have:=h.2.1;have:=h.2.2.2.1;omega) (λe=>by have h7:lo 11=g:=Option.some.inj e;have:=h.2.2.1;omega)).trans h.2.2.2.2⟩
     .rw [if_pos rfl] at hb;exact (let ⟨g',cap',e,ho,hl⟩:=h;⟨g',cap',e,ho.kept (row:=none) (World.grownBy.of_below hb _) (by right;simp [Value.ownBlock]),hl⟩)
     .exact h
     trivial
    case loc=>
     rintro (_|_|_|_|_|_|_|_|_|_|_|_|_|_|i) v v' lo lo' hi hi' W aC h
     .exact (aC 0 (.inl rfl)).1 ▸ h
     .exact (aC 1 (.inl rfl)).1 ▸ h
     .exact (aC 2 (.inl rfl)).1 ▸ h
     .exact (aC 3 (.inl rfl)).1 ▸ h
     .exact (aC 4 (.inl rfl)).1 ▸ h
     .exact (aC 5 (.inl rfl)).1 ▸ h
     .exact (aC 6 (.inl rfl)).1 ▸ h
     .exact (aC 7 (.inl rfl)).1 ▸ h
     .exact (aC 8 (.inl rfl)).1 ▸ h
     .exact (aC 9 (.inl rfl)).1 ▸ h
     .exact (aC 10 (.inl rfl)).1 ▸ h
     .have q:=aC 11 (.inl rfl);have pX:=aC 10 (.inr (bI (by kernel_rfl)))
      (try dsimp only at h ⊢);(try simp only [q.1,q.2.1,q.2.2,pX.1,pX.2.1,pX.2.2] at h);exact h
     .have q:=aC 12 (.inl rfl);have q9:=aC 9 (.inr (bI (by kernel_rfl)));have nz:=aC 11 (.inr (bI (by kernel_rfl)))
      (try dsimp only at h ⊢);(try simp only [q.1,q.2.1,q.2.2,q9.1,q9.2.1,q9.2.2,nz.1,nz.2.1,nz.2.2] at h);exact h
     .exact (aC 13 (.inl rfl)).1 ▸ h
     trivial
    case steps=>
     refine cg.cons rfl ?_ (cg.cons rfl ?_ (cg.cons rfl ?_ (cg.cons rfl ?_ (cg.cons rfl ?_ (cg.cons rfl ?_ (cg.cons rfl ?_ (cg.cons rfl ?_ (cg.cons rfl ?_ (cg.cons rfl ?_ (cg.cons rfl ?_ (cg.cons rfl ?_ (cg.cons rfl ?_ (cg.cons rfl ?_ cg.nil)))))))))))))
     .rintro v lo hi W hb aW ⟨g0,g1,g2,g3,g4,g5⟩ hd K hK;replace hK:=λx W' (h:Below W.heap.size W W')=>hK x W' (by rw [if_neg aF];exact h);clear aW;clear hd;dsimp only;go_wp2;exact aU (hK (.pointer (some ⟨w.heap.size+1,0,none⟩)) W (Below.refl _ _) rfl) ag
     .rintro v lo hi W hb aW ⟨g0,g1,g2,g3,g4,g5⟩ hd K hK;replace hK:=λx W' (h:Below W.heap.size W W')=>hK x W' (by rw [if_neg aF];exact h);clear aW;have e0:v 0=.pointer (some ⟨w.heap.size+1,0,none⟩):=(hd 0 (bI (by kernel_rfl))).2.2;clear hd;dsimp only
      (try simp only [e0])
      go_wp2
      exact aU (hK (.slice (some ⟨ab,0,none⟩) (L0.length+1) c2) W (Below.refl _ _) rfl) (by simp [e0])
     .rintro v lo hi W hb aW ⟨g0,g1,g2,g3,g4,g5⟩ hd K hK;replace hK:=λx W' (h:Below W.heap.size W W')=>hK x W' (by rw [if_neg aF];exact h);clear aW;clear hd;dsimp only;go_wp2;exact aU (hK (.int .i64 (L0.length+1)) W (Below.refl _ _) rfl) ag
     .rintro v lo hi W hb aW ⟨g0,g1,g2,g3,g4,g5⟩ hd K hK;replace hK:=λx W' (h:Below W.heap.size W W')=>hK x W' (by rw [if_neg aF];exact h);clear aW;have e2:v 2=.int .i64 (L0.length+1):=(hd 2 (bI (by kernel_rfl))).2.2;clear hd;dsimp only
      (try simp only [e2])
      go_wp2
      exact aU (hK (.int .i64 L0.length) W (Below.refl _ _) rfl) (by simp [e2])
     .rintro v lo hi W hb aW ⟨g0,g1,g2,g3,g4,g5⟩ hd K hK;replace hK:=λx W' (h:Below W.heap.size W W')=>hK x W' (by rw [if_neg aF];exact h);clear aW;clear hd;dsimp only;go_wp2;exact aU (hK (.pointer (some ⟨w.heap.size+1,0,none⟩)) W (Below.refl _ _) rfl) ag
     .rintro v lo hi W hb aW ⟨g0,g1,g2,g3,g4,g5⟩ hd K hK;replace hK:=λx W' (h:Below W.heap.size W W')=>hK x W' (by rw [if_neg aF];exact h);clear aW;have e4:v 4=.pointer (some ⟨w.heap.size+1,0,none⟩):=(hd 4 (bI (by kernel_rfl))).2.2;clear hd;dsimp only
      (try simp only [e4])
      go_wp2
      exact aU (hK (.slice (some ⟨ab,0,none⟩) (L0.length+1) c2) W (Below.refl _ _) rfl) (by simp [e4])
     .rintro v lo hi W hb aW ⟨g0,g1,g2,g3,g4,g5⟩ hd K hK;replace hK:=λx W' (h:Below W.heap.size W W')=>hK x W' (by rw [if_neg aF];exact h);clear aW;clear hd;dsimp only;go_wp2;exact aU (hK (.int .i64 (L0.length+1)) W (Below.refl _ _) rfl) ag
     .rintro v lo hi W hb aW ⟨g0,g1,g2,g3,g4,g5⟩ hd K hK;replace hK:=λx W' (h:Below W.heap.size W W')=>hK x W' (by rw [if_neg aF];exact h);clear aW;have e6:v 6=.int .i64 (L0.length+1):=(hd 6 (bI (by kernel_rfl))).2.2;clear hd;dsimp only
      (try simp only [e6])
      go_wp2
      exact aU (hK (.int .i64 L0.length) W (Below.refl _ _) rfl) (by simp [e6])
     .rintro v lo hi W hb aW ⟨g0,g1,g2,g3,g4,g5⟩ hd K hK;replace hK:=λx W' (h:Below W.heap.size W W')=>hK x W' (by rw [if_neg aF];exact h);clear aW;have e5:v 5=.slice (some ⟨ab,0,none⟩) (L0.length+1) c2:=(hd 5 (bI (by kernel_rfl))).2.2;have e7:v 7=.int .i64 L0.length:=(hd 7 (bI (by kernel_rfl))).2.2;clear hd;dsimp only
      (try simp only [e5,e7])
      go_wp2
      exact aU (hK (.pointer (some ⟨ab,L0.length,none⟩)) W (Below.refl _ _) rfl) (by simp [e5,e7])
     .rintro v lo hi W hb aW ⟨g0,g1,g2,g3,g4,g5⟩ hd K hK;replace hK:=λx W' (h:Below W.heap.size W W')=>hK x W' (by rw [if_neg aF];exact h);clear aW;have e8:v 8=.pointer (some ⟨ab,L0.length,none⟩):=(hd 8 (bI (by kernel_rfl))).2.2;clear hd;dsimp only
      (try simp only [e8])
      go_wp2
      exact aU (hK (.slice (some ⟨g,0,none⟩) M.length cap) W (Below.refl _ _) rfl) (by simp [e8])
     .rintro v lo hi W hb aW ⟨g0,g1,g2,g3,g4,g5⟩ hd K hK;replace hK:=λx W' (h:Below W.heap.size W W')=>hK x W' (by rw [if_neg aF];exact h);clear aW;clear hd;dsimp only;go_wp2;exact aU (hK (an (.slice ya yn yc) (.slice za zn zc) p.frm p.period) W (Below.refl _ _) rfl) (by simp [ite_true])
     .rintro v lo hi W hb aW ⟨g0,g1,g2,g3,g4,g5⟩ hd K hK;replace hK:=λx W' (h:Below W.heap.size W W')=>hK x W' (by rw [if_neg aF];exact h);clear aW;have h_:v 10=an (.slice ya yn yc) (.slice za zn zc) p.frm p.period:=(hd 10 (bI (by kernel_rfl))).2.2;clear hd;dsimp only
      (try simp only [h_])
      go_wp2
      exact aU (hK (.slice (some ⟨W.heap.size,0,none⟩) 1 1) _ (Ea (Er _) _) ⟨rfl,ag,hb.size,ag,af.new _ _ _⟩) (by simp [h_])
     .rintro v lo hi W hb aW ⟨g0,g1,g2,g3,g4,g5⟩ hd K hK;replace hK:=λx W' (h:W.grownBy W' (some g))=>hK x W' (by rw [if_pos rfl];exact h);replace aW:=aW rfl;have e9:v 9=.slice (some ⟨g,0,none⟩) M.length cap:=(hd 9 (bI (by kernel_rfl))).2.2;obtain ⟨Qw,Qz,GR⟩:=hd 11 (bI (by kernel_rfl));clear hd;dsimp only
      (try simp only [e9])
      obtain ⟨e11,ZN,ZO,ZP,Nt⟩:=GR;refine pt_ W _ _ az w.heap.size g cap M ⟨.slice ya yn yc,.slice za zn zc,p⟩ (by first|rfl|exact e9) (HOW.o _ aW) (lo 11) 1 (by first|exact e11|(simp [e11];done)) Nt (PV.enc_one _ rfl rfl) (by have:=HM.o;omega) (by have h8:=aW.size;omega) ?_;intro g' cap' w9 au aq aK;exact aU (hK (.slice (some ⟨g',0,none⟩) (M.length+1) cap') w9 aq ⟨g',cap',rfl,au,aK.imp id (λe=>by rw [e];exact hb.size)⟩) (by simp only [e9];rfl)
     rintro v lo hi W hb aW ⟨g0,g1,g2,g3,g4,g5⟩ hd K hK;replace hK:=λx W' (h:Below W.heap.size W W')=>hK x W' (by rw [if_neg aF];exact h);clear aW;have e1:v 1=.slice (some ⟨ab,0,none⟩) (L0.length+1) c2:=(hd 1 (bI (by kernel_rfl))).2.2;have e3:v 3=.int .i64 L0.length:=(hd 3 (bI (by kernel_rfl))).2.2;clear hd;dsimp only
     (try simp only [e1,e3])
     go_wp2
     exact aU (hK (.pointer (some ⟨ab,L0.length,none⟩)) W (Below.refl _ _) rfl) (by simp [e1,e3])
    case fin=>
     rintro v lo hi9' W9 sV ⟨g0,g1,-,-,-,-⟩ hf hap;show wpList _ _ _ [_] _ _;have mT:v 13=.pointer (some ⟨ab,L0.length,none⟩):=(hf 13 rfl).2.2.2;obtain ⟨-,-,-,g',cap',fL,au,aK⟩:=hf 12 rfl;clear hf hap;dsimp only;rw [mT,fL];clear fL mT;have xj:=fx.o.row.row;have fz:W9.frozen? ⟨ab,L0.length,none⟩=false:=(sV.frozen_far _ (xj.lt ab rfl).2 uX).trans (xj.frozenAt L0.length);have iN:=ad sV;have ir:=ad au;have De:=ad aK;clear xj sV au aK;generalize v 0=z0,v 1=z1,v 2=z2,v 3=z3,v 4=z4,v 5=z5,v 6=z6,v 7=z7,v 8=z8,v 9=z9,v 10=xL,v 11=xM;go_wp2;go_roundw
     .have h8:=HS.o;have h7:=kz.o;rw [hle] at h8 h7;exact ⟨i+1,_,_,aa,aa,by go_num,ad (by rw [<- Hh.o];simp only [List.map_append,List.map_cons,List.map_nil];exact (DB.o _ _ (by simpa using tw.o.1 ag)).symm),ad (mI.more h8 h7 tx.o yy.o vW.o HM.o iN.o ir.o De.o)⟩
     simp [intOf];omega
  obtain rfl:i=9:=aa;have r2:=HS.o.rbx.cells 0;go_wp2_with fail;have cd:=HS.o.row.box (World.grownBy.set' (i:=0) ⟨rfl,rfl,rfl,Nat.le_refl _,λ_ _ _=>rfl⟩ (.slice a2 L.length c2)) (.inl rfl);have hcc:=af.c0 (br 0 (.slice a2 L.length c2) HS.o.rbx);exact bodyPost_ret (v:=.agg #[.slice a2 L.length c2]) (by simp [results,Tryz.results42,go_sem,hcc]) rfl (by rw [<- R7.o _ gC ag,<- HQ.o];exact ⟨a2,c2,by rw [List.length_map],⟨L,rfl,by rw [List.length_map];exact cd.mix⟩,HS.o.md,HS.o.below.setCell (p:=⟨w.heap.size,0,none⟩) (Nat.le_refl _) _⟩)
 obtain rfl:i=n:=aa;have r2:=HS.o.rbx.cells 0;go_wp2_with fail;have cd:=HS.o.row.box (World.grownBy.set' (i:=0) ⟨rfl,rfl,rfl,Nat.le_refl _,λ_ _ _=>rfl⟩ (.slice a2 L.length c2)) (.inl rfl);have hcc:=af.c0 (br 0 (.slice a2 L.length c2) HS.o.rbx);exact bodyPost_ret (v:=.agg #[.slice a2 L.length c2]) (by simp [results,Tryz.results42,go_sem,hcc]) rfl (by rw [<- R7.o _ gC ag,<- HQ.o];exact ⟨a2,c2,by rw [List.length_map],⟨L,rfl,by rw [List.length_map];exact cd.mix⟩,HS.o.md,HS.o.below.setCell (p:=⟨w.heap.size,0,none⟩) (Nat.le_refl _) _⟩)
theorem xt_ (a m:Int) (w:World) (ha:0<=a) (ha1:a<=9007199254740992) (h2:2<=m) (hm:m<=4294967295) (hg:Int.gcd a m=1) :
  Calls Tryz.prog 219 #[.int .i64 a,.int .i64 m] w λe w'=>∃ r,e=.returned (.int .i64 r)/\MT a m r/\∃ n,w'=w.drewN n:=by
 have HS:=ad (jV.start ha h2 hg);have r0:=Int.emod_nonneg a (show m≠0 by omega);have r1:=Int.emod_lt_of_pos a (show 0<m by omega);clear hg
 go_in
 go_wp2_with fail
 repeat (go_quiet (fail);go_wp2_with fail)
 go_loopw [5,6,7,8] (λvx vy vu vv wr=>∃ x y u v U V:Int,vx=.int .i64 x/\vy=.int .i64 y/\vu=.int .i64 u/\vv=.int .i64 v/\jV a m x y u v U V/\∃ n,wr=w.drewN n) (λvx _ _ _ _=>(intOf vx).toNat)
 .exact ⟨_,_,_,_,_,_,rfl,rfl,rfl,rfl,HS.o,0,rfl⟩
 obtain ⟨x,y,u,v,U,V,rfl,rfl,rfl,rfl,hE,n,rfl⟩:=hrel;have x1:=hE.x1;have xy:=hE.xy;have ym:=hE.ym;by_cases hz:1<x
 .obtain ⟨cz,h1,h2',h3,h4,h5,h6,h7,h8⟩:=hE.step hz;have y1:=cz.x1;have y2:=cz.xy;have HE:=ad cz;clear hE cz;go_wp2_with fail
  repeat (go_quiet (fail);go_wp2_with fail)
  go_roundw
  .exact ⟨_,_,_,_,_,_,rfl,rfl,rfl,rfl,HE.o,_,rfl⟩
  simp [intOf];omega
 obtain ⟨h1,h2',h3,h4,h5,h6⟩:=hE.fin hz h2;have u0:=Int.emod_nonneg u (show m≠0 by omega);have u1:=Int.emod_lt_of_pos u (show 0<m by omega);have H3:=ad h3;have H6:=ad h6;clear h3 h6 hE;go_wp2_with fail
 repeat (go_quiet (fail);go_wp2_with fail)
 go_ret;exact ⟨_,rfl,⟨by rw [H3.o];exact u0,by rw [H3.o];exact u1,by rw [H3.o];exact H6.o⟩,n,rfl⟩
theorem ua_ (at_ step r P:Int) (w:World) (h0:0<=at_) (h1:at_<step) (r0:0<=r) (r1:r<P) (hs:step<=27720) (hp:P<=27720) :
  Calls Tryz.prog 186 #[.agg #[.int .i64 at_,.int .i64 step],.int .i64 r,.int .i64 P] w λe w'=>∃ a s b,e=.returned (.tuple #[.agg #[.int .i64 a,.int .i64 s],.bool b])/\mM at_ step r P a s b/\Below w.heap.size w w':=by
 have s1:1<=step:=aa;have p1:1<=P:=aa;have hg:=nL (b:=P) s1;have hg2:=wi (a:=step) p1;have HG:=λW=>zf step P W s1 aa p1 aa;have gX:=λh=>ad (Xj (at_:=at_) (step:=step) (r:=r) (P:=P) h);have tq:=λh hn=>ad (xo_ (at_:=at_) (step:=step) (r:=r) (P:=P) s1 h0 h1 p1 h hn);have tO:=λinv h hi=>ad (xr_ (at_:=at_) (step:=step) (r:=r) (P:=P) (inv:=inv) s1 h0 h1 p1 rfl rfl h hi);have iA:=z9_ (a:=step) (b:=P) s1;have rA:((Int.gcd step P:Nat):Int)∣step:=Int.gcd_dvd_left ..;have hdr:((Int.gcd step P:Nat):Int)∣P:=Int.gcd_dvd_right ..;generalize ((Int.gcd step P:Nat):Int)=g at *;have jR:(r-at_).tmod g=0↔(r-at_) % g=0:=by
  constructor
  .exact λh=>Int.emod_eq_zero_of_dvd (Int.dvd_of_tmod_eq_zero h)
  exact λh=>Int.tmod_eq_zero_of_dvd (Int.dvd_of_emod_eq_zero h)
 by_cases hd:(r-at_) % g=0
 .have hT:=jR.2 hd;have mf:1<=P / g:=(Int.le_ediv_iff_mul_le aa).2 aa;have B7:P / g<=P:=Int.ediv_le_self _ aa;have htn:P.tdiv g=P / g:=Int.tdiv_eq_ediv_of_dvd hdr;by_cases hn:P / g=1
  .have HA:=tq hd hn;rw [hn] at htn;clear gX tq tO hd hn mf B7 iA jR rA hdr
   go_in
   go_wp2_with (go_at_call 176;(refine (HG _).mono ?_;rintro e w1 ⟨rfl,nq,rfl⟩))
   exact bodyPost_ret (v:=.tuple #[.agg #[.int .i64 at_,.int .i64 step],.bool true]) (by simp [results,Tryz.results186,go_sem]) rfl ⟨_,_,_,rfl,HA.o,xE⟩
  have HO:=λinv hi=>tO inv hd hi;have Jn:(r-at_).tdiv g=(r-at_) / g:=Int.tdiv_eq_ediv_of_dvd (Int.dvd_of_emod_eq_zero hd);have ef:=U4 (x:=r-at_) (B:=27720) hg.1 aa aa aa;have hsg:step.tdiv g=step / g:=Int.tdiv_eq_ediv_of_dvd rA;have hs1:1<=step / g:=(Int.le_ediv_iff_mul_le aa).2 aa;have hs2:step / g<=step:=Int.ediv_le_self _ aa;generalize P / g=n at *;generalize step / g=sg at *;generalize (r-at_) / g=q0 at *;have Ja:2<=n:=aa;have t1:=Int.tmod_lt_of_pos q0 (show 0<n by omega);have t2:=Int.lt_tmod_of_pos q0 (show 0<n by omega);have t3:q0.tmod n % n=q0 % n:=uh ⟨-(q0.tdiv n),by have:=Int.mul_tdiv_add_tmod q0 n;rw [Int.mul_neg];omega⟩;have t4:=Int.emod_nonneg q0 (show n≠0 by omega);have t5:=Int.emod_lt_of_pos q0 (show 0<n by omega);have KE:=λW=>xt_ sg n W aa aa Ja aa iA;obtain ⟨t0,xo⟩:∃ t0,q0.tmod n=t0:=⟨_,rfl⟩;rw [xo] at t1 t2 t3;generalize q0 % n=wn at *;have Fk:-27720<=t0+n:=aa;have fQ:0<=step*n/\step*n<=768398400:=⟨Int.mul_nonneg aa aa,Int.mul_le_mul (show step<=27720 from hs) (show n<=27720 by omega) aa aa⟩;clear gX tq tO hd hn mf iA jR rA hdr
  go_in
  go_wp2_with (first|(go_at_call 176;(refine (HG _).mono ?_;rintro e w1 ⟨rfl,nq,rfl⟩))|(go_at_call 219;(refine (KE _).mono ?_;rintro e w2 ⟨inv,rfl,hinv,QR,rfl⟩;have i0:=hinv.1;have i1:=hinv.2.1;have HI:=ad (HO inv hinv.2.2);have hp:0<=wn*inv/\wn*inv<=768398400:=⟨Int.mul_nonneg aa aa,Int.mul_le_mul (show wn<=27720 by omega) (show inv<=27720 by omega) aa aa⟩;have hk0:=Int.emod_nonneg (wn*inv) (show n≠0 by omega);have Ac:=Int.emod_lt_of_pos (wn*inv) (show 0<n by omega);have hq:0<=(wn*inv % n)*step/\(wn*inv % n)*step<=768398400:=⟨Int.mul_nonneg aa aa,Int.mul_le_mul (show wn*inv % n<=27720 by omega) (show step<=27720 from hs) aa aa⟩;clear hinv))|(go_at_call 218;first
    | ((with_reducible refine (Ia wn inv _ aa aa aa aa).mono ?_);rintro e w3 ⟨rfl,rfl⟩)
    | ((with_reducible refine (Ia (wn*inv % n) step _ aa aa aa aa).mono ?_);rintro e w3 ⟨rfl,rfl⟩)
    | ((with_reducible refine (Ia step n _ aa aa aa aa).mono ?_);rintro e w3 ⟨rfl,rfl⟩))|(go_at_call 220;(refine (UP _ _ _ hp.1 aa aa aa).mono ?_;rintro e w4 ⟨rfl,nq3,rfl⟩)))
  exact bodyPost_ret (v:=.tuple #[.agg #[.int .i64 (at_+wn*inv % n*step),.int .i64 (step*n)],.bool true]) (by simp [results,Tryz.results186,go_sem]) rfl ⟨_,_,_,rfl,HI.o.1,xE⟩
 have hT:¬ (r-at_).tmod g=0:=λh=>hd (jR.1 h);have HN:=gX hd;clear gX tq tO hd iA jR rA hdr
 go_in
 go_wp2_with (go_at_call 176;(refine (HG _).mono ?_;rintro e w1 ⟨rfl,nq,rfl⟩))
 exact bodyPost_ret (v:=.tuple #[.agg #[.int .i64 0,.int .i64 0],.bool false]) (by simp [results,Tryz.results186,go_sem]) rfl ⟨_,_,_,rfl,HN.o,xE⟩
theorem wr_ (at_ step r P:Int) (h0:0<=at_) (h1:at_<step) (r0:0<=r) (r1:r<P) (hs:step<=27720) (hp:P<=27720):∃ a s b,mM at_ step r P a s b/\∀ w,
  Calls Tryz.prog 186 #[.agg #[.int .i64 at_,.int .i64 step],.int .i64 r,.int .i64 P] w λe w'=>e=.returned (.tuple #[.agg #[.int .i64 a,.int .i64 s],.bool b])/\Below w.heap.size w w':=by
 obtain ⟨a,s,b,hm⟩:=v7_ (at_:=at_) (r:=r) (show 1<=step by omega) (show 1<=P by omega);refine ⟨a,s,b,hm,λw=>(ua_ at_ step r P w h0 h1 r0 r1 hs hp).mono ?_⟩;rintro e w' ⟨a',s',b',rfl,FU,hb⟩;obtain ⟨rfl,rfl,rfl⟩:=hm.unique aa aa FU;exact ⟨rfl,hb⟩
end
end Go.Proofs.YtbmgmlbmgogeaaaGreat
end
namespace Go.Proofs.YtbmgmlbmgogeaaaGreat
section
open Go.RowKit Go.Maps Kal
structure LB (w0:World) (b1 b2 b3 b4 b5:Nat):Prop where
 h4:w0.heap.size<=b4
 h5:w0.heap.size<=b5
 n14:b1≠b4
 n15:b1≠b5
 n24:b2≠b4
 n25:b2≠b5
 n34:b3≠b4
 n35:b3≠b5
 n45:b4≠b5
structure LS (w0:World) (b1 b2 b3 b4 b5:Nat) (v:Value) (f l:Int) (fb:Bool) (W:World):Prop where
 below:Below w0.heap.size w0 W
 c1:af W b1 #[v] 78
 c2:af W b2 #[.func (.func 185) #[] #[.pointer (some ⟨b1,0,none⟩),.pointer (some ⟨b2,0,none⟩),.pointer (some ⟨b3,0,none⟩),.pointer (some ⟨b4,0,none⟩),.pointer (some ⟨b5,0,none⟩)]] 223
 c3:af W b3 #[.int .i64 f] 3
 c4:af W b4 #[.int .i64 l] 3
 c5:af W b5 #[.bool fb] 4
section
variable {w0 W W':World} {b1 b2 b3 b4 b5:Nat} {v:Value} {f l l':Int} {fb:Bool}
theorem LS.ext (h:LS w0 b1 b2 b3 b4 b5 v f l fb W) (hb:Below W.heap.size W W'):LS w0 b1 b2 b3 b4 b5 v f l fb W':=
 ⟨Et h.below hb,h.c1.below hb,h.c2.below hb,h.c3.below hb,h.c4.below hb,h.c5.below hb⟩
theorem LS.put (h:LS w0 b1 b2 b3 b4 b5 v f l fb W) (hb:LB w0 b1 b2 b3 b4 b5):LS w0 b1 b2 b3 b4 b5 v f l' true ((W.setCell ⟨b4,0,none⟩ (.int .i64 l')).setCell ⟨b5,0,none⟩ (.bool true)):=
 ⟨(
  h.below.setCell (p:=⟨b4,0,none⟩) hb.h4 _).setCell (p:=⟨b5,0,none⟩) hb.h5 _,
  (h.c1.setNe _ hb.n14).setNe _ hb.n15,(h.c2.setNe _ hb.n24).setNe _ hb.n25,(h.c3.setNe _ hb.n34).setNe _ hb.n35,
  af.setNe (br 0 _ h.c4) _ hb.n45,br 0 _ (h.c5.setNe _ hb.n45.symm)⟩
end
theorem QL {W:World} {b:Nat} {x y x' y':Value} {t:TypeId} (h:af W b #[x,y] t):af ((W.setCell ⟨b,0,none⟩ x').setCell ⟨b,1,none⟩ y') b #[x',y'] t:=by
 have h1:=br 1 y' (br 0 x' h);simpa [af] using h1
theorem PR {B b:Nat} {w W:World} (hb:Below B w W) (h:B<=b) (x y:Value):Below B w ((W.setCell ⟨b,0,none⟩ x).setCell ⟨b,1,none⟩ y):=
 (hb.setCell (p:=⟨b,0,none⟩) h _).setCell (p:=⟨b,1,none⟩) h _
def Ma (w0:World) (b1 b2 b3 b4 b5:Nat) (v:Value) (f:Int) (S:Int->Prop) (w:World) (e:Ending) (w':World):Prop:=
 ∃ l fb,e=.returned (.tuple #[])/\LS w0 b1 b2 b3 b4 b5 v f l fb w'/\aN (λb=>b≠b4/\b≠b5) w w'/\w.heap.size<=w'.heap.size/\j8 cC S f l fb
theorem Wv {W W':World} {b4 b5:Nat} (v4 v5:Value) (hb:Below W.heap.size W W'):aN (λb=>b≠b4/\b≠b5) W ((W'.setCell ⟨b4,0,none⟩ v4).setCell ⟨b5,0,none⟩ v5):=λb h hl=>
 ((Below.heap_setCell _ ⟨b5,0,none⟩ v5 b h.2).trans (Below.heap_setCell _ ⟨b4,0,none⟩ v4 b h.1)).trans (hb.block b hl)
theorem q6_ (s:Int) (w0:World) (b1 b2 b3 b4 b5:Nat) (hB:LB w0 b1 b2 b3 b4 b5) (v:Value) (L:List PV) (hL:gy w0 (λb=>b<w0.heap.size) v L) (hv:∀ p∈L.map PV.p,FV s p) (f:Int) (f0:0<=f) (f1:f<=1152921504606846976) :
  ∀ (n i:Nat) (at_ step l:Int) (fb:Bool) (S:Int->Prop) (w:World),i+n=L.length->0<=at_->at_<step->step∣27720->LS w0 b1 b2 b3 b4 b5 v f l fb w->j8 cC S f l fb->
   Calls Tryz.prog 185 #[.int .i64 i,.agg #[.int .i64 at_,.int .i64 step],.pointer (some ⟨b1,0,none⟩),.pointer (some ⟨b2,0,none⟩),.pointer (some ⟨b3,0,none⟩),.pointer (some ⟨b4,0,none⟩),.pointer (some ⟨b5,0,none⟩)] w
    (Ma w0 b1 b2 b3 b4 b5 v f (λx=>S x\/eE ((L.map PV.p).drop i) at_ step x) w):=by
 intro n;induction n with
 | zero=>
  intro i at_ step l fb S w hi h0 h1 hd hs cj;have fA:=hL.len;obtain rfl:i=L.length:=aa;obtain ⟨a1,c1,rfl,hx1,hx2,_⟩:=hL.row.is;have s1:step<=27720:=Int.le_of_dvd aF hd;have s0:0<step:=aa;have q1:=(hs.c1.alloc (.cells #[.int .i64 at_,.int .i64 step] 225)).c0;have q3:=(hs.c3.alloc (.cells #[.int .i64 at_,.int .i64 step] 225)).c0;have q4:=((hs.c4.alloc (.cells #[.int .i64 at_,.int .i64 step] 225)).cells 0);have q5:=((hs.c5.alloc (.cells #[.int .i64 at_,.int .i64 step] 225)).cells 0);have q6:=((af.setNe (i:=0) (hs.c5.alloc (.cells #[.int .i64 at_,.int .i64 step] 225)) (.int .i64 at_) hB.n45.symm).cells 0);have hle:l<=1152921504606846976:=cj.le;have hl0:-9223372036854775808<=l:=by
   rcases cj with ⟨_,h,_⟩|⟨_,h,_⟩
   .omega
   rw [h];decide
  have A9:=ad (cj.leaf (at_:=at_) (show 1<=step by omega) h0 h1 f0);have HS:=ad hs;have RH:=ad cj;clear hs cj hi;by_cases hlt:at_<f
  .have T0:0<=f-at_+step-1:=aa;have PD:upTo f at_ step=at_+(f-at_+step-1) / step*step:=if_pos hlt;have e:=Int.emod_add_mul_ediv (f-at_+step-1) step;have e0:=Int.emod_nonneg (f-at_+step-1) (show step≠0 by omega);have e1:=Int.emod_lt_of_pos (f-at_+step-1) s0;rw [Int.mul_comm step] at e;have q0:0<=(f-at_+step-1) / step:=Int.ediv_nonneg T0 aa;have q9:(f-at_+step-1) / step<=f-at_+step-1:=Int.ediv_le_self _ T0;have Jn:(f-at_+step-1).tdiv step=(f-at_+step-1) / step:=Int.tdiv_eq_ediv_of_nonneg T0;generalize (f-at_+step-1) / step=q at *;have q3':=(HS.o.c3.alloc (.cells #[.int .i64 (at_+q*step),.int .i64 step] 225)).c0;have q4':=((HS.o.c4.alloc (.cells #[.int .i64 (at_+q*step),.int .i64 step] 225)).cells 0);have q5':=((HS.o.c5.alloc (.cells #[.int .i64 (at_+q*step),.int .i64 step] 225)).cells 0);have q6':=((af.setNe (i:=0) (HS.o.c5.alloc (.cells #[.int .i64 (at_+q*step),.int .i64 step] 225)) (.int .i64 (at_+q*step)) hB.n45.symm).cells 0);rw [PD] at A9;have hmu:0<=q*step/\q*step<=f-at_+step-1:=⟨Int.mul_nonneg q0 aa,aa⟩
   go_in
   go_wp2_with fail
   go_region
   all_goals go_wp2_with fail
   .refine ⟨rfl,.tuple #[],by simp [results,Tryz.results185,go_sem],at_+q*step,true,rfl,((HS.o.ext (Ea (Er _) _)).put hB).ext (Ed (Er _)),Wv _ _ (Ea (Er w) _),ag,?_⟩;refine (A9.o.1 (by assumption)).congr λx hx=>?_;rw [List.drop_of_length_le ag,Jf]
   refine ⟨rfl,.tuple #[],by simp [results,Tryz.results185,go_sem],l,fb,rfl,(HS.o.ext (Ea (Er _) _)).ext (Ed (Er _)),aN.below (Ed (Ea (Er w) _)),ag,?_⟩;refine (A9.o.2 aa).congr λx hx=>?_;rw [List.drop_of_length_le ag,Jf]
  have PD:upTo f at_ step=at_:=if_neg hlt;rw [PD] at A9
  go_in
  go_wp2_with fail
  .refine ⟨rfl,.tuple #[],by simp [results,Tryz.results185,go_sem],at_,true,rfl,(HS.o.ext (Ea (Er _) _)).put hB,Wv _ _ (Ea (Er w) _),ag,?_⟩;refine (A9.o.1 (by assumption)).congr λx hx=>?_;rw [List.drop_of_length_le ag,Jf]
  refine ⟨rfl,.tuple #[],by simp [results,Tryz.results185,go_sem],l,fb,rfl,HS.o.ext (Ea (Er _) _),aN.below (Ea (Er w) _),ag,?_⟩;refine (A9.o.2 aa).congr λx hx=>?_;rw [List.drop_of_length_le ag,Jf]
 | succ n ih=>
  intro ii at_ step l fb S w hi h0 h1 hd hs cj;have IH:=ad ih;clear ih;have fA:=hL.len;have sW:ii<L.length:=aa;have z_:(ii:Int)<L.length:=aa;have s1:step<=27720:=Int.le_of_dvd aF hd;obtain ⟨a1,c1,rfl,hx1,hx2,_⟩:=hL.row.is;obtain ⟨tb,o1,x,ha,hx,cS,uR,e0,e1,e2,e3⟩:=hL.get sW;subst ha;have nZ:FV s x.p:=hv _ (by rw [cS];exact dz (by simpa using sW));have hdr:(L.map PV.p).drop ii=x.p :: (L.map PV.p).drop (ii+1):=by
   rw [List.drop_eq_getElem_cons (by simpa using sW),cS,List.getD_eq_getElem?_getD,List.getElem?_eq_getElem (by simpa using sW)];rfl
  obtain ⟨xh,xc,xp⟩:=x;obtain ⟨d_,eh,ed,eH,eR,dP,rfl,rfl⟩:=hx.form;dsimp only at e0 e1 e2 e3 nZ hdr;have pV:=hx.is.cy;dsimp only at pV;obtain ⟨⟨ah,ch,he,_,_,hcl⟩,ni,hrg⟩:=pV;injection he with cI eB dk
  subst cI;subst eB;subst dk;have hw:=nZ.fac.wf;have ZK:=hw.frm;have f1':=nZ.far;have p0:=hw.per;have p1:=nZ.fac.per;have HD:Hid (step∣27720):=ad hd;have GY:=ad nZ;have CN:=ad hdr;have xW:=ad hw.cyc;have Sr:=ad hw;have Ky:=ad hi;have HX:=ad hx;have pw:=ad hL;have G1:=ad hv;have dw:=ad hcl;have bQ:=ad hs.below;have q1:=(hs.c1.alloc (.cells #[.int .i64 at_,.int .i64 step] 225)).c0;have E0:=fy (al.cell hs.below e0) (.cells #[.int .i64 at_,.int .i64 step] 225);have E1:=fy (al.cell hs.below e1) (.cells #[.int .i64 at_,.int .i64 step] 225);have E2:=fy (al.cell hs.below e2) (.cells #[.int .i64 at_,.int .i64 step] 225);have E3:=fy (al.cell hs.below e3) (.cells #[.int .i64 at_,.int .i64 step] 225);have Yq:=ad e0;have Yr:=ad e1;have Ys:=ad e2;have Yt:=ad e3;have HS:=ad hs;have RH:=ad cj;have FM:Hid (w.heap.size≠b4/\w.heap.size≠b5):=ad ⟨by have:=hs.c4.lt;omega,by have:=hs.c5.lt;omega⟩;clear hs cj hi e0 e1 e2 e3 hcl hrg hx nZ hdr hL hv hw cS
  go_in
  go_wp2_with fail
  obtain ⟨bw,cq⟩:∃ bw,bw=w.heap.size:=⟨_,rfl⟩;rw [<- cq];have bH:=ad cq;have HN:Hid (bw≠b4/\bw≠b5):=ad (by rw [cq];exact FM.o);clear q1 E0 E1 E2 E3 cq FM;go_loopw [10,11,12,23] (λ_ _ _ idx wr=>∃ (j:Nat) (l':Int) (BE:Bool),j<=xp.cycle.length/\idx=.int .i64 j/\Hid (LS w0 b1 b2 b3 b4 b5 (.slice (some ⟨tb,o1,none⟩) L.length c1) f l' BE wr)/\Hid (af wr bw #[.int .i64 at_,.int .i64 step] 225)/\Hid (aN (λb=>b≠b4/\b≠b5) w wr)/\Hid (w.heap.size<=wr.heap.size)/\Hid (j8 cC (uC S xp ((L.map PV.p).drop (ii+1)) at_ step j) f l' BE)) (λ_ _ _ idx _=>xp.cycle.length-(intOf idx).toNat)
  .exact ⟨0,l,fb,aa,rfl,ad (HS.o.ext (Ea (Er _) _)),ad (af.at bH.o),ad (aN.below (Ea (Er w) _)),ad ag,ad (RH.o.congr λx _=>sw_)⟩
  obtain ⟨j,l',BE,hj,rfl,ky,cw,tF,Bk,ij⟩:=hrel;by_cases dr:j<xp.cycle.length
  .have rD:(j:Int)<xp.cycle.length:=aa;rcases dw.o with h9|⟨bc,oc,rfl,hcc⟩
   .rw [h9] at dr;simp at dr
   have c0:=al.cell ky.o.below (hcc j dr);have hcr:=xW.o.2 _ (dz (d:=0) dr);have gY:=λa2 s2 bb x (h:mM at_ step (cA xp (xp.cycle.getD j 0)) xp.period a2 s2 bb)=>sv_ (S:=S) (t:=(L.map PV.p).drop (ii+1)) (x:=x) Sr.o dr aa h0 h1 h;generalize xp.cycle.getD j 0=c at *;have hr:=JJ Sr.o c;obtain ⟨a2,s2,bb,hM,KY⟩:=wr_ at_ step (cA xp c) xp.period h0 h1 hr.1 hr.2 s1 p1;have iu:=λW=>Uz (.slice d_ eh ed) (.slice (some ⟨bc,oc,none⟩) xp.cycle.length dP) xp c W ZK aa p0 aa hcr.1 aa;have qB:=ad (λx=>gY a2 s2 bb x hM);have HM:=ad hM;have q1:=ky.o.c1.c0;have q2:=ky.o.c2.c0;have m0:wr.cell? ⟨bw,0,none⟩=some (.int .i64 at_):=(cw.o.cells 0).1;have m1:wr.cell? ⟨bw,1,none⟩=some (.int .i64 step):=(cw.o.cells 1).1;have E0:=al.cell ky.o.below Yq.o;have E1:=al.cell ky.o.below Yr.o;have E2:=al.cell ky.o.below Ys.o;have E3:=al.cell ky.o.below Yt.o;generalize cA xp c=r at *;clear hcc gY hM;go_wp2_with fail;have tH:=ad q2;clear q2;refine Code.wp_mono (Q:=λe a' W'=>e=.normal/\(∃ (nb:Nat) (Ci z28 Cj Ck z31 Cl z33 Cm Cn Co z37 Cp Cq z40 Cr Cs:Value),a'=⟨#[.int .i64 ↑ii,.agg #[.int .i64 at_,.int .i64 step],.pointer (some ⟨b1,0,none⟩),.pointer (some ⟨b2,0,none⟩),.pointer (some ⟨b3,0,none⟩),.pointer (some ⟨b4,0,none⟩),.pointer (some ⟨b5,0,none⟩),undef,.pointer (some ⟨bw,0,none⟩),undef,.int .i64 c,.pointer (some ⟨nb,0,none⟩),.bool bb,.int .i64 ↑ii,.slice (some ⟨tb,o1,none⟩) L.length c1,.int .i64 ↑L.length,.bool true,.slice (some ⟨tb,o1,none⟩) L.length c1,.int .i64 ↑ii,.pointer (some ⟨tb,o1+ii*4,none⟩),.pointer (some ⟨tb,o1+ii*4+3,none⟩),.slice (some ⟨bc,oc,none⟩) xp.cycle.length dP,.int .i64 ↑xp.cycle.length,.int .i64 ↑j,.bool true,.pointer (some ⟨bc,oc+j,none⟩),.int .i64 c,Ci,z28,Cj,Ck,z31,Cl,z33,Cm,Cn,Co,z37,Cp,Cq,z40,Cr,Cs,u43,u44,u45,u46,u47,u48,u49,undef,undef,undef,undef,undef,undef,undef,undef,undef,undef,undef,undef,undef,undef,undef,undef,undef,undef,undef,undef,undef,undef,undef,undef,undef,undef,undef,undef,undef,undef,undef,undef,undef,undef,undef,undef,undef,undef,undef],[]⟩/\af W' nb #[.int .i64 a2,.int .i64 s2] 225)/\Below wr.heap.size wr W') ?imp ?reg
   case reg=>
    refine Ny (w0:=wr) [0,1,2,3,4,5,6,7,8,9,10,11,12,13,14,15,16] 15 17 [18] (λv=>⟨#[.int .i64 ↑ii,.agg #[.int .i64 at_,.int .i64 step],.pointer (some ⟨b1,0,none⟩),.pointer (some ⟨b2,0,none⟩),.pointer (some ⟨b3,0,none⟩),.pointer (some ⟨b4,0,none⟩),.pointer (some ⟨b5,0,none⟩),undef,.pointer (some ⟨bw,0,none⟩),undef,.int .i64 c,v 16,u12,.int .i64 ↑ii,.slice (some ⟨tb,o1,none⟩) L.length c1,.int .i64 ↑L.length,.bool true,.slice (some ⟨tb,o1,none⟩) L.length c1,.int .i64 ↑ii,.pointer (some ⟨tb,o1+ii*4,none⟩),.pointer (some ⟨tb,o1+ii*4+3,none⟩),.slice (some ⟨bc,oc,none⟩) xp.cycle.length dP,.int .i64 ↑xp.cycle.length,.int .i64 ↑j,.bool true,.pointer (some ⟨bc,oc+j,none⟩),.int .i64 c,v 13,v 0,v 1,v 2,v 3,v 4,v 5,v 6,v 7,v 8,v 9,v 10,v 11,v 12,v 14,v 15,u43,u44,u45,u46,u47,u48,u49,undef,undef,undef,undef,undef,undef,undef,undef,undef,undef,undef,undef,undef,undef,undef,undef,undef,undef,undef,undef,undef,undef,undef,undef,undef,undef,undef,undef,undef,undef,undef,undef,undef,undef,undef,undef,undef,undef,undef],[]⟩) [.agg #[.int .i64 at_,.int .i64 step],.slice (some ⟨tb,o1,none⟩) L.length c1,.int .i64 ii,.pointer (some ⟨tb,o1+ii*4,none⟩),an (.slice d_ eh ed) (.slice (some ⟨bc,oc,none⟩) xp.cycle.length dP) xp.frm xp.period,.int .i64 c,.int .i64 r,.slice (some ⟨tb,o1,none⟩) L.length c1,.int .i64 ii,.pointer (some ⟨tb,o1+ii*4,none⟩),.pointer (some ⟨tb,o1+ii*4+2,none⟩),.int .i64 xp.period,.tuple #[.agg #[.int .i64 a2,.int .i64 s2],.bool bb],.tuple #[.agg #[.int .i64 a2,.int .i64 s2],.bool bb],.agg #[.int .i64 a2,.int .i64 s2],.bool bb,undef] [16] (λi v lo hi W=>match i with|16=>v 16=.pointer (some ⟨lo 16,0,none⟩)/\lo 16<hi 16/\af W (lo 16) #[.int .i64 0,.int .i64 0] 225|_=>True) (λW=>(W.cell? ⟨bw,0,none⟩=some (.int .i64 at_)/\W.cell? ⟨bw,1,none⟩=some (.int .i64 step))/\W.cell? ⟨b1,0,none⟩=some (.slice (some ⟨tb,o1,none⟩) L.length c1)/\W.cell? ⟨tb,o1+ii*4,none⟩=some (.slice d_ eh ed)/\W.cell? ⟨tb,o1+ii*4+1,none⟩=some (.int .i64 xp.frm)/\W.cell? ⟨tb,o1+ii*4+2,none⟩=some (.int .i64 xp.period)/\W.cell? ⟨tb,o1+ii*4+3,none⟩=some (.slice (some ⟨bc,oc,none⟩) xp.cycle.length dP)) (λW hb=>⟨⟨bF m0 hb,bF m1 hb⟩,bF q1 hb,bF E0 hb,bF E1 hb,bF E2 hb,bF E3 hb⟩) ?stab ?loc ?steps ?fin ?fin2 (λj=>match j with|0=>u28|1=>u29|2=>u30|3=>u31|4=>u32|5=>u33|6=>u34|7=>u35|8=>u36|9=>u37|10=>u38|11=>u39|12=>u40|13=>u27|14=>u41|15=>u42|16=>u11|_=>undef)
    case stab=>
     refine ⟨?_,trivial⟩;intro v lo hi W W' h hb;exact ⟨h.1,h.2.1,h.2.2.below hb⟩
    case loc=>
     refine ⟨?_,trivial⟩;intro v v' lo lo' hi hi' W aC h;have q:=aC 16 (.inl rfl)
     (try dsimp only at h ⊢)
     simp only [q.1,q.2.1,q.2.2] at h;exact h
    case steps=>
     clear m0 m1 q1 E0 E1 E2 E3;refine .c [] [] rfl ?_ (.c [] [] rfl ?_ (.c [] [] rfl ?_ (.c [1,2] [] rfl ?_ (.c [3] [] rfl ?_ (.c [] [] rfl ?_ (.c [4,5] [] rfl ?_ (.c [] [] rfl ?_ (.c [] [] rfl ?_ (.c [7,8] [] rfl ?_ (.c [9] [] rfl ?_ (.c [10] [] rfl ?_ (.c [0,6,11] [] rfl ?_ (.c [12] [] rfl ?_ (.c [13] [] rfl ?_ (.c [13] [] rfl ?_ (.c [] [] rfl ?_ (.n)))))))))))))))));all_goals try exact Q_
     .rintro v lo hi W hb ⟨⟨n0,n1⟩,nv,g0,g1,g2,g3⟩ _;refine ⟨rfl,λK hK=>?_⟩;simp only [ov,aD,Nat.reduceBEq,cond_true,cond_false];go_wp2_with (go_at_call 183;refine (iu _).mono ?_;rintro e w9 ⟨rfl,bg⟩);exact aU (hK w9 bg) (by simp [ov,aD,upd])
     .rintro v lo hi W hb ⟨⟨n0,n1⟩,nv,g0,g1,g2,g3⟩ _;refine ⟨rfl,λK hK=>?_⟩;simp only [ov,aD,Nat.reduceBEq,cond_true,cond_false];go_wp2_with (go_at_call 186;refine (KY _).mono ?_;rintro e w9 ⟨rfl,bg⟩);exact aU (hK w9 bg) (by simp [ov,aD,upd])
     rintro v lo hi W hb ⟨⟨n0,n1⟩,nv,g0,g1,g2,g3⟩ _;refine ⟨rfl,λK hK=>?_⟩;simp only [ov,aD,Nat.reduceBEq,cond_true,cond_false];go_wp2;exact hK (.pointer (some ⟨W.heap.size,0,none⟩)) _ (Ea (Er _) _) ⟨rfl,ag,af.new _ _ _⟩
    case fin=>
     rintro v lo gC W2 hb ⟨⟨n0,n1⟩,nv,g0,g1,g2,g3⟩ hf hap;show wpList _ _ _ [_,_] _ _;obtain ⟨JO,-,ZQ,pL,QC,hbox⟩:=hf 16 rfl;have nS:v 14=.agg #[.int .i64 a2,.int .i64 s2]:=(hf 14 rfl).2.2.2;have oR:v 15=.bool bb:=(hf 15 rfl).2.2.2;clear hf hap;dsimp only;rw [nS,oR,pL];clear nS oR pL;generalize lo 16=nb at *;have b0:=hbox.cells 0;have ZD:=hbox.cells 1;have gH:=ad hbox;have fw:=ad hb;clear n0 n1 nv g0 g1 g2 g3 hbox hb;generalize v 0=y0,v 1=y1,v 2=y2,v 3=y3,v 4=y4,v 5=y5,v 6=y6,v 7=y7,v 8=y8,v 9=y9,v 10=sl,v 11=sm,v 12=tk,v 13=XQ;go_wp2;exact ⟨QL gH.o,PR fw.o JO _ _⟩
    case fin2=>
     rintro v lo gC W2 hb ⟨⟨n0,n1⟩,nv,g0,g1,g2,g3⟩ hf hap;obtain ⟨JO,-,ZQ,pL,QC,hbox⟩:=hf 16 rfl aF;have nS:v 14=.agg #[.int .i64 a2,.int .i64 s2]:=(hf 14 rfl aF).2.2.2;have mT:v 13=.tuple #[.agg #[.int .i64 a2,.int .i64 s2],.bool bb]:=(hf 13 rfl aF).2.2.2;clear hf hap;dsimp only;rw [mT,nS,pL];clear mT nS pL;generalize lo 16=nb at *;have b0:=hbox.cells 0;have ZD:=hbox.cells 1;have gH:=ad hbox;have fw:=ad hb;clear n0 n1 nv g0 g1 g2 g3 hbox hb;generalize v 0=y0,v 1=y1,v 2=y2,v 3=y3,v 4=y4,v 5=y5,v 6=y6,v 7=y7,v 8=y8,v 9=y9,v 10=sl,v 11=sm,v 12=tk,v 15=y15;constructor
     .show wpList _ _ _ [_,_,_] _ _;go_wp2;exact ⟨QL gH.o,PR fw.o JO _ _⟩
     show wpList _ _ _ [_,_,_] _ _;go_wp2;exact ⟨QL gH.o,PR fw.o JO _ _⟩
   case imp=>
    rintro e a' W6 ⟨rfl,⟨nb,Ci,z28,Cj,Ck,z31,Cl,z33,Cm,Cn,Co,z37,Cp,Cq,z40,Cr,Cs,rfl,hbox⟩,bD⟩;have iO:=ad (ky.o.ext bD);have q2:=iO.o.c2.c0;have n0:=(hbox.cells 0).1;have n1:=(hbox.cells 1).1;have bO:=ad bD;clear bD hbox;cases bb
    .go_wp2
     go_roundw
     .exact ⟨j+1,l',BE,aa,by go_num,iO,ad (cw.o.below bO.o),ad (tF.o.trans (aN.below bO.o) Bk.o),ad (Nat.le_trans Bk.o bO.o.size),ad (ij.o.congr λx _=>by rw [qB.o];simp)⟩
     simp [intOf];omega
    obtain ⟨t0,t1,t2⟩:=HM.o.bounds aa p0 HD.o GY.o.fac.dvd;have T2:=ad t2;clear t2;have KC:=IH.o (ii+1) a2 s2 l' BE (uC S xp ((L.map PV.p).drop (ii+1)) at_ step j) W6 (by have:=Ky.o;omega) t0 t1 T2.o iO.o ij.o;rw [show ((ii+1:Nat):Int)=(ii:Int)+1 from by omega] at KC;go_wp2_with (go_at_call 185;(refine KC.mono ?_;rintro e w7 ⟨l2,ZL,rfl,Jl,TC,T7,rl⟩;have Zd:=ad Jl;have R0:=ad TC;have Hq:=ad T7;have Kd:=ad rl;clear Jl TC T7 rl KC));go_roundw
    .have OT:aN (λb=>b≠b4/\b≠b5) w w7:=(tF.o.trans (aN.below bO.o) Bk.o).trans R0.o (Nat.le_trans Bk.o bO.o.size);have hw4:=hB.h4;have xu:=hB.h5;have hbwz:=cw.o.lt;have Pm:=bO.o.size;refine ⟨j+1,l2,ZL,aa,by go_num,Zd,ad ?_,ad OT,ad (Nat.le_trans (Nat.le_trans Bk.o bO.o.size) Hq.o),ad (Kd.o.congr λx _=>by rw [qB.o];simp)⟩;exact (R0.o bw ⟨HN.o.1,HN.o.2⟩ aa).trans (cw.o.below bO.o)
    simp [intOf];omega
  obtain rfl:j=xp.cycle.length:=aa;go_wp2_with fail;refine ⟨rfl,.tuple #[],by simp [results,Tryz.results185,go_sem],l',BE,rfl,ky.o,tF.o,Bk.o,?_⟩;refine ij.o.congr λx hx=>?_;rw [v3_,CN.o]
end
end Go.Proofs.YtbmgmlbmgogeaaaGreat
section
variable {ops:Array Go.Oper}{b:Bool}{F P a at_ d r s x y:Int}{m:List (List Kal.Per)}{l:List Int}{rest:List Go.Oper}{L:List Go.Proofs.YtbmgmlbmgogeaaaGreat.PV}{t u:List Kal.Per}{xs:List Go.Value}{B base c cap g j k n:Nat}{o:Go.Oper}{row:Option Nat}{p q:Kal.Per}{lv v:Go.Value}{A C W W' W1 W2 w w':Go.World}
namespace Go.Proofs.YtbmgmlbmgogeaaaGreat
section
open Go.RowKit Go.Maps Kal
theorem xi_ (s:Int) (F:Nat->Prop) (v:Value) (t:List Per) (f:Int) (w:World) (ht:bG w F v t) (hv:∀ p∈t,FV s p) (f0:0<=f) (f1:f<=1152921504606846976) :
  Calls Tryz.prog 136 #[v,.int .i64 f] w λe w'=>∃ n b,e=.returned (.tuple #[.int .i64 n,.bool b])/\dV cC (ba t) (max f (fH t)) n b/\Below w.heap.size w w':=by
 have HST:=λW (h:Below w.heap.size w W)=>vs_ F v t W (ht.ext h);obtain ⟨L,rfl,hL⟩:=ht;obtain ⟨a1,c1,rfl,hx1,hx2,_⟩:=hL.row.is;have hs0:=(Ek (t:=L.map PV.p)).1;have hs1:fH (L.map PV.p)<=1099511627776:=nb_ aF λp hp=>(hv p hp).far;have fD:=ad (λl b (h:j8 cC (λx=>False\/eE (L.map PV.p) 0 1 x) (max f (fH (L.map PV.p))) l b)=>v4_ (F:=cC) (λp hp=>(hv p hp).fac.wf) (show fH (L.map PV.p)<=max f (fH (L.map PV.p)) by omega) h);have AW:=ad (λw0 b1 b2 b3 b4 b5 hB zB f f0 f1=>q6_ s w0 b1 b2 b3 b4 b5 hB (.slice a1 L.length c1) L zB hv f f0 f1);have fA:=hL.len;have vZ:=ad (hL.lt.mono λb hb=>hb.2);clear hL hv;generalize fH (L.map PV.p)=st at *
 go_in
 go_wp2_with fail
 refine Code.wp_mono (Q:=λe a' W'=>e=.normal/\(∃ z9 xL xM z12:Value,a'=⟨#[.slice a1 L.length c1,.int .i64 f,.pointer (some ⟨w.heap.size,0,none⟩),.pointer (some ⟨w.heap.size+1,0,none⟩),.int .i64 0,.bool false,undef,undef,undef,z9,xL,xM,z12,undef,undef,undef,undef,undef,undef,undef],[]⟩)/\af W' w.heap.size #[.slice a1 L.length c1] 78/\af W' (w.heap.size+1) #[.int .i64 (max f st)] 3/\Below w.heap.size w W') ?imp ?reg
 case reg=>
  have ks:Hid (af ((w.alloc (.cells #[.slice a1 L.length c1] 78)).alloc (.cells #[.int .i64 f] 3)) w.heap.size #[.slice a1 L.length c1] 78):=ad ((af.new w _ _).alloc _);have bo:Hid (af ((w.alloc (.cells #[.slice a1 L.length c1] 78)).alloc (.cells #[.int .i64 f] 3)) (w.heap.size+1) #[.int .i64 f] 3):=ad (af.at ag);have key:f<st\/st<=f:=Int.lt_or_le f st;rcases key with hlt|I1
  all_goals
   go_region_with (go_at_call 184;(refine (HST _ xE).mono ?_;rintro e w1 ⟨rfl,hb1⟩;have b0:af w1 w.heap.size #[.slice a1 L.length c1] 78:=ks.o.drewB.below hb1;have b1:af w1 (w.heap.size+1) #[.int .i64 f] 3:=bo.o.drewB.below hb1;have x0:=b0.c0;have x1:=b1.cells 0;have hW1:Below w.heap.size w w1:=Et (Ed (Ea (Ea (Er w) _) _)) hb1))
   all_goals exact ⟨rfl,⟨_,_,_,_,rfl⟩,b0.setNe _ aa,br 0 _ b1,hW1.setCell (p:=⟨w.heap.size+1,0,none⟩) (by show w.heap.size<=w.heap.size+1;omega) _⟩
 case imp=>
  rintro e a' W2 ⟨rfl,⟨z9,xL,xM,z12,rfl⟩,h0,h1,h2⟩;have hl1':=h1.lt;have Z6:LB w w.heap.size (W2.heap.size+1+1) (w.heap.size+1) W2.heap.size (W2.heap.size+1):=⟨aa,aa,aa,aa,aa,aa,aa,aa,aa⟩;go_wp2_with (go_at_call 185;(refine (AW.o w w.heap.size (W2.heap.size+1+1) (w.heap.size+1) W2.heap.size (W2.heap.size+1) Z6 vZ.o (max f st) aa aa L.length 0 0 1 1152921504606846976 false (λ_=>False) _ aa aa aa ⟨27720,aF⟩ ⟨Ea (Ea (Ea h2 _) _) _,((h0.alloc _).alloc _).alloc _,xB,((h1.alloc _).alloc _).alloc _,xB,by exact xB⟩ j8.start).mono ?_;rintro e w7 ⟨l,fb,rfl,hs,-,hz,cj⟩;have q4:=hs.c4.c0;have q5:=hs.c5.c0;have HN:=ad (fD.o l fb cj);have bQ:=hs.below;cases fb))
  .go_ret2;exact ⟨_,_,rfl,HN.o,bQ⟩
  go_ret2;exact ⟨_,_,rfl,HN.o,bQ⟩
end
section
open Go.RowKit Go.Shelf Go.Maps Kal
attribute [local go_sem] Oper.semAt_some
structure LZ (B:Nat) (w:World) (f n:Int) (b:Bool) (W:World):Prop where
 below:Below B w W
 c3:af W B #[.int .i64 f] 3
 c6:af W (B+1) #[.int .i64 n] 3
 c7:af W (B+1+1) #[.bool b] 4
theorem LZ.grow {f n:Int} (h:LZ B w f n b W) (hB:B<=w.heap.size) (hg:W.grownBy W' row) (hr:∀ r,row=some r->B<=r/\∃ o:Obj,W.heap[r]? = some o/\o.isCells=false):LZ B w f n b W':=by
 have key:∀ {b:Nat} {c:Array Value} {t:TypeId},af W b c t->af W' b c t:=λ{b c t} hx=>by
  refine (hg.block b hx.lt λe=>?_).trans hx;obtain ⟨_,o,ho,hc⟩:=hr b e.symm;rw [show W.heap[b]? = _ from hx] at ho;cases ho;cases hc
 exact ⟨h.below.grown hg (Nat.le_trans hB h.below.size) (λk e=>(hr k e).1),key h.c3,key h.c6,key h.c7⟩
theorem LZ.ext {f n:Int} (h:LZ B w f n b W) (hB:B<=w.heap.size) (hb:Below W.heap.size W W'):LZ B w f n b W':=
 ⟨h.below.trans (hb.mono (Nat.le_trans hB h.below.size)),h.c3.below hb,h.c6.below hb,h.c7.below hb⟩
theorem LZ.put {f n n':Int} (h:LZ B w f n b W):LZ B w f n' true ((W.setCell ⟨B+1,0,none⟩ (.int .i64 n')).setCell ⟨B+1+1,0,none⟩ (.bool true)):=
 ⟨(h.below.setCell (p:=⟨B+1,0,none⟩) (Nat.le_succ _) _).setCell (p:=⟨B+1+1,0,none⟩) (by show B<=B+1+1;omega) _,af.setNe (h.c3.setNe _ aa) _ aa,af.setNe (br 0 _ h.c6) _ aa,br 0 _ (h.c7.setNe _ aa)⟩
theorem MC {f n m:Int} {S T:Int->Prop} (h:dV F S f n b) (g:dV F T f m true) (hc:b=false\/m<n):dV F (λx=>S x\/T x) f m true:=by
 have:=Vc h g;rw [if_pos ⟨rfl,hc⟩,Bool.or_true] at this;exact this
theorem zs_ {f n m:Int} {S T:Int->Prop} {c:Bool} (h:dV F S f n b) (g:dV F T f m c) (hc:c=false\/(b=true/\¬ m<n)):dV F (λx=>S x\/T x) f n b:=by
 have:=Vc h g;rcases hc with rfl|⟨rfl,hc⟩
 .rw [if_neg (λe=>by cases e.1),Bool.or_false] at this;exact this
 rw [if_neg (λe=>by rcases e.2 with e|e;cases e;exact hc e)] at this;exact this
theorem Xl {f n:Int} {L:List (List Per)} (h:dV F (λx=>aT L x\/ba t x) f n b):dV F (aT (L ++ [t])) f n b:=h.congr λx _ _=>va_
theorem wv {W0:World} {f n:Int} {c:Bool} {pre:List (Value × List Per)} {y:Value × List Per} {a:Act} (hw:w.heap.size<=W'.heap.size) (hl:LZ w.heap.size w f n b W') (h:dV cC (aT (pre.map Prod.snd)) f n b) (hb:Below W'.heap.size W' W1) (g:dV cC (ba y.2) f d c) (hc:c=false\/(b=true/\¬ d<n)) :
  J3 W0.heap.size (cX λk=>k<w.heap.size) (λW'=>∃ n b,dV cC (aT ((pre ++ [y]).map Prod.snd)) f n b/\LZ w.heap.size w f n b W') W' .normal a W1:=
 ⟨(KeepsOthers.of_below hb).from _,λk hk=>hb.block k aa,n,b,by rw [List.map_append];exact Xl (zs_ h g hc),hl.ext (Nat.le_refl _) hb⟩
theorem Jy {W0:World} {f n:Int} {pre:List (Value × List Per)} {y:Value × List Per} {a:Act} (hw:w.heap.size<=W'.heap.size) (hl:LZ w.heap.size w f n b W') (h:dV cC (aT (pre.map Prod.snd)) f n b) (hb:Below W'.heap.size W' W1) (g:dV cC (ba y.2) f d true) (hc:b=false\/d<n) :
  J3 W0.heap.size (cX λk=>k<w.heap.size) (λW'=>∃ n b,dV cC (aT ((pre ++ [y]).map Prod.snd)) f n b/\LZ w.heap.size w f n b W') W' .normal a ((W1.setCell ⟨w.heap.size+1,0,none⟩ (.int .i64 d)).setCell ⟨w.heap.size+1+1,0,none⟩ (.bool true)):=
 ⟨(((KeepsOthers.of_below hb).trans (KeepsOthers.setCell W1 _ _)).trans (KeepsOthers.setCell _ _ _)).from _,λk hk=>((Below.heap_setCell _ ⟨w.heap.size+1+1,0,none⟩ _ k (by show k≠w.heap.size+1+1;omega)).trans (Below.heap_setCell _ ⟨w.heap.size+1,0,none⟩ _ k (by show k≠w.heap.size+1;omega))).trans (hb.block k aa),d,true,by rw [List.map_append];exact Xl (MC h g hc),(hl.ext (Nat.le_refl _) hb).put⟩
theorem VJ (s:Int) (g:Nat) (lb:Array Value) (T:List (List Per)) (f:Int) (w:World) (hit:JY g lb T w) (hT:∀ t∈T,kJ s t) (f0:0<=f) (f1:f<=9223372036854775807) :
  Calls Tryz.prog 104 #[.func (.func g) #[] lb,.int .i64 f] w λe w'=>∃ n b,e=.returned (.tuple #[.int .i64 n,.bool b])/\dV cC (aT T) f n b/\Below w.heap.size w w':=by
 refine callsIn_wide (n:=0).1 ?_;refine callsIn_of_wp_marks Tryz.func104 rfl trivial ?_ rfl;simp only [Tryz.ntmps104,List.size_toArray,List.length_cons,List.length_nil,Nat.reduceAdd,Nat.reduceSub,Array.replicate_succ,Array.replicate_zero,List.push_toArray,List.append_toArray,List.nil_append,List.cons_append];gi_wp2_with fail;generalize hW0:((w.alloc _).alloc _).alloc _=W0;have hE:Below w.heap.size w W0:=by rw [<- hW0];exact xE
 have hsz:W0.heap.size=w.heap.size+3:=by rw [<- hW0];simp
 have hb3:af W0 w.heap.size #[.int .i64 f] 3:=by rw [<- hW0];exact ((af.at rfl).alloc _).alloc _
 have bD:af W0 (w.heap.size+1) #[.int .i64 0] 3:=by rw [<- hW0];exact (af.at ag).alloc _
 have dW:af W0 (w.heap.size+1+1) #[.bool false] 4:=by rw [<- hW0];exact af.at ag
 have ku:=ad hit;have HST:Hid (LZ w.heap.size w f 0 false W0):=ad ⟨hE,hb3,bD,dW⟩;have HT:=ad hT;clear hW0 hb3 bD dW hit hT;refine UV (α:=Value × List Per) (x:=none) (gf:=g) (lb:=lb) rfl ku.o.1 (ku.o.2 W0 hE) (λh k=>h.trans k) (cX.putObj (by intro k hk;omega)) (λy=>rfl)
  (λpre W'=>∃ n b,dV cC (aT (pre.map Prod.snd)) f n b/\LZ w.heap.size w f n b W')
  (by
   rintro pre A C row ⟨n,b,h1,h2⟩ hg hr;refine ⟨n,b,h1,h2.grow (Nat.le_refl _) hg λr e=>?_⟩;rcases hr r e with ⟨h,_⟩|⟨h,h'⟩
   .cases h
   exact ⟨aa,h'⟩)
  vP.put (by exact ⟨0,false,vc_,HST.o⟩)
  (λy=>⟨#[.func (Fn.func g) #[] lb,.int .i64 f,undef,.pointer (some ⟨w.heap.size,0,none⟩),.int .i64 0,.bool false,.pointer (some ⟨w.heap.size+1,0,none⟩),.pointer (some ⟨w.heap.size+1+1,0,none⟩),y.1,undef,undef,.func (Fn.func g) #[] lb,y.1,undef,undef,undef,undef,undef,undef,undef,undef,undef,undef,undef,undef,undef,undef,undef,undef,undef,undef,undef,undef,undef,undef,undef,undef,undef,undef,undef,undef,undef,undef,undef,undef,undef,undef,undef],[]⟩) ?assign ?body ?done
 case assign=>
  intro l y W' K hK;unfold sk
  gi_wp2
  exact hK
 case body=>
  rintro l pre y W' ⟨n,b,hN,uK⟩ ⟨⟨r,uP⟩,F,ko⟩;obtain ⟨yv,yt⟩:=y;dsimp only at uP ko;have eQ:=HT.o yt (by rw [uP];simp);obtain ⟨ya,yc,rfl,_⟩:=ko.form;have N9:TV yt:=λp hp=>(eQ.fv p hp).validB;have xw:∀ p∈yt,p.WF:=λp hp=>(eQ.fv p hp).fac.wf;have hs1:fH yt<=cC:=nb_ aF λp hp=>Int.le_trans (eQ.fv p hp).far aF;have sF:=ad (λd ok h=>vx_ eQ.ne xw hs1 (s9_ (f:=f) (n:=d) (b:=ok) eQ.ne xw h));have RP:=ad (λW (h:Below W'.heap.size W' W)=>VC F _ yt f W (ko.ext h) N9 ⟨aa,aa⟩);have Sj:=ad (λW (h:Below W'.heap.size W' W)=>Vh F _ yt W (ko.ext h) N9);have sw:=ad (λW (h:Below W'.heap.size W' W) (h1:f<=1152921504606846976)=>xi_ s F _ yt f W (ko.ext h) eQ.fv f0 h1);have q3:=uK.c3.c0;have jA:=uK.c7.lt;have jD:=ad uK;have HN:=ad hN;clear hN uK uP ko eQ N9 xw hs1;have gU:w.heap.size<=W'.heap.size:=aa;generalize S_:J3 W0.heap.size _ _ W'=Q9;have Sg:=ad S_;clear S_;by_cases hff:f<=1152921504606846976;all_goals
   (try have CU:Hid (cC<f):=ad (Int.not_le.1 hff))
   cases b
   .
    gi_wp2_with (first
     | (refine ⟨trivial,rfl,?_⟩;gi_at_call 134;refine (CallsIn.inRound l (callsIn_wide.2 (RP.o W' (Er _)))).mono ?_;rintro e w1 ⟨d,ok,rfl,fk,hb1⟩;have bo:=ad hb1;have bH:=ad hb1;have fO:=jD.o.ext (Nat.le_refl _) hb1;have r3:=fO.c3.c0;have r6:=fO.c6.cells 0;have r7:=fO.c7.cells 0;have gI:=ad (sF.o d ok fk);clear hb1 fO fk;cases ok;rotate_left;(have dZ:=ad (gI.o.1 ag));rotate_left)
     | (refine ⟨trivial,rfl,?_⟩;gi_at_call 135;refine (CallsIn.inRound l (callsIn_wide.2 (Sj.o _ bo.o))).mono ?_;rintro e w2 ⟨b2,rfl,bL,hb2⟩;have bj:=ad hb2;have bH:=ad (Et bo.o hb2);have hL2:=jD.o.ext (Nat.le_refl _) (Et bo.o hb2);have s3:=hL2.c3.c0;have s6:=hL2.c6.cells 0;have s7:=hL2.c7.cells 0;have K6:=ad (show b2=false->¬ lK yt from λh0 h=>by have h1:=bL.2 h;rw [h0] at h1;cases h1);clear hb2 hL2 bL;cases b2)
     | (refine ⟨trivial,rfl,?_⟩;gi_at_call 136;(refine (CallsIn.inRound l (callsIn_wide.2 (sw.o _ (Et bo.o bj.o) (by assumption)))).mono ?_);rintro e w3 ⟨m3,c3,rfl,iE,hb3⟩;have bH:=ad (Et (Et bo.o bj.o) hb3);have hL3:=jD.o.ext (Nat.le_refl _) (Et (Et bo.o bj.o) hb3);have u3:=hL3.c3.c0;have u6:=hL3.c6.cells 0;have u7:=hL3.c7.cells 0;have dZ:=ad (gI.o.2.2 ag m3 c3 iE);clear hb3 hL3 iE;cases c3)
     | (refine ⟨trivial,?_⟩;apply_assumption))
    all_goals rw [<- Sg.o]
    all_goals first
     | exact wv (y:=(.slice ya yt.length yc,yt)) gU jD.o HN.o bH.o dZ.o (.inl rfl)
     | exact Jy (y:=(.slice ya yt.length yc,yt)) gU jD.o HN.o bH.o dZ.o (.inl rfl)
     | exact wv (y:=(.slice ya yt.length yc,yt)) gU jD.o HN.o bH.o dZ.o (.inr ⟨rfl,Int.not_lt.2 (by assumption)⟩)
     | exact Jy (y:=(.slice ya yt.length yc,yt)) gU jD.o HN.o bH.o dZ.o (.inr (by assumption))
     | exact wv (y:=(.slice ya yt.length yc,yt)) gU jD.o HN.o bH.o (gI.o.2.1 ag (.inr (K6.o ag))) (.inl rfl)
     | exact wv (y:=(.slice ya yt.length yc,yt)) gU jD.o HN.o bH.o (gI.o.2.1 ag (.inl CU.o)) (.inl rfl)
   
   gi_wp2_with (first
    | (refine ⟨trivial,rfl,?_⟩;gi_at_call 134;refine (CallsIn.inRound l (callsIn_wide.2 (RP.o W' (Er _)))).mono ?_;rintro e w1 ⟨d,ok,rfl,fk,hb1⟩;have bo:=ad hb1;have bH:=ad hb1;have fO:=jD.o.ext (Nat.le_refl _) hb1;have r3:=fO.c3.c0;have r6:=fO.c6.cells 0;have r7:=fO.c7.cells 0;have gI:=ad (sF.o d ok fk);clear hb1 fO fk;cases ok;rotate_left;(have dZ:=ad (gI.o.1 ag));rotate_left)
    | (refine ⟨trivial,rfl,?_⟩;gi_at_call 135;refine (CallsIn.inRound l (callsIn_wide.2 (Sj.o _ bo.o))).mono ?_;rintro e w2 ⟨b2,rfl,bL,hb2⟩;have bj:=ad hb2;have bH:=ad (Et bo.o hb2);have hL2:=jD.o.ext (Nat.le_refl _) (Et bo.o hb2);have s3:=hL2.c3.c0;have s6:=hL2.c6.cells 0;have s7:=hL2.c7.cells 0;have K6:=ad (show b2=false->¬ lK yt from λh0 h=>by have h1:=bL.2 h;rw [h0] at h1;cases h1);clear hb2 hL2 bL;cases b2)
    | (refine ⟨trivial,rfl,?_⟩;gi_at_call 136;(refine (CallsIn.inRound l (callsIn_wide.2 (sw.o _ (Et bo.o bj.o) (by assumption)))).mono ?_);rintro e w3 ⟨m3,c3,rfl,iE,hb3⟩;have bH:=ad (Et (Et bo.o bj.o) hb3);have hL3:=jD.o.ext (Nat.le_refl _) (Et (Et bo.o bj.o) hb3);have u3:=hL3.c3.c0;have u6:=hL3.c6.cells 0;have u7:=hL3.c7.cells 0;have dZ:=ad (gI.o.2.2 ag m3 c3 iE);clear hb3 hL3 iE;cases c3)
    | (refine ⟨trivial,?_⟩;apply_assumption))
   all_goals rw [<- Sg.o]
   all_goals first
    | exact wv (y:=(.slice ya yt.length yc,yt)) gU jD.o HN.o bH.o dZ.o (.inl rfl)
    | exact Jy (y:=(.slice ya yt.length yc,yt)) gU jD.o HN.o bH.o dZ.o (.inl rfl)
    | exact wv (y:=(.slice ya yt.length yc,yt)) gU jD.o HN.o bH.o dZ.o (.inr ⟨rfl,Int.not_lt.2 (by assumption)⟩)
    | exact Jy (y:=(.slice ya yt.length yc,yt)) gU jD.o HN.o bH.o dZ.o (.inr (by assumption))
    | exact wv (y:=(.slice ya yt.length yc,yt)) gU jD.o HN.o bH.o (gI.o.2.1 ag (.inr (K6.o ag))) (.inl rfl)
    | exact wv (y:=(.slice ya yt.length yc,yt)) gU jD.o HN.o bH.o (gI.o.2.1 ag (.inl CU.o)) (.inl rfl)
 case done=>
  rintro D xs W' hD aL ⟨n,b,hN,uK⟩ aJ;rw [show xs.map Prod.snd=T from aL] at hN;have q6:=uK.c6.c0;have q7:=uK.c7.c0;have hM:cL w.heap.size [{ target:=.collected D,args:=#[] }] W':=sK aa aJ;have HM:=ad hM;have HN:=ad hN;have jD:=ad uK;clear aL hN uK aJ hM;gi_wp2_with fail;refine wpIn_wide.2 ?_;go_quiet (fail);go_wp2_with fail
  gi_wp2_with fail
  refine jY (B:=w.heap.size) _ _ HM.o λw' hs=>⟨.tuple #[.int .i64 n,.bool b],by simp [results,Tryz.results104,go_sem],n,b,rfl,HN.o,(En jD.o.below _).trans hs.below⟩
end
section
open Go.RowKit Go.Maps Kal
def V5 (S:Int->Prop) (f:Int) (w:World) (e:Ending) (w':World):Prop:=∃ n b,e=.returned (.tuple #[.int .i64 n,.bool b])/\dV cC S f n b/\Below w.heap.size w w'
theorem vb_ (s:Int) (F:Nat->Prop) (v:Value) (m:List (List Per)) (f:Int) (w:World) (h1:aA w F v m) (k1:MV s m) (hf:aP f) :
  Calls Tryz.prog 61 #[.agg #[v],.int .i64 f] w (V5 (aT m) (max f 0) w):=by
 have nI:=λW (h:Below w.heap.size w W)=>sI F v m W (h1.ext h);rw [k1.val] at nI;obtain ⟨a1,c1,rfl⟩:=h1.form;have jC:=ad (λW (h:Below w.heap.size w W) b1 hb1=>VJ s _ _ m (max f 0) W (Vp F (.slice a1 m.length c1) m b1 W (h1.ext h) hb1) k1.vt aa (by have:=hf.2;omega));clear h1 k1;have key:f<0\/0<=f:=Int.lt_or_le f 0;rcases key with hf0|hf0
 all_goals
  go_in
  go_wp2_with (first|(go_at_call 49;refine (nI _ (Ea (Er w) _)).mono ?_;rintro e w1 ⟨rfl,hb1⟩;have b0:af w1 w.heap.size #[.slice a1 m.length c1] 57:=af.below xB hb1;have x0:=b0.c0;have hW1:Below w.heap.size w w1:=Et (Ea (Er w) _) hb1)|(go_at_call 110;refine (Vo _ _ ⟨_,_,_,rfl⟩).mono ?_;rintro e w4 ⟨rfl,rfl⟩)|(go_at_call 104;((with_reducible refine (jC.o _ (Ea hW1 _) w1.heap.size (af.new w1 #[.slice a1 m.length c1] 55).c0).mono ?_);rintro e w5 ⟨n,b,rfl,hn,hb5⟩)))
  go_ret2;exact ⟨n,b,rfl,hn,Et (Ea hW1 _) hb5⟩
theorem t6_ (s:Int) (F1 F2:Nat->Prop) (v1 v2:Value) (m1 m2:List (List Per)) (f:Int) (w:World) (h1:aA w F1 v1 m1) (h2:aA w F2 v2 m2) (k1:MV s m1) (k2:MV s m2) (hf:aP f) :
  Calls Tryz.prog 57 #[.agg #[v1],.agg #[v2],.int .i64 f] w (V5 (aT (dO m1 m2)) (max f 0) w):=by
 have nI:=λW (h:Below w.heap.size w W)=>sI F1 v1 m1 W (h1.ext h);have mH:=λW (h:Below w.heap.size w W)=>sI F2 v2 m2 W (h2.ext h);rw [k1.val] at nI;rw [k2.val] at mH;have Tf:∀ t∈dO m1 m2,kJ s t:=λt ht=>by
  obtain ⟨x,hx,y,hy,rfl⟩:=Ii.1 ht;refine ⟨λe=>(k1.vt x hx).ne (List.append_eq_nil_iff.1 e).1,λp hp=>(List.mem_append.1 hp).elim ((k1.vt x hx).fv p) ((k2.vt y hy).fv p),?_⟩;rw [List.length_append];have:=k1.tlen x hx;have:=k2.tlen y hy;omega
 have jC:=ad (λW (h:Below w.heap.size w W) b1 b2 hb1 hb2=>VJ s _ _ (dO m1 m2) (max f 0) W (VS F1 F2 v1 v2 m1 m2 b1 b2 W (h1.ext h) (h2.ext h) hb1 hb2 (λt ht=>by have:=k1.tlen t ht;omega) (λt ht=>by have:=k2.tlen t ht;omega)) Tf aa (by have:=hf.2;omega));obtain ⟨a1,c1,rfl⟩:=h1.form;obtain ⟨a2,c2,rfl⟩:=h2.form;clear h1 h2 k1 k2 Tf;have key:f<0\/0<=f:=Int.lt_or_le f 0;rcases key with hf0|hf0
 all_goals
  go_in
  go_wp2_with (first|(go_at_call 49;first
    | ((with_reducible refine (nI _ (Ea (Ea (Er w) _) _)).mono ?_);rintro e w1 ⟨rfl,hb1⟩;have b0:af w1 w.heap.size #[.slice a1 m1.length c1] 57:=af.below xB hb1;have b1:af w1 (w.heap.size+1) #[.slice a2 m2.length c2] 57:=af.below xB hb1;have x0:=b0.c0;have x1:=b1.c0;have hW1:Below w.heap.size w w1:=Et (Ea (Ea (Er w) _) _) hb1)
    | ((with_reducible refine (mH _ hW1).mono ?_);rintro e w2 ⟨rfl,hb2⟩;have d0:=b0.below hb2;have d1:=b1.below hb2;have y0:=d0.c0;have y1:=d1.c0;have hW2:Below w.heap.size w w2:=Et hW1 hb2))|(go_at_call 105;refine (VR _ _ _ ⟨_,_,_,rfl⟩ ⟨_,_,_,rfl⟩).mono ?_;rintro e w4 ⟨rfl,rfl⟩)|(go_at_call 104;((with_reducible refine (jC.o _ (Ea (Ea hW2 _) _) w2.heap.size (w2.heap.size+1) ((af.new w2 #[.slice a1 m1.length c1] 57).alloc (.cells #[.slice a2 m2.length c2] 57)).c0 (af.at (w:=w2.alloc (.cells #[.slice a1 m1.length c1] 57)) (c:=#[.slice a2 m2.length c2]) (t:=57) ag).c0).mono ?_);rintro e w5 ⟨n,b,rfl,hn,hb5⟩)))
  go_ret2;exact ⟨n,b,rfl,hn,Et (Ea (Ea hW2 _) _) hb5⟩
end
end Go.Proofs.YtbmgmlbmgogeaaaGreat
end
