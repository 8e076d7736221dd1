/- Part 8 of what the claims of this seat rest on. -/
import Derived.Test.YthjnojbeimchdaaGreatN7
import Derived.Maps.OwnIn
import Derived.Lib.AppendZerosOnto
set_option linter.unusedVariables false
set_option linter.unusedSimpArgs false
namespace Go.Proofs.YthjnojbeimchdaaGreat
open Go.RowKit Go.Maps Kal
def RowF (B:Nat) (A:Nat→Prop) (v:Value) (b:Nat):Prop:=B≤b∧¬ A b∧v.ownBlock≠some b
structure RowT (B:Nat) (A:Nat→Prop) (W:World) (v:Value) (L:List (Value × List Per)):Prop where
 row:W.ownsRow B 36 1 v L.length (L.map Prod.fst)
 all:∀ x∈L,TermR W (RowF B A v) x.1 x.2
 ne:∀ g,v.ownBlock=some g→¬ A g
 len:L.length≤1000000
theorem RowT.nil (B:Nat) (A:Nat→Prop) (W:World):RowT B A W (.slice none 0 0) []:=⟨World.ownsRow_nil W B 36 1,by simp,by simp [Value.ownBlock],by simp⟩
theorem RowT.form {B:Nat} {A:Nat→Prop} {W:World} {v:Value} {L:List (Value × List Per)} (h:RowT B A W v L):∃ a c,v=.slice a L.length c∧L.length≤c∧c≤9223372036854775807∧(L.length=0∨∃ g,a=some ⟨g,0,none⟩):=by
 obtain ⟨_,⟨rfl,h2⟩|⟨g,cap,cur,rfl,_,_,h3,h4,_⟩⟩:=h.row
 ·exact ⟨none,0,by rw [h2],by omega,by omega,.inl h2⟩
 ·exact ⟨_,cap,rfl,h3,h4,.inr ⟨g,rfl⟩⟩
theorem RowT.below {B:Nat} {A:Nat→Prop} {W W':World} {v:Value} {L:List (Value × List Per)} (h:RowT B A W v L) (hb:Below W.heap.size W W'):RowT B A W' v L:=
 ⟨h.row.kept (row:=none) (World.grownBy.of_below hb _) (by cases v.ownBlock <;> simp),fun x hx=>(h.all x hx).ext hb,h.ne,h.len⟩
theorem RowT.box {B:Nat} {A:Nat→Prop} {W W':World} {v:Value} {L:List (Value × List Per)} {k:Nat} (h:RowT B A W v L) (hg:W.grownBy W' (some k)) (hA:A k):RowT B A W' v L:=
 ⟨h.row.kept hg (.inr fun e=>h.ne k e hA),fun x hx=>(h.all x hx).keep (KeepF.grown hg fun hf=>hf.2.1 hA) hg.size,h.ne,h.len⟩
theorem RowT.mono {B:Nat} {A A':Nat→Prop} {W:World} {v:Value} {L:List (Value × List Per)} (h:RowT B A W v L) (hs:∀ k,A' k→A k∨W.heap.size≤k):RowT B A' W v L:=
 ⟨h.row,fun x hx=>((h.all x hx).lt).mono fun b hb=>⟨hb.1.1,fun ha=>(hs b ha).elim hb.1.2.1 fun hl=>by have:=hb.2;omega,hb.1.2.2⟩,fun g hg ha=>(hs g ha).elim (h.ne g hg) fun hl=>by have:=(h.row.lt g hg).2;omega,h.len⟩
theorem RowT.push {B:Nat} {A:Nat→Prop} {W W':World} {v v':Value} {L:List (Value × List Per)} {y:Value × List Per} (h:RowT B A W v L) (hy:TermR W (RowF B A v) y.1 y.2) (hr:W'.ownsRow B 36 1 v' (L.length+1) (L.map Prod.fst ++ [y.1])) (hg:W.grownBy W' v.ownBlock)
  (hb:v'.ownBlock=v.ownBlock∨v'.ownBlock=some W.heap.size) (hA:¬ A W.heap.size) (hl:L.length<1000000):RowT B A W' v' (L ++ [y]):=by
 have key:∀ {u:Value} {t:List Per},TermR W (RowF B A v) u t→TermR W' (RowF B A v') u t:=fun ht=>by
  refine (ht.lt.keep (fun b hb hl=>hg.block b hl fun e=>hb.1.2.2 e.symm) hg.size).mono fun b hb'=>⟨hb'.1.1,hb'.1.2.1,?_⟩
  rcases hb with e|e
  ·rw [e];exact hb'.1.2.2
  ·rw [e];rintro ⟨⟩;have:=hb'.2;omega
 refine ⟨by rw [List.length_append,List.map_append];exact hr,fun x hx=>?_,fun g hg'=>?_,by simp;omega⟩
 ·rcases List.mem_append.1 hx with hx|hx
  ·exact key (h.all x hx)
  ·obtain rfl:x=y:=by simpa using hx
   exact key hy
 ·rcases hb with e|e
  ·exact h.ne g (e ▸ hg')
  ·rw [e] at hg';cases hg';exact hA
theorem RowT.get {B:Nat} {A:Nat→Prop} {W:World} {v:Value} {L:List (Value × List Per)} {g n c:Nat} (h:RowT B A W v L) (hv:v=.slice (some ⟨g,0,none⟩) n c) {k:Nat} (hk:k<L.length) :
  TermR W (RowF B A v) (L.getD k default).1 (L.getD k default).2∧W.cell? ⟨g,k,none⟩=some (L.getD k default).1∧∀ i,W.frozen? ⟨g,i,none⟩=false:=by
 have hn:n=L.length:=by
  obtain ⟨_,_,e,_⟩:=h.form
  rw [hv] at e;cases e;rfl
 subst hn
 subst hv
 refine ⟨h.all _ (getD_mem' hk),(h.row.cellAt k (by omega)).trans ?_,fun i=>h.row.frozenAt i⟩
 rw [List.getElem?_map,List.getD_eq_getElem?_getD,List.getElem?_eq_getElem hk];rfl
theorem RowT.set {B:Nat} {A:Nat→Prop} {W:World} {L:List (Value × List Per)} {g n c:Nat} {y:Value × List Per} (h:RowT B A W (.slice (some ⟨g,0,none⟩) n c) L) (k:Nat) (hy:TermR W (RowF B A (.slice (some ⟨g,0,none⟩) n c)) y.1 y.2) :
  RowT B A (W.setCell ⟨g,k,none⟩ y.1) (.slice (some ⟨g,0,none⟩) n c) (L.set k y):=by
 have hn:n=L.length:=by
  obtain ⟨_,_,e,_⟩:=h.form
  cases e;rfl
 subst hn
 have hg:W.grownBy (W.setCell ⟨g,k,none⟩ y.1) (some g):=World.grownBy.set' ⟨rfl,rfl,rfl,Nat.le_refl _,fun _ _ _=>rfl⟩ _
 have key:∀ {u:Value} {t:List Per},TermR W (RowF B A (.slice (some ⟨g,0,none⟩) L.length c)) u t→TermR (W.setCell ⟨g,k,none⟩ y.1) (RowF B A (.slice (some ⟨g,0,none⟩) L.length c)) u t:=fun ht=>ht.keep (KeepF.grown hg fun hf=>hf.2.2 rfl) hg.size
 refine ⟨?_,fun x hx=>?_,h.ne,by rw [List.length_set];exact h.len⟩
 ·rw [List.length_set,List.map_set];exact (h.row.stored k y.1).1
 ·rcases List.mem_or_eq_of_mem_set hx with hx|rfl
  ·exact key (h.all x hx)
  ·exact key hy
theorem TermR.one {W:World} {F:Nat→Prop} {v:Value} {t:List Per} (h:TermR W F v t):v.oneCell'=true:=by
 obtain ⟨L,_,hL⟩:=h
 obtain ⟨a,c,rfl,_⟩:=hL.row.is
 rfl
theorem rowT_delete (B:Nat) (A:Nat→Prop) (g n c jj:Nat) (L:List (Value × List Per)) (W:World) (h:RowT B A W (.slice (some ⟨g,0,none⟩) n c) L) (hj:jj<L.length) :
  Calls Tryz.prog 110 #[.slice (some ⟨g,0,none⟩) n c,.int .i64 jj,.int .i64 (jj+1)] W fun e w'=>e=.returned (.slice (some ⟨g,0,none⟩) (L.length-1) c)∧RowT B A w' (.slice (some ⟨g,0,none⟩) (L.length-1) c) (L.eraseIdx jj)∧W.grownBy w' (some g):=by
 have hn:n=L.length:=by
  obtain ⟨_,_,e,_⟩:=h.form
  cases e;rfl
 subst hn
 refine (deleteT_any B g L.length c jj _ W h.row hj fun u hu=>?_).mono fun e w' ⟨h1,h2,h3⟩=>⟨h1,⟨?_,fun x hx=>?_,h.ne,?_⟩,h3⟩
 ·obtain ⟨x,hx,rfl⟩:=List.mem_map.1 hu
  exact (h.all x hx).one
 ·have hl:(L.eraseIdx jj).length=L.length-1:=List.length_eraseIdx_of_lt hj
  have hm:(L.eraseIdx jj).map Prod.fst=(L.map Prod.fst).take (jj*1) ++ (L.map Prod.fst).drop ((jj+1)*1):=by
   rw [List.eraseIdx_eq_take_drop_succ,List.map_append,List.map_take,List.map_drop,Nat.mul_one,Nat.mul_one]
  rw [hl,hm];exact h2
 ·exact (h.all x (List.mem_of_mem_eraseIdx hx)).keep (KeepF.grown h3 fun hf=>hf.2.2 rfl) h3.size
 ·have:=h.len;have:=List.length_eraseIdx_of_lt hj;omega
theorem TermR.cellF {W:World} {F:Nat→Prop} {v:Value} {t:List Per} (h:TermR W F v t):TermR W (fun b=>F b∧CellB W b) v t:=by
 obtain ⟨L,e,g⟩:=h
 refine ⟨L,e,?_,g.len,fun x hx=>⟨(g.all x hx).is,(g.all x hx).fr,(g.all x hx).pe,fun e k hk=>⟨(g.all x hx).bh e k hk,(g.all x hx).is.hd.cellB e hk⟩,fun e k hk=>⟨(g.all x hx).bc e k hk,(g.all x hx).is.cy.cellB e hk⟩⟩⟩
 obtain ⟨a,c,rfl,h1,h2,h3⟩:=g.row
 refine ⟨a,c,rfl,h1,h2,?_⟩
 by_cases hL:L.length=0
 ·exact .inl hL
 ·rcases h3 with h3|⟨b,o,rfl,hb,hl,hc⟩
  ·exact .inl h3
  ·exact .inr ⟨b,o,rfl,⟨hb,cellB_of (hc (0*4+0) _ (flat_get (by omega) rfl))⟩,hl,hc⟩
theorem RowT.grow {B:Nat} {A:Nat→Prop} {W W':World} {v:Value} {L:List (Value × List Per)} {row:Option Nat} (h:RowT B A W v L) (hg:W.grownBy W' row) (hr:∀ r,row=some r→∃ o:Obj,W.heap[r]? = some o∧o.isCells=false):RowT B A W' v L:=by
 refine ⟨h.row.kept hg ?_,fun x hx=>((h.all x hx).cellF.keep (fun b hb hl=>hg.block b hl ?_) hg.size).mono fun b hb=>hb.1,h.ne,h.len⟩
 ·rcases hob:v.ownBlock with _|g
  ·exact .inl rfl
  ·refine .inr fun e=>?_
   obtain ⟨o,h1,h2⟩:=hr g e.symm
   obtain ⟨_,⟨rfl,_⟩|⟨g',cap,cur,rfl,_,hh,_⟩⟩:=h.row
   ·simp [Value.ownBlock] at hob
   ·simp [Value.ownBlock] at hob
    subst hob
    rw [hh] at h1;cases h1;cases h2
 ·rintro e
  obtain ⟨o,h1,h2⟩:=hr b e.symm
  obtain ⟨o',h3,h4⟩:=hb.2
  rw [h1] at h3;cases h3;rw [h2] at h4;cases h4
theorem RowT.mix {B:Nat} {A:Nat→Prop} {W:World} {v:Value} {L:List (Value × List Per)} (h:RowT B A W v L):MixL W (fun b=>B≤b) v L:=by
 refine ⟨?_,by have:=h.len;omega,fun x hx=>(h.all x hx).mono fun b hb=>hb.1⟩
 obtain ⟨hl,⟨rfl,h2⟩|⟨g,cap,cur,rfl,hb,hg,h3,h4,h5,h6⟩⟩:=h.row
 ·rw [h2];exact ⟨none,0,rfl,by omega,by omega,.inl rfl⟩
 ·refine ⟨_,cap,rfl,h3,h4,.inr ⟨g,0,rfl,hb,(h.row.lt g rfl).2,fun i u hi=>?_⟩⟩
  rw [Nat.zero_add]
  have:=(List.getElem?_eq_some_iff.1 hi).1
  rw [List.length_map] at this
  exact (h.row.cellAt i (by omega)).trans hi
theorem RowT.shut {B C:Nat} {A:Nat→Prop} {W W':World} {v:Value} {L:List (Value × List Per)} (h:RowT B A W v L) (hs:ShutX C W W'):RowT B A W' v L:=by
 refine ⟨⟨h.row.1,?_⟩,fun x hx=>((h.all x hx).cellF.keep2 fun b hb _=>?_).mono fun b hb=>hb.1,h.ne,h.len⟩
 ·rcases h.row.2 with h2|⟨g,cap,cur,e,hb,hg,rest⟩
  ·exact .inl h2
  ·exact .inr ⟨g,cap,cur,e,hb,hs.cells _ _ hg rfl,rest⟩
 ·obtain ⟨o,h1,h2⟩:=hb.2
  exact (hs.cells _ _ h1 h2).trans h1.symm
set_option maxRecDepth 100000 in
set_option maxHeartbeats 1000000 in
theorem normal1_any (F G:Nat→Prop) (v tv:Value) (t u:List Per) (tb:Nat) (w:World) (hv:TermR w F v t) (ht:TermR w G tv u) (hc:w.cell? ⟨tb,0,none⟩=some tv) :
  Calls Tryz.prog 111 #[v,.pointer (some ⟨tb,0,none⟩)] w fun e w'=>e=.returned (.bool (sameT t u))∧Below w.heap.size w w':=by
 have H:=equalFunc_any F G v tv t u w hv ht
 have hlt:=World.block_lt_of_cell? w _ hc
 obtain ⟨a1,c1,rfl,_⟩:=hv.form
 obtain ⟨a2,c2,rfl,_⟩:=ht.form
 clear hv ht
 generalize sameT t u=b at H ⊢
 go_enter Tryz.func111,Tryz.ntmps111
 go_wp2_with (go_at_call 112;refine H.mono ?_;rintro e w1 ⟨rfl,hb1⟩)
 go_ret
 exact ⟨rfl,xE⟩
theorem contains_term (F G:Nat→Prop) (ov:Value) (LO:List (Value × List Per)) (tv:Value) (u:List Per) (tb:Nat) (w:World) (hL:MixL w F ov LO) (ht:TermR w G tv u) (hc:w.cell? ⟨tb,0,none⟩=some tv) :
  Calls Tryz.prog 57 #[ov,.func (.func 111) #[] #[.pointer (some ⟨tb,0,none⟩)]] w fun e w'=>∃ b,e=.returned (.bool b)∧(b=true↔u∈LO.map Prod.snd)∧Below w.heap.size w w':=by
 have h:=containsFuncT F ov LO (fun x=>sameT x.2 u) 111 #[.pointer (some ⟨tb,0,none⟩)] (enters_of Tryz.func111 (by kernel_rfl) rfl) w hL.row hL.len (fun W x hW hx=>by
  have h:=normal1_any F G x.1 tv x.2 u tb W ((hL.all x hx).ext hW) (ht.ext hW) (Ext.cell hW hc)
  have e:(#[x.1] ++ #[Value.pointer (some ⟨tb,0,none⟩)])=#[x.1,.pointer (some ⟨tb,0,none⟩)]:=by simp
  rw [e]
  exact h.mono fun e w' ⟨h1,h2⟩=>⟨h1,hW.trans (h2.mono hW.size)⟩)
 refine h.mono fun e w' ⟨h1,h2⟩=>⟨_,h1,?_,h2⟩
 rw [List.any_eq_true,List.mem_map]
 constructor
 ·rintro ⟨x,hx,hs⟩
  refine ⟨x,hx,?_⟩
  by_cases he:x.2=u
  ·exact he
  ·rw [sameT_false he] at hs;cases hs
 ·rintro ⟨x,hx,he⟩
  exact ⟨x,hx,sameT_true he⟩
end Go.Proofs.YthjnojbeimchdaaGreat
namespace Go.Proofs.YthjnojbeimchdaaGreat
open Go.RowKit Go.Shelf Go.Maps Kal
attribute [local go_sem] Oper.semAt_some
structure VTerm (s:Int) (t:List Per):Prop where
 ne:t≠[]
 fv:∀ p∈t,FV s p
 len:t.length≤1000000
theorem VTerm.f {s:Int} {t:List Per} (h:VTerm s t):FTerm s t:=⟨h.ne,fun p hp=>(h.fv p hp).fac⟩
theorem VTerm.merged {s:Int} {t u:List Per} (h:VTerm s t) (hm:MergedTo t u) (hv:∀ p∈u,FV s p):VTerm s u:=by
 obtain ⟨h1,_,h3⟩:=hm.ok h.f
 exact ⟨h1.1,hv,Nat.le_trans h3 h.len⟩
structure NI (B:Nat) (w:World) (s:Int) (lv:Value) (L:List (Value × List Per)) (W:World):Prop where
 below:Below B w W
 row:RowT B (fun k=>k=B∨k=B+1) W lv L
 rbx:Bxx W B #[.slice none 0 0] 28
 lbx:Bxx W (B+1) #[lv] 26
 vt:∀ x∈L,VTerm s x.2
theorem NI.grow {B:Nat} {w:World} {s:Int} {lv:Value} {L:List (Value × List Per)} {W W':World} {row:Option Nat} (h:NI B w s lv L W) (hB:B≤w.heap.size) (hg:W.grownBy W' row) (hr:∀ r,row=some r→B≤r∧∃ o:Obj,W.heap[r]? = some o∧o.isCells=false):NI B w s lv L W':=by
 have key:∀ {b:Nat} {c:Array Value} {t:TypeId},Bxx W b c t→Bxx W' b c t:=fun {b c t} hx=>by
  refine (hg.block b hx.lt fun e=>?_).trans hx
  obtain ⟨_,o,ho,hc⟩:=hr b e.symm
  rw [show W.heap[b]? = _ from hx] at ho;cases ho;cases hc
 exact ⟨h.below.grown hg (Nat.le_trans hB h.below.size) (fun k e=>(hr k e).1),h.row.grow hg (fun r e=>(hr r e).2),key h.rbx,key h.lbx,h.vt⟩
theorem NI.ext {B:Nat} {w:World} {s:Int} {lv:Value} {L:List (Value × List Per)} {W W':World} (h:NI B w s lv L W) (hB:B≤w.heap.size) (hb:Below W.heap.size W W'):NI B w s lv L W':=
 ⟨h.below.trans (hb.mono (Nat.le_trans hB h.below.size)),h.row.below hb,h.rbx.below hb,h.lbx.below hb,h.vt⟩
def lenW (B:Nat) (W:World):Nat:=match W.cell? ⟨B+1,0,none⟩ with|some (.slice _ n _)=>n|_=>0
theorem NI.lenW {B:Nat} {w:World} {s:Int} {lv:Value} {L:List (Value × List Per)} {W:World} (h:NI B w s lv L W):lenW B W=L.length:=by
 obtain ⟨a,c,rfl,_⟩:=h.row.form
 have h1:=(h.lbx.cells 0).1
 unfold Go.Proofs.YthjnojbeimchdaaGreat.lenW
 rw [h1];rfl
theorem TermR.single {F:Nat→Prop} {W:World} {v:Value} {t:List Per} (h:TermR W F v t) (h1:t.length=1):∃ b o c a1 n1 c1 a2 n2 c2,v=.slice (some ⟨b,o,none⟩) 1 c∧PVok W F ⟨.slice a1 n1 c1,.slice a2 n2 c2,t.getD 0 default⟩∧
  W.cell? ⟨b,o,none⟩=some (.slice a1 n1 c1)∧W.cell? ⟨b,o+1,none⟩=some (.int .i64 (t.getD 0 default).frm)∧W.cell? ⟨b,o+2,none⟩=some (.int .i64 (t.getD 0 default).period)∧W.cell? ⟨b,o+3,none⟩=some (.slice a2 n2 c2):=by
 obtain ⟨L,rfl,hL⟩:=h
 obtain ⟨a,c,rfl,_⟩:=hL.row.is
 have hl:L.length=1:=by simpa using h1
 obtain ⟨b,o,x,rfl,hx,hxp,_,e0,e1,e2,e3⟩:=hL.get (show 0<L.length by omega)
 obtain ⟨xh,xc,xp⟩:=x
 obtain ⟨a1,n1,c1,a2,n2,c2,rfl,rfl⟩:=hx.form
 dsimp only at e0 e1 e2 e3 hxp
 subst hxp
 rw [hl]
 simp only [Nat.zero_mul,Nat.add_zero] at e0 e1 e2 e3
 exact ⟨b,o,c,a1,n1,c1,a2,n2,c2,rfl,hx,e0,e1,e2,e3⟩
theorem term_one {W:World} {n:Nat} {a1 a2:Option Addr} {n1 c1 n2 c2:Nat} {q:Per} (h:PVok W (fun b=>n≤b∧b≠n) ⟨.slice a1 n1 c1,.slice a2 n2 c2,q⟩) (hn:n≤W.heap.size) :
  TermR (W.alloc (.cells #[.slice a1 n1 c1,.int .i64 q.frm,.int .i64 q.period,.slice a2 n2 c2] 39)) (fun b=>n≤b∧(b≠n∨b=W.heap.size)) (.slice (some ⟨W.heap.size,0,none⟩) 1 1) [q]:=by
 have hb:=Bxx.new W #[.slice a1 n1 c1,.int .i64 q.frm,.int .i64 q.period,.slice a2 n2 c2] 39
 refine ⟨[⟨.slice a1 n1 c1,.slice a2 n2 c2,q⟩],rfl,⟨_,1,rfl,by simp,by omega,.inr ⟨W.heap.size,0,rfl,⟨hn,.inr rfl⟩,hb.lt,fun i u hi=>?_⟩⟩,by simp,fun x hx=>?_⟩
 ·rw [Nat.zero_add]
  refine (hb.cells i).1.trans ?_
  rw [← hi]
  match i with
  | 0=>rfl
  | 1=>rfl
  | 2=>rfl
  | 3=>rfl
  | k+4=>rfl
 ·obtain rfl:x=⟨.slice a1 n1 c1,.slice a2 n2 c2,q⟩:=by simpa using hx
  exact (h.keep (KeepF.below (Ea (Er W) _))).mono fun b hb=>⟨hb.1,.inl hb.2⟩
theorem RowT.boxO {B:Nat} {A:Nat→Prop} {W W':World} {v:Value} {L:List (Value × List Per)} {row:Option Nat} (h:RowT B A W v L) (hg:W.grownBy W' row) (hA:∀ k,row=some k→A k):RowT B A W' v L:=by
 rcases row with _|k
 ·exact ⟨h.row.kept hg (by cases v.ownBlock <;> simp),fun x hx=>(h.all x hx).keep (fun b _ hl=>hg.block b hl (by simp)) hg.size,h.ne,h.len⟩
 ·exact h.box hg (hA k rfl)
def NormRes (s:Int) (T:List (List Per)) (w:World) (e:Ending) (w':World):Prop:=
 ∃ (v:Value) (m:List (List Per)),NormTo T m∧(∀ t∈m,VTerm s t)∧Below w.heap.size w w'∧
  ((validM m=true∧e=.returned (.tuple #[.agg #[v],.int .i64 0])∧MixR w' (fun b=>w.heap.size≤b) v m)∨(validM m=false∧e=.returned (.tuple #[.agg #[.slice none 0 0],.int .i64 2])))
structure NO (B n D k:Nat) (w:World) (lv ov:Value) (M LO:List (Value × List Per)) (W:World):Prop where
 below:Below B w W
 lrow:RowT B (fun k=>k=B∨k=B+1∨n≤k) W lv M
 orow:RowT B (fun k=>k=B∨k=B+1∨k=n) W ov LO
 own:∀ g,ov.ownBlock=some g→n≤g
 obx:Bxx W n #[ov] 28
 rbx:Bxx W B #[.slice none 0 0] 28
 dfr:W.heap[D]? = some (.deferred (some []))
 eq:LO.map Prod.snd=ddL [] ((M.map Prod.snd).take k)
 len:LO.length≤k
theorem NO.ext {B n D k:Nat} {w:World} {lv ov:Value} {M LO:List (Value × List Per)} {W W':World} (h:NO B n D k w lv ov M LO W) (hB:B≤w.heap.size) (hb:Below W.heap.size W W'):NO B n D k w lv ov M LO W':=
 ⟨h.below.trans (hb.mono (Nat.le_trans hB h.below.size)),h.lrow.below hb,h.orow.below hb,h.own,h.obx.below hb,h.rbx.below hb,(hb.block D (Array.getElem?_eq_some_iff.1 h.dfr).1).trans h.dfr,h.eq,h.len⟩
theorem Bxx.c0 {w:World} {b:Nat} {v:Value} {t:TypeId} (h:Bxx w b #[v] t):w.cell? ⟨b,0,none⟩=some v:=(h.cells 0).1
theorem EyT.put {T:List (List Per)} (pre:List (Value × List Per)) (y:Value × List Per) (W:World) (l:Nat) (o o':Obj) (hl:W.heap[l]? = some o) (ho:o.isCells=false) (h:EyT T pre y W):EyT T pre y (W.putObj l o'):=
 ⟨h.1,_,(h.2.choose_spec).put hl ho⟩
set_option maxRecDepth 100000 in
theorem append_termIn {F:Fence} {nF:Nat}{w:World} {ops:Array Oper} {rest:List Oper} {o:Oper} {a:Act} {Q:Exit→Act→World→Prop} (hgd:o.guard=none) (sx x:Operand)
  (ho:o.op=.call { callee:=.builtin .append,args:=#[sx,x],argTypes:=#[26,26] }) (B:Nat) (A:Nat→Prop) (v:Value) (L:List (Value × List Per)) (y:Value × List Per) (hs:a.eval sx=v) (h:RowT B A w v L)
  (hy:TermR w (RowF B A v) y.1 y.2) (blk c:Nat) (hx:a.eval x=.slice (some ⟨blk,0,none⟩) 1 c) (hnew:w.cell? ⟨blk,0,none⟩=some y.1) (hA:¬ A w.heap.size) (hl:L.length<1000000) (hB:B≤w.heap.size)
  (k:∀ (a':Option Addr) (c':Nat) (w':World),RowT B A w' (.slice a' (L.length+1) c') (L ++ [y])→w.grownBy w' v.ownBlock→Below B w w'→((Value.slice a' (L.length+1) c').ownBlock=v.ownBlock∨(Value.slice a' (L.length+1) c').ownBlock=some w.heap.size)→wpListIn F nF Tryz.prog ops Q rest (a.put o.dst (.slice a' (L.length+1) c')) w') :
  wpListIn F nF Tryz.prog ops Q (o :: rest) a w:=by
 obtain ⟨i,hi,h1,h2,h3⟩:=termInfo
 refine wpListIn_append_own_at w hgd sx x 26 ho B 36 i (.slice none 0 0) 1 24 rfl hi h1 h2 h3 rfl (by omega) v L.length (L.map Prod.fst) hs h.row ⟨blk,0,none⟩ 1 c [y.1] hx rfl ?_ (by simp;exact hy.one) (by unfold maxLen;omega) (by omega) hB ?_
 ·intro j u hu
  match j,hu with
  | 0,hu=>simp at hu;subst hu;exact hnew
 ·intro v' w' hown' hgrow _ hb
  have hp:=h.push hy hown' hgrow hb hA hl
  obtain ⟨a',c',rfl,_⟩:=hp.form
  have e:(L ++ [y]).length=L.length+1:=by simp
  rw [e] at hp hb ⊢
  exact k a' c' w' hp hgrow ((Below.refl B w).grown hgrow hB fun k e=>(h.row.lt k e).1) hb
set_option maxRecDepth 100000 in
theorem append_term {w:World} {ops:Array Oper} {rest:List Oper} {o:Oper} {a:Act} {Q:Exit→Act→World→Prop} (hgd:o.guard=none) (sx x:Operand)
  (ho:o.op=.call { callee:=.builtin .append,args:=#[sx,x],argTypes:=#[26,26] }) (B:Nat) (A:Nat→Prop) (v:Value) (L:List (Value × List Per)) (y:Value × List Per) (hs:a.eval sx=v) (h:RowT B A w v L)
  (hy:TermR w (RowF B A v) y.1 y.2) (blk c:Nat) (hx:a.eval x=.slice (some ⟨blk,0,none⟩) 1 c) (hnew:w.cell? ⟨blk,0,none⟩=some y.1) (hA:¬ A w.heap.size) (hl:L.length<1000000) (hB:B≤w.heap.size)
  (k:∀ (a':Option Addr) (c':Nat) (w':World),RowT B A w' (.slice a' (L.length+1) c') (L ++ [y])→w.grownBy w' v.ownBlock→Below B w w'→((Value.slice a' (L.length+1) c').ownBlock=v.ownBlock∨(Value.slice a' (L.length+1) c').ownBlock=some w.heap.size)→wpList Tryz.prog ops Q rest (a.put o.dst (.slice a' (L.length+1) c')) w') :
  wpList Tryz.prog ops Q (o :: rest) a w:=by
 obtain ⟨i,hi,h1,h2,h3⟩:=termInfo
 refine wpList_append_own_at w hgd sx x 26 ho B 36 i (.slice none 0 0) 1 24 rfl hi h1 h2 h3 rfl (by omega) v L.length (L.map Prod.fst) hs h.row ⟨blk,0,none⟩ 1 c [y.1] hx rfl ?_ (by simp;exact hy.one) (by unfold maxLen;omega) (by omega) hB ?_
 ·intro j u hu
  match j,hu with
  | 0,hu=>simp at hu;subst hu;exact hnew
 ·intro v' w' hown' hgrow _ hb
  have hp:=h.push hy hown' hgrow hb hA hl
  obtain ⟨a',c',rfl,_⟩:=hp.form
  have e:(L ++ [y]).length=L.length+1:=by simp
  rw [e] at hp hb ⊢
  exact k a' c' w' hp hgrow ((Below.refl B w).grown hgrow hB fun k e=>(h.row.lt k e).1) hb
theorem TermR.fresh {B n:Nat} {W:World} {v u:Value} {t:List Per} (h:TermR W (fun b=>n≤b) u t) (h1:B+2≤n) (hv:∀ g,v.ownBlock=some g→g<n):TermR W (RowF B (fun k=>k=B∨k=B+1) v) u t:=
 h.mono fun b (hb:n≤b)=>⟨by omega,(by rintro (h|h) <;> omega),fun e=>by have:=hv b e;omega⟩
theorem RowT.row_cells {B:Nat} {A:Nat→Prop} {W:World} {v:Value} {L:List (Value × List Per)} (h:RowT B A W v L):∀ r,v.ownBlock=some r→∃ o:Obj,W.heap[r]? = some o∧o.isCells=true:=by
 intro r hr
 obtain ⟨_,⟨rfl,_⟩|⟨g,cap,cur,rfl,_,hh,_⟩⟩:=h.row
 ·cases hr
 ·obtain rfl:g=r:=by simpa [Value.ownBlock] using hr
  exact ⟨_,hh,rfl⟩
theorem KeepsOthers.of_below {A C:World} (h:Below A.heap.size A C):KeepsOthers A C:=⟨h.size,fun k o hk _=>(h.block k (Array.getElem?_eq_some_iff.1 hk).1).trans hk⟩
set_option maxRecDepth 100000 in
set_option maxHeartbeats 4000000 in
theorem normal_any (s:Int) (g:Nat) (lb:Array Value) (T:List (List Per)) (w:World) (hit:IterT g lb T w) (hT:∀ t∈T,VTerm s t) (hTl:T.length≤100000) :
  Calls Tryz.prog 68 #[.func (.func g) #[] lb] w (NormRes s T w):=by
 refine callsIn_wide (n:=0).1 ?_
 refine callsIn_of_wp_marks Tryz.func68 rfl trivial ?_ rfl
 simp only [Tryz.ntmps68,List.size_toArray,List.length_cons,List.length_nil,Nat.reduceAdd,Nat.reduceSub,Array.replicate_succ,Array.replicate_zero,List.push_toArray,List.append_toArray,List.nil_append,List.cons_append]
 gi_wp2_with fail
 generalize hW0:(w.alloc _).alloc _=W0
 have hE:Below w.heap.size w W0:=by rw [← hW0];exact xE
 have hsz:W0.heap.size=w.heap.size+2:=by rw [← hW0];simp
 have hrb:Bxx W0 w.heap.size #[.slice none 0 0] 28:=by rw [← hW0];exact (Bxx.at rfl).alloc _
 have hlb:Bxx W0 (w.heap.size+1) #[.slice none 0 0] 26:=by rw [← hW0];exact Bxx.at (by simp)
 have HIT:=Lib.hid hit
 have HST:Hid (NI w.heap.size w s (.slice none 0 0) [] W0):=Lib.hid ⟨hE,RowT.nil _ _ _,hrb,hlb,by simp⟩
 have HT:=Lib.hid hT
 clear hW0 hrb hlb hit hT
 refine wpIn_rangeY (α:=Value × List Per) (x:=none) (gf:=g) (lb:=lb) rfl HIT.out.1 (HIT.out.2 W0 hE) (fun h k=>h.trans k) (KpB.putObj (by intro k hk;omega)) (fun y=>rfl)
  (fun pre W'=>∃ lv L,MergeAll (pre.map Prod.snd) (L.map Prod.snd)∧NI w.heap.size w s lv L W'∧L.length≤pre.length∧∃ r,T=pre.map Prod.snd ++ r)
  (by
   rintro pre A C row ⟨lv,L,h1,h2,h3,h4⟩ hg hr
   refine ⟨lv,L,h1,h2.grow (Nat.le_refl _) hg fun r e=>?_,h3,h4⟩
   rcases hr r e with ⟨h,_⟩|⟨h,h'⟩
   ·cases h
   ·exact ⟨by omega,h'⟩)
  EyT.put (by exact ⟨_,[],MergeAll.nil,HST.out,by simp,T,by simp⟩)
  (fun y=>⟨#[.func (Fn.func g) #[] lb,undef,.pointer (some ⟨w.heap.size,0,none⟩),.int .i64 0,.pointer (some ⟨w.heap.size+1,0,none⟩),y.1,undef,undef,undef,undef,undef,undef,undef,undef,.func (Fn.func g) #[] lb,y.1,undef,undef,undef,undef,undef,undef,undef,undef,undef,undef,undef,undef,undef,undef,undef,undef,undef,undef,undef,undef,undef,undef,undef,undef,undef,undef,undef,undef,undef,undef,undef,undef,undef,undef,undef,undef,undef,undef,undef,undef,undef,undef,undef,undef,undef,undef,undef,undef,undef,undef,undef,undef,undef,undef,undef,undef,undef,undef,undef,undef,undef,undef,undef,undef,undef,undef,undef,undef,undef,undef,undef,undef,undef,undef,undef,undef,undef,undef,undef,undef,undef,undef,undef,undef,undef,undef,undef,undef,undef,undef,undef,undef,undef,undef,undef,undef,undef,undef,undef,undef,undef,undef,undef,undef,undef],[]⟩) ?assign ?body ?done
 case assign=>
  intro l y W' K hK
  unfold tenc
  gi_wp2
  exact hK
 case body=>
  rintro l pre y W' ⟨lv,L,hMA,hNI,hLl,-⟩ ⟨⟨r,hTr⟩,F,hyt⟩
  obtain ⟨yv,yt⟩:=y
  dsimp only at hTr hyt
  have hvt:=HT.out yt (by rw [hTr];simp)
  have hpl:pre.length≤100000:=by
   have:=congrArg List.length hTr
   rw [List.length_append,List.length_map,List.length_cons] at this;omega
  obtain ⟨ya,yc,rfl,_⟩:=hyt.form
  obtain ⟨la,lc,rfl,_⟩:=hNI.row.form
  have hwz:=hNI.lbx.lt
  have hown:=hNI.row.row.lt
  have HM:=merged_any F s _ yt W' hyt hvt.fv hvt.len
  have HVT:=Lib.hid hvt
  have HNI:=Lib.hid hNI
  have HMA:=Lib.hid hMA
  have HTR:=Lib.hid hTr
  clear hNI hMA hTr hyt hvt
  gi_wp2_with (first
   | (refine ⟨trivial,rfl,?_⟩;gi_at_call 108;refine (CallsIn.inRound l (callsIn_wide.2 HM)).mono ?_;rintro e w1 ⟨v',u,rfl,hmt,hfv,htr,hb1⟩;obtain ⟨va,vc,rfl,_⟩:=htr.form;have HMT:=Lib.hid hmt;have HFV:=Lib.hid hfv;have HTR1:=Lib.hid htr;have HROW:=(fun W (hW:Below w1.heap.size w1 W)=>(htr.ext hW).fresh (B:=w.heap.size) (v:=.slice la L.length lc) (by omega) (fun g hg=>(hown g hg).2));have HB1:=Lib.hid hb1;clear hmt hfv htr hb1)
   | (refine ⟨trivial,rfl,?_⟩;gi_at_call 75;refine (CallsIn.inRound l (callsIn_wide.2 (barren_any _ _ u _ (HTR1.out.ext (by exact Below.refl _ _)) (fun p hp=>(HFV.out p hp).validB)))).mono ?_;rintro e w2 ⟨b,rfl,hbar,hb2⟩;have HBAR:=Lib.hid hbar;have HB2:=Lib.hid hb2;clear hbar hb2;have hbx:=HNI.out.lbx.below (Et HB1.out HB2.out);have q2:=(hbx.cells 0).1;have q3:=(hbx.cells 0).2;clear hbx;cases b)
   | (gi_at_builtin;refine append_termIn (by rfl) _ _ (by rfl) w.heap.size (fun k=>k=w.heap.size∨k=w.heap.size+1) (.slice la L.length lc) L (.slice va u.length vc,u) (by rfl) (HNI.out.row.below (Ea (Et HB1.out HB2.out) _)) (HROW _ (Ea HB2.out _)) _ _ (by rfl) (by simp) (by have:=HB1.out.size;have:=HB2.out.size;simp;omega) (by omega) (by have:=HB1.out.size;have:=HB2.out.size;simp;omega) ?_;intro ga gc w3 hr3 hg3 hb3 _;have hbx3:=((HNI.out.lbx.below (Et HB1.out HB2.out)).alloc (.cells #[.slice va u.length vc] 36)).grown hg3 (by rintro e;exact HNI.out.row.ne _ e.symm (.inr rfl));have q4:=(hbx3.cells 0).1;have q5:=(hbx3.cells 0).2;have HBX3:=Lib.hid hbx3;have HR3:=Lib.hid hr3;have HG3:=Lib.hid hg3;have HB3:=Lib.hid hb3;clear hbx3 hr3 hg3 hb3))
  ·have h12:=Et HB1.out HB2.out
   have hal:Below w.heap.size W' (w2.alloc (.cells #[.slice va u.length vc] 36)):=(Ea h12 _).mono (by omega)
   refine ⟨((KeepsOthers.grown_cells (KeepsOthers.of_below (Ea h12 _)) HG3.out (HNI.out.row.below (Ea h12 _)).row_cells).trans (KeepsOthers.setCell w3 _ _)).from _,fun k hk=>?_,.slice ga (L.length+1) gc,L ++ [(.slice va u.length vc,u)],?_,⟨?_,?_,?_,?_,?_⟩,?_,?_⟩
   ·exact (((hal.trans HB3.out).setCell (p:=⟨w.heap.size+1,0,none⟩) (Nat.le_succ _) _).block k hk)
   ·rw [List.map_append,List.map_append]
    exact HMA.out.keep1 HMT.out (by have:=HBAR.out;simpa using this)
   ·exact (HNI.out.below.trans (hal.trans HB3.out)).setCell (p:=⟨w.heap.size+1,0,none⟩) (Nat.le_succ _) _
   ·exact HR3.out.box (World.grownBy.set' ⟨rfl,rfl,rfl,Nat.le_refl _,fun _ _ _=>rfl⟩ _) (.inr rfl)
   ·exact Bxx.setNe (((HNI.out.rbx.below h12).alloc _).grown HG3.out (fun e=>HNI.out.row.ne _ e.symm (.inl rfl))) _ (by omega)
   ·exact heap_set_at 0 _ HBX3.out
   ·intro x hx
    rcases List.mem_append.1 hx with hx|hx
    ·exact HNI.out.vt x hx
    ·obtain rfl:x=(.slice va u.length vc,u):=by simpa using hx
     exact HVT.out.merged HMT.out HFV.out
   ·simp;omega
   ·exact ⟨r,by rw [List.map_append,List.append_assoc];exact HTR.out⟩
  ·have h12:=Et HB1.out HB2.out
   refine ⟨(KeepsOthers.of_below h12).from _,fun k hk=>h12.block k (by omega),_,L,?_,HNI.out.ext (Nat.le_refl _) h12,?_,?_⟩
   ·rw [List.map_append]
    exact HMA.out.skip1 HMT.out (by have:=HBAR.out;simpa using this)
   ·simp;omega
   ·exact ⟨r,by rw [List.map_append,List.append_assoc];exact HTR.out⟩
 case done=>
  rintro D xs W' hD hfin ⟨lv,L,hMA,hNI,hLl,-⟩ hdef
  have hxl:xs.length=T.length:=by rw [← show xs.map Prod.snd=T from hfin,List.length_map]
  have hLL:L.length≤100000:=by omega
  rw [show xs.map Prod.snd=T from hfin] at hMA
  have HMA:=Lib.hid hMA
  have HNI:=Lib.hid hNI
  have HDEF:=Lib.hid hdef
  clear hfin hMA hNI hdef hxl hLl
  gi_wp2_with fail
  refine wpIn_wide.2 ?_
  go_loopw [6,7,8,9,10,28] (fun s6 _ _ _ _ _ wr=>∃ (b:Bool) (lv:Value) (M:List (Value × List Per)),s6=.bool b∧M.length≤100000∧Hid (∀ m,JoinTo (M.map Prod.snd) m→JoinTo (L.map Prod.snd) m)∧Hid (b=false→NoPair (joinable (M.map Prod.snd)) M.length)∧Hid (NI w.heap.size w s lv M wr)∧Hid (wr.heap[D]? = some (.deferred (some []))))
   (fun s6 _ _ _ _ _ wr=>2*lenW w.heap.size wr+(match s6 with|.bool true=>1|_=>0))
  case atStart=>exact ⟨true,lv,L,rfl,hLL,Lib.hid (fun _ h=>h),Lib.hid (fun h=>absurd h (by decide)),HNI,HDEF⟩
  case round=>
   obtain ⟨b,lv,M,rfl,hMl,HJ,HNP,HN,HD⟩:=hrel
   have hlw:=HN.out.lenW
   obtain ⟨la,lc,rfl,_,_,hfm⟩:=HN.out.row.form
   have q2:=(HN.out.lbx.cells 0).1
   cases b with
   | true=>
    have HLW:=Lib.hid hlw
    clear hlw
    go_wp2_with fail
    go_step3
    go_wp2_with fail
    go_step3
    go_wp2_with fail
    go_loopw [6,7,8,9,10,28] (fun s6 _ _ _ _ idx wr=>∃ ii:Nat,ii≤M.length∧s6=.bool false∧idx=.int .i64 ii∧Hid (∀ i' j',i'<ii→i'<j'→j'<M.length→¬ joinable (M.map Prod.snd) i' j')∧Hid (NI w.heap.size w s (.slice la M.length lc) M wr)∧Hid (wr.heap[D]? = some (.deferred (some [])))) (fun _ _ _ _ _ idx _=>M.length-(intOf idx).toNat)
    case atStart=>exact ⟨0,by omega,rfl,rfl,Lib.hid (fun _ _ h=>absurd h (by omega)),HN,HD⟩
    case round=>
     obtain ⟨ii,hii,rfl,rfl,HN2,HI2,HD2⟩:=hrel
     have q2:=(HI2.out.lbx.cells 0).1
     by_cases hlt:ii<M.length
     ·have hiI:(ii:Int)<M.length:=by omega
      rcases hfm with h0|⟨g1,rfl⟩
      ·omega
      go_wp2_with fail
      go_loopw [6,8,9,10] (fun s6 jv _ _ wr=>∃ jj:Nat,ii<jj∧jj≤M.length∧s6=.bool false∧jv=.int .i64 jj∧Hid (∀ j',ii<j'→j'<jj→¬ joinable (M.map Prod.snd) ii j')∧Hid (NI w.heap.size w s (.slice (some ⟨g1,0,none⟩) M.length lc) M wr)∧Hid (wr.heap[D]? = some (.deferred (some [])))) (fun _ jv _ _ _=>M.length-(intOf jv).toNat)
      case atStart=>exact ⟨ii+1,by omega,by omega,rfl,by go_num,Lib.hid (fun _ h1 h2=>absurd h2 (by omega)),HI2,HD2⟩
      case round=>
       obtain ⟨jj,hij,hjj,rfl,rfl,HN3,HI3,HD3⟩:=hrel
       have q2:=(HI3.out.lbx.cells 0).1
       obtain ⟨htx,q3,-⟩:=HI3.out.row.get rfl hlt
       have hdx:(M.map Prod.snd).getD ii []=(M.getD ii default).2:=by simp [List.getD_eq_getElem?_getD,hlt]
       have HMX:Hid (M.getD ii default∈M):=Lib.hid (getD_mem' hlt)
       generalize M.getD ii default=X at *
       obtain ⟨xv,xt⟩:=X
       dsimp only at q3 hdx htx
       have HDX:=Lib.hid hdx
       by_cases hjl:jj<M.length
       ·have hjI:(jj:Int)<M.length:=by omega
        by_cases hx1:xt.length=1
        ·obtain ⟨bx,ox,cx,ax1,nx1,cx1,ax2,nx2,cx2,rfl,hpx,x0,x1,x2,x3⟩:=htx.single hx1
         obtain ⟨hty,q4,-⟩:=HI3.out.row.get rfl hjl
         have hdy:(M.map Prod.snd).getD jj []=(M.getD jj default).2:=by simp [List.getD_eq_getElem?_getD,hjl]
         have HMY:Hid (M.getD jj default∈M):=Lib.hid (getD_mem' hjl)
         generalize M.getD jj default=Y at *
         obtain ⟨yv,yt⟩:=Y
         dsimp only at q4 hdy hty
         have HDY:=Lib.hid hdy
         have HX1:=Lib.hid hx1
         by_cases hy1:yt.length=1
         ·obtain ⟨by',oy,cy,ay1,ny1,cy1,ay2,ny2,cy2,rfl,hpy,y0,y1,y2,y3⟩:=hty.single hy1
          have HY1:=Lib.hid hy1
          have hfx:=(HI3.out.vt _ HMX.out).fv _ (getD_mem' (d:=default) (show 0<xt.length by omega))
          have hfy:=(HI3.out.vt _ HMY.out).fv _ (getD_mem' (d:=default) (show 0<yt.length by omega))
          have HJN:Hid (joinable (M.map Prod.snd) ii jj↔divB (xt.getD 0 default) (yt.getD 0 default)=true):=Lib.hid (by unfold joinable;rw [hdx,hdy];exact ⟨fun h=>h.2.2,fun h=>⟨hx1,hy1,h⟩⟩)
          have HJA:Hid (joinAt (M.map Prod.snd) ii jj=((M.map Prod.snd).set ii [orP (xt.getD 0 default) (yt.getD 0 default)]).eraseIdx jj):=Lib.hid (by unfold joinAt;rw [hdx,hdy])
          generalize xt.getD 0 default=xp at *
          generalize yt.getD 0 default=yp at *
          have HDIV:=fun W=>divides_any ⟨.slice ax1 nx1 cx1,.slice ax2 nx2 cx2,xp⟩ ⟨.slice ay1 ny1 cy1,.slice ay2 ny2 cy2,yp⟩ W hfx.valid.wf.per hfx.valid.per hfy.valid.wf.per hfy.valid.per
          change ∀ W,Calls _ _ #[perV _ _ xp.frm xp.period,perV _ _ yp.frm yp.period] W fun e w'=>e=.returned (.bool (divB xp yp))∧_ at HDIV
          have HFX:=Lib.hid hfx
          have HFY:=Lib.hid hfy
          have HPX:=Lib.hid hpx
          have HPY:=Lib.hid hpy
          generalize divB xp yp=dd at *
          clear htx hty hdx hdy hx1 hy1 hfx hfy hpx hpy
          go_wp2_with fail
          refine wp_region_W (w0:=wr) [0,1,2,3,4,5,6,7,8,9,10,11,12,13,14,15,16,17,18,19,20] [21] (fun v=>⟨#[.func (Fn.func g) #[] lb,undef,.pointer (some ⟨w.heap.size,0,none⟩),.int .i64 0,.pointer (some ⟨w.heap.size+1,0,none⟩),undef,.bool false,.int .i64 ↑ii,.int .i64 ↑jj,u9,u10,undef,undef,undef,.func (Fn.func g) #[] lb,undef,undef,undef,undef,undef,undef,undef,undef,undef,undef,.bool true,.slice (some ⟨g1,0,none⟩) M.length lc,.int .i64 ↑M.length,.int .i64 ↑ii,.bool true,.int .i64 ↑ii,.int .i64 ↑ii,.int .i64 (↑ii+1),.int .i64 ↑jj,.slice (some ⟨g1,0,none⟩) M.length lc,.int .i64 ↑M.length,.bool true,.bool true,.slice (some ⟨g1,0,none⟩) M.length lc,.int .i64 ↑ii,.pointer (some ⟨g1,ii,none⟩),.slice (some ⟨bx,ox,none⟩) 1 cx,.int .i64 1,.bool true,.bool true,u45,u46,v 0,v 1,v 2,v 3,v 4,v 5,v 6,v 7,v 8,v 9,v 10,v 11,v 12,v 13,v 14,v 15,v 16,v 17,v 18,v 19,v 20,u68,u69,u70,u71,u72,u73,u74,u75,u76,u77,u78,u79,u80,u81,u82,u83,u84,u85,u86,u87,u88,u89,u90,u91,u92,u93,u94,u95,u96,u97,undef,undef,undef,undef,undef,undef,undef,undef,undef,undef,undef,undef,undef,undef,undef,undef,undef,undef,undef,undef,undef,undef,undef],[{ target:=.collected D,args:=#[] }]⟩) [.slice (some ⟨g1,0,none⟩) M.length lc,.int .i64 jj,.pointer (some ⟨g1,jj,none⟩),.slice (some ⟨by',oy,none⟩) 1 cy,.int .i64 1,.bool false,.bool false,.slice (some ⟨g1,0,none⟩) M.length lc,.int .i64 ii,.pointer (some ⟨g1,ii,none⟩),.slice (some ⟨bx,ox,none⟩) 1 cx,.pointer (some ⟨bx,ox,none⟩),perV (.slice ax1 nx1 cx1) (.slice ax2 nx2 cx2) xp.frm xp.period,.slice (some ⟨g1,0,none⟩) M.length lc,.int .i64 jj,.pointer (some ⟨g1,jj,none⟩),.slice (some ⟨by',oy,none⟩) 1 cy,.pointer (some ⟨by',oy,none⟩),perV (.slice ay1 ny1 cy1) (.slice ay2 ny2 cy2) yp.frm yp.period,.bool dd,.bool (!dd)] [] (fun _ _ _ _ _=>True) (fun W=>W.cell? ⟨w.heap.size+1,0,none⟩=some (.slice (some ⟨g1,0,none⟩) M.length lc)∧W.cell? ⟨g1,ii,none⟩=some (.slice (some ⟨bx,ox,none⟩) 1 cx)∧W.cell? ⟨g1,jj,none⟩=some (.slice (some ⟨by',oy,none⟩) 1 cy)∧(W.cell? ⟨bx,ox,none⟩=some (.slice ax1 nx1 cx1)∧W.cell? ⟨bx,ox+1,none⟩=some (.int .i64 xp.frm)∧W.cell? ⟨bx,ox+2,none⟩=some (.int .i64 xp.period)∧W.cell? ⟨bx,ox+3,none⟩=some (.slice ax2 nx2 cx2))∧(W.cell? ⟨by',oy,none⟩=some (.slice ay1 ny1 cy1)∧W.cell? ⟨by',oy+1,none⟩=some (.int .i64 yp.frm)∧W.cell? ⟨by',oy+2,none⟩=some (.int .i64 yp.period)∧W.cell? ⟨by',oy+3,none⟩=some (.slice ay2 ny2 cy2))) (fun W hb=>⟨cux q2 hb,cux q3 hb,cux q4 hb,⟨cux x0 hb,cux x1 hb,cux x2 hb,cux x3 hb⟩,cux y0 hb,cux y1 hb,cux y2 hb,cux y3 hb⟩) trivial trivial ?steps ?fin (fun j=>match j with|0=>u47|1=>u48|2=>u49|3=>u50|4=>u51|5=>u52|6=>u53|7=>u54|8=>u55|9=>u56|10=>u57|11=>u58|12=>u59|13=>u60|14=>u61|15=>u62|16=>u63|17=>u64|18=>u65|19=>u66|20=>u67|_=>undef)
          case steps=>
           clear q2 q3 q4 x0 x1 x2 x3 y0 y1 y2 y3
           refine .c [] [] rfl ?_ (.c [] [] rfl ?_ (.c [0,1] [] rfl ?_ (.c [2] [] rfl ?_ (.c [3] [] rfl ?_ (.c [4] [] rfl ?_ (.c [5] [] rfl ?_ (.c [6] [] rfl ?_ (.c [6] [] rfl ?_ (.c [6,7,8] [] rfl ?_ (.c [6,9] [] rfl ?_ (.c [6,10] [] rfl ?_ (.c [6,11] [] rfl ?_ (.c [6] [] rfl ?_ (.c [6] [] rfl ?_ (.c [6,13,14] [] rfl ?_ (.c [6,15] [] rfl ?_ (.c [6,16] [] rfl ?_ (.c [6,17] [] rfl ?_ (.c [6,12,18] [] rfl ?_ (.c [6,19] [] rfl ?_ (.n)))))))))))))))))))))
           all_goals try exact stw
           ·rintro v lo hi W hb ⟨s2,s3,s4,⟨g0,g1_,g2,g3⟩,k0,k1,k2,k3⟩ _
            refine .inl ⟨rfl,fun K hK=>?_⟩
            simp only [ov,vat,Nat.reduceBEq,cond_true,cond_false]
            go_wp2_with (go_at_call 109;refine (HDIV _).mono ?_;rintro e w9 ⟨rfl,hb9⟩)
            exact acx (hK w9 hb9) (by simp [ov,vat,upd])
          case fin=>
           rintro v lo hi9 W2 hb ⟨s2,s3,s4,⟨g0,g1_,g2,g3⟩,k0,k1,k2,k3⟩ hf hap
           show wpList _ _ _ [_] _ _
           have e6:v 6=.bool false:=(hf 6 rfl).2.2.2
           have e20:v 20=.bool (!dd):=(hf 20 rfl).2.2.2
           clear hf hap
           dsimp only
           rw [e6,e20]
           clear e6 e20
           generalize v 0=z0
           generalize v 1=z1
           generalize v 2=z2
           generalize v 3=z3
           generalize v 4=z4
           generalize v 5=z5
           generalize v 7=z7
           generalize v 8=z8
           generalize v 9=z9
           generalize v 10=z10
           generalize v 11=z11
           generalize v 12=z12
           generalize v 13=z13
           generalize v 14=z14
           generalize v 15=z15
           generalize v 16=z16
           generalize v 17=z17
           generalize v 18=z18
           generalize v 19=z19
           have HB4:=Lib.hid hb
           clear hb
           cases dd with
           | false=>
            clear s2 s3 s4 g0 g1_ g2 g3 k0 k1 k2 k3
            go_wp2_with fail
            go_roundw
            case rel=>exact ⟨jj+1,by omega,by omega,rfl,by go_num,Lib.hid (fun j' h1 h2=>by
             by_cases h3:j'<jj
             ·exact HN3.out j' h1 h3
             ·obtain rfl:j'=jj:=by omega
              rw [HJN.out];decide),Lib.hid (HI3.out.ext (Nat.le_refl _) HB4.out),Lib.hid ((HB4.out.block D (Array.getElem?_eq_some_iff.1 HD3.out).1).trans HD3.out)⟩
            case measure=>simp [intOf];omega
           | true=>
            obtain ⟨q,hq⟩:∃ q,q=orP xp yp:=⟨_,rfl⟩
            have HFQ:Hid (FV s q):=Lib.hid (by rw [hq];exact HFX.out.or HFY.out)
            have HQ:=Lib.hid hq
            have HOR:∀ W,Below W2.heap.size W2 W→Calls Tryz.prog 73 #[perV (.slice ax1 nx1 cx1) (.slice ax2 nx2 cx2) xp.frm xp.period,perV (.slice ay1 ny1 cy1) (.slice ay2 ny2 cy2) yp.frm yp.period] W (PerOk q W):=fun W h=>by
             rw [hq];exact Or_fv s _ _ _ _ xp yp W (HPX.out.is.ext (Et HB4.out h)) (HPY.out.is.ext (Et HB4.out h)) HFX.out HFY.out
            clear hq
            have hW2:=HB4.out.size
            have hlbz:=HI3.out.lbx.lt
            go_wp2_with fail
            refine Code.wp_mono (Q:=fun e a' W'=>e=.normal∧(∃ (nb:Nat) (h c:Value) (z69 z70 z71 z72 z73 z74 z75 z76 z77 z78 z79 z80 z81 z82 z83 z84:Value),a'=⟨#[.func (Fn.func g) #[] lb,undef,.pointer (some ⟨w.heap.size,0,none⟩),.int .i64 0,.pointer (some ⟨w.heap.size+1,0,none⟩),undef,.bool false,.int .i64 ↑ii,.int .i64 ↑jj,.pointer (some ⟨nb,0,none⟩),.int .i64 0,undef,undef,undef,.func (Fn.func g) #[] lb,undef,undef,undef,undef,undef,undef,undef,undef,undef,undef,.bool true,.slice (some ⟨g1,0,none⟩) M.length lc,.int .i64 ↑M.length,.int .i64 ↑ii,.bool true,.int .i64 ↑ii,.int .i64 ↑ii,.int .i64 (↑ii+1),.int .i64 ↑jj,.slice (some ⟨g1,0,none⟩) M.length lc,.int .i64 ↑M.length,.bool true,.bool true,.slice (some ⟨g1,0,none⟩) M.length lc,.int .i64 ↑ii,.pointer (some ⟨g1,ii,none⟩),.slice (some ⟨bx,ox,none⟩) 1 cx,.int .i64 1,.bool true,.bool true,u45,u46,z0,z1,z2,z3,z4,z5,.bool false,z7,z8,z9,z10,z11,z12,z13,z14,z15,z16,z17,z18,z19,.bool false,.bool false,z69,z70,z71,z72,z73,z74,z75,z76,z77,z78,z79,z80,z81,z82,z83,z84,u85,u86,u87,u88,u89,u90,u91,u92,u93,u94,u95,u96,u97,undef,undef,undef,undef,undef,undef,undef,undef,undef,undef,undef,undef,undef,undef,undef,undef,undef,undef,undef,undef,undef,undef,undef],[{ target:=.collected D,args:=#[] }]⟩∧MgP (W2.heap.size-1) q nb h c W')∧Below W2.heap.size W2 W') ?imp ?reg
            case reg=>
             refine wp_region_factsX (w0:=W2) [0,1,2,3,4,5,6,7,8,9,10,11,12,13,14,15,16] 15 17 [18] (fun v=>⟨#[.func (Fn.func g) #[] lb,undef,.pointer (some ⟨w.heap.size,0,none⟩),.int .i64 0,.pointer (some ⟨w.heap.size+1,0,none⟩),undef,.bool false,.int .i64 ↑ii,.int .i64 ↑jj,v 16,u10,undef,undef,undef,.func (Fn.func g) #[] lb,undef,undef,undef,undef,undef,undef,undef,undef,undef,undef,.bool true,.slice (some ⟨g1,0,none⟩) M.length lc,.int .i64 ↑M.length,.int .i64 ↑ii,.bool true,.int .i64 ↑ii,.int .i64 ↑ii,.int .i64 (↑ii+1),.int .i64 ↑jj,.slice (some ⟨g1,0,none⟩) M.length lc,.int .i64 ↑M.length,.bool true,.bool true,.slice (some ⟨g1,0,none⟩) M.length lc,.int .i64 ↑ii,.pointer (some ⟨g1,ii,none⟩),.slice (some ⟨bx,ox,none⟩) 1 cx,.int .i64 1,.bool true,.bool true,u45,u46,z0,z1,z2,z3,z4,z5,.bool false,z7,z8,z9,z10,z11,z12,z13,z14,z15,z16,z17,z18,z19,.bool false,.bool false,v 13,v 0,v 1,v 2,v 3,v 4,v 5,v 6,v 7,v 8,v 9,v 10,v 11,v 12,v 14,v 15,u85,u86,u87,u88,u89,u90,u91,u92,u93,u94,u95,u96,u97,undef,undef,undef,undef,undef,undef,undef,undef,undef,undef,undef,undef,undef,undef,undef,undef,undef,undef,undef,undef,undef,undef,undef],[{ target:=.collected D,args:=#[] }]⟩) (fun j=>match j with|0=>u70|1=>u71|2=>u72|3=>u73|4=>u74|5=>u75|6=>u76|7=>u77|8=>u78|9=>u79|10=>u80|11=>u81|12=>u82|13=>u69|14=>u83|15=>u84|16=>u9|_=>undef)
              (fun i v lo hi W=>match i with
               | 0=>v 0=.slice (some ⟨g1,0,none⟩) M.length lc
               | 1=>v 1=.int .i64 ii
               | 2=>v 2=.pointer (some ⟨g1,ii,none⟩)
               | 3=>v 3=.slice (some ⟨bx,ox,none⟩) 1 cx
               | 4=>v 4=.pointer (some ⟨bx,ox,none⟩)
               | 5=>v 5=perV (.slice ax1 nx1 cx1) (.slice ax2 nx2 cx2) xp.frm xp.period
               | 6=>v 6=.slice (some ⟨g1,0,none⟩) M.length lc
               | 7=>v 7=.int .i64 jj
               | 8=>v 8=.pointer (some ⟨g1,jj,none⟩)
               | 9=>v 9=.slice (some ⟨by',oy,none⟩) 1 cy
               | 10=>v 10=.pointer (some ⟨by',oy,none⟩)
               | 11=>v 11=perV (.slice ay1 ny1 cy1) (.slice ay2 ny2 cy2) yp.frm yp.period
               | 12=>∃ h c,v 12=.tuple #[perV h c q.frm q.period,.int .i64 0]∧PerAt W (lo 12) (hi 12) h c q
               | 13=>v 13=v 12∧∃ h c,v 13=.tuple #[perV h c q.frm q.period,.int .i64 0]
               | 14=>∃ h c,v 13=.tuple #[perV h c q.frm q.period,.int .i64 0]∧v 14=perV h c q.frm q.period
               | 15=>v 15=.int .i64 0
               | 16=>v 16=.pointer (some ⟨lo 16,0,none⟩)∧lo 16<hi 16∧Bxx W (lo 16) #[.slice none 0 0,.int .i64 0,.int .i64 0,.slice none 0 0] 39
               | _=>True)
              (fun W=>W.cell? ⟨w.heap.size+1,0,none⟩=some (.slice (some ⟨g1,0,none⟩) M.length lc)∧W.cell? ⟨g1,ii,none⟩=some (.slice (some ⟨bx,ox,none⟩) 1 cx)∧W.cell? ⟨g1,jj,none⟩=some (.slice (some ⟨by',oy,none⟩) 1 cy)∧(W.cell? ⟨bx,ox,none⟩=some (.slice ax1 nx1 cx1)∧W.cell? ⟨bx,ox+1,none⟩=some (.int .i64 xp.frm)∧W.cell? ⟨bx,ox+2,none⟩=some (.int .i64 xp.period)∧W.cell? ⟨bx,ox+3,none⟩=some (.slice ax2 nx2 cx2))∧(W.cell? ⟨by',oy,none⟩=some (.slice ay1 ny1 cy1)∧W.cell? ⟨by',oy+1,none⟩=some (.int .i64 yp.frm)∧W.cell? ⟨by',oy+2,none⟩=some (.int .i64 yp.period)∧W.cell? ⟨by',oy+3,none⟩=some (.slice ay2 ny2 cy2))) rfl (by kernel_rfl) (by decide) rfl ?stab ?loc (fun W hb=>⟨cux s2 hb,cux s3 hb,cux s4 hb,⟨cux g0 hb,cux g1_ hb,cux g2 hb,cux g3 hb⟩,cux k0 hb,cux k1 hb,cux k2 hb,cux k3 hb⟩) ?steps ?fin ?fin2
             case stab=>
              rintro (_|_|_|_|_|_|_|_|_|_|_|_|_|_|_|_|_|i) v lo hi W W' h hb
              ·exact h
              ·exact h
              ·exact h
              ·exact h
              ·exact h
              ·exact h
              ·exact h
              ·exact h
              ·exact h
              ·exact h
              ·exact h
              ·exact h
              ·exact (let ⟨x1,x2,e,hp⟩:=h;⟨x1,x2,e,hp.below hb⟩)
              ·exact h
              ·exact h
              ·exact h
              ·exact ⟨h.1,h.2.1,h.2.2.below hb⟩
              ·trivial
             case loc=>
              rintro (_|_|_|_|_|_|_|_|_|_|_|_|_|_|_|_|_|i) v v' lo lo' hi hi' W hag h
              ·exact (hag 0 (.inl rfl)).1 ▸ h
              ·exact (hag 1 (.inl rfl)).1 ▸ h
              ·exact (hag 2 (.inl rfl)).1 ▸ h
              ·exact (hag 3 (.inl rfl)).1 ▸ h
              ·exact (hag 4 (.inl rfl)).1 ▸ h
              ·exact (hag 5 (.inl rfl)).1 ▸ h
              ·exact (hag 6 (.inl rfl)).1 ▸ h
              ·exact (hag 7 (.inl rfl)).1 ▸ h
              ·exact (hag 8 (.inl rfl)).1 ▸ h
              ·exact (hag 9 (.inl rfl)).1 ▸ h
              ·exact (hag 10 (.inl rfl)).1 ▸ h
              ·exact (hag 11 (.inl rfl)).1 ▸ h
              ·have q:=hag 12 (.inl rfl)
               have q5:=hag 5 (.inr (Rdp (by kernel_rfl)))
               have q11:=hag 11 (.inr (Rdp (by kernel_rfl)))
               (try dsimp only at h ⊢);(try simp only [q.1,q.2.1,q.2.2,q5.1,q5.2.1,q5.2.2,q11.1,q11.2.1,q11.2.2] at h);exact h
              ·have q:=hag 13 (.inl rfl)
               have q12:=hag 12 (.inr (Rdp (by kernel_rfl)))
               (try dsimp only at h ⊢);(try simp only [q.1,q.2.1,q.2.2,q12.1,q12.2.1,q12.2.2] at h);exact h
              ·have q:=hag 14 (.inl rfl)
               have q13:=hag 13 (.inr (Rdp (by kernel_rfl)))
               (try dsimp only at h ⊢);(try simp only [q.1,q.2.1,q.2.2,q13.1,q13.2.1,q13.2.2] at h);exact h
              ·exact (hag 15 (.inl rfl)).1 ▸ h
              ·have q:=hag 16 (.inl rfl)
               (try dsimp only at h ⊢);(try simp only [q.1,q.2.1,q.2.2] at h);exact h
              ·trivial
             case steps=>
              clear s2 s3 s4 g0 g1_ g2 g3 k0 k1 k2 k3
              refine StepsH.cons rfl ?_ (StepsH.cons rfl ?_ (StepsH.cons rfl ?_ (StepsH.cons rfl ?_ (StepsH.cons rfl ?_ (StepsH.cons rfl ?_ (StepsH.cons rfl ?_ (StepsH.cons rfl ?_ (StepsH.cons rfl ?_ (StepsH.cons rfl ?_ (StepsH.cons rfl ?_ (StepsH.cons rfl ?_ (StepsH.cons rfl ?_ (StepsH.cons rfl ?_ (StepsH.cons rfl ?_ (StepsH.cons rfl ?_ (StepsH.cons rfl ?_ StepsH.nil))))))))))))))))
              ·rintro v lo hi W hb ⟨s2,s3,s4,⟨g0,g1_,g2,g3⟩,k0,k1,k2,k3⟩ hd
               clear hd
               refine ⟨rfl,?_⟩
               intro K hK
               dsimp only
               go_wp2_with fail
               exact acx (hK (.slice (some ⟨g1,0,none⟩) M.length lc) W (Below.refl _ _) rfl) (by simp)
              ·rintro v lo hi W hb ⟨s2,s3,s4,⟨g0,g1_,g2,g3⟩,k0,k1,k2,k3⟩ hd
               clear hd
               refine ⟨rfl,?_⟩
               intro K hK
               dsimp only
               go_wp2_with fail
               exact acx (hK (.int .i64 ii) W (Below.refl _ _) rfl) (by simp)
              ·rintro v lo hi W hb ⟨s2,s3,s4,⟨g0,g1_,g2,g3⟩,k0,k1,k2,k3⟩ hd
               have e0:v 0=.slice (some ⟨g1,0,none⟩) M.length lc:=(hd 0 (Rdp (by kernel_rfl))).2.2
               have e1:v 1=.int .i64 ii:=(hd 1 (Rdp (by kernel_rfl))).2.2
               clear hd
               refine ⟨rfl,?_⟩
               intro K hK
               dsimp only
               (try simp only [e0,e1])
               go_wp2_with fail
               exact acx (hK (.pointer (some ⟨g1,ii,none⟩)) W (Below.refl _ _) rfl) (by simp [e0,e1])
              ·rintro v lo hi W hb ⟨s2,s3,s4,⟨g0,g1_,g2,g3⟩,k0,k1,k2,k3⟩ hd
               have e2:v 2=.pointer (some ⟨g1,ii,none⟩):=(hd 2 (Rdp (by kernel_rfl))).2.2
               clear hd
               refine ⟨rfl,?_⟩
               intro K hK
               dsimp only
               (try simp only [e2])
               go_wp2_with fail
               exact acx (hK (.slice (some ⟨bx,ox,none⟩) 1 cx) W (Below.refl _ _) rfl) (by simp [e2])
              ·rintro v lo hi W hb ⟨s2,s3,s4,⟨g0,g1_,g2,g3⟩,k0,k1,k2,k3⟩ hd
               have e3:v 3=.slice (some ⟨bx,ox,none⟩) 1 cx:=(hd 3 (Rdp (by kernel_rfl))).2.2
               clear hd
               refine ⟨rfl,?_⟩
               intro K hK
               dsimp only
               (try simp only [e3])
               go_wp2_with fail
               exact acx (hK (.pointer (some ⟨bx,ox,none⟩)) W (Below.refl _ _) rfl) (by simp [e3])
              ·rintro v lo hi W hb ⟨s2,s3,s4,⟨g0,g1_,g2,g3⟩,k0,k1,k2,k3⟩ hd
               have e4:v 4=.pointer (some ⟨bx,ox,none⟩):=(hd 4 (Rdp (by kernel_rfl))).2.2
               clear hd
               refine ⟨rfl,?_⟩
               intro K hK
               dsimp only
               (try simp only [e4])
               go_wp2_with fail
               exact acx (hK (perV (.slice ax1 nx1 cx1) (.slice ax2 nx2 cx2) xp.frm xp.period) W (Below.refl _ _) rfl) (by simp [e4])
              ·rintro v lo hi W hb ⟨s2,s3,s4,⟨g0,g1_,g2,g3⟩,k0,k1,k2,k3⟩ hd
               clear hd
               refine ⟨rfl,?_⟩
               intro K hK
               dsimp only
               go_wp2_with fail
               exact acx (hK (.slice (some ⟨g1,0,none⟩) M.length lc) W (Below.refl _ _) rfl) (by simp)
              ·rintro v lo hi W hb ⟨s2,s3,s4,⟨g0,g1_,g2,g3⟩,k0,k1,k2,k3⟩ hd
               clear hd
               refine ⟨rfl,?_⟩
               intro K hK
               dsimp only
               go_wp2_with fail
               exact acx (hK (.int .i64 jj) W (Below.refl _ _) rfl) (by simp)
              ·rintro v lo hi W hb ⟨s2,s3,s4,⟨g0,g1_,g2,g3⟩,k0,k1,k2,k3⟩ hd
               have e6:v 6=.slice (some ⟨g1,0,none⟩) M.length lc:=(hd 6 (Rdp (by kernel_rfl))).2.2
               have e7:v 7=.int .i64 jj:=(hd 7 (Rdp (by kernel_rfl))).2.2
               clear hd
               refine ⟨rfl,?_⟩
               intro K hK
               dsimp only
               (try simp only [e6,e7])
               go_wp2_with fail
               exact acx (hK (.pointer (some ⟨g1,jj,none⟩)) W (Below.refl _ _) rfl) (by simp [e6,e7])
              ·rintro v lo hi W hb ⟨s2,s3,s4,⟨g0,g1_,g2,g3⟩,k0,k1,k2,k3⟩ hd
               have e8:v 8=.pointer (some ⟨g1,jj,none⟩):=(hd 8 (Rdp (by kernel_rfl))).2.2
               clear hd
               refine ⟨rfl,?_⟩
               intro K hK
               dsimp only
               (try simp only [e8])
               go_wp2_with fail
               exact acx (hK (.slice (some ⟨by',oy,none⟩) 1 cy) W (Below.refl _ _) rfl) (by simp [e8])
              ·rintro v lo hi W hb ⟨s2,s3,s4,⟨g0,g1_,g2,g3⟩,k0,k1,k2,k3⟩ hd
               have e9:v 9=.slice (some ⟨by',oy,none⟩) 1 cy:=(hd 9 (Rdp (by kernel_rfl))).2.2
               clear hd
               refine ⟨rfl,?_⟩
               intro K hK
               dsimp only
               (try simp only [e9])
               go_wp2_with fail
               exact acx (hK (.pointer (some ⟨by',oy,none⟩)) W (Below.refl _ _) rfl) (by simp [e9])
              ·rintro v lo hi W hb ⟨s2,s3,s4,⟨g0,g1_,g2,g3⟩,k0,k1,k2,k3⟩ hd
               have e10:v 10=.pointer (some ⟨by',oy,none⟩):=(hd 10 (Rdp (by kernel_rfl))).2.2
               clear hd
               refine ⟨rfl,?_⟩
               intro K hK
               dsimp only
               (try simp only [e10])
               go_wp2_with fail
               exact acx (hK (perV (.slice ay1 ny1 cy1) (.slice ay2 ny2 cy2) yp.frm yp.period) W (Below.refl _ _) rfl) (by simp [e10])
              ·rintro v lo hi W hb ⟨s2,s3,s4,⟨g0,g1_,g2,g3⟩,k0,k1,k2,k3⟩ hd
               have e5:v 5=perV (.slice ax1 nx1 cx1) (.slice ax2 nx2 cx2) xp.frm xp.period:=(hd 5 (Rdp (by kernel_rfl))).2.2
               have e11:v 11=perV (.slice ay1 ny1 cy1) (.slice ay2 ny2 cy2) yp.frm yp.period:=(hd 11 (Rdp (by kernel_rfl))).2.2
               clear hd
               refine ⟨rfl,?_⟩
               intro K hK
               dsimp only
               (try simp only [e5,e11])
               go_wp2_with (go_at_call 73;refine (HOR _ xE).mono ?_;rintro e w9 ⟨h',c',rfl,ho,hb9⟩)
               exact acx (hK (.tuple #[perV h' c' q.frm q.period,.int .i64 0]) w9 hb9 ⟨h',c',rfl,ho.at⟩) (by simp [e5,e11])
              ·rintro v lo hi W hb ⟨s2,s3,s4,⟨g0,g1_,g2,g3⟩,k0,k1,k2,k3⟩ hd
               obtain ⟨la12,lb12,D12⟩:=hd 12 (Rdp (by kernel_rfl))
               clear hd
               refine ⟨rfl,?_⟩
               intro K hK
               dsimp only
               obtain ⟨h8,c8,e8,_⟩:=D12
               go_wp2_with fail
               exact acx (hK (v 12) W (Below.refl _ _) ⟨rfl,h8,c8,e8⟩) (by simp [e8])
              ·rintro v lo hi W hb ⟨s2,s3,s4,⟨g0,g1_,g2,g3⟩,k0,k1,k2,k3⟩ hd
               obtain ⟨la13,lb13,D13⟩:=hd 13 (Rdp (by kernel_rfl))
               clear hd
               refine ⟨rfl,?_⟩
               intro K hK
               dsimp only
               obtain ⟨-,h9,c9,e9⟩:=D13
               simp only [e9]
               go_wp2_with fail
               exact acx (hK (perV h9 c9 q.frm q.period) W (Below.refl _ _) ⟨h9,c9,e9,rfl⟩) (by simp [e9])
              ·rintro v lo hi W hb ⟨s2,s3,s4,⟨g0,g1_,g2,g3⟩,k0,k1,k2,k3⟩ hd
               obtain ⟨la13,lb13,D13⟩:=hd 13 (Rdp (by kernel_rfl))
               clear hd
               refine ⟨rfl,?_⟩
               intro K hK
               dsimp only
               obtain ⟨-,h9,c9,e9⟩:=D13
               simp only [e9]
               go_wp2_with fail
               exact acx (hK (.int .i64 0) W (Below.refl _ _) rfl) (by simp [e9])
              ·rintro v lo hi W hb ⟨s2,s3,s4,⟨g0,g1_,g2,g3⟩,k0,k1,k2,k3⟩ hd
               clear hd
               refine ⟨rfl,?_⟩
               intro K hK
               dsimp only
               go_wp2_with fail
               exact hK (.pointer (some ⟨W.heap.size,0,none⟩)) _ (Ea (Er _) _) ⟨rfl,by simp,Bxx.new _ _ _⟩
             case fin=>
              rintro v lo hi9 W5 hb5-hf hap
              show wpList _ _ _ [_,_] _ _
              obtain ⟨l8,-,h8,h,c,e8,hp8⟩:=hf 12 rfl
              obtain ⟨-,-,-,e9,-⟩:=hf 13 rfl
              obtain ⟨-,-,-,h',c',e9',e10⟩:=hf 14 rfl
              have e11:v 15=.int .i64 0:=(hf 15 rfl).2.2.2
              obtain ⟨l12,-,h12,e12,lt12,hbox⟩:=hf 16 rfl
              have hd:=hap 12 16 rfl rfl (by decide)
              clear hf hap
              rw [e9,e8] at e9'
              obtain ⟨rfl,rfl⟩:h=h'∧c=c':=by simpa [perV] using e9'
              dsimp only
              rw [e10,e11,e12]
              clear e10 e11 e12 e9 e9' e8
              obtain ⟨nb,hnb⟩:∃ nb,nb=lo 16:=⟨_,rfl⟩
              rw [← hnb] at hd hbox l12 lt12 ⊢
              have hpi:=hp8.inn
              generalize lo 12=l8v at *
              generalize hi9 12=h8v at *
              generalize hi9 16=h12v at *
              clear hnb hp8
              obtain ⟨a5,m5,a6,m6,rfl,rfl⟩:=hpi.form
              have g0:=hbox.cells 0
              have g1:=hbox.cells 1
              have g2:=hbox.cells 2
              have g3:=hbox.cells 3
              have HMG:=Lib.hid (MgP.of hpi HFQ.out (show W2.heap.size-1<l8v by omega) hbox (by omega) (by omega))
              have HB5:=Lib.hid hb5
              clear hbox hpi hd
              generalize v 0=y0
              generalize v 1=y1
              generalize v 2=y2
              generalize v 3=y3
              generalize v 4=y4
              generalize v 5=y5
              generalize v 6=y6
              generalize v 7=y7
              generalize v 8=y8
              generalize v 9=y9
              generalize v 10=y10
              generalize v 11=y11
              generalize v 12=y12
              generalize v 13=y13
              go_wp2_with fail
              exact ⟨⟨_,_,HMG.out⟩,by have hb5:=HB5.out;exact xE⟩
             case fin2=>
              rintro v lo hi9 W5 hb5-hf hap
              obtain ⟨l8,-,h8,h,c,e8,hp8⟩:=hf 12 rfl (by decide)
              obtain ⟨-,-,-,e9,-⟩:=hf 13 rfl (by decide)
              obtain ⟨-,-,-,h',c',e9',e10⟩:=hf 14 rfl (by decide)
              obtain ⟨l12,-,h12,e12,lt12,hbox⟩:=hf 16 rfl (by decide)
              have hd:=hap 12 16 rfl rfl (by decide) (by decide) (by decide)
              clear hf hap
              rw [e9,e8] at e9'
              obtain ⟨rfl,rfl⟩:h=h'∧c=c':=by simpa [perV] using e9'
              have e99:=e9.trans e8
              dsimp only
              rw [e10,e12,e99]
              clear e10 e12 e9 e9' e8 e99
              obtain ⟨nb,hnb⟩:∃ nb,nb=lo 16:=⟨_,rfl⟩
              rw [← hnb] at hd hbox l12 lt12 ⊢
              have hpi:=hp8.inn
              generalize lo 12=l8v at *
              generalize hi9 12=h8v at *
              generalize hi9 16=h12v at *
              clear hnb hp8
              obtain ⟨a5,m5,a6,m6,rfl,rfl⟩:=hpi.form
              have g0:=hbox.cells 0
              have g1:=hbox.cells 1
              have g2:=hbox.cells 2
              have g3:=hbox.cells 3
              have HMG:=Lib.hid (MgP.of hpi HFQ.out (show W2.heap.size-1<l8v by omega) hbox (by omega) (by omega))
              have HB5:=Lib.hid hb5
              clear hbox hpi hd
              generalize v 0=y0
              generalize v 1=y1
              generalize v 2=y2
              generalize v 3=y3
              generalize v 4=y4
              generalize v 5=y5
              generalize v 6=y6
              generalize v 7=y7
              generalize v 8=y8
              generalize v 9=y9
              generalize v 10=y10
              generalize v 11=y11
              generalize v 12=y12
              generalize v 15=z15
              constructor
              ·show wpList _ _ _ [_,_,_] _ _
               go_wp2_with fail
               exact ⟨⟨_,_,HMG.out⟩,by have hb5:=HB5.out;exact xE⟩
              ·show wpList _ _ _ [_,_,_] _ _
               go_wp2_with fail
               exact ⟨⟨_,_,HMG.out⟩,by have hb5:=HB5.out;exact xE⟩
            case imp=>
             rintro e a' W6 ⟨rfl,⟨nb,h,c,z69,z70,z71,z72,z73,z74,z75,z76,z77,z78,z79,z80,z81,z82,z83,z84,rfl,hP⟩,hb6⟩
             obtain ⟨a5,n5,m5,a6,n6,m6,rfl,rfl⟩:=hP.ok.form
             have p0:=hP.c0
             have p1:=hP.c1
             have p2:=hP.c2
             have p3:=hP.c3
             have hB6:=Et HB4.out hb6
             have hn6:=HI3.out.ext (Nat.le_refl _) hB6
             have r2:=(hn6.lbx.cells 0).1
             have hrow6:=hn6.row.below (Ea (Er W6) (.cells #[.slice a5 n5 m5,.int .i64 q.frm,.int .i64 q.period,.slice a6 n6 m6] 39))
             obtain ⟨-,r0,r1⟩:=hrow6.get rfl hlt
             have hz6:=hb6.size
             have hg1:=(hn6.row.row.lt g1 rfl).2
             have hg1n:=hn6.row.ne g1 rfl
             have hone:=(term_one hP.ok (show W2.heap.size-1≤W6.heap.size by have:=hb6.size;omega)).mono (G:=RowF w.heap.size (fun k=>k=w.heap.size∨k=w.heap.size+1) (.slice (some ⟨g1,0,none⟩) M.length lc)) (fun b hb=>by
              have hg3:=(HI3.out.row.row.lt g1 rfl).2
              obtain ⟨h1,h2⟩:=hb
              exact ⟨by omega,(by rintro (h|h) <;> omega),fun e=>by simp [Value.ownBlock] at e;omega⟩)
             have hset:=hrow6.set (y:=(.slice (some ⟨W6.heap.size,0,none⟩) 1 1,[q])) ii hone
             have hlb7:=Bxx.setNe (hn6.lbx.alloc (.cells #[.slice a5 n5 m5,.int .i64 q.frm,.int .i64 q.period,.slice a6 n6 m6] 39)) (k:=g1) (i:=ii) (.slice (some ⟨W6.heap.size,0,none⟩) 1 1) (fun e=>hg1n (.inr e.symm))
             have hrb7:=Bxx.setNe (hn6.rbx.alloc (.cells #[.slice a5 n5 m5,.int .i64 q.frm,.int .i64 q.period,.slice a6 n6 m6] 39)) (k:=g1) (i:=ii) (.slice (some ⟨W6.heap.size,0,none⟩) 1 1) (fun e=>hg1n (.inl e.symm))
             have hko:=(KeepsOthers.alloc W6 (.cells #[.slice a5 n5 m5,.int .i64 q.frm,.int .i64 q.period,.slice a6 n6 m6] 39)).trans (KeepsOthers.setCell _ ⟨g1,ii,none⟩ (.slice (some ⟨W6.heap.size,0,none⟩) 1 1))
             have hbl:=((Below.refl w.heap.size W6).alloc (by omega) (.cells #[.slice a5 n5 m5,.int .i64 q.frm,.int .i64 q.period,.slice a6 n6 m6] 39)).setCell (p:=⟨g1,ii,none⟩) (show w.heap.size≤g1 from (hn6.row.row.lt g1 rfl).1) (.slice (some ⟨W6.heap.size,0,none⟩) 1 1)
             have hcomm:=World.setCell_alloc_past (w:=W6) (.cells #[.slice a5 n5 m5,.int .i64 q.frm,.int .i64 q.period,.slice a6 n6 m6] 39) g1 ii (.slice (some ⟨W6.heap.size,0,none⟩) 1 1) hg1
             rw [hcomm] at hlb7 hrb7 hko hbl
             dsimp only at hset
             rw [hcomm] at hset
             generalize hW7:(W6.setCell _ _).alloc _=W7 at hlb7 hrb7 hko hbl hset
             have HW7:=Lib.hid hW7
             have r3:=(hlb7.cells 0).1
             have HLB7:=Lib.hid hlb7
             have HRB7:=Lib.hid hrb7
             have HKO:=Lib.hid hko
             have HBL:=Lib.hid hbl
             have hdel:=rowT_delete _ _ _ _ _ jj _ _ hset (by rw [List.length_set];exact hjl)
             rw [List.length_set] at hdel
             have HROW7:=Lib.hid hset
             rw [← hW7] at r3 hdel
             have HN6:=Lib.hid hn6
             have HB6:=Lib.hid hB6
             clear hP hn6 hrow6 hset hone hb6 hB6 hlb7 hrb7 hko hbl hcomm hW7
             go_wp2_with (go_at_call 110;refine hdel.mono ?_;rintro e w8 ⟨rfl,hr8,hg8⟩;rw [HW7.out] at hg8;have hl8:=HLB7.out.grown hg8 (by rintro e;cases e;exact hg1n (.inr rfl));have t0:=(hl8.cells 0).1;have t1:=(hl8.cells 0).2;have HL8:=Lib.hid hl8;have HR8:=Lib.hid hr8;have HG8:=Lib.hid hg8;clear hl8 hr8 hg8)
             have hgB:=(HROW7.out.row.lt g1 rfl)
             have hNI':NI w.heap.size w s (.slice (some ⟨g1,0,none⟩) (M.length-1) lc) ((M.set ii (.slice (some ⟨W6.heap.size,0,none⟩) 1 1,[q])).eraseIdx jj) (w8.setCell ⟨w.heap.size+1,0,none⟩ (.slice (some ⟨g1,0,none⟩) (M.length-1) lc)):=by
              refine ⟨(HN6.out.below.trans (HBL.out.trans (World.grownBy.below' HG8.out hgB.1 (by omega)))).setCell (p:=⟨w.heap.size+1,0,none⟩) (Nat.le_succ _) _,HR8.out.box (World.grownBy.set' ⟨rfl,rfl,rfl,Nat.le_refl _,fun _ _ _=>rfl⟩ _) (.inr rfl),Bxx.setNe (HRB7.out.grown HG8.out (by rintro e;cases e;exact hg1n (.inl rfl))) _ (by omega),heap_set_at 0 _ HL8.out,fun x hx=>?_⟩
              rcases List.mem_or_eq_of_mem_set (List.mem_of_mem_eraseIdx hx) with h2|rfl
              ·exact HN6.out.vt x h2
              ·exact ⟨by simp,fun p hp=>(List.mem_singleton.1 hp) ▸ HFQ.out,by simp⟩
             have hD':(w8.setCell ⟨w.heap.size+1,0,none⟩ (.slice (some ⟨g1,0,none⟩) (M.length-1) lc)).heap[D]? = some (.deferred (some [])):=
              ((KeepsOthers.grown_cells ((KeepsOthers.of_below HB6.out).trans HKO.out) HG8.out (fun r e=>by cases e;exact HROW7.out.row_cells g1 rfl)).trans (KeepsOthers.setCell w8 _ _)).same D _ HD3.out rfl
             have hJ':∀ m,JoinTo (((M.set ii (.slice (some ⟨W6.heap.size,0,none⟩) 1 1,[q])).eraseIdx jj).map Prod.snd) m→JoinTo (L.map Prod.snd) m:=fun m hm=>HJ.out m (JoinTo.step (i:=ii) (j:=jj) ⟨hij,by rw [List.length_map];exact hjl,by have:=HJN.out;simpa using this,fun i' j' h1 h2 h3=>HN2.out i' j' h1 h2 (by rwa [List.length_map] at h3),HN3.out⟩ (by
              rw [HJA.out,← HQ.out,show ((M.map Prod.snd).set ii [q]).eraseIdx jj=((M.set ii (.slice (some ⟨W6.heap.size,0,none⟩) 1 1,[q])).eraseIdx jj).map Prod.snd by simp [List.eraseIdx_eq_take_drop_succ,List.map_set]]
              exact hm))
             have hlen':((M.set ii (.slice (some ⟨W6.heap.size,0,none⟩) 1 1,[q])).eraseIdx jj).length=M.length-1:=by rw [List.length_eraseIdx_of_lt (by rw [List.length_set];exact hjl),List.length_set]
             have hlw':=hNI'.lenW
             rw [hlen'] at hlw'
             simp only [Exit.noGoto_normal,Exit.inBlock]
             go_roundw
             case rel=>
              (repeat apply Exists.intro)
              exact ⟨⟨true,_,_,rfl,by rw [hlen'];omega,Lib.hid hJ',Lib.hid (fun h=>absurd h (by decide)),Lib.hid hNI',Lib.hid hD'⟩,rfl⟩
             case measure=>simp [hlw',HLW.out];omega
         ·obtain ⟨ya,yc,rfl,_⟩:=hty.form
          have HY1:=Lib.hid hy1
          have hyI:(yt.length:Int)≠1:=by omega
          have HJN:Hid (¬ joinable (M.map Prod.snd) ii jj):=Lib.hid (by unfold joinable;rw [hdy];exact fun h=>hy1 h.2.1)
          clear htx hty hdx hdy hx1 hy1
          go_wp2_with fail
          go_quiet (fail)
          go_wp2_with fail
          go_roundw
          case rel=>exact ⟨jj+1,by omega,by omega,rfl,by go_num,Lib.hid (fun j' h1 h2=>by
           by_cases h3:j'<jj
           ·exact HN3.out j' h1 h3
           ·obtain rfl:j'=jj:=by omega
            exact HJN.out),Lib.hid (HI3.out.ext (Nat.le_refl _) (Below.drewN (Below.refl _ _) _)),Lib.hid (by exact HD3.out)⟩
          case measure=>simp [intOf];omega
        ·obtain ⟨xa,xc,rfl,_⟩:=htx.form
         have HX1:=Lib.hid hx1
         have hxI:(xt.length:Int)≠1:=by omega
         have HJN:Hid (∀ j',¬ joinable (M.map Prod.snd) ii j'):=Lib.hid (fun j' h=>by unfold joinable at h;rw [hdx] at h;exact hx1 h.1)
         clear htx hdx hx1
         go_wp2_with fail
         go_roundw
         case rel=>exact ⟨ii+1,by omega,rfl,by go_num,Lib.hid (fun i' j' h1 h2 h3=>by
          by_cases h4:i'<ii
          ·exact HN2.out i' j' h4 h2 h3
          ·obtain rfl:i'=ii:=by omega
           exact HJN.out j'),HI3,HD3⟩
         case measure=>simp [intOf];omega
       ·obtain rfl:jj=M.length:=by omega
        clear htx hdx
        go_wp2_with fail
        go_roundw
        case rel=>exact ⟨ii+1,by omega,rfl,by go_num,Lib.hid (fun i' j' h1 h2 h3=>by
         by_cases h4:i'<ii
         ·exact HN2.out i' j' h4 h2 h3
         ·obtain rfl:i'=ii:=by omega
          exact HN3.out j' h2 h3),HI3,HD3⟩
        case measure=>simp [intOf];omega
     ·obtain rfl:ii=M.length:=by omega
      have hlw2:=HI2.out.lenW
      go_wp2_with fail
      simp only [Exit.noGoto_normal,Exit.inBlock]
      go_roundw
      case rel=>
       (repeat apply Exists.intro)
       exact ⟨⟨false,_,M,rfl,hMl,HJ,Lib.hid (fun _ i' j' h1 h2=>HN2.out i' j' (by omega) h1 h2),HI2,HD2⟩,rfl⟩
      case measure=>simp [hlw2,HLW.out]
   | false=>
    have HLW:=Lib.hid hlw
    clear hlw
    go_wp2_with fail
    refine wpIn_wide.2 ?_
    have hjt:JoinTo (L.map Prod.snd) (M.map Prod.snd):=HJ.out _ (JoinTo.done (by rw [List.length_map];have:=HNP.out;simpa using this))
    have HJT:=Lib.hid hjt
    obtain ⟨n,hn⟩:∃ n,n=wr.heap.size:=⟨_,rfl⟩
    have hno:NO w.heap.size n D 0 w (.slice la M.length lc) (.slice none 0 0) M [] (wr.alloc (.cells #[.slice none 0 0] 28)):=
     ⟨HN.out.below.alloc (HN.out.below.size) _,((HN.out.row.mono (A':=fun k=>k=w.heap.size∨k=w.heap.size+1∨n≤k) (fun k hk=>by rcases hk with h|h|h;exact .inl (.inl h);exact .inl (.inr h);exact .inr (by omega))).below (Ea (Er _) _)),RowT.nil _ _ _,by simp [Value.ownBlock],Bxx.at hn,HN.out.rbx.alloc _,(Below.heap_alloc _ _ _ (Array.getElem?_eq_some_iff.1 HD.out).1).trans HD.out,by simp [ddL],by simp⟩
    have HNO:=Lib.hid hno
    have HVT:=Lib.hid HN.out.vt
    have hwn:w.heap.size+1<n:=by have:=HN.out.lbx.lt;omega
    have q1:=Ext.cell (Ea (Er wr) (.cells #[.slice none 0 0] 28)) ((HN.out.lbx.cells 0).1.trans (show _=some (Value.slice la M.length lc) from rfl))
    clear hjt hno
    go_wp2_with fail
    rw [← hn]
    have HEQ:=Lib.hid hn
    clear hn
    go_loopw [13,100] (fun _ idx wr=>∃ (k:Nat) (ov:Value) (LO:List (Value × List Per)),k≤M.length∧idx=.int .i64 k∧Hid (NO w.heap.size n D k w (.slice la M.length lc) ov M LO wr)) (fun _ idx _=>M.length-(intOf idx).toNat)
    case atStart=>exact ⟨0,_,[],by omega,rfl,HNO⟩
    case round=>
     obtain ⟨k,ov,LO,hk,rfl,HO⟩:=hrel
     obtain ⟨oa,oc,rfl,_⟩:=HO.out.orow.form
     have o1:=HO.out.obx.c0
     by_cases hkl:k<M.length
     ·have hkI:(k:Int)<M.length:=by omega
      rcases hfm with h0|⟨g1,rfl⟩
      ·omega
      obtain ⟨hty,m1,-⟩:=HO.out.lrow.get rfl hkl
      have HDD:Hid (ddL [] ((M.map Prod.snd).take (k+1))=dd1 (ddL [] ((M.map Prod.snd).take k)) (M.getD k default).2):=Lib.hid (by
       rw [List.take_succ_eq_append_getElem (by simpa using hkl),ddL_snoc];simp [List.getD_eq_getElem?_getD,hkl])
      generalize M.getD k default=Y at *
      obtain ⟨yv,yt⟩:=Y
      dsimp only at m1 hty
      obtain ⟨ya,yc,rfl,_⟩:=hty.form
      have HTY:=Lib.hid hty
      have o2:=(HO.out.obx.alloc (.cells #[.slice ya yt.length yc] 36)).c0
      clear hty
      have hcon:=contains_term (fun b=>w.heap.size≤b) _ (.slice oa LO.length oc) LO (.slice ya yt.length yc) yt wr.heap.size (wr.alloc (.cells #[.slice ya yt.length yc] 36)) (HO.out.orow.below (Ea (Er _) _)).mix (HTY.out.ext (Ea (Er _) _)) (Bxx.new wr _ 36).c0
      have hzn:=HO.out.obx.lt
      have hzB:=HO.out.below.size
      go_wp2_with (first|(go_at_call 57;refine hcon.mono ?_;rintro e w5 ⟨b,rfl,hbb,hb5⟩;have HBB:=Lib.hid hbb;have HB5:Hid (Below wr.heap.size wr w5):=Lib.hid ((Ea (Er wr) _).trans (hb5.mono (by simp)));have o3:=(HO.out.obx.below HB5.out).c0;have o4:=Ext.cell hb5 (Bxx.new wr #[.slice ya yt.length yc] 36).c0;have hz5:=HB5.out.size;clear hbb hb5;cases b)|(at_builtin;refine append_term (by rfl) _ _ (by rfl) w.heap.size (fun k=>k=w.heap.size∨k=w.heap.size+1∨k=n) (.slice oa LO.length oc) LO (.slice ya yt.length yc,yt) (by rfl) (HO.out.orow.below (Ea HB5.out _)) ((HTY.out.ext (Ea HB5.out _)).mono fun b hb=>⟨hb.1,fun h=>by rcases h with h|h|h;exact hb.2.1 (.inl h);exact hb.2.1 (.inr (.inl h));exact hb.2.1 (.inr (.inr (by omega))),fun e=>hb.2.1 (.inr (.inr (HO.out.own b e)))⟩) _ _ (by rfl) (by simp) (by simp;omega) (by have:=HO.out.len;omega) (by simp;omega) ?_;intro ga gc w6 hr6 hg6 hb6 hbo6;have hob6:=((HO.out.obx.below HB5.out).alloc (.cells #[.slice ya yt.length yc] 36)).grown hg6 (by rintro e;exact HO.out.orow.ne _ e.symm (.inr (.inr rfl)));have p1:=(hob6.cells 0).1;have p2:=(hob6.cells 0).2;have HOB6:=Lib.hid hob6;have HR6:=Lib.hid hr6;have HG6:=Lib.hid hg6;have HB6:=Lib.hid hb6;have HBO6:=Lib.hid hbo6;clear hob6 hr6 hg6 hb6 hbo6))
      ·have hal:=Ea HB5.out (.cells #[.slice ya yt.length yc] 36)
       go_roundw
       case rel=>
        refine ⟨k+1,.slice ga (LO.length+1) gc,LO ++ [(.slice ya yt.length yc,yt)],by omega,by go_num,Lib.hid ⟨?_,?_,?_,?_,?_,?_,?_,?_,?_⟩⟩
        ·exact ((HO.out.below.trans (hal.mono hzB)).trans HB6.out).setCell (p:=⟨n,0,none⟩) (show w.heap.size≤n by omega) _
        ·exact ((HO.out.lrow.below hal).boxO HG6.out fun g hg=>.inr (.inr (HO.out.own g hg))).box (World.grownBy.set' ⟨rfl,rfl,rfl,Nat.le_refl _,fun _ _ _=>rfl⟩ _) (.inr (.inr (Nat.le_refl n)))
        ·exact HR6.out.box (World.grownBy.set' ⟨rfl,rfl,rfl,Nat.le_refl _,fun _ _ _=>rfl⟩ _) (.inr (.inr rfl))
        ·intro g hg
         rcases HBO6.out with e|e
         ·exact HO.out.own g (e ▸ hg)
         ·rw [e] at hg;cases hg;simp;omega
        ·exact heap_set_at 0 _ HOB6.out
        ·exact Bxx.setNe ((HO.out.rbx.below hal).grown HG6.out (fun e=>by have:=HO.out.own _ e.symm;omega)) _ (by omega)
        ·exact ((KeepsOthers.grown_cells (KeepsOthers.of_below hal) HG6.out (HO.out.orow.below hal).row_cells).trans (KeepsOthers.setCell w6 _ _)).same D _ HO.out.dfr rfl
        ·rw [List.map_append,HO.out.eq,HDD.out]
         exact (dd1_not (by rw [← HO.out.eq];have:=HBB.out;simpa using this)).symm
        ·simp;exact HO.out.len
       case measure=>simp [intOf];omega
      ·go_roundw
       case rel=>
        have h5:=HO.out.ext (Nat.le_refl _) HB5.out
        exact ⟨k+1,_,LO,by omega,by go_num,Lib.hid { h5 with eq:=(by rw [HDD.out,dd1_in (by rw [← HO.out.eq];have:=HBB.out;simpa using this)];exact HO.out.eq),len:=Nat.le_succ_of_le HO.out.len }⟩
       case measure=>simp [intOf];omega
     ·obtain rfl:k=M.length:=by omega
      have hmv:=mvalid_any (fun b=>w.heap.size≤b) (.slice oa LO.length oc) (LO.map Prod.snd) wr ⟨LO,rfl,HO.out.orow.mix⟩
      have hnorm:NormTo T (LO.map Prod.snd):=⟨_,_,HMA.out,HJT.out,by rw [HO.out.eq,List.take_of_length_le (by simp)]⟩
      have hvt:∀ t∈LO.map Prod.snd,VTerm s t:=fun t ht=>by
       rw [HO.out.eq,List.take_of_length_le (by simp),mem_ddL] at ht
       rcases ht with ht|ht
       ·simp at ht
       ·obtain ⟨x,hx,rfl⟩:=List.mem_map.1 ht
        exact HVT.out x hx
      have HNT:=Lib.hid hnorm
      have HVV:=Lib.hid hvt
      clear hnorm hvt
      go_wp2_with (go_at_call 18;refine hmv.mono ?_;rintro e w7 ⟨rfl,hb7⟩;have HB7:=Lib.hid hb7;have h7:=HO.out.ext (Nat.le_refl _) hb7;have HO7:=Lib.hid h7;have s1:=h7.obx.c0;have s2:=(h7.rbx.cells 0).1;have s3:=(h7.rbx.cells 0).2;clear h7 hb7;cases hval:validM (LO.map Prod.snd))
      all_goals have hnorm:=HNT.out
      all_goals have hvt:=HVV.out
      ·have hrb:Bxx (w7.setCell ⟨w.heap.size,0,none⟩ (.slice none 0 0)) w.heap.size #[.slice none 0 0] 28:=heap_set_at 0 _ HO7.out.rbx
       have hM:MarksX w.heap.size [{ target:=.collected D,args:=#[] }] (w7.setCell ⟨w.heap.size,0,none⟩ (.slice none 0 0)):=marks_one (by omega) ((KeepsOthers.setCell w7 _ _).same D _ HO7.out.dfr rfl)
       have hrow:=HO7.out.orow.box (World.grownBy.set' (i:=0) ⟨rfl,rfl,rfl,Nat.le_refl _,fun _ _ _=>rfl⟩ (.slice none 0 0)) (.inl rfl)
       refine leaves_marks (B:=w.heap.size) _ _ hM fun w' hs=>?_
       have hc:=Bxx.c0 (hs.cells _ _ hrb rfl)
       refine ⟨.tuple #[.agg #[.slice none 0 0],.int .i64 2],by simp [results,Tryz.results68,go_sem,hc],.slice oa LO.length oc,LO.map Prod.snd,hnorm,hvt,((HO7.out.below).setCell (p:=⟨w.heap.size,0,none⟩) (Nat.le_refl _) _).trans hs.below,.inr ⟨hval,rfl⟩⟩
      ·have hrb:Bxx (w7.setCell ⟨w.heap.size,0,none⟩ (.slice oa LO.length oc)) w.heap.size #[.slice oa LO.length oc] 28:=heap_set_at 0 _ HO7.out.rbx
       have hM:MarksX w.heap.size [{ target:=.collected D,args:=#[] }] (w7.setCell ⟨w.heap.size,0,none⟩ (.slice oa LO.length oc)):=marks_one (by omega) ((KeepsOthers.setCell w7 _ _).same D _ HO7.out.dfr rfl)
       have hrow:=HO7.out.orow.box (World.grownBy.set' (i:=0) ⟨rfl,rfl,rfl,Nat.le_refl _,fun _ _ _=>rfl⟩ (.slice oa LO.length oc)) (.inl rfl)
       refine leaves_marks (B:=w.heap.size) _ _ hM fun w' hs=>?_
       have hc:=Bxx.c0 (hs.cells _ _ hrb rfl)
       refine ⟨.tuple #[.agg #[.slice oa LO.length oc],.int .i64 0],by simp [results,Tryz.results68,go_sem,hc],.slice oa LO.length oc,LO.map Prod.snd,hnorm,hvt,((HO7.out.below).setCell (p:=⟨w.heap.size,0,none⟩) (Nat.le_refl _) _).trans hs.below,.inl ⟨hval,rfl,LO,rfl,(hrow.shut hs).mix⟩⟩
end Go.Proofs.YthjnojbeimchdaaGreat
namespace Go.Proofs.YthjnojbeimchdaaGreat
open Go.RowKit Go.Maps Kal
theorem zeros_size (c:Array Value) (n:Nat):(Builtin.zeroCells c n).size=n*c.size:=by simp [Builtin.zeroCells]
set_option maxRecDepth 100000 in
set_option maxHeartbeats 1000000 in
theorem grow_nilS (n:Nat) (w:World) (hn:n≤1000000) :
  Calls Tryz.prog 146 #[.slice none 0 0,.int .i64 (n:Int)] w fun e w'=>∃ v,e=.returned v∧w'.ownsRow w.heap.size 39 4 v 0 []∧Below w.heap.size w w':=by
 obtain ⟨i0,hi0,hz0,hs0,hb0⟩:=perInfo
 by_cases hpos:0<n
 ·have hrz:∀ ty,(Builtin.append_ #[36,3] ty #[.slice none 0 0,.int .i64 (n:Int)]).run Tryz.prog w =
    .ok (.slice (some ⟨w.heap.size,0,none⟩) n (grownCap w n 0 39)) (w.drew.alloc (.cells (#[] ++ Builtin.zeroCells (Value.agg #[.slice none 0 0,.int .i64 0,.int .i64 0,.slice none 0 0]).cells n ++ Builtin.zeroCells (Value.agg #[.slice none 0 0,.int .i64 0,.int .i64 0,.slice none 0 0]).cells (grownCap w n 0 39-n)) 39)):=fun ty=>by
   have h:=Lib.run_append_grow_zeros w 36 3 ty 39 i0 (Value.agg #[.slice none 0 0,.int .i64 0,.int .i64 0,.slice none 0 0]) .i64 .i64 Tryz.underlying36 Tryz.underlying3 hi0 hz0 none 0 0 [] (run_firstCells_none w.drew i0.size 0 0 0) n hpos (by omega) (by omega) (by omega) (by rw [hb0];omega)
    (growslice_fits (by omega) (by rw [hb0];omega))
   simpa using h
  have hGn:n≤grownCap w n 0 39:=grownCap_ge w _ _ _
  have hGm:=grownCap_le_maxLen w n 0 39 (by unfold maxLen;omega)
  obtain ⟨G,hG⟩:∃ G,G=grownCap w n 0 39:=⟨_,rfl⟩
  rw [← hG] at hrz hGn hGm
  have hG63:G≤9223372036854775807:=by unfold maxLen at hGm;omega
  have HGM:=Lib.hid hGm
  clear hG hGm
  have hnI:(0:Int)<(n:Int):=by omega
  go_enter Tryz.func146,Tryz.ntmps146
  go_wp2_with (at_builtin;refine Lib.wpList_append_run _ rfl _ _ _ _ rfl _ _ rfl rfl _ _ (hrz _) ?_)
  go_ret
  refine ⟨_,rfl,⟨rfl,.inr ⟨w.heap.size,G,_,rfl,Nat.le_refl _,World.alloc_heap_new w.drew _,by simp,HGM.out,?_,by simp⟩⟩,?_⟩
  ·simp only [Array.size_append,zeros_size];simp [Value.cells];omega
  ·exact ((Below.refl _ _).drew).alloc (Nat.le_refl _) _
 ·obtain rfl:n=0:=by omega
  go_enter Tryz.func146,Tryz.ntmps146
  go_wp2_with fail
  go_ret
  exact ⟨_,rfl,World.ownsRow_nil _ _ _ _,Below.refl _ _⟩
theorem append_rowS {w:World} {ops:Array Oper} {rest:List Oper} {o:Oper} {a:Act} {Q:Exit→Act→World→Prop} (hgd:o.guard=none) (s x:Operand)
  (ho:o.op=.call { callee:=.builtin .append,args:=#[s,x],argTypes:=#[36,36] }) (base:Nat) (v xv:Value) (n m:Nat) (xs ys:List Value) (F:Nat→Prop) (hs:a.eval s=v) (hown:w.ownsRow base 39 4 v n xs)
  (hx:a.eval x=xv) (hxs:RowR w F xv m ys) (hyl:ys.length=m*4) (h1c:∀ u∈ys,u.oneCell'=true) (hlen:n+m≤1000000) (hbase:base≤w.heap.size)
  (h:∀ v' w',w'.ownsRow base 39 4 v' (n+m) (xs ++ ys)→w.grownBy w' v.ownBlock→wpList Tryz.prog ops Q rest (a.put o.dst v') w') :
  wpList Tryz.prog ops Q (o :: rest) a w:=by
 obtain ⟨i,hi,h1,h2,h3⟩:=perInfo
 obtain ⟨xa,xc,rfl,g1,g2,g3⟩:=hxs
 refine wpList_plain hgd fun K hK=>?_
 rcases g3 with rfl|⟨b,off,rfl,_,_,hcell⟩
 ·have hy0:ys=[]:=List.eq_nil_of_length_eq_zero (by omega)
  subst hy0
  have hrun:(Builtin.append_ #[36,36] o.type #[v,.slice xa 0 xc]).run Tryz.prog w=.ok v w:=by
   obtain ⟨r1,r2⟩:=hown
   rcases r2 with ⟨rfl,r0⟩|⟨g,cap,cur,rfl,r5,r6,r7,r8,r9,r10⟩
   ·cases xa <;> simp [Builtin.append_,run_underlying Tryz.underlying36,sizeOf,typeInfo,hi,Builtin.lenOf,Builtin.firstCells,loadCells,loadCellsFrom,storeCells]
   ·cases xa <;> simp [Builtin.append_,run_underlying Tryz.underlying36,sizeOf,typeInfo,hi,Builtin.lenOf,Builtin.firstCells,r7,loadCells,loadCellsFrom,storeCells]
  unfold Oper.wp execOp
  simp only [ho,resolve,invoke,builtin,Sem.run_bind,Sem.run_pure,Result.andThen_ok,List.map_toArray,List.map_cons,List.map_nil,hs,hx,hrun]
  exact hK _ _ (h v w (by simpa using hown) (World.grownBy.refl w _))
 ·obtain ⟨v',w',hrun,k2,k3,_,k5⟩:=run_append_own_at (P:=Tryz.prog) w base 36 o.type 39 i (Value.agg #[.slice none 0 0,.int .i64 0,.int .i64 0,.slice none 0 0]) 4 64 Tryz.underlying36 hi h1 h2 h3 rfl (by omega) v n xs hown ⟨b,off,none⟩ m xc ys hyl
   (fun j u hu=>by rw [show (⟨b,off,none⟩:Addr).add j=⟨b,off+j,none⟩ from by simp [Addr.add]];exact hcell j u hu) h1c (by unfold maxLen;omega) (by omega) hbase
  unfold Oper.wp execOp
  simp only [ho,resolve,invoke,builtin,Sem.run_bind,Sem.run_pure,Result.andThen_ok,List.map_toArray,List.map_cons,List.map_nil,hs,hx,hrun]
  exact hK _ _ (h v' w' k2 k3)
theorem own_formS {w:World} {base:Nat} {v:Value} {n:Nat} {xs:List Value} (h:w.ownsRow base 39 4 v n xs):∃ a c,v=.slice a n c:=by
 rcases h.2 with ⟨rfl,h0⟩|⟨g,cap,cur,rfl,_⟩
 ·exact ⟨none,0,by rw [h0]⟩
 ·exact ⟨_,cap,rfl⟩
set_option maxRecDepth 100000 in
set_option maxHeartbeats 1000000 in
theorem concat_rowS (F1 F2:Nat→Prop) (b c:Nat) (v1 v2:Value) (n1 n2:Nat) (l1 l2:List Value) (w:World) (hb:Bxx' w b #[v1,v2]) (h1:RowR w F1 v1 n1 l1) (h2:RowR w F2 v2 n2 l2) (g1:l1.length=n1*4) (g2:l2.length=n2*4)
  (o1:∀ u∈l1,u.oneCell'=true) (o2:∀ u∈l2,u.oneCell'=true) (hl:n1+n2≤1000000) (hc:2≤c) (hc1:c≤1000) :
  Calls Tryz.prog 116 #[.slice (some ⟨b,0,none⟩) 2 c] w fun e w'=>∃ v,e=.returned v∧w'.ownsRow w.heap.size 39 4 v (n1+n2) (l1 ++ l2)∧Below w.heap.size w w':=by
 obtain ⟨a1,c1,rfl⟩:∃ a c,v1=.slice a n1 c:=by obtain ⟨a,c,e,_⟩:=h1;exact ⟨a,c,e⟩
 obtain ⟨a2,c2,rfl⟩:∃ a c,v2=.slice a n2 c:=by obtain ⟨a,c,e,_⟩:=h2;exact ⟨a,c,e⟩
 have q0:w.cell? ⟨b,0,none⟩=some (.slice a1 n1 c1):=(hb 0)
 have q1:w.cell? ⟨b,1,none⟩=some (.slice a2 n2 c2):=(hb 1)
 have H1:=fun W (h:Below w.heap.size w W)=>h1.keep (KeepF.below h) h.size
 have H2:=fun W (h:Below w.heap.size w W)=>h2.keep (KeepF.below h) h.size
 have HH1:=Lib.hid H1
 have HH2:=Lib.hid H2
 have HO1:=Lib.hid o1
 have HO2:=Lib.hid o2
 clear h1 h2 hb H1 H2 o1 o2
 go_enter Tryz.func116,Tryz.ntmps116
 go_wp2_with fail
 go_loop [11,3] (fun i n=>(i=.int .i64 0∧n=.int .i64 0)∨(i=.int .i64 1∧n=.int .i64 n1)∨(i=.int .i64 2∧n=.int .i64 (n1+n2))) (fun i _=>2-(intOf i).toNat)
 case atStart=>exact .inl ⟨rfl,rfl⟩
 case round=>
  rcases hrel with ⟨rfl,rfl⟩|⟨rfl,rfl⟩|⟨rfl,rfl⟩
  ·go_wp2_with fail
   go_round
   case rel=>exact .inr (.inl ⟨rfl,rfl⟩)
   case measure=>simp [intOf]
  ·go_wp2_with fail
   go_round
   case rel=>exact .inr (.inr ⟨rfl,rfl⟩)
   case measure=>simp [intOf]
  ·go_wp2_with (go_at_call 146;rw [show ((n1:Int)+(n2:Int))=((n1+n2:Nat):Int) from by push_cast;rfl];refine (grow_nilS (n1+n2) _ hl).mono ?_;rintro e w2 ⟨v2,rfl,hown2,hb2⟩;obtain ⟨va,vc,rfl⟩:=own_formS hown2;obtain ⟨hc2,hf2⟩:=bcell hb2;(try simp only [World.size_alloc,World.size_drew,size_drewN,World.size_setCell] at hc2 hf2))
   have hE2:Below w.heap.size w w2:=hb2
   have HOWN2:=Lib.hid hown2
   clear hown2 hb2 hc2 hf2
   go_loopw [27,6] (fun i ns wr=>((i=.int .i64 0∧wr.ownsRow w.heap.size 39 4 ns 0 [])∨(i=.int .i64 1∧wr.ownsRow w.heap.size 39 4 ns n1 l1)∨(i=.int .i64 2∧wr.ownsRow w.heap.size 39 4 ns (n1+n2) (l1 ++ l2)))∧Below w.heap.size w wr) (fun i _ _=>2-(intOf i).toNat)
   case atStart=>exact ⟨.inl ⟨rfl,HOWN2.out⟩,hE2⟩
   case round=>
    obtain ⟨hrel,hEr⟩:=hrel
    have q0:=Ext.cell hEr q0
    have q1:=Ext.cell hEr q1
    have hszr:=hEr.size
    rcases hrel with ⟨rfl,hown⟩|⟨rfl,hown⟩|⟨rfl,hown⟩
    ·obtain ⟨na,nc,rfl⟩:=own_formS hown
     have HOWN:=Lib.hid hown
     clear hown
     go_wp2_with (at_builtin;refine append_rowS (by rfl) _ _ (by rfl) w.heap.size (.slice na 0 nc) (.slice a1 n1 c1) 0 n1 [] l1 F1 (by rfl) HOWN.out (by rfl) (HH1.out _ hEr) g1 HO1.out (by omega) (by omega) ?_;intro v5 w5 hown5 hgrow5;rw [Nat.zero_add,List.nil_append] at hown5;obtain ⟨na5,nc5,rfl⟩:=own_formS hown5)
     go_roundw
     case rel=>exact ⟨.inr (.inl ⟨rfl,hown5⟩),hEr.grown hgrow5 hEr.size (fun k e=>(HOWN.out.lt k e).1)⟩
     case measure=>simp [intOf]
    ·obtain ⟨na,nc,rfl⟩:=own_formS hown
     have HOWN:=Lib.hid hown
     clear hown
     go_wp2_with (at_builtin;refine append_rowS (by rfl) _ _ (by rfl) w.heap.size (.slice na n1 nc) (.slice a2 n2 c2) n1 n2 l1 l2 F2 (by rfl) HOWN.out (by rfl) (HH2.out _ hEr) g2 HO2.out (by omega) (by omega) ?_;intro v5 w5 hown5 hgrow5;obtain ⟨na5,nc5,rfl⟩:=own_formS hown5)
     go_roundw
     case rel=>exact ⟨.inr (.inr ⟨rfl,hown5⟩),hEr.grown hgrow5 hEr.size (fun k e=>(HOWN.out.lt k e).1)⟩
     case measure=>simp [intOf]
    ·obtain ⟨na,nc,rfl⟩:=own_formS hown
     have HOWN:=Lib.hid hown
     clear hown
     go_wp2_with fail
     go_ret
     exact ⟨_,rfl,HOWN.out,hEr⟩
set_option maxRecDepth 100000 in
set_option maxHeartbeats 1000000 in
theorem grow_nilT (n:Nat) (w:World) (hn:n≤1000000) :
  Calls Tryz.prog 114 #[.slice none 0 0,.int .i64 (n:Int)] w fun e w'=>∃ v,e=.returned v∧w'.ownsRow w.heap.size 36 1 v 0 []∧Below w.heap.size w w':=by
 obtain ⟨i0,hi0,hz0,hs0,hb0⟩:=termInfo
 by_cases hpos:0<n
 ·have hrz:∀ ty,(Builtin.append_ #[26,3] ty #[.slice none 0 0,.int .i64 (n:Int)]).run Tryz.prog w =
    .ok (.slice (some ⟨w.heap.size,0,none⟩) n (grownCap w n 0 36)) (w.drew.alloc (.cells (#[] ++ Builtin.zeroCells (Value.slice none 0 0).cells n ++ Builtin.zeroCells (Value.slice none 0 0).cells (grownCap w n 0 36-n)) 36)):=fun ty=>by
   have h:=Lib.run_append_grow_zeros w 26 3 ty 36 i0 (Value.slice none 0 0) .i64 .i64 Tryz.underlying26 Tryz.underlying3 hi0 hz0 none 0 0 [] (run_firstCells_none w.drew i0.size 0 0 0) n hpos (by omega) (by omega) (by omega) (by rw [hb0];omega)
    (growslice_fits (by omega) (by rw [hb0];omega))
   simpa using h
  have hGn:n≤grownCap w n 0 36:=grownCap_ge w _ _ _
  have hGm:=grownCap_le_maxLen w n 0 36 (by unfold maxLen;omega)
  obtain ⟨G,hG⟩:∃ G,G=grownCap w n 0 36:=⟨_,rfl⟩
  rw [← hG] at hrz hGn hGm
  have hG63:G≤9223372036854775807:=by unfold maxLen at hGm;omega
  have HGM:=Lib.hid hGm
  clear hG hGm
  have hnI:(0:Int)<(n:Int):=by omega
  go_enter Tryz.func114,Tryz.ntmps114
  go_wp2_with (at_builtin;refine Lib.wpList_append_run _ rfl _ _ _ _ rfl _ _ rfl rfl _ _ (hrz _) ?_)
  go_ret
  refine ⟨_,rfl,⟨rfl,.inr ⟨w.heap.size,G,_,rfl,Nat.le_refl _,World.alloc_heap_new w.drew _,by simp,HGM.out,?_,by simp⟩⟩,?_⟩
  ·simp only [Array.size_append,zeros_size];simp [Value.cells];omega
  ·exact ((Below.refl _ _).drew).alloc (Nat.le_refl _) _
 ·obtain rfl:n=0:=by omega
  go_enter Tryz.func114,Tryz.ntmps114
  go_wp2_with fail
  go_ret
  exact ⟨_,rfl,World.ownsRow_nil _ _ _ _,Below.refl _ _⟩
theorem append_rowT {w:World} {ops:Array Oper} {rest:List Oper} {o:Oper} {a:Act} {Q:Exit→Act→World→Prop} (hgd:o.guard=none) (s x:Operand)
  (ho:o.op=.call { callee:=.builtin .append,args:=#[s,x],argTypes:=#[26,26] }) (base:Nat) (v xv:Value) (n m:Nat) (xs ys:List Value) (F:Nat→Prop) (hs:a.eval s=v) (hown:w.ownsRow base 36 1 v n xs)
  (hx:a.eval x=xv) (hxs:RowR w F xv m ys) (hyl:ys.length=m*1) (h1c:∀ u∈ys,u.oneCell'=true) (hlen:n+m≤1000000) (hbase:base≤w.heap.size)
  (h:∀ v' w',w'.ownsRow base 36 1 v' (n+m) (xs ++ ys)→w.grownBy w' v.ownBlock→wpList Tryz.prog ops Q rest (a.put o.dst v') w') :
  wpList Tryz.prog ops Q (o :: rest) a w:=by
 obtain ⟨i,hi,h1,h2,h3⟩:=termInfo
 obtain ⟨xa,xc,rfl,g1,g2,g3⟩:=hxs
 refine wpList_plain hgd fun K hK=>?_
 rcases g3 with rfl|⟨b,off,rfl,_,_,hcell⟩
 ·have hy0:ys=[]:=List.eq_nil_of_length_eq_zero (by omega)
  subst hy0
  have hrun:(Builtin.append_ #[26,26] o.type #[v,.slice xa 0 xc]).run Tryz.prog w=.ok v w:=by
   obtain ⟨r1,r2⟩:=hown
   rcases r2 with ⟨rfl,r0⟩|⟨g,cap,cur,rfl,r5,r6,r7,r8,r9,r10⟩
   ·cases xa <;> simp [Builtin.append_,run_underlying Tryz.underlying26,sizeOf,typeInfo,hi,Builtin.lenOf,Builtin.firstCells,loadCells,loadCellsFrom,storeCells]
   ·cases xa <;> simp [Builtin.append_,run_underlying Tryz.underlying26,sizeOf,typeInfo,hi,Builtin.lenOf,Builtin.firstCells,r7,loadCells,loadCellsFrom,storeCells]
  unfold Oper.wp execOp
  simp only [ho,resolve,invoke,builtin,Sem.run_bind,Sem.run_pure,Result.andThen_ok,List.map_toArray,List.map_cons,List.map_nil,hs,hx,hrun]
  exact hK _ _ (h v w (by simpa using hown) (World.grownBy.refl w _))
 ·obtain ⟨v',w',hrun,k2,k3,_,k5⟩:=run_append_own_at (P:=Tryz.prog) w base 26 o.type 36 i (Value.slice none 0 0) 1 24 Tryz.underlying26 hi h1 h2 h3 rfl (by omega) v n xs hown ⟨b,off,none⟩ m xc ys hyl
   (fun j u hu=>by rw [show (⟨b,off,none⟩:Addr).add j=⟨b,off+j,none⟩ from by simp [Addr.add]];exact hcell j u hu) h1c (by unfold maxLen;omega) (by omega) hbase
  unfold Oper.wp execOp
  simp only [ho,resolve,invoke,builtin,Sem.run_bind,Sem.run_pure,Result.andThen_ok,List.map_toArray,List.map_cons,List.map_nil,hs,hx,hrun]
  exact hK _ _ (h v' w' k2 k3)
theorem own_formT {w:World} {base:Nat} {v:Value} {n:Nat} {xs:List Value} (h:w.ownsRow base 36 1 v n xs):∃ a c,v=.slice a n c:=by
 rcases h.2 with ⟨rfl,h0⟩|⟨g,cap,cur,rfl,_⟩
 ·exact ⟨none,0,by rw [h0]⟩
 ·exact ⟨_,cap,rfl⟩
set_option maxRecDepth 100000 in
set_option maxHeartbeats 1000000 in
theorem concat_rowT (F1 F2:Nat→Prop) (b c:Nat) (v1 v2:Value) (n1 n2:Nat) (l1 l2:List Value) (w:World) (hb:Bxx' w b #[v1,v2]) (h1:RowR w F1 v1 n1 l1) (h2:RowR w F2 v2 n2 l2) (g1:l1.length=n1*1) (g2:l2.length=n2*1)
  (o1:∀ u∈l1,u.oneCell'=true) (o2:∀ u∈l2,u.oneCell'=true) (hl:n1+n2≤1000000) (hc:2≤c) (hc1:c≤1000) :
  Calls Tryz.prog 69 #[.slice (some ⟨b,0,none⟩) 2 c] w fun e w'=>∃ v,e=.returned v∧w'.ownsRow w.heap.size 36 1 v (n1+n2) (l1 ++ l2)∧Below w.heap.size w w':=by
 obtain ⟨a1,c1,rfl⟩:∃ a c,v1=.slice a n1 c:=by obtain ⟨a,c,e,_⟩:=h1;exact ⟨a,c,e⟩
 obtain ⟨a2,c2,rfl⟩:∃ a c,v2=.slice a n2 c:=by obtain ⟨a,c,e,_⟩:=h2;exact ⟨a,c,e⟩
 have q0:w.cell? ⟨b,0,none⟩=some (.slice a1 n1 c1):=(hb 0)
 have q1:w.cell? ⟨b,1,none⟩=some (.slice a2 n2 c2):=(hb 1)
 have H1:=fun W (h:Below w.heap.size w W)=>h1.keep (KeepF.below h) h.size
 have H2:=fun W (h:Below w.heap.size w W)=>h2.keep (KeepF.below h) h.size
 have HH1:=Lib.hid H1
 have HH2:=Lib.hid H2
 have HO1:=Lib.hid o1
 have HO2:=Lib.hid o2
 clear h1 h2 hb H1 H2 o1 o2
 go_enter Tryz.func69,Tryz.ntmps69
 go_wp2_with fail
 go_loop [11,3] (fun i n=>(i=.int .i64 0∧n=.int .i64 0)∨(i=.int .i64 1∧n=.int .i64 n1)∨(i=.int .i64 2∧n=.int .i64 (n1+n2))) (fun i _=>2-(intOf i).toNat)
 case atStart=>exact .inl ⟨rfl,rfl⟩
 case round=>
  rcases hrel with ⟨rfl,rfl⟩|⟨rfl,rfl⟩|⟨rfl,rfl⟩
  ·go_wp2_with fail
   go_round
   case rel=>exact .inr (.inl ⟨rfl,rfl⟩)
   case measure=>simp [intOf]
  ·go_wp2_with fail
   go_round
   case rel=>exact .inr (.inr ⟨rfl,rfl⟩)
   case measure=>simp [intOf]
  ·go_wp2_with (go_at_call 114;rw [show ((n1:Int)+(n2:Int))=((n1+n2:Nat):Int) from by push_cast;rfl];refine (grow_nilT (n1+n2) _ hl).mono ?_;rintro e w2 ⟨v2,rfl,hown2,hb2⟩;obtain ⟨va,vc,rfl⟩:=own_formT hown2;obtain ⟨hc2,hf2⟩:=bcell hb2;(try simp only [World.size_alloc,World.size_drew,size_drewN,World.size_setCell] at hc2 hf2))
   have hE2:Below w.heap.size w w2:=hb2
   have HOWN2:=Lib.hid hown2
   clear hown2 hb2 hc2 hf2
   go_loopw [27,6] (fun i ns wr=>((i=.int .i64 0∧wr.ownsRow w.heap.size 36 1 ns 0 [])∨(i=.int .i64 1∧wr.ownsRow w.heap.size 36 1 ns n1 l1)∨(i=.int .i64 2∧wr.ownsRow w.heap.size 36 1 ns (n1+n2) (l1 ++ l2)))∧Below w.heap.size w wr) (fun i _ _=>2-(intOf i).toNat)
   case atStart=>exact ⟨.inl ⟨rfl,HOWN2.out⟩,hE2⟩
   case round=>
    obtain ⟨hrel,hEr⟩:=hrel
    have q0:=Ext.cell hEr q0
    have q1:=Ext.cell hEr q1
    have hszr:=hEr.size
    rcases hrel with ⟨rfl,hown⟩|⟨rfl,hown⟩|⟨rfl,hown⟩
    ·obtain ⟨na,nc,rfl⟩:=own_formT hown
     have HOWN:=Lib.hid hown
     clear hown
     go_wp2_with (at_builtin;refine append_rowT (by rfl) _ _ (by rfl) w.heap.size (.slice na 0 nc) (.slice a1 n1 c1) 0 n1 [] l1 F1 (by rfl) HOWN.out (by rfl) (HH1.out _ hEr) g1 HO1.out (by omega) (by omega) ?_;intro v5 w5 hown5 hgrow5;rw [Nat.zero_add,List.nil_append] at hown5;obtain ⟨na5,nc5,rfl⟩:=own_formT hown5)
     go_roundw
     case rel=>exact ⟨.inr (.inl ⟨rfl,hown5⟩),hEr.grown hgrow5 hEr.size (fun k e=>(HOWN.out.lt k e).1)⟩
     case measure=>simp [intOf]
    ·obtain ⟨na,nc,rfl⟩:=own_formT hown
     have HOWN:=Lib.hid hown
     clear hown
     go_wp2_with (at_builtin;refine append_rowT (by rfl) _ _ (by rfl) w.heap.size (.slice na n1 nc) (.slice a2 n2 c2) n1 n2 l1 l2 F2 (by rfl) HOWN.out (by rfl) (HH2.out _ hEr) g2 HO2.out (by omega) (by omega) ?_;intro v5 w5 hown5 hgrow5;obtain ⟨na5,nc5,rfl⟩:=own_formT hown5)
     go_roundw
     case rel=>exact ⟨.inr (.inr ⟨rfl,hown5⟩),hEr.grown hgrow5 hEr.size (fun k e=>(HOWN.out.lt k e).1)⟩
     case measure=>simp [intOf]
    ·obtain ⟨na,nc,rfl⟩:=own_formT hown
     have HOWN:=Lib.hid hown
     clear hown
     go_wp2_with fail
     go_ret
     exact ⟨_,rfl,HOWN.out,hEr⟩
end Go.Proofs.YthjnojbeimchdaaGreat
namespace Go.Proofs.YthjnojbeimchdaaGreat
open Go.RowKit Go.Maps Kal
theorem MixR.form {F:Nat→Prop} {W:World} {v:Value} {m:List (List Per)} (h:MixR W F v m):∃ a c,v=.slice a m.length c:=by
 obtain ⟨L,rfl,hL⟩:=h
 obtain ⟨a,c,rfl,_⟩:=hL.row.is
 exact ⟨a,c,by rw [List.length_map]⟩
theorem MixR.set {n:Nat} {W:World} {v u:Value} {m:List (List Per)} {b i:Nat} (h:MixR W (fun k=>n≤k) v m) (hb:b<n):MixR (W.setCell ⟨b,i,none⟩ u) (fun k=>n≤k) v m:=
 h.keep (fun k hk _=>Below.heap_setCell W ⟨b,i,none⟩ u k (by show k≠b;omega)) (by rw [World.size_setCell];exact Nat.le_refl _)
structure MV (s:Int) (m:List (List Per)):Prop where
 val:validM m=true
 vt:∀ t∈m,VTerm s t
theorem MV.len {s:Int} {m:List (List Per)} (h:MV s m):m.length≤64:=by
 have:=h.val
 unfold validM at this
 rw [Bool.and_eq_true,decide_eq_true_iff] at this
 exact this.1
theorem MixL.cells_one {W:World} {F:Nat→Prop} {v:Value} {L:List (Value × List Per)} (h:MixL W F v L):∀ u∈L.map Prod.fst,u.oneCell'=true:=fun u hu=>by
 obtain ⟨x,hx,rfl⟩:=List.mem_map.1 hu
 exact (h.all x hx).one
theorem mix_of_row {W:World} {B:Nat} {v:Value} {L:List (Value × List Per)} (h:W.ownsRow B 36 1 v L.length (L.map Prod.fst)) (hl:L.length≤1000000) (ha:∀ x∈L,∃ F,TermR W F x.1 x.2):MixL W (fun _=>True) v L:=by
 refine ⟨?_,by omega,fun x hx=>(ha x hx).choose_spec.mono fun _ _=>trivial⟩
 obtain ⟨hl,⟨rfl,h2⟩|⟨g,cap,cur,rfl,hb,hg,h3,h4,h5,h6⟩⟩:=h
 ·rw [h2];exact ⟨none,0,rfl,by omega,by omega,.inl rfl⟩
 ·refine ⟨_,cap,rfl,h3,h4,.inr ⟨g,0,rfl,trivial,(Array.getElem?_eq_some_iff.1 hg).1,fun i u hi=>?_⟩⟩
  rw [Nat.zero_add]
  have h7:W.ownsRow B 36 1 (.slice (some ⟨g,0,none⟩) L.length cap) L.length (L.map Prod.fst):=⟨hl,.inr ⟨g,cap,cur,rfl,hb,hg,h3,h4,h5,h6⟩⟩
  have:=(List.getElem?_eq_some_iff.1 hi).1
  rw [List.length_map] at this
  exact (h7.cellAt i (by omega)).trans hi
theorem concat_mix (F1 F2:Nat→Prop) (b c:Nat) (v1 v2:Value) (m1 m2:List (List Per)) (w:World) (hb:Bxx' w b #[v1,v2]) (h1:MixR w F1 v1 m1) (h2:MixR w F2 v2 m2) (hl:m1.length+m2.length≤1000000) (hc:2≤c) (hc1:c≤1000) :
  Calls Tryz.prog 69 #[.slice (some ⟨b,0,none⟩) 2 c] w fun e w'=>∃ v,e=.returned v∧MixR w' (fun _=>True) v (m1 ++ m2)∧Below w.heap.size w w':=by
 obtain ⟨L1,rfl,hL1⟩:=h1
 obtain ⟨L2,rfl,hL2⟩:=h2
 rw [List.length_map,List.length_map] at hl
 refine (concat_rowT F1 F2 b c v1 v2 _ _ _ _ w hb hL1.row hL2.row (by simp) (by simp) hL1.cells_one hL2.cells_one hl hc hc1).mono ?_
 rintro e w' ⟨v,rfl,hr,hbl⟩
 refine ⟨v,rfl,⟨L1 ++ L2,by rw [List.map_append],mix_of_row (by rw [List.length_append,List.map_append];exact hr) (by rw [List.length_append];exact hl) fun x hx=>?_⟩,hbl⟩
 rcases List.mem_append.1 hx with hx|hx
 ·exact ⟨_,(hL1.all x hx).ext hbl⟩
 ·exact ⟨_,(hL2.all x hx).ext hbl⟩
set_option maxRecDepth 100000 in
set_option maxHeartbeats 2000000 in
theorem mor_any (s:Int) (F1 F2:Nat→Prop) (v1 v2:Value) (m1 m2:List (List Per)) (w:World) (h1:MixR w F1 v1 m1) (h2:MixR w F2 v2 m2) (k1:MV s m1) (k2:MV s m2) :
  Calls Tryz.prog 21 #[.agg #[v1],.agg #[v2]] w (NormRes s (m1 ++ m2) w):=by
 have HV1:=fun W (h:Below w.heap.size w W)=>mvalid_any F1 v1 m1 W (h1.ext h)
 have HV2:=fun W (h:Below w.heap.size w W)=>mvalid_any F2 v2 m2 W (h2.ext h)
 rw [k1.val] at HV1
 rw [k2.val] at HV2
 have l1:=k1.len
 have l2:=k2.len
 have HCO:=fun W (h:Below w.heap.size w W) b hb=>concat_mix F1 F2 b 2 v1 v2 m1 m2 W hb (h1.ext h) (h2.ext h) (by omega) (by omega) (by omega)
 obtain ⟨a1,c1,rfl⟩:=h1.form
 obtain ⟨a2,c2,rfl⟩:=h2.form
 have HVT:Hid (∀ t∈m1 ++ m2,VTerm s t):=Lib.hid fun t ht=>(List.mem_append.1 ht).elim (k1.vt t) (k2.vt t)
 clear h1 h2 k1 k2
 go_enter Tryz.func21,Tryz.ntmps21
 go_wp2_with (first|(go_at_call 18;first
   | ((with_reducible refine (HV1 _ xE).mono ?_);rintro e w1 ⟨rfl,hb1⟩;have b0:Bxx w1 w.heap.size #[.slice a1 m1.length c1] 28:=Bxx.below xB hb1;have b1:Bxx w1 (w.heap.size+1) #[.slice a2 m2.length c2] 28:=Bxx.below xB hb1;have b2:Bxx w1 (w.heap.size+1+1) #[.slice none 0 0] 28:=Bxx.below xB hb1;have x0:=b0.c0;have x1:=b1.c0;have hW1:Below w.heap.size w w1:=by exact xE)
   | ((with_reducible refine (HV2 _ xE).mono ?_);rintro e w2 ⟨rfl,hb2⟩;have d0:=b0.below hb2;have d1:=b1.below hb2;have d2:=b2.below hb2;have y0:=d0.c0;have y1:=d1.c0;have hW2:Below w.heap.size w w2:=by exact xE))|(go_at_call 69;(refine (HCO (w2.alloc (.cells #[.slice a1 m1.length c1,.slice a2 m2.length c2] 26)) (Ea hW2 _) w2.heap.size (fun i=>((Bxx.new w2 _ 26).cells i).1)).mono ?_;rintro e w3 ⟨v,rfl,hm,hb3⟩;obtain ⟨va,vc,rfl⟩:=hm.form;rw [List.length_append] at hm;have f2:=(d2.alloc (.cells #[.slice a1 m1.length c1,.slice a2 m2.length c2] 26)).below hb3;have hW3:Below w.heap.size w w3:=Et (Ea hW2 _) hb3;have HM:=Lib.hid hm;have F2:=Lib.hid f2;have hz3:=f2.lt;clear hm f2))|(go_at_call 61;refine (values_any _ _ ⟨_,_,_,rfl⟩).mono ?_;rintro e w4 ⟨rfl,rfl⟩)|(go_at_call 68;refine (normal_any s _ _ (m1 ++ m2) _ (values_seq (fun _=>True) (.slice va (m1.length+m2.length) vc) (m1 ++ m2) w3.heap.size _ (HM.out.ext (Ea (Er w3) _)) (Bxx.new w3 _ 26).c0) HVT.out (by simp;omega)).mono ?_;rintro e w5 ⟨v,m,hN,hvt,hb5,hres⟩;have g2:=(F2.out.alloc (.cells #[.slice va (m1.length+m2.length) vc] 26)).below hb5;have s1:=(g2.cells 0).1;have s2:=(g2.cells 0).2;have hW5:Below w.heap.size w w5:=Et (Ea hW3 _) hb5;have HN:=Lib.hid hN;have HVV:=Lib.hid hvt;have G2:=Lib.hid g2;clear hN hvt g2;rcases hres with ⟨hval,rfl,hmr⟩|⟨hval,rfl⟩;(obtain ⟨xa,xc,rfl⟩:=hmr.form)))
 ·have hcc:=Bxx.c0 (w:=w5.setCell ⟨w.heap.size+1+1,0,none⟩ (.slice xa m.length xc)) (heap_set_at 0 (.slice xa m.length xc) G2.out)
  refine bodyPost_ret (v:=.tuple #[.agg #[.slice xa m.length xc],.int .i64 0]) (by simp [results,Tryz.results21,go_sem,hcc]) rfl ⟨_,m,HN.out,HVV.out,hW5.setCell (p:=⟨w.heap.size+1+1,0,none⟩) (by show w.heap.size≤w.heap.size+1+1;omega) _,.inl ⟨hval,rfl,?_⟩⟩
  exact (hmr.set (b:=w.heap.size+1+1) (by simp;omega)).mono fun b (hb:_≤b)=>by simp at hb;omega
 ·have hcc:=Bxx.c0 (w:=w5.setCell ⟨w.heap.size+1+1,0,none⟩ (.slice none 0 0)) (heap_set_at 0 (.slice none 0 0) G2.out)
  exact bodyPost_ret (v:=.tuple #[.agg #[.slice none 0 0],.int .i64 2]) (by simp [results,Tryz.results21,go_sem,hcc]) rfl ⟨.slice none 0 0,m,HN.out,HVV.out,hW5.setCell (p:=⟨w.heap.size+1+1,0,none⟩) (by show w.heap.size≤w.heap.size+1+1;omega) _,.inr ⟨hval,rfl⟩⟩
end Go.Proofs.YthjnojbeimchdaaGreat
namespace Go.Proofs.YthjnojbeimchdaaGreat
open Go.RowKit Go.Shelf Kal
attribute [local go_sem] Oper.semAt_some
theorem TermL.cells_one {W:World} {F:Nat→Prop} {v:Value} {L:List PV} (h:TermL W F v L):∀ u∈L.flatMap PV.enc,u.oneCell'=true:=fun u hu=>by
 obtain ⟨x,hx,hu⟩:=List.mem_flatMap.1 hu
 exact (h.all x hx).one u hu
theorem term_of_row {W:World} {B:Nat} {v:Value} {L:List PV} (h:W.ownsRow B 39 4 v L.length (L.flatMap PV.enc)) (hl:L.length≤1000000) (ha:∀ x∈L,∃ F,PVok W F x):TermL W (fun _=>True) v L:=by
 refine ⟨?_,by omega,fun x hx=>(ha x hx).choose_spec.mono fun _ _=>trivial⟩
 obtain ⟨hl,⟨rfl,h2⟩|⟨g,cap,cur,rfl,hb,hg,h3,h4,h5,h6⟩⟩:=h
 ·rw [h2];exact ⟨none,0,rfl,by omega,by omega,.inl rfl⟩
 ·refine ⟨_,cap,rfl,h3,h4,.inr ⟨g,0,rfl,trivial,(Array.getElem?_eq_some_iff.1 hg).1,fun i u hi=>?_⟩⟩
  rw [Nat.zero_add]
  have h7:W.ownsRow B 39 4 (.slice (some ⟨g,0,none⟩) L.length cap) L.length (L.flatMap PV.enc):=⟨hl,.inr ⟨g,cap,cur,rfl,hb,hg,h3,h4,h5,h6⟩⟩
  have:=(List.getElem?_eq_some_iff.1 hi).1
  rw [flat_len] at this
  exact (h7.cellAt i (by omega)).trans hi
theorem concat_term (F1 F2:Nat→Prop) (b c:Nat) (v1 v2:Value) (t1 t2:List Per) (w:World) (hb:Bxx' w b #[v1,v2]) (h1:TermR w F1 v1 t1) (h2:TermR w F2 v2 t2) (hl:t1.length+t2.length≤1000000) (hc:2≤c) (hc1:c≤1000) :
  Calls Tryz.prog 116 #[.slice (some ⟨b,0,none⟩) 2 c] w fun e w'=>∃ v,e=.returned v∧TermR w' (fun _=>True) v (t1 ++ t2)∧Below w.heap.size w w':=by
 obtain ⟨L1,rfl,hL1⟩:=h1
 obtain ⟨L2,rfl,hL2⟩:=h2
 rw [List.length_map,List.length_map] at hl
 refine (concat_rowS F1 F2 b c v1 v2 _ _ _ _ w hb hL1.row hL2.row flat_len flat_len hL1.cells_one hL2.cells_one hl hc hc1).mono ?_
 rintro e w' ⟨v,rfl,hr,hbl⟩
 refine ⟨v,rfl,⟨L1 ++ L2,by rw [List.map_append],term_of_row (by rw [List.length_append,List.flatMap_append];exact hr) (by rw [List.length_append];exact hl) fun x hx=>?_⟩,hbl⟩
 rcases List.mem_append.1 hx with hx|hx
 ·exact ⟨_,(hL1.all x hx).keep (KeepF.below hbl)⟩
 ·exact ⟨_,(hL2.all x hx).keep (KeepF.below hbl)⟩
set_option maxRecDepth 100000 in
theorem pairs_any (v1 v2:Value) (w:World) (h1:∃ a n c,v1=.slice a n c) (h2:∃ a n c,v2=.slice a n c) :
  Calls Tryz.prog 70 #[.agg #[v1],.agg #[v2]] w fun e w'=>e=.returned (.func (.func 115) #[] #[.pointer (some ⟨w.heap.size,0,none⟩),.pointer (some ⟨w.heap.size+1,0,none⟩)])∧w'=(w.alloc (.cells #[v1] 28)).alloc (.cells #[v2] 28):=by
 obtain ⟨a,n,c,rfl⟩:=h1
 obtain ⟨a',n',c',rfl⟩:=h2
 go_enter Tryz.func70,Tryz.ntmps70
 go_wp2
 go_ret
 exact ⟨rfl,rfl⟩
theorem pairs_row {m1 m2:List (List Per)} {k:Nat} {x:List Per} (hk:m1[k]? = some x):pairsL (m1.take (k+1)) m2=pairsL (m1.take k) m2 ++ m2.map (x ++ ·):=by
 obtain ⟨h1,rfl⟩:=List.getElem?_eq_some_iff.1 hk
 unfold pairsL
 rw [List.take_succ_eq_append_getElem h1,List.flatMap_append]
 simp
theorem pairs_split {m1 m2:List (List Per)} {k j:Nat} {x y:List Per} (hk:m1[k]? = some x) (hj:m2[j]? = some y):∃ r,pairsL m1 m2=(pairsL (m1.take k) m2 ++ (m2.take j).map (x ++ ·)) ++ (x ++ y) :: r:=by
 obtain ⟨h1,rfl⟩:=List.getElem?_eq_some_iff.1 hk
 obtain ⟨h2,rfl⟩:=List.getElem?_eq_some_iff.1 hj
 refine ⟨(m2.drop (j+1)).map (m1[k] ++ ·) ++ pairsL (m1.drop (k+1)) m2,?_⟩
 have e1:m1=m1.take k ++ m1[k] :: m1.drop (k+1):=by rw [← List.drop_eq_getElem_cons h1,List.take_append_drop]
 have e2:m2=m2.take j ++ m2[j] :: m2.drop (j+1):=by rw [← List.drop_eq_getElem_cons h2,List.take_append_drop]
 have e3:m2.map (m1[k] ++ ·)=(m2.take j).map (m1[k] ++ ·) ++ (m1[k] ++ m2[j]) :: (m2.drop (j+1)).map (m1[k] ++ ·):=by
  conv=>lhs;rw [e2]
  simp only [List.map_append,List.map_cons]
 have e4:pairsL m1 m2=pairsL (m1.take k) m2 ++ (m2.map (m1[k] ++ ·) ++ pairsL (m1.drop (k+1)) m2):=by
  conv=>lhs;rw [e1]
  unfold pairsL
  rw [List.flatMap_append,List.flatMap_cons]
 rw [e4,e3]
 simp
theorem MixL.at {W:World} {F:Nat→Prop} {v:Value} {L:List (Value × List Per)} (h:MixL W F v L) {k:Nat} (hk:k<L.length):∃ b o c a n c' x,v=.slice (some ⟨b,o,none⟩) L.length c∧W.cell? ⟨b,o+k,none⟩=some (.slice a n c')∧TermR W F (.slice a n c') x∧(L.map Prod.snd)[k]? = some x:=by
 obtain ⟨a',c,rfl,_,_,h3⟩:=h.row.is
 rcases h3 with h0|⟨b,o,rfl,hF,hb,hcell⟩
 ·omega
 have hyt:=h.all _ (getD_mem' (d:=default) hk)
 obtain ⟨a,c',e,_⟩:=hyt.form
 refine ⟨b,o,c,a,_,c',(L.getD k default).2,rfl,?_,by rw [← e];exact hyt,by rw [List.getElem?_map,List.getD_eq_getElem?_getD,List.getElem?_eq_getElem hk];rfl⟩
 rw [← e]
 exact hcell k _ (by rw [List.getElem?_map,List.getD_eq_getElem?_getD,List.getElem?_eq_getElem hk];rfl)
theorem KpB.lt {n:Nat} {W wr:World} (h:KpB (fun k=>k<n) W wr) (hn:n≤W.heap.size) {k:Nat} (hk:k<n):k<wr.heap.size:=by
 have h1:=h k hk
 rw [Array.getElem?_eq_getElem (show k<W.heap.size by omega)] at h1
 exact (Array.getElem?_eq_some_iff.1 h1).1
set_option maxRecDepth 100000 in
set_option maxHeartbeats 4000000 in
theorem pairs_seq (F1 F2:Nat→Prop) (v1 v2:Value) (m1 m2:List (List Per)) (b1 b2:Nat) (w:World) (h1:MixR w F1 v1 m1) (h2:MixR w F2 v2 m2) (hb1:w.cell? ⟨b1,0,none⟩=some v1) (hb2:w.cell? ⟨b2,0,none⟩=some v2) (hl1:∀ t∈m1,t.length≤500000) (hl2:∀ t∈m2,t.length≤500000) :
  IterT 115 #[.pointer (some ⟨b1,0,none⟩),.pointer (some ⟨b2,0,none⟩)] (pairsL m1 m2) w:=by
 refine ⟨enters_of Tryz.func115 (by kernel_rfl) rfl,fun W0 hW0=>?_⟩
 obtain ⟨L1,hT1,hL1⟩:=h1
 obtain ⟨L2,hT2,hL2⟩:=h2
 intro l' J W hW hJ hY hJ0
 have hlt1:=World.block_lt_of_cell? w _ hb1
 have hlt2:=World.block_lt_of_cell? w _ hb2
 have hWw:Below w.heap.size w W:=hW0.trans (hW.mono hW0.size)
 have hws:=hWw.size
 have c1:=Ext.cell hWw hb1
 have c2:=Ext.cell hWw hb2
 obtain ⟨a1,k1,rfl,_,_,_⟩:=hL1.row.is
 obtain ⟨a2,k2,rfl,_,_,_⟩:=hL2.row.is
 have hn1:=hL1.len
 have hn2:=hL2.len
 have H1:Hid (∀ wr,KpB (fun k=>k<w.heap.size) W wr→MixL wr (fun b=>F1 b∧b<w.heap.size) (.slice a1 L1.length k1) L1):=Lib.hid fun wr h=>hL1.lt.keep2 fun b hb _=>(h b hb.2).trans (hWw.block b hb.2)
 have H2:Hid (∀ wr,KpB (fun k=>k<w.heap.size) W wr→MixL wr (fun b=>F2 b∧b<w.heap.size) (.slice a2 L2.length k2) L2):=Lib.hid fun wr h=>hL2.lt.keep2 fun b hb _=>(h b hb.2).trans (hWw.block b hb.2)
 have HT1:=Lib.hid hT1
 have HT2:=Lib.hid hT2
 have HJ:=Lib.hid hJ
 have HY:=Lib.hid hY
 have HL1:=Lib.hid hl1
 have HL2:=Lib.hid hl2
 clear hL1 hL2 hT1 hT2 hJ hY hb1 hb2 hl1 hl2
 refine callsIn_of_wp Tryz.func115 rfl trivial ?_ rfl
 simp only [Tryz.ntmps115,List.size_toArray,List.length_cons,List.length_nil,Nat.reduceAdd,Nat.reduceSub,Array.replicate_succ,Array.replicate_zero,List.push_toArray,List.append_toArray,List.nil_append,List.cons_append]
 gi_wp2_with fail
 gi_loopw [5,7,11] (fun _ _ i wr=>∃ (k:Nat) (pre:List (Value × List Per)),k≤L1.length∧i=.int .i64 k∧Hid (pre.map Prod.snd=pairsL (m1.take k) m2)∧J pre wr∧KpB (fun k=>k<w.heap.size) W wr) (fun _ _ i _=>L1.length-(intOf i).toNat)
 case atStart=>exact ⟨0,[],by omega,rfl,Lib.hid rfl,hJ0,fun _ _=>rfl⟩
 case round=>
  obtain ⟨k,pre,hk,rfl,HP,hJw,hK⟩:=hrel
  have HK:=Lib.hid hK
  have HJW:=Lib.hid hJw
  by_cases hlt:k<L1.length
  ·have hlI:(k:Int)<L1.length:=by omega
   obtain ⟨b8,f8,c8,xa,xn,xc,x,he,e0,htx,hmx⟩:=(H1.out wr hK).at hlt
   cases he
   rw [HT1.out] at hmx
   have HMX:=Lib.hid hmx
   have c2r:=(World.cell?_of_block (w:=W) (w':=wr) (a:=⟨b2,0,none⟩) (hK b2 hlt2)).trans c2
   have HXL:=Lib.hid (HL1.out x (List.mem_of_getElem? hmx))
   have HTX:=Lib.hid htx
   clear htx hmx hK hJw
   gi_wp2_with fail
   gi_loopw [7,18] (fun _ i wr=>∃ (j:Nat) (pre:List (Value × List Per)),j≤L2.length∧i=.int .i64 j∧Hid (pre.map Prod.snd=pairsL (m1.take k) m2 ++ (m2.take j).map (x ++ ·))∧J pre wr∧KpB (fun k=>k<w.heap.size) W wr) (fun _ i _=>L2.length-(intOf i).toNat)
   case atStart=>exact ⟨0,pre,by omega,rfl,Lib.hid (by rw [HP.out];simp),HJW.out,HK.out⟩
   case round=>
    obtain ⟨j,pre,hj,rfl,HP2,hJw,hK⟩:=hrel
    have HK2:=Lib.hid hK
    have HJW2:=Lib.hid hJw
    by_cases hjl:j<L2.length
    ·have hjI:(j:Int)<L2.length:=by omega
     obtain ⟨b9,f9,c9,ya,yn,yc,y,he,e1,hty,hmy⟩:=(H2.out wr hK).at hjl
     cases he
     rw [HT2.out] at hmy
     have htx:=HTX.out.keep2 (W':=wr) (fun b hb _=>(hK b hb.2).trans (HK.out b hb.2).symm)
     have hyl:=HL2.out y (List.mem_of_getElem? hmy)
     have hxl:=HXL.out
     have HC:=concat_term _ _ wr.heap.size 2 (.slice xa xn xc) (.slice ya yn yc) x y (wr.alloc (.cells #[.slice xa xn xc,.slice ya yn yc] 36)) (fun i=>((Bxx.new wr _ 36).cells i).1) (htx.ext (Ea (Er wr) _)) (hty.ext (Ea (Er wr) _)) (by omega) (by omega) (by omega)
     obtain ⟨r0,hr0⟩:=pairs_split HMX.out hmy
     have HR0:=Lib.hid hr0
     have HMY:=Lib.hid hmy
     clear htx hty hmy hr0 hyl hxl
     gi_wp2_with (refine ⟨trivial,rfl,?_⟩;gi_at_call 116;refine (callsIn_wide.2 HC).mono ?_;rintro e w3 ⟨v3,rfl,ht3,hb3⟩;obtain ⟨za,zc,rfl,_⟩:=ht3.form;rw [List.length_append] at ht3;have hb4:=(Ea (Er wr) (.cells #[.slice xa xn xc,.slice ya yn yc] 36)).trans (hb3.mono (by simp));have hJ3:=HJ.out pre wr w3 none hJw (World.grownBy.of_below hb4 none) (fun r e=>by cases e);have hEy:EyT (pairsL m1 m2) pre (.slice za (x.length+y.length) zc,x ++ y) w3:=⟨⟨r0,by rw [HP2.out];exact HR0.out⟩,_,ht3⟩;obtain ⟨fn,tmps,assign,body,hyy,hR⟩:=HY.out pre _ w3 hJ3 hEy;unfold tenc at hyy;have HR:=Lib.hid hR;have HB4:=Lib.hid hb4;clear hEy hJ3 hR hb3 hb4 ht3)
     refine ⟨rfl,HR.out.mono ?_⟩
     rintro e W' ⟨rfl,hJ',hk'⟩
     gi_wp2
     go_roundw
     case rel=>exact ⟨j+1,pre ++ [(.slice za (x.length+y.length) zc,x ++ y)],by omega,by go_num,Lib.hid (by rw [List.map_append,HP2.out,List.append_assoc];congr 1;obtain ⟨h1,rfl⟩:=List.getElem?_eq_some_iff.1 HMY.out;rw [List.take_succ_eq_append_getElem h1,List.map_append];rfl),hJ',(HK2.out.trans (fun b hb=>HB4.out.block b (HK2.out.lt hws hb))).trans hk'⟩
     case measure=>simp [intOf];omega
    ·obtain rfl:j=L2.length:=by omega
     clear hK hJw
     gi_wp2
     go_roundw
     case rel=>exact ⟨k+1,pre,by omega,by go_num,Lib.hid (by rw [HP2.out,pairs_row HMX.out,List.take_of_length_le (l:=m2) (by rw [← HT2.out];simp)]),HJW2.out,HK2.out⟩
     case measure=>simp [intOf];omega
  ·obtain rfl:k=L1.length:=by omega
   clear hK hJw
   gi_wp2
   refine bodyPost_end (results_none rfl _ _ _) rfl ?_
   refine ⟨⟨_,rfl⟩,pre,?_,HJW.out⟩
   show _=_
   rw [HP.out,List.take_of_length_le (l:=m1) (by rw [← HT1.out];simp)]
end Go.Proofs.YthjnojbeimchdaaGreat
namespace Go.Proofs.YthjnojbeimchdaaGreat
open Go.RowKit Go.Maps Kal
theorem MV.tlen {s:Int} {m:List (List Per)} (h:MV s m):∀ t∈m,t.length≤4:=fun t ht=>by
 have h1:=h.val
 unfold validM at h1
 rw [Bool.and_eq_true] at h1
 have h2:=List.all_eq_true.1 h1.2 t ht
 unfold validT at h2
 rw [Bool.and_eq_true,Bool.and_eq_true,decide_eq_true_iff,decide_eq_true_iff] at h2
 exact h2.1.2
theorem pairs_length:∀ {a b:List (List Per)},(pairsL a b).length=a.length*b.length
 | [],b=>by simp [pairsL]
 | x :: a,b=>by
  have h:=pairs_length (a:=a) (b:=b)
  have e:pairsL (x :: a) b=b.map (x ++ ·) ++ pairsL a b:=rfl
  rw [e,List.length_append,List.length_map,h,List.length_cons,Nat.succ_mul,Nat.add_comm]
set_option maxRecDepth 100000 in
set_option maxHeartbeats 2000000 in
theorem mand_any (s:Int) (F1 F2:Nat→Prop) (v1 v2:Value) (m1 m2:List (List Per)) (w:World) (h1:MixR w F1 v1 m1) (h2:MixR w F2 v2 m2) (k1:MV s m1) (k2:MV s m2) :
  Calls Tryz.prog 22 #[.agg #[v1],.agg #[v2]] w (NormRes s (pairsL m1 m2) w):=by
 have HV1:=fun W (h:Below w.heap.size w W)=>mvalid_any F1 v1 m1 W (h1.ext h)
 have HV2:=fun W (h:Below w.heap.size w W)=>mvalid_any F2 v2 m2 W (h2.ext h)
 rw [k1.val] at HV1
 rw [k2.val] at HV2
 have l1:=k1.len
 have l2:=k2.len
 have HVT:Hid (∀ t∈pairsL m1 m2,VTerm s t):=Lib.hid fun t ht=>by
  obtain ⟨x,hx,y,hy,rfl⟩:=mem_pairsL.1 ht
  refine ⟨fun e=>(k1.vt x hx).ne (List.append_eq_nil_iff.1 e).1,fun p hp=>(List.mem_append.1 hp).elim ((k1.vt x hx).fv p) ((k2.vt y hy).fv p),?_⟩
  rw [List.length_append];have:=k1.tlen x hx;have:=k2.tlen y hy;omega
 have hpl:(pairsL m1 m2).length≤4096:=by rw [pairs_length];exact Nat.mul_le_mul l1 l2
 have HIT:=fun W (h:Below w.heap.size w W) b1 b2 hb1 hb2=>pairs_seq F1 F2 v1 v2 m1 m2 b1 b2 W (h1.ext h) (h2.ext h) hb1 hb2 (fun t ht=>by have:=k1.tlen t ht;omega) (fun t ht=>by have:=k2.tlen t ht;omega)
 obtain ⟨a1,c1,rfl⟩:=h1.form
 obtain ⟨a2,c2,rfl⟩:=h2.form
 have hit:=Lib.hid HIT
 clear h1 h2 k1 k2 HIT
 go_enter Tryz.func22,Tryz.ntmps22
 go_wp2_with (first|(go_at_call 18;first
   | ((with_reducible refine (HV1 _ xE).mono ?_);rintro e w1 ⟨rfl,hb1⟩;have b0:Bxx w1 w.heap.size #[.slice a1 m1.length c1] 28:=Bxx.below xB hb1;have b1:Bxx w1 (w.heap.size+1) #[.slice a2 m2.length c2] 28:=Bxx.below xB hb1;have b2:Bxx w1 (w.heap.size+1+1) #[.slice none 0 0] 28:=Bxx.below xB hb1;have x0:=b0.c0;have x1:=b1.c0;have hW1:Below w.heap.size w w1:=by exact xE)
   | ((with_reducible refine (HV2 _ xE).mono ?_);rintro e w2 ⟨rfl,hb2⟩;have d0:=b0.below hb2;have d1:=b1.below hb2;have d2:=b2.below hb2;have y0:=d0.c0;have y1:=d1.c0;have hW2:Below w.heap.size w w2:=by exact xE))|(go_at_call 70;refine (pairs_any _ _ _ ⟨_,_,_,rfl⟩ ⟨_,_,_,rfl⟩).mono ?_;rintro e w4 ⟨rfl,rfl⟩;have hz2:=d2.lt)|(go_at_call 68;refine (normal_any s _ _ (pairsL m1 m2) _ (hit.out _ (Ea (Ea hW2 _) _) w2.heap.size (w2.heap.size+1) ((Bxx.new w2 #[.slice a1 m1.length c1] 28).alloc (.cells #[.slice a2 m2.length c2] 28)).c0 (Bxx.at (w:=w2.alloc (.cells #[.slice a1 m1.length c1] 28)) (c:=#[.slice a2 m2.length c2]) (t:=28) (by simp)).c0) HVT.out (by omega)).mono ?_;rintro e w5 ⟨v,m,hN,hvt,hb5,hres⟩;have g2:=((d2.alloc (.cells #[.slice a1 m1.length c1] 28)).alloc (.cells #[.slice a2 m2.length c2] 28)).below hb5;have s1:=(g2.cells 0).1;have s2:=(g2.cells 0).2;have hW5:Below w.heap.size w w5:=Et (Ea (Ea hW2 _) _) hb5;have HN:=Lib.hid hN;have HVV:=Lib.hid hvt;have G2:=Lib.hid g2;clear hN hvt g2;rcases hres with ⟨hval,rfl,hmr⟩|⟨hval,rfl⟩;(obtain ⟨xa,xc,rfl⟩:=hmr.form)))
 ·have hcc:=Bxx.c0 (w:=w5.setCell ⟨w.heap.size+1+1,0,none⟩ (.slice xa m.length xc)) (heap_set_at 0 (.slice xa m.length xc) G2.out)
  refine bodyPost_ret (v:=.tuple #[.agg #[.slice xa m.length xc],.int .i64 0]) (by simp [results,Tryz.results22,go_sem,hcc]) rfl ⟨_,m,HN.out,HVV.out,hW5.setCell (p:=⟨w.heap.size+1+1,0,none⟩) (by show w.heap.size≤w.heap.size+1+1;omega) _,.inl ⟨hval,rfl,?_⟩⟩
  exact (hmr.set (b:=w.heap.size+1+1) (by simp;omega)).mono fun b (hb:_≤b)=>by simp at hb;omega
 ·have hcc:=Bxx.c0 (w:=w5.setCell ⟨w.heap.size+1+1,0,none⟩ (.slice none 0 0)) (heap_set_at 0 (.slice none 0 0) G2.out)
  exact bodyPost_ret (v:=.tuple #[.agg #[.slice none 0 0],.int .i64 2]) (by simp [results,Tryz.results22,go_sem,hcc]) rfl ⟨.slice none 0 0,m,HN.out,HVV.out,hW5.setCell (p:=⟨w.heap.size+1+1,0,none⟩) (by show w.heap.size≤w.heap.size+1+1;omega) _,.inr ⟨hval,rfl⟩⟩
end Go.Proofs.YthjnojbeimchdaaGreat
namespace Go.Proofs.YthjnojbeimchdaaGreat
open Go.RowKit Go.Maps Kal
structure Row5 (G:Nat→Prop) (g cap:Nat) (W:World) (L:List PV):Prop where
 row:W.ownsRow 0 39 4 (.slice (some ⟨g,0,none⟩) L.length cap) L.length (L.flatMap PV.enc)
 all:∀ x∈L,PVok W (fun b=>G b∧b≠g) x
 lim:L.length≤1000000
theorem Row5.set {G:Nat→Prop} {g cap:Nat} {W:World} {L:List PV} (h:Row5 G g cap W L) {j:Nat} (hj:j<L.length) {x:PV} (hx:PVok W (fun b=>G b∧b≠g) x) :
  Row5 G g cap ((((W.setCell ⟨g,j*4,none⟩ x.h).setCell ⟨g,j*4+1,none⟩ (.int .i64 x.p.frm)).setCell ⟨g,j*4+2,none⟩ (.int .i64 x.p.period)).setCell ⟨g,j*4+3,none⟩ x.c) (L.set j x):=by
 have hg:W.grownBy ((((W.setCell ⟨g,j*4,none⟩ x.h).setCell ⟨g,j*4+1,none⟩ (.int .i64 x.p.frm)).setCell ⟨g,j*4+2,none⟩ (.int .i64 x.p.period)).setCell ⟨g,j*4+3,none⟩ x.c) (some g):=
  World.grownBy.set' (World.grownBy.set' (World.grownBy.set' (World.grownBy.set' ⟨rfl,rfl,rfl,Nat.le_refl _,fun _ _ _=>rfl⟩ _) _) _) _
 refine ⟨?_,fun y hy=>?_,by rw [List.length_set];exact h.lim⟩
 ·rw [List.length_set,← flat_set hj]
  exact ((((h.row.stored _ _).1.stored _ _).1.stored _ _).1.stored _ _).1
 ·refine PVok.keep ?_ (KeepF.grown hg fun h=>h.2 rfl)
  rcases List.mem_or_eq_of_mem_set hy with hy|rfl
  ·exact h.all y hy
  ·exact hx
theorem Row5.mono {G H:Nat→Prop} {g cap:Nat} {W:World} {L:List PV} (h:Row5 G g cap W L) (hs:∀ b,G b→H b):Row5 H g cap W L:=⟨h.row,fun x hx=>(h.all x hx).mono fun b hb=>⟨hs b hb.1,hb.2⟩,h.lim⟩
theorem Row5.term {G:Nat→Prop} {g cap:Nat} {W:World} {L:List PV} (h:Row5 G g cap W L):TermL W (fun b=>G b∨b=g) (.slice (some ⟨g,0,none⟩) L.length cap) L:=by
 have h0:=term_of_row h.row h.lim fun x hx=>⟨_,h.all x hx⟩
 refine ⟨?_,h0.len,fun x hx=>(h.all x hx).mono fun b hb=>.inl hb.1⟩
 obtain ⟨a,c,e,h1,h2,h3⟩:=h0.row
 cases e
 refine ⟨_,_,rfl,h1,h2,h3.imp id ?_⟩
 rintro ⟨b,o,e,_,hl,hc⟩
 cases e
 exact ⟨g,0,rfl,.inr rfl,hl,hc⟩
set_option maxRecDepth 100000 in
set_option maxHeartbeats 1000000 in
theorem clone_term (F:Nat→Prop) (v:Value) (t:List Per) (w:World) (ht:TermR w F v t) (hl:t.length≤1000000) (hne:t≠[]) :
  Calls Tryz.prog 118 #[v] w fun e w'=>∃ g cap L,e=.returned (.slice (some ⟨g,0,none⟩) L.length cap)∧L.map PV.p=t∧w.heap.size≤g∧Row5 (fun b=>F b∧b<w.heap.size) g cap w' L∧Below w.heap.size w w':=by
 obtain ⟨L,rfl,hL⟩:=ht
 rw [List.length_map] at hl
 have hlen:0<L.length:=List.length_pos_iff.2 fun e=>hne (by rw [e];rfl)
 obtain ⟨a1,c1,rfl,hx1,hx2,h3⟩:=hL.row.is
 rcases h3 with h3|⟨b,o,rfl,hF,hbl,hc⟩
 ·omega
 have HL:=Lib.hid hL
 have HR:=fun W (h:Below w.heap.size w W)=>hL.row.keep (KeepF.below h) h.size
 have HRR:=Lib.hid HR
 have hone:=hL.cells_one
 have HONE:=Lib.hid hone
 clear hL hc HR hone
 have hnil:(binOp .eql 36 (.slice (some ⟨b,o,none⟩) L.length c1) (.slice none 0 0)).run Tryz.prog w=.ok (.bool false) w:=Lib.run_eql_slice_nil w 36 39 (some ⟨b,o,none⟩) L.length c1 0 0 rfl
 go_enter Tryz.func118,Tryz.ntmps118
 go_wp2_with (at_builtin;refine append_rowS (by rfl) _ _ (by rfl) w.heap.size (.slice (some ⟨w.heap.size,0,none⟩) 0 0) (.slice (some ⟨b,o,none⟩) L.length c1) 0 L.length [] (L.flatMap PV.enc) F (by rfl) ⟨rfl,.inr ⟨w.heap.size,0,#[],rfl,Nat.le_refl _,World.alloc_heap_new w _,Nat.le_refl _,by simp [maxLen],rfl,rfl⟩⟩ (by rfl) (HRR.out _ (Ea (Er w) _)) flat_len HONE.out (by omega) (by simp) ?_;intro v5 w5 hown5 hgrow5;rw [Nat.zero_add,List.nil_append] at hown5;obtain ⟨na5,nc5,rfl⟩:=own_formS hown5)
 go_ret
 have hb5:Below w.heap.size w w5:=(Ea (Er w) _).trans (Below.grown (Below.refl _ _) hgrow5 (by simp) (fun k e=>by simp [Value.ownBlock] at e;omega))
 obtain ⟨hl5,⟨he,h0⟩|⟨g,cap,cur,he,hg1,hg,h6,h7,h8,h9⟩⟩:=hown5
 ·omega
 cases he
 refine ⟨g,nc5,L,rfl,rfl,hg1,⟨⟨hl5,.inr ⟨g,nc5,cur,rfl,Nat.zero_le _,hg,h6,h7,h8,h9⟩⟩,fun x hx=>((HL.out.lt.all x hx).keep (KeepF.below hb5)).mono fun k hk=>⟨hk,by have:=hk.2;omega⟩,hl⟩,hb5⟩
set_option maxRecDepth 100000 in
set_option maxHeartbeats 2000000 in
theorem mwithout_any (s:Int) (F G:Nat→Prop) (v:Value) (t:List Per) (fh fc:Value) (f:Per) (w:World) (ht:TermR w F v t) (hv:VTerm s t) (hf:PVok w G ⟨fh,fc,f⟩) (hff:FV s f) :
  Calls Tryz.prog 71 #[v,perV fh fc f.frm f.period] w fun e w'=>∃ v',e=.returned (.tuple #[v',.bool true])∧TermR w' (fun b=>F b∨w.heap.size≤b) v' (wiP t f)∧Below w.heap.size w w':=by
 have HCL:=fun W (h:Below w.heap.size w W)=>clone_term F v t W (ht.ext h) hv.len hv.ne
 have HFI:=fun W (h:Below w.heap.size w W)=>(hf.is.ext h)
 obtain ⟨a3,n3,c3,a4,n4,c4,rfl,rfl⟩:=hf.form
 have HTR:=Lib.hid ht
 obtain ⟨L,rfl,hL⟩:=ht
 have hlen:0<L.length:=List.length_pos_iff.2 fun e=>hv.ne (by rw [e];rfl)
 obtain ⟨a1,c1,rfl,hx1,hx2,_⟩:=hL.row.is
 have hlm:=hL.len
 obtain ⟨b1,o1,x,ha,hx,hxp,hbz,e0,e1,e2,e3⟩:=hL.get hlen
 subst ha
 have hwi:wiP (L.map PV.p) f=(L.map PV.p).set 0 (minusP x.p f):=by
  cases hLm:L.map PV.p with
  | nil=>exact absurd hLm hv.ne
  | cons p r=>rw [hLm] at hxp;rw [hxp];rfl
 have hfx:=hv.fv x.p (by rw [hxp];exact getD_mem' (by simpa using hlen))
 obtain ⟨xh,xc,xp⟩:=x
 obtain ⟨ax1,nx1,cx1,ax2,nx2,cx2,rfl,rfl⟩:=hx.form
 dsimp only at e0 e1 e2 e3 hfx hwi
 have HMI:=fun W (h:Below w.heap.size w W)=>Minus_fv s (.slice ax1 nx1 cx1) (.slice ax2 nx2 cx2) (.slice a3 n3 c3) (.slice a4 n4 c4) xp f W (hx.is.ext h) (HFI W h) hfx hff
 have HFM:=Lib.hid (hfx.minus hff)
 have HWI:=Lib.hid hwi
 simp only [Nat.zero_mul,Nat.add_zero] at e0 e1 e2 e3
 generalize minusP xp f=q at *
 clear hL hx hxp hwi hfx hff hf HFI hv
 go_enter Tryz.func71,Tryz.ntmps71
 go_wp2_with fail
 go_loopw [6,7,8,9,10,13] (fun _ _ _ _ _ i wr=>i=.int .i64 0∧Below w.heap.size w wr∧wr.cell? ⟨w.heap.size,0,none⟩=some (.slice a3 n3 c3)∧wr.cell? ⟨w.heap.size,1,none⟩=some (.int .i64 f.frm)∧wr.cell? ⟨w.heap.size,2,none⟩=some (.int .i64 f.period)∧wr.cell? ⟨w.heap.size,3,none⟩=some (.slice a4 n4 c4)) (fun _ _ _ _ _ i _=>L.length-(intOf i).toNat)
 case atStart=>exact ⟨rfl,by exact xE,by simp,by simp,by simp,by simp⟩
 case round=>
  obtain ⟨rfl,hb,f0,f1,f2,f3⟩:=hrel
  have e0:=Ext.cell hb e0
  have e1:=Ext.cell hb e1
  have e2:=Ext.cell hb e2
  have e3:=Ext.cell hb e3
  have hlI:(0:Int)<L.length:=by omega
  have g0:=cell_alloc_at f0 (.cells #[.slice ax1 nx1 cx1,.int .i64 xp.frm,.int .i64 xp.period,.slice ax2 nx2 cx2] 39)
  have g1:=cell_alloc_at f1 (.cells #[.slice ax1 nx1 cx1,.int .i64 xp.frm,.int .i64 xp.period,.slice ax2 nx2 cx2] 39)
  have g2:=cell_alloc_at f2 (.cells #[.slice ax1 nx1 cx1,.int .i64 xp.frm,.int .i64 xp.period,.slice ax2 nx2 cx2] 39)
  have g3:=cell_alloc_at f3 (.cells #[.slice ax1 nx1 cx1,.int .i64 xp.frm,.int .i64 xp.period,.slice ax2 nx2 cx2] 39)
  go_wp2_with (first|(go_at_call 117;refine (HMI _ (Ea hb _)).mono ?_;rintro e w2 ⟨h',c',rfl,ho,hb2⟩;obtain ⟨a5,m5,a6,m6,rfl,rfl⟩:=ho.form;have HPV:=Lib.hid (ho.pv HFM.out);have HWZ:Hid (w.heap.size≤(wr.alloc (.cells #[.slice ax1 nx1 cx1,.int .i64 xp.frm,.int .i64 xp.period,.slice ax2 nx2 cx2] 39)).heap.size):=Lib.hid (Ea hb _).size;have hE2:Below w.heap.size w w2:=Et (Ea hb _) hb2;clear ho hb2)|(go_at_call 118;refine (HCL _ (Ea hE2 _)).mono ?_;(rintro e w4 ⟨g,cap,M,rfl,hMp,hgz,hr5,hb4⟩);(have HMP:=Lib.hid hMp);(have hml:0<M.length:=(by rw [← List.length_map (f:=PV.p),hMp,List.length_map];exact hlen));(have hmI:(0:Int)<M.length:=by omega);(have hbx:=(Bxx.new w2 #[.slice a5 q.head.length m5,.int .i64 q.frm,.int .i64 q.period,.slice a6 q.cycle.length m6] 39).below hb4);(have s0:=(hbx.cells 0).1);(have s1:=(hbx.cells 1).1);(have s2:=(hbx.cells 2).1);(have s3:=(hbx.cells 3).1);(have k0:=(hr5.row.cellAt 0 (by omega)).trans (flat_get (j:=0) (i:=0) hml rfl));(have k1:=(hr5.row.cellAt 1 (by omega)).trans (flat_get (j:=0) (i:=1) hml rfl));(have k2:=(hr5.row.cellAt 2 (by omega)).trans (flat_get (j:=0) (i:=2) hml rfl));(have k3:=(hr5.row.cellAt 3 (by omega)).trans (flat_get (j:=0) (i:=3) hml rfl));(have l0:=hr5.row.frozenAt 0);(have l1:=hr5.row.frozenAt 1);(have l2:=hr5.row.frozenAt 2);(have l3:=hr5.row.frozenAt 3);(have HR5:=Lib.hid hr5);(have HB4:=Lib.hid hb4);(rw [World.size_alloc] at hgz);(clear hbx hr5 hb4 hMp)))
  go_ret2
  have hpv:PVok w4 (fun b=>(F b∨w.heap.size≤b)∧b≠g) ⟨.slice a5 q.head.length m5,.slice a6 q.cycle.length m6,q⟩:=(HPV.out.keep (KeepF.below (Et (Ea (Er w2) _) HB4.out))).mono fun b hb=>⟨.inr (by have:=hb.1;have:=HWZ.out;omega),by have:=hb.2;omega⟩
  have hset:=(HR5.out.mono (H:=fun b=>F b∨w.heap.size≤b) fun b hb=>.inl hb.1).set (x:=⟨_,_,q⟩) hml hpv
  simp only [Nat.zero_mul,Nat.zero_add] at hset
  have hz:=hE2.size
  have hE4:Below w.heap.size w w4:=Et (Ea hE2 _) HB4.out
  refine ⟨_,rfl,⟨M.set 0 ⟨.slice a5 q.head.length m5,.slice a6 q.cycle.length m6,q⟩,?_,?_⟩,?_⟩
  ·rw [List.map_set,HMP.out,HWI.out]
  ·have h1:=hset.term
   rw [List.length_set] at h1
   exact h1.mono fun b hb=>hb.elim id fun e=>.inr (by omega)
  ·exact ((((Below.setCell hE4 (p:=⟨g,0,none⟩) (show w.heap.size≤g by omega) _).setCell (p:=⟨g,1,none⟩) (show w.heap.size≤g by omega) _).setCell (p:=⟨g,2,none⟩) (show w.heap.size≤g by omega) _).setCell (p:=⟨g,3,none⟩) (show w.heap.size≤g by omega) _)
end Go.Proofs.YthjnojbeimchdaaGreat
namespace Go.Proofs.YthjnojbeimchdaaGreat
open Go.RowKit Go.Maps Kal
theorem validM_tv {m:List (List Per)} (h:validM m=true):∀ t∈m,TV t∧t≠[]:=fun t ht=>by
 unfold validM at h
 rw [Bool.and_eq_true] at h
 have h2:=List.all_eq_true.1 h.2 t ht
 unfold validT at h2
 rw [Bool.and_eq_true,Bool.and_eq_true,decide_eq_true_iff,decide_eq_true_iff] at h2
 exact ⟨fun p hp=>List.all_eq_true.1 h2.2 p hp,fun e=>by have:=h2.1.1;rw [e] at this;simp at this⟩
open Classical in
noncomputable def recB (t:List Per):Bool:=decide (recT t)
open Classical in
noncomputable def barB (t:List Per):Bool:=decide (barrenT t)
theorem recB_iff {t:List Per}:recB t=true↔recT t:=by simp [recB]
theorem barB_iff {t:List Per}:barB t=true↔barrenT t:=by simp [barB]
theorem bool_of_iff {b c:Bool} (h:b=true↔c=true):b=c:=by cases b <;> cases c <;> simp_all
theorem recB_eq {t:List Per} {b:Bool} (h:b=true↔recT t):b=recB t:=bool_of_iff (h.trans recB_iff.symm)
theorem barB_eq {t:List Per} {b:Bool} (h:b=true↔barrenT t):b=barB t:=bool_of_iff (h.trans barB_iff.symm)
theorem not_bar {t:List Per}:(¬ (!barB t)=true)↔barrenT t:=by rw [← barB_iff];cases barB t <;> simp
set_option maxRecDepth 100000 in
theorem empty1_any (F:Nat→Prop) (v:Value) (t:List Per) (w:World) (ht:TermR w F v t) (hv:TV t) :
  Calls Tryz.prog 74 #[v] w fun e w'=>e=.returned (.bool (!barB t))∧Below w.heap.size w w':=by
 have H:=barren_any F v t w ht hv
 obtain ⟨a,c,rfl,_⟩:=ht.form
 clear ht hv
 go_enter Tryz.func74,Tryz.ntmps74
 go_wp2_with (go_at_call 75;refine H.mono ?_;rintro e w1 ⟨b,rfl,hb,hb1⟩;have HB:=Lib.hid hb;clear hb)
 go_ret
 exact ⟨by rw [barB_eq HB.out];rfl,hb1⟩
theorem any_barren (F:Nat→Prop) (v:Value) (m:List (List Per)) (w:World) (hm:MixR w F v m) (hv:∀ t∈m,TV t) :
  Calls Tryz.prog 57 #[v,.func (.func 74) #[] #[]] w fun e w'=>e=.returned (.bool (m.any fun t=>!barB t))∧Below w.heap.size w w':=by
 obtain ⟨L,rfl,hL⟩:=hm
 have h:=containsFuncT F v L (fun x=>!barB x.2) 74 #[] (enters_of Tryz.func74 (by kernel_rfl) rfl) w hL.row hL.len (fun W x hW hx=>by
  have h:=empty1_any F x.1 x.2 W ((hL.all x hx).ext hW) (hv _ (List.mem_map.2 ⟨x,hx,rfl⟩))
  have e:(#[x.1] ++ (#[]:Array Value))=#[x.1]:=by simp
  rw [e]
  exact h.mono fun e w' ⟨h1,h2⟩=>⟨h1,hW.trans (h2.mono hW.size)⟩)
 rw [List.any_map];exact h
theorem any_recurs (F:Nat→Prop) (v:Value) (m:List (List Per)) (w:World) (hm:MixR w F v m) (hv:∀ t∈m,TV t) :
  Calls Tryz.prog 57 #[v,.func (.func 76) #[] #[]] w fun e w'=>e=.returned (.bool (m.any recB))∧Below w.heap.size w w':=by
 obtain ⟨L,rfl,hL⟩:=hm
 have h:=containsFuncT F v L (fun x=>recB x.2) 76 #[] (enters_of Tryz.func76 (by kernel_rfl) rfl) w hL.row hL.len (fun W x hW hx=>by
  have h:=recurs_any F x.1 x.2 W ((hL.all x hx).ext hW) (hv _ (List.mem_map.2 ⟨x,hx,rfl⟩))
  have e:(#[x.1] ++ (#[]:Array Value))=#[x.1]:=by simp
  rw [e]
  exact h.mono fun e w' ⟨b,h1,h2,h3⟩=>⟨by rw [h1,recB_eq h2],hW.trans (h3.mono hW.size)⟩)
 rw [List.any_map];exact h
set_option maxRecDepth 100000 in
set_option maxHeartbeats 1000000 in
theorem mempty_any (F:Nat→Prop) (v:Value) (m:List (List Per)) (w:World) (hm:MixR w F v m) :
  Calls Tryz.prog 25 #[.agg #[v]] w fun e w'=>∃ b,e=.returned (.bool b)∧(b=true↔validM m=true∧∀ t∈m,barrenT t)∧Below w.heap.size w w':=by
 have HV:=fun W h=>mvalid_any F v m W (hm.ext h)
 obtain ⟨a,c,rfl⟩:=hm.form
 cases hq:validM m with
 | false=>
  rw [hq] at HV
  clear hm hq
  go_enter Tryz.func25,Tryz.ntmps25
  go_wp2_with (go_at_call 18;refine (HV _ xE).mono ?_;rintro e w1 ⟨rfl,hb1⟩)
  go_ret
  exact ⟨false,rfl,⟨fun h=>absurd h (by decide),fun h=>absurd h.1 (by decide)⟩,xE⟩
 | true=>
  rw [hq] at HV
  have HA:=fun W (h:Below w.heap.size w W)=>any_barren F (.slice a m.length c) m W (hm.ext h) (fun t ht=>(validM_tv hq t ht).1)
  have HI:Hid ((m.any (fun t=>!barB t)=false)↔∀ t∈m,barrenT t):=Lib.hid (by rw [List.any_eq_false];exact forall_congr' fun t=>forall_congr' fun _=>by exact not_bar)
  clear hm hq
  generalize m.any (fun t=>!barB t)=b at *
  go_enter Tryz.func25,Tryz.ntmps25
  go_wp2_with (first|(go_at_call 18;refine (HV _ xE).mono ?_;rintro e w1 ⟨rfl,hb1⟩;have hbx:Bxx w1 w.heap.size #[.slice a m.length c] 28:=Bxx.below xB hb1;have x0:=hbx.c0;have hW1:Below w.heap.size w w1:=by exact xE)|(go_at_call 57;refine (HA _ hW1).mono ?_;rintro e w2 ⟨rfl,hb2⟩;have hW2:Below w.heap.size w w2:=Et hW1 hb2))
  go_ret
  exact ⟨!b,by first|rfl|simp,⟨fun h=>⟨by first|rfl|trivial,HI.out.1 (by simpa using h)⟩,fun h=>by simpa using HI.out.2 h.2⟩,hW2⟩
set_option maxRecDepth 100000 in
set_option maxHeartbeats 1000000 in
theorem mfinite_any (F:Nat→Prop) (v:Value) (m:List (List Per)) (w:World) (hm:MixR w F v m) :
  Calls Tryz.prog 26 #[.agg #[v]] w fun e w'=>∃ b,e=.returned (.bool b)∧(b=true↔validM m=true∧∀ t∈m,¬ recT t)∧Below w.heap.size w w':=by
 have HV:=fun W h=>mvalid_any F v m W (hm.ext h)
 obtain ⟨a,c,rfl⟩:=hm.form
 cases hq:validM m with
 | false=>
  rw [hq] at HV
  clear hm hq
  go_enter Tryz.func26,Tryz.ntmps26
  go_wp2_with (go_at_call 18;refine (HV _ xE).mono ?_;rintro e w1 ⟨rfl,hb1⟩)
  go_ret
  exact ⟨false,rfl,⟨fun h=>absurd h (by decide),fun h=>absurd h.1 (by decide)⟩,xE⟩
 | true=>
  rw [hq] at HV
  have HA:=fun W (h:Below w.heap.size w W)=>any_recurs F (.slice a m.length c) m W (hm.ext h) (fun t ht=>(validM_tv hq t ht).1)
  have HI:Hid ((m.any recB=false)↔∀ t∈m,¬ recT t):=Lib.hid (by rw [List.any_eq_false];exact forall_congr' fun t=>forall_congr' fun _=>by rw [← recB_iff])
  clear hm hq
  generalize m.any recB=b at *
  go_enter Tryz.func26,Tryz.ntmps26
  go_wp2_with (first|(go_at_call 18;refine (HV _ xE).mono ?_;rintro e w1 ⟨rfl,hb1⟩;have hbx:Bxx w1 w.heap.size #[.slice a m.length c] 28:=Bxx.below xB hb1;have x0:=hbx.c0;have hW1:Below w.heap.size w w1:=by exact xE)|(go_at_call 57;refine (HA _ hW1).mono ?_;rintro e w2 ⟨rfl,hb2⟩;have hW2:Below w.heap.size w w2:=Et hW1 hb2))
  go_ret
  exact ⟨!b,by first|rfl|simp,⟨fun h=>⟨by first|rfl|trivial,HI.out.1 (by simpa using h)⟩,fun h=>by simpa using HI.out.2 h.2⟩,hW2⟩
end Go.Proofs.YthjnojbeimchdaaGreat
namespace Go.Proofs.YthjnojbeimchdaaGreat
open Go.RowKit Go.Maps Kal
theorem validT_of {s:Int} {t:List Per} (h:VTerm s t):validT t=true↔t.length≤4:=by
 unfold validT
 rw [Bool.and_eq_true,Bool.and_eq_true,decide_eq_true_iff,decide_eq_true_iff,List.all_eq_true]
 exact ⟨fun g=>g.1.2,fun g=>⟨⟨List.length_pos_iff.2 h.ne,g⟩,fun p hp=>(h.fv p hp).validB⟩⟩
theorem validM_of {s:Int} {m:List (List Per)} (h:∀ t∈m,VTerm s t):validM m=true↔NormOk m:=by
 unfold validM NormOk
 rw [Bool.and_eq_true,decide_eq_true_iff,List.all_eq_true]
 exact and_congr Iff.rfl (forall_congr' fun t=>forall_congr' fun ht=>validT_of (h t ht))
theorem NormRes.num {s:Int} {T:List (List Per)} {w w':World} {e:Ending} (h:NormRes s T w e w'):∃ (a:Option Addr) (c:Nat) (k:Int) (mk:List (List Per)),e=.returned (.tuple #[.agg #[.slice a mk.length c],.int .i64 k])∧MixR w' (fun b=>w.heap.size≤b) (.slice a mk.length c) mk∧Below w.heap.size w w'∧
  ((k=0∧NormTo T mk∧MV s mk)∨(k=2∧a=none∧c=0∧mk=[]∧∃ m,NormTo T m∧¬ NormOk m)):=by
 obtain ⟨v,m,hN,hvt,hb,⟨hval,rfl,hm⟩|⟨hval,rfl⟩⟩:=h
 ·obtain ⟨a,c,rfl⟩:=hm.form
  exact ⟨a,c,0,m,rfl,hm,hb,.inl ⟨rfl,hN,hval,hvt⟩⟩
 ·exact ⟨none,0,2,[],rfl,⟨[],rfl,⟨none,0,rfl,by simp,by omega,.inl rfl⟩,by simp,by simp⟩,hb,.inr ⟨rfl,rfl,rfl,rfl,m,hN,fun g=>by rw [(validM_of hvt).2 g] at hval;cases hval⟩⟩
theorem minL_length:∀ {m:List (List Per)} {t:List Per},(minL m t).length=m.length*t.length
 | [],t=>by simp [minL]
 | x :: m,t=>by
  have h:=minL_length (m:=m) (t:=t)
  have e:minL (x :: m) t=(t.map fun f=>wiP x f) ++ minL m t:=rfl
  rw [e,List.length_append,List.length_map,h,List.length_cons,Nat.succ_mul,Nat.add_comm]
def MinRes (s:Int) (m1 m2:List (List Per)) (w:World) (e:Ending) (w':World):Prop:=
 ∃ (v:Value) (r:Option (List (List Per))),MinusTo m1 m2 r∧Below w.heap.size w w'∧
  ((∃ k,r=some k∧MV s k∧e=.returned (.tuple #[.agg #[v],.int .i64 0])∧MixR w' (fun b=>w.heap.size≤b) v k)∨(r=none∧e=.returned (.tuple #[.agg #[.slice none 0 0],.int .i64 2])))
structure MS (s:Int) (m1 m2:List (List Per)) (w:World) (b6 j:Nat) (a:Option Addr) (c:Nat) (k:Int) (mk:List (List Per)) (W:World):Prop where
 below:Below w.heap.size w W
 obx:Bxx W b6 #[.slice a mk.length c] 28
 rbx:Bxx W (w.heap.size+1+1) #[.slice none 0 0] 28
 mix:MixR W (fun b=>w.heap.size+2<b∧b≠b6) (.slice a mk.length c) mk
 lt:w.heap.size+2<b6
 st:(k=0∧MV s mk∧∀ r,MinTo mk (m2.drop j) r→MinusTo m1 m2 r)∨(k=2∧a=none∧c=0∧mk=[]∧MinusTo m1 m2 none)
set_option maxRecDepth 100000 in
set_option maxHeartbeats 4000000 in
theorem mminus_any (s:Int) (F1 F2:Nat→Prop) (v1 v2:Value) (m1 m2:List (List Per)) (w:World) (h1:MixR w F1 v1 m1) (h2:MixR w F2 v2 m2) (k1:MV s m1) (k2:MV s m2) :
  Calls Tryz.prog 23 #[.agg #[v1],.agg #[v2]] w (MinRes s m1 m2 w):=by
 have HV1:=fun W (h:Below w.heap.size w W)=>mvalid_any F1 v1 m1 W (h1.ext h)
 have HV2:=fun W (h:Below w.heap.size w W)=>mvalid_any F2 v2 m2 W (h2.ext h)
 rw [k1.val] at HV1
 rw [k2.val] at HV2
 have l1:=k1.len
 have l2:=k2.len
 obtain ⟨a1,c1,rfl⟩:=h1.form
 obtain ⟨a2,c2,rfl⟩:=h2.form
 have HIT:=fun W (h:Below w.heap.size w W) b1 hb1=>values_seq F1 (.slice a1 m1.length c1) m1 b1 W (h1.ext h) hb1
 have hit:=Lib.hid HIT
 have HM2:=Lib.hid h2
 have HVT:=Lib.hid k1.vt
 have HK2:=Lib.hid k2
 clear h1 h2 k1 k2 HIT
 go_enter Tryz.func23,Tryz.ntmps23
 go_wp2_with (first|(go_at_call 18;first
   | ((with_reducible refine (HV1 _ xE).mono ?_);rintro e w1 ⟨rfl,hb1⟩;have b0:Bxx w1 w.heap.size #[.slice a1 m1.length c1] 28:=Bxx.below xB hb1;have b1:Bxx w1 (w.heap.size+1) #[.slice a2 m2.length c2] 28:=Bxx.below xB hb1;have b2:Bxx w1 (w.heap.size+1+1) #[.slice none 0 0] 28:=Bxx.below xB hb1;have x0:=b0.c0;have x1:=b1.c0;have hW1:Below w.heap.size w w1:=by exact xE)
   | ((with_reducible refine (HV2 _ xE).mono ?_);rintro e w2 ⟨rfl,hb2⟩;have d0:=b0.below hb2;have d1:=b1.below hb2;have d2:=b2.below hb2;have y0:=d0.c0;have y1:=d1.c0;have hW2:Below w.heap.size w w2:=by exact xE))|(go_at_call 61;refine (values_any _ _ ⟨_,_,_,rfl⟩).mono ?_;rintro e w4 ⟨rfl,rfl⟩)|(go_at_call 68;refine (normal_any s _ _ m1 _ (hit.out _ (Ea hW2 _) w2.heap.size (Bxx.new w2 #[.slice a1 m1.length c1] 26).c0) HVT.out (by omega)).mono ?_;rintro e w5 hres;obtain ⟨oa,oc,k,mk,rfl,hmr,hb5,hst⟩:=hres.num;have g1:=(d1.alloc (.cells #[.slice a1 m1.length c1] 26)).below hb5;have g2:=(d2.alloc (.cells #[.slice a1 m1.length c1] 26)).below hb5;have hW5:Below w.heap.size w w5:=Et (Ea hW2 _) hb5;have s1:=g1.c0;have s2:=(g1.alloc (.cells #[.slice oa mk.length oc] 28)).c0;have HMR:=Lib.hid hmr;have HST:=Lib.hid hst;have G1:=Lib.hid g1;have G2:=Lib.hid g2;clear hmr hst g1 g2 hres))
 obtain ⟨b6,hb6⟩:∃ b6,b6=w5.heap.size:=⟨_,rfl⟩
 have hg2:=G2.out.lt
 have hz5:(w2.alloc (.cells #[.slice a1 m1.length c1] 26)).heap.size≤w5.heap.size:=hb5.size
 have hz2:=d2.lt
 have hms:MS s m1 m2 w b6 0 oa oc k mk (w5.alloc (.cells #[.slice oa mk.length oc] 28)):=by
  refine ⟨Ea hW5 _,Bxx.at hb6,G2.out.alloc _,?_,by omega,?_⟩
  ·refine (HMR.out.lt.ext (Ea (Er _) _)).mono fun b hb=>?_
   obtain ⟨hb1,hb2⟩:=hb
   simp at hb1
   exact ⟨by omega,by omega⟩
  ·rcases HST.out with ⟨h1,h2,h3⟩|⟨h1,h2,h3,h4,m,h5,h6⟩
   ·exact .inl ⟨h1,h3,fun r hr=>⟨mk,h2,.inl ⟨(validM_of h3.vt).1 h3.val,hr⟩⟩⟩
   ·exact .inr ⟨h1,h2,h3,h4,m,h5,.inr ⟨h6,rfl⟩⟩
 rw [← hb6]
 have HMS:=Lib.hid hms
 have hm2l:m2.length≤64:=l2
 clear hms hb6 hz5 hg2 hb5 hW5 hz2 d0 d1 d2 s1 s2 hb2 hb1 b0 b1 b2 x0 x1 y0 y1 HMR HST G1 G2
 go_loopw [5,7,9,10,12,14,15,16,36] (fun s5 ev _ _ _ _ _ _ idx wr=>∃ (j:Nat) (a:Option Addr) (c:Nat) (k:Int) (mk:List (List Per)),j≤m2.length∧s5=.int .i64 0∧idx=.int .i64 j∧ev=.int .i64 k∧Hid (MS s m1 m2 w b6 j a c k mk wr)) (fun _ _ _ _ _ _ _ _ idx _=>m2.length-(intOf idx).toNat)
 case atStart=>exact ⟨0,oa,oc,k,mk,by omega,rfl,rfl,rfl,HMS⟩
 case round=>
  obtain ⟨j,a,c,k,mk,hj,rfl,rfl,rfl,HM⟩:=hrel
  obtain ⟨wo,hwo⟩:∃ wo,wo=wr:=⟨_,rfl⟩
  subst hwo
  have r1:=HM.out.obx.c0
  have r2:=(HM.out.rbx.cells 0).1
  have r3:=(HM.out.rbx.cells 0).2
  by_cases hjl:j<m2.length
  ·have hjI:(j:Int)<m2.length:=by omega
   obtain ⟨L2,hL2,hml⟩:=HM2.out.ext HM.out.below
   have hl2:L2.length=m2.length:=by rw [← hL2,List.length_map]
   obtain ⟨b8,f8,c8,ta,tn,tc,t,he,e0,htt,hmt⟩:=hml.at (show j<L2.length by omega)
   injection he with q1 q2 q3
   subst q1;subst q3
   clear q2
   rw [hL2] at hmt
   have HTT:=Lib.hid htt
   have HMT:=Lib.hid hmt
   clear hml htt hmt hL2 hl2
   have HM':=HM.out.st
   rcases HM' with ⟨rfl,hmv,hto⟩|⟨rfl,rfl,rfl,rfl,hnone⟩
   ·have hmkl:=hmv.len
    have HMV:=Lib.hid hmv
    have HTO:=Lib.hid hto
    clear hmv hto
    go_wp2_with fail
    go_loopw [5,10,12,14,15,16,47] (fun s5 lv _ _ _ _ idx wq=>∃ (i:Nat) (la:Option Addr) (lc:Nat) (Lk:List (Value × List Per)),i≤mk.length∧s5=.int .i64 0∧idx=.int .i64 i∧lv=.slice la Lk.length lc∧Hid (Below wo.heap.size wo wq)∧Hid (RowT 0 (fun k=>k≤w.heap.size+2∨k=b6) wq (.slice la Lk.length lc) Lk)∧Hid (∀ g,(Value.slice la Lk.length lc).ownBlock=some g→wo.heap.size≤g)∧Hid (Lk.map Prod.snd=minL (mk.take i) t)) (fun _ _ _ _ _ _ idx _=>mk.length-(intOf idx).toNat)
    case atStart=>exact ⟨0,none,0,[],by omega,rfl,rfl,rfl,Lib.hid (Below.refl _ _),Lib.hid (RowT.nil _ _ _),Lib.hid (by simp [Value.ownBlock]),Lib.hid rfl⟩
    case round=>
     obtain ⟨i,la,lc,Lk,hi,rfl,rfl,rfl,HBQ,HRT,HOW,HEQ⟩:=hrel
     by_cases hil:i<mk.length
     ·have hiI:(i:Int)<mk.length:=by omega
      obtain ⟨L1,hL1,hml⟩:=HM.out.mix.lt
      have hl1:L1.length=mk.length:=by rw [← hL1,List.length_map]
      obtain ⟨b9,f9,c9,sa,sn,sc,u,he,e1,hut,hmu⟩:=hml.at (show i<L1.length by omega)
      injection he with q1 q2 q3
      subst q1;subst q3
      rw [hL1] at hmu
      have hvu:=HMV.out.vt u (List.mem_of_getElem? hmu)
      have HUT:=Lib.hid hut
      have HU2:=fun W (h:Below wo.heap.size wo W)=>(hut.keep (KeepF.below h) h.size)
      have e1:=Ext.cell HBQ.out e1
      have HMU:=Lib.hid hmu
      have HVU:=Lib.hid hvu
      obtain ⟨tL,htL,htl⟩:=HTT.out
      obtain ⟨_,_,he,_⟩:=htl.row.is
      have htn:tn=t.length:=by injection he with _ h _;rw [h,← htL,List.length_map]
      have htn4:tn≤4:=by rw [htn];exact HK2.out.tlen t (List.mem_of_getElem? HMT.out)
      have HTN:=Lib.hid htn
      clear q2 hml hut hmu hvu hL1 hl1 he htn
      go_wp2_with fail
      go_loopw [5,10,14,15,16,53] (fun s5 lv _ _ _ idx wq=>∃ (i3:Nat) (la:Option Addr) (lc:Nat) (Lk:List (Value × List Per)),i3≤tn∧s5=.int .i64 0∧idx=.int .i64 i3∧lv=.slice la Lk.length lc∧Hid (Below wo.heap.size wo wq)∧Hid (RowT 0 (fun k=>k≤w.heap.size+2∨k=b6) wq (.slice la Lk.length lc) Lk)∧Hid (∀ g,(Value.slice la Lk.length lc).ownBlock=some g→wo.heap.size≤g)∧Hid (Lk.map Prod.snd=minL (mk.take i) t ++ (t.take i3).map fun f=>wiP u f)) (fun _ _ _ _ _ idx _=>tn-(intOf idx).toNat)
      case atStart=>exact ⟨0,la,lc,Lk,by omega,rfl,rfl,rfl,HBQ,HRT,HOW,Lib.hid (by rw [HEQ.out];simp)⟩
      case round=>
       obtain ⟨i3,la,lc,Lk,hi3,rfl,rfl,rfl,HBQ2,HRT2,HOW2,HEQ2⟩:=hrel
       by_cases hi3l:i3<tn
       ·have hi3I:(i3:Int)<tn:=by omega
        have htl2:=htl.keep (KeepF.below HBQ2.out) HBQ2.out.size
        have htLl:tL.length=tn:=by have:=congrArg List.length htL;rw [List.length_map] at this;rw [this];exact HTN.out.symm
        obtain ⟨bt,ot,x,ha,hx,hxp,_,z0,z1,z2,z3⟩:=htl2.get (show i3<tL.length by omega)
        subst ha
        have hfx:=(HK2.out.vt t (List.mem_of_getElem? HMT.out)).fv x.p (by rw [hxp,htL];exact getD_mem' (by rw [← HTN.out];exact hi3l))
        have hxg:t[i3]? = some x.p:=by rw [hxp,htL,List.getD_eq_getElem?_getD,List.getElem?_eq_getElem (by rw [← HTN.out];exact hi3l)];rfl
        obtain ⟨xh,xc,xp⟩:=x
        obtain ⟨ax1,nx1,cx1,ax2,nx2,cx2,rfl,rfl⟩:=hx.form
        dsimp only at z0 z1 z2 z3 hfx hxg
        have hown:=HRT2.out.row.lt
        have hal:=Ea (Er wr) (.cells #[.slice ax1 nx1 cx1,.int .i64 xp.frm,.int .i64 xp.period,.slice ax2 nx2 cx2] 39)
        have HWO:=mwithout_any s _ F2 (.slice sa sn sc) u (.slice ax1 nx1 cx1) (.slice ax2 nx2 cx2) xp (wr.alloc (.cells #[.slice ax1 nx1 cx1,.int .i64 xp.frm,.int .i64 xp.period,.slice ax2 nx2 cx2] 39)) (HU2 wr HBQ2.out |>.ext hal) HVU.out (hx.keep (KeepF.below hal)) hfx
        have hb6z:=HM.out.obx.lt
        have hb6l:=HM.out.lt
        have hwz0:=HBQ2.out.size
        have HROW:Hid (∀ (W7 W:World) (v':Value) (u':List Per),TermR W7 (fun b=>((w.heap.size+2<b∧b≠b6)∧b<wo.heap.size)∨(wr.alloc (.cells #[.slice ax1 nx1 cx1,.int .i64 xp.frm,.int .i64 xp.period,.slice ax2 nx2 cx2] 39)).heap.size≤b) v' u'→Below W7.heap.size W7 W→TermR W (RowF 0 (fun k=>k≤w.heap.size+2∨k=b6) (.slice la Lk.length lc)) v' u'):=Lib.hid fun W7 W v' u' ht h=>(ht.ext h).mono fun b hb=>by
         have hs:=World.size_alloc wr (.cells #[.slice ax1 nx1 cx1,.int .i64 xp.frm,.int .i64 xp.period,.slice ax2 nx2 cx2] 39)
         have ho:=fun e=>HOW2.out b e
         have ho2:=fun e=>(hown b e).2
         refine ⟨Nat.zero_le _,?_,fun e=>?_⟩
         ·rcases hb with ⟨⟨h1,h2⟩,h3⟩|h1
          ·rintro (h|h) <;> omega
          ·rintro (h|h) <;> omega
         ·have h4:=ho e
          have h5:=ho2 e
          rcases hb with ⟨⟨h1,h2⟩,h3⟩|h1 <;> omega
        have HLK:Hid (Lk.length<1000000):=Lib.hid (by
         have h1:=congrArg List.length HEQ2.out
         rw [List.length_map,List.length_append,List.length_map,minL_length,List.length_take,List.length_take] at h1
         have h2:min i mk.length*t.length≤64*4:=Nat.mul_le_mul (by omega) (by rw [← HTN.out];exact htn4)
         have h3:=HTN.out
         omega)
        have HXG:=Lib.hid hxg
        have HAL:=Lib.hid hal
        clear htl2 htLl hx hxp hfx hxg hal hown
        go_wp2_with (first|(go_at_call 71;refine HWO.mono ?_;rintro e w7 ⟨v',rfl,ht7,hb7⟩;obtain ⟨va,vc,rfl,_⟩:=ht7.form;have hE7:=HAL.out.trans (hb7.mono HAL.out.size);have HT7:=Lib.hid ht7;have HE7:=Lib.hid hE7;have hz7:=hE7.size;clear ht7 hb7 hE7)|(at_builtin;refine append_term (by rfl) _ _ (by rfl) 0 (fun k=>k≤w.heap.size+2∨k=b6) (.slice la Lk.length lc) Lk (.slice va (wiP u xp).length vc,wiP u xp) (by rfl) (HRT2.out.below (Ea HE7.out _)) (HROW.out w7 _ _ _ HT7.out (Ea (Er w7) _)) _ _ (by rfl) (by simp) (by simp;omega) (HLK.out) (by omega) ?_;intro ga gc w8 hr8 hg8 hb8 hbo8;have HR8:=Lib.hid hr8;have HG8:=Lib.hid hg8;have HBO8:=Lib.hid hbo8;clear hr8 hg8 hb8 hbo8))
        go_roundw
        case rel=>
         have hle:(Lk ++ [(Value.slice va (wiP u xp).length vc,wiP u xp)]).length=Lk.length+1:=by simp
         refine ⟨i3+1,ga,gc,Lk ++ [(.slice va (wiP u xp).length vc,wiP u xp)],by omega,rfl,by go_num,by rw [hle],Lib.hid ?_,Lib.hid (by rw [hle];exact HR8.out),Lib.hid (fun g hg=>?_),Lib.hid ?_⟩
         ·have h1:Below wo.heap.size wo (w7.alloc (.cells #[.slice va (wiP u xp).length vc] 36)):=Et HBQ2.out (Ea HE7.out _)
          exact h1.grown HG8.out h1.size (fun k e=>HOW2.out k e)
         ·rw [hle] at hg
          rcases HBO8.out with e|e
          ·exact HOW2.out g (e ▸ hg)
          ·rw [e] at hg;cases hg;simp;omega
         ·rw [List.map_append,HEQ2.out,List.append_assoc]
          congr 1
          obtain ⟨h1,h2⟩:=List.getElem?_eq_some_iff.1 HXG.out
          rw [List.take_succ_eq_append_getElem h1,List.map_append,h2];rfl
        case measure=>simp [intOf];omega
       ·obtain rfl:i3=tn:=by omega
        go_wp2_with fail
        go_roundw
        case rel=>exact ⟨i+1,la,lc,Lk,by omega,rfl,by go_num,rfl,HBQ2,HRT2,HOW2,Lib.hid (by
         rw [HEQ2.out,List.take_of_length_le (l:=t) (by rw [HTN.out];exact Nat.le_refl _)]
         obtain ⟨h1,h2⟩:=List.getElem?_eq_some_iff.1 HMU.out
         unfold minL
         rw [List.take_succ_eq_append_getElem h1,List.flatMap_append,h2];simp)⟩
        case measure=>simp [intOf];omega
     ·obtain rfl:i=mk.length:=by omega
      have hmx:MixR wr (fun _=>True) (.slice la Lk.length lc) (minL mk t):=⟨Lk,by rw [HEQ.out,List.take_of_length_le (Nat.le_refl _)],HRT.out.mix.mono fun _ _=>trivial⟩
      have hvt:∀ x∈minL mk t,VTerm s x:=fun x hx=>by
       obtain ⟨u,hu,f,hf,rfl⟩:=mem_minL.1 hx
       have h1:=HMV.out.vt u hu
       have h2:=(HK2.out.vt t (List.mem_of_getElem? HMT.out)).fv f hf
       cases u with
       | nil=>exact absurd rfl h1.ne
       | cons p r=>exact ⟨by simp [wiP],fun q hq=>by
         rcases List.mem_cons.1 hq with rfl|hq
         ·exact (h1.fv p (by simp)).minus h2
         ·exact h1.fv q (by simp [hq]),by have:=h1.len;simpa [wiP] using this⟩
      have htl:(minL mk t).length≤256:=by rw [minL_length];exact Nat.mul_le_mul hmkl (HK2.out.tlen t (List.mem_of_getElem? HMT.out))
      have hNO:=normal_any s _ _ (minL mk t) _ (values_seq (fun _=>True) (.slice la Lk.length lc) (minL mk t) wr.heap.size (wr.alloc (.cells #[.slice la Lk.length lc] 26)) (hmx.ext (Ea (Er wr) _)) (Bxx.new wr #[.slice la Lk.length lc] 26).c0) hvt (by omega)
      have HNOH:=Lib.hid hNO
      have hwz:=HBQ.out.size
      clear hmx hvt hNO
      go_wp2_with (first|(go_at_call 61;refine (values_any _ _ ⟨_,_,_,rfl⟩).mono ?_;rintro e w4 ⟨rfl,rfl⟩)|(go_at_call 68;refine HNOH.out.mono ?_;rintro e w5 hres;obtain ⟨oa,oc,k9,mk9,rfl,hmr,hb5,hst⟩:=hres.num;have hE5:Below wo.heap.size wo w5:=Et (Ea HBQ.out _) hb5;have ho5:=HM.out.obx.below hE5;have s1:=(ho5.cells 0).1;have s2:=(ho5.cells 0).2;have HMR:=Lib.hid hmr;have HST:=Lib.hid hst;have HO5:=Lib.hid ho5;have HE5:=Lib.hid hE5;clear hmr hst hres hb5 hE5 ho5))
      go_roundw
      case rel=>
       have hbl:=HM.out.lt
       have hbz:=HM.out.obx.lt
       have hsz:=World.size_alloc wr (.cells #[.slice la Lk.length lc] 26)
       have hdr:m2.drop j=t :: m2.drop (j+1):=by
        obtain ⟨h1,h2⟩:=List.getElem?_eq_some_iff.1 HMT.out
        rw [List.drop_eq_getElem_cons h1,h2]
       refine ⟨j+1,oa,oc,k9,mk9,by omega,rfl,by go_num,rfl,Lib.hid ⟨?_,heap_set_at 0 _ HO5.out,?_,?_,hbl,?_⟩⟩
       ·exact (HM.out.below.trans (HE5.out.mono HM.out.below.size)).setCell (p:=⟨b6,0,none⟩) (show w.heap.size≤b6 by omega) _
       ·exact Bxx.setNe (HM.out.rbx.below HE5.out) _ (by omega)
       ·exact (HMR.out.set (b:=b6) (by omega)).mono fun b (hb:_≤b)=>⟨by omega,by omega⟩
       ·rcases HST.out with ⟨h1,h2,h3⟩|⟨h1,h2,h3,h4,m,h5,h6⟩
        ·exact .inl ⟨h1,h3,fun r hr=>HTO.out r (by rw [hdr];exact .step h2 ((validM_of h3.vt).1 h3.val) hr)⟩
        ·exact .inr ⟨h1,h2,h3,h4,HTO.out none (by rw [hdr];exact .big h5 h6)⟩
      case measure=>simp [intOf];omega
   ·have HNO:=Lib.hid hnone
    clear hnone
    go_wp2_with fail
    have hcc:=Bxx.c0 (w:=wo.setCell ⟨w.heap.size+1+1,0,none⟩ (.slice none 0 0)) (heap_set_at 0 (.slice none 0 0) HM.out.rbx)
    exact bodyPost_ret (v:=.tuple #[.agg #[.slice none 0 0],.int .i64 2]) (by simp [results,Tryz.results23,go_sem,hcc]) rfl ⟨.slice none 0 0,none,HNO.out,HM.out.below.setCell (p:=⟨w.heap.size+1+1,0,none⟩) (by show w.heap.size≤w.heap.size+1+1;omega) _,.inr ⟨rfl,rfl⟩⟩
  ·obtain rfl:j=m2.length:=by omega
   go_wp2_with fail
   have hcc:=Bxx.c0 (w:=wo.setCell ⟨w.heap.size+1+1,0,none⟩ (.slice a mk.length c)) (heap_set_at 0 (.slice a mk.length c) HM.out.rbx)
   have hbe:=HM.out.below.setCell (p:=⟨w.heap.size+1+1,0,none⟩) (by show w.heap.size≤w.heap.size+1+1;omega) (.slice a mk.length c)
   rcases HM.out.st with ⟨rfl,hmv,hto⟩|⟨rfl,rfl,rfl,rfl,hnone⟩
   ·refine bodyPost_ret (v:=.tuple #[.agg #[.slice a mk.length c],.int .i64 0]) (by simp [results,Tryz.results23,go_sem,hcc]) rfl ⟨.slice a mk.length c,some mk,hto _ (by rw [List.drop_of_length_le (Nat.le_refl _)];exact .nil),hbe,.inl ⟨mk,rfl,hmv,rfl,?_⟩⟩
    exact (HM.out.mix.keep (fun b hb _=>Below.heap_setCell wo ⟨w.heap.size+1+1,0,none⟩ _ b (by show b≠w.heap.size+1+1;have:=hb.1;omega)) (by rw [World.size_setCell];exact Nat.le_refl _)).mono fun b hb=>by have:=hb.1;omega
   ·simp only [List.length_nil] at hcc
    exact bodyPost_ret (v:=.tuple #[.agg #[.slice none 0 0],.int .i64 2]) (by simp [results,Tryz.results23,go_sem,hcc]) rfl ⟨.slice none 0 0,none,hnone,hbe,.inr ⟨rfl,rfl⟩⟩
end Go.Proofs.YthjnojbeimchdaaGreat
