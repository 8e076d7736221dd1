/- Part 7 of the proof of MixedMatchesReference_said. -/
import Derived.Test.YthjnojbeimchdaaGreatQ4
import Derived.Test.YthjnojbeimchdaaGreatQ6
import Derived.Deep.Slices
import Derived.Test.YthjnojbeimchdaaGreatQ3
import Derived.Deep.QuietTactic
import Derived.BigQuiet
import Derived.Deep.RegionHeld3
set_option linter.unusedVariables false
set_option linter.unusedSimpArgs false
set_option maxRecDepth 100000
set_option maxHeartbeats 4000000
section
variable {a d f lo op s x y:Int}{m:List (List Kal.Per)}{X l:List Int}{L:List Go.Proofs.YthjnojbeimchdaaGreat.PV}{B base c cap g i j k ob:Nat}{o:Go.Oper}{p:Kal.Per}{hv v:Go.Value}{W W' W2 w:Go.World}
namespace Go.Proofs.YthjnojbeimchdaaGreat
open Go.RowKit Go.Maps Kal
structure e8_ (w:World) (v:Value) (n:Nat):Prop where
 is:∃ a c,v=.slice a n c∧(n=0∨∃ b o,a=some ⟨b,o,none⟩∧∀ i,i<n->∃ (u:Value) (l:List Int),w.cell? ⟨b,o+i,none⟩=some u∧fu_ w u l)
 len:n≤9223372036854775807
theorem e8_.ext {n:Nat} (h:e8_ w v n) (hb:Below w.heap.size w W):e8_ W v n:=by
 obtain ⟨⟨a,c,rfl,h1⟩,h2⟩:=h;refine ⟨⟨a,c,rfl,h1.imp id ?_⟩,h2⟩;rintro ⟨b,o,rfl,hc⟩;exact ⟨b,o,rfl,fun i hi=>by obtain ⟨u,l,h3,h4⟩:=hc i hi;exact ⟨u,l,Ext.cell hb h3,h4.ext hb⟩⟩
structure MFac (p:Per):Prop where
 wf:p.WF
 frm:p.frm≤8
 per:p.period≤12
theorem MFac.dvd (h:MFac p):p.period∣27720:=by
 have h1:=h.wf.per;have h2:=h.per;obtain ⟨k,hk⟩:∃ k:Nat,p.period=k:=⟨p.period.toNat,oq_⟩;rw [hk] at h1 h2 ⊢;have:∀ k:Nat,k≤12->1≤k->k∣27720:=by decide
 exact Int.natCast_dvd_natCast.2 (this k oq_ oq_)
theorem MFac.fv (h:MFac p):FV 0 p:=⟨⟨h.wf,fun n hn=>hn.1,by have:=h.frm;omega,h.dvd⟩,by have:=h.frm;omega⟩
structure j5_ (m:List (List Per)):Prop where
 len:m.length≤3
 ne:∀ t∈m,t≠[]
 tlen:∀ t∈m,t.length≤3
 fac:∀ t∈m,∀ p∈t,MFac p
theorem j5_.vt (h:j5_ m):∀ t∈m,aw_ 0 t:=fun t ht=>⟨h.ne t ht,fun p hp=>(h.fac t ht p hp).fv,by have:=h.tlen t ht;omega⟩
theorem j5_.mv (h:j5_ m):MV 0 m:=⟨(d8_ h.vt).2 ⟨by have:=h.len;omega,fun t ht=>by have:=h.tlen t ht;omega⟩,h.vt⟩
abbrev MdA (B:Nat) (k:Nat):Prop:=k=B∨k=B+1
structure MdL (B:Nat) (v:Value) (L0:List (Value × List Per)) (g cap:Nat) (M:List PV) (W:World):Prop where
 own:W.ownsRow B 39 4 (.slice (some ⟨g,0,none⟩) M.length cap) M.length (M.flatMap PV.enc)
 all:∀ x∈L0,ab_ W (fun b=>RowF B (MdA B) v b∧b≠g) x.1 x.2
 pvs:∀ x∈M,PVok W (fun b=>RowF B (MdA B) v b∧b≠g) x
 g:RowF B (MdA B) v g
 len:1≤M.length
structure MdS (B:Nat) (w:World) (v:Value) (L:List (Value × List Per)) (W:World):Prop where
 below:Below B w W
 rbx:Bxx W B #[.slice none 0 0] 28
 obx:Bxx W (B+1) #[v] 28
 row:RowT B (MdA B) W v L
 md:j5_ (L.map Prod.snd)
 last:L=[]∨∃ L0 g cap M,L=L0 ++ [(.slice (some ⟨g,0,none⟩) M.length cap,M.map PV.p)]∧MdL B v L0 g cap M W
theorem MdL.ext {L0:List (Value × List Per)} {M:List PV} (h:MdL B v L0 g cap M W) (hb:Below W.heap.size W W'):MdL B v L0 g cap M W':=
 ⟨h.own.kept (row:=none) (World.grownBy.of_below hb _) (by right;simp [Value.ownBlock]),fun x hx=>(h.all x hx).ext hb,fun x hx=>(h.pvs x hx).keep (a5_.below hb),h.g,h.len⟩
theorem MdS.ext {L:List (Value × List Per)} (h:MdS B w v L W) (hB:B≤w.heap.size) (hb:Below W.heap.size W W'):MdS B w v L W':=
 ⟨h.below.trans (hb.mono (Nat.le_trans hB h.below.size)),h.rbx.below hb,h.obx.below hb,h.row.below hb,h.md,h.last.imp id fun ⟨L0,g,cap,M,e,hl⟩=>⟨L0,g,cap,M,e,hl.ext hb⟩⟩
theorem o5_ {n:Nat} {F:Nat->Prop} (h:W.ownsRow B 39 4 (.slice (some ⟨g,0,none⟩) n cap) n (L.flatMap PV.enc)) (hn:L.length=n) (h1:1≤n) (hl:n≤1000) (hF:F g) (ha:∀ x∈L,PVok W F x):ab_ W F (.slice (some ⟨g,0,none⟩) n cap) (L.map PV.p):=by
 subst hn;have h2:L.length≤cap∧cap≤9223372036854775807:=by
  rcases h.2 with ⟨h',_⟩|⟨_,_,_,h',_,_,h3,h4,_⟩
  ·cases h'
  ·cases h';exact ⟨h3,h4⟩
 refine ⟨L,rfl,⟨_,_,rfl,h2.1,h2.2,.inr ⟨g,0,rfl,hF,(h.lt g rfl).2,fun i u hi=>?_⟩⟩,oq_,ha⟩;rw [Nat.zero_add];have:=(List.getElem?_eq_some_iff.1 hi).1;rw [c3_] at this;exact (h.cellAt i this).trans hi
theorem oi_ {b:Nat} {u:Value} {t:TypeId} (h:Bxx W b #[u] t) (e:W'.heap[b]? = W.heap[b]?):Bxx (W'.setCell ⟨b,0,none⟩ v) b #[v] t:=a4_ 0 v (e.trans h)
theorem n5_ {wo:World} {a:Option Addr} {L:List (Value × List Per)} {x:PV} (hk:W2.heap.size=k) (hS:MdS w.heap.size w (.slice a L.length c) L wo) (hb2:Below wo.heap.size wo W2) (hpv:PVok W2 (fun b=>wo.heap.size≤b∧b<W2.heap.size) x) :
  ab_ ((W2.alloc (.cells #[x.h,.int .i64 x.p.frm,.int .i64 x.p.period,x.c] 39)).alloc (.cells #[.slice (some ⟨k,0,none⟩) 1 1] 36)) (RowF w.heap.size (MdA w.heap.size) (.slice a L.length c)) (.slice (some ⟨k,0,none⟩) 1 1) [x.p]:=by
 subst hk;have hbz:=hS.obx.lt;have hz2:=hb2.size;have hvb:∀ q,(Value.slice a L.length c).ownBlock=some q->q<wo.heap.size:=fun q e=>(hS.row.row.lt q e).2;have hown:=(World.ownsRow_lit (base:=w.heap.size) (e:=39) (size:=4) W2 #[x.h,.int .i64 x.p.frm,.int .i64 x.p.period,x.c] 1 oq_ (by unfold maxLen;omega) rfl).alloc (.cells #[.slice (some ⟨W2.heap.size,0,none⟩) 1 1] 36);refine o5_ (L:=[x]) hown rfl (Nat.le_refl _) oq_ ⟨oq_,?_,fun e=>by have:=hvb _ e;omega⟩ fun y hy=>?_
 ·rintro (h|h) <;> omega
 ·rw [List.mem_singleton] at hy;subst hy;refine (hpv.keep (a5_.below (Ea (Ea (Er _) _) _))).mono fun b hb=>⟨oq_,?_,fun e=>by have:=hvb _ e;omega⟩;rintro (h|h) <;> omega
theorem MdS.new {wo w8:World} {a:Option Addr} {L:List (Value × List Per)} {ga:Option Addr} {gc:Nat} {x:PV} (hk:W2.heap.size=k) (hS:MdS w.heap.size w (.slice a L.length c) L wo) (hb2:Below wo.heap.size wo W2)
  (hpv:PVok W2 (fun b=>wo.heap.size≤b∧b<W2.heap.size) x) (hmf:MFac x.p) (hl:L.length<3)
  (hr8:RowT w.heap.size (MdA w.heap.size) w8 (.slice ga (L.length+1) gc) (L ++ [(.slice (some ⟨k,0,none⟩) 1 1,[x.p])]))
  (hg8:((W2.alloc (.cells #[x.h,.int .i64 x.p.frm,.int .i64 x.p.period,x.c] 39)).alloc (.cells #[.slice (some ⟨k,0,none⟩) 1 1] 36)).grownBy w8 (Value.slice a L.length c).ownBlock)
  (hb8:Below w.heap.size ((W2.alloc (.cells #[x.h,.int .i64 x.p.frm,.int .i64 x.p.period,x.c] 39)).alloc (.cells #[.slice (some ⟨k,0,none⟩) 1 1] 36)) w8)
  (hloc:(Value.slice ga (L.length+1) gc).ownBlock=(Value.slice a L.length c).ownBlock∨(Value.slice ga (L.length+1) gc).ownBlock=some (k+2)) :
  MdS w.heap.size w (.slice ga (L.length+1) gc) (L ++ [(.slice (some ⟨k,0,none⟩) 1 1,[x.p])]) (w8.setCell ⟨w.heap.size+1,0,none⟩ (.slice ga (L.length+1) gc)):=by
 subst hk;have hbz:=hS.obx.lt;have hz2:=hb2.size;have hvb:∀ q,(Value.slice a L.length c).ownBlock=some q->q<wo.heap.size:=fun q e=>(hS.row.row.lt q e).2;have hvn:=hS.row.ne;have hown0:=World.ownsRow_lit (base:=w.heap.size) (e:=39) (size:=4) W2 #[x.h,.int .i64 x.p.frm,.int .i64 x.p.period,x.c] 1 oq_ (by unfold maxLen;omega) rfl;have hal:Below W2.heap.size W2 ((W2.alloc (.cells #[x.h,.int .i64 x.p.frm,.int .i64 x.p.period,x.c] 39)).alloc (.cells #[.slice (some ⟨W2.heap.size,0,none⟩) 1 1] 36)):=Ea (Ea (Er _) _) _;have hown1:=hown0.alloc (.cells #[.slice (some ⟨W2.heap.size,0,none⟩) 1 1] 36);generalize hv:Value.slice a L.length c=v at *;generalize hv':Value.slice ga (L.length+1) gc=v' at *;have hz3:((W2.alloc (.cells #[x.h,.int .i64 x.p.frm,.int .i64 x.p.period,x.c] 39)).alloc (.cells #[.slice (some ⟨W2.heap.size,0,none⟩) 1 1] 36)).heap.size=W2.heap.size+2:=by simp
 generalize ((W2.alloc (.cells #[x.h,.int .i64 x.p.frm,.int .i64 x.p.period,x.c] 39)).alloc (.cells #[.slice (some ⟨W2.heap.size,0,none⟩) 1 1] 36))=W3 at *;have hal0:Below wo.heap.size wo W3:=Et hb2 hal;have hset:w8.grownBy (w8.setCell ⟨w.heap.size+1,0,none⟩ v') (some (w.heap.size+1)):=World.grownBy.set' ⟨rfl,rfl,rfl,Nat.le_refl _,fun _ _ _=>rfl⟩ _;have hs8:=hg8.size;have keep3:∀ b,b<W3.heap.size->b≠w.heap.size+1->v.ownBlock≠some b->(w8.setCell ⟨w.heap.size+1,0,none⟩ v').heap[b]? = W3.heap[b]?:=fun b h1 h2 h3=>
  (hset.block b oq_ (fun e=>h2 (by cases e;rfl))).trans (hg8.block b h1 (fun e=>h3 e.symm))
 have keep0:∀ b,b<wo.heap.size->b≠w.heap.size+1->v.ownBlock≠some b->(w8.setCell ⟨w.heap.size+1,0,none⟩ v').heap[b]? = wo.heap[b]?:=fun b h1 h2 h3=>(keep3 b oq_ h2 h3).trans (hal0.block b h1);have keep2:∀ b,b<W2.heap.size->b≠w.heap.size+1->v.ownBlock≠some b->(w8.setCell ⟨w.heap.size+1,0,none⟩ v').heap[b]? = W2.heap[b]?:=fun b h1 h2 h3=>(keep3 b oq_ h2 h3).trans (hal.block b h1);have hv'b:∀ b,v'.ownBlock=some b->v.ownBlock=some b∨b=W2.heap.size+2:=fun b e=>by
  rcases hloc with h|h
  ·exact .inl (h ▸ e)
  ·rw [h] at e;cases e;exact .inr rfl
 refine ⟨((hS.below.trans (hal0.mono hS.below.size)).trans hb8).setCell (p:=⟨w.heap.size+1,0,none⟩) (by show w.heap.size≤w.heap.size+1;omega) _,(keep0 _ oq_ oq_ (fun e=>hvn _ e (.inl rfl))).trans hS.rbx,
  oi_ hS.obx ((hg8.block _ oq_ (fun e=>hvn _ e.symm (.inr rfl))).trans (hal0.block _ oq_)),hr8.box hset (.inr rfl),?_,.inr ⟨L,W2.heap.size,1,[x],rfl,⟨?_,fun y hy=>?_,fun y hy=>?_,?_,sq_⟩⟩⟩
 ·have hm:=hS.md;rw [List.map_append];have key:∀ {P:List Per->Prop},(∀ t∈L.map Prod.snd,P t)->P [x.p]->∀ t∈L.map Prod.snd ++ [[x.p]],P t:=fun h1 h2 t ht=>by
   rcases List.mem_append.1 ht with ht|ht
   ·exact h1 t ht
   ·rw [List.mem_singleton] at ht;subst ht;exact h2
  exact ⟨tq_,key hm.ne sq_,key hm.tlen sq_,key hm.fac (fun p hp=>by rw [List.mem_singleton] at hp;subst hp;exact hmf)⟩
 ·have h1:=hown1.kept hg8 (.inr fun e=>by have:=hvb W2.heap.size e.symm;omega);exact h1.kept hset (.inr fun e=>by have e:W2.heap.size=w.heap.size+1:=Option.some.inj e;omega)
 ·refine ((hS.row.all y hy).lt.keep (fun b hb hl=>?_) ?_).mono fun b hb=>⟨⟨hb.1.1,hb.1.2.1,fun e=>?_⟩,?_⟩
  ·exact keep0 b hb.2 (fun e=>hb.1.2.1 (.inr e)) hb.1.2.2
  ·have:=hset.size;omega
  ·rcases hv'b b e with h|h
   ·exact hb.1.2.2 h
   ·have:=hb.2;omega
  ·have:=hb.2;omega
 ·rw [List.mem_singleton] at hy;subst hy;refine (hpv.keep (fun b hb hl=>?_)).mono fun b hb=>⟨⟨oq_,?_,fun e=>?_⟩,oq_⟩
  ·exact keep2 b hb.2 oq_ (fun e=>by have:=hvb b e;omega)
  ·rintro (h|h) <;> omega
  ·rcases hv'b b e with h|h
   ·have:=hvb b h;omega
   ·omega
 ·refine ⟨oq_,?_,fun e=>?_⟩
  ·rintro (h|h) <;> omega
  ·rcases hv'b _ e with h|h
   ·have:=hvb _ h;omega
   ·omega
theorem MdS.more {wo W9:World} {ab:Nat} {L0:List (Value × List Per)} {g' cap':Nat} {M:List PV} {x:PV} (hS:MdS w.heap.size w (.slice (some ⟨ab,0,none⟩) (L0.length+1) c) (L0 ++ [(.slice (some ⟨g,0,none⟩) M.length cap,M.map PV.p)]) wo)
  (hml:MdL w.heap.size (.slice (some ⟨ab,0,none⟩) (L0.length+1) c) L0 g cap M wo) (hb2:Below wo.heap.size wo W2) (hpv:PVok W2 (fun b=>wo.heap.size≤b∧b<W2.heap.size) x) (hmf:MFac x.p) (hM:M.length<3)
  (hg:W2.grownBy W9 (some g)) (hown:W9.ownsRow w.heap.size 39 4 (.slice (some ⟨g',0,none⟩) (M.length+1) cap') (M.length+1) ((M ++ [x]).flatMap PV.enc)) (hloc:g'=g∨W2.heap.size≤g') :
  MdS w.heap.size w (.slice (some ⟨ab,0,none⟩) (L0.length+1) c) (L0 ++ [(.slice (some ⟨g',0,none⟩) (M.length+1) cap',(M ++ [x]).map PV.p)]) (W9.setCell ⟨ab,L0.length,none⟩ (.slice (some ⟨g',0,none⟩) (M.length+1) cap')):=by
 have hbz:=hS.obx.lt;have hz2:=hb2.size;have hz9:=hg.size;have hle:(L0 ++ [((Value.slice (some ⟨g,0,none⟩) M.length cap),M.map PV.p)]).length=L0.length+1:=by simp
 have hrow:=hS.row.row;rw [hle,List.map_append] at hrow;have hab:=hrow.lt ab rfl;have hvn:=hS.row.ne ab rfl;obtain ⟨g0,g1,g2⟩:=hml.g;have hgab:ab≠g:=fun e=>g2 (by simp [Value.ownBlock,e]);have hgl:=(hml.own.lt g rfl).2;have hset:W9.grownBy (W9.setCell ⟨ab,L0.length,none⟩ (.slice (some ⟨g',0,none⟩) (M.length+1) cap')) (some ab):=World.grownBy.set' ⟨rfl,rfl,rfl,Nat.le_refl _,fun _ _ _=>rfl⟩ _;have keep2:∀ b,b<W2.heap.size->b≠g->b≠ab->(W9.setCell ⟨ab,L0.length,none⟩ (.slice (some ⟨g',0,none⟩) (M.length+1) cap')).heap[b]? = W2.heap[b]?:=fun b h1 h2 h3=>
  (hset.block b oq_ (fun e=>h3 (by cases e;rfl))).trans (hg.block b h1 (fun e=>h2 (by cases e;rfl)))
 have keep0:∀ b,b<wo.heap.size->b≠g->b≠ab->(W9.setCell ⟨ab,L0.length,none⟩ (.slice (some ⟨g',0,none⟩) (M.length+1) cap')).heap[b]? = wo.heap[b]?:=fun b h1 h2 h3=>(keep2 b oq_ h2 h3).trans (hb2.block b h1);have hsz:=hset.size;have gB:g≠w.heap.size:=fun e=>g1 (.inl e);have gB1:g≠w.heap.size+1:=fun e=>g1 (.inr e);have aB:ab≠w.heap.size:=fun e=>hvn (.inl e);have aB1:ab≠w.heap.size+1:=fun e=>hvn (.inr e);have g'ab:g'≠ab:=by rcases hloc with h|h <;> omega
 have hown':=hown.kept hset (.inr fun e=>by injection e with e;exact g'ab e);have all0:∀ y∈L0,ab_ (W9.setCell ⟨ab,L0.length,none⟩ (.slice (some ⟨g',0,none⟩) (M.length+1) cap')) (fun b=>RowF w.heap.size (MdA w.heap.size) (.slice (some ⟨ab,0,none⟩) (L0.length+1) c) b∧b≠g') y.1 y.2:=fun y hy=>by
  refine ((hml.all y hy).lt.keep (fun b hb hl=>?_) oq_).mono fun b hb=>⟨hb.1.1,?_⟩
  ·exact keep0 b hb.2 hb.1.2 fun e=>hb.1.1.2.2 (by simp [Value.ownBlock,e])
  ·rcases hloc with h|h
   ·rw [h];exact hb.1.2
   ·have:=hb.2;omega
 have pvs:∀ y∈M ++ [x],PVok (W9.setCell ⟨ab,L0.length,none⟩ (.slice (some ⟨g',0,none⟩) (M.length+1) cap')) (fun b=>RowF w.heap.size (MdA w.heap.size) (.slice (some ⟨ab,0,none⟩) (L0.length+1) c) b∧b≠g') y:=fun y hy=>by
  rcases List.mem_append.1 hy with hy|hy
  ·refine ((hml.pvs y hy).lt.keep (fun b hb hl=>?_)).mono fun b hb=>⟨hb.1.1,?_⟩
   ·exact keep0 b hb.2 hb.1.2 fun e=>hb.1.1.2.2 (by simp [Value.ownBlock,e])
   ·rcases hloc with h|h
    ·rw [h];exact hb.1.2
    ·have:=hb.2;omega
  ·rw [List.mem_singleton] at hy;subst hy;refine (hpv.keep (fun b hb hl=>keep2 b hb.2 oq_ oq_)).mono fun b hb=>⟨⟨oq_,?_,fun e=>?_⟩,oq_⟩
   ·rintro (h|h) <;> omega
   ·simp [Value.ownBlock] at e;omega
 have hgF:RowF w.heap.size (MdA w.heap.size) (.slice (some ⟨ab,0,none⟩) (L0.length+1) c) g':=by
  refine ⟨oq_,?_,fun e=>?_⟩
  ·rintro (h|h) <;> omega
  ·simp [Value.ownBlock] at e;omega
 refine ⟨((hS.below.trans (hb2.mono hS.below.size)).trans (World.grownBy.below' hg oq_ oq_)).setCell (p:=⟨ab,L0.length,none⟩) hab.1 _,(keep0 _ oq_ oq_ oq_).trans hS.rbx,(keep0 _ oq_ oq_ oq_).trans hS.obx,?_,?_,
  .inr ⟨L0,g',cap',M ++ [x],sq_,⟨by simpa using hown',all0,pvs,hgF,sq_⟩⟩⟩
 ·have hr2:=(hrow.kept (World.grownBy.of_below hb2 none) (.inr (by simp [Value.ownBlock]))).kept hg (.inr fun e=>hgab (by simpa [Value.ownBlock] using e));have hr3:=(hr2.stored L0.length (.slice (some ⟨g',0,none⟩) (M.length+1) cap')).1;rw [List.set_append_right _ _ sq_,List.length_map,Nat.sub_self] at hr3;refine ⟨by rw [List.length_append,List.map_append (f:=Prod.fst)];exact hr3,fun y hy=>?_,hS.row.ne,by simp;have:=hS.row.len;rw [hle] at this;omega⟩;rcases List.mem_append.1 hy with hy|hy
  ·exact (all0 y hy).mono fun b hb=>hb.1
  ·rw [List.mem_singleton] at hy;subst hy;exact o5_ hown' sq_ oq_ oq_ hgF fun y hy=>(pvs y hy).mono fun b hb=>hb.1
 ·have hm:=hS.md;rw [List.map_append] at hm ⊢;have hmem:M.map PV.p∈L0.map Prod.snd ++ [((Value.slice (some ⟨g,0,none⟩) M.length cap),M.map PV.p)].map Prod.snd:=by simp
  have key:∀ {P:List Per->Prop},(∀ t∈L0.map Prod.snd ++ [((Value.slice (some ⟨g,0,none⟩) M.length cap),M.map PV.p)].map Prod.snd,P t)->P ((M ++ [x]).map PV.p)->∀ t∈L0.map Prod.snd ++ [((Value.slice (some ⟨g',0,none⟩) (M.length+1) cap'),(M ++ [x]).map PV.p)].map Prod.snd,P t:=fun h1 h2 t ht=>by
   rcases List.mem_append.1 ht with ht|ht
   ·exact h1 t (List.mem_append_left _ ht)
   ·simp only [List.map_cons,List.map_nil,List.mem_singleton] at ht;subst ht;exact h2
  refine ⟨by have:=hm.len;simp at this ⊢;omega,key hm.ne sq_,key hm.tlen tq_,key hm.fac fun p hp=>?_⟩;rw [List.map_append] at hp;rcases List.mem_append.1 hp with hp|hp
  ·exact hm.fac _ hmem p hp
  ·simp only [List.map_cons,List.map_nil,List.mem_singleton] at hp;subst hp;exact hmf
theorem ph_ (w:World) {a:Act} {K:Act->World->Prop} {Q:Exit->Act->World->Prop} (sx x:Operand)
  (ho:o.op=.call { callee:=.builtin .append,args:=#[sx,x],argTypes:=#[36,36] }) (B g cap:Nat) (M:List PV) (y:PV) (hs:a.eval sx=.slice (some ⟨g,0,none⟩) M.length cap)
  (h:w.ownsRow B 39 4 (.slice (some ⟨g,0,none⟩) M.length cap) M.length (M.flatMap PV.enc)) (blk c:Nat) (hx:a.eval x=.slice (some ⟨blk,0,none⟩) 1 c)
  (hnew:Bxx w blk #[y.h,.int .i64 y.p.frm,.int .i64 y.p.period,y.c] 39) (hone:∀ u∈y.enc,u.oneCell'=true) (hl:M.length≤1000) (hB:B≤w.heap.size)
  (k:∀ (g' cap':Nat) (w':World),w'.ownsRow B 39 4 (.slice (some ⟨g',0,none⟩) (M.length+1) cap') (M.length+1) ((M ++ [y]).flatMap PV.enc)->w.grownBy w' (some g)->(g'=g∨g'=w.heap.size)->K (a.put o.dst (.slice (some ⟨g',0,none⟩) (M.length+1) cap')) w') :
  Oper.wp Tryz.prog o a w K Q:=by
 obtain ⟨i,hi,h1,h2,h3⟩:=f1_;refine wp_append_lies w sx x 36 ho B 39 i (.agg #[.slice none 0 0,.int .i64 0,.int .i64 0,.slice none 0 0]) 4 64 Tryz.underlying36 hi h1 h2 h3 rfl oq_ _ M.length (M.flatMap PV.enc) hs h ⟨blk,0,none⟩ 1 c y.enc hx rfl ?_ hone oq_ (by unfold maxLen;omega) oq_ hB _ rfl ?_
 ·intro j u hu;have e:({ block:=blk,off:=0 }:Addr).add j=⟨blk,j,none⟩:=by
   rcases Nat.eq_zero_or_pos j with h|h
   ·subst h;simp [Addr.add]
   ·simp [Addr.add];omega
  rw [e,(hnew.cells j).1,<- hu]
  match j with
  | 0=>rfl
  | 1=>rfl
  | 2=>rfl
  | 3=>rfl
  | k+4=>rfl
 ·intro g' cap' w' hown' hgrow hloc _;exact k g' cap' w' (by rw [List.flatMap_append];simpa using hown') hgrow (hloc.imp (fun e=>(Option.some.inj e).symm) id)
theorem n6_ (v:Value) (n:Nat) (w:World) (h:e8_ w v n) :
  Calls Tryz.prog 14 #[v] w fun e w'=>∃ (m:List (List Per)) (a:Option Addr) (c:Nat),e=.returned (.agg #[.slice a m.length c])∧MixR w' (fun b=>w.heap.size≤b) (.slice a m.length c) m∧j5_ m∧Below w.heap.size w w':=by
 have HR:=hq_ h;obtain ⟨⟨a1,c1,rfl,_⟩,hn⟩:=h
 go_enter Tryz.func14,Tryz.ntmps14
 go_wp2_with fail
 have hmd0:MdS w.heap.size w (.slice none 0 0) [] ((w.alloc (.cells #[.slice none 0 0] 28)).alloc (.cells #[.slice none 0 0] 28)):=
  ⟨Ea (Ea (Er w) _) _,(Bxx.new w _ _).alloc _,Bxx.at sq_,RowT.nil _ _ _,⟨sq_,sq_,sq_,sq_⟩,.inl rfl⟩
 have HMD0:=hq_ hmd0;clear hmd0
 go_loopw [4,5,6] (fun iv _ _ wr=>∃ (i:Nat) (v:Value) (L:List (Value × List Per)),i≤9∧i≤n∧iv=.int .i64 i∧Hid (MdS w.heap.size w v L wr)) (fun iv _ _ _=>9-(intOf iv).toNat)
 case atStart=>exact ⟨0,_,[],oq_,oq_,rfl,HMD0⟩
 case round=>
  obtain ⟨i,v,L,hi9,hin,rfl,HS⟩:=hrel;obtain ⟨a2,c2,rfl,hc1,hc2,hform⟩:=HS.out.row.form;obtain ⟨wo,hwo⟩:∃ wo,wo=wr:=⟨_,rfl⟩;subst hwo;have b3:=HS.out.obx.c0;have hLl:L.length≤3:=by have h:=HS.out.md.len;rwa [List.length_map] at h
  by_cases hil:i<n
  ·have hilI:(i:Int)<n:=oq_
   by_cases hi:i<9
   ·have hiI:(i:Int)<9:=oq_;obtain ⟨⟨a1',c1',he,h3⟩,-⟩:=HR.out.ext HS.out.below;injection he with e1 e2 e3
    subst e1;subst e3;rcases h3 with h0|⟨b,o,rfl,hc⟩
    ·omega
    obtain ⟨u,l,hcell,hby⟩:=hc i hil;have hmf:=lb_ u l wo hby;have HBY:=hq_ hby;have hr0:=hby.rng0 0;have HAT:=hq_ (fun W (h:Below wo.heap.size wo W)=>t5_ u l 0 0 rfl W (hby.ext h) oq_);generalize l.getD 0 0=x0 at *;obtain ⟨⟨ua,uc,rfl,_⟩,_,_⟩:=hby;clear hc e2;rcases HS.out.last with hL|⟨L0,g,cap,M,hL,hml⟩
    ·subst hL;go_wp2_with (first|(go_at_call 55;(refine hmf.mono ?_;rintro e w1 ⟨h',c',p,rfl,ho,hwf,hfr,hpe,hb1⟩;have hpf:MFac p:=⟨hwf,hfr,hpe⟩;have hpv:=ho.pv hpf.fv;obtain ⟨ya,yn,yc,za,zn,zc,rfl,rfl⟩:=hpv.form;have HPV:=hq_ hpv;have HPF:=hq_ hpf;have hE2:Below wo.heap.size wo (w1.alloc (.cells #[.slice ya yn yc,.int .i64 p.frm,.int .i64 p.period,.slice za zn zc] 39)):=Ea hb1 _;have hS2:=HS.out.ext (Nat.le_refl _) hE2;have d3:=hS2.obx.cells 0;have k4:=Ext.cell hE2 hcell;have HW1:=hq_ hb1.size;have HE2:=hq_ hE2;have HS2:=hq_ hS2;have HPV2:=hq_ ((hpv.keep (a5_.below (Ea (Er w1) (.cells #[.slice ya yn yc,.int .i64 p.frm,.int .i64 p.period,.slice za zn zc] 39)))).mono (G:=fun b=>wo.heap.size≤b∧b<(w1.alloc (.cells #[.slice ya yn yc,.int .i64 p.frm,.int .i64 p.period,.slice za zn zc] 39)).heap.size) fun b hb=>⟨hb.1,by rw [World.size_alloc];have:=hb.2;omega⟩);clear ho hwf hfr hpe hpf hpv hE2 hS2 hb1))|(at_builtin;(refine de_ rq_ _ _ rq_ w.heap.size (MdA w.heap.size) (.slice a2 ([]:List (Value × List Per)).length c2) ([]:List (Value × List Per)) (.slice (some ⟨w1.heap.size+1,0,none⟩) 1 1,[p]) rq_ (HS2.out.row.below (Ea (Ea (Er _) _) _)) (n5_ (x:=⟨_,_,p⟩) sq_ HS.out HE2.out HPV2.out) _ _ rq_ (Bxx.at (c:=#[.slice (some ⟨w1.heap.size+1,0,none⟩) 1 1]) (t:=36) sq_).c0 (by have h7:=HS2.out.obx.lt;rw [World.size_alloc] at h7;rintro (h|h) <;> simp at h <;> omega) (by simp;try omega) (by have h7:=HS2.out.obx.lt;rw [World.size_alloc] at h7;simp;omega) ?_;intro ga gc w8 hr8 hg8 hb8 hbo8;have hx8:=((HS2.out.obx.alloc _).alloc _).grown hg8 (fun e=>HS.out.row.ne _ e.symm (.inr rfl));have d8:=hx8.cells 0;have HR8:=hq_ hr8;have HG8:=hq_ hg8;have HB8:=hq_ hb8;have HBO8:=hq_ hbo8;clear hx8 hr8 hg8 hb8 hbo8)))
     go_roundw
     case rel=>exact ⟨i+1,.slice ga (([]:List (Value × List Per)).length+1) gc,[] ++ [(.slice (some ⟨w1.heap.size+1,0,none⟩) 1 1,[p])],oq_,oq_,by go_num,hq_ (MdS.new (x:=⟨_,_,p⟩) sq_ HS.out HE2.out HPV2.out HPF.out sq_ HR8.out HG8.out HB8.out (by have h:=HBO8.out;simp only [World.size_alloc] at h;exact h))⟩
     case measure=>simp [intOf];omega
    ·subst hL;have hle:(L0 ++ [((Value.slice (some ⟨g,0,none⟩) M.length cap),M.map PV.p)]).length=L0.length+1:=by simp
     obtain ⟨ab,rfl⟩:∃ ab,a2=some ⟨ab,0,none⟩:=hform.resolve_left (by rw [hle];omega);have hgc:wo.cell? ⟨ab,L0.length,none⟩=some (.slice (some ⟨g,0,none⟩) M.length cap):=by
      have h9:=(HS.out.row.get rfl (k:=L0.length) (by rw [hle];omega)).2.1;rw [h9];simp
     have hM1:=hml.len;have HML:=hq_ hml;rw [hle] at b3 hLl;clear hml hform;have HLE:=hq_ hle;go_upto_region 7 with (go_at_call 55;(refine hmf.mono ?_;rintro e w1 ⟨h',c',p,rfl,ho,hwf,hfr,hpe,hb1⟩;have hpf:MFac p:=⟨hwf,hfr,hpe⟩;have hpv:=ho.pv hpf.fv;obtain ⟨ya,yn,yc,za,zn,zc,rfl,rfl⟩:=hpv.form;have HPV:=hq_ hpv;have HPF:=hq_ hpf;have hE2:Below wo.heap.size wo (w1.alloc (.cells #[.slice ya yn yc,.int .i64 p.frm,.int .i64 p.period,.slice za zn zc] 39)):=Ea hb1 _;have hS2:=HS.out.ext (Nat.le_refl _) hE2;have d3:=hS2.obx.cells 0;have k4:=Ext.cell hE2 hcell;have HW1:=hq_ hb1.size;have HE2:=hq_ hE2;have HS2:=hq_ hS2;have HPV2:=hq_ ((hpv.keep (a5_.below (Ea (Er w1) (.cells #[.slice ya yn yc,.int .i64 p.frm,.int .i64 p.period,.slice za zn zc] 39)))).mono (G:=fun b=>wo.heap.size≤b∧b<(w1.alloc (.cells #[.slice ya yn yc,.int .i64 p.frm,.int .i64 p.period,.slice za zn zc] 39)).heap.size) fun b hb=>⟨hb.1,by rw [World.size_alloc];have:=hb.2;omega⟩);clear ho hwf hfr hpe hpf hpv hE2 hS2 hb1))
     refine Code.wp_mono (Q:=fun e a' W'=>e=.normal∧(∃ (cnd:Bool) (z26 z27 z28 z29 z30 z31 z32 z33 z34 z35 z36 z37 z38 z39 z40 z41 z42 z43 z44 z45 z46 z47 z48:Value),a'=⟨#[.slice (some ⟨b,o,none⟩) n c1,undef,.pointer (some ⟨w.heap.size,0,none⟩),.pointer (some ⟨w.heap.size+1,0,none⟩),.int .i64 ↑i,.int .i64 (↑L0.length+1),.pointer (some ⟨w1.heap.size,0,none⟩),.agg #[.slice none 0 0],.int .i64 ↑i,.slice (some ⟨b,o,none⟩) n c1,.int .i64 ↑n,.bool true,.bool true,.int .i64 ↑i,.bool true,.bool true,u16,u17,.pointer (some ⟨w.heap.size+1,0,none⟩),.slice (some ⟨ab,0,none⟩) (L0.length+1) c2,.int .i64 (↑L0.length+1),.slice (some ⟨b,o,none⟩) n c1,.int .i64 ↑i,.pointer (some ⟨b,o+i,none⟩),.slice ua l.length uc,perV (.slice ya yn yc) (.slice za zn zc) p.frm p.period,z26,z27,z28,z29,z30,z31,z32,z33,z34,z35,z36,z37,z38,z39,z40,z41,z42,z43,z44,z45,z46,z47,z48,.bool cnd,u50,u51,u52,u53,u54,u55,u56,u57,u58,u59,u60,u61,u62,u63,u64,u65,u66,u67,u68,u69,u70,u71,u72,undef],[]⟩∧(cnd=true->M.length<3))∧Below (w1.alloc (.cells #[.slice ya yn yc,.int .i64 p.frm,.int .i64 p.period,.slice za zn zc] 39)).heap.size (w1.alloc (.cells #[.slice ya yn yc,.int .i64 p.frm,.int .i64 p.period,.slice za zn zc] 39)) W') ?imp ?reg
     case reg=>
      by_cases hM:M.length<3
      ·have hMI:(M.length:Int)<3:=oq_;go_wp2_with (go_at_call 56;(refine (HAT.out _ HE2.out).mono ?_;rintro e w3 ⟨rfl,hb3⟩;have e3:=(HS2.out.ext (Nat.le_refl _) hb3).obx.c0;rw [hle] at e3;have f3:=Ext.cell (Et HE2.out hb3) hgc))
       all_goals exact hb3.mono sq_
      ·have hMI:¬ (M.length:Int)<3:=oq_;go_wp2_with (go_at_call 56;(refine (HAT.out _ HE2.out).mono ?_;rintro e w3 ⟨rfl,hb3⟩;have e3:=(HS2.out.ext (Nat.le_refl _) hb3).obx.c0;rw [hle] at e3;have f3:=Ext.cell (Et HE2.out hb3) hgc))
       all_goals exact hb3.mono sq_
     case imp=>
      rintro e a' w3 ⟨rfl,⟨cnd,z26,z27,z28,z29,z30,z31,z32,z33,z34,z35,z36,z37,z38,z39,z40,z41,z42,z43,z44,z45,z46,z47,z48,rfl,hM⟩,hb3⟩;have HE3:=hq_ (Et HE2.out hb3);have hS3:=HS2.out.ext (Nat.le_refl _) hb3;have HS3:=hq_ hS3;have e3:=hS3.obx.cells 0;rw [hle] at e3;have f3:=Ext.cell HE3.out hgc;have hpb:=(Bxx.new w1 #[.slice ya yn yc,.int .i64 p.frm,.int .i64 p.period,.slice za zn zc] 39).below hb3;have p0:=(hpb.cells 0).1;have p1:=(hpb.cells 1).1;have p2:=(hpb.cells 2).1;have p3:=(hpb.cells 3).1;have HPV3:=hq_ ((HPV2.out.keep (a5_.below hb3)).mono (G:=fun b=>wo.heap.size≤b∧b<w3.heap.size) fun b hb=>⟨hb.1,Nat.lt_of_lt_of_le hb.2 hb3.size⟩);have hw13:w1.heap.size<w3.heap.size:=by have:=hb3.size;rw [World.size_alloc] at this;omega
      clear hS3 hb3 hpb;cases cnd
      ·by_cases h3:L0.length+1<3
       ·have h3I:(L0.length:Int)+1<3:=oq_;go_wp2_with (at_builtin;(refine de_ rq_ _ _ rq_ w.heap.size (MdA w.heap.size) (.slice (some ⟨ab,0,none⟩) (L0 ++ [((Value.slice (some ⟨g,0,none⟩) M.length cap),M.map PV.p)]).length c2) (L0 ++ [((Value.slice (some ⟨g,0,none⟩) M.length cap),M.map PV.p)]) (.slice (some ⟨w3.heap.size,0,none⟩) 1 1,[p]) (by rw [hle];rfl) (HS3.out.row.below (Ea (Ea (Er _) _) _)) (n5_ (x:=⟨_,_,p⟩) rfl HS.out HE3.out HPV3.out) _ _ rq_ (Bxx.at (c:=#[.slice (some ⟨w3.heap.size,0,none⟩) 1 1]) (t:=36) sq_).c0 (by have h7:=HS3.out.obx.lt;rintro (h|h) <;> simp at h <;> omega) (by simp;try omega) (by have h7:=HS3.out.obx.lt;simp;omega) ?_;intro ga gc w8 hr8 hg8 hb8 hbo8;have hx8:=((HS3.out.obx.alloc _).alloc _).grown hg8 (fun e=>HS.out.row.ne _ e.symm (.inr rfl));have d8:=hx8.cells 0;have HR8:=hq_ hr8;have HG8:=hq_ hg8;have HB8:=hq_ hb8;have HBO8:=hq_ hbo8;clear hx8 hr8 hg8 hb8 hbo8))
        go_roundw
        case rel=>
         have h9:=MdS.new (x:=⟨_,_,p⟩) rfl HS.out HE3.out HPV3.out HPF.out (by rw [hle];omega) HR8.out HG8.out HB8.out (by have h:=HBO8.out;simp only [World.size_alloc] at h;exact h);rw [hle] at h9;exact ⟨i+1,_,_,oq_,oq_,by go_num,hq_ h9⟩
        case measure=>simp [intOf];omega
       ·have h3I:¬ (L0.length:Int)+1<3:=oq_;go_wp2_with fail
        go_roundw
        case rel=>
         have h9:=HS3.out;rw [hle] at h9;exact ⟨i+1,_,_,oq_,oq_,by go_num,hq_ h9⟩
        case measure=>simp [intOf];omega
      ·have HM:=hq_ (hM rfl);clear hM;go_wp2_with fail
       have e3':w3.cell? ⟨w.heap.size+1,0,none⟩=some (.slice (some ⟨ab,0,none⟩) (L0.length+1) c2):=e3.1;have hml:=HML.out;have hgB1:some (w.heap.size+1)≠some g:=fun e=>hml.g.2.1 (.inr (Option.some.inj e).symm);have hgab:some ab≠some g:=fun e=>hml.g.2.2 e;have hgl:=(hml.own.lt g rfl).2;have hsz2:=HE2.out.size;have hw1l:wo.heap.size≤w1.heap.size:=HW1.out;have hgw1:some w1.heap.size≠some g:=fun e=>by have:=Option.some.inj e;omega
       have HOW:=hq_ (fun W (h:Below w3.heap.size w3 W)=>((hml.ext HE3.out).ext h).own);have hbz3:w.heap.size≤w3.heap.size:=by have:=HS3.out.obx.lt;omega
       have hgl3:g<w3.heap.size:=by have:=HE3.out.size;omega
       clear hml;refine i1_ (w0:=w3) (some g) 12 [0,1,2,3,4,5,6,7,8,9,10,11,12,13] [14] (fun v=>⟨#[.slice (some ⟨b,o,none⟩) n c1,undef,.pointer (some ⟨w.heap.size,0,none⟩),.pointer (some ⟨w.heap.size+1,0,none⟩),.int .i64 ↑i,.int .i64 (↑L0.length+1),.pointer (some ⟨w1.heap.size,0,none⟩),.agg #[.slice none 0 0],.int .i64 ↑i,.slice (some ⟨b,o,none⟩) n c1,.int .i64 ↑n,.bool true,.bool true,.int .i64 ↑i,.bool true,.bool true,u16,u17,.pointer (some ⟨w.heap.size+1,0,none⟩),.slice (some ⟨ab,0,none⟩) (L0.length+1) c2,.int .i64 (↑L0.length+1),.slice (some ⟨b,o,none⟩) n c1,.int .i64 ↑i,.pointer (some ⟨b,o+i,none⟩),.slice ua l.length uc,perV (.slice ya yn yc) (.slice za zn zc) p.frm p.period,z26,z27,z28,z29,z30,z31,z32,z33,z34,z35,z36,z37,z38,z39,z40,z41,z42,z43,z44,z45,z46,z47,z48,.bool true,v 0,v 1,v 2,v 3,v 4,v 5,v 6,v 7,v 8,v 9,v 10,v 11,v 12,v 13,u64,u65,u66,u67,u68,u69,u70,u71,u72,undef],[]⟩) (fun j=>match j with|0=>u50|1=>u51|2=>u52|3=>u53|4=>u54|5=>u55|6=>u56|7=>u57|8=>u58|9=>u59|10=>u60|11=>u61|12=>u62|13=>u63|_=>undef)
        (fun i v lo hi W=>match i with
         | 0=>v 0=.pointer (some ⟨w.heap.size+1,0,none⟩)
         | 1=>v 1=.slice (some ⟨ab,0,none⟩) (L0.length+1) c2
         | 2=>v 2=.int .i64 (L0.length+1)
         | 3=>v 3=.int .i64 L0.length
         | 4=>v 4=.pointer (some ⟨w.heap.size+1,0,none⟩)
         | 5=>v 5=.slice (some ⟨ab,0,none⟩) (L0.length+1) c2
         | 6=>v 6=.int .i64 (L0.length+1)
         | 7=>v 7=.int .i64 L0.length
         | 8=>v 8=.pointer (some ⟨ab,L0.length,none⟩)
         | 9=>v 9=.slice (some ⟨g,0,none⟩) M.length cap
         | 10=>v 10=perV (.slice ya yn yc) (.slice za zn zc) p.frm p.period
         | 11=>v 11=.slice (some ⟨lo 11,0,none⟩) 1 1∧lo 11<hi 11∧w3.heap.size≤lo 11∧hi 11≤W.heap.size∧Bxx W (lo 11) #[.slice ya yn yc,.int .i64 p.frm,.int .i64 p.period,.slice za zn zc] 39
         | 12=>∃ g' cap',v 12=.slice (some ⟨g',0,none⟩) (M.length+1) cap'∧W.ownsRow w.heap.size 39 4 (.slice (some ⟨g',0,none⟩) (M.length+1) cap') (M.length+1) ((M ++ [(⟨.slice ya yn yc,.slice za zn zc,p⟩:PV)]).flatMap PV.enc)∧(g'=g∨w3.heap.size≤g')
         | 13=>v 13=.pointer (some ⟨ab,L0.length,none⟩)
         | _=>True)
        (fun W=>W.cell? ⟨w.heap.size+1,0,none⟩=some (.slice (some ⟨ab,0,none⟩) (L0.length+1) c2)∧W.cell? ⟨ab,L0.length,none⟩=some (.slice (some ⟨g,0,none⟩) M.length cap)∧W.cell? ⟨w1.heap.size,0,none⟩=some (.slice ya yn yc)∧W.cell? ⟨w1.heap.size,1,none⟩=some (.int .i64 p.frm)∧W.cell? ⟨w1.heap.size,2,none⟩=some (.int .i64 p.period)∧W.cell? ⟨w1.heap.size,3,none⟩=some (.slice za zn zc)) rfl (by kernel_rfl) dq_ rfl ?stab ?loc (fun W hb=>⟨hb.cell e3' hgB1,hb.cell f3 hgab,hb.cell p0 hgw1,hb.cell p1 hgw1,hb.cell p2 hgw1,hb.cell p3 hgw1⟩) ?steps ?fin
       case stab=>
        rintro (_|_|_|_|_|_|_|_|_|_|_|_|_|_|i) v lo hi W W' h hb
        ·exact h
        ·exact h
        ·exact h
        ·exact h
        ·exact h
        ·exact h
        ·exact h
        ·exact h
        ·exact h
        ·exact h
        ·exact h
        ·rw [if_neg dq_] at hb;exact ⟨h.1,h.2.1,h.2.2.1,Nat.le_trans h.2.2.2.1 hb.size,(hb.block (lo 11) (by have:=h.2.1;have:=h.2.2.2.1;omega) (fun e=>by have h7:lo 11=g:=Option.some.inj e;have:=h.2.2.1;omega)).trans h.2.2.2.2⟩
        ·rw [if_pos rfl] at hb;exact (let ⟨g',cap',e,ho,hl⟩:=h;⟨g',cap',e,ho.kept (row:=none) (World.grownBy.of_below hb _) (by right;simp [Value.ownBlock]),hl⟩)
        ·exact h
        ·trivial
       case loc=>
        rintro (_|_|_|_|_|_|_|_|_|_|_|_|_|_|i) v v' lo lo' hi hi' W hag h
        ·exact (hag 0 (.inl rfl)).1 ▸ h
        ·exact (hag 1 (.inl rfl)).1 ▸ h
        ·exact (hag 2 (.inl rfl)).1 ▸ h
        ·exact (hag 3 (.inl rfl)).1 ▸ h
        ·exact (hag 4 (.inl rfl)).1 ▸ h
        ·exact (hag 5 (.inl rfl)).1 ▸ h
        ·exact (hag 6 (.inl rfl)).1 ▸ h
        ·exact (hag 7 (.inl rfl)).1 ▸ h
        ·exact (hag 8 (.inl rfl)).1 ▸ h
        ·exact (hag 9 (.inl rfl)).1 ▸ h
        ·exact (hag 10 (.inl rfl)).1 ▸ h
        ·have q:=hag 11 (.inl rfl);have q10:=hag 10 (.inr (Rdp (by kernel_rfl)))
         (try dsimp only at h ⊢);(try simp only [q.1,q.2.1,q.2.2,q10.1,q10.2.1,q10.2.2] at h);exact h
        ·have q:=hag 12 (.inl rfl);have q9:=hag 9 (.inr (Rdp (by kernel_rfl)));have q11:=hag 11 (.inr (Rdp (by kernel_rfl)))
         (try dsimp only at h ⊢);(try simp only [q.1,q.2.1,q.2.2,q9.1,q9.2.1,q9.2.2,q11.1,q11.2.1,q11.2.2] at h);exact h
        ·exact (hag 13 (.inl rfl)).1 ▸ h
        ·trivial
       case steps=>
        refine an_.cons rfl ?_ (an_.cons rfl ?_ (an_.cons rfl ?_ (an_.cons rfl ?_ (an_.cons rfl ?_ (an_.cons rfl ?_ (an_.cons rfl ?_ (an_.cons rfl ?_ (an_.cons rfl ?_ (an_.cons rfl ?_ (an_.cons rfl ?_ (an_.cons rfl ?_ (an_.cons rfl ?_ (an_.cons rfl ?_ an_.nil)))))))))))))
        ·rintro v lo hi W hb hkx ⟨g0,g1,g2,g3,g4,g5⟩ hd K hK;replace hK:=fun x W' (h:Below W.heap.size W W')=>hK x W' (by rw [if_neg dq_];exact h);clear hkx;clear hd;dsimp only;go_wp2_with fail
         exact acx (hK (.pointer (some ⟨w.heap.size+1,0,none⟩)) W (Below.refl _ _) rfl) sq_
        ·rintro v lo hi W hb hkx ⟨g0,g1,g2,g3,g4,g5⟩ hd K hK;replace hK:=fun x W' (h:Below W.heap.size W W')=>hK x W' (by rw [if_neg dq_];exact h);clear hkx;have e0:v 0=.pointer (some ⟨w.heap.size+1,0,none⟩):=(hd 0 (Rdp (by kernel_rfl))).2.2;clear hd;dsimp only
         (try simp only [e0])
         go_wp2_with fail
         exact acx (hK (.slice (some ⟨ab,0,none⟩) (L0.length+1) c2) W (Below.refl _ _) rfl) (by simp [e0])
        ·rintro v lo hi W hb hkx ⟨g0,g1,g2,g3,g4,g5⟩ hd K hK;replace hK:=fun x W' (h:Below W.heap.size W W')=>hK x W' (by rw [if_neg dq_];exact h);clear hkx;clear hd;dsimp only;go_wp2_with fail
         exact acx (hK (.int .i64 (L0.length+1)) W (Below.refl _ _) rfl) sq_
        ·rintro v lo hi W hb hkx ⟨g0,g1,g2,g3,g4,g5⟩ hd K hK;replace hK:=fun x W' (h:Below W.heap.size W W')=>hK x W' (by rw [if_neg dq_];exact h);clear hkx;have e2:v 2=.int .i64 (L0.length+1):=(hd 2 (Rdp (by kernel_rfl))).2.2;clear hd;dsimp only
         (try simp only [e2])
         go_wp2_with fail
         exact acx (hK (.int .i64 L0.length) W (Below.refl _ _) rfl) (by simp [e2])
        ·rintro v lo hi W hb hkx ⟨g0,g1,g2,g3,g4,g5⟩ hd K hK;replace hK:=fun x W' (h:Below W.heap.size W W')=>hK x W' (by rw [if_neg dq_];exact h);clear hkx;clear hd;dsimp only;go_wp2_with fail
         exact acx (hK (.pointer (some ⟨w.heap.size+1,0,none⟩)) W (Below.refl _ _) rfl) sq_
        ·rintro v lo hi W hb hkx ⟨g0,g1,g2,g3,g4,g5⟩ hd K hK;replace hK:=fun x W' (h:Below W.heap.size W W')=>hK x W' (by rw [if_neg dq_];exact h);clear hkx;have e4:v 4=.pointer (some ⟨w.heap.size+1,0,none⟩):=(hd 4 (Rdp (by kernel_rfl))).2.2;clear hd;dsimp only
         (try simp only [e4])
         go_wp2_with fail
         exact acx (hK (.slice (some ⟨ab,0,none⟩) (L0.length+1) c2) W (Below.refl _ _) rfl) (by simp [e4])
        ·rintro v lo hi W hb hkx ⟨g0,g1,g2,g3,g4,g5⟩ hd K hK;replace hK:=fun x W' (h:Below W.heap.size W W')=>hK x W' (by rw [if_neg dq_];exact h);clear hkx;clear hd;dsimp only;go_wp2_with fail
         exact acx (hK (.int .i64 (L0.length+1)) W (Below.refl _ _) rfl) sq_
        ·rintro v lo hi W hb hkx ⟨g0,g1,g2,g3,g4,g5⟩ hd K hK;replace hK:=fun x W' (h:Below W.heap.size W W')=>hK x W' (by rw [if_neg dq_];exact h);clear hkx;have e6:v 6=.int .i64 (L0.length+1):=(hd 6 (Rdp (by kernel_rfl))).2.2;clear hd;dsimp only
         (try simp only [e6])
         go_wp2_with fail
         exact acx (hK (.int .i64 L0.length) W (Below.refl _ _) rfl) (by simp [e6])
        ·rintro v lo hi W hb hkx ⟨g0,g1,g2,g3,g4,g5⟩ hd K hK;replace hK:=fun x W' (h:Below W.heap.size W W')=>hK x W' (by rw [if_neg dq_];exact h);clear hkx;have e5:v 5=.slice (some ⟨ab,0,none⟩) (L0.length+1) c2:=(hd 5 (Rdp (by kernel_rfl))).2.2;have e7:v 7=.int .i64 L0.length:=(hd 7 (Rdp (by kernel_rfl))).2.2;clear hd;dsimp only
         (try simp only [e5,e7])
         go_wp2_with fail
         exact acx (hK (.pointer (some ⟨ab,L0.length,none⟩)) W (Below.refl _ _) rfl) (by simp [e5,e7])
        ·rintro v lo hi W hb hkx ⟨g0,g1,g2,g3,g4,g5⟩ hd K hK;replace hK:=fun x W' (h:Below W.heap.size W W')=>hK x W' (by rw [if_neg dq_];exact h);clear hkx;have e8:v 8=.pointer (some ⟨ab,L0.length,none⟩):=(hd 8 (Rdp (by kernel_rfl))).2.2;clear hd;dsimp only
         (try simp only [e8])
         go_wp2_with fail
         exact acx (hK (.slice (some ⟨g,0,none⟩) M.length cap) W (Below.refl _ _) rfl) (by simp [e8])
        ·rintro v lo hi W hb hkx ⟨g0,g1,g2,g3,g4,g5⟩ hd K hK;replace hK:=fun x W' (h:Below W.heap.size W W')=>hK x W' (by rw [if_neg dq_];exact h);clear hkx;clear hd;dsimp only;go_wp2_with fail
         exact acx (hK (perV (.slice ya yn yc) (.slice za zn zc) p.frm p.period) W (Below.refl _ _) rfl) (by simp [ite_true])
        ·rintro v lo hi W hb hkx ⟨g0,g1,g2,g3,g4,g5⟩ hd K hK;replace hK:=fun x W' (h:Below W.heap.size W W')=>hK x W' (by rw [if_neg dq_];exact h);clear hkx;have e10:v 10=perV (.slice ya yn yc) (.slice za zn zc) p.frm p.period:=(hd 10 (Rdp (by kernel_rfl))).2.2;clear hd;dsimp only
         (try simp only [e10])
         go_wp2_with fail
         exact acx (hK (.slice (some ⟨W.heap.size,0,none⟩) 1 1) _ (Ea (Er _) _) ⟨rfl,sq_,hb.size,sq_,Bxx.new _ _ _⟩) (by simp [e10])
        ·rintro v lo hi W hb hkx ⟨g0,g1,g2,g3,g4,g5⟩ hd K hK;replace hK:=fun x W' (h:W.grownBy W' (some g))=>hK x W' (by rw [if_pos rfl];exact h);replace hkx:=hkx rfl;have e9:v 9=.slice (some ⟨g,0,none⟩) M.length cap:=(hd 9 (Rdp (by kernel_rfl))).2.2;obtain ⟨la11,lb11,D11⟩:=hd 11 (Rdp (by kernel_rfl));clear hd;dsimp only
         (try simp only [e9])
         obtain ⟨e11,h11a,h11b,h11c,h11d⟩:=D11;refine ph_ W _ _ rq_ w.heap.size g cap M ⟨.slice ya yn yc,.slice za zn zc,p⟩ (by first|rfl|exact e9) (HOW.out _ hkx) (lo 11) 1 (by first|exact e11|(simp [e11];done)) h11d (PV.enc_one _ rfl rfl) (by have:=HM.out;omega) (by have h8:=hkx.size;omega) ?_;intro g' cap' w9 hown9 hgrow9 hloc9;exact acx (hK (.slice (some ⟨g',0,none⟩) (M.length+1) cap') w9 hgrow9 ⟨g',cap',rfl,hown9,hloc9.imp id (fun e=>by rw [e];exact hb.size)⟩) (by simp only [e9];rfl)
        ·rintro v lo hi W hb hkx ⟨g0,g1,g2,g3,g4,g5⟩ hd K hK;replace hK:=fun x W' (h:Below W.heap.size W W')=>hK x W' (by rw [if_neg dq_];exact h);clear hkx;have e1:v 1=.slice (some ⟨ab,0,none⟩) (L0.length+1) c2:=(hd 1 (Rdp (by kernel_rfl))).2.2;have e3:v 3=.int .i64 L0.length:=(hd 3 (Rdp (by kernel_rfl))).2.2;clear hd;dsimp only
         (try simp only [e1,e3])
         go_wp2_with fail
         exact acx (hK (.pointer (some ⟨ab,L0.length,none⟩)) W (Below.refl _ _) rfl) (by simp [e1,e3])
       case fin=>
        rintro v lo hi9' W9 hg9 ⟨g0,g1,-,-,-,-⟩ hf hap;show wpList _ _ _ [_] _ _;have e13:v 13=.pointer (some ⟨ab,L0.length,none⟩):=(hf 13 rfl).2.2.2;obtain ⟨-,-,-,g',cap',e12,hown9,hloc9⟩:=hf 12 rfl;clear hf hap;dsimp only;rw [e13,e12];clear e12 e13;have hrw:=HS3.out.row.row;have fz:W9.frozen? ⟨ab,L0.length,none⟩=false:=(hg9.frozen_far _ (hrw.lt ab rfl).2 hgab).trans (hrw.frozenAt L0.length);have HG9:=hq_ hg9;have HOWN9:=hq_ hown9;have HLOC9:=hq_ hloc9;clear hrw hg9 hown9 hloc9;generalize v 0=z0,v 1=z1,v 2=z2,v 3=z3,v 4=z4,v 5=z5,v 6=z6,v 7=z7,v 8=z8,v 9=z9,v 10=z10,v 11=z11;go_wp2_with fail
        go_roundw
        case rel=>
         have h8:=HS.out;have h7:=HML.out;rw [hle] at h8 h7;exact ⟨i+1,_,_,oq_,oq_,by go_num,hq_ (MdS.more h8 h7 HE3.out HPV3.out HPF.out HM.out HG9.out HOWN9.out HLOC9.out)⟩
        case measure=>simp [intOf];omega
   ·obtain rfl:i=9:=oq_;have r2:=HS.out.rbx.cells 0;go_wp2_with fail
    have hset:=HS.out.row.box (World.grownBy.set' (i:=0) ⟨rfl,rfl,rfl,Nat.le_refl _,fun _ _ _=>rfl⟩ (.slice a2 L.length c2)) (.inl rfl);have hcc:=Bxx.c0 (a4_ 0 (.slice a2 L.length c2) HS.out.rbx);exact bodyPost_ret (v:=.agg #[.slice a2 L.length c2]) (by simp [results,Tryz.results14,go_sem,hcc]) rfl ⟨L.map Prod.snd,a2,c2,by rw [List.length_map],⟨L,rfl,by rw [List.length_map];exact hset.mix⟩,HS.out.md,HS.out.below.setCell (p:=⟨w.heap.size,0,none⟩) (Nat.le_refl _) _⟩
  ·obtain rfl:i=n:=oq_;have r2:=HS.out.rbx.cells 0;go_wp2_with fail
   have hset:=HS.out.row.box (World.grownBy.set' (i:=0) ⟨rfl,rfl,rfl,Nat.le_refl _,fun _ _ _=>rfl⟩ (.slice a2 L.length c2)) (.inl rfl);have hcc:=Bxx.c0 (a4_ 0 (.slice a2 L.length c2) HS.out.rbx);exact bodyPost_ret (v:=.agg #[.slice a2 L.length c2]) (by simp [results,Tryz.results14,go_sem,hcc]) rfl ⟨L.map Prod.snd,a2,c2,by rw [List.length_map],⟨L,rfl,by rw [List.length_map];exact hset.mix⟩,HS.out.md,HS.out.below.setCell (p:=⟨w.heap.size,0,none⟩) (Nat.le_refl _) _⟩
end Go.Proofs.YthjnojbeimchdaaGreat
end
namespace Go.Proofs.YthjnojbeimchdaaGreat
open Go.ChangeShapes Go.WideShapes Go.ChangeAt Go.RowKit Go.Joins Kal
section
variable {H:Type} {enc:TypeId × Value->H} {w:World} {base:Nat} {spare:Nat->Bool} {held:Bool}
theorem ma_ {r:Reach} {b0:Nat} {v:Value} {d:DataW H} {p:List MemPlace} (hv:Value.okWide Tryz.prog w r b0 22 v) (h:DataW.Trod enc Tryz.prog w base spare held 22 v d p):∃ n,e8_ w v n:=by
 obtain ⟨a,len,cap,rfl⟩:=okWide_slice Tryz.underlying22 hv;obtain ⟨fuel,hf⟩:=h;have hf:DataW.trod enc Tryz.prog w base spare held fuel 22 [.slice a len cap]=some (d,p):=hf;rcases Go.Deep.open_slice1 Tryz.underlying22 (by kernel_rfl) hf with ⟨hcs,_⟩|⟨a',len',cap',m,n,V,D,Pl,hcs,_,hl,hm,hmm,_,hx⟩
 ·simp only [List.cons.injEq,Value.slice.injEq,and_true] at hcs;obtain ⟨rfl,rfl,rfl⟩:=hcs;exact ⟨0,⟨none,0,rfl,.inl rfl⟩,oq_⟩
 ·simp only [List.cons.injEq,Value.slice.injEq,and_true] at hcs;obtain ⟨rfl,rfl,rfl⟩:=hcs;have hlm:len≤m:=by rw [hmm];split <;> omega
  refine ⟨len,⟨some a',cap,rfl,?_⟩,by unfold maxLen at hm;omega⟩
  by_cases h0:len=0
  ·exact .inl h0
  ·refine .inr ?_;obtain ⟨b,off,spot⟩:=a';have hc:=(hx 0 oq_).1;have hspot:spot=none:=by simpa [Addr.add] using World.cell?_spot hc
   subst hspot;refine ⟨b,off,rfl,fun i hi=>?_⟩;obtain ⟨h1,h2⟩:=hx i oq_;obtain ⟨l,hb⟩:=vh_ h2;have e2:(⟨b,off,none⟩:Addr).add i=⟨b,off+i,none⟩:=by
    rcases Nat.eq_zero_or_pos i with h|h
    ·subst h;simp [Addr.add]
    ·simp [Addr.add];omega
   rw [e2] at h1;exact ⟨V i,l,h1,hb⟩
end
end Go.Proofs.YthjnojbeimchdaaGreat
section
variable {a d f lo op s x y:Int}{m:List (List Kal.Per)}{X l:List Int}{L:List Go.Proofs.YthjnojbeimchdaaGreat.PV}{B base c cap g i j k ob:Nat}{o:Go.Oper}{p:Kal.Per}{hv v:Go.Value}{W W' W2 w:Go.World}
namespace Go.Proofs.YthjnojbeimchdaaGreat
open Go.RowKit Go.Maps Kal
theorem le_ (v:Value) (l:List Int) (x:Int) (w:World) (hv:Ints w v l) :
  Calls Tryz.prog 144 #[v,.int .i64 x] w fun e w'=>e=.returned (.bool (decide (x∈l)))∧w=w':=by
 obtain ⟨⟨a,c,rfl,hlc,hc,hcells⟩,hlen,hb⟩:=hv
 go_enter Tryz.func144,Tryz.ntmps144
 go_wp2_with fail
 go_loop [5] (fun i=>∃ k:Nat,k≤l.length∧i=.int .i64 k∧x ∉ l.take k) (fun i=>l.length-(intOf i).toNat)
 case atStart=>exact ⟨0,oq_,rfl,sq_⟩
 case round=>
  obtain ⟨k,hk,rfl,hno⟩:=hrel;have HNO:=hq_ hno;clear hno
  by_cases hlt:k<l.length
  ·rcases hcells with h|⟨b,o,rfl,hcell⟩
   ·rw [h] at hlt;simp at hlt
   have hcl:=hcell k hlt;have hlI:(k:Int)<l.length:=oq_;have hts:l.take (k+1)=l.take k ++ [l.getD k 0]:=by rw [List.take_succ_eq_append_getElem hlt,List.getD_eq_getElem?_getD,List.getElem?_eq_getElem hlt];rfl
   have HTS:=hq_ hts;have HM:=hq_ (ah_ hlt);clear hts hcell;generalize l.getD k 0=y at *
   by_cases hyx:y=x
   ·have hyb:(y == x)=true:=by simp [hyx]
    have HYX:=hq_ hyx;clear hyx;go_wp2_with fail
    go_ret;exact ⟨ac_ (by rw [decide_eq_true];rw [<- HYX.out];exact HM.out),rfl⟩
   ·have hyb:(y == x)=false:=by simp [hyx]
    have HYX:=hq_ hyx;clear hyx;go_wp2_with fail
    go_round
    case rel=>exact ⟨k+1,oq_,by go_num,by
     rw [HTS.out,List.mem_append];rintro (h|h)
     ·exact HNO.out h
     ·rw [List.mem_singleton] at h;exact HYX.out h.symm⟩
    case measure=>simp [intOf];omega
  ·obtain rfl:k=l.length:=oq_;go_wp2_with fail
   go_ret;exact ⟨ac_ (by rw [decide_eq_false];have h:=HNO.out;rwa [List.take_length] at h),rfl⟩
theorem jq_ (v:Value) (l:List Int) (lim:Int) (w:World) (hv:Ints w v l) :
  Calls Tryz.prog 104 #[v,.int .i64 lim] w fun e w'=>e=.returned (.bool (b7_ (-1) lim l))∧∃ n,w'=w.drewN n:=by
 obtain ⟨⟨a,c,rfl,hlc,hc,hcells⟩,hlen,hb⟩:=hv
 go_enter Tryz.func104,Tryz.ntmps104
 go_wp2_with fail
 go_loopw [5] (fun i wr=>∃ (k:Nat) (pv:Int),k≤l.length∧i=.int .i64 k∧((k=0∧pv=-1)∨(1≤k∧pv=l.getD (k-1) 0∧0≤pv))∧b7_ (-1) lim l=b7_ pv lim (l.drop k)∧∃ n,wr=w.drewN n) (fun i _=>l.length-(intOf i).toNat)
 case atStart=>exact ⟨0,-1,oq_,rfl,.inl ⟨rfl,rfl⟩,sq_,0,rfl⟩
 case round=>
  obtain ⟨k,pv,hk,rfl,hpv,hr,n,rfl⟩:=hrel;have HR:=hq_ hr;clear hr
  by_cases hlt:k<l.length
  ·rcases hcells with h|⟨b,o,rfl,hcell⟩
   ·rw [h] at hlt;simp at hlt
   have hcl:=hcell k hlt;have hlI:(k:Int)<l.length:=oq_;have hdr:b7_ pv lim (l.drop k)=if l.getD k 0≤pv∨lim≤l.getD k 0 then false else b7_ (l.getD k 0) lim (l.drop (k+1)):=by rw [drop_cons hlt,b7_]
   rw [hdr] at HR;clear hdr;obtain ⟨x,hx⟩:∃ x,x=l.getD k 0:=⟨_,rfl⟩;rw [<- hx] at hcl HR;have HX:=hq_ hx;clear hx;have hend:∀ q:Bool,(x≤pv∨lim≤x↔q=true)->b7_ (-1) lim l=if q then false else b7_ x lim (l.drop (k+1)):=fun q h=>by
    rw [HR.out];cases q <;> simp at h <;> simp [h]
   have HEND:=hq_ hend;clear hend;rcases hpv with ⟨hk0,hp0⟩|⟨hk1,hpe,hp0⟩
   ·have hkz:¬ (0:Int)<k:=oq_;have hkd:decide ((0:Int)<(k:Int))=false:=by simp [hk0]
    have hkn:decide (0<k)=false:=by simp [hk0]
    have hkm:¬ 0<k:=oq_;have HK0:=hq_ hk0;have HP0:=hq_ hp0;clear hcell hk0 hp0
    by_cases h1:x<0
    ·have d1:decide (x<0)=true:=by simp [h1]
     go_wp2_with fail
     go_quiet (fail)
     go_wp2_with fail
     go_ret;refine ⟨ac_ ?_,_,World.drewN_drewN _ _ _⟩;rw [HEND.out true (by have:=HP0.out;simp;omega)];rfl
    ·have d1:decide (x<0)=false:=by simp;omega
     by_cases h2:lim≤x
     ·have d2:decide (lim≤x)=true:=by simp [h2]
      go_wp2_with fail
      go_quiet (fail)
      go_wp2_with fail
      go_ret;refine ⟨ac_ ?_,_,World.drewN_drewN _ _ _⟩;rw [HEND.out true (by simp [h2])];rfl
     ·have d2:decide (lim≤x)=false:=by simp;omega
      go_wp2_with fail
      go_quiet (fail)
      go_wp2_with fail
      go_roundw
      case rel=>exact ⟨k+1,x,oq_,by go_num,.inr ⟨oq_,HX.out,oq_⟩,by rw [HEND.out false (by have:=HP0.out;simp;omega)];rfl,_,rfl⟩
      case measure=>simp [intOf];omega
   ·have hcl2:=hcell (k-1) oq_;have hkz:(0:Int)<k:=oq_;have hkd:decide ((0:Int)<(k:Int))=true:=by simp;omega
    rw [<- hpe] at hcl2;have HPE:=hq_ hpe;clear hcell hpe
    by_cases h1:x<0
    ·have d1:decide (x<0)=true:=by simp [h1]
     go_wp2_with fail
     go_quiet (fail)
     go_wp2_with fail
     go_ret;refine ⟨ac_ ?_,_,World.drewN_drewN _ _ _⟩;rw [HEND.out true tq_];rfl
    ·have d1:decide (x<0)=false:=by simp;omega
     by_cases h2:lim≤x
     ·have d2:decide (lim≤x)=true:=by simp [h2]
      go_wp2_with fail
      go_quiet (fail)
      go_wp2_with fail
      go_ret;refine ⟨ac_ ?_,_,World.drewN_drewN _ _ _⟩;rw [HEND.out true (by simp [h2])];rfl
     ·have d2:decide (lim≤x)=false:=by simp;omega
      obtain ⟨k',hk'⟩:∃ k',k=k'+1:=⟨k-1,oq_⟩;subst hk';rw [show k'+1-1=k' from by omega] at hcl2;have hs1:(((k'+1:Nat):Int)-1)=(k':Int):=oq_
      by_cases h3:x≤pv
      ·have d3:decide (x≤pv)=true:=by simp [h3]
       go_wp2_with fail
       go_quiet (fail)
       go_wp2_with fail
       go_ret;refine ⟨ac_ ?_,_,World.drewN_drewN _ _ _⟩;rw [HEND.out true (by simp [h3])];rfl
      ·have d3:decide (x≤pv)=false:=by simp;omega
       go_wp2_with fail
       go_quiet (fail)
       go_wp2_with fail
       go_roundw
       case rel=>exact ⟨k'+1+1,x,oq_,by go_num,.inr ⟨oq_,HX.out,oq_⟩,by rw [HEND.out false tq_];rfl,_,rfl⟩
       case measure=>simp [intOf];omega
  ·obtain rfl:k=l.length:=oq_;go_wp2_with fail
   go_ret;exact ⟨ac_ (by rw [HR.out,List.drop_length];rfl),n,rfl⟩
theorem ve_ {head cycle:List Int} {frm period:Int} (h:frm<0∨1099511627776<frm∨period<1∨1099511627776<period∨1048576<(head.length:Int)+cycle.length):validB ⟨head,frm,period,cycle⟩=false:=by
 unfold validB;rcases h with h|h|h|h|h
 ·rw [decide_eq_false (show ¬ 0≤frm by omega)];rfl
 ·rw [decide_eq_false (show ¬ frm≤1099511627776 by omega)];simp
 ·rw [decide_eq_false (show ¬ 1≤period by omega)];simp
 ·rw [decide_eq_false (show ¬ period≤1099511627776 by omega)];simp
 ·rw [decide_eq_false (show ¬ (head.length:Int)+cycle.length≤1048576 by omega)];simp
theorem tk_ {head cycle:List Int} {frm period:Int} (h:0≤frm∧frm≤1099511627776∧1≤period∧period≤1099511627776∧(head.length:Int)+cycle.length≤1048576):validB ⟨head,frm,period,cycle⟩=(b7_ (-1) frm head && b7_ (-1) period cycle):=by
 unfold validB;rw [decide_eq_true h.1,decide_eq_true h.2.1,decide_eq_true h.2.2.1,decide_eq_true h.2.2.2.1,decide_eq_true h.2.2.2.2];simp
theorem ca_ (h c:Value) (p:Per) (w:World) (hp:a8_ w h c p) (hf:InI p.frm) (ht:InI p.period) :
  Calls Tryz.prog 62 #[perV h c p.frm p.period] w fun e w'=>e=.returned (.bool (validB p))∧Below w.heap.size w w':=by
 unfold InI at hf ht;have hh':∀ W,Below w.heap.size w W->Ints W h p.head:=fun W hb=>hp.hd.ext hb;have hc':∀ W,Below w.heap.size w W->Ints W c p.cycle:=fun W hb=>hp.cy.ext hb;have hl1:=hp.hd.len;have hl2:=hp.cy.len;obtain ⟨a1,c1,a2,c2,rfl,rfl⟩:=hp.inn.form;obtain ⟨head,frm,period,cycle⟩:=p;dsimp only at *;obtain ⟨r1,hr1⟩:∃ r1,r1=b7_ (-1) frm head:=⟨_,rfl⟩;obtain ⟨r2,hr2⟩:∃ r2,r2=b7_ (-1) period cycle:=⟨_,rfl⟩;have HR1:=hq_ hr1.symm;have HR2:=hq_ hr2.symm;clear hp hr1 hr2
 go_enter Tryz.func62,Tryz.ntmps62
 go_wp2_with (go_at_call 104;first|((with_reducible refine (jq_ (.slice a1 head.length c1) head frm _ (hh' _ xE)).mono ?_);rintro e w1 ⟨he,n1,rfl⟩;rw [HR1.out] at he;subst he)|((with_reducible refine (jq_ (.slice a2 cycle.length c2) cycle period _ (hc' _ xE)).mono ?_);rintro e w2 ⟨he,n2,rfl⟩;rw [HR2.out] at he;subst he))
 all_goals go_ret
 all_goals first
  | exact ⟨ac_ (ve_ oq_).symm,xE⟩
  | (refine ⟨ac_ ?_,xE⟩;rw [tk_ oq_,HR1.out,HR2.out];first|rfl|simp [*])
theorem u1_ (h c:Value) (p:Per) (n:Int) (w:World) (hp:a8_ w h c p) (hf:InI p.frm) (ht:InI p.period) (hn:InI n) :
  Calls Tryz.prog 107 #[perV h c p.frm p.period,.int .i64 n] w fun e w'=>e=.returned (.bool (validB p && decide (0≤n) && memB p n))∧Below w.heap.size w w':=by
 have hl:∀ W,Below w.heap.size w W->a8_ W h c p:=fun W hb=>hp.ext hb;have hf0:=hf;have ht0:=ht;unfold InI at hn hf ht;obtain ⟨a1,c1,a2,c2,rfl,rfl⟩:=hp.inn.form;have H1:∀ W,Below w.heap.size w W->Ints W (.slice a1 p.head.length c1) p.head:=fun W hb=>hp.hd.ext hb;have H2:∀ W,Below w.heap.size w W->Ints W (.slice a2 p.cycle.length c2) p.cycle:=fun W hb=>hp.cy.ext hb;have HF0:=hq_ hf0;have HT0:=hq_ ht0;clear hp hf0 ht0
 by_cases hv:validB p=true
 ·have HV:=hq_ hv;have hfp:=((as_ p).1 hv).wf.frm;have hpp:=((as_ p).1 hv).wf.per;have HW:=hq_ ((as_ p).1 hv);clear hv
  by_cases h0:0≤n
  ·by_cases hlt:n<p.frm
   ·have hm:memB p n=decide (n∈p.head):=by unfold memB;rw [if_pos hlt]
    have HM:Hid ((validB p && decide (0≤n) && memB p n)=decide (n∈p.head)):=hq_ (by rw [HV.out,hm];simp [h0]);clear hm
    go_enter Tryz.func107,Tryz.ntmps107
    go_wp2_with (first|(go_at_call 62;refine (ca_ (.slice a1 p.head.length c1) (.slice a2 p.cycle.length c2) p _ (hl _ xE) HF0.out HT0.out).mono ?_;rintro e w1 ⟨he,hb1⟩;rw [HV.out] at he;subst he;obtain ⟨hc1,hf1⟩:=au_ hb1;(try simp only [World.size_alloc,World.size_drew,af_,World.size_setCell] at hc1 hf1);have hz1:w.heap.size<w1.heap.size:=(by have h7:=hb1.size;simp at h7;omega))|(go_at_call 144;refine (le_ (.slice a1 p.head.length c1) p.head n _ (H1 _ xE)).mono ?_;rintro e w2 ⟨rfl,rfl⟩))
    go_ret;exact ⟨ac_ HM.out.symm,xE⟩
   ·have hm:memB p n=decide ((n-p.frm) % p.period∈p.cycle):=by unfold memB;rw [if_neg hlt]
    have HM:Hid ((validB p && decide (0≤n) && memB p n)=decide ((n-p.frm) % p.period∈p.cycle)):=hq_ (by rw [HV.out,hm];simp [h0]);have hsub:IntKind.i64.wrap (n-p.frm)=n-p.frm:=IntWalk.i64_in _ ⟨oq_,oq_⟩;have htm:(n-p.frm).tmod p.period=(n-p.frm) % p.period:=Int.tmod_eq_emod_of_nonneg oq_;have HSUB:=hq_ hsub;have HTM:=hq_ htm;clear hm hsub htm
    go_enter Tryz.func107,Tryz.ntmps107
    go_upto_region 5 with (go_at_call 62;refine (ca_ (.slice a1 p.head.length c1) (.slice a2 p.cycle.length c2) p _ (hl _ xE) HF0.out HT0.out).mono ?_;rintro e w1 ⟨he,hb1⟩;rw [HV.out] at he;subst he;obtain ⟨hc1,hf1⟩:=au_ hb1;(try simp only [World.size_alloc,World.size_drew,af_,World.size_setCell] at hc1 hf1);have hz1:w.heap.size<w1.heap.size:=(by have h7:=hb1.size;simp at h7;omega))
    have hge:p.frm≤n:=oq_;have hpos:0<p.period:=oq_;obtain ⟨hn1,hn2⟩:=hn;obtain ⟨ht1,ht2⟩:=ht;clear hlt hf;have hne:¬ p.period=0:=oq_;have htm:=HTM.out;go_quiet ((go_at_call 144;(first|exact hp_ (le_ (.slice a2 p.cycle.length c2) p.cycle _ _ (H2 _ xE))|exact ez_ (le_ (.slice a2 p.cycle.length c2) p.cycle _ _ (H2 _ xE)))))
    go_wp2_with fail
    go_ret;exact ⟨ac_ HM.out.symm,xE⟩
  ·have h0':decide (0≤n)=false:=by simpa using h0
   have hlt:n<0:=oq_
   go_enter Tryz.func107,Tryz.ntmps107
   go_wp2_with (go_at_call 62;refine (ca_ (.slice a1 p.head.length c1) (.slice a2 p.cycle.length c2) p _ (hl _ xE) HF0.out HT0.out).mono ?_;rintro e w1 ⟨he,hb1⟩;rw [HV.out] at he;subst he)
   go_ret;exact ⟨ac_ (by simp [h0']),xE⟩
 ·have hv':validB p=false:=by simpa using hv
  have HV:=hq_ hv';clear hv hv'
  go_enter Tryz.func107,Tryz.ntmps107
  go_wp2_with (go_at_call 62;refine (ca_ (.slice a1 p.head.length c1) (.slice a2 p.cycle.length c2) p _ (hl _ xE) HF0.out HT0.out).mono ?_;rintro e w1 ⟨he,hb1⟩;rw [HV.out] at he;subst he)
  go_ret;exact ⟨ac_ (by rw [HV.out];simp),xE⟩
theorem nt_ (a b:Int) (w:World) (ha:1≤a) (ha1:a≤9223372036854775807) (hb:0≤b) (hb1:b≤9223372036854775807) :
  Calls Tryz.prog 196 #[.int .i64 a,.int .i64 b] w fun e w'=>e=.returned (.int .i64 (Int.gcd a b:Nat))∧w=w':=by
 obtain ⟨g,hg⟩:∃ g,g=((Int.gcd a b:Nat):Int):=⟨_,rfl⟩;rw [<- hg];have HG:=hq_ hg.symm;clear hg
 go_enter Tryz.func196,Tryz.ntmps196
 go_wp2_with fail
 go_loop [0,1] (fun vx vy=>∃ x y:Int,vx=.int .i64 x∧vy=.int .i64 y∧0≤x∧x≤9223372036854775807∧0≤y∧y≤9223372036854775807∧Int.gcd x y=Int.gcd a b) (fun _ vy=>(intOf vy).toNat)
 case atStart=>exact ⟨a,b,rfl,rfl,oq_,ha1,hb,hb1,rfl⟩
 case round=>
  obtain ⟨x,y,rfl,rfl,hx0,hx1,hy0,hy1,hgxy⟩:=hrel;have HX:=hq_ hgxy;clear hgxy
  by_cases hz:y=0
  ·have hxg:x=g:=by have:=gcd_zero hx0;rw [hz] at HX;rw [HX.out,HG.out] at this;exact this.symm
   have HXG:=hq_ hxg;have hzb:(y != 0)=false:=by simp [hz]
   clear hxg hz;go_wp2_with fail
   go_ret;exact ⟨d2_ HXG.out,rfl⟩
  ·have hypos:0<y:=oq_;have hs:=gj_ hx0 hypos;rw [HX.out] at hs;have HS:=hq_ hs;clear hs;have hm0:=Int.emod_nonneg x (show y≠0 by omega);have hm1:=Int.emod_lt_of_pos x (show 0<y by omega);have hzb:(y != 0)=true:=by rw [bne_iff_ne];omega
   go_wp2_with fail
   go_round
   case rel=>exact ⟨y,x % y,rfl,rfl,hy0,hy1,hm0,oq_,HS.out⟩
   case measure=>simp [intOf];omega
theorem OwnI.empty (hb:base≤w.heap.size):OwnI (w.alloc (.cells #[] 3)) base (.slice (some ⟨w.heap.size,0,none⟩) 0 0) []:=
 ⟨⟨sq_,.inr ⟨w.heap.size,0,#[],rfl,hb,World.alloc_heap_new _ _,sq_,by unfold maxLen;omega,sq_,sq_⟩⟩,sq_,sq_⟩
def inW (lo hi:Int) (y:Int):Bool:=decide (lo≤y) && decide (y<hi)
theorem du_ {hi:Int}:inW lo hi y=true↔lo≤y∧y<hi:=by unfold inW;simp
theorem cl_ (p:Int->Bool) (h:k<l.length):(l.take (k+1)).filter p=(l.take k).filter p ++ (if p (l.getD k 0)=true then [l.getD k 0] else []):=by
 rw [List.take_succ_eq_append_getElem h,List.filter_append,List.getD_eq_getElem?_getD,List.getElem?_eq_getElem h]
 congr 1
 by_cases hp:p l[k]=true <;> simp [hp]
theorem tm_ (hw:p.WF) {hi:Int} (h0:0≤lo):p.head.filter (inW lo hi)=sel p.mem lo (min hi p.frm):=by
 refine (hw.head.filter _).ext (ad_ h0) fun x=>?_;rw [List.mem_filter,ae_ h0,du_,hw.head_mem];exact ⟨fun ⟨⟨a,b,c⟩,d,e⟩=>⟨d,oq_,c⟩,fun ⟨a,b,c⟩=>⟨⟨oq_,oq_,c⟩,a,oq_⟩⟩
theorem rm_ {hi:Int} (h0:0≤lo) (hf:p.frm<hi):sel p.mem lo (min hi p.frm)=sel p.mem lo (min hi (max lo p.frm)):=by
 refine (ad_ h0).ext (ad_ h0) fun x=>?_;rw [ae_ h0,ae_ h0];exact ⟨fun ⟨a,b,c⟩=>⟨a,oq_,c⟩,fun ⟨a,b,c⟩=>⟨a,oq_,c⟩⟩
theorem ta_ (hw:p.WF) {hi b:Int} (h0:0≤lo) (hs:lo≤s) (hf:p.frm≤s) (hb:p.frm≤b) (hd:(b-p.frm) % p.period=0) :
  sel p.mem lo (min hi (max b s)) ++ (p.cycle.map (b+·)).filter (inW s hi)=sel p.mem lo (min hi (max (b+p.period) s)):=by
 have hp:=hw.per;have hf0:=hw.frm;have hin:∀ x,x∈p.cycle.map (b+·)↔b≤x∧x<b+p.period∧p.mem x:=by
  intro x;rw [List.mem_map];constructor
  ·rintro ⟨c,hc,rfl⟩;have h1:=hw.cyc.2 c hc;refine ⟨oq_,oq_,?_⟩;rw [Per.mem_hi oq_ oq_,show b+c-p.frm=(b-p.frm)+c from oq_,Int.add_emod,hd,Int.zero_add,Int.emod_emod,Int.emod_eq_of_lt h1.1 h1.2];exact hc
  ·rintro ⟨h1,h2,h3⟩;rw [Per.mem_hi oq_ oq_,show x-p.frm=(b-p.frm)+(x-b) from oq_,Int.add_emod,hd,Int.zero_add,Int.emod_emod,Int.emod_eq_of_lt oq_ oq_] at h3;exact ⟨x-b,h3,oq_⟩
 have hr:Rise b (b+p.period) (p.cycle.map (b+·)):=by
  have:=hw.cyc.map_add b;have e:p.cycle.map (fun x=>x+b)=p.cycle.map (b+·):=List.map_congr_left fun x _=>Int.add_comm _ _;rw [e] at this;exact this.mono oq_ oq_
 have hr1:Rise lo (min hi (max b s)) (sel p.mem lo (min hi (max b s))):=ad_ h0;have hr2:=hr.filter (inW s hi);refine ep_ ?_ (ad_ h0).1 fun x=>?_
 ·refine List.pairwise_append.2 ⟨hr1.1,hr2.1,fun x hx y hy=>?_⟩;have h1:=hr1.2 x hx;have h2:=hr2.2 y hy;have h3:=du_.1 (List.mem_filter.1 hy).2;omega
 ·rw [List.mem_append,ae_ h0,ae_ h0,List.mem_filter,hin,du_];constructor
  ·rintro (⟨h1,h2,h3⟩|⟨⟨h1,h2,h3⟩,h4,h5⟩)
   ·exact ⟨h1,oq_,h3⟩
   ·exact ⟨oq_,oq_,h3⟩
  ·rintro ⟨h1,h2,h3⟩
   by_cases hx:x<min hi (max b s)
   ·exact .inl ⟨h1,hx,h3⟩
   ·exact .inr ⟨⟨oq_,oq_,h3⟩,oq_,oq_⟩
theorem nk_ (hc:p.cycle=[]) {hi:Int} (h0:0≤lo):sel p.mem lo (min hi p.frm)=sel p.mem lo hi:=by
 refine (ad_ h0).ext (ad_ h0) fun x=>?_;rw [ae_ h0,ae_ h0];refine ⟨fun ⟨a,b,c⟩=>⟨a,oq_,c⟩,fun ⟨a,b,c⟩=>⟨a,?_,c⟩⟩;rcases Int.lt_or_le x p.frm with h|h
 ·omega
 ·exfalso;rw [Per.mem_hi oq_ h,hc] at c;simp at c
theorem wp_ {S:Int->Prop} {hi:Int} (h0:0≤lo) (h1:hi≤8796093022208):(sel S lo hi).length≤8796093022208:=by
 rcases Int.lt_or_le lo hi with h|h
 ·have:=(ad_ (S:=S) (hi:=hi) h0).length_le oq_;omega
 ·rw [q5_ h0 h];simp
theorem g7_ (h c:Value) (p:Per) (lo hi:Int) (w:World) (hp:a8_ w h c p) (hw:p.WF) (h1:p.frm≤1125899906842624) (h2:p.period≤1125899906842624) (h0:0≤lo) (h3:lo≤1125899906842624) (h4:-9223372036854775808≤hi) (h5:hi≤8796093022208) :
  Calls Tryz.prog 168 #[perV h c p.frm p.period,.int .i64 lo,.int .i64 hi] w (ib_ (sel p.mem lo hi) w):=by
 have f0:=hw.frm;have p0:=hw.per;obtain ⟨a1,c1,a2,c2,rfl,rfl⟩:=hp.inn.form;have H1:=hq_ hp.hd;have H2:=hq_ hp.cy;have HW:=hq_ hw;clear hp hw
 go_enter Tryz.func168,Tryz.ntmps168
 go_upto_region 1 with (fail)
 refine al_ (F:=fun U=>Bxx U w.heap.size #[.slice a1 p.head.length c1,.int .i64 p.frm,.int .i64 p.period,.slice a2 p.cycle.length c2] 39∧w.heap.size<U.heap.size∧Below w.heap.size w U) ⟨xB,sq_,xE⟩ ?_;rintro W1 ⟨hbx,hz1,hE⟩;have HBX:=hq_ hbx;have HE:=hq_ hE;clear hbx hE;go_upto_region 2 with (fail)
 refine al_ (F:=fun U=>OwnI U W1.heap.size (.slice (some ⟨W1.heap.size,0,none⟩) 0 0) []∧Below W1.heap.size W1 U) ⟨OwnI.empty (Nat.le_refl _),xE⟩ ?_;rintro W2 ⟨hown0,hE2⟩;go_wp2_with fail
 go_loopw [7,8] (fun o i wr=>∃ k:Nat,k≤p.head.length∧i=.int .i64 k∧OwnI wr W1.heap.size o ((p.head.take k).filter (inW lo hi))∧Below W1.heap.size W1 wr) (fun _ i _=>p.head.length-(intOf i).toNat)
 case atStart=>exact ⟨0,oq_,rfl,hown0,hE2⟩
 case round=>
  obtain ⟨k,hk,rfl,hown,hb⟩:=hrel;have HB:=hq_ hb;have hszr:=hb.size;have hbx:=HBX.out.below hb;have q0:=(hbx.cells 0).1;have q1:=(hbx.cells 1).1;have q2:=(hbx.cells 2).1;have q3:=(hbx.cells 3).1;have hlb:=hbx.lt
  by_cases hlt:k<p.head.length
  ·have hlI:(k:Int)<p.head.length:=oq_;obtain ⟨⟨a',c',he,_,_,h38⟩,hlen8,hrg⟩:=(H1.out.ext HE.out).ext hb;injection he with e1 _ e2
   subst e1;subst e2;rcases h38 with h38|⟨b,o,rfl,hcell⟩
   ·rw [h38] at hlt;simp at hlt
   have hcl:=hcell k hlt;have hyI:=hrg _ (ah_ hlt);unfold InI at hyI;have HSU:=hq_ (cl_ (inW lo hi) hlt);have hll:=List.length_filter_le (inW lo hi) (p.head.take k);rw [List.length_take] at hll;generalize p.head.getD k 0=y at *;obtain ⟨L,hL⟩:∃ L,L=(p.head.take k).filter (inW lo hi):=⟨_,rfl⟩;rw [<- hL] at hown hll HSU;obtain ⟨oa,oc,rfl⟩:=hown.form;have HOWN:=hq_ hown;clear hcell hL hown hb hbx hrg
   by_cases hy1:lo≤y
   ·have d1:decide (lo≤y)=true:=by simp [hy1]
    by_cases hy2:y<hi
    ·have d2:decide (y<hi)=true:=by simp [hy2]
     have HIN:Hid (inW lo hi y=true):=hq_ (du_.2 ⟨hy1,hy2⟩);go_wp2_with (at_builtin;refine aj_ rq_ _ _ rq_ W1.heap.size (.slice oa L.length oc) L y rq_ (HOWN.out.ext xE) _ _ rq_ (by first|(simp;done)|exact ((Bxx.new _ #[.int .i64 y] _).cells 0).1) ⟨oq_,oq_⟩ oq_ tq_ ?_;intro gg cap w6 hown6 hgrow6 hbel6)
     go_roundw
     case rel=>
      refine ⟨k+1,oq_,by go_num,?_,(HB.out.alloc oq_ _).trans hbel6⟩;rw [HSU.out,HIN.out,if_pos rfl];exact hown6
     case measure=>simp [intOf];omega
    ·have d2:decide (y<hi)=false:=by simp;omega
     have HIN:Hid (inW lo hi y=false):=hq_ (by rw [Bool.eq_false_iff];intro h;have:=du_.1 h;omega);go_wp2_with fail
     go_roundw
     case rel=>
      refine ⟨k+1,oq_,by go_num,?_,HB.out⟩;rw [HSU.out,HIN.out,if_neg sq_,List.append_nil];exact HOWN.out
     case measure=>simp [intOf];omega
   ·have d1:decide (lo≤y)=false:=by simp;omega
    have HIN:Hid (inW lo hi y=false):=hq_ (by rw [Bool.eq_false_iff];intro h;have:=du_.1 h;omega);go_wp2_with fail
    go_roundw
    case rel=>
     refine ⟨k+1,oq_,by go_num,?_,HB.out⟩;rw [HSU.out,HIN.out,if_neg sq_,List.append_nil];exact HOWN.out
    case measure=>simp [intOf];omega
  ·obtain rfl:k=p.head.length:=oq_;rw [List.take_length,tm_ HW.out h0] at hown
   by_cases hc0:p.cycle.length=0
   ·have hcI:((p.cycle.length:Int) == 0)=true:=by simp [hc0]
    rw [nk_ (List.eq_nil_of_length_eq_zero hc0) h0] at hown;obtain ⟨oa,oc,rfl⟩:=hown.form;have HOWN:=hq_ hown;clear hown hb hbx hc0;go_wp2_with fail
    go_ret;exact ⟨_,rfl,HOWN.out.mono oq_,HE.out.trans (HB.out.mono oq_)⟩
   ·have hcI:((p.cycle.length:Int) == 0)=false:=by rw [beq_eq_false_iff_ne];omega
    by_cases hle:hi≤p.frm
    ·rw [show min hi p.frm=hi from by omega] at hown;obtain ⟨oa,oc,rfl⟩:=hown.form;have HOWN:=hq_ hown;clear hown hb hbx hc0;go_wp2_with fail
     go_ret;exact ⟨_,rfl,HOWN.out.mono oq_,HE.out.trans (HB.out.mono oq_)⟩
    ·have hgt:p.frm<hi:=oq_;rw [rm_ h0 hgt] at hown;obtain ⟨s,hs⟩:∃ s,s=max lo p.frm:=⟨_,rfl⟩;have hs0:lo≤s∧p.frm≤s∧s≤1125899906842624:=oq_;rw [<- hs] at hown;have HS:=hq_ hs.symm;have e0:=Int.emod_nonneg (s-p.frm) (show p.period≠0 by omega);have e2:=Int.emod_add_ediv_mul (s-p.frm) p.period;have e3:=Int.mul_nonneg (Int.ediv_nonneg (show 0≤s-p.frm by omega) (show 0≤p.period by omega)) (show 0≤p.period by omega);have hb0:∃ b0,b0=s-(s-p.frm) % p.period∧p.frm≤b0∧b0≤s∧(b0-p.frm) % p.period=0:=⟨_,rfl,oq_,oq_,by
      rw [show s-(s-p.frm) % p.period-p.frm=(s-p.frm) / p.period*p.period from by omega];exact Int.mul_emod_left _ _⟩
     obtain ⟨b0,hb0,hb1,hb2,hb3⟩:=hb0;obtain ⟨oa,oc,rfl⟩:=hown.form;have HOWN:=hq_ hown;have HB3:=hq_ hb3;have HB0:=hq_ hb0.symm;have hled:decide (hi≤p.frm)=false:=by simp;omega
     clear hown hb hbx hc0 hs hb0 hb3 hle e2 e3;go_upto_region 10 with (fail)
     rw [HS.out];have hne:¬ p.period=0:=oq_;have hsf:0≤s-p.frm:=oq_;have hem:=Int.emod_lt_of_pos (s-p.frm) (show 0<p.period by omega);go_wp2_with fail
     rw [HB0.out];clear hem hsf e0
     go_loopw [7,10] (fun o vb wq=>∃ b:Int,vb=.int .i64 b∧p.frm≤b∧b≤4503599627370496∧(b-p.frm) % p.period=0∧OwnI wq W1.heap.size o (sel p.mem lo (min hi (max b s)))∧Below W1.heap.size W1 wq) (fun _ vb _=>(hi-intOf vb).toNat)
     case atStart=>exact ⟨b0,rfl,hb1,oq_,HB3.out,by rw [show max b0 s=s from by omega];exact HOWN.out,HB.out⟩
     case round=>
      obtain ⟨b,rfl,hbf,hbm,hbd,hown,hbq⟩:=hrel;have HBQ:=hq_ hbq;have HBD:=hq_ hbd;have hszq:=hbq.size;obtain ⟨oa9,oc9,rfl⟩:=hown.form;have HOW:=hq_ hown;obtain ⟨L,hL⟩:∃ L,L=sel p.mem lo (min hi (max b s)):=⟨_,rfl⟩;rw [<- hL] at HOW;rw [<- hL];have HL:=hq_ hL;clear hown hbd hL hbq
      by_cases hbh:b<hi
      ·have HST:=hq_ (ta_ HW.out (hi:=hi) h0 hs0.1 hs0.2.1 hbf HBD.out);rw [<- HL.out] at HST;obtain ⟨cs,hcs⟩:∃ cs,cs=p.cycle.map (b+·):=⟨_,rfl⟩;rw [<- hcs] at HST;have hcl:cs.length=p.cycle.length:=by rw [hcs,List.length_map]
       have HCL:=hq_ hcl;have HCG:Hid (∀ j,j<p.cycle.length->cs.getD j 0=b+p.cycle.getD j 0):=hq_ (fun j hj=>by
        rw [hcs,List.getD_eq_getElem?_getD,List.getD_eq_getElem?_getD,List.getElem?_map,List.getElem?_eq_getElem hj];rfl)
       clear hcs hcl;go_wp2_with fail
       go_loopw [7,11] (fun o vj wq2=>∃ j:Nat,j≤p.cycle.length∧vj=.int .i64 j∧OwnI wq2 W1.heap.size o (L ++ (cs.take j).filter (inW s hi))∧Below W1.heap.size W1 wq2) (fun _ vj _=>p.cycle.length-(intOf vj).toNat)
       case atStart=>exact ⟨0,oq_,rfl,by simpa using HOW.out,HBQ.out⟩
       case round=>
        obtain ⟨j,hj,rfl,hown,hb2⟩:=hrel;have HB2:=hq_ hb2;have hsz2:=hb2.size;have hbx:=HBX.out.below hb2;have q0:=(hbx.cells 0).1;have q1:=(hbx.cells 1).1;have q2:=(hbx.cells 2).1;have q3:=(hbx.cells 3).1;have hlb:=hbx.lt;obtain ⟨ob,obc,rfl⟩:=hown.form
        by_cases hlt:j<p.cycle.length
        ·have hlI:(j:Int)<p.cycle.length:=oq_;obtain ⟨⟨a',c',he,_,_,h38⟩,hlen8,hrg⟩:=(H2.out.ext HE.out).ext hb2;injection he with e1 _ e2
         subst e1;subst e2;rcases h38 with h38|⟨b8,o8,rfl,hcell⟩
         ·rw [h38] at hlt;simp at hlt
         have hcl:=hcell j hlt;have hyb:=HW.out.cyc.2 _ (ah_ hlt);have HSU:=hq_ (cl_ (inW s hi) (l:=cs) (k:=j) (by rw [HCL.out];exact hlt));rw [HCG.out j hlt] at HSU;have hll:(L ++ (cs.take j).filter (inW s hi)).length≤8796093022208:=by
          have h1:List.Sublist (L ++ (cs.take j).filter (inW s hi)) (L ++ cs.filter (inW s hi)):=List.Sublist.append (List.Sublist.refl _) ((List.take_sublist j cs).filter _);have h2:=h1.length_le;rw [HST.out] at h2;have h3:=wp_ (S:=p.mem) (lo:=lo) (hi:=min hi (max (b+p.period) s)) h0 oq_;omega
         generalize p.cycle.getD j 0=y at *;obtain ⟨X,hX⟩:∃ X,X=L ++ (cs.take j).filter (inW s hi):=⟨_,rfl⟩;rw [<- hX] at hown hll;rw [<- hX];have HX:=hq_ hX;have HOWN:=hq_ hown;clear hcell hX hown hb2 hbx hrg
         by_cases hy1:s≤b+y
         ·have d1:decide (s≤b+y)=true:=by simp [hy1]
          by_cases hy2:b+y<hi
          ·have d2:decide (b+y<hi)=true:=by simp [hy2]
           have HIN:Hid (inW s hi (b+y)=true):=hq_ (du_.2 ⟨hy1,hy2⟩);go_wp2_with (at_builtin;refine aj_ rq_ _ _ rq_ W1.heap.size (.slice ob X.length obc) X (b+y) rq_ (HOWN.out.ext xE) _ _ rq_ (by first|(simp;done)|exact ((Bxx.new _ #[.int .i64 (b+y)] _).cells 0).1) ⟨oq_,oq_⟩ oq_ tq_ ?_;intro gg cap w6 hown6 hgrow6 hbel6)
           go_roundw
           case rel=>
            refine ⟨j+1,oq_,by go_num,?_,(HB2.out.alloc oq_ _).trans hbel6⟩;rw [HSU.out,HIN.out,if_pos rfl,<- List.append_assoc,<- HX.out];exact hown6
           case measure=>simp [intOf];omega
          ·have d2:decide (b+y<hi)=false:=by simp;omega
           have HIN:Hid (inW s hi (b+y)=false):=hq_ (by rw [Bool.eq_false_iff];intro h;have:=du_.1 h;omega);go_wp2_with fail
           go_roundw
           case rel=>
            refine ⟨j+1,oq_,by go_num,?_,HB2.out⟩;rw [HSU.out,HIN.out,if_neg sq_,List.append_nil,<- HX.out];exact HOWN.out
           case measure=>simp [intOf];omega
         ·have d1:decide (s≤b+y)=false:=by simp;omega
          have HIN:Hid (inW s hi (b+y)=false):=hq_ (by rw [Bool.eq_false_iff];intro h;have:=du_.1 h;omega);go_wp2_with fail
          go_roundw
          case rel=>
           refine ⟨j+1,oq_,by go_num,?_,HB2.out⟩;rw [HSU.out,HIN.out,if_neg sq_,List.append_nil,<- HX.out];exact HOWN.out
          case measure=>simp [intOf];omega
        ·obtain rfl:j=p.cycle.length:=oq_;have HLN:Hid (L ++ (cs.take p.cycle.length).filter (inW s hi)=sel p.mem lo (min hi (max (b+p.period) s))):=hq_ (by rw [List.take_of_length_le (by rw [HCL.out];exact Nat.le_refl _),HST.out]);rw [HLN.out] at hown ⊢;have HOWN:=hq_ hown;have HDN:Hid ((b+p.period-p.frm) % p.period=0):=hq_ (by rw [show b+p.period-p.frm=(b-p.frm)+p.period from oq_,Int.add_emod_right,HBD.out]);clear hown hb2;go_wp2_with fail
         go_roundw
         case rel=>exact ⟨b+p.period,rfl,oq_,oq_,HDN.out,HOWN.out,HB2.out⟩
         case measure=>simp [intOf];omega
      ·have HHI:Hid (min hi (max b s)=hi):=hq_ oq_;have HOZ:Hid (OwnI wr W1.heap.size (.slice oa9 L.length oc9) (sel p.mem lo hi)):=hq_ (by have h:=HOW.out;have h2:=HL.out;rw [HHI.out] at h2;rw [<- h2];exact h);have HLL:Hid (L.length=(sel p.mem lo hi).length):=hq_ (by rw [HL.out,HHI.out]);go_wp2_with fail
       go_ret;exact ⟨_,rfl,HOZ.out.mono oq_,HE.out.trans (HBQ.out.mono oq_)⟩
theorem pe_ (h:p.WF) {day:Int} (h0:0≤day):(a9_ p day).head=p.head.filter (fun y=>decide (day≤y)):=by
 have hq:=ec_ h h0;have hf:=h.frm;refine hq.1.head.ext (h.head.filter _) fun x=>?_;rw [List.mem_filter,h.head_mem,hq.1.head_mem,hq.2,decide_eq_true_eq];have hF:(a9_ p day).frm=max p.frm day:=rfl;rw [hF];constructor
 ·rintro ⟨a,b,c,d⟩;exact ⟨⟨a,oq_,c⟩,d⟩
 ·rintro ⟨⟨a,b,c⟩,d⟩;exact ⟨a,oq_,c,d⟩
theorem om_ (h:p.WF) {day:Int} (h0:0≤day):(a9_ p day).cycle=(sel p.mem (max p.frm day) (max p.frm day+p.period)).map (fun y=>y-max p.frm day):=by
 have hq:=ec_ h h0;have hf:=h.frm;have hp:=h.per;obtain ⟨F,hF⟩:∃ F,F=max p.frm day:=⟨_,rfl⟩;have hqF:(a9_ p day).frm=F:=hF.symm;have hqP:(a9_ p day).period=p.period:=rfl;rw [<- hF];refine ep_ hq.1.cyc.1 ?_ fun x=>?_
 ·rw [List.pairwise_map];exact (ad_ oq_).1.imp (fun h=>oq_)
 ·rw [List.mem_map];have key:∀ x,0≤x->x<p.period->(x∈(a9_ p day).cycle↔p.mem (F+x)):=by
   intro x h1 h2;have e:(a9_ p day).mem (F+x)↔x∈(a9_ p day).cycle:=by
    rw [Per.mem_hi oq_ (by rw [hqF];omega),hqF,hqP,show F+x-F=x from oq_,Int.emod_eq_of_lt h1 h2]
   rw [<- e,hq.2];exact ⟨fun h=>h.1,fun h=>⟨h,oq_⟩⟩
  constructor
  ·intro hx;have hb:=hq.1.cyc.2 x hx;rw [hqP] at hb;exact ⟨F+x,(ae_ oq_ _).2 ⟨oq_,oq_,(key x hb.1 hb.2).1 hx⟩,oq_⟩
  ·rintro ⟨y,hy,rfl⟩;obtain ⟨h1,h2,h3⟩:=(ae_ oq_ _).1 hy;exact (key _ oq_ oq_).2 (by rw [show F+(y-F)=y from by omega];exact h3)
theorem j2_ {b:Nat} {x0 x1 x2 x3:Value} {t:TypeId} (h:Bxx W b #[x0,x1,x2,x3] t):Bxx (W.setCell ⟨b,0,none⟩ v) b #[v,x1,x2,x3] t:=a4_ 0 v h
structure LH (w:World) (ob:Nat) (p:Per) (hp cp:Value) (f:Int) (base:Nat) (hv:Value) (l:List Int) (W:World):Prop where
 below:Below w.heap.size w W
 pb:Bxx W w.heap.size #[hp,.int .i64 p.frm,.int .i64 p.period,cp] 39
 rb:Bxx W (w.heap.size+1) #[.slice none 0 0,.int .i64 0,.int .i64 0,.slice none 0 0] 39
 obx:Bxx W ob #[hv,.int .i64 f,.int .i64 p.period,.slice none 0 0] 39
 own:OwnI W base hv l
 o1:w.heap.size+1<ob
 o2:ob<base
 o3:base≤W.heap.size
theorem LH.step {hp cp:Value} (h:LH w ob p hp cp f base hv l W)
  {W1:World} {v':Value} {l':List Int} (hb:Below base W W1) (ho:OwnI W1 base v' l'):LH w ob p hp cp f base v' l' (W1.setCell ⟨ob,0,none⟩ v'):=by
 have o1:=h.o1;have o2:=h.o2;have o3:=h.o3;have hz:=hb.size;exact ⟨(h.below.trans (hb.mono oq_)).setCell (p:=⟨ob,0,none⟩) tq_ _,(h.pb.upto hb oq_).setNe _ oq_,(h.rb.upto hb oq_).setNe _ oq_,j2_ (h.obx.upto hb oq_),
  ho.above ((a7_.refl base W1).setCell tq_ _),o1,o2,tq_⟩
theorem qd_ (h c:Value) (p:Per) (day:Int) (w:World) (hp:a8_ w h c p) (hw:p.WF) (h1:p.frm≤2199023255552) (h2:p.period≤1099511627776) (h0:0≤day) (hd:day≤2199023255552) :
  Calls Tryz.prog 137 #[perV h c p.frm p.period,.int .i64 day] w (in_ (a9_ p day) w):=by
 have f0:=hw.frm;have p0:=hw.per;obtain ⟨a1,c1,a2,c2,rfl,rfl⟩:=hp.inn.form;have H1:=hq_ hp.hd;have H2:=hq_ hp.cy;have HP:=hq_ hp;have HW:=hq_ hw;clear hp hw
 go_enter Tryz.func137,Tryz.ntmps137
 go_upto_region 2 with (fail)
 refine al_ (F:=fun U=>Bxx U w.heap.size #[.slice a1 p.head.length c1,.int .i64 p.frm,.int .i64 p.period,.slice a2 p.cycle.length c2] 39∧Bxx U (w.heap.size+1) #[.slice none 0 0,.int .i64 0,.int .i64 0,.slice none 0 0] 39∧
  Bxx U (w.heap.size+1+1) #[.slice none 0 0,.int .i64 (max p.frm day),.int .i64 p.period,.slice none 0 0] 39∧w.heap.size+1+1<U.heap.size∧Below w.heap.size w U) ⟨xB,xB,xB,sq_,xE⟩ ?_
 rintro W1 ⟨hpb,hrb,hob,hz1,hE⟩;obtain ⟨f,hf⟩:∃ f,f=max p.frm day:=⟨_,rfl⟩;rw [<- hf] at hob ⊢;obtain ⟨ob,hobe⟩:∃ ob,ob=w.heap.size+1+1:=⟨_,rfl⟩;rw [<- hobe] at hob hz1 ⊢;have HF:=hq_ hf;have hf1:p.frm≤f∧f≤2199023255552:=oq_;have HLH:=hq_ (LH.mk hE hpb hrb hob (OwnI.nil W1 W1.heap.size) oq_ hz1 (Nat.le_refl _));have HE:=hq_ hE;have hob2:w.heap.size+1<ob:=oq_;clear hpb hrb hob hE hobe hf;go_wp2_with fail
 go_loopw [6] (fun i wr=>∃ (k:Nat) (hv:Value),k≤p.head.length∧i=.int .i64 k∧LH w ob p (.slice a1 p.head.length c1) (.slice a2 p.cycle.length c2) f W1.heap.size hv ((p.head.take k).filter (fun y=>decide (day≤y))) wr) (fun i _=>p.head.length-(intOf i).toNat)
 case atStart=>exact ⟨0,_,oq_,rfl,HLH.out⟩
 case round=>
  obtain ⟨k,hv,hk,rfl,hst⟩:=hrel;have HST:=hq_ hst;have hown:=hst.own;have q0:=(hst.pb.cells 0).1;have q1:=(hst.pb.cells 1).1;have q2:=(hst.pb.cells 2).1;have q3:=(hst.pb.cells 3).1;have o0:=(hst.obx.cells 0).1;have oz:=(hst.obx.cells 0).2;have o1:=(hst.obx.cells 1).1;have o3:=(hst.obx.cells 3).1;have hs2:=hst.o2;have hs3:=hst.o3
  by_cases hlt:k<p.head.length
  ·have hlI:(k:Int)<p.head.length:=oq_;obtain ⟨⟨a',c',he,_,_,h38⟩,hlen8,hrg⟩:=H1.out.ext hst.below;injection he with e1 _ e2
   subst e1;subst e2;rcases h38 with h38|⟨b8,f8,rfl,hcell⟩
   ·rw [h38] at hlt;simp at hlt
   have hcl:=hcell k hlt;have hyI:=hrg _ (ah_ hlt);unfold InI at hyI;have HSU:=hq_ (cl_ (fun y=>decide (day≤y)) hlt);have hll:=List.length_filter_le (fun y=>decide (day≤y)) (p.head.take k);rw [List.length_take] at hll;generalize p.head.getD k 0=y at *;clear hcell hrg hst
   by_cases hy1:day≤y
   ·have d1:decide (day≤y)=true:=by simp [hy1]
    go_wp2_with fail
    refine ai_ (w0:=wr) [0,1,2,3,4,5,6,7] [8,9,10] (fun v=>⟨#[perV (.slice (some ⟨b8,f8,none⟩) p.head.length c1) (.slice a2 p.cycle.length c2) p.frm p.period,.int .i64 day,.pointer (some ⟨w.heap.size,0,none⟩),undef,.pointer (some ⟨w.heap.size+1,0,none⟩),.pointer (some ⟨ob,0,none⟩),.int .i64 ↑k,undef,undef,.pointer (some ⟨w.heap.size,1,none⟩),.int .i64 p.frm,.int .i64 day,.int .i64 f,.pointer (some ⟨w.heap.size,2,none⟩),.int .i64 p.period,.agg #[.slice none 0 0,.int .i64 f,.int .i64 p.period,.slice none 0 0],.int .i64 ↑k,.pointer (some ⟨w.heap.size,0,none⟩),.slice (some ⟨b8,f8,none⟩) p.head.length c1,.int .i64 ↑p.head.length,.bool true,u21,u22,.pointer (some ⟨w.heap.size,0,none⟩),.slice (some ⟨b8,f8,none⟩) p.head.length c1,.int .i64 ↑k,.pointer (some ⟨b8,f8+k,none⟩),.int .i64 y,.int .i64 day,.bool true,v 0,v 1,v 2,v 3,v 4,v 5,v 6,v 7,u38,u39,undef,undef,undef,undef,undef,undef,undef,undef,undef,undef,undef,undef,undef,undef,undef,undef,undef,undef,undef,undef,undef,undef,undef,undef,undef,undef,undef,undef],[]⟩) [.pointer (some ⟨ob,0,none⟩),hv,.pointer (some ⟨w.heap.size,0,none⟩),.slice (some ⟨b8,f8,none⟩) p.head.length c1,.int .i64 k,.pointer (some ⟨b8,f8+k,none⟩),.int .i64 y,undef] [7] (fun i v lo hi W=>match i with|7=>v 7=.slice (some ⟨lo 7,0,none⟩) 1 1∧lo 7<hi 7∧Bxx W (lo 7) #[.int .i64 y] 3|_=>True) (fun W=>W.cell? ⟨w.heap.size,0,none⟩=some (.slice (some ⟨b8,f8,none⟩) p.head.length c1)∧W.cell? ⟨b8,f8+k,none⟩=some (.int .i64 y)∧W.cell? ⟨ob,0,none⟩=some hv) (fun W9 hb=>⟨cux q0 hb,cux hcl hb,cux o0 hb⟩) ?stab ?loc ?steps ?fin (fun j=>match j with|0=>u30|1=>u31|2=>u32|3=>u33|4=>u34|5=>u35|6=>u36|7=>u37|_=>undef)
    case stab=>
     refine ⟨?_,trivial⟩
     ·intro v lo hi W W' h hb;exact ⟨h.1,h.2.1,h.2.2.below hb⟩
    case loc=>
     refine ⟨?_,trivial⟩
     ·intro v v' lo lo' hi hi' W hag h;have q:=hag 7 (.inl rfl)
      (try dsimp only at h ⊢)
      simp only [q.1,q.2.1,q.2.2] at h;exact h
    case steps=>
     refine .c [] [] rfl ?_ (.c [0] [] rfl ?_ (.c [] [] rfl ?_ (.c [2] [] rfl ?_ (.c [] [] rfl ?_ (.c [3,4] [] rfl ?_ (.c [5] [] rfl ?_ (.c [6] [] rfl ?_ (.n))))))))
     all_goals try exact stw
     ·rintro v lo hi W hb ⟨g0,g1,g2⟩ _;refine .inl ⟨rfl,fun K hK=>?_⟩;simp only [ov,vat,Nat.reduceBEq,cond_true,cond_false];go_wp2_with fail
      exact acx (hK (.slice (some ⟨W.heap.size,0,none⟩) 1 1) _ (Ea (Er _) _) ⟨rfl,sq_,Bxx.new _ _ _⟩) (by simp [ov,vat,upd])
    case fin=>
     rintro v lo hi W2 hb ⟨g0,g1,g2⟩ hf hap;show wpList _ _ _ [_,_,_] _ _;have e1:v 1=hv:=(hf 1 rfl).2.2.2;obtain ⟨l7,m7,n7,e7,lt7,hb7⟩:=hf 7 rfl;have hown1:=hown.ext hb;have hz2:=hb.size;have hnew:W2.cell? ⟨lo 7,0,none⟩=some (.int .i64 y):=(hb7.cells 0).1;clear hf hap g0 g1 g2;dsimp only;rw [e1,e7];generalize lo 7=bn at *;refine aj_ rq_ _ _ rq_ W1.heap.size hv _ y rq_ hown1 _ _ rq_ hnew ⟨oq_,oq_⟩ oq_ oq_ ?_;intro g cap W3 hown2 hgrow hbel;have hbel':Below W1.heap.size wr W3:=(hb.mono hs3).trans hbel;have hqf2:W3.frozen? ⟨ob,0,none⟩=false:=(Below.frozen hbel' (p:=⟨ob,0,none⟩) hs2).trans oz;have hqc2:W3.cell? ⟨ob,0,none⟩=some hv:=Below.cell' hbel' o0 hs2;go_wp2_with fail
     go_roundw
     case rel=>
      refine ⟨k+1,.slice (some ⟨g,0,none⟩) (((p.head.take k).filter (fun y=>decide (day≤y))).length+1) cap,oq_,by go_num,?_⟩;rw [HSU.out,if_pos d1];exact HST.out.step hbel' hown2
     case measure=>simp [intOf];omega
   ·have d1:decide (day≤y)=false:=by simp;omega
    go_wp2_with fail
    go_roundw
    case rel=>
     refine ⟨k+1,hv,oq_,by go_num,?_⟩;rw [HSU.out,if_neg (by rw [d1];simp),List.append_nil];exact HST.out
    case measure=>simp [intOf];omega
  ·obtain rfl:k=p.head.length:=oq_;rw [List.take_length,<- pe_ HW.out h0] at HST hown;obtain ⟨hl,hhl⟩:∃ hl,hl=(a9_ p day).head:=⟨_,rfl⟩;rw [<- hhl] at HST hown;have HHL:=hq_ hhl;obtain ⟨a9,c9,rfl⟩:=hown.form;have hpb:=HST.out.pb;have hrb:=HST.out.rb;have hobx:=HST.out.obx;have hbw:=HST.out.below;have hop:=hown.oin;clear hst hhl;go_wp2_with (go_at_call 168;refine (g7_ _ _ p f (f+p.period) _ (HP.out.ext xE) HW.out oq_ oq_ oq_ oq_ oq_ oq_).mono ?_;rintro e W4 ⟨mv,he,hmv,hb4⟩;subst he)
   obtain ⟨cl,hcl⟩:∃ cl,cl=sel p.mem f (f+p.period):=⟨_,rfl⟩;rw [<- hcl] at hmv;have hcb:∀ y∈cl,f≤y∧y<f+p.period:=fun y hy=>by rw [hcl] at hy;have:=(ae_ oq_ _).1 hy;omega
   have HCB:=hq_ hcb;have HCL:=hq_ hcl;obtain ⟨m8,c8,rfl⟩:=hmv.form;have hz4:=hb4.size;have HLI:=hq_ (LI.mk (hbw.trans (hb4.mono oq_)) (hpb.upto hb4 oq_) (hrb.upto hb4 oq_) (hobx.upto hb4 oq_) (OwnI.nil W4 W4.heap.size) (hop.below hb4 (Nat.le_refl _)) hob2 oq_ (Nat.le_refl _) (.inl hs2) oq_ oq_);have HMV:=hq_ hmv.oin;clear hmv hcl hcb hpb hrb hobx hbw hop hown
   go_loopw [8] (fun i wq=>∃ (k:Nat) (cyv:Value),k≤cl.length∧i=.int .i64 k∧LI w ob p (.slice a1 p.head.length c1) (.slice a2 p.cycle.length c2) f W1.heap.size wr.heap.size (.slice a9 hl.length c9) hl W4.heap.size cyv ((cl.take k).map fun y=>y-f) wq∧bo_ wq wr.heap.size W4.heap.size (.slice m8 cl.length c8) cl) (fun i _=>cl.length-(intOf i).toNat)
   case atStart=>exact ⟨0,_,oq_,rfl,HLI.out,HMV.out⟩
   case round=>
    obtain ⟨k,cyv,hk,rfl,hTw,hmv⟩:=hrel;have HMV:=hq_ hmv;have HTW:=hq_ hTw;have o0:=(hTw.obx.cells 0).1;have o1:=(hTw.obx.cells 1).1;have o2:=(hTw.obx.cells 2).1;have o3:=(hTw.obx.cells 3).1;have oz:=(hTw.obx.cells 3).2;have hs5:=hTw.o2;have hs6:=hTw.o3;have hown:=hTw.own
    by_cases hlt:k<cl.length
    ·have hlI:(k:Int)<cl.length:=oq_;obtain ⟨⟨a',c',he,_,_,h38⟩,hlen8,hrg⟩:=hmv.own.ints;injection he with e1 _ e2
     subst e1;subst e2;rcases h38 with h38|⟨b8,f8,rfl,hcell⟩
     ·rw [h38] at hlt;simp at hlt
     have hcl:=hcell k hlt;have hyb:=HCB.out _ (ah_ hlt);have htk:((cl.take (k+1)).map fun y=>y-f)=((cl.take k).map fun y=>y-f) ++ [cl.getD k 0-f]:=by
      rw [List.take_succ_eq_append_getElem hlt,List.map_append,List.getD_eq_getElem?_getD,List.getElem?_eq_getElem hlt];rfl
     have HTK:=hq_ htk;generalize cl.getD k 0=y at *;have hlen:((cl.take k).map fun y=>y-f).length=k:=by simp;omega
     have HLEN:=hq_ hlen;clear hcell hrg hTw hmv htk hlen;go_wp2_with fail
     refine ai_ (w0:=wr) [0,1,2,3,4,5,6,7,8,9] [10,11,12] (fun v=>⟨#[perV (.slice a1 p.head.length c1) (.slice a2 p.cycle.length c2) p.frm p.period,.int .i64 day,.pointer (some ⟨w.heap.size,0,none⟩),undef,.pointer (some ⟨w.heap.size+1,0,none⟩),.pointer (some ⟨ob,0,none⟩),.int .i64 ↑p.head.length,.slice (some ⟨b8,f8,none⟩) cl.length c8,.int .i64 ↑k,.pointer (some ⟨w.heap.size,1,none⟩),.int .i64 p.frm,.int .i64 day,.int .i64 f,.pointer (some ⟨w.heap.size,2,none⟩),.int .i64 p.period,.agg #[.slice none 0 0,.int .i64 f,.int .i64 p.period,.slice none 0 0],.int .i64 ↑p.head.length,.pointer (some ⟨w.heap.size,0,none⟩),.slice a1 p.head.length c1,.int .i64 ↑p.head.length,.bool false,u21,u22,u23,u24,u25,u26,u27,u28,u29,u30,u31,u32,u33,u34,u35,u36,u37,u38,u39,.agg #[.slice a1 p.head.length c1,.int .i64 p.frm,.int .i64 p.period,.slice a2 p.cycle.length c2],.pointer (some ⟨ob,1,none⟩),.int .i64 f,.pointer (some ⟨ob,1,none⟩),.int .i64 f,.pointer (some ⟨w.heap.size,2,none⟩),.int .i64 p.period,.int .i64 (f+p.period),.slice (some ⟨b8,f8,none⟩) cl.length c8,.int .i64 ↑k,.slice (some ⟨b8,f8,none⟩) cl.length c8,.int .i64 ↑cl.length,.bool true,u53,u54,v 0,v 1,v 2,v 3,v 4,v 5,v 6,v 7,v 8,v 9,u65,u66,undef],[]⟩) [.pointer (some ⟨ob,3,none⟩),cyv,.slice (some ⟨b8,f8,none⟩) cl.length c8,.int .i64 k,.pointer (some ⟨b8,f8+k,none⟩),.int .i64 y,.pointer (some ⟨ob,1,none⟩),.int .i64 f,.int .i64 (y-f),undef] [9] (fun i v lo hi W=>match i with|9=>v 9=.slice (some ⟨lo 9,0,none⟩) 1 1∧lo 9<hi 9∧Bxx W (lo 9) #[.int .i64 (y-f)] 3|_=>True) (fun W=>W.cell? ⟨b8,f8+k,none⟩=some (.int .i64 y)∧W.cell? ⟨ob,1,none⟩=some (.int .i64 f)∧W.cell? ⟨ob,3,none⟩=some cyv) (fun W9 hb=>⟨cux hcl hb,cux o1 hb,cux o3 hb⟩) ?stab ?loc ?steps ?fin (fun j=>match j with|0=>u55|1=>u56|2=>u57|3=>u58|4=>u59|5=>u60|6=>u61|7=>u62|8=>u63|9=>u64|_=>undef)
     case stab=>
      refine ⟨?_,trivial⟩
      ·intro v lo hi W W' h hb;exact ⟨h.1,h.2.1,h.2.2.below hb⟩
     case loc=>
      refine ⟨?_,trivial⟩
      ·intro v v' lo lo' hi hi' W hag h;have q:=hag 9 (.inl rfl)
       (try dsimp only at h ⊢)
       simp only [q.1,q.2.1,q.2.2] at h;exact h
     case steps=>
      refine .c [] [] rfl ?_ (.c [0] [] rfl ?_ (.c [] [] rfl ?_ (.c [] [] rfl ?_ (.c [2,3] [] rfl ?_ (.c [4] [] rfl ?_ (.c [] [] rfl ?_ (.c [6] [] rfl ?_ (.c [5,7] [] rfl ?_ (.c [8] [] rfl ?_ (.n))))))))))
      all_goals try exact stw
      ·rintro v lo hi W hb ⟨g0,g1,g2⟩ _;refine .inl ⟨rfl,fun K hK=>?_⟩;simp only [ov,vat,Nat.reduceBEq,cond_true,cond_false];go_wp2_with fail
       exact acx (hK (.slice (some ⟨W.heap.size,0,none⟩) 1 1) _ (Ea (Er _) _) ⟨rfl,sq_,Bxx.new _ _ _⟩) (by simp [ov,vat,upd])
     case fin=>
      rintro v lo hi W2 hb ⟨g0,g1,g2⟩ hf hap;show wpList _ _ _ [_,_,_] _ _;have e1:v 1=cyv:=(hf 1 rfl).2.2.2;obtain ⟨l9,m9,n9,e9,lt9,hb9⟩:=hf 9 rfl;have hown1:=hown.ext hb;have hz2:=hb.size;have hnew:W2.cell? ⟨lo 9,0,none⟩=some (.int .i64 (y-f)):=(hb9.cells 0).1;clear hf hap g0 g1 g2;dsimp only;rw [e1,e9];generalize lo 9=bn at *;refine aj_ rq_ _ _ rq_ W4.heap.size cyv _ (y-f) rq_ hown1 _ _ rq_ hnew ⟨oq_,oq_⟩ (by rw [HLEN.out];omega) oq_ ?_;intro g cap W3 hown2 hgrow hbel;rw [HLEN.out] at hown2 ⊢;have hbel':Below W4.heap.size wr W3:=(hb.mono hs6).trans hbel;have hqf2:W3.frozen? ⟨ob,3,none⟩=false:=(Below.frozen hbel' (p:=⟨ob,3,none⟩) hs5).trans oz;have hqc2:W3.cell? ⟨ob,3,none⟩=some cyv:=Below.cell' hbel' o3 hs5;go_wp2_with fail
      go_roundw
      case rel=>
       refine ⟨k+1,.slice (some ⟨g,0,none⟩) (k+1) cap,oq_,by go_num,?_,?_⟩
       ·rw [HTK.out];exact HTW.out.step hbel' hown2
       ·exact (HMV.out.below hbel' (Nat.le_refl _)).set _ (.inl oq_)
      case measure=>simp [intOf];omega
    ·obtain rfl:k=cl.length:=oq_;have hcy:=hown.oin;rw [List.take_length] at hcy;have hcq:(a9_ p day).cycle=cl.map (fun y=>y-f):=by rw [om_ HW.out h0,<- HF.out,<- HCL.out]
     rw [<- hcq] at hcy;obtain ⟨ql,hql⟩:∃ ql,ql=(a9_ p day).cycle:=⟨_,rfl⟩;rw [<- hql] at hcy;have HQL:=hq_ hql;have HCY:=hq_ hcy;obtain ⟨ya,yc,rfl⟩:=hcy.own.form;have hhd:=HTW.out.hd;have hrb2:=HTW.out.rb;have o6:=HTW.out.o6;have hbW:=HTW.out.below;have j0:=hrb2.cells 0;have j1:=hrb2.cells 1;have j2:=hrb2.cells 2;have j3:=hrb2.cells 3;have HHD:=hq_ hhd;have hrs:=hrb2.lt;clear hcy hql hcq hown hTw hmv hhd hrb2;go_wp2_with fail
     refine bodyPost_ret (v:=perV (.slice a9 hl.length c9) (.slice ya ql.length yc) f p.period) (by simp [results,Tryz.results137,go_sem, *]) rfl ⟨.slice a9 hl.length c9,.slice ya ql.length yc,?_,⟨?_,?_⟩,xE⟩
     ·simp only [a9_,HF.out]
     ·have h1:bo_ _ _ _ (.slice a9 hl.length c9) hl:=(((HHD.out.set (b:=w.heap.size+1) (i:=0) (.slice a9 hl.length c9) oq_).set (b:=w.heap.size+1) (i:=1) (.int .i64 f) oq_).set (b:=w.heap.size+1) (i:=2) (.int .i64 p.period) oq_).set (b:=w.heap.size+1) (i:=3) (.slice ya ql.length yc) oq_;have h2:=h1.own.mono (base':=w.heap.size) oq_;rw [<- HHL.out];exact h2
     ·have h1:bo_ _ _ _ (.slice ya ql.length yc) ql:=(((HCY.out.set (b:=w.heap.size+1) (i:=0) (.slice a9 hl.length c9) oq_).set (b:=w.heap.size+1) (i:=1) (.int .i64 f) oq_).set (b:=w.heap.size+1) (i:=2) (.int .i64 p.period) oq_).set (b:=w.heap.size+1) (i:=3) (.slice ya ql.length yc) oq_;have h2:=h1.own.mono (base':=w.heap.size) oq_;rw [<- HQL.out];exact h2
theorem d3_ (h:k<l.length):l.take (k+1)=l.take k ++ [l.getD k 0]:=by
 rw [List.take_succ_eq_append_getElem h,List.getD_eq_getElem?_getD,List.getElem?_eq_getElem h];rfl
theorem jk_ (v:Value) (l:List Int) (w:World) (hv:Ints w v l) :
  Calls Tryz.prog 169 #[v] w (ib_ l w):=by
 have HV:=hq_ hv;obtain ⟨⟨a1,c1,rfl,_,_,_⟩,hlen,_⟩:=hv
 go_enter Tryz.func169,Tryz.ntmps169
 go_upto_region 2 with (fail)
 refine al_ (F:=fun U=>OwnI U w.heap.size (.slice (some ⟨w.heap.size,0,none⟩) 0 0) []∧Below w.heap.size w U) ⟨OwnI.empty (Nat.le_refl _),xE⟩ ?_;rintro W2 ⟨hown0,hE2⟩;go_wp2_with fail
 go_loopw [3,4] (fun o i wr=>∃ k:Nat,k≤l.length∧i=.int .i64 k∧OwnI wr w.heap.size o (l.take k)∧Below w.heap.size w wr) (fun _ i _=>l.length-(intOf i).toNat)
 case atStart=>exact ⟨0,oq_,rfl,hown0,hE2⟩
 case round=>
  obtain ⟨k,hk,rfl,hown,hb⟩:=hrel;have HB:=hq_ hb;have hszr:=hb.size
  by_cases hlt:k<l.length
  ·have hlI:(k:Int)<l.length:=oq_;obtain ⟨⟨a',c',he,_,_,h38⟩,_,hrg⟩:=HV.out.ext hb;injection he with e1 _ e2
   subst e1;subst e2;rcases h38 with h38|⟨b,o,rfl,hcell⟩
   ·rw [h38] at hlt;simp at hlt
   have hcl:=hcell k hlt;have hyI:=hrg _ (ah_ hlt);unfold InI at hyI;have HSU:=hq_ (d3_ hlt);have hll:(l.take k).length=k:=by simp;omega
   generalize l.getD k 0=y at *;obtain ⟨L,hL⟩:∃ L,L=l.take k:=⟨_,rfl⟩;rw [<- hL] at hown hll HSU;obtain ⟨oa,oc,rfl⟩:=hown.form;have HOWN:=hq_ hown;clear hcell hL hown hb hrg;go_wp2_with (at_builtin;refine aj_ rq_ _ _ rq_ w.heap.size (.slice oa L.length oc) L y rq_ (HOWN.out.ext xE) _ _ rq_ (by first|(simp;done)|exact ((Bxx.new _ #[.int .i64 y] _).cells 0).1) ⟨oq_,oq_⟩ oq_ tq_ ?_;intro gg cap w6 hown6 hgrow6 hbel6)
   go_roundw
   case rel=>
    refine ⟨k+1,oq_,by go_num,?_,(HB.out.alloc oq_ _).trans hbel6⟩;rw [HSU.out];rw [hll] at hown6;exact hown6
   case measure=>simp [intOf];omega
  ·obtain rfl:k=l.length:=oq_;rw [List.take_length] at hown;have HOWN:=hq_ hown;obtain ⟨oa,oc,rfl⟩:=hown.form;clear hown hb;go_wp2_with fail
   go_ret;exact ⟨_,rfl,HOWN.out,HB.out⟩
theorem sl_ (A B:List Int) (a x:Int):((A ++ a :: x :: B).set (A.length+1) a).set A.length x=A ++ x :: a :: B:=by
 simp [List.set_append]
theorem OwnI.swap {n:Nat} {A B:List Int} (h:OwnI w base (.slice (some ⟨g,0,none⟩) n cap) (A ++ a :: x :: B)) (hn:n=(A ++ a :: x :: B).length) :
  OwnI ((w.setCell ⟨g,A.length+1,none⟩ (.int .i64 a)).setCell ⟨g,A.length,none⟩ (.int .i64 x)) base (.slice (some ⟨g,0,none⟩) n cap) (A ++ x :: a :: B):=by
 have hr:=h.row;subst hn;have h1:=(hr.stored (A.length+1) (.int .i64 a)).1;have h2:=(h1.stored A.length (.int .i64 x)).1;rw [<- List.map_set (f:=Value.int .i64),<- List.map_set (f:=Value.int .i64),sl_] at h2;refine ⟨?_,fun y hy=>h.rng y (by simp at hy ⊢;grind),by have:=h.len;simp at this ⊢;omega⟩;have e:(A ++ x :: a :: B).length=(A ++ a :: x :: B).length:=by simp
 rw [e];exact h2
theorem lw_ (h:j<X.length) (x:Int):X.take (j+1) ++ x :: X.drop (j+1)=X.take j ++ X.getD j 0 :: x :: X.drop (j+1):=by
 rw [d3_ h];simp
theorem r0_ (h:j<X.length) (x:Int):X.take j ++ x :: X.getD j 0 :: X.drop (j+1)=X.take j ++ x :: X.drop j:=by
 rw [<- drop_cons h]
theorem rv_ (hX:X.Pairwise (· < ·)) (hj:j≤X.length) (hlo:j=0∨X.getD (j-1) 0<x) (hhi:∀ y∈X.drop j,x<y):(X.take j ++ x :: X.drop j).Pairwise (· < ·):=by
 have hlow:∀ y∈X.take j,y<x:=by
  rcases hlo with rfl|hlo
  ·simp
  ·intro y hy;obtain ⟨i,hi,rfl⟩:=List.mem_take_iff_getElem.1 hy;have hi2:i<j∧i<X.length:=oq_;have e:X.getD (j-1) 0=X[j-1]' oq_:=by rw [List.getD_eq_getElem?_getD,List.getElem?_eq_getElem oq_];rfl
   rw [e] at hlo;rcases Nat.lt_or_ge i (j-1) with h|h
   ·have:=List.pairwise_iff_getElem.1 hX i (j-1) hi2.2 oq_ h;omega
   ·have:i=j-1:=oq_;subst this;exact hlo
 refine List.pairwise_append.2 ⟨hX.sublist (List.take_sublist _ _),List.pairwise_cons.2 ⟨fun y hy=>hhi y hy,hX.sublist (List.drop_sublist _ _)⟩,fun y hy z hz=>?_⟩;rw [List.mem_cons] at hz;have h1:=hlow y hy;rcases hz with rfl|hz
 ·exact h1
 ·have:=hhi z hz;omega
theorem ut_ (h:j<X.length):(X.take (j+1) ++ x :: X.drop (j+1))[j]? = some (X.getD j 0):=by
 rw [lw_ h,List.getElem?_append_right tq_,List.length_take,show j-min j X.length=0 from by omega];rfl
theorem uw_ (h:j≤X.length):(X.take j ++ x :: X.drop j)[j]? = some x:=by
 rw [List.getElem?_append_right tq_,List.length_take,show j-min j X.length=0 from by omega];rfl
theorem wj_ (y:Int):y∈X.take j ++ x :: X.drop j↔y∈X∨y=x:=by
 rw [List.mem_append,List.mem_cons];constructor
 ·rintro (h|rfl|h)
  ·exact .inl (List.mem_of_mem_take h)
  ·exact .inr rfl
  ·exact .inl (List.mem_of_mem_drop h)
 ·rintro (h|rfl)
  ·rw [<- List.take_append_drop j X,List.mem_append] at h;rcases h with h|h
   ·exact .inl h
   ·exact .inr (.inr h)
  ·exact .inr (.inl rfl)
theorem jf_ (v:Value) (l:List Int) (w:World) (hv:Ints w v l) (hnd:l.Nodup) :
  Calls Tryz.prog 172 #[v] w (ib_ (a0_ l) w):=by
 have HV:=hq_ hv;have HND:=hq_ hnd;obtain ⟨⟨a1,c1,rfl,_,_,_⟩,hlen,_⟩:=hv;clear hnd
 go_enter Tryz.func172,Tryz.ntmps172
 go_upto_region 2 with (fail)
 refine al_ (F:=fun U=>OwnI U w.heap.size (.slice (some ⟨w.heap.size,0,none⟩) 0 0) []∧Below w.heap.size w U) ⟨OwnI.empty (Nat.le_refl _),xE⟩ ?_;rintro W2 ⟨hown0,hE2⟩;go_wp2_with fail
 go_loopw [3,4] (fun o i wr=>∃ (k:Nat) (X:List Int),k≤l.length∧i=.int .i64 k∧OwnI wr w.heap.size o X∧X.length=k∧X.Pairwise (· < ·)∧(∀ y,y∈X↔y∈l.take k)∧Below w.heap.size w wr) (fun _ i _=>l.length-(intOf i).toNat)
 case atStart=>exact ⟨0,[],oq_,rfl,hown0,rfl,.nil,sq_,hE2⟩
 case round=>
  obtain ⟨k,X,hk,rfl,hown,hXl,hXp,hXm,hb⟩:=hrel;have HB:=hq_ hb;have HXP:=hq_ hXp;have HXM:=hq_ hXm;have hszr:=hb.size;clear hXp hXm
  by_cases hlt:k<l.length
  ·have hlI:(k:Int)<l.length:=oq_;obtain ⟨⟨a',c',he,_,_,h38⟩,_,hrg⟩:=HV.out.ext hb;injection he with e1 _ e2
   subst e1;subst e2;rcases h38 with h38|⟨b,o,rfl,hcell⟩
   ·rw [h38] at hlt;simp at hlt
   have hcl:=hcell k hlt;have hyI:=hrg _ (ah_ hlt);unfold InI at hyI;have HSU:=hq_ (d3_ hlt);have hnew:l.getD k 0 ∉ X:=by
    intro h;have h2:=(HXM.out _).1 h;have h3:=(List.nodup_append.1 (HSU.out ▸ (HND.out.sublist (List.take_sublist (k+1) l)))).2.2 _ h2 (l.getD k 0) sq_;exact h3 rfl
   have HNEW:=hq_ hnew;clear hnew;generalize l.getD k 0=x at *;obtain ⟨oa,oc,rfl⟩:=hown.form;have HOWN:=hq_ hown;clear hcell hown hb hrg;go_wp2_with (at_builtin;refine aj_ rq_ _ _ rq_ w.heap.size (.slice oa X.length oc) X x rq_ (HOWN.out.ext xE) _ _ rq_ (by first|(simp;done)|exact ((Bxx.new _ #[.int .i64 x] _).cells 0).1) ⟨oq_,oq_⟩ oq_ tq_ ?_;intro gg cap w6 hown6 hgrow6 hbel6)
   have hbe:Below w.heap.size w w6:=(HB.out.alloc oq_ _).trans hbel6;have hgg:=hown6.lt gg rfl;have hst6:OwnI w6 w.heap.size (.slice (some ⟨gg,0,none⟩) (k+1) cap) (X.take k ++ x :: X.drop k):=by
    rw [List.take_of_length_le oq_,List.drop_eq_nil_of_le oq_,<- hXl];exact hown6
   have HST6:=hq_ hst6;have HBE:=hq_ hbe;have hgl:=hgg.1;have HXL:=hq_ hXl;clear hst6 hbe hown6 hgrow6 hbel6 hgg;have HNX:Hid (∀ j:Nat,j≤k->(j=0∨X.getD (j-1) 0<x)->(∀ y∈X.drop j,x<y)->(X.take j ++ x :: X.drop j).length=k+1∧(X.take j ++ x :: X.drop j).Pairwise (· < ·)∧(∀ y,y∈X.take j ++ x :: X.drop j↔y∈l.take (k+1))):=hq_ (fun j hj h1 h2=>⟨tq_,rv_ HXP.out oq_ h1 h2,fun y=>by rw [wj_,HXM.out,HSU.out,List.mem_append,List.mem_singleton]⟩)
   go_loopw [5,6] (fun av _ wq=>∃ j:Nat,j≤k∧av=.int .i64 j∧OwnI wq w.heap.size (.slice (some ⟨gg,0,none⟩) (k+1) cap) (X.take j ++ x :: X.drop j)∧(∀ y∈X.drop j,x<y)∧Below w.heap.size w wq) (fun av _ _=>(intOf av).toNat)
   case atStart=>exact ⟨k,oq_,rfl,HST6.out,by rw [List.drop_eq_nil_of_le (by have:=HXL.out;omega)];simp,HBE.out⟩
   case round=>
    obtain ⟨j,hj,rfl,hown,hgt,hb⟩:=hrel;have HB2:=hq_ hb;have HOWN:=hq_ hown;have HGT:=hq_ hgt;have hbs:=hb.size;clear hgt hb
    by_cases hj0:j=0
    ·have hkz:¬ (0:Int)<j:=oq_;have hkd:decide ((0:Int)<(j:Int))=false:=by simp;omega
     have hkn:decide (0<j)=false:=by simp;omega
     have hkm:¬ 0<j:=oq_;have HJ0:=hq_ hj0;clear hj0 hown;go_wp2_with fail
     go_quiet (fail)
     go_wp2_with fail
     go_roundw
     case rel=>
      have h:=HNX.out j hj (.inl HJ0.out) HGT.out;exact ⟨k+1,_,oq_,by go_num,HOWN.out.ext xE,h.1,h.2.1,h.2.2,by have hb:=HB2.out;exact xE⟩
     case measure=>simp [intOf];omega
    ·obtain ⟨i,rfl⟩:∃ i,j=i+1:=⟨j-1,oq_⟩;have hix:i<X.length:=oq_;have hrow:=hown.row;have hLl:(X.take (i+1) ++ x :: X.drop (i+1)).length=k+1:=by simp;omega
     rw [hLl] at hrow;have cz:=hrow.cellAt i oq_;have cx:=hrow.cellAt (i+1) oq_;have fz:=hrow.frozenAt i;have fx:=hrow.frozenAt (i+1);rw [List.getElem?_map,ut_ hix] at cz;rw [List.getElem?_map,uw_ oq_] at cx;have HSP:=hq_ (lw_ hix x);have HSQ:=hq_ (r0_ hix x);have HDR:=hq_ (drop_cons hix);have hzn:X.getD i 0≠x:=fun e=>HNEW.out (e ▸ ah_ hix);have HIZ:Hid (X.getD (i+1-1) 0=X.getD i 0):=hq_ rfl;have htl:(X.take i).length=i:=by simp;omega
     have HTL:=hq_ htl;generalize X.getD i 0=z at *;have hkz:(0:Int)<((i+1:Nat):Int):=oq_;have hs1:(((i+1:Nat):Int)-1)=(i:Int):=oq_;clear hown hrow hLl hix hj0 htl
     by_cases hxz:x<z
     ·have d1:decide (x<z)=true:=by simp [hxz]
      go_wp2_with fail
      go_quiet (fail)
      go_wp2_with fail
      go_roundw
      case rel=>
       have h1:∀ m,OwnI (((wr.drewN m).setCell ⟨gg,i+1,none⟩ (.int .i64 z)).setCell ⟨gg,i,none⟩ (.int .i64 x)) w.heap.size (.slice (some ⟨gg,0,none⟩) (k+1) cap) (X.take i ++ x :: X.drop i):=fun m=>by
        have h0:=HOWN.out.ext (Below.drewN (Below.refl _ wr) m);rw [HSP.out] at h0;have hln:k+1=(X.take i ++ z :: x :: X.drop (i+1)).length:=by have:=HXL.out;rw [List.length_append,HTL.out];simp;omega
        have h2:=h0.swap hln;rw [HTL.out,HSQ.out] at h2;exact h2
       refine ⟨i,oq_,by go_num,h1 _,?_,by have hb:=HB2.out;exact xE⟩;rw [HDR.out];intro y hy;rw [List.mem_cons] at hy;rcases hy with rfl|hy
       ·exact hxz
       ·exact HGT.out y hy
      case measure=>simp [intOf]
     ·have d1:decide (x<z)=false:=by simp;omega
      go_wp2_with fail
      go_quiet (fail)
      go_wp2_with fail
      go_roundw
      case rel=>
       have h:=HNX.out (i+1) hj (.inr (by rw [HIZ.out];omega)) HGT.out;exact ⟨k+1,_,oq_,by go_num,HOWN.out.ext xE,h.1,h.2.1,h.2.2,by have hb:=HB2.out;exact xE⟩
      case measure=>simp [intOf];omega
  ·obtain rfl:k=l.length:=oq_;obtain ⟨oa,oc,rfl⟩:=hown.form;have HOWN:=hq_ hown;clear hown hb;have HEQ:Hid (X=a0_ l):=hq_ (ep_ HXP.out (ga_ HND.out) fun y=>by rw [HXM.out,dj_,List.take_length]);go_wp2_with fail
   go_ret;exact ⟨_,rfl,HEQ.out ▸ HOWN.out,HB.out⟩
theorem id_ (cv:Value) (C:List Int) (T:Int) (d:Int) (k:Nat) (w:World) (hT:T≤1125899906842624) (hC:Rise 0 T C) (hcv:Ints w cv C) (hd0:0≤d) (hd1:d≤T) (hk1:1≤k) (hkn:k≤C.length) :
  Calls Tryz.prog 195 #[cv,.int .i64 d,.int .i64 k] w fun e w'=>e=.returned (.bool (e1_ C d k))∧∃ n,w'=w.drewN n:=by
 obtain ⟨⟨a,c,rfl,hlc,hcc,hcells⟩,hlen,_⟩:=hcv;rcases hcells with h|⟨b,o,rfl,hcell⟩
 ·subst h;simp at hkn;omega
 have hE:∀ i,i<C.length->0≤C.getD i 0∧C.getD i 0<T:=fun i hi=>by rw [c2_ hi];exact hC.get_bounds hi
 have HC:=hq_ hcell;have HE:=hq_ hE;clear hcell hE
 go_enter Tryz.func195,Tryz.ntmps195
 go_wp2_with fail
 go_loopw [7] (fun i wr=>∃ j:Nat,j+k≤C.length∧i=.int .i64 j∧(∀ x,x<j->C.getD (x+k) 0=C.getD x 0+d)∧∃ n,wr=w.drewN n) (fun i _=>C.length-(intOf i).toNat)
 case atStart=>exact ⟨0,oq_,rfl,fun x h1=>oq_,0,rfl⟩
 case round=>
  obtain ⟨j,hj,rfl,hall,n,rfl⟩:=hrel;have HA:=hq_ hall;clear hall
  by_cases hlt:j+k<C.length
  ·have h1:=HC.out (j+k) hlt;have h2:=HC.out j oq_;have e1:=HE.out (j+k) hlt;have e2:=HE.out j oq_;obtain ⟨x,hx⟩:∃ x,x=C.getD (j+k) 0:=⟨_,rfl⟩;obtain ⟨y,hy⟩:∃ y,y=C.getD j 0:=⟨_,rfl⟩;rw [<- hx] at h1 e1;rw [<- hy] at h2 e2;have HX:=hq_ hx;have HY:=hq_ hy;clear hx hy;have hltI:(j:Int)+(k:Int)<C.length:=oq_;go_wp2_with fail
   go_quiet (fail)
   go_wp2_with fail
   ·have hne:x≠y+d:=by simpa using ‹(x != y+d)=true›
    go_ret;refine ⟨ac_ ?_,_,World.drewN_drewN _ _ _⟩;have hnp:¬ db_ C d k:=fun h=>hne (by
     rw [HX.out,HY.out,c2_ hlt,c2_ (show j<C.length by omega)];have:=h.1 (j+k) hlt oq_;simpa using this)
    have hf:e1_ C d k=false:=by rw [<- Bool.not_eq_true,cw_];exact hnp
    rw [hf]
   ·have heq:x=y+d:=by simpa using ‹(x != y+d)=false›
    refine ⟨⟨j+1,oq_,by go_num,fun z h1=>?_,_,rfl⟩,by simp [intOf];try omega⟩;rcases Nat.lt_or_ge z j with h3|h3
    ·exact HA.out z h3
    ·obtain rfl:z=j:=oq_;rw [<- HX.out,<- HY.out];exact heq
  ·have hjn:¬ (j:Int)+(k:Int)<C.length:=oq_;have h1:=HC.out (k-1) oq_;have e1:=HE.out (k-1) oq_;have hs:((k:Int)-1).toNat=k-1:=oq_;obtain ⟨x,hx⟩:∃ x,x=C.getD (k-1) 0:=⟨_,rfl⟩;rw [<- hx] at h1 e1;have hkI:(1:Int)≤k:=oq_;have hlz:((C.length:Int) == 0)=false:=by rw [beq_eq_false_iff_ne];omega
   have hln:¬ (C.length:Int)=0:=oq_;have hfin:e1_ C d k=decide (x<d):=by
    rw [Bool.eq_iff_iff,cw_,decide_eq_true_iff,hx,c2_ (show k-1<C.length by omega)];constructor
    ·exact fun h=>h.2.2
    ·refine fun h=>⟨fun i hi hki=>?_,oq_,h⟩;have:=HA.out (i-k) oq_;rw [show i-k+k=i from by omega] at this;rwa [c2_ hi,c2_ (show i-k<C.length by omega)] at this
   have HF:=hq_ hfin;clear hx hfin;go_wp2_with fail
   all_goals go_ret
   all_goals exact ⟨ac_ HF.out.symm,_,rfl⟩
def v8_ (p:Per) (w:World) (e:Ending) (w':World):Prop:=
 ∃ (d:Int) (k:Nat),e=.returned (.int .i64 d)∧e2_ p d (p.cycle.take k)∧1≤k∧k≤p.cycle.length∧Below w.heap.size w w'
theorem re_ (h c:Value) (p:Per) (w:World) (hp:a8_ w h c p) (hw:p.WF) (hne:p.cycle≠[]) (hT:p.period≤1125899906842624) :
  Calls Tryz.prog 170 #[perV h c p.frm p.period] w (v8_ p w):=by
 have hT0:=hw.per;have hn1:1≤p.cycle.length:=by
  rcases Nat.eq_zero_or_pos p.cycle.length with h|h
  ·exact absurd (List.eq_nil_of_length_eq_zero h) hne
  ·exact h
 obtain ⟨a1,c1,a2,c2,rfl,rfl⟩:=hp.inn.form;have H2:=hq_ hp.cy;have hlI:(1:Int)≤p.cycle.length:=oq_;have HLE:=hp.cy.len;clear hp
 go_enter Tryz.func170,Tryz.ntmps170
 go_upto_region 1 with (fail)
 refine al_ (F:=fun U=>Bxx U w.heap.size #[.slice a1 p.head.length c1,.int .i64 p.frm,.int .i64 p.period,.slice a2 p.cycle.length c2] 39∧w.heap.size<U.heap.size∧Below w.heap.size w U) ⟨xB,sq_,xE⟩ ?_;rintro W1 ⟨hbx,hz1,hE⟩;have HBX:=hq_ hbx;have HE:=hq_ hE;have q3:=(hbx.cells 3).1;clear hbx hE;go_wp2_with fail
 go_loopw [4] (fun q wr=>∃ j:Nat,1≤j∧j≤p.cycle.length∧q=.int .i64 j∧(∀ q' d' k',j<q'->1≤d'->1≤k'->p.period=(q':Nat)*d'->p.cycle.length=q' * k'->¬ db_ p.cycle d' k')∧Below W1.heap.size W1 wr) (fun q _=>(intOf q).toNat)
 case atStart=>
  refine ⟨p.cycle.length,hn1,Nat.le_refl _,rfl,fun q' d' k' h1 h2 h3 h4 h5=>?_,Below.refl _ _⟩;have:q' * 1≤q' * k':=Nat.mul_le_mul_left _ h3;omega
 case round=>
  obtain ⟨j,hj1,hjn,rfl,hmax,hb⟩:=hrel;have HM:=hq_ hmax;have HB:=hq_ hb;have hbx:=HBX.out.below hb;have q0:=(hbx.cells 0).1;have q1:=(hbx.cells 1).1;have q2:=(hbx.cells 2).1;have q3:=(hbx.cells 3).1;clear hmax hbx hb
  by_cases hgt:1<j
  ·have hjI:(1:Int)<j:=oq_;have hjz:¬ (j:Int)=0:=oq_;have ht1:(p.cycle.length:Int).tmod j=(p.cycle.length:Int) % j:=Int.tmod_eq_emod_of_nonneg oq_;have ht2:p.period.tmod (j:Int)=p.period % (j:Int):=Int.tmod_eq_emod_of_nonneg oq_;obtain ⟨r1,hr1⟩:∃ r1,r1=(p.cycle.length:Int) % j:=⟨_,rfl⟩;obtain ⟨r2,hr2⟩:∃ r2,r2=p.period % (j:Int):=⟨_,rfl⟩;have hstep:(∀ d' k',1≤d'->1≤k'->p.period=(j:Nat)*d'->p.cycle.length=j*k'->¬ db_ p.cycle d' k')->∀ q' d' k',j-1<q'->1≤d'->1≤k'->p.period=(q':Nat)*d'->p.cycle.length=q' * k'->¬ db_ p.cycle d' k':=fun h q' d' k' h1 h2 h3 h4 h5=>by
    rcases Nat.lt_or_ge j q' with h7|h7
    ·exact HM.out q' d' k' h7 h2 h3 h4 h5
    ·obtain rfl:q'=j:=oq_;exact h d' k' h2 h3 h4 h5
   have HSTEP:=hq_ hstep;clear hstep
   by_cases hd1:(p.cycle.length:Int) % j=0
   ·by_cases hd2:p.period % j=0
    ·obtain ⟨d,hd⟩:∃ d,p.period / j=d:=⟨_,rfl⟩;obtain ⟨k,hk⟩:∃ k:Nat,(p.cycle.length:Int) / j=k:=⟨p.cycle.length / j,sq_⟩;have hTd:p.period=(j:Nat)*d:=by rw [<- hd];exact (Int.mul_ediv_cancel' (Int.dvd_of_emod_eq_zero hd2)).symm
     have hnk:p.cycle.length=j*k:=by
      have:=Int.mul_ediv_cancel' (Int.dvd_of_emod_eq_zero hd1);rw [hk] at this;have e:((j*k:Nat):Int)=p.cycle.length:=by rw [<- this];push_cast;rfl
      omega
     have hd1':1≤d:=by
      rcases Int.lt_or_le 0 d with h|h
      ·omega
      ·have:=Int.mul_nonpos_of_nonneg_of_nonpos (show (0:Int)≤(j:Nat) by omega) h;omega
     have hk1':1≤k:=by
      rcases Nat.eq_zero_or_pos k with h|h
      ·subst h;exact absurd (by simpa using hnk) hne
      ·exact h
     have hkn:k≤p.cycle.length:=by rw [hnk];exact Nat.le_mul_of_pos_left k oq_
     have hdT:d≤p.period:=hd ▸ Int.ediv_le_self _ oq_;have HTd:=hq_ hTd;have HNK:=hq_ hnk;have hb1:((p.cycle.length:Int) % j == 0)=true:=by simpa using hd1
     have hb2:(p.period % (j:Int) == 0)=true:=by simpa using hd2
     have ht3:p.period.tdiv (j:Int)=d:=by rw [Int.tdiv_eq_ediv_of_nonneg oq_];exact hd
     have ht4:(p.cycle.length:Int).tdiv j=k:=by rw [Int.tdiv_eq_ediv_of_nonneg oq_];exact hk
     have HD:=hq_ hd;clear hTd hnk hd1 hd2 hr1 hr2 hd hk;cases hP:e1_ p.cycle d k with
     | true=>
      have hPP:=cw_.1 hP;have HS:=hq_ (d4_ hw hne hd1' oq_ HTd.out HNK.out hk1' hPP (fun q' d' k'=>HM.out q' d' k'));have HP:=hq_ hP;have HCALL:Hid (∀ W,Below wr.heap.size wr W->Calls Tryz.prog 195 #[.slice a2 p.cycle.length c2,.int .i64 d,.int .i64 k] W fun e w'=>e=.returned (.bool true)∧∃ n,w'=W.drewN n):=hq_ (fun W hb=>by
       have:=id_ _ p.cycle p.period d k W hT hw.cyc (((H2.out.ext HE.out).ext HB.out).ext hb) oq_ hdT hk1' hkn;rw [hP] at this;exact this)
      clear hPP hP;go_wp2_with fail
      go_quiet ((go_at_call 195;(first|exact Calls.quiet_of (HCALL.out _ xE)|exact d9_ (HCALL.out _ xE))))
      go_wp2_with fail
      go_ret;exact ⟨d,k,d2_ (by first|rfl|exact HD.out),HS.out,hk1',hkn,by have hE:=HE.out;have hb:=HB.out;exact xE⟩
     | false=>
      have HP:=hq_ hP;have HCALL:Hid (∀ W,Below wr.heap.size wr W->Calls Tryz.prog 195 #[.slice a2 p.cycle.length c2,.int .i64 d,.int .i64 k] W fun e w'=>e=.returned (.bool false)∧∃ n,w'=W.drewN n):=hq_ (fun W hb=>by
       have:=id_ _ p.cycle p.period d k W hT hw.cyc (((H2.out.ext HE.out).ext HB.out).ext hb) oq_ hdT hk1' hkn;rw [hP] at this;exact this)
      clear hP;go_wp2_with fail
      go_quiet ((go_at_call 195;(first|exact Calls.quiet_of (HCALL.out _ xE)|exact d9_ (HCALL.out _ xE))))
      go_wp2_with fail
      go_roundw
      case rel=>
       refine ⟨j-1,oq_,oq_,by congr 1;omega,HSTEP.out (fun d' k' h2 h3 h4 h5 h6=>?_),by have hb:=HB.out;exact xE⟩;have e1:d'=d:=Int.eq_of_mul_eq_mul_left (show ((j:Nat):Int)≠0 by omega) (h4.symm.trans HTd.out);have e2:k'=k:=Nat.eq_of_mul_eq_mul_left (show 0<j by omega) (h5.symm.trans HNK.out);subst e1;subst e2;have hP:=HP.out;rw [cw_.2 h6] at hP;cases hP
      case measure=>simp [intOf];omega
    ·have HD2:=hq_ (HSTEP.out (fun d' k' h2 h3 h4 h5 h6=>hd2 (by rw [h4];exact Int.mul_emod_right _ _)));have hb1:((p.cycle.length:Int) % j == 0)=true:=by simpa using hd1
     have hb2:(p.period % (j:Int) == 0)=false:=by simpa using hd2
     clear hd1 hd2 hr1 hr2;go_wp2_with fail
     go_quiet (fail)
     go_wp2_with fail
     go_roundw
     case rel=>exact ⟨j-1,oq_,oq_,by congr 1;omega,HD2.out,by have hb:=HB.out;exact xE⟩
     case measure=>simp [intOf];omega
   ·have HD1:=hq_ (HSTEP.out (fun d' k' h2 h3 h4 h5 h6=>hd1 (by rw [h5];push_cast;exact Int.mul_emod_right _ _)));have hb1:((p.cycle.length:Int) % j == 0)=false:=by simpa using hd1
    clear hd1 hr1 hr2;go_wp2_with fail
    go_quiet (fail)
    go_wp2_with fail
    go_roundw
    case rel=>exact ⟨j-1,oq_,oq_,by congr 1;omega,HD1.out,by have hb:=HB.out;exact xE⟩
    case measure=>simp [intOf];omega
  ·obtain rfl:j=1:=oq_;have hP:db_ p.cycle p.period p.cycle.length:=⟨fun i hi hk=>oq_,oq_,by have:=hw.cyc.get_bounds (i:=p.cycle.length-1) oq_;exact this.2⟩;have HS:=hq_ (d4_ hw hne hT0 (Nat.le_refl 1) sq_ sq_ hn1 hP (fun q' d' k'=>HM.out q' d' k'));clear hP;go_wp2_with fail
   go_ret;exact ⟨p.period,p.cycle.length,rfl,HS.out,hn1,Nat.le_refl _,by have hE:=HE.out;have hb:=HB.out;exact xE⟩
def ui_ (p:Per) (d:Int) (B:List Int) (w:World) (e:Ending) (w':World):Prop:=
 ∃ (s:Int) (m:Nat),e=.returned (.int .i64 s)∧Kal.Start p d B s m∧Below w.heap.size w w'
theorem l2_ (h c:Value) (p:Per) (d:Int) (k:Nat) (w:World) (hp:a8_ w h c p) (hw:p.WF) (h1:p.frm≤1125899906842624) (h2:p.period≤1125899906842624) (hS:e2_ p d (p.cycle.take k)) (hk1:1≤k) (hkn:k≤p.cycle.length) :
  Calls Tryz.prog 171 #[perV h c p.frm p.period,.int .i64 d,.int .i64 k] w (ui_ p d (p.cycle.take k) w):=by
 have f0:=hw.frm;have d0:=hS.pos;have d1:=hS.le;obtain ⟨B,hB⟩:∃ B,B=p.cycle.take k:=⟨_,rfl⟩;have hBl:B.length=k:=by rw [hB];simp;omega
 rw [<- hB] at hS ⊢;have hBg:∀ i,i<k->B.getD i 0=p.cycle.getD i 0:=fun i hi=>by
  rw [hB,List.getD_eq_getElem?_getD,List.getD_eq_getElem?_getD,List.getElem?_take,if_pos hi]
 obtain ⟨a1,c1,a2,c2,rfl,rfl⟩:=hp.inn.form;have H1:=hq_ hp.hd;have H2:=hq_ hp.cy;have HLH:=hp.hd.len;have HS:=hq_ hS;have HW:=hq_ hw;have HBG:=hq_ hBg;have HBL:=hq_ hBl;clear hp hS hw hB hBg hBl;have hkI:(1:Int)≤k:=oq_;have hkz:¬ (k:Int)=0:=oq_
 go_enter Tryz.func171,Tryz.ntmps171
 go_upto_region 1 with (fail)
 refine al_ (F:=fun U=>Bxx U w.heap.size #[.slice a1 p.head.length c1,.int .i64 p.frm,.int .i64 p.period,.slice a2 p.cycle.length c2] 39∧w.heap.size<U.heap.size∧Below w.heap.size w U) ⟨xB,sq_,xE⟩ ?_;rintro W1 ⟨hbx,hz1,hE⟩;have HBX:=hq_ hbx;have HE:=hq_ hE;have q0:=(hbx.cells 0).1;clear hbx hE;go_wp2_with fail
 go_loopw [7,8,9,10,11,12] (fun hv _ bv _ _ _ wr=>∃ j:Nat,hv=.int .i64 ((p.head.length:Int)-1-j)∧bv=.int .i64 ((j:Int)+1)∧Back p d B j∧Below W1.heap.size W1 wr) (fun _ _ bv _ _ _ _=>p.head.length+1-(intOf bv).toNat)
 case atStart=>exact ⟨0,by congr 1;omega,rfl,Back.zero HW.out HS.out,Below.refl _ _⟩
 case round=>
  obtain ⟨j,rfl,rfl,hbk,hb⟩:=hrel;have HBK:=hq_ hbk;have HB:=hq_ hb;have hjl:=hbk.le;have ege:=Back.e_ge HS.out hbk;have elt:=Back.e_lt HS.out hbk;have hif:=hbk.hif;have hbx:=HBX.out.below hb;have q0:=(hbx.cells 0).1;have q1:=(hbx.cells 1).1;have q2:=(hbx.cells 2).1;have q3:=(hbx.cells 3).1;have hm:=Nat.mod_lt j (show 0<k by omega);have hm1:(j:Int).tmod (k:Int)=((j % k:Nat):Int):=by rw [Int.tmod_eq_emod_of_nonneg oq_,Int.natCast_emod]
  have hm2:(j:Int).tdiv (k:Int)=((j / k:Nat):Int):=by rw [Int.tdiv_eq_ediv_of_nonneg oq_,Int.natCast_ediv]
  obtain ⟨r,hr⟩:∃ r,r=j % k:=⟨_,rfl⟩;obtain ⟨Q,hQ⟩:∃ Q,Q=j / k:=⟨_,rfl⟩;rw [<- hr] at hm1 hm;rw [<- hQ] at hm2;have HR:=hq_ hr;have HQ:=hq_ hQ;have hQj:(Q:Int)≤j:=by rw [hQ];have:=Nat.div_le_self j k;omega
  obtain ⟨ix,hix⟩:∃ ix:Nat,ix=k-1-r:=⟨_,rfl⟩;have hixl:ix<p.cycle.length:=oq_;have hixI:(k:Int)-1-(r:Int)=ix:=oq_;obtain ⟨⟨a',c',he,_,_,h38⟩,hlen8,hrg⟩:=(H2.out.ext HE.out).ext hb;injection he with e1 _ e2
  subst e1;subst e2;rcases h38 with h38|⟨b8,o8,rfl,hcell⟩
  ·rw [h38] at hixl;simp at hixl
  have hcl:=hcell ix hixl;have hyb:=HW.out.cyc.2 _ (ah_ hixl);have heq:eAt B d p.frm j=p.frm-d*((Q:Int)+1)+p.cycle.getD ix 0:=by
   unfold eAt;rw [HBL.out,HBG.out _ oq_,hQ,<- hr,<- hix]
  generalize p.cycle.getD ix 0=y at *;obtain ⟨E,hEe⟩:∃ E,E=eAt B d p.frm j:=⟨_,rfl⟩;rw [<- hEe] at heq ege elt;have HEE:=hq_ hEe;obtain ⟨M,hM⟩:∃ M,M=((Q:Int)+1)*d:=⟨_,rfl⟩;have hM2:d*((Q:Int)+1)=M:=by rw [hM,Int.mul_comm]
  have hM0:0≤M:=by rw [hM];exact Int.mul_nonneg oq_ oq_
  rw [hM2] at heq;have HMM:=hq_ hM.symm;have heq2:p.frm+y-M=E:=oq_;clear hcell hrg hbk hb hbx hr hQ hix hEe hM hM2 heq;have hmm:=HMM.out;have hQk:(k:Int)-1-(r:Int)=ix:=hixI
  by_cases hjn:j<p.head.length
  ·obtain ⟨hx,hhx⟩:∃ hx:Nat,hx=p.head.length-1-j:=⟨_,rfl⟩;have hhl:hx<p.head.length:=oq_;have hhI:(p.head.length:Int)-1-(j:Int)=hx:=oq_;obtain ⟨⟨a',c',he,_,_,h38⟩,hlen9,hrg⟩:=(H1.out.ext HE.out).ext HB.out;injection he with e1 _ e2
   subst e1;subst e2;rcases h38 with h38|⟨b9,o9,rfl,hcell⟩
   ·rw [h38] at hhl;simp at hhl
   have hcz:=hcell hx hhl;have hzb:=HW.out.head.2 _ (ah_ hhl);have HLZ:Hid (ap_ p j=p.head.getD hx 0):=hq_ (by unfold ap_;rw [if_neg oq_,hhx,show p.head.length-j-1=p.head.length-1-j from by omega]);generalize p.head.getD hx 0=z at *;have hzn:¬ z<0:=oq_;have hzd:decide (z<0)=false:=by simp;omega
   clear hcell hrg hhx
   by_cases hE0:E<0
   ·have hEd:decide (E<0)=true:=by simp [hE0]
    have hne:(E != z)=true:=by rw [bne_iff_ne];omega
    have HST:=hq_ (Back.done HW.out HS.out HBK.out (by rw [HLZ.out,<- HEE.out];omega) (by rw [HLZ.out];omega));go_wp2_with fail
    go_quiet (fail)
    go_wp2_with fail
    go_ret;refine ⟨_,_,?_,HST.out,by have hE:=HE.out;have hb:=HB.out;exact xE⟩;rw [HLZ.out,<- HEE.out];rfl
   ·have hEd:decide (E<0)=false:=by simp;omega
    by_cases hEz:E=z
    ·have hne:(E != z)=false:=by simp [hEz]
     have HST:=hq_ (Back.step HW.out HS.out HBK.out (by rw [HLZ.out,<- HEE.out];exact hEz) (by rw [HLZ.out];omega));go_wp2_with fail
     go_quiet (fail)
     go_wp2_with fail
     go_roundw
     case rel=>exact ⟨j+1,by congr 1;omega,by congr 1,HST.out.1,by have hb:=HB.out;exact xE⟩
     case measure=>simp [intOf];omega
    ·have hne:(E != z)=true:=by rw [bne_iff_ne];exact hEz
     have HST:=hq_ (Back.done HW.out HS.out HBK.out (by rw [HLZ.out,<- HEE.out];omega) (by rw [HLZ.out];omega));go_wp2_with fail
     go_quiet (fail)
     go_wp2_with fail
     go_ret;refine ⟨_,_,?_,HST.out,by have hE:=HE.out;have hb:=HB.out;exact xE⟩;rw [HLZ.out,<- HEE.out];rfl
  ·have hjI:(p.head.length:Int)-1-(j:Int)=-1:=oq_;have HLZ:Hid (ap_ p j=-1):=hq_ (by unfold ap_;rw [if_pos oq_])
   by_cases hE0:E<0
   ·have hEd:decide (E<0)=true:=by simp [hE0]
    have HST:=hq_ (Back.done0 HW.out HS.out HBK.out (by rw [<- HEE.out];exact hE0) (by rw [HLZ.out];omega));go_wp2_with fail
    go_quiet (fail)
    go_wp2_with fail
    go_ret;exact ⟨_,_,rfl,HST.out,by have hE:=HE.out;have hb:=HB.out;exact xE⟩
   ·have hEd:decide (E<0)=false:=by simp;omega
    have hne:(E != -1)=true:=by rw [bne_iff_ne];omega
    have HST:=hq_ (Back.done HW.out HS.out HBK.out (by rw [HLZ.out,<- HEE.out];omega) (by rw [<- HEE.out];omega));go_wp2_with fail
    go_quiet (fail)
    go_wp2_with fail
    go_ret;refine ⟨_,_,?_,HST.out,by have hE:=HE.out;have hb:=HB.out;exact xE⟩;rw [HLZ.out,<- HEE.out];rfl
theorem w3_ (hw:p.WF) (hS:e2_ p d (p.cycle.take k)) (hkn:k≤p.cycle.length) (hj:j<p.cycle.length):p.cycle.getD j 0<d↔j<k:=by
 have hf:=hw.frm;have hb:=hw.cyc.2 _ (ah_ hj);constructor
 ·intro hlt;have h1:p.mem (p.frm+p.cycle.getD j 0):=by
   rw [Per.mem_hi oq_ oq_,show p.frm+p.cycle.getD j 0-p.frm=p.cycle.getD j 0 from oq_,Int.emod_eq_of_lt hb.1 hb.2];exact ah_ hj
  rw [hS.mem _ oq_,show p.frm+p.cycle.getD j 0-p.frm=p.cycle.getD j 0 from oq_,Int.emod_eq_of_lt hb.1 hlt] at h1;obtain ⟨i,hi,he⟩:=List.getElem_of_mem h1;rw [List.getElem_take] at he;have hi2:i<k∧i<p.cycle.length:=by simp at hi;omega
  rcases Nat.lt_or_ge i j with h|h
  ·have:=getD_lt hw.cyc h hj;rw [c2_ hi2.2,he] at this;omega
  ·omega
 ·intro hjk;refine (hS.rise.2 _ ?_).2;rw [c2_ hj];exact List.mem_take_iff_getElem.2 ⟨j,oq_,rfl⟩
theorem rt_ (hw:p.WF) {B:List Int} {m:Nat} (hs:Kal.Start p d B s m):p.head.filter (fun y=>decide (y<s))=p.head.take m:=by
 refine (hw.head.filter _).ext ⟨hw.head.1.sublist (List.take_sublist _ _),fun x hx=>hw.head.2 x (List.mem_of_mem_take hx)⟩ fun x=>?_;rw [List.mem_filter,decide_eq_true_eq,hs.low]
theorem h0_ {B:List Int} (hB:Rise 0 d B):(B.map fun c=>(a+c-s) % d).Nodup:=by
 rw [List.nodup_iff_pairwise_ne,List.pairwise_map];refine List.Pairwise.imp_of_mem ?_ hB.1;intro x y hx hy hxy he;have h1:=hB.2 x hx;have h2:=hB.2 y hy;have:=k5_ (a:=a-s) h1.1 h1.2 h2.1 h2.2 (by rw [show a-s+x=a+x-s from oq_,show a-s+y=a+y-s from by omega];exact he);omega
theorem ji_ (hw:p.WF) {m:Nat} (hS:e2_ p d (p.cycle.take k)) (hs:Kal.Start p d (p.cycle.take k) s m) :
  a6_ ⟨p.head.filter (fun y=>decide (y<s)),s,d,a0_ ((p.cycle.take k).map fun c=>(p.frm+c-s) % d)⟩ p.mem:=by
 rw [rt_ hw hs];refine k4_ hw hS hs (ga_ (h0_ hS.rise)) fun y=>?_;rw [dj_,List.mem_map];exact ⟨fun ⟨c,h1,h2⟩=>⟨c,h1,h2.symm⟩,fun ⟨c,h1,h2⟩=>⟨c,h1,h2.symm⟩⟩
structure LRs (w:World) (ob:Nat) (p:Per) (hp cp:Value) (f d:Int) (base:Nat) (hv:Value) (l:List Int) (W:World):Prop where
 below:Below w.heap.size w W
 pb:Bxx W w.heap.size #[hp,.int .i64 p.frm,.int .i64 p.period,cp] 39
 rb:Bxx W (w.heap.size+1) #[.slice none 0 0,.int .i64 0,.int .i64 0,.slice none 0 0] 39
 obx:Bxx W ob #[hv,.int .i64 f,.int .i64 d,.slice none 0 0] 39
 own:OwnI W base hv l
 o1:w.heap.size+1<ob
 o2:ob<base
 o3:base≤W.heap.size
theorem LRs.step {hp cp:Value} (h:LRs w ob p hp cp f d base hv l W)
  {W1:World} {v':Value} {l':List Int} (hb:Below base W W1) (ho:OwnI W1 base v' l'):LRs w ob p hp cp f d base v' l' (W1.setCell ⟨ob,0,none⟩ v'):=by
 have o1:=h.o1;have o2:=h.o2;have o3:=h.o3;have hz:=hb.size;exact ⟨(h.below.trans (hb.mono oq_)).setCell (p:=⟨ob,0,none⟩) tq_ _,(h.pb.upto hb oq_).setNe _ oq_,(h.rb.upto hb oq_).setNe _ oq_,j2_ (h.obx.upto hb oq_),
  ho.above ((a7_.refl base W1).setCell tq_ _),o1,o2,tq_⟩
structure LC (w:World) (ob:Nat) (p:Per) (hp cp:Value) (f d:Int) (l4 h4:Nat) (hv:Value) (hl:List Int) (base:Nat) (cyv:Value) (l:List Int) (W:World):Prop where
 below:Below w.heap.size w W
 pb:Bxx W w.heap.size #[hp,.int .i64 p.frm,.int .i64 p.period,cp] 39
 rb:Bxx W (w.heap.size+1) #[.slice none 0 0,.int .i64 0,.int .i64 0,.slice none 0 0] 39
 obx:Bxx W ob #[hv,.int .i64 f,.int .i64 d,cyv] 39
 own:OwnI W base cyv l
 hd:bo_ W l4 h4 hv hl
 o1:w.heap.size+1<ob
 o2:ob<base
 o3:base≤W.heap.size
 o4:ob<l4∨h4≤ob
 o5:h4≤base
 o6:w.heap.size+1<l4
theorem LC.step {hp cp:Value} {l4 h4:Nat} {hl:List Int} {cyv:Value} (h:LC w ob p hp cp f d l4 h4 hv hl base cyv l W)
  {W1:World} {v':Value} {l':List Int} (hb:Below base W W1) (ho:OwnI W1 base v' l'):LC w ob p hp cp f d l4 h4 hv hl base v' l' (W1.setCell ⟨ob,3,none⟩ v'):=by
 have o1:=h.o1;have o2:=h.o2;have o3:=h.o3;have o4:=h.o4;have o5:=h.o5;have hz:=hb.size;exact ⟨(h.below.trans (hb.mono oq_)).setCell (p:=⟨ob,3,none⟩) tq_ _,(h.pb.upto hb oq_).setNe _ oq_,(h.rb.upto hb oq_).setNe _ oq_,set4 (h.obx.upto hb oq_),
  ho.above ((a7_.refl base W1).setCell tq_ _),(h.hd.below hb oq_).set _ o4,o1,o2,tq_,o4,o5,h.o6⟩
theorem qs_ (h c:Value) (p:Per) (w:World) (hp:a8_ w h c p) (hw:p.WF) (h1:p.frm≤1125899906842624) (hc0:p.cycle=[]) :
  Calls Tryz.prog 138 #[perV h c p.frm p.period] w (e7_ p.mem w):=by
 have HC:=hq_ (im_ hw hc0);obtain ⟨a1,c1,a2,c2,rfl,rfl⟩:=hp.inn.form;have H1:=hq_ hp.hd;have HLH:=hp.hd.len;have HW:=hq_ hw;have hlz:((p.cycle.length:Int) == 0)=true:=by rw [hc0];rfl
 clear hp hw hc0
 by_cases h0:p.head.length=0
 ·have hn:¬ (0:Int)<p.head.length:=oq_;have H0:=hq_ h0;clear h0
  go_enter Tryz.func138,Tryz.ntmps138
  go_wp2_with (go_at_call 169;refine (jk_ _ p.head _ (H1.out.ext xE)).mono ?_;rintro e W2 ⟨hv,rfl,hown,hb2⟩;obtain ⟨oa,oc,rfl⟩:=hown.form;obtain ⟨hc1,hf1⟩:=au_ hb2;have hz:w.heap.size+1<W2.heap.size:=(by have:=hb2.size;simp at this;omega);have hz0:w.heap.size<W2.heap.size:=oq_)
  refine bodyPost_ret (v:=.agg #[.slice oa p.head.length oc,.int .i64 0,.int .i64 1,.slice none 0 0]) ?_ rfl ?_
  ·simp [results,Tryz.results138,go_sem, *]
  ·refine ⟨_,_,⟨p.head,0,1,[]⟩,rfl,?_,⟨?_,OwnI.nil _ _⟩,?_⟩
   ·have:=HC.out;rwa [if_pos H0.out] at this
   ·exact (hown.above (by (repeat' (with_reducible first|exact a7_.refl _ _|refine a7_.alloc ?_ _|refine a7_.drew ?_|refine a7_.drewN ?_ _|refine a7_.setCell ?_ (by first|(simp;done)|(simp;omega)|omega) _)))).mono (by first|(simp;done)|(simp;omega)|omega)
   ·exact xE
 ·have hn:(0:Int)<p.head.length:=oq_;have H0:=hq_ h0;have hlt:p.head.length-1<p.head.length:=oq_;obtain ⟨⟨a',c',he,_,_,h38⟩,hlen8,hrg⟩:=H1.out;injection he with e1 _ e2
  subst e1;subst e2;rcases h38 with h38|⟨b,o,rfl,hcell⟩
  ·rw [h38] at h0;exact absurd rfl h0
  have hcl:=hcell (p.head.length-1) hlt;have hx1:((p.head.length:Int)-1).toNat=p.head.length-1:=oq_;have hbd:=HW.out.head.2 _ (ah_ hlt);obtain ⟨x,hx⟩:∃ x,x=p.head.getD (p.head.length-1) 0:=⟨_,rfl⟩;rw [<- hx] at hcl hbd;have HX:=hq_ hx;clear hcell h0 hx hrg
  go_enter Tryz.func138,Tryz.ntmps138
  go_wp2_with (go_at_call 169;refine (jk_ _ p.head _ (H1.out.ext xE)).mono ?_;rintro e W2 ⟨hv,rfl,hown,hb2⟩;obtain ⟨oa,oc,rfl⟩:=hown.form;have hc4:=Ext.cell (w:=w) (W:=W2) xE hcl;have hblt:b<W2.heap.size:=World.block_lt_of_cell? _ _ hc4;obtain ⟨hc1,hf1⟩:=au_ hb2;have hz:w.heap.size+1<W2.heap.size:=(by have:=hb2.size;simp at this;omega);have hz0:w.heap.size<W2.heap.size:=oq_)
  refine bodyPost_ret (v:=.agg #[.slice oa p.head.length oc,.int .i64 (x+1),.int .i64 1,.slice none 0 0]) ?_ rfl ?_
  ·simp [results,Tryz.results138,go_sem, *]
  ·refine ⟨_,_,⟨p.head,x+1,1,[]⟩,rfl,?_,⟨?_,OwnI.nil _ _⟩,?_⟩
   ·have:=HC.out;rw [if_neg H0.out,<- HX.out] at this;exact this
   ·exact (hown.above (by (repeat' (with_reducible first|exact a7_.refl _ _|refine a7_.alloc ?_ _|refine a7_.drew ?_|refine a7_.drewN ?_ _|refine a7_.setCell ?_ (by first|(simp;done)|(simp;omega)|omega) _)))).mono (by first|(simp;done)|(simp;omega)|omega)
   ·exact xE
theorem s0_ (h c:Value) (p:Per) (w:World) (hp:a8_ w h c p) (hw:p.WF) (h1:p.frm≤1125899906842624) (h2:p.period≤1125899906842624) (hne:p.cycle≠[]) :
  Calls Tryz.prog 138 #[perV h c p.frm p.period] w (e7_ p.mem w):=by
 have f0:=hw.frm;have p0:=hw.per;have hn1:1≤p.cycle.length:=by
  rcases Nat.eq_zero_or_pos p.cycle.length with h|h
  ·exact absurd (List.eq_nil_of_length_eq_zero h) hne
  ·exact h
 have hlz:((p.cycle.length:Int) == 0)=false:=by rw [beq_eq_false_iff_ne];omega
 have hln:¬ (p.cycle.length:Int)=0:=oq_;obtain ⟨a1,c1,a2,c2,rfl,rfl⟩:=hp.inn.form;obtain ⟨⟨a',c',he,_,_,h38⟩,_,_⟩:=hp.cy;injection he with e1 _ e2
 subst e1;subst e2;rcases h38 with h38|⟨b8,f8,rfl,hcell⟩
 ·exact absurd h38 hne
 have HCELL:=hq_ hcell;clear hcell;have H1:=hq_ hp.hd;have H2:=hq_ hp.cy;have HP:=hq_ hp;have HW:=hq_ hw;have HNE:=hq_ hne;have HLH:=hp.hd.len;have HLC:=hp.cy.len;clear hp hw hne
 go_enter Tryz.func138,Tryz.ntmps138
 go_upto_region 8 with (go_at_call 170;refine (re_ _ _ p _ (HP.out.ext xE) HW.out HNE.out h2).mono ?_;rintro e W2 ⟨d,k,rfl,hS,hk1,hkn,hb2⟩)
 refine al_ (F:=fun U=>Bxx U w.heap.size #[.slice a1 p.head.length c1,.int .i64 p.frm,.int .i64 p.period,.slice (some ⟨b8,f8,none⟩) p.cycle.length c2] 39∧Bxx U (w.heap.size+1) #[.slice none 0 0,.int .i64 0,.int .i64 0,.slice none 0 0] 39∧w.heap.size+1<U.heap.size∧Below w.heap.size w U) ⟨by refine Bxx.below ?_ hb2;exact xB,by refine Bxx.below ?_ hb2;exact xB,by have:=hb2.size;simp at this;omega,xE⟩ ?_;clear hb2;rintro W1 ⟨hpb,hrb,hz1,hE⟩;have HPB:=hq_ hpb;have HRB:=hq_ hrb;have HE:=hq_ hE;have d0:=hS.pos;have dle:=hS.le;have HS:=hq_ hS;have HSK:Hid (∀ j,j<p.cycle.length->(p.cycle.getD j 0<d↔j<k)):=hq_ (fun j hj=>w3_ HW.out hS hkn hj);clear hpb hrb hE hS
 go_loopw [5] (fun kv wr=>∃ j:Nat,j≤k∧kv=.int .i64 j∧Below W1.heap.size W1 wr) (fun kv _=>p.cycle.length-(intOf kv).toNat)
 case atStart=>exact ⟨0,oq_,rfl,Below.refl _ _⟩
 case round=>
  obtain ⟨j,hj,rfl,hb⟩:=hrel;have HB:=hq_ hb;have hbx:=HPB.out.below hb;have q0:=(hbx.cells 0).1;have q1:=(hbx.cells 1).1;have q2:=(hbx.cells 2).1;have q3:=(hbx.cells 3).1;clear hbx hb
  by_cases hjk:j<k
  ·have hlt:j<p.cycle.length:=oq_;have hlI:(j:Int)<p.cycle.length:=oq_;have hcl:=Ext.cell HB.out (Ext.cell HE.out (HCELL.out j hlt));have hyd:=(HSK.out j hlt).2 hjk;generalize p.cycle.getD j 0=y at *;have d1:decide (y<d)=true:=by simp [hyd]
   go_wp2_with fail
   go_roundw
   case rel=>exact ⟨j+1,oq_,by go_num,by have hb:=HB.out;exact xE⟩
   case measure=>simp [intOf];omega
  ·obtain rfl:j=k:=oq_;rcases Nat.lt_or_ge j p.cycle.length with hlt|hge
   ·have hlI:(j:Int)<p.cycle.length:=oq_;have hcl:=Ext.cell HB.out (Ext.cell HE.out (HCELL.out j hlt));have hyd:=fun h=>hjk ((HSK.out j hlt).1 h);generalize p.cycle.getD j 0=y0 at *;have d1:decide (y0<d)=false:=by simpa using hyd
    clear hyd;go_upto_region 13 with (go_at_call 171;refine (l2_ _ _ p d j _ (HP.out.ext (by have hE:=HE.out;have hb:=HB.out;exact xE)) HW.out h1 h2 HS.out hk1 hkn).mono ?_;rintro e W3 ⟨s,m,rfl,hst,hb3⟩)
    clear hcl d1;have hWb:Below w.heap.size w W3:=by have hE:=HE.out;have hb:=HB.out;exact xE
    obtain ⟨ob,hobe⟩:∃ ob,ob=W3.heap.size:=⟨_,rfl⟩;have hob2:w.heap.size+1<ob:=by have h7:=hb3.size;have h8:=HB.out.size;omega
    have hs0:=hst.s0;have hsf:=hst.sf;have HQ:=hq_ (ji_ HW.out HS.out hst);rw [<- hobe];refine al_ (F:=fun U=>LRs w ob p (.slice a1 p.head.length c1) (.slice (some ⟨b8,f8,none⟩) p.cycle.length c2) s d U.heap.size (.slice none 0 0) [] U) ⟨Ea hWb _,((HPB.out.below HB.out).below hb3).alloc _,((HRB.out.below HB.out).below hb3).alloc _,by rw [hobe];exact Bxx.at rfl,OwnI.nil _ _,hob2,tq_,Nat.le_refl _⟩ ?_;clear hst hb3 hWb q0 q1 q2 q3 hobe;rintro W4 hLS;have HLS:=hq_ hLS;clear hLS
    go_loopw [8] (fun i wr=>∃ (k2:Nat) (hv:Value),k2≤p.head.length∧i=.int .i64 k2∧LRs w ob p (.slice a1 p.head.length c1) (.slice (some ⟨b8,f8,none⟩) p.cycle.length c2) s d W4.heap.size hv ((p.head.take k2).filter (fun y=>decide (y<s))) wr) (fun i _=>p.head.length-(intOf i).toNat)
    case atStart=>exact ⟨0,_,oq_,rfl,HLS.out⟩
    case round=>
     obtain ⟨k2,hv,hk2,rfl,hst⟩:=hrel;have HST:=hq_ hst;have hown:=hst.own;have q0:=(hst.pb.cells 0).1;have q1:=(hst.pb.cells 1).1;have q2:=(hst.pb.cells 2).1;have q3:=(hst.pb.cells 3).1;have o0:=(hst.obx.cells 0).1;have oz:=(hst.obx.cells 0).2;have o3:=(hst.obx.cells 3).1;have hs2:=hst.o2;have hs3:=hst.o3
     by_cases hlt2:k2<p.head.length
     ·have hlI:(k2:Int)<p.head.length:=oq_;obtain ⟨⟨a',c',he,_,_,h38⟩,hlen8,hrg⟩:=H1.out.ext hst.below;injection he with e1 _ e2
      subst e1;subst e2;rcases h38 with h38|⟨b9,f9,rfl,hcell⟩
      ·rw [h38] at hlt2;simp at hlt2
      have hcl:=hcell k2 hlt2;have hyI:=hrg _ (ah_ hlt2);unfold InI at hyI;have HSU:=hq_ (cl_ (fun y=>decide (y<s)) hlt2);have hll:=List.length_filter_le (fun y=>decide (y<s)) (p.head.take k2);rw [List.length_take] at hll;generalize p.head.getD k2 0=y at *;clear hcell hrg hst
      by_cases hy1:y<s
      ·have d1:decide (y<s)=true:=by simp [hy1]
       go_wp2_with fail
       refine ai_ (w0:=wr) [0,1,2,3,4,5,6,7] [8,9,10] (fun v=>⟨#[perV (.slice (some ⟨b9,f9,none⟩) p.head.length c1) (.slice (some ⟨b8,f8,none⟩) p.cycle.length c2) p.frm p.period,.pointer (some ⟨w.heap.size,0,none⟩),.pointer (some ⟨w.heap.size+1,0,none⟩),undef,.int .i64 d,.int .i64 ↑j,.int .i64 s,.pointer (some ⟨ob,0,none⟩),.int .i64 ↑k2,undef,.pointer (some ⟨w.heap.size,3,none⟩),.slice (some ⟨b8,f8,none⟩) p.cycle.length c2,.int .i64 ↑p.cycle.length,.bool false,undef,undef,undef,undef,undef,undef,undef,undef,undef,undef,undef,undef,undef,undef,undef,undef,undef,undef,undef,.agg #[.slice (some ⟨b9,f9,none⟩) p.head.length c1,.int .i64 p.frm,.int .i64 p.period,.slice (some ⟨b8,f8,none⟩) p.cycle.length c2],.int .i64 d,.int .i64 ↑j,.pointer (some ⟨w.heap.size,3,none⟩),.slice (some ⟨b8,f8,none⟩) p.cycle.length c2,.int .i64 ↑p.cycle.length,.bool true,.bool true,.pointer (some ⟨w.heap.size,3,none⟩),.slice (some ⟨b8,f8,none⟩) p.cycle.length c2,.int .i64 ↑j,.pointer (some ⟨b8,f8+j,none⟩),.int .i64 y0,.int .i64 d,.bool false,.bool false,u49,u50,.agg #[.slice (some ⟨b9,f9,none⟩) p.head.length c1,.int .i64 p.frm,.int .i64 p.period,.slice (some ⟨b8,f8,none⟩) p.cycle.length c2],.int .i64 d,.int .i64 ↑j,.int .i64 s,.int .i64 s,.int .i64 d,.agg #[.slice none 0 0,.int .i64 s,.int .i64 d,.slice none 0 0],.int .i64 ↑k2,.pointer (some ⟨w.heap.size,0,none⟩),.slice (some ⟨b9,f9,none⟩) p.head.length c1,.int .i64 ↑p.head.length,.bool true,u63,u64,.pointer (some ⟨w.heap.size,0,none⟩),.slice (some ⟨b9,f9,none⟩) p.head.length c1,.int .i64 ↑k2,.pointer (some ⟨b9,f9+k2,none⟩),.int .i64 y,.int .i64 s,.bool true,v 0,v 1,v 2,v 3,v 4,v 5,v 6,v 7,u80,u81,undef,undef,undef,undef,undef,undef,undef,undef,undef,undef,undef,undef,undef,undef,undef,undef,undef,undef,undef,undef,undef,undef,undef,undef,undef,undef,undef],[]⟩) [.pointer (some ⟨ob,0,none⟩),hv,.pointer (some ⟨w.heap.size,0,none⟩),.slice (some ⟨b9,f9,none⟩) p.head.length c1,.int .i64 k2,.pointer (some ⟨b9,f9+k2,none⟩),.int .i64 y,undef] [7] (fun i v lo hi W=>match i with|7=>v 7=.slice (some ⟨lo 7,0,none⟩) 1 1∧lo 7<hi 7∧Bxx W (lo 7) #[.int .i64 y] 3|_=>True) (fun W=>W.cell? ⟨w.heap.size,0,none⟩=some (.slice (some ⟨b9,f9,none⟩) p.head.length c1)∧W.cell? ⟨b9,f9+k2,none⟩=some (.int .i64 y)∧W.cell? ⟨ob,0,none⟩=some hv) (fun W9 hb=>⟨cux q0 hb,cux hcl hb,cux o0 hb⟩) ?stab ?loc ?steps ?fin (fun j=>match j with|0=>u72|1=>u73|2=>u74|3=>u75|4=>u76|5=>u77|6=>u78|7=>u79|_=>undef)
       case stab=>
        refine ⟨?_,trivial⟩
        ·intro v lo hi W W' h hb;exact ⟨h.1,h.2.1,h.2.2.below hb⟩
       case loc=>
        refine ⟨?_,trivial⟩
        ·intro v v' lo lo' hi hi' W hag h;have q:=hag 7 (.inl rfl)
         (try dsimp only at h ⊢)
         simp only [q.1,q.2.1,q.2.2] at h;exact h
       case steps=>
        refine .c [] [] rfl ?_ (.c [0] [] rfl ?_ (.c [] [] rfl ?_ (.c [2] [] rfl ?_ (.c [] [] rfl ?_ (.c [3,4] [] rfl ?_ (.c [5] [] rfl ?_ (.c [6] [] rfl ?_ (.n))))))))
        all_goals try exact stw
        ·rintro v lo hi W hb ⟨g0,g1,g2⟩ _;refine .inl ⟨rfl,fun K hK=>?_⟩;simp only [ov,vat,Nat.reduceBEq,cond_true,cond_false];go_wp2_with fail
         exact acx (hK (.slice (some ⟨W.heap.size,0,none⟩) 1 1) _ (Ea (Er _) _) ⟨rfl,sq_,Bxx.new _ _ _⟩) (by simp [ov,vat,upd])
       case fin=>
        rintro v lo hi W2 hb ⟨g0,g1,g2⟩ hf hap;show wpList _ _ _ [_,_,_] _ _;have e1:v 1=hv:=(hf 1 rfl).2.2.2;obtain ⟨l7,m7,n7,e7,lt7,hb7⟩:=hf 7 rfl;have hown1:=hown.ext hb;have hz2:=hb.size;have hnew:W2.cell? ⟨lo 7,0,none⟩=some (.int .i64 y):=(hb7.cells 0).1;clear hf hap g0 g1 g2;dsimp only;rw [e1,e7];generalize lo 7=bn at *;refine aj_ rq_ _ _ rq_ W4.heap.size hv _ y rq_ hown1 _ _ rq_ hnew ⟨oq_,oq_⟩ oq_ oq_ ?_;intro g cap W5 hown2 hgrow hbel;have hbel':Below W4.heap.size wr W5:=(hb.mono hs3).trans hbel;have hqf2:W5.frozen? ⟨ob,0,none⟩=false:=(Below.frozen hbel' (p:=⟨ob,0,none⟩) hs2).trans oz;have hqc2:W5.cell? ⟨ob,0,none⟩=some hv:=Below.cell' hbel' o0 hs2;go_wp2_with fail
        go_roundw
        case rel=>
         refine ⟨k2+1,.slice (some ⟨g,0,none⟩) (((p.head.take k2).filter (fun y=>decide (y<s))).length+1) cap,oq_,by go_num,?_⟩;rw [HSU.out,if_pos d1];exact HST.out.step hbel' hown2
        case measure=>simp [intOf];omega
      ·have d1:decide (y<s)=false:=by simp;omega
       go_wp2_with fail
       go_roundw
       case rel=>
        refine ⟨k2+1,hv,oq_,by go_num,?_⟩;rw [HSU.out,if_neg (by rw [d1];simp),List.append_nil];exact HST.out
       case measure=>simp [intOf];omega
     ·obtain rfl:k2=p.head.length:=oq_;rw [List.take_length] at HST hown;obtain ⟨hl,hhl⟩:∃ hl,hl=p.head.filter (fun y=>decide (y<s)):=⟨_,rfl⟩;rw [<- hhl] at HST hown HQ;obtain ⟨a9,c9,rfl⟩:=hown.form;have hst0:=HST.out;have HLC:Hid (LC w ob p (.slice a1 p.head.length c1) (.slice (some ⟨b8,f8,none⟩) p.cycle.length c2) s d W4.heap.size wr.heap.size (.slice a9 hl.length c9) hl wr.heap.size (.slice none 0 0) [] wr):=
       hq_ ⟨hst0.below,hst0.pb,hst0.rb,hst0.obx,OwnI.nil _ _,hown.oin,hst0.o1,oq_,Nat.le_refl _,.inl hs2,Nat.le_refl _,by have:=hst0.o1;omega⟩
      have hwz:=hst0.o1;clear hst hst0 hhl hown;go_upto_region 18 with (fail)
      clear o0 o3 oz q0 q1 q2 q3;generalize wr.heap.size=B5 at *
      go_loopw [9] (fun i wq=>∃ (k3:Nat) (cyv:Value),k3≤j∧i=.int .i64 k3∧LC w ob p (.slice a1 p.head.length c1) (.slice (some ⟨b8,f8,none⟩) p.cycle.length c2) s d W4.heap.size B5 (.slice a9 hl.length c9) hl B5 cyv (((p.cycle.take j).take k3).map fun c=>(p.frm+c-s) % d) wq) (fun i _=>j-(intOf i).toNat)
      case atStart=>exact ⟨0,_,oq_,rfl,HLC.out⟩
      case round=>
       obtain ⟨k3,cyv,hk3,rfl,hTw⟩:=hrel;have HTW:=hq_ hTw;have q0:=(hTw.pb.cells 0).1;have q1:=(hTw.pb.cells 1).1;have q3:=(hTw.pb.cells 3).1;have o0:=(hTw.obx.cells 0).1;have o1:=(hTw.obx.cells 1).1;have o2:=(hTw.obx.cells 2).1;have o3:=(hTw.obx.cells 3).1;have oz:=(hTw.obx.cells 3).2;have hs5:=hTw.o2;have hs6:=hTw.o3;have hown:=hTw.own
       by_cases hlt3:k3<j
       ·have hlI:(k3:Int)<j:=oq_;have hlt4:k3<p.cycle.length:=oq_;have hcl:=Ext.cell hTw.below (HCELL.out k3 hlt4);have hyb:=HW.out.cyc.2 _ (ah_ hlt4);have htk:(((p.cycle.take j).take (k3+1)).map fun c=>(p.frm+c-s) % d)=(((p.cycle.take j).take k3).map fun c=>(p.frm+c-s) % d) ++ [(p.frm+p.cycle.getD k3 0-s) % d]:=by
         have h4:k3<(p.cycle.take j).length:=by simp;omega
         rw [d3_ h4,List.map_append];rw [List.getD_eq_getElem?_getD,List.getElem?_take,if_pos hlt3,<- List.getD_eq_getElem?_getD];rfl
        have HTK:=hq_ htk;generalize p.cycle.getD k3 0=y at *;have hlen:(((p.cycle.take j).take k3).map fun c=>(p.frm+c-s) % d).length=k3:=by simp;omega
        have HLEN:=hq_ hlen;have hz0:=Int.emod_nonneg (p.frm+y-s) (show d≠0 by omega);have hz1':=Int.emod_lt_of_pos (p.frm+y-s) (show 0<d by omega);obtain ⟨z,hz⟩:∃ z,z=(p.frm+y-s) % d:=⟨_,rfl⟩;rw [<- hz] at hz0 hz1' HTK;have htm:(p.frm+y-s).tmod d=z:=by rw [Int.tmod_eq_emod_of_nonneg oq_];exact hz.symm
        have hdz:¬ d=0:=oq_;clear hTw htk hlen hz;go_wp2_with fail
        refine ai_ (w0:=wr) [0,1,2,3,4,5,6,7,8,9,10,11,12,13,14] [15,16,17] (fun v=>⟨#[perV (.slice a1 p.head.length c1) (.slice (some ⟨b8,f8,none⟩) p.cycle.length c2) p.frm p.period,.pointer (some ⟨w.heap.size,0,none⟩),.pointer (some ⟨w.heap.size+1,0,none⟩),undef,.int .i64 d,.int .i64 ↑j,.int .i64 s,.pointer (some ⟨ob,0,none⟩),.int .i64 ↑p.head.length,.int .i64 ↑k3,.pointer (some ⟨w.heap.size,3,none⟩),.slice (some ⟨b8,f8,none⟩) p.cycle.length c2,.int .i64 ↑p.cycle.length,.bool false,undef,undef,undef,undef,undef,undef,undef,undef,undef,undef,undef,undef,undef,undef,undef,undef,undef,undef,undef,.agg #[.slice a1 p.head.length c1,.int .i64 p.frm,.int .i64 p.period,.slice (some ⟨b8,f8,none⟩) p.cycle.length c2],.int .i64 d,.int .i64 ↑j,.pointer (some ⟨w.heap.size,3,none⟩),.slice (some ⟨b8,f8,none⟩) p.cycle.length c2,.int .i64 ↑p.cycle.length,.bool true,.bool true,.pointer (some ⟨w.heap.size,3,none⟩),.slice (some ⟨b8,f8,none⟩) p.cycle.length c2,.int .i64 ↑j,.pointer (some ⟨b8,f8+j,none⟩),.int .i64 y0,.int .i64 d,.bool false,.bool false,u49,u50,.agg #[.slice a1 p.head.length c1,.int .i64 p.frm,.int .i64 p.period,.slice (some ⟨b8,f8,none⟩) p.cycle.length c2],.int .i64 d,.int .i64 ↑j,.int .i64 s,.int .i64 s,.int .i64 d,.agg #[.slice none 0 0,.int .i64 s,.int .i64 d,.slice none 0 0],.int .i64 ↑p.head.length,.pointer (some ⟨w.heap.size,0,none⟩),.slice a1 p.head.length c1,.int .i64 ↑p.head.length,.bool false,u63,u64,u65,u66,u67,u68,u69,u70,u71,u72,u73,u74,u75,u76,u77,u78,u79,u80,u81,.int .i64 ↑k3,.int .i64 ↑j,.bool true,u85,u86,v 0,v 1,v 2,v 3,v 4,v 5,v 6,v 7,v 8,v 9,v 10,v 11,v 12,v 13,v 14,u102,u103,undef,undef,undef,undef,undef],[]⟩) [.pointer (some ⟨ob,3,none⟩),cyv,.pointer (some ⟨w.heap.size,1,none⟩),.int .i64 p.frm,.pointer (some ⟨w.heap.size,3,none⟩),.slice (some ⟨b8,f8,none⟩) p.cycle.length c2,.int .i64 k3,.pointer (some ⟨b8,f8+k3,none⟩),.int .i64 y,.int .i64 (p.frm+y),.int .i64 s,.int .i64 (p.frm+y-s),.int .i64 d,.int .i64 z,undef] [14] (fun i v lo hi W=>match i with|14=>v 14=.slice (some ⟨lo 14,0,none⟩) 1 1∧lo 14<hi 14∧Bxx W (lo 14) #[.int .i64 z] 3|_=>True) (fun W=>W.cell? ⟨w.heap.size,1,none⟩=some (.int .i64 p.frm)∧W.cell? ⟨w.heap.size,3,none⟩=some (.slice (some ⟨b8,f8,none⟩) p.cycle.length c2)∧W.cell? ⟨b8,f8+k3,none⟩=some (.int .i64 y)∧W.cell? ⟨ob,3,none⟩=some cyv) (fun W9 hb=>⟨cux q1 hb,cux q3 hb,cux hcl hb,cux o3 hb⟩) ?stab ?loc ?steps ?fin (fun j=>match j with|0=>u87|1=>u88|2=>u89|3=>u90|4=>u91|5=>u92|6=>u93|7=>u94|8=>u95|9=>u96|10=>u97|11=>u98|12=>u99|13=>u100|14=>u101|_=>undef)
        case stab=>
         refine ⟨?_,trivial⟩
         ·intro v lo hi W W' h hb;exact ⟨h.1,h.2.1,h.2.2.below hb⟩
        case loc=>
         refine ⟨?_,trivial⟩
         ·intro v v' lo lo' hi hi' W hag h;have q:=hag 14 (.inl rfl)
          (try dsimp only at h ⊢)
          simp only [q.1,q.2.1,q.2.2] at h;exact h
        case steps=>
         refine .c [] [] rfl ?_ (.c [0] [] rfl ?_ (.c [] [] rfl ?_ (.c [2] [] rfl ?_ (.c [] [] rfl ?_ (.c [4] [] rfl ?_ (.c [] [] rfl ?_ (.c [5,6] [] rfl ?_ (.c [7] [] rfl ?_ (.c [3,8] [] rfl ?_ (.c [] [] rfl ?_ (.c [9,10] [] rfl ?_ (.c [] [] rfl ?_ (.c [11,12] [] rfl ?_ (.c [13] [] rfl ?_ (.n)))))))))))))))
         all_goals try exact stw
         ·rintro v lo hi W hb ⟨g0,g1,g2,g3⟩ _;refine .inl ⟨rfl,fun K hK=>?_⟩;simp only [ov,vat,Nat.reduceBEq,cond_true,cond_false];go_wp2_with fail
          exact acx (hK (.slice (some ⟨W.heap.size,0,none⟩) 1 1) _ (Ea (Er _) _) ⟨rfl,sq_,Bxx.new _ _ _⟩) (by simp [ov,vat,upd])
        case fin=>
         rintro v lo hi W2 hb ⟨g0,g1,g2,g3⟩ hf hap;show wpList _ _ _ [_,_,_] _ _;have e1:v 1=cyv:=(hf 1 rfl).2.2.2;obtain ⟨l9,m9,n9,e9,lt9,hb9⟩:=hf 14 rfl;have hown1:=hown.ext hb;have hz2:=hb.size;have hnew:W2.cell? ⟨lo 14,0,none⟩=some (.int .i64 z):=(hb9.cells 0).1;clear hf hap g0 g1 g2 g3;dsimp only;rw [e1,e9];generalize lo 14=bn at *;refine aj_ rq_ _ _ rq_ B5 cyv _ z rq_ hown1 _ _ rq_ hnew ⟨oq_,oq_⟩ (by rw [HLEN.out];omega) oq_ ?_;intro g cap W5 hown2 hgrow hbel;rw [HLEN.out] at hown2 ⊢;have hbel':Below B5 wr W5:=(hb.mono hs6).trans hbel;have hqf2:W5.frozen? ⟨ob,3,none⟩=false:=(Below.frozen hbel' (p:=⟨ob,3,none⟩) hs5).trans oz;have hqc2:W5.cell? ⟨ob,3,none⟩=some cyv:=Below.cell' hbel' o3 hs5;go_wp2_with fail
         go_roundw
         case rel=>
          refine ⟨k3+1,.slice (some ⟨g,0,none⟩) (k3+1) cap,oq_,by go_num,?_⟩;rw [HTK.out];exact HTW.out.step hbel' hown2
         case measure=>simp [intOf];omega
       ·obtain rfl:k3=j:=oq_;rw [List.take_take,Nat.min_self] at hown HTW;obtain ⟨cl,hcl⟩:∃ cl,cl=(p.cycle.take k3).map fun c=>(p.frm+c-s) % d:=⟨_,rfl⟩;have hnd:cl.Nodup:=by rw [hcl];exact h0_ HS.out.rise
        rw [<- hcl] at hown HTW HQ;have HND:=hq_ hnd;have HCL:=hq_ hcl;obtain ⟨m8,c8,rfl⟩:=hown.form;have hoc:=hown.ints;have HOC:=hq_ hoc;have hrb2:=HTW.out.rb;have hob9:=HTW.out.obx;have HRB2:=hq_ hrb2;have HOB9:=hq_ hob9;have hhd:=HTW.out.hd;have HHD:=hq_ hhd;have hbW:=HTW.out.below;have HBW:=hq_ hbW;have o6:=HTW.out.o6;have o5:=HTW.out.o5;clear hnd hcl hown hoc hTw hhd hrb2 hob9 hbW;have o5':ob<wr.heap.size:=oq_;have o6':w.heap.size+1<wr.heap.size:=oq_;have r0:=(HRB2.out.cells 0);have r1:=(HRB2.out.cells 1);have r2:=(HRB2.out.cells 2);have r3:=(HRB2.out.cells 3);go_wp2_with (go_at_call 172;refine (jf_ _ cl _ (HOC.out.ext xE) HND.out).mono ?_;rintro e W6 ⟨sv,rfl,hown6,hb6⟩;obtain ⟨ya,yc,rfl⟩:=hown6.form;have HOWN6:=hq_ hown6;clear hown6;have x6:W6.frozen? ⟨ob,3,none⟩=false:=(Below.frozen hb6 (p:=⟨ob,3,none⟩) o5').trans oz;have y0:W6.cell? ⟨ob,0,none⟩=some (.slice a9 hl.length c9):=Below.cell' hb6 o0 o5';have y1:W6.cell? ⟨ob,1,none⟩=some (.int .i64 s):=Below.cell' hb6 o1 o5';have y2:W6.cell? ⟨ob,2,none⟩=some (.int .i64 d):=Below.cell' hb6 o2 o5';have y3:W6.cell? ⟨ob,3,none⟩=some (.slice m8 cl.length c8):=Below.cell' hb6 o3 o5';have z0:=((HRB2.out.upto hb6 o6').cells 0);have z1:=((HRB2.out.upto hb6 o6').cells 1);have z2:=((HRB2.out.upto hb6 o6').cells 2);have z3:=((HRB2.out.upto hb6 o6').cells 3);have zl:=(HRB2.out.upto hb6 o6').lt)
        have hbW:=HBW.out;have hb6z:=hb6.size;refine bodyPost_ret (v:=.agg #[.slice a9 hl.length c9,.int .i64 s,.int .i64 d,.slice ya (a0_ cl).length yc]) (by simp [results,Tryz.results138,go_sem, *]) rfl ⟨_,_,⟨hl,s,d,a0_ cl⟩,rfl,HQ.out,⟨?_,?_⟩,xE⟩
        ·have h1:bo_ _ _ _ (.slice a9 hl.length c9) hl:=(((((HHD.out.below hb6 oq_).set (b:=ob) (i:=3) (.slice ya (a0_ cl).length yc) oq_).set (b:=w.heap.size+1) (i:=0) (.slice a9 hl.length c9) oq_).set (b:=w.heap.size+1) (i:=1) (.int .i64 s) oq_).set (b:=w.heap.size+1) (i:=2) (.int .i64 d) oq_).set (b:=w.heap.size+1) (i:=3) (.slice ya (a0_ cl).length yc) oq_;exact h1.own.mono (base':=w.heap.size) oq_
        ·have h1:bo_ _ _ _ (.slice ya (a0_ cl).length yc) (a0_ cl):=(((((HOWN6.out.oin).set (b:=ob) (i:=3) (.slice ya (a0_ cl).length yc) oq_).set (b:=w.heap.size+1) (i:=0) (.slice a9 hl.length c9) oq_).set (b:=w.heap.size+1) (i:=1) (.int .i64 s) oq_).set (b:=w.heap.size+1) (i:=2) (.int .i64 d) oq_).set (b:=w.heap.size+1) (i:=3) (.slice ya (a0_ cl).length yc) oq_;exact h1.own.mono (base':=w.heap.size) oq_
   ·have hlI:¬ (j:Int)<p.cycle.length:=oq_;go_upto_region 13 with (go_at_call 171;refine (l2_ _ _ p d j _ (HP.out.ext (by have hE:=HE.out;have hb:=HB.out;exact xE)) HW.out h1 h2 HS.out hk1 hkn).mono ?_;rintro e W3 ⟨s,m,rfl,hst,hb3⟩)
    have hWb:Below w.heap.size w W3:=by have hE:=HE.out;have hb:=HB.out;exact xE
    obtain ⟨ob,hobe⟩:∃ ob,ob=W3.heap.size:=⟨_,rfl⟩;have hob2:w.heap.size+1<ob:=by have h7:=hb3.size;have h8:=HB.out.size;omega
    have hs0:=hst.s0;have hsf:=hst.sf;have HQ:=hq_ (ji_ HW.out HS.out hst);rw [<- hobe];refine al_ (F:=fun U=>LRs w ob p (.slice a1 p.head.length c1) (.slice (some ⟨b8,f8,none⟩) p.cycle.length c2) s d U.heap.size (.slice none 0 0) [] U) ⟨Ea hWb _,((HPB.out.below HB.out).below hb3).alloc _,((HRB.out.below HB.out).below hb3).alloc _,by rw [hobe];exact Bxx.at rfl,OwnI.nil _ _,hob2,tq_,Nat.le_refl _⟩ ?_;clear hst hb3 hWb q0 q1 q2 q3 hobe;rintro W4 hLS;have HLS:=hq_ hLS;clear hLS
    go_loopw [8] (fun i wr=>∃ (k2:Nat) (hv:Value),k2≤p.head.length∧i=.int .i64 k2∧LRs w ob p (.slice a1 p.head.length c1) (.slice (some ⟨b8,f8,none⟩) p.cycle.length c2) s d W4.heap.size hv ((p.head.take k2).filter (fun y=>decide (y<s))) wr) (fun i _=>p.head.length-(intOf i).toNat)
    case atStart=>exact ⟨0,_,oq_,rfl,HLS.out⟩
    case round=>
     obtain ⟨k2,hv,hk2,rfl,hst⟩:=hrel;have HST:=hq_ hst;have hown:=hst.own;have q0:=(hst.pb.cells 0).1;have q1:=(hst.pb.cells 1).1;have q2:=(hst.pb.cells 2).1;have q3:=(hst.pb.cells 3).1;have o0:=(hst.obx.cells 0).1;have oz:=(hst.obx.cells 0).2;have o3:=(hst.obx.cells 3).1;have hs2:=hst.o2;have hs3:=hst.o3
     by_cases hlt2:k2<p.head.length
     ·have hlI:(k2:Int)<p.head.length:=oq_;obtain ⟨⟨a',c',he,_,_,h38⟩,hlen8,hrg⟩:=H1.out.ext hst.below;injection he with e1 _ e2
      subst e1;subst e2;rcases h38 with h38|⟨b9,f9,rfl,hcell⟩
      ·rw [h38] at hlt2;simp at hlt2
      have hcl:=hcell k2 hlt2;have hyI:=hrg _ (ah_ hlt2);unfold InI at hyI;have HSU:=hq_ (cl_ (fun y=>decide (y<s)) hlt2);have hll:=List.length_filter_le (fun y=>decide (y<s)) (p.head.take k2);rw [List.length_take] at hll;generalize p.head.getD k2 0=y at *;clear hcell hrg hst
      by_cases hy1:y<s
      ·have d1:decide (y<s)=true:=by simp [hy1]
       go_wp2_with fail
       refine ai_ (w0:=wr) [0,1,2,3,4,5,6,7] [8,9,10] (fun v=>⟨#[perV (.slice (some ⟨b9,f9,none⟩) p.head.length c1) (.slice (some ⟨b8,f8,none⟩) p.cycle.length c2) p.frm p.period,.pointer (some ⟨w.heap.size,0,none⟩),.pointer (some ⟨w.heap.size+1,0,none⟩),undef,.int .i64 d,.int .i64 ↑j,.int .i64 s,.pointer (some ⟨ob,0,none⟩),.int .i64 ↑k2,undef,.pointer (some ⟨w.heap.size,3,none⟩),.slice (some ⟨b8,f8,none⟩) p.cycle.length c2,.int .i64 ↑p.cycle.length,.bool false,undef,undef,undef,undef,undef,undef,undef,undef,undef,undef,undef,undef,undef,undef,undef,undef,undef,undef,undef,.agg #[.slice (some ⟨b9,f9,none⟩) p.head.length c1,.int .i64 p.frm,.int .i64 p.period,.slice (some ⟨b8,f8,none⟩) p.cycle.length c2],.int .i64 d,.int .i64 ↑j,.pointer (some ⟨w.heap.size,3,none⟩),.slice (some ⟨b8,f8,none⟩) p.cycle.length c2,.int .i64 ↑p.cycle.length,.bool false,.bool false,undef,undef,undef,undef,undef,undef,undef,.bool false,u49,u50,.agg #[.slice (some ⟨b9,f9,none⟩) p.head.length c1,.int .i64 p.frm,.int .i64 p.period,.slice (some ⟨b8,f8,none⟩) p.cycle.length c2],.int .i64 d,.int .i64 ↑j,.int .i64 s,.int .i64 s,.int .i64 d,.agg #[.slice none 0 0,.int .i64 s,.int .i64 d,.slice none 0 0],.int .i64 ↑k2,.pointer (some ⟨w.heap.size,0,none⟩),.slice (some ⟨b9,f9,none⟩) p.head.length c1,.int .i64 ↑p.head.length,.bool true,u63,u64,.pointer (some ⟨w.heap.size,0,none⟩),.slice (some ⟨b9,f9,none⟩) p.head.length c1,.int .i64 ↑k2,.pointer (some ⟨b9,f9+k2,none⟩),.int .i64 y,.int .i64 s,.bool true,v 0,v 1,v 2,v 3,v 4,v 5,v 6,v 7,u80,u81,undef,undef,undef,undef,undef,undef,undef,undef,undef,undef,undef,undef,undef,undef,undef,undef,undef,undef,undef,undef,undef,undef,undef,undef,undef,undef,undef],[]⟩) [.pointer (some ⟨ob,0,none⟩),hv,.pointer (some ⟨w.heap.size,0,none⟩),.slice (some ⟨b9,f9,none⟩) p.head.length c1,.int .i64 k2,.pointer (some ⟨b9,f9+k2,none⟩),.int .i64 y,undef] [7] (fun i v lo hi W=>match i with|7=>v 7=.slice (some ⟨lo 7,0,none⟩) 1 1∧lo 7<hi 7∧Bxx W (lo 7) #[.int .i64 y] 3|_=>True) (fun W=>W.cell? ⟨w.heap.size,0,none⟩=some (.slice (some ⟨b9,f9,none⟩) p.head.length c1)∧W.cell? ⟨b9,f9+k2,none⟩=some (.int .i64 y)∧W.cell? ⟨ob,0,none⟩=some hv) (fun W9 hb=>⟨cux q0 hb,cux hcl hb,cux o0 hb⟩) ?stab ?loc ?steps ?fin (fun j=>match j with|0=>u72|1=>u73|2=>u74|3=>u75|4=>u76|5=>u77|6=>u78|7=>u79|_=>undef)
       case stab=>
        refine ⟨?_,trivial⟩
        ·intro v lo hi W W' h hb;exact ⟨h.1,h.2.1,h.2.2.below hb⟩
       case loc=>
        refine ⟨?_,trivial⟩
        ·intro v v' lo lo' hi hi' W hag h;have q:=hag 7 (.inl rfl)
         (try dsimp only at h ⊢)
         simp only [q.1,q.2.1,q.2.2] at h;exact h
       case steps=>
        refine .c [] [] rfl ?_ (.c [0] [] rfl ?_ (.c [] [] rfl ?_ (.c [2] [] rfl ?_ (.c [] [] rfl ?_ (.c [3,4] [] rfl ?_ (.c [5] [] rfl ?_ (.c [6] [] rfl ?_ (.n))))))))
        all_goals try exact stw
        ·rintro v lo hi W hb ⟨g0,g1,g2⟩ _;refine .inl ⟨rfl,fun K hK=>?_⟩;simp only [ov,vat,Nat.reduceBEq,cond_true,cond_false];go_wp2_with fail
         exact acx (hK (.slice (some ⟨W.heap.size,0,none⟩) 1 1) _ (Ea (Er _) _) ⟨rfl,sq_,Bxx.new _ _ _⟩) (by simp [ov,vat,upd])
       case fin=>
        rintro v lo hi W2 hb ⟨g0,g1,g2⟩ hf hap;show wpList _ _ _ [_,_,_] _ _;have e1:v 1=hv:=(hf 1 rfl).2.2.2;obtain ⟨l7,m7,n7,e7,lt7,hb7⟩:=hf 7 rfl;have hown1:=hown.ext hb;have hz2:=hb.size;have hnew:W2.cell? ⟨lo 7,0,none⟩=some (.int .i64 y):=(hb7.cells 0).1;clear hf hap g0 g1 g2;dsimp only;rw [e1,e7];generalize lo 7=bn at *;refine aj_ rq_ _ _ rq_ W4.heap.size hv _ y rq_ hown1 _ _ rq_ hnew ⟨oq_,oq_⟩ oq_ oq_ ?_;intro g cap W5 hown2 hgrow hbel;have hbel':Below W4.heap.size wr W5:=(hb.mono hs3).trans hbel;have hqf2:W5.frozen? ⟨ob,0,none⟩=false:=(Below.frozen hbel' (p:=⟨ob,0,none⟩) hs2).trans oz;have hqc2:W5.cell? ⟨ob,0,none⟩=some hv:=Below.cell' hbel' o0 hs2;go_wp2_with fail
        go_roundw
        case rel=>
         refine ⟨k2+1,.slice (some ⟨g,0,none⟩) (((p.head.take k2).filter (fun y=>decide (y<s))).length+1) cap,oq_,by go_num,?_⟩;rw [HSU.out,if_pos d1];exact HST.out.step hbel' hown2
        case measure=>simp [intOf];omega
      ·have d1:decide (y<s)=false:=by simp;omega
       go_wp2_with fail
       go_roundw
       case rel=>
        refine ⟨k2+1,hv,oq_,by go_num,?_⟩;rw [HSU.out,if_neg (by rw [d1];simp),List.append_nil];exact HST.out
       case measure=>simp [intOf];omega
     ·obtain rfl:k2=p.head.length:=oq_;rw [List.take_length] at HST hown;obtain ⟨hl,hhl⟩:∃ hl,hl=p.head.filter (fun y=>decide (y<s)):=⟨_,rfl⟩;rw [<- hhl] at HST hown HQ;obtain ⟨a9,c9,rfl⟩:=hown.form;have hst0:=HST.out;have HLC:Hid (LC w ob p (.slice a1 p.head.length c1) (.slice (some ⟨b8,f8,none⟩) p.cycle.length c2) s d W4.heap.size wr.heap.size (.slice a9 hl.length c9) hl wr.heap.size (.slice none 0 0) [] wr):=
       hq_ ⟨hst0.below,hst0.pb,hst0.rb,hst0.obx,OwnI.nil _ _,hown.oin,hst0.o1,oq_,Nat.le_refl _,.inl hs2,Nat.le_refl _,by have:=hst0.o1;omega⟩
      have hwz:=hst0.o1;clear hst hst0 hhl hown;go_upto_region 18 with (fail)
      clear o0 o3 oz q0 q1 q2 q3;generalize wr.heap.size=B5 at *
      go_loopw [9] (fun i wq=>∃ (k3:Nat) (cyv:Value),k3≤j∧i=.int .i64 k3∧LC w ob p (.slice a1 p.head.length c1) (.slice (some ⟨b8,f8,none⟩) p.cycle.length c2) s d W4.heap.size B5 (.slice a9 hl.length c9) hl B5 cyv (((p.cycle.take j).take k3).map fun c=>(p.frm+c-s) % d) wq) (fun i _=>j-(intOf i).toNat)
      case atStart=>exact ⟨0,_,oq_,rfl,HLC.out⟩
      case round=>
       obtain ⟨k3,cyv,hk3,rfl,hTw⟩:=hrel;have HTW:=hq_ hTw;have q0:=(hTw.pb.cells 0).1;have q1:=(hTw.pb.cells 1).1;have q3:=(hTw.pb.cells 3).1;have o0:=(hTw.obx.cells 0).1;have o1:=(hTw.obx.cells 1).1;have o2:=(hTw.obx.cells 2).1;have o3:=(hTw.obx.cells 3).1;have oz:=(hTw.obx.cells 3).2;have hs5:=hTw.o2;have hs6:=hTw.o3;have hown:=hTw.own
       by_cases hlt3:k3<j
       ·have hlI:(k3:Int)<j:=oq_;have hlt4:k3<p.cycle.length:=oq_;have hcl:=Ext.cell hTw.below (HCELL.out k3 hlt4);have hyb:=HW.out.cyc.2 _ (ah_ hlt4);have htk:(((p.cycle.take j).take (k3+1)).map fun c=>(p.frm+c-s) % d)=(((p.cycle.take j).take k3).map fun c=>(p.frm+c-s) % d) ++ [(p.frm+p.cycle.getD k3 0-s) % d]:=by
         have h4:k3<(p.cycle.take j).length:=by simp;omega
         rw [d3_ h4,List.map_append];rw [List.getD_eq_getElem?_getD,List.getElem?_take,if_pos hlt3,<- List.getD_eq_getElem?_getD];rfl
        have HTK:=hq_ htk;generalize p.cycle.getD k3 0=y at *;have hlen:(((p.cycle.take j).take k3).map fun c=>(p.frm+c-s) % d).length=k3:=by simp;omega
        have HLEN:=hq_ hlen;have hz0:=Int.emod_nonneg (p.frm+y-s) (show d≠0 by omega);have hz1':=Int.emod_lt_of_pos (p.frm+y-s) (show 0<d by omega);obtain ⟨z,hz⟩:∃ z,z=(p.frm+y-s) % d:=⟨_,rfl⟩;rw [<- hz] at hz0 hz1' HTK;have htm:(p.frm+y-s).tmod d=z:=by rw [Int.tmod_eq_emod_of_nonneg oq_];exact hz.symm
        have hdz:¬ d=0:=oq_;clear hTw htk hlen hz;go_wp2_with fail
        refine ai_ (w0:=wr) [0,1,2,3,4,5,6,7,8,9,10,11,12,13,14] [15,16,17] (fun v=>⟨#[perV (.slice a1 p.head.length c1) (.slice (some ⟨b8,f8,none⟩) p.cycle.length c2) p.frm p.period,.pointer (some ⟨w.heap.size,0,none⟩),.pointer (some ⟨w.heap.size+1,0,none⟩),undef,.int .i64 d,.int .i64 ↑j,.int .i64 s,.pointer (some ⟨ob,0,none⟩),.int .i64 ↑p.head.length,.int .i64 ↑k3,.pointer (some ⟨w.heap.size,3,none⟩),.slice (some ⟨b8,f8,none⟩) p.cycle.length c2,.int .i64 ↑p.cycle.length,.bool false,undef,undef,undef,undef,undef,undef,undef,undef,undef,undef,undef,undef,undef,undef,undef,undef,undef,undef,undef,.agg #[.slice a1 p.head.length c1,.int .i64 p.frm,.int .i64 p.period,.slice (some ⟨b8,f8,none⟩) p.cycle.length c2],.int .i64 d,.int .i64 ↑j,.pointer (some ⟨w.heap.size,3,none⟩),.slice (some ⟨b8,f8,none⟩) p.cycle.length c2,.int .i64 ↑p.cycle.length,.bool false,.bool false,undef,undef,undef,undef,undef,undef,undef,.bool false,u49,u50,.agg #[.slice a1 p.head.length c1,.int .i64 p.frm,.int .i64 p.period,.slice (some ⟨b8,f8,none⟩) p.cycle.length c2],.int .i64 d,.int .i64 ↑j,.int .i64 s,.int .i64 s,.int .i64 d,.agg #[.slice none 0 0,.int .i64 s,.int .i64 d,.slice none 0 0],.int .i64 ↑p.head.length,.pointer (some ⟨w.heap.size,0,none⟩),.slice a1 p.head.length c1,.int .i64 ↑p.head.length,.bool false,u63,u64,u65,u66,u67,u68,u69,u70,u71,u72,u73,u74,u75,u76,u77,u78,u79,u80,u81,.int .i64 ↑k3,.int .i64 ↑j,.bool true,u85,u86,v 0,v 1,v 2,v 3,v 4,v 5,v 6,v 7,v 8,v 9,v 10,v 11,v 12,v 13,v 14,u102,u103,undef,undef,undef,undef,undef],[]⟩) [.pointer (some ⟨ob,3,none⟩),cyv,.pointer (some ⟨w.heap.size,1,none⟩),.int .i64 p.frm,.pointer (some ⟨w.heap.size,3,none⟩),.slice (some ⟨b8,f8,none⟩) p.cycle.length c2,.int .i64 k3,.pointer (some ⟨b8,f8+k3,none⟩),.int .i64 y,.int .i64 (p.frm+y),.int .i64 s,.int .i64 (p.frm+y-s),.int .i64 d,.int .i64 z,undef] [14] (fun i v lo hi W=>match i with|14=>v 14=.slice (some ⟨lo 14,0,none⟩) 1 1∧lo 14<hi 14∧Bxx W (lo 14) #[.int .i64 z] 3|_=>True) (fun W=>W.cell? ⟨w.heap.size,1,none⟩=some (.int .i64 p.frm)∧W.cell? ⟨w.heap.size,3,none⟩=some (.slice (some ⟨b8,f8,none⟩) p.cycle.length c2)∧W.cell? ⟨b8,f8+k3,none⟩=some (.int .i64 y)∧W.cell? ⟨ob,3,none⟩=some cyv) (fun W9 hb=>⟨cux q1 hb,cux q3 hb,cux hcl hb,cux o3 hb⟩) ?stab ?loc ?steps ?fin (fun j=>match j with|0=>u87|1=>u88|2=>u89|3=>u90|4=>u91|5=>u92|6=>u93|7=>u94|8=>u95|9=>u96|10=>u97|11=>u98|12=>u99|13=>u100|14=>u101|_=>undef)
        case stab=>
         refine ⟨?_,trivial⟩
         ·intro v lo hi W W' h hb;exact ⟨h.1,h.2.1,h.2.2.below hb⟩
        case loc=>
         refine ⟨?_,trivial⟩
         ·intro v v' lo lo' hi hi' W hag h;have q:=hag 14 (.inl rfl)
          (try dsimp only at h ⊢)
          simp only [q.1,q.2.1,q.2.2] at h;exact h
        case steps=>
         refine .c [] [] rfl ?_ (.c [0] [] rfl ?_ (.c [] [] rfl ?_ (.c [2] [] rfl ?_ (.c [] [] rfl ?_ (.c [4] [] rfl ?_ (.c [] [] rfl ?_ (.c [5,6] [] rfl ?_ (.c [7] [] rfl ?_ (.c [3,8] [] rfl ?_ (.c [] [] rfl ?_ (.c [9,10] [] rfl ?_ (.c [] [] rfl ?_ (.c [11,12] [] rfl ?_ (.c [13] [] rfl ?_ (.n)))))))))))))))
         all_goals try exact stw
         ·rintro v lo hi W hb ⟨g0,g1,g2,g3⟩ _;refine .inl ⟨rfl,fun K hK=>?_⟩;simp only [ov,vat,Nat.reduceBEq,cond_true,cond_false];go_wp2_with fail
          exact acx (hK (.slice (some ⟨W.heap.size,0,none⟩) 1 1) _ (Ea (Er _) _) ⟨rfl,sq_,Bxx.new _ _ _⟩) (by simp [ov,vat,upd])
        case fin=>
         rintro v lo hi W2 hb ⟨g0,g1,g2,g3⟩ hf hap;show wpList _ _ _ [_,_,_] _ _;have e1:v 1=cyv:=(hf 1 rfl).2.2.2;obtain ⟨l9,m9,n9,e9,lt9,hb9⟩:=hf 14 rfl;have hown1:=hown.ext hb;have hz2:=hb.size;have hnew:W2.cell? ⟨lo 14,0,none⟩=some (.int .i64 z):=(hb9.cells 0).1;clear hf hap g0 g1 g2 g3;dsimp only;rw [e1,e9];generalize lo 14=bn at *;refine aj_ rq_ _ _ rq_ B5 cyv _ z rq_ hown1 _ _ rq_ hnew ⟨oq_,oq_⟩ (by rw [HLEN.out];omega) oq_ ?_;intro g cap W5 hown2 hgrow hbel;rw [HLEN.out] at hown2 ⊢;have hbel':Below B5 wr W5:=(hb.mono hs6).trans hbel;have hqf2:W5.frozen? ⟨ob,3,none⟩=false:=(Below.frozen hbel' (p:=⟨ob,3,none⟩) hs5).trans oz;have hqc2:W5.cell? ⟨ob,3,none⟩=some cyv:=Below.cell' hbel' o3 hs5;go_wp2_with fail
         go_roundw
         case rel=>
          refine ⟨k3+1,.slice (some ⟨g,0,none⟩) (k3+1) cap,oq_,by go_num,?_⟩;rw [HTK.out];exact HTW.out.step hbel' hown2
         case measure=>simp [intOf];omega
       ·obtain rfl:k3=j:=oq_;rw [List.take_take,Nat.min_self] at hown HTW;obtain ⟨cl,hcl⟩:∃ cl,cl=(p.cycle.take k3).map fun c=>(p.frm+c-s) % d:=⟨_,rfl⟩;have hnd:cl.Nodup:=by rw [hcl];exact h0_ HS.out.rise
        rw [<- hcl] at hown HTW HQ;have HND:=hq_ hnd;have HCL:=hq_ hcl;obtain ⟨m8,c8,rfl⟩:=hown.form;have hoc:=hown.ints;have HOC:=hq_ hoc;have hrb2:=HTW.out.rb;have hob9:=HTW.out.obx;have HRB2:=hq_ hrb2;have HOB9:=hq_ hob9;have hhd:=HTW.out.hd;have HHD:=hq_ hhd;have hbW:=HTW.out.below;have HBW:=hq_ hbW;have o6:=HTW.out.o6;have o5:=HTW.out.o5;clear hnd hcl hown hoc hTw hhd hrb2 hob9 hbW;have o5':ob<wr.heap.size:=oq_;have o6':w.heap.size+1<wr.heap.size:=oq_;have r0:=(HRB2.out.cells 0);have r1:=(HRB2.out.cells 1);have r2:=(HRB2.out.cells 2);have r3:=(HRB2.out.cells 3);go_wp2_with (go_at_call 172;refine (jf_ _ cl _ (HOC.out.ext xE) HND.out).mono ?_;rintro e W6 ⟨sv,rfl,hown6,hb6⟩;obtain ⟨ya,yc,rfl⟩:=hown6.form;have HOWN6:=hq_ hown6;clear hown6;have x6:W6.frozen? ⟨ob,3,none⟩=false:=(Below.frozen hb6 (p:=⟨ob,3,none⟩) o5').trans oz;have y0:W6.cell? ⟨ob,0,none⟩=some (.slice a9 hl.length c9):=Below.cell' hb6 o0 o5';have y1:W6.cell? ⟨ob,1,none⟩=some (.int .i64 s):=Below.cell' hb6 o1 o5';have y2:W6.cell? ⟨ob,2,none⟩=some (.int .i64 d):=Below.cell' hb6 o2 o5';have y3:W6.cell? ⟨ob,3,none⟩=some (.slice m8 cl.length c8):=Below.cell' hb6 o3 o5';have z0:=((HRB2.out.upto hb6 o6').cells 0);have z1:=((HRB2.out.upto hb6 o6').cells 1);have z2:=((HRB2.out.upto hb6 o6').cells 2);have z3:=((HRB2.out.upto hb6 o6').cells 3);have zl:=(HRB2.out.upto hb6 o6').lt)
        have hbW:=HBW.out;have hb6z:=hb6.size;refine bodyPost_ret (v:=.agg #[.slice a9 hl.length c9,.int .i64 s,.int .i64 d,.slice ya (a0_ cl).length yc]) (by simp [results,Tryz.results138,go_sem, *]) rfl ⟨_,_,⟨hl,s,d,a0_ cl⟩,rfl,HQ.out,⟨?_,?_⟩,xE⟩
        ·have h1:bo_ _ _ _ (.slice a9 hl.length c9) hl:=(((((HHD.out.below hb6 oq_).set (b:=ob) (i:=3) (.slice ya (a0_ cl).length yc) oq_).set (b:=w.heap.size+1) (i:=0) (.slice a9 hl.length c9) oq_).set (b:=w.heap.size+1) (i:=1) (.int .i64 s) oq_).set (b:=w.heap.size+1) (i:=2) (.int .i64 d) oq_).set (b:=w.heap.size+1) (i:=3) (.slice ya (a0_ cl).length yc) oq_;exact h1.own.mono (base':=w.heap.size) oq_
        ·have h1:bo_ _ _ _ (.slice ya (a0_ cl).length yc) (a0_ cl):=(((((HOWN6.out.oin).set (b:=ob) (i:=3) (.slice ya (a0_ cl).length yc) oq_).set (b:=w.heap.size+1) (i:=0) (.slice a9 hl.length c9) oq_).set (b:=w.heap.size+1) (i:=1) (.int .i64 s) oq_).set (b:=w.heap.size+1) (i:=2) (.int .i64 d) oq_).set (b:=w.heap.size+1) (i:=3) (.slice ya (a0_ cl).length yc) oq_;exact h1.own.mono (base':=w.heap.size) oq_
theorem l1_ (h c:Value) (p q:Per) (w:World) (hp:a8_ w h c p) (hw:p.WF) (h1:p.frm≤1125899906842624) (h2:p.period≤1125899906842624) (hq:a6_ q p.mem) :
  Calls Tryz.prog 138 #[perV h c p.frm p.period] w (in_ q w):=by
 have key:Calls Tryz.prog 138 #[perV h c p.frm p.period] w (e7_ p.mem w):=by
  by_cases hc:p.cycle=[]
  ·exact qs_ h c p w hp hw h1 hc
  ·exact s0_ h c p w hp hw h1 h2 hc
 refine key.mono fun e w' hr=>?_;obtain ⟨h',c',q',rfl,hq',hp',hb⟩:=hr;obtain rfl:=hq'.unique hq;exact ⟨h',c',rfl,hp',hb⟩
theorem gm_ (h c:Value) (p q:Per) (w:World) (hp:a8_ w h c p) (hv:Valid p) (hq:a6_ q p.mem) :
  Calls Tryz.prog 164 #[perV h c p.frm p.period] w (b6_ q w):=by
 have hl:∀ W,Below w.heap.size w W->a8_ W h c p:=fun W hb=>hp.ext hb;have hvb:=(as_ p).2 hv;have HVB:=hq_ hvb;have HI1:Hid (InI p.frm):=by have:=hv.frm;have:=hv.wf.frm;exact hq_ ⟨oq_,oq_⟩
 have HI2:Hid (InI p.period):=by have:=hv.per;have:=hv.wf.per;exact hq_ ⟨oq_,oq_⟩
 have HV:=hq_ hv;have HF:Hid (p.frm≤1125899906842624):=by have:=hv.frm;exact hq_ oq_
 have HP:Hid (p.period≤1125899906842624):=by have:=hv.per;exact hq_ oq_
 have HQ:=hq_ hq;clear hv hp hq hvb
 go_enter Tryz.func164,Tryz.ntmps164
 go_wp2_with (first|(go_at_call 62;refine (ca_ h c p _ (hl _ xE) HI1.out HI2.out).mono ?_;rintro e w1 ⟨he,hb1⟩;rw [HVB.out] at he;subst he;obtain ⟨hc1,hf1⟩:=au_ hb1;have hz1:w.heap.size+1<w1.heap.size:=(by have:=hb1.size;simp at this;omega))|(go_at_call 138;refine (l1_ h c p q _ (hl _ xE) HV.out.wf HF.out HP.out HQ.out).mono ?_;rintro e w2 ⟨h',c',rfl,hp2,hb2⟩;obtain ⟨a1,c1,a2,c2,rfl,rfl⟩:=hp2.form;obtain ⟨hc2,hf2⟩:=au_ hb2;have HP2:=hq_ hp2;clear hp2))
 exact bodyPost_ret (v:=.tuple #[perV (.slice a1 q.head.length c1) (.slice a2 q.cycle.length c2) q.frm q.period,.int .i64 0]) (by simp [results,Tryz.results164,go_sem, *]) rfl ⟨_,_,rfl,(HP2.out.above (by (repeat' (with_reducible first|exact a7_.refl _ _|refine a7_.alloc ?_ _|refine a7_.drew ?_|refine a7_.drewN ?_ _|refine a7_.setCell ?_ (by first|(simp;done)|(simp;omega)|omega) _)))).mono (by have:=hb1.size;simp at this;omega),xE⟩
end Go.Proofs.YthjnojbeimchdaaGreat
namespace Go.Proofs.YthjnojbeimchdaaGreat
open Kal
def comb (op:Int):Nat->List Int->List Int->List Int
 | 0,_,_=>[]
 | _+1,[],[]=>[]
 | n+1,x :: a,[]=>if op≠0 then x :: comb op n a [] else comb op n a []
 | n+1,[],y :: b=>if op=1 then y :: comb op n [] b else comb op n [] b
 | n+1,x :: a,y :: b=>
  if x<y then (if op≠0 then x :: comb op n a (y :: b) else comb op n a (y :: b))
  else if y<x then (if op=1 then y :: comb op n (x :: a) b else comb op n (x :: a) b)
  else (if op≠2 then x :: comb op n a b else comb op n a b)
theorem e9_ (op:Int):∀ (n m:Nat) (a b:List Int),a.length+b.length≤n->a.length+b.length≤m->comb op n a b=comb op m a b
 | 0,0,_,_,_,_=>rfl
 | 0,m+1,a,b,h,_=>by
  obtain rfl:a=[]:=List.eq_nil_of_length_eq_zero oq_;obtain rfl:b=[]:=List.eq_nil_of_length_eq_zero oq_;rfl
 | n+1,0,a,b,_,h=>by
  obtain rfl:a=[]:=List.eq_nil_of_length_eq_zero oq_;obtain rfl:b=[]:=List.eq_nil_of_length_eq_zero oq_;rfl
 | n+1,m+1,a,b,h,g=>by
  cases a with
  | nil=>cases b with
   | nil=>rfl
   | cons y b=>simp only [comb];simp only [List.length_cons,List.length_nil] at h g;rw [e9_ op n m [] b tq_ tq_]
  | cons x a=>cases b with
   | nil=>simp only [comb];simp only [List.length_cons,List.length_nil] at h g;rw [e9_ op n m a [] tq_ tq_]
   | cons y b=>
    simp only [comb];simp only [List.length_cons] at h g;rw [e9_ op n m a (y :: b) tq_ tq_,e9_ op n m (x :: a) b tq_ tq_,e9_ op n m a b oq_ oq_]
def b9_ (op:Int) (a b:List Int):List Int:=comb op (a.length+b.length) a b
theorem q0_ {a b:List Int} (h:∀ y b',b=y :: b'->x<y):b9_ op (x :: a) b=if op≠0 then x :: b9_ op a b else b9_ op a b:=by
 unfold b9_;rw [show (x :: a).length+b.length=(a.length+b.length)+1 from by simp;omega];cases b with
 | nil=>rfl
 | cons y b=>simp only [comb];rw [if_pos (h y b rfl)]
theorem pz_ {a b:List Int} (h:∀ x a',a=x :: a'->y<x):b9_ op a (y :: b)=if op=1 then y :: b9_ op a b else b9_ op a b:=by
 unfold b9_;rw [show a.length+(y :: b).length=(a.length+b.length)+1 from by simp;omega];cases a with
 | nil=>rfl
 | cons x a=>have h1:=h x a rfl;simp only [comb];rw [if_neg oq_,if_pos h1]
theorem nz_ {a b:List Int}:b9_ op (x :: a) (x :: b)=if op≠2 then x :: b9_ op a b else b9_ op a b:=by
 unfold b9_;rw [show (x :: a).length+(x :: b).length=(a.length+b.length+1)+1 from by simp;omega];simp only [comb];rw [if_neg oq_,if_neg oq_,e9_ op (a.length+b.length+1) (a.length+b.length) a b oq_ oq_]
theorem ij_:b9_ op [] []=[]:=rfl
theorem d1_ (h:i<l.length):l.drop i=l.getD i 0 :: l.drop (i+1):=by
 rw [List.getD_eq_getElem?_getD,List.getElem?_eq_getElem h,List.drop_eq_getElem_cons h];rfl
theorem m6_ {b:List Int} (h:l.drop k=y :: b):k<l.length∧y=l.getD k 0:=by
 have hk:k<l.length:=by
  rcases Nat.lt_or_ge k l.length with h1|h1
  ·exact h1
  ·rw [List.drop_eq_nil_of_le h1] at h;cases h
 rw [d1_ hk] at h;injection h with h1 h2
 exact ⟨hk,h1.symm⟩
theorem m3_ {m:List Int} (hi:i<l.length) (h:k<m.length->l.getD i 0<m.getD k 0):b9_ op (l.drop i) (m.drop k)=if op≠0 then l.getD i 0 :: b9_ op (l.drop (i+1)) (m.drop k) else b9_ op (l.drop (i+1)) (m.drop k):=by
 rw [d1_ hi];exact q0_ fun y b e=>by obtain ⟨h1,h2⟩:=m6_ e;rw [h2];exact h h1
theorem me_ {m:List Int} (hk:k<m.length) (h:i<l.length->m.getD k 0<l.getD i 0):b9_ op (l.drop i) (m.drop k)=if op=1 then m.getD k 0 :: b9_ op (l.drop i) (m.drop (k+1)) else b9_ op (l.drop i) (m.drop (k+1)):=by
 rw [d1_ hk];exact pz_ fun y b e=>by obtain ⟨h1,h2⟩:=m6_ e;rw [h2];exact h h1
theorem qh_ {m:List Int} (hi:i<l.length) (hk:k<m.length) (h:l.getD i 0=m.getD k 0):b9_ op (l.drop i) (m.drop k)=if op≠2 then l.getD i 0 :: b9_ op (l.drop (i+1)) (m.drop (k+1)) else b9_ op (l.drop (i+1)) (m.drop (k+1)):=by
 rw [d1_ hi,d1_ hk,<- h];exact nz_
theorem nm_ (hop:op=0∨op=1∨op=2):∀ (n:Nat) (a b:List Int) (lo hi:Int),a.length+b.length≤n->Rise lo hi a->Rise lo hi b->
  Rise lo hi (b9_ op a b)∧∀ x,x∈b9_ op a b↔opS op (·∈a) (·∈b) x:=by
 intro n
 induction n with
 | zero=>
  intro a b lo hi h _ _;obtain rfl:a=[]:=List.eq_nil_of_length_eq_zero oq_;obtain rfl:b=[]:=List.eq_nil_of_length_eq_zero oq_;refine ⟨Rise.nil,fun x=>?_⟩;rcases hop with rfl|rfl|rfl <;> simp [ij_,opS]
 | succ n ih=>
  intro a b lo hi h ha hb;have tail:∀ {y:Int} {l:List Int},Rise lo hi (y :: l)->Rise (y+1) hi l∧lo≤y∧y<hi:=fun {y l} hr=>by
   have h1:=List.pairwise_cons.1 hr.1;have h2:=hr.2 y sq_;refine ⟨⟨h1.2,fun z hz=>?_⟩,h2⟩;have h3:=h1.1 z hz;have h4:=hr.2 z (by simp [hz]);omega
  have cons:∀ {y:Int} {l:List Int},lo≤y->y<hi->Rise (y+1) hi l->Rise lo hi (y :: l):=fun {y l} h1 h2 hr=>by
   refine ⟨List.pairwise_cons.2 ⟨fun z hz=>?_,hr.1⟩,fun z hz=>?_⟩
   ·have:=hr.2 z hz;omega
   ·rcases List.mem_cons.1 hz with rfl|hz
    ·exact ⟨h1,h2⟩
    ·have:=hr.2 z hz;omega
  have up:∀ {y:Int} {l:List Int},lo≤y->Rise lo hi l->(∀ z l',l=z :: l'->y<z)->Rise (y+1) hi l:=fun {y l} h1 hr hz=>by
   refine ⟨hr.1,fun x hx=>⟨?_,(hr.2 x hx).2⟩⟩;cases l with
   | nil=>simp at hx
   | cons z l'=>
    have h2:=hz z l' rfl;rcases List.mem_cons.1 hx with rfl|hx
    ·omega
    ·have:=(List.pairwise_cons.1 hr.1).1 x hx;omega
  have stepA:∀ {y:Int} {a':List Int},a=y :: a'->(∀ z l',b=z :: l'->y<z)->Rise lo hi (b9_ op a b)∧∀ x,x∈b9_ op a b↔opS op (·∈a) (·∈b) x:=fun {y a'} e hz=>by
   subst e;obtain ⟨t1,t2,t3⟩:=tail ha;have ub:=up t2 hb hz;obtain ⟨i1,i2⟩:=ih a' b (y+1) hi (by simp at h;omega) t1 ub;rw [q0_ hz];have nb:y ∉ b:=fun hy=>by have:=ub.2 y hy;omega
   have na:y ∉ a':=fun hy=>by have:=t1.2 y hy;omega
   have hne:∀ x,x∈b9_ op a' b->x≠y:=fun x hx e=>by have:=i1.2 x hx;omega
   rcases hop with rfl|rfl|rfl
   ·rw [if_neg sq_];refine ⟨i1.mono oq_ (Int.le_refl _),fun x=>?_⟩;rw [i2 x];simp only [opS,if_pos];refine ⟨fun ⟨h1,h2⟩=>⟨List.mem_cons_of_mem _ h1,h2⟩,fun ⟨h1,h2⟩=>⟨?_,h2⟩⟩;rcases List.mem_cons.1 h1 with rfl|h1
    ·exact absurd h2 nb
    ·exact h1
   ·rw [if_pos oq_];refine ⟨cons t2 t3 i1,fun x=>?_⟩;rw [List.mem_cons,i2 x];simp [opS,or_assoc]
   ·rw [if_pos oq_];refine ⟨cons t2 t3 i1,fun x=>?_⟩;rw [List.mem_cons,i2 x];simp only [opS,List.mem_cons];simp only [show ¬ (2:Int)=0 from oq_,show ¬ (2:Int)=1 from oq_,if_false];refine ⟨fun h=>h.elim (fun h=>⟨.inl h,h ▸ nb⟩) (fun h=>⟨.inr h.1,h.2⟩),fun ⟨h1,h2⟩=>h1.elim .inl fun h1=>.inr ⟨h1,h2⟩⟩
  have stepB:∀ {y:Int} {b':List Int},b=y :: b'->(∀ z l',a=z :: l'->y<z)->Rise lo hi (b9_ op a b)∧∀ x,x∈b9_ op a b↔opS op (·∈a) (·∈b) x:=fun {y b'} e hz=>by
   subst e;obtain ⟨t1,t2,t3⟩:=tail hb;have ua:=up t2 ha hz;obtain ⟨i1,i2⟩:=ih a b' (y+1) hi (by simp at h;omega) ua t1;rw [pz_ hz];have na:y ∉ a:=fun hy=>by have:=ua.2 y hy;omega
   have nb:y ∉ b':=fun hy=>by have:=t1.2 y hy;omega
   rcases hop with rfl|rfl|rfl
   ·rw [if_neg oq_];refine ⟨i1.mono oq_ (Int.le_refl _),fun x=>?_⟩;rw [i2 x];simp only [opS,if_pos];refine ⟨fun ⟨h1,h2⟩=>⟨h1,List.mem_cons_of_mem _ h2⟩,fun ⟨h1,h2⟩=>⟨h1,?_⟩⟩;rcases List.mem_cons.1 h2 with rfl|h2
    ·exact absurd h1 na
    ·exact h2
   ·rw [if_pos rfl];refine ⟨cons t2 t3 i1,fun x=>?_⟩;rw [List.mem_cons,i2 x];simp only [opS,List.mem_cons];simp only [show ¬ (1:Int)=0 from oq_,if_false,if_true];exact ⟨fun h=>h.elim (fun h=>.inr (.inl h)) fun h=>h.elim .inl fun h=>.inr (.inr h),fun h=>h.elim (fun h=>.inr (.inl h)) fun h=>h.elim .inl fun h=>.inr (.inr h)⟩
   ·rw [if_neg oq_];refine ⟨i1.mono oq_ (Int.le_refl _),fun x=>?_⟩;rw [i2 x];simp only [opS,List.mem_cons];simp only [show ¬ (2:Int)=0 from oq_,show ¬ (2:Int)=1 from oq_,if_false];refine ⟨fun ⟨h1,h2⟩=>⟨h1,fun h=>h.elim (fun h=>na (h ▸ h1)) h2⟩,fun ⟨h1,h2⟩=>⟨h1,fun h=>h2 (.inr h)⟩⟩
  cases a with
  | nil=>cases b with
   | nil=>
    refine ⟨Rise.nil,fun x=>?_⟩;rcases hop with rfl|rfl|rfl <;> simp [ij_,opS]
   | cons y b=>exact stepB rfl (fun z l' e=>by cases e)
  | cons x a=>cases b with
   | nil=>exact stepA rfl (fun z l' e=>by cases e)
   | cons y b=>
    rcases Int.lt_trichotomy x y with hlt|heq|hgt
    ·exact stepA rfl (fun z l' e=>by injection e with e1 e2;omega)
    ·subst heq;obtain ⟨t1,t2,t3⟩:=tail ha;obtain ⟨s1,_,_⟩:=tail hb;obtain ⟨i1,i2⟩:=ih a b (x+1) hi (by simp at h;omega) t1 s1;have na:x ∉ a:=fun hy=>by have:=t1.2 x hy;omega
     have nb:x ∉ b:=fun hy=>by have:=s1.2 x hy;omega
     rw [nz_];rcases hop with rfl|rfl|rfl
     ·rw [if_pos oq_];refine ⟨cons t2 t3 i1,fun z=>?_⟩;rw [List.mem_cons,i2 z];simp only [opS,if_pos,List.mem_cons];refine ⟨fun h=>h.elim (fun h=>⟨.inl h,.inl h⟩) (fun h=>⟨.inr h.1,.inr h.2⟩),fun ⟨h1,h2⟩=>?_⟩;rcases h1 with h1|h1
      ·exact .inl h1
      ·rcases h2 with h2|h2
       ·exact .inl h2
       ·exact .inr ⟨h1,h2⟩
     ·rw [if_pos oq_];refine ⟨cons t2 t3 i1,fun z=>?_⟩;rw [List.mem_cons,i2 z];simp only [opS,List.mem_cons];simp only [show ¬ (1:Int)=0 from oq_,if_false,if_true];refine ⟨fun h=>h.elim (fun h=>.inl (.inl h)) (fun h=>h.elim (fun h=>.inl (.inr h)) (fun h=>.inr (.inr h))),fun h=>?_⟩;rcases h with (h|h)|(h|h)
      ·exact .inl h
      ·exact .inr (.inl h)
      ·exact .inl h
      ·exact .inr (.inr h)
     ·rw [if_neg oq_];refine ⟨i1.mono oq_ (Int.le_refl _),fun z=>?_⟩;rw [i2 z];simp only [opS,List.mem_cons];simp only [show ¬ (2:Int)=0 from oq_,show ¬ (2:Int)=1 from oq_,if_false];refine ⟨fun ⟨h1,h2⟩=>⟨.inr h1,fun h=>h.elim (fun h=>na (h ▸ h1)) h2⟩,fun ⟨h1,h2⟩=>⟨?_,fun h=>h2 (.inr h)⟩⟩;rcases h1 with h1|h1
      ·exact absurd (.inl h1) h2
      ·exact h1
    ·exact stepB rfl (fun z l' e=>by injection e with e1 e2;omega)
theorem u5_ (hop:op=0∨op=1∨op=2) {S T:Int->Prop} {hi:Int} (h0:0≤lo):b9_ op (sel S lo hi) (sel T lo hi)=sel (opS op S T) lo hi:=by
 obtain ⟨h1,h2⟩:=nm_ hop _ (sel S lo hi) (sel T lo hi) lo hi (Nat.le_refl _) (ad_ h0) (ad_ h0);refine h1.ext (ad_ h0) fun x=>?_;rw [h2,ae_ h0];rcases hop with rfl|rfl|rfl <;> simp only [opS,ae_ h0]
 ·simp only [if_pos];exact ⟨fun ⟨⟨a,b,c⟩,d⟩=>⟨a,b,c,d.2.2⟩,fun ⟨a,b,c,d⟩=>⟨⟨a,b,c⟩,a,b,d⟩⟩
 ·simp only [show ¬ (1:Int)=0 from oq_,if_false,if_true];exact ⟨fun h=>h.elim (fun ⟨a,b,c⟩=>⟨a,b,.inl c⟩) (fun ⟨a,b,c⟩=>⟨a,b,.inr c⟩),fun ⟨a,b,c⟩=>c.elim (fun c=>.inl ⟨a,b,c⟩) (fun c=>.inr ⟨a,b,c⟩)⟩
 ·simp only [show ¬ (2:Int)=0 from oq_,show ¬ (2:Int)=1 from oq_,if_false];exact ⟨fun ⟨⟨a,b,c⟩,d⟩=>⟨a,b,c,fun e=>d ⟨a,b,e⟩⟩,fun ⟨a,b,c,d⟩=>⟨⟨a,b,c⟩,fun e=>d e.2.2⟩⟩
def qo_ (l:List Int) (f d:Int):Per:=⟨l.filter (fun x=>decide (x<f)),f,d,(l.filter (fun x=>!decide (x<f))).map (· - f)⟩
theorem vg_ {U:Int->Prop} (h0:0≤f) (hd:1≤d) (hp:am_ U f d) (hU:∀ n,U n->0≤n):(qo_ (sel U 0 (f+d)) f d).WF∧∀ n,(qo_ (sel U 0 (f+d)) f d).mem n↔U n:=by
 have hr:=ad_ (S:=U) (hi:=f+d) (Int.le_refl 0);refine ⟨⟨h0,hd,?_,?_⟩,fun n=>?_⟩
 ·refine ⟨(hr.filter _).1,fun x hx=>?_⟩;have h1:=List.mem_filter.1 hx;have h2:=hr.2 x h1.1;have h3:=of_decide_eq_true h1.2;exact ⟨h2.1,h3⟩
 ·have h4:Rise f (f+d) ((sel U 0 (f+d)).filter (fun x=>!decide (x<f))):=⟨(hr.filter _).1,fun x hx=>by
   have h1:=List.mem_filter.1 hx;have h2:=hr.2 x h1.1;have h3:=h1.2;simp at h3;omega⟩
  have h5:=h4.map_add (-f);refine (show Rise 0 d _ from ?_);have e:(fun x:Int=>x-f)=(fun x=>x+-f):=by funext x;omega
  show Rise 0 d (List.map (fun x:Int=>x-f) _);rw [e];exact h5.mono oq_ oq_
 ·show (0≤n∧if n<f then n∈(sel U 0 (f+d)).filter (fun x=>decide (x<f)) else (n-f) % d∈((sel U 0 (f+d)).filter (fun x=>!decide (x<f))).map (· - f))↔U n
  by_cases hn:n<f
  ·rw [if_pos hn,List.mem_filter,ae_ (Int.le_refl 0),decide_eq_true_eq];exact ⟨fun h=>h.2.1.2.2,fun h=>⟨hU n h,⟨hU n h,oq_,h⟩,hn⟩⟩
  ·rw [if_neg hn,List.mem_map,hp.shift hd (show f≤n by omega)];have e0:=Int.emod_nonneg (n-f) (show d≠0 by omega);have e1:=Int.emod_lt_of_pos (n-f) (show 0<d by omega);constructor
   ·rintro ⟨h1,x,hx,h2⟩;have h3:=(ae_ (Int.le_refl 0) x).1 (List.mem_filter.1 hx).1;rw [show f+(n-f) % d=x from by omega];exact h3.2.2
   ·intro h;refine ⟨oq_,f+(n-f) % d,List.mem_filter.2 ⟨(ae_ (Int.le_refl 0) _).2 ⟨oq_,oq_,h⟩,tq_⟩,oq_⟩
end Go.Proofs.YthjnojbeimchdaaGreat
namespace Go.Proofs.YthjnojbeimchdaaGreat
open Go.RowKit Go.Maps Kal
def x0_ (qa qb:Per) (w:World) (e:Ending) (w':World):Prop:=
 ∃ x1 x2 x3 x4:Value,e=.returned (.tuple #[perV x1 x2 qa.frm qa.period,perV x3 x4 qb.frm qb.period,.int .i64 (max qa.frm qb.frm),.int .i64 (lcmI qa.period qb.period)])∧POx w' w.heap.size x1 x2 qa∧POx w' w.heap.size x3 x4 qb∧Below w.heap.size w w'
theorem rp_ (h1 c1 h2 c2:Value) (p1 p2 qa qb:Per) (w:World) (hp1:a8_ w h1 c1 p1) (hp2:a8_ w h2 c2 p2) (hv1:Valid p1) (hv2:Valid p2) (hqa:a6_ qa p1.mem) (hqb:a6_ qb p2.mem) (hl:lcmI qa.period qb.period≤1099511627776) :
  Calls Tryz.prog 173 #[perV h1 c1 p1.frm p1.period,perV h2 c2 p2.frm p2.period] w (x0_ qa qb w):=by
 obtain ⟨a1,m1,a2,m2,rfl,rfl⟩:=hp1.inn.form;obtain ⟨a3,m3,a4,m4,rfl,rfl⟩:=hp2.inn.form;have hl1:∀ W,Below w.heap.size w W->a8_ W (.slice a1 p1.head.length m1) (.slice a2 p1.cycle.length m2) p1:=fun W hb=>hp1.ext hb;have hl2:∀ W,Below w.heap.size w W->a8_ W (.slice a3 p2.head.length m3) (.slice a4 p2.cycle.length m4) p2:=fun W hb=>hp2.ext hb;have HV1:=hq_ hv1;have HV2:=hq_ hv2;have HQA:=hq_ hqa;have HQB:=hq_ hqb;obtain ⟨b1,b2,_,b4,b5⟩:=hqa.smaller hv1.wf;obtain ⟨d1,d2,_,d4,d5⟩:=hqb.smaller hv2.wf;have za0:=hqa.wf.frm;have zb0:=hqb.wf.frm;have za1:=hqa.wf.per;have zb1:=hqb.wf.per;have e1:=hv1.frm;have e2:=hv1.per;have e3:=hv2.frm;have e4:=hv2.per;clear hp1 hp2 hv1 hv2 hqa hqb;obtain ⟨g,hg⟩:∃ g,g=((Int.gcd qa.period qb.period:Nat):Int):=⟨_,rfl⟩;obtain ⟨n,hn⟩:∃ n,n=qa.period / g:=⟨_,rfl⟩;obtain ⟨L,hL⟩:∃ L,L=lcmI qa.period qb.period:=⟨_,rfl⟩;obtain ⟨st,hst⟩:∃ st,st=max qa.frm qb.frm:=⟨_,rfl⟩;have hLn:n*qb.period=L:=by rw [hL,hn,hg];rfl
 have hgb:1≤g:=by rw [hg];exact (bn_ za1).1
 have hn0:0≤n:=by rw [hn];exact Int.ediv_nonneg oq_ oq_
 have hnq:n≤qa.period:=by rw [hn];exact Int.ediv_le_self _ oq_
 have hL0:1≤L:=by rw [hL];exact c7_ za1 zb1
 rw [<- hL] at hl;obtain ⟨M,hM⟩:∃ M,M=1099511627776 / qb.period:=⟨_,rfl⟩;have hnM:n≤M:=by rw [hM];exact Int.le_ediv_of_mul_le oq_ (by rw [hLn];exact hl)
 have HGD:Hid (((Int.gcd qa.period qb.period:Nat):Int)=g):=hq_ hg.symm;have HLL:=hq_ hL;have HST:=hq_ hst;have hgz:¬ g=0:=oq_;have hpz:¬ qb.period=0:=oq_;have htd:qa.period.tdiv g=n:=by rw [Int.tdiv_eq_ediv_of_nonneg oq_];exact hn.symm
 have htm:(1099511627776:Int).tdiv qb.period=M:=by rw [Int.tdiv_eq_ediv_of_nonneg oq_];exact hM.symm
 have hM1:M≤1099511627776:=by rw [hM];exact Int.ediv_le_self _ oq_
 have hst1:0≤st∧st≤1099511627776:=oq_;clear hg hn hL hM hst
 go_enter Tryz.func173,Tryz.ntmps173
 go_upto_region 1 with (fail)
 refine al_ (F:=fun U=>Bxx U w.heap.size #[.slice a1 p1.head.length m1,.int .i64 p1.frm,.int .i64 p1.period,.slice a2 p1.cycle.length m2] 39∧Bxx U (w.heap.size+1) #[.slice a3 p2.head.length m3,.int .i64 p2.frm,.int .i64 p2.period,.slice a4 p2.cycle.length m4] 39∧Bxx U (w.heap.size+1+1) #[.slice none 0 0,.int .i64 0,.int .i64 0,.slice none 0 0] 39∧Bxx U (w.heap.size+1+1+1) #[.slice none 0 0,.int .i64 0,.int .i64 0,.slice none 0 0] 39∧w.heap.size+3<U.heap.size∧Below w.heap.size w U) ⟨xB,xB,xB,xB,by simp;try omega,xE⟩ ?_;rintro W1 ⟨hA,hB,hZ1,hZ2,hz1,hE⟩;have A0:W1.cell? ⟨w.heap.size,0,none⟩=some (.slice a1 p1.head.length m1):=(hA.cells 0).1;have A1:W1.cell? ⟨w.heap.size,1,none⟩=some (.int .i64 p1.frm):=(hA.cells 1).1;have A2:W1.cell? ⟨w.heap.size,2,none⟩=some (.int .i64 p1.period):=(hA.cells 2).1;have A3:W1.cell? ⟨w.heap.size,3,none⟩=some (.slice a2 p1.cycle.length m2):=(hA.cells 3).1;go_upto_region 2 with (go_at_call 164;refine (gm_ _ _ p1 qa _ (hl1 _ xE) HV1.out HQA.out).mono ?_;rintro e u1 ⟨x1,x2,rfl,ho1,hb1⟩;obtain ⟨a5,m5,a6,m6,rfl,rfl⟩:=ho1.form)
 generalize hu1:u1.heap.size=bA at *;have hzA:W1.heap.size≤bA:=by have:=hb1.size;omega
 refine al_ (F:=fun U=>Bxx U bA #[.slice a5 qa.head.length m5,.int .i64 qa.frm,.int .i64 qa.period,.slice a6 qa.cycle.length m6] 39∧POx U W1.heap.size (.slice a5 qa.head.length m5) (.slice a6 qa.cycle.length m6) qa∧Bxx U (w.heap.size+1) #[.slice a3 p2.head.length m3,.int .i64 p2.frm,.int .i64 p2.period,.slice a4 p2.cycle.length m4] 39∧Bxx U (w.heap.size+1+1) #[.slice none 0 0,.int .i64 0,.int .i64 0,.slice none 0 0] 39∧Bxx U (w.heap.size+1+1+1) #[.slice none 0 0,.int .i64 0,.int .i64 0,.slice none 0 0] 39∧Below W1.heap.size W1 U)
  ⟨Bxx.at hu1.symm,ho1.ext xE,(hB.below hb1).alloc _,(hZ1.below hb1).alloc _,(hZ2.below hb1).alloc _,xE⟩ ?_
 clear hA A0 A1 A2 A3 ho1 hb1 hB hZ1 hZ2 hu1;rintro W2 ⟨hqA,ho1,hB,hZ1,hZ2,hb1⟩;have hE2:Below w.heap.size w W2:=by exact xE
 have B0:W2.cell? ⟨w.heap.size+1,0,none⟩=some (.slice a3 p2.head.length m3):=(hB.cells 0).1;have B1:W2.cell? ⟨w.heap.size+1,1,none⟩=some (.int .i64 p2.frm):=(hB.cells 1).1;have B2:W2.cell? ⟨w.heap.size+1,2,none⟩=some (.int .i64 p2.period):=(hB.cells 2).1;have B3:W2.cell? ⟨w.heap.size+1,3,none⟩=some (.slice a4 p2.cycle.length m4):=(hB.cells 3).1;go_upto_region 3 with (go_at_call 164;refine (gm_ _ _ p2 qb _ (hl2 _ xE) HV2.out HQB.out).mono ?_;rintro e u2 ⟨x3,x4,rfl,ho2,hb2⟩;obtain ⟨a7,m7,a8,m8,rfl,rfl⟩:=ho2.form)
 generalize hu2:u2.heap.size=bB at *;have hlA:=hqA.lt;have hzB:W2.heap.size≤bB:=by have:=hb2.size;omega
 have hzC:W1.heap.size≤W2.heap.size:=hb1.size;refine al_ (F:=fun U=>Bxx U bA #[.slice a5 qa.head.length m5,.int .i64 qa.frm,.int .i64 qa.period,.slice a6 qa.cycle.length m6] 39∧Bxx U bB #[.slice a7 qb.head.length m7,.int .i64 qb.frm,.int .i64 qb.period,.slice a8 qb.cycle.length m8] 39∧POx U W1.heap.size (.slice a5 qa.head.length m5) (.slice a6 qa.cycle.length m6) qa∧POx U W1.heap.size (.slice a7 qb.head.length m7) (.slice a8 qb.cycle.length m8) qb∧Bxx U (w.heap.size+1+1) #[.slice none 0 0,.int .i64 0,.int .i64 0,.slice none 0 0] 39∧Bxx U (w.heap.size+1+1+1) #[.slice none 0 0,.int .i64 0,.int .i64 0,.slice none 0 0] 39∧Below w.heap.size w U)
  ⟨(hqA.below hb2).alloc _,Bxx.at hu2.symm,ho1.ext xE,(ho2.ext xE).mono hzC,(hZ1.below hb2).alloc _,(hZ2.below hb2).alloc _,xE⟩ ?_
 clear hqA ho1 ho2 hb1 hb2 hB hZ1 hZ2 hu2 hE2 B0 B1 B2 B3 hE;rintro W3 ⟨hqA,hqB,ho1,ho2,hZ1,hZ2,hE3⟩;have HO1:=hq_ ho1;have HO2:=hq_ ho2;have HZ1:=hq_ hZ1;have HZ2:=hq_ hZ2;have HE3:=hq_ hE3;have A0:W3.cell? ⟨bA,0,none⟩=some (.slice a5 qa.head.length m5):=(hqA.cells 0).1;have A1:W3.cell? ⟨bA,1,none⟩=some (.int .i64 qa.frm):=(hqA.cells 1).1;have A2:W3.cell? ⟨bA,2,none⟩=some (.int .i64 qa.period):=(hqA.cells 2).1;have A3:W3.cell? ⟨bA,3,none⟩=some (.slice a6 qa.cycle.length m6):=(hqA.cells 3).1;have B0:W3.cell? ⟨bB,0,none⟩=some (.slice a7 qb.head.length m7):=(hqB.cells 0).1;have B1:W3.cell? ⟨bB,1,none⟩=some (.int .i64 qb.frm):=(hqB.cells 1).1;have B2:W3.cell? ⟨bB,2,none⟩=some (.int .i64 qb.period):=(hqB.cells 2).1;have B3:W3.cell? ⟨bB,3,none⟩=some (.slice a8 qb.cycle.length m8):=(hqB.cells 3).1;clear hqA hqB ho1 ho2 hZ1 hZ2 hE3;go_quiet ((go_at_call 196;(first|exact hp_ ((nt_ _ _ _ oq_ oq_ oq_ oq_).mono (fun e w' h=>⟨by rw [HGD.out] at h;exact h.1,h.2⟩))|exact ez_ ((nt_ _ _ _ oq_ oq_ oq_ oq_).mono (fun e w' h=>⟨by rw [HGD.out] at h;exact h.1,h.2⟩)))))
 have HMX:Hid (max qa.frm qb.frm=st):=hq_ HST.out.symm;have HNL:Hid (n*qb.period=L):=hq_ hLn;have dM:decide (M<n)=false:=by simp;omega
 have hLI:InI L:=⟨oq_,oq_⟩;obtain ⟨W4,hW4⟩:∃ W4,W4=W3.drewN nq:=⟨_,rfl⟩;have hb4:Below W3.heap.size W3 W4:=by rw [hW4];exact En (Er _) _
 rw [<- hW4];have HB4:=hq_ hb4;replace A0:=cux A0 hb4;replace A1:=cux A1 hb4;replace A2:=cux A2 hb4;replace A3:=cux A3 hb4;replace B0:=cux B0 hb4;replace B1:=cux B1 hb4;replace B2:=cux B2 hb4;replace B3:=cux B3 hb4;clear hb4 hW4
 apply_assumption
 go_upto_region 6 with (fail)
 have hb4:=HB4.out;have hz1:=HZ1.out.below hb4;have hz2:=HZ2.out.below hb4;have r0:=hz1.cells 0;have r1:=hz1.cells 1;have r2:=hz1.cells 2;have r3:=hz1.cells 3;have s0:=hz2.cells 0;have s1:=hz2.cells 1;have s2:=hz2.cells 2;have s3:=hz2.cells 3;have hlz1:=hz1.lt;have hlz2:=hz2.lt;have hmx:=HMX.out;have hwl:IntKind.i64.wrap (n*qb.period)=L:=by rw [HNL.out];exact f5_ hLI
 have hwL:IntKind.i64.wrap L=L:=f5_ hLI;have hne1:bA≠w.heap.size+1+1:=oq_;have hne2:bA≠w.heap.size+1+1+1:=oq_;have hne3:bB≠w.heap.size+1+1:=oq_;have hne4:bB≠w.heap.size+1+1+1:=oq_;clear hz1 hz2 hb4;have HO5:Hid (POx W4 W1.heap.size (.slice a5 qa.head.length m5) (.slice a6 qa.cycle.length m6) qa):=hq_ (HO1.out.ext HB4.out);have HO6:Hid (POx W4 W1.heap.size (.slice a7 qb.head.length m7) (.slice a8 qb.cycle.length m8) qb):=hq_ (HO2.out.ext HB4.out);have hE4:Below w.heap.size w W4:=HE3.out.trans (HB4.out.mono HE3.out.size);go_region_held3 (fun w'=>w'.cell? ⟨bA,0,none⟩=some (.slice a5 qa.head.length m5)∧w'.cell? ⟨bA,1,none⟩=some (.int .i64 qa.frm)∧w'.cell? ⟨bA,2,none⟩=some (.int .i64 qa.period)∧w'.cell? ⟨bA,3,none⟩=some (.slice a6 qa.cycle.length m6)∧w'.cell? ⟨bB,0,none⟩=some (.slice a7 qb.head.length m7)∧w'.cell? ⟨bB,1,none⟩=some (.int .i64 qb.frm)∧w'.cell? ⟨bB,2,none⟩=some (.int .i64 qb.period)∧w'.cell? ⟨bB,3,none⟩=some (.slice a8 qb.cycle.length m8)) ((go_split_ands;repeat' (with_reducible first|assumption|refine bd_ ?_ ?_ _|refine ag_ ?_ _|refine dm_ ?_|exact Ext.cell (by assumption) (by assumption)|apply And.intro|(exact Below.cell' (by assumption) (by assumption) (by first|(simp;done)|(simp;omega)|omega))|(refine Below.cell' (by assumption) ?_ (by first|(simp;done)|(simp;omega)|omega))|omega|(simp;done)|(simp;omega)))) (fail)
 all_goals
  go_wp2_with fail
  exact bodyPost_ret (v:=.tuple #[perV (.slice a5 qa.head.length m5) (.slice a6 qa.cycle.length m6) qa.frm qa.period,perV (.slice a7 qb.head.length m7) (.slice a8 qb.cycle.length m8) qb.frm qb.period,.int .i64 st,.int .i64 L]) (by simp [results,Tryz.results173,go_sem, *]) rfl
   ⟨_,_,_,_,by rw [HMX.out,<- HLL.out],(HO5.out.above (by (repeat' (with_reducible first|exact a7_.refl _ _|refine a7_.alloc ?_ _|refine a7_.drew ?_|refine a7_.drewN ?_ _|refine a7_.setCell ?_ (by first|(simp;done)|(simp;omega)|omega) _)))).mono oq_,(HO6.out.above (by (repeat' (with_reducible first|exact a7_.refl _ _|refine a7_.alloc ?_ _|refine a7_.drew ?_|refine a7_.drewN ?_ _|refine a7_.setCell ?_ (by first|(simp;done)|(simp;omega)|omega) _)))).mono oq_,xE⟩
end Go.Proofs.YthjnojbeimchdaaGreat
end
