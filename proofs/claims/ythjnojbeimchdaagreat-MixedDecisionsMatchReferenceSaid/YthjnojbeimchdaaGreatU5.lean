/- Part 5 of the proof of MixedDecisionsMatchReference_said. -/
import Derived.Test.YthjnojbeimchdaaGreatU4
import Derived.Laws.EntriesVeiled
import Derived.Deep.RegionLaw
import Derived.Lib.SliceRun
import Derived.ScopeJumps
import Derived.Test.YthjnojbeimchdaaGreatU2
import Derived.Maps.OwnIn
import Derived.Lib.AppendZerosOnto
set_option linter.unusedVariables false
set_option linter.unusedSimpArgs false
set_option maxRecDepth 100000
set_option maxHeartbeats 4000000
section
variable {ops:Array Go.Oper}{b:Bool}{n s:Int}{T m m1 m2:List (List Kal.Per)}{l:List Int}{rest:List Go.Oper}{L:List Go.Proofs.YthjnojbeimchdaaGreat.PV}{t u:List Kal.Per}{cs xs:List Go.Value}{B base c cap g i j k:Nat}{o:Go.Oper}{row:Option Nat}{p q:Kal.Per}{h lv v:Go.Value}{A W W' w:Go.World}
namespace Go.Proofs.YthjnojbeimchdaaGreat
open Go.RowKit Go.Maps Kal
theorem Ints.lt (h:Ints W v l) (hl:l≠[]) (hk:v.ownBlock=some k):k<W.heap.size:=by
 obtain ⟨⟨a,c,rfl,h1,h2,h3⟩,h4,h5⟩:=h;rcases h3 with h3|⟨b,o,rfl,hc⟩
 ·exact absurd h3 hl
 ·simp [Value.ownBlock] at hk;subst hk;exact World.block_lt_of_cell? W _ (hc 0 (List.length_pos_iff.2 hl))
theorem PVok.lt {F:Nat->Prop} {x:PV} (h:PVok W F x):PVok W (fun b=>F b∧b<W.heap.size) x:=
 ⟨h.is,h.fr,h.pe,fun e k hk=>⟨h.bh e k hk,h.is.hd.lt e hk⟩,fun e k hk=>⟨h.bc e k hk,h.is.cy.lt e hk⟩⟩
theorem RowR.lt {F:Nat->Prop} {n:Nat} (h:RowR W F v n cs):RowR W (fun b=>F b∧b<W.heap.size) v n cs:=by
 obtain ⟨a,c,rfl,h1,h2,h3⟩:=h;refine ⟨a,c,rfl,h1,h2,h3.imp id ?_⟩;rintro ⟨b,o,rfl,hb,hl,hc⟩;exact ⟨b,o,rfl,⟨hb,hl⟩,hl,hc⟩
theorem be_.lt {F:Nat->Prop} (h:be_ W F v L):be_ W (fun b=>F b∧b<W.heap.size) v L:=⟨h.row.lt,h.len,fun x hx=>(h.all x hx).lt⟩
theorem ab_.lt {F:Nat->Prop} (h:ab_ W F v t):ab_ W (fun b=>F b∧b<W.heap.size) v t:=by
 obtain ⟨L,e,g⟩:=h;exact ⟨L,e,g.lt⟩
theorem MixL.lt {F:Nat->Prop} {L:List (Value × List Per)} (h:MixL W F v L):MixL W (fun b=>F b∧b<W.heap.size) v L:=⟨h.row.lt,h.len,fun x hx=>(h.all x hx).lt⟩
theorem MixR.lt {F:Nat->Prop} (h:MixR W F v m):MixR W (fun b=>F b∧b<W.heap.size) v m:=by
 obtain ⟨L,e,g⟩:=h;exact ⟨L,e,g.lt⟩
theorem TV.wf (h:TV t):∀ p∈t,p.WF:=fun p hp=>((as_ p).1 (h p hp)).wf
theorem r4_ (F:Nat->Prop) (v:Value) (L:List PV) (w w3:World) (xs:List Value) (hv:TV (L.map PV.p)) (hT:be_ w (fun b=>F b∧b<w.heap.size) v L) (hb:Below w.heap.size w w3) (hs:w.heap.size+1<w3.heap.size)
  (hc:w3.cell? ⟨w.heap.size,0,none⟩=some v) (ho:w3.ownsRow (w.heap.size+1) 3 1 (.slice (some ⟨w.heap.size+1,0,none⟩) L.length L.length) L.length xs) :
  Calls Tryz.prog 120 #[.int .i64 0,.pointer (some ⟨w.heap.size,0,none⟩),.pointer (some ⟨w3.heap.size,0,none⟩),.pointer (some ⟨w3.heap.size+1,0,none⟩)]
   ((w3.alloc (.cells #[.slice (some ⟨w.heap.size+1,0,none⟩) L.length L.length] 37)).alloc (.cells #[.func (.func 120) #[] #[.pointer (some ⟨w.heap.size,0,none⟩),.pointer (some ⟨w3.heap.size,0,none⟩),.pointer (some ⟨w3.heap.size+1,0,none⟩)]] 111))
   fun e w'=>∃ b,e=.returned (.bool b)∧(b=true↔recT (L.map PV.p))∧Below w.heap.size w w':=by
 have hcho:Cho (w.heap.size+1) (fun b=>F b∧b<w.heap.size) v L w.heap.size w3.heap.size (w3.heap.size+1) []
   ((w3.alloc (.cells #[.slice (some ⟨w.heap.size+1,0,none⟩) L.length L.length] 37)).alloc (.cells #[.func (.func 120) #[] #[.pointer (some ⟨w.heap.size,0,none⟩),.pointer (some ⟨w3.heap.size,0,none⟩),.pointer (some ⟨w3.heap.size+1,0,none⟩)]] 111)) xs:=by
  refine ⟨hT.keep (a5_.below ((Ea (Ea hb _) _))) (Ea (Ea hb _) _).size,ag_ (ag_ hc _) _,ag_ ?_ _,?_,(ho.alloc _).alloc _,fun k hk=>absurd hk sq_⟩
  ·exact ((Bxx.new _ _ _).cells 0).1
  ·have h:=((Bxx.at (w:=w3.alloc (.cells #[.slice (some ⟨w.heap.size+1,0,none⟩) L.length L.length] 37)) (b:=w3.heap.size+1) (c:=#[.func (.func 120) #[] #[.pointer (some ⟨w.heap.size,0,none⟩),.pointer (some ⟨w3.heap.size,0,none⟩),.pointer (some ⟨w3.heap.size+1,0,none⟩)]]) (t:=111) (by rw [World.size_alloc])).cells 0).1;exact h
 have h:=qj_ (w.heap.size+1) _ v L w.heap.size w3.heap.size (w3.heap.size+1) oq_ oq_ oq_ oq_ hv L.length 0 [] xs _ oq_ rfl (fun k hk=>oq_) hcho;refine h.mono ?_;rintro e w' ⟨b,zs,rfl,hiff,-,hg⟩;refine ⟨b,rfl,?_,(Ea (Ea hb _) _).trans (World.grownBy.below' hg oq_ (by simp [World.size_alloc];omega))⟩;rw [hiff,List.drop_zero];exact ls_ hv.wf
theorem hg_ (F:Nat->Prop) (v:Value) (t:List Per) (w:World) (ht:ab_ w F v t) (hv:TV t) :
  Calls Tryz.prog 76 #[v] w fun e w'=>∃ b,e=.returned (.bool b)∧(b=true↔recT t)∧Below w.heap.size w w':=by
 obtain ⟨L,rfl,hL⟩:=ht;obtain ⟨a1,cc1,rfl,hx1,hx2,_⟩:=hL.row.is;have hl1:=hL.len;have HRC:=hq_ (ls_ hv.wf);have HT:=fun W (h:Below w.heap.size w W)=>(hL.lt.keep (a5_.below h) h.size);have HV:=hq_ hv;have HTL:=hq_ HT;obtain ⟨bi,hbi,hbz,hbs,hby⟩:=dt_;clear hL HT hv
 go_enter Tryz.func76,Tryz.ntmps76
 go_wp2_with (first|(at_make;refine wpList_make_full _ rfl _ _ 37 rfl (w.heap.size+1) 3 bi (.int .i64 0) 1 Tryz.underlying37 hbi hbz hbs .i64 .i64 _ _ L.length rfl rfl rfl rfl (by rw [hby];omega) (by unfold maxLen;omega) sq_ ?_;intro w3 hown3 hgrow3;have hb3:Below w.heap.size w w3:=(Below.trans (Ea (Er w) _) ((Below.refl _ _).grown hgrow3 sq_ (fun k e=>by cases e))))|(go_at_call 120;have hs3:=(hown3.lt _ rfl).2;have hc3:=hgrow3.cell ((Bxx.new w _ _).cells 0).1 sq_;rw [World.size_alloc] at hown3 hs3;refine (r4_ F _ L w w3 _ HV.out (HTL.out w (Er w)) hb3 hs3 hc3 hown3).mono ?_;rintro e w4 ⟨b,rfl,hb4⟩))
 go_ret;exact ⟨b,rfl,hb4⟩
theorem m1_ (hw:∀ p∈t,p.WF) (h:bs_ (cq_ t t.length 0) 0 n b):bt_ t↔b=false∧¬ recT t:=by
 by_cases hne:t=[]
 ·subst hne;exact ⟨fun h=>absurd (fun p hp=>by simp at hp) (h 0),fun ⟨_,h⟩=>absurd ⟨0,dq_,fun p hp=>by simp at hp⟩ h⟩
 ·rw [rh_];refine and_congr ?_ Iff.rfl;have h2:=h.congr (T:=fun x=>tmem t x∧x<ba_ t) fun x _=>(mi_ hne hw).symm;rcases h2 with ⟨rfl,h1,h3,_⟩|⟨rfl,rfl,h1⟩
  ·exact ⟨fun g=>absurd h3.1 (g n h3.2),fun g=>absurd g dq_⟩
  ·exact ⟨fun _=>rfl,fun _ x hx hm=>h1 x (jb_ hne hm) ⟨hm,hx⟩⟩
theorem kz_ (F:Nat->Prop) (v:Value) (t:List Per) (w:World) (ht:ab_ w F v t) (hv:TV t) :
  Calls Tryz.prog 75 #[v] w fun e w'=>∃ b,e=.returned (.bool b)∧(b=true↔bt_ t)∧Below w.heap.size w w':=by
 have H1:=mb_ F v t 0 w ht hv (by constructor <;> decide);have H2:=fun W (h:Below w.heap.size w W)=>hg_ F v t W (ht.ext h) hv;have HW:=hq_ hv.wf;obtain ⟨L,rfl,hL⟩:=ht;obtain ⟨a1,cc1,rfl,hx1,hx2,_⟩:=hL.row.is;clear hL hv
 go_enter Tryz.func75,Tryz.ntmps75
 go_wp2_with (first|(go_at_call 101;refine H1.mono ?_;rintro e w1 ⟨n,b,rfl,hE,hb1⟩;have HE:=hq_ hE;clear hE;cases b)|(go_at_call 76;refine (H2 _ xE).mono ?_;rintro e w2 ⟨r,rfl,hR,hb2⟩;have HR:=hq_ hR;clear hR;cases r))
 all_goals go_ret
 all_goals
  refine ⟨_,rfl,?_,xE⟩;rw [m1_ HW.out HE.out]
  first|(simp;done)|(have:=HR.out;simp at this ⊢;exact this)
theorem gb_ {t:TypeId}:∀ (vs:List Value) (o:Nat) (w:World) (cur:Array Value),Bxx w g cur t->o+vs.length≤cur.size->
  ∃ cur',Bxx (w.setCells g o vs) g cur' t∧cur'.size=cur.size∧(∀ i,i<cur.size->cur'[i]? = if o≤i∧i<o+vs.length then vs[i-o]? else cur[i]?)∧w.grownBy (w.setCells g o vs) (some g)
 | [],o,w,cur,h,_=>⟨cur,h,rfl,fun i hi=>by rw [if_neg sq_],⟨rfl,rfl,rfl,Nat.le_refl _,fun _ _ _=>rfl⟩⟩
 | v :: vs,o,w,cur,h,hl=>by
  rw [List.length_cons] at hl;have h1:Bxx (w.setCell ⟨g,o,none⟩ v) g (cur.setIfInBounds o v) t:=a4_ o v h;obtain ⟨cur',g1,g2,g3,g4⟩:=gb_ vs (o+1) _ _ h1 (by rw [Array.size_setIfInBounds];omega);refine ⟨cur',g1,by rw [g2,Array.size_setIfInBounds],fun i hi=>?_,World.grownBy.trans' (World.grownBy.set' ⟨rfl,rfl,rfl,Nat.le_refl _,fun _ _ _=>rfl⟩ v) g4⟩;rw [g3 i (by rw [Array.size_setIfInBounds];exact hi)]
  by_cases h5:o=i
  ·subst h5;rw [if_neg oq_,if_pos sq_,Array.getElem?_setIfInBounds_self_of_lt hi];simp
  ·rw [Array.getElem?_setIfInBounds_ne h5]
   by_cases h6:o+1≤i∧i<o+1+vs.length
   ·rw [if_pos h6,if_pos tq_];obtain ⟨k,rfl⟩:∃ k,i=o+1+k:=⟨i-(o+1),oq_⟩;rw [show o+1+k-(o+1)=k by omega,show o+1+k-o=k+1 by omega,List.getElem?_cons_succ]
   ·rw [if_neg h6,if_neg tq_]
theorem jj_ {sz n:Nat} {e:TypeId} (h:w.ownsRow base e sz (.slice (some ⟨g,0,none⟩) n cap) n xs) (hi:i<n) (zs:List Value) (hz:zs.length=sz) :
  ((
   w.setCells g (i*sz) (xs.drop ((i+1)*sz))).setCells g ((n-1)*sz) zs).ownsRow base e sz (.slice (some ⟨g,0,none⟩) (n-1) cap) (n-1) (xs.take (i*sz) ++ xs.drop ((i+1)*sz))∧
   w.grownBy ((w.setCells g (i*sz) (xs.drop ((i+1)*sz))).setCells g ((n-1)*sz) zs) (some g):=by
 obtain ⟨hl,h|⟨g',cap',cur,he,hb,hg,hnc,hcm,hcs,ht⟩⟩:=h
 ·cases h.1
 cases he;obtain ⟨m,rfl⟩:∃ m,n=m+1:=⟨n-1,oq_⟩;have hb1:i*sz≤m*sz:=Nat.mul_le_mul_right _ oq_;have hb2:(m+1)*sz≤cap*sz:=Nat.mul_le_mul_right _ hnc;rw [Nat.succ_mul] at hl ht hb2;rw [Nat.succ_mul,show m+1-1=m from by omega];have hmm:(m+1-1)*sz=m*sz:=by rw [show m+1-1=m from by omega]
 generalize i*sz=a at *;generalize hc:m*sz=c at *;have hdl:(xs.drop (a+sz)).length=c-a:=by rw [List.length_drop];omega
 obtain ⟨cur1,a1,a2,a3,a4⟩:=gb_ (xs.drop (a+sz)) a w cur hg oq_;obtain ⟨cur2,b1,b2,b3,b4⟩:=gb_ zs c _ cur1 a1 oq_;refine ⟨⟨by rw [List.length_append,List.length_take,hdl];omega,.inr ⟨g,cap,cur2,rfl,hb,b1,oq_,hcm,oq_,?_⟩⟩,World.grownBy.trans' a4 b4⟩;rw [hc];refine List.ext_getElem? fun k=>?_
 by_cases hk:k<c
 ·rw [List.getElem?_take_of_lt hk,Array.getElem?_toList,b3 k oq_,if_neg oq_,a3 k oq_]
  by_cases hka:k<a
  ·rw [if_neg oq_,List.getElem?_append_left (by rw [List.length_take];omega),List.getElem?_take_of_lt hka,<- ht,List.getElem?_take_of_lt oq_,Array.getElem?_toList]
  ·rw [if_pos oq_,List.getElem?_append_right (by rw [List.length_take];omega),List.length_take,Nat.min_eq_left oq_]
 ·rw [List.getElem?_eq_none (by rw [List.length_take];omega),List.getElem?_eq_none (by rw [List.length_append,List.length_take,hdl];omega)]
theorem hz_ {P:Program} (w:World) (t e ty:TypeId) (z:Value) (ht:P.underlying t=some (.slice e)) (hv:∀ w,(zeroValue e).run P w=.ok z w) (h1:∀ v∈z.cells.toList,v.oneCell'=true) (b o c:Nat)
  (hc:∀ j,j<z.cells.size->(w.cell? ⟨b,o+j,none⟩).isSome=true∧w.frozen? ⟨b,o+j,none⟩=false) :
  (Builtin.clear_ #[t] ty #[.slice (some ⟨b,o,none⟩) 1 c]).run P w=.ok (.tuple #[]) (w.setCells b o z.cells.toList):=by
 have hzc:(Builtin.zeroCells z.cells 1).toList=z.cells.toList:=by
  refine List.ext_getElem (by simp [Builtin.zeroCells]) fun i g1 g2=>?_;have h3:i<z.cells.size:=by simpa using g2
  simp [Builtin.zeroCells,Nat.mod_eq_of_lt h3,h3]
 have hst:=run_storeCells_cells (P:=P) b o z.cells.toList 0 w (fun j hj=>(hc j (by simpa using hj)).1) (fun j hj=>(hc j (by simpa using hj)).2) h1;simp only [Nat.add_zero] at hst;simp [Builtin.clear_,run_underlying ht,hv,hzc,hst]
theorem f1_:∃ i,Tryz.prog.info? 39=some i∧i.zero=some (.agg #[.slice none 0 0,.int .i64 0,.int .i64 0,.slice none 0 0])∧i.size=4∧i.bytes=64:=by
 have h:(Tryz.prog.info? 39).map (fun i=>(i.zero,i.size,i.bytes))=some (some (.agg #[.slice none 0 0,.int .i64 0,.int .i64 0,.slice none 0 0]),4,64):=by kernel_rfl
 obtain ⟨i,hi,h1,h2,h3⟩:=info_parts h;exact ⟨i,hi,h1,h2,h3⟩
theorem gi_:∃ i,Tryz.prog.info? 36=some i∧i.zero=some (.slice none 0 0)∧i.size=1∧i.bytes=24:=by
 have h:(Tryz.prog.info? 36).map (fun i=>(i.zero,i.size,i.bytes))=some (some (.slice none 0 0),1,24):=by kernel_rfl
 obtain ⟨i,hi,h1,h2,h3⟩:=info_parts h;exact ⟨i,hi,h1,h2,h3⟩
theorem m9_ {P:Program} {t:TypeId} {i:TypeInfo} {z:Value} (h:P.info? t=some i) (hz:i.zero=some z) (w:World):(zeroValue t).run P w=.ok z w:=by
 simp [zeroValue,typeInfo,h,hz]
theorem pf_ (base g n cap i:Nat) (xs:List Value) (w:World) (h:w.ownsRow base 39 4 (.slice (some ⟨g,0,none⟩) n cap) n xs) (hi:i<n) (h1c:∀ u∈xs,u.oneCell'=true) :
  Calls Tryz.prog 145 #[.slice (some ⟨g,0,none⟩) n cap,.int .i64 i,.int .i64 (i+1)] w fun e w'=>e=.returned (.slice (some ⟨g,0,none⟩) (n-1) cap)∧w'.ownsRow base 39 4 (.slice (some ⟨g,0,none⟩) (n-1) cap) (n-1) (xs.take (i*4) ++ xs.drop ((i+1)*4))∧w.grownBy w' (some g):=by
 obtain ⟨bi,hbi,hbz,hbs,hby⟩:=f1_;obtain ⟨hxl,hnc,hcm⟩:xs.length=n*4∧n≤cap∧cap≤9223372036854775807:=by
  obtain ⟨h1,h2|⟨_,_,_,he,_,_,h3,h4,_⟩⟩:=h
  ·cases h2.1
  ·cases he;exact ⟨h1,h3,h4⟩
 have hcl:∀ j,j<n*4->(w.drew.cell? ⟨g,j,none⟩).isSome=true∧w.drew.frozen? ⟨g,j,none⟩=false:=fun j hj=>
  ⟨by have h2:=h.drew.cellAt j hj;rw [List.getElem?_eq_getElem oq_] at h2;rw [h2];rfl,h.drew.frozenAt j⟩
 obtain ⟨news,hnews⟩:∃ news,news=xs.drop ((i+1)*4):=⟨_,rfl⟩;have hlen:news.length=(n-(i+1))*4:=by rw [hnews,List.length_drop,hxl];omega
 obtain ⟨A,hA,hsrc⟩:∃ A:Addr,(if cap=i+1 then some (⟨g,0,none⟩:Addr) else some ⟨g,(i+1)*4,none⟩)=some A∧Hid (∀ t u,news[t]? = some u->w.drew.cell? (A.add t)=some u):=by
  by_cases hc:cap=i+1
  ·refine ⟨⟨g,0,none⟩,by simp [hc],hq_ fun t u hu=>?_⟩;have h0:news.length=0:=by rw [hlen];omega
   rw [List.length_eq_zero_iff.1 h0] at hu;simp at hu
  ·refine ⟨⟨g,(i+1)*4,none⟩,by simp [hc],hq_ fun t u hu=>?_⟩;have ht:t<(n-(i+1))*4:=by
    have:=(List.getElem?_eq_some_iff.1 hu).1;omega
   rw [hnews,List.getElem?_drop] at hu;rw [Addr.add_lit];exact (h.drew.cellAt _ oq_).trans hu
 have s1:=hq_ hlen;have s2:Hid (∀ u∈news,u.oneCell'=true):=hq_ fun u hu=>h1c u (by rw [hnews] at hu;exact List.mem_of_mem_drop hu);have s3:Hid (∀ t,t<news.length->(w.drew.cell? ⟨g,0+i*4+t,none⟩).isSome=true∧w.drew.frozen? ⟨g,0+i*4+t,none⟩=false):=hq_ fun t ht=>hcl _ oq_;have HRES:=hq_ (jj_ h.drew hi [.slice none 0 0,.int .i64 0,.int .i64 0,.slice none 0 0] rfl);obtain ⟨W1,hW1⟩:∃ W1,W1=w.drew.setCells g (0+i*4) news:=⟨_,rfl⟩;have hcl1:∀ ty c,(Builtin.clear_ #[36] ty #[.slice (some ⟨g,(n-1)*4,none⟩) 1 c]).run Tryz.prog W1=.ok (.tuple #[]) (W1.setCells g ((n-1)*4) [.slice none 0 0,.int .i64 0,.int .i64 0,.slice none 0 0]):=
  fun ty c=>hz_ W1 36 39 ty _ rfl (m9_ hbi hbz) (by simp [Value.cells];try decide) g ((n-1)*4) c (fun j hj=>by
   have hj2:j<4:=hj;rw [hW1];refine ⟨?_,by rw [World.frozen?_setCells];exact (hcl _ oq_).2⟩
   by_cases hin:(n-1)*4+j<i*4+news.length
   ·rw [show (n-1)*4+j=0+i*4+((n-1)*4+j-i*4) by omega,World.cell?_setCells_in g _ _ _ (fun t ht=>(s3.out t ht).1) _ oq_];rfl
   ·rw [World.cell?_setCells_out g _ _ _ _ (fun _ _=>.inr tq_)];exact (hcl _ oq_).1)
 have hW:=hq_ hW1;have HN:=hq_ hnews;clear hnews hlen h h1c hxl hcl hW1;rw [show (i:Int)+1=((i+1:Nat):Int) from rfl];obtain ⟨j,hj⟩:∃ j,j=i+1:=⟨_,rfl⟩;have hclr:∀ ty,(Builtin.clear_ #[36] ty #[.slice (some ⟨g,(i+(n-j))*4,none⟩) (n-(i+(n-j))) (cap-(i+(n-j)))]).run Tryz.prog W1=.ok (.tuple #[]) (W1.setCells g ((n-1)*4) [.slice none 0 0,.int .i64 0,.int .i64 0,.slice none 0 0]):=fun ty=>by
  rw [show i+(n-j)=n-1 by omega,show n-(n-1)=1 by omega];first|exact hcl1 ty _|(have h:=hcl1 ty (cap-(n-1));rw [Nat.mul_one] at h ⊢;exact h)
 rw [<- hj] at hA ⊢;have s3':Hid (news.length=(n-j)*4):=hq_ (by rw [hj];exact s1.out);have hic:i≤cap:=oq_;have hjc:j≤cap:=oq_;have hjn:j≤n:=oq_;have hij:i<j:=oq_;have HJ:=hq_ hj;clear hj hcl1
 go_enter Tryz.func145,Tryz.ntmps145
 go_wp2_with fail
 go_region_law (refine step_append_room rfl (.tmp 22) (.tmp 25) 36 rfl 39 bi 4 rfl hbi hbs g 0 i cap (by simp [Act.eval,Act.put]) A (n-j) (cap-j) news (by simp [Act.eval,Act.put]) s3'.out hsrc.out s2.out oq_ s3.out ?_;rw [<- hW.out])
 go_wp2_with fail
 go_ret;have hj:=HJ.out;have e1:i+(n-j)=n-1:=oq_;refine ⟨by rw [e1];rfl,?_⟩;have h1:=HRES.out;rw [hW.out,HN.out,Nat.zero_add,hj];try simp only [Nat.mul_one] at h1 ⊢
 exact ⟨h1.1,World.grownBy.trans' (World.grownBy.drewR w _) h1.2⟩
theorem po_ (base g n cap i:Nat) (xs:List Value) (w:World) (h:w.ownsRow base 36 1 (.slice (some ⟨g,0,none⟩) n cap) n xs) (hi:i<n) (h1c:∀ u∈xs,u.oneCell'=true) :
  Calls Tryz.prog 110 #[.slice (some ⟨g,0,none⟩) n cap,.int .i64 i,.int .i64 (i+1)] w fun e w'=>e=.returned (.slice (some ⟨g,0,none⟩) (n-1) cap)∧w'.ownsRow base 36 1 (.slice (some ⟨g,0,none⟩) (n-1) cap) (n-1) (xs.take (i*1) ++ xs.drop ((i+1)*1))∧w.grownBy w' (some g):=by
 obtain ⟨bi,hbi,hbz,hbs,hby⟩:=gi_;obtain ⟨hxl,hnc,hcm⟩:xs.length=n*1∧n≤cap∧cap≤9223372036854775807:=by
  obtain ⟨h1,h2|⟨_,_,_,he,_,_,h3,h4,_⟩⟩:=h
  ·cases h2.1
  ·cases he;exact ⟨h1,h3,h4⟩
 have hcl:∀ j,j<n*1->(w.drew.cell? ⟨g,j,none⟩).isSome=true∧w.drew.frozen? ⟨g,j,none⟩=false:=fun j hj=>
  ⟨by have h2:=h.drew.cellAt j hj;rw [List.getElem?_eq_getElem oq_] at h2;rw [h2];rfl,h.drew.frozenAt j⟩
 obtain ⟨news,hnews⟩:∃ news,news=xs.drop ((i+1)*1):=⟨_,rfl⟩;have hlen:news.length=(n-(i+1))*1:=by rw [hnews,List.length_drop,hxl];omega
 obtain ⟨A,hA,hsrc⟩:∃ A:Addr,(if cap=i+1 then some (⟨g,0,none⟩:Addr) else some ⟨g,i+1,none⟩)=some A∧Hid (∀ t u,news[t]? = some u->w.drew.cell? (A.add t)=some u):=by
  by_cases hc:cap=i+1
  ·refine ⟨⟨g,0,none⟩,by simp [hc],hq_ fun t u hu=>?_⟩;have h0:news.length=0:=by rw [hlen];omega
   rw [List.length_eq_zero_iff.1 h0] at hu;simp at hu
  ·refine ⟨⟨g,(i+1)*1,none⟩,by simp [hc],hq_ fun t u hu=>?_⟩;have ht:t<(n-(i+1))*1:=by
    have:=(List.getElem?_eq_some_iff.1 hu).1;omega
   rw [hnews,List.getElem?_drop] at hu;rw [Addr.add_lit];exact (h.drew.cellAt _ oq_).trans hu
 have s1:=hq_ hlen;have s2:Hid (∀ u∈news,u.oneCell'=true):=hq_ fun u hu=>h1c u (by rw [hnews] at hu;exact List.mem_of_mem_drop hu);have s3:Hid (∀ t,t<news.length->(w.drew.cell? ⟨g,0+i*1+t,none⟩).isSome=true∧w.drew.frozen? ⟨g,0+i*1+t,none⟩=false):=hq_ fun t ht=>hcl _ oq_;have HRES:=hq_ (jj_ h.drew hi [.slice none 0 0] rfl);obtain ⟨W1,hW1⟩:∃ W1,W1=w.drew.setCells g (0+i*1) news:=⟨_,rfl⟩;have hcl1:∀ ty c,(Builtin.clear_ #[26] ty #[.slice (some ⟨g,(n-1)*1,none⟩) 1 c]).run Tryz.prog W1=.ok (.tuple #[]) (W1.setCells g ((n-1)*1) [.slice none 0 0]):=
  fun ty c=>hz_ W1 26 36 ty _ rfl (m9_ hbi hbz) (by simp [Value.cells];try decide) g ((n-1)*1) c (fun j hj=>by
   have hj2:j<1:=hj;rw [hW1];refine ⟨?_,by rw [World.frozen?_setCells];exact (hcl _ oq_).2⟩
   by_cases hin:(n-1)*1+j<i*1+news.length
   ·rw [show (n-1)*1+j=0+i*1+((n-1)*1+j-i*1) by omega,World.cell?_setCells_in g _ _ _ (fun t ht=>(s3.out t ht).1) _ oq_];rfl
   ·rw [World.cell?_setCells_out g _ _ _ _ (fun _ _=>.inr tq_)];exact (hcl _ oq_).1)
 have hW:=hq_ hW1;have HN:=hq_ hnews;clear hnews hlen h h1c hxl hcl hW1;rw [show (i:Int)+1=((i+1:Nat):Int) from rfl];obtain ⟨j,hj⟩:∃ j,j=i+1:=⟨_,rfl⟩;have hclr:∀ ty,(Builtin.clear_ #[26] ty #[.slice (some ⟨g,i+(n-j),none⟩) (n-(i+(n-j))) (cap-(i+(n-j)))]).run Tryz.prog W1=.ok (.tuple #[]) (W1.setCells g ((n-1)*1) [.slice none 0 0]):=fun ty=>by
  rw [show i+(n-j)=n-1 by omega,show n-(n-1)=1 by omega];first|exact hcl1 ty _|(have h:=hcl1 ty (cap-(n-1));rw [Nat.mul_one] at h ⊢;exact h)
 rw [<- hj] at hA ⊢;have s3':Hid (news.length=(n-j)*1):=hq_ (by rw [hj];exact s1.out);have hic:i≤cap:=oq_;have hjc:j≤cap:=oq_;have hjn:j≤n:=oq_;have hij:i<j:=oq_;have HJ:=hq_ hj;clear hj hcl1
 go_enter Tryz.func110,Tryz.ntmps110
 go_wp2_with fail
 go_region_law (refine step_append_room rfl (.tmp 22) (.tmp 25) 26 rfl 36 bi 1 rfl hbi hbs g 0 i cap (by simp [Act.eval,Act.put]) A (n-j) (cap-j) news (by simp [Act.eval,Act.put]) s3'.out hsrc.out s2.out oq_ s3.out ?_;rw [<- hW.out])
 go_wp2_with fail
 go_ret;have hj:=HJ.out;have e1:i+(n-j)=n-1:=oq_;refine ⟨by rw [e1];rfl,?_⟩;have h1:=HRES.out;rw [hW.out,HN.out,Nat.zero_add,hj];try simp only [Nat.mul_one] at h1 ⊢
 exact ⟨h1.1,World.grownBy.trans' (World.grownBy.drewR w _) h1.2⟩
end Go.Proofs.YthjnojbeimchdaaGreat
namespace Kal
theorem Fac.of (h:p.WF) (hf:p.frm≤9) (hd:p.period∣27720):Fac 0 p:=⟨h,fun n hn=>hn.1,oq_,hd⟩
theorem h6_ {m:Int} (h0:0≤m) (h1:m<n) (hd:n∣27720):CFac 0 (ev m n):=⟨Fac.of (rc_ h0 h1) (by show (0:Int)≤9;omega) hd,gk_ h0 h1⟩
theorem js_ (h:oh_ p=true) (hf:p.frm≤9) (hd:p.period∣27720):CFac 0 p:=⟨Fac.of (c0_ h).wf hf hd,c0_ h⟩
theorem t6_ (h:∀ p∈t,CFac s p):t.map (fun p=>canonC p.mem)=t:=by
 rw [List.map_congr_left (g:=id) fun p hp=>(h p hp).canonC,List.map_id]
theorem fc_ (h:∀ p∈t,CFac s p) (hn:cj_ (ch_ t) t.length):b8_ t t:=by
 unfold b8_;rw [t6_ h];exact .done hn
theorem dc_ {P:Nat->Nat->Prop}:cj_ P 1:=fun i j h1 h2=>oq_
theorem jo_ {P:Nat->Nat->Prop}:cj_ P 0:=fun i j h1 h2=>oq_
theorem ho_ {P:Nat->Nat->Prop} (h:¬ P 0 1):cj_ P 2:=fun i j h1 h2=>by
 obtain rfl:i=0:=oq_;obtain rfl:j=1:=oq_;exact h
theorem n7_:ddL [] [t]=[t]:=by
 show dd1 [] t=[t];rw [g5_ sq_];rfl
theorem wz_ (h:u≠t):ddL [] [t,u]=[t,u]:=by
 show dd1 (dd1 [] t) u=_;rw [g5_ (out:=[]) sq_];rw [g5_ (by simpa using h)];rfl
theorem un_ (h:∀ p∈t,CFac s p) (hn:cj_ (ch_ t) t.length) (hb:¬ bt_ t):bf_ [t] [t]:=
 ⟨[t],[t],.keep (fc_ h hn) hb .nil,.done dc_,n7_.symm⟩
theorem tn_ (h:∀ p∈t,CFac s p) (hn:cj_ (ch_ t) t.length) (hb:bt_ t):bf_ [t] []:=
 ⟨[],[],.skip (fc_ h hn) hb .nil,.done jo_,rfl⟩
theorem ov_ {c:Per} (h:a6_ c p.mem) (hb:∃ n,p.mem n):bf_ [[p]] [[c]]:=by
 refine ⟨[[c]],[[c]],.keep (u:=[c]) ?_ ?_ .nil,.done dc_,n7_.symm⟩
 ·unfold b8_;rw [show [p].map (fun p=>canonC p.mem)=[c] from by rw [List.map_singleton,d7_ h]];exact .done dc_
 ·obtain ⟨n,hn⟩:=hb;exact fun g=>g n (g9_.2 ((h.mem n).2 hn))
theorem jz_ {c:Per} (h:a6_ c p.mem) (hb:∀ n,¬ p.mem n):bf_ [[p]] []:=by
 refine ⟨[],[],.skip (u:=[c]) ?_ ?_ .nil,.done jo_,rfl⟩
 ·unfold b8_;rw [show [p].map (fun p=>canonC p.mem)=[c] from by rw [List.map_singleton,d7_ h]];exact .done dc_
 ·exact fun n hn=>hb n ((h.mem n).1 (g9_.1 hn))
theorem v6_ (hp:CFac s p) (hq:CFac s q) (hd:divB p q=false) (hne:p≠q) (h1:∃ n,p.mem n) (h2:∃ n,q.mem n):bf_ [[p],[q]] [[p],[q]]:=by
 have one:∀ {r:Per},CFac s r->b8_ [r] [r]:=fun {r} hr=>fc_ (fun x hx=>by simp at hx;subst hx;exact hr) dc_;have nb:∀ {r:Per},(∃ n,r.mem n)->¬ bt_ [r]:=fun {r} ⟨n,hn⟩ g=>g n (g9_.2 hn);refine ⟨[[p],[q]],[[p],[q]],.keep (one hp) (nb h1) (.keep (one hq) (nb h2) .nil),.done (ho_ ?_),(wz_ ?_).symm⟩
 ·rintro ⟨_,_,h⟩;simp at h;rw [hd] at h;cases h
 ·intro e;injection e with e _;exact hne e.symm
theorem ts_ {c:Per} (hp:CFac s p) (hq:CFac s q) (hd:divB p q=true) (hc:a6_ c (fun n=>p.mem n∨q.mem n)) (h1:∃ n,p.mem n) (h2:∃ n,q.mem n):bf_ [[p],[q]] [[c]]:=by
 have one:∀ {r:Per},CFac s r->b8_ [r] [r]:=fun {r} hr=>fc_ (fun x hx=>by simp at hx;subst hx;exact hr) dc_;have nb:∀ {r:Per},(∃ n,r.mem n)->¬ bt_ [r]:=fun {r} ⟨n,hn⟩ g=>g n (g9_.2 hn);refine ⟨[[p],[q]],[[c]],.keep (one hp) (nb h1) (.keep (one hq) (nb h2) .nil),.step (i:=0) (j:=1) ⟨oq_,sq_,⟨rfl,rfl,by simpa using hd⟩,fun i' j' h=>oq_,fun j' h h'=>oq_⟩ ?_,n7_.symm⟩;have e:ct_ [[p],[q]] 0 1=[[c]]:=by
  show ([[p],[q]].set 0 [orP p q]).eraseIdx 1=[[c]];unfold orP;rw [d7_ hc];rfl
 rw [e];exact .done dc_
theorem x1:CFac 0 (ev 1 4):=h6_ oq_ oq_ ⟨6930,dq_⟩
theorem x2:CFac 0 (ev 3 6):=h6_ oq_ oq_ ⟨4620,dq_⟩
theorem x3:CFac 0 (ev 2 6):=h6_ oq_ oq_ ⟨4620,dq_⟩
theorem x4:CFac 0 (ev 0 2):=h6_ oq_ oq_ ⟨13860,dq_⟩
theorem x5:CFac 0 (ev 0 6):=h6_ oq_ oq_ ⟨4620,dq_⟩
theorem hw_ (n:Int):tmem [ev 1 4,ev 3 6] n↔0≤n∧n % 12=9:=by
 unfold tmem;simp only [List.forall_mem_cons,List.not_mem_nil,bv_];constructor
 ·rintro ⟨h1,h2,_⟩;omega
 ·intro h;exact ⟨oq_,oq_,fun x hx=>absurd hx sq_⟩
theorem n9_ (hp:CFac 0 p) (hq:CFac 0 q):∀ r∈[p,q],CFac 0 r:=fun r hr=>by
 simp at hr;rcases hr with rfl|rfl
 ·exact hp
 ·exact hq
theorem v1_:bf_ (ao_ [[ev 1 4]] [[ev 3 6]]) [[ev 1 4,ev 3 6]]:=
 un_ (n9_ x1 x2) (ho_ (by unfold ch_;decide)) fun h=>h 9 ((hw_ 9).2 oq_)
theorem v3_:bf_ (ao_ [[ev 1 4]] [[ev 2 6]]) []:=
 tn_ (n9_ x1 x3) (ho_ (by unfold ch_;decide)) fun n h=>by
  unfold tmem at h;have h:∀ p∈[ev 1 4,ev 2 6],p.mem n:=h;simp only [List.forall_mem_cons,List.not_mem_nil,bv_] at h;obtain ⟨h1,h2,_⟩:=h;omega
theorem w4_:bf_ [[ev 0 2],[ev 1 4]] [[⟨[],0,4,[0,1,2]⟩]]:=
 ts_ x4 x1 dq_ ((c0_ dq_).congr fun n=>by
  rw [bv_,bv_];show (0≤n∧if n<0 then n∈[] else (n-0) % 4∈[0,1,2])↔_
  by_cases h:n<0
  ·rw [if_pos h];simp;omega
  ·rw [if_neg h];simp;omega) ⟨0,by rw [bv_];omega⟩ ⟨1,by rw [bv_];omega⟩
theorem w6_:bf_ [[ev 1 4],[ev 3 6]] [[ev 1 4],[ev 3 6]]:=
 v6_ x1 x2 dq_ (fun e=>by have:=congrArg Per.period e;simp [ev] at this) ⟨1,by rw [bv_];omega⟩ ⟨3,by rw [bv_];omega⟩
theorem sn_:a6_ ⟨[],0,6,[2,4]⟩ (fun n=>(ev 0 2).mem n∧¬ (ev 0 6).mem n):=(c0_ dq_).congr fun n=>by
 rw [bv_,bv_];show (0≤n∧if n<0 then n∈[] else (n-0) % 6∈[2,4])↔_
 by_cases h:n<0
 ·rw [if_pos h];simp;omega
 ·rw [if_neg h];simp;omega
theorem i7_ (h:CFac 0 p) (hb:∃ n,p.mem n):bf_ [[p]] [[p]]:=ov_ h.can hb
theorem ok_one (h:t.length≤4):cv_ [t]:=⟨sq_,fun u hu=>by simp at hu;subst hu;exact h⟩
theorem t1_:cv_ []:=⟨sq_,sq_⟩
theorem uy_:b4_ [[ev 0 2]] [[ev 0 6]] (some [[⟨[],0,6,[2,4]⟩]]):=by
 refine ⟨_,i7_ x4 ⟨0,by rw [bv_];omega⟩,.inl ⟨ok_one sq_,.step (m':=[[⟨[],0,6,[2,4]⟩]]) ?_ (ok_one sq_) .nil⟩⟩;have e:minL [[ev 0 2]] [ev 0 6]=[[(⟨[],0,6,[2,4]⟩:Per)]]:=by
  show [[bu_ (ev 0 2) (ev 0 6)]]=_;unfold bu_;rw [d7_ sn_]
 rw [e];exact i7_ (js_ dq_ dq_ ⟨4620,dq_⟩) ⟨2,dq_⟩
def tri:Per:=⟨[0,2,4],5,1,[]⟩
theorem kv_:CFac 0 tri:=js_ dq_ dq_ ⟨27720,dq_⟩
theorem j7_ (n:Int):tri.mem n↔n=0∨n=2∨n=4:=by
 show (0≤n∧if n<5 then n∈[0,2,4] else (n-5) % 1∈[])↔_
 by_cases h:n<5
 ·rw [if_pos h];simp;omega
 ·rw [if_neg h];simp;omega
theorem ks_:a6_ ⟨[],5,2,[1]⟩ (fun n=>(ev 0 2).mem n∧¬ tri.mem n):=(c0_ dq_).congr fun n=>by
 rw [bv_,j7_];show (0≤n∧if n<5 then n∈[] else (n-5) % 2∈[1])↔_
 by_cases h:n<5
 ·rw [if_pos h];simp;omega
 ·rw [if_neg h];simp;omega
theorem jn_:a6_ ⟨[],0,1,[]⟩ (fun n=>tri.mem n∧¬ (ev 0 2).mem n):=(c0_ dq_).congr fun n=>by
 rw [bv_,j7_];show (0≤n∧if n<0 then n∈[] else (n-0) % 1∈[])↔_
 by_cases h:n<0
 ·rw [if_pos h];simp;omega
 ·rw [if_neg h];simp;omega
theorem ww_:b4_ [[ev 0 2]] [[tri]] (some [[⟨[],5,2,[1]⟩]]):=by
 refine ⟨_,i7_ x4 ⟨0,by rw [bv_];omega⟩,.inl ⟨ok_one sq_,.step (m':=[[⟨[],5,2,[1]⟩]]) ?_ (ok_one sq_) .nil⟩⟩;have e:minL [[ev 0 2]] [tri]=[[(⟨[],5,2,[1]⟩:Per)]]:=by
  show [[bu_ (ev 0 2) tri]]=_;unfold bu_;rw [d7_ ks_]
 rw [e];exact i7_ (js_ dq_ dq_ ⟨13860,dq_⟩) ⟨6,dq_⟩
theorem x3_:b4_ [[tri]] [[ev 0 2]] (some []):=by
 refine ⟨_,i7_ kv_ ⟨0,dq_⟩,.inl ⟨ok_one sq_,.step (m':=[]) ?_ t1_ .nil⟩⟩;have e:minL [[tri]] [ev 0 2]=[[(⟨[],0,1,[]⟩:Per)]]:=by
  show [[bu_ tri (ev 0 2)]]=_;unfold bu_;rw [d7_ jn_]
 rw [e];exact jz_ (c0_ dq_:a6_ (⟨[],0,1,[]⟩:Per) _) (fun n hn=>by
  have:=(jn_.mem n).1 hn;rw [bv_,j7_] at this;omega)
theorem m4_ (n:Int):mmem ([[(⟨[],5,2,[1]⟩:Per)]] ++ []) n↔6≤n∧n % 2=0:=by
 rw [List.append_nil,lu_,g9_,ks_.mem n,bv_,j7_];constructor
 ·rintro (h|h)
  ·omega
  ·exact absurd h k7_
 ·intro h;left;omega
end Kal
namespace Go.Proofs.YthjnojbeimchdaaGreat
open Go.RowKit Go.Maps Kal
structure FV (s:Int) (p:Per):Prop where
 fac:Fac s p
 far:p.frm≤1099511627776
theorem FV.valid (h:FV s p):Valid p:=by
 have hw:=h.fac.wf;have hf:=h.fac.frm;have h0:=hw.frm;have hp:=hw.per;have hper:=h.fac.per;have h3:=hw.cyc.length_le (show (0:Int)≤p.period by omega);have h4:(p.head.length:Int)≤9:=by
  by_cases hs:s≤p.frm
  ·by_cases h0s:0≤s
   ·have hr:Rise s p.frm p.head:=⟨hw.head.1,fun x hx=>⟨h.fac.low x ((hw.head_mem x).1 hx).2.2,(hw.head.2 x hx).2⟩⟩;have:=hr.length_le hs;omega
   ·have:=hw.head.length_le h0;omega
  ·have:p.head=[]:=List.eq_nil_iff_forall_not_mem.2 fun x hx=>by
    have h1:=h.fac.low x ((hw.head_mem x).1 hx).2.2;have h2:=(hw.head.2 x hx).2;omega
   rw [this];simp
 exact ⟨hw,h.far,oq_,oq_⟩
theorem FV.validB (h:FV s p):validB p=true:=(as_ p).2 h.valid
theorem FV.canon (h:FV s p):a6_ (canonC p.mem) p.mem∧FV s (canonC p.mem):=
 ⟨h.fac.canon.1,h.fac.canon.2,Int.le_trans (h.fac.canon.1.frm_le h.fac.wf.frm h.fac.wf.per h.fac.wf.pfrom) h.far⟩
theorem w8_ {S:Int->Prop} (hs:∀ x,S x->s≤x) (n:Nat):cnt S n≤max (n-s) 0:=by
 induction n with
 | zero=>simp [cnt];omega
 | succ n ih=>
  simp only [cnt]
  split
  ·rename_i h;have:=hs _ h;omega
  ·omega
theorem FV.op (hp:FV s p) (hq:FV s q) {U:Int->Prop} (g:Prop->Prop->Prop) (hU:∀ n,U n↔g (p.mem n) (q.mem n)) (hlow:∀ n,U n->s≤n) (h0:∀ n,U n->0≤n) :
  a6_ (canonC U) U∧FV s (canonC U)∧lcmI (canonC p.mem).period (canonC q.mem).period≤27720∧cnt U (max (canonC p.mem).frm (canonC q.mem).frm+lcmI (canonC p.mem).period (canonC q.mem).period).toNat≤1048576:=by
 obtain ⟨ca,fa⟩:=hp.canon;obtain ⟨cb,fb⟩:=hq.canon;have hop:=fa.fac.op fb.fac g (U:=U) (fun n=>by rw [hU,ca.mem,cb.mem]) hlow h0;have hl:=Int.le_of_dvd dq_ hop.2.2.2;have hpos:=c7_ fa.fac.wf.per fb.fac.wf.per;refine ⟨hop.1,⟨hop.2.1,?_⟩,hl,?_⟩
 ·exact Int.le_trans (hop.1.frm_le (by have:=fa.fac.wf.frm;omega) hpos hop.2.2.1) (by have:=fa.far;have:=fb.far;omega)
 ·have h1:=w8_ hlow (max (canonC p.mem).frm (canonC q.mem).frm+lcmI (canonC p.mem).period (canonC q.mem).period).toNat;have a1:=fa.fac.frm;have b1:=fb.fac.frm;have a0:=fa.fac.wf.frm;omega
theorem FV.and (hp:FV s p) (hq:FV s q):FV s (andP p q):=(hp.op hq And (fun n=>Iff.rfl) (fun n h=>hp.fac.low n h.1) (fun n h=>h.1.1)).2.1
theorem FV.or (hp:FV s p) (hq:FV s q):FV s (orP p q):=(hp.op hq Or (fun n=>Iff.rfl) (fun n h=>h.elim (hp.fac.low n) (hq.fac.low n)) (fun n h=>h.elim (fun h=>h.1) (fun h=>h.1))).2.1
theorem FV.minus (hp:FV s p) (hq:FV s q):FV s (bu_ p q):=(hp.op hq (fun a b=>a∧¬ b) (fun n=>Iff.rfl) (fun n h=>hp.fac.low n h.1) (fun n h=>h.1.1)).2.1
theorem nq_ (s:Int) (h c:Value) (p:Per) (w:World) (hp:a8_ w h c p) (hv:FV s p):Calls Tryz.prog 97 #[perV h c p.frm p.period] w (b6_ (canonC p.mem) w):=
 ty_ h c p _ w hp hv.valid hv.canon.1
theorem tb_ (s:Int) (h1 c1 h2 c2:Value) (p1 p2:Per) (w:World) (hp1:a8_ w h1 c1 p1) (hp2:a8_ w h2 c2 p2) (v1:FV s p1) (v2:FV s p2) :
  Calls Tryz.prog 72 #[perV h1 c1 p1.frm p1.period,perV h2 c2 p2.frm p2.period] w (b6_ (andP p1 p2) w):=by
 have h:=v1.op v2 And (fun n=>Iff.rfl) (fun n h=>v1.fac.low n h.1) (fun n h=>h.1.1);have a:=v1.canon.2.fac.per;have b:=v2.canon.2.fac.per;exact wy_ h1 c1 h2 c2 p1 p2 _ _ _ w hp1 hp2 v1.valid v2.valid v1.canon.1 v2.canon.1 oq_ oq_ oq_ h.1 h.2.2.2
theorem rr_ (s:Int) (h1 c1 h2 c2:Value) (p1 p2:Per) (w:World) (hp1:a8_ w h1 c1 p1) (hp2:a8_ w h2 c2 p2) (v1:FV s p1) (v2:FV s p2) :
  Calls Tryz.prog 73 #[perV h1 c1 p1.frm p1.period,perV h2 c2 p2.frm p2.period] w (b6_ (orP p1 p2) w):=by
 have h:=v1.op v2 Or (fun n=>Iff.rfl) (fun n h=>h.elim (v1.fac.low n) (v2.fac.low n)) (fun n h=>h.elim (fun h=>h.1) (fun h=>h.1));have a:=v1.canon.2.fac.per;have b:=v2.canon.2.fac.per;exact xb_ h1 c1 h2 c2 p1 p2 _ _ _ w hp1 hp2 v1.valid v2.valid v1.canon.1 v2.canon.1 oq_ h.1 h.2.2.2
theorem vf_ (s:Int) (h1 c1 h2 c2:Value) (p1 p2:Per) (w:World) (hp1:a8_ w h1 c1 p1) (hp2:a8_ w h2 c2 p2) (v1:FV s p1) (v2:FV s p2) :
  Calls Tryz.prog 117 #[perV h1 c1 p1.frm p1.period,perV h2 c2 p2.frm p2.period] w (b6_ (bu_ p1 p2) w):=by
 have h:=v1.op v2 (fun a b=>a∧¬ b) (fun n=>Iff.rfl) (fun n h=>v1.fac.low n h.1) (fun n h=>h.1.1);have a:=v1.canon.2.fac.per;have b:=v2.canon.2.fac.per;exact uq_ h1 c1 h2 c2 p1 p2 _ _ _ w hp1 hp2 v1.valid v2.valid v1.canon.1 v2.canon.1 oq_ h.1 h.2.2.2
theorem POx.pv {c:Value} (hp:POx w base h c p) (hv:FV s p):PVok w (fun b=>base≤b∧b<w.heap.size) ⟨h,c,p⟩:=by
 have h1:=hv.valid;have h2:=h1.wf.frm;have h3:p.frm≤1099511627776:=h1.frm;have h4:=h1.wf.per;have h5:p.period≤1099511627776:=h1.per;exact ⟨hp.is,⟨by show _≤p.frm;omega,by show p.frm≤_;omega⟩,⟨by show _≤p.period;omega,by show p.period≤_;omega⟩,fun _ k hk=>hp.hd.lt k hk,fun _ k hk=>hp.cy.lt k hk⟩
theorem PV.enc_one (x:PV) (hh:x.h.oneCell'=true) (hc:x.c.oneCell'=true):∀ u∈x.enc,u.oneCell'=true:=by
 intro u hu;simp only [PV.enc,List.mem_cons,List.not_mem_nil,or_false] at hu;rcases hu with rfl|rfl|rfl|rfl
 ·exact hh
 ·rfl
 ·rfl
 ·exact hc
theorem PVok.one {F:Nat->Prop} {x:PV} (h:PVok w F x):∀ u∈x.enc,u.oneCell'=true:=by
 obtain ⟨xh,xc,xp⟩:=x;obtain ⟨_,_,_,_,_,_,rfl,rfl⟩:=h.form;exact PV.enc_one _ rfl rfl
theorem io_:∀ {j:Nat},(L.flatMap PV.enc).take (j*4)=(L.take j).flatMap PV.enc:=by
 induction L with
 | nil=>intro j;simp
 | cons x L ih=>
  intro j;cases j with
  | zero=>simp
  | succ j=>rw [List.take_succ_cons,List.flatMap_cons,List.flatMap_cons,List.take_append,List.take_of_length_le (by rw [PV.enc_len];omega),PV.enc_len,show (j+1)*4-4=j*4 by omega,ih]
theorem ik_:∀ {j:Nat},(L.flatMap PV.enc).drop (j*4)=(L.drop j).flatMap PV.enc:=by
 induction L with
 | nil=>intro j;simp
 | cons x L ih=>
  intro j;cases j with
  | zero=>simp
  | succ j=>rw [List.drop_succ_cons,List.flatMap_cons,List.drop_append,List.drop_of_length_le (by rw [PV.enc_len];omega),PV.enc_len,show (j+1)*4-4=j*4 by omega,ih,List.nil_append]
theorem c3_:(L.flatMap PV.enc).length=L.length*4:=by
 induction L with
 | nil=>rfl
 | cons x L ih=>rw [List.flatMap_cons,List.length_append,ih,PV.enc_len,List.length_cons];omega
theorem l5_:(L.flatMap PV.enc).take (j*4) ++ (L.flatMap PV.enc).drop ((j+1)*4)=(L.eraseIdx j).flatMap PV.enc:=by
 rw [io_,ik_,<- List.flatMap_append,List.eraseIdx_eq_take_drop_succ]
theorem np_ {x:PV}:∀ {j:Nat},j<L.length->((((L.flatMap PV.enc).set (j*4) x.h).set (j*4+1) (.int .i64 x.p.frm)).set (j*4+2) (.int .i64 x.p.period)).set (j*4+3) x.c=(L.set j x).flatMap PV.enc:=by
 induction L with
 | nil=>intro j h;simp at h
 | cons y L ih=>
  intro j h;cases j with
  | zero=>simp [PV.enc]
  | succ j=>
   have e:∀ (l:List Value) (i:Nat) (v:Value),(y.enc ++ l).set (i+4) v=y.enc ++ l.set i v:=fun l i v=>by rw [List.set_append_right _ _ (by rw [PV.enc_len];omega),PV.enc_len,Nat.add_sub_cancel]
   rw [List.flatMap_cons,List.set_cons_succ,List.flatMap_cons,<- ih (by simpa using h),show (j+1)*4=j*4+4 by omega,e,show j*4+4+1=j*4+1+4 by omega,e,show j*4+4+2=j*4+2+4 by omega,e,show j*4+4+3=j*4+3+4 by omega,e]
structure Row4 (B g cap:Nat) (W:World) (L:List PV):Prop where
 row:W.ownsRow B 39 4 (.slice (some ⟨g,0,none⟩) L.length cap) L.length (L.flatMap PV.enc)
 all:∀ x∈L,PVok W (fun b=>B≤b∧b≠g) x
 len:L.length≤cap
 cap:cap≤17592186044416
theorem Row4.le (h:Row4 B g cap W L):B≤g∧g<W.heap.size:=h.row.lt g rfl
theorem Row4.below (h:Row4 B g cap W L) (hb:Below W.heap.size W W'):Row4 B g cap W' L:=
 ⟨h.row.kept (row:=none) (World.grownBy.of_below hb _) (by right;simp [Value.ownBlock]),fun x hx=>(h.all x hx).keep (a5_.below hb),h.len,h.cap⟩
theorem Row4.set (h:Row4 B g cap W L) (hj:j<L.length) {x:PV} (hx:PVok W (fun b=>B≤b∧b≠g) x) :
  Row4 B g cap ((((W.setCell ⟨g,j*4,none⟩ x.h).setCell ⟨g,j*4+1,none⟩ (.int .i64 x.p.frm)).setCell ⟨g,j*4+2,none⟩ (.int .i64 x.p.period)).setCell ⟨g,j*4+3,none⟩ x.c) (L.set j x):=by
 have hg:W.grownBy ((((W.setCell ⟨g,j*4,none⟩ x.h).setCell ⟨g,j*4+1,none⟩ (.int .i64 x.p.frm)).setCell ⟨g,j*4+2,none⟩ (.int .i64 x.p.period)).setCell ⟨g,j*4+3,none⟩ x.c) (some g):=
  World.grownBy.set' (World.grownBy.set' (World.grownBy.set' (World.grownBy.set' ⟨rfl,rfl,rfl,Nat.le_refl _,fun _ _ _=>rfl⟩ _) _) _) _
 refine ⟨?_,fun y hy=>?_,by rw [List.length_set];exact h.len,h.cap⟩
 ·rw [List.length_set,<- np_ hj];exact ((((h.row.stored _ _).1.stored _ _).1.stored _ _).1.stored _ _).1
 ·refine PVok.keep ?_ (a5_.grown hg fun h=>h.2 rfl);rcases List.mem_or_eq_of_mem_set hy with hy|rfl
  ·exact h.all y hy
  ·exact hx
theorem Row4.erase (h:Row4 B g cap W L) (hj:j<L.length) (hr:W'.ownsRow B 39 4 (.slice (some ⟨g,0,none⟩) (L.length-1) cap) (L.length-1) ((L.flatMap PV.enc).take (j*4) ++ (L.flatMap PV.enc).drop ((j+1)*4))) (hg:W.grownBy W' (some g)):Row4 B g cap W' (L.eraseIdx j):=by
 have hl:(L.eraseIdx j).length=L.length-1:=by rw [List.length_eraseIdx_of_lt hj]
 refine ⟨by rw [hl,<- l5_];exact hr,fun x hx=>(h.all x (List.mem_of_mem_eraseIdx hx)).keep (a5_.grown hg fun h=>h.2 rfl),by rw [hl];have:=h.len;omega,h.cap⟩
theorem Row4.get (h:Row4 B g cap W L) (hk:k<L.length) :
  PVok W (fun b=>B≤b∧b≠g) (L.getD k default)∧W.cell? ⟨g,k*4,none⟩=some (L.getD k default).h∧W.cell? ⟨g,k*4+1,none⟩=some (.int .i64 (L.getD k default).p.frm)∧
   W.cell? ⟨g,k*4+2,none⟩=some (.int .i64 (L.getD k default).p.period)∧W.cell? ⟨g,k*4+3,none⟩=some (L.getD k default).c∧∀ i,W.frozen? ⟨g,i,none⟩=false:=by
 have c:=fun i (hi:i<4)=>h.row.cellAt (k*4+i) oq_;refine ⟨h.all _ (aa_ hk),(c 0 oq_).trans (av_ hk rfl),(c 1 oq_).trans (av_ hk rfl),(c 2 oq_).trans (av_ hk rfl),(c 3 oq_).trans (av_ hk rfl),fun i=>h.row.frozenAt i⟩
theorem Row4.term (h:Row4 B g cap W L):be_ W (fun b=>B≤b) (.slice (some ⟨g,0,none⟩) L.length cap) L:=by
 refine ⟨⟨_,_,rfl,h.len,Nat.le_trans h.cap oq_,.inr ⟨g,0,rfl,h.le.1,h.le.2,fun i u hi=>?_⟩⟩,Nat.le_trans h.len h.cap,fun x hx=>(h.all x hx).mono fun b hb=>hb.1⟩;rw [Nat.zero_add];have:=(List.getElem?_eq_some_iff.1 hi).1;rw [c3_] at this;exact (h.row.cellAt i this).trans hi
theorem Row4.one (h:Row4 B g cap W L):∀ u∈L.flatMap PV.enc,u.oneCell'=true:=fun u hu=>by
 obtain ⟨x,hx,hu⟩:=List.mem_flatMap.1 hu;exact (h.all x hx).one u hu
theorem ku_ (W:World) (F:Nat->Prop):PVok W F default:=
 ⟨⟨Ints.nil W,Ints.nil W⟩,by constructor <;> decide,by constructor <;> decide,fun h=>absurd rfl h,fun h=>absurd rfl h⟩
theorem lk_ {P:Program} {a:Act} {Q:Exit->Act->World->Prop} {x y rest:Code} (l:Nat) (J:Act->World->Prop) (μ:Act->World->Nat) (hf:findLabel (x.seq (y.seq ((Code.label l).seq rest))) l=some (Code.skip.seq rest))
  (first:x.wp P (Exit.then (fun a w=>y.wp P (Exit.then J (Exit.jump l J Q)) a w) (Exit.jump l J Q)) a w)
  (pass:∀ a w,J a w->rest.wp P (Exit.jump l (fun a' w'=>J a' w'∧μ a' w'<μ a w) Q) a w):(Code.scope (x.seq (y.seq ((Code.label l).seq rest)))).wp P Q a w:=by
 refine wp_scope_jumps l J μ hf (wp_seq (wp_mono first fun e a w h=>?_)) fun a w h=>wp_seq (wp_skip (pass a w h));cases e <;> first|exact h|skip
 refine wp_seq (wp_mono h fun e a w h=>?_);cases e <;> first|exact h|skip
 refine wp_seq (wp_label ?_);refine wp_mono (pass a w h) fun e a w h=>?_;cases e <;> first|exact h|exact ⟨h.1,h.2.1⟩
theorem qa_ (n:Nat):(madeCells (Value.agg #[.slice none 0 0,.int .i64 0,.int .i64 0,.slice none 0 0]).cells (n*4)).toList=(List.replicate n (default:PV)).flatMap PV.enc:=by
 refine List.ext_getElem? fun i=>?_
 by_cases hi:i<n*4
 ·have h1:i=i / 4*4+i % 4:=oq_;have h2:i % 4<4:=oq_;have h3:(List.replicate n (default:PV)).getD (i / 4) default=default:=by
   rw [List.getD_eq_getElem?_getD,List.getElem?_replicate];split <;> rfl
  have h4:(default:PV).enc[i % 4]? = some ((default:PV).enc[i % 4]'h2):=List.getElem?_eq_getElem h2;have h5:=av_ (L:=List.replicate n (default:PV)) (j:=i / 4) (i:=i % 4) (u:=(default:PV).enc[i % 4]'h2) tq_ (by rw [h3];exact h4);rw [<- h1] at h5;rw [h5,Array.getElem?_toList];have h6:∀ r (hr:r<4),(Value.agg #[.slice none 0 0,.int .i64 0,.int .i64 0,.slice none 0 0]).cells[r]! = (default:PV).enc[r]'hr:=by
   intro r hr
   match r,hr with
   | 0,_=>rfl
   | 1,_=>rfl
   | 2,_=>rfl
   | 3,_=>rfl
  rw [<- h6];unfold madeCells;simp [hi,Value.cells]
 ·rw [List.getElem?_eq_none (by simp [madeCells];omega),List.getElem?_eq_none (by rw [c3_];simp;omega)]
structure MInv (w:World) (s:Int) (L:List PV) (g cap:Nat) (M:List PV) (W:World):Prop where
 row:Row4 w.heap.size g cap W M
 bel:Below w.heap.size w W
 fv:∀ x∈M,FV s x.p
 tom:∀ u,c4_ (M.map PV.p) u->b8_ (L.map PV.p) u
def MJ (w:World) (s:Int) (L:List PV) (g cap:Nat) (v:Value) (a:Act) (W:World):Prop:=
 ∃ (M:List PV) (n:Nat) (u1 u4 u5 u6 u7 u8 u9 u10 u11 u12 u13 u14 u15 u16 u17 u18 u19 u20 u21 u22 u23 u24 u25 u26 u27 u28 u29 u30 u31 u32 u33 u34 u35 u36 u37 u38 u39 u40 u41 u42 u43 u44 u45 u46 u47 u48 u49 u50 u51 u52 u53 u54 u55 u56 u57 u58 u59 u60 u61 u62 u63 u64 u65 u66 u67 u68 u69 u70 u71 u72 u73 u74 u75 u76:Value),a=⟨#[v,u1,.slice none 0 0,.slice (some ⟨g,0,none⟩) n cap,u4,u5,u6,u7,u8,u9,u10,u11,u12,u13,u14,u15,u16,u17,u18,u19,u20,u21,u22,u23,u24,u25,u26,u27,u28,u29,u30,u31,u32,u33,u34,u35,u36,u37,u38,u39,u40,u41,u42,u43,u44,u45,u46,u47,u48,u49,u50,u51,u52,u53,u54,u55,u56,u57,u58,u59,u60,u61,u62,u63,u64,u65,u66,u67,u68,u69,u70,u71,u72,u73,u74,u75,u76],[]⟩∧n=M.length∧MInv w s L g cap M W
structure MgP (B:Nat) (q:Per) (nb:Nat) (h c:Value) (W:World):Prop where
 ok:PVok W (fun b=>B≤b∧b≠B) ⟨h,c,q⟩
 ne:nb≠B
 c0:W.cell? ⟨nb,0,none⟩=some h
 c1:W.cell? ⟨nb,1,none⟩=some (.int .i64 q.frm)
 c2:W.cell? ⟨nb,2,none⟩=some (.int .i64 q.period)
 c3:W.cell? ⟨nb,3,none⟩=some c
theorem MgP.of {lo hi nb:Nat} {c:Value} (hp:ar_ W lo hi h c q) (hv:FV s q) (hB:B<lo) (hb:Bxx W nb #[.slice none 0 0,.int .i64 0,.int .i64 0,.slice none 0 0] 39) (hn:nb<lo∨hi≤nb) (hne:nb≠B) :
  MgP B q nb h c ((((W.setCell ⟨nb,0,none⟩ h).setCell ⟨nb,1,none⟩ (.int .i64 q.frm)).setCell ⟨nb,2,none⟩ (.int .i64 q.period)).setCell ⟨nb,3,none⟩ c):=by
 have h1:=(((hp.set (i:=0) h hn).set (i:=1) (.int .i64 q.frm) hn).set (i:=2) (.int .i64 q.period) hn).set (i:=3) c hn;have h2:=dg_ hb (x':=h) (y':=.int .i64 q.frm) (z':=.int .i64 q.period) (u':=c);have v1:=hv.valid;have v2:=v1.wf.frm;have v3:q.frm≤1099511627776:=v1.frm;have v4:=v1.wf.per;have v5:q.period≤1099511627776:=v1.per;refine ⟨⟨h1.is,⟨by show _≤q.frm;omega,by show q.frm≤_;omega⟩,⟨by show _≤q.period;omega,by show q.period≤_;omega⟩,fun hh k hk=>?_,fun hh k hk=>?_⟩,hne,(Bxx.cells h2 0).1,(Bxx.cells h2 1).1,(Bxx.cells h2 2).1,(Bxx.cells h2 3).1⟩
 ·have:=h1.hd.blk hh k hk;omega
 ·have:=h1.cy.blk hh k hk;omega
theorem qy_ (B g cap jj:Nat) (M:List PV) (W:World) (h:Row4 B g cap W M) (hj:jj<M.length) :
  Calls Tryz.prog 145 #[.slice (some ⟨g,0,none⟩) M.length cap,.int .i64 jj,.int .i64 (jj+1)] W fun e w'=>e=.returned (.slice (some ⟨g,0,none⟩) (M.length-1) cap)∧Row4 B g cap w' (M.eraseIdx jj)∧W.grownBy w' (some g):=
 (pf_ B g M.length cap jj _ W h.row hj h.one).mono fun e w' ⟨h1,h2,h3⟩=>⟨h1,h.erase hj h2 h3,h3⟩
theorem map_merge {M:List PV} {ii jj:Nat} {x:PV} (hi:ii<M.length) (hj:jj<M.length) (hx:x.p=andP ((M.map PV.p).getD ii default) ((M.map PV.p).getD jj default)):((M.set ii x).eraseIdx jj).map PV.p=ci_ (M.map PV.p) ii jj:=by
 unfold ci_;rw [<- hx,<- List.map_set];simp [List.eraseIdx_eq_take_drop_succ]
theorem ei_ (W:World) (h:B≤g) (v0 v1 v2 v3:Value):Below B W ((((W.setCell ⟨g,i,none⟩ v0).setCell ⟨g,i+1,none⟩ v1).setCell ⟨g,i+2,none⟩ v2).setCell ⟨g,i+3,none⟩ v3):=
 ((((Below.refl B W).setCell (p:=⟨g,i,none⟩) h v0).setCell (p:=⟨g,i+1,none⟩) h v1).setCell (p:=⟨g,i+2,none⟩) h v2).setCell (p:=⟨g,i+3,none⟩) h v3
def lenV:Value->Nat|.slice _ n _=>n|_=>0
theorem qm_ (F:Nat->Prop) (s:Int) (v:Value) (t:List Per) (w:World) (ht:ab_ w F v t) (hv:∀ p∈t,FV s p) (hn:t.length≤1000000) :
  Calls Tryz.prog 108 #[v] w fun e w'=>∃ (v':Value) (u:List Per),e=.returned v'∧b8_ t u∧(∀ p∈u,FV s p)∧ab_ w' (fun b=>w.heap.size≤b) v' u∧Below w.heap.size w w':=by
 obtain ⟨L,rfl,hL⟩:=ht;obtain ⟨a1,c1,rfl,hx1,hx2,_⟩:=hL.row.is;have hl1:=hL.len;obtain ⟨bi,hbi,hbz,hbs,hby⟩:=f1_;rw [List.length_map] at hn;have HL:=hq_ hL;have HV:=hq_ hv;clear hL hv
 go_enter Tryz.func108,Tryz.ntmps108
 go_wp2_with fail
 refine lk_ 0 (MJ w s L w.heap.size L.length (.slice a1 L.length c1)) (fun a _=>lenV (a.tmps.getD 3 undef)) rfl ?first ?pass
 case first=>
  go_wp2_with (at_make;refine wpList_make_full _ rfl _ _ 36 rfl w.heap.size 39 bi (.agg #[.slice none 0 0,.int .i64 0,.int .i64 0,.slice none 0 0]) 4 Tryz.underlying36 hbi hbz hbs .i64 .i64 _ _ L.length rfl rfl rfl rfl (by rw [hby];omega) (by unfold maxLen;omega) sq_ ?_;intro w3 hown3 hgrow3;have hb3:Below w.heap.size w w3:=((Below.refl _ _).grown hgrow3 sq_ (fun k e=>by cases e)))
  rw [qa_] at hown3;have hrow0:Row4 w.heap.size w.heap.size L.length w3 (List.replicate L.length (default:PV)):=⟨by rw [List.length_replicate];exact hown3,fun x hx=>by rw [List.eq_of_mem_replicate hx];exact ku_ _ _,sq_,hl1⟩;have HR0:=hq_ hrow0;have HB0:=hq_ hb3;clear hown3 hgrow3 hrow0 hb3
  go_loopw [4,5,15] (fun _ _ i wr=>∃ (k:Nat) (M:List PV),k≤L.length∧i=.int .i64 k∧Hid (M.length=L.length)∧Hid (∀ q,q<k->(M.getD q default).p=canonC (L.getD q default).p.mem)∧Hid (Row4 w.heap.size w.heap.size L.length wr M)∧Hid (Below w.heap.size w wr)) (fun _ _ i _=>L.length-(intOf i).toNat)
  case atStart=>exact ⟨0,_,oq_,rfl,hq_ sq_,hq_ (fun q h=>absurd h oq_),HR0,HB0⟩
  case round=>
   obtain ⟨k,M,hk,rfl,HLE,HP,HR,HB⟩:=hrel
   by_cases hlt:k<L.length
   ·have hlI:(k:Int)<L.length:=oq_;obtain ⟨b1,o1,x,ha,hx,hxp,hb1,e0,e1,e2,e3⟩:=(HL.out.keep (a5_.below HB.out) HB.out.size).get hlt;subst ha;have hfx:FV s x.p:=HV.out _ (by rw [hxp];exact aa_ (by simpa using hlt));have hpe:(L.getD k default).p=x.p:=by rw [hxp];simp [List.getD_eq_getElem?_getD,hlt]
    obtain ⟨xh,xc,xp⟩:=x;obtain ⟨ax1,nx1,cx1,ax2,nx2,cx2,rfl,rfl⟩:=hx.form;dsimp only at e0 e1 e2 e3 hfx hpe;have HX:=hq_ hx;have HPE:=hq_ hpe;have HC:=fun W (h:Below _ _ W)=>nq_ s _ _ xp W (hx.is.ext h) hfx;have HFX:=hq_ hfx;dsimp only at HC;clear hx hxp hpe hfx;have hle:=HR.out.le;go_wp2_with (go_at_call 97;refine (HC _ xE).mono ?_;rintro e w2 ⟨h',c',rfl,ho,hb2⟩;obtain ⟨a5,m5,a6,m6,rfl,rfl⟩:=ho.form;have hrw:=HR.out.below (show Below wr.heap.size wr w2 by exact xE);obtain ⟨-,g0,g1,g2,g3,g4⟩:=hrw.get (show k<M.length by have:=HLE.out;omega);obtain ⟨hc2,hf2⟩:=au_ hb2;(try simp only [World.size_alloc,World.size_drew,af_,World.size_setCell] at hc2 hf2);have HRW:=hq_ hrw;have HO:=hq_ ho;have HB2:=hq_ (show Below wr.heap.size wr w2 by exact xE);clear hrw ho)
    have hbw:Below w.heap.size w w2:=Et HB.out HB2.out;go_roundw
    case rel=>
     refine ⟨k+1,M.set k ⟨.slice a5 (canonC xp.mem).head.length m5,.slice a6 (canonC xp.mem).cycle.length m6,canonC xp.mem⟩,oq_,by go_num,hq_ (by rw [List.length_set];exact HLE.out),hq_ (fun q hq=>?_),hq_ (HRW.out.set (x:=⟨_,_,canonC xp.mem⟩) (by have:=HLE.out;omega) ?_),hq_ xE⟩
     ·by_cases hqk:q=k
      ·subst hqk;rw [HPE.out,List.getD_eq_getElem?_getD,List.getElem?_set_self (by have:=HLE.out;omega)];rfl
      ·rw [List.getD_eq_getElem?_getD,List.getElem?_set_ne oq_,<- List.getD_eq_getElem?_getD];exact HP.out q oq_
     ·refine (HO.out.pv HFX.out.canon.2).mono fun b hb=>?_;have:=hb.1;have:=HB.out.size;simp [World.size_alloc] at *;omega
    case measure=>simp [intOf];omega
   ·obtain rfl:k=L.length:=oq_;go_wp2_with fail
    have hmap:M.map PV.p=(L.map PV.p).map fun p=>canonC p.mem:=List.ext_getElem (by simp [HLE.out]) fun i h1 h2=>by
     have h3:=HP.out i (by simpa using h2);have h4:i<M.length:=by simpa using h1
     have h5:i<L.length:=by simpa using h2
     rw [List.getD_eq_getElem?_getD,List.getD_eq_getElem?_getD,List.getElem?_eq_getElem h4,List.getElem?_eq_getElem h5] at h3;simpa using h3
    refine ⟨M,_,_,_,_,_,_,_,_,_,_,_,_,_,_,_,_,_,_,_,_,_,_,_,_,_,_,_,_,_,_,_,_,_,_,_,_,_,_,_,_,_,_,_,_,_,_,_,_,_,_,_,_,_,_,_,_,_,_,_,_,_,_,_,_,_,_,_,_,_,_,_,_,_,_,_,rfl,HLE.out.symm,HR.out,HB.out,fun x hx=>?_,fun u hu=>?_⟩
    ·have h1:x.p∈M.map PV.p:=List.mem_map.2 ⟨x,hx,rfl⟩;rw [hmap] at h1;obtain ⟨p,hp,he⟩:=List.mem_map.1 h1;rw [<- he];exact (HV.out p hp).canon.2
    ·unfold b8_;rw [<- hmap];exact hu
 case pass=>
  rintro a W ⟨M,n,u1,u4,u5,u6,u7,u8,u9,u10,u11,u12,u13,u14,u15,u16,u17,u18,u19,u20,u21,u22,u23,u24,u25,u26,u27,u28,u29,u30,u31,u32,u33,u34,u35,u36,u37,u38,u39,u40,u41,u42,u43,u44,u45,u46,u47,u48,u49,u50,u51,u52,u53,u54,u55,u56,u57,u58,u59,u60,u61,u62,u63,u64,u65,u66,u67,u68,u69,u70,u71,u72,u73,u74,u75,u76,rfl,rfl,hinv⟩;have hrow:=hinv.row;have hM:=hrow.len;have HI:=hq_ hinv;have HR:=hq_ hrow;clear hinv hrow;go_wp2_with fail
  go_loopw [3,6,7,8,9,31] (fun s3 _ _ _ _ idx wr=>∃ ii:Nat,ii≤M.length∧s3=.slice (some ⟨w.heap.size,0,none⟩) M.length L.length∧idx=.int .i64 ii∧Hid (∀ i' j',i'<ii->i'<j'->j'<M.length->¬ ch_ (M.map PV.p) i' j')∧Hid (Row4 w.heap.size w.heap.size L.length wr M)∧Hid (Below w.heap.size w wr)) (fun _ _ _ _ _ idx _=>M.length-(intOf idx).toNat)
  case atStart=>exact ⟨0,oq_,rfl,rfl,hq_ (fun _ _ h=>absurd h oq_),HR,hq_ HI.out.bel⟩
  case round=>
   obtain ⟨ii,hi,rfl,rfl,HN2,HR2,HB2⟩:=hrel
   by_cases hlt:ii<M.length
   ·have hiI:(ii:Int)<M.length:=oq_;go_wp2_with fail
    go_loopw [3,7,8,9] (fun s3 jv _ _ wr=>∃ jj:Nat,ii<jj∧jj≤M.length∧s3=.slice (some ⟨w.heap.size,0,none⟩) M.length L.length∧jv=.int .i64 jj∧Hid (∀ j',ii<j'->j'<jj->¬ ch_ (M.map PV.p) ii j')∧Hid (Row4 w.heap.size w.heap.size L.length wr M)∧Hid (Below w.heap.size w wr)) (fun _ jv _ _ _=>M.length-(intOf jv).toNat)
    case atStart=>exact ⟨ii+1,oq_,oq_,rfl,by go_num,hq_ (fun _ h1 h2=>absurd h2 oq_),HR2,HB2⟩
    case round=>
     obtain ⟨jj,hij,hj,rfl,rfl,HN3,HR3,HB3⟩:=hrel
     by_cases hjl:jj<M.length
     ·have hjI:(jj:Int)<M.length:=oq_;obtain ⟨hx,i0,i1,i2,i3,hfz⟩:=HR3.out.get hlt;obtain ⟨hy,j0,j1,j2,j3,-⟩:=HR3.out.get hjl;have hfx:=HI.out.fv _ (aa_ (d:=default) hlt);have hfy:=HI.out.fv _ (aa_ (d:=default) hjl);have hdx:(M.map PV.p).getD ii default=(M.getD ii default).p:=by simp [List.getD_eq_getElem?_getD,hlt]
      have hdy:(M.map PV.p).getD jj default=(M.getD jj default).p:=by simp [List.getD_eq_getElem?_getD,hjl]
      generalize M.getD ii default=x at *;generalize M.getD jj default=y at *;obtain ⟨xh,xc,xp⟩:=x;obtain ⟨yh,yc,yp⟩:=y;obtain ⟨ax1,nx1,cx1,ax2,nx2,cx2,rfl,rfl⟩:=hx.form;obtain ⟨ay1,ny1,cy1,ay2,ny2,cy2,rfl,rfl⟩:=hy.form;dsimp only at i0 i1 i2 i3 j0 j1 j2 j3 hfx hfy hdx hdy;have HDIV:=fun W=>je_ ⟨.slice ax1 nx1 cx1,.slice ax2 nx2 cx2,xp⟩ ⟨.slice ay1 ny1 cy1,.slice ay2 ny2 cy2,yp⟩ W hfx.valid.wf.per hfx.valid.per hfy.valid.wf.per hfy.valid.per;change ∀ W,Calls _ _ #[perV _ _ xp.frm xp.period,perV _ _ yp.frm yp.period] W fun e w'=>e=.returned (.bool (divB xp yp))∧_ at HDIV;have HDA:Hid (ch_ (M.map PV.p) ii jj↔divB xp yp=true):=hq_ (by unfold ch_;rw [hdx,hdy]);have HFX:=hq_ hfx;have HFY:=hq_ hfy;have HX:=hq_ hx;have HY:=hq_ hy;have HDX:=hq_ hdx;have HDY:=hq_ hdy;generalize divB xp yp=dd at *;clear hfx hfy hx hy hdx hdy;go_wp2_with fail
      refine ai_ (w0:=wr) [0,1,2,3,4,5,6,7,8] [9] (fun v=>⟨#[.slice a1 L.length c1,u1,.slice none 0 0,.slice (some ⟨w.heap.size,0,none⟩) M.length L.length,u4,u5,.int .i64 ↑ii,.int .i64 ↑jj,u8,u9,u10,u11,u12,u13,u14,u15,u16,u17,u18,u19,u20,u21,u22,u23,u24,u25,u26,u27,u28,.slice (some ⟨w.heap.size,0,none⟩) M.length L.length,.int .i64 ↑M.length,.int .i64 ↑ii,.bool true,.int .i64 ↑ii,.int .i64 ↑ii,.int .i64 (↑ii+1),.int .i64 ↑jj,.slice (some ⟨w.heap.size,0,none⟩) M.length L.length,.int .i64 ↑M.length,.bool true,u40,u41,v 0,v 1,v 2,v 3,v 4,v 5,v 6,v 7,v 8,u51,u52,u53,u54,u55,u56,u57,u58,u59,u60,u61,u62,u63,u64,u65,u66,u67,u68,u69,u70,u71,u72,u73,u74,u75,u76],[]⟩) [.slice (some ⟨w.heap.size,0,none⟩) M.length L.length,.int .i64 ii,.pointer (some ⟨w.heap.size,ii*4,none⟩),perV (.slice ax1 nx1 cx1) (.slice ax2 nx2 cx2) xp.frm xp.period,.slice (some ⟨w.heap.size,0,none⟩) M.length L.length,.int .i64 jj,.pointer (some ⟨w.heap.size,jj*4,none⟩),perV (.slice ay1 ny1 cy1) (.slice ay2 ny2 cy2) yp.frm yp.period,.bool dd] [] (fun _ _ _ _ _=>True) (fun W=>Row4 w.heap.size w.heap.size L.length W M∧(W.cell? ⟨w.heap.size,ii*4,none⟩=some (.slice ax1 nx1 cx1)∧W.cell? ⟨w.heap.size,ii*4+1,none⟩=some (.int .i64 xp.frm)∧W.cell? ⟨w.heap.size,ii*4+2,none⟩=some (.int .i64 xp.period)∧W.cell? ⟨w.heap.size,ii*4+3,none⟩=some (.slice ax2 nx2 cx2))∧(W.cell? ⟨w.heap.size,jj*4,none⟩=some (.slice ay1 ny1 cy1)∧W.cell? ⟨w.heap.size,jj*4+1,none⟩=some (.int .i64 yp.frm)∧W.cell? ⟨w.heap.size,jj*4+2,none⟩=some (.int .i64 yp.period)∧W.cell? ⟨w.heap.size,jj*4+3,none⟩=some (.slice ay2 ny2 cy2))) (fun W hb=>⟨HR3.out.below hb,⟨cux i0 hb,cux i1 hb,cux i2 hb,cux i3 hb⟩,cux j0 hb,cux j1 hb,cux j2 hb,cux j3 hb⟩) trivial trivial ?steps ?fin (fun j=>match j with|0=>u42|1=>u43|2=>u44|3=>u45|4=>u46|5=>u47|6=>u48|7=>u49|8=>u50|_=>undef)
      case steps=>
       refine .c [] [] rfl ?_ (.c [] [] rfl ?_ (.c [0,1] [] rfl ?_ (.c [2] [] rfl ?_ (.c [] [] rfl ?_ (.c [] [] rfl ?_ (.c [4,5] [] rfl ?_ (.c [6] [] rfl ?_ (.c [3,7] [] rfl ?_ (.n)))))))))
       all_goals try exact stw
       ·rintro v lo hi W hb ⟨hR,⟨g0,g1,g2,g3⟩,k0,k1,k2,k3⟩ _;refine .inl ⟨rfl,fun K hK=>?_⟩;simp only [ov,vat,Nat.reduceBEq,cond_true,cond_false];go_wp2_with (go_at_call 109;refine (HDIV _).mono ?_;rintro e w9 ⟨rfl,hb9⟩)
        exact acx (hK w9 hb9) (by simp [ov,vat,upd])
      case fin=>
       rintro v lo hi9 W2 hb ⟨hR,⟨g0,g1,g2,g3⟩,k0,k1,k2,k3⟩ hf hap;show wpList _ _ _ [_] _ _;have e8:v 8=.bool dd:=(hf 8 rfl).2.2.2;clear hf hap;dsimp only;rw [e8];clear e8;generalize v 0=y0,v 1=y1,v 2=y2,v 3=y3,v 4=y4,v 5=y5,v 6=y6,v 7=y7;have HB4:=hq_ hb;clear hb;cases dd with
       | false=>
        have HRW:=hq_ hR;clear hR g0 g1 g2 g3 k0 k1 k2 k3;go_wp2_with fail
        go_roundw
        case rel=>exact ⟨jj+1,oq_,oq_,rfl,by go_num,hq_ (fun j' h1 h2=>by
         by_cases h3:j'<jj
         ·exact HN3.out j' h1 h3
         ·obtain rfl:j'=jj:=oq_;rw [HDA.out];decide),HRW,hq_ (Et HB3.out HB4.out)⟩
        case measure=>simp [intOf];omega
       | true=>
        obtain ⟨q,hq⟩:∃ q,q=andP xp yp:=⟨_,rfl⟩;have HQ:=hq_ hq;have HFQ:Hid (FV s q):=hq_ (by rw [hq];exact HFX.out.and HFY.out);have HAND:∀ W,Below W2.heap.size W2 W->Calls Tryz.prog 72 #[perV (.slice ax1 nx1 cx1) (.slice ax2 nx2 cx2) xp.frm xp.period,perV (.slice ay1 ny1 cy1) (.slice ay2 ny2 cy2) yp.frm yp.period] W (b6_ q W):=fun W h=>by
         rw [hq];exact tb_ s _ _ _ _ xp yp W (HX.out.is.ext (Et HB4.out h)) (HY.out.is.ext (Et HB4.out h)) HFX.out HFY.out
        clear hq;have HRW:=hq_ hR;have hW2:=HB4.out.size;have hle:=hR.le;go_wp2_with fail
        refine Code.wp_mono (Q:=fun e a' W'=>e=.normal∧(∃ (nb:Nat) (h c:Value) (z52 z53 z54 z55 z56 z57 z58 z59 z60 z61 z62 z63:Value),a'=⟨#[.slice a1 L.length c1,u1,.slice none 0 0,.slice (some ⟨w.heap.size,0,none⟩) M.length L.length,u4,u5,.int .i64 ↑ii,.int .i64 ↑jj,.pointer (some ⟨nb,0,none⟩),.int .i64 0,u10,u11,u12,u13,u14,u15,u16,u17,u18,u19,u20,u21,u22,u23,u24,u25,u26,u27,u28,.slice (some ⟨w.heap.size,0,none⟩) M.length L.length,.int .i64 ↑M.length,.int .i64 ↑ii,.bool true,.int .i64 ↑ii,.int .i64 ↑ii,.int .i64 (↑ii+1),.int .i64 ↑jj,.slice (some ⟨w.heap.size,0,none⟩) M.length L.length,.int .i64 ↑M.length,.bool true,u40,u41,y0,y1,y2,y3,y4,y5,y6,y7,.bool true,.bool false,z52,z53,z54,z55,z56,z57,z58,z59,z60,z61,z62,z63,u64,u65,u66,u67,u68,u69,u70,u71,u72,u73,u74,u75,u76],[]⟩∧MgP w.heap.size q nb h c W')∧Below W2.heap.size W2 W') ?imp ?reg
        case reg=>
         refine cx_ (w0:=W2) [0,1,2,3,4,5,6,7,8,9,10,11,12] 11 13 [14] (fun v=>⟨#[.slice a1 L.length c1,u1,.slice none 0 0,.slice (some ⟨w.heap.size,0,none⟩) M.length L.length,u4,u5,.int .i64 ↑ii,.int .i64 ↑jj,v 12,u9,u10,u11,u12,u13,u14,u15,u16,u17,u18,u19,u20,u21,u22,u23,u24,u25,u26,u27,u28,.slice (some ⟨w.heap.size,0,none⟩) M.length L.length,.int .i64 ↑M.length,.int .i64 ↑ii,.bool true,.int .i64 ↑ii,.int .i64 ↑ii,.int .i64 (↑ii+1),.int .i64 ↑jj,.slice (some ⟨w.heap.size,0,none⟩) M.length L.length,.int .i64 ↑M.length,.bool true,u40,u41,y0,y1,y2,y3,y4,y5,y6,y7,.bool true,.bool false,v 9,v 0,v 1,v 2,v 3,v 4,v 5,v 6,v 7,v 8,v 10,v 11,u64,u65,u66,u67,u68,u69,u70,u71,u72,u73,u74,u75,u76],[]⟩) [.slice (some ⟨w.heap.size,0,none⟩) M.length L.length,.int .i64 ii,.pointer (some ⟨w.heap.size,ii*4,none⟩),perV (.slice ax1 nx1 cx1) (.slice ax2 nx2 cx2) xp.frm xp.period,.slice (some ⟨w.heap.size,0,none⟩) M.length L.length,.int .i64 jj,.pointer (some ⟨w.heap.size,jj*4,none⟩),perV (.slice ay1 ny1 cy1) (.slice ay2 ny2 cy2) yp.frm yp.period,undef,undef,undef,.int .i64 0,undef] [8,9,10,12] (fun i v lo hi W=>match i with|8=>∃ h c,v 8=.tuple #[perV h c q.frm q.period,.int .i64 0]∧e4_ W (lo 8) (hi 8) h c q|9=>v 9=v 8∧∃ h c,v 9=.tuple #[perV h c q.frm q.period,.int .i64 0]|10=>∃ h c,v 9=.tuple #[perV h c q.frm q.period,.int .i64 0]∧v 10=perV h c q.frm q.period|12=>v 12=.pointer (some ⟨lo 12,0,none⟩)∧lo 12<hi 12∧Bxx W (lo 12) #[.slice none 0 0,.int .i64 0,.int .i64 0,.slice none 0 0] 39|_=>True) (fun W=>Row4 w.heap.size w.heap.size L.length W M∧(W.cell? ⟨w.heap.size,ii*4,none⟩=some (.slice ax1 nx1 cx1)∧W.cell? ⟨w.heap.size,ii*4+1,none⟩=some (.int .i64 xp.frm)∧W.cell? ⟨w.heap.size,ii*4+2,none⟩=some (.int .i64 xp.period)∧W.cell? ⟨w.heap.size,ii*4+3,none⟩=some (.slice ax2 nx2 cx2))∧(W.cell? ⟨w.heap.size,jj*4,none⟩=some (.slice ay1 ny1 cy1)∧W.cell? ⟨w.heap.size,jj*4+1,none⟩=some (.int .i64 yp.frm)∧W.cell? ⟨w.heap.size,jj*4+2,none⟩=some (.int .i64 yp.period)∧W.cell? ⟨w.heap.size,jj*4+3,none⟩=some (.slice ay2 ny2 cy2))) (fun W hb=>⟨hR.below hb,⟨cux g0 hb,cux g1 hb,cux g2 hb,cux g3 hb⟩,cux k0 hb,cux k1 hb,cux k2 hb,cux k3 hb⟩) ?stab ?loc ?steps ?fin ?fin2 (fun j=>match j with|0=>u53|1=>u54|2=>u55|3=>u56|4=>u57|5=>u58|6=>u59|7=>u60|8=>u61|9=>u52|10=>u62|11=>u63|12=>u8|_=>undef)
         case stab=>
          refine ⟨?_,?_,?_,?_,trivial⟩
          ·intro v lo hi W W' h hb;exact (let ⟨x1,x2,e,hp⟩:=h;⟨x1,x2,e,hp.below hb⟩)
          ·intro v lo hi W W' h hb;exact h
          ·intro v lo hi W W' h hb;exact h
          ·intro v lo hi W W' h hb;exact ⟨h.1,h.2.1,h.2.2.below hb⟩
         case loc=>
          refine ⟨?_,?_,?_,?_,trivial⟩
          ·intro v v' lo lo' hi hi' W hag h;have q:=hag 8 (.inl rfl)
           (try dsimp only at h ⊢)
           simp only [q.1,q.2.1,q.2.2] at h;exact h
          ·intro v v' lo lo' hi hi' W hag h;have q:=hag 9 (.inl rfl);have q8:=hag 8 (.inr (Rdp (by kernel_rfl)))
           (try dsimp only at h ⊢)
           simp only [q.1,q.2.1,q.2.2,q8.1,q8.2.1,q8.2.2] at h;exact h
          ·intro v v' lo lo' hi hi' W hag h;have q:=hag 10 (.inl rfl);have q9:=hag 9 (.inr (Rdp (by kernel_rfl)))
           (try dsimp only at h ⊢)
           simp only [q.1,q.2.1,q.2.2,q9.1,q9.2.1,q9.2.2] at h;exact h
          ·intro v v' lo lo' hi hi' W hag h;have q:=hag 12 (.inl rfl)
           (try dsimp only at h ⊢)
           simp only [q.1,q.2.1,q.2.2] at h;exact h
         case steps=>
          clear hR g0 g1 g2 g3 k0 k1 k2 k3;refine .c [] [] rfl ?_ (.c [] [] rfl ?_ (.c [0,1] [] rfl ?_ (.c [2] [] rfl ?_ (.c [] [] rfl ?_ (.c [] [] rfl ?_ (.c [4,5] [] rfl ?_ (.c [6] [] rfl ?_ (.c [3,7] [] rfl ?_ (.c [] [8] rfl ?_ (.c [] [9] rfl ?_ (.c [] [9] rfl ?_ (.c [] [] rfl ?_ (.n)))))))))))))
          all_goals try exact stl
          ·rintro v lo hi W hb ⟨_,⟨g0,g1,g2,g3⟩,k0,k1,k2,k3⟩ _;refine ⟨rfl,fun K hK=>?_⟩;simp only [ov,vat,Nat.reduceBEq,cond_true,cond_false];go_wp2_with (go_at_call 72;refine (HAND _ xE).mono ?_;rintro e w9 ⟨h',c',rfl,ho,hb9⟩)
           exact acx (hK (.tuple #[perV h' c' q.frm q.period,.int .i64 0]) w9 hb9 ⟨h',c',rfl,ho.at⟩) (by simp [ov,vat,upd])
          ·rintro v lo hi W hb ⟨_,⟨g0,g1,g2,g3⟩,k0,k1,k2,k3⟩ ⟨⟨la8,lb8,D8⟩,_⟩;refine ⟨rfl,fun K hK=>?_⟩;simp only [ov,vat,Nat.reduceBEq,cond_true,cond_false]
           (try dsimp only at D8)
           obtain ⟨h8,c8,e8,_⟩:=D8;go_wp2_with fail
           exact acx (hK (v 8) W (Below.refl _ _) ⟨rfl,h8,c8,e8⟩) (by simp [ov,vat,upd,e8])
          ·rintro v lo hi W hb ⟨_,⟨g0,g1,g2,g3⟩,k0,k1,k2,k3⟩ ⟨⟨la9,lb9,D9⟩,_⟩;refine ⟨rfl,fun K hK=>?_⟩;simp only [ov,vat,Nat.reduceBEq,cond_true,cond_false]
           (try dsimp only at D9)
           obtain ⟨-,h9,c9,e9⟩:=D9;simp only [e9];go_wp2_with fail
           exact acx (hK (perV h9 c9 q.frm q.period) W (Below.refl _ _) ⟨h9,c9,e9,rfl⟩) (by simp [ov,vat,upd,e9])
          ·rintro v lo hi W hb ⟨_,⟨g0,g1,g2,g3⟩,k0,k1,k2,k3⟩ ⟨⟨la9,lb9,D9⟩,_⟩;refine ⟨rfl,fun K hK=>?_⟩;simp only [ov,vat,Nat.reduceBEq,cond_true,cond_false]
           (try dsimp only at D9)
           obtain ⟨-,h9,c9,e9⟩:=D9;simp only [e9];go_wp2_with fail
           exact acx (hK W (Below.refl _ _)) (by simp [ov,vat,upd,e9])
          ·rintro v lo hi W hb ⟨_,⟨g0,g1,g2,g3⟩,k0,k1,k2,k3⟩ _;refine ⟨rfl,fun K hK=>?_⟩;simp only [ov,vat,Nat.reduceBEq,cond_true,cond_false];go_wp2_with fail
           exact hK (.pointer (some ⟨W.heap.size,0,none⟩)) _ (Ea (Er _) _) ⟨rfl,sq_,Bxx.new _ _ _⟩
         case fin=>
          rintro v lo hi9 W5 hb5 ⟨hR5,-,-⟩ hf hap;show wpList _ _ _ [_,_] _ _;obtain ⟨l8,-,h8,h,c,e8,hp8⟩:=hf 8 rfl;obtain ⟨-,-,-,e9,-⟩:=hf 9 rfl;obtain ⟨-,-,-,h',c',e9',e10⟩:=hf 10 rfl;have e11:v 11=.int .i64 0:=(hf 11 rfl).2.2.2;obtain ⟨l12,-,h12,e12,lt12,hbox⟩:=hf 12 rfl;have hd:=hap 8 12 rfl rfl dq_;clear hf hap;rw [e9,e8] at e9';obtain ⟨rfl,rfl⟩:h=h'∧c=c':=by simpa [perV] using e9'
          dsimp only;rw [e10,e11,e12];clear e10 e11 e12 e9 e9' e8;obtain ⟨nb,hnb⟩:∃ nb,nb=lo 12:=⟨_,rfl⟩;rw [<- hnb] at hd hbox l12 lt12 ⊢;have hpi:=hp8.inn;generalize lo 8=l8v at *;generalize hi9 8=h8v at *;generalize hi9 12=h12v at *;clear hnb hp8;obtain ⟨a5,m5,a6,m6,rfl,rfl⟩:=hpi.form;have g0:=hbox.cells 0;have g1:=hbox.cells 1;have g2:=hbox.cells 2;have g3:=hbox.cells 3;have HMG:=hq_ (MgP.of hpi HFQ.out (show w.heap.size<l8v by omega) hbox oq_ oq_);have HB5:=hq_ hb5;clear hbox hpi hd hR5;generalize v 0=z0,v 1=z1,v 2=z2,v 3=z3,v 4=z4,v 5=z5,v 6=z6,v 7=z7,v 8=z8,v 9=z9;go_wp2_with fail
          exact ⟨⟨_,_,HMG.out⟩,by have hb5:=HB5.out;exact xE⟩
         case fin2=>
          rintro v lo hi9 W5 hb5 ⟨hR5,-,-⟩ hf hap;obtain ⟨l8,-,h8,h,c,e8,hp8⟩:=hf 8 rfl dq_;obtain ⟨-,-,-,e9,-⟩:=hf 9 rfl dq_;obtain ⟨-,-,-,h',c',e9',e10⟩:=hf 10 rfl dq_;obtain ⟨l12,-,h12,e12,lt12,hbox⟩:=hf 12 rfl dq_;have hd:=hap 8 12 rfl rfl dq_ dq_ dq_;clear hf hap;rw [e9,e8] at e9';obtain ⟨rfl,rfl⟩:h=h'∧c=c':=by simpa [perV] using e9'
          have e99:=e9.trans e8;dsimp only;rw [e10,e12,e99];clear e10 e12 e9 e9' e8 e99;obtain ⟨nb,hnb⟩:∃ nb,nb=lo 12:=⟨_,rfl⟩;rw [<- hnb] at hd hbox l12 lt12 ⊢;have hpi:=hp8.inn;generalize lo 8=l8v at *;generalize hi9 8=h8v at *;generalize hi9 12=h12v at *;clear hnb hp8;obtain ⟨a5,m5,a6,m6,rfl,rfl⟩:=hpi.form;have g0:=hbox.cells 0;have g1:=hbox.cells 1;have g2:=hbox.cells 2;have g3:=hbox.cells 3;have HMG:=hq_ (MgP.of hpi HFQ.out (show w.heap.size<l8v by omega) hbox oq_ oq_);have HB5:=hq_ hb5;clear hbox hpi hd hR5;generalize v 0=z0,v 1=z1,v 2=z2,v 3=z3,v 4=z4,v 5=z5,v 6=z6,v 7=z7,v 8=z8,v 11=z11;constructor
          ·show wpList _ _ _ [_,_,_] _ _;go_wp2_with fail
           exact ⟨⟨_,_,HMG.out⟩,by have hb5:=HB5.out;exact xE⟩
          ·show wpList _ _ _ [_,_,_] _ _;go_wp2_with fail
           exact ⟨⟨_,_,HMG.out⟩,by have hb5:=HB5.out;exact xE⟩
        case imp=>
         rintro e a' W6 ⟨rfl,⟨nb,h,c,z52,z53,z54,z55,z56,z57,z58,z59,z60,z61,z62,z63,rfl,hP⟩,hb6⟩;obtain ⟨a5,n5,m5,a6,n6,m6,rfl,rfl⟩:=hP.ok.form;have p0:=hP.c0;have p1:=hP.c1;have p2:=hP.c2;have p3:=hP.c3;have hrow:=HRW.out.below hb6;obtain ⟨-,r0,r1,r2,r3,r4⟩:=hrow.get hlt;have hset:=hrow.set (x:=⟨_,_,q⟩) hlt hP.ok;have hdel:=qy_ _ _ _ jj _ _ hset (by rw [List.length_set];exact hjl);rw [List.length_set] at hdel;have hgr:=ei_ W6 (i:=ii*4) (Nat.le_refl w.heap.size) (.slice a5 n5 m5) (.int .i64 q.frm) (.int .i64 q.period) (.slice a6 n6 m6);have HGR:=hq_ hgr;have HB6:=hq_ hb6;clear hP hrow hset hgr hb6;go_wp2_with (go_at_call 145;refine hdel.mono ?_;rintro e w8 ⟨rfl,hr8,hg8⟩)
         go_step3
         have hb8:Below w.heap.size w w8:=by
          have h1:Below w.heap.size w W6:=Et (Et HB3.out HB4.out) HB6.out;exact h1.trans (HGR.out.trans (World.grownBy.below' hg8 (Nat.le_refl _) (h1.trans HGR.out).size))
         refine ⟨rfl,⟨_,_,_,_,_,_,_,_,_,_,_,_,_,_,_,_,_,_,_,_,_,_,_,_,_,_,_,_,_,_,_,_,_,_,_,_,_,_,_,_,_,_,_,_,_,_,_,_,_,_,_,_,_,_,_,_,_,_,_,_,_,_,_,_,_,_,_,_,_,_,_,_,_,_,_,_,rfl,?_,hr8,hb8,?_,?_⟩,?_⟩
         ·rw [List.length_eraseIdx_of_lt (by rw [List.length_set];exact hjl),List.length_set]
         ·intro z hz;have h1:=List.mem_of_mem_eraseIdx hz;rcases List.mem_or_eq_of_mem_set h1 with h2|rfl
          ·exact HI.out.fv z h2
          ·exact HFQ.out
         ·intro u hu;refine HI.out.tom u (c4_.step (i:=ii) (j:=jj) ⟨hij,by rw [List.length_map];exact hjl,(by have:=HDA.out;simpa using this),fun i' j' h1 h2 h3=>HN2.out i' j' h1 h2 (by rwa [List.length_map] at h3),HN3.out⟩ ?_);rw [<- map_merge hlt hjl (x:=⟨.slice a5 n5 m5,.slice a6 n6 m6,q⟩) (by rw [HDX.out,HDY.out];exact HQ.out)];exact hu
         ·show M.length-1<M.length;omega
     ·obtain rfl:jj=M.length:=oq_;go_wp2_with fail
      go_roundw
      case rel=>exact ⟨ii+1,oq_,rfl,by go_num,hq_ (fun i' j' h1 h2 h3=>by
       by_cases h4:i'<ii
       ·exact HN2.out i' j' h4 h2 h3
       ·obtain rfl:i'=ii:=oq_;exact HN3.out j' h2 h3),HR3,HB3⟩
      case measure=>simp [intOf];omega
   ·obtain rfl:ii=M.length:=oq_;go_wp2_with fail
    simp only [Exit.jump];go_ret;refine ⟨_,M.map PV.p,rfl,HI.out.tom _ (c4_.done fun i' j' h1 h2=>HN2.out i' j' (by rw [List.length_map] at h2;omega) h1 (by rwa [List.length_map] at h2)),fun p hp=>?_,⟨M,rfl,HR2.out.term⟩,HB2.out⟩;obtain ⟨z,hz,rfl⟩:=List.mem_map.1 hp;exact HI.out.fv z hz
end Go.Proofs.YthjnojbeimchdaaGreat
end
namespace Go
open Go.RowKit
variable {P:Program}
def SeqY {α:Type} (P:Program) (g:Nat) (lb:Array Value) (encs:α->Array Value) (Kp:World->World->Prop) (x:Option Nat) (Ey:List α->α->World->Prop) (Fin:List α->Prop) (w:World):Prop:=
 ∀ (l:Nat) (J:List α->World->Prop) (W:World),Below w.heap.size w W->ll_ x J->
  (∀ pre y W1,J pre W1->Ey pre y W1->YieldAt Fence.wide 0 P l (encs y) W1 fun e W'=>e=.returned (.bool true)∧J (pre ++ [y]) W'∧Kp W1 W')->
  J [] W->
  CallsIn Fence.wide 0 P g (#[.func (.yield l) #[] #[]] ++ lb) W fun e W'=>(∃ v,e=.returned v)∧∃ xs,Fin xs∧J xs W'
def my_ (B:Nat) (Kp:World->World->Prop) (I:World->Prop) (W:World):Exit->Act->World->Prop
 | .normal,_,W3=>KeepsFrom B W W3∧Kp W W3∧I W3
 | _,_,_=>False
theorem jh_ {α:Type} {g:Operand} {ps:Array Tmp} {assign body:Code} {Q:Exit->Act->World->Prop} {a:Act} {w:World}
  {gf:Nat} {lb:Array Value} (hg:a.eval g=.func (.func gf) #[] lb) (eg:∀ args w,(callFunc gf args).run P w=.ok (.enter gf args) w)
  {encs:α->Array Value} {Kp:World->World->Prop} {x:Option Nat} {Ey:List α->α->World->Prop} {Fin:List α->Prop} (hseq:SeqY P gf lb encs Kp x Ey Fin w)
  (hKt:∀ {A B C:World},Kp A B->Kp B C->Kp A C) (hKb:∀ (W:World) (l:Nat) (o o':Obj),w.heap.size≤l->W.heap[l]? = some o->o.isCells=false->Kp W (W.putObj l o')) (hps:∀ y,(encs y).size=ps.size)
  (I:List α->World->Prop) (hI:OwnX w.heap.size x I) (hEy:∀ pre y (W:World) (l:Nat) (o o':Obj),W.heap[l]? = some o->o.isCells=false->Ey pre y W->Ey pre y (W.putObj l o')) (h0:I [] w) (a₁:α->Act)
  (hassign:∀ (l:Nat) (y:α) (W:World) (K:Act->World->Prop),K (a₁ y) W->
   assign.wpIn (Fence.wide.inRound l) 0 P (Exit.then K (fun _ _ _=>False)) { tmps:=(ps.zip (encs y)).foldl (fun t (p,v)=>t.setIfInBounds p v) a.tmps,defers:=[] } W)
  (hbody:∀ (l:Nat) (pre:List α) (y:α) (W:World),I pre W->Ey pre y W->body.wpIn (Fence.wide.inRound l) 0 P (my_ w.heap.size Kp (I (pre ++ [y])) W) (a₁ y) W)
  (hdone:∀ (D:Nat) (xs:List α) (W:World),w.heap.size≤D->Fin xs->I xs W->W.heap[D]? = some (.deferred (some []))->Q .normal { a with defers:={ target:=.collected D,args:=#[] } :: a.defers } W) :
  (Code.rangeFunc g ps assign body).wpIn Fence.wide 0 P Q a w:=by
 refine wpIn_rangeFunc ?_;intro fn hfn;obtain ⟨rec,hrec⟩:∃ rec:LoopState->Option Code->Loop,rec=fun st pe=>{ state:=st,pending:=pe,fn,tmps:=a.tmps,params:=ps,assign,body,defers:=w.heap.size }:=⟨_,rfl⟩;obtain ⟨W1,hW1⟩:∃ W1,(w.alloc (.deferred (some []))).alloc (.loop (rec .ready none))=W1:=⟨_,rfl⟩;have hL1:W1.heap[w.heap.size+1]? = some (.loop (rec .ready none)):=by
  rw [<- hW1];have:=World.alloc_heap_new (w.alloc (.deferred (some []))) (.loop (rec .ready none));rwa [World.size_alloc] at this
 have hK1:W1.heap[w.heap.size]? = some (.deferred (some [])):=by
  rw [<- hW1];exact (Below.heap_alloc _ _ _ sq_).trans (World.alloc_heap_new w _)
 have hI1:I [] W1:=by rw [<- hW1];exact hI.alloc _ (hI.alloc _ h0)
 have hb1:Below w.heap.size w W1:=by
  rw [<- hW1];exact (((Below.refl _ w).alloc (Nat.le_refl _) _).alloc sq_ _)
 refine ⟨w.heap.size+1,[{ target:=.collected w.heap.size,args:=#[] }],W1,{ target:=.fn (.func gf) lb,args:=#[.func (.yield (w.heap.size+1)) #[] #[]] },W1,gf,
  #[.func (.yield (w.heap.size+1)) #[] #[]] ++ lb,W1,?_,?_,?_,?_,(fun h=>by cases h),?_⟩
 ·rw [<- hW1,hrec];exact run_enterLoop_outer _ _ _ _ _
 ·simp only [resolve,hg];simp [go_sem]
 ·intro f' _;trivial
 ·simp [invoke,go_sem,eg]
 ·have hkeep:∀ {A B:World} {row:Option Nat} {l:Nat} {o:Obj},A.grownBy B row->(∀ r,row=some r->x=some r∧∃ o:Obj,A.heap[r]? = some o∧o.isCells=true)->A.heap[l]? = some o->o.isCells=false->B.heap[l]? = some o:=
   fun {A B row l o} hg' hr hl ho=>by
    refine (hg'.block l (Array.getElem?_eq_some_iff.1 hl).1 fun e=>?_).trans hl;obtain ⟨_,o2,ho2,hc⟩:=hr l e.symm;rw [hl] at ho2;cases ho2;rw [ho] at hc;cases hc
  refine (hseq (w.heap.size+1)
   (fun pre W=>I pre W∧W.heap[w.heap.size+1]? = some (.loop (rec .ready none))∧W.heap[w.heap.size]? = some (.deferred (some [])))
   W1 hb1
   (fun s A B row hs hg' hr=>⟨hI s A B row hs.1 hg' (fun r e=>.inl (hr r e)),hkeep hg' hr hs.2.1 rfl,hkeep hg' hr hs.2.2 rfl⟩)
   ?_ ⟨hI1,hL1,hK1⟩).mono ?_
  ·rintro pre y W ⟨hi,hl,hk⟩ hlen;have hlt:w.heap.size+1<W.heap.size:=(Array.getElem?_eq_some_iff.1 hl).1;have hy:=run_yield (P:=P) (args:=encs y) hl (by rw [hrec];exact hps y);rw [hrec] at hy;refine ⟨fn,_,assign,body,hy,roundIn_of_wpIn hfn (hassign _ y W _ ?_)⟩;clear hy;refine ⟨_,run_beginRound hl (by rw [hrec]),?_⟩;have hl2:(W.putObj (w.heap.size+1) (.loop { rec .ready none with state:=.busy })).heap[w.heap.size+1]? = some (.loop { rec .ready none with state:=.busy }):=World.putObj_heap_same hlt;have hk2:(W.putObj (w.heap.size+1) (.loop { rec .ready none with state:=.busy })).heap[w.heap.size]? = some (.deferred (some [])):=(World.putObj_heap_other oq_).trans hk;have hw2:Kp W (W.putObj (w.heap.size+1) (.loop { rec .ready none with state:=.busy })):=hKb _ _ _ _ oq_ hl rfl;refine wpIn_mono (hbody _ pre y _ (hI.putObj _ hi oq_ hl rfl) (hEy _ _ _ _ _ _ hl rfl hlen)) ?_;have fin:∀ (jump:Option Code) (W3:World),KeepsFrom w.heap.size (W.putObj (w.heap.size+1) (.loop { rec .ready none with state:=.busy })) W3->
     (Instr.endRound (w.heap.size+1) jump).run P W3=.ok (.bool jump.isNone) (W3.putObj (w.heap.size+1) (.loop (rec (if jump.isNone then .ready else .done) jump)))∧
     W3.heap[w.heap.size+1]? = some (.loop { rec .ready none with state:=.busy })∧
     (W3.putObj (w.heap.size+1) (.loop (rec (if jump.isNone then .ready else .done) jump))).heap[w.heap.size+1]? = some (.loop (rec (if jump.isNone then .ready else .done) jump))∧
     (W3.putObj (w.heap.size+1) (.loop (rec (if jump.isNone then .ready else .done) jump))).heap[w.heap.size]? = some (.deferred (some [])):=fun jump W3 hk3=>by
    have hl3:=hk3.same _ _ oq_ hl2 rfl;have:=run_endRound (P:=P) jump hl3;rw [hrec] at this ⊢;exact ⟨this,by rw [hrec] at hl3;exact hl3,World.putObj_heap_same (Array.getElem?_eq_some_iff.1 hl3).1,(World.putObj_heap_other oq_).trans (hk3.same _ _ (Nat.le_refl _) hk2 rfl)⟩
   rintro e a3 W3 hp;cases e with
   | normal=>
    obtain ⟨hk3,hkp3,hi3⟩:=hp;obtain ⟨hr,hl3,hl4,hk4⟩:=fin none W3 hk3;exact ⟨_,_,hr,rfl,⟨hI.putObj _ hi3 oq_ hl3 rfl,hl4,hk4⟩,hKt (hKt hw2 hkp3) (hKb _ _ _ _ oq_ hl3 rfl)⟩
   | _=>exact hp.elim
  ·rintro e W2 ⟨⟨v,rfl⟩,xs,hS,hi,hl,hk⟩;exact ⟨none,_,by have:=run_endLoop (P:=P) hl (by rw [hrec];simp);rw [hrec] at this;exact this,hdone _ xs _ (Nat.le_refl _) hS (hI.putObj _ hi oq_ hl rfl) ((World.putObj_heap_other oq_).trans hk)⟩
end Go
section
variable {ops:Array Go.Oper}{b:Bool}{n s:Int}{T m m1 m2:List (List Kal.Per)}{l:List Int}{rest:List Go.Oper}{L:List Go.Proofs.YthjnojbeimchdaaGreat.PV}{t u:List Kal.Per}{cs xs:List Go.Value}{B base c cap g i j k:Nat}{o:Go.Oper}{row:Option Nat}{p q:Kal.Per}{h lv v:Go.Value}{A W W' w:Go.World}
namespace Go.Proofs.YthjnojbeimchdaaGreat
open Go.RowKit Go.Shelf Kal
attribute [local go_sem] Oper.semAt_some
theorem RowR.keep2 {F:Nat->Prop} {n:Nat} (h:RowR W F v n cs) (hk:a5_ F W W'):RowR W' F v n cs:=by
 obtain ⟨a,c,rfl,h1,h2,h3⟩:=h;refine ⟨a,c,rfl,h1,h2,h3.imp id ?_⟩;rintro ⟨b,o,rfl,hF,hl,hc⟩;refine ⟨b,o,rfl,hF,?_,fun i u hi=>(World.cell?_of_block (hk b hF hl)).trans (hc i u hi)⟩;have h1:=hk b hF hl;rw [Array.getElem?_eq_getElem hl] at h1;exact (Array.getElem?_eq_some_iff.1 h1).1
theorem be_.keep2 {F:Nat->Prop} (h:be_ W F v L) (hk:a5_ F W W'):be_ W' F v L:=⟨h.row.keep2 hk,h.len,fun x hx=>(h.all x hx).keep hk⟩
theorem ab_.keep2 {F:Nat->Prop} (h:ab_ W F v t) (hk:a5_ F W W'):ab_ W' F v t:=by
 obtain ⟨L,e,g⟩:=h;exact ⟨L,e,g.keep2 hk⟩
theorem MixL.keep2 {F:Nat->Prop} {L:List (Value × List Per)} (h:MixL W F v L) (hk:a5_ F W W'):MixL W' F v L:=⟨h.row.keep2 hk,h.len,fun x hx=>(h.all x hx).keep2 hk⟩
def j0_ (W:World) (b:Nat):Prop:=∃ o:Obj,W.heap[b]? = some o∧o.isCells=true
theorem jw_ {b o:Nat} {u:Value} (h:W.cell? ⟨b,o,none⟩=some u):j0_ W b:=by
 unfold World.cell? at h;cases hb:W.heap[b]? with
 | none=>simp [hb] at h
 | some x=>
  simp only [hb] at h;cases x with
  | cells c t f=>exact ⟨_,hb,rfl⟩
  | _=>simp at h
theorem Ints.cellB (h:Ints W v l) (hl:l≠[]) (hk:v.ownBlock=some k):j0_ W k:=by
 obtain ⟨⟨a,c,rfl,h1,h2,h3⟩,h4,h5⟩:=h;rcases h3 with h3|⟨b,o,rfl,hc⟩
 ·exact absurd h3 hl
 ·simp [Value.ownBlock] at hk;subst hk;exact jw_ (hc 0 (List.length_pos_iff.2 hl))
theorem PVok.cellB {F:Nat->Prop} {x:PV} (h:PVok W F x):PVok W (j0_ W) x:=
 ⟨h.is,h.fr,h.pe,fun e k hk=>h.is.hd.cellB e hk,fun e k hk=>h.is.cy.cellB e hk⟩
theorem be_.cellB {F:Nat->Prop} (h:be_ W F v L):be_ W (j0_ W) v L:=by
 refine ⟨?_,h.len,fun x hx=>(h.all x hx).cellB⟩;obtain ⟨a,c,rfl,h1,h2,h3⟩:=h.row;refine ⟨a,c,rfl,h1,h2,?_⟩
 by_cases hL:L.length=0
 ·exact .inl hL
 ·rcases h3 with h3|⟨b,o,rfl,hb,hl,hc⟩
  ·exact .inl h3
  ·exact .inr ⟨b,o,rfl,jw_ (hc (0*4+0) _ (av_ oq_ rfl)),hl,hc⟩
theorem ab_.put {F:Nat->Prop} {l:Nat} {o o':Obj} (h:ab_ W F v t) (hl:W.heap[l]? = some o) (ho:o.isCells=false):ab_ (W.putObj l o') (j0_ W) v t:=by
 obtain ⟨L,e,g⟩:=h;refine ⟨L,e,g.cellB.keep2 fun b hb _=>World.putObj_heap_other ?_⟩;obtain ⟨x,hx,hc⟩:=hb;rintro rfl;rw [hl] at hx;cases hx;rw [ho] at hc;cases hc
def tenc (y:Value × List Per):Array Value:=#[y.1]
def EyT (T:List (List Per)) (pre:List (Value × List Per)) (y:Value × List Per) (W:World):Prop:=(∃ r,T=pre.map Prod.snd ++ y.2 :: r)∧∃ F,ab_ W F y.1 y.2
def FinT (T:List (List Per)) (xs:List (Value × List Per)):Prop:=xs.map Prod.snd=T
def n3_ (g:Nat) (lb:Array Value) (T:List (List Per)) (w:World):Prop:=
 (∀ args w,(callFunc g args).run Tryz.prog w=.ok (.enter g args) w)∧∀ W,Below w.heap.size w W->SeqY Tryz.prog g lb tenc (KpB fun k=>k<w.heap.size) none (EyT T) (FinT T) W
theorem dn_ (v:Value) (w:World) (hv:∃ a n c,v=.slice a n c) :
  Calls Tryz.prog 61 #[v] w fun e w'=>e=.returned (.func (.func 103) #[] #[.pointer (some ⟨w.heap.size,0,none⟩)])∧w'=w.alloc (.cells #[v] 26):=by
 obtain ⟨a,n,c,rfl⟩:=hv
 go_enter Tryz.func61,Tryz.ntmps61
 go_wp2
 go_ret;exact ⟨rfl,rfl⟩
theorem mp_ {L:List (Value × List Per)} (hT:L.map Prod.snd=T) (hk:k<L.length):T=T.take k ++ (L.getD k default).2 :: T.drop (k+1)∧T.take (k+1)=T.take k ++ [(L.getD k default).2]:=by
 subst hT;have h1:k<(L.map Prod.snd).length:=by simpa using hk
 have h2:(L.getD k default).2=(L.map Prod.snd)[k]:=by simp [List.getD_eq_getElem?_getD,hk]
 rw [h2];exact ⟨by rw [<- List.drop_eq_getElem_cons h1,List.take_append_drop],List.take_succ_eq_append_getElem h1⟩
theorem dv_ (F:Nat->Prop) (v:Value) (T:List (List Per)) (b:Nat) (w:World) (hm:MixR w F v T) (hb:w.cell? ⟨b,0,none⟩=some v) :
  n3_ 103 #[.pointer (some ⟨b,0,none⟩)] T w:=by
 refine ⟨enters_of Tryz.func103 (by kernel_rfl) rfl,fun W0 hW0=>?_⟩;obtain ⟨L,hLT,hL⟩:=hm;intro l' J W hW hJ hY hJ0;have hlt:=World.block_lt_of_cell? w _ hb;have hWw:Below w.heap.size w W:=hW0.trans (hW.mono hW0.size);have hb1:=Ext.cell hWw hb;obtain ⟨a1,c1,rfl,hx1,hx2,_⟩:=hL.row.is;have hl1:=hL.len;have HL:Hid (∀ wr,KpB (fun k=>k<w.heap.size) W wr->MixL wr (fun b=>F b∧b<w.heap.size) (.slice a1 L.length c1) L):=hq_ fun wr h=>hL.lt.keep2 fun b hb _=>(h b hb.2).trans (hWw.block b hb.2);have HLT:=hq_ hLT;have HJ:=hq_ hJ;have HY:=hq_ hY;clear hL hLT hJ hY hb;refine callsIn_of_wp Tryz.func103 rfl trivial ?_ rfl;simp only [Tryz.ntmps103,List.size_toArray,List.length_cons,List.length_nil,Nat.reduceAdd,Nat.reduceSub,Array.replicate_succ,Array.replicate_zero,List.push_toArray,List.append_toArray,List.nil_append,List.cons_append]
 gi_wp2_with fail
 gi_loopw [4,7] (fun _ i wr=>∃ (k:Nat) (pre:List (Value × List Per)),k≤L.length∧i=.int .i64 k∧Hid (pre.map Prod.snd=T.take k)∧J pre wr∧KpB (fun k=>k<w.heap.size) W wr) (fun _ i _=>L.length-(intOf i).toNat)
 case atStart=>exact ⟨0,[],oq_,rfl,hq_ rfl,hJ0,fun _ _=>rfl⟩
 case round=>
  obtain ⟨k,pre,hk,rfl,HP,hJw,hK⟩:=hrel;have HK:=hq_ hK;have HJW:=hq_ hJw;have hml:=HL.out wr hK;clear hK hJw
  by_cases hlt2:k<L.length
  ·have hlI:(k:Int)<L.length:=oq_;obtain ⟨a',c',he,_,_,h3⟩:=hml.row.is;injection he with e1 e2 e3
   subst e1;subst e3;rcases h3 with h0|⟨b8,f8,rfl,hF,hb8,hcell⟩
   ·omega
   have e0:wr.cell? ⟨b8,f8+k,none⟩=some (L.getD k default).1:=hcell k _ (by rw [List.getElem?_map,List.getD_eq_getElem?_getD,List.getElem?_eq_getElem hlt2];rfl);have hyt:=hml.all _ (aa_ (d:=default) hlt2);obtain ⟨t1,t2⟩:=mp_ HLT.out hlt2;have T2:=hq_ t2;generalize L.getD k default=y at *;have hEy:EyT T pre y wr:=⟨⟨_,by rw [HP.out];exact t1⟩,_,hyt⟩;obtain ⟨fn,tmps,assign,body,hyy,hR⟩:=HY.out pre y wr HJW.out hEy;clear hcell hyt t1 t2 hEy hml;unfold tenc at hyy
   gi_wp2
   refine ⟨rfl,hR.mono ?_⟩;rintro e W' ⟨rfl,hJ',hk'⟩
   gi_wp2
   go_roundw
   case rel=>exact ⟨k+1,pre ++ [y],oq_,by go_num,hq_ (by rw [List.map_append,HP.out,T2.out];rfl),hJ',HK.out.trans hk'⟩
   case measure=>simp [intOf];omega
  ·obtain rfl:k=L.length:=oq_;clear hml
   gi_wp2
   refine bodyPost_end (results_none rfl _ _ _) rfl ?_;refine ⟨⟨_,rfl⟩,pre,?_,HJW.out⟩;show _=T;rw [HP.out,<- HLT.out,List.take_of_length_le sq_]
end Go.Proofs.YthjnojbeimchdaaGreat
namespace Go.Proofs.YthjnojbeimchdaaGreat
open Go.RowKit Go.Maps Kal
def RowF (B:Nat) (A:Nat->Prop) (v:Value) (b:Nat):Prop:=B≤b∧¬ A b∧v.ownBlock≠some b
structure RowT (B:Nat) (A:Nat->Prop) (W:World) (v:Value) (L:List (Value × List Per)):Prop where
 row:W.ownsRow B 36 1 v L.length (L.map Prod.fst)
 all:∀ x∈L,ab_ W (RowF B A v) x.1 x.2
 ne:∀ g,v.ownBlock=some g->¬ A g
 len:L.length≤1000000
theorem RowT.nil (B:Nat) (A:Nat->Prop) (W:World):RowT B A W (.slice none 0 0) []:=⟨World.ownsRow_nil W B 36 1,sq_,by simp [Value.ownBlock],sq_⟩
theorem RowT.form {A:Nat->Prop} {L:List (Value × List Per)} (h:RowT B A W v L):∃ a c,v=.slice a L.length c∧L.length≤c∧c≤9223372036854775807∧(L.length=0∨∃ g,a=some ⟨g,0,none⟩):=by
 obtain ⟨_,⟨rfl,h2⟩|⟨g,cap,cur,rfl,_,_,h3,h4,_⟩⟩:=h.row
 ·exact ⟨none,0,by rw [h2],oq_,oq_,.inl h2⟩
 ·exact ⟨_,cap,rfl,h3,h4,.inr ⟨g,rfl⟩⟩
theorem RowT.below {A:Nat->Prop} {L:List (Value × List Per)} (h:RowT B A W v L) (hb:Below W.heap.size W W'):RowT B A W' v L:=
 ⟨h.row.kept (row:=none) (World.grownBy.of_below hb _) (by cases v.ownBlock <;> simp),fun x hx=>(h.all x hx).ext hb,h.ne,h.len⟩
theorem RowT.box {A:Nat->Prop} {L:List (Value × List Per)} (h:RowT B A W v L) (hg:W.grownBy W' (some k)) (hA:A k):RowT B A W' v L:=
 ⟨h.row.kept hg (.inr fun e=>h.ne k e hA),fun x hx=>(h.all x hx).keep (a5_.grown hg fun hf=>hf.2.1 hA) hg.size,h.ne,h.len⟩
theorem RowT.mono {A A':Nat->Prop} {L:List (Value × List Per)} (h:RowT B A W v L) (hs:∀ k,A' k->A k∨W.heap.size≤k):RowT B A' W v L:=
 ⟨h.row,fun x hx=>((h.all x hx).lt).mono fun b hb=>⟨hb.1.1,fun ha=>(hs b ha).elim hb.1.2.1 fun hl=>by have:=hb.2;omega,hb.1.2.2⟩,fun g hg ha=>(hs g ha).elim (h.ne g hg) fun hl=>by have:=(h.row.lt g hg).2;omega,h.len⟩
theorem RowT.push {A:Nat->Prop} {v':Value} {L:List (Value × List Per)} {y:Value × List Per} (h:RowT B A W v L) (hy:ab_ W (RowF B A v) y.1 y.2) (hr:W'.ownsRow B 36 1 v' (L.length+1) (L.map Prod.fst ++ [y.1])) (hg:W.grownBy W' v.ownBlock)
  (hb:v'.ownBlock=v.ownBlock∨v'.ownBlock=some W.heap.size) (hA:¬ A W.heap.size) (hl:L.length<1000000):RowT B A W' v' (L ++ [y]):=by
 have key:∀ {u:Value} {t:List Per},ab_ W (RowF B A v) u t->ab_ W' (RowF B A v') u t:=fun ht=>by
  refine (ht.lt.keep (fun b hb hl=>hg.block b hl fun e=>hb.1.2.2 e.symm) hg.size).mono fun b hb'=>⟨hb'.1.1,hb'.1.2.1,?_⟩;rcases hb with e|e
  ·rw [e];exact hb'.1.2.2
  ·rw [e];rintro ⟨⟩;have:=hb'.2;omega
 refine ⟨by rw [List.length_append,List.map_append];exact hr,fun x hx=>?_,fun g hg'=>?_,tq_⟩
 ·rcases List.mem_append.1 hx with hx|hx
  ·exact key (h.all x hx)
  ·obtain rfl:x=y:=by simpa using hx
   exact key hy
 ·rcases hb with e|e
  ·exact h.ne g (e ▸ hg')
  ·rw [e] at hg';cases hg';exact hA
theorem RowT.get {A:Nat->Prop} {L:List (Value × List Per)} {n:Nat} (h:RowT B A W v L) (hv:v=.slice (some ⟨g,0,none⟩) n c) (hk:k<L.length) :
  ab_ W (RowF B A v) (L.getD k default).1 (L.getD k default).2∧W.cell? ⟨g,k,none⟩=some (L.getD k default).1∧∀ i,W.frozen? ⟨g,i,none⟩=false:=by
 have hn:n=L.length:=by
  obtain ⟨_,_,e,_⟩:=h.form;rw [hv] at e;cases e;rfl
 subst hn;subst hv;refine ⟨h.all _ (aa_ hk),(h.row.cellAt k oq_).trans ?_,fun i=>h.row.frozenAt i⟩;rw [List.getElem?_map,List.getD_eq_getElem?_getD,List.getElem?_eq_getElem hk];rfl
theorem RowT.set {A:Nat->Prop} {L:List (Value × List Per)} {n:Nat} {y:Value × List Per} (h:RowT B A W (.slice (some ⟨g,0,none⟩) n c) L) (k:Nat) (hy:ab_ W (RowF B A (.slice (some ⟨g,0,none⟩) n c)) y.1 y.2) :
  RowT B A (W.setCell ⟨g,k,none⟩ y.1) (.slice (some ⟨g,0,none⟩) n c) (L.set k y):=by
 have hn:n=L.length:=by
  obtain ⟨_,_,e,_⟩:=h.form;cases e;rfl
 subst hn;have hg:W.grownBy (W.setCell ⟨g,k,none⟩ y.1) (some g):=World.grownBy.set' ⟨rfl,rfl,rfl,Nat.le_refl _,fun _ _ _=>rfl⟩ _;have key:∀ {u:Value} {t:List Per},ab_ W (RowF B A (.slice (some ⟨g,0,none⟩) L.length c)) u t->ab_ (W.setCell ⟨g,k,none⟩ y.1) (RowF B A (.slice (some ⟨g,0,none⟩) L.length c)) u t:=fun ht=>ht.keep (a5_.grown hg fun hf=>hf.2.2 rfl) hg.size;refine ⟨?_,fun x hx=>?_,h.ne,by rw [List.length_set];exact h.len⟩
 ·rw [List.length_set,List.map_set];exact (h.row.stored k y.1).1
 ·rcases List.mem_or_eq_of_mem_set hx with hx|rfl
  ·exact key (h.all x hx)
  ·exact key hy
theorem ab_.one {F:Nat->Prop} (h:ab_ W F v t):v.oneCell'=true:=by
 obtain ⟨L,_,hL⟩:=h;obtain ⟨a,c,rfl,_⟩:=hL.row.is;rfl
theorem ps_ (B:Nat) (A:Nat->Prop) (g n c jj:Nat) (L:List (Value × List Per)) (W:World) (h:RowT B A W (.slice (some ⟨g,0,none⟩) n c) L) (hj:jj<L.length) :
  Calls Tryz.prog 110 #[.slice (some ⟨g,0,none⟩) n c,.int .i64 jj,.int .i64 (jj+1)] W fun e w'=>e=.returned (.slice (some ⟨g,0,none⟩) (L.length-1) c)∧RowT B A w' (.slice (some ⟨g,0,none⟩) (L.length-1) c) (L.eraseIdx jj)∧W.grownBy w' (some g):=by
 have hn:n=L.length:=by
  obtain ⟨_,_,e,_⟩:=h.form;cases e;rfl
 subst hn;refine (po_ B g L.length c jj _ W h.row hj fun u hu=>?_).mono fun e w' ⟨h1,h2,h3⟩=>⟨h1,⟨?_,fun x hx=>?_,h.ne,?_⟩,h3⟩
 ·obtain ⟨x,hx,rfl⟩:=List.mem_map.1 hu;exact (h.all x hx).one
 ·have hl:(L.eraseIdx jj).length=L.length-1:=List.length_eraseIdx_of_lt hj;have hm:(L.eraseIdx jj).map Prod.fst=(L.map Prod.fst).take (jj*1) ++ (L.map Prod.fst).drop ((jj+1)*1):=by
   rw [List.eraseIdx_eq_take_drop_succ,List.map_append,List.map_take,List.map_drop,Nat.mul_one,Nat.mul_one]
  rw [hl,hm];exact h2
 ·exact (h.all x (List.mem_of_mem_eraseIdx hx)).keep (a5_.grown h3 fun hf=>hf.2.2 rfl) h3.size
 ·have:=h.len;have:=List.length_eraseIdx_of_lt hj;omega
theorem ab_.cellF {F:Nat->Prop} (h:ab_ W F v t):ab_ W (fun b=>F b∧j0_ W b) v t:=by
 obtain ⟨L,e,g⟩:=h;refine ⟨L,e,?_,g.len,fun x hx=>⟨(g.all x hx).is,(g.all x hx).fr,(g.all x hx).pe,fun e k hk=>⟨(g.all x hx).bh e k hk,(g.all x hx).is.hd.cellB e hk⟩,fun e k hk=>⟨(g.all x hx).bc e k hk,(g.all x hx).is.cy.cellB e hk⟩⟩⟩;obtain ⟨a,c,rfl,h1,h2,h3⟩:=g.row;refine ⟨a,c,rfl,h1,h2,?_⟩
 by_cases hL:L.length=0
 ·exact .inl hL
 ·rcases h3 with h3|⟨b,o,rfl,hb,hl,hc⟩
  ·exact .inl h3
  ·exact .inr ⟨b,o,rfl,⟨hb,jw_ (hc (0*4+0) _ (av_ oq_ rfl))⟩,hl,hc⟩
theorem RowT.grow {A:Nat->Prop} {L:List (Value × List Per)} (h:RowT B A W v L) (hg:W.grownBy W' row) (hr:∀ r,row=some r->∃ o:Obj,W.heap[r]? = some o∧o.isCells=false):RowT B A W' v L:=by
 refine ⟨h.row.kept hg ?_,fun x hx=>((h.all x hx).cellF.keep (fun b hb hl=>hg.block b hl ?_) hg.size).mono fun b hb=>hb.1,h.ne,h.len⟩
 ·rcases hob:v.ownBlock with _|g
  ·exact .inl rfl
  ·refine .inr fun e=>?_;obtain ⟨o,h1,h2⟩:=hr g e.symm;obtain ⟨_,⟨rfl,_⟩|⟨g',cap,cur,rfl,_,hh,_⟩⟩:=h.row
   ·simp [Value.ownBlock] at hob
   ·simp [Value.ownBlock] at hob;subst hob;rw [hh] at h1;cases h1;cases h2
 ·rintro e;obtain ⟨o,h1,h2⟩:=hr b e.symm;obtain ⟨o',h3,h4⟩:=hb.2;rw [h1] at h3;cases h3;rw [h2] at h4;cases h4
theorem RowT.mix {A:Nat->Prop} {L:List (Value × List Per)} (h:RowT B A W v L):MixL W (fun b=>B≤b) v L:=by
 refine ⟨?_,by have:=h.len;omega,fun x hx=>(h.all x hx).mono fun b hb=>hb.1⟩;obtain ⟨hl,⟨rfl,h2⟩|⟨g,cap,cur,rfl,hb,hg,h3,h4,h5,h6⟩⟩:=h.row
 ·rw [h2];exact ⟨none,0,rfl,oq_,oq_,.inl rfl⟩
 ·refine ⟨_,cap,rfl,h3,h4,.inr ⟨g,0,rfl,hb,(h.row.lt g rfl).2,fun i u hi=>?_⟩⟩;rw [Nat.zero_add];have:=(List.getElem?_eq_some_iff.1 hi).1;rw [List.length_map] at this;exact (h.row.cellAt i oq_).trans hi
theorem RowT.shut {C:Nat} {A:Nat->Prop} {L:List (Value × List Per)} (h:RowT B A W v L) (hs:qn_ C W W'):RowT B A W' v L:=by
 refine ⟨⟨h.row.1,?_⟩,fun x hx=>((h.all x hx).cellF.keep2 fun b hb _=>?_).mono fun b hb=>hb.1,h.ne,h.len⟩
 ·rcases h.row.2 with h2|⟨g,cap,cur,e,hb,hg,rest⟩
  ·exact .inl h2
  ·exact .inr ⟨g,cap,cur,e,hb,hs.cells _ _ hg rfl,rest⟩
 ·obtain ⟨o,h1,h2⟩:=hb.2;exact (hs.cells _ _ h1 h2).trans h1.symm
theorem p7_ (F G:Nat->Prop) (v tv:Value) (t u:List Per) (tb:Nat) (w:World) (hv:ab_ w F v t) (ht:ab_ w G tv u) (hc:w.cell? ⟨tb,0,none⟩=some tv) :
  Calls Tryz.prog 111 #[v,.pointer (some ⟨tb,0,none⟩)] w fun e w'=>e=.returned (.bool (cm_ t u))∧Below w.heap.size w w':=by
 have H:=mv_ F G v tv t u w hv ht;have hlt:=World.block_lt_of_cell? w _ hc;obtain ⟨a1,c1,rfl,_⟩:=hv.form;obtain ⟨a2,c2,rfl,_⟩:=ht.form;clear hv ht;generalize cm_ t u=b at H ⊢
 go_enter Tryz.func111,Tryz.ntmps111
 go_wp2_with (go_at_call 112;refine H.mono ?_;rintro e w1 ⟨rfl,hb1⟩)
 go_ret;exact ⟨rfl,xE⟩
theorem mt_ (F G:Nat->Prop) (ov:Value) (LO:List (Value × List Per)) (tv:Value) (u:List Per) (tb:Nat) (w:World) (hL:MixL w F ov LO) (ht:ab_ w G tv u) (hc:w.cell? ⟨tb,0,none⟩=some tv) :
  Calls Tryz.prog 57 #[ov,.func (.func 111) #[] #[.pointer (some ⟨tb,0,none⟩)]] w fun e w'=>∃ b,e=.returned (.bool b)∧(b=true↔u∈LO.map Prod.snd)∧Below w.heap.size w w':=by
 have h:=fo_ F ov LO (fun x=>cm_ x.2 u) 111 #[.pointer (some ⟨tb,0,none⟩)] (enters_of Tryz.func111 (by kernel_rfl) rfl) w hL.row hL.len (fun W x hW hx=>by
  have h:=p7_ F G x.1 tv x.2 u tb W ((hL.all x hx).ext hW) (ht.ext hW) (Ext.cell hW hc);have e:(#[x.1] ++ #[Value.pointer (some ⟨tb,0,none⟩)])=#[x.1,.pointer (some ⟨tb,0,none⟩)]:=by simp
  rw [e];exact h.mono fun e w' ⟨h1,h2⟩=>⟨h1,hW.trans (h2.mono hW.size)⟩)
 refine h.mono fun e w' ⟨h1,h2⟩=>⟨_,h1,?_,h2⟩;rw [List.any_eq_true,List.mem_map];constructor
 ·rintro ⟨x,hx,hs⟩;refine ⟨x,hx,?_⟩
  by_cases he:x.2=u
  ·exact he
  ·rw [cy_ he] at hs;cases hs
 ·rintro ⟨x,hx,he⟩;exact ⟨x,hx,eq_ he⟩
end Go.Proofs.YthjnojbeimchdaaGreat
namespace Go.Proofs.YthjnojbeimchdaaGreat
open Go.RowKit Go.Shelf Go.Maps Kal
attribute [local go_sem] Oper.semAt_some
structure aw_ (s:Int) (t:List Per):Prop where
 ne:t≠[]
 fv:∀ p∈t,FV s p
 len:t.length≤1000000
theorem aw_.f (h:aw_ s t):vn_ s t:=⟨h.ne,fun p hp=>(h.fv p hp).fac⟩
theorem aw_.merged (h:aw_ s t) (hm:b8_ t u) (hv:∀ p∈u,FV s p):aw_ s u:=by
 obtain ⟨h1,_,h3⟩:=hm.ok h.f;exact ⟨h1.1,hv,Nat.le_trans h3 h.len⟩
structure NI (B:Nat) (w:World) (s:Int) (lv:Value) (L:List (Value × List Per)) (W:World):Prop where
 below:Below B w W
 row:RowT B (fun k=>k=B∨k=B+1) W lv L
 rbx:Bxx W B #[.slice none 0 0] 28
 lbx:Bxx W (B+1) #[lv] 26
 vt:∀ x∈L,aw_ s x.2
theorem NI.grow {L:List (Value × List Per)} (h:NI B w s lv L W) (hB:B≤w.heap.size) (hg:W.grownBy W' row) (hr:∀ r,row=some r->B≤r∧∃ o:Obj,W.heap[r]? = some o∧o.isCells=false):NI B w s lv L W':=by
 have key:∀ {b:Nat} {c:Array Value} {t:TypeId},Bxx W b c t->Bxx W' b c t:=fun {b c t} hx=>by
  refine (hg.block b hx.lt fun e=>?_).trans hx;obtain ⟨_,o,ho,hc⟩:=hr b e.symm;rw [show W.heap[b]? = _ from hx] at ho;cases ho;cases hc
 exact ⟨h.below.grown hg (Nat.le_trans hB h.below.size) (fun k e=>(hr k e).1),h.row.grow hg (fun r e=>(hr r e).2),key h.rbx,key h.lbx,h.vt⟩
theorem NI.ext {L:List (Value × List Per)} (h:NI B w s lv L W) (hB:B≤w.heap.size) (hb:Below W.heap.size W W'):NI B w s lv L W':=
 ⟨h.below.trans (hb.mono (Nat.le_trans hB h.below.size)),h.row.below hb,h.rbx.below hb,h.lbx.below hb,h.vt⟩
def lenW (B:Nat) (W:World):Nat:=match W.cell? ⟨B+1,0,none⟩ with|some (.slice _ n _)=>n|_=>0
theorem NI.lenW {L:List (Value × List Per)} (h:NI B w s lv L W):lenW B W=L.length:=by
 obtain ⟨a,c,rfl,_⟩:=h.row.form;have h1:=(h.lbx.cells 0).1;unfold Go.Proofs.YthjnojbeimchdaaGreat.lenW;rw [h1];rfl
theorem ab_.single {F:Nat->Prop} (h:ab_ W F v t) (h1:t.length=1):∃ b o c a1 n1 c1 a2 n2 c2,v=.slice (some ⟨b,o,none⟩) 1 c∧PVok W F ⟨.slice a1 n1 c1,.slice a2 n2 c2,t.getD 0 default⟩∧
  W.cell? ⟨b,o,none⟩=some (.slice a1 n1 c1)∧W.cell? ⟨b,o+1,none⟩=some (.int .i64 (t.getD 0 default).frm)∧W.cell? ⟨b,o+2,none⟩=some (.int .i64 (t.getD 0 default).period)∧W.cell? ⟨b,o+3,none⟩=some (.slice a2 n2 c2):=by
 obtain ⟨L,rfl,hL⟩:=h;obtain ⟨a,c,rfl,_⟩:=hL.row.is;have hl:L.length=1:=by simpa using h1
 obtain ⟨b,o,x,rfl,hx,hxp,_,e0,e1,e2,e3⟩:=hL.get (show 0<L.length by omega);obtain ⟨xh,xc,xp⟩:=x;obtain ⟨a1,n1,c1,a2,n2,c2,rfl,rfl⟩:=hx.form;dsimp only at e0 e1 e2 e3 hxp;subst hxp;rw [hl];simp only [Nat.zero_mul,Nat.add_zero] at e0 e1 e2 e3;exact ⟨b,o,c,a1,n1,c1,a2,n2,c2,rfl,hx,e0,e1,e2,e3⟩
theorem og_ {n:Nat} {a1 a2:Option Addr} {n1 c1 n2 c2:Nat} (h:PVok W (fun b=>n≤b∧b≠n) ⟨.slice a1 n1 c1,.slice a2 n2 c2,q⟩) (hn:n≤W.heap.size) :
  ab_ (W.alloc (.cells #[.slice a1 n1 c1,.int .i64 q.frm,.int .i64 q.period,.slice a2 n2 c2] 39)) (fun b=>n≤b∧(b≠n∨b=W.heap.size)) (.slice (some ⟨W.heap.size,0,none⟩) 1 1) [q]:=by
 have hb:=Bxx.new W #[.slice a1 n1 c1,.int .i64 q.frm,.int .i64 q.period,.slice a2 n2 c2] 39;refine ⟨[⟨.slice a1 n1 c1,.slice a2 n2 c2,q⟩],rfl,⟨_,1,rfl,sq_,oq_,.inr ⟨W.heap.size,0,rfl,⟨hn,.inr rfl⟩,hb.lt,fun i u hi=>?_⟩⟩,sq_,fun x hx=>?_⟩
 ·rw [Nat.zero_add];refine (hb.cells i).1.trans ?_;rw [<- hi]
  match i with
  | 0=>rfl
  | 1=>rfl
  | 2=>rfl
  | 3=>rfl
  | k+4=>rfl
 ·obtain rfl:x=⟨.slice a1 n1 c1,.slice a2 n2 c2,q⟩:=by simpa using hx
  exact (h.keep (a5_.below (Ea (Er W) _))).mono fun b hb=>⟨hb.1,.inl hb.2⟩
theorem RowT.boxO {A:Nat->Prop} {L:List (Value × List Per)} (h:RowT B A W v L) (hg:W.grownBy W' row) (hA:∀ k,row=some k->A k):RowT B A W' v L:=by
 rcases row with _|k
 ·exact ⟨h.row.kept hg (by cases v.ownBlock <;> simp),fun x hx=>(h.all x hx).keep (fun b _ hl=>hg.block b hl sq_) hg.size,h.ne,h.len⟩
 ·exact h.box hg (hA k rfl)
def c8_ (s:Int) (T:List (List Per)) (w:World) (e:Ending) (w':World):Prop:=
 ∃ (v:Value) (m:List (List Per)),bf_ T m∧(∀ t∈m,aw_ s t)∧Below w.heap.size w w'∧
  ((bj_ m=true∧e=.returned (.tuple #[.agg #[v],.int .i64 0])∧MixR w' (fun b=>w.heap.size≤b) v m)∨(bj_ m=false∧e=.returned (.tuple #[.agg #[.slice none 0 0],.int .i64 2])))
structure NO (B n D k:Nat) (w:World) (lv ov:Value) (M LO:List (Value × List Per)) (W:World):Prop where
 below:Below B w W
 lrow:RowT B (fun k=>k=B∨k=B+1∨n≤k) W lv M
 orow:RowT B (fun k=>k=B∨k=B+1∨k=n) W ov LO
 own:∀ g,ov.ownBlock=some g->n≤g
 obx:Bxx W n #[ov] 28
 rbx:Bxx W B #[.slice none 0 0] 28
 dfr:W.heap[D]? = some (.deferred (some []))
 eq:LO.map Prod.snd=ddL [] ((M.map Prod.snd).take k)
 len:LO.length≤k
theorem NO.ext {n D:Nat} {ov:Value} {M LO:List (Value × List Per)} (h:NO B n D k w lv ov M LO W) (hB:B≤w.heap.size) (hb:Below W.heap.size W W'):NO B n D k w lv ov M LO W':=
 ⟨h.below.trans (hb.mono (Nat.le_trans hB h.below.size)),h.lrow.below hb,h.orow.below hb,h.own,h.obx.below hb,h.rbx.below hb,(hb.block D (Array.getElem?_eq_some_iff.1 h.dfr).1).trans h.dfr,h.eq,h.len⟩
theorem Bxx.c0 {b:Nat} {t:TypeId} (h:Bxx w b #[v] t):w.cell? ⟨b,0,none⟩=some v:=(h.cells 0).1
theorem EyT.put (pre:List (Value × List Per)) (y:Value × List Per) (W:World) (l:Nat) (o o':Obj) (hl:W.heap[l]? = some o) (ho:o.isCells=false) (h:EyT T pre y W):EyT T pre y (W.putObj l o'):=
 ⟨h.1,_,(h.2.choose_spec).put hl ho⟩
theorem mn_ {F:Fence} {nF:Nat} {a:Act} {Q:Exit->Act->World->Prop} (hgd:o.guard=none) (sx x:Operand)
  (ho:o.op=.call { callee:=.builtin .append,args:=#[sx,x],argTypes:=#[26,26] }) (B:Nat) (A:Nat->Prop) (v:Value) (L:List (Value × List Per)) (y:Value × List Per) (hs:a.eval sx=v) (h:RowT B A w v L)
  (hy:ab_ w (RowF B A v) y.1 y.2) (blk c:Nat) (hx:a.eval x=.slice (some ⟨blk,0,none⟩) 1 c) (hnew:w.cell? ⟨blk,0,none⟩=some y.1) (hA:¬ A w.heap.size) (hl:L.length<1000000) (hB:B≤w.heap.size)
  (k:∀ (a':Option Addr) (c':Nat) (w':World),RowT B A w' (.slice a' (L.length+1) c') (L ++ [y])->w.grownBy w' v.ownBlock->Below B w w'->((Value.slice a' (L.length+1) c').ownBlock=v.ownBlock∨(Value.slice a' (L.length+1) c').ownBlock=some w.heap.size)->wpListIn F nF Tryz.prog ops Q rest (a.put o.dst (.slice a' (L.length+1) c')) w') :
  wpListIn F nF Tryz.prog ops Q (o :: rest) a w:=by
 obtain ⟨i,hi,h1,h2,h3⟩:=gi_;refine wpListIn_append_own_at w hgd sx x 26 ho B 36 i (.slice none 0 0) 1 24 rfl hi h1 h2 h3 rfl oq_ v L.length (L.map Prod.fst) hs h.row ⟨blk,0,none⟩ 1 c [y.1] hx rfl ?_ (by simp;exact hy.one) (by unfold maxLen;omega) oq_ hB ?_
 ·intro j u hu
  match j,hu with
  | 0,hu=>simp at hu;subst hu;exact hnew
 ·intro v' w' hown' hgrow _ hb;have hp:=h.push hy hown' hgrow hb hA hl;obtain ⟨a',c',rfl,_⟩:=hp.form;have e:(L ++ [y]).length=L.length+1:=by simp
  rw [e] at hp hb ⊢;exact k a' c' w' hp hgrow ((Below.refl B w).grown hgrow hB fun k e=>(h.row.lt k e).1) hb
theorem de_ {a:Act} {Q:Exit->Act->World->Prop} (hgd:o.guard=none) (sx x:Operand)
  (ho:o.op=.call { callee:=.builtin .append,args:=#[sx,x],argTypes:=#[26,26] }) (B:Nat) (A:Nat->Prop) (v:Value) (L:List (Value × List Per)) (y:Value × List Per) (hs:a.eval sx=v) (h:RowT B A w v L)
  (hy:ab_ w (RowF B A v) y.1 y.2) (blk c:Nat) (hx:a.eval x=.slice (some ⟨blk,0,none⟩) 1 c) (hnew:w.cell? ⟨blk,0,none⟩=some y.1) (hA:¬ A w.heap.size) (hl:L.length<1000000) (hB:B≤w.heap.size)
  (k:∀ (a':Option Addr) (c':Nat) (w':World),RowT B A w' (.slice a' (L.length+1) c') (L ++ [y])->w.grownBy w' v.ownBlock->Below B w w'->((Value.slice a' (L.length+1) c').ownBlock=v.ownBlock∨(Value.slice a' (L.length+1) c').ownBlock=some w.heap.size)->wpList Tryz.prog ops Q rest (a.put o.dst (.slice a' (L.length+1) c')) w') :
  wpList Tryz.prog ops Q (o :: rest) a w:=by
 obtain ⟨i,hi,h1,h2,h3⟩:=gi_;refine wpList_append_own_at w hgd sx x 26 ho B 36 i (.slice none 0 0) 1 24 rfl hi h1 h2 h3 rfl oq_ v L.length (L.map Prod.fst) hs h.row ⟨blk,0,none⟩ 1 c [y.1] hx rfl ?_ (by simp;exact hy.one) (by unfold maxLen;omega) oq_ hB ?_
 ·intro j u hu
  match j,hu with
  | 0,hu=>simp at hu;subst hu;exact hnew
 ·intro v' w' hown' hgrow _ hb;have hp:=h.push hy hown' hgrow hb hA hl;obtain ⟨a',c',rfl,_⟩:=hp.form;have e:(L ++ [y]).length=L.length+1:=by simp
  rw [e] at hp hb ⊢;exact k a' c' w' hp hgrow ((Below.refl B w).grown hgrow hB fun k e=>(h.row.lt k e).1) hb
theorem ab_.fresh {n:Nat} {u:Value} (h:ab_ W (fun b=>n≤b) u t) (h1:B+2≤n) (hv:∀ g,v.ownBlock=some g->g<n):ab_ W (RowF B (fun k=>k=B∨k=B+1) v) u t:=
 h.mono fun b (hb:n≤b)=>⟨oq_,(by rintro (h|h) <;> omega),fun e=>by have:=hv b e;omega⟩
theorem RowT.row_cells {A:Nat->Prop} {L:List (Value × List Per)} (h:RowT B A W v L):∀ r,v.ownBlock=some r->∃ o:Obj,W.heap[r]? = some o∧o.isCells=true:=by
 intro r hr;obtain ⟨_,⟨rfl,_⟩|⟨g,cap,cur,rfl,_,hh,_⟩⟩:=h.row
 ·cases hr
 ·obtain rfl:g=r:=by simpa [Value.ownBlock] using hr
  exact ⟨_,hh,rfl⟩
theorem KeepsOthers.of_below {C:World} (h:Below A.heap.size A C):KeepsOthers A C:=⟨h.size,fun k o hk _=>(h.block k (Array.getElem?_eq_some_iff.1 hk).1).trans hk⟩
theorem ek_ (s:Int) (g:Nat) (lb:Array Value) (T:List (List Per)) (w:World) (hit:n3_ g lb T w) (hT:∀ t∈T,aw_ s t) (hTl:T.length≤100000) :
  Calls Tryz.prog 68 #[.func (.func g) #[] lb] w (c8_ s T w):=by
 refine callsIn_wide (n:=0).1 ?_;refine callsIn_of_wp_marks Tryz.func68 rfl trivial ?_ rfl;simp only [Tryz.ntmps68,List.size_toArray,List.length_cons,List.length_nil,Nat.reduceAdd,Nat.reduceSub,Array.replicate_succ,Array.replicate_zero,List.push_toArray,List.append_toArray,List.nil_append,List.cons_append]
 gi_wp2_with fail
 generalize hW0:(w.alloc _).alloc _=W0;have hE:Below w.heap.size w W0:=by rw [<- hW0];exact xE
 have hsz:W0.heap.size=w.heap.size+2:=by rw [<- hW0];simp
 have hrb:Bxx W0 w.heap.size #[.slice none 0 0] 28:=by rw [<- hW0];exact (Bxx.at rfl).alloc _
 have hlb:Bxx W0 (w.heap.size+1) #[.slice none 0 0] 26:=by rw [<- hW0];exact Bxx.at sq_
 have HIT:=hq_ hit;have HST:Hid (NI w.heap.size w s (.slice none 0 0) [] W0):=hq_ ⟨hE,RowT.nil _ _ _,hrb,hlb,sq_⟩;have HT:=hq_ hT;clear hW0 hrb hlb hit hT;refine jh_ (α:=Value × List Per) (x:=none) (gf:=g) (lb:=lb) rfl HIT.out.1 (HIT.out.2 W0 hE) (fun h k=>h.trans k) (KpB.putObj (by intro k hk;omega)) (fun y=>rfl)
  (fun pre W'=>∃ lv L,b0_ (pre.map Prod.snd) (L.map Prod.snd)∧NI w.heap.size w s lv L W'∧L.length≤pre.length∧∃ r,T=pre.map Prod.snd ++ r)
  (by
   rintro pre A C row ⟨lv,L,h1,h2,h3,h4⟩ hg hr;refine ⟨lv,L,h1,h2.grow (Nat.le_refl _) hg fun r e=>?_,h3,h4⟩;rcases hr r e with ⟨h,_⟩|⟨h,h'⟩
   ·cases h
   ·exact ⟨oq_,h'⟩)
  EyT.put (by exact ⟨_,[],b0_.nil,HST.out,sq_,T,sq_⟩)
  (fun y=>⟨#[.func (Fn.func g) #[] lb,undef,.pointer (some ⟨w.heap.size,0,none⟩),.int .i64 0,.pointer (some ⟨w.heap.size+1,0,none⟩),y.1,undef,undef,undef,undef,undef,undef,undef,undef,.func (Fn.func g) #[] lb,y.1,undef,undef,undef,undef,undef,undef,undef,undef,undef,undef,undef,undef,undef,undef,undef,undef,undef,undef,undef,undef,undef,undef,undef,undef,undef,undef,undef,undef,undef,undef,undef,undef,undef,undef,undef,undef,undef,undef,undef,undef,undef,undef,undef,undef,undef,undef,undef,undef,undef,undef,undef,undef,undef,undef,undef,undef,undef,undef,undef,undef,undef,undef,undef,undef,undef,undef,undef,undef,undef,undef,undef,undef,undef,undef,undef,undef,undef,undef,undef,undef,undef,undef,undef,undef,undef,undef,undef,undef,undef,undef,undef,undef,undef,undef,undef,undef,undef,undef,undef,undef,undef,undef,undef,undef,undef],[]⟩) ?assign ?body ?done
 case assign=>
  intro l y W' K hK;unfold tenc
  gi_wp2
  exact hK
 case body=>
  rintro l pre y W' ⟨lv,L,hMA,hNI,hLl,-⟩ ⟨⟨r,hTr⟩,F,hyt⟩;obtain ⟨yv,yt⟩:=y;dsimp only at hTr hyt;have hvt:=HT.out yt (by rw [hTr];simp);have hpl:pre.length≤100000:=by
   have:=congrArg List.length hTr;rw [List.length_append,List.length_map,List.length_cons] at this;omega
  obtain ⟨ya,yc,rfl,_⟩:=hyt.form;obtain ⟨la,lc,rfl,_⟩:=hNI.row.form;have hwz:=hNI.lbx.lt;have hown:=hNI.row.row.lt;have HM:=qm_ F s _ yt W' hyt hvt.fv hvt.len;have HVT:=hq_ hvt;have HNI:=hq_ hNI;have HMA:=hq_ hMA;have HTR:=hq_ hTr;clear hNI hMA hTr hyt hvt
  gi_wp2_with (first
   | (refine ⟨trivial,rfl,?_⟩;gi_at_call 108;refine (CallsIn.inRound l (callsIn_wide.2 HM)).mono ?_;rintro e w1 ⟨v',u,rfl,hmt,hfv,htr,hb1⟩;obtain ⟨va,vc,rfl,_⟩:=htr.form;have HMT:=hq_ hmt;have HFV:=hq_ hfv;have HTR1:=hq_ htr;have HROW:=(fun W (hW:Below w1.heap.size w1 W)=>(htr.ext hW).fresh (B:=w.heap.size) (v:=.slice la L.length lc) oq_ (fun g hg=>(hown g hg).2));have HB1:=hq_ hb1;clear hmt hfv htr hb1)
   | (refine ⟨trivial,rfl,?_⟩;gi_at_call 75;refine (CallsIn.inRound l (callsIn_wide.2 (kz_ _ _ u _ (HTR1.out.ext (by exact Below.refl _ _)) (fun p hp=>(HFV.out p hp).validB)))).mono ?_;rintro e w2 ⟨b,rfl,hbar,hb2⟩;have HBAR:=hq_ hbar;have HB2:=hq_ hb2;clear hbar hb2;have hbx:=HNI.out.lbx.below (Et HB1.out HB2.out);have q2:=(hbx.cells 0).1;have q3:=(hbx.cells 0).2;clear hbx;cases b)
   | (gi_at_builtin;refine mn_ rq_ _ _ rq_ w.heap.size (fun k=>k=w.heap.size∨k=w.heap.size+1) (.slice la L.length lc) L (.slice va u.length vc,u) rq_ (HNI.out.row.below (Ea (Et HB1.out HB2.out) _)) (HROW _ (Ea HB2.out _)) _ _ rq_ sq_ (by have:=HB1.out.size;have:=HB2.out.size;simp;omega) oq_ (by have:=HB1.out.size;have:=HB2.out.size;simp;omega) ?_;intro ga gc w3 hr3 hg3 hb3 _;have hbx3:=((HNI.out.lbx.below (Et HB1.out HB2.out)).alloc (.cells #[.slice va u.length vc] 36)).grown hg3 (by rintro e;exact HNI.out.row.ne _ e.symm (.inr rfl));have q4:=(hbx3.cells 0).1;have q5:=(hbx3.cells 0).2;have HBX3:=hq_ hbx3;have HR3:=hq_ hr3;have HG3:=hq_ hg3;have HB3:=hq_ hb3;clear hbx3 hr3 hg3 hb3))
  ·have h12:=Et HB1.out HB2.out;have hal:Below w.heap.size W' (w2.alloc (.cells #[.slice va u.length vc] 36)):=(Ea h12 _).mono oq_;refine ⟨((KeepsOthers.grown_cells (KeepsOthers.of_below (Ea h12 _)) HG3.out (HNI.out.row.below (Ea h12 _)).row_cells).trans (KeepsOthers.setCell w3 _ _)).from _,fun k hk=>?_,.slice ga (L.length+1) gc,L ++ [(.slice va u.length vc,u)],?_,⟨?_,?_,?_,?_,?_⟩,?_,?_⟩
   ·exact (((hal.trans HB3.out).setCell (p:=⟨w.heap.size+1,0,none⟩) (Nat.le_succ _) _).block k hk)
   ·rw [List.map_append,List.map_append];exact HMA.out.keep1 HMT.out (by have:=HBAR.out;simpa using this)
   ·exact (HNI.out.below.trans (hal.trans HB3.out)).setCell (p:=⟨w.heap.size+1,0,none⟩) (Nat.le_succ _) _
   ·exact HR3.out.box (World.grownBy.set' ⟨rfl,rfl,rfl,Nat.le_refl _,fun _ _ _=>rfl⟩ _) (.inr rfl)
   ·exact Bxx.setNe (((HNI.out.rbx.below h12).alloc _).grown HG3.out (fun e=>HNI.out.row.ne _ e.symm (.inl rfl))) _ oq_
   ·exact a4_ 0 _ HBX3.out
   ·intro x hx;rcases List.mem_append.1 hx with hx|hx
    ·exact HNI.out.vt x hx
    ·obtain rfl:x=(.slice va u.length vc,u):=by simpa using hx
     exact HVT.out.merged HMT.out HFV.out
   ·simp;omega
   ·exact ⟨r,by rw [List.map_append,List.append_assoc];exact HTR.out⟩
  ·have h12:=Et HB1.out HB2.out;refine ⟨(KeepsOthers.of_below h12).from _,fun k hk=>h12.block k oq_,_,L,?_,HNI.out.ext (Nat.le_refl _) h12,?_,?_⟩
   ·rw [List.map_append];exact HMA.out.skip1 HMT.out (by have:=HBAR.out;simpa using this)
   ·simp;omega
   ·exact ⟨r,by rw [List.map_append,List.append_assoc];exact HTR.out⟩
 case done=>
  rintro D xs W' hD hfin ⟨lv,L,hMA,hNI,hLl,-⟩ hdef;have hxl:xs.length=T.length:=by rw [<- show xs.map Prod.snd=T from hfin,List.length_map]
  have hLL:L.length≤100000:=oq_;rw [show xs.map Prod.snd=T from hfin] at hMA;have HMA:=hq_ hMA;have HNI:=hq_ hNI;have HDEF:=hq_ hdef;clear hfin hMA hNI hdef hxl hLl
  gi_wp2_with fail
  refine wpIn_wide.2 ?_
  go_loopw [6,7,8,9,10,28] (fun s6 _ _ _ _ _ wr=>∃ (b:Bool) (lv:Value) (M:List (Value × List Per)),s6=.bool b∧M.length≤100000∧Hid (∀ m,ck_ (M.map Prod.snd) m->ck_ (L.map Prod.snd) m)∧Hid (b=false->cj_ (az_ (M.map Prod.snd)) M.length)∧Hid (NI w.heap.size w s lv M wr)∧Hid (wr.heap[D]? = some (.deferred (some []))))
   (fun s6 _ _ _ _ _ wr=>2*lenW w.heap.size wr+(match s6 with|.bool true=>1|_=>0))
  case atStart=>exact ⟨true,lv,L,rfl,hLL,hq_ (fun _ h=>h),hq_ (fun h=>absurd h dq_),HNI,HDEF⟩
  case round=>
   obtain ⟨b,lv,M,rfl,hMl,HJ,HNP,HN,HD⟩:=hrel;have hlw:=HN.out.lenW;obtain ⟨la,lc,rfl,_,_,hfm⟩:=HN.out.row.form;have q2:=(HN.out.lbx.cells 0).1;cases b with
   | true=>
    have HLW:=hq_ hlw;clear hlw;go_wp2_with fail
    go_step3
    go_wp2_with fail
    go_step3
    go_wp2_with fail
    go_loopw [6,7,8,9,10,28] (fun s6 _ _ _ _ idx wr=>∃ ii:Nat,ii≤M.length∧s6=.bool false∧idx=.int .i64 ii∧Hid (∀ i' j',i'<ii->i'<j'->j'<M.length->¬ az_ (M.map Prod.snd) i' j')∧Hid (NI w.heap.size w s (.slice la M.length lc) M wr)∧Hid (wr.heap[D]? = some (.deferred (some [])))) (fun _ _ _ _ _ idx _=>M.length-(intOf idx).toNat)
    case atStart=>exact ⟨0,oq_,rfl,rfl,hq_ (fun _ _ h=>absurd h oq_),HN,HD⟩
    case round=>
     obtain ⟨ii,hii,rfl,rfl,HN2,HI2,HD2⟩:=hrel;have q2:=(HI2.out.lbx.cells 0).1
     by_cases hlt:ii<M.length
     ·have hiI:(ii:Int)<M.length:=oq_;rcases hfm with h0|⟨g1,rfl⟩
      ·omega
      go_wp2_with fail
      go_loopw [6,8,9,10] (fun s6 jv _ _ wr=>∃ jj:Nat,ii<jj∧jj≤M.length∧s6=.bool false∧jv=.int .i64 jj∧Hid (∀ j',ii<j'->j'<jj->¬ az_ (M.map Prod.snd) ii j')∧Hid (NI w.heap.size w s (.slice (some ⟨g1,0,none⟩) M.length lc) M wr)∧Hid (wr.heap[D]? = some (.deferred (some [])))) (fun _ jv _ _ _=>M.length-(intOf jv).toNat)
      case atStart=>exact ⟨ii+1,oq_,oq_,rfl,by go_num,hq_ (fun _ h1 h2=>absurd h2 oq_),HI2,HD2⟩
      case round=>
       obtain ⟨jj,hij,hjj,rfl,rfl,HN3,HI3,HD3⟩:=hrel;have q2:=(HI3.out.lbx.cells 0).1;obtain ⟨htx,q3,-⟩:=HI3.out.row.get rfl hlt;have hdx:(M.map Prod.snd).getD ii []=(M.getD ii default).2:=by simp [List.getD_eq_getElem?_getD,hlt]
       have HMX:Hid (M.getD ii default∈M):=hq_ (aa_ hlt);generalize M.getD ii default=X at *;obtain ⟨xv,xt⟩:=X;dsimp only at q3 hdx htx;have HDX:=hq_ hdx
       by_cases hjl:jj<M.length
       ·have hjI:(jj:Int)<M.length:=oq_
        by_cases hx1:xt.length=1
        ·obtain ⟨bx,ox,cx,ax1,nx1,cx1,ax2,nx2,cx2,rfl,hpx,x0,x1,x2,x3⟩:=htx.single hx1;obtain ⟨hty,q4,-⟩:=HI3.out.row.get rfl hjl;have hdy:(M.map Prod.snd).getD jj []=(M.getD jj default).2:=by simp [List.getD_eq_getElem?_getD,hjl]
         have HMY:Hid (M.getD jj default∈M):=hq_ (aa_ hjl);generalize M.getD jj default=Y at *;obtain ⟨yv,yt⟩:=Y;dsimp only at q4 hdy hty;have HDY:=hq_ hdy;have HX1:=hq_ hx1
         by_cases hy1:yt.length=1
         ·obtain ⟨by',oy,cy,ay1,ny1,cy1,ay2,ny2,cy2,rfl,hpy,y0,y1,y2,y3⟩:=hty.single hy1;have HY1:=hq_ hy1;have hfx:=(HI3.out.vt _ HMX.out).fv _ (aa_ (d:=default) (show 0<xt.length by omega));have hfy:=(HI3.out.vt _ HMY.out).fv _ (aa_ (d:=default) (show 0<yt.length by omega));have HJN:Hid (az_ (M.map Prod.snd) ii jj↔divB (xt.getD 0 default) (yt.getD 0 default)=true):=hq_ (by unfold az_;rw [hdx,hdy];exact ⟨fun h=>h.2.2,fun h=>⟨hx1,hy1,h⟩⟩);have HJA:Hid (ct_ (M.map Prod.snd) ii jj=((M.map Prod.snd).set ii [orP (xt.getD 0 default) (yt.getD 0 default)]).eraseIdx jj):=hq_ (by unfold ct_;rw [hdx,hdy]);generalize xt.getD 0 default=xp at *;generalize yt.getD 0 default=yp at *;have HDIV:=fun W=>je_ ⟨.slice ax1 nx1 cx1,.slice ax2 nx2 cx2,xp⟩ ⟨.slice ay1 ny1 cy1,.slice ay2 ny2 cy2,yp⟩ W hfx.valid.wf.per hfx.valid.per hfy.valid.wf.per hfy.valid.per;change ∀ W,Calls _ _ #[perV _ _ xp.frm xp.period,perV _ _ yp.frm yp.period] W fun e w'=>e=.returned (.bool (divB xp yp))∧_ at HDIV;have HFX:=hq_ hfx;have HFY:=hq_ hfy;have HPX:=hq_ hpx;have HPY:=hq_ hpy;generalize divB xp yp=dd at *;clear htx hty hdx hdy hx1 hy1 hfx hfy hpx hpy;go_wp2_with fail
          refine ai_ (w0:=wr) [0,1,2,3,4,5,6,7,8,9,10,11,12,13,14,15,16,17,18,19,20] [21] (fun v=>⟨#[.func (Fn.func g) #[] lb,undef,.pointer (some ⟨w.heap.size,0,none⟩),.int .i64 0,.pointer (some ⟨w.heap.size+1,0,none⟩),undef,.bool false,.int .i64 ↑ii,.int .i64 ↑jj,u9,u10,undef,undef,undef,.func (Fn.func g) #[] lb,undef,undef,undef,undef,undef,undef,undef,undef,undef,undef,.bool true,.slice (some ⟨g1,0,none⟩) M.length lc,.int .i64 ↑M.length,.int .i64 ↑ii,.bool true,.int .i64 ↑ii,.int .i64 ↑ii,.int .i64 (↑ii+1),.int .i64 ↑jj,.slice (some ⟨g1,0,none⟩) M.length lc,.int .i64 ↑M.length,.bool true,.bool true,.slice (some ⟨g1,0,none⟩) M.length lc,.int .i64 ↑ii,.pointer (some ⟨g1,ii,none⟩),.slice (some ⟨bx,ox,none⟩) 1 cx,.int .i64 1,.bool true,.bool true,u45,u46,v 0,v 1,v 2,v 3,v 4,v 5,v 6,v 7,v 8,v 9,v 10,v 11,v 12,v 13,v 14,v 15,v 16,v 17,v 18,v 19,v 20,u68,u69,u70,u71,u72,u73,u74,u75,u76,u77,u78,u79,u80,u81,u82,u83,u84,u85,u86,u87,u88,u89,u90,u91,u92,u93,u94,u95,u96,u97,undef,undef,undef,undef,undef,undef,undef,undef,undef,undef,undef,undef,undef,undef,undef,undef,undef,undef,undef,undef,undef,undef,undef],[{ target:=.collected D,args:=#[] }]⟩) [.slice (some ⟨g1,0,none⟩) M.length lc,.int .i64 jj,.pointer (some ⟨g1,jj,none⟩),.slice (some ⟨by',oy,none⟩) 1 cy,.int .i64 1,.bool false,.bool false,.slice (some ⟨g1,0,none⟩) M.length lc,.int .i64 ii,.pointer (some ⟨g1,ii,none⟩),.slice (some ⟨bx,ox,none⟩) 1 cx,.pointer (some ⟨bx,ox,none⟩),perV (.slice ax1 nx1 cx1) (.slice ax2 nx2 cx2) xp.frm xp.period,.slice (some ⟨g1,0,none⟩) M.length lc,.int .i64 jj,.pointer (some ⟨g1,jj,none⟩),.slice (some ⟨by',oy,none⟩) 1 cy,.pointer (some ⟨by',oy,none⟩),perV (.slice ay1 ny1 cy1) (.slice ay2 ny2 cy2) yp.frm yp.period,.bool dd,.bool (!dd)] [] (fun _ _ _ _ _=>True) (fun W=>W.cell? ⟨w.heap.size+1,0,none⟩=some (.slice (some ⟨g1,0,none⟩) M.length lc)∧W.cell? ⟨g1,ii,none⟩=some (.slice (some ⟨bx,ox,none⟩) 1 cx)∧W.cell? ⟨g1,jj,none⟩=some (.slice (some ⟨by',oy,none⟩) 1 cy)∧(W.cell? ⟨bx,ox,none⟩=some (.slice ax1 nx1 cx1)∧W.cell? ⟨bx,ox+1,none⟩=some (.int .i64 xp.frm)∧W.cell? ⟨bx,ox+2,none⟩=some (.int .i64 xp.period)∧W.cell? ⟨bx,ox+3,none⟩=some (.slice ax2 nx2 cx2))∧(W.cell? ⟨by',oy,none⟩=some (.slice ay1 ny1 cy1)∧W.cell? ⟨by',oy+1,none⟩=some (.int .i64 yp.frm)∧W.cell? ⟨by',oy+2,none⟩=some (.int .i64 yp.period)∧W.cell? ⟨by',oy+3,none⟩=some (.slice ay2 ny2 cy2))) (fun W hb=>⟨cux q2 hb,cux q3 hb,cux q4 hb,⟨cux x0 hb,cux x1 hb,cux x2 hb,cux x3 hb⟩,cux y0 hb,cux y1 hb,cux y2 hb,cux y3 hb⟩) trivial trivial ?steps ?fin (fun j=>match j with|0=>u47|1=>u48|2=>u49|3=>u50|4=>u51|5=>u52|6=>u53|7=>u54|8=>u55|9=>u56|10=>u57|11=>u58|12=>u59|13=>u60|14=>u61|15=>u62|16=>u63|17=>u64|18=>u65|19=>u66|20=>u67|_=>undef)
          case steps=>
           clear q2 q3 q4 x0 x1 x2 x3 y0 y1 y2 y3;refine .c [] [] rfl ?_ (.c [] [] rfl ?_ (.c [0,1] [] rfl ?_ (.c [2] [] rfl ?_ (.c [3] [] rfl ?_ (.c [4] [] rfl ?_ (.c [5] [] rfl ?_ (.c [6] [] rfl ?_ (.c [6] [] rfl ?_ (.c [6,7,8] [] rfl ?_ (.c [6,9] [] rfl ?_ (.c [6,10] [] rfl ?_ (.c [6,11] [] rfl ?_ (.c [6] [] rfl ?_ (.c [6] [] rfl ?_ (.c [6,13,14] [] rfl ?_ (.c [6,15] [] rfl ?_ (.c [6,16] [] rfl ?_ (.c [6,17] [] rfl ?_ (.c [6,12,18] [] rfl ?_ (.c [6,19] [] rfl ?_ (.n)))))))))))))))))))))
           all_goals try exact stw
           ·rintro v lo hi W hb ⟨s2,s3,s4,⟨g0,g1_,g2,g3⟩,k0,k1,k2,k3⟩ _;refine .inl ⟨rfl,fun K hK=>?_⟩;simp only [ov,vat,Nat.reduceBEq,cond_true,cond_false];go_wp2_with (go_at_call 109;refine (HDIV _).mono ?_;rintro e w9 ⟨rfl,hb9⟩)
            exact acx (hK w9 hb9) (by simp [ov,vat,upd])
          case fin=>
           rintro v lo hi9 W2 hb ⟨s2,s3,s4,⟨g0,g1_,g2,g3⟩,k0,k1,k2,k3⟩ hf hap;show wpList _ _ _ [_] _ _;have e6:v 6=.bool false:=(hf 6 rfl).2.2.2;have e20:v 20=.bool (!dd):=(hf 20 rfl).2.2.2;clear hf hap;dsimp only;rw [e6,e20];clear e6 e20;generalize v 0=z0,v 1=z1,v 2=z2,v 3=z3,v 4=z4,v 5=z5,v 7=z7,v 8=z8,v 9=z9,v 10=z10,v 11=z11,v 12=z12,v 13=z13,v 14=z14,v 15=z15,v 16=z16,v 17=z17,v 18=z18,v 19=z19;have HB4:=hq_ hb;clear hb;cases dd with
           | false=>
            clear s2 s3 s4 g0 g1_ g2 g3 k0 k1 k2 k3;go_wp2_with fail
            go_roundw
            case rel=>exact ⟨jj+1,oq_,oq_,rfl,by go_num,hq_ (fun j' h1 h2=>by
             by_cases h3:j'<jj
             ·exact HN3.out j' h1 h3
             ·obtain rfl:j'=jj:=oq_;rw [HJN.out];decide),hq_ (HI3.out.ext (Nat.le_refl _) HB4.out),hq_ ((HB4.out.block D (Array.getElem?_eq_some_iff.1 HD3.out).1).trans HD3.out)⟩
            case measure=>simp [intOf];omega
           | true=>
            obtain ⟨q,hq⟩:∃ q,q=orP xp yp:=⟨_,rfl⟩;have HFQ:Hid (FV s q):=hq_ (by rw [hq];exact HFX.out.or HFY.out);have HQ:=hq_ hq;have HOR:∀ W,Below W2.heap.size W2 W->Calls Tryz.prog 73 #[perV (.slice ax1 nx1 cx1) (.slice ax2 nx2 cx2) xp.frm xp.period,perV (.slice ay1 ny1 cy1) (.slice ay2 ny2 cy2) yp.frm yp.period] W (b6_ q W):=fun W h=>by
             rw [hq];exact rr_ s _ _ _ _ xp yp W (HPX.out.is.ext (Et HB4.out h)) (HPY.out.is.ext (Et HB4.out h)) HFX.out HFY.out
            clear hq;have hW2:=HB4.out.size;have hlbz:=HI3.out.lbx.lt;go_wp2_with fail
            refine Code.wp_mono (Q:=fun e a' W'=>e=.normal∧(∃ (nb:Nat) (h c:Value) (z69 z70 z71 z72 z73 z74 z75 z76 z77 z78 z79 z80 z81 z82 z83 z84:Value),a'=⟨#[.func (Fn.func g) #[] lb,undef,.pointer (some ⟨w.heap.size,0,none⟩),.int .i64 0,.pointer (some ⟨w.heap.size+1,0,none⟩),undef,.bool false,.int .i64 ↑ii,.int .i64 ↑jj,.pointer (some ⟨nb,0,none⟩),.int .i64 0,undef,undef,undef,.func (Fn.func g) #[] lb,undef,undef,undef,undef,undef,undef,undef,undef,undef,undef,.bool true,.slice (some ⟨g1,0,none⟩) M.length lc,.int .i64 ↑M.length,.int .i64 ↑ii,.bool true,.int .i64 ↑ii,.int .i64 ↑ii,.int .i64 (↑ii+1),.int .i64 ↑jj,.slice (some ⟨g1,0,none⟩) M.length lc,.int .i64 ↑M.length,.bool true,.bool true,.slice (some ⟨g1,0,none⟩) M.length lc,.int .i64 ↑ii,.pointer (some ⟨g1,ii,none⟩),.slice (some ⟨bx,ox,none⟩) 1 cx,.int .i64 1,.bool true,.bool true,u45,u46,z0,z1,z2,z3,z4,z5,.bool false,z7,z8,z9,z10,z11,z12,z13,z14,z15,z16,z17,z18,z19,.bool false,.bool false,z69,z70,z71,z72,z73,z74,z75,z76,z77,z78,z79,z80,z81,z82,z83,z84,u85,u86,u87,u88,u89,u90,u91,u92,u93,u94,u95,u96,u97,undef,undef,undef,undef,undef,undef,undef,undef,undef,undef,undef,undef,undef,undef,undef,undef,undef,undef,undef,undef,undef,undef,undef],[{ target:=.collected D,args:=#[] }]⟩∧MgP (W2.heap.size-1) q nb h c W')∧Below W2.heap.size W2 W') ?imp ?reg
            case reg=>
             refine cx_ (w0:=W2) [0,1,2,3,4,5,6,7,8,9,10,11,12,13,14,15,16] 15 17 [18] (fun v=>⟨#[.func (Fn.func g) #[] lb,undef,.pointer (some ⟨w.heap.size,0,none⟩),.int .i64 0,.pointer (some ⟨w.heap.size+1,0,none⟩),undef,.bool false,.int .i64 ↑ii,.int .i64 ↑jj,v 16,u10,undef,undef,undef,.func (Fn.func g) #[] lb,undef,undef,undef,undef,undef,undef,undef,undef,undef,undef,.bool true,.slice (some ⟨g1,0,none⟩) M.length lc,.int .i64 ↑M.length,.int .i64 ↑ii,.bool true,.int .i64 ↑ii,.int .i64 ↑ii,.int .i64 (↑ii+1),.int .i64 ↑jj,.slice (some ⟨g1,0,none⟩) M.length lc,.int .i64 ↑M.length,.bool true,.bool true,.slice (some ⟨g1,0,none⟩) M.length lc,.int .i64 ↑ii,.pointer (some ⟨g1,ii,none⟩),.slice (some ⟨bx,ox,none⟩) 1 cx,.int .i64 1,.bool true,.bool true,u45,u46,z0,z1,z2,z3,z4,z5,.bool false,z7,z8,z9,z10,z11,z12,z13,z14,z15,z16,z17,z18,z19,.bool false,.bool false,v 13,v 0,v 1,v 2,v 3,v 4,v 5,v 6,v 7,v 8,v 9,v 10,v 11,v 12,v 14,v 15,u85,u86,u87,u88,u89,u90,u91,u92,u93,u94,u95,u96,u97,undef,undef,undef,undef,undef,undef,undef,undef,undef,undef,undef,undef,undef,undef,undef,undef,undef,undef,undef,undef,undef,undef,undef],[{ target:=.collected D,args:=#[] }]⟩) [.slice (some ⟨g1,0,none⟩) M.length lc,.int .i64 ii,.pointer (some ⟨g1,ii,none⟩),.slice (some ⟨bx,ox,none⟩) 1 cx,.pointer (some ⟨bx,ox,none⟩),perV (.slice ax1 nx1 cx1) (.slice ax2 nx2 cx2) xp.frm xp.period,.slice (some ⟨g1,0,none⟩) M.length lc,.int .i64 jj,.pointer (some ⟨g1,jj,none⟩),.slice (some ⟨by',oy,none⟩) 1 cy,.pointer (some ⟨by',oy,none⟩),perV (.slice ay1 ny1 cy1) (.slice ay2 ny2 cy2) yp.frm yp.period,undef,undef,undef,.int .i64 0,undef] [12,13,14,16] (fun i v lo hi W=>match i with|12=>∃ h c,v 12=.tuple #[perV h c q.frm q.period,.int .i64 0]∧e4_ W (lo 12) (hi 12) h c q|13=>v 13=v 12∧∃ h c,v 13=.tuple #[perV h c q.frm q.period,.int .i64 0]|14=>∃ h c,v 13=.tuple #[perV h c q.frm q.period,.int .i64 0]∧v 14=perV h c q.frm q.period|16=>v 16=.pointer (some ⟨lo 16,0,none⟩)∧lo 16<hi 16∧Bxx W (lo 16) #[.slice none 0 0,.int .i64 0,.int .i64 0,.slice none 0 0] 39|_=>True) (fun W=>W.cell? ⟨w.heap.size+1,0,none⟩=some (.slice (some ⟨g1,0,none⟩) M.length lc)∧W.cell? ⟨g1,ii,none⟩=some (.slice (some ⟨bx,ox,none⟩) 1 cx)∧W.cell? ⟨g1,jj,none⟩=some (.slice (some ⟨by',oy,none⟩) 1 cy)∧(W.cell? ⟨bx,ox,none⟩=some (.slice ax1 nx1 cx1)∧W.cell? ⟨bx,ox+1,none⟩=some (.int .i64 xp.frm)∧W.cell? ⟨bx,ox+2,none⟩=some (.int .i64 xp.period)∧W.cell? ⟨bx,ox+3,none⟩=some (.slice ax2 nx2 cx2))∧(W.cell? ⟨by',oy,none⟩=some (.slice ay1 ny1 cy1)∧W.cell? ⟨by',oy+1,none⟩=some (.int .i64 yp.frm)∧W.cell? ⟨by',oy+2,none⟩=some (.int .i64 yp.period)∧W.cell? ⟨by',oy+3,none⟩=some (.slice ay2 ny2 cy2))) (fun W hb=>⟨cux s2 hb,cux s3 hb,cux s4 hb,⟨cux g0 hb,cux g1_ hb,cux g2 hb,cux g3 hb⟩,cux k0 hb,cux k1 hb,cux k2 hb,cux k3 hb⟩) ?stab ?loc ?steps ?fin ?fin2 (fun j=>match j with|0=>u70|1=>u71|2=>u72|3=>u73|4=>u74|5=>u75|6=>u76|7=>u77|8=>u78|9=>u79|10=>u80|11=>u81|12=>u82|13=>u69|14=>u83|15=>u84|16=>u9|_=>undef)
             case stab=>
              refine ⟨?_,?_,?_,?_,trivial⟩
              ·intro v lo hi W W' h hb;exact (let ⟨x1,x2,e,hp⟩:=h;⟨x1,x2,e,hp.below hb⟩)
              ·intro v lo hi W W' h hb;exact h
              ·intro v lo hi W W' h hb;exact h
              ·intro v lo hi W W' h hb;exact ⟨h.1,h.2.1,h.2.2.below hb⟩
             case loc=>
              refine ⟨?_,?_,?_,?_,trivial⟩
              ·intro v v' lo lo' hi hi' W hag h;have q:=hag 12 (.inl rfl)
               (try dsimp only at h ⊢)
               simp only [q.1,q.2.1,q.2.2] at h;exact h
              ·intro v v' lo lo' hi hi' W hag h;have q:=hag 13 (.inl rfl);have q12:=hag 12 (.inr (Rdp (by kernel_rfl)))
               (try dsimp only at h ⊢)
               simp only [q.1,q.2.1,q.2.2,q12.1,q12.2.1,q12.2.2] at h;exact h
              ·intro v v' lo lo' hi hi' W hag h;have q:=hag 14 (.inl rfl);have q13:=hag 13 (.inr (Rdp (by kernel_rfl)))
               (try dsimp only at h ⊢)
               simp only [q.1,q.2.1,q.2.2,q13.1,q13.2.1,q13.2.2] at h;exact h
              ·intro v v' lo lo' hi hi' W hag h;have q:=hag 16 (.inl rfl)
               (try dsimp only at h ⊢)
               simp only [q.1,q.2.1,q.2.2] at h;exact h
             case steps=>
              clear s2 s3 s4 g0 g1_ g2 g3 k0 k1 k2 k3;refine .c [] [] rfl ?_ (.c [] [] rfl ?_ (.c [0,1] [] rfl ?_ (.c [2] [] rfl ?_ (.c [3] [] rfl ?_ (.c [4] [] rfl ?_ (.c [] [] rfl ?_ (.c [] [] rfl ?_ (.c [6,7] [] rfl ?_ (.c [8] [] rfl ?_ (.c [9] [] rfl ?_ (.c [10] [] rfl ?_ (.c [5,11] [] rfl ?_ (.c [] [12] rfl ?_ (.c [] [13] rfl ?_ (.c [] [13] rfl ?_ (.c [] [] rfl ?_ (.n)))))))))))))))))
              all_goals try exact stl
              ·rintro v lo hi W hb ⟨s2,s3,s4,⟨g0,g1_,g2,g3⟩,k0,k1,k2,k3⟩ _;refine ⟨rfl,fun K hK=>?_⟩;simp only [ov,vat,Nat.reduceBEq,cond_true,cond_false];go_wp2_with (go_at_call 73;refine (HOR _ xE).mono ?_;rintro e w9 ⟨h',c',rfl,ho,hb9⟩)
               exact acx (hK (.tuple #[perV h' c' q.frm q.period,.int .i64 0]) w9 hb9 ⟨h',c',rfl,ho.at⟩) (by simp [ov,vat,upd])
              ·rintro v lo hi W hb ⟨s2,s3,s4,⟨g0,g1_,g2,g3⟩,k0,k1,k2,k3⟩ ⟨⟨la12,lb12,D12⟩,_⟩;refine ⟨rfl,fun K hK=>?_⟩;simp only [ov,vat,Nat.reduceBEq,cond_true,cond_false]
               (try dsimp only at D12)
               obtain ⟨h8,c8,e8,_⟩:=D12;go_wp2_with fail
               exact acx (hK (v 12) W (Below.refl _ _) ⟨rfl,h8,c8,e8⟩) (by simp [ov,vat,upd,e8])
              ·rintro v lo hi W hb ⟨s2,s3,s4,⟨g0,g1_,g2,g3⟩,k0,k1,k2,k3⟩ ⟨⟨la13,lb13,D13⟩,_⟩;refine ⟨rfl,fun K hK=>?_⟩;simp only [ov,vat,Nat.reduceBEq,cond_true,cond_false]
               (try dsimp only at D13)
               obtain ⟨-,h9,c9,e9⟩:=D13;simp only [e9];go_wp2_with fail
               exact acx (hK (perV h9 c9 q.frm q.period) W (Below.refl _ _) ⟨h9,c9,e9,rfl⟩) (by simp [ov,vat,upd,e9])
              ·rintro v lo hi W hb ⟨s2,s3,s4,⟨g0,g1_,g2,g3⟩,k0,k1,k2,k3⟩ ⟨⟨la13,lb13,D13⟩,_⟩;refine ⟨rfl,fun K hK=>?_⟩;simp only [ov,vat,Nat.reduceBEq,cond_true,cond_false]
               (try dsimp only at D13)
               obtain ⟨-,h9,c9,e9⟩:=D13;simp only [e9];go_wp2_with fail
               exact acx (hK W (Below.refl _ _)) (by simp [ov,vat,upd,e9])
              ·rintro v lo hi W hb ⟨s2,s3,s4,⟨g0,g1_,g2,g3⟩,k0,k1,k2,k3⟩ _;refine ⟨rfl,fun K hK=>?_⟩;simp only [ov,vat,Nat.reduceBEq,cond_true,cond_false];go_wp2_with fail
               exact hK (.pointer (some ⟨W.heap.size,0,none⟩)) _ (Ea (Er _) _) ⟨rfl,sq_,Bxx.new _ _ _⟩
             case fin=>
              rintro v lo hi9 W5 hb5-hf hap;show wpList _ _ _ [_,_] _ _;obtain ⟨l8,-,h8,h,c,e8,hp8⟩:=hf 12 rfl;obtain ⟨-,-,-,e9,-⟩:=hf 13 rfl;obtain ⟨-,-,-,h',c',e9',e10⟩:=hf 14 rfl;have e11:v 15=.int .i64 0:=(hf 15 rfl).2.2.2;obtain ⟨l12,-,h12,e12,lt12,hbox⟩:=hf 16 rfl;have hd:=hap 12 16 rfl rfl dq_;clear hf hap;rw [e9,e8] at e9';obtain ⟨rfl,rfl⟩:h=h'∧c=c':=by simpa [perV] using e9'
              dsimp only;rw [e10,e11,e12];clear e10 e11 e12 e9 e9' e8;obtain ⟨nb,hnb⟩:∃ nb,nb=lo 16:=⟨_,rfl⟩;rw [<- hnb] at hd hbox l12 lt12 ⊢;have hpi:=hp8.inn;generalize lo 12=l8v at *;generalize hi9 12=h8v at *;generalize hi9 16=h12v at *;clear hnb hp8;obtain ⟨a5,m5,a6,m6,rfl,rfl⟩:=hpi.form;have g0:=hbox.cells 0;have g1:=hbox.cells 1;have g2:=hbox.cells 2;have g3:=hbox.cells 3;have HMG:=hq_ (MgP.of hpi HFQ.out (show W2.heap.size-1<l8v by omega) hbox oq_ oq_);have HB5:=hq_ hb5;clear hbox hpi hd;generalize v 0=y0,v 1=y1,v 2=y2,v 3=y3,v 4=y4,v 5=y5,v 6=y6,v 7=y7,v 8=y8,v 9=y9,v 10=y10,v 11=y11,v 12=y12,v 13=y13;go_wp2_with fail
              exact ⟨⟨_,_,HMG.out⟩,by have hb5:=HB5.out;exact xE⟩
             case fin2=>
              rintro v lo hi9 W5 hb5-hf hap;obtain ⟨l8,-,h8,h,c,e8,hp8⟩:=hf 12 rfl dq_;obtain ⟨-,-,-,e9,-⟩:=hf 13 rfl dq_;obtain ⟨-,-,-,h',c',e9',e10⟩:=hf 14 rfl dq_;obtain ⟨l12,-,h12,e12,lt12,hbox⟩:=hf 16 rfl dq_;have hd:=hap 12 16 rfl rfl dq_ dq_ dq_;clear hf hap;rw [e9,e8] at e9';obtain ⟨rfl,rfl⟩:h=h'∧c=c':=by simpa [perV] using e9'
              have e99:=e9.trans e8;dsimp only;rw [e10,e12,e99];clear e10 e12 e9 e9' e8 e99;obtain ⟨nb,hnb⟩:∃ nb,nb=lo 16:=⟨_,rfl⟩;rw [<- hnb] at hd hbox l12 lt12 ⊢;have hpi:=hp8.inn;generalize lo 12=l8v at *;generalize hi9 12=h8v at *;generalize hi9 16=h12v at *;clear hnb hp8;obtain ⟨a5,m5,a6,m6,rfl,rfl⟩:=hpi.form;have g0:=hbox.cells 0;have g1:=hbox.cells 1;have g2:=hbox.cells 2;have g3:=hbox.cells 3;have HMG:=hq_ (MgP.of hpi HFQ.out (show W2.heap.size-1<l8v by omega) hbox oq_ oq_);have HB5:=hq_ hb5;clear hbox hpi hd;generalize v 0=y0,v 1=y1,v 2=y2,v 3=y3,v 4=y4,v 5=y5,v 6=y6,v 7=y7,v 8=y8,v 9=y9,v 10=y10,v 11=y11,v 12=y12,v 15=z15;constructor
              ·show wpList _ _ _ [_,_,_] _ _;go_wp2_with fail
               exact ⟨⟨_,_,HMG.out⟩,by have hb5:=HB5.out;exact xE⟩
              ·show wpList _ _ _ [_,_,_] _ _;go_wp2_with fail
               exact ⟨⟨_,_,HMG.out⟩,by have hb5:=HB5.out;exact xE⟩
            case imp=>
             rintro e a' W6 ⟨rfl,⟨nb,h,c,z69,z70,z71,z72,z73,z74,z75,z76,z77,z78,z79,z80,z81,z82,z83,z84,rfl,hP⟩,hb6⟩;obtain ⟨a5,n5,m5,a6,n6,m6,rfl,rfl⟩:=hP.ok.form;have p0:=hP.c0;have p1:=hP.c1;have p2:=hP.c2;have p3:=hP.c3;have hB6:=Et HB4.out hb6;have hn6:=HI3.out.ext (Nat.le_refl _) hB6;have r2:=(hn6.lbx.cells 0).1;have hrow6:=hn6.row.below (Ea (Er W6) (.cells #[.slice a5 n5 m5,.int .i64 q.frm,.int .i64 q.period,.slice a6 n6 m6] 39));obtain ⟨-,r0,r1⟩:=hrow6.get rfl hlt;have hz6:=hb6.size;have hg1:=(hn6.row.row.lt g1 rfl).2;have hg1n:=hn6.row.ne g1 rfl;have hone:=(og_ hP.ok (show W2.heap.size-1≤W6.heap.size by have:=hb6.size;omega)).mono (G:=RowF w.heap.size (fun k=>k=w.heap.size∨k=w.heap.size+1) (.slice (some ⟨g1,0,none⟩) M.length lc)) (fun b hb=>by
              have hg3:=(HI3.out.row.row.lt g1 rfl).2;obtain ⟨h1,h2⟩:=hb;exact ⟨oq_,(by rintro (h|h) <;> omega),fun e=>by simp [Value.ownBlock] at e;omega⟩)
             have hset:=hrow6.set (y:=(.slice (some ⟨W6.heap.size,0,none⟩) 1 1,[q])) ii hone;have hlb7:=Bxx.setNe (hn6.lbx.alloc (.cells #[.slice a5 n5 m5,.int .i64 q.frm,.int .i64 q.period,.slice a6 n6 m6] 39)) (k:=g1) (i:=ii) (.slice (some ⟨W6.heap.size,0,none⟩) 1 1) (fun e=>hg1n (.inr e.symm));have hrb7:=Bxx.setNe (hn6.rbx.alloc (.cells #[.slice a5 n5 m5,.int .i64 q.frm,.int .i64 q.period,.slice a6 n6 m6] 39)) (k:=g1) (i:=ii) (.slice (some ⟨W6.heap.size,0,none⟩) 1 1) (fun e=>hg1n (.inl e.symm));have hko:=(KeepsOthers.alloc W6 (.cells #[.slice a5 n5 m5,.int .i64 q.frm,.int .i64 q.period,.slice a6 n6 m6] 39)).trans (KeepsOthers.setCell _ ⟨g1,ii,none⟩ (.slice (some ⟨W6.heap.size,0,none⟩) 1 1));have hbl:=((Below.refl w.heap.size W6).alloc oq_ (.cells #[.slice a5 n5 m5,.int .i64 q.frm,.int .i64 q.period,.slice a6 n6 m6] 39)).setCell (p:=⟨g1,ii,none⟩) (show w.heap.size≤g1 from (hn6.row.row.lt g1 rfl).1) (.slice (some ⟨W6.heap.size,0,none⟩) 1 1);have hcomm:=World.setCell_alloc_past (w:=W6) (.cells #[.slice a5 n5 m5,.int .i64 q.frm,.int .i64 q.period,.slice a6 n6 m6] 39) g1 ii (.slice (some ⟨W6.heap.size,0,none⟩) 1 1) hg1;rw [hcomm] at hlb7 hrb7 hko hbl;dsimp only at hset;rw [hcomm] at hset;generalize hW7:(W6.setCell _ _).alloc _=W7 at hlb7 hrb7 hko hbl hset;have HW7:=hq_ hW7;have r3:=(hlb7.cells 0).1;have HLB7:=hq_ hlb7;have HRB7:=hq_ hrb7;have HKO:=hq_ hko;have HBL:=hq_ hbl;have hdel:=ps_ _ _ _ _ _ jj _ _ hset (by rw [List.length_set];exact hjl);rw [List.length_set] at hdel;have HROW7:=hq_ hset;rw [<- hW7] at r3 hdel;have HN6:=hq_ hn6;have HB6:=hq_ hB6;clear hP hn6 hrow6 hset hone hb6 hB6 hlb7 hrb7 hko hbl hcomm hW7;go_wp2_with (go_at_call 110;refine hdel.mono ?_;rintro e w8 ⟨rfl,hr8,hg8⟩;rw [HW7.out] at hg8;have hl8:=HLB7.out.grown hg8 (by rintro e;cases e;exact hg1n (.inr rfl));have t0:=(hl8.cells 0).1;have t1:=(hl8.cells 0).2;have HL8:=hq_ hl8;have HR8:=hq_ hr8;have HG8:=hq_ hg8;clear hl8 hr8 hg8)
             have hgB:=(HROW7.out.row.lt g1 rfl);have hNI':NI w.heap.size w s (.slice (some ⟨g1,0,none⟩) (M.length-1) lc) ((M.set ii (.slice (some ⟨W6.heap.size,0,none⟩) 1 1,[q])).eraseIdx jj) (w8.setCell ⟨w.heap.size+1,0,none⟩ (.slice (some ⟨g1,0,none⟩) (M.length-1) lc)):=by
              refine ⟨(HN6.out.below.trans (HBL.out.trans (World.grownBy.below' HG8.out hgB.1 oq_))).setCell (p:=⟨w.heap.size+1,0,none⟩) (Nat.le_succ _) _,HR8.out.box (World.grownBy.set' ⟨rfl,rfl,rfl,Nat.le_refl _,fun _ _ _=>rfl⟩ _) (.inr rfl),Bxx.setNe (HRB7.out.grown HG8.out (by rintro e;cases e;exact hg1n (.inl rfl))) _ oq_,a4_ 0 _ HL8.out,fun x hx=>?_⟩;rcases List.mem_or_eq_of_mem_set (List.mem_of_mem_eraseIdx hx) with h2|rfl
              ·exact HN6.out.vt x h2
              ·exact ⟨sq_,fun p hp=>(List.mem_singleton.1 hp) ▸ HFQ.out,sq_⟩
             have hD':(w8.setCell ⟨w.heap.size+1,0,none⟩ (.slice (some ⟨g1,0,none⟩) (M.length-1) lc)).heap[D]? = some (.deferred (some [])):=
              ((KeepsOthers.grown_cells ((KeepsOthers.of_below HB6.out).trans HKO.out) HG8.out (fun r e=>by cases e;exact HROW7.out.row_cells g1 rfl)).trans (KeepsOthers.setCell w8 _ _)).same D _ HD3.out rfl
             have hJ':∀ m,ck_ (((M.set ii (.slice (some ⟨W6.heap.size,0,none⟩) 1 1,[q])).eraseIdx jj).map Prod.snd) m->ck_ (L.map Prod.snd) m:=fun m hm=>HJ.out m (ck_.step (i:=ii) (j:=jj) ⟨hij,by rw [List.length_map];exact hjl,by have:=HJN.out;simpa using this,fun i' j' h1 h2 h3=>HN2.out i' j' h1 h2 (by rwa [List.length_map] at h3),HN3.out⟩ (by
              rw [HJA.out,<- HQ.out,show ((M.map Prod.snd).set ii [q]).eraseIdx jj=((M.set ii (.slice (some ⟨W6.heap.size,0,none⟩) 1 1,[q])).eraseIdx jj).map Prod.snd by simp [List.eraseIdx_eq_take_drop_succ,List.map_set]];exact hm))
             have hlen':((M.set ii (.slice (some ⟨W6.heap.size,0,none⟩) 1 1,[q])).eraseIdx jj).length=M.length-1:=by rw [List.length_eraseIdx_of_lt (by rw [List.length_set];exact hjl),List.length_set]
             have hlw':=hNI'.lenW;rw [hlen'] at hlw';simp only [Exit.noGoto_normal,Exit.inBlock];go_roundw
             case rel=>
              (repeat apply Exists.intro)
              exact ⟨⟨true,_,_,rfl,by rw [hlen'];omega,hq_ hJ',hq_ (fun h=>absurd h dq_),hq_ hNI',hq_ hD'⟩,rfl⟩
             case measure=>simp [hlw',HLW.out];omega
         ·obtain ⟨ya,yc,rfl,_⟩:=hty.form;have HY1:=hq_ hy1;have hyI:(yt.length:Int)≠1:=oq_;have HJN:Hid (¬ az_ (M.map Prod.snd) ii jj):=hq_ (by unfold az_;rw [hdy];exact fun h=>hy1 h.2.1);clear htx hty hdx hdy hx1 hy1;go_wp2_with fail
          go_quiet (fail)
          go_wp2_with fail
          go_roundw
          case rel=>exact ⟨jj+1,oq_,oq_,rfl,by go_num,hq_ (fun j' h1 h2=>by
           by_cases h3:j'<jj
           ·exact HN3.out j' h1 h3
           ·obtain rfl:j'=jj:=oq_;exact HJN.out),hq_ (HI3.out.ext (Nat.le_refl _) (Below.drewN (Below.refl _ _) _)),hq_ (by exact HD3.out)⟩
          case measure=>simp [intOf];omega
        ·obtain ⟨xa,xc,rfl,_⟩:=htx.form;have HX1:=hq_ hx1;have hxI:(xt.length:Int)≠1:=oq_;have HJN:Hid (∀ j',¬ az_ (M.map Prod.snd) ii j'):=hq_ (fun j' h=>by unfold az_ at h;rw [hdx] at h;exact hx1 h.1);clear htx hdx hx1;go_wp2_with fail
         go_roundw
         case rel=>exact ⟨ii+1,oq_,rfl,by go_num,hq_ (fun i' j' h1 h2 h3=>by
          by_cases h4:i'<ii
          ·exact HN2.out i' j' h4 h2 h3
          ·obtain rfl:i'=ii:=oq_;exact HJN.out j'),HI3,HD3⟩
         case measure=>simp [intOf];omega
       ·obtain rfl:jj=M.length:=oq_;clear htx hdx;go_wp2_with fail
        go_roundw
        case rel=>exact ⟨ii+1,oq_,rfl,by go_num,hq_ (fun i' j' h1 h2 h3=>by
         by_cases h4:i'<ii
         ·exact HN2.out i' j' h4 h2 h3
         ·obtain rfl:i'=ii:=oq_;exact HN3.out j' h2 h3),HI3,HD3⟩
        case measure=>simp [intOf];omega
     ·obtain rfl:ii=M.length:=oq_;have hlw2:=HI2.out.lenW;go_wp2_with fail
      simp only [Exit.noGoto_normal,Exit.inBlock];go_roundw
      case rel=>
       (repeat apply Exists.intro)
       exact ⟨⟨false,_,M,rfl,hMl,HJ,hq_ (fun _ i' j' h1 h2=>HN2.out i' j' oq_ h1 h2),HI2,HD2⟩,rfl⟩
      case measure=>simp [hlw2,HLW.out]
   | false=>
    have HLW:=hq_ hlw;clear hlw;go_wp2_with fail
    refine wpIn_wide.2 ?_;have hjt:ck_ (L.map Prod.snd) (M.map Prod.snd):=HJ.out _ (ck_.done (by rw [List.length_map];have:=HNP.out;simpa using this));have HJT:=hq_ hjt;obtain ⟨n,hn⟩:∃ n,n=wr.heap.size:=⟨_,rfl⟩;have hno:NO w.heap.size n D 0 w (.slice la M.length lc) (.slice none 0 0) M [] (wr.alloc (.cells #[.slice none 0 0] 28)):=
     ⟨HN.out.below.alloc (HN.out.below.size) _,((HN.out.row.mono (A':=fun k=>k=w.heap.size∨k=w.heap.size+1∨n≤k) (fun k hk=>by rcases hk with h|h|h;exact .inl (.inl h);exact .inl (.inr h);exact .inr oq_)).below (Ea (Er _) _)),RowT.nil _ _ _,by simp [Value.ownBlock],Bxx.at hn,HN.out.rbx.alloc _,(Below.heap_alloc _ _ _ (Array.getElem?_eq_some_iff.1 HD.out).1).trans HD.out,by simp [ddL],sq_⟩
    have HNO:=hq_ hno;have HVT:=hq_ HN.out.vt;have hwn:w.heap.size+1<n:=by have:=HN.out.lbx.lt;omega
    have q1:=Ext.cell (Ea (Er wr) (.cells #[.slice none 0 0] 28)) ((HN.out.lbx.cells 0).1.trans (show _=some (Value.slice la M.length lc) from rfl));clear hjt hno;go_wp2_with fail
    rw [<- hn];have HEQ:=hq_ hn;clear hn
    go_loopw [13,100] (fun _ idx wr=>∃ (k:Nat) (ov:Value) (LO:List (Value × List Per)),k≤M.length∧idx=.int .i64 k∧Hid (NO w.heap.size n D k w (.slice la M.length lc) ov M LO wr)) (fun _ idx _=>M.length-(intOf idx).toNat)
    case atStart=>exact ⟨0,_,[],oq_,rfl,HNO⟩
    case round=>
     obtain ⟨k,ov,LO,hk,rfl,HO⟩:=hrel;obtain ⟨oa,oc,rfl,_⟩:=HO.out.orow.form;have o1:=HO.out.obx.c0
     by_cases hkl:k<M.length
     ·have hkI:(k:Int)<M.length:=oq_;rcases hfm with h0|⟨g1,rfl⟩
      ·omega
      obtain ⟨hty,m1,-⟩:=HO.out.lrow.get rfl hkl;have HDD:Hid (ddL [] ((M.map Prod.snd).take (k+1))=dd1 (ddL [] ((M.map Prod.snd).take k)) (M.getD k default).2):=hq_ (by
       rw [List.take_succ_eq_append_getElem (by simpa using hkl),oc_];simp [List.getD_eq_getElem?_getD,hkl])
      generalize M.getD k default=Y at *;obtain ⟨yv,yt⟩:=Y;dsimp only at m1 hty;obtain ⟨ya,yc,rfl,_⟩:=hty.form;have HTY:=hq_ hty;have o2:=(HO.out.obx.alloc (.cells #[.slice ya yt.length yc] 36)).c0;clear hty;have hcon:=mt_ (fun b=>w.heap.size≤b) _ (.slice oa LO.length oc) LO (.slice ya yt.length yc) yt wr.heap.size (wr.alloc (.cells #[.slice ya yt.length yc] 36)) (HO.out.orow.below (Ea (Er _) _)).mix (HTY.out.ext (Ea (Er _) _)) (Bxx.new wr _ 36).c0;have hzn:=HO.out.obx.lt;have hzB:=HO.out.below.size;go_wp2_with (first|(go_at_call 57;refine hcon.mono ?_;rintro e w5 ⟨b,rfl,hbb,hb5⟩;have HBB:=hq_ hbb;have HB5:Hid (Below wr.heap.size wr w5):=hq_ ((Ea (Er wr) _).trans (hb5.mono sq_));have o3:=(HO.out.obx.below HB5.out).c0;have o4:=Ext.cell hb5 (Bxx.new wr #[.slice ya yt.length yc] 36).c0;have hz5:=HB5.out.size;clear hbb hb5;cases b)|(at_builtin;refine de_ rq_ _ _ rq_ w.heap.size (fun k=>k=w.heap.size∨k=w.heap.size+1∨k=n) (.slice oa LO.length oc) LO (.slice ya yt.length yc,yt) rq_ (HO.out.orow.below (Ea HB5.out _)) ((HTY.out.ext (Ea HB5.out _)).mono fun b hb=>⟨hb.1,fun h=>by rcases h with h|h|h;exact hb.2.1 (.inl h);exact hb.2.1 (.inr (.inl h));exact hb.2.1 (.inr (.inr oq_)),fun e=>hb.2.1 (.inr (.inr (HO.out.own b e)))⟩) _ _ rq_ sq_ tq_ (by have:=HO.out.len;omega) tq_ ?_;intro ga gc w6 hr6 hg6 hb6 hbo6;have hob6:=((HO.out.obx.below HB5.out).alloc (.cells #[.slice ya yt.length yc] 36)).grown hg6 (by rintro e;exact HO.out.orow.ne _ e.symm (.inr (.inr rfl)));have p1:=(hob6.cells 0).1;have p2:=(hob6.cells 0).2;have HOB6:=hq_ hob6;have HR6:=hq_ hr6;have HG6:=hq_ hg6;have HB6:=hq_ hb6;have HBO6:=hq_ hbo6;clear hob6 hr6 hg6 hb6 hbo6))
      ·have hal:=Ea HB5.out (.cells #[.slice ya yt.length yc] 36);go_roundw
       case rel=>
        refine ⟨k+1,.slice ga (LO.length+1) gc,LO ++ [(.slice ya yt.length yc,yt)],oq_,by go_num,hq_ ⟨?_,?_,?_,?_,?_,?_,?_,?_,?_⟩⟩
        ·exact ((HO.out.below.trans (hal.mono hzB)).trans HB6.out).setCell (p:=⟨n,0,none⟩) (show w.heap.size≤n by omega) _
        ·exact ((HO.out.lrow.below hal).boxO HG6.out fun g hg=>.inr (.inr (HO.out.own g hg))).box (World.grownBy.set' ⟨rfl,rfl,rfl,Nat.le_refl _,fun _ _ _=>rfl⟩ _) (.inr (.inr (Nat.le_refl n)))
        ·exact HR6.out.box (World.grownBy.set' ⟨rfl,rfl,rfl,Nat.le_refl _,fun _ _ _=>rfl⟩ _) (.inr (.inr rfl))
        ·intro g hg;rcases HBO6.out with e|e
         ·exact HO.out.own g (e ▸ hg)
         ·rw [e] at hg;cases hg;simp;omega
        ·exact a4_ 0 _ HOB6.out
        ·exact Bxx.setNe ((HO.out.rbx.below hal).grown HG6.out (fun e=>by have:=HO.out.own _ e.symm;omega)) _ oq_
        ·exact ((KeepsOthers.grown_cells (KeepsOthers.of_below hal) HG6.out (HO.out.orow.below hal).row_cells).trans (KeepsOthers.setCell w6 _ _)).same D _ HO.out.dfr rfl
        ·rw [List.map_append,HO.out.eq,HDD.out];exact (g5_ (by rw [<- HO.out.eq];have:=HBB.out;simpa using this)).symm
        ·simp;exact HO.out.len
       case measure=>simp [intOf];omega
      ·go_roundw
       case rel=>
        have h5:=HO.out.ext (Nat.le_refl _) HB5.out;exact ⟨k+1,_,LO,oq_,by go_num,hq_ { h5 with eq:=(by rw [HDD.out,nv_ (by rw [<- HO.out.eq];have:=HBB.out;simpa using this)];exact HO.out.eq),len:=Nat.le_succ_of_le HO.out.len }⟩
       case measure=>simp [intOf];omega
     ·obtain rfl:k=M.length:=oq_;have hmv:=bh_ (fun b=>w.heap.size≤b) (.slice oa LO.length oc) (LO.map Prod.snd) wr ⟨LO,rfl,HO.out.orow.mix⟩;have hnorm:bf_ T (LO.map Prod.snd):=⟨_,_,HMA.out,HJT.out,by rw [HO.out.eq,List.take_of_length_le sq_]⟩;have hvt:∀ t∈LO.map Prod.snd,aw_ s t:=fun t ht=>by
       rw [HO.out.eq,List.take_of_length_le sq_,lc_] at ht;rcases ht with ht|ht
       ·simp at ht
       ·obtain ⟨x,hx,rfl⟩:=List.mem_map.1 ht;exact HVT.out x hx
      have HNT:=hq_ hnorm;have HVV:=hq_ hvt;clear hnorm hvt;go_wp2_with (go_at_call 18;refine hmv.mono ?_;rintro e w7 ⟨rfl,hb7⟩;have HB7:=hq_ hb7;have h7:=HO.out.ext (Nat.le_refl _) hb7;have HO7:=hq_ h7;have s1:=h7.obx.c0;have s2:=(h7.rbx.cells 0).1;have s3:=(h7.rbx.cells 0).2;clear h7 hb7;cases hval:bj_ (LO.map Prod.snd))
      all_goals have hnorm:=HNT.out
      all_goals have hvt:=HVV.out
      ·have hrb:Bxx (w7.setCell ⟨w.heap.size,0,none⟩ (.slice none 0 0)) w.heap.size #[.slice none 0 0] 28:=a4_ 0 _ HO7.out.rbx;have hM:b5_ w.heap.size [{ target:=.collected D,args:=#[] }] (w7.setCell ⟨w.heap.size,0,none⟩ (.slice none 0 0)):=dl_ oq_ ((KeepsOthers.setCell w7 _ _).same D _ HO7.out.dfr rfl);have hrow:=HO7.out.orow.box (World.grownBy.set' (i:=0) ⟨rfl,rfl,rfl,Nat.le_refl _,fun _ _ _=>rfl⟩ (.slice none 0 0)) (.inl rfl);refine ce_ (B:=w.heap.size) _ _ hM fun w' hs=>?_;have hc:=Bxx.c0 (hs.cells _ _ hrb rfl);refine ⟨.tuple #[.agg #[.slice none 0 0],.int .i64 2],by simp [results,Tryz.results68,go_sem,hc],.slice oa LO.length oc,LO.map Prod.snd,hnorm,hvt,((HO7.out.below).setCell (p:=⟨w.heap.size,0,none⟩) (Nat.le_refl _) _).trans hs.below,.inr ⟨hval,rfl⟩⟩
      ·have hrb:Bxx (w7.setCell ⟨w.heap.size,0,none⟩ (.slice oa LO.length oc)) w.heap.size #[.slice oa LO.length oc] 28:=a4_ 0 _ HO7.out.rbx;have hM:b5_ w.heap.size [{ target:=.collected D,args:=#[] }] (w7.setCell ⟨w.heap.size,0,none⟩ (.slice oa LO.length oc)):=dl_ oq_ ((KeepsOthers.setCell w7 _ _).same D _ HO7.out.dfr rfl);have hrow:=HO7.out.orow.box (World.grownBy.set' (i:=0) ⟨rfl,rfl,rfl,Nat.le_refl _,fun _ _ _=>rfl⟩ (.slice oa LO.length oc)) (.inl rfl);refine ce_ (B:=w.heap.size) _ _ hM fun w' hs=>?_;have hc:=Bxx.c0 (hs.cells _ _ hrb rfl);refine ⟨.tuple #[.agg #[.slice oa LO.length oc],.int .i64 0],by simp [results,Tryz.results68,go_sem,hc],.slice oa LO.length oc,LO.map Prod.snd,hnorm,hvt,((HO7.out.below).setCell (p:=⟨w.heap.size,0,none⟩) (Nat.le_refl _) _).trans hs.below,.inl ⟨hval,rfl,LO,rfl,(hrow.shut hs).mix⟩⟩
end Go.Proofs.YthjnojbeimchdaaGreat
namespace Go.Proofs.YthjnojbeimchdaaGreat
open Go.RowKit Go.Maps Kal
theorem kk_ (c:Array Value) (n:Nat):(Builtin.zeroCells c n).size=n*c.size:=by simp [Builtin.zeroCells]
theorem sm_ (n:Nat) (w:World) (hn:n≤1000000) :
  Calls Tryz.prog 146 #[.slice none 0 0,.int .i64 (n:Int)] w fun e w'=>∃ v,e=.returned v∧w'.ownsRow w.heap.size 39 4 v 0 []∧Below w.heap.size w w':=by
 obtain ⟨i0,hi0,hz0,hs0,hb0⟩:=f1_
 by_cases hpos:0<n
 ·have hrz:∀ ty,(Builtin.append_ #[36,3] ty #[.slice none 0 0,.int .i64 (n:Int)]).run Tryz.prog w =
    .ok (.slice (some ⟨w.heap.size,0,none⟩) n (grownCap w n 0 39)) (w.drew.alloc (.cells (#[] ++ Builtin.zeroCells (Value.agg #[.slice none 0 0,.int .i64 0,.int .i64 0,.slice none 0 0]).cells n ++ Builtin.zeroCells (Value.agg #[.slice none 0 0,.int .i64 0,.int .i64 0,.slice none 0 0]).cells (grownCap w n 0 39-n)) 39)):=fun ty=>by
   have h:=Lib.run_append_grow_zeros w 36 3 ty 39 i0 (Value.agg #[.slice none 0 0,.int .i64 0,.int .i64 0,.slice none 0 0]) .i64 .i64 Tryz.underlying36 Tryz.underlying3 hi0 hz0 none 0 0 [] (run_firstCells_none w.drew i0.size 0 0 0) n hpos oq_ oq_ oq_ (by rw [hb0];omega)
    (growslice_fits oq_ (by rw [hb0];omega))
   simpa using h
  have hGn:n≤grownCap w n 0 39:=grownCap_ge w _ _ _;have hGm:=grownCap_le_maxLen w n 0 39 (by unfold maxLen;omega);obtain ⟨G,hG⟩:∃ G,G=grownCap w n 0 39:=⟨_,rfl⟩;rw [<- hG] at hrz hGn hGm;have hG63:G≤9223372036854775807:=by unfold maxLen at hGm;omega
  have HGM:=hq_ hGm;clear hG hGm;have hnI:(0:Int)<(n:Int):=oq_
  go_enter Tryz.func146,Tryz.ntmps146
  go_wp2_with (at_builtin;refine Lib.wpList_append_run _ rfl _ _ _ _ rfl _ _ rfl rfl _ _ (hrz _) ?_)
  go_ret;refine ⟨_,rfl,⟨rfl,.inr ⟨w.heap.size,G,_,rfl,Nat.le_refl _,World.alloc_heap_new w.drew _,sq_,HGM.out,?_,sq_⟩⟩,?_⟩
  ·simp only [Array.size_append,kk_];simp [Value.cells];omega
  ·exact ((Below.refl _ _).drew).alloc (Nat.le_refl _) _
 ·obtain rfl:n=0:=oq_
  go_enter Tryz.func146,Tryz.ntmps146
  go_wp2_with fail
  go_ret;exact ⟨_,rfl,World.ownsRow_nil _ _ _ _,Below.refl _ _⟩
theorem by_ {a:Act} {Q:Exit->Act->World->Prop} (hgd:o.guard=none) (s x:Operand)
  (ho:o.op=.call { callee:=.builtin .append,args:=#[s,x],argTypes:=#[36,36] }) (base:Nat) (v xv:Value) (n m:Nat) (xs ys:List Value) (F:Nat->Prop) (hs:a.eval s=v) (hown:w.ownsRow base 39 4 v n xs)
  (hx:a.eval x=xv) (hxs:RowR w F xv m ys) (hyl:ys.length=m*4) (h1c:∀ u∈ys,u.oneCell'=true) (hlen:n+m≤1000000) (hbase:base≤w.heap.size)
  (h:∀ v' w',w'.ownsRow base 39 4 v' (n+m) (xs ++ ys)->w.grownBy w' v.ownBlock->wpList Tryz.prog ops Q rest (a.put o.dst v') w') :
  wpList Tryz.prog ops Q (o :: rest) a w:=by
 obtain ⟨i,hi,h1,h2,h3⟩:=f1_;obtain ⟨xa,xc,rfl,g1,g2,g3⟩:=hxs;refine wpList_plain hgd fun K hK=>?_;rcases g3 with rfl|⟨b,off,rfl,_,_,hcell⟩
 ·have hy0:ys=[]:=List.eq_nil_of_length_eq_zero oq_;subst hy0;have hrun:(Builtin.append_ #[36,36] o.type #[v,.slice xa 0 xc]).run Tryz.prog w=.ok v w:=by
   obtain ⟨r1,r2⟩:=hown;rcases r2 with ⟨rfl,r0⟩|⟨g,cap,cur,rfl,r5,r6,r7,r8,r9,r10⟩
   ·cases xa <;> simp [Builtin.append_,run_underlying Tryz.underlying36,sizeOf,typeInfo,hi,Builtin.lenOf,Builtin.firstCells,loadCells,loadCellsFrom,storeCells]
   ·cases xa <;> simp [Builtin.append_,run_underlying Tryz.underlying36,sizeOf,typeInfo,hi,Builtin.lenOf,Builtin.firstCells,r7,loadCells,loadCellsFrom,storeCells]
  unfold Oper.wp execOp;simp only [ho,resolve,invoke,builtin,Sem.run_bind,Sem.run_pure,Result.andThen_ok,List.map_toArray,List.map_cons,List.map_nil,hs,hx,hrun];exact hK _ _ (h v w (by simpa using hown) (World.grownBy.refl w _))
 ·obtain ⟨v',w',hrun,k2,k3,_,k5⟩:=run_append_own_at (P:=Tryz.prog) w base 36 o.type 39 i (Value.agg #[.slice none 0 0,.int .i64 0,.int .i64 0,.slice none 0 0]) 4 64 Tryz.underlying36 hi h1 h2 h3 rfl oq_ v n xs hown ⟨b,off,none⟩ m xc ys hyl
   (fun j u hu=>by rw [show (⟨b,off,none⟩:Addr).add j=⟨b,off+j,none⟩ from by simp [Addr.add]];exact hcell j u hu) h1c (by unfold maxLen;omega) oq_ hbase
  unfold Oper.wp execOp;simp only [ho,resolve,invoke,builtin,Sem.run_bind,Sem.run_pure,Result.andThen_ok,List.map_toArray,List.map_cons,List.map_nil,hs,hx,hrun];exact hK _ _ (h v' w' k2 k3)
theorem bm_ {n:Nat} (h:w.ownsRow base 39 4 v n xs):∃ a c,v=.slice a n c:=by
 rcases h.2 with ⟨rfl,h0⟩|⟨g,cap,cur,rfl,_⟩
 ·exact ⟨none,0,by rw [h0]⟩
 ·exact ⟨_,cap,rfl⟩
theorem oz_ (F1 F2:Nat->Prop) (b c:Nat) (v1 v2:Value) (n1 n2:Nat) (l1 l2:List Value) (w:World) (hb:Bxx' w b #[v1,v2]) (h1:RowR w F1 v1 n1 l1) (h2:RowR w F2 v2 n2 l2) (g1:l1.length=n1*4) (g2:l2.length=n2*4)
  (o1:∀ u∈l1,u.oneCell'=true) (o2:∀ u∈l2,u.oneCell'=true) (hl:n1+n2≤1000000) (hc:2≤c) (hc1:c≤1000) :
  Calls Tryz.prog 116 #[.slice (some ⟨b,0,none⟩) 2 c] w fun e w'=>∃ v,e=.returned v∧w'.ownsRow w.heap.size 39 4 v (n1+n2) (l1 ++ l2)∧Below w.heap.size w w':=by
 obtain ⟨a1,c1,rfl⟩:∃ a c,v1=.slice a n1 c:=by obtain ⟨a,c,e,_⟩:=h1;exact ⟨a,c,e⟩
 obtain ⟨a2,c2,rfl⟩:∃ a c,v2=.slice a n2 c:=by obtain ⟨a,c,e,_⟩:=h2;exact ⟨a,c,e⟩
 have q0:w.cell? ⟨b,0,none⟩=some (.slice a1 n1 c1):=(hb 0);have q1:w.cell? ⟨b,1,none⟩=some (.slice a2 n2 c2):=(hb 1);have H1:=fun W (h:Below w.heap.size w W)=>h1.keep (a5_.below h) h.size;have H2:=fun W (h:Below w.heap.size w W)=>h2.keep (a5_.below h) h.size;have HH1:=hq_ H1;have HH2:=hq_ H2;have HO1:=hq_ o1;have HO2:=hq_ o2;clear h1 h2 hb H1 H2 o1 o2
 go_enter Tryz.func116,Tryz.ntmps116
 go_wp2_with fail
 go_loop [11,3] (fun i n=>(i=.int .i64 0∧n=.int .i64 0)∨(i=.int .i64 1∧n=.int .i64 n1)∨(i=.int .i64 2∧n=.int .i64 (n1+n2))) (fun i _=>2-(intOf i).toNat)
 case atStart=>exact .inl ⟨rfl,rfl⟩
 case round=>
  rcases hrel with ⟨rfl,rfl⟩|⟨rfl,rfl⟩|⟨rfl,rfl⟩
  ·go_wp2_with fail
   go_round
   case rel=>exact .inr (.inl ⟨rfl,rfl⟩)
   case measure=>simp [intOf]
  ·go_wp2_with fail
   go_round
   case rel=>exact .inr (.inr ⟨rfl,rfl⟩)
   case measure=>simp [intOf]
  ·go_wp2_with (go_at_call 146;rw [show ((n1:Int)+(n2:Int))=((n1+n2:Nat):Int) from by push_cast;rfl];refine (sm_ (n1+n2) _ hl).mono ?_;rintro e w2 ⟨v2,rfl,hown2,hb2⟩;obtain ⟨va,vc,rfl⟩:=bm_ hown2;obtain ⟨hc2,hf2⟩:=au_ hb2;(try simp only [World.size_alloc,World.size_drew,af_,World.size_setCell] at hc2 hf2))
   have hE2:Below w.heap.size w w2:=hb2;have HOWN2:=hq_ hown2;clear hown2 hb2 hc2 hf2
   go_loopw [27,6] (fun i ns wr=>((i=.int .i64 0∧wr.ownsRow w.heap.size 39 4 ns 0 [])∨(i=.int .i64 1∧wr.ownsRow w.heap.size 39 4 ns n1 l1)∨(i=.int .i64 2∧wr.ownsRow w.heap.size 39 4 ns (n1+n2) (l1 ++ l2)))∧Below w.heap.size w wr) (fun i _ _=>2-(intOf i).toNat)
   case atStart=>exact ⟨.inl ⟨rfl,HOWN2.out⟩,hE2⟩
   case round=>
    obtain ⟨hrel,hEr⟩:=hrel;have q0:=Ext.cell hEr q0;have q1:=Ext.cell hEr q1;have hszr:=hEr.size;rcases hrel with ⟨rfl,hown⟩|⟨rfl,hown⟩|⟨rfl,hown⟩
    ·obtain ⟨na,nc,rfl⟩:=bm_ hown;have HOWN:=hq_ hown;clear hown;go_wp2_with (at_builtin;refine by_ rq_ _ _ rq_ w.heap.size (.slice na 0 nc) (.slice a1 n1 c1) 0 n1 [] l1 F1 rq_ HOWN.out rq_ (HH1.out _ hEr) g1 HO1.out oq_ oq_ ?_;intro v5 w5 hown5 hgrow5;rw [Nat.zero_add,List.nil_append] at hown5;obtain ⟨na5,nc5,rfl⟩:=bm_ hown5)
     go_roundw
     case rel=>exact ⟨.inr (.inl ⟨rfl,hown5⟩),hEr.grown hgrow5 hEr.size (fun k e=>(HOWN.out.lt k e).1)⟩
     case measure=>simp [intOf]
    ·obtain ⟨na,nc,rfl⟩:=bm_ hown;have HOWN:=hq_ hown;clear hown;go_wp2_with (at_builtin;refine by_ rq_ _ _ rq_ w.heap.size (.slice na n1 nc) (.slice a2 n2 c2) n1 n2 l1 l2 F2 rq_ HOWN.out rq_ (HH2.out _ hEr) g2 HO2.out oq_ oq_ ?_;intro v5 w5 hown5 hgrow5;obtain ⟨na5,nc5,rfl⟩:=bm_ hown5)
     go_roundw
     case rel=>exact ⟨.inr (.inr ⟨rfl,hown5⟩),hEr.grown hgrow5 hEr.size (fun k e=>(HOWN.out.lt k e).1)⟩
     case measure=>simp [intOf]
    ·obtain ⟨na,nc,rfl⟩:=bm_ hown;have HOWN:=hq_ hown;clear hown;go_wp2_with fail
     go_ret;exact ⟨_,rfl,HOWN.out,hEr⟩
theorem s5_ (n:Nat) (w:World) (hn:n≤1000000) :
  Calls Tryz.prog 114 #[.slice none 0 0,.int .i64 (n:Int)] w fun e w'=>∃ v,e=.returned v∧w'.ownsRow w.heap.size 36 1 v 0 []∧Below w.heap.size w w':=by
 obtain ⟨i0,hi0,hz0,hs0,hb0⟩:=gi_
 by_cases hpos:0<n
 ·have hrz:∀ ty,(Builtin.append_ #[26,3] ty #[.slice none 0 0,.int .i64 (n:Int)]).run Tryz.prog w =
    .ok (.slice (some ⟨w.heap.size,0,none⟩) n (grownCap w n 0 36)) (w.drew.alloc (.cells (#[] ++ Builtin.zeroCells (Value.slice none 0 0).cells n ++ Builtin.zeroCells (Value.slice none 0 0).cells (grownCap w n 0 36-n)) 36)):=fun ty=>by
   have h:=Lib.run_append_grow_zeros w 26 3 ty 36 i0 (Value.slice none 0 0) .i64 .i64 Tryz.underlying26 Tryz.underlying3 hi0 hz0 none 0 0 [] (run_firstCells_none w.drew i0.size 0 0 0) n hpos oq_ oq_ oq_ (by rw [hb0];omega)
    (growslice_fits oq_ (by rw [hb0];omega))
   simpa using h
  have hGn:n≤grownCap w n 0 36:=grownCap_ge w _ _ _;have hGm:=grownCap_le_maxLen w n 0 36 (by unfold maxLen;omega);obtain ⟨G,hG⟩:∃ G,G=grownCap w n 0 36:=⟨_,rfl⟩;rw [<- hG] at hrz hGn hGm;have hG63:G≤9223372036854775807:=by unfold maxLen at hGm;omega
  have HGM:=hq_ hGm;clear hG hGm;have hnI:(0:Int)<(n:Int):=oq_
  go_enter Tryz.func114,Tryz.ntmps114
  go_wp2_with (at_builtin;refine Lib.wpList_append_run _ rfl _ _ _ _ rfl _ _ rfl rfl _ _ (hrz _) ?_)
  go_ret;refine ⟨_,rfl,⟨rfl,.inr ⟨w.heap.size,G,_,rfl,Nat.le_refl _,World.alloc_heap_new w.drew _,sq_,HGM.out,?_,sq_⟩⟩,?_⟩
  ·simp only [Array.size_append,kk_];simp [Value.cells];omega
  ·exact ((Below.refl _ _).drew).alloc (Nat.le_refl _) _
 ·obtain rfl:n=0:=oq_
  go_enter Tryz.func114,Tryz.ntmps114
  go_wp2_with fail
  go_ret;exact ⟨_,rfl,World.ownsRow_nil _ _ _ _,Below.refl _ _⟩
theorem co_ {a:Act} {Q:Exit->Act->World->Prop} (hgd:o.guard=none) (s x:Operand)
  (ho:o.op=.call { callee:=.builtin .append,args:=#[s,x],argTypes:=#[26,26] }) (base:Nat) (v xv:Value) (n m:Nat) (xs ys:List Value) (F:Nat->Prop) (hs:a.eval s=v) (hown:w.ownsRow base 36 1 v n xs)
  (hx:a.eval x=xv) (hxs:RowR w F xv m ys) (hyl:ys.length=m*1) (h1c:∀ u∈ys,u.oneCell'=true) (hlen:n+m≤1000000) (hbase:base≤w.heap.size)
  (h:∀ v' w',w'.ownsRow base 36 1 v' (n+m) (xs ++ ys)->w.grownBy w' v.ownBlock->wpList Tryz.prog ops Q rest (a.put o.dst v') w') :
  wpList Tryz.prog ops Q (o :: rest) a w:=by
 obtain ⟨i,hi,h1,h2,h3⟩:=gi_;obtain ⟨xa,xc,rfl,g1,g2,g3⟩:=hxs;refine wpList_plain hgd fun K hK=>?_;rcases g3 with rfl|⟨b,off,rfl,_,_,hcell⟩
 ·have hy0:ys=[]:=List.eq_nil_of_length_eq_zero oq_;subst hy0;have hrun:(Builtin.append_ #[26,26] o.type #[v,.slice xa 0 xc]).run Tryz.prog w=.ok v w:=by
   obtain ⟨r1,r2⟩:=hown;rcases r2 with ⟨rfl,r0⟩|⟨g,cap,cur,rfl,r5,r6,r7,r8,r9,r10⟩
   ·cases xa <;> simp [Builtin.append_,run_underlying Tryz.underlying26,sizeOf,typeInfo,hi,Builtin.lenOf,Builtin.firstCells,loadCells,loadCellsFrom,storeCells]
   ·cases xa <;> simp [Builtin.append_,run_underlying Tryz.underlying26,sizeOf,typeInfo,hi,Builtin.lenOf,Builtin.firstCells,r7,loadCells,loadCellsFrom,storeCells]
  unfold Oper.wp execOp;simp only [ho,resolve,invoke,builtin,Sem.run_bind,Sem.run_pure,Result.andThen_ok,List.map_toArray,List.map_cons,List.map_nil,hs,hx,hrun];exact hK _ _ (h v w (by simpa using hown) (World.grownBy.refl w _))
 ·obtain ⟨v',w',hrun,k2,k3,_,k5⟩:=run_append_own_at (P:=Tryz.prog) w base 26 o.type 36 i (Value.slice none 0 0) 1 24 Tryz.underlying26 hi h1 h2 h3 rfl oq_ v n xs hown ⟨b,off,none⟩ m xc ys hyl
   (fun j u hu=>by rw [show (⟨b,off,none⟩:Addr).add j=⟨b,off+j,none⟩ from by simp [Addr.add]];exact hcell j u hu) h1c (by unfold maxLen;omega) oq_ hbase
  unfold Oper.wp execOp;simp only [ho,resolve,invoke,builtin,Sem.run_bind,Sem.run_pure,Result.andThen_ok,List.map_toArray,List.map_cons,List.map_nil,hs,hx,hrun];exact hK _ _ (h v' w' k2 k3)
theorem cu_ {n:Nat} (h:w.ownsRow base 36 1 v n xs):∃ a c,v=.slice a n c:=by
 rcases h.2 with ⟨rfl,h0⟩|⟨g,cap,cur,rfl,_⟩
 ·exact ⟨none,0,by rw [h0]⟩
 ·exact ⟨_,cap,rfl⟩
theorem pr_ (F1 F2:Nat->Prop) (b c:Nat) (v1 v2:Value) (n1 n2:Nat) (l1 l2:List Value) (w:World) (hb:Bxx' w b #[v1,v2]) (h1:RowR w F1 v1 n1 l1) (h2:RowR w F2 v2 n2 l2) (g1:l1.length=n1*1) (g2:l2.length=n2*1)
  (o1:∀ u∈l1,u.oneCell'=true) (o2:∀ u∈l2,u.oneCell'=true) (hl:n1+n2≤1000000) (hc:2≤c) (hc1:c≤1000) :
  Calls Tryz.prog 69 #[.slice (some ⟨b,0,none⟩) 2 c] w fun e w'=>∃ v,e=.returned v∧w'.ownsRow w.heap.size 36 1 v (n1+n2) (l1 ++ l2)∧Below w.heap.size w w':=by
 obtain ⟨a1,c1,rfl⟩:∃ a c,v1=.slice a n1 c:=by obtain ⟨a,c,e,_⟩:=h1;exact ⟨a,c,e⟩
 obtain ⟨a2,c2,rfl⟩:∃ a c,v2=.slice a n2 c:=by obtain ⟨a,c,e,_⟩:=h2;exact ⟨a,c,e⟩
 have q0:w.cell? ⟨b,0,none⟩=some (.slice a1 n1 c1):=(hb 0);have q1:w.cell? ⟨b,1,none⟩=some (.slice a2 n2 c2):=(hb 1);have H1:=fun W (h:Below w.heap.size w W)=>h1.keep (a5_.below h) h.size;have H2:=fun W (h:Below w.heap.size w W)=>h2.keep (a5_.below h) h.size;have HH1:=hq_ H1;have HH2:=hq_ H2;have HO1:=hq_ o1;have HO2:=hq_ o2;clear h1 h2 hb H1 H2 o1 o2
 go_enter Tryz.func69,Tryz.ntmps69
 go_wp2_with fail
 go_loop [11,3] (fun i n=>(i=.int .i64 0∧n=.int .i64 0)∨(i=.int .i64 1∧n=.int .i64 n1)∨(i=.int .i64 2∧n=.int .i64 (n1+n2))) (fun i _=>2-(intOf i).toNat)
 case atStart=>exact .inl ⟨rfl,rfl⟩
 case round=>
  rcases hrel with ⟨rfl,rfl⟩|⟨rfl,rfl⟩|⟨rfl,rfl⟩
  ·go_wp2_with fail
   go_round
   case rel=>exact .inr (.inl ⟨rfl,rfl⟩)
   case measure=>simp [intOf]
  ·go_wp2_with fail
   go_round
   case rel=>exact .inr (.inr ⟨rfl,rfl⟩)
   case measure=>simp [intOf]
  ·go_wp2_with (go_at_call 114;rw [show ((n1:Int)+(n2:Int))=((n1+n2:Nat):Int) from by push_cast;rfl];refine (s5_ (n1+n2) _ hl).mono ?_;rintro e w2 ⟨v2,rfl,hown2,hb2⟩;obtain ⟨va,vc,rfl⟩:=cu_ hown2;obtain ⟨hc2,hf2⟩:=au_ hb2;(try simp only [World.size_alloc,World.size_drew,af_,World.size_setCell] at hc2 hf2))
   have hE2:Below w.heap.size w w2:=hb2;have HOWN2:=hq_ hown2;clear hown2 hb2 hc2 hf2
   go_loopw [27,6] (fun i ns wr=>((i=.int .i64 0∧wr.ownsRow w.heap.size 36 1 ns 0 [])∨(i=.int .i64 1∧wr.ownsRow w.heap.size 36 1 ns n1 l1)∨(i=.int .i64 2∧wr.ownsRow w.heap.size 36 1 ns (n1+n2) (l1 ++ l2)))∧Below w.heap.size w wr) (fun i _ _=>2-(intOf i).toNat)
   case atStart=>exact ⟨.inl ⟨rfl,HOWN2.out⟩,hE2⟩
   case round=>
    obtain ⟨hrel,hEr⟩:=hrel;have q0:=Ext.cell hEr q0;have q1:=Ext.cell hEr q1;have hszr:=hEr.size;rcases hrel with ⟨rfl,hown⟩|⟨rfl,hown⟩|⟨rfl,hown⟩
    ·obtain ⟨na,nc,rfl⟩:=cu_ hown;have HOWN:=hq_ hown;clear hown;go_wp2_with (at_builtin;refine co_ rq_ _ _ rq_ w.heap.size (.slice na 0 nc) (.slice a1 n1 c1) 0 n1 [] l1 F1 rq_ HOWN.out rq_ (HH1.out _ hEr) g1 HO1.out oq_ oq_ ?_;intro v5 w5 hown5 hgrow5;rw [Nat.zero_add,List.nil_append] at hown5;obtain ⟨na5,nc5,rfl⟩:=cu_ hown5)
     go_roundw
     case rel=>exact ⟨.inr (.inl ⟨rfl,hown5⟩),hEr.grown hgrow5 hEr.size (fun k e=>(HOWN.out.lt k e).1)⟩
     case measure=>simp [intOf]
    ·obtain ⟨na,nc,rfl⟩:=cu_ hown;have HOWN:=hq_ hown;clear hown;go_wp2_with (at_builtin;refine co_ rq_ _ _ rq_ w.heap.size (.slice na n1 nc) (.slice a2 n2 c2) n1 n2 l1 l2 F2 rq_ HOWN.out rq_ (HH2.out _ hEr) g2 HO2.out oq_ oq_ ?_;intro v5 w5 hown5 hgrow5;obtain ⟨na5,nc5,rfl⟩:=cu_ hown5)
     go_roundw
     case rel=>exact ⟨.inr (.inr ⟨rfl,hown5⟩),hEr.grown hgrow5 hEr.size (fun k e=>(HOWN.out.lt k e).1)⟩
     case measure=>simp [intOf]
    ·obtain ⟨na,nc,rfl⟩:=cu_ hown;have HOWN:=hq_ hown;clear hown;go_wp2_with fail
     go_ret;exact ⟨_,rfl,HOWN.out,hEr⟩
theorem MixR.form {F:Nat->Prop} (h:MixR W F v m):∃ a c,v=.slice a m.length c:=by
 obtain ⟨L,rfl,hL⟩:=h;obtain ⟨a,c,rfl,_⟩:=hL.row.is;exact ⟨a,c,by rw [List.length_map]⟩
theorem MixR.set {n:Nat} {u:Value} {b:Nat} (h:MixR W (fun k=>n≤k) v m) (hb:b<n):MixR (W.setCell ⟨b,i,none⟩ u) (fun k=>n≤k) v m:=
 h.keep (fun k hk _=>Below.heap_setCell W ⟨b,i,none⟩ u k (by show k≠b;omega)) (by rw [World.size_setCell];exact Nat.le_refl _)
structure MV (s:Int) (m:List (List Per)):Prop where
 val:bj_ m=true
 vt:∀ t∈m,aw_ s t
theorem MV.len (h:MV s m):m.length≤64:=by
 have:=h.val;unfold bj_ at this;rw [Bool.and_eq_true,decide_eq_true_iff] at this;exact this.1
theorem MixL.cells_one {F:Nat->Prop} {L:List (Value × List Per)} (h:MixL W F v L):∀ u∈L.map Prod.fst,u.oneCell'=true:=fun u hu=>by
 obtain ⟨x,hx,rfl⟩:=List.mem_map.1 hu;exact (h.all x hx).one
theorem kq_ {L:List (Value × List Per)} (h:W.ownsRow B 36 1 v L.length (L.map Prod.fst)) (hl:L.length≤1000000) (ha:∀ x∈L,∃ F,ab_ W F x.1 x.2):MixL W (fun _=>True) v L:=by
 refine ⟨?_,oq_,fun x hx=>(ha x hx).choose_spec.mono fun _ _=>trivial⟩;obtain ⟨hl,⟨rfl,h2⟩|⟨g,cap,cur,rfl,hb,hg,h3,h4,h5,h6⟩⟩:=h
 ·rw [h2];exact ⟨none,0,rfl,oq_,oq_,.inl rfl⟩
 ·refine ⟨_,cap,rfl,h3,h4,.inr ⟨g,0,rfl,trivial,(Array.getElem?_eq_some_iff.1 hg).1,fun i u hi=>?_⟩⟩;rw [Nat.zero_add];have h7:W.ownsRow B 36 1 (.slice (some ⟨g,0,none⟩) L.length cap) L.length (L.map Prod.fst):=⟨hl,.inr ⟨g,cap,cur,rfl,hb,hg,h3,h4,h5,h6⟩⟩;have:=(List.getElem?_eq_some_iff.1 hi).1;rw [List.length_map] at this;exact (h7.cellAt i oq_).trans hi
theorem kn_ (F1 F2:Nat->Prop) (b c:Nat) (v1 v2:Value) (m1 m2:List (List Per)) (w:World) (hb:Bxx' w b #[v1,v2]) (h1:MixR w F1 v1 m1) (h2:MixR w F2 v2 m2) (hl:m1.length+m2.length≤1000000) (hc:2≤c) (hc1:c≤1000) :
  Calls Tryz.prog 69 #[.slice (some ⟨b,0,none⟩) 2 c] w fun e w'=>∃ v,e=.returned v∧MixR w' (fun _=>True) v (m1 ++ m2)∧Below w.heap.size w w':=by
 obtain ⟨L1,rfl,hL1⟩:=h1;obtain ⟨L2,rfl,hL2⟩:=h2;rw [List.length_map,List.length_map] at hl;refine (pr_ F1 F2 b c v1 v2 _ _ _ _ w hb hL1.row hL2.row sq_ sq_ hL1.cells_one hL2.cells_one hl hc hc1).mono ?_;rintro e w' ⟨v,rfl,hr,hbl⟩;refine ⟨v,rfl,⟨L1 ++ L2,by rw [List.map_append],kq_ (by rw [List.length_append,List.map_append];exact hr) (by rw [List.length_append];exact hl) fun x hx=>?_⟩,hbl⟩;rcases List.mem_append.1 hx with hx|hx
 ·exact ⟨_,(hL1.all x hx).ext hbl⟩
 ·exact ⟨_,(hL2.all x hx).ext hbl⟩
theorem ln_ (s:Int) (F1 F2:Nat->Prop) (v1 v2:Value) (m1 m2:List (List Per)) (w:World) (h1:MixR w F1 v1 m1) (h2:MixR w F2 v2 m2) (k1:MV s m1) (k2:MV s m2) :
  Calls Tryz.prog 21 #[.agg #[v1],.agg #[v2]] w (c8_ s (m1 ++ m2) w):=by
 have HV1:=fun W (h:Below w.heap.size w W)=>bh_ F1 v1 m1 W (h1.ext h);have HV2:=fun W (h:Below w.heap.size w W)=>bh_ F2 v2 m2 W (h2.ext h);rw [k1.val] at HV1;rw [k2.val] at HV2;have l1:=k1.len;have l2:=k2.len;have HCO:=fun W (h:Below w.heap.size w W) b hb=>kn_ F1 F2 b 2 v1 v2 m1 m2 W hb (h1.ext h) (h2.ext h) oq_ oq_ oq_;obtain ⟨a1,c1,rfl⟩:=h1.form;obtain ⟨a2,c2,rfl⟩:=h2.form;have HVT:Hid (∀ t∈m1 ++ m2,aw_ s t):=hq_ fun t ht=>(List.mem_append.1 ht).elim (k1.vt t) (k2.vt t);clear h1 h2 k1 k2
 go_enter Tryz.func21,Tryz.ntmps21
 go_wp2_with (first|(go_at_call 18;first
   | ((with_reducible refine (HV1 _ xE).mono ?_);rintro e w1 ⟨rfl,hb1⟩;have b0:Bxx w1 w.heap.size #[.slice a1 m1.length c1] 28:=Bxx.below xB hb1;have b1:Bxx w1 (w.heap.size+1) #[.slice a2 m2.length c2] 28:=Bxx.below xB hb1;have b2:Bxx w1 (w.heap.size+1+1) #[.slice none 0 0] 28:=Bxx.below xB hb1;have x0:=b0.c0;have x1:=b1.c0;have hW1:Below w.heap.size w w1:=by exact xE)
   | ((with_reducible refine (HV2 _ xE).mono ?_);rintro e w2 ⟨rfl,hb2⟩;have d0:=b0.below hb2;have d1:=b1.below hb2;have d2:=b2.below hb2;have y0:=d0.c0;have y1:=d1.c0;have hW2:Below w.heap.size w w2:=by exact xE))|(go_at_call 69;(refine (HCO (w2.alloc (.cells #[.slice a1 m1.length c1,.slice a2 m2.length c2] 26)) (Ea hW2 _) w2.heap.size (fun i=>((Bxx.new w2 _ 26).cells i).1)).mono ?_;rintro e w3 ⟨v,rfl,hm,hb3⟩;obtain ⟨va,vc,rfl⟩:=hm.form;rw [List.length_append] at hm;have f2:=(d2.alloc (.cells #[.slice a1 m1.length c1,.slice a2 m2.length c2] 26)).below hb3;have hW3:Below w.heap.size w w3:=Et (Ea hW2 _) hb3;have HM:=hq_ hm;have F2:=hq_ f2;have hz3:=f2.lt;clear hm f2))|(go_at_call 61;refine (dn_ _ _ ⟨_,_,_,rfl⟩).mono ?_;rintro e w4 ⟨rfl,rfl⟩)|(go_at_call 68;refine (ek_ s _ _ (m1 ++ m2) _ (dv_ (fun _=>True) (.slice va (m1.length+m2.length) vc) (m1 ++ m2) w3.heap.size _ (HM.out.ext (Ea (Er w3) _)) (Bxx.new w3 _ 26).c0) HVT.out tq_).mono ?_;rintro e w5 ⟨v,m,hN,hvt,hb5,hres⟩;have g2:=(F2.out.alloc (.cells #[.slice va (m1.length+m2.length) vc] 26)).below hb5;have s1:=(g2.cells 0).1;have s2:=(g2.cells 0).2;have hW5:Below w.heap.size w w5:=Et (Ea hW3 _) hb5;have HN:=hq_ hN;have HVV:=hq_ hvt;have G2:=hq_ g2;clear hN hvt g2;rcases hres with ⟨hval,rfl,hmr⟩|⟨hval,rfl⟩;(obtain ⟨xa,xc,rfl⟩:=hmr.form)))
 ·have hcc:=Bxx.c0 (w:=w5.setCell ⟨w.heap.size+1+1,0,none⟩ (.slice xa m.length xc)) (a4_ 0 (.slice xa m.length xc) G2.out);refine bodyPost_ret (v:=.tuple #[.agg #[.slice xa m.length xc],.int .i64 0]) (by simp [results,Tryz.results21,go_sem,hcc]) rfl ⟨_,m,HN.out,HVV.out,hW5.setCell (p:=⟨w.heap.size+1+1,0,none⟩) (by show w.heap.size≤w.heap.size+1+1;omega) _,.inl ⟨hval,rfl,?_⟩⟩;exact (hmr.set (b:=w.heap.size+1+1) tq_).mono fun b (hb:_≤b)=>by simp at hb;omega
 ·have hcc:=Bxx.c0 (w:=w5.setCell ⟨w.heap.size+1+1,0,none⟩ (.slice none 0 0)) (a4_ 0 (.slice none 0 0) G2.out);exact bodyPost_ret (v:=.tuple #[.agg #[.slice none 0 0],.int .i64 2]) (by simp [results,Tryz.results21,go_sem,hcc]) rfl ⟨.slice none 0 0,m,HN.out,HVV.out,hW5.setCell (p:=⟨w.heap.size+1+1,0,none⟩) (by show w.heap.size≤w.heap.size+1+1;omega) _,.inr ⟨hval,rfl⟩⟩
end Go.Proofs.YthjnojbeimchdaaGreat
namespace Go.Proofs.YthjnojbeimchdaaGreat
open Go.RowKit Go.Shelf Kal
attribute [local go_sem] Oper.semAt_some
theorem be_.cells_one {F:Nat->Prop} (h:be_ W F v L):∀ u∈L.flatMap PV.enc,u.oneCell'=true:=fun u hu=>by
 obtain ⟨x,hx,hu⟩:=List.mem_flatMap.1 hu;exact (h.all x hx).one u hu
theorem gw_ (h:W.ownsRow B 39 4 v L.length (L.flatMap PV.enc)) (hl:L.length≤1000000) (ha:∀ x∈L,∃ F,PVok W F x):be_ W (fun _=>True) v L:=by
 refine ⟨?_,oq_,fun x hx=>(ha x hx).choose_spec.mono fun _ _=>trivial⟩;obtain ⟨hl,⟨rfl,h2⟩|⟨g,cap,cur,rfl,hb,hg,h3,h4,h5,h6⟩⟩:=h
 ·rw [h2];exact ⟨none,0,rfl,oq_,oq_,.inl rfl⟩
 ·refine ⟨_,cap,rfl,h3,h4,.inr ⟨g,0,rfl,trivial,(Array.getElem?_eq_some_iff.1 hg).1,fun i u hi=>?_⟩⟩;rw [Nat.zero_add];have h7:W.ownsRow B 39 4 (.slice (some ⟨g,0,none⟩) L.length cap) L.length (L.flatMap PV.enc):=⟨hl,.inr ⟨g,cap,cur,rfl,hb,hg,h3,h4,h5,h6⟩⟩;have:=(List.getElem?_eq_some_iff.1 hi).1;rw [c3_] at this;exact (h7.cellAt i oq_).trans hi
theorem pu_ (F1 F2:Nat->Prop) (b c:Nat) (v1 v2:Value) (t1 t2:List Per) (w:World) (hb:Bxx' w b #[v1,v2]) (h1:ab_ w F1 v1 t1) (h2:ab_ w F2 v2 t2) (hl:t1.length+t2.length≤1000000) (hc:2≤c) (hc1:c≤1000) :
  Calls Tryz.prog 116 #[.slice (some ⟨b,0,none⟩) 2 c] w fun e w'=>∃ v,e=.returned v∧ab_ w' (fun _=>True) v (t1 ++ t2)∧Below w.heap.size w w':=by
 obtain ⟨L1,rfl,hL1⟩:=h1;obtain ⟨L2,rfl,hL2⟩:=h2;rw [List.length_map,List.length_map] at hl;refine (oz_ F1 F2 b c v1 v2 _ _ _ _ w hb hL1.row hL2.row c3_ c3_ hL1.cells_one hL2.cells_one hl hc hc1).mono ?_;rintro e w' ⟨v,rfl,hr,hbl⟩;refine ⟨v,rfl,⟨L1 ++ L2,by rw [List.map_append],gw_ (by rw [List.length_append,List.flatMap_append];exact hr) (by rw [List.length_append];exact hl) fun x hx=>?_⟩,hbl⟩;rcases List.mem_append.1 hx with hx|hx
 ·exact ⟨_,(hL1.all x hx).keep (a5_.below hbl)⟩
 ·exact ⟨_,(hL2.all x hx).keep (a5_.below hbl)⟩
theorem ly_ (v1 v2:Value) (w:World) (h1:∃ a n c,v1=.slice a n c) (h2:∃ a n c,v2=.slice a n c) :
  Calls Tryz.prog 70 #[.agg #[v1],.agg #[v2]] w fun e w'=>e=.returned (.func (.func 115) #[] #[.pointer (some ⟨w.heap.size,0,none⟩),.pointer (some ⟨w.heap.size+1,0,none⟩)])∧w'=(w.alloc (.cells #[v1] 28)).alloc (.cells #[v2] 28):=by
 obtain ⟨a,n,c,rfl⟩:=h1;obtain ⟨a',n',c',rfl⟩:=h2
 go_enter Tryz.func70,Tryz.ntmps70
 go_wp2
 go_ret;exact ⟨rfl,rfl⟩
theorem mg_ {x:List Per} (hk:m1[k]? = some x):ao_ (m1.take (k+1)) m2=ao_ (m1.take k) m2 ++ m2.map (x ++ ·):=by
 obtain ⟨h1,rfl⟩:=List.getElem?_eq_some_iff.1 hk;unfold ao_;rw [List.take_succ_eq_append_getElem h1,List.flatMap_append];simp
theorem ox_ {x y:List Per} (hk:m1[k]? = some x) (hj:m2[j]? = some y):∃ r,ao_ m1 m2=(ao_ (m1.take k) m2 ++ (m2.take j).map (x ++ ·)) ++ (x ++ y) :: r:=by
 obtain ⟨h1,rfl⟩:=List.getElem?_eq_some_iff.1 hk;obtain ⟨h2,rfl⟩:=List.getElem?_eq_some_iff.1 hj;refine ⟨(m2.drop (j+1)).map (m1[k] ++ ·) ++ ao_ (m1.drop (k+1)) m2,?_⟩;have e1:m1=m1.take k ++ m1[k] :: m1.drop (k+1):=by rw [<- List.drop_eq_getElem_cons h1,List.take_append_drop]
 have e2:m2=m2.take j ++ m2[j] :: m2.drop (j+1):=by rw [<- List.drop_eq_getElem_cons h2,List.take_append_drop]
 have e3:m2.map (m1[k] ++ ·)=(m2.take j).map (m1[k] ++ ·) ++ (m1[k] ++ m2[j]) :: (m2.drop (j+1)).map (m1[k] ++ ·):=by
  conv=>lhs;rw [e2]
  simp only [List.map_append,List.map_cons]
 have e4:ao_ m1 m2=ao_ (m1.take k) m2 ++ (m2.map (m1[k] ++ ·) ++ ao_ (m1.drop (k+1)) m2):=by
  conv=>lhs;rw [e1]
  unfold ao_;rw [List.flatMap_append,List.flatMap_cons]
 rw [e4,e3];simp
theorem MixL.at {F:Nat->Prop} {L:List (Value × List Per)} (h:MixL W F v L) (hk:k<L.length):∃ b o c a n c' x,v=.slice (some ⟨b,o,none⟩) L.length c∧W.cell? ⟨b,o+k,none⟩=some (.slice a n c')∧ab_ W F (.slice a n c') x∧(L.map Prod.snd)[k]? = some x:=by
 obtain ⟨a',c,rfl,_,_,h3⟩:=h.row.is;rcases h3 with h0|⟨b,o,rfl,hF,hb,hcell⟩
 ·omega
 have hyt:=h.all _ (aa_ (d:=default) hk);obtain ⟨a,c',e,_⟩:=hyt.form;refine ⟨b,o,c,a,_,c',(L.getD k default).2,rfl,?_,by rw [<- e];exact hyt,by rw [List.getElem?_map,List.getD_eq_getElem?_getD,List.getElem?_eq_getElem hk];rfl⟩;rw [<- e];exact hcell k _ (by rw [List.getElem?_map,List.getD_eq_getElem?_getD,List.getElem?_eq_getElem hk];rfl)
theorem KpB.lt {n:Nat} {wr:World} (h:KpB (fun k=>k<n) W wr) (hn:n≤W.heap.size) (hk:k<n):k<wr.heap.size:=by
 have h1:=h k hk;rw [Array.getElem?_eq_getElem (show k<W.heap.size by omega)] at h1;exact (Array.getElem?_eq_some_iff.1 h1).1
theorem lz_ (F1 F2:Nat->Prop) (v1 v2:Value) (m1 m2:List (List Per)) (b1 b2:Nat) (w:World) (h1:MixR w F1 v1 m1) (h2:MixR w F2 v2 m2) (hb1:w.cell? ⟨b1,0,none⟩=some v1) (hb2:w.cell? ⟨b2,0,none⟩=some v2) (hl1:∀ t∈m1,t.length≤500000) (hl2:∀ t∈m2,t.length≤500000) :
  n3_ 115 #[.pointer (some ⟨b1,0,none⟩),.pointer (some ⟨b2,0,none⟩)] (ao_ m1 m2) w:=by
 refine ⟨enters_of Tryz.func115 (by kernel_rfl) rfl,fun W0 hW0=>?_⟩;obtain ⟨L1,hT1,hL1⟩:=h1;obtain ⟨L2,hT2,hL2⟩:=h2;intro l' J W hW hJ hY hJ0;have hlt1:=World.block_lt_of_cell? w _ hb1;have hlt2:=World.block_lt_of_cell? w _ hb2;have hWw:Below w.heap.size w W:=hW0.trans (hW.mono hW0.size);have hws:=hWw.size;have c1:=Ext.cell hWw hb1;have c2:=Ext.cell hWw hb2;obtain ⟨a1,k1,rfl,_,_,_⟩:=hL1.row.is;obtain ⟨a2,k2,rfl,_,_,_⟩:=hL2.row.is;have hn1:=hL1.len;have hn2:=hL2.len;have H1:Hid (∀ wr,KpB (fun k=>k<w.heap.size) W wr->MixL wr (fun b=>F1 b∧b<w.heap.size) (.slice a1 L1.length k1) L1):=hq_ fun wr h=>hL1.lt.keep2 fun b hb _=>(h b hb.2).trans (hWw.block b hb.2);have H2:Hid (∀ wr,KpB (fun k=>k<w.heap.size) W wr->MixL wr (fun b=>F2 b∧b<w.heap.size) (.slice a2 L2.length k2) L2):=hq_ fun wr h=>hL2.lt.keep2 fun b hb _=>(h b hb.2).trans (hWw.block b hb.2);have HT1:=hq_ hT1;have HT2:=hq_ hT2;have HJ:=hq_ hJ;have HY:=hq_ hY;have HL1:=hq_ hl1;have HL2:=hq_ hl2;clear hL1 hL2 hT1 hT2 hJ hY hb1 hb2 hl1 hl2;refine callsIn_of_wp Tryz.func115 rfl trivial ?_ rfl;simp only [Tryz.ntmps115,List.size_toArray,List.length_cons,List.length_nil,Nat.reduceAdd,Nat.reduceSub,Array.replicate_succ,Array.replicate_zero,List.push_toArray,List.append_toArray,List.nil_append,List.cons_append]
 gi_wp2_with fail
 gi_loopw [5,7,11] (fun _ _ i wr=>∃ (k:Nat) (pre:List (Value × List Per)),k≤L1.length∧i=.int .i64 k∧Hid (pre.map Prod.snd=ao_ (m1.take k) m2)∧J pre wr∧KpB (fun k=>k<w.heap.size) W wr) (fun _ _ i _=>L1.length-(intOf i).toNat)
 case atStart=>exact ⟨0,[],oq_,rfl,hq_ rfl,hJ0,fun _ _=>rfl⟩
 case round=>
  obtain ⟨k,pre,hk,rfl,HP,hJw,hK⟩:=hrel;have HK:=hq_ hK;have HJW:=hq_ hJw
  by_cases hlt:k<L1.length
  ·have hlI:(k:Int)<L1.length:=oq_;obtain ⟨b8,f8,c8,xa,xn,xc,x,he,e0,htx,hmx⟩:=(H1.out wr hK).at hlt;cases he;rw [HT1.out] at hmx;have HMX:=hq_ hmx;have c2r:=(World.cell?_of_block (w:=W) (w':=wr) (a:=⟨b2,0,none⟩) (hK b2 hlt2)).trans c2;have HXL:=hq_ (HL1.out x (List.mem_of_getElem? hmx));have HTX:=hq_ htx;clear htx hmx hK hJw
   gi_wp2_with fail
   gi_loopw [7,18] (fun _ i wr=>∃ (j:Nat) (pre:List (Value × List Per)),j≤L2.length∧i=.int .i64 j∧Hid (pre.map Prod.snd=ao_ (m1.take k) m2 ++ (m2.take j).map (x ++ ·))∧J pre wr∧KpB (fun k=>k<w.heap.size) W wr) (fun _ i _=>L2.length-(intOf i).toNat)
   case atStart=>exact ⟨0,pre,oq_,rfl,hq_ (by rw [HP.out];simp),HJW.out,HK.out⟩
   case round=>
    obtain ⟨j,pre,hj,rfl,HP2,hJw,hK⟩:=hrel;have HK2:=hq_ hK;have HJW2:=hq_ hJw
    by_cases hjl:j<L2.length
    ·have hjI:(j:Int)<L2.length:=oq_;obtain ⟨b9,f9,c9,ya,yn,yc,y,he,e1,hty,hmy⟩:=(H2.out wr hK).at hjl;cases he;rw [HT2.out] at hmy;have htx:=HTX.out.keep2 (W':=wr) (fun b hb _=>(hK b hb.2).trans (HK.out b hb.2).symm);have hyl:=HL2.out y (List.mem_of_getElem? hmy);have hxl:=HXL.out;have HC:=pu_ _ _ wr.heap.size 2 (.slice xa xn xc) (.slice ya yn yc) x y (wr.alloc (.cells #[.slice xa xn xc,.slice ya yn yc] 36)) (fun i=>((Bxx.new wr _ 36).cells i).1) (htx.ext (Ea (Er wr) _)) (hty.ext (Ea (Er wr) _)) oq_ oq_ oq_;obtain ⟨r0,hr0⟩:=ox_ HMX.out hmy;have HR0:=hq_ hr0;have HMY:=hq_ hmy;clear htx hty hmy hr0 hyl hxl
     gi_wp2_with (refine ⟨trivial,rfl,?_⟩;gi_at_call 116;refine (callsIn_wide.2 HC).mono ?_;rintro e w3 ⟨v3,rfl,ht3,hb3⟩;obtain ⟨za,zc,rfl,_⟩:=ht3.form;rw [List.length_append] at ht3;have hb4:=(Ea (Er wr) (.cells #[.slice xa xn xc,.slice ya yn yc] 36)).trans (hb3.mono sq_);have hJ3:=HJ.out pre wr w3 none hJw (World.grownBy.of_below hb4 none) (fun r e=>by cases e);have hEy:EyT (ao_ m1 m2) pre (.slice za (x.length+y.length) zc,x ++ y) w3:=⟨⟨r0,by rw [HP2.out];exact HR0.out⟩,_,ht3⟩;obtain ⟨fn,tmps,assign,body,hyy,hR⟩:=HY.out pre _ w3 hJ3 hEy;unfold tenc at hyy;have HR:=hq_ hR;have HB4:=hq_ hb4;clear hEy hJ3 hR hb3 hb4 ht3)
     refine ⟨rfl,HR.out.mono ?_⟩;rintro e W' ⟨rfl,hJ',hk'⟩
     gi_wp2
     go_roundw
     case rel=>exact ⟨j+1,pre ++ [(.slice za (x.length+y.length) zc,x ++ y)],oq_,by go_num,hq_ (by rw [List.map_append,HP2.out,List.append_assoc];congr 1;obtain ⟨h1,rfl⟩:=List.getElem?_eq_some_iff.1 HMY.out;rw [List.take_succ_eq_append_getElem h1,List.map_append];rfl),hJ',(HK2.out.trans (fun b hb=>HB4.out.block b (HK2.out.lt hws hb))).trans hk'⟩
     case measure=>simp [intOf];omega
    ·obtain rfl:j=L2.length:=oq_;clear hK hJw
     gi_wp2
     go_roundw
     case rel=>exact ⟨k+1,pre,oq_,by go_num,hq_ (by rw [HP2.out,mg_ HMX.out,List.take_of_length_le (l:=m2) (by rw [<- HT2.out];simp)]),HJW2.out,HK2.out⟩
     case measure=>simp [intOf];omega
  ·obtain rfl:k=L1.length:=oq_;clear hK hJw
   gi_wp2
   refine bodyPost_end (results_none rfl _ _ _) rfl ?_;refine ⟨⟨_,rfl⟩,pre,?_,HJW.out⟩;show _=_;rw [HP.out,List.take_of_length_le (l:=m1) (by rw [<- HT1.out];simp)]
end Go.Proofs.YthjnojbeimchdaaGreat
namespace Go.Proofs.YthjnojbeimchdaaGreat
open Go.RowKit Go.Maps Kal
theorem MV.tlen (h:MV s m):∀ t∈m,t.length≤4:=fun t ht=>by
 have h1:=h.val;unfold bj_ at h1;rw [Bool.and_eq_true] at h1;have h2:=List.all_eq_true.1 h1.2 t ht;unfold br_ at h2;rw [Bool.and_eq_true,Bool.and_eq_true,decide_eq_true_iff,decide_eq_true_iff] at h2;exact h2.1.2
theorem gd_:∀ {a b:List (List Per)},(ao_ a b).length=a.length*b.length
 | [],b=>by simp [ao_]
 | x :: a,b=>by
  have h:=gd_ (a:=a) (b:=b);have e:ao_ (x :: a) b=b.map (x ++ ·) ++ ao_ a b:=rfl;rw [e,List.length_append,List.length_map,h,List.length_cons,Nat.succ_mul,Nat.add_comm]
theorem jx_ (s:Int) (F1 F2:Nat->Prop) (v1 v2:Value) (m1 m2:List (List Per)) (w:World) (h1:MixR w F1 v1 m1) (h2:MixR w F2 v2 m2) (k1:MV s m1) (k2:MV s m2) :
  Calls Tryz.prog 22 #[.agg #[v1],.agg #[v2]] w (c8_ s (ao_ m1 m2) w):=by
 have HV1:=fun W (h:Below w.heap.size w W)=>bh_ F1 v1 m1 W (h1.ext h);have HV2:=fun W (h:Below w.heap.size w W)=>bh_ F2 v2 m2 W (h2.ext h);rw [k1.val] at HV1;rw [k2.val] at HV2;have l1:=k1.len;have l2:=k2.len;have HVT:Hid (∀ t∈ao_ m1 m2,aw_ s t):=hq_ fun t ht=>by
  obtain ⟨x,hx,y,hy,rfl⟩:=hi_.1 ht;refine ⟨fun e=>(k1.vt x hx).ne (List.append_eq_nil_iff.1 e).1,fun p hp=>(List.mem_append.1 hp).elim ((k1.vt x hx).fv p) ((k2.vt y hy).fv p),?_⟩;rw [List.length_append];have:=k1.tlen x hx;have:=k2.tlen y hy;omega
 have hpl:(ao_ m1 m2).length≤4096:=by rw [gd_];exact Nat.mul_le_mul l1 l2
 have HIT:=fun W (h:Below w.heap.size w W) b1 b2 hb1 hb2=>lz_ F1 F2 v1 v2 m1 m2 b1 b2 W (h1.ext h) (h2.ext h) hb1 hb2 (fun t ht=>by have:=k1.tlen t ht;omega) (fun t ht=>by have:=k2.tlen t ht;omega);obtain ⟨a1,c1,rfl⟩:=h1.form;obtain ⟨a2,c2,rfl⟩:=h2.form;have hit:=hq_ HIT;clear h1 h2 k1 k2 HIT
 go_enter Tryz.func22,Tryz.ntmps22
 go_wp2_with (first|(go_at_call 18;first
   | ((with_reducible refine (HV1 _ xE).mono ?_);rintro e w1 ⟨rfl,hb1⟩;have b0:Bxx w1 w.heap.size #[.slice a1 m1.length c1] 28:=Bxx.below xB hb1;have b1:Bxx w1 (w.heap.size+1) #[.slice a2 m2.length c2] 28:=Bxx.below xB hb1;have b2:Bxx w1 (w.heap.size+1+1) #[.slice none 0 0] 28:=Bxx.below xB hb1;have x0:=b0.c0;have x1:=b1.c0;have hW1:Below w.heap.size w w1:=by exact xE)
   | ((with_reducible refine (HV2 _ xE).mono ?_);rintro e w2 ⟨rfl,hb2⟩;have d0:=b0.below hb2;have d1:=b1.below hb2;have d2:=b2.below hb2;have y0:=d0.c0;have y1:=d1.c0;have hW2:Below w.heap.size w w2:=by exact xE))|(go_at_call 70;refine (ly_ _ _ _ ⟨_,_,_,rfl⟩ ⟨_,_,_,rfl⟩).mono ?_;rintro e w4 ⟨rfl,rfl⟩;have hz2:=d2.lt)|(go_at_call 68;refine (ek_ s _ _ (ao_ m1 m2) _ (hit.out _ (Ea (Ea hW2 _) _) w2.heap.size (w2.heap.size+1) ((Bxx.new w2 #[.slice a1 m1.length c1] 28).alloc (.cells #[.slice a2 m2.length c2] 28)).c0 (Bxx.at (w:=w2.alloc (.cells #[.slice a1 m1.length c1] 28)) (c:=#[.slice a2 m2.length c2]) (t:=28) sq_).c0) HVT.out oq_).mono ?_;rintro e w5 ⟨v,m,hN,hvt,hb5,hres⟩;have g2:=((d2.alloc (.cells #[.slice a1 m1.length c1] 28)).alloc (.cells #[.slice a2 m2.length c2] 28)).below hb5;have s1:=(g2.cells 0).1;have s2:=(g2.cells 0).2;have hW5:Below w.heap.size w w5:=Et (Ea (Ea hW2 _) _) hb5;have HN:=hq_ hN;have HVV:=hq_ hvt;have G2:=hq_ g2;clear hN hvt g2;rcases hres with ⟨hval,rfl,hmr⟩|⟨hval,rfl⟩;(obtain ⟨xa,xc,rfl⟩:=hmr.form)))
 ·have hcc:=Bxx.c0 (w:=w5.setCell ⟨w.heap.size+1+1,0,none⟩ (.slice xa m.length xc)) (a4_ 0 (.slice xa m.length xc) G2.out);refine bodyPost_ret (v:=.tuple #[.agg #[.slice xa m.length xc],.int .i64 0]) (by simp [results,Tryz.results22,go_sem,hcc]) rfl ⟨_,m,HN.out,HVV.out,hW5.setCell (p:=⟨w.heap.size+1+1,0,none⟩) (by show w.heap.size≤w.heap.size+1+1;omega) _,.inl ⟨hval,rfl,?_⟩⟩;exact (hmr.set (b:=w.heap.size+1+1) tq_).mono fun b (hb:_≤b)=>by simp at hb;omega
 ·have hcc:=Bxx.c0 (w:=w5.setCell ⟨w.heap.size+1+1,0,none⟩ (.slice none 0 0)) (a4_ 0 (.slice none 0 0) G2.out);exact bodyPost_ret (v:=.tuple #[.agg #[.slice none 0 0],.int .i64 2]) (by simp [results,Tryz.results22,go_sem,hcc]) rfl ⟨.slice none 0 0,m,HN.out,HVV.out,hW5.setCell (p:=⟨w.heap.size+1+1,0,none⟩) (by show w.heap.size≤w.heap.size+1+1;omega) _,.inr ⟨hval,rfl⟩⟩
structure Row5 (G:Nat->Prop) (g cap:Nat) (W:World) (L:List PV):Prop where
 row:W.ownsRow 0 39 4 (.slice (some ⟨g,0,none⟩) L.length cap) L.length (L.flatMap PV.enc)
 all:∀ x∈L,PVok W (fun b=>G b∧b≠g) x
 lim:L.length≤1000000
theorem Row5.set {G:Nat->Prop} (h:Row5 G g cap W L) (hj:j<L.length) {x:PV} (hx:PVok W (fun b=>G b∧b≠g) x) :
  Row5 G g cap ((((W.setCell ⟨g,j*4,none⟩ x.h).setCell ⟨g,j*4+1,none⟩ (.int .i64 x.p.frm)).setCell ⟨g,j*4+2,none⟩ (.int .i64 x.p.period)).setCell ⟨g,j*4+3,none⟩ x.c) (L.set j x):=by
 have hg:W.grownBy ((((W.setCell ⟨g,j*4,none⟩ x.h).setCell ⟨g,j*4+1,none⟩ (.int .i64 x.p.frm)).setCell ⟨g,j*4+2,none⟩ (.int .i64 x.p.period)).setCell ⟨g,j*4+3,none⟩ x.c) (some g):=
  World.grownBy.set' (World.grownBy.set' (World.grownBy.set' (World.grownBy.set' ⟨rfl,rfl,rfl,Nat.le_refl _,fun _ _ _=>rfl⟩ _) _) _) _
 refine ⟨?_,fun y hy=>?_,by rw [List.length_set];exact h.lim⟩
 ·rw [List.length_set,<- np_ hj];exact ((((h.row.stored _ _).1.stored _ _).1.stored _ _).1.stored _ _).1
 ·refine PVok.keep ?_ (a5_.grown hg fun h=>h.2 rfl);rcases List.mem_or_eq_of_mem_set hy with hy|rfl
  ·exact h.all y hy
  ·exact hx
theorem Row5.mono {G H:Nat->Prop} (h:Row5 G g cap W L) (hs:∀ b,G b->H b):Row5 H g cap W L:=⟨h.row,fun x hx=>(h.all x hx).mono fun b hb=>⟨hs b hb.1,hb.2⟩,h.lim⟩
theorem Row5.term {G:Nat->Prop} (h:Row5 G g cap W L):be_ W (fun b=>G b∨b=g) (.slice (some ⟨g,0,none⟩) L.length cap) L:=by
 have h0:=gw_ h.row h.lim fun x hx=>⟨_,h.all x hx⟩;refine ⟨?_,h0.len,fun x hx=>(h.all x hx).mono fun b hb=>.inl hb.1⟩;obtain ⟨a,c,e,h1,h2,h3⟩:=h0.row;cases e;refine ⟨_,_,rfl,h1,h2,h3.imp id ?_⟩;rintro ⟨b,o,e,_,hl,hc⟩;cases e;exact ⟨g,0,rfl,.inr rfl,hl,hc⟩
theorem qx_ (F:Nat->Prop) (v:Value) (t:List Per) (w:World) (ht:ab_ w F v t) (hl:t.length≤1000000) (hne:t≠[]) :
  Calls Tryz.prog 118 #[v] w fun e w'=>∃ g cap L,e=.returned (.slice (some ⟨g,0,none⟩) L.length cap)∧L.map PV.p=t∧w.heap.size≤g∧Row5 (fun b=>F b∧b<w.heap.size) g cap w' L∧Below w.heap.size w w':=by
 obtain ⟨L,rfl,hL⟩:=ht;rw [List.length_map] at hl;have hlen:0<L.length:=List.length_pos_iff.2 fun e=>hne (by rw [e];rfl);obtain ⟨a1,c1,rfl,hx1,hx2,h3⟩:=hL.row.is;rcases h3 with h3|⟨b,o,rfl,hF,hbl,hc⟩
 ·omega
 have HL:=hq_ hL;have HR:=fun W (h:Below w.heap.size w W)=>hL.row.keep (a5_.below h) h.size;have HRR:=hq_ HR;have hone:=hL.cells_one;have HONE:=hq_ hone;clear hL hc HR hone;have hnil:(binOp .eql 36 (.slice (some ⟨b,o,none⟩) L.length c1) (.slice none 0 0)).run Tryz.prog w=.ok (.bool false) w:=Lib.run_eql_slice_nil w 36 39 (some ⟨b,o,none⟩) L.length c1 0 0 rfl
 go_enter Tryz.func118,Tryz.ntmps118
 go_wp2_with (at_builtin;refine by_ rq_ _ _ rq_ w.heap.size (.slice (some ⟨w.heap.size,0,none⟩) 0 0) (.slice (some ⟨b,o,none⟩) L.length c1) 0 L.length [] (L.flatMap PV.enc) F rq_ ⟨rfl,.inr ⟨w.heap.size,0,#[],rfl,Nat.le_refl _,World.alloc_heap_new w _,Nat.le_refl _,by simp [maxLen],rfl,rfl⟩⟩ rq_ (HRR.out _ (Ea (Er w) _)) c3_ HONE.out oq_ sq_ ?_;intro v5 w5 hown5 hgrow5;rw [Nat.zero_add,List.nil_append] at hown5;obtain ⟨na5,nc5,rfl⟩:=bm_ hown5)
 go_ret;have hb5:Below w.heap.size w w5:=(Ea (Er w) _).trans (Below.grown (Below.refl _ _) hgrow5 sq_ (fun k e=>by simp [Value.ownBlock] at e;omega));obtain ⟨hl5,⟨he,h0⟩|⟨g,cap,cur,he,hg1,hg,h6,h7,h8,h9⟩⟩:=hown5
 ·omega
 cases he;refine ⟨g,nc5,L,rfl,rfl,hg1,⟨⟨hl5,.inr ⟨g,nc5,cur,rfl,Nat.zero_le _,hg,h6,h7,h8,h9⟩⟩,fun x hx=>((HL.out.lt.all x hx).keep (a5_.below hb5)).mono fun k hk=>⟨hk,by have:=hk.2;omega⟩,hl⟩,hb5⟩
theorem o2_ (s:Int) (F G:Nat->Prop) (v:Value) (t:List Per) (fh fc:Value) (f:Per) (w:World) (ht:ab_ w F v t) (hv:aw_ s t) (hf:PVok w G ⟨fh,fc,f⟩) (hff:FV s f) :
  Calls Tryz.prog 71 #[v,perV fh fc f.frm f.period] w fun e w'=>∃ v',e=.returned (.tuple #[v',.bool true])∧ab_ w' (fun b=>F b∨w.heap.size≤b) v' (wiP t f)∧Below w.heap.size w w':=by
 have HCL:=fun W (h:Below w.heap.size w W)=>qx_ F v t W (ht.ext h) hv.len hv.ne;have HFI:=fun W (h:Below w.heap.size w W)=>(hf.is.ext h);obtain ⟨a3,n3,c3,a4,n4,c4,rfl,rfl⟩:=hf.form;have HTR:=hq_ ht;obtain ⟨L,rfl,hL⟩:=ht;have hlen:0<L.length:=List.length_pos_iff.2 fun e=>hv.ne (by rw [e];rfl);obtain ⟨a1,c1,rfl,hx1,hx2,_⟩:=hL.row.is;have hlm:=hL.len;obtain ⟨b1,o1,x,ha,hx,hxp,hbz,e0,e1,e2,e3⟩:=hL.get hlen;subst ha;have hwi:wiP (L.map PV.p) f=(L.map PV.p).set 0 (bu_ x.p f):=by
  cases hLm:L.map PV.p with
  | nil=>exact absurd hLm hv.ne
  | cons p r=>rw [hLm] at hxp;rw [hxp];rfl
 have hfx:=hv.fv x.p (by rw [hxp];exact aa_ (by simpa using hlen));obtain ⟨xh,xc,xp⟩:=x;obtain ⟨ax1,nx1,cx1,ax2,nx2,cx2,rfl,rfl⟩:=hx.form;dsimp only at e0 e1 e2 e3 hfx hwi;have HMI:=fun W (h:Below w.heap.size w W)=>vf_ s (.slice ax1 nx1 cx1) (.slice ax2 nx2 cx2) (.slice a3 n3 c3) (.slice a4 n4 c4) xp f W (hx.is.ext h) (HFI W h) hfx hff;have HFM:=hq_ (hfx.minus hff);have HWI:=hq_ hwi;simp only [Nat.zero_mul,Nat.add_zero] at e0 e1 e2 e3;generalize bu_ xp f=q at *;clear hL hx hxp hwi hfx hff hf HFI hv
 go_enter Tryz.func71,Tryz.ntmps71
 go_wp2_with fail
 go_loopw [6,7,8,9,10,13] (fun _ _ _ _ _ i wr=>i=.int .i64 0∧Below w.heap.size w wr∧wr.cell? ⟨w.heap.size,0,none⟩=some (.slice a3 n3 c3)∧wr.cell? ⟨w.heap.size,1,none⟩=some (.int .i64 f.frm)∧wr.cell? ⟨w.heap.size,2,none⟩=some (.int .i64 f.period)∧wr.cell? ⟨w.heap.size,3,none⟩=some (.slice a4 n4 c4)) (fun _ _ _ _ _ i _=>L.length-(intOf i).toNat)
 case atStart=>exact ⟨rfl,by exact xE,sq_,sq_,sq_,sq_⟩
 case round=>
  obtain ⟨rfl,hb,f0,f1,f2,f3⟩:=hrel;have e0:=Ext.cell hb e0;have e1:=Ext.cell hb e1;have e2:=Ext.cell hb e2;have e3:=Ext.cell hb e3;have hlI:(0:Int)<L.length:=oq_;have g0:=ag_ f0 (.cells #[.slice ax1 nx1 cx1,.int .i64 xp.frm,.int .i64 xp.period,.slice ax2 nx2 cx2] 39);have g1:=ag_ f1 (.cells #[.slice ax1 nx1 cx1,.int .i64 xp.frm,.int .i64 xp.period,.slice ax2 nx2 cx2] 39);have g2:=ag_ f2 (.cells #[.slice ax1 nx1 cx1,.int .i64 xp.frm,.int .i64 xp.period,.slice ax2 nx2 cx2] 39);have g3:=ag_ f3 (.cells #[.slice ax1 nx1 cx1,.int .i64 xp.frm,.int .i64 xp.period,.slice ax2 nx2 cx2] 39);go_wp2_with (first|(go_at_call 117;refine (HMI _ (Ea hb _)).mono ?_;rintro e w2 ⟨h',c',rfl,ho,hb2⟩;obtain ⟨a5,m5,a6,m6,rfl,rfl⟩:=ho.form;have HPV:=hq_ (ho.pv HFM.out);have HWZ:Hid (w.heap.size≤(wr.alloc (.cells #[.slice ax1 nx1 cx1,.int .i64 xp.frm,.int .i64 xp.period,.slice ax2 nx2 cx2] 39)).heap.size):=hq_ (Ea hb _).size;have hE2:Below w.heap.size w w2:=Et (Ea hb _) hb2;clear ho hb2)|(go_at_call 118;refine (HCL _ (Ea hE2 _)).mono ?_;(rintro e w4 ⟨g,cap,M,rfl,hMp,hgz,hr5,hb4⟩);(have HMP:=hq_ hMp);(have hml:0<M.length:=(by rw [<- List.length_map (f:=PV.p),hMp,List.length_map];exact hlen));(have hmI:(0:Int)<M.length:=oq_);(have hbx:=(Bxx.new w2 #[.slice a5 q.head.length m5,.int .i64 q.frm,.int .i64 q.period,.slice a6 q.cycle.length m6] 39).below hb4);(have s0:=(hbx.cells 0).1);(have s1:=(hbx.cells 1).1);(have s2:=(hbx.cells 2).1);(have s3:=(hbx.cells 3).1);(have k0:=(hr5.row.cellAt 0 oq_).trans (av_ (j:=0) (i:=0) hml rfl));(have k1:=(hr5.row.cellAt 1 oq_).trans (av_ (j:=0) (i:=1) hml rfl));(have k2:=(hr5.row.cellAt 2 oq_).trans (av_ (j:=0) (i:=2) hml rfl));(have k3:=(hr5.row.cellAt 3 oq_).trans (av_ (j:=0) (i:=3) hml rfl));(have l0:=hr5.row.frozenAt 0);(have l1:=hr5.row.frozenAt 1);(have l2:=hr5.row.frozenAt 2);(have l3:=hr5.row.frozenAt 3);(have HR5:=hq_ hr5);(have HB4:=hq_ hb4);(rw [World.size_alloc] at hgz);(clear hbx hr5 hb4 hMp)))
  go_ret2;have hpv:PVok w4 (fun b=>(F b∨w.heap.size≤b)∧b≠g) ⟨.slice a5 q.head.length m5,.slice a6 q.cycle.length m6,q⟩:=(HPV.out.keep (a5_.below (Et (Ea (Er w2) _) HB4.out))).mono fun b hb=>⟨.inr (by have:=hb.1;have:=HWZ.out;omega),by have:=hb.2;omega⟩;have hset:=(HR5.out.mono (H:=fun b=>F b∨w.heap.size≤b) fun b hb=>.inl hb.1).set (x:=⟨_,_,q⟩) hml hpv;simp only [Nat.zero_mul,Nat.zero_add] at hset;have hz:=hE2.size;have hE4:Below w.heap.size w w4:=Et (Ea hE2 _) HB4.out;refine ⟨_,rfl,⟨M.set 0 ⟨.slice a5 q.head.length m5,.slice a6 q.cycle.length m6,q⟩,?_,?_⟩,?_⟩
  ·rw [List.map_set,HMP.out,HWI.out]
  ·have h1:=hset.term;rw [List.length_set] at h1;exact h1.mono fun b hb=>hb.elim id fun e=>.inr oq_
  ·exact ((((Below.setCell hE4 (p:=⟨g,0,none⟩) (show w.heap.size≤g by omega) _).setCell (p:=⟨g,1,none⟩) (show w.heap.size≤g by omega) _).setCell (p:=⟨g,2,none⟩) (show w.heap.size≤g by omega) _).setCell (p:=⟨g,3,none⟩) (show w.heap.size≤g by omega) _)
end Go.Proofs.YthjnojbeimchdaaGreat
end
