/- Walks: unlike (package periodic). -/
import Derived.Test.YtjilkhhokkncoaaGreatMWalkNx
set_option linter.unusedVariables false
set_option linter.unusedSimpArgs false
namespace Go.Proofs.YtjilkhhokkncoaaGreat
open Go.RowKit Go.Shelf Kal
attribute [local go_sem] Oper.semAt_some
def NxtIs (S:Int→Prop) (d lim n:Int):Prop:=d≤n∧n≤lim∧(n<lim→S n)∧∀ x,d≤x→x<n→¬ S x
theorem nxt_some {S:Int→Prop} {d lim y m:Int} (h:NextIs S d y true) (hd:d≤lim) (hm:m=min y lim):NxtIs S d lim m:=by
 rcases h with ⟨_,h1,h2,h3⟩|⟨h,_⟩
 ·refine ⟨by omega,by omega,fun h=>?_,fun x h4 h5=>h3 x h4 (by omega)⟩
  rw [show m=y from by omega];exact h2
 ·cases h
theorem nxt_none {S:Int→Prop} {d lim:Int} (h:∀ x,d≤x→¬ S x) (hd:d≤lim):NxtIs S d lim lim:=⟨hd,Int.le_refl _,fun h=>by omega,fun x h1 _=>h x h1⟩
theorem NxtIs.unique {S:Int→Prop} {d lim n m:Int} (h:NxtIs S d lim n) (g:NxtIs S d lim m):n=m:=by
 obtain ⟨h1,h2,h3,h4⟩:=h
 obtain ⟨g1,g2,g3,g4⟩:=g
 rcases Int.lt_or_le n m with h|h
 ·exact absurd (h3 (by omega)) (g4 n h1 h)
 ·rcases Int.lt_or_le m n with h'|h'
  ·exact absurd (g3 (by omega)) (h4 m g1 h')
  ·omega
structure NU (w:World) (r1:Nat) (v1:Value) (W:World):Prop where
 below:Below w.heap.size w W
 b1:Bxx W r1 #[v1] 3
theorem NU.grow {w:World} {r1:Nat} {v1:Value} {W W':World} {row:Option Nat} (h:NU w r1 v1 W) (hg:W.grownBy W' row)
  (hr:∀ r,row=some r→w.heap.size≤r∧(r≠r1∨∃ o:Obj,W.heap[r]? = some o∧o.isCells=false)):NU w r1 v1 W':=by
 refine ⟨h.below.grown hg h.below.size (fun k e=>(hr k e).1),?_⟩
 refine (hg.block r1 h.b1.lt fun e=>?_).trans h.b1
 obtain ⟨_,h1|⟨o,ho,hc⟩⟩:=hr r1 e.symm
 ·exact h1 rfl
 ·rw [show W.heap[r1]? = _ from h.b1] at ho;cases ho;cases hc
theorem nxt_ex (S:Int→Prop) {d lim:Int} (hd:d≤lim):∃ n,NxtIs S d lim n:=by
 obtain ⟨k,hk⟩:∃ k:Nat,lim=d+k:=⟨(lim-d).toNat,by omega⟩
 subst hk
 clear hd
 induction k with
 | zero=>exact ⟨d,by omega,by omega,fun h=>by omega,fun x h1 h2=>by omega⟩
 | succ k ih=>
  obtain ⟨n,h1,h2,h3,h4⟩:=ih
  by_cases hn:n<d+k
  ·exact ⟨n,h1,by omega,fun _=>h3 hn,h4⟩
  ·obtain rfl:n=d+k:=by omega
   by_cases hS:S (d+k)
   ·exact ⟨d+k,h1,by omega,fun _=>hS,h4⟩
   ·refine ⟨d+(k+1:Nat),by omega,by omega,fun h=>by omega,fun x h5 h6=>?_⟩
    by_cases hx:x=d+k
    ·rw [hx];exact hS
    ·exact h4 x h5 (by omega)
def NxtRes (S:Int→Prop) (d lim:Int) (w:World) (e:Ending) (w':World):Prop:=∃ n:Int,e=.returned (.int .i64 n)∧NxtIs S d lim n∧Below w.heap.size w w'
set_option maxRecDepth 100000 in
set_option maxHeartbeats 2000000 in
theorem unlike1_any (h c:Value) (p:Per) (d lim:Int) (lb:Nat) (w:World) (hp:PerIs w h c p) (hw:p.WF) (h1:p.frm≤1125899906842624) (h2:p.period≤1125899906842624) (hlb:w.cell? ⟨lb,0,none⟩=some (.int .i64 lim)) (m0:0≤d) (hd1:d≤lim) (hd2:lim≤1125899906842624) :
  Calls Tryz.prog 92 #[perV h c p.frm p.period,.int .i64 d,.pointer (some ⟨lb,0,none⟩)] w (NxtRes p.mem d lim w):=by
 obtain ⟨a1,c1,a2,c2,rfl,rfl⟩:=hp.inn.form
 have hl:∀ W,Below w.heap.size w W→PerIs W (.slice a1 p.head.length c1) (.slice a2 p.cycle.length c2) p:=fun W hb=>hp.ext hb
 have HP:=Lib.hid hp
 have HW:=Lib.hid hw
 have hlt:=World.block_lt_of_cell? _ _ hlb
 have HLB:Hid (∀ W,Below w.heap.size w W→W.cell? ⟨lb,0,none⟩=some (.int .i64 lim)):=Lib.hid fun W hb=>Ext.cell hb hlb
 clear hp hlb
 refine callsIn_wide (n:=0).1 ?_
 refine callsIn_of_wp_marks Tryz.func92 rfl trivial ?_ rfl
 simp only [Tryz.ntmps92,List.size_toArray,List.length_cons,List.length_nil,Nat.reduceAdd,Nat.reduceSub,Array.replicate_succ,Array.replicate_zero,List.push_toArray,List.append_toArray,List.nil_append,List.cons_append]
 gi_wp2_with fail
 refine ⟨trivial,rfl,?_⟩
 refine (callsIn_wide.2 (from_any (.slice a1 p.head.length c1) (.slice a2 p.cycle.length c2) p d _ ⟨_,_,_,_,_,_,rfl,rfl⟩)).mono ?_
 rintro e w' ⟨rfl,rfl⟩
 gi_wp2_with fail
 generalize hW0:World.alloc (World.alloc (World.alloc (World.alloc w _) _) _) _=W0
 have hE:Below w.heap.size w W0:=by rw [← hW0];(repeat' (with_reducible first|assumption|apply Er|apply Ea|apply Ed|apply En|(refine Es ?_ (by first|(simp<;>omega)|omega) _)|refine Et ?_ (by assumption)))
 have hsz:W0.heap.size=w.heap.size+4:=by rw [← hW0];simp
 have hr1:Bxx W0 (w.heap.size+1) #[.int .i64 0] 3:=by rw [← hW0];(repeat' (first|(refine Bxx.at ?_;simp;done)|refine Bxx.alloc ?_ _))
 have hpb:Bxx W0 (w.heap.size+1+1) #[.slice a1 p.head.length c1,.int .i64 p.frm,.int .i64 p.period,.slice a2 p.cycle.length c2] 24:=by rw [← hW0];(repeat' (first|(refine Bxx.at ?_;simp;done)|refine Bxx.alloc ?_ _))
 have hlx:Bxx W0 (w.heap.size+1+1+1) #[.int .i64 d] 3:=by rw [← hW0];(repeat' (first|(refine Bxx.at ?_;simp;done)|refine Bxx.alloc ?_ _))
 have hz1':W0.heap.size≤w.heap.size+4:=by omega
 have hz2:w.heap.size+4≤W0.heap.size:=by omega
 have hpW:=HP.out.ext hE
 have hin:=HP.out.inn
 have HST:Hid (NU w (w.heap.size+1) (.int .i64 0) W0):=Lib.hid ⟨hE,hr1⟩
 clear hW0 hsz hr1
 have hw:=HW.out
 have garr:∀ (v:Value) (l:List Int),IntsIn w 0 w.heap.size v l→l≠[]→∀ b o n c',v=.slice (some ⟨b,o,none⟩) n c'→b<w.heap.size:=fun v l hi hl b o n c' he=>(hi.blk hl b (by rw [he];rfl)).2
 refine wpIn_rangeX (x:=some (w.heap.size+1+1+1)) (gf:=82) (lb:=#[.pointer (some ⟨w.heap.size+1+1,0,none⟩),.pointer (some ⟨w.heap.size+1+1+1,0,none⟩)]) rfl (enters_of Tryz.func82 (by kernel_rfl) rfl)
  (from_seq (.slice a1 p.head.length c1) (.slice a2 p.cycle.length c2) p d (w.heap.size+1+1) (w.heap.size+1+1+1) W0 (fun k=>k<w.heap.size∨k=w.heap.size+1+1∨k=w.heap.size+1+1+1) hpW hw h1 h2 m0 (by omega) hpb hlx (.inr (.inl rfl)) (.inr (.inr rfl))
   (fun hl b o n c' he=>.inl (garr _ _ hin.hd hl b o n c' he)) (fun hl b o n c' he=>⟨.inl (garr _ _ hin.cy hl b o n c' he),by have:=garr _ _ hin.cy hl b o n c' he;omega⟩) (by omega))
  (fun h k=>h.trans k) (KpB.putObj (by intro k hk;omega)) (fun y=>rfl)
  (fun pre W'=>pre=[]∧NU w (w.heap.size+1) (.int .i64 0) W')
  (fun c' _ W'=>c'=.ret∧∃ y,NxtIs p.mem d lim y∧NU w (w.heap.size+1) (.int .i64 y) W')
  (fun pre A C row hI hg hr=>⟨hI.1,hI.2.grow hg fun r e=>by
   rcases hr r e with ⟨h,_⟩|⟨h,h'⟩
   ·injection h with h;exact ⟨by omega,.inl (by omega)⟩
   ·exact ⟨by omega,.inr h'⟩⟩)
  (fun c' pre A C row hI hg hr=>⟨hI.1,hI.2.choose,hI.2.choose_spec.1,hI.2.choose_spec.2.grow hg fun r e=>by
   rcases hr r e with ⟨h,_⟩|⟨h,h'⟩
   ·injection h with h;exact ⟨by omega,.inl (by omega)⟩
   ·exact ⟨by omega,.inr h'⟩⟩)
  (fun pre W' hI x hx=>by rw [hI.1] at hx;simp at hx) ⟨rfl,HST.out⟩
  (fun y=>⟨#[perV (.slice a1 p.head.length c1) (.slice a2 p.cycle.length c2) p.frm p.period,.int .i64 d,.pointer (some ⟨lb,0,none⟩),.pointer (some ⟨w.heap.size,0,none⟩),undef,.pointer (some ⟨w.heap.size+1,0,none⟩),.int .i64 y,.agg #[.slice a1 p.head.length c1,.int .i64 p.frm,.int .i64 p.period,.slice a2 p.cycle.length c2],.int .i64 d,.func (Fn.func 82) #[] #[.pointer (some ⟨w.heap.size+1+1,0,none⟩),.pointer (some ⟨w.heap.size+1+1+1,0,none⟩)],.int .i64 y,undef,undef,undef,undef],[]⟩) ?assign ?body ?done ?stop
 case assign=>
  intro l y W' K hK
  gi_wp2
  exact hK
 case body=>
  rintro l pre y W' ⟨rfl,hNI⟩ hen
  obtain ⟨hy1,hy2,hy3,hy4⟩:=EnS.last m0 hen
  have HY:Hid (NextIs p.mem d y true):=Lib.hid (.inl ⟨rfl,hy1,hy2,fun x h1 h2 h3=>by have h4:=(sel_mem (S:=p.mem) (hi:=y) m0 x).2 ⟨h1,h2,h3⟩;rw [← hy3] at h4;simp at h4⟩)
  have q1:=(hNI.b1.cells 0).1
  have q2:=(hNI.b1.cells 0).2
  have q5:=HLB.out W' hNI.below
  have HNI:=Lib.hid hNI
  clear hen hy1 hy2 hy3 hy4 hNI
  gi_wp2
  refine ⟨(KeepsOthers.setCell W' ⟨w.heap.size+1,0,none⟩ _).from _,rfl,min y lim,nxt_some HY.out hd1 rfl,?_,?_⟩
  ·exact HNI.out.below.setCell (p:=⟨w.heap.size+1,0,none⟩) (by simp) _
  ·exact heap_set_at 0 _ HNI.out.b1
 case done=>
  rintro D xs W' hD ⟨n,hn,hxs⟩ ⟨rfl,hNI⟩ hdef
  have HN:Hid (NxtIs p.mem d lim lim):=Lib.hid (nxt_none (fun x h1 h2=>by have h4:=(sel_mem (S:=p.mem) (hi:=n) m0 x).2 ⟨h1,hn x h2,h2⟩;rw [← hxs] at h4;simp at h4) hd1)
  have q1:=(hNI.b1.cells 0).1
  have q2:=(hNI.b1.cells 0).2
  have q5:=HLB.out W' hNI.below
  have HNI:=Lib.hid hNI
  have HDEF:=Lib.hid hdef
  clear hNI hdef hn hxs
  gi_wp2_with fail
  have hDlt:=(Array.getElem?_eq_some_iff.1 HDEF.out).1
  have hM:MarksX w.heap.size [{ target:=.collected D,args:=#[] }] (W'.setCell ⟨w.heap.size+1,0,none⟩ (.int .i64 lim)):=
   marks_one (by omega) (by rw [heap_set_ne (by omega)];exact HDEF.out)
  refine leaves_marks (B:=w.heap.size) _ _ hM fun w' hs=>?_
  have c1:Bxx w' (w.heap.size+1) #[.int .i64 lim] 3:=hs.cells _ _ (heap_set_at 0 _ HNI.out.b1) rfl
  have q1:=(c1.cells 0).1
  have hbw:Below w.heap.size w (W'.setCell ⟨w.heap.size+1,0,none⟩ (.int .i64 lim)):=HNI.out.below.setCell (p:=⟨w.heap.size+1,0,none⟩) (by simp) _
  exact ⟨.int .i64 lim,by simp [results,Tryz.results92,go_sem,q1],lim,rfl,HN.out,hbw.trans hs.below⟩
 case stop=>
  rintro D c' pre W' hD _ ⟨rfl,y,hNx,hNI⟩ hdef
  have HNI:=Lib.hid hNI
  have HNX:=Lib.hid hNx
  have HDEF:=Lib.hid hdef
  clear hNI hdef hNx
  gi_wp2_with fail
  have hM:MarksX w.heap.size [{ target:=.collected D,args:=#[] }] W':=marks_one (by omega) HDEF.out
  refine leaves_marks (B:=w.heap.size) _ _ hM fun w' hs=>?_
  have c1:Bxx w' (w.heap.size+1) #[.int .i64 y] 3:=hs.cells _ _ HNI.out.b1 rfl
  have q1:=(c1.cells 0).1
  exact ⟨.int .i64 y,by simp [results,Tryz.results92,go_sem,q1],y,rfl,HNX.out,HNI.out.below.trans hs.below⟩
def UnlikeIs (S T:Int→Prop) (lim n:Int) (b:Bool):Prop:=(b=true∧0≤n∧n<lim∧¬ (S n↔T n)∧∀ x,0≤x→x<n→(S x↔T x))∨(b=false∧n=0∧∀ x,0≤x→x<lim→(S x↔T x))
def UnlikeRes (S T:Int→Prop) (lim:Int) (w:World) (e:Ending) (w':World):Prop:=∃ (n:Int) (b:Bool),e=.returned (.tuple #[.int .i64 n,.bool b])∧UnlikeIs S T lim n b∧Below w.heap.size w w'
theorem unlike_step {S T:Int→Prop} {d lim m n:Int} (hm:NxtIs S d lim m) (hn:NxtIs T d lim n) (hpre:∀ x,0≤x→x<d→(S x↔T x)):∀ x,0≤x→x<min m n→(S x↔T x):=fun x h0 h1=>by
 rcases Int.lt_or_le x d with h|h
 ·exact hpre x h0 h
 ·exact ⟨fun h2=>absurd h2 (hm.2.2.2 x h (by omega)),fun h2=>absurd h2 (hn.2.2.2 x h (by omega))⟩
theorem unlike_found {S T:Int→Prop} {d lim m n:Int} (h0:0≤d) (hm:NxtIs S d lim m) (hn:NxtIs T d lim n) (hpre:∀ x,0≤x→x<d→(S x↔T x)) (hne:m≠n):UnlikeIs S T lim (min m n) true:=by
 have h1:=unlike_step hm hn hpre
 obtain ⟨a1,a2,a3,a4⟩:=hm
 obtain ⟨b1,b2,b3,b4⟩:=hn
 refine .inl ⟨rfl,by omega,by omega,fun h=>?_,h1⟩
 rcases Int.lt_or_le m n with h2|h2
 ·rw [show min m n=m from by omega] at h
  exact b4 m a1 h2 (h.1 (a3 (by omega)))
 ·rw [show min m n=n from by omega] at h
  exact a4 n b1 (by omega) (h.2 (b3 (by omega)))
theorem unlike_next {S T:Int→Prop} {d lim m:Int} (hm:NxtIs S d lim m) (hn:NxtIs T d lim m) (hpre:∀ x,0≤x→x<d→(S x↔T x)):∀ x,0≤x→x<m+1→x<lim→(S x↔T x):=fun x h0 h1 h2=>by
 rcases Int.lt_or_le x m with h|h
 ·exact unlike_step hm hn hpre x h0 (by omega)
 ·obtain rfl:x=m:=by omega
  exact ⟨fun _=>hn.2.2.1 h2,fun _=>hm.2.2.1 h2⟩
set_option maxRecDepth 100000 in
set_option maxHeartbeats 2000000 in
theorem unlike_any (h1 c1 h2 c2:Value) (p1 p2:Per) (lim:Int) (w:World) (hp1:PerIs w h1 c1 p1) (hp2:PerIs w h2 c2 p2) (hw1:p1.WF) (hw2:p2.WF) (f1:p1.frm≤1125899906842624) (t1:p1.period≤1125899906842624) (f2:p2.frm≤1125899906842624) (t2:p2.period≤1125899906842624) (hl0:0≤lim) (hl1:lim≤1125899906842624) :
  Calls Tryz.prog 65 #[perV h1 c1 p1.frm p1.period,perV h2 c2 p2.frm p2.period,.int .i64 lim] w (UnlikeRes p1.mem p2.mem lim w):=by
 obtain ⟨a1,m1,a2,m2,rfl,rfl⟩:=hp1.inn.form
 obtain ⟨a3,m3,a4,m4,rfl,rfl⟩:=hp2.inn.form
 have HP1:=Lib.hid hp1
 have HP2:=Lib.hid hp2
 have HW1:=Lib.hid hw1
 have HW2:=Lib.hid hw2
 clear hp1 hp2 hw1 hw2
 go_enter Tryz.func65,Tryz.ntmps65
 go_upto_region 3 with (fail)
 refine wp_abs (F:=fun U=>Bxx U w.heap.size #[.slice a1 p1.head.length m1,.int .i64 p1.frm,.int .i64 p1.period,.slice a2 p1.cycle.length m2] 24∧Bxx U (w.heap.size+1) #[.slice a3 p2.head.length m3,.int .i64 p2.frm,.int .i64 p2.period,.slice a4 p2.cycle.length m4] 24∧Bxx U (w.heap.size+1+1) #[.int .i64 lim] 3∧Below w.heap.size w U) ⟨by (repeat' (first|(refine Bxx.at ?_;simp;done)|refine Bxx.alloc ?_ _)),by (repeat' (first|(refine Bxx.at ?_;simp;done)|refine Bxx.alloc ?_ _)),by (repeat' (first|(refine Bxx.at ?_;simp;done)|refine Bxx.alloc ?_ _)),by (repeat' (with_reducible first|assumption|apply Er|apply Ea|apply Ed|apply En|(refine Es ?_ (by first|(simp<;>omega)|omega) _)|refine Et ?_ (by assumption)))⟩ ?_
 rintro W1 ⟨hA,hB,hL,hE⟩
 have HA:=Lib.hid hA
 have HB:=Lib.hid hB
 have HL:=Lib.hid hL
 have HE:=Lib.hid hE
 clear hA hB hL hE
 go_loopw [9,10,11] (fun dv _ _ wr=>∃ d:Int,dv=.int .i64 d∧0≤d∧d≤lim+1∧(∀ x,0≤x→x<d→x<lim→(p1.mem x↔p2.mem x))∧Below W1.heap.size W1 wr) (fun dv _ _ _=>(lim+1-intOf dv).toNat)
 case atStart=>exact ⟨0,rfl,by omega,by omega,fun x h1 h2=>by omega,Below.refl _ _⟩
 case round=>
  obtain ⟨d,rfl,hd0,hd1,hpre,hb⟩:=hrel
  have HPRE:=Lib.hid hpre
  have HBB:=Lib.hid hb
  have hA:=HA.out.below hb
  have hB:=HB.out.below hb
  have hL:=HL.out.below hb
  have A0:wr.cell? ⟨w.heap.size,0,none⟩=some (.slice a1 p1.head.length m1):=(hA.cells 0).1
  have A1:wr.cell? ⟨w.heap.size,1,none⟩=some (.int .i64 p1.frm):=(hA.cells 1).1
  have A2:wr.cell? ⟨w.heap.size,2,none⟩=some (.int .i64 p1.period):=(hA.cells 2).1
  have A3:wr.cell? ⟨w.heap.size,3,none⟩=some (.slice a2 p1.cycle.length m2):=(hA.cells 3).1
  have B0:wr.cell? ⟨w.heap.size+1,0,none⟩=some (.slice a3 p2.head.length m3):=(hB.cells 0).1
  have B1:wr.cell? ⟨w.heap.size+1,1,none⟩=some (.int .i64 p2.frm):=(hB.cells 1).1
  have B2:wr.cell? ⟨w.heap.size+1,2,none⟩=some (.int .i64 p2.period):=(hB.cells 2).1
  have B3:wr.cell? ⟨w.heap.size+1,3,none⟩=some (.slice a4 p2.cycle.length m4):=(hB.cells 3).1
  have L0:=(hL.cells 0).1
  have hLL:=Lib.hid hL
  have hE:=HE.out
  have hbw:Below w.heap.size w wr:=by (repeat' (with_reducible first|assumption|apply Er|apply Ea|apply Ed|apply En|(refine Es ?_ (by first|(simp<;>omega)|omega) _)|refine Et ?_ (by assumption)))
  have HBW:=Lib.hid hbw
  clear hpre hb hA hB hL hE hbw
  by_cases hlt:d<lim
  ·obtain ⟨m,hm⟩:∃ m,NxtIs p1.mem d lim m:=nxt_ex _ (by omega)
   obtain ⟨n,hn⟩:∃ n,NxtIs p2.mem d lim n:=nxt_ex _ (by omega)
   have HM:=Lib.hid hm
   have HN:=Lib.hid hn
   have hm1:=hm.1;have hm2:=hm.2.1;have hn1:=hn.1;have hn2:=hn.2.1
   clear hm hn
   go_wp2_with fail
   refine wp_region_facts (w0:=wr) [0,1,2,3,4,5,6,7] [8,9] (fun v=>⟨#[perV (.slice a1 p1.head.length m1) (.slice a2 p1.cycle.length m2) p1.frm p1.period,perV (.slice a3 p2.head.length m3) (.slice a4 p2.cycle.length m4) p2.frm p2.period,.int .i64 lim,.pointer (some ⟨w.heap.size,0,none⟩),.pointer (some ⟨w.heap.size+1,0,none⟩),.pointer (some ⟨w.heap.size+1+1,0,none⟩),u6,u7,.func (Fn.func 92) #[] #[.pointer (some ⟨w.heap.size+1+1,0,none⟩)],.int .i64 d,u10,u11,.func (Fn.func 92) #[] #[.pointer (some ⟨w.heap.size+1+1,0,none⟩)],.int .i64 d,.int .i64 lim,.bool true,u16,u17,v 0,v 1,v 2,v 3,v 4,v 5,v 6,v 7,u26,u27,u28,u29,u30,u31,u32],[]⟩) (fun j=>match j with|0=>u18|1=>u19|2=>u20|3=>u21|4=>u22|5=>u23|6=>u24|7=>u25|_=>undef)
    (fun i v lo hi W=>match i with
     | 0=>v 0=.func (.func 92) #[] #[.pointer (some ⟨w.heap.size+1+1,0,none⟩)]
     | 1=>v 1=perV (.slice a1 p1.head.length m1) (.slice a2 p1.cycle.length m2) p1.frm p1.period
     | 2=>v 2=.int .i64 d
     | 3=>v 3=.int .i64 m
     | 4=>v 4=.func (.func 92) #[] #[.pointer (some ⟨w.heap.size+1+1,0,none⟩)]
     | 5=>v 5=perV (.slice a3 p2.head.length m3) (.slice a4 p2.cycle.length m4) p2.frm p2.period
     | 6=>v 6=.int .i64 d
     | 7=>v 7=.int .i64 n
     | _=>True)
    (fun W=>Below w.heap.size w W∧W.cell? ⟨w.heap.size,0,none⟩=some (.slice a1 p1.head.length m1)∧W.cell? ⟨w.heap.size,1,none⟩=some (.int .i64 p1.frm)∧W.cell? ⟨w.heap.size,2,none⟩=some (.int .i64 p1.period)∧W.cell? ⟨w.heap.size,3,none⟩=some (.slice a2 p1.cycle.length m2)∧W.cell? ⟨w.heap.size+1,0,none⟩=some (.slice a3 p2.head.length m3)∧W.cell? ⟨w.heap.size+1,1,none⟩=some (.int .i64 p2.frm)∧W.cell? ⟨w.heap.size+1,2,none⟩=some (.int .i64 p2.period)∧W.cell? ⟨w.heap.size+1,3,none⟩=some (.slice a4 p2.cycle.length m4)∧W.cell? ⟨w.heap.size+1+1,0,none⟩=some (.int .i64 lim)) rfl (by kernel_rfl) (by decide) rfl ?stab ?loc (fun W hb=>⟨HBW.out.trans (hb.mono HBW.out.size),cux A0 hb,cux A1 hb,cux A2 hb,cux A3 hb,cux B0 hb,cux B1 hb,cux B2 hb,cux B3 hb,cux L0 hb⟩) ?steps ?fin
   case stab=>
    rintro (_|_|_|_|_|_|_|_|i) v lo hi W W' h hb
    ·exact h
    ·exact h
    ·exact h
    ·exact h
    ·exact h
    ·exact h
    ·exact h
    ·exact h
    ·trivial
   case loc=>
    rintro (_|_|_|_|_|_|_|_|i) v v' lo lo' hi hi' W hag h
    ·exact (hag 0 (.inl rfl)).1 ▸ h
    ·exact (hag 1 (.inl rfl)).1 ▸ h
    ·exact (hag 2 (.inl rfl)).1 ▸ h
    ·exact (hag 3 (.inl rfl)).1 ▸ h
    ·exact (hag 4 (.inl rfl)).1 ▸ h
    ·exact (hag 5 (.inl rfl)).1 ▸ h
    ·exact (hag 6 (.inl rfl)).1 ▸ h
    ·exact (hag 7 (.inl rfl)).1 ▸ h
    ·trivial
   case steps=>
    refine SFx.cons rfl ?_ (SFx.cons rfl ?_ (SFx.cons rfl ?_ (SFx.cons rfl ?_ (SFx.cons rfl ?_ (SFx.cons rfl ?_ (SFx.cons rfl ?_ (SFx.cons rfl ?_ SFx.nil)))))))
    ·rintro v lo hi W hb ⟨hE1,g0,g1,g2,g3,g4,g5,g6,g7,g8⟩ hd K hK
     clear hd
     dsimp only
     go_wp2_with fail
     exact acx (hK (.func (.func 92) #[] #[.pointer (some ⟨w.heap.size+1+1,0,none⟩)]) W (Below.refl _ _) rfl) (by simp)
    ·rintro v lo hi W hb ⟨hE1,g0,g1,g2,g3,g4,g5,g6,g7,g8⟩ hd K hK
     clear hd
     dsimp only
     go_wp2_with fail
     exact acx (hK (perV (.slice a1 p1.head.length m1) (.slice a2 p1.cycle.length m2) p1.frm p1.period) W (Below.refl _ _) rfl) (by simp)
    ·rintro v lo hi W hb ⟨hE1,g0,g1,g2,g3,g4,g5,g6,g7,g8⟩ hd K hK
     clear hd
     dsimp only
     go_wp2_with fail
     exact acx (hK (.int .i64 d) W (Below.refl _ _) rfl) (by simp)
    ·rintro v lo hi W hb ⟨hE1,g0,g1,g2,g3,g4,g5,g6,g7,g8⟩ hd K hK
     have e0:v 0=.func (.func 92) #[] #[.pointer (some ⟨w.heap.size+1+1,0,none⟩)]:=(hd 0 (Rdp (by kernel_rfl))).2.2
     have e1:v 1=perV (.slice a1 p1.head.length m1) (.slice a2 p1.cycle.length m2) p1.frm p1.period:=(hd 1 (Rdp (by kernel_rfl))).2.2
     have e2:v 2=.int .i64 d:=(hd 2 (Rdp (by kernel_rfl))).2.2
     clear hd
     dsimp only
     (try simp only [e0,e1,e2])
     go_wp2_with (go_at_call 92;refine (unlike1_any _ _ p1 d lim _ _ (HP1.out.ext (by (repeat' (with_reducible first|assumption|apply Er|apply Ea|apply Ed|apply En|(refine Es ?_ (by first|(simp<;>omega)|omega) _)|refine Et ?_ (by assumption))))) HW1.out f1 t1 g8 hd0 (by omega) hl1).mono ?_;rintro e w3 ⟨m',rfl,hm',hb3⟩;obtain rfl:=HM.out.unique hm')
     exact acx (hK (.int .i64 m) w3 hb3 rfl) (by simp [e0,e1,e2])
    ·rintro v lo hi W hb ⟨hE1,g0,g1,g2,g3,g4,g5,g6,g7,g8⟩ hd K hK
     clear hd
     dsimp only
     go_wp2_with fail
     exact acx (hK (.func (.func 92) #[] #[.pointer (some ⟨w.heap.size+1+1,0,none⟩)]) W (Below.refl _ _) rfl) (by simp)
    ·rintro v lo hi W hb ⟨hE1,g0,g1,g2,g3,g4,g5,g6,g7,g8⟩ hd K hK
     clear hd
     dsimp only
     go_wp2_with fail
     exact acx (hK (perV (.slice a3 p2.head.length m3) (.slice a4 p2.cycle.length m4) p2.frm p2.period) W (Below.refl _ _) rfl) (by simp)
    ·rintro v lo hi W hb ⟨hE1,g0,g1,g2,g3,g4,g5,g6,g7,g8⟩ hd K hK
     clear hd
     dsimp only
     go_wp2_with fail
     exact acx (hK (.int .i64 d) W (Below.refl _ _) rfl) (by simp)
    ·rintro v lo hi W hb ⟨hE1,g0,g1,g2,g3,g4,g5,g6,g7,g8⟩ hd K hK
     have e4:v 4=.func (.func 92) #[] #[.pointer (some ⟨w.heap.size+1+1,0,none⟩)]:=(hd 4 (Rdp (by kernel_rfl))).2.2
     have e5:v 5=perV (.slice a3 p2.head.length m3) (.slice a4 p2.cycle.length m4) p2.frm p2.period:=(hd 5 (Rdp (by kernel_rfl))).2.2
     have e6:v 6=.int .i64 d:=(hd 6 (Rdp (by kernel_rfl))).2.2
     clear hd
     dsimp only
     (try simp only [e4,e5,e6])
     go_wp2_with (go_at_call 92;refine (unlike1_any _ _ p2 d lim _ _ (HP2.out.ext (by (repeat' (with_reducible first|assumption|apply Er|apply Ea|apply Ed|apply En|(refine Es ?_ (by first|(simp<;>omega)|omega) _)|refine Et ?_ (by assumption))))) HW2.out f2 t2 g8 hd0 (by omega) hl1).mono ?_;rintro e w3 ⟨m',rfl,hm',hb3⟩;obtain rfl:=HN.out.unique hm')
     exact acx (hK (.int .i64 n) w3 hb3 rfl) (by simp [e4,e5,e6])
   case fin=>
    rintro v lo hi W2 hb ⟨hE1,g0,g1,g2,g3,g4,g5,g6,g7,g8⟩ hf hap
    show wpList _ _ _ [_,_] _ _
    have x3:v 3=.int .i64 m:=(hf 3 rfl).2.2.2
    have x7:v 7=.int .i64 n:=(hf 7 rfl).2.2.2
    clear hf hap
    dsimp only
    rw [x3,x7]
    by_cases hmn:m=n
    ·have HMN:=Lib.hid hmn
     have d1:(m != n)=false:=by simp [hmn]
     clear hmn
     go_wp2_with fail
     go_roundw
     case rel=>
      have hn:=HN.out
      rw [← HMN.out] at hn
      have hR:∀ x,0≤x→x<m+1→x<lim→(p1.mem x↔p2.mem x):=unlike_next HM.out hn (fun x h0 h1=>HPRE.out x h0 h1 (by omega))
      (repeat apply Exists.intro)
      exact ⟨⟨m+1,rfl,by omega,by omega,hR,HBB.out.trans (hb.mono HBB.out.size)⟩,rfl⟩
     case measure=>simp [intOf];omega
    ·have HMN:=Lib.hid hmn
     have d1:(m != n)=true:=by simp [hmn]
     clear hmn
     go_wp2_with fail
     go_ret2
     exact ⟨min m n,true,rfl,unlike_found hd0 HM.out HN.out (fun x h0 h1=>HPRE.out x h0 h1 (by omega)) HMN.out,hE1⟩
  ·have hpre:∀ x,0≤x→x<lim→(p1.mem x↔p2.mem x):=fun x h0 h1=>HPRE.out x h0 (by omega) h1
   have HR:=Lib.hid hpre
   clear hpre
   go_wp2_with fail
   go_ret2
   exact ⟨0,false,rfl,.inr ⟨rfl,rfl,HR.out⟩,by have hE:=HE.out;have hb:=HBB.out;(repeat' (with_reducible first|assumption|apply Er|apply Ea|apply Ed|apply En|(refine Es ?_ (by first|(simp<;>omega)|omega) _)|refine Et ?_ (by assumption)))⟩
end Go.Proofs.YtjilkhhokkncoaaGreat
