/- Contract: newPair. -/
import Derived.Test.YtjilkhhokkncoaaGreatMK5
set_option linter.unusedVariables false
set_option linter.unusedSimpArgs false
/- Walks: newPair (package periodic). -/
namespace Go.Proofs.YtjilkhhokkncoaaGreat
open Go.RowKit Go.Maps Kal
set_option maxRecDepth 100000 in
set_option maxHeartbeats 4000000 in
theorem newPair_any (h1 c1 h2 c2:Value) (p1 p2 qa qb:Per) (day:Int) (w:World) (hp1:PerIs w h1 c1 p1) (hp2:PerIs w h2 c2 p2) (hw1:p1.WF) (hw2:p2.WF)
  (f1:p1.frm≤562949953421312) (f2:p2.frm≤562949953421312) (t1:p1.period≤562949953421312) (t2:p2.period≤562949953421312) (hqa:IsCanon qa p1.mem) (hqb:IsCanon qb p2.mem) (h0:0≤day) (hd:day≤562949953421312) :
  Calls Tryz.prog 58 #[perV h1 c1 p1.frm p1.period,perV h2 c2 p2.frm p2.period,.int .i64 day] w fun e w'=>∃ (x1 x2 x3 x4 xv yv:Value) (mb:Nat),
   e=.returned (pairV x1 x2 x3 x4 qa qb (max (max qa.frm qb.frm) day) xv yv (Int.gcd qa.period qb.period:Nat) mb)∧PairIn w' w.heap.size w'.heap.size x1 x2 x3 x4 qa qb (max (max qa.frm qb.frm) day) xv yv mb∧Below w.heap.size w w':=by
 have hl1:∀ W,Below w.heap.size w W→PerIs W h1 c1 p1:=fun W hb=>hp1.ext hb
 have hl2:∀ W,Below w.heap.size w W→PerIs W h2 c2 p2:=fun W hb=>hp2.ext hb
 have HW1:=Lib.hid hw1
 have HW2:=Lib.hid hw2
 have HQA:=Lib.hid hqa
 have HQB:=Lib.hid hqb
 obtain ⟨b1,b2,b3,b4,b5⟩:=hqa.smaller hw1
 obtain ⟨d1,d2,d3,d4,d5⟩:=hqb.smaller hw2
 have za0:=hqa.wf.frm
 have zb0:=hqb.wf.frm
 have za1:=hqa.wf.per
 have zb1:=hqb.wf.per
 obtain ⟨a1,m1,a2,m2,rfl,rfl⟩:=hp1.inn.form
 obtain ⟨a3,m3,a4,m4,rfl,rfl⟩:=hp2.inn.form
 clear hp1 hp2 hw1 hw2 hqa hqb b3 d3
 have hmm:=@run_makeMap Tryz.prog
 go_enter Tryz.func58,Tryz.ntmps58
 go_wp2_with fail
 generalize hW0:((w.alloc _).alloc _).alloc _=W0
 have hE:Below w.heap.size w W0:=by rw [← hW0];(repeat' (with_reducible first|assumption|apply Er|apply Ea|apply Ed|apply En|(refine Es ?_ (by first|(simp<;>omega)|omega) _)|refine Et ?_ (by assumption)))
 have hpa:Bxx W0 w.heap.size #[.slice a1 p1.head.length m1,.int .i64 p1.frm,.int .i64 p1.period,.slice a2 p1.cycle.length m2] 24:=by rw [← hW0];exact ((Bxx.at rfl).alloc _).alloc _
 have hpb:Bxx W0 (w.heap.size+1) #[.slice a3 p2.head.length m3,.int .i64 p2.frm,.int .i64 p2.period,.slice a4 p2.cycle.length m4] 24:=by rw [← hW0];exact (Bxx.at (by simp)).alloc _
 have hrb:Bxx W0 (w.heap.size+2) pairZ 62:=by rw [← hW0];exact Bxx.at (by simp)
 have hA0:=(hpa.cells 0).1
 have hA1:=(hpa.cells 1).1
 have hA2:=(hpa.cells 2).1
 have hA3:=(hpa.cells 3).1
 have hB0:=(hpb.cells 0).1
 have hB1:=(hpb.cells 1).1
 have hB2:=(hpb.cells 2).1
 have hB3:=(hpb.cells 3).1
 have hz0:=hrb.lt
 clear hW0 hpa hpb
 refine wp_region_facts (w0:=W0) [0,1,2,3,4,5,6] [7] (fun v=>⟨#[perV (.slice a1 p1.head.length m1) (.slice a2 p1.cycle.length m2) p1.frm p1.period,perV (.slice a3 p2.head.length m3) (.slice a4 p2.cycle.length m4) p2.frm p2.period,.int .i64 day,.pointer (some ⟨w.heap.size,0,none⟩),.pointer (some ⟨w.heap.size+1,0,none⟩),undef,.pointer (some ⟨w.heap.size+1+1,0,none⟩),v 6,undef,undef,v 0,v 1,v 2,v 3,v 4,v 5,undef,undef,undef,undef,undef,undef,undef,undef,undef,undef,undef,undef,undef,undef,undef,undef,undef,undef,undef,undef,undef,undef,undef,undef,undef,undef,undef,undef,undef,undef,undef,undef,undef,undef,undef,undef,undef,undef,undef,undef,undef,undef,undef,undef,undef,undef,undef,undef,undef,undef,undef,undef,undef,undef,undef,undef],[]⟩) (fun _=>undef)
  (fun i v lo hi W=>match i with
   | 0=>v 0=perV (.slice a1 p1.head.length m1) (.slice a2 p1.cycle.length m2) p1.frm p1.period
   | 1=>∃ x1 x2,v 1=perV x1 x2 qa.frm qa.period∧PerAt W (lo 1) (hi 1) x1 x2 qa
   | 2=>v 2=perV (.slice a3 p2.head.length m3) (.slice a4 p2.cycle.length m4) p2.frm p2.period
   | 3=>∃ x1 x2,v 3=perV x1 x2 qb.frm qb.period∧PerAt W (lo 3) (hi 3) x1 x2 qb
   | 4=>v 4=.map (some (lo 4))∧lo 4<hi 4∧W.heap[lo 4]? = some (.map #[] 0)
   | 5=>∃ x1 x2 x3 x4,v 1=perV x1 x2 qa.frm qa.period∧v 3=perV x3 x4 qb.frm qb.period∧v 5=.agg #[x1,.int .i64 qa.frm,.int .i64 qa.period,x2,x3,.int .i64 qb.frm,.int .i64 qb.period,x4,.int .i64 0,.slice none 0 0,.slice none 0 0,.int .i64 0,.map (some (lo 4))]
   | 6=>v 6=.pointer (some ⟨lo 6,0,none⟩)∧lo 6<hi 6∧Bxx W (lo 6) pairZ 62
   | _=>True)
  (fun W=>Below w.heap.size w W∧(W.cell? ⟨w.heap.size,0,none⟩=some (.slice a1 p1.head.length m1)∧W.cell? ⟨w.heap.size,1,none⟩=some (.int .i64 p1.frm)∧W.cell? ⟨w.heap.size,2,none⟩=some (.int .i64 p1.period)∧W.cell? ⟨w.heap.size,3,none⟩=some (.slice a2 p1.cycle.length m2))∧(W.cell? ⟨w.heap.size+1,0,none⟩=some (.slice a3 p2.head.length m3)∧W.cell? ⟨w.heap.size+1,1,none⟩=some (.int .i64 p2.frm)∧W.cell? ⟨w.heap.size+1,2,none⟩=some (.int .i64 p2.period)∧W.cell? ⟨w.heap.size+1,3,none⟩=some (.slice a4 p2.cycle.length m4))) rfl (by kernel_rfl) (by decide) rfl ?stab ?loc (fun W hb=>⟨by (repeat' (with_reducible first|assumption|apply Er|apply Ea|apply Ed|apply En|(refine Es ?_ (by first|(simp<;>omega)|omega) _)|refine Et ?_ (by assumption))),⟨cux hA0 hb,cux hA1 hb,cux hA2 hb,cux hA3 hb⟩,cux hB0 hb,cux hB1 hb,cux hB2 hb,cux hB3 hb⟩) ?steps ?fin
 case stab=>
  rintro (_|_|_|_|_|_|_|i) v lo hi W W' h hb
  ·exact h
  ·exact (let ⟨x1,x2,e,hp⟩:=h;⟨x1,x2,e,hp.below hb⟩)
  ·exact h
  ·exact (let ⟨x1,x2,e,hp⟩:=h;⟨x1,x2,e,hp.below hb⟩)
  ·exact ⟨h.1,h.2.1,objKeep h.2.2 hb⟩
  ·exact h
  ·exact ⟨h.1,h.2.1,h.2.2.below hb⟩
  ·trivial
 case loc=>
  rintro (_|_|_|_|_|_|_|i) v v' lo lo' hi hi' W hag h
  ·have q:=hag 0 (.inl rfl)
   (try dsimp only at h ⊢);(try simp only [q.1,q.2.1,q.2.2] at h);exact h
  ·have q:=hag 1 (.inl rfl)
   have q0:=hag 0 (.inr (Rdp (by kernel_rfl)))
   (try dsimp only at h ⊢);(try simp only [q.1,q.2.1,q.2.2,q0.1,q0.2.1,q0.2.2] at h);exact h
  ·have q:=hag 2 (.inl rfl)
   (try dsimp only at h ⊢);(try simp only [q.1,q.2.1,q.2.2] at h);exact h
  ·have q:=hag 3 (.inl rfl)
   have q1:=hag 1 (.inr (Rdp (by kernel_rfl)))
   have q2:=hag 2 (.inr (Rdp (by kernel_rfl)))
   (try dsimp only at h ⊢);(try simp only [q.1,q.2.1,q.2.2,q1.1,q1.2.1,q1.2.2,q2.1,q2.2.1,q2.2.2] at h);exact h
  ·have q:=hag 4 (.inl rfl)
   (try dsimp only at h ⊢);(try simp only [q.1,q.2.1,q.2.2] at h);exact h
  ·have q:=hag 5 (.inl rfl)
   have q1:=hag 1 (.inr (Rdp (by kernel_rfl)))
   have q3:=hag 3 (.inr (Rdp (by kernel_rfl)))
   have q4:=hag 4 (.inr (Rdp (by kernel_rfl)))
   (try dsimp only at h ⊢);(try simp only [q.1,q.2.1,q.2.2,q1.1,q1.2.1,q1.2.2,q3.1,q3.2.1,q3.2.2,q4.1,q4.2.1,q4.2.2] at h);exact h
  ·have q:=hag 6 (.inl rfl)
   (try dsimp only at h ⊢);(try simp only [q.1,q.2.1,q.2.2] at h);exact h
  ·trivial
 case steps=>
  clear hA0 hA1 hA2 hA3 hB0 hB1 hB2 hB3
  refine SFx.cons rfl ?_ (SFx.cons rfl ?_ (SFx.cons rfl ?_ (SFx.cons rfl ?_ (SFx.cons rfl ?_ (SFx.cons rfl ?_ (SFx.cons rfl ?_ SFx.nil))))))
  ·rintro v lo hi W hb ⟨hE1,⟨g0,g1,g2,g3⟩,k0,k1,k2,k3⟩ hd K hK
   clear hd
   dsimp only
   go_wp2_with fail
   exact acx (hK (perV (.slice a1 p1.head.length m1) (.slice a2 p1.cycle.length m2) p1.frm p1.period) W (Below.refl _ _) rfl) (by simp)
  ·rintro v lo hi W hb ⟨hE1,⟨g0,g1,g2,g3⟩,k0,k1,k2,k3⟩ hd K hK
   have e0:v 0=perV (.slice a1 p1.head.length m1) (.slice a2 p1.cycle.length m2) p1.frm p1.period:=(hd 0 (Rdp (by kernel_rfl))).2.2
   clear hd
   dsimp only
   (try simp only [e0])
   go_wp2_with (go_at_call 43;refine (canon_any _ _ p1 qa _ (hl1 _ (by (repeat' (with_reducible first|assumption|apply Er|apply Ea|apply Ed|apply En|(refine Es ?_ (by first|(simp<;>omega)|omega) _)|refine Et ?_ (by assumption))))) HW1.out (by omega) (by omega) HQA.out).mono ?_;rintro e w3 ⟨x1,x2,rfl,ho3,hb3⟩)
   exact acx (hK (perV x1 x2 qa.frm qa.period) w3 hb3 ⟨x1,x2,rfl,ho3.at⟩) (by simp [e0])
  ·rintro v lo hi W hb ⟨hE1,⟨g0,g1,g2,g3⟩,k0,k1,k2,k3⟩ hd K hK
   clear hd
   dsimp only
   go_wp2_with fail
   exact acx (hK (perV (.slice a3 p2.head.length m3) (.slice a4 p2.cycle.length m4) p2.frm p2.period) W (Below.refl _ _) rfl) (by simp)
  ·rintro v lo hi W hb ⟨hE1,⟨g0,g1,g2,g3⟩,k0,k1,k2,k3⟩ hd K hK
   obtain ⟨la1,lb1,D1⟩:=hd 1 (Rdp (by kernel_rfl))
   have e2:v 2=perV (.slice a3 p2.head.length m3) (.slice a4 p2.cycle.length m4) p2.frm p2.period:=(hd 2 (Rdp (by kernel_rfl))).2.2
   clear hd
   dsimp only
   (try simp only [e2])
   go_wp2_with (go_at_call 43;refine (canon_any _ _ p2 qb _ (hl2 _ (by (repeat' (with_reducible first|assumption|apply Er|apply Ea|apply Ed|apply En|(refine Es ?_ (by first|(simp<;>omega)|omega) _)|refine Et ?_ (by assumption))))) HW2.out (by omega) (by omega) HQB.out).mono ?_;rintro e w3 ⟨x1,x2,rfl,ho3,hb3⟩)
   exact acx (hK (perV x1 x2 qb.frm qb.period) w3 hb3 ⟨x1,x2,rfl,ho3.at⟩) (by simp [e2])
  ·rintro v lo hi W hb ⟨hE1,⟨g0,g1,g2,g3⟩,k0,k1,k2,k3⟩ hd K hK
   clear hd
   dsimp only
   go_wp2_with fail
   exact hK (.map (some W.heap.size)) _ (Ea (Er _) _) ⟨rfl,by simp,World.alloc_heap_new _ _⟩
  ·rintro v lo hi W hb ⟨hE1,⟨g0,g1,g2,g3⟩,k0,k1,k2,k3⟩ hd K hK
   obtain ⟨la1,lb1,D1⟩:=hd 1 (Rdp (by kernel_rfl))
   obtain ⟨la3,lb3,D3⟩:=hd 3 (Rdp (by kernel_rfl))
   obtain ⟨la4,lb4,D4⟩:=hd 4 (Rdp (by kernel_rfl))
   clear hd
   dsimp only
   obtain ⟨x1,x2,e1,P1⟩:=D1
   obtain ⟨x3,x4,e3,P3⟩:=D3
   obtain ⟨e4,_⟩:=D4
   obtain ⟨r1,s1,r2,s2,rfl,rfl⟩:=P1.inn.form
   obtain ⟨r3,s3,r4,s4,rfl,rfl⟩:=P3.inn.form
   (try simp only [e1,e3,e4])
   go_wp2_with fail
   exact acx (hK (.agg #[.slice r1 qa.head.length s1,.int .i64 qa.frm,.int .i64 qa.period,.slice r2 qa.cycle.length s2,.slice r3 qb.head.length s3,.int .i64 qb.frm,.int .i64 qb.period,.slice r4 qb.cycle.length s4,.int .i64 0,.slice none 0 0,.slice none 0 0,.int .i64 0,.map (some (lo 4))]) W (Below.refl _ _) ⟨_,_,_,_,e1,e3,rfl⟩) (by simp [e1,e3,e4])
  ·rintro v lo hi W hb ⟨hE1,⟨g0,g1,g2,g3⟩,k0,k1,k2,k3⟩ hd K hK
   clear hd
   dsimp only
   go_wp2_with fail
   exact hK (.pointer (some ⟨W.heap.size,0,none⟩)) _ (Ea (Er _) _) ⟨rfl,by simp,Bxx.new _ _ _⟩
 case fin=>
  rintro v lo hi W hb ⟨hE1,_⟩ hf hap
  show wpList _ _ _ [_] _ _
  obtain ⟨l1,l1',l1'',x1,x2,e1,P1,hle1⟩:=hf 1 rfl
  obtain ⟨l3,l3',l3'',x3,x4,e3,P3,hle3⟩:=hf 3 rfl
  obtain ⟨l4,l4',l4'',e4,lt4,hm4⟩:=hf 4 rfl
  obtain ⟨l6,l6',l6'',e6,lt6,hb6⟩:=hf 6 rfl
  obtain ⟨y1,y2,y3,y4,e1',e3',e5⟩:=(hf 5 rfl).2.2.2
  rw [e1] at e1'
  rw [e3] at e3'
  injection e1' with e1';injection e1' with e1';injection e1' with q1 e1';injection e1' with _ e1';injection e1' with _ e1';injection e1' with q2 _
  injection e3' with e3';injection e3' with e3';injection e3' with q3 e3';injection e3' with _ e3';injection e3' with _ e3';injection e3' with q4 _
  subst q1;subst q2;subst q3;subst q4
  have d13:=hap 1 3 rfl rfl (by omega)
  have d14:=hap 1 4 rfl rfl (by omega)
  have d16:=hap 1 6 rfl rfl (by omega)
  have d34:=hap 3 4 rfl rfl (by omega)
  have d36:=hap 3 6 rfl rfl (by omega)
  have d46:=hap 4 6 rfl rfl (by omega)
  have hrb1:=hrb.below hb
  have hzW:=hb.size
  clear hf hap hA0 hA1 hA2 hA3 hB0 hB1 hB2 hB3 hrb
  obtain ⟨r1,s1,r2,s2,rfl,rfl⟩:=P1.form
  obtain ⟨r3,s3,r4,s4,rfl,rfl⟩:=P3.form
  generalize lo 1=lo1 at *
  generalize hi 1=hi1 at *
  generalize lo 3=lo3 at *
  generalize hi 3=hi3 at *
  generalize lo 4=mb at *
  generalize hi 4=hi4 at *
  generalize lo 6=pb at *
  generalize hi 6=hi6 at *
  dsimp only
  rw [e1,e3,e4,e5,e6]
  generalize v 0=v0
  generalize v 2=v2
  have c0:=hb6.cells 0
  have c1:=hb6.cells 1
  have c2:=hb6.cells 2
  have c3:=hb6.cells 3
  have c4:=hb6.cells 4
  have c5:=hb6.cells 5
  have c6:=hb6.cells 6
  have c7:=hb6.cells 7
  have c8:=hb6.cells 8
  have c9:=hb6.cells 9
  have c10:=hb6.cells 10
  have c11:=hb6.cells 11
  have c12:=hb6.cells 12
  clear e1 e3 e4 e5 e6
  obtain ⟨st,hst⟩:∃ st,st=max (max qa.frm qb.frm) day:=⟨_,rfl⟩
  have HSTT:=Lib.hid hst
  have hs0:qa.frm≤st∧qb.frm≤st∧day≤st∧st≤562949953421312:=by omega
  obtain ⟨hs1,hs2,hs3,hs4⟩:=hs0
  have HS5:Hid (st≤qa.frm∨st≤qb.frm∨st≤day):=Lib.hid (by omega)
  clear hst
  go_upto_region 2 with (fail)
  refine wp_abs (F:=fun W2=>Bxx W2 pb #[.slice r1 qa.head.length s1,.int .i64 qa.frm,.int .i64 qa.period,.slice r2 qa.cycle.length s2,.slice r3 qb.head.length s3,.int .i64 qb.frm,.int .i64 qb.period,.slice r4 qb.cycle.length s4,.int .i64 0,.slice none 0 0,.slice none 0 0,.int .i64 0,.map (some mb)] 62∧Bxx W2 (w.heap.size+2) pairZ 62∧PerIn W2 lo1 hi1 (.slice r1 qa.head.length s1) (.slice r2 qa.cycle.length s2) qa∧PerIn W2 lo3 hi3 (.slice r3 qb.head.length s3) (.slice r4 qb.cycle.length s4) qb∧W2.heap[mb]? = some (.map #[] 0)∧Below w.heap.size w W2∧W.heap.size≤W2.heap.size)
   ⟨set13 hb6,by (repeat' (with_reducible first|assumption|refine Bxx.setNe ?_ _ ?_|omega)),by (repeat' (with_reducible first|assumption|refine PerIn.alloc ?_ _ ?_|refine PerIn.drew ?_|refine PerIn.drewN ?_ _|refine PerIn.set ?_ _ ?_|refine PerIn.below ?_ (by assumption) ?_|omega|(simp;done)|(simp;omega))),by (repeat' (with_reducible first|assumption|refine PerIn.alloc ?_ _ ?_|refine PerIn.drew ?_|refine PerIn.drewN ?_ _|refine PerIn.set ?_ _ ?_|refine PerIn.below ?_ (by assumption) ?_|omega|(simp;done)|(simp;omega))),by (repeat' (with_reducible first|assumption|refine obj_set ?_ ?_|omega)),by (repeat' (with_reducible first|assumption|apply Er|apply Ea|apply Ed|apply En|(refine Es ?_ (by first|(simp<;>omega)|omega) _)|refine Et ?_ (by assumption))),by simp⟩ ?_
  rintro W2 ⟨hbx,hrx,hP1,hP3,hmm4,hE2,hzz⟩
  have c1:=(hbx.cells 1).1
  have c5:=(hbx.cells 5).1
  have c8:=(hbx.cells 8)
  obtain ⟨QQ,hQQ⟩:∃ QQ:Exit→Act→World→Prop,QQ=(fun e a' W'=>e=.normal∧∃ (u16 u17 u18 u19 u20 u21 u22 u23 u24:Value),a'=⟨#[perV (.slice a1 p1.head.length m1) (.slice a2 p1.cycle.length m2) p1.frm p1.period,perV (.slice a3 p2.head.length m3) (.slice a4 p2.cycle.length m4) p2.frm p2.period,.int .i64 day,.pointer (some ⟨w.heap.size,0,none⟩),.pointer (some ⟨w.heap.size+1,0,none⟩),undef,.pointer (some ⟨w.heap.size+1+1,0,none⟩),.pointer (some ⟨pb,0,none⟩),undef,undef,v0,perV (.slice r1 qa.head.length s1) (.slice r2 qa.cycle.length s2) qa.frm qa.period,v2,perV (.slice r3 qb.head.length s3) (.slice r4 qb.cycle.length s4) qb.frm qb.period,.map (some mb),.agg #[.slice r1 qa.head.length s1,.int .i64 qa.frm,.int .i64 qa.period,.slice r2 qa.cycle.length s2,.slice r3 qb.head.length s3,.int .i64 qb.frm,.int .i64 qb.period,.slice r4 qb.cycle.length s4,.int .i64 0,.slice none 0 0,.slice none 0 0,.int .i64 0,.map (some mb)],u16,u17,u18,u19,u20,u21,u22,u23,u24,undef,undef,undef,undef,undef,undef,undef,undef,undef,undef,undef,undef,undef,undef,undef,undef,undef,undef,undef,undef,undef,undef,undef,undef,undef,undef,undef,undef,undef,undef,undef,undef,undef,undef,undef,undef,undef,undef,undef,undef,undef,undef,undef,undef,undef,undef,undef],[]⟩∧W'=W2.setCell ⟨pb,8,none⟩ (.int .i64 st)):=⟨_,rfl⟩
  have HQQ:=Lib.hid hQQ
  clear hQQ
  refine Code.wp_mono (Q:=QQ) ?imp ?reg
  case reg=>
   clear hb6 P1 P3 hm4 hrb1
   go_wp2_with fail
   all_goals first
    | (
     obtain rfl:st=qa.frm:=by have:=HS5.out;omega
     rw [HQQ.out]
     exact ⟨rfl,_,_,_,_,_,_,_,_,_,rfl,rfl⟩)
    | (
     obtain rfl:st=qb.frm:=by have:=HS5.out;omega
     rw [HQQ.out]
     exact ⟨rfl,_,_,_,_,_,_,_,_,_,rfl,rfl⟩)
    | (
     obtain rfl:st=day:=by have:=HS5.out;omega
     rw [HQQ.out]
     exact ⟨rfl,_,_,_,_,_,_,_,_,_,rfl,rfl⟩)
  case imp=>
   intro e a' W3 hq
   rw [HQQ.out] at hq
   obtain ⟨rfl,u16,u17,u18,u19,u20,u21,u22,u23,u24,rfl,rfl⟩:=hq
   go_wp2_with fail
   refine wp_abs (F:=fun W3=>Bxx W3 pb #[.slice r1 qa.head.length s1,.int .i64 qa.frm,.int .i64 qa.period,.slice r2 qa.cycle.length s2,.slice r3 qb.head.length s3,.int .i64 qb.frm,.int .i64 qb.period,.slice r4 qb.cycle.length s4,.int .i64 st,.slice none 0 0,.slice none 0 0,.int .i64 0,.map (some mb)] 62∧Bxx W3 (w.heap.size+2) pairZ 62∧PerIn W3 lo1 hi1 (.slice r1 qa.head.length s1) (.slice r2 qa.cycle.length s2) qa∧PerIn W3 lo3 hi3 (.slice r3 qb.head.length s3) (.slice r4 qb.cycle.length s4) qb∧W3.heap[mb]? = some (.map #[] 0)∧Below w.heap.size w W3∧W.heap.size≤W3.heap.size)
    ⟨set13_8 hbx,hrx.setNe _ (by omega),hP1.set _ (by omega),hP3.set _ (by omega),obj_set hmm4 (by omega),by (repeat' (with_reducible first|assumption|apply Er|apply Ea|apply Ed|apply En|(refine Es ?_ (by first|(simp<;>omega)|omega) _)|refine Et ?_ (by assumption))),by simpa using hzz⟩ ?_
   clear c1 c5 c8 hbx hrx hP1 hP3 hmm4 hE2 hzz HQQ QQ hb6 P1 P3 hm4 hrb1
   rintro W3 ⟨hbx,hrx,hP1,hP3,hmm4,hE3,hzz⟩
   have hA0:W3.cell? ⟨pb,0,none⟩=some (.slice r1 qa.head.length s1):=(hbx.cells 0).1
   have hA1:W3.cell? ⟨pb,1,none⟩=some (.int .i64 qa.frm):=(hbx.cells 1).1
   have hA2:W3.cell? ⟨pb,2,none⟩=some (.int .i64 qa.period):=(hbx.cells 2).1
   have hA3:W3.cell? ⟨pb,3,none⟩=some (.slice r2 qa.cycle.length s2):=(hbx.cells 3).1
   have hB0:W3.cell? ⟨pb,4,none⟩=some (.slice r3 qb.head.length s3):=(hbx.cells 4).1
   have hB1:W3.cell? ⟨pb,5,none⟩=some (.int .i64 qb.frm):=(hbx.cells 5).1
   have hB2:W3.cell? ⟨pb,6,none⟩=some (.int .i64 qb.period):=(hbx.cells 6).1
   have hB3:W3.cell? ⟨pb,7,none⟩=some (.slice r4 qb.cycle.length s4):=(hbx.cells 7).1
   have hC0:W3.cell? ⟨pb,8,none⟩=some (.int .i64 st):=(hbx.cells 8).1
   have hpbl:=hbx.lt
   have HP1:=Lib.hid hP1
   have HP3:=Lib.hid hP3
   clear hP1 hP3
   have hfld:=run_field3
   have hC9:W3.cell? ⟨pb,9,none⟩=some (.slice none 0 0):=(hbx.cells 9).1
   have hF9:W3.frozen? ⟨pb,9,none⟩=false:=(hbx.cells 9).2
   have hC10:W3.cell? ⟨pb,10,none⟩=some (.slice none 0 0):=(hbx.cells 10).1
   have hF10:W3.frozen? ⟨pb,10,none⟩=false:=(hbx.cells 10).2
   go_region_held3 (fun w'=>w'.cell? ⟨pb,0,none⟩=some (.slice r1 qa.head.length s1)∧w'.cell? ⟨pb,1,none⟩=some (.int .i64 qa.frm)∧w'.cell? ⟨pb,2,none⟩=some (.int .i64 qa.period)∧w'.cell? ⟨pb,3,none⟩=some (.slice r2 qa.cycle.length s2)∧w'.cell? ⟨pb,4,none⟩=some (.slice r3 qb.head.length s3)∧w'.cell? ⟨pb,5,none⟩=some (.int .i64 qb.frm)∧w'.cell? ⟨pb,6,none⟩=some (.int .i64 qb.period)∧w'.cell? ⟨pb,7,none⟩=some (.slice r4 qb.cycle.length s4)∧w'.cell? ⟨pb,8,none⟩=some (.int .i64 st)) ((go_split_ands;repeat' (with_reducible first|assumption|refine cell_set_off ?_ ?_ _|refine cell_set_ne ?_ ?_ _|refine cell_alloc_at ?_ _|refine cell_drew ?_|exact Ext.cell (by assumption) (by assumption)|apply And.intro|(exact Below.cell' (by assumption) (by assumption) (by first|(simp;done)|(simp;omega)|omega))|(refine Below.cell' (by assumption) ?_ (by first|(simp;done)|(simp;omega)|omega))|omega|(simp;done)|(simp;omega))))
    ((go_at_call 45;first|((with_reducible refine (later_any _ _ qa st _ (HP1.out.is.ext (by (repeat' (with_reducible first|assumption|apply Er|apply Ea|apply Ed|apply En|(refine Es ?_ (by first|(simp<;>omega)|omega) _)|refine Et ?_ (by assumption))))) HQA.out.wf (by omega) (by omega) (by omega) (by omega)).mono ?_);rintro e w5 ⟨z1,z2,he5,ho5,hb5,_⟩;obtain ⟨t1a,t1b,t2a,t2b,rfl,rfl⟩:=ho5.form;have he5':e=.returned (.agg #[.slice t1a (laterP qa st).head.length t1b,.int .i64 (laterP qa st).frm,.int .i64 (laterP qa st).period,.slice t2a (laterP qa st).cycle.length t2b]):=he5;clear he5;subst he5';obtain ⟨hc5,hf5⟩:=bcell hb5;(try simp only [World.size_alloc,World.size_drew,size_drewN,World.size_setCell] at hc5 hf5);have hz5:=hb5.size;(try simp only [World.size_alloc,World.size_drew,size_drewN,World.size_setCell] at hz5);have hz5':pb<w5.heap.size:=(by omega))|((with_reducible refine (later_any _ _ qb st _ (HP3.out.is.ext (by (repeat' (with_reducible first|assumption|apply Er|apply Ea|apply Ed|apply En|(refine Es ?_ (by first|(simp<;>omega)|omega) _)|refine Et ?_ (by assumption))))) HQB.out.wf (by omega) (by omega) (by omega) (by omega)).mono ?_);rintro e w6 ⟨z3,z4,he6,ho6,hb6b,_⟩;obtain ⟨t3a,t3b,t4a,t4b,rfl,rfl⟩:=ho6.form;have he6':e=.returned (.agg #[.slice t3a (laterP qb st).head.length t3b,.int .i64 (laterP qb st).frm,.int .i64 (laterP qb st).period,.slice t4a (laterP qb st).cycle.length t4b]):=he6;clear he6;subst he6';obtain ⟨hc6,hf6⟩:=bcell hb6b;(try simp only [World.size_alloc,World.size_drew,size_drewN,World.size_setCell] at hc6 hf6);have hz6:=hb6b.size;(try simp only [World.size_alloc,World.size_drew,size_drewN,World.size_setCell] at hz6);have hz6':pb<w6.heap.size:=(by omega))))
   have hW4:Below W3.heap.size W3 w5:=by (repeat' (with_reducible first|assumption|apply Er|apply Ea|apply Ed|apply En|(refine Es ?_ (by first|(simp<;>omega)|omega) _)|refine Et ?_ (by assumption)))
   have hW6:Below W3.heap.size W3 w6:=by (repeat' (with_reducible first|assumption|apply Er|apply Ea|apply Ed|apply En|(refine Es ?_ (by first|(simp<;>omega)|omega) _)|refine Et ?_ (by assumption)))
   have hx5:=ho5.cy.inn.below hb6b (Nat.le_refl _)
   have hx6:=ho6.cy.inn
   have hp0:=HP1.out.below hW6 (by omega)
   have hp4:=HP3.out.below hW6 (by omega)
   refine at_abs (F:=fun W4=>Bxx W4 pb #[.slice r1 qa.head.length s1,.int .i64 qa.frm,.int .i64 qa.period,.slice r2 qa.cycle.length s2,.slice r3 qb.head.length s3,.int .i64 qb.frm,.int .i64 qb.period,.slice r4 qb.cycle.length s4,.int .i64 st,.slice t2a (laterP qa st).cycle.length t2b,.slice t4a (laterP qb st).cycle.length t4b,.int .i64 0,.map (some mb)] 62∧Bxx W4 (w.heap.size+2) pairZ 62∧PerIn W4 lo1 hi1 (.slice r1 qa.head.length s1) (.slice r2 qa.cycle.length s2) qa∧PerIn W4 lo3 hi3 (.slice r3 qb.head.length s3) (.slice r4 qb.cycle.length s4) qb∧IntsIn W4 W3.heap.size W4.heap.size (.slice t2a (laterP qa st).cycle.length t2b) (laterP qa st).cycle∧IntsIn W4 W3.heap.size W4.heap.size (.slice t4a (laterP qb st).cycle.length t4b) (laterP qb st).cycle∧W4.heap[mb]? = some (.map #[] 0)∧Below w.heap.size w W4∧W.heap.size≤W4.heap.size)
    ⟨set13_10 (set13_9 (hbx.below hW6)),((hrx.below hW6).setNe _ (by omega)).setNe _ (by omega),(hp0.set _ (by omega)).set _ (by omega),(hp4.set _ (by omega)).set _ (by omega),((hx5.mono (by simp) (by simp;omega)).set _ (by omega)).set _ (by omega),((hx6.mono (by omega) (by simp)).set _ (by omega)).set _ (by omega),obj_set (obj_set (objKeep hmm4 hW6) (by omega)) (by omega),by (repeat' (with_reducible first|assumption|apply Er|apply Ea|apply Ed|apply En|(refine Es ?_ (by first|(simp<;>omega)|omega) _)|refine Et ?_ (by assumption))),by simp;omega⟩ ?_
   clear hx5 hx6 hp0 hp4 hW4 hW6 hb5 hb6b ho5 ho6 hc5 hf5 hc6 hf6 hA0 hA1 hA2 hA3 hB0 hB1 hB2 hB3 hC0 hC9 hF9 hC10 hF10 hbx hrx hmm4 HP1 HP3
   rintro W4 ⟨hbx,hrx,hP1,hP3,hX5,hX6,hmm4,hE4,hzz4⟩
   have hA2:W4.cell? ⟨pb,2,none⟩=some (.int .i64 qa.period):=(hbx.cells 2).1
   have hB2:W4.cell? ⟨pb,6,none⟩=some (.int .i64 qb.period):=(hbx.cells 6).1
   have hC11:W4.cell? ⟨pb,11,none⟩=some (.int .i64 0):=(hbx.cells 11).1
   have hC10:W4.cell? ⟨pb,10,none⟩=some (.slice t4a (laterP qb st).cycle.length t4b):=(hbx.cells 10).1
   have hF11:W4.frozen? ⟨pb,11,none⟩=false:=(hbx.cells 11).2
   go_wp2_with fail
   go_at_call 72
   refine (gcd_any _ _ _ (by have:=HQA.out.wf.per;omega) (by omega) (by have:=HQB.out.wf.per;omega) (by omega)).mono ?_
   rintro e w7 ⟨rfl,n,rfl⟩
   go_wp2_with fail
   refine wp_abs (F:=fun W5=>Bxx W5 pb #[.slice r1 qa.head.length s1,.int .i64 qa.frm,.int .i64 qa.period,.slice r2 qa.cycle.length s2,.slice r3 qb.head.length s3,.int .i64 qb.frm,.int .i64 qb.period,.slice r4 qb.cycle.length s4,.int .i64 st,.slice t2a (laterP qa st).cycle.length t2b,.slice t4a (laterP qb st).cycle.length t4b,.int .i64 (Int.gcd qa.period qb.period:Nat),.map (some mb)] 62∧Bxx W5 (w.heap.size+2) pairZ 62∧PerIn W5 lo1 hi1 (.slice r1 qa.head.length s1) (.slice r2 qa.cycle.length s2) qa∧PerIn W5 lo3 hi3 (.slice r3 qb.head.length s3) (.slice r4 qb.cycle.length s4) qb∧IntsIn W5 W3.heap.size W4.heap.size (.slice t2a (laterP qa st).cycle.length t2b) (laterP qa st).cycle∧IntsIn W5 W3.heap.size W4.heap.size (.slice t4a (laterP qb st).cycle.length t4b) (laterP qb st).cycle∧W5.heap[mb]? = some (.map #[] 0)∧Below w.heap.size w W5∧W4.heap.size≤W5.heap.size)
    ⟨set13_11 hbx,hrx.setNe _ (by omega),(hP1.drewN _).set _ (by omega),(hP3.drewN _).set _ (by omega),(hX5.drewN _).set _ (by omega),(hX6.drewN _).set _ (by omega),obj_set hmm4 (by omega),by (repeat' (with_reducible first|assumption|apply Er|apply Ea|apply Ed|apply En|(refine Es ?_ (by first|(simp<;>omega)|omega) _)|refine Et ?_ (by assumption))),by simp⟩ ?_
   clear hA2 hB2 hC10 hC11 hF11 hbx hrx hP1 hP3 hX5 hX6 hmm4
   rintro W5 ⟨hbx,hrx,hP1,hP3,hX5,hX6,hmm4,hE5,hzz5⟩
   have hGa:=gcd_bound (b:=qb.period) za1
   have hGb:=gcd_bound2 (a:=qa.period) zb1
   generalize hG:((Int.gcd qa.period qb.period:Nat):Int)=G at *
   have HG:=Lib.hid hG
   clear hG
   generalize hys:(laterP qb st).cycle=ys at *
   have HYS:=Lib.hid hys
   clear hys
   have hmblt:mb<W5.heap.size:=(Array.getElem?_eq_some_iff.1 hmm4).1
   have hpb5:pb<W5.heap.size:=hbx.lt
   have hC10:W5.cell? ⟨pb,10,none⟩=some (.slice t4a ys.length t4b):=(hbx.cells 10).1
   have hmbW:mb<W3.heap.size:=by omega
   have hylen:ys.length≤17592186044416:=hX6.ints.len
   have hmade:W5.ownsGroups Tryz.prog 3 W5.heap.size 3 .i64 mb 0 (.map []:DataW Unit):=⟨#[],0,hmm4,⟨by simp,MapKept.stamped_empty 0,by simp⟩,Nat.le_refl _,rfl,hmblt,by simp,by simp⟩
   have HX6:=Lib.hid hX6
   have HBX:=Lib.hid hbx
   have HMADE:=Lib.hid hmade
   have HRX:=Lib.hid hrx
   have HP1:=Lib.hid hP1
   have HP3:=Lib.hid hP3
   have HX5:=Lib.hid hX5
   clear hX6 hbx hmade hmm4 hrx hP1 hP3 hX5
   go_wp2_with fail
   go_loopw [50] (fun i wr=>∃ (k n:Nat) (D:DataW Unit),k≤ys.length∧n≤k∧i=.int .i64 k∧wr.ownsGroups Tryz.prog 3 W5.heap.size 3 .i64 mb n D∧MapRd D G (ys.take k)∧W5.grownBy wr (some mb)) (fun i _=>ys.length-(intOf i).toNat)
   case atStart=>exact ⟨0,0,.map [],by omega,by omega,rfl,HMADE.out,MapRd.nil G,World.grownBy.refl _ _⟩
   case round=>
    obtain ⟨k,n,D,hk,hn,rfl,hown,hrd,hgr⟩:=hrel
    have hbx:Bxx wr pb _ _:=(hgr.block pb hpb5 (by simp;omega)).trans HBX.out
    have hX6:=HX6.out.of_blocks (w':=wr) fun j h1 h2=>hgr.block j (by omega) (by simp;omega)
    by_cases hlt:k<ys.length
    ·have hA12:wr.cell? ⟨pb,12,none⟩=some (.map (some mb)):=(hbx.cells 12).1
     have hA11:wr.cell? ⟨pb,11,none⟩=some (.int .i64 G):=(hbx.cells 11).1
     have hyI:=hX6.ints.rng (ys.getD k 0) (getD_mem hlt)
     obtain ⟨⟨⟨a8,c8,he8,_,_,h38⟩,_,_⟩,_⟩:=hX6
     injection he8 with he1 he2 he3
     subst he1;subst he3
     rcases h38 with h38|⟨b8,f8,rfl,hcell⟩
     ·rw [h38] at hlt;simp at hlt
     have hcl:=hcell k hlt
     have hkI:(k:Int)<ys.length:=by omega
     obtain ⟨y,hy⟩:∃ y,y=ys.getD k 0:=⟨_,rfl⟩
     rw [← hy] at hcl hyI
     have hy0:0≤y:=by
      have:=(laterP_ok HQB.out.wf (day:=st) (by omega)).1.cyc.2 y (by rw [HYS.out,hy];exact getD_mem hlt)
      exact this.1
     have hm0:=Int.emod_nonneg y (show G≠0 by omega)
     have hm1:=Int.emod_lt_of_pos y (show 0<G by omega)
     obtain ⟨rv,zs,hlk,hat,ho,hzl,hback⟩:=groups_at hown (by omega) (r:=y % G) ⟨by omega,by omega⟩
     have hz:=hrd.got hat ho
     have hrowlt:∀ j,rv.ownBlock=some j→W5.heap.size≤j∧j<wr.heap.size:=fun j hj=>ho.1.lt j hj
     have hpbrow:some pb≠rv.ownBlock:=fun e=>by have:=hrowlt pb e.symm;omega
     have hmbrow:some mb≠rv.ownBlock:=fun e=>by have:=hrowlt mb e.symm;omega
     have hO:OwnI wr W5.heap.size rv zs:=⟨ho.1,fun x hx=>wf_in (ho.2 x hx),by omega⟩
     have hmbwr:mb<wr.heap.size:=by have:=hgr.size;omega
     have hszgr:=hgr.size
     have hzlen:zs.length+1≤17592186044416:=by omega
     have HO:=Lib.hid hO
     have HBACK:=Lib.hid hback
     have HHO:=Lib.hid ho
     have HZ:=Lib.hid hz
     have HRD:=Lib.hid hrd
     have HBOX:=Lib.hid hbx
     have HGR:=Lib.hid hgr
     have HY:=Lib.hid hy
     clear hO hback ho hz hrd hbx hgr hat hown hcell hy
     go_wp2_with fail
     refine wp_region_row (w0:=wr) (rv.ownBlock) 15 [0,1,2,3,4,5,6,7,8,9,10,11,12,13,14,15] [16] (fun v=>⟨#[perV (.slice a1 p1.head.length m1) (.slice a2 p1.cycle.length m2) p1.frm p1.period,perV (.slice a3 p2.head.length m3) (.slice a4 p2.cycle.length m4) p2.frm p2.period,.int .i64 day,.pointer (some ⟨w.heap.size,0,none⟩),.pointer (some ⟨w.heap.size+1,0,none⟩),undef,.pointer (some ⟨w.heap.size+1+1,0,none⟩),.pointer (some ⟨pb,0,none⟩),undef,.int .i64 y,v0,perV (.slice r1 qa.head.length s1) (.slice r2 qa.cycle.length s2) qa.frm qa.period,v2,perV (.slice r3 qb.head.length s3) (.slice r4 qb.cycle.length s4) qb.frm qb.period,.map (some mb),.agg #[.slice r1 qa.head.length s1,.int .i64 qa.frm,.int .i64 qa.period,.slice r2 qa.cycle.length s2,.slice r3 qb.head.length s3,.int .i64 qb.frm,.int .i64 qb.period,.slice r4 qb.cycle.length s4,.int .i64 0,.slice none 0 0,.slice none 0 0,.int .i64 0,.map (some mb)],u16,u17,u18,u19,u20,u21,u22,u23,u24,.pointer (some ⟨pb,0,none⟩),.agg #[.slice r1 qa.head.length s1,.int .i64 qa.frm,.int .i64 qa.period,.slice r2 qa.cycle.length s2],.pointer (some ⟨pb,8,none⟩),.int .i64 st,.agg #[.slice t1a (laterP qa st).head.length t1b,.int .i64 (laterP qa st).frm,.int .i64 (laterP qa st).period,.slice t2a (laterP qa st).cycle.length t2b],.slice t2a (laterP qa st).cycle.length t2b,.pointer (some ⟨pb,4,none⟩),.agg #[.slice r3 qb.head.length s3,.int .i64 qb.frm,.int .i64 qb.period,.slice r4 qb.cycle.length s4],.pointer (some ⟨pb,8,none⟩),.int .i64 st,.agg #[.slice t3a (laterP qb st).head.length t3b,.int .i64 (laterP qb st).frm,.int .i64 (laterP qb st).period,.slice (some ⟨b8,f8,none⟩) ys.length t4b],.slice (some ⟨b8,f8,none⟩) ys.length t4b,.pointer (some ⟨pb,9,none⟩),.pointer (some ⟨pb,10,none⟩),.pointer (some ⟨pb,0,none⟩),.pointer (some ⟨pb,2,none⟩),.int .i64 qa.period,.pointer (some ⟨pb,4,none⟩),.pointer (some ⟨pb,6,none⟩),.int .i64 qb.period,.int .i64 G,.pointer (some ⟨pb,11,none⟩),.pointer (some ⟨pb,10,none⟩),.slice (some ⟨b8,f8,none⟩) ys.length t4b,.int .i64 ↑ys.length,.int .i64 ↑k,.bool true,.pointer (some ⟨b8,f8+k,none⟩),.int .i64 y,v 0,v 1,v 2,v 3,v 4,v 5,v 6,v 7,v 8,v 9,v 10,v 11,v 12,v 13,v 14,v 15,u70,undef],[]⟩) (fun j=>match j with|0=>u54|1=>u55|2=>u56|3=>u57|4=>u58|5=>u59|6=>u60|7=>u61|8=>u62|9=>u63|10=>u64|11=>u65|12=>u66|13=>u67|14=>u68|15=>u69|_=>undef)
      (fun i v lo hi W=>match i with
       | 0=>v 0=.pointer (some ⟨pb,12,none⟩)
       | 1=>v 1=.map (some mb)
       | 2=>v 2=.int .i64 y
       | 3=>v 3=.pointer (some ⟨pb,11,none⟩)
       | 4=>v 4=.int .i64 G
       | 5=>v 5=.int .i64 (y % G)
       | 6=>v 6=.pointer (some ⟨pb,12,none⟩)
       | 7=>v 7=.map (some mb)
       | 8=>v 8=.int .i64 y
       | 9=>v 9=.pointer (some ⟨pb,11,none⟩)
       | 10=>v 10=.int .i64 G
       | 11=>v 11=.int .i64 (y % G)
       | 12=>v 12=rv
       | 13=>v 13=.int .i64 y
       | 14=>v 14=.slice (some ⟨lo 14,0,none⟩) 1 1∧lo 14<hi 14∧wr.heap.size≤lo 14∧hi 14≤W.heap.size∧Bxx W (lo 14) #[.int .i64 y] 3
       | 15=>∃ g cap,v 15=.slice (some ⟨g,0,none⟩) (zs.length+1) cap∧OwnI W W5.heap.size (v 15) (zs ++ [y])∧(rv.ownBlock=some g∨wr.heap.size≤g)
       | _=>True)
      (fun W=>W.cell? ⟨pb,12,none⟩=some (.map (some mb))∧W.cell? ⟨pb,11,none⟩=some (.int .i64 G)∧W.heap[mb]? = wr.heap[mb]?) rfl (by kernel_rfl) (by decide) rfl ?stab ?loc (fun W hb=>⟨hb.cell hA12 hpbrow,hb.cell hA11 hpbrow,hb.block mb hmbwr hmbrow⟩) ?steps ?fin
     case stab=>
      rintro (_|_|_|_|_|_|_|_|_|_|_|_|_|_|_|_|i) v lo hi W W' h hb
      ·exact h
      ·exact h
      ·exact h
      ·exact h
      ·exact h
      ·exact h
      ·exact h
      ·exact h
      ·exact h
      ·exact h
      ·exact h
      ·exact h
      ·exact h
      ·exact h
      ·rw [if_neg (by decide)] at hb;exact ⟨h.1,h.2.1,h.2.2.1,Nat.le_trans h.2.2.2.1 hb.size,(hb.block (lo 14) (by have:=h.2.1;have:=h.2.2.2.1;omega) (fun e=>by have:=hrowlt _ e.symm;have:=h.2.2.1;omega)).trans h.2.2.2.2⟩
      ·rw [if_pos rfl] at hb;exact (let ⟨g,cap,e,ho,hl⟩:=h;⟨g,cap,e,ho.ext hb,hl⟩)
      ·trivial
     case loc=>
      rintro (_|_|_|_|_|_|_|_|_|_|_|_|_|_|_|_|i) v v' lo lo' hi hi' W hag h
      ·have q:=hag 0 (.inl rfl)
       (try dsimp only at h ⊢);(try simp only [q.1,q.2.1,q.2.2] at h);exact h
      ·have q:=hag 1 (.inl rfl)
       have q0:=hag 0 (.inr (Rdp (by kernel_rfl)))
       (try dsimp only at h ⊢);(try simp only [q.1,q.2.1,q.2.2,q0.1,q0.2.1,q0.2.2] at h);exact h
      ·have q:=hag 2 (.inl rfl)
       (try dsimp only at h ⊢);(try simp only [q.1,q.2.1,q.2.2] at h);exact h
      ·have q:=hag 3 (.inl rfl)
       (try dsimp only at h ⊢);(try simp only [q.1,q.2.1,q.2.2] at h);exact h
      ·have q:=hag 4 (.inl rfl)
       have q3:=hag 3 (.inr (Rdp (by kernel_rfl)))
       (try dsimp only at h ⊢);(try simp only [q.1,q.2.1,q.2.2,q3.1,q3.2.1,q3.2.2] at h);exact h
      ·have q:=hag 5 (.inl rfl)
       have q2:=hag 2 (.inr (Rdp (by kernel_rfl)))
       have q4:=hag 4 (.inr (Rdp (by kernel_rfl)))
       (try dsimp only at h ⊢);(try simp only [q.1,q.2.1,q.2.2,q2.1,q2.2.1,q2.2.2,q4.1,q4.2.1,q4.2.2] at h);exact h
      ·have q:=hag 6 (.inl rfl)
       (try dsimp only at h ⊢);(try simp only [q.1,q.2.1,q.2.2] at h);exact h
      ·have q:=hag 7 (.inl rfl)
       have q6:=hag 6 (.inr (Rdp (by kernel_rfl)))
       (try dsimp only at h ⊢);(try simp only [q.1,q.2.1,q.2.2,q6.1,q6.2.1,q6.2.2] at h);exact h
      ·have q:=hag 8 (.inl rfl)
       (try dsimp only at h ⊢);(try simp only [q.1,q.2.1,q.2.2] at h);exact h
      ·have q:=hag 9 (.inl rfl)
       (try dsimp only at h ⊢);(try simp only [q.1,q.2.1,q.2.2] at h);exact h
      ·have q:=hag 10 (.inl rfl)
       have q9:=hag 9 (.inr (Rdp (by kernel_rfl)))
       (try dsimp only at h ⊢);(try simp only [q.1,q.2.1,q.2.2,q9.1,q9.2.1,q9.2.2] at h);exact h
      ·have q:=hag 11 (.inl rfl)
       have q8:=hag 8 (.inr (Rdp (by kernel_rfl)))
       have q10:=hag 10 (.inr (Rdp (by kernel_rfl)))
       (try dsimp only at h ⊢);(try simp only [q.1,q.2.1,q.2.2,q8.1,q8.2.1,q8.2.2,q10.1,q10.2.1,q10.2.2] at h);exact h
      ·have q:=hag 12 (.inl rfl)
       have q7:=hag 7 (.inr (Rdp (by kernel_rfl)))
       have q11:=hag 11 (.inr (Rdp (by kernel_rfl)))
       (try dsimp only at h ⊢);(try simp only [q.1,q.2.1,q.2.2,q7.1,q7.2.1,q7.2.2,q11.1,q11.2.1,q11.2.2] at h);exact h
      ·have q:=hag 13 (.inl rfl)
       (try dsimp only at h ⊢);(try simp only [q.1,q.2.1,q.2.2] at h);exact h
      ·have q:=hag 14 (.inl rfl)
       have q13:=hag 13 (.inr (Rdp (by kernel_rfl)))
       (try dsimp only at h ⊢);(try simp only [q.1,q.2.1,q.2.2,q13.1,q13.2.1,q13.2.2] at h);exact h
      ·have q:=hag 15 (.inl rfl)
       have q12:=hag 12 (.inr (Rdp (by kernel_rfl)))
       have q14:=hag 14 (.inr (Rdp (by kernel_rfl)))
       (try dsimp only at h ⊢);(try simp only [q.1,q.2.1,q.2.2,q12.1,q12.2.1,q12.2.2,q14.1,q14.2.1,q14.2.2] at h);exact h
      ·trivial
     case steps=>
      refine StepsG.cons rfl ?_ (StepsG.cons rfl ?_ (StepsG.cons rfl ?_ (StepsG.cons rfl ?_ (StepsG.cons rfl ?_ (StepsG.cons rfl ?_ (StepsG.cons rfl ?_ (StepsG.cons rfl ?_ (StepsG.cons rfl ?_ (StepsG.cons rfl ?_ (StepsG.cons rfl ?_ (StepsG.cons rfl ?_ (StepsG.cons rfl ?_ (StepsG.cons rfl ?_ (StepsG.cons rfl ?_ (StepsG.cons rfl ?_ StepsG.nil)))))))))))))))
      ·rintro v lo hi W hb hkx ⟨g12,g11,gmb⟩ hd K hK
       replace hK:=fun x W' (h:Below W.heap.size W W')=>hK x W' (by rw [if_neg (by decide)];exact h)
       clear hkx
       clear hd
       dsimp only
       go_wp2_with fail
       exact acx (hK (.pointer (some ⟨pb,12,none⟩)) W (Below.refl _ _) rfl) (by simp)
      ·rintro v lo hi W hb hkx ⟨g12,g11,gmb⟩ hd K hK
       replace hK:=fun x W' (h:Below W.heap.size W W')=>hK x W' (by rw [if_neg (by decide)];exact h)
       clear hkx
       have e0:v 0=.pointer (some ⟨pb,12,none⟩):=(hd 0 (Rdp (by kernel_rfl))).2.2
       clear hd
       dsimp only
       (try simp only [e0])
       go_wp2_with fail
       exact acx (hK (.map (some mb)) W (Below.refl _ _) rfl) (by simp [e0])
      ·rintro v lo hi W hb hkx ⟨g12,g11,gmb⟩ hd K hK
       replace hK:=fun x W' (h:Below W.heap.size W W')=>hK x W' (by rw [if_neg (by decide)];exact h)
       clear hkx
       clear hd
       dsimp only
       go_wp2_with fail
       exact acx (hK (.int .i64 y) W (Below.refl _ _) rfl) (by simp)
      ·rintro v lo hi W hb hkx ⟨g12,g11,gmb⟩ hd K hK
       replace hK:=fun x W' (h:Below W.heap.size W W')=>hK x W' (by rw [if_neg (by decide)];exact h)
       clear hkx
       clear hd
       dsimp only
       go_wp2_with fail
       exact acx (hK (.pointer (some ⟨pb,11,none⟩)) W (Below.refl _ _) rfl) (by simp)
      ·rintro v lo hi W hb hkx ⟨g12,g11,gmb⟩ hd K hK
       replace hK:=fun x W' (h:Below W.heap.size W W')=>hK x W' (by rw [if_neg (by decide)];exact h)
       clear hkx
       have e3:v 3=.pointer (some ⟨pb,11,none⟩):=(hd 3 (Rdp (by kernel_rfl))).2.2
       clear hd
       dsimp only
       (try simp only [e3])
       go_wp2_with fail
       exact acx (hK (.int .i64 G) W (Below.refl _ _) rfl) (by simp [e3])
      ·rintro v lo hi W hb hkx ⟨g12,g11,gmb⟩ hd K hK
       replace hK:=fun x W' (h:Below W.heap.size W W')=>hK x W' (by rw [if_neg (by decide)];exact h)
       clear hkx
       have e2:v 2=.int .i64 y:=(hd 2 (Rdp (by kernel_rfl))).2.2
       have e4:v 4=.int .i64 G:=(hd 4 (Rdp (by kernel_rfl))).2.2
       clear hd
       dsimp only
       (try simp only [e2,e4])
       go_wp2_with fail
       exact acx (hK (.int .i64 (y % G)) W (Below.refl _ _) rfl) (by simp [e2,e4])
      ·rintro v lo hi W hb hkx ⟨g12,g11,gmb⟩ hd K hK
       replace hK:=fun x W' (h:Below W.heap.size W W')=>hK x W' (by rw [if_neg (by decide)];exact h)
       clear hkx
       clear hd
       dsimp only
       go_wp2_with fail
       exact acx (hK (.pointer (some ⟨pb,12,none⟩)) W (Below.refl _ _) rfl) (by simp)
      ·rintro v lo hi W hb hkx ⟨g12,g11,gmb⟩ hd K hK
       replace hK:=fun x W' (h:Below W.heap.size W W')=>hK x W' (by rw [if_neg (by decide)];exact h)
       clear hkx
       have e6:v 6=.pointer (some ⟨pb,12,none⟩):=(hd 6 (Rdp (by kernel_rfl))).2.2
       clear hd
       dsimp only
       (try simp only [e6])
       go_wp2_with fail
       exact acx (hK (.map (some mb)) W (Below.refl _ _) rfl) (by simp [e6])
      ·rintro v lo hi W hb hkx ⟨g12,g11,gmb⟩ hd K hK
       replace hK:=fun x W' (h:Below W.heap.size W W')=>hK x W' (by rw [if_neg (by decide)];exact h)
       clear hkx
       clear hd
       dsimp only
       go_wp2_with fail
       exact acx (hK (.int .i64 y) W (Below.refl _ _) rfl) (by simp)
      ·rintro v lo hi W hb hkx ⟨g12,g11,gmb⟩ hd K hK
       replace hK:=fun x W' (h:Below W.heap.size W W')=>hK x W' (by rw [if_neg (by decide)];exact h)
       clear hkx
       clear hd
       dsimp only
       go_wp2_with fail
       exact acx (hK (.pointer (some ⟨pb,11,none⟩)) W (Below.refl _ _) rfl) (by simp)
      ·rintro v lo hi W hb hkx ⟨g12,g11,gmb⟩ hd K hK
       replace hK:=fun x W' (h:Below W.heap.size W W')=>hK x W' (by rw [if_neg (by decide)];exact h)
       clear hkx
       have e9:v 9=.pointer (some ⟨pb,11,none⟩):=(hd 9 (Rdp (by kernel_rfl))).2.2
       clear hd
       dsimp only
       (try simp only [e9])
       go_wp2_with fail
       exact acx (hK (.int .i64 G) W (Below.refl _ _) rfl) (by simp [e9])
      ·rintro v lo hi W hb hkx ⟨g12,g11,gmb⟩ hd K hK
       replace hK:=fun x W' (h:Below W.heap.size W W')=>hK x W' (by rw [if_neg (by decide)];exact h)
       clear hkx
       have e8:v 8=.int .i64 y:=(hd 8 (Rdp (by kernel_rfl))).2.2
       have e10:v 10=.int .i64 G:=(hd 10 (Rdp (by kernel_rfl))).2.2
       clear hd
       dsimp only
       (try simp only [e8,e10])
       go_wp2_with fail
       exact acx (hK (.int .i64 (y % G)) W (Below.refl _ _) rfl) (by simp [e8,e10])
      ·rintro v lo hi W hb hkx ⟨g12,g11,gmb⟩ hd K hK
       replace hK:=fun x W' (h:Below W.heap.size W W')=>hK x W' (by rw [if_neg (by decide)];exact h)
       clear hkx
       have e7:v 7=.map (some mb):=(hd 7 (Rdp (by kernel_rfl))).2.2
       have e11:v 11=.int .i64 (y % G):=(hd 11 (Rdp (by kernel_rfl))).2.2
       clear hd
       dsimp only
       (try simp only [e7,e11])
       have hlk9:=hlk W gmb
       go_wp2_with fail
       exact acx (hK rv W (Below.refl _ _) rfl) (by simp [e7,e11])
      ·rintro v lo hi W hb hkx ⟨g12,g11,gmb⟩ hd K hK
       replace hK:=fun x W' (h:Below W.heap.size W W')=>hK x W' (by rw [if_neg (by decide)];exact h)
       clear hkx
       clear hd
       dsimp only
       go_wp2_with fail
       exact acx (hK (.int .i64 y) W (Below.refl _ _) rfl) (by simp)
      ·rintro v lo hi W hb hkx ⟨g12,g11,gmb⟩ hd K hK
       replace hK:=fun x W' (h:Below W.heap.size W W')=>hK x W' (by rw [if_neg (by decide)];exact h)
       clear hkx
       have e13:v 13=.int .i64 y:=(hd 13 (Rdp (by kernel_rfl))).2.2
       clear hd
       dsimp only
       (try simp only [e13])
       go_wp2_with fail
       exact acx (hK (.slice (some ⟨W.heap.size,0,none⟩) 1 1) _ (Ea (Er _) _) ⟨rfl,by simp,hb.size,by simp,Bxx.new _ _ _⟩) (by simp [e13])
      ·rintro v lo hi W hb hkx ⟨g12,g11,gmb⟩ hd K hK
       replace hK:=fun x W' (h:W.grownBy W' (rv.ownBlock))=>hK x W' (by rw [if_pos rfl];exact h)
       replace hkx:=hkx rfl
       have e12:v 12=rv:=(hd 12 (Rdp (by kernel_rfl))).2.2
       obtain ⟨la14,lb14,D14⟩:=hd 14 (Rdp (by kernel_rfl))
       clear hd
       dsimp only
       (try simp only [e12])
       obtain ⟨e14,h14a,h14b,h14c,h14d⟩:=D14
       refine append_wp W _ _ (by rfl) W5.heap.size rv zs y (by first|rfl|exact e12) (HO.out.ext hkx) (lo 14) 1 (by first|exact e14|(simp [e14];done)) (h14d.cells 0).1 hyI hzlen (by have h8:=hkx.size;omega) ?_
       intro g cap w1 hown1 hgrow1 hloc1
       exact acx (hK (.slice (some ⟨g,0,none⟩) (zs.length+1) cap) w1 hgrow1 ⟨g,cap,rfl,hown1,hloc1.imp id (fun e=>by rw [e];exact hb.size)⟩) (by simp only [e12];rfl)
     case fin=>
      rintro v lo hi W hb ⟨g12,g11,gmb⟩ hf hap
      show wpList _ _ _ [_] _ _
      have e1:v 1=.map (some mb):=(hf 1 rfl).2.2.2
      have e5:v 5=.int .i64 (y % G):=(hf 5 rfl).2.2.2
      obtain ⟨_,_,_,gb,cap,e15,ho15,hl15⟩:=hf 15 rfl
      clear hf hap
      rw [e15] at ho15
      have hown':W.ownsInts W5.heap.size 3 .i64 (.slice (some ⟨gb,0,none⟩) (zs.length+1) cap) (zs ++ [y]):=⟨ho15.row,fun z hz=>WalkArith.wf_i64 (ho15.rng z hz)⟩
      have hput:=HRD.out.put (y:=y) (v:=.slice (some ⟨gb,0,none⟩) (zs.length+1) cap) (w:=W) (base:=W5.heap.size) (e:=3) (by rw [← HZ.out];exact hown')
      rw [← HZ.out] at hput
      have HOWN':=Lib.hid hown'
      have HPUT:=Lib.hid hput
      have HLOC:Hid ((Value.slice (some ⟨gb,0,none⟩) (zs.length+1) cap).ownBlock=rv.ownBlock∨∃ g,(Value.slice (some ⟨gb,0,none⟩) (zs.length+1) cap).ownBlock=some g∧wr.heap.size≤g):=Lib.hid (hl15.elim (fun e=>.inl e.symm) (fun h=>.inr ⟨gb,rfl,h⟩))
      have HB:=Lib.hid hb
      clear hown' hput hl15 ho15 hb
      dsimp only
      rw [e1,e5,e15]
      clear e1 e5 e15
      refine wpList_mapUpdate_back _ rfl _ _ _ 60 rfl HBACK.out rfl rfl rfl HB.out HOWN'.out (by simp;omega) HLOC.out ?_
      intro w2 hown2 hgrow2
      go_wp2_with fail
      go_roundw
      case rel=>
       refine ⟨k+1,n+1,_,by omega,by omega,by go_num,hown2,?_,(HGR.out.andThen HB.out (fun j hj=>.inl (hrowlt j hj).1)).trans hgrow2⟩
       have ht:ys.take (k+1)=ys.take k ++ [y]:=by rw [List.take_succ_eq_append_getElem hlt,HY.out];simp [hlt]
       rw [ht];exact HPUT.out
      case measure=>simp [intOf];omega
    ·obtain rfl:k=ys.length:=by omega
     have hszg:=hgr.size
     have hPr1:=HP1.out.of_blocks (w':=wr) fun j h1 h2=>hgr.block j (by omega) (by simp;omega)
     have hPr3:=HP3.out.of_blocks (w':=wr) fun j h1 h2=>hgr.block j (by omega) (by simp;omega)
     have hX5r:=HX5.out.of_blocks (w':=wr) fun j h1 h2=>hgr.block j (by omega) (by simp;omega)
     rw [List.take_length] at hrd
     have hMI:=MapIn.of_groups hown hmblt (by omega) hrd
     have hrx:Bxx wr (w.heap.size+2) _ _:=(hgr.block (w.heap.size+2) HRX.out.lt (by simp;omega)).trans HRX.out
     have hEr:Below w.heap.size w wr:=⟨hgr.os.trans hE5.os,hgr.tape.trans hE5.tape,hgr.output.trans hE5.output,by have:=hE5.size;omega,fun j hj=>(hgr.block j (by have:=hE5.size;omega) (by simp;omega)).trans (hE5.block j hj)⟩
     have c0:=(hbx.cells 0).1
     have c1:=(hbx.cells 1).1
     have c2:=(hbx.cells 2).1
     have c3:=(hbx.cells 3).1
     have c4:=(hbx.cells 4).1
     have c5:=(hbx.cells 5).1
     have c6:=(hbx.cells 6).1
     have c7:=(hbx.cells 7).1
     have c8:=(hbx.cells 8).1
     have c9:=(hbx.cells 9).1
     have c10:=(hbx.cells 10).1
     have c11:=(hbx.cells 11).1
     have c12:=(hbx.cells 12).1
     have k0:=(hrx.cells 0)
     have k1:=(hrx.cells 1)
     have k2:=(hrx.cells 2)
     have k3:=(hrx.cells 3)
     have k4:=(hrx.cells 4)
     have k5:=(hrx.cells 5)
     have k6:=(hrx.cells 6)
     have k7:=(hrx.cells 7)
     have k8:=(hrx.cells 8)
     have k9:=(hrx.cells 9)
     have k10:=(hrx.cells 10)
     have k11:=(hrx.cells 11)
     have k12:=(hrx.cells 12)
     have HPR1:=Lib.hid hPr1
     have HPR3:=Lib.hid hPr3
     have HX5R:=Lib.hid hX5r
     have HX6R:=Lib.hid hX6
     have HMI:=Lib.hid hMI
     have HRXR:=Lib.hid hrx
     have HER:=Lib.hid hEr
     clear hPr1 hPr3 hX5r hX6 hMI hrx hEr hown hrd hgr hbx
     go_wp2_with fail
     refine at_abs (F:=fun Wf=>Bxx Wf (w.heap.size+2) #[.slice r1 qa.head.length s1,.int .i64 qa.frm,.int .i64 qa.period,.slice r2 qa.cycle.length s2,.slice r3 qb.head.length s3,.int .i64 qb.frm,.int .i64 qb.period,.slice r4 qb.cycle.length s4,.int .i64 st,.slice t2a (laterP qa st).cycle.length t2b,.slice t4a ys.length t4b,.int .i64 G,.map (some mb)] 62∧(∀ k,k≠w.heap.size+2→Wf.heap[k]? = wr.heap[k]?)∧Below w.heap.size w Wf∧wr.heap.size≤Wf.heap.size)
      ⟨set13 HRXR.out,fun k hk=>set13_ne hk,by have hEr:=HER.out;(repeat' (with_reducible first|assumption|apply Er|apply Ea|apply Ed|apply En|(refine Es ?_ (by first|(simp<;>omega)|omega) _)|refine Et ?_ (by assumption))),by simp⟩ ?_
     clear c0 c1 c2 c3 c4 c5 c6 c7 c8 c9 c10 c11 c12 k0 k1 k2 k3 k4 k5 k6 k7 k8 k9 k10 k11 k12
     rintro Wf ⟨hbf,hkf,hEf,hzf⟩
     have k0:=(hbf.cells 0).1
     have k1:=(hbf.cells 1).1
     have k2:=(hbf.cells 2).1
     have k3:=(hbf.cells 3).1
     have k4:=(hbf.cells 4).1
     have k5:=(hbf.cells 5).1
     have k6:=(hbf.cells 6).1
     have k7:=(hbf.cells 7).1
     have k8:=(hbf.cells 8).1
     have k9:=(hbf.cells 9).1
     have k10:=(hbf.cells 10).1
     have k11:=(hbf.cells 11).1
     have k12:=(hbf.cells 12).1
     have hcyc:∀ (q:Per),q.frm≤st→(laterP q st).cycle=isort (cycL q st):=fun q hq=>by show isort (cycL q (max q.frm st))=_;rw [Int.max_eq_right hq]
     have g1:PerIn Wf w.heap.size Wf.heap.size (.slice r1 qa.head.length s1) (.slice r2 qa.cycle.length s2) qa:=(HPR1.out.of_blocks fun j h1 h2=>hkf j (by omega)).mono (by omega) (by omega)
     have g2:PerIn Wf w.heap.size Wf.heap.size (.slice r3 qb.head.length s3) (.slice r4 qb.cycle.length s4) qb:=(HPR3.out.of_blocks fun j h1 h2=>hkf j (by omega)).mono (by omega) (by omega)
     have g3:IntsIn Wf w.heap.size Wf.heap.size (.slice t2a (laterP qa st).cycle.length t2b) (laterP qa st).cycle:=(HX5R.out.of_blocks fun j h1 h2=>hkf j (by omega)).mono (by omega) (by omega)
     have g4:IntsIn Wf w.heap.size Wf.heap.size (.slice t4a ys.length t4b) ys:=(HX6R.out.of_blocks fun j h1 h2=>hkf j (by omega)).mono (by omega) (by omega)
     have g5:=(HMI.out.of_blocks (w':=Wf) fun j h1 h2=>hkf j (by omega)).mono_hi hzf
     rw [hcyc qa (by omega)] at g3
     rw [← HYS.out,hcyc qb (by omega)] at g4 g5
     rw [← HG.out] at g5
     exact bodyPost_ret (v:=pairV (.slice r1 qa.head.length s1) (.slice r2 qa.cycle.length s2) (.slice r3 qb.head.length s3) (.slice r4 qb.cycle.length s4) qa qb st (.slice t2a (laterP qa st).cycle.length t2b) (.slice t4a ys.length t4b) G mb) (by simp [results,Tryz.results58,go_sem, *]) rfl
      ⟨_,_,_,_,.slice t2a (isort (cycL qa st)).length t2b,.slice t4a (isort (cycL qb st)).length t4b,mb,by rw [HG.out,← HSTT.out,← hcyc qa (by omega),← hcyc qb (by omega),HYS.out],by rw [← HSTT.out];exact ⟨g1,g2,g3,g4,g5,by omega⟩,hEf⟩
end Go.Proofs.YtjilkhhokkncoaaGreat
