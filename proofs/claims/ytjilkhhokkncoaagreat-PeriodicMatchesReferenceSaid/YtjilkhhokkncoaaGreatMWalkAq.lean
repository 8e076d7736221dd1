/- Walks: swapped, Apart (package periodic). -/
import Derived.Test.YtjilkhhokkncoaaGreatMWalkUl
import Derived.Test.YtjilkhhokkncoaaGreatMMathP
set_option linter.unusedVariables false
set_option linter.unusedSimpArgs false
namespace Go.Proofs.YtjilkhhokkncoaaGreat
open Go.RowKit Go.Maps Kal
set_option maxRecDepth 100000 in
set_option maxHeartbeats 2000000 in
theorem swapped_any (h1 c1 h2 c2:Value) (qa qb:Per) (st:Int) (xv yv:Value) (g:Int) (mb:Nat) (w:World) (hP:PairAt w h1 c1 h2 c2 qa qb st xv yv g mb) (hqa:IsCanon qa qa.mem) (hqb:IsCanon qb qb.mem)
  (f1:qa.frm≤562949953421312) (f2:qb.frm≤562949953421312) (t1:qa.period≤562949953421312) (t2:qb.period≤562949953421312) (s1:qa.frm≤st) (s2:qb.frm≤st) (s3:st≤562949953421312) :
  Calls Tryz.prog 66 #[pairV h1 c1 h2 c2 qa qb st xv yv g mb] w fun e w'=>∃ (x1 x2 x3 x4 xv yv:Value) (mb:Nat),
   e=.returned (pairV x1 x2 x3 x4 qb qa st xv yv (Int.gcd qa.period qb.period:Nat) mb)∧PairIn w' w.heap.size w'.heap.size x1 x2 x3 x4 qb qa st xv yv mb∧Below w.heap.size w w':=by
 obtain ⟨xa,xc,rfl⟩:∃ a c,xv=.slice a (isort (cycL qa st)).length c:=by obtain ⟨⟨a,c,e,_⟩,_⟩:=hP.x;exact ⟨a,c,e⟩
 obtain ⟨ya,yc,rfl⟩:∃ a c,yv=.slice a (isort (cycL qb st)).length c:=by obtain ⟨⟨a,c,e,_⟩,_⟩:=hP.y;exact ⟨a,c,e⟩
 obtain ⟨a1,m1,a2,m2,rfl,rfl⟩:=hP.a.inn.form
 obtain ⟨a3,m3,a4,m4,rfl,rfl⟩:=hP.b.inn.form
 have HP:=Lib.hid hP
 have HQA:=Lib.hid hqa
 have HQB:=Lib.hid hqb
 have z1:=hqa.wf.frm
 have z2:=hqb.wf.frm
 have hmx:max (max qb.frm qa.frm) st=st:=by omega
 have hgc:((Int.gcd qb.period qa.period:Nat):Int)=(Int.gcd qa.period qb.period:Nat):=by rw [Int.gcd_comm]
 have HMX:=Lib.hid hmx
 have HGC:=Lib.hid hgc
 clear hP hqa hqb hmx hgc
 go_enter Tryz.func66,Tryz.ntmps66
 go_upto_region 1 with (fail)
 refine wp_abs (F:=fun U=>Bxx U w.heap.size #[.slice a1 qa.head.length m1,.int .i64 qa.frm,.int .i64 qa.period,.slice a2 qa.cycle.length m2,.slice a3 qb.head.length m3,.int .i64 qb.frm,.int .i64 qb.period,.slice a4 qb.cycle.length m4,.int .i64 st,.slice xa (isort (cycL qa st)).length xc,.slice ya (isort (cycL qb st)).length yc,.int .i64 g,.map (some mb)] 62∧Bxx U (w.heap.size+1) pairZ 62∧Below w.heap.size w U) ⟨by (repeat' (first|(refine Bxx.at ?_;simp;done)|refine Bxx.alloc ?_ _)),by (repeat' (first|(refine Bxx.at ?_;simp;done)|refine Bxx.alloc ?_ _)),by (repeat' (with_reducible first|assumption|apply Er|apply Ea|apply Ed|apply En|(refine Es ?_ (by first|(simp<;>omega)|omega) _)|refine Et ?_ (by assumption)))⟩ ?_
 rintro W1 ⟨hA,hR,hE⟩
 have HR:=Lib.hid hR
 have c0:W1.cell? ⟨w.heap.size,0,none⟩=some (.slice a1 qa.head.length m1):=(hA.cells 0).1
 have c1:W1.cell? ⟨w.heap.size,1,none⟩=some (.int .i64 qa.frm):=(hA.cells 1).1
 have c2:W1.cell? ⟨w.heap.size,2,none⟩=some (.int .i64 qa.period):=(hA.cells 2).1
 have c3:W1.cell? ⟨w.heap.size,3,none⟩=some (.slice a2 qa.cycle.length m2):=(hA.cells 3).1
 have c4:W1.cell? ⟨w.heap.size,4,none⟩=some (.slice a3 qb.head.length m3):=(hA.cells 4).1
 have c5:W1.cell? ⟨w.heap.size,5,none⟩=some (.int .i64 qb.frm):=(hA.cells 5).1
 have c6:W1.cell? ⟨w.heap.size,6,none⟩=some (.int .i64 qb.period):=(hA.cells 6).1
 have c7:W1.cell? ⟨w.heap.size,7,none⟩=some (.slice a4 qb.cycle.length m4):=(hA.cells 7).1
 have c8:W1.cell? ⟨w.heap.size,8,none⟩=some (.int .i64 st):=(hA.cells 8).1
 clear hA hR
 go_wp2_with (go_at_call 58;refine (newPair_any _ _ _ _ qb qa qb qa st _ (HP.out.b.ext (by (repeat' (with_reducible first|assumption|apply Er|apply Ea|apply Ed|apply En|(refine Es ?_ (by first|(simp<;>omega)|omega) _)|refine Et ?_ (by assumption))))) (HP.out.a.ext (by (repeat' (with_reducible first|assumption|apply Er|apply Ea|apply Ed|apply En|(refine Es ?_ (by first|(simp<;>omega)|omega) _)|refine Et ?_ (by assumption))))) HQB.out.wf HQA.out.wf (by omega) (by omega) (by omega) (by omega) HQB.out HQA.out (by omega) (by omega)).mono ?_;rintro e w5 ⟨x1,x2,x3,x4,xv,yv,mb',he,hP,hb5⟩;rw [HMX.out,HGC.out] at he;rw [HMX.out] at hP;subst he;obtain ⟨z1,y1,z2,y2,rfl,rfl⟩:=hP.a.form;obtain ⟨z3,y3,z4,y4,rfl,rfl⟩:=hP.b.form;obtain ⟨⟨⟨xa',xc',rfl,_⟩,hxl,_⟩,_⟩:=hP.x;obtain ⟨⟨⟨ya',yc',rfl,_⟩,hyl,_⟩,_⟩:=hP.y;have hr5:=HR.out.below hb5;have r0:=hr5.cells 0;have r1:=hr5.cells 1;have r2:=hr5.cells 2;have r3:=hr5.cells 3;have r4:=hr5.cells 4;have r5:=hr5.cells 5;have r6:=hr5.cells 6;have r7:=hr5.cells 7;have r8:=hr5.cells 8;have r9:=hr5.cells 9;have r10:=hr5.cells 10;have r11:=hr5.cells 11;have r12:=hr5.cells 12;have HP5:=Lib.hid hP;have HR5:=Lib.hid hr5;clear hP hr5;have hz5:w.heap.size+1<w5.heap.size:=by (have h7:=HR5.out.lt;omega))
 refine at_abs (F:=fun Wf=>Bxx Wf (w.heap.size+1) #[.slice z1 qb.head.length y1,.int .i64 qb.frm,.int .i64 qb.period,.slice z2 qb.cycle.length y2,.slice z3 qa.head.length y3,.int .i64 qa.frm,.int .i64 qa.period,.slice z4 qa.cycle.length y4,.int .i64 st,.slice xa' (isort (cycL qb st)).length xc',.slice ya' (isort (cycL qa st)).length yc',.int .i64 (Int.gcd qa.period qb.period:Nat),.map (some mb')] 62∧(∀ k,k≠w.heap.size+1→Wf.heap[k]? = w5.heap[k]?)∧Below w.heap.size w Wf∧w5.heap.size≤Wf.heap.size)
  ⟨set13 HR5.out,fun k hk=>set13_ne hk,by (repeat' (with_reducible first|assumption|apply Er|apply Ea|apply Ed|apply En|(refine Es ?_ (by first|(simp<;>omega)|omega) _)|refine Et ?_ (by assumption))),by simp⟩ ?_
 have hz6:w.heap.size+1<W1.heap.size:=by have h7:=HR.out.lt;omega
 clear r0 r1 r2 r3 r4 r5 r6 r7 r8 r9 r10 r11 r12 hb5 c0 c1 c2 c3 c4 c5 c6 c7 c8 hE
 rintro Wf ⟨hbf,hkf,hEf,hzf⟩
 have k0:=(hbf.cells 0).1
 have k1:=(hbf.cells 1).1
 have k2:=(hbf.cells 2).1
 have k3:=(hbf.cells 3).1
 have k4:=(hbf.cells 4).1
 have k5:=(hbf.cells 5).1
 have k6:=(hbf.cells 6).1
 have k7:=(hbf.cells 7).1
 have k8:=(hbf.cells 8).1
 have k9:=(hbf.cells 9).1
 have k10:=(hbf.cells 10).1
 have k11:=(hbf.cells 11).1
 have k12:=(hbf.cells 12).1
 have hkk:∀ j,W1.heap.size≤j→j<w5.heap.size→Wf.heap[j]? = w5.heap[j]?:=fun j h1 h2=>hkf j (by omega)
 have hP:=HP5.out
 have hlom:=hP.lom
 exact bodyPost_ret (v:=pairV (.slice z1 qb.head.length y1) (.slice z2 qb.cycle.length y2) (.slice z3 qa.head.length y3) (.slice z4 qa.cycle.length y4) qb qa st (.slice xa' (isort (cycL qb st)).length xc') (.slice ya' (isort (cycL qa st)).length yc') (Int.gcd qa.period qb.period:Nat) mb') (by simp [results,Tryz.results66,go_sem, *]) rfl
  ⟨_,_,_,_,_,_,mb',rfl,⟨(hP.a.of_blocks hkk).mono (by omega) hzf,(hP.b.of_blocks hkk).mono (by omega) hzf,(hP.x.of_blocks hkk).mono (by omega) hzf,(hP.y.of_blocks hkk).mono (by omega) hzf,(hP.m.of_blocks fun j h1 h2=>hkk j (by omega) h2).mono_hi hzf,by omega⟩,hEf⟩
set_option maxRecDepth 100000 in
set_option maxHeartbeats 4000000 in
theorem apart_same (h1 c1 h2 c2:Value) (p1 p2 qa qb:Per) (w:World) (hp1:PerIs w h1 c1 p1) (hp2:PerIs w h2 c2 p2) (hv1:Valid p1) (hv2:Valid p2) (hqa:IsCanon qa p1.mem) (hqb:IsCanon qb p2.mem) (hs:sameB qa qb=true) :
  Calls Tryz.prog 32 #[perV h1 c1 p1.frm p1.period,perV h2 c2 p2.frm p2.period] w fun e w'=>e=.returned (.tuple #[.int .i64 0,.bool false])∧Below w.heap.size w w':=by
 obtain ⟨a1,m1,a2,m2,rfl,rfl⟩:=hp1.inn.form
 obtain ⟨a3,m3,a4,m4,rfl,rfl⟩:=hp2.inn.form
 have hl1:∀ W,Below w.heap.size w W→PerIs W (.slice a1 p1.head.length m1) (.slice a2 p1.cycle.length m2) p1:=fun W hb=>hp1.ext hb
 have hl2:∀ W,Below w.heap.size w W→PerIs W (.slice a3 p2.head.length m3) (.slice a4 p2.cycle.length m4) p2:=fun W hb=>hp2.ext hb
 have hvb1:=(validB_iff p1).2 hv1
 have hvb2:=(validB_iff p2).2 hv2
 have HV1:=Lib.hid hv1
 have HV2:=Lib.hid hv2
 have HQA:=Lib.hid hqa
 have HQB:=Lib.hid hqb
 have HF1:Hid (p1.frm≤562949953421312∧p1.period≤562949953421312):=by have:=hv1.frm;have:=hv1.per;exact Lib.hid (by omega)
 have HF2:Hid (p2.frm≤562949953421312∧p2.period≤562949953421312):=by have:=hv2.frm;have:=hv2.per;exact Lib.hid (by omega)
 obtain ⟨b1,b2,_,b4,b5⟩:=hqa.smaller hv1.wf
 obtain ⟨d1,d2,_,d4,d5⟩:=hqb.smaller hv2.wf
 have za0:=hqa.wf.frm
 have zb0:=hqb.wf.frm
 have za1:=hqa.wf.per
 have zb1:=hqb.wf.per
 have e1:=hv1.frm
 have e2:=hv1.per
 have e3:=hv2.frm
 have e4:=hv2.per
 have hgl:=gcd_bound (b:=qb.period) za1
 have hgl2:=gcd_bound2 (a:=qa.period) zb1
 clear hp1 hp2 hv1 hv2 hqa hqb
 obtain ⟨st,hst⟩:∃ st,st=max (max qa.frm qb.frm) 0:=⟨_,rfl⟩
 have HSTT:=Lib.hid hst
 have hs1:qa.frm≤st:=by omega
 have hs2:qb.frm≤st:=by omega
 have hs3:st≤1099511627776:=by omega
 have hs0:0≤st:=by omega
 generalize hG:((Int.gcd qa.period qb.period:Nat):Int)=g at *
 have HG:=Lib.hid hG
 clear hst hG
 have HS:=Lib.hid hs
 clear hs
 go_enter Tryz.func32,Tryz.ntmps32
 go_wp2_with (first|(go_at_call 15;first|((with_reducible refine (valid_any _ _ p1 _ (hl1 _ (by (repeat' (with_reducible first|assumption|apply Er|apply Ea|apply Ed|apply En|(refine Es ?_ (by first|(simp<;>omega)|omega) _)|refine Et ?_ (by assumption)))))).mono ?_);rintro e w1 ⟨rfl,hb1⟩;obtain ⟨hx1,hf1⟩:=bcell hb1;(try simp only [World.size_alloc,World.size_drew,size_drewN,World.size_setCell] at hx1 hf1);have hz1:w.heap.size+1<w1.heap.size:=(by have h7:=hb1.size;simp at h7;omega);have hz1':w.heap.size<w1.heap.size:=(by omega))|((with_reducible refine (valid_any _ _ p2 _ (hl2 _ (by (repeat' (with_reducible first|assumption|apply Er|apply Ea|apply Ed|apply En|(refine Es ?_ (by first|(simp<;>omega)|omega) _)|refine Et ?_ (by assumption)))))).mono ?_);rintro e w2 ⟨rfl,hb2⟩;obtain ⟨hx2,hf2⟩:=bcell hb2;(try simp only [World.size_alloc,World.size_drew,size_drewN,World.size_setCell] at hx2 hf2);have hz2:w.heap.size+1<w2.heap.size:=(by have h7:=hb2.size;omega);have hz2':w.heap.size<w2.heap.size:=(by omega)))|(go_at_call 36;refine (same_ok _ _ _ _ p1 p2 qa qb _ (hl1 _ (by (repeat' (with_reducible first|assumption|apply Er|apply Ea|apply Ed|apply En|(refine Es ?_ (by first|(simp<;>omega)|omega) _)|refine Et ?_ (by assumption))))) (hl2 _ (by (repeat' (with_reducible first|assumption|apply Er|apply Ea|apply Ed|apply En|(refine Es ?_ (by first|(simp<;>omega)|omega) _)|refine Et ?_ (by assumption))))) HV1.out HV2.out HQA.out HQB.out).mono ?_;rintro e w3 ⟨he,hb3⟩;rw [HS.out] at he;subst he))
 go_ret2
 exact ⟨rfl,by (repeat' (with_reducible first|assumption|apply Er|apply Ea|apply Ed|apply En|(refine Es ?_ (by first|(simp<;>omega)|omega) _)|refine Et ?_ (by assumption)))⟩
def SwV (W:World) (x:Value) (A B:Per) (st g:Int):Prop:=∃ (x1 x2 x3 x4 xv yv:Value) (mb:Nat),x=pairV x1 x2 x3 x4 A B st xv yv g mb∧PairAt W x1 x2 x3 x4 A B st xv yv g mb
theorem SwV.below {W W':World} {x:Value} {A B:Per} {st g:Int} (h:SwV W x A B st g) (hb:Below W.heap.size W W'):SwV W' x A B st g:=by
 obtain ⟨x1,x2,x3,x4,xv,yv,mb,e,hP⟩:=h
 exact ⟨x1,x2,x3,x4,xv,yv,mb,e,hP.ext hb⟩
end Go.Proofs.YtjilkhhokkncoaaGreat
