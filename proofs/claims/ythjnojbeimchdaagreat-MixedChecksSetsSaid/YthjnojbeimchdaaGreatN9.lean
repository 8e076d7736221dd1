/- Part 9 of what the claims of this seat rest on. -/
import Derived.Test.YthjnojbeimchdaaGreatN8
import Derived.Test.YthjnojbeimchdaaGreatN7
import Derived.Laws.EntriesVeiled
import Derived.Test.YthjnojbeimchdaaGreatN5
set_option linter.unusedVariables false
set_option linter.unusedSimpArgs false
namespace Go.Proofs.YthjnojbeimchdaaGreat
open Go.RowKit Go.Maps Kal
theorem MinRes.num {s:Int} {m1 m2:List (List Per)} {w w':World} {e:Ending} (h:MinRes s m1 m2 w e w'):∃ (a:Option Addr) (c:Nat) (k:Int) (mk:List (List Per)),e=.returned (.tuple #[.agg #[.slice a mk.length c],.int .i64 k])∧MixR w' (fun b=>w.heap.size≤b) (.slice a mk.length c) mk∧Below w.heap.size w w'∧
  ((k=0∧MinusTo m1 m2 (some mk)∧MV s mk)∨(k=2∧a=none∧c=0∧mk=[]∧MinusTo m1 m2 none)):=by
 obtain ⟨v,r,hM,hb,⟨k,rfl,hmv,rfl,hm⟩|⟨rfl,rfl⟩⟩:=h
 ·obtain ⟨a,c,rfl⟩:=hm.form
  exact ⟨a,c,0,k,rfl,hm,hb,.inl ⟨rfl,hM,hmv⟩⟩
 ·exact ⟨none,0,2,[],rfl,⟨[],rfl,⟨none,0,rfl,by simp,by omega,.inl rfl⟩,by simp,by simp⟩,hb,.inr ⟨rfl,rfl,rfl,rfl,hM⟩⟩
def SubRes (m1 m2:List (List Per)) (w:World) (e:Ending) (w':World):Prop:=
 ∃ (b:Bool) (r:Option (List (List Per))),MinusTo m1 m2 r∧Below w.heap.size w w'∧((∃ k,r=some k∧(b=true↔∀ t∈k,barrenT t)∧e=.returned (.tuple #[.bool b,.int .i64 0]))∨(r=none∧e=.returned (.tuple #[.bool false,.int .i64 2])))
set_option maxRecDepth 100000 in
set_option maxHeartbeats 2000000 in
theorem msubset_any (s:Int) (F1 F2:Nat→Prop) (v1 v2:Value) (m1 m2:List (List Per)) (w:World) (h1:MixR w F1 v1 m1) (h2:MixR w F2 v2 m2) (k1:MV s m1) (k2:MV s m2) :
  Calls Tryz.prog 34 #[.agg #[v1],.agg #[v2]] w (SubRes m1 m2 w):=by
 have HM:=fun W (h:Below w.heap.size w W)=>mminus_any s F1 F2 v1 v2 m1 m2 W (h1.ext h) (h2.ext h) k1 k2
 obtain ⟨a1,c1,rfl⟩:=h1.form
 obtain ⟨a2,c2,rfl⟩:=h2.form
 clear h1 h2 k1 k2
 go_enter Tryz.func34,Tryz.ntmps34
 go_wp2_with (first|(go_at_call 23;refine (HM _ (Ea (Ea (Er w) _) _)).mono ?_;rintro e w1 hres;obtain ⟨oa,oc,k,mk,rfl,hmr,hb1,hst⟩:=hres.num;have hW1:Below w.heap.size w w1:=Et (Ea (Ea (Er w) _) _) hb1;have HMR:=Lib.hid hmr;have HST:=Lib.hid hst;clear hmr hst hres hb1;rcases HST.out with ⟨rfl,hM,hmv⟩|⟨rfl,rfl,rfl,rfl,hM⟩)|(go_at_call 25;refine (mempty_any _ _ mk _ (HMR.out.ext (Ea (Er w1) _))).mono ?_;rintro e w2 ⟨b,rfl,hbb,hb2⟩;have HBB:=Lib.hid hbb;have hW2:Below w.heap.size w w2:=Et (Ea hW1 _) hb2;clear hbb hb2))
 ·go_ret2
  exact ⟨b,some mk,hM,hW2,.inl ⟨mk,rfl,⟨fun h=>(HBB.out.1 h).2,fun h=>HBB.out.2 ⟨hmv.val,h⟩⟩,rfl⟩⟩
 ·go_ret2
  exact ⟨false,none,hM,Ea hW1 _,.inr ⟨rfl,rfl⟩⟩
end Go.Proofs.YthjnojbeimchdaaGreat
namespace Go.Proofs.YthjnojbeimchdaaGreat
open Go.RowKit Go.Maps Kal
def BothRes (s:Int) (m1 m2:List (List Per)) (w:World) (e:Ending) (w':World):Prop:=
 ∃ (a:Option Addr) (n c:Nat) (a':Option Addr) (n' c':Nat) (k:Int),e=.returned (.tuple #[.agg #[.slice a n c],.agg #[.slice a' n' c'],.int .i64 k])∧Below w.heap.size w w'∧
  ((k=0∧∃ mk nk,MinusTo m1 m2 (some mk)∧MinusTo m2 m1 (some nk)∧MV s mk∧MV s nk∧MixR w' (fun b=>w.heap.size≤b) (.slice a n c) mk∧MixR w' (fun b=>w.heap.size≤b) (.slice a' n' c') nk)∨(k=2∧(MinusTo m1 m2 none∨((∃ mk,MinusTo m1 m2 (some mk))∧MinusTo m2 m1 none))))
set_option maxRecDepth 100000 in
set_option maxHeartbeats 2000000 in
theorem mboth_any (s:Int) (F1 F2:Nat→Prop) (v1 v2:Value) (m1 m2:List (List Per)) (w:World) (h1:MixR w F1 v1 m1) (h2:MixR w F2 v2 m2) (k1:MV s m1) (k2:MV s m2) :
  Calls Tryz.prog 82 #[.agg #[v1],.agg #[v2]] w (BothRes s m1 m2 w):=by
 have HM:=fun W (h:Below w.heap.size w W)=>mminus_any s F1 F2 v1 v2 m1 m2 W (h1.ext h) (h2.ext h) k1 k2
 have HN:=fun W (h:Below w.heap.size w W)=>mminus_any s F2 F1 v2 v1 m2 m1 W (h2.ext h) (h1.ext h) k2 k1
 obtain ⟨a1,c1,rfl⟩:=h1.form
 obtain ⟨a2,c2,rfl⟩:=h2.form
 have HNH:=Lib.hid HN
 clear h1 h2 k1 k2 HN
 go_enter Tryz.func82,Tryz.ntmps82
 go_wp2_with (go_at_call 23;first
  | ((with_reducible refine (HM _ (Ea (Ea (Ea (Ea (Er w) _) _) _) _)).mono ?_);rintro e w1 hres;obtain ⟨oa,oc,k,mk,rfl,hmr,hb1,hst⟩:=hres.num;have hW1:Below w.heap.size w w1:=Et (Ea (Ea (Ea (Ea (Er w) _) _) _) _) hb1;have b0:Bxx w1 w.heap.size #[.slice a1 m1.length c1] 28:=Bxx.below xB hb1;have b1:Bxx w1 (w.heap.size+1) #[.slice a2 m2.length c2] 28:=Bxx.below xB hb1;have b2:Bxx w1 (w.heap.size+1+1) #[.slice none 0 0] 28:=Bxx.below xB hb1;have b3:Bxx w1 (w.heap.size+1+1+1) #[.slice none 0 0] 28:=Bxx.below xB hb1;have x0:=(b0.alloc (.cells #[.slice oa mk.length oc] 28)).c0;have x1:=(b1.alloc (.cells #[.slice oa mk.length oc] 28)).c0;have x2:=(b2.alloc (.cells #[.slice oa mk.length oc] 28)).c0;have x3:=(b3.alloc (.cells #[.slice oa mk.length oc] 28)).c0;have y2:=((b2.alloc (.cells #[.slice oa mk.length oc] 28)).cells 0).2;have y3:=((b3.alloc (.cells #[.slice oa mk.length oc] 28)).cells 0).2;have z3:=(Bxx.alloc (Bxx.setNe b3 (k:=w.heap.size+1+1) (i:=0) (.slice none 0 0) (by omega)) (.cells #[.slice oa mk.length oc] 28)).c0;have z4:=(Bxx.cells (Bxx.alloc (Bxx.setNe b3 (k:=w.heap.size+1+1) (i:=0) (.slice none 0 0) (by omega)) (.cells #[.slice oa mk.length oc] 28)) 0).2;have B2:=Lib.hid b2;have B3:=Lib.hid b3;have HMR:=Lib.hid hmr;have HST:=Lib.hid hst;have HW1:=Lib.hid hW1;have hz:=b3.lt;clear hmr hst hres hb1 b0 b1 b2 b3 hW1;((rcases HST.out with ⟨rfl,hM,hmv⟩|⟨rfl,rfl,rfl,rfl,hM⟩) <;> (try simp only [List.length_nil] at x0 x1 x2 x3 y2 y3 z3 z4)))
  | (refine (HNH.out _ (Ea HW1.out _)).mono ?_;rintro e w2 hres;obtain ⟨oa2,oc2,k2,nk,rfl,hnr,hb2,hst2⟩:=hres.num;have HNR:=Lib.hid hnr;have HST2:=Lib.hid hst2;have HB2:=Lib.hid hb2;have HB7:=Lib.hid ((Bxx.new w1 #[.slice oa mk.length oc] 28).below hb2);have HX2:=Lib.hid ((B2.out.alloc (.cells #[.slice oa mk.length oc] 28)).below hb2);have HX3:=Lib.hid ((B3.out.alloc (.cells #[.slice oa mk.length oc] 28)).below hb2);have hz2:=hb2.size;clear hnr hst2 hres hb2))
 ·have e7:=(Bxx.drewB (HB7.out.alloc (.cells #[.slice oa2 nk.length oc2] 28))).c0
  have e9:=(Bxx.drewB (Bxx.new w2 #[.slice oa2 nk.length oc2] 28)).c0
  have p2:=HX2.out.alloc (.cells #[.slice oa2 nk.length oc2] 28)
  have p3:=HX3.out.alloc (.cells #[.slice oa2 nk.length oc2] 28)
  have q3:=Bxx.setNe p3 (k:=w.heap.size+1+1) (i:=0) (.slice oa mk.length oc) (by omega)
  have e2:=p2.c0
  have e3:=q3.c0
  have g2:=(p2.cells 0).2
  have g3:=(q3.cells 0).2
  have e3':=p3.c0
  have g3':=(p3.cells 0).2
  have hc3:=Bxx.c0 (heap_set_at 0 (.slice oa2 nk.length oc2) q3)
  have hc2:=Bxx.c0 (Bxx.setNe (b:=w.heap.size+1+1) (heap_set_at 0 (.slice oa mk.length oc) p2) (k:=w.heap.size+1+1+1) (i:=0) (.slice oa2 nk.length oc2) (by omega))
  have hl1:=HB7.out.lt
  go_region
  go_wp2
  have E:Below w.heap.size w w2:=Et HW1.out (Et (Ea (Er w1) _) HB2.out)
  have E':=((Ea E (.cells #[.slice oa2 nk.length oc2] 28)).setCell (p:=⟨w.heap.size+1+1,0,none⟩) (show w.heap.size≤w.heap.size+1+1 by omega) (.slice oa mk.length oc)).setCell (p:=⟨w.heap.size+1+1+1,0,none⟩) (show w.heap.size≤w.heap.size+1+1+1 by omega) (.slice oa2 nk.length oc2)
  have hm:=HMR.out
  have hn:=HNR.out
  simp only [World.size_alloc] at hm hn
  have hm2:=(MixR.ext hm (Et (Ea (Er w1) _) HB2.out))
  have hm3:=MixR.set (i:=0) (u:=.slice oa2 nk.length oc2) (MixR.set (i:=0) (u:=.slice oa mk.length oc) (MixR.ext hm2 (Ea (Er w2) (.cells #[.slice oa2 nk.length oc2] 28))) (b:=w.heap.size+1+1) (by omega)) (b:=w.heap.size+1+1+1) (by omega)
  have hn3:=MixR.set (i:=0) (u:=.slice oa2 nk.length oc2) (MixR.set (i:=0) (u:=.slice oa mk.length oc) (MixR.ext hn (Ea (Er w2) (.cells #[.slice oa2 nk.length oc2] 28))) (b:=w.heap.size+1+1) (by omega)) (b:=w.heap.size+1+1+1) (by omega)
  refine bodyPost_ret (v:=.tuple #[.agg #[.slice oa mk.length oc],.agg #[.slice oa2 nk.length oc2],.int .i64 k2]) (by simp [results,Tryz.results82,go_sem,hc2,hc3]) rfl ⟨oa,mk.length,oc,oa2,nk.length,oc2,k2,rfl,Ed E',?_⟩
  rcases HST2.out with ⟨rfl,hN,hnv⟩|⟨rfl,rfl,rfl,rfl,hN⟩
  ·exact .inl ⟨rfl,mk,nk,hM,hN,hmv,hnv,MixR.mono (MixR.ext hm3 (Ed (Er _))) (fun b hb=>by omega),MixR.mono (MixR.ext hn3 (Ed (Er _))) (fun b hb=>by omega)⟩
  ·exact .inr ⟨rfl,.inr ⟨⟨mk,hM⟩,hN⟩⟩
 ·have h2:=B2.out.alloc (.cells #[.slice none 0 0] 28)
  have h3:=B3.out.alloc (.cells #[.slice none 0 0] 28)
  have hc2:=Bxx.c0 (Bxx.setNe (b:=w.heap.size+1+1) (heap_set_at 0 (.slice none 0 0) h2) (k:=w.heap.size+1+1+1) (i:=0) (.slice none 0 0) (by omega))
  have hc3:=Bxx.c0 (b:=w.heap.size+1+1+1) (heap_set_at 0 (.slice none 0 0) (Bxx.setNe h3 (k:=w.heap.size+1+1) (i:=0) (.slice none 0 0) (by omega)))
  exact bodyPost_ret (v:=.tuple #[.agg #[.slice none 0 0],.agg #[.slice none 0 0],.int .i64 2]) (by simp [results,Tryz.results82,go_sem,hc2,hc3]) rfl ⟨none,0,0,none,0,0,2,rfl,((Ea HW1.out _).setCell (p:=⟨w.heap.size+1+1,0,none⟩) (show w.heap.size≤w.heap.size+1+1 by omega) _).setCell (p:=⟨w.heap.size+1+1+1,0,none⟩) (show w.heap.size≤w.heap.size+1+1+1 by omega) _,.inr ⟨rfl,.inl hM⟩⟩
end Go.Proofs.YthjnojbeimchdaaGreat
namespace Go.Proofs.YthjnojbeimchdaaGreat
open Go.RowKit Go.Maps Kal
def BothTo (m1 m2:List (List Per)):Option (List (List Per) × List (List Per))→Prop
 | some (mk,nk)=>MinusTo m1 m2 (some mk)∧MinusTo m2 m1 (some nk)
 | none=>MinusTo m1 m2 none∨((∃ mk,MinusTo m1 m2 (some mk))∧MinusTo m2 m1 none)
def SameRes (m1 m2:List (List Per)) (w:World) (e:Ending) (w':World):Prop:=
 ∃ (b:Bool) (r:Option (List (List Per) × List (List Per))),BothTo m1 m2 r∧Below w.heap.size w w'∧
  ((∃ mk nk,r=some (mk,nk)∧(b=true↔(∀ t∈mk,barrenT t)∧∀ t∈nk,barrenT t)∧e=.returned (.tuple #[.bool b,.int .i64 0]))∨(r=none∧e=.returned (.tuple #[.bool false,.int .i64 2])))
set_option maxRecDepth 100000 in
set_option maxHeartbeats 2000000 in
theorem msame_any (s:Int) (F1 F2:Nat→Prop) (v1 v2:Value) (m1 m2:List (List Per)) (w:World) (h1:MixR w F1 v1 m1) (h2:MixR w F2 v2 m2) (k1:MV s m1) (k2:MV s m2) :
  Calls Tryz.prog 36 #[.agg #[v1],.agg #[v2]] w (SameRes m1 m2 w):=by
 have HM:=fun W (h:Below w.heap.size w W)=>mboth_any s F1 F2 v1 v2 m1 m2 W (h1.ext h) (h2.ext h) k1 k2
 obtain ⟨a1,c1,rfl⟩:=h1.form
 obtain ⟨a2,c2,rfl⟩:=h2.form
 clear h1 h2 k1 k2
 go_enter Tryz.func36,Tryz.ntmps36
 go_wp2_with (first|(go_at_call 82;go_loud (refine (HM _ (Ea (Ea (Er w) _) _)).mono ?_;rintro e w1 hres;obtain ⟨a,n,c,a',n',c',k,rfl,hb1,hst⟩:=hres;have hW1:Below w.heap.size w w1:=Et (Ea (Ea (Er w) _) _) hb1;have HW1:=Lib.hid hW1;have HST:=Lib.hid hst;clear hW1 hst hb1;rcases HST.out with ⟨rfl,mk,nk,hM,hN,hmv,hnv,hmr,hnr⟩|⟨rfl,hF⟩))|(go_at_call 25;(with_reducible refine (mempty_any _ (.slice a n c) mk _ (hmr.ext (Ea (Ea (Er w1) _) _))).mono ?_);rintro e w2 ⟨b,rfl,hbb,hb2⟩;have HBB:=Lib.hid hbb;have HB2:=Lib.hid hb2;have b7:Bxx ((w1.alloc (.cells #[.slice a n c] 28)).alloc (.cells #[.slice a' n' c'] 28)) (w1.heap.size+1) #[.slice a' n' c'] 28:=Bxx.at (by rw [World.size_alloc]);have x7:w2.cell? ⟨w1.heap.size+1,0,none⟩=some (.slice a' n' c'):=(b7.below hb2).c0;clear b7;clear hbb hb2;rcases b)|(go_at_call 25;(with_reducible refine (mempty_any _ (.slice a' n' c') nk _ (hnr.ext (Et (Ea (Ea (Er w1) _) _) HB2.out))).mono ?_);rintro e w3 ⟨b2,rfl,hbb2,hb3⟩;have HBB2:=Lib.hid hbb2;have HB3:=Lib.hid hb3;clear hbb2 hb3))
 ·go_ret2
  exact ⟨false,some (mk,nk),⟨hM,hN⟩,Et (Ea (Ea HW1.out _) _) HB2.out,.inl ⟨mk,nk,rfl,⟨fun h=>by simp at h,fun h=>HBB.out.2 ⟨hmv.val,h.1⟩⟩,rfl⟩⟩
 ·go_ret2
  exact ⟨b2,some (mk,nk),⟨hM,hN⟩,Et (Et (Ea (Ea HW1.out _) _) HB2.out) HB3.out,.inl ⟨mk,nk,rfl,⟨fun h=>⟨(HBB.out.1 trivial).2,(HBB2.out.1 h).2⟩,fun h=>HBB2.out.2 ⟨hnv.val,h.2⟩⟩,rfl⟩⟩
 ·go_ret2
  exact ⟨false,none,hF,Ea (Ea HW1.out _) _,.inr ⟨rfl,rfl⟩⟩
theorem mix_one {W:World} {n:Nat} {v:Value} {t:List Per} (h:TermR W (fun b=>n≤b) v t) (hn:n≤W.heap.size) :
  MixR (W.alloc (.cells #[v] 36)) (fun b=>n≤b) (.slice (some ⟨W.heap.size,0,none⟩) 1 1) [t]:=by
 have hb:=Bxx.new W #[v] 36
 refine ⟨[(v,t)],rfl,⟨_,1,rfl,by simp,by omega,.inr ⟨W.heap.size,0,rfl,hn,hb.lt,fun i u hi=>?_⟩⟩,by simp,fun x hx=>?_⟩
 ·cases i with
  | zero=>rw [show u=v by simpa using hi.symm];exact hb.c0
  | succ i=>simp at hi
 ·rw [List.mem_singleton] at hx;subst hx;exact h.ext (Ea (Er W) _)
noncomputable def ofM (p:Per):List (List Per):=if emptyB (canonC p.mem) then [] else [[canonC p.mem]]
def MixRes (m:List (List Per)) (w:World) (e:Ending) (w':World):Prop:=∃ (a:Option Addr) (c:Nat),e=.returned (.agg #[.slice a m.length c])∧MixR w' (fun b=>w.heap.size≤b) (.slice a m.length c) m∧Below w.heap.size w w'
set_option maxRecDepth 100000 in
set_option maxHeartbeats 2000000 in
theorem mof_any (s:Int) (h c:Value) (p:Per) (w:World) (hp:PerIs w h c p) (hv:FV s p) :
  Calls Tryz.prog 54 #[perV h c p.frm p.period] w (MixRes (ofM p) w):=by
 have HC:=fun W (hb:Below w.heap.size w W)=>Canon_fv s h c p W (hp.ext hb) hv
 simp only [perV] at HC
 go_enter Tryz.func54,Tryz.ntmps54
 go_wp2_with (first|(go_at_call 97;go_loud ((with_reducible refine (HC _ (Ea (Ea (Er w) _) _)).mono ?_);rintro e w1 ⟨h',c',rfl,ho,hb1⟩;obtain ⟨xa,xn,xc,ya,yn,yc,rfl,rfl⟩:=(ho.pv (hv.canon).2).form;have ho2:=Lib.hid (ho.pv (hv.canon).2);have hW1:Below w.heap.size w w1:=Et (Ea (Ea (Er w) _) _) hb1;have HO:=Lib.hid ho;have B2:=Lib.hid (show Bxx w1 (w.heap.size+1) #[.slice none 0 0] 28 from Bxx.below xB hb1);clear ho hb1))|(go_at_call 98;(with_reducible refine (empty_any (.slice xa xn xc) (.slice ya yn yc) (canonC p.mem) _ (HO.out.is.ext (Ea (Er w1) _))).mono ?_);rintro e w2 ⟨rfl,hb2⟩;have HB2:=Lib.hid hb2;have X3:=((Bxx.new w1 #[.slice xa xn xc,.int .i64 (canonC p.mem).frm,.int .i64 (canonC p.mem).period,.slice ya yn yc] 39).below hb2);have X2:=((B2.out.alloc (.cells #[.slice xa xn xc,.int .i64 (canonC p.mem).frm,.int .i64 (canonC p.mem).period,.slice ya yn yc] 39)).below hb2);have e2:=X2.c0;have f2:=(X2.cells 0).2;have e3:=(X3.cells 0).1;have e4:=(X3.cells 1).1;have e5:=(X3.cells 2).1;have e6:=(X3.cells 3).1;have X2':=(X2.alloc (.cells #[.slice xa xn xc,.int .i64 (canonC p.mem).frm,.int .i64 (canonC p.mem).period,.slice ya yn yc] 39)).alloc (.cells #[.slice (some { block:=w2.heap.size,off:=0 }) 1 1] 36);have e7:=X2'.c0;have e8:=(X2'.cells 0).2;clear hb2;obtain ⟨eb,heb⟩:∃ eb,eb=emptyB (canonC p.mem):=⟨_,rfl⟩;rw [← heb];have HEB:=Lib.hid heb;clear heb;rcases eb))
 ·have hc2:=Bxx.c0 (heap_set_at 0 (.slice (some ⟨w2.heap.size+1,0,none⟩) 1 1) X2')
  have E1:Below w.heap.size w ((((w2.alloc (.cells #[.slice xa xn xc,.int .i64 (canonC p.mem).frm,.int .i64 (canonC p.mem).period,.slice ya yn yc] 39)).alloc (.cells #[.slice (some { block:=w2.heap.size,off:=0 }) 1 1] 36)).setCell ⟨w.heap.size+1,0,none⟩ (.slice (some ⟨w2.heap.size+1,0,none⟩) 1 1))):=(Ea (Ea (Et (Ea hW1 _) HB2.out) _) _).setCell (p:=⟨w.heap.size+1,0,none⟩) (show w.heap.size≤w.heap.size+1 by omega) _
  have h0:=B2.out.lt
  have hz:w1.heap.size+1≤w2.heap.size:=by have:=HB2.out.size;rwa [World.size_alloc] at this
  have h1:=(ho2.out.keep (KeepF.below (Ea (Er w1) _))).keep (KeepF.below HB2.out)
  have h2:=term_one (n:=w.heap.size+1) (W:=w2) (h1.mono fun b hb=>⟨by simp only [World.size_alloc] at hb;omega,by simp only [World.size_alloc] at hb;omega⟩) (by have:=HB2.out.size;simp only [World.size_alloc] at this;omega)
  have h3:=mix_one (n:=w.heap.size+1+1) (h2.mono (G:=fun b=>w.heap.size+1+1≤b) fun b hb=>by have:=HB2.out.size;simp only [World.size_alloc] at this;have hb':w.heap.size+1≤b∧(b≠w.heap.size+1∨b=w2.heap.size):=hb;show w.heap.size+1+1≤b;omega) (by rw [World.size_alloc];omega)
  have h4:=MixR.set (i:=0) (u:=.slice (some ⟨w2.heap.size+1,0,none⟩) 1 1) h3 (b:=w.heap.size+1) (by omega)
  have e:ofM p=[[canonC p.mem]]:=by rw [ofM,← HEB.out];rfl
  rw [World.size_alloc] at h4
  refine bodyPost_ret (v:=.agg #[.slice (some ⟨w2.heap.size+1,0,none⟩) 1 1]) (by simp [results,Tryz.results54,go_sem,hc2]) rfl ⟨_,1,by rw [e];rfl,?_,E1⟩
  rw [e];exact h4.mono fun b hb=>by omega
 ·have hc2:=Bxx.c0 (heap_set_at 0 (.slice none 0 0) X2)
  have E1:Below w.heap.size w (w2.setCell ⟨w.heap.size+1,0,none⟩ (.slice none 0 0)):=(Et (Ea hW1 _) HB2.out).setCell (p:=⟨w.heap.size+1,0,none⟩) (show w.heap.size≤w.heap.size+1 by omega) _
  have e:ofM p=[]:=by rw [ofM,← HEB.out];rfl
  refine bodyPost_ret (v:=.agg #[.slice none 0 0]) (by simp [results,Tryz.results54,go_sem,hc2]) rfl ⟨none,0,by rw [e];rfl,?_,E1⟩
  rw [e];exact ⟨[],rfl,⟨none,0,rfl,by simp,by omega,.inl rfl⟩,by simp,by simp⟩
end Go.Proofs.YthjnojbeimchdaaGreat
namespace Kal
structure InvS (a m x y u v:Int) (U V:Int):Prop where
 x1:1≤x
 xy:x<y
 ym:y≤m
 gu:m∣a*u-x
 gv:m∣a*v-y
 cop:Int.gcd x y=1
 u1:-U≤u∧u≤U
 v1:-V≤v∧v≤V
 pos:0≤U∧0≤V
 le:x*V+y*U≤m
theorem InvS.start {a m:Int} (ha:0≤a) (hm:2≤m) (h:Int.gcd a m=1):InvS a m (a % m) m 1 0 1 0:=by
 have h0:=Int.emod_nonneg a (show m≠0 by omega)
 have h1:=Int.emod_lt_of_pos a (show 0<m by omega)
 have hg:Int.gcd (a % m) m=1:=by rw [gcd_emod ha (by omega)];exact h
 refine ⟨?_,h1,by omega,?_,⟨-1,by omega⟩,hg,by omega,by omega,by omega,by omega⟩
 ·rcases Int.lt_or_le 0 (a % m) with h2|h2
  ·omega
  ·have e:a % m=0:=by omega
   rw [e,Int.gcd_zero_left] at hg
   omega
 ·rw [Int.mul_one];exact dvd_sub_of_emod (Int.emod_emod_of_dvd a (Int.dvd_refl m)).symm
theorem InvS.step {a m x y u v U V:Int} (h:InvS a m x y u v U V) (hx:1<x) :
  InvS a m (y-y / x*x) x (v-y / x*u) u (V+y / x*U) U∧0≤y / x∧y / x≤y∧y / x*x≤y∧0≤y / x*x∧-m≤y / x*u∧y / x*u≤m∧-m≤v-y / x*u∧v-y / x*u≤m:=by
 obtain ⟨x1,xy,ym,gu,gv,cop,u1,v1,pos,le⟩:=h
 have e0:=Int.emod_nonneg y (show x≠0 by omega)
 have e1:=Int.emod_lt_of_pos y (show 0<x by omega)
 have em:y-y / x*x=y % x:=by have:=Int.emod_def y x;rw [Int.mul_comm] at this;omega
 have q0:0≤y / x:=Int.ediv_nonneg (by omega) (by omega)
 have qy:y / x≤y:=Int.ediv_le_self x (by omega)
 have hr1:1≤y % x:=by
  rcases Int.lt_or_le 0 (y % x) with h2|h2
  ·omega
  ·have e:y % x=0:=by omega
   have hd:x∣y:=Int.dvd_of_emod_eq_zero e
   have h3:((Int.gcd x y:Nat):Int)=x:=(Int.gcd_eq_left_iff_dvd (by omega)).2 hd
   omega
 generalize y / x=q at *
 have a1:q*u≤q*U:=Int.mul_le_mul_of_nonneg_left u1.2 q0
 have a2:q*(-U)≤q*u:=Int.mul_le_mul_of_nonneg_left u1.1 q0
 rw [Int.mul_neg] at a2
 have a3:q*U≤y*U:=Int.mul_le_mul_of_nonneg_right qy pos.1
 have a4:0≤q*U:=Int.mul_nonneg q0 pos.1
 have a5:V≤x*V:=by
  have:=Int.mul_le_mul_of_nonneg_right x1 pos.2
  omega
 have a6:0≤x*V:=Int.mul_nonneg (by omega) pos.2
 have a7:0≤q*x:=Int.mul_nonneg q0 (by omega)
 refine ⟨⟨by omega,by omega,by omega,?_,gu,?_,by omega,u1,by omega,?_⟩,q0,qy,by omega,a7,by omega,by omega,by omega,by omega⟩
 ·have:a*(v-q*u)-(y-q*x)=(a*v-y)-q*(a*u-x):=by
   rw [Int.mul_sub,Int.mul_sub,Int.mul_left_comm q a u];omega
  rw [this]
  exact Int.dvd_sub gv (Int.dvd_trans gu (Int.dvd_mul_left _ _))
 ·rw [em,gcd_emod (by omega) (by omega),Int.gcd_comm];exact cop
 ·have b1:(y-q*x)*U=y*U-q*x*U:=Int.sub_mul _ _ _
  have b2:x*(V+q*U)=x*V+q*x*U:=by rw [Int.mul_add,← Int.mul_assoc,Int.mul_comm x q]
  rw [b1,b2];omega
theorem InvS.fin {a m x y u v U V:Int} (h:InvS a m x y u v U V) (hx:¬ 1<x) (hm:2≤m) :
  -m≤u∧u≤m∧u.tmod m % m=u % m∧-m<u.tmod m∧u.tmod m<m∧m∣a*(u % m)-1:=by
 obtain ⟨x1,xy,ym,gu,gv,cop,u1,v1,pos,le⟩:=h
 obtain rfl:x=1:=by omega
 have a1:U≤y*U:=by
  have:=Int.mul_le_mul_of_nonneg_right (show (1:Int)≤y by omega) pos.1
  omega
 have t1:=Int.tmod_lt_of_pos u (show 0<m by omega)
 have t2:=Int.lt_tmod_of_pos u (show 0<m by omega)
 refine ⟨by omega,by omega,?_,t2,t1,?_⟩
 ·have hd:m∣u.tmod m-u:=by
   have:=Int.mul_tdiv_add_tmod u m
   exact ⟨-(u.tdiv m),by rw [Int.mul_neg];omega⟩
  exact emod_of_dvd_sub hd
 ·have hd:m∣u % m-u:=dvd_sub_of_emod (Int.emod_emod_of_dvd u (Int.dvd_refl m))
  have e:a*(u % m)-1=a*(u % m-u)+(a*u-1):=by rw [Int.mul_sub];omega
  rw [e]
  exact Int.dvd_add (Int.dvd_trans hd (Int.dvd_mul_left _ _)) gu
def InvIs (a m r:Int):Prop:=0≤r∧r<m∧m∣a*r-1
theorem meet_no {at_ step r P:Int} (h:(r-at_) % ((Int.gcd step P:Nat):Int)≠0):MeetIs at_ step r P 0 0 false:=by
 refine .inr ⟨rfl,rfl,rfl,fun x ⟨h1,h2⟩=>h ?_⟩
 have d1:((Int.gcd step P:Nat):Int)∣x-at_:=Int.dvd_trans (Int.gcd_dvd_left ..) (dvd_sub_of_emod h1)
 have d2:((Int.gcd step P:Nat):Int)∣x-r:=Int.dvd_trans (Int.gcd_dvd_right ..) (dvd_sub_of_emod h2)
 have:r-at_=(x-at_)-(x-r):=by omega
 rw [this]
 exact Int.emod_eq_zero_of_dvd (Int.dvd_sub d1 d2)
theorem meet_all {at_ step r P:Int} (hs:1≤step) (h0:0≤at_) (h1:at_<step) (hP:1≤P) (h:(r-at_) % ((Int.gcd step P:Nat):Int)=0) (hn:P / ((Int.gcd step P:Nat):Int)=1):MeetIs at_ step r P at_ step true:=by
 have hd:((Int.gcd step P:Nat):Int)∣P:=Int.gcd_dvd_right ..
 have e:((Int.gcd step P:Nat):Int)=P:=by
  have:=Int.ediv_mul_cancel hd
  rw [hn] at this;omega
 have el:lcmI step P=step:=by
  unfold lcmI
  rw [e]
  exact Int.ediv_mul_cancel (by have:((Int.gcd step P:Nat):Int)∣step:=Int.gcd_dvd_left ..;rwa [e] at this)
 refine .inl ⟨rfl,el.symm,h0,by rw [el];exact h1,rfl,?_⟩
 rw [e] at h
 exact (emod_of_dvd_sub (Int.dvd_of_emod_eq_zero h)).symm
theorem meet_one {at_ step r P inv:Int} (hs:1≤step) (h0:0≤at_) (h1:at_<step) (hP:1≤P) {g n:Int} (hg:g=((Int.gcd step P:Nat):Int)) (hn:n=P / g) (h:(r-at_) % g=0) (hi:n∣step / g*inv-1) :
  MeetIs at_ step r P (at_+((r-at_) / g % n*inv) % n*step) (step*n) true∧lcmI step P=step*n:=by
 have hgl:g∣step:=by rw [hg];exact Int.gcd_dvd_left ..
 have hgr:g∣P:=by rw [hg];exact Int.gcd_dvd_right ..
 have hg1:1≤g:=by rw [hg];have:=Int.gcd_pos_of_ne_zero_left P (show step≠0 by omega);omega
 have el:lcmI step P=step*n:=by
  unfold lcmI
  rw [← hg,hn]
  have a1:=Int.ediv_mul_cancel hgl
  have a2:=Int.ediv_mul_cancel hgr
  calc step / g*P=step / g*(P / g*g):=by rw [a2]
   _=(step / g*g)*(P / g):=by rw [Int.mul_comm (P / g) g,← Int.mul_assoc]
   _=step*(P / g):=by rw [a1]
 have hn1:1≤n:=by
  rw [hn]
  have a2:=Int.ediv_mul_cancel hgr
  rcases Int.lt_or_le 0 (P / g) with h2|h2
  ·omega
  ·have:=Int.mul_le_mul_of_nonneg_right h2 (show 0≤g by omega)
   omega
 refine ⟨.inl ⟨rfl,el.symm,?_⟩,el⟩
 generalize hk:((r-at_) / g % n*inv) % n=k
 have k0:0≤k:=by rw [← hk];exact Int.emod_nonneg _ (by omega)
 have k1:k<n:=by rw [← hk];exact Int.emod_lt_of_pos _ (by omega)
 have b0:0≤k*step:=Int.mul_nonneg k0 (by omega)
 refine ⟨by omega,?_,?_,?_⟩
 ·rw [el]
  have:(k+1)*step≤n*step:=Int.mul_le_mul_of_nonneg_right (by omega) (by omega)
  rw [Int.add_mul,Int.one_mul,Int.mul_comm n step] at this
  omega
 ·rw [Int.add_mul_emod_self_right]
 ·apply emod_of_dvd_sub
  obtain ⟨w,hw⟩:=Int.dvd_of_emod_eq_zero h
  have ew:(r-at_) / g=w:=by rw [hw];exact Int.mul_ediv_cancel_left _ (by omega)
  rw [ew] at hk
  have a1:=Int.ediv_mul_cancel hgl
  generalize step / g=t at *
  have d1:n∣k-w*inv:=by
   have e1:k % n=(w*inv) % n:=by rw [← hk,Int.emod_emod_of_dvd _ (Int.dvd_refl n),Int.mul_emod,Int.emod_emod_of_dvd _ (Int.dvd_refl n),← Int.mul_emod]
   exact dvd_sub_of_emod e1
  have d2:n∣k*t-w:=by
   have e:k*t-w=(k-w*inv)*t+w*(t*inv-1):=by
    rw [Int.sub_mul,Int.mul_sub,Int.mul_one,Int.mul_comm t inv,← Int.mul_assoc];omega
   rw [e]
   exact Int.dvd_add (Int.dvd_trans d1 (Int.dvd_mul_right _ _)) (Int.dvd_trans hi (Int.dvd_mul_left _ _))
  obtain ⟨z,hz⟩:=d2
  refine ⟨z,?_⟩
  have e:at_+k*step-r=(k*t-w)*g:=by
   rw [Int.sub_mul,Int.mul_assoc,a1,Int.mul_comm w g];omega
  rw [e,hz]
  have a2:=Int.ediv_mul_cancel hgr
  rw [← hn] at a2
  calc n*z*g=n*g*z:=by rw [Int.mul_assoc,Int.mul_comm z g,← Int.mul_assoc]
   _=P*z:=by rw [a2]
theorem shP_any {s:Int} {p:Per} {b:Int} (h:Fac s p):IsCanon (shP p b) (shS p b)∧Fac (max (s+b) 0) (shP p b):=by
 have hf:=h.wf.frm
 have hp:=h.wf.per
 have hpf:PFrom (shS p b) (max (p.frm+b) 0) p.period:=fun n hn=>by
  unfold shS
  have:=h.wf.pfrom (n-b) (by omega)
  rw [this,show n-b+p.period=n+p.period-b from by omega]
  constructor <;> rintro ⟨_,h⟩ <;> exact ⟨by omega,h⟩
 have hc:=canonC_is (canon_of_pfrom (S:=shS p b) (f:=max (p.frm+b) 0) (by omega) hp (fun n hn=>hn.1) hpf)
 refine ⟨hc,fac_canon hc (fun n hn=>?_) (by omega) (by have:=h.frm;omega) hp h.dvd hpf⟩
 have:=hn.1
 have:=h.low _ hn.2
 omega
theorem shL_any {s:Int} {m:List (List Per)} {b:Int} (h:∀ t∈m,FTerm s t):(∀ t∈shL m b,FTerm (max (s+b) 0) t)∧∀ n,mmem (shL m b) n↔0≤n∧mmem m (n-b):=by
 refine ⟨fun t ht=>?_,fun n=>?_⟩
 ·obtain ⟨u,hu,rfl⟩:=List.mem_map.1 ht
  refine ⟨fun e=>(h u hu).1 (List.map_eq_nil_iff.1 e),fun p hp=>?_⟩
  obtain ⟨q,hq,rfl⟩:=List.mem_map.1 hp
  exact (shP_any ((h u hu).2 q hq)).2
 ·unfold mmem shL
  constructor
  ·rintro ⟨t,ht,hn⟩
   obtain ⟨u,hu,rfl⟩:=List.mem_map.1 ht
   have key:∀ q∈u,0≤n∧q.mem (n-b):=fun q hq=>((shP_any ((h u hu).2 q hq)).1.mem n).1 (hn _ (List.mem_map.2 ⟨q,hq,rfl⟩))
   obtain ⟨p,hp⟩:=List.exists_mem_of_ne_nil _ (h u hu).1
   exact ⟨(key p hp).1,u,hu,fun q hq=>(key q hq).2⟩
  ·rintro ⟨h0,u,hu,hn⟩
   refine ⟨_,List.mem_map.2 ⟨u,hu,rfl⟩,fun p hp=>?_⟩
   obtain ⟨q,hq,rfl⟩:=List.mem_map.1 hp
   exact ((shP_any ((h u hu).2 q hq)).1.mem n).2 ⟨h0,hn q hq⟩
open Classical in
noncomputable def shE (p:Per) (b:Int):Int:=if b < -1099511627776∨1099511627776<b then 1 else if (shP p b).frm≤1099511627776 then 0 else 2
theorem shE_small {s:Int} {p:Per} {b:Int} (h:Fac s p) (h0:-1099511627776≤b) (h1:max (s+b) 0+9≤1099511627776) (h2:b≤1099511627776):shE p b=0:=by
 unfold shE
 rw [if_neg (by omega),if_pos (by have:=(shP_any (b:=b) h).2.frm;omega)]
theorem cop_div {a b:Int} (h:1≤a):Int.gcd (a / ((Int.gcd a b:Nat):Int)) (b / ((Int.gcd a b:Nat):Int))=1:=
 Int.gcd_ediv_gcd_ediv_gcd (Int.gcd_pos_of_ne_zero_left b (by omega))
end Kal
namespace Kal
theorem MeetIs.unique {at_ step r P a s a' s':Int} {b b':Bool} (hs:1≤step) (hP:1≤P) (h:MeetIs at_ step r P a s b) (g:MeetIs at_ step r P a' s' b'):a=a'∧s=s'∧b=b':=by
 rcases h with ⟨rfl,rfl,h⟩|⟨rfl,rfl,rfl,h⟩ <;> rcases g with ⟨rfl,rfl,g⟩|⟨rfl,rfl,rfl,g⟩
 ·exact ⟨(solveI_eq hs hP h).symm.trans (solveI_eq hs hP g),rfl,rfl⟩
 ·exact absurd ⟨h.2.2.1,h.2.2.2⟩ (g a)
 ·exact absurd ⟨g.2.2.1,g.2.2.2⟩ (h a')
 ·exact ⟨rfl,rfl,rfl⟩
theorem meetIs_ex {at_ step r P:Int} (hs:1≤step) (hP:1≤P):∃ a s b,MeetIs at_ step r P a s b:=by
 by_cases h:(r-at_) % ((Int.gcd step P:Nat):Int)=0
 ·refine ⟨_,_,true,.inl ⟨rfl,rfl,isSol_exists hs hP ?_⟩⟩
  exact (emod_of_dvd_sub (Int.dvd_of_emod_eq_zero h)).symm
 ·exact ⟨0,0,false,meet_no h⟩
theorem MeetIs.bounds {at_ step r P a s:Int} (hs:1≤step) (hP:1≤P) (hd:step∣27720) (hp:P∣27720) (h:MeetIs at_ step r P a s true):0≤a∧a<s∧s∣27720:=by
 rcases h with ⟨_,rfl,h⟩|⟨h,_⟩
 ·exact ⟨h.1,h.2.1,lcmI_dvd hs hP hd hp⟩
 ·cases h
def lateS (S:Int→Prop) (p:Per) (t:List Per) (at_ step:Int) (j:Nat) (x:Int):Prop:=S x∨∃ c∈p.cycle.take j,x % p.period=resP p c∧ClsS t at_ step x
theorem lateS_zero {S:Int→Prop} {p:Per} {t:List Per} {at_ step x:Int}:lateS S p t at_ step 0 x↔S x:=by simp [lateS]
theorem lateS_all {S:Int→Prop} {p:Per} {t:List Per} {at_ step x:Int}:lateS S p t at_ step p.cycle.length x↔S x∨ClsS (p :: t) at_ step x:=by
 unfold lateS
 rw [List.take_length,clsS_cons]
theorem take_succ_mem {l:List Int} {j:Nat} (h:j<l.length) {c:Int}:c∈l.take (j+1)↔c∈l.take j∨c=l.getD j 0:=by
 rw [List.take_succ_eq_append_getElem h,List.mem_append,List.mem_singleton,List.getD_eq_getElem?_getD,List.getElem?_eq_getElem h];rfl
theorem lateS_succ {S:Int→Prop} {p:Per} {t:List Per} {at_ step x:Int} {j:Nat} (hw:p.WF) (hj:j<p.cycle.length) (hs:1≤step) (h0:0≤at_) (h1:at_<step) {a2 s2:Int} {b:Bool}
  (h:MeetIs at_ step (resP p (p.cycle.getD j 0)) p.period a2 s2 b):lateS S p t at_ step (j+1) x↔lateS S p t at_ step j x∨(b=true∧ClsS t a2 s2 x):=by
 unfold lateS
 rw [← h.cls hw hs h0 h1,or_assoc]
 refine or_congr Iff.rfl ⟨?_,?_⟩
 ·rintro ⟨c,hc,h2⟩
  rcases (take_succ_mem hj).1 hc with hc|rfl
  ·exact .inl ⟨c,hc,h2⟩
  ·exact .inr h2
 ·rintro (⟨c,hc,h2⟩|h2)
  ·exact ⟨c,(take_succ_mem hj).2 (.inl hc),h2⟩
  ·exact ⟨_,(take_succ_mem hj).2 (.inr rfl),h2⟩
theorem clsS_nil {at_ step x:Int}:ClsS [] at_ step x↔x % step=at_:=by simp [ClsS]
theorem late_next {F f l:Int} {t:List Per} {b:Bool} (hw:∀ p∈t,p.WF) (hf:startT t≤f) (h:BestL F (fun x=>False∨ClsS t 0 1 x) f l b):NextF F (tmem t) f (if b=true then l else 0) b:=
 (h.congr (T:=tmem t) fun x hx=>by rw [false_or,clsS_start hw (by omega)]).next
theorem earlyIs_of {t:List Per} (hne:t≠[]) (hw:∀ p∈t,p.WF) {f n:Int} {b:Bool} (h:BestE (headS t t.length 0) f n b):EarlyIs t f n b:=
 h.congr fun x _=>(headS_all hne hw).symm
theorem mmem_snoc {L:List (List Per)} {t:List Per} {n:Int}:mmem (L ++ [t]) n↔mmem L n∨tmem t n:=by rw [mmem_append];unfold mmem;simp
theorem nextF_nil {F f:Int}:NextF F (mmem []) f 0 false:=.inr ⟨rfl,rfl,fun _ _ _ h=>mmem_nil h⟩
end Kal
namespace Go.Proofs.YthjnojbeimchdaaGreat
open Go.RowKit Go.Maps Kal
set_option maxHeartbeats 1000000 in
theorem minv_any (a m:Int) (w:World) (ha:0≤a) (ha1:a≤9007199254740992) (h2:2≤m) (hm:m≤4294967295) (hg:Int.gcd a m=1) :
  Calls Tryz.prog 176 #[.int .i64 a,.int .i64 m] w fun e w'=>∃ r,e=.returned (.int .i64 r)∧InvIs a m r∧∃ n,w'=w.drewN n:=by
 have HS:=Lib.hid (InvS.start ha h2 hg)
 have r0:=Int.emod_nonneg a (show m≠0 by omega)
 have r1:=Int.emod_lt_of_pos a (show 0<m by omega)
 clear hg
 go_enter Tryz.func176,Tryz.ntmps176
 go_wp2_with fail
 repeat (go_quiet (fail);go_wp2_with fail)
 go_loopw [5,6,7,8] (fun vx vy vu vv wr=>∃ x y u v U V:Int,vx=.int .i64 x∧vy=.int .i64 y∧vu=.int .i64 u∧vv=.int .i64 v∧InvS a m x y u v U V∧∃ n,wr=w.drewN n) (fun vx _ _ _ _=>(intOf vx).toNat)
 case atStart=>exact ⟨_,_,_,_,_,_,rfl,rfl,rfl,rfl,HS.out,0,rfl⟩
 case round=>
  obtain ⟨x,y,u,v,U,V,rfl,rfl,rfl,rfl,hE,n,rfl⟩:=hrel
  have x1:=hE.x1
  have xy:=hE.xy
  have ym:=hE.ym
  by_cases hz:1<x
  ·obtain ⟨hE2,h1,h2',h3,h4,h5,h6,h7,h8⟩:=hE.step hz
   have y1:=hE2.x1
   have y2:=hE2.xy
   have HE:=Lib.hid hE2
   clear hE hE2
   go_wp2_with fail
   repeat (go_quiet (fail);go_wp2_with fail)
   go_roundw
   case rel=>exact ⟨_,_,_,_,_,_,rfl,rfl,rfl,rfl,HE.out,_,rfl⟩
   case measure=>simp [intOf];omega
  ·obtain ⟨h1,h2',h3,h4,h5,h6⟩:=hE.fin hz h2
   have u0:=Int.emod_nonneg u (show m≠0 by omega)
   have u1:=Int.emod_lt_of_pos u (show 0<m by omega)
   have H3:=Lib.hid h3
   have H6:=Lib.hid h6
   clear h3 h6 hE
   go_wp2_with fail
   repeat (go_quiet (fail);go_wp2_with fail)
   go_ret
   exact ⟨_,rfl,⟨by rw [H3.out];exact u0,by rw [H3.out];exact u1,by rw [H3.out];exact H6.out⟩,n,rfl⟩
set_option maxRecDepth 100000 in
set_option maxHeartbeats 2000000 in
theorem cmeet_any (at_ step r P:Int) (w:World) (h0:0≤at_) (h1:at_<step) (r0:0≤r) (r1:r<P) (hs:step≤27720) (hp:P≤27720) :
  Calls Tryz.prog 143 #[.agg #[.int .i64 at_,.int .i64 step],.int .i64 r,.int .i64 P] w fun e w'=>∃ a s b,e=.returned (.tuple #[.agg #[.int .i64 a,.int .i64 s],.bool b])∧MeetIs at_ step r P a s b∧Below w.heap.size w w':=by
 have s1:1≤step:=by omega
 have p1:1≤P:=by omega
 have hg:=gcd_bound (b:=P) s1
 have hg2:=gcd_bound2 (a:=step) p1
 have HG:=fun W=>gcd_any step P W s1 (by omega) p1 (by omega)
 have HNO:=fun h=>Lib.hid (meet_no (at_:=at_) (step:=step) (r:=r) (P:=P) h)
 have HALL:=fun h hn=>Lib.hid (meet_all (at_:=at_) (step:=step) (r:=r) (P:=P) s1 h0 h1 p1 h hn)
 have HONE:=fun inv h hi=>Lib.hid (meet_one (at_:=at_) (step:=step) (r:=r) (P:=P) (inv:=inv) s1 h0 h1 p1 rfl rfl h hi)
 have hcop:=cop_div (a:=step) (b:=P) s1
 have hdl:((Int.gcd step P:Nat):Int)∣step:=Int.gcd_dvd_left ..
 have hdr:((Int.gcd step P:Nat):Int)∣P:=Int.gcd_dvd_right ..
 generalize ((Int.gcd step P:Nat):Int)=g at *
 have htm:(r-at_).tmod g=0↔(r-at_) % g=0:=by
  constructor
  ·exact fun h=>Int.emod_eq_zero_of_dvd (Int.dvd_of_tmod_eq_zero h)
  ·exact fun h=>Int.tmod_eq_zero_of_dvd (Int.dvd_of_emod_eq_zero h)
 by_cases hd:(r-at_) % g=0
 ·have hT:=htm.2 hd
  have hn1:1≤P / g:=(Int.le_ediv_iff_mul_le (by omega)).2 (by omega)
  have hn2:P / g≤P:=Int.ediv_le_self _ (by omega)
  have htn:P.tdiv g=P / g:=Int.tdiv_eq_ediv_of_dvd hdr
  by_cases hn:P / g=1
  ·have HA:=HALL hd hn
   rw [hn] at htn
   clear HNO HALL HONE hd hn hn1 hn2 hcop htm hdl hdr
   go_enter Tryz.func143,Tryz.ntmps143
   go_wp2_with (go_at_call 77;go_loud (refine (HG _).mono ?_;rintro e w1 ⟨rfl,nq,rfl⟩))
   exact bodyPost_ret (v:=.tuple #[.agg #[.int .i64 at_,.int .i64 step],.bool true]) (by simp [results,Tryz.results143,go_sem]) rfl ⟨_,_,_,rfl,HA.out,xE⟩
  ·have HO:=fun inv hi=>HONE inv hd hi
   have htd:(r-at_).tdiv g=(r-at_) / g:=Int.tdiv_eq_ediv_of_dvd (Int.dvd_of_emod_eq_zero hd)
   have hqb:=ediv_bound (x:=r-at_) (B:=27720) hg.1 (by omega) (by omega) (by omega)
   have hsg:step.tdiv g=step / g:=Int.tdiv_eq_ediv_of_dvd hdl
   have hs1:1≤step / g:=(Int.le_ediv_iff_mul_le (by omega)).2 (by omega)
   have hs2:step / g≤step:=Int.ediv_le_self _ (by omega)
   generalize P / g=n at *
   generalize step / g=sg at *
   generalize (r-at_) / g=q0 at *
   have hn3:2≤n:=by omega
   have t1:=Int.tmod_lt_of_pos q0 (show 0<n by omega)
   have t2:=Int.lt_tmod_of_pos q0 (show 0<n by omega)
   have t3:q0.tmod n % n=q0 % n:=emod_of_dvd_sub ⟨-(q0.tdiv n),by have:=Int.mul_tdiv_add_tmod q0 n;rw [Int.mul_neg];omega⟩
   have t4:=Int.emod_nonneg q0 (show n≠0 by omega)
   have t5:=Int.emod_lt_of_pos q0 (show 0<n by omega)
   have HINV:=fun W=>minv_any sg n W (by omega) (by omega) hn3 (by omega) hcop
   obtain ⟨t0,ht0⟩:∃ t0,q0.tmod n=t0:=⟨_,rfl⟩
   rw [ht0] at t1 t2 t3
   generalize q0 % n=wn at *
   have hbn:-27720≤t0+n:=by omega
   have hlb:0≤step*n∧step*n≤768398400:=⟨Int.mul_nonneg (by omega) (by omega),Int.mul_le_mul (show step≤27720 from hs) (show n≤27720 by omega) (by omega) (by omega)⟩
   clear HNO HALL HONE hd hn hn1 hcop htm hdl hdr
   go_enter Tryz.func143,Tryz.ntmps143
   go_wp2_with (first|(go_at_call 77;go_loud (refine (HG _).mono ?_;rintro e w1 ⟨rfl,nq,rfl⟩))|(go_at_call 176;go_loud (refine (HINV _).mono ?_;rintro e w2 ⟨inv,rfl,hinv,nq2,rfl⟩;have i0:=hinv.1;have i1:=hinv.2.1;have HI:=Lib.hid (HO inv hinv.2.2);have hp:0≤wn*inv∧wn*inv≤768398400:=⟨Int.mul_nonneg (by omega) (by omega),Int.mul_le_mul (show wn≤27720 by omega) (show inv≤27720 by omega) (by omega) (by omega)⟩;have hk0:=Int.emod_nonneg (wn*inv) (show n≠0 by omega);have hk1:=Int.emod_lt_of_pos (wn*inv) (show 0<n by omega);have hq:0≤(wn*inv % n)*step∧(wn*inv % n)*step≤768398400:=⟨Int.mul_nonneg (by omega) (by omega),Int.mul_le_mul (show wn*inv % n≤27720 by omega) (show step≤27720 from hs) (by omega) (by omega)⟩;clear hinv))|(go_at_call 175;first
     | ((with_reducible refine (mul64_small wn inv _ (by omega) (by omega) (by omega) (by omega)).mono ?_);rintro e w3 ⟨rfl,rfl⟩)
     | ((with_reducible refine (mul64_small (wn*inv % n) step _ (by omega) (by omega) (by omega) (by omega)).mono ?_);rintro e w3 ⟨rfl,rfl⟩)
     | ((with_reducible refine (mul64_small step n _ (by omega) (by omega) (by omega) (by omega)).mono ?_);rintro e w3 ⟨rfl,rfl⟩))|(go_at_call 177;go_loud (refine (rem64_small _ _ _ hp.1 (by omega) (by omega) (by omega)).mono ?_;rintro e w4 ⟨rfl,nq3,rfl⟩)))
   exact bodyPost_ret (v:=.tuple #[.agg #[.int .i64 (at_+wn*inv % n*step),.int .i64 (step*n)],.bool true]) (by simp [results,Tryz.results143,go_sem]) rfl ⟨_,_,_,rfl,HI.out.1,xE⟩
 ·have hT:¬ (r-at_).tmod g=0:=fun h=>hd (htm.1 h)
  have HN:=HNO hd
  clear HNO HALL HONE hd hcop htm hdl hdr
  go_enter Tryz.func143,Tryz.ntmps143
  go_wp2_with (go_at_call 77;go_loud (refine (HG _).mono ?_;rintro e w1 ⟨rfl,nq,rfl⟩))
  exact bodyPost_ret (v:=.tuple #[.agg #[.int .i64 0,.int .i64 0],.bool false]) (by simp [results,Tryz.results143,go_sem]) rfl ⟨_,_,_,rfl,HN.out,xE⟩
theorem cmeet_fn (at_ step r P:Int) (h0:0≤at_) (h1:at_<step) (r0:0≤r) (r1:r<P) (hs:step≤27720) (hp:P≤27720):∃ a s b,MeetIs at_ step r P a s b∧∀ w,
  Calls Tryz.prog 143 #[.agg #[.int .i64 at_,.int .i64 step],.int .i64 r,.int .i64 P] w fun e w'=>e=.returned (.tuple #[.agg #[.int .i64 a,.int .i64 s],.bool b])∧Below w.heap.size w w':=by
 obtain ⟨a,s,b,hm⟩:=meetIs_ex (at_:=at_) (r:=r) (show 1≤step by omega) (show 1≤P by omega)
 refine ⟨a,s,b,hm,fun w=>(cmeet_any at_ step r P w h0 h1 r0 r1 hs hp).mono ?_⟩
 rintro e w' ⟨a',s',b',rfl,hm',hb⟩
 obtain ⟨rfl,rfl,rfl⟩:=hm.unique (by omega) (by omega) hm'
 exact ⟨rfl,hb⟩
end Go.Proofs.YthjnojbeimchdaaGreat
namespace Kal
def FarI:Int:=1152921504606846976
def perE:Per:=⟨[],0,1,[]⟩
theorem perE_mem (n:Int):¬ perE.mem n:=by
 unfold Per.mem perE;simp
theorem nine_mem (n:Int):(ev 9 12).mem n↔tmem [ev 1 4,ev 3 6] n:=by rw [both_mem,ev_mem]
theorem san_join:joinF perE [[ev 1 4,ev 3 6]]=ev 9 12:=by
 show orP perE (andP (ev 1 4) (ev 3 6))=_
 refine canonC_eq ((ev_canon (by omega) (by omega)).congr fun n=>?_)
 have h:=(x1.fac.and x2.fac).1.mem n
 show (ev 9 12).mem n↔perE.mem n∨(andP (ev 1 4) (ev 3 6)).mem n
 rw [h,nine_mem]
 unfold tmem
 simp only [List.forall_mem_cons,List.not_mem_nil]
 exact ⟨fun h=>.inr ⟨h.1,h.2.1⟩,fun h=>h.elim (fun h=>absurd h (perE_mem n)) fun h=>⟨h.1,h.2,fun x hx=>absurd hx (by simp)⟩⟩
theorem both_m (n:Int):mmem [[ev 1 4,ev 3 6]] n↔0≤n∧n % 12=9:=by
 rw [mmem_cons,both_mem]
 exact ⟨fun h=>h.elim id fun h=>absurd h mmem_nil,.inl⟩
theorem san_next:NextF FarI (mmem [[ev 1 4,ev 3 6]]) 0 9 true:=
 .inl ⟨rfl,by omega,by decide,(both_m 9).2 (by omega),fun x h1 h2 h=>by have:=(both_m x).1 h;omega⟩
theorem san_first:NextF FarI (mmem (pairsL [[ev 1 4]] [[ev 3 6]])) 10 21 true:=
 .inl ⟨rfl,by omega,by decide,(both_m 21).2 (by omega),fun x h1 h2 h=>by have:=(both_m x).1 h;omega⟩
theorem san_apart:NextF FarI (mmem ([[(⟨[],5,2,[1]⟩:Per)]] ++ [])) 0 6 true:=
 .inl ⟨rfl,by omega,by decide,(apart_mem 6).2 (by omega),fun x h1 h2 h=>by have:=(apart_mem x).1 h;omega⟩
theorem both_rec:recT [ev 1 4,ev 3 6]:=⟨9,by decide,(both_mem 9).2 (by omega)⟩
theorem ok_two {t u:List Per} (h:t.length≤4) (h':u.length≤4):NormOk [t,u]:=⟨by simp,fun x hx=>by
 simp at hx
 rcases hx with rfl|rfl
 ·exact h
 ·exact h'⟩
end Kal
namespace Go.Proofs.YthjnojbeimchdaaGreat
open Go.RowKit Go.Maps Kal
structure LB (w0:World) (b1 b2 b3 b4 b5:Nat):Prop where
 h4:w0.heap.size≤b4
 h5:w0.heap.size≤b5
 n14:b1≠b4
 n15:b1≠b5
 n24:b2≠b4
 n25:b2≠b5
 n34:b3≠b4
 n35:b3≠b5
 n45:b4≠b5
structure LS (w0:World) (b1 b2 b3 b4 b5:Nat) (v:Value) (f l:Int) (fb:Bool) (W:World):Prop where
 below:Below w0.heap.size w0 W
 c1:Bxx W b1 #[v] 36
 c2:Bxx W b2 #[.func (.func 142) #[] #[.pointer (some ⟨b1,0,none⟩),.pointer (some ⟨b2,0,none⟩),.pointer (some ⟨b3,0,none⟩),.pointer (some ⟨b4,0,none⟩),.pointer (some ⟨b5,0,none⟩)]] 130
 c3:Bxx W b3 #[.int .i64 f] 3
 c4:Bxx W b4 #[.int .i64 l] 3
 c5:Bxx W b5 #[.bool fb] 4
section
variable {w0 W W':World} {b1 b2 b3 b4 b5:Nat} {v:Value} {f l l':Int} {fb:Bool}
theorem LS.ext (h:LS w0 b1 b2 b3 b4 b5 v f l fb W) (hb:Below W.heap.size W W'):LS w0 b1 b2 b3 b4 b5 v f l fb W':=
 ⟨Et h.below hb,h.c1.below hb,h.c2.below hb,h.c3.below hb,h.c4.below hb,h.c5.below hb⟩
theorem LS.put (h:LS w0 b1 b2 b3 b4 b5 v f l fb W) (hb:LB w0 b1 b2 b3 b4 b5):LS w0 b1 b2 b3 b4 b5 v f l' true ((W.setCell ⟨b4,0,none⟩ (.int .i64 l')).setCell ⟨b5,0,none⟩ (.bool true)):=
 ⟨(
  h.below.setCell (p:=⟨b4,0,none⟩) hb.h4 _).setCell (p:=⟨b5,0,none⟩) hb.h5 _,
  (h.c1.setNe _ hb.n14).setNe _ hb.n15,(h.c2.setNe _ hb.n24).setNe _ hb.n25,(h.c3.setNe _ hb.n34).setNe _ hb.n35,
  Bxx.setNe (heap_set_at 0 _ h.c4) _ hb.n45,heap_set_at 0 _ (h.c5.setNe _ hb.n45.symm)⟩
end
theorem set2all {W:World} {b:Nat} {x y x' y':Value} {t:TypeId} (h:Bxx W b #[x,y] t):Bxx ((W.setCell ⟨b,0,none⟩ x').setCell ⟨b,1,none⟩ y') b #[x',y'] t:=by
 have h1:=heap_set_at 1 y' (heap_set_at 0 x' h)
 simpa [Bxx] using h1
theorem below_st2 {B b:Nat} {w W:World} (hb:Below B w W) (h:B≤b) (x y:Value):Below B w ((W.setCell ⟨b,0,none⟩ x).setCell ⟨b,1,none⟩ y):=
 (hb.setCell (p:=⟨b,0,none⟩) h _).setCell (p:=⟨b,1,none⟩) h _
def LRes (w0:World) (b1 b2 b3 b4 b5:Nat) (v:Value) (f:Int) (S:Int→Prop) (w:World) (e:Ending) (w':World):Prop:=
 ∃ l fb,e=.returned (.tuple #[])∧LS w0 b1 b2 b3 b4 b5 v f l fb w'∧KeepF (fun b=>b≠b4∧b≠b5) w w'∧w.heap.size≤w'.heap.size∧BestL FarI S f l fb
theorem keep_two {W W':World} {b4 b5:Nat} (v4 v5:Value) (hb:Below W.heap.size W W'):KeepF (fun b=>b≠b4∧b≠b5) W ((W'.setCell ⟨b4,0,none⟩ v4).setCell ⟨b5,0,none⟩ v5):=fun b h hl=>
 ((Below.heap_setCell _ ⟨b5,0,none⟩ v5 b h.2).trans (Below.heap_setCell _ ⟨b4,0,none⟩ v4 b h.1)).trans (hb.block b hl)
set_option maxRecDepth 100000 in
set_option maxHeartbeats 4000000 in
theorem lchoose_any (s:Int) (w0:World) (b1 b2 b3 b4 b5:Nat) (hB:LB w0 b1 b2 b3 b4 b5) (v:Value) (L:List PV) (hL:TermL w0 (fun b=>b<w0.heap.size) v L) (hv:∀ p∈L.map PV.p,FV s p) (f:Int) (f0:0≤f) (f1:f≤1152921504606846976) :
  ∀ (n i:Nat) (at_ step l:Int) (fb:Bool) (S:Int→Prop) (w:World),i+n=L.length→0≤at_→at_<step→step∣27720→LS w0 b1 b2 b3 b4 b5 v f l fb w→BestL FarI S f l fb→
   Calls Tryz.prog 142 #[.int .i64 i,.agg #[.int .i64 at_,.int .i64 step],.pointer (some ⟨b1,0,none⟩),.pointer (some ⟨b2,0,none⟩),.pointer (some ⟨b3,0,none⟩),.pointer (some ⟨b4,0,none⟩),.pointer (some ⟨b5,0,none⟩)] w
    (LRes w0 b1 b2 b3 b4 b5 v f (fun x=>S x∨ClsS ((L.map PV.p).drop i) at_ step x) w):=by
 intro n
 induction n with
 | zero=>
  intro i at_ step l fb S w hi h0 h1 hd hs hbest
  have hl1:=hL.len
  obtain rfl:i=L.length:=by omega
  obtain ⟨a1,c1,rfl,hx1,hx2,_⟩:=hL.row.is
  have s1:step≤27720:=Int.le_of_dvd (by decide) hd
  have s0:0<step:=by omega
  have q1:=(hs.c1.alloc (.cells #[.int .i64 at_,.int .i64 step] 132)).c0
  have q3:=(hs.c3.alloc (.cells #[.int .i64 at_,.int .i64 step] 132)).c0
  have q4:=((hs.c4.alloc (.cells #[.int .i64 at_,.int .i64 step] 132)).cells 0)
  have q5:=((hs.c5.alloc (.cells #[.int .i64 at_,.int .i64 step] 132)).cells 0)
  have q6:=((Bxx.setNe (i:=0) (hs.c5.alloc (.cells #[.int .i64 at_,.int .i64 step] 132)) (.int .i64 at_) hB.n45.symm).cells 0)
  have hle:l≤1152921504606846976:=hbest.le
  have hl0:-9223372036854775808≤l:=by
   rcases hbest with ⟨_,h,_⟩|⟨_,h,_⟩
   ·omega
   ·rw [h];decide
  have HLF:=Lib.hid (hbest.leaf (at_:=at_) (show 1≤step by omega) h0 h1 f0)
  have HS:=Lib.hid hs
  have HBS:=Lib.hid hbest
  clear hs hbest hi
  by_cases hlt:at_<f
  ·have T0:0≤f-at_+step-1:=by omega
   have hup:upTo f at_ step=at_+(f-at_+step-1) / step*step:=if_pos hlt
   have e:=Int.emod_add_mul_ediv (f-at_+step-1) step
   have e0:=Int.emod_nonneg (f-at_+step-1) (show step≠0 by omega)
   have e1:=Int.emod_lt_of_pos (f-at_+step-1) s0
   rw [Int.mul_comm step] at e
   have q0:0≤(f-at_+step-1) / step:=Int.ediv_nonneg T0 (by omega)
   have q9:(f-at_+step-1) / step≤f-at_+step-1:=Int.ediv_le_self _ T0
   have htd:(f-at_+step-1).tdiv step=(f-at_+step-1) / step:=Int.tdiv_eq_ediv_of_nonneg T0
   generalize (f-at_+step-1) / step=q at *
   have q3':=(HS.out.c3.alloc (.cells #[.int .i64 (at_+q*step),.int .i64 step] 132)).c0
   have q4':=((HS.out.c4.alloc (.cells #[.int .i64 (at_+q*step),.int .i64 step] 132)).cells 0)
   have q5':=((HS.out.c5.alloc (.cells #[.int .i64 (at_+q*step),.int .i64 step] 132)).cells 0)
   have q6':=((Bxx.setNe (i:=0) (HS.out.c5.alloc (.cells #[.int .i64 (at_+q*step),.int .i64 step] 132)) (.int .i64 (at_+q*step)) hB.n45.symm).cells 0)
   rw [hup] at HLF
   have hmu:0≤q*step∧q*step≤f-at_+step-1:=⟨Int.mul_nonneg q0 (by omega),by omega⟩
   go_enter Tryz.func142,Tryz.ntmps142
   go_wp2_with fail
   go_region
   all_goals go_wp2_with fail
   ·refine ⟨rfl,.tuple #[],by simp [results,Tryz.results142,go_sem],at_+q*step,true,rfl,((HS.out.ext (Ea (Er _) _)).put hB).ext (Ed (Er _)),keep_two _ _ (Ea (Er w) _),by simp,?_⟩
    refine (HLF.out.1 (by assumption)).congr fun x hx=>?_
    rw [List.drop_of_length_le (by simp),clsS_nil]
   ·refine ⟨rfl,.tuple #[],by simp [results,Tryz.results142,go_sem],l,fb,rfl,(HS.out.ext (Ea (Er _) _)).ext (Ed (Er _)),KeepF.below (Ed (Ea (Er w) _)),by simp,?_⟩
    refine (HLF.out.2 (by omega)).congr fun x hx=>?_
    rw [List.drop_of_length_le (by simp),clsS_nil]
  ·have hup:upTo f at_ step=at_:=if_neg hlt
   rw [hup] at HLF
   go_enter Tryz.func142,Tryz.ntmps142
   go_wp2_with fail
   ·refine ⟨rfl,.tuple #[],by simp [results,Tryz.results142,go_sem],at_,true,rfl,(HS.out.ext (Ea (Er _) _)).put hB,keep_two _ _ (Ea (Er w) _),by simp,?_⟩
    refine (HLF.out.1 (by assumption)).congr fun x hx=>?_
    rw [List.drop_of_length_le (by simp),clsS_nil]
   ·refine ⟨rfl,.tuple #[],by simp [results,Tryz.results142,go_sem],l,fb,rfl,HS.out.ext (Ea (Er _) _),KeepF.below (Ea (Er w) _),by simp,?_⟩
    refine (HLF.out.2 (by omega)).congr fun x hx=>?_
    rw [List.drop_of_length_le (by simp),clsS_nil]
 | succ n ih=>
  intro ii at_ step l fb S w hi h0 h1 hd hs hbest
  have IH:=Lib.hid ih
  clear ih
  have hl1:=hL.len
  have hli:ii<L.length:=by omega
  have hiI:(ii:Int)<L.length:=by omega
  have s1:step≤27720:=Int.le_of_dvd (by decide) hd
  obtain ⟨a1,c1,rfl,hx1,hx2,_⟩:=hL.row.is
  obtain ⟨tb,o1,x,ha,hx,hxp,hbt,e0,e1,e2,e3⟩:=hL.get hli
  subst ha
  have hfv:FV s x.p:=hv _ (by rw [hxp];exact getD_mem' (by simpa using hli))
  have hdr:(L.map PV.p).drop ii=x.p :: (L.map PV.p).drop (ii+1):=by
   rw [List.drop_eq_getElem_cons (by simpa using hli),hxp,List.getD_eq_getElem?_getD,List.getElem?_eq_getElem (by simpa using hli)];rfl
  obtain ⟨xh,xc,xp⟩:=x
  obtain ⟨ax1,nx1,cx1,ax2,nx2,cx2,rfl,rfl⟩:=hx.form
  dsimp only at e0 e1 e2 e3 hfv hdr
  have hxi:=hx.is.cy
  dsimp only at hxi
  obtain ⟨⟨ah,ch,he,_,_,hcl⟩,hln,hrg⟩:=hxi
  injection he with he1 he2 he3
  subst he1;subst he2;subst he3
  have hw:=hfv.fac.wf
  have f0':=hw.frm
  have f1':=hfv.far
  have p0:=hw.per
  have p1:=hfv.fac.per
  have HD:Hid (step∣27720):=Lib.hid hd
  have HFV:=Lib.hid hfv
  have HDR:=Lib.hid hdr
  have HCY:=Lib.hid hw.cyc
  have HWF:=Lib.hid hw
  have HHI:=Lib.hid hi
  have HX:=Lib.hid hx
  have HHL:=Lib.hid hL
  have HHV:=Lib.hid hv
  have HCL:=Lib.hid hcl
  have hbel:=Lib.hid hs.below
  have q1:=(hs.c1.alloc (.cells #[.int .i64 at_,.int .i64 step] 132)).c0
  have E0:=cell_alloc_at (Ext.cell hs.below e0) (.cells #[.int .i64 at_,.int .i64 step] 132)
  have E1:=cell_alloc_at (Ext.cell hs.below e1) (.cells #[.int .i64 at_,.int .i64 step] 132)
  have E2:=cell_alloc_at (Ext.cell hs.below e2) (.cells #[.int .i64 at_,.int .i64 step] 132)
  have E3:=cell_alloc_at (Ext.cell hs.below e3) (.cells #[.int .i64 at_,.int .i64 step] 132)
  have EE0:=Lib.hid e0
  have EE1:=Lib.hid e1
  have EE2:=Lib.hid e2
  have EE3:=Lib.hid e3
  have HS:=Lib.hid hs
  have HBS:=Lib.hid hbest
  have hl45:Hid (w.heap.size≠b4∧w.heap.size≠b5):=Lib.hid ⟨by have:=hs.c4.lt;omega,by have:=hs.c5.lt;omega⟩
  clear hs hbest hi e0 e1 e2 e3 hcl hrg hx hfv hdr hL hv hw hxp
  go_enter Tryz.func142,Tryz.ntmps142
  go_wp2_with fail
  obtain ⟨bw,hbw⟩:∃ bw,bw=w.heap.size:=⟨_,rfl⟩
  rw [← hbw]
  have HBW:=Lib.hid hbw
  have HN:Hid (bw≠b4∧bw≠b5):=Lib.hid (by rw [hbw];exact hl45.out)
  clear q1 E0 E1 E2 E3 hbw hl45
  go_loopw [10,11,12,23] (fun _ _ _ idx wr=>∃ (j:Nat) (l':Int) (fb':Bool),j≤xp.cycle.length∧idx=.int .i64 j∧Hid (LS w0 b1 b2 b3 b4 b5 (.slice (some ⟨tb,o1,none⟩) L.length c1) f l' fb' wr)∧Hid (Bxx wr bw #[.int .i64 at_,.int .i64 step] 132)∧Hid (KeepF (fun b=>b≠b4∧b≠b5) w wr)∧Hid (w.heap.size≤wr.heap.size)∧Hid (BestL FarI (lateS S xp ((L.map PV.p).drop (ii+1)) at_ step j) f l' fb')) (fun _ _ _ idx _=>xp.cycle.length-(intOf idx).toNat)
  case atStart=>exact ⟨0,l,fb,by omega,rfl,Lib.hid (HS.out.ext (Ea (Er _) _)),Lib.hid (Bxx.at HBW.out),Lib.hid (KeepF.below (Ea (Er w) _)),Lib.hid (by simp),Lib.hid (HBS.out.congr fun x _=>lateS_zero)⟩
  case round=>
   obtain ⟨j,l',fb',hj,rfl,HLS,HBX,HKE,HSZ,HBE⟩:=hrel
   by_cases hjl:j<xp.cycle.length
   ·have hjI:(j:Int)<xp.cycle.length:=by omega
    rcases HCL.out with h9|⟨bc,oc,rfl,hcc⟩
    ·rw [h9] at hjl;simp at hjl
    have c0:=Ext.cell HLS.out.below (hcc j hjl)
    have hcr:=HCY.out.2 _ (getD_mem' (d:=0) hjl)
    have HSU:=fun a2 s2 bb x (h:MeetIs at_ step (resP xp (xp.cycle.getD j 0)) xp.period a2 s2 bb)=>lateS_succ (S:=S) (t:=(L.map PV.p).drop (ii+1)) (x:=x) HWF.out hjl (by omega) h0 h1 h
    generalize xp.cycle.getD j 0=c at *
    have hr:=resP_lt HWF.out c
    obtain ⟨a2,s2,bb,hM,HME⟩:=cmeet_fn at_ step (resP xp c) xp.period h0 h1 hr.1 hr.2 s1 p1
    have HRES:=fun W=>mresidue_any (.slice ax1 nx1 cx1) (.slice (some ⟨bc,oc,none⟩) xp.cycle.length cx2) xp c W f0' (by omega) p0 (by omega) hcr.1 (by omega)
    have HSUC:=Lib.hid (fun x=>HSU a2 s2 bb x hM)
    have HM:=Lib.hid hM
    have q1:=HLS.out.c1.c0
    have q2:=HLS.out.c2.c0
    have m0:wr.cell? ⟨bw,0,none⟩=some (.int .i64 at_):=(HBX.out.cells 0).1
    have m1:wr.cell? ⟨bw,1,none⟩=some (.int .i64 step):=(HBX.out.cells 1).1
    have E0:=Ext.cell HLS.out.below EE0.out
    have E1:=Ext.cell HLS.out.below EE1.out
    have E2:=Ext.cell HLS.out.below EE2.out
    have E3:=Ext.cell HLS.out.below EE3.out
    generalize resP xp c=r at *
    clear hcc HSU hM
    go_wp2_with fail
    have HLB:=Lib.hid q2
    clear q2
    refine Code.wp_mono (Q:=fun e a' W'=>e=.normal∧(∃ (nb:Nat) (z27 z28 z29 z30 z31 z32 z33 z34 z35 z36 z37 z38 z39 z40 z41 z42:Value),a'=⟨#[.int .i64 ↑ii,.agg #[.int .i64 at_,.int .i64 step],.pointer (some ⟨b1,0,none⟩),.pointer (some ⟨b2,0,none⟩),.pointer (some ⟨b3,0,none⟩),.pointer (some ⟨b4,0,none⟩),.pointer (some ⟨b5,0,none⟩),undef,.pointer (some ⟨bw,0,none⟩),undef,.int .i64 c,.pointer (some ⟨nb,0,none⟩),.bool bb,.int .i64 ↑ii,.slice (some ⟨tb,o1,none⟩) L.length c1,.int .i64 ↑L.length,.bool true,.slice (some ⟨tb,o1,none⟩) L.length c1,.int .i64 ↑ii,.pointer (some ⟨tb,o1+ii*4,none⟩),.pointer (some ⟨tb,o1+ii*4+3,none⟩),.slice (some ⟨bc,oc,none⟩) xp.cycle.length cx2,.int .i64 ↑xp.cycle.length,.int .i64 ↑j,.bool true,.pointer (some ⟨bc,oc+j,none⟩),.int .i64 c,z27,z28,z29,z30,z31,z32,z33,z34,z35,z36,z37,z38,z39,z40,z41,z42,u43,u44,u45,u46,u47,u48,u49,undef,undef,undef,undef,undef,undef,undef,undef,undef,undef,undef,undef,undef,undef,undef,undef,undef,undef,undef,undef,undef,undef,undef,undef,undef,undef,undef,undef,undef,undef,undef,undef,undef,undef,undef,undef,undef,undef,undef],[]⟩∧Bxx W' nb #[.int .i64 a2,.int .i64 s2] 132)∧Below wr.heap.size wr W') ?imp ?reg
    case reg=>
     refine wp_region_factsX (w0:=wr) [0,1,2,3,4,5,6,7,8,9,10,11,12,13,14,15,16] 15 17 [18] (fun v=>⟨#[.int .i64 ↑ii,.agg #[.int .i64 at_,.int .i64 step],.pointer (some ⟨b1,0,none⟩),.pointer (some ⟨b2,0,none⟩),.pointer (some ⟨b3,0,none⟩),.pointer (some ⟨b4,0,none⟩),.pointer (some ⟨b5,0,none⟩),undef,.pointer (some ⟨bw,0,none⟩),undef,.int .i64 c,v 16,u12,.int .i64 ↑ii,.slice (some ⟨tb,o1,none⟩) L.length c1,.int .i64 ↑L.length,.bool true,.slice (some ⟨tb,o1,none⟩) L.length c1,.int .i64 ↑ii,.pointer (some ⟨tb,o1+ii*4,none⟩),.pointer (some ⟨tb,o1+ii*4+3,none⟩),.slice (some ⟨bc,oc,none⟩) xp.cycle.length cx2,.int .i64 ↑xp.cycle.length,.int .i64 ↑j,.bool true,.pointer (some ⟨bc,oc+j,none⟩),.int .i64 c,v 13,v 0,v 1,v 2,v 3,v 4,v 5,v 6,v 7,v 8,v 9,v 10,v 11,v 12,v 14,v 15,u43,u44,u45,u46,u47,u48,u49,undef,undef,undef,undef,undef,undef,undef,undef,undef,undef,undef,undef,undef,undef,undef,undef,undef,undef,undef,undef,undef,undef,undef,undef,undef,undef,undef,undef,undef,undef,undef,undef,undef,undef,undef,undef,undef,undef,undef],[]⟩) (fun j=>match j with|0=>u28|1=>u29|2=>u30|3=>u31|4=>u32|5=>u33|6=>u34|7=>u35|8=>u36|9=>u37|10=>u38|11=>u39|12=>u40|13=>u27|14=>u41|15=>u42|16=>u11|_=>undef)
      (fun i v lo hi W=>match i with
       | 0=>v 0=.agg #[.int .i64 at_,.int .i64 step]
       | 1=>v 1=.slice (some ⟨tb,o1,none⟩) L.length c1
       | 2=>v 2=.int .i64 ii
       | 3=>v 3=.pointer (some ⟨tb,o1+ii*4,none⟩)
       | 4=>v 4=perV (.slice ax1 nx1 cx1) (.slice (some ⟨bc,oc,none⟩) xp.cycle.length cx2) xp.frm xp.period
       | 5=>v 5=.int .i64 c
       | 6=>v 6=.int .i64 r
       | 7=>v 7=.slice (some ⟨tb,o1,none⟩) L.length c1
       | 8=>v 8=.int .i64 ii
       | 9=>v 9=.pointer (some ⟨tb,o1+ii*4,none⟩)
       | 10=>v 10=.pointer (some ⟨tb,o1+ii*4+2,none⟩)
       | 11=>v 11=.int .i64 xp.period
       | 12=>v 12=.tuple #[.agg #[.int .i64 a2,.int .i64 s2],.bool bb]
       | 13=>v 13=.tuple #[.agg #[.int .i64 a2,.int .i64 s2],.bool bb]
       | 14=>v 14=.agg #[.int .i64 a2,.int .i64 s2]
       | 15=>v 15=.bool bb
       | 16=>v 16=.pointer (some ⟨lo 16,0,none⟩)∧lo 16<hi 16∧Bxx W (lo 16) #[.int .i64 0,.int .i64 0] 132
       | _=>True)
      (fun W=>(W.cell? ⟨bw,0,none⟩=some (.int .i64 at_)∧W.cell? ⟨bw,1,none⟩=some (.int .i64 step))∧W.cell? ⟨b1,0,none⟩=some (.slice (some ⟨tb,o1,none⟩) L.length c1)∧W.cell? ⟨tb,o1+ii*4,none⟩=some (.slice ax1 nx1 cx1)∧W.cell? ⟨tb,o1+ii*4+1,none⟩=some (.int .i64 xp.frm)∧W.cell? ⟨tb,o1+ii*4+2,none⟩=some (.int .i64 xp.period)∧W.cell? ⟨tb,o1+ii*4+3,none⟩=some (.slice (some ⟨bc,oc,none⟩) xp.cycle.length cx2)) rfl (by kernel_rfl) (by decide) rfl ?stab ?loc (fun W hb=>⟨⟨cux m0 hb,cux m1 hb⟩,cux q1 hb,cux E0 hb,cux E1 hb,cux E2 hb,cux E3 hb⟩) ?steps ?fin ?fin2
     case stab=>
      rintro (_|_|_|_|_|_|_|_|_|_|_|_|_|_|_|_|_|i) v lo hi W W' h hb
      ·exact h
      ·exact h
      ·exact h
      ·exact h
      ·exact h
      ·exact h
      ·exact h
      ·exact h
      ·exact h
      ·exact h
      ·exact h
      ·exact h
      ·exact h
      ·exact h
      ·exact h
      ·exact h
      ·exact ⟨h.1,h.2.1,h.2.2.below hb⟩
      ·trivial
     case loc=>
      rintro (_|_|_|_|_|_|_|_|_|_|_|_|_|_|_|_|_|i) v v' lo lo' hi hi' W hag h
      ·exact (hag 0 (.inl rfl)).1 ▸ h
      ·exact (hag 1 (.inl rfl)).1 ▸ h
      ·exact (hag 2 (.inl rfl)).1 ▸ h
      ·exact (hag 3 (.inl rfl)).1 ▸ h
      ·exact (hag 4 (.inl rfl)).1 ▸ h
      ·exact (hag 5 (.inl rfl)).1 ▸ h
      ·exact (hag 6 (.inl rfl)).1 ▸ h
      ·exact (hag 7 (.inl rfl)).1 ▸ h
      ·exact (hag 8 (.inl rfl)).1 ▸ h
      ·exact (hag 9 (.inl rfl)).1 ▸ h
      ·exact (hag 10 (.inl rfl)).1 ▸ h
      ·exact (hag 11 (.inl rfl)).1 ▸ h
      ·exact (hag 12 (.inl rfl)).1 ▸ h
      ·exact (hag 13 (.inl rfl)).1 ▸ h
      ·exact (hag 14 (.inl rfl)).1 ▸ h
      ·exact (hag 15 (.inl rfl)).1 ▸ h
      ·have q:=hag 16 (.inl rfl)
       (try dsimp only at h ⊢);(try simp only [q.1,q.2.1,q.2.2] at h);exact h
      ·trivial
     case steps=>
      clear m0 m1 q1 E0 E1 E2 E3
      refine StepsH.cons rfl ?_ (StepsH.cons rfl ?_ (StepsH.cons rfl ?_ (StepsH.cons rfl ?_ (StepsH.cons rfl ?_ (StepsH.cons rfl ?_ (StepsH.cons rfl ?_ (StepsH.cons rfl ?_ (StepsH.cons rfl ?_ (StepsH.cons rfl ?_ (StepsH.cons rfl ?_ (StepsH.cons rfl ?_ (StepsH.cons rfl ?_ (StepsH.cons rfl ?_ (StepsH.cons rfl ?_ (StepsH.cons rfl ?_ (StepsH.cons rfl ?_ StepsH.nil))))))))))))))))
      ·rintro v lo hi W hb ⟨⟨n0,n1⟩,nv,g0,g1,g2,g3⟩ hd
       clear hd
       refine ⟨rfl,?_⟩
       intro K hK
       dsimp only
       go_wp2_with fail
       exact acx (hK (.agg #[.int .i64 at_,.int .i64 step]) W (Below.refl _ _) rfl) (by simp)
      ·rintro v lo hi W hb ⟨⟨n0,n1⟩,nv,g0,g1,g2,g3⟩ hd
       clear hd
       refine ⟨rfl,?_⟩
       intro K hK
       dsimp only
       go_wp2_with fail
       exact acx (hK (.slice (some ⟨tb,o1,none⟩) L.length c1) W (Below.refl _ _) rfl) (by simp)
      ·rintro v lo hi W hb ⟨⟨n0,n1⟩,nv,g0,g1,g2,g3⟩ hd
       clear hd
       refine ⟨rfl,?_⟩
       intro K hK
       dsimp only
       go_wp2_with fail
       exact acx (hK (.int .i64 ii) W (Below.refl _ _) rfl) (by simp)
      ·rintro v lo hi W hb ⟨⟨n0,n1⟩,nv,g0,g1,g2,g3⟩ hd
       have e1:v 1=.slice (some ⟨tb,o1,none⟩) L.length c1:=(hd 1 (Rdp (by kernel_rfl))).2.2
       have e2:v 2=.int .i64 ii:=(hd 2 (Rdp (by kernel_rfl))).2.2
       clear hd
       refine ⟨rfl,?_⟩
       intro K hK
       dsimp only
       (try simp only [e1,e2])
       go_wp2_with fail
       exact acx (hK (.pointer (some ⟨tb,o1+ii*4,none⟩)) W (Below.refl _ _) rfl) (by simp [e1,e2])
      ·rintro v lo hi W hb ⟨⟨n0,n1⟩,nv,g0,g1,g2,g3⟩ hd
       have e3:v 3=.pointer (some ⟨tb,o1+ii*4,none⟩):=(hd 3 (Rdp (by kernel_rfl))).2.2
       clear hd
       refine ⟨rfl,?_⟩
       intro K hK
       dsimp only
       (try simp only [e3])
       go_wp2_with fail
       exact acx (hK (perV (.slice ax1 nx1 cx1) (.slice (some ⟨bc,oc,none⟩) xp.cycle.length cx2) xp.frm xp.period) W (Below.refl _ _) rfl) (by simp [e3])
      ·rintro v lo hi W hb ⟨⟨n0,n1⟩,nv,g0,g1,g2,g3⟩ hd
       clear hd
       refine ⟨rfl,?_⟩
       intro K hK
       dsimp only
       go_wp2_with fail
       exact acx (hK (.int .i64 c) W (Below.refl _ _) rfl) (by simp)
      ·rintro v lo hi W hb ⟨⟨n0,n1⟩,nv,g0,g1,g2,g3⟩ hd
       have e4:v 4=perV (.slice ax1 nx1 cx1) (.slice (some ⟨bc,oc,none⟩) xp.cycle.length cx2) xp.frm xp.period:=(hd 4 (Rdp (by kernel_rfl))).2.2
       have e5:v 5=.int .i64 c:=(hd 5 (Rdp (by kernel_rfl))).2.2
       clear hd
       refine ⟨rfl,?_⟩
       intro K hK
       dsimp only
       (try simp only [e4,e5])
       go_wp2_with (go_at_call 121;refine (HRES _).mono ?_;rintro e w9 ⟨rfl,hb9⟩)
       exact acx (hK (.int .i64 r) w9 hb9 rfl) (by simp [e4,e5])
      ·rintro v lo hi W hb ⟨⟨n0,n1⟩,nv,g0,g1,g2,g3⟩ hd
       clear hd
       refine ⟨rfl,?_⟩
       intro K hK
       dsimp only
       go_wp2_with fail
       exact acx (hK (.slice (some ⟨tb,o1,none⟩) L.length c1) W (Below.refl _ _) rfl) (by simp)
      ·rintro v lo hi W hb ⟨⟨n0,n1⟩,nv,g0,g1,g2,g3⟩ hd
       clear hd
       refine ⟨rfl,?_⟩
       intro K hK
       dsimp only
       go_wp2_with fail
       exact acx (hK (.int .i64 ii) W (Below.refl _ _) rfl) (by simp)
      ·rintro v lo hi W hb ⟨⟨n0,n1⟩,nv,g0,g1,g2,g3⟩ hd
       have e7:v 7=.slice (some ⟨tb,o1,none⟩) L.length c1:=(hd 7 (Rdp (by kernel_rfl))).2.2
       have e8:v 8=.int .i64 ii:=(hd 8 (Rdp (by kernel_rfl))).2.2
       clear hd
       refine ⟨rfl,?_⟩
       intro K hK
       dsimp only
       (try simp only [e7,e8])
       go_wp2_with fail
       exact acx (hK (.pointer (some ⟨tb,o1+ii*4,none⟩)) W (Below.refl _ _) rfl) (by simp [e7,e8])
      ·rintro v lo hi W hb ⟨⟨n0,n1⟩,nv,g0,g1,g2,g3⟩ hd
       have e9:v 9=.pointer (some ⟨tb,o1+ii*4,none⟩):=(hd 9 (Rdp (by kernel_rfl))).2.2
       clear hd
       refine ⟨rfl,?_⟩
       intro K hK
       dsimp only
       (try simp only [e9])
       go_wp2_with fail
       exact acx (hK (.pointer (some ⟨tb,o1+ii*4+2,none⟩)) W (Below.refl _ _) rfl) (by simp [e9])
      ·rintro v lo hi W hb ⟨⟨n0,n1⟩,nv,g0,g1,g2,g3⟩ hd
       have e10:v 10=.pointer (some ⟨tb,o1+ii*4+2,none⟩):=(hd 10 (Rdp (by kernel_rfl))).2.2
       clear hd
       refine ⟨rfl,?_⟩
       intro K hK
       dsimp only
       (try simp only [e10])
       go_wp2_with fail
       exact acx (hK (.int .i64 xp.period) W (Below.refl _ _) rfl) (by simp [e10])
      ·rintro v lo hi W hb ⟨⟨n0,n1⟩,nv,g0,g1,g2,g3⟩ hd
       have e0:v 0=.agg #[.int .i64 at_,.int .i64 step]:=(hd 0 (Rdp (by kernel_rfl))).2.2
       have e6:v 6=.int .i64 r:=(hd 6 (Rdp (by kernel_rfl))).2.2
       have e11:v 11=.int .i64 xp.period:=(hd 11 (Rdp (by kernel_rfl))).2.2
       clear hd
       refine ⟨rfl,?_⟩
       intro K hK
       dsimp only
       (try simp only [e0,e6,e11])
       go_wp2_with (go_at_call 143;refine (HME _).mono ?_;rintro e w9 ⟨rfl,hb9⟩)
       exact acx (hK (.tuple #[.agg #[.int .i64 a2,.int .i64 s2],.bool bb]) w9 hb9 rfl) (by simp [e0,e6,e11])
      ·rintro v lo hi W hb ⟨⟨n0,n1⟩,nv,g0,g1,g2,g3⟩ hd
       have e12:v 12=.tuple #[.agg #[.int .i64 a2,.int .i64 s2],.bool bb]:=(hd 12 (Rdp (by kernel_rfl))).2.2
       clear hd
       refine ⟨rfl,?_⟩
       intro K hK
       dsimp only
       (try simp only [e12])
       go_wp2_with fail
       exact acx (hK (.tuple #[.agg #[.int .i64 a2,.int .i64 s2],.bool bb]) W (Below.refl _ _) rfl) (by simp [e12])
      ·rintro v lo hi W hb ⟨⟨n0,n1⟩,nv,g0,g1,g2,g3⟩ hd
       have e13:v 13=.tuple #[.agg #[.int .i64 a2,.int .i64 s2],.bool bb]:=(hd 13 (Rdp (by kernel_rfl))).2.2
       clear hd
       refine ⟨rfl,?_⟩
       intro K hK
       dsimp only
       (try simp only [e13])
       go_wp2_with fail
       exact acx (hK (.agg #[.int .i64 a2,.int .i64 s2]) W (Below.refl _ _) rfl) (by simp [e13])
      ·rintro v lo hi W hb ⟨⟨n0,n1⟩,nv,g0,g1,g2,g3⟩ hd
       have e13:v 13=.tuple #[.agg #[.int .i64 a2,.int .i64 s2],.bool bb]:=(hd 13 (Rdp (by kernel_rfl))).2.2
       clear hd
       refine ⟨rfl,?_⟩
       intro K hK
       dsimp only
       (try simp only [e13])
       go_wp2_with fail
       exact acx (hK (.bool bb) W (Below.refl _ _) rfl) (by simp [e13])
      ·rintro v lo hi W hb ⟨⟨n0,n1⟩,nv,g0,g1,g2,g3⟩ hd
       clear hd
       refine ⟨rfl,?_⟩
       intro K hK
       dsimp only
       go_wp2_with fail
       exact hK (.pointer (some ⟨W.heap.size,0,none⟩)) _ (Ea (Er _) _) ⟨rfl,by simp,Bxx.new _ _ _⟩
     case fin=>
      rintro v lo hi9 W2 hb ⟨⟨n0,n1⟩,nv,g0,g1,g2,g3⟩ hf hap
      show wpList _ _ _ [_,_] _ _
      obtain ⟨l16,-,h16,e16,lt16,hbox⟩:=hf 16 rfl
      have e14:v 14=.agg #[.int .i64 a2,.int .i64 s2]:=(hf 14 rfl).2.2.2
      have e15:v 15=.bool bb:=(hf 15 rfl).2.2.2
      clear hf hap
      dsimp only
      rw [e14,e15,e16]
      clear e14 e15 e16
      generalize lo 16=nb at *
      have b0:=hbox.cells 0
      have b1':=hbox.cells 1
      have HBO:=Lib.hid hbox
      have HBB:=Lib.hid hb
      clear n0 n1 nv g0 g1 g2 g3 hbox hb
      generalize v 0=y0
      generalize v 1=y1
      generalize v 2=y2
      generalize v 3=y3
      generalize v 4=y4
      generalize v 5=y5
      generalize v 6=y6
      generalize v 7=y7
      generalize v 8=y8
      generalize v 9=y9
      generalize v 10=y10
      generalize v 11=y11
      generalize v 12=y12
      generalize v 13=y13
      go_wp2_with fail
      exact ⟨set2all HBO.out,below_st2 HBB.out l16 _ _⟩
     case fin2=>
      rintro v lo hi9 W2 hb ⟨⟨n0,n1⟩,nv,g0,g1,g2,g3⟩ hf hap
      obtain ⟨l16,-,h16,e16,lt16,hbox⟩:=hf 16 rfl (by decide)
      have e14:v 14=.agg #[.int .i64 a2,.int .i64 s2]:=(hf 14 rfl (by decide)).2.2.2
      have e13:v 13=.tuple #[.agg #[.int .i64 a2,.int .i64 s2],.bool bb]:=(hf 13 rfl (by decide)).2.2.2
      clear hf hap
      dsimp only
      rw [e13,e14,e16]
      clear e13 e14 e16
      generalize lo 16=nb at *
      have b0:=hbox.cells 0
      have b1':=hbox.cells 1
      have HBO:=Lib.hid hbox
      have HBB:=Lib.hid hb
      clear n0 n1 nv g0 g1 g2 g3 hbox hb
      generalize v 0=y0
      generalize v 1=y1
      generalize v 2=y2
      generalize v 3=y3
      generalize v 4=y4
      generalize v 5=y5
      generalize v 6=y6
      generalize v 7=y7
      generalize v 8=y8
      generalize v 9=y9
      generalize v 10=y10
      generalize v 11=y11
      generalize v 12=y12
      generalize v 15=y15
      constructor
      ·show wpList _ _ _ [_,_,_] _ _
       go_wp2_with fail
       exact ⟨set2all HBO.out,below_st2 HBB.out l16 _ _⟩
      ·show wpList _ _ _ [_,_,_] _ _
       go_wp2_with fail
       exact ⟨set2all HBO.out,below_st2 HBB.out l16 _ _⟩
    case imp=>
     rintro e a' W6 ⟨rfl,⟨nb,z27,z28,z29,z30,z31,z32,z33,z34,z35,z36,z37,z38,z39,z40,z41,z42,rfl,hbox⟩,hb6⟩
     have HM6:=Lib.hid (HLS.out.ext hb6)
     have q2:=HM6.out.c2.c0
     have n0:=(hbox.cells 0).1
     have n1:=(hbox.cells 1).1
     have HB6:=Lib.hid hb6
     clear hb6 hbox
     cases bb
     ·go_wp2_with fail
      go_roundw
      case rel=>exact ⟨j+1,l',fb',by omega,by go_num,HM6,Lib.hid (HBX.out.below HB6.out),Lib.hid (HKE.out.trans (KeepF.below HB6.out) HSZ.out),Lib.hid (Nat.le_trans HSZ.out HB6.out.size),Lib.hid (HBE.out.congr fun x _=>by rw [HSUC.out];simp)⟩
      case measure=>simp [intOf];omega
     ·obtain ⟨t0,t1,t2⟩:=HM.out.bounds (by omega) p0 HD.out HFV.out.fac.dvd
      have T2:=Lib.hid t2
      clear t2
      have HIH:=IH.out (ii+1) a2 s2 l' fb' (lateS S xp ((L.map PV.p).drop (ii+1)) at_ step j) W6 (by have:=HHI.out;omega) t0 t1 T2.out HM6.out HBE.out
      rw [show ((ii+1:Nat):Int)=(ii:Int)+1 from by omega] at HIH
      go_wp2_with (go_at_call 142;go_loud (refine HIH.mono ?_;rintro e w7 ⟨l2,fb2,rfl,hs7,hk7,hz7,hbest7⟩;have HS7:=Lib.hid hs7;have HK7:=Lib.hid hk7;have HZ7:=Lib.hid hz7;have HBE7:=Lib.hid hbest7;clear hs7 hk7 hz7 hbest7 HIH))
      go_roundw
      case rel=>
       have hk67:KeepF (fun b=>b≠b4∧b≠b5) w w7:=(HKE.out.trans (KeepF.below HB6.out) HSZ.out).trans HK7.out (Nat.le_trans HSZ.out HB6.out.size)
       have hw4:=hB.h4
       have hw5:=hB.h5
       have hbwz:=HBX.out.lt
       have hs6:=HB6.out.size
       refine ⟨j+1,l2,fb2,by omega,by go_num,HS7,Lib.hid ?_,Lib.hid hk67,Lib.hid (Nat.le_trans (Nat.le_trans HSZ.out HB6.out.size) HZ7.out),Lib.hid (HBE7.out.congr fun x _=>by rw [HSUC.out];simp)⟩
       exact (HK7.out bw ⟨HN.out.1,HN.out.2⟩ (by omega)).trans (HBX.out.below HB6.out)
      case measure=>simp [intOf];omega
   ·obtain rfl:j=xp.cycle.length:=by omega
    go_wp2_with fail
    refine ⟨rfl,.tuple #[],by simp [results,Tryz.results142,go_sem],l',fb',rfl,HLS.out,HKE.out,HSZ.out,?_⟩
    refine HBE.out.congr fun x hx=>?_
    rw [lateS_all,HDR.out]
end Go.Proofs.YthjnojbeimchdaaGreat
namespace Go.Proofs.YthjnojbeimchdaaGreat
open Go.RowKit Go.Maps Kal
set_option maxRecDepth 100000 in
set_option maxHeartbeats 2000000 in
theorem late_any (s:Int) (F:Nat→Prop) (v:Value) (t:List Per) (f:Int) (w:World) (ht:TermR w F v t) (hv:∀ p∈t,FV s p) (f0:0≤f) (f1:f≤1152921504606846976) :
  Calls Tryz.prog 102 #[v,.int .i64 f] w fun e w'=>∃ n b,e=.returned (.tuple #[.int .i64 n,.bool b])∧NextF FarI (tmem t) (max f (startT t)) n b∧Below w.heap.size w w':=by
 have HST:=fun W (h:Below w.heap.size w W)=>start_any F v t W (ht.ext h)
 obtain ⟨L,rfl,hL⟩:=ht
 obtain ⟨a1,c1,rfl,hx1,hx2,_⟩:=hL.row.is
 have hs0:=(startT_ge (t:=L.map PV.p)).1
 have hs1:startT (L.map PV.p)≤1099511627776:=startF_le (by decide) fun p hp=>(hv p hp).far
 have HLN:=Lib.hid (fun l b (h:BestL FarI (fun x=>False∨ClsS (L.map PV.p) 0 1 x) (max f (startT (L.map PV.p))) l b)=>late_next (F:=FarI) (fun p hp=>(hv p hp).fac.wf) (show startT (L.map PV.p)≤max f (startT (L.map PV.p)) by omega) h)
 have HCH:=Lib.hid (fun w0 b1 b2 b3 b4 b5 hB hLL f f0 f1=>lchoose_any s w0 b1 b2 b3 b4 b5 hB (.slice a1 L.length c1) L hLL hv f f0 f1)
 have hl1:=hL.len
 have HTL:=Lib.hid (hL.lt.mono fun b hb=>hb.2)
 clear hL hv
 generalize startT (L.map PV.p)=st at *
 go_enter Tryz.func102,Tryz.ntmps102
 go_wp2_with fail
 refine Code.wp_mono (Q:=fun e a' W'=>e=.normal∧(∃ z9 z10 z11 z12:Value,a'=⟨#[.slice a1 L.length c1,.int .i64 f,.pointer (some ⟨w.heap.size,0,none⟩),.pointer (some ⟨w.heap.size+1,0,none⟩),.int .i64 0,.bool false,undef,undef,undef,z9,z10,z11,z12,undef,undef,undef,undef,undef,undef,undef],[]⟩)∧Bxx W' w.heap.size #[.slice a1 L.length c1] 36∧Bxx W' (w.heap.size+1) #[.int .i64 (max f st)] 3∧Below w.heap.size w W') ?imp ?reg
 case reg=>
  have HB0:Hid (Bxx ((w.alloc (.cells #[.slice a1 L.length c1] 36)).alloc (.cells #[.int .i64 f] 3)) w.heap.size #[.slice a1 L.length c1] 36):=Lib.hid ((Bxx.new w _ _).alloc _)
  have HB1:Hid (Bxx ((w.alloc (.cells #[.slice a1 L.length c1] 36)).alloc (.cells #[.int .i64 f] 3)) (w.heap.size+1) #[.int .i64 f] 3):=Lib.hid (Bxx.at (by simp))
  have key:f<st∨st≤f:=Int.lt_or_le f st
  rcases key with hlt|hgt
  all_goals
   go_region_with (go_at_call 141;go_loud (refine (HST _ xE).mono ?_;rintro e w1 ⟨rfl,hb1⟩;have b0:Bxx w1 w.heap.size #[.slice a1 L.length c1] 36:=HB0.out.drewB.below hb1;have b1:Bxx w1 (w.heap.size+1) #[.int .i64 f] 3:=HB1.out.drewB.below hb1;have x0:=b0.c0;have x1:=b1.cells 0;have hW1:Below w.heap.size w w1:=Et (Ed (Ea (Ea (Er w) _) _)) hb1))
   all_goals exact ⟨rfl,⟨_,_,_,_,rfl⟩,b0.setNe _ (by omega),heap_set_at 0 _ b1,hW1.setCell (p:=⟨w.heap.size+1,0,none⟩) (by show w.heap.size≤w.heap.size+1;omega) _⟩
 case imp=>
  rintro e a' W2 ⟨rfl,⟨z9,z10,z11,z12,rfl⟩,h0,h1,h2⟩
  have hl1':=h1.lt
  have hLB:LB w w.heap.size (W2.heap.size+1+1) (w.heap.size+1) W2.heap.size (W2.heap.size+1):=⟨by omega,by omega,by omega,by omega,by omega,by omega,by omega,by omega,by omega⟩
  go_wp2_with (go_at_call 142;go_loud (refine (HCH.out w w.heap.size (W2.heap.size+1+1) (w.heap.size+1) W2.heap.size (W2.heap.size+1) hLB HTL.out (max f st) (by omega) (by omega) L.length 0 0 1 1152921504606846976 false (fun _=>False) _ (by omega) (by omega) (by omega) ⟨27720,by decide⟩ ⟨Ea (Ea (Ea h2 _) _) _,((h0.alloc _).alloc _).alloc _,xB,((h1.alloc _).alloc _).alloc _,xB,by exact xB⟩ BestL.start).mono ?_;rintro e w7 ⟨l,fb,rfl,hs,-,hz,hbest⟩;have q4:=hs.c4.c0;have q5:=hs.c5.c0;have HN:=Lib.hid (HLN.out l fb hbest);have hbel:=hs.below;cases fb))
  ·go_ret2
   exact ⟨_,_,rfl,HN.out,hbel⟩
  ·go_ret2
   exact ⟨_,_,rfl,HN.out,hbel⟩
end Go.Proofs.YthjnojbeimchdaaGreat
namespace Go.Proofs.YthjnojbeimchdaaGreat
open Go.RowKit Go.Shelf Go.Maps Kal
attribute [local go_sem] Oper.semAt_some
structure LZ (B:Nat) (w:World) (f n:Int) (b:Bool) (W:World):Prop where
 below:Below B w W
 c3:Bxx W B #[.int .i64 f] 3
 c6:Bxx W (B+1) #[.int .i64 n] 3
 c7:Bxx W (B+1+1) #[.bool b] 4
theorem LZ.grow {B:Nat} {w:World} {f n:Int} {b:Bool} {W W':World} {row:Option Nat} (h:LZ B w f n b W) (hB:B≤w.heap.size) (hg:W.grownBy W' row) (hr:∀ r,row=some r→B≤r∧∃ o:Obj,W.heap[r]? = some o∧o.isCells=false):LZ B w f n b W':=by
 have key:∀ {b:Nat} {c:Array Value} {t:TypeId},Bxx W b c t→Bxx W' b c t:=fun {b c t} hx=>by
  refine (hg.block b hx.lt fun e=>?_).trans hx
  obtain ⟨_,o,ho,hc⟩:=hr b e.symm
  rw [show W.heap[b]? = _ from hx] at ho;cases ho;cases hc
 exact ⟨h.below.grown hg (Nat.le_trans hB h.below.size) (fun k e=>(hr k e).1),key h.c3,key h.c6,key h.c7⟩
theorem LZ.ext {B:Nat} {w:World} {f n:Int} {b:Bool} {W W':World} (h:LZ B w f n b W) (hB:B≤w.heap.size) (hb:Below W.heap.size W W'):LZ B w f n b W':=
 ⟨h.below.trans (hb.mono (Nat.le_trans hB h.below.size)),h.c3.below hb,h.c6.below hb,h.c7.below hb⟩
theorem LZ.put {B:Nat} {w:World} {f n n':Int} {b:Bool} {W:World} (h:LZ B w f n b W):LZ B w f n' true ((W.setCell ⟨B+1,0,none⟩ (.int .i64 n')).setCell ⟨B+1+1,0,none⟩ (.bool true)):=
 ⟨(h.below.setCell (p:=⟨B+1,0,none⟩) (Nat.le_succ _) _).setCell (p:=⟨B+1+1,0,none⟩) (by show B≤B+1+1;omega) _,Bxx.setNe (h.c3.setNe _ (by omega)) _ (by omega),Bxx.setNe (heap_set_at 0 _ h.c6) _ (by omega),heap_set_at 0 _ (h.c7.setNe _ (by omega))⟩
theorem nx_put {F f n m:Int} {S T:Int→Prop} {b:Bool} (h:NextF F S f n b) (g:NextF F T f m true) (hc:b=false∨m<n):NextF F (fun x=>S x∨T x) f m true:=by
 have:=least_step h g
 rw [if_pos ⟨rfl,hc⟩,Bool.or_true] at this;exact this
theorem nx_pass {F f n m:Int} {S T:Int→Prop} {b c:Bool} (h:NextF F S f n b) (g:NextF F T f m c) (hc:c=false∨(b=true∧¬ m<n)):NextF F (fun x=>S x∨T x) f n b:=by
 have:=least_step h g
 rcases hc with rfl|⟨rfl,hc⟩
 ·rw [if_neg (fun e=>by cases e.1),Bool.or_false] at this;exact this
 ·rw [if_neg (fun e=>by rcases e.2 with e|e;cases e;exact hc e)] at this;exact this
theorem nx_snoc {F f n:Int} {L:List (List Per)} {t:List Per} {b:Bool} (h:NextF F (fun x=>mmem L x∨tmem t x) f n b):NextF F (mmem (L ++ [t])) f n b:=h.congr fun x _ _=>mmem_snoc
theorem leaf_pass {w W0 W' W1:World} {f n d:Int} {b c:Bool} {pre:List (Value × List Per)} {y:Value × List Per} {a:Act} (hw:w.heap.size≤W'.heap.size) (hl:LZ w.heap.size w f n b W') (h:NextF FarI (mmem (pre.map Prod.snd)) f n b) (hb:Below W'.heap.size W' W1) (g:NextF FarI (tmem y.2) f d c) (hc:c=false∨(b=true∧¬ d<n)) :
  postY W0.heap.size (KpB fun k=>k<w.heap.size) (fun W'=>∃ n b,NextF FarI (mmem ((pre ++ [y]).map Prod.snd)) f n b∧LZ w.heap.size w f n b W') W' .normal a W1:=
 ⟨(KeepsOthers.of_below hb).from _,fun k hk=>hb.block k (by omega),n,b,by rw [List.map_append];exact nx_snoc (nx_pass h g hc),hl.ext (Nat.le_refl _) hb⟩
theorem leaf_put {w W0 W' W1:World} {f n d:Int} {b:Bool} {pre:List (Value × List Per)} {y:Value × List Per} {a:Act} (hw:w.heap.size≤W'.heap.size) (hl:LZ w.heap.size w f n b W') (h:NextF FarI (mmem (pre.map Prod.snd)) f n b) (hb:Below W'.heap.size W' W1) (g:NextF FarI (tmem y.2) f d true) (hc:b=false∨d<n) :
  postY W0.heap.size (KpB fun k=>k<w.heap.size) (fun W'=>∃ n b,NextF FarI (mmem ((pre ++ [y]).map Prod.snd)) f n b∧LZ w.heap.size w f n b W') W' .normal a ((W1.setCell ⟨w.heap.size+1,0,none⟩ (.int .i64 d)).setCell ⟨w.heap.size+1+1,0,none⟩ (.bool true)):=
 ⟨(((KeepsOthers.of_below hb).trans (KeepsOthers.setCell W1 _ _)).trans (KeepsOthers.setCell _ _ _)).from _,fun k hk=>((Below.heap_setCell _ ⟨w.heap.size+1+1,0,none⟩ _ k (by show k≠w.heap.size+1+1;omega)).trans (Below.heap_setCell _ ⟨w.heap.size+1,0,none⟩ _ k (by show k≠w.heap.size+1;omega))).trans (hb.block k (by omega)),d,true,by rw [List.map_append];exact nx_snoc (nx_put h g hc),(hl.ext (Nat.le_refl _) hb).put⟩
set_option maxRecDepth 100000 in
set_option maxHeartbeats 4000000 in
theorem least_any (s:Int) (g:Nat) (lb:Array Value) (T:List (List Per)) (f:Int) (w:World) (hit:IterT g lb T w) (hT:∀ t∈T,VTerm s t) (f0:0≤f) (f1:f≤9223372036854775807) :
  Calls Tryz.prog 60 #[.func (.func g) #[] lb,.int .i64 f] w fun e w'=>∃ n b,e=.returned (.tuple #[.int .i64 n,.bool b])∧NextF FarI (mmem T) f n b∧Below w.heap.size w w':=by
 refine callsIn_wide (n:=0).1 ?_
 refine callsIn_of_wp_marks Tryz.func60 rfl trivial ?_ rfl
 simp only [Tryz.ntmps60,List.size_toArray,List.length_cons,List.length_nil,Nat.reduceAdd,Nat.reduceSub,Array.replicate_succ,Array.replicate_zero,List.push_toArray,List.append_toArray,List.nil_append,List.cons_append]
 gi_wp2_with fail
 generalize hW0:((w.alloc _).alloc _).alloc _=W0
 have hE:Below w.heap.size w W0:=by rw [← hW0];exact xE
 have hsz:W0.heap.size=w.heap.size+3:=by rw [← hW0];simp
 have hb3:Bxx W0 w.heap.size #[.int .i64 f] 3:=by rw [← hW0];exact ((Bxx.at rfl).alloc _).alloc _
 have hb6:Bxx W0 (w.heap.size+1) #[.int .i64 0] 3:=by rw [← hW0];exact (Bxx.at (by simp)).alloc _
 have hb7:Bxx W0 (w.heap.size+1+1) #[.bool false] 4:=by rw [← hW0];exact Bxx.at (by simp)
 have HIT:=Lib.hid hit
 have HST:Hid (LZ w.heap.size w f 0 false W0):=Lib.hid ⟨hE,hb3,hb6,hb7⟩
 have HT:=Lib.hid hT
 clear hW0 hb3 hb6 hb7 hit hT
 refine wpIn_rangeY (α:=Value × List Per) (x:=none) (gf:=g) (lb:=lb) rfl HIT.out.1 (HIT.out.2 W0 hE) (fun h k=>h.trans k) (KpB.putObj (by intro k hk;omega)) (fun y=>rfl)
  (fun pre W'=>∃ n b,NextF FarI (mmem (pre.map Prod.snd)) f n b∧LZ w.heap.size w f n b W')
  (by
   rintro pre A C row ⟨n,b,h1,h2⟩ hg hr
   refine ⟨n,b,h1,h2.grow (Nat.le_refl _) hg fun r e=>?_⟩
   rcases hr r e with ⟨h,_⟩|⟨h,h'⟩
   ·cases h
   ·exact ⟨by omega,h'⟩)
  EyT.put (by exact ⟨0,false,nextF_nil,HST.out⟩)
  (fun y=>⟨#[.func (Fn.func g) #[] lb,.int .i64 f,undef,.pointer (some ⟨w.heap.size,0,none⟩),.int .i64 0,.bool false,.pointer (some ⟨w.heap.size+1,0,none⟩),.pointer (some ⟨w.heap.size+1+1,0,none⟩),y.1,undef,undef,.func (Fn.func g) #[] lb,y.1,undef,undef,undef,undef,undef,undef,undef,undef,undef,undef,undef,undef,undef,undef,undef,undef,undef,undef,undef,undef,undef,undef,undef,undef,undef,undef,undef,undef,undef,undef,undef,undef,undef,undef,undef],[]⟩) ?assign ?body ?done
 case assign=>
  intro l y W' K hK
  unfold tenc
  gi_wp2
  exact hK
 case body=>
  rintro l pre y W' ⟨n,b,hN,hLI⟩ ⟨⟨r,hTr⟩,F,hyt⟩
  obtain ⟨yv,yt⟩:=y
  dsimp only at hTr hyt
  have hvt:=HT.out yt (by rw [hTr];simp)
  obtain ⟨ya,yc,rfl,_⟩:=hyt.form
  have hTV:TV yt:=fun p hp=>(hvt.fv p hp).validB
  have hwf:∀ p∈yt,p.WF:=fun p hp=>(hvt.fv p hp).fac.wf
  have hs1:startT yt≤FarI:=startF_le (by decide) fun p hp=>Int.le_trans (hvt.fv p hp).far (by decide)
  have HTM:=Lib.hid (fun d ok h=>term_next hvt.ne hwf hs1 (earlyIs_of (f:=f) (n:=d) (b:=ok) hvt.ne hwf h))
  have HEA:=Lib.hid (fun W (h:Below W'.heap.size W' W)=>early_any F _ yt f W (hyt.ext h) hTV ⟨by omega,by omega⟩)
  have HRE:=Lib.hid (fun W (h:Below W'.heap.size W' W)=>recurs_any F _ yt W (hyt.ext h) hTV)
  have HLA:=Lib.hid (fun W (h:Below W'.heap.size W' W) (h1:f≤1152921504606846976)=>late_any s F _ yt f W (hyt.ext h) hvt.fv f0 h1)
  have q3:=hLI.c3.c0
  have hwz:=hLI.c7.lt
  have HLI:=Lib.hid hLI
  have HN:=Lib.hid hN
  clear hN hLI hTr hyt hvt hTV hwf hs1
  have hwz2:w.heap.size≤W'.heap.size:=by omega
  generalize hQ9:postY W0.heap.size _ _ W'=Q9
  have HQ9:=Lib.hid hQ9
  clear hQ9
  by_cases hff:f≤1152921504606846976
  all_goals
   (try have HFF:Hid (FarI<f):=Lib.hid (Int.not_le.1 hff))
   cases b
   ·
    gi_wp2_with (first
     | (refine ⟨trivial,rfl,?_⟩;gi_at_call 101;refine (CallsIn.inRound l (callsIn_wide.2 (HEA.out W' (Er _)))).mono ?_;rintro e w1 ⟨d,ok,rfl,hbe,hb1⟩;have HB1:=Lib.hid hb1;have HBW:=Lib.hid hb1;have hL1:=HLI.out.ext (Nat.le_refl _) hb1;have r3:=hL1.c3.c0;have r6:=hL1.c6.cells 0;have r7:=hL1.c7.cells 0;have HTN:=Lib.hid (HTM.out d ok hbe);clear hb1 hL1 hbe;cases ok;rotate_left;(have HNX:=Lib.hid (HTN.out.1 (by simp)));rotate_left)
     | (refine ⟨trivial,rfl,?_⟩;gi_at_call 76;refine (CallsIn.inRound l (callsIn_wide.2 (HRE.out _ HB1.out))).mono ?_;rintro e w2 ⟨b2,rfl,hrec,hb2⟩;have HB2:=Lib.hid hb2;have HBW:=Lib.hid (Et HB1.out hb2);have hL2:=HLI.out.ext (Nat.le_refl _) (Et HB1.out hb2);have s3:=hL2.c3.c0;have s6:=hL2.c6.cells 0;have s7:=hL2.c7.cells 0;have HNR:=Lib.hid (show b2=false→¬ recT yt from fun h0 h=>by have h1:=hrec.2 h;rw [h0] at h1;cases h1);clear hb2 hL2 hrec;cases b2)
     | (refine ⟨trivial,rfl,?_⟩;gi_at_call 102;go_loud (refine (CallsIn.inRound l (callsIn_wide.2 (HLA.out _ (Et HB1.out HB2.out) (by assumption)))).mono ?_);rintro e w3 ⟨m3,c3,rfl,hnx,hb3⟩;have HBW:=Lib.hid (Et (Et HB1.out HB2.out) hb3);have hL3:=HLI.out.ext (Nat.le_refl _) (Et (Et HB1.out HB2.out) hb3);have u3:=hL3.c3.c0;have u6:=hL3.c6.cells 0;have u7:=hL3.c7.cells 0;have HNX:=Lib.hid (HTN.out.2.2 (by simp) m3 c3 hnx);clear hb3 hL3 hnx;cases c3)
     | (refine ⟨trivial,?_⟩;apply_assumption))
    all_goals rw [← HQ9.out]
    all_goals first
     | exact leaf_pass (y:=(.slice ya yt.length yc,yt)) hwz2 HLI.out HN.out HBW.out HNX.out (.inl rfl)
     | exact leaf_put (y:=(.slice ya yt.length yc,yt)) hwz2 HLI.out HN.out HBW.out HNX.out (.inl rfl)
     | exact leaf_pass (y:=(.slice ya yt.length yc,yt)) hwz2 HLI.out HN.out HBW.out HNX.out (.inr ⟨rfl,Int.not_lt.2 (by assumption)⟩)
     | exact leaf_put (y:=(.slice ya yt.length yc,yt)) hwz2 HLI.out HN.out HBW.out HNX.out (.inr (by assumption))
     | exact leaf_pass (y:=(.slice ya yt.length yc,yt)) hwz2 HLI.out HN.out HBW.out (HTN.out.2.1 (by simp) (.inr (HNR.out (by simp)))) (.inl rfl)
     | exact leaf_pass (y:=(.slice ya yt.length yc,yt)) hwz2 HLI.out HN.out HBW.out (HTN.out.2.1 (by simp) (.inl HFF.out)) (.inl rfl)
   ·
    gi_wp2_with (first
     | (refine ⟨trivial,rfl,?_⟩;gi_at_call 101;refine (CallsIn.inRound l (callsIn_wide.2 (HEA.out W' (Er _)))).mono ?_;rintro e w1 ⟨d,ok,rfl,hbe,hb1⟩;have HB1:=Lib.hid hb1;have HBW:=Lib.hid hb1;have hL1:=HLI.out.ext (Nat.le_refl _) hb1;have r3:=hL1.c3.c0;have r6:=hL1.c6.cells 0;have r7:=hL1.c7.cells 0;have HTN:=Lib.hid (HTM.out d ok hbe);clear hb1 hL1 hbe;cases ok;rotate_left;(have HNX:=Lib.hid (HTN.out.1 (by simp)));rotate_left)
     | (refine ⟨trivial,rfl,?_⟩;gi_at_call 76;refine (CallsIn.inRound l (callsIn_wide.2 (HRE.out _ HB1.out))).mono ?_;rintro e w2 ⟨b2,rfl,hrec,hb2⟩;have HB2:=Lib.hid hb2;have HBW:=Lib.hid (Et HB1.out hb2);have hL2:=HLI.out.ext (Nat.le_refl _) (Et HB1.out hb2);have s3:=hL2.c3.c0;have s6:=hL2.c6.cells 0;have s7:=hL2.c7.cells 0;have HNR:=Lib.hid (show b2=false→¬ recT yt from fun h0 h=>by have h1:=hrec.2 h;rw [h0] at h1;cases h1);clear hb2 hL2 hrec;cases b2)
     | (refine ⟨trivial,rfl,?_⟩;gi_at_call 102;go_loud (refine (CallsIn.inRound l (callsIn_wide.2 (HLA.out _ (Et HB1.out HB2.out) (by assumption)))).mono ?_);rintro e w3 ⟨m3,c3,rfl,hnx,hb3⟩;have HBW:=Lib.hid (Et (Et HB1.out HB2.out) hb3);have hL3:=HLI.out.ext (Nat.le_refl _) (Et (Et HB1.out HB2.out) hb3);have u3:=hL3.c3.c0;have u6:=hL3.c6.cells 0;have u7:=hL3.c7.cells 0;have HNX:=Lib.hid (HTN.out.2.2 (by simp) m3 c3 hnx);clear hb3 hL3 hnx;cases c3)
     | (refine ⟨trivial,?_⟩;apply_assumption))
    all_goals rw [← HQ9.out]
    all_goals first
     | exact leaf_pass (y:=(.slice ya yt.length yc,yt)) hwz2 HLI.out HN.out HBW.out HNX.out (.inl rfl)
     | exact leaf_put (y:=(.slice ya yt.length yc,yt)) hwz2 HLI.out HN.out HBW.out HNX.out (.inl rfl)
     | exact leaf_pass (y:=(.slice ya yt.length yc,yt)) hwz2 HLI.out HN.out HBW.out HNX.out (.inr ⟨rfl,Int.not_lt.2 (by assumption)⟩)
     | exact leaf_put (y:=(.slice ya yt.length yc,yt)) hwz2 HLI.out HN.out HBW.out HNX.out (.inr (by assumption))
     | exact leaf_pass (y:=(.slice ya yt.length yc,yt)) hwz2 HLI.out HN.out HBW.out (HTN.out.2.1 (by simp) (.inr (HNR.out (by simp)))) (.inl rfl)
     | exact leaf_pass (y:=(.slice ya yt.length yc,yt)) hwz2 HLI.out HN.out HBW.out (HTN.out.2.1 (by simp) (.inl HFF.out)) (.inl rfl)
 case done=>
  rintro D xs W' hD hfin ⟨n,b,hN,hLI⟩ hdef
  rw [show xs.map Prod.snd=T from hfin] at hN
  have q6:=hLI.c6.c0
  have q7:=hLI.c7.c0
  have hM:MarksX w.heap.size [{ target:=.collected D,args:=#[] }] W':=marks_one (by omega) hdef
  have HM:=Lib.hid hM
  have HN:=Lib.hid hN
  have HLI:=Lib.hid hLI
  clear hfin hN hLI hdef hM
  gi_wp2_with fail
  refine wpIn_wide.2 ?_
  go_quiet (fail)
  go_wp2_with fail
  gi_wp2_with fail
  refine leaves_marks (B:=w.heap.size) _ _ HM.out fun w' hs=>⟨.tuple #[.int .i64 n,.bool b],by simp [results,Tryz.results60,go_sem],n,b,rfl,HN.out,(En HLI.out.below _).trans hs.below⟩
end Go.Proofs.YthjnojbeimchdaaGreat
namespace Go.Proofs.YthjnojbeimchdaaGreat
open Go.RowKit Go.Maps Kal
def MNextRes (S:Int→Prop) (f:Int) (w:World) (e:Ending) (w':World):Prop:=∃ n b,e=.returned (.tuple #[.int .i64 n,.bool b])∧NextF FarI S f n b∧Below w.heap.size w w'
set_option maxRecDepth 100000 in
set_option maxHeartbeats 2000000 in
theorem mnext_any (s:Int) (F:Nat→Prop) (v:Value) (m:List (List Per)) (f:Int) (w:World) (h1:MixR w F v m) (k1:MV s m) (hf:InI f) :
  Calls Tryz.prog 16 #[.agg #[v],.int .i64 f] w (MNextRes (mmem m) (max f 0) w):=by
 have HV1:=fun W (h:Below w.heap.size w W)=>mvalid_any F v m W (h1.ext h)
 rw [k1.val] at HV1
 obtain ⟨a1,c1,rfl⟩:=h1.form
 have HLE:=Lib.hid (fun W (h:Below w.heap.size w W) b1 hb1=>least_any s _ _ m (max f 0) W (values_seq F (.slice a1 m.length c1) m b1 W (h1.ext h) hb1) k1.vt (by omega) (by have:=hf.2;omega))
 clear h1 k1
 have key:f<0∨0≤f:=Int.lt_or_le f 0
 rcases key with hf0|hf0
 all_goals
  go_enter Tryz.func16,Tryz.ntmps16
  go_wp2_with (first|(go_at_call 18;refine (HV1 _ (Ea (Er w) _)).mono ?_;rintro e w1 ⟨rfl,hb1⟩;have b0:Bxx w1 w.heap.size #[.slice a1 m.length c1] 28:=Bxx.below xB hb1;have x0:=b0.c0;have hW1:Below w.heap.size w w1:=Et (Ea (Er w) _) hb1)|(go_at_call 61;refine (values_any _ _ ⟨_,_,_,rfl⟩).mono ?_;rintro e w4 ⟨rfl,rfl⟩)|(go_at_call 60;go_loud ((with_reducible refine (HLE.out _ (Ea hW1 _) w1.heap.size (Bxx.new w1 #[.slice a1 m.length c1] 26).c0).mono ?_);rintro e w5 ⟨n,b,rfl,hn,hb5⟩)))
  go_ret2
  exact ⟨n,b,rfl,hn,Et (Ea hW1 _) hb5⟩
set_option maxRecDepth 100000 in
set_option maxHeartbeats 2000000 in
theorem mfirst_any (s:Int) (F1 F2:Nat→Prop) (v1 v2:Value) (m1 m2:List (List Per)) (f:Int) (w:World) (h1:MixR w F1 v1 m1) (h2:MixR w F2 v2 m2) (k1:MV s m1) (k2:MV s m2) (hf:InI f) :
  Calls Tryz.prog 27 #[.agg #[v1],.agg #[v2],.int .i64 f] w (MNextRes (mmem (pairsL m1 m2)) (max f 0) w):=by
 have HV1:=fun W (h:Below w.heap.size w W)=>mvalid_any F1 v1 m1 W (h1.ext h)
 have HV2:=fun W (h:Below w.heap.size w W)=>mvalid_any F2 v2 m2 W (h2.ext h)
 rw [k1.val] at HV1
 rw [k2.val] at HV2
 have hVT:∀ t∈pairsL m1 m2,VTerm s t:=fun t ht=>by
  obtain ⟨x,hx,y,hy,rfl⟩:=mem_pairsL.1 ht
  refine ⟨fun e=>(k1.vt x hx).ne (List.append_eq_nil_iff.1 e).1,fun p hp=>(List.mem_append.1 hp).elim ((k1.vt x hx).fv p) ((k2.vt y hy).fv p),?_⟩
  rw [List.length_append];have:=k1.tlen x hx;have:=k2.tlen y hy;omega
 have HLE:=Lib.hid (fun W (h:Below w.heap.size w W) b1 b2 hb1 hb2=>least_any s _ _ (pairsL m1 m2) (max f 0) W (pairs_seq F1 F2 v1 v2 m1 m2 b1 b2 W (h1.ext h) (h2.ext h) hb1 hb2 (fun t ht=>by have:=k1.tlen t ht;omega) (fun t ht=>by have:=k2.tlen t ht;omega)) hVT (by omega) (by have:=hf.2;omega))
 obtain ⟨a1,c1,rfl⟩:=h1.form
 obtain ⟨a2,c2,rfl⟩:=h2.form
 clear h1 h2 k1 k2 hVT
 have key:f<0∨0≤f:=Int.lt_or_le f 0
 rcases key with hf0|hf0
 all_goals
  go_enter Tryz.func27,Tryz.ntmps27
  go_wp2_with (first|(go_at_call 18;first
    | ((with_reducible refine (HV1 _ (Ea (Ea (Er w) _) _)).mono ?_);rintro e w1 ⟨rfl,hb1⟩;have b0:Bxx w1 w.heap.size #[.slice a1 m1.length c1] 28:=Bxx.below xB hb1;have b1:Bxx w1 (w.heap.size+1) #[.slice a2 m2.length c2] 28:=Bxx.below xB hb1;have x0:=b0.c0;have x1:=b1.c0;have hW1:Below w.heap.size w w1:=Et (Ea (Ea (Er w) _) _) hb1)
    | ((with_reducible refine (HV2 _ hW1).mono ?_);rintro e w2 ⟨rfl,hb2⟩;have d0:=b0.below hb2;have d1:=b1.below hb2;have y0:=d0.c0;have y1:=d1.c0;have hW2:Below w.heap.size w w2:=Et hW1 hb2))|(go_at_call 70;refine (pairs_any _ _ _ ⟨_,_,_,rfl⟩ ⟨_,_,_,rfl⟩).mono ?_;rintro e w4 ⟨rfl,rfl⟩)|(go_at_call 60;go_loud ((with_reducible refine (HLE.out _ (Ea (Ea hW2 _) _) w2.heap.size (w2.heap.size+1) ((Bxx.new w2 #[.slice a1 m1.length c1] 28).alloc (.cells #[.slice a2 m2.length c2] 28)).c0 (Bxx.at (w:=w2.alloc (.cells #[.slice a1 m1.length c1] 28)) (c:=#[.slice a2 m2.length c2]) (t:=28) (by simp)).c0).mono ?_);rintro e w5 ⟨n,b,rfl,hn,hb5⟩)))
  go_ret2
  exact ⟨n,b,rfl,hn,Et (Ea (Ea hW2 _) _) hb5⟩
def ApartRes (m1 m2:List (List Per)) (w:World) (e:Ending) (w':World):Prop:=
 ∃ (r:Option (List (List Per) × List (List Per))),BothTo m1 m2 r∧Below w.heap.size w w'∧
  ((∃ mk nk n b,r=some (mk,nk)∧NextF FarI (mmem (mk ++ nk)) 0 n b∧e=.returned (.tuple #[.int .i64 n,.bool b,.int .i64 0]))∨(r=none∧e=.returned (.tuple #[.int .i64 0,.bool false,.int .i64 2])))
theorem vt_append {s:Int} {a b:List (List Per)} (h1:∀ t∈a,VTerm s t) (h2:∀ t∈b,VTerm s t):∀ t∈a ++ b,VTerm s t:=fun t ht=>(List.mem_append.1 ht).elim (h1 t) (h2 t)
set_option maxRecDepth 100000 in
set_option maxHeartbeats 2000000 in
theorem mapart_any (s:Int) (F1 F2:Nat→Prop) (v1 v2:Value) (m1 m2:List (List Per)) (w:World) (h1:MixR w F1 v1 m1) (h2:MixR w F2 v2 m2) (k1:MV s m1) (k2:MV s m2) :
  Calls Tryz.prog 38 #[.agg #[v1],.agg #[v2]] w (ApartRes m1 m2 w):=by
 have HM:=fun W (h:Below w.heap.size w W)=>mboth_any s F1 F2 v1 v2 m1 m2 W (h1.ext h) (h2.ext h) k1 k2
 obtain ⟨a1,c1,rfl⟩:=h1.form
 obtain ⟨a2,c2,rfl⟩:=h2.form
 clear h1 h2 k1 k2
 go_enter Tryz.func38,Tryz.ntmps38
 go_wp2_with (first|(go_at_call 82;go_loud (refine (HM _ (Ea (Ea (Er w) _) _)).mono ?_;rintro e w1 hres;obtain ⟨a,n,c,a',n',c',k,rfl,hb1,hst⟩:=hres;have hW1:Below w.heap.size w w1:=Et (Ea (Ea (Er w) _) _) hb1;have HW1:=Lib.hid hW1;have HST:=Lib.hid hst;clear hW1 hst hb1;rcases HST.out with ⟨rfl,mk,nk,hM,hN,hmv,hnv,hmr,hnr⟩|⟨rfl,hF⟩))|(go_at_call 69;go_loud (refine (concat_mix _ _ (w1.heap.size+1+1) 2 (.slice a n c) (.slice a' n' c') mk nk _ (fun i=>((Bxx.at (w:=(w1.alloc (.cells #[.slice a n c] 28)).alloc (.cells #[.slice a' n' c'] 28)) (b:=w1.heap.size+1+1) (c:=#[.slice a n c,.slice a' n' c']) (t:=26) (by simp)).cells i).1) (hmr.ext (Ea (Ea (Ea (Er w1) _) _) _)) (hnr.ext (Ea (Ea (Ea (Er w1) _) _) _)) (by have:=hmv.len;have:=hnv.len;omega) (by omega) (by omega)).mono ?_;rintro e w2 ⟨v,rfl,hcm,hb2⟩;have hvt9:=vt_append hmv.vt hnv.vt;generalize hL9:mk ++ nk=L9 at hcm hvt9;have HL9:=Lib.hid hL9;clear hL9;obtain ⟨ya,yc,rfl⟩:=hcm.form;have hW2:Below w.heap.size w w2:=Et (Ea (Ea (Ea HW1.out _) _) _) hb2))|(go_at_call 61;refine (values_any _ _ ⟨_,_,_,rfl⟩).mono ?_;rintro e w4 ⟨rfl,rfl⟩)|(go_at_call 60;go_loud (refine (least_any s _ _ L9 0 _ (values_seq (fun _=>True) (.slice ya L9.length yc) L9 w2.heap.size (w2.alloc (.cells #[.slice ya L9.length yc] 26)) (hcm.ext (Ea (Er w2) _)) (Bxx.new w2 #[.slice ya L9.length yc] 26).c0) hvt9 (by omega) (by omega)).mono ?_;rintro e w5 ⟨n9,b9,rfl,hn,hb5⟩)))
 ·exact bodyPost_ret (v:=.tuple #[.int .i64 n9,.bool b9,.int .i64 0]) (by simp [results,Tryz.results38,go_sem]) rfl ⟨some (mk,nk),⟨hM,hN⟩,Et (Ea hW2 _) hb5,.inl ⟨mk,nk,n9,b9,rfl,by rw [HL9.out];exact hn,rfl⟩⟩
 ·exact bodyPost_ret (v:=.tuple #[.int .i64 0,.bool false,.int .i64 2]) (by simp [results,Tryz.results38,go_sem]) rfl ⟨none,hF,Ea (Ea HW1.out _) _,.inr ⟨rfl,rfl⟩⟩
end Go.Proofs.YthjnojbeimchdaaGreat
namespace Go.Proofs.YthjnojbeimchdaaGreat
open Go.RowKit Go.Maps Kal
set_option maxRecDepth 100000 in
set_option maxHeartbeats 1000000 in
theorem sameInts_any (v1 v2:Value) (l1 l2:List Int) (w:World) (h1:Ints w v1 l1) (h2:Ints w v2 l2) :
  Calls Tryz.prog 87 #[v1,v2] w fun e w'=>e=.returned (.bool (decide (l1=l2)))∧Below w.heap.size w w':=by
 have H1:=Lib.hid h1
 have H2:=Lib.hid h2
 obtain ⟨⟨a1,c1,rfl,_,_,_⟩,g4,_⟩:=h1
 obtain ⟨⟨a2,c2,rfl,_,_,_⟩,k4,_⟩:=h2
 go_enter Tryz.func87,Tryz.ntmps87
 by_cases hl:l1.length=l2.length
 ·have hlI:(l1.length:Int)=l2.length:=by omega
  have HLL:=Lib.hid hl
  have hdf:((l1.length:Int) != (l2.length:Int))=false:=by rw [hlI];simp
  rw [hlI] at hdf
  clear hl
  go_wp2_with fail
  go_loopw [5] (fun i wr=>∃ k:Nat,k≤l1.length∧i=.int .i64 k∧l1.take k=l2.take k∧Below w.heap.size w wr) (fun i _=>l1.length-(intOf i).toNat)
  case atStart=>exact ⟨0,by omega,rfl,by simp,xE⟩
  case round=>
   obtain ⟨k,hk,rfl,ht,hb⟩:=hrel
   have HT:=Lib.hid ht
   clear ht
   by_cases hlt:k<l1.length
   ·have hlt2:k<l2.length:=by have:=HLL.out;omega
    obtain ⟨⟨a1',c1',he1,_,_,g3⟩,_,_⟩:=H1.out.ext hb
    obtain ⟨⟨a2',c2',he2,_,_,k3⟩,_,_⟩:=H2.out.ext hb
    injection he1 with e1 _ e2
    subst e1;subst e2
    injection he2 with e1 _ e2
    subst e1;subst e2
    rcases g3 with h|⟨b1,o1,rfl,hcell1⟩
    ·subst h;simp at hlt
    rcases k3 with h|⟨b2,o2,rfl,hcell2⟩
    ·subst h;simp at hlt2
    have HB:=Lib.hid hb
    have hc1:=hcell1 k hlt
    have hc2:=hcell2 k hlt2
    have HST:=Lib.hid (take_step HLL.out hlt HT.out)
    generalize hx:l1.getD k 0=x at *
    generalize hy:l2.getD k 0=y at *
    have HX:=Lib.hid hx
    have HY:=Lib.hid hy
    clear hcell1 hcell2 hx hy hb
    by_cases hxy:x=y
    ·have HXY:=Lib.hid hxy
     have hb:(x != y)=false:=by rw [HXY.out];simp
     clear hxy
     go_wp2_with fail
     go_quiet (fail)
     go_wp2_with fail
     go_roundw
     case rel=>exact ⟨k+1,by omega,by go_num,HST.out HXY.out,by have hb:=HB.out;exact xE⟩
     case measure=>simp [intOf];omega
    ·have hb:(x != y)=true:=by simp [hxy]
     have hne:l1≠l2:=fun h=>hxy (by rw [← HX.out,← HY.out,h])
     go_wp2_with fail
     go_quiet (fail)
     go_wp2_with fail
     go_ret
     exact ⟨ret_bool (by simp [hne]),by have hb:=HB.out;exact xE⟩
   ·have heq:l1=l2:=by
     have h:=HT.out
     rw [List.take_of_length_le (by omega),List.take_of_length_le (by have:=HLL.out;omega)] at h
     exact h
    go_wp2_with fail
    go_ret
    exact ⟨ret_bool (by simp [heq]),xE⟩
 ·have hlI:¬ (l1.length:Int)=l2.length:=by omega
  have hdf:((l1.length:Int) != (l2.length:Int))=true:=by simp [hlI]
  have hne:l1≠l2:=fun h=>hl (by rw [h])
  go_wp2_with fail
  go_ret
  exact ⟨ret_bool (by simp [hne]),xE⟩
set_option maxRecDepth 100000 in
set_option maxHeartbeats 1000000 in
theorem sameFactor_any (F G:Nat→Prop) (x y:PV) (w:World) (hx:PVok w F x) (hy:PVok w G y) :
  Calls Tryz.prog 44 #[x.val,y.val] w fun e w'=>e=.returned (.bool (sameB x.p y.p))∧Below w.heap.size w w':=by
 have H1:=fun W (h:Below w.heap.size w W)=>sameInts_any x.h y.h x.p.head y.p.head W (hx.is.hd.ext h) (hy.is.hd.ext h)
 have H2:=fun W (h:Below w.heap.size w W)=>sameInts_any x.c y.c x.p.cycle y.p.cycle W (hx.is.cy.ext h) (hy.is.cy.ext h)
 clear hx hy
 obtain ⟨xh,xc,xp⟩:=x
 obtain ⟨yh,yc,yp⟩:=y
 change Calls _ _ #[perV xh xc xp.frm xp.period,perV yh yc yp.frm yp.period] _ fun e w'=>e=.returned (.bool (sameB xp yp))∧_
 change ∀ W,_→Calls _ _ #[xh,yh] W fun e w'=>e=.returned (.bool (decide (xp.head=yp.head)))∧_ at H1
 change ∀ W,_→Calls _ _ #[xc,yc] W fun e w'=>e=.returned (.bool (decide (xp.cycle=yp.cycle)))∧_ at H2
 by_cases h1:xp.frm=yp.frm
 ·by_cases h2:xp.period=yp.period
  ·by_cases h3:xp.head=yp.head
   ·rw [decide_eq_true h3] at H1
    have e:sameB xp yp=decide (xp.cycle=yp.cycle):=by unfold sameB;simp [h1,h2,h3]
    rw [e]
    clear e h3
    generalize decide (xp.cycle=yp.cycle)=b at *
    go_enter Tryz.func44,Tryz.ntmps44
    go_wp2_with (go_at_call 87;first|((with_reducible refine (H1 _ xE).mono ?_);rintro e w1 ⟨rfl,hb1⟩;obtain ⟨hc1,hf1⟩:=bcell hb1;(try simp only [World.size_alloc,World.size_drew,size_drewN,World.size_setCell] at hc1 hf1);have hz1:w.heap.size+1<w1.heap.size:=(by have h7:=hb1.size;simp at h7;omega))|((with_reducible refine (H2 _ xE).mono ?_);rintro e w2 ⟨rfl,hb2⟩))
    go_ret
    exact ⟨rfl,xE⟩
   ·rw [decide_eq_false h3] at H1
    have e:sameB xp yp=false:=by unfold sameB;simp [h3]
    rw [e]
    clear e h3
    go_enter Tryz.func44,Tryz.ntmps44
    go_wp2_with (go_at_call 87;first|((with_reducible refine (H1 _ xE).mono ?_);rintro e w1 ⟨rfl,hb1⟩;obtain ⟨hc1,hf1⟩:=bcell hb1;(try simp only [World.size_alloc,World.size_drew,size_drewN,World.size_setCell] at hc1 hf1);have hz1:w.heap.size+1<w1.heap.size:=(by have h7:=hb1.size;simp at h7;omega))|((with_reducible refine (H2 _ xE).mono ?_);rintro e w2 ⟨rfl,hb2⟩))
    go_ret
    exact ⟨rfl,xE⟩
  ·have e:sameB xp yp=false:=by unfold sameB;simp [h2]
   rw [e]
   clear e
   go_enter Tryz.func44,Tryz.ntmps44
   go_wp2_with fail
   go_ret
   exact ⟨rfl,xE⟩
 ·have e:sameB xp yp=false:=by unfold sameB;simp [h1]
  rw [e]
  clear e
  go_enter Tryz.func44,Tryz.ntmps44
  go_wp2_with fail
  go_ret
  exact ⟨rfl,xE⟩
end Go.Proofs.YthjnojbeimchdaaGreat
namespace Go.Proofs.YthjnojbeimchdaaGreat
open Go.RowKit Go.Maps Kal
theorem perE_fv {s:Int} (h:0≤s):FV s perE:=by
 refine ⟨⟨⟨by decide,by decide,⟨by simp [perE,Rise],by simp [perE]⟩,⟨by simp [perE,Rise],by simp [perE]⟩⟩,fun n hn=>absurd hn (perE_mem n),by show (0:Int)≤s+9;omega,by decide⟩,by decide⟩
def JoinRes (q:Per) (w:World) (e:Ending) (w':World):Prop:=∃ h c,e=.returned (.tuple #[perV h c q.frm q.period,.int .i64 0])∧PerIs w' h c q∧Below w.heap.size w w'
structure JS (s:Int) (w:World) (b4:Nat) (q:Per) (a1:Option Addr) (n1 c1:Nat) (a2:Option Addr) (n2 c2:Nat) (W:World):Prop where
 below:Below w.heap.size w W
 rbx:Bxx W (w.heap.size+1) #[.slice none 0 0,.int .i64 0,.int .i64 0,.slice none 0 0] 39
 abx:Bxx W b4 #[.slice a1 n1 c1,.int .i64 q.frm,.int .i64 q.period,.slice a2 n2 c2] 39
 pv:PVok W (fun b=>w.heap.size+1<b∧b≠b4) ⟨.slice a1 n1 c1,.slice a2 n2 c2,q⟩
 lt:w.heap.size+1<b4
 fv:FV s q
structure JP (s:Int) (w:World) (b4 b7:Nat) (q:Per) (a1:Option Addr) (n1 c1:Nat) (a2:Option Addr) (n2 c2:Nat) (r:Per) (e1:Option Addr) (f1 g1:Nat) (e2:Option Addr) (f2 g2:Nat) (W:World):Prop where
 js:JS s w b4 q a1 n1 c1 a2 n2 c2 W
 px:Bxx W b7 #[.slice e1 f1 g1,.int .i64 r.frm,.int .i64 r.period,.slice e2 f2 g2] 39
 pva:PVok W (fun b=>w.heap.size+1<b∧b≠b4∧b<b7) ⟨.slice a1 n1 c1,.slice a2 n2 c2,q⟩
 pvr:PVok W (fun b=>b<w.heap.size∨(w.heap.size+1<b∧b≠b4∧b≠b7)) ⟨.slice e1 f1 g1,.slice e2 f2 g2,r⟩
 lt7:b4<b7
 fvr:FV s r
theorem set4_ne {W:World} {b k:Nat} (x y z u:Value) (h:k≠b):((((W.setCell ⟨b,0,none⟩ x).setCell ⟨b,1,none⟩ y).setCell ⟨b,2,none⟩ z).setCell ⟨b,3,none⟩ u).heap[k]? = W.heap[k]?:=by
 rw [Below.heap_setCell _ ⟨b,3,none⟩ u k h,Below.heap_setCell _ ⟨b,2,none⟩ z k h,Below.heap_setCell _ ⟨b,1,none⟩ y k h,Below.heap_setCell _ ⟨b,0,none⟩ x k h]
theorem below_st4 {B b:Nat} {w W:World} (hb:Below B w W) (h:B≤b) (x y z u:Value):Below B w ((((W.setCell ⟨b,0,none⟩ x).setCell ⟨b,1,none⟩ y).setCell ⟨b,2,none⟩ z).setCell ⟨b,3,none⟩ u):=
 hb.trans (below_set4 (i:=0) W h x y z u)
section
variable {s:Int} {w W W':World} {b4 b7:Nat} {q r:Per} {a1 a2 e1 e2:Option Addr} {n1 c1 n2 c2 f1 g1 f2 g2:Nat}
theorem JS.ext (h:JS s w b4 q a1 n1 c1 a2 n2 c2 W) (hb:Below W.heap.size W W'):JS s w b4 q a1 n1 c1 a2 n2 c2 W':=
 ⟨Et h.below hb,h.rbx.below hb,h.abx.below hb,h.pv.keep (KeepF.below hb),h.lt,h.fv⟩
theorem JP.ext (h:JP s w b4 b7 q a1 n1 c1 a2 n2 c2 r e1 f1 g1 e2 f2 g2 W) (hb:Below W.heap.size W W'):JP s w b4 b7 q a1 n1 c1 a2 n2 c2 r e1 f1 g1 e2 f2 g2 W':=
 ⟨h.js.ext hb,h.px.below hb,h.pva.keep (KeepF.below hb),h.pvr.keep (KeepF.below hb),h.lt7,h.fvr⟩
theorem JP.store {r':Per} {e1' e2':Option Addr} {f1' g1' f2' g2':Nat} (h:JP s w b4 b7 q a1 n1 c1 a2 n2 c2 r e1 f1 g1 e2 f2 g2 W) (hp:PVok W (fun b=>w.heap.size+1<b∧b≠b4∧b≠b7) ⟨.slice e1' f1' g1',.slice e2' f2' g2',r'⟩) (hv:FV s r') :
  JP s w b4 b7 q a1 n1 c1 a2 n2 c2 r' e1' f1' g1' e2' f2' g2' ((((W.setCell ⟨b7,0,none⟩ (.slice e1' f1' g1')).setCell ⟨b7,1,none⟩ (.int .i64 r'.frm)).setCell ⟨b7,2,none⟩ (.int .i64 r'.period)).setCell ⟨b7,3,none⟩ (.slice e2' f2' g2')):=by
 have l4:=h.js.lt
 have l7:=h.lt7
 have hn:∀ k,k≠b7→_:=fun k hk=>set4_ne (W:=W) (.slice e1' f1' g1') (.int .i64 r'.frm) (.int .i64 r'.period) (.slice e2' f2' g2') hk
 have hkeep:∀ {F:Nat→Prop},(∀ b,F b→b≠b7)→KeepF F W _:=fun hF b hb _=>hn b (hF b hb)
 have hpa:=h.pva.keep (hkeep fun b hb=>by omega)
 exact ⟨⟨below_st4 h.js.below (by omega) _ _ _ _,(hn _ (by omega)).trans h.js.rbx,(hn _ (by omega)).trans h.js.abx,hpa.mono fun b hb=>⟨hb.1,hb.2.1⟩,l4,h.js.fv⟩,set4all h.px,hpa,
  (hp.keep (hkeep fun b hb=>hb.2.2)).mono fun b hb=>.inr hb,l7,hv⟩
theorem JS.store {r':Per} {e1' e2':Option Addr} {f1' g1' f2' g2':Nat} (h:JS s w b4 q a1 n1 c1 a2 n2 c2 W) (hp:PVok W (fun b=>w.heap.size+1<b∧b≠b4) ⟨.slice e1' f1' g1',.slice e2' f2' g2',r'⟩) (hv:FV s r') :
  JS s w b4 r' e1' f1' g1' e2' f2' g2' ((((W.setCell ⟨b4,0,none⟩ (.slice e1' f1' g1')).setCell ⟨b4,1,none⟩ (.int .i64 r'.frm)).setCell ⟨b4,2,none⟩ (.int .i64 r'.period)).setCell ⟨b4,3,none⟩ (.slice e2' f2' g2')):=by
 have l4:=h.lt
 have hn:∀ k,k≠b4→_:=fun k hk=>set4_ne (W:=W) (.slice e1' f1' g1') (.int .i64 r'.frm) (.int .i64 r'.period) (.slice e2' f2' g2') hk
 exact ⟨below_st4 h.below (by omega) _ _ _ _,(hn _ (by omega)).trans h.rbx,set4all h.abx,hp.keep fun b hb _=>hn b hb.2,l4,hv⟩
end
set_option maxRecDepth 100000 in
set_option maxHeartbeats 4000000 in
theorem mjoin_any (s:Int) (F:Nat→Prop) (v:Value) (m:List (List Per)) (w:World) (hm:MixR w F v m) (k1:MV s m) (hs:0≤s) :
  Calls Tryz.prog 24 #[.agg #[v]] w (JoinRes (joinF perE m) w):=by
 have HV1:=fun W (h:Below w.heap.size w W)=>mvalid_any F v m W (hm.ext h)
 rw [k1.val] at HV1
 have l1:=k1.len
 obtain ⟨a1,c1,rfl⟩:=hm.form
 have HM1:=Lib.hid hm
 have HK1:=Lib.hid k1
 clear hm k1
 go_enter Tryz.func24,Tryz.ntmps24
 go_wp2_with ((go_at_call 18;go_loud ((with_reducible refine (HV1 _ (Ea (Ea (Er w) _) _)).mono ?_);rintro e w1 ⟨rfl,hb1⟩;have b0:Bxx w1 w.heap.size #[.slice a1 m.length c1] 28:=Bxx.below xB hb1;have b1:Bxx w1 (w.heap.size+1) #[.slice none 0 0,.int .i64 0,.int .i64 0,.slice none 0 0] 39:=Bxx.below xB hb1;have x0:=(b0.alloc (.cells #[.slice none 0 0,.int .i64 0,.int .i64 1,.slice none 0 0] 39)).c0;have hW1:Below w.heap.size w w1:=Et (Ea (Ea (Er w) _) _) hb1;have HB0:=Lib.hid b0;have HB1:=Lib.hid b1;clear b0 b1)))
 obtain ⟨b4,hb4⟩:∃ b4,b4=w1.heap.size:=⟨_,rfl⟩
 have hz1:=HB1.out.lt
 have hjs:JS s w b4 (joinF perE (m.take 0)) none 0 0 none 0 0 (w1.alloc (.cells #[.slice none 0 0,.int .i64 0,.int .i64 1,.slice none 0 0] 39)):=by
  refine ⟨Ea hW1 _,HB1.out.alloc _,Bxx.at hb4,⟨⟨Ints.nil _,Ints.nil _⟩,show InI (0:Int) from ⟨by decide,by decide⟩,show InI (1:Int) from ⟨by decide,by decide⟩,fun h=>absurd rfl h,fun h=>absurd rfl h⟩,by omega,perE_fv hs⟩
 rw [← hb4]
 have HJS:=Lib.hid hjs
 clear hjs hb1 hW1 x0 hb4
 go_loopw [3,6,7,9,10,11,12,13,22] (fun s3 _ _ _ _ _ _ _ idx wr=>∃ (j:Nat) (x1:Option Addr) (y1 z1:Nat) (x2:Option Addr) (y2 z2:Nat),j≤m.length∧s3=.int .i64 0∧idx=.int .i64 j∧Hid (JS s w b4 (joinF perE (m.take j)) x1 y1 z1 x2 y2 z2 wr)) (fun _ _ _ _ _ _ _ _ idx _=>m.length-(intOf idx).toNat)
 case atStart=>exact ⟨0,none,0,0,none,0,0,by omega,rfl,rfl,HJS⟩
 case round=>
  obtain ⟨j,x1,y1,z1,x2,y2,z2,hj,rfl,rfl,HM⟩:=hrel
  obtain ⟨wo,hwo⟩:∃ wo,wo=wr:=⟨_,rfl⟩
  subst hwo
  have r1:=(HM.out.abx.cells 0).1
  have r2:=(HM.out.abx.cells 1).1
  have r3:=(HM.out.abx.cells 2).1
  have r4:=(HM.out.abx.cells 3).1
  by_cases hjl:j<m.length
  ·have hjI:(j:Int)<m.length:=by omega
   obtain ⟨L2,hL2,hml⟩:=HM1.out.lt
   have hl2:L2.length=m.length:=by rw [← hL2,List.length_map]
   obtain ⟨b8,f8,c8,ta,tn,tc,t,he,e0,htt,hmt⟩:=hml.at (show j<L2.length by omega)
   injection he with q1 q2 q3
   subst q1;subst q3
   clear q2
   rw [hL2] at hmt
   have hvt:=HK1.out.vt t (List.mem_of_getElem? hmt)
   obtain ⟨tL,htL,htl⟩:=htt
   obtain ⟨_,_,he,_⟩:=htl.row.is
   have htn:tn=tL.length:=by injection he with _ h _
   have ht0:0<tL.length:=by have:=List.length_pos_iff.2 hvt.ne;rw [← htL,List.length_map] at this;exact this
   have ht4:tL.length≤4:=by have:=HK1.out.tlen t (List.mem_of_getElem? hmt);rw [← htL,List.length_map] at this;exact this
   obtain ⟨bt,ot,x,ha,hx,hxp,_,u0,u1,u2,u3⟩:=htl.get ht0
   subst ha;subst htn
   have htc:tL.length≤tc:=by obtain ⟨_,_,he,h1,_⟩:=htl.row.is;injection he with _ _ h3;rw [h3];exact h1
   obtain ⟨xh,xc,xp⟩:=x
   obtain ⟨ax1,nx1,cx1,ax2,nx2,cx2,rfl,rfl⟩:=hx.form
   dsimp only at u0 u1 u2 u3
   have e0:=Ext.cell HM.out.below e0
   have u0:=Ext.cell HM.out.below u0
   have u1:=Ext.cell HM.out.below u1
   have u2:=Ext.cell HM.out.below u2
   have u3:=Ext.cell HM.out.below u3
   have HTL:=Lib.hid htl
   have HX:=Lib.hid hx
   have HXP:=Lib.hid hxp
   have HMT:=Lib.hid hmt
   have HVT:=Lib.hid hvt
   have HTLE:=Lib.hid htL
   simp only [Nat.zero_mul,Nat.add_zero] at u0 u1 u2 u3
   clear hml htl hx hxp hmt hvt hL2 hl2 htL he
   obtain ⟨b7,hb7⟩:∃ b7,b7=wo.heap.size:=⟨_,rfl⟩
   have HJ:Hid (JP s w b4 b7 (joinF perE (m.take j)) x1 y1 z1 x2 y2 z2 (andL xp ((tL.map PV.p).tail.take 0)) ax1 nx1 cx1 ax2 nx2 cx2 (wo.alloc (.cells #[.slice ax1 nx1 cx1,.int .i64 xp.frm,.int .i64 xp.period,.slice ax2 nx2 cx2] 39))):=by
    have hab:=HM.out.abx.lt
    refine Lib.hid ⟨HM.out.ext (Ea (Er _) _),Bxx.at hb7,((HM.out.pv.lt).keep (KeepF.below (Ea (Er _) _))).mono fun b hb=>?_,(HX.out.keep (KeepF.below (Ea HM.out.below _))).mono fun b hb=>.inl hb.2,by omega,HVT.out.fv _ ?_⟩
    ·exact ⟨hb.1.1,hb.1.2,by omega⟩
    ·rw [show (andL xp ((tL.map PV.p).tail.take 0))=xp from rfl,show xp=_ from HXP.out,HTLE.out];exact getD_mem' (List.length_pos_iff.2 HVT.out.ne)
   go_wp2_with fail
   ·rw [← hb7]
    clear hb7
    have h1l:tL.length=1:=by omega
    go_loopw [3,9,10,11,32] (fun s3 _ _ _ idx wq=>∃ (i:Nat) (y1':Option Addr) (f1 g1:Nat) (y2':Option Addr) (f2 g2:Nat),i≤tL.length-1∧s3=.int .i64 0∧idx=.int .i64 i∧Hid (JP s w b4 b7 (joinF perE (m.take j)) x1 y1 z1 x2 y2 z2 (andL xp ((tL.map PV.p).tail.take i)) y1' f1 g1 y2' f2 g2 wq)) (fun _ _ _ _ idx _=>tL.length-1-(intOf idx).toNat)
    case atStart=>exact ⟨0,ax1,nx1,cx1,ax2,nx2,cx2,by omega,rfl,rfl,HJ⟩
    case round=>
     obtain ⟨i,y1',f1,g1,y2',f2,g2,hi,rfl,rfl,HP⟩:=hrel
     obtain rfl:i=0:=by omega
     have a0:=(HP.out.js.abx.cells 0).1
     have a1_:=(HP.out.js.abx.cells 1).1
     have a2_:=(HP.out.js.abx.cells 2).1
     have a3_:=(HP.out.js.abx.cells 3).1
     have p0:=(HP.out.px.cells 0).1
     have p1:=(HP.out.px.cells 1).1
     have p2:=(HP.out.px.cells 2).1
     have p3:=(HP.out.px.cells 3).1
     have HOR:=Or_fv s _ _ _ _ _ _ _ HP.out.js.pv.is HP.out.pvr.is HP.out.js.fv HP.out.fvr
     simp only [perV] at HOR
     have e8:andL xp ((tL.map PV.p).tail.take (0))=termP t:=by
      rw [List.take_of_length_le (by simp;try omega),← HTLE.out]
      cases hLL:tL.map PV.p with
      | nil=>rw [List.map_eq_nil_iff] at hLL;rw [hLL] at ht0;exact absurd ht0 (by simp)
      | cons p r=>rw [hLL] at HXP;rw [show xp=p from HXP.out];rfl
     rw [e8] at HOR
     have HE8:=Lib.hid e8
     have hvr:FV s (orP (joinF perE (m.take j)) (termP t)):=HP.out.js.fv.or (e8 ▸ HP.out.fvr)
     have HVR:=Lib.hid hvr
     generalize hq8:orP (joinF perE (m.take j)) (termP t)=q8 at *
     clear hvr
     rw [e8] at p1 p2
     clear e8
     go_wp2_with (go_at_call 73;go_loud ((with_reducible refine HOR.mono ?_);rintro e w7 ⟨h',c',rfl,ho,hb7'⟩;obtain ⟨ya,yn,yc,za,zn,zc,rfl,rfl⟩:=(ho.pv HVR.out).form;have HP7:=Lib.hid (HP.out.ext hb7');have HO:=Lib.hid (ho.pv HVR.out);have HB7:=Lib.hid hb7';have p7:=HP7.out.js.abx.alloc (.cells #[.slice ya yn yc,.int .i64 q8.frm,.int .i64 q8.period,.slice za zn zc] 39);have c0:=p7.cells 0;have c1':=p7.cells 1;have c2':=p7.cells 2;have c3:=p7.cells 3;obtain ⟨c00,c01⟩:=c0;obtain ⟨c10,c11⟩:=c1';obtain ⟨c20,c21⟩:=c2';obtain ⟨c30,c31⟩:=c3;clear ho hb7' p7))
     go_roundw
     case rel=>
      refine ⟨j+1,ya,yn,yc,za,zn,zc,by omega,rfl,by go_num,Lib.hid ?_⟩
      have l4:=HP7.out.js.lt
      have hl4:=HP.out.js.abx.lt
      have hal:Below w7.heap.size w7 (w7.alloc (.cells #[.slice ya yn yc,.int .i64 q8.frm,.int .i64 q8.period,.slice za zn zc] 39)):=Ea (Er _) _
      have hpv:PVok w7 (fun b=>w.heap.size+1<b∧b≠b4) ⟨.slice ya yn yc,.slice za zn zc,q8⟩:=HO.out.mono fun b hb=>by have h1:=hb.1;exact ⟨by omega,by omega⟩
      have h9:=(HP7.out.js.ext hal).store (hpv.keep (KeepF.below hal)) HVR.out
      have e9:joinF perE (m.take (j+1))=q8:=by
       obtain ⟨h1,h2⟩:=List.getElem?_eq_some_iff.1 HMT.out
       unfold joinF at hq8 ⊢
       rw [List.take_succ_eq_append_getElem h1,List.foldl_append,h2]
       exact hq8
      rw [e9]
      exact h9
     case measure=>simp [intOf];omega
   ·rw [← hb7]
    clear hb7
    go_loopw [3,9,10,11,32] (fun s3 _ _ _ idx wq=>∃ (i:Nat) (y1':Option Addr) (f1 g1:Nat) (y2':Option Addr) (f2 g2:Nat),i≤tL.length-1∧s3=.int .i64 0∧idx=.int .i64 i∧Hid (JP s w b4 b7 (joinF perE (m.take j)) x1 y1 z1 x2 y2 z2 (andL xp ((tL.map PV.p).tail.take i)) y1' f1 g1 y2' f2 g2 wq)) (fun _ _ _ _ idx _=>tL.length-1-(intOf idx).toNat)
    case atStart=>exact ⟨0,ax1,nx1,cx1,ax2,nx2,cx2,by omega,rfl,rfl,HJ⟩
    case round=>
     obtain ⟨i,y1',f1,g1,y2',f2,g2,hi,rfl,rfl,HP⟩:=hrel
     by_cases hil:i<tL.length-1
     ·have hiI:(i:Int)<(tL.length-1:Nat):=by omega
      have htl2:=HTL.out.keep (KeepF.below HP.out.js.below) HP.out.js.below.size
      obtain ⟨bt',ot',z,ha,hz,hzp,_,k0,k1,k2,k3⟩:=htl2.get (show i+1<tL.length by omega)
      cases ha
      obtain ⟨zh,zc,zp⟩:=z
      obtain ⟨az1,nz1,cz1,az2,nz2,cz2,rfl,rfl⟩:=hz.form
      dsimp only at k0 k1 k2 k3 hzp
      have hfz:FV s zp:=by rw [hzp,HTLE.out];exact HVT.out.fv _ (getD_mem' (by rw [← HTLE.out,List.length_map];omega))
      rw [show ot+(i+1)*4=ot+4+i*4 by omega] at k0 k1 k2 k3
      have p0:=((HP.out.px.alloc (.cells #[.slice az1 nz1 cz1,.int .i64 zp.frm,.int .i64 zp.period,.slice az2 nz2 cz2] 39)).cells 0).1
      have p1:=((HP.out.px.alloc (.cells #[.slice az1 nz1 cz1,.int .i64 zp.frm,.int .i64 zp.period,.slice az2 nz2 cz2] 39)).cells 1).1
      have p2:=((HP.out.px.alloc (.cells #[.slice az1 nz1 cz1,.int .i64 zp.frm,.int .i64 zp.period,.slice az2 nz2 cz2] 39)).cells 2).1
      have p3:=((HP.out.px.alloc (.cells #[.slice az1 nz1 cz1,.int .i64 zp.frm,.int .i64 zp.period,.slice az2 nz2 cz2] 39)).cells 3).1
      have HAND:=fun W (hb:Below wr.heap.size wr W)=>And_fv s _ _ _ _ _ zp W (HP.out.pvr.is.ext hb) (hz.is.ext hb) HP.out.fvr hfz
      simp only [perV] at HAND
      have HZP:=Lib.hid hzp
      clear htl2 hz hzp
      go_wp2_with (go_at_call 72;go_loud ((with_reducible refine (HAND _ (Ea (Er wr) _)).mono ?_);rintro e w7 ⟨h',c',rfl,ho,hb7'⟩;have hvr:=HP.out.fvr.and hfz;obtain ⟨ya,yn,yc,za,zn,zc,rfl,rfl⟩:=(ho.pv hvr).form;have HP7:=Lib.hid (HP.out.ext (Et (Ea (Er wr) _) hb7'));have HO:=Lib.hid (ho.pv hvr);have HVR:=Lib.hid hvr;have HB7:=Lib.hid hb7';have p7:=HP7.out.px.alloc (.cells #[.slice ya yn yc,.int .i64 (andP (andL xp ((tL.map PV.p).tail.take i)) zp).frm,.int .i64 (andP (andL xp ((tL.map PV.p).tail.take i)) zp).period,.slice za zn zc] 39);have c0:=p7.cells 0;have c1':=p7.cells 1;have c2':=p7.cells 2;have c3:=p7.cells 3;obtain ⟨c00,c01⟩:=c0;obtain ⟨c10,c11⟩:=c1';obtain ⟨c20,c21⟩:=c2';obtain ⟨c30,c31⟩:=c3;clear ho hvr hb7' p7))
      go_roundw
      case rel=>
       refine ⟨i+1,ya,yn,yc,za,zn,zc,by omega,rfl,by go_num,Lib.hid ?_⟩
       have l4:=HP7.out.js.lt
       have l7:=HP7.out.lt7
       have hl7:=HP.out.px.lt
       have hpv:PVok w7 (fun b=>w.heap.size+1<b∧b≠b4∧b≠b7) ⟨.slice ya yn yc,.slice za zn zc,andP (andL xp ((tL.map PV.p).tail.take i)) zp⟩:=HO.out.mono fun b hb=>by have h1:=hb.1;rw [World.size_alloc] at h1;exact ⟨by omega,by omega,by omega⟩
       have hal:Below w7.heap.size w7 (w7.alloc (.cells #[.slice ya yn yc,.int .i64 (andP (andL xp ((tL.map PV.p).tail.take i)) zp).frm,.int .i64 (andP (andL xp ((tL.map PV.p).tail.take i)) zp).period,.slice za zn zc] 39)):=Ea (Er _) _
       have h9:=(HP7.out.ext hal).store (hpv.keep (KeepF.below hal)) HVR.out
       have e9:andL xp ((tL.map PV.p).tail.take (i+1))=andP (andL xp ((tL.map PV.p).tail.take i)) zp:=by
        have hi2:i<(tL.map PV.p).tail.length:=by simp;omega
        unfold andL
        rw [List.take_succ_eq_append_getElem hi2,List.foldl_append]
        have:(tL.map PV.p).tail[i]=zp:=by rw [HZP.out,List.getD_eq_getElem?_getD,List.getElem?_eq_getElem (by simp;omega)];simp
        rw [this];rfl
       rw [e9]
       exact h9
      case measure=>simp [intOf];omega
     ·obtain rfl:i=tL.length-1:=by omega
      have a0:=(HP.out.js.abx.cells 0).1
      have a1_:=(HP.out.js.abx.cells 1).1
      have a2_:=(HP.out.js.abx.cells 2).1
      have a3_:=(HP.out.js.abx.cells 3).1
      have p0:=(HP.out.px.cells 0).1
      have p1:=(HP.out.px.cells 1).1
      have p2:=(HP.out.px.cells 2).1
      have p3:=(HP.out.px.cells 3).1
      have HOR:=Or_fv s _ _ _ _ _ _ _ HP.out.js.pv.is HP.out.pvr.is HP.out.js.fv HP.out.fvr
      simp only [perV] at HOR
      have e8:andL xp ((tL.map PV.p).tail.take (tL.length-1))=termP t:=by
       rw [List.take_of_length_le (by simp;try omega),← HTLE.out]
       cases hLL:tL.map PV.p with
       | nil=>rw [List.map_eq_nil_iff] at hLL;rw [hLL] at ht0;exact absurd ht0 (by simp)
       | cons p r=>rw [hLL] at HXP;rw [show xp=p from HXP.out];rfl
      rw [e8] at HOR
      have HE8:=Lib.hid e8
      have hvr:FV s (orP (joinF perE (m.take j)) (termP t)):=HP.out.js.fv.or (e8 ▸ HP.out.fvr)
      have HVR:=Lib.hid hvr
      generalize hq8:orP (joinF perE (m.take j)) (termP t)=q8 at *
      clear hvr
      rw [e8] at p1 p2
      clear e8
      go_wp2_with (go_at_call 73;go_loud ((with_reducible refine HOR.mono ?_);rintro e w7 ⟨h',c',rfl,ho,hb7'⟩;obtain ⟨ya,yn,yc,za,zn,zc,rfl,rfl⟩:=(ho.pv HVR.out).form;have HP7:=Lib.hid (HP.out.ext hb7');have HO:=Lib.hid (ho.pv HVR.out);have HB7:=Lib.hid hb7';have p7:=HP7.out.js.abx.alloc (.cells #[.slice ya yn yc,.int .i64 q8.frm,.int .i64 q8.period,.slice za zn zc] 39);have c0:=p7.cells 0;have c1':=p7.cells 1;have c2':=p7.cells 2;have c3:=p7.cells 3;obtain ⟨c00,c01⟩:=c0;obtain ⟨c10,c11⟩:=c1';obtain ⟨c20,c21⟩:=c2';obtain ⟨c30,c31⟩:=c3;clear ho hb7' p7))
      go_roundw
      case rel=>
       refine ⟨j+1,ya,yn,yc,za,zn,zc,by omega,rfl,by go_num,Lib.hid ?_⟩
       have l4:=HP7.out.js.lt
       have hl4:=HP.out.js.abx.lt
       have hal:Below w7.heap.size w7 (w7.alloc (.cells #[.slice ya yn yc,.int .i64 q8.frm,.int .i64 q8.period,.slice za zn zc] 39)):=Ea (Er _) _
       have hpv:PVok w7 (fun b=>w.heap.size+1<b∧b≠b4) ⟨.slice ya yn yc,.slice za zn zc,q8⟩:=HO.out.mono fun b hb=>by have h1:=hb.1;exact ⟨by omega,by omega⟩
       have h9:=(HP7.out.js.ext hal).store (hpv.keep (KeepF.below hal)) HVR.out
       have e9:joinF perE (m.take (j+1))=q8:=by
        obtain ⟨h1,h2⟩:=List.getElem?_eq_some_iff.1 HMT.out
        unfold joinF at hq8 ⊢
        rw [List.take_succ_eq_append_getElem h1,List.foldl_append,h2]
        exact hq8
       rw [e9]
       exact h9
      case measure=>simp [intOf];omega
  ·obtain rfl:j=m.length:=by omega
   have s0:=HM.out.rbx.cells 0
   have s1:=HM.out.rbx.cells 1
   have s2:=HM.out.rbx.cells 2
   have s3:=HM.out.rbx.cells 3
   go_wp2_with fail
   have hr0:Bxx ((((wo.setCell ⟨w.heap.size+1,0,none⟩ (.slice x1 y1 z1)).setCell ⟨w.heap.size+1,1,none⟩ (.int .i64 (joinF perE m).frm)).setCell ⟨w.heap.size+1,2,none⟩ (.int .i64 (joinF perE m).period)).setCell ⟨w.heap.size+1,3,none⟩ (.slice x2 y2 z2)) (w.heap.size+1) #[.slice x1 y1 z1,.int .i64 (joinF perE m).frm,.int .i64 (joinF perE m).period,.slice x2 y2 z2] 39:=set4all HM.out.rbx
   have k0:=(hr0.cells 0).1
   have k1:=(hr0.cells 1).1
   have k2:=(hr0.cells 2).1
   have k3:=(hr0.cells 3).1
   have hpv:=HM.out.pv
   rw [List.take_of_length_le (Nat.le_refl _)] at hpv
   refine bodyPost_ret (v:=.tuple #[perV (.slice x1 y1 z1) (.slice x2 y2 z2) (joinF perE m).frm (joinF perE m).period,.int .i64 0]) (by simp [results,Tryz.results24,go_sem,k0,k1,k2,k3]) rfl ⟨_,_,rfl,?_,below_st4 HM.out.below (by omega) _ _ _ _⟩
   exact (hpv.keep (fun b hb _=>set4_ne _ _ _ _ (by have:=hb.1;omega))).is
end Go.Proofs.YthjnojbeimchdaaGreat
namespace Go.Proofs.YthjnojbeimchdaaGreat
open Go.RowKit Go.Maps Kal
theorem andL_fv {s:Int}:∀ {t:List Per} {p:Per},FV s p→(∀ q∈t,FV s q)→FV s (andL p t)
 | [],p,h,_=>h
 | q :: t,p,h,g=>andL_fv (t:=t) (p:=andP p q) (h.and (g q (by simp))) fun r hr=>g r (by simp [hr])
theorem termP_fv {s:Int} {t:List Per} (h:VTerm s t):FV s (termP t):=by
 cases t with
 | nil=>exact absurd rfl h.ne
 | cons p r=>exact andL_fv (h.fv p (by simp)) fun q hq=>h.fv q (by simp [hq])
theorem joinF_fv {s:Int}:∀ {m:List (List Per)} {all:Per},FV s all→(∀ t∈m,VTerm s t)→FV s (joinF all m)
 | [],all,h,_=>h
 | t :: m,all,h,g=>joinF_fv (m:=m) (all:=orP all (termP t)) (h.or (termP_fv (g t (by simp)))) fun r hr=>g r (by simp [hr])
theorem PerIs.sl {W:World} {h c:Value} {p:Per} (hp:PerIs W h c p):∃ a1 n1 c1 a2 n2 c2,h=.slice a1 n1 c1∧c=.slice a2 n2 c2:=by
 obtain ⟨⟨a1,c1,e1,_⟩,_⟩:=hp.hd
 obtain ⟨⟨a2,c2,e2,_⟩,_⟩:=hp.cy
 exact ⟨a1,_,c1,a2,_,c2,e1,e2⟩
set_option maxRecDepth 100000 in
set_option maxHeartbeats 2000000 in
theorem mcount_any (s:Int) (F:Nat→Prop) (v:Value) (m:List (List Per)) (a b:Int) (w:World) (h1:MixR w F v m) (k1:MV s m) (hs:0≤s) (h0:0≤a) (hab:a≤b) (hb:b≤1099511627776) :
  Calls Tryz.prog 15 #[.agg #[v],.int .i64 a,.int .i64 b] w fun e w'=>e=.returned (.tuple #[.int .i64 (belowI (joinF perE m) b-belowI (joinF perE m) a),.int .i64 0])∧Below w.heap.size w w':=by
 have HV1:=fun W (h:Below w.heap.size w W)=>mvalid_any F v m W (h1.ext h)
 rw [k1.val] at HV1
 have HJ:=fun W (h:Below w.heap.size w W)=>mjoin_any s F v m W (h1.ext h) k1 hs
 have hfv:=joinF_fv (perE_fv hs) k1.vt
 have HFV:=Lib.hid hfv
 obtain ⟨a1,c1,rfl⟩:=h1.form
 clear h1 k1 hfv
 generalize joinF perE m=q at *
 go_enter Tryz.func15,Tryz.ntmps15
 go_wp2_with (first|(go_at_call 18;refine (HV1 _ (Ea (Er w) _)).mono ?_;rintro e w1 ⟨rfl,hb1⟩;have b0:Bxx w1 w.heap.size #[.slice a1 m.length c1] 28:=Bxx.below xB hb1;have x0:=b0.c0;have hW1:Below w.heap.size w w1:=Et (Ea (Er w) _) hb1)|(go_at_call 24;refine (HJ _ hW1).mono ?_;rintro e w2 ⟨h,c,rfl,hp,hb2⟩;obtain ⟨xa,xn,xc,ya,yn,yc,rfl,rfl⟩:=hp.sl;have HP:=Lib.hid hp;have hW2:Below w.heap.size w w2:=Et hW1 hb2;clear hp)|(go_at_call 42;go_loud ((with_reducible refine (count_ok (.slice xa xn xc) (.slice ya yn yc) q a b _ (HP.out.ext (Ea (Er w2) _)) HFV.out.valid h0 hab hb).mono ?_);rintro e w3 ⟨rfl,hb3⟩)))
 go_ret2
 exact ⟨rfl,Et (Ea hW2 _) hb3⟩
set_option maxRecDepth 100000 in
set_option maxHeartbeats 2000000 in
theorem mcount_bad (F:Nat→Prop) (v:Value) (m:List (List Per)) (a b:Int) (w:World) (h1:MixR w F v m) (hbad:validM m=false∨a<0∨b<a∨1099511627776<b) :
  Calls Tryz.prog 15 #[.agg #[v],.int .i64 a,.int .i64 b] w fun e w'=>e=.returned (.tuple #[.int .i64 0,.int .i64 1])∧Below w.heap.size w w':=by
 have HV1:=fun W (h:Below w.heap.size w W)=>mvalid_any F v m W (h1.ext h)
 obtain ⟨a1,c1,rfl⟩:=h1.form
 clear h1
 cases hq:validM m with
 | false=>
  rw [hq] at HV1
  clear hbad hq
  go_enter Tryz.func15,Tryz.ntmps15
  go_wp2_with (go_at_call 18;refine (HV1 _ (Ea (Er w) _)).mono ?_;rintro e w1 ⟨rfl,hb1⟩;have b0:Bxx w1 w.heap.size #[.slice a1 m.length c1] 28:=Bxx.below xB hb1;have x0:=b0.c0;have hW1:Below w.heap.size w w1:=Et (Ea (Er w) _) hb1)
  go_ret2
  exact ⟨rfl,hW1⟩
 | true=>
  rw [hq] at HV1
  have hbad:a<0∨b<a∨1099511627776<b:=hbad.resolve_left (by rw [hq];decide)
  clear hq
  by_cases g1:a<0
  ·clear hbad
   go_enter Tryz.func15,Tryz.ntmps15
   go_wp2_with (go_at_call 18;refine (HV1 _ (Ea (Er w) _)).mono ?_;rintro e w1 ⟨rfl,hb1⟩;have b0:Bxx w1 w.heap.size #[.slice a1 m.length c1] 28:=Bxx.below xB hb1;have x0:=b0.c0;have hW1:Below w.heap.size w w1:=Et (Ea (Er w) _) hb1)
   go_ret2
   exact ⟨rfl,hW1⟩
  ·by_cases g2:b<a
   ·clear hbad
    go_enter Tryz.func15,Tryz.ntmps15
    go_wp2_with (go_at_call 18;refine (HV1 _ (Ea (Er w) _)).mono ?_;rintro e w1 ⟨rfl,hb1⟩;have b0:Bxx w1 w.heap.size #[.slice a1 m.length c1] 28:=Bxx.below xB hb1;have x0:=b0.c0;have hW1:Below w.heap.size w w1:=Et (Ea (Er w) _) hb1)
    go_ret2
    exact ⟨rfl,hW1⟩
   ·have g3:1099511627776<b:=by omega
    clear hbad
    go_enter Tryz.func15,Tryz.ntmps15
    go_wp2_with (go_at_call 18;refine (HV1 _ (Ea (Er w) _)).mono ?_;rintro e w1 ⟨rfl,hb1⟩;have b0:Bxx w1 w.heap.size #[.slice a1 m.length c1] 28:=Bxx.below xB hb1;have x0:=b0.c0;have hW1:Below w.heap.size w w1:=Et (Ea (Er w) _) hb1)
    go_ret2
    exact ⟨rfl,hW1⟩
end Go.Proofs.YthjnojbeimchdaaGreat
namespace Go.Proofs.YthjnojbeimchdaaGreat
open Go.RowKit Go.Maps Kal
theorem mv_of {s:Int} {m:List (List Per)} (h:∀ t∈m,VTerm s t) (ho:NormOk m):MV s m:=⟨(validM_of h).2 ho,h⟩
theorem vt_of {p:Per} {s:Int} (h:FV s p):VTerm s [p]:=⟨by simp,fun q hq=>by rw [List.mem_singleton] at hq;subst hq;exact h,by simp⟩
theorem mv_one {p:Per} {s:Int} (h:FV s p):MV s [[p]]:=mv_of (fun t ht=>by rw [List.mem_singleton] at ht;subst ht;exact vt_of h) (ok_one (by simp))
theorem cf_fv {p:Per} (h:CFac 0 p):FV 0 p:=⟨h.fac,by have:=h.fac.frm;omega⟩
theorem mv_both:MV 0 [[ev 1 4,ev 3 6]]:=mv_of (fun t ht=>by
 rw [List.mem_singleton] at ht;subst ht
 exact ⟨by simp,fun p hp=>by
  rcases List.mem_cons.1 hp with rfl|hp
  ·exact cf_fv x1
  ·rw [List.mem_singleton] at hp;subst hp;exact cf_fv x2,by simp⟩) (ok_one (by simp))
theorem NormRes.is {s:Int} {T m:List (List Per)} {w w':World} {e:Ending} {n:Nat} (h:NormRes s T w e w') (hm:NormTo T m) (ho:NormOk m) (hn:m.length=n) :
  ∃ a c,e=.returned (.tuple #[.agg #[.slice a n c],.int .i64 0])∧MixR w' (fun b=>w.heap.size≤b) (.slice a n c) m∧Below w.heap.size w w':=by
 obtain ⟨a,c,k,mk,rfl,h1,h2,⟨rfl,h3,h4⟩|⟨_,_,_,_,m',h3,h4⟩⟩:=h.num
 ·obtain rfl:=h3.unique hm
  subst hn
  exact ⟨a,c,rfl,h1,h2⟩
 ·obtain rfl:=h3.unique hm
  exact absurd ho h4
theorem MinRes.is {s:Int} {m1 m2 m:List (List Per)} {w w':World} {e:Ending} {n:Nat} (h:MinRes s m1 m2 w e w') (hm:MinusTo m1 m2 (some m)) (hn:m.length=n) :
  ∃ a c,e=.returned (.tuple #[.agg #[.slice a n c],.int .i64 0])∧MixR w' (fun b=>w.heap.size≤b) (.slice a n c) m∧Below w.heap.size w w':=by
 obtain ⟨v,r,h1,h2,⟨k,rfl,_,rfl,h5⟩|⟨rfl,_⟩⟩:=h
 ·have e:=h1.unique hm
  injection e with e
  subst e;subst hn
  obtain ⟨a,c,rfl⟩:=h5.form
  exact ⟨a,c,rfl,h5,h2⟩
 ·have e:=h1.unique hm;cases e
def MixB (W:World) (b n:Nat) (m:List (List Per)):Prop:=∃ a c,Bxx W b #[.slice a n c] 28∧MixR W (fun _=>True) (.slice a n c) m
def MSets (W:World) (L:List (Nat × Nat × List (List Per))):Prop:=∀ x∈L,MixB W x.1 x.2.1 x.2.2
theorem MSets.below {W W':World} {L:List (Nat × Nat × List (List Per))} (h:MSets W L) (hb:Below W.heap.size W W'):MSets W' L:=fun x hx=>by
 obtain ⟨a,c,h1,h2⟩:=h x hx;exact ⟨a,c,h1.below hb,h2.ext hb⟩
theorem MSets.nil (W:World):MSets W []:=fun x hx=>nomatch hx
theorem MSets.cons {W:World} {L:List (Nat × Nat × List (List Per))} {b n:Nat} {m:List (List Per)} (h1:MixB W b n m) (h:MSets W L):MSets W ((b,n,m) :: L):=fun x hx=>by
 rcases List.mem_cons.1 hx with rfl|hx
 ·exact h1
 ·exact h x hx
theorem MSets.at {W:World} {L:List (Nat × Nat × List (List Per))} (h:MSets W L) (i:Nat) {b n:Nat} {m:List (List Per)} (e:L[i]? = some (b,n,m)):MixB W b n m:=h (b,n,m) (List.mem_of_getElem? e)
set_option maxRecDepth 100000 in
set_option maxHeartbeats 1000000 in
theorem cycle_any (n r:Int) (h0:0≤r) (h1:r<n) (hd:n∣27720) (w:World) :
  Calls Tryz.prog 53 #[.int .i64 n,.int .i64 r] w fun e w'=>∃ a c,e=.returned (.agg #[.slice a 1 c])∧MixR w' (fun b=>w.heap.size≤b) (.slice a 1 c) [[ev r n]]∧Below w.heap.size w w':=by
 have hn:n≤27720:=Int.le_of_dvd (by decide) hd
 have hcf:=ev_fac h0 h1 hd
 have hof:ofM (ev r n)=[[ev r n]]:=by unfold ofM;rw [hcf.canonC,show emptyB (ev r n)=false from by simp [emptyB,ev]];rfl
 have HO:=fun W b (h:Bxx W b #[.int .i64 r] 3)=>mof_any 0 (.slice none 0 0) (.slice (some ⟨b,0,none⟩) 1 1) (ev r n) W ⟨Ints.nil _,Ints.lit (l:=[r]) h (by simp) (fun x hx=>by rw [List.mem_singleton] at hx;subst hx;exact ⟨by omega,by omega⟩)⟩ (cf_fv hcf)
 rw [hof] at HO
 change ∀ W b,_→Calls _ _ #[.agg #[.slice none 0 0,.int .i64 0,.int .i64 n,.slice (some ⟨b,0,none⟩) 1 1]] W _ at HO
 clear hcf hof hd
 go_enter Tryz.func53,Tryz.ntmps53
 go_wp2_with (go_at_call 54;go_loud (refine (HO _ _ xB).mono ?_;rintro e w1 ⟨a,c,rfl,hm,hb1⟩;have b0:Bxx w1 w.heap.size #[.slice none 0 0] 28:=Bxx.below xB hb1;have x0:=b0.cells 0))
 have hcc:=Bxx.c0 (heap_set_at 0 (.slice a 1 c) b0)
 exact bodyPost_ret (v:=.agg #[.slice a 1 c]) (by simp [results,Tryz.results53,go_sem,hcc]) rfl ⟨a,c,rfl,((hm.mono (G:=fun b=>w.heap.size+1≤b) fun b hb=>by simp at hb;omega).set (by omega)).mono fun b hb=>by omega,(Et (Ea (Ea (Er w) _) _) hb1).setCell (p:=⟨w.heap.size,0,none⟩) (Nat.le_refl _) _⟩
theorem MixR.first {W:World} {F:Nat→Prop} {v:Value} {t:List Per} {m:List (List Per)} (h:MixR W F v (t :: m)):∃ b o c ta tc,v=.slice (some ⟨b,o,none⟩) (m.length+1) c∧W.cell? ⟨b,o,none⟩=some (.slice ta t.length tc)∧TermR W F (.slice ta t.length tc) t:=by
 obtain ⟨L,hL,hml⟩:=h
 have hl:L.length=m.length+1:=by have:=congrArg List.length hL;simpa using this
 obtain ⟨b,o,c,ta,tn,tc,u,he,e0,htt,hmt⟩:=hml.at (show 0<L.length by omega)
 rw [hL] at hmt
 obtain rfl:t=u:=by simpa using hmt
 obtain ⟨_,_,h1,_⟩:=htt.form
 injection h1 with h1 h2 h3
 subst h2
 exact ⟨b,o,c,ta,tc,by rw [he,hl],by simpa using e0,htt⟩
theorem Bxx.ints {w:World} {b:Nat} {l:List Int} {t:TypeId} (h:Bxx w b (l.map (Value.int .i64)).toArray t) (hl:decide (l.length≤10)=true) (hr:(l.all fun x=>decide (0≤x∧x≤1000))=true):Ints w (.slice (some ⟨b,0,none⟩) l.length l.length) l:=
 Ints.lit h (by have:=of_decide_eq_true hl;omega) fun x hx=>by
  have:=of_decide_eq_true (List.all_eq_true.1 hr x hx)
  unfold InI;omega
theorem sf_lit (F:Nat→Prop) (h c:Value) (p:Per) (n:Int) (l:List Int) (k b:Nat) (w:World) (hx:PVok w F ⟨h,c,p⟩) (hb:Bxx w b (l.map (Value.int .i64)).toArray 3) (he:p=⟨[],0,n,l⟩) (hk:l.length=k) (hn:InI n) (hl:decide (l.length≤10)=true) (hr:(l.all fun x=>decide (0≤x∧x≤1000))=true) :
  Calls Tryz.prog 44 #[.agg #[h,.int .i64 p.frm,.int .i64 p.period,c],.agg #[.slice none 0 0,.int .i64 0,.int .i64 n,.slice (some ⟨b,0,none⟩) k k]] w fun e w'=>e=.returned (.bool true)∧Below w.heap.size w w':=by
 subst hk
 have h1:=sameFactor_any F (fun _=>True) ⟨h,c,p⟩ ⟨.slice none 0 0,.slice (some ⟨b,0,none⟩) l.length l.length,⟨[],0,n,l⟩⟩ w hx ⟨⟨Ints.nil _,hb.ints hl hr⟩,show InI (0:Int) from ⟨by decide,by decide⟩,hn,fun h=>absurd rfl h,fun _ _ _=>trivial⟩
 have h2:sameB p ⟨[],0,n,l⟩=true:=by rw [he];unfold sameB;simp
 have h1:Calls _ _ #[.agg #[h,.int .i64 p.frm,.int .i64 p.period,c],.agg #[.slice none 0 0,.int .i64 0,.int .i64 n,.slice (some ⟨b,0,none⟩) l.length l.length]] w fun e w'=>e=.returned (.bool (sameB p ⟨[],0,n,l⟩))∧_:=h1
 rwa [h2] at h1
theorem mix_nil (W:World):MixR W (fun _=>True) (.slice none 0 0) []:=⟨[],rfl,⟨none,0,rfl,by simp,by omega,.inl rfl⟩,by simp,by simp⟩
def perOne:Per:=⟨[],0,4,[0,1,2]⟩
def perLess:Per:=⟨[],0,6,[2,4]⟩
theorem san_one':NormTo ([[ev 0 2]] ++ [[ev 1 4]]) [[perOne]]:=san_one
theorem san_less':MinusTo [[ev 0 2]] [[ev 0 6]] (some [[perLess]]):=san_less
theorem i0:InI 0:=⟨by decide,by decide⟩
theorem ApartRes.is {m1 m2 mk nk:List (List Per)} {w w':World} {e:Ending} {n:Int} {b:Bool} (h:ApartRes m1 m2 w e w') (hm:MinusTo m1 m2 (some mk)) (hn:MinusTo m2 m1 (some nk)) (hx:NextF FarI (mmem (mk ++ nk)) 0 n b) :
  e=.returned (.tuple #[.int .i64 n,.bool b,.int .i64 0])∧Below w.heap.size w w':=by
 obtain ⟨r,hB,hb,⟨mk',nk',n',b',rfl,hx',rfl⟩|⟨rfl,_⟩⟩:=h
 ·have e1:=hB.1.unique hm
  have e2:=hB.2.unique hn
  injection e1 with e1;injection e2 with e2
  subst e1;subst e2
  obtain ⟨rfl,rfl⟩:=hx'.unique hx
  exact ⟨rfl,hb⟩
 ·rcases hB with h|⟨_,h⟩
  ·have:=h.unique hm;cases this
  ·have:=h.unique hn;cases this
theorem of_tri (W:World) (b:Nat) (h:Bxx W b #[.int .i64 0,.int .i64 2,.int .i64 4] 3):Calls Tryz.prog 54 #[.agg #[.slice (some ⟨b,0,none⟩) 3 3,.int .i64 5,.int .i64 1,.slice none 0 0]] W
  fun e w'=>∃ a c,e=.returned (.agg #[.slice a 1 c])∧MixR w' (fun b=>W.heap.size≤b) (.slice a 1 c) [[tri]]∧Below W.heap.size W w':=by
 have h1:=mof_any 0 (.slice (some ⟨b,0,none⟩) 3 3) (.slice none 0 0) tri W ⟨Bxx.ints (l:=[0,2,4]) h (by decide) (by decide),Ints.nil _⟩ (cf_fv tri_cf)
 rw [show ofM tri=[[tri]] from by unfold ofM;rw [tri_cf.canonC,show emptyB tri=false from by decide];rfl] at h1
 exact h1
theorem MixB.first {W:World} {b n k:Nat} {t:List Per} {m:List (List Per)} (h:MixB W b n (t :: m)) (hk:t.length=k):∃ bb o c ta tc,Bxx W b #[.slice (some ⟨bb,o,none⟩) n c] 28∧W.cell? ⟨bb,o,none⟩=some (.slice ta k tc)∧TermR W (fun _=>True) (.slice ta k tc) t:=by
 obtain ⟨a,c,h1,h2⟩:=h
 obtain ⟨bb,o,c',ta,tc,he,h3,h4⟩:=h2.first
 injection he with e1 e2 e3
 subst e1;subst e3;subst hk
 exact ⟨bb,o,_,ta,tc,h1,h3,h4⟩
theorem TermR.one_p {W:World} {F:Nat→Prop} {ta:Option Addr} {tc:Nat} {p:Per} (h:TermR W F (.slice ta 1 tc) [p]):∃ b o a1 n1 c1 a2 n2 c2,ta=some ⟨b,o,none⟩∧PVok W F ⟨.slice a1 n1 c1,.slice a2 n2 c2,p⟩∧
  W.cell? ⟨b,o,none⟩=some (.slice a1 n1 c1)∧W.cell? ⟨b,o+1,none⟩=some (.int .i64 p.frm)∧W.cell? ⟨b,o+2,none⟩=some (.int .i64 p.period)∧W.cell? ⟨b,o+3,none⟩=some (.slice a2 n2 c2):=by
 obtain ⟨b,o,c,a1,n1,c1,a2,n2,c2,he,hx,h0,h1,h2,h3⟩:=h.single rfl
 injection he with e1
 exact ⟨b,o,a1,n1,c1,a2,n2,c2,e1,hx,h0,h1,h2,h3⟩
set_option maxRecDepth 100000 in
set_option maxHeartbeats 4000000 in
theorem sanity_any (w:World) :
  Calls Tryz.prog 13 #[] w fun e w'=>e=.returned (.bool true)∧Below w.heap.size w w':=by
 have v14:=mv_one (cf_fv x1)
 have v36:=mv_one (cf_fv x2)
 have v26:=mv_one (cf_fv x3)
 have v02:=mv_one (cf_fv x4)
 have v06:=mv_one (cf_fv x5)
 have d2:(2:Int)∣27720:=⟨13860,by decide⟩
 have d4:(4:Int)∣27720:=⟨6930,by decide⟩
 have d6:(6:Int)∣27720:=⟨4620,by decide⟩
 have hS:=MSets.nil w
 have hE:=Er w
 go_enter Tryz.func13,Tryz.ntmps13
 go_upto_region 2 with (first|(go_at_call 53;go_loud (first|((with_reducible refine (cycle_any 4 1 (by omega) (by omega) d4 _).mono ?_);rintro e uA2 ⟨aA2,cA2,rfl,mA,kA⟩)|((with_reducible refine (cycle_any 6 3 (by omega) (by omega) d6 _).mono ?_);rintro e uB2 ⟨aB2,cB2,rfl,mB,kB⟩)))|(go_at_call 22;go_loud (refine (mand_any 0 _ _ (.slice aA2 1 cA2) (.slice aB2 1 cB2) _ _ _ (mA.ext kB) mB v14 v36).mono ?_;rintro e uR hR;obtain ⟨aR2,cR2,rfl,mR,kR⟩:=hR.is san_both (ok_one (by simp)) rfl)))
 refine wp_abs (F:=fun U=>MSets U ((uR.heap.size,1,[[ev 1 4,ev 3 6]]) :: [])∧Below w.heap.size w U) ⟨MSets.cons ⟨aR2,cR2,xB,(mR.mono fun _ _=>trivial).ext xE⟩ (hS.below xE),xE⟩ ?_
 clear hS hE mA mB kA kB mR kR
 generalize uR.heap.size=b2 at *
 rintro W2 ⟨hS,hE⟩
 go_upto_region 3 with (first|(go_at_call 53;go_loud (first|((with_reducible refine (cycle_any 4 1 (by omega) (by omega) d4 _).mono ?_);rintro e uA3 ⟨aA3,cA3,rfl,mA,kA⟩)|((with_reducible refine (cycle_any 6 2 (by omega) (by omega) d6 _).mono ?_);rintro e uB3 ⟨aB3,cB3,rfl,mB,kB⟩)))|(go_at_call 22;go_loud (refine (mand_any 0 _ _ (.slice aA3 1 cA3) (.slice aB3 1 cB3) _ _ _ (mA.ext kB) mB v14 v26).mono ?_;rintro e uR hR;obtain ⟨aR3,cR3,rfl,mR,kR⟩:=hR.is san_none ok_nil rfl)))
 refine wp_abs (F:=fun U=>MSets U ((uR.heap.size,0,[]) :: [(b2,1,[[ev 1 4,ev 3 6]])])∧Below w.heap.size w U) ⟨MSets.cons ⟨aR3,cR3,xB,(mR.mono fun _ _=>trivial).ext xE⟩ (hS.below xE),xE⟩ ?_
 clear hS hE mA mB kA kB mR kR
 generalize uR.heap.size=b3 at *
 rintro W3 ⟨hS,hE⟩
 go_upto_region 4 with (first|(go_at_call 53;go_loud (first|((with_reducible refine (cycle_any 2 0 (by omega) (by omega) d2 _).mono ?_);rintro e uA4 ⟨aA4,cA4,rfl,mA,kA⟩)|((with_reducible refine (cycle_any 4 1 (by omega) (by omega) d4 _).mono ?_);rintro e uB4 ⟨aB4,cB4,rfl,mB,kB⟩)))|(go_at_call 21;go_loud (refine (mor_any 0 _ _ (.slice aA4 1 cA4) (.slice aB4 1 cB4) _ _ _ (mA.ext kB) mB v02 v14).mono ?_;rintro e uR hR;obtain ⟨aR4,cR4,rfl,mR,kR⟩:=hR.is san_one' (ok_one (by simp)) rfl)))
 refine wp_abs (F:=fun U=>MSets U ((uR.heap.size,1,[[perOne]]) :: [(b3,0,[]),(b2,1,[[ev 1 4,ev 3 6]])])∧Below w.heap.size w U) ⟨MSets.cons ⟨aR4,cR4,xB,(mR.mono fun _ _=>trivial).ext xE⟩ (hS.below xE),xE⟩ ?_
 clear hS hE mA mB kA kB mR kR
 generalize uR.heap.size=b4 at *
 rintro W4 ⟨hS,hE⟩
 go_upto_region 5 with (first|(go_at_call 53;go_loud (first|((with_reducible refine (cycle_any 4 1 (by omega) (by omega) d4 _).mono ?_);rintro e uA5 ⟨aA5,cA5,rfl,mA,kA⟩)|((with_reducible refine (cycle_any 6 3 (by omega) (by omega) d6 _).mono ?_);rintro e uB5 ⟨aB5,cB5,rfl,mB,kB⟩)))|(go_at_call 21;go_loud (refine (mor_any 0 _ _ (.slice aA5 1 cA5) (.slice aB5 1 cB5) _ _ _ (mA.ext kB) mB v14 v36).mono ?_;rintro e uR hR;obtain ⟨aR5,cR5,rfl,mR,kR⟩:=hR.is san_two (ok_two (by simp) (by simp)) rfl)))
 refine wp_abs (F:=fun U=>MSets U ((uR.heap.size,2,[[ev 1 4],[ev 3 6]]) :: [(b4,1,[[perOne]]),(b3,0,[]),(b2,1,[[ev 1 4,ev 3 6]])])∧Below w.heap.size w U) ⟨MSets.cons ⟨aR5,cR5,xB,(mR.mono fun _ _=>trivial).ext xE⟩ (hS.below xE),xE⟩ ?_
 clear hS hE mA mB kA kB mR kR
 generalize uR.heap.size=b5 at *
 rintro W5 ⟨hS,hE⟩
 go_upto_region 6 with (first|(go_at_call 53;go_loud (first|((with_reducible refine (cycle_any 2 0 (by omega) (by omega) d2 _).mono ?_);rintro e uA6 ⟨aA6,cA6,rfl,mA,kA⟩)|((with_reducible refine (cycle_any 6 0 (by omega) (by omega) d6 _).mono ?_);rintro e uB6 ⟨aB6,cB6,rfl,mB,kB⟩)))|(go_at_call 23;go_loud (refine (mminus_any 0 _ _ (.slice aA6 1 cA6) (.slice aB6 1 cB6) _ _ _ (mA.ext kB) mB v02 v06).mono ?_;rintro e uR hR;obtain ⟨aR6,cR6,rfl,mR,kR⟩:=hR.is san_less' rfl)))
 refine wp_abs (F:=fun U=>MSets U ((uR.heap.size,1,[[perLess]]) :: [(b5,2,[[ev 1 4],[ev 3 6]]),(b4,1,[[perOne]]),(b3,0,[]),(b2,1,[[ev 1 4,ev 3 6]])])∧Below w.heap.size w U) ⟨MSets.cons ⟨aR6,cR6,xB,(mR.mono fun _ _=>trivial).ext xE⟩ (hS.below xE),xE⟩ ?_
 clear hS hE mA mB kA kB mR kR
 generalize uR.heap.size=b6 at *
 rintro W6 ⟨hS,hE⟩
 obtain ⟨aL7,cL7,gB,gM⟩:=hS.at 4 rfl
 have q0:=gB.c0
 go_upto_region 7 with (go_at_call 24;go_loud (refine (mjoin_any 0 _ (.slice aL7 1 cL7) [[ev 1 4,ev 3 6]] _ gM mv_both (by omega)).mono ?_;rintro e uR hR;rw [san_join] at hR;obtain ⟨hJ,cJ,rfl,pJ,kR⟩:=hR;obtain ⟨xa,xn,xc,ya,yn,yc,rfl,rfl⟩:=pJ.sl))
 refine wp_abs (F:=fun U=>MSets U [(b6,1,[[perLess]]),(b5,2,[[ev 1 4],[ev 3 6]]),(b4,1,[[perOne]]),(b3,0,[]),(b2,1,[[ev 1 4,ev 3 6]])]∧(Bxx U uR.heap.size #[.slice xa xn xc,.int .i64 (ev 9 12).frm,.int .i64 (ev 9 12).period,.slice ya yn yc] 39∧PerIs U (.slice xa xn xc) (.slice ya yn yc) (ev 9 12))∧Below w.heap.size w U) ⟨hS.below xE,⟨xB,pJ.ext xE⟩,xE⟩ ?_
 clear hS hE gB gM q0 kR pJ
 generalize uR.heap.size=b7 at *
 rintro W7 ⟨hS,hP,hE⟩
 obtain ⟨aL8,cL8,gB,gM⟩:=hS.at 4 rfl
 have q0:=gB.c0
 go_upto_region 8 with (go_at_call 15;go_loud (refine (mcount_any 0 _ (.slice aL8 1 cL8) [[ev 1 4,ev 3 6]] 0 30 _ gM mv_both (by omega) (by omega) (by omega) (by omega)).mono ?_;rintro e uR ⟨he,kR⟩;rw [san_join,show belowI (ev 9 12) 30-belowI (ev 9 12) 0=2 from by decide] at he;subst he))
 refine wp_abs (F:=fun U=>MSets U [(b6,1,[[perLess]]),(b5,2,[[ev 1 4],[ev 3 6]]),(b4,1,[[perOne]]),(b3,0,[]),(b2,1,[[ev 1 4,ev 3 6]])]∧(Bxx U b7 #[.slice xa xn xc,.int .i64 (ev 9 12).frm,.int .i64 (ev 9 12).period,.slice ya yn yc] 39∧PerIs U (.slice xa xn xc) (.slice ya yn yc) (ev 9 12))∧Below w.heap.size w U) ⟨hS.below xE,⟨hP.1.below xE,hP.2.ext xE⟩,xE⟩ ?_
 clear hS hP hE gB gM q0 kR
 rintro W8 ⟨hS,hP,hE⟩
 obtain ⟨aL9,cL9,gB,gM⟩:=hS.at 4 rfl
 have q0:=gB.c0
 go_upto_region 9 with (go_at_call 16;go_loud (refine (mnext_any 0 _ (.slice aL9 1 cL9) [[ev 1 4,ev 3 6]] 0 _ gM mv_both i0).mono ?_;rintro e uR ⟨n9,f9,rfl,hn,kR⟩;obtain ⟨rfl,rfl⟩:=hn.unique (show NextF FarI _ (max 0 0) 9 true from san_next)))
 refine wp_abs (F:=fun U=>MSets U [(b6,1,[[perLess]]),(b5,2,[[ev 1 4],[ev 3 6]]),(b4,1,[[perOne]]),(b3,0,[]),(b2,1,[[ev 1 4,ev 3 6]])]∧(Bxx U b7 #[.slice xa xn xc,.int .i64 (ev 9 12).frm,.int .i64 (ev 9 12).period,.slice ya yn yc] 39∧PerIs U (.slice xa xn xc) (.slice ya yn yc) (ev 9 12))∧Below w.heap.size w U) ⟨hS.below xE,⟨hP.1.below xE,hP.2.ext xE⟩,xE⟩ ?_
 clear hS hP hE gB gM q0 kR hn
 rintro W9 ⟨hS,hP,hE⟩
 go_upto_region 10 with (first|(go_at_call 53;first|((with_reducible refine (cycle_any 4 1 (by omega) (by omega) d4 _).mono ?_);rintro e uA10 ⟨aA10,cA10,rfl,mA,kA⟩)|((with_reducible refine (cycle_any 6 3 (by omega) (by omega) d6 _).mono ?_);rintro e uB10 ⟨aB10,cB10,rfl,mB,kB⟩))|(go_at_call 27;go_loud (refine (mfirst_any 0 _ _ (.slice aA10 1 cA10) (.slice aB10 1 cB10) _ _ 10 _ (mA.ext kB) mB v14 v36 ⟨by decide,by decide⟩).mono ?_;rintro e uR ⟨n9,f9,rfl,hn,kR⟩;obtain ⟨rfl,rfl⟩:=hn.unique (show NextF FarI _ (max 10 0) 21 true from san_first))))
 refine wp_abs (F:=fun U=>MSets U [(b6,1,[[perLess]]),(b5,2,[[ev 1 4],[ev 3 6]]),(b4,1,[[perOne]]),(b3,0,[]),(b2,1,[[ev 1 4,ev 3 6]])]∧(Bxx U b7 #[.slice xa xn xc,.int .i64 (ev 9 12).frm,.int .i64 (ev 9 12).period,.slice ya yn yc] 39∧PerIs U (.slice xa xn xc) (.slice ya yn yc) (ev 9 12))∧Below w.heap.size w U) ⟨hS.below xE,⟨hP.1.below xE,hP.2.ext xE⟩,xE⟩ ?_
 clear hS hP hE mA mB kA kB kR hn
 rintro W10 ⟨hS,hP,hE⟩
 go_upto_region 11 with (first|(go_at_call 53;(with_reducible refine (cycle_any 2 0 (by omega) (by omega) d2 _).mono ?_);rintro e uA11 ⟨aA11,cA11,rfl,mA,kA⟩)|(go_at_call 54;go_loud (refine (of_tri _ _ xB).mono ?_;rintro e uB11 ⟨aB11,cB11,rfl,mB,kB⟩))|(go_at_call 38;go_loud (refine (mapart_any 0 _ _ (.slice aA11 1 cA11) (.slice aB11 1 cB11) _ _ _ (mA.ext xE) mB v02 (mv_one (cf_fv tri_cf))).mono ?_;rintro e uR hR;obtain ⟨rfl,kR⟩:=hR.is san_m1 san_m2 san_apart)))
 refine wp_abs (F:=fun U=>MSets U [(b6,1,[[perLess]]),(b5,2,[[ev 1 4],[ev 3 6]]),(b4,1,[[perOne]]),(b3,0,[]),(b2,1,[[ev 1 4,ev 3 6]])]∧(Bxx U b7 #[.slice xa xn xc,.int .i64 (ev 9 12).frm,.int .i64 (ev 9 12).period,.slice ya yn yc] 39∧PerIs U (.slice xa xn xc) (.slice ya yn yc) (ev 9 12))∧Below w.heap.size w U) ⟨hS.below xE,⟨hP.1.below xE,hP.2.ext xE⟩,xE⟩ ?_
 clear hS hP hE mA mB kA kB kR
 rintro W11 ⟨hS,hP,hE⟩
 obtain ⟨bb2,o2,c2,t2,tc2,B2,E2,-⟩:=(hS.at 4 rfl).first (k:=2) rfl
 obtain ⟨a3,c3,B3,M3⟩:=hS.at 3 rfl
 obtain ⟨bb4,o4,c4,t4,tc4,B4,E4,T4⟩:=(hS.at 2 rfl).first (k:=1) rfl
 obtain ⟨a5,c5,B5,M5⟩:=hS.at 1 rfl
 obtain ⟨bb6,o6,c6,t6,tc6,B6,E6,T6⟩:=(hS.at 0 rfl).first (k:=1) rfl
 obtain ⟨f4,g4,a41,n41,c41,a42,n42,c42,rfl,P4,z0,z1,z2,z3⟩:=T4.one_p
 obtain ⟨f6,g6,a61,n61,c61,a62,n62,c62,rfl,P6,y0,y1,y2,y3⟩:=T6.one_p
 have q2:=B2.c0
 have q3:=B3.c0
 have q4:=B4.c0
 have q5:=B5.c0
 have q6:=B6.c0
 have HP:=Lib.hid hP
 have HS:=Lib.hid hS
 have HE:=Lib.hid hE
 have HM3:=Lib.hid M3
 have HB6:=Lib.hid B6
 have HSF4:=Lib.hid (fun W b (h:Below W11.heap.size W11 W) (hb:Bxx W b #[.int .i64 0,.int .i64 1,.int .i64 2] 3)=>sf_lit _ (.slice a41 n41 c41) (.slice a42 n42 c42) perOne 4 [0,1,2] 3 b W (P4.keep (KeepF.below h)) hb rfl rfl ⟨by decide,by decide⟩ (by decide) (by decide))
 have HSF6:=Lib.hid (fun W b (h:Below W11.heap.size W11 W) (hb:Bxx W b #[.int .i64 2,.int .i64 4] 3)=>sf_lit _ (.slice a61 n61 c61) (.slice a62 n62 c62) perLess 6 [2,4] 2 b W (P6.keep (KeepF.below h)) hb rfl rfl ⟨by decide,by decide⟩ (by decide) (by decide))
 clear hP hS hE M3 M5 T4 T6 P4 P6 B2 B3 B4 B5 B6 v14 v36 v26 v02 v06 d2 d4 d6
 go_upto_region 13 with (fail)
 go_upto_region 14 with (go_at_call 44;go_loud (first
  | ((with_reducible refine (HSF4.out _ _ (Ea (Er _) _) (Bxx.new _ _ _)).mono ?_);rintro e u1 ⟨rfl,k1⟩;have hb1:Below W11.heap.size W11 u1:=Et (Ea (Er _) _) k1;have r6:=(HB6.out.below hb1).c0;have G6:=Ext.cell hb1 E6;have x0:=Ext.cell hb1 y0;have x1:=Ext.cell hb1 y1;have x2:=Ext.cell hb1 y2;have x3:=Ext.cell hb1 y3)
  | ((with_reducible refine (HSF6.out _ _ (Ea hb1 _) (Bxx.new _ _ _)).mono ?_);rintro e u2 ⟨rfl,k2⟩)))
 have hb2:Below W11.heap.size W11 u2:=Et (Ea hb1 _) k2
 have HB2:=Lib.hid hb2
 have hP2:=HP.out.1.below hb2
 have p0:=(hP2.cells 0).1
 have p1:=(hP2.cells 1).1
 have p2:=(hP2.cells 2).1
 have p3:=(hP2.cells 3).1
 have HS2:=Lib.hid (HS.out.below hb2)
 have HSF9:=Lib.hid (fun W b (h:Below u2.heap.size u2 W) (hb:Bxx W b #[.int .i64 9] 3)=>sf_lit (fun _=>True) (.slice xa xn xc) (.slice ya yn yc) (ev 9 12) 12 [9] 1 b W ⟨(HP.out.2.ext hb2).ext h,show InI (0:Int) from i0,show InI (12:Int) from ⟨by decide,by decide⟩,fun _ _ _=>trivial,fun _ _ _=>trivial⟩ hb rfl rfl ⟨by decide,by decide⟩ (by decide) (by decide))
 clear hP2 hb1 hb2 k1 k2 q2 q3 q4 q5 q6 E2 E4 E6 z0 z1 z2 z3 y0 y1 y2 y3 r6 G6 x0 x1 x2 x3
 go_upto_region 15 with (fail)
 obtain ⟨a3',c3',N3,M3'⟩:=HS2.out.at 3 rfl
 obtain ⟨a2',c2',N2,M2'⟩:=HS2.out.at 4 rfl
 have HN3:=Lib.hid N3
 have HN2:=Lib.hid N2
 have HM3':=Lib.hid M3'
 have HM2':=Lib.hid M2'
 clear N3 N2 M3' M2'
 go_wp2_with (first|(go_at_call 44;go_loud ((with_reducible refine (HSF9.out _ _ (Ea (Er _) _) (Bxx.new _ _ _)).mono ?_);rintro e u3 ⟨rfl,k3⟩;have hb3:Below u2.heap.size u2 u3:=Et (Ea (Er _) _) k3;have s3:=(HN3.out.below hb3).c0;have HB3:=Lib.hid hb3;clear hb3 k3))|(go_at_call 25;go_loud (first
   | ((with_reducible refine (mempty_any _ (.slice a3' 0 c3') [] _ (HM3'.out.ext HB3.out)).mono ?_);rintro e u4 ⟨b4',rfl,hb4,k4⟩;obtain rfl:b4'=true:=hb4.2 ⟨by decide,by simp⟩;have HB4:=Lib.hid (Et HB3.out k4);clear k4 hb4)
   | ((with_reducible refine (mempty_any (fun _=>True) (.slice none 0 0) [] _ (mix_nil _)).mono ?_);rintro e u5 ⟨b5',rfl,hb5,k5⟩;obtain rfl:b5'=true:=hb5.2 ⟨by decide,by simp⟩;have hbb:=Et HB4.out k5;have s2:=(HN2.out.below hbb).c0;have HB5:=Lib.hid hbb;clear k5 hbb hb5)))|(go_at_call 26;go_loud ((with_reducible refine (mfinite_any _ (.slice a2' 1 c2') [[ev 1 4,ev 3 6]] _ (HM2'.out.ext HB5.out)).mono ?_);rintro e u6 ⟨b6',rfl,hb6,k6⟩;obtain rfl:b6'=false:=(by cases b6';rfl;exact absurd both_rec ((hb6.1 rfl).2 _ (by simp))))))
 go_ret
 exact ⟨rfl,(HE.out.trans (HB2.out.mono HE.out.size)).trans ((Et HB5.out k6).mono (HE.out.trans (HB2.out.mono HE.out.size)).size)⟩
end Go.Proofs.YthjnojbeimchdaaGreat
