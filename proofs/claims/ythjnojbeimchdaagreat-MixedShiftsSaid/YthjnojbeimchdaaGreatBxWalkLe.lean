/- Walk: the law MixedShifts. -/
import Derived.Test.YthjnojbeimchdaaGreatBxSupWalkLe
set_option linter.unusedVariables false
set_option linter.unusedSimpArgs false
namespace Go.Proofs.YthjnojbeimchdaaGreat
open Go.RowKit Go.Maps Kal
def ShiftLaw (s b:Int) (m:List (List Per)) (w:World) (e:Ending) (w':World):Prop:=
 ∃ (a:Option Addr) (c:Nat) (mk:List (List Per)),e=.returned (.tuple #[.agg #[.slice a mk.length c],.int .i64 0])∧MixR w' (fun _=>True) (.slice a mk.length c) mk∧Below w.heap.size w w'∧MV (max (s+b) 0) mk∧mk.length≤3∧(∀ t∈mk,t.length≤3)∧∀ n,mmem mk n↔0≤n∧mmem m (n-b)
theorem shift_law (s b:Int) (F:Nat→Prop) (v:Value) (m:List (List Per)) (w:World) (hm:MixR w F v m) (k1:MV s m) (hl:m.length≤3) (ht:∀ t∈m,t.length≤3) (hb:InI b) (h0:-1099511627776≤b) (h1:max (s+b) 0+9≤1099511627776) (h2:b≤1099511627776) :
  Calls Tryz.prog 50 #[.agg #[v],.int .i64 b] w (ShiftLaw s b m w):=
 (mshift_any s b F v m w hm k1 hb).mono fun e w' h=>by
  have hs:∀ t∈m,∀ p∈t,shE p b=0:=fun t ht p hp=>shE_small ((k1.vt t ht).fv p hp).fac h0 h1 h2
  rcases h with ⟨_,h⟩|⟨k,⟨t,ht',p,hp,he⟩,hk,_⟩
  ·obtain ⟨hf,hmem⟩:=shL_any (b:=b) k1.f
   obtain ⟨a,c,k,mk,rfl,x1,x2,h5⟩:=h.num
   rcases h5 with ⟨rfl,x3,x4⟩|⟨_,_,_,_,m',x3,x4⟩
   ·obtain ⟨_,y2,y3,y4⟩:=x3.ok hf
    refine ⟨a,c,mk,rfl,x1.mono fun _ _=>trivial,x2,x4,?_,y4 3 (by omega) ?_,fun n=>(y2 n).trans (hmem n)⟩
    ·simp [shL] at y3;omega
    ·intro t ht2
     obtain ⟨u,hu,rfl⟩:=List.mem_map.1 ht2
     simpa using ht u hu
   ·exfalso
    obtain ⟨_,y2,y3,y4⟩:=x3.ok hf
    refine x4 ⟨?_,fun t ht3=>Nat.le_trans (y4 3 (by omega) (fun t ht2=>?_) t ht3) (by omega)⟩
    ·simp [shL] at y3;omega
    ·obtain ⟨u,hu,rfl⟩:=List.mem_map.1 ht2
     simpa using ht u hu
  ·exact absurd (he.symm.trans (hs t ht' p hp)) hk
theorem back_same {m mk bk:List (List Per)} {n:Int} (h:MV 0 m) (hn:0≤n) (h1:∀ x,mmem mk x↔0≤x∧mmem m (x-n)) (h2:∀ x,mmem bk x↔0≤x∧mmem mk (x - -n)) (x:Int):mmem bk x↔mmem m x:=by
 rw [h2,h1,show x - -n-n=x by omega]
 refine ⟨fun h=>h.2.2,fun hx=>?_⟩
 obtain ⟨t,ht,hx2⟩:=hx
 have:=tmem_nonneg (h.vt t ht).ne hx2
 exact ⟨by omega,by omega,t,ht,hx2⟩
theorem next_shift {m mk:List (List Per)} {f n c d:Int} {is was:Bool} (h:MadeM m) (f0:0≤f) (f1:f≤65535) (hn0:0≤n) (hn1:n≤32768) (h1:∀ x,mmem mk x↔0≤x∧mmem m (x-n)) (hc:NextF FarI (mmem m) f c is) (hd:NextF FarI (mmem mk) (f+n) d was):is=was∧(is=true→f≤c∧c<f+28000∧d=c+n):=by
 cases is
 ·cases was
  ·exact ⟨rfl,fun h=>by cases h⟩
  ·exfalso
   rcases hd with ⟨_,a1,a2,a3,_⟩|⟨h,_⟩
   ·have a2':d≤1152921504606846976:=a2
    exact next_none hc (d-n) (by omega) (by omega) ((h1 d).1 a3).2
   ·cases h
 ·obtain ⟨b1,b2,b3,b4⟩:=next_near h.fac f0 hc
  have hm:mmem mk (c+n):=(h1 _).2 ⟨by omega,by rw [show c+n-n=c by omega];exact b3⟩
  cases was
  ·exact absurd hm (next_none hd (c+n) (by omega) (by omega))
  ·rcases hd with ⟨_,a1,a2,a3,a4⟩|⟨h,_⟩
   ·refine ⟨rfl,fun _=>⟨b1,b2,?_⟩⟩
    have e1:¬ c+n<d:=fun hlt=>a4 (c+n) (by omega) hlt hm
    have e2:¬ d-n<c:=fun hlt=>b4 (d-n) (by omega) hlt ((h1 d).1 a3).2
    omega
   ·cases h
def SameLaw (m1 m2:List (List Per)) (w:World) (e:Ending) (w':World):Prop:=∃ (b:Bool) (k:Int),e=.returned (.tuple #[.bool b,.int .i64 k])∧(k=0∨(k=2∧b=false))∧(k=0→(b=true↔∀ n,mmem m1 n↔mmem m2 n))∧Below w.heap.size w w'
theorem SameRes.law {s:Int} {m1 m2:List (List Per)} (k1:MV s m1) (k2:MV s m2) {w w':World} {e:Ending} (h:SameRes m1 m2 w e w'):SameLaw m1 m2 w e w':=by
 obtain ⟨b,r,hB,hb,⟨mk,nk,rfl,hi,rfl⟩|⟨rfl,rfl⟩⟩:=h
 ·refine ⟨b,0,rfl,.inl rfl,fun _=>hi.trans ?_,hb⟩
  have a1:=(hB.1.ok k1.f k2.f).2
  have a2:=(hB.2.ok k2.f k1.f).2
  constructor
  ·rintro ⟨e1,e2⟩ n
   exact ⟨fun h=>Classical.byContradiction fun g=>barren_no e1 n ((a1 n).2 ⟨h,g⟩),fun h=>Classical.byContradiction fun g=>barren_no e2 n ((a2 n).2 ⟨h,g⟩)⟩
  ·intro hs
   exact ⟨fun t ht n hx=>by have h9:=(a1 n).1 ⟨t,ht,hx⟩;exact h9.2 ((hs n).1 h9.1),fun t ht n hx=>by have h9:=(a2 n).1 ⟨t,ht,hx⟩;exact h9.2 ((hs n).2 h9.1)⟩
 ·exact ⟨false,2,rfl,.inr ⟨rfl,rfl⟩,fun h=>absurd h (by decide),hb⟩
set_option maxRecDepth 100000 in
set_option maxHeartbeats 4000000 in
theorem MixedShifts_any (v0:Value) (n0:Nat) (nn dy:Int) (w:World) (h0:ByteRows w v0 n0) (b0:-32768≤nn) (b1:nn≤32767) (f0:0≤dy) (f1:dy≤65535) :
  Calls Tryz.prog 12 #[v0,.int .i16 nn,.int .u16 dy] w fun e w'=>e=.returned (.bool true)∧Below w.heap.size w w':=by
 have H0:=Lib.hid h0
 clear h0
 go_enter Tryz.func12,Tryz.ntmps12
 go_upto_region 3 with (first|(go_at_call 13;refine (sanity_any _).mono ?_;rintro e w1 ⟨rfl,k1⟩)|(go_at_call 14;(with_reducible refine (Made_any v0 n0 _ (H0.out.ext (by (repeat' (with_reducible first|assumption|apply Er|apply Ea|apply Ed|apply En|(refine Es ?_ (by first|(simp<;>omega)|omega) _)|refine Et ?_ (by assumption)))))).mono ?_);rintro e w2 ⟨m,aA,cA,rfl,xA,dA,k2⟩))
 refine wp_abs (F:=fun U=>MSets U [(w2.heap.size,m.length,m)]∧Below w.heap.size w U) ⟨MSets.cons ⟨aA,cA,by (repeat' (first|(refine Bxx.at ?_;simp;done)|refine Bxx.alloc ?_ _)),(xA.mono fun _ _=>trivial).ext (by (repeat' (with_reducible first|assumption|apply Er|apply Ea|apply Ed|apply En|(refine Es ?_ (by first|(simp<;>omega)|omega) _)|refine Et ?_ (by assumption))))⟩ (MSets.nil _),by (repeat' (with_reducible first|assumption|apply Er|apply Ea|apply Ed|apply En|(refine Es ?_ (by first|(simp<;>omega)|omega) _)|refine Et ?_ (by assumption)))⟩ ?_
 clear k1 k2 xA
 have HA:=Lib.hid dA
 clear dA
 generalize w2.heap.size=b8 at *
 rintro W3 ⟨hS,hE⟩
 obtain ⟨a8,c8,g8,x8⟩:=hS.at 0 rfl
 have q8:=g8.c0
 have HSH:=Lib.hid (fun W (h:MixR W (fun _=>True) (.slice a8 m.length c8) m)=>shift_law 0 nn _ (.slice a8 m.length c8) m W h HA.out.mv HA.out.len HA.out.tlen ⟨by omega,by omega⟩ (by omega) (by omega) (by omega))
 go_upto_region 5 with (go_at_call 50;(with_reducible refine (HSH.out _ x8).mono ?_);rintro e w4 ⟨a4,c4,mk,rfl,x4,k4,v4,l4,t4,h4⟩)
 refine wp_abs (F:=fun U=>MSets U ((w4.heap.size,mk.length,mk) :: [(b8,m.length,m)])∧Below w.heap.size w U) ⟨MSets.cons ⟨a4,c4,by (repeat' (first|(refine Bxx.at ?_;simp;done)|refine Bxx.alloc ?_ _)),x4.ext (by (repeat' (with_reducible first|assumption|apply Er|apply Ea|apply Ed|apply En|(refine Es ?_ (by first|(simp<;>omega)|omega) _)|refine Et ?_ (by assumption))))⟩ (hS.below (by (repeat' (with_reducible first|assumption|apply Er|apply Ea|apply Ed|apply En|(refine Es ?_ (by first|(simp<;>omega)|omega) _)|refine Et ?_ (by assumption))))),by (repeat' (with_reducible first|assumption|apply Er|apply Ea|apply Ed|apply En|(refine Es ?_ (by first|(simp<;>omega)|omega) _)|refine Et ?_ (by assumption)))⟩ ?_
 have HV4:=Lib.hid v4
 have HL4:=Lib.hid l4
 have HT4:=Lib.hid t4
 have HM4:=Lib.hid h4
 clear HSH hS hE g8 x8 q8 x4 k4 v4 l4 t4 h4
 generalize w4.heap.size=b10 at *
 rintro W5 ⟨hS,hE⟩
 obtain ⟨a6,c6,gA,xA⟩:=hS.at 1 rfl
 obtain ⟨a7,c7,gB,xB⟩:=hS.at 0 rfl
 have GA:=Lib.hid gA
 have GB:=Lib.hid gB
 have XA:=Lib.hid xA
 have XB:=Lib.hid xB
 have HE:=Lib.hid hE
 have HS:=Lib.hid hS
 clear hS hE gA gB xA xB
 have HEQ:hasM mk dy=hasM m (dy-nn):=Bool.eq_iff_iff.2 ((hasM_iff HV4.out).trans (((HM4.out dy).trans ⟨fun h=>h.2,fun h=>⟨f0,h⟩⟩).trans (hasM_iff HA.out.mv).symm))
 have HH1:=fun W (h:Below W5.heap.size W5 W)=>mhas_any _ (.slice a7 mk.length c7) mk dy W (XB.out.ext h) ⟨by omega,by omega⟩
 have HH2:=Lib.hid (fun W (h:Below W5.heap.size W5 W)=>mhas_any _ (.slice a6 m.length c6) m (dy-nn) W (XA.out.ext h) ⟨by omega,by omega⟩)
 rw [HEQ] at HH1
 have HH1:=Lib.hid HH1
 have HWD:=Lib.hid (wrapI (x:=dy) ⟨by omega,by omega⟩)
 have HWR:=Lib.hid (wrapI (x:=dy-nn) ⟨by omega,by omega⟩)
 generalize hasM m (dy-nn)=bh at *
 clear HEQ
 have HRF:Below W5.heap.size W5 W5:=Er _
 cases bh
 all_goals
  go_region_held3 (fun w'=>w'.cell? ⟨b8,0,none⟩=some (.slice a6 m.length c6)∧w'.cell? ⟨b10,0,none⟩=some (.slice a7 mk.length c7)∧Below W5.heap.size W5 w') ((go_split_ands;refine ⟨(GA.out.below (by (repeat' (with_reducible first|assumption|apply Er|apply Ea|apply Ed|apply En|(refine Es ?_ (by first|(simp<;>omega)|omega) _)|refine Et ?_ (by assumption))))).c0,(GB.out.below (by (repeat' (with_reducible first|assumption|apply Er|apply Ea|apply Ed|apply En|(refine Es ?_ (by first|(simp<;>omega)|omega) _)|refine Et ?_ (by assumption))))).c0,by (repeat' (with_reducible first|assumption|apply Er|apply Ea|apply Ed|apply En|(refine Es ?_ (by first|(simp<;>omega)|omega) _)|refine Et ?_ (by assumption)))⟩))
   (first|(go_at_call 19;(try simp only [HWD.out,HWR.out]);first|((with_reducible refine (HH1.out _ (by go_split_ands;(repeat' (with_reducible first|assumption|apply Er|apply Ea|apply Ed|apply En|(refine Es ?_ (by first|(simp<;>omega)|omega) _)|refine Et ?_ (by assumption))))).mono ?_);rintro e u ⟨rfl,k⟩)|((with_reducible refine (HH2.out _ (by go_split_ands;(repeat' (with_reducible first|assumption|apply Er|apply Ea|apply Ed|apply En|(refine Es ?_ (by first|(simp<;>omega)|omega) _)|refine Et ?_ (by assumption))))).mono ?_);rintro e u ⟨rfl,k⟩)))
 all_goals
  by_cases hneg:nn<0
  ·go_wp2_with fail
   go_ret
   exact ⟨rfl,Et HE.out (by go_split_ands;(repeat' (with_reducible first|assumption|apply Er|apply Ea|apply Ed|apply En|(refine Es ?_ (by first|(simp<;>omega)|omega) _)|refine Et ?_ (by assumption))))⟩
  have hml:max (max (0+nn) 0+-nn) 0=0:=by omega
  have hmx:max (0+nn) 0=nn:=by omega
  have HSB:=Lib.hid (fun W (h:Below W5.heap.size W5 W)=>shift_law (max (0+nn) 0) (-nn) _ (.slice a7 mk.length c7) mk W (XB.out.ext h) HV4.out HL4.out HT4.out ⟨by omega,by omega⟩ (by omega) (by omega) (by omega))
  have HWN:=Lib.hid (wrapI (x:=-nn) ⟨by omega,by omega⟩)
  go_split_ands
  clear HH1 HH2
  go_upto_region 10 with (go_at_call 50;(with_reducible refine (HSB.out _ (by go_split_ands;(repeat' (with_reducible first|assumption|apply Er|apply Ea|apply Ed|apply En|(refine Es ?_ (by first|(simp<;>omega)|omega) _)|refine Et ?_ (by assumption))))).mono ?_);rintro e w6 ⟨a9,c9,bk,rfl,x9,k9,v9,l9,t9,h9⟩;rw [hml] at v9)
  have hE5:=HE.out
  refine wp_abs (F:=fun U=>MSets U ((w6.heap.size,bk.length,bk) :: (b10,mk.length,mk) :: [(b8,m.length,m)])∧Below w.heap.size w U) ⟨MSets.cons ⟨a9,c9,by (repeat' (first|(refine Bxx.at ?_;simp;done)|refine Bxx.alloc ?_ _)),x9.ext (by (repeat' (with_reducible first|assumption|apply Er|apply Ea|apply Ed|apply En|(refine Es ?_ (by first|(simp<;>omega)|omega) _)|refine Et ?_ (by assumption))))⟩ (HS.out.below (by (repeat' (with_reducible first|assumption|apply Er|apply Ea|apply Ed|apply En|(refine Es ?_ (by first|(simp<;>omega)|omega) _)|refine Et ?_ (by assumption))))),by (repeat' (with_reducible first|assumption|apply Er|apply Ea|apply Ed|apply En|(refine Es ?_ (by first|(simp<;>omega)|omega) _)|refine Et ?_ (by assumption)))⟩ ?_
  have HV9:=Lib.hid v9
  have HM9:=Lib.hid h9
  generalize w6.heap.size=b12 at *
  rintro W7 ⟨hS7,hE7⟩
  obtain ⟨d8,f8,gm,xm⟩:=hS7.at 2 rfl
  obtain ⟨d10,f10,gk,xk⟩:=hS7.at 1 rfl
  obtain ⟨d12,f12,gb,xb⟩:=hS7.at 0 rfl
  have r8:=gm.c0
  have r12:=gb.c0
  have GM:=Lib.hid gm
  have GK:=Lib.hid gk
  have HE7:=Lib.hid hE7
  have HSM:=Lib.hid ((msame_any 0 _ _ (.slice d12 bk.length f12) (.slice d8 m.length f8) bk m W7 xb xm HV9.out HA.out.mv).mono fun _ _ h=>h.law HV9.out HA.out.mv)
  have HN1:=fun W (h:Below W7.heap.size W7 W)=>mnext_any 0 _ (.slice d8 m.length f8) m dy W (xm.ext h) HA.out.mv ⟨by omega,by omega⟩
  rw [show max dy 0=dy by omega] at HN1
  have HN1:=Lib.hid HN1
  have HN2:=fun W (h:Below W7.heap.size W7 W)=>mnext_any (max (0+nn) 0) _ (.slice d10 mk.length f10) mk (dy+nn) W (xk.ext h) HV4.out ⟨by omega,by omega⟩
  rw [show max (dy+nn) 0=dy+nn by omega] at HN2
  have HN2:=Lib.hid HN2
  have HBS:=Lib.hid (back_same HA.out.mv (show 0≤nn by omega) HM4.out HM9.out)
  clear hS7 hE7 gm gk gb xm xk xb v9 h9 x9 k9 hE5 hml hmx HSB HRF
  go_upto_region 13 with (first|(go_at_call 36;(with_reducible refine HSM.out.mono ?_);rintro e w8 ⟨bs,ks,rfl,hks,hsm,k8⟩;have HB8:=Lib.hid k8;have s8:=(GM.out.below HB8.out).c0;have hbs:ks=0→bs=true:=fun h=>(hsm h).2 HBS.out;clear hsm k8)|(go_at_call 16;first
    | ((with_reducible refine (HN1.out _ HB8.out).mono ?_);rintro e w9 ⟨c,is,rfl,hn,k9⟩;have HX1:=Lib.hid hn;have HB9:=Lib.hid (Et HB8.out k9);have s10:=(GK.out.below HB9.out).c0;clear hn k9)
    | ((with_reducible refine (HN2.out _ HB9.out).mono ?_);rintro e w10 ⟨d,was,rfl,hn,k10⟩;have HX2:=Lib.hid hn;have HB10:=Lib.hid (Et HB9.out k10);clear hn k10)))
  obtain ⟨hiw,hcd⟩:=next_shift HA.out f0 f1 (show 0≤nn by omega) (by omega) HM4.out HX1.out HX2.out
  subst hiw
  have hcd2:is=false∨(is=true∧dy≤c∧c<dy+28000∧d=c+nn):=by
   cases is
   ·exact .inl rfl
   ·exact .inr ⟨rfl,hcd rfl⟩
  have hks2:(ks=0∧bs=true)∨(ks=2∧bs=false):=hks.imp (fun h=>⟨h,hbs h⟩) id
  clear hcd hks hbs
  rcases hcd2 with rfl|⟨rfl,hc1,hc2,rfl⟩
  all_goals
   rcases hks2 with ⟨rfl,rfl⟩|⟨rfl,rfl⟩
  all_goals
   go_wp2_with fail
   go_ret
   exact ⟨rfl,Et HE7.out HB10.out⟩
end Go.Proofs.YthjnojbeimchdaaGreat
