/- Walks: PeriodicMatchesReference (package kalendslaw04). -/
import Derived.Test.YtjilkhhokkncoaaGreatMWalkEa
import Derived.Test.YtjilkhhokkncoaaGreatMWalkCw
import Derived.Test.YtjilkhhokkncoaaGreatMK16
import Derived.Test.YtjilkhhokkncoaaGreatMRegS
import Derived.Deep.Cut
import Derived.Deep.CutBlock
import Derived.Deep.DeepCutAuto
set_option linter.unusedVariables false
set_option linter.unusedSimpArgs false
namespace Go.Proofs.YtjilkhhokkncoaaGreat
open Go.RowKit Go.Maps Kal
set_option maxRecDepth 100000 in
set_option maxHeartbeats 8000000 in
theorem PeriodicMatchesReference_any (va:Value) (vb:Value) (fr:Int) (w:World) (hra:RawIs w va) (hrb:RawIs w vb) (fr0:-9223372036854775808≤fr) (fr1:fr≤9223372036854775807) :
  Calls Tryz.prog 4 #[va,vb,.int .i64 fr] w fun e w'=>e=.returned (.bool true)∧Below w.heap.size w w':=by
 obtain ⟨hva,cva,hla,cla,fa,ta,rfl,hBa,hCa,f0a,f1a,t0a,t1a⟩:=hra
 have HBa:=Lib.hid hBa
 have HCa:=Lib.hid hCa
 obtain ⟨⟨a1a,c1a,rfl,jA⟩,jB,jC⟩:=hBa
 clear jA jB jC
 obtain ⟨⟨a2a,c2a,rfl,jA⟩,jB,jC⟩:=hCa
 clear jA jB jC
 obtain ⟨hvb,cvb,hlb,clb,fb,tb,rfl,hBb,hCb,f0b,f1b,t0b,t1b⟩:=hrb
 have HBb:=Lib.hid hBb
 have HCb:=Lib.hid hCb
 obtain ⟨⟨a1b,c1b,rfl,jA⟩,jB,jC⟩:=hBb
 clear jA jB jC
 obtain ⟨⟨a2b,c2b,rfl,jA⟩,jB,jC⟩:=hCb
 clear jA jB jC
 go_enter Tryz.func4,Tryz.ntmps4
 go_upto_region 1 with (fail)
 refine wp_abs (F:=fun U=>Bxx U (w.heap.size) #[.slice a1a hla.length c1a,.int .u8 fa,.int .u8 ta,.slice a2a cla.length c2a] 40∧Bxx U (w.heap.size+1) #[.slice a1b hlb.length c1b,.int .u8 fb,.int .u8 tb,.slice a2b clb.length c2b] 40∧Sets U []∧Below w.heap.size w U) ⟨by (repeat' (first|(refine Bxx.at ?_;simp;done)|refine Bxx.alloc ?_ _)),by (repeat' (first|(refine Bxx.at ?_;simp;done)|refine Bxx.alloc ?_ _)),Sets.nil _,by (repeat' (with_reducible first|assumption|apply Er|apply Ea|apply Ed|apply En|(refine Es ?_ (by first|(simp<;>omega)|omega) _)|refine Et ?_ (by assumption)))⟩ ?_
 rintro W1 ⟨hWa,hWb,hS,hE⟩
 go_upto_region 2 with (go_at_call 5;refine (sanity_any _).mono ?_;rintro e u1 ⟨rfl,k1⟩)
 refine wp_abs (F:=fun U=>Bxx U (w.heap.size) #[.slice a1a hla.length c1a,.int .u8 fa,.int .u8 ta,.slice a2a cla.length c2a] 40∧Bxx U (w.heap.size+1) #[.slice a1b hlb.length c1b,.int .u8 fb,.int .u8 tb,.slice a2b clb.length c2b] 40∧Sets U []∧Below w.heap.size w U) ⟨hWa.below (by (repeat' (with_reducible first|assumption|apply Er|apply Ea|apply Ed|apply En|(refine Es ?_ (by first|(simp<;>omega)|omega) _)|refine Et ?_ (by assumption)))),hWb.below (by (repeat' (with_reducible first|assumption|apply Er|apply Ea|apply Ed|apply En|(refine Es ?_ (by first|(simp<;>omega)|omega) _)|refine Et ?_ (by assumption)))),hS.below (by (repeat' (with_reducible first|assumption|apply Er|apply Ea|apply Ed|apply En|(refine Es ?_ (by first|(simp<;>omega)|omega) _)|refine Et ?_ (by assumption)))),by (repeat' (with_reducible first|assumption|apply Er|apply Ea|apply Ed|apply En|(refine Es ?_ (by first|(simp<;>omega)|omega) _)|refine Et ?_ (by assumption)))⟩ ?_
 clear hWa hWb hS hE k1
 rintro W2 ⟨hWa,hWb,hS,hE⟩
 have r0:=(hWa.cells 0).1
 have r1:=(hWa.cells 1).1
 have r2:=(hWa.cells 2).1
 have r3:=(hWa.cells 3).1
 go_upto_region 3 with (go_at_call 23;refine (Made_any _ _ hla cla fa ta _ (HBa.out.ext (by (repeat' (with_reducible first|assumption|apply Er|apply Ea|apply Ed|apply En|(refine Es ?_ (by first|(simp<;>omega)|omega) _)|refine Et ?_ (by assumption))))) (HCa.out.ext (by (repeat' (with_reducible first|assumption|apply Er|apply Ea|apply Ed|apply En|(refine Es ?_ (by first|(simp<;>omega)|omega) _)|refine Et ?_ (by assumption))))) f0a f1a t0a t1a).mono ?_;rintro e uR ⟨hR,cR,x,rfl,oR,wfx,frx,prx,kR⟩;have sR:=oR.is;obtain ⟨x1_2,y1_2,x2_2,y2_2,rfl,rfl⟩:=oR.form;clear oR)
 have Sx:Hid (Sm 20 12 x):=Lib.hid ⟨wfx,frx,prx⟩
 refine wp_abs (F:=fun U=>Bxx U (w.heap.size+1) #[.slice a1b hlb.length c1b,.int .u8 fb,.int .u8 tb,.slice a2b clb.length c2b] 40∧Sets U ((uR.heap.size,x) :: [])∧Below w.heap.size w U) ⟨hWb.below (by (repeat' (with_reducible first|assumption|apply Er|apply Ea|apply Ed|apply En|(refine Es ?_ (by first|(simp<;>omega)|omega) _)|refine Et ?_ (by assumption)))),Sets.cons ⟨.slice x1_2 (x:Per).head.length y1_2,.slice x2_2 (x:Per).cycle.length y2_2,by (repeat' (first|(refine Bxx.at ?_;simp;done)|refine Bxx.alloc ?_ _)),sR.ext (by (repeat' (with_reducible first|assumption|apply Er|apply Ea|apply Ed|apply En|(refine Es ?_ (by first|(simp<;>omega)|omega) _)|refine Et ?_ (by assumption))))⟩ (hS.below (by (repeat' (with_reducible first|assumption|apply Er|apply Ea|apply Ed|apply En|(refine Es ?_ (by first|(simp<;>omega)|omega) _)|refine Et ?_ (by assumption))))),by (repeat' (with_reducible first|assumption|apply Er|apply Ea|apply Ed|apply En|(refine Es ?_ (by first|(simp<;>omega)|omega) _)|refine Et ?_ (by assumption)))⟩ ?_
 clear hWa hWb hS hE sR kR r0 r1 r2 r3 wfx frx prx
 generalize uR.heap.size=b2 at *
 rintro W3 ⟨hWb,hS,hE⟩
 have r0:=(hWb.cells 0).1
 have r1:=(hWb.cells 1).1
 have r2:=(hWb.cells 2).1
 have r3:=(hWb.cells 3).1
 go_upto_region 4 with (go_at_call 23;refine (Made_any _ _ hlb clb fb tb _ (HBb.out.ext (by (repeat' (with_reducible first|assumption|apply Er|apply Ea|apply Ed|apply En|(refine Es ?_ (by first|(simp<;>omega)|omega) _)|refine Et ?_ (by assumption))))) (HCb.out.ext (by (repeat' (with_reducible first|assumption|apply Er|apply Ea|apply Ed|apply En|(refine Es ?_ (by first|(simp<;>omega)|omega) _)|refine Et ?_ (by assumption))))) f0b f1b t0b t1b).mono ?_;rintro e uR ⟨hR,cR,y,rfl,oR,wfy,fry,pry,kR⟩;have sR:=oR.is;obtain ⟨x1_3,y1_3,x2_3,y2_3,rfl,rfl⟩:=oR.form;clear oR)
 have Sy:Hid (Sm 20 12 y):=Lib.hid ⟨wfy,fry,pry⟩
 refine wp_abs (F:=fun U=>Sets U ((uR.heap.size,y) :: [(b2,x)])∧Below w.heap.size w U) ⟨Sets.cons ⟨.slice x1_3 (y:Per).head.length y1_3,.slice x2_3 (y:Per).cycle.length y2_3,by (repeat' (first|(refine Bxx.at ?_;simp;done)|refine Bxx.alloc ?_ _)),sR.ext (by (repeat' (with_reducible first|assumption|apply Er|apply Ea|apply Ed|apply En|(refine Es ?_ (by first|(simp<;>omega)|omega) _)|refine Et ?_ (by assumption))))⟩ (hS.below (by (repeat' (with_reducible first|assumption|apply Er|apply Ea|apply Ed|apply En|(refine Es ?_ (by first|(simp<;>omega)|omega) _)|refine Et ?_ (by assumption))))),by (repeat' (with_reducible first|assumption|apply Er|apply Ea|apply Ed|apply En|(refine Es ?_ (by first|(simp<;>omega)|omega) _)|refine Et ?_ (by assumption)))⟩ ?_
 clear hWb hS hE sR kR r0 r1 r2 r3 wfy fry pry
 generalize uR.heap.size=b3 at *
 rintro W4 ⟨hS,hE⟩
 obtain ⟨cx,hqcx,hscx⟩:=Sx.out.canon
 have Qcx:=Lib.hid hqcx
 have Scx:=Lib.hid hscx
 clear hqcx hscx
 obtain ⟨cy,hqcy,hscy⟩:=Sy.out.canon
 have Qcy:=Lib.hid hqcy
 have Scy:=Lib.hid hscy
 clear hqcy hscy
 obtain ⟨qa,hqqa,hsqa⟩:=and_ex Sx.out Sy.out
 have Qqa:=Lib.hid hqqa
 have Sqa:=Lib.hid hsqa
 clear hqqa hsqa
 obtain ⟨qo,hqqo,hsqo⟩:=or_ex Sx.out Sy.out
 have Qqo:=Lib.hid hqqo
 have Sqo:=Lib.hid hsqo
 clear hqqo hsqo
 obtain ⟨qm,hqqm,hsqm⟩:=minus_ex Sx.out Sy.out
 have Qqm:=Lib.hid hqqm
 have Sqm:=Lib.hid hsqm
 clear hqqm hsqm
 obtain ⟨hA,cA,gA⟩:=hS.at 1 rfl
 obtain ⟨hB,cB,gB⟩:=hS.at 0 rfl
 obtain ⟨xa1,xm1,xa2,xm2,rfl,rfl⟩:=gA.is.inn.form
 obtain ⟨ya1,ym1,ya2,ym2,rfl,rfl⟩:=gB.is.inn.form
 have GA:=Lib.hid gA.box
 have GB:=Lib.hid gB.box
 have PX:=Lib.hid gA.is
 have PY:=Lib.hid gB.is
 have HE:=Lib.hid hE
 have HSS:=Lib.hid hS
 have HVX:=Lib.hid (Sx.out.valid (by omega))
 have HVY:=Lib.hid (Sy.out.valid (by omega))
 have hlc:lcmI cx.period cy.period≤1048576:=lcm_sm Sx.out Sy.out Qcx.out Qcy.out (by omega)
 have HLC:=Lib.hid hlc
 clear hS hE gA gB hlc
 have HC1:Hid (∀ W,Below W4.heap.size W4 W→Calls Tryz.prog 6 #[.agg #[.slice xa1 x.head.length xm1,.int .i64 x.frm,.int .i64 x.period,.slice xa2 x.cycle.length xm2]] W (PerOk cx W)):=Lib.hid (fun W hb=>Canon_ok _ _ x cx W (PX.out.ext hb) HVX.out Qcx.out)
 have HC2:Hid (∀ W,Below W4.heap.size W4 W→Calls Tryz.prog 7 #[.agg #[.slice xa1 x.head.length xm1,.int .i64 x.frm,.int .i64 x.period,.slice xa2 x.cycle.length xm2]] W (PerOk cx W)):=Lib.hid (fun W hb=>RCanon_ok _ _ x cx W (PX.out.ext hb) HVX.out Qcx.out)
 have HAnd1:Hid (∀ W,Below W4.heap.size W4 W→Calls Tryz.prog 24 #[.agg #[.slice xa1 x.head.length xm1,.int .i64 x.frm,.int .i64 x.period,.slice xa2 x.cycle.length xm2],.agg #[.slice ya1 y.head.length ym1,.int .i64 y.frm,.int .i64 y.period,.slice ya2 y.cycle.length ym2]] W (PerOk qa W)):=Lib.hid (fun W hb=>And_sm _ _ _ _ x y qa 20 12 12 W (PX.out.ext hb) (PY.out.ext hb) Sx.out Sy.out (by omega) Qqa.out)
 have HAnd2:Hid (∀ W,Below W4.heap.size W4 W→Calls Tryz.prog 25 #[.agg #[.slice xa1 x.head.length xm1,.int .i64 x.frm,.int .i64 x.period,.slice xa2 x.cycle.length xm2],.agg #[.slice ya1 y.head.length ym1,.int .i64 y.frm,.int .i64 y.period,.slice ya2 y.cycle.length ym2]] W (PerOk qa W)):=Lib.hid (fun W hb=>RAnd_sm _ _ _ _ x y qa 20 12 12 W (PX.out.ext hb) (PY.out.ext hb) Sx.out Sy.out (by omega) Qqa.out)
 have HOr1:Hid (∀ W,Below W4.heap.size W4 W→Calls Tryz.prog 26 #[.agg #[.slice xa1 x.head.length xm1,.int .i64 x.frm,.int .i64 x.period,.slice xa2 x.cycle.length xm2],.agg #[.slice ya1 y.head.length ym1,.int .i64 y.frm,.int .i64 y.period,.slice ya2 y.cycle.length ym2]] W (PerOk qo W)):=Lib.hid (fun W hb=>Or_sm _ _ _ _ x y qo 20 12 12 W (PX.out.ext hb) (PY.out.ext hb) Sx.out Sy.out (by omega) Qqo.out)
 have HOr2:Hid (∀ W,Below W4.heap.size W4 W→Calls Tryz.prog 27 #[.agg #[.slice xa1 x.head.length xm1,.int .i64 x.frm,.int .i64 x.period,.slice xa2 x.cycle.length xm2],.agg #[.slice ya1 y.head.length ym1,.int .i64 y.frm,.int .i64 y.period,.slice ya2 y.cycle.length ym2]] W (PerOk qo W)):=Lib.hid (fun W hb=>ROr_sm _ _ _ _ x y qo 20 12 12 W (PX.out.ext hb) (PY.out.ext hb) Sx.out Sy.out (by omega) Qqo.out)
 have HMinus1:Hid (∀ W,Below W4.heap.size W4 W→Calls Tryz.prog 28 #[.agg #[.slice xa1 x.head.length xm1,.int .i64 x.frm,.int .i64 x.period,.slice xa2 x.cycle.length xm2],.agg #[.slice ya1 y.head.length ym1,.int .i64 y.frm,.int .i64 y.period,.slice ya2 y.cycle.length ym2]] W (PerOk qm W)):=Lib.hid (fun W hb=>Minus_sm _ _ _ _ x y qm 20 12 12 W (PX.out.ext hb) (PY.out.ext hb) Sx.out Sy.out (by omega) Qqm.out)
 have HMinus2:Hid (∀ W,Below W4.heap.size W4 W→Calls Tryz.prog 29 #[.agg #[.slice xa1 x.head.length xm1,.int .i64 x.frm,.int .i64 x.period,.slice xa2 x.cycle.length xm2],.agg #[.slice ya1 y.head.length ym1,.int .i64 y.frm,.int .i64 y.period,.slice ya2 y.cycle.length ym2]] W (PerOk qm W)):=Lib.hid (fun W hb=>RMinus_sm _ _ _ _ x y qm 20 12 12 W (PX.out.ext hb) (PY.out.ext hb) Sx.out Sy.out (by omega) Qqm.out)
 have hbel:Below W4.heap.size W4 W4:=Er _
 have xc0:=Ext.cell hbel (GA.out.cells 0).1
 have xc1:=Ext.cell hbel (GA.out.cells 1).1
 have xc2:=Ext.cell hbel (GA.out.cells 2).1
 have xc3:=Ext.cell hbel (GA.out.cells 3).1
 have yc0:=Ext.cell hbel (GB.out.cells 0).1
 have yc1:=Ext.cell hbel (GB.out.cells 1).1
 have yc2:=Ext.cell hbel (GB.out.cells 2).1
 have yc3:=Ext.cell hbel (GB.out.cells 3).1
 go_upto_region 5 with (go_at_call 6;(with_reducible refine (HC1.out _ (by (repeat' (with_reducible first|assumption|apply Er|apply Ea|apply Ed|apply En|(refine Es ?_ (by first|(simp<;>omega)|omega) _)|refine Et ?_ (by assumption))))).mono ?_);rintro e u4 ⟨h4,c4,rfl,ho4,hb4⟩;obtain ⟨p1,pm1,p2,pm2,rfl,rfl⟩:=ho4.form)
 generalize hu4:u4.heap.size=b4 at *
 have h4W:W4.heap.size≤b4:=by have:=hb4.size;omega
 refine wp_abs (F:=fun U=>Bxx U b4 #[.slice p1 cx.head.length pm1,.int .i64 cx.frm,.int .i64 cx.period,.slice p2 cx.cycle.length pm2] 24∧PerIs U (.slice p1 cx.head.length pm1) (.slice p2 cx.cycle.length pm2) cx∧Below W4.heap.size W4 U) ⟨Bxx.at hu4.symm,ho4.is.ext (by (repeat' (with_reducible first|assumption|apply Er|apply Ea|apply Ed|apply En|(refine Es ?_ (by first|(simp<;>omega)|omega) _)|refine Et ?_ (by assumption)))),by (repeat' (with_reducible first|assumption|apply Er|apply Ea|apply Ed|apply En|(refine Es ?_ (by first|(simp<;>omega)|omega) _)|refine Et ?_ (by assumption)))⟩ ?_
 clear hbel ho4 hb4 hu4 xc0 yc0 xc1 yc1 xc2 yc2 xc3 yc3
 rintro V1 ⟨hb4,hp4,hbel⟩
 have xc0:=Ext.cell hbel (GA.out.cells 0).1
 have xc1:=Ext.cell hbel (GA.out.cells 1).1
 have xc2:=Ext.cell hbel (GA.out.cells 2).1
 have xc3:=Ext.cell hbel (GA.out.cells 3).1
 have yc0:=Ext.cell hbel (GB.out.cells 0).1
 have yc1:=Ext.cell hbel (GB.out.cells 1).1
 have yc2:=Ext.cell hbel (GB.out.cells 2).1
 have yc3:=Ext.cell hbel (GB.out.cells 3).1
 go_upto_region 6 with (go_at_call 7;(with_reducible refine (HC2.out _ (by (repeat' (with_reducible first|assumption|apply Er|apply Ea|apply Ed|apply En|(refine Es ?_ (by first|(simp<;>omega)|omega) _)|refine Et ?_ (by assumption))))).mono ?_);rintro e u5 ⟨h5,c5,rfl,ho5,hb5⟩;obtain ⟨q1,qm1,q2,qm2,rfl,rfl⟩:=ho5.form)
 generalize hu5:u5.heap.size=b5 at *
 have h45:b4<b5:=by have:=hb4.lt;have:=hb5.size;omega
 have h5W:W4.heap.size≤b5:=by omega
 refine wp_abs (F:=fun U=>Bxx U b4 #[.slice p1 cx.head.length pm1,.int .i64 cx.frm,.int .i64 cx.period,.slice p2 cx.cycle.length pm2] 24∧PerIs U (.slice p1 cx.head.length pm1) (.slice p2 cx.cycle.length pm2) cx∧Bxx U b5 #[.slice q1 cx.head.length qm1,.int .i64 cx.frm,.int .i64 cx.period,.slice q2 cx.cycle.length qm2] 24∧PerIs U (.slice q1 cx.head.length qm1) (.slice q2 cx.cycle.length qm2) cx∧Below W4.heap.size W4 U) ⟨(hb4.below hb5).alloc _,hp4.ext (by (repeat' (with_reducible first|assumption|apply Er|apply Ea|apply Ed|apply En|(refine Es ?_ (by first|(simp<;>omega)|omega) _)|refine Et ?_ (by assumption)))),Bxx.at hu5.symm,ho5.is.ext (by (repeat' (with_reducible first|assumption|apply Er|apply Ea|apply Ed|apply En|(refine Es ?_ (by first|(simp<;>omega)|omega) _)|refine Et ?_ (by assumption)))),by (repeat' (with_reducible first|assumption|apply Er|apply Ea|apply Ed|apply En|(refine Es ?_ (by first|(simp<;>omega)|omega) _)|refine Et ?_ (by assumption)))⟩ ?_
 clear hbel hb4 hp4 ho5 hb5 hu5 xc0 yc0 xc1 yc1 xc2 yc2 xc3 yc3
 rintro V2 ⟨hb4,hp4,hb5,hp5,hbel⟩
 have pc0:=(hb4.cells 0).1
 have qc0:=(hb5.cells 0).1
 have pc1:=(hb4.cells 1).1
 have qc1:=(hb5.cells 1).1
 have pc2:=(hb4.cells 2).1
 have qc2:=(hb5.cells 2).1
 have pc3:=(hb4.cells 3).1
 have qc3:=(hb5.cells 3).1
 go_upto_region 8 with (go_at_call 14;refine (Equal_any _ _ _ _ cx cx _ (hp4.ext (by (repeat' (with_reducible first|assumption|apply Er|apply Ea|apply Ed|apply En|(refine Es ?_ (by first|(simp<;>omega)|omega) _)|refine Et ?_ (by assumption))))) (hp5.ext (by (repeat' (with_reducible first|assumption|apply Er|apply Ea|apply Ed|apply En|(refine Es ?_ (by first|(simp<;>omega)|omega) _)|refine Et ?_ (by assumption)))))).mono ?_;rintro e uE ⟨he,hbE⟩;rw [decide_eq_true rfl] at he;subst he)
 refine wp_abs (F:=fun U=>(∃ c0 c1 c2 c3,Bxx U b4 #[c0,c1,c2,c3] 24)∧(∃ c0 c1 c2 c3,Bxx U b5 #[c0,c1,c2,c3] 24)∧Below W4.heap.size W4 U) ⟨⟨_,_,_,_,hb4.below hbE⟩,⟨_,_,_,_,hb5.below hbE⟩,by (repeat' (with_reducible first|assumption|apply Er|apply Ea|apply Ed|apply En|(refine Es ?_ (by first|(simp<;>omega)|omega) _)|refine Et ?_ (by assumption)))⟩ ?_
 clear hb4 hp4 hb5 hp5 hbel hbE pc0 qc0 pc1 qc1 pc2 qc2 pc3 qc3
 rintro X2 ⟨⟨u0,u1,u2,u3,hb4⟩,⟨v0,v1,v2,v3,hb5⟩,hbel⟩
 have xc0:=Ext.cell hbel (GA.out.cells 0).1
 have xc1:=Ext.cell hbel (GA.out.cells 1).1
 have xc2:=Ext.cell hbel (GA.out.cells 2).1
 have xc3:=Ext.cell hbel (GA.out.cells 3).1
 have yc0:=Ext.cell hbel (GB.out.cells 0).1
 have yc1:=Ext.cell hbel (GB.out.cells 1).1
 have yc2:=Ext.cell hbel (GB.out.cells 2).1
 have yc3:=Ext.cell hbel (GB.out.cells 3).1
 have hl4:=hb4.lt
 have hl5:=hb5.lt
 go_upto_region 9 with (go_at_call 24;(with_reducible refine (HAnd1.out _ (by (repeat' (with_reducible first|assumption|apply Er|apply Ea|apply Ed|apply En|(refine Es ?_ (by first|(simp<;>omega)|omega) _)|refine Et ?_ (by assumption))))).mono ?_);rintro e u8 ⟨h8,c8,rfl,ho8,hb8⟩;obtain ⟨pa1,pam1,pa2,pam2,rfl,rfl⟩:=ho8.form;have hn4:=hb4.below hb8;have k0:=hn4.cells 0;have k1:=hn4.cells 1;have k2:=hn4.cells 2;have k3:=hn4.cells 3;clear hn4)
 obtain ⟨B3,hB3⟩:∃ B,B=X2.heap.size:=⟨_,rfl⟩
 have hz8:=hb8.size
 refine wp_abs (F:=fun U=>Bxx U b4 #[.slice pa1 qa.head.length pam1,.int .i64 qa.frm,.int .i64 qa.period,.slice pa2 qa.cycle.length pam2] 24∧POx U B3 (.slice pa1 qa.head.length pam1) (.slice pa2 qa.cycle.length pam2) qa∧Bxx U b5 #[v0,v1,v2,v3] 24∧Below W4.heap.size W4 U∧B3≤U.heap.size) ⟨(hb4.below hb8).set4,by rw [hB3];exact ho8.above (by (repeat' (with_reducible first|exact Above.refl _ _|refine Above.alloc ?_ _|refine Above.drew ?_|refine Above.drewN ?_ _|refine Above.setCell ?_ (by first|(simp;done)|(simp;omega)|omega) _))),((((hb5.below hb8).setNe _ (by omega)).setNe _ (by omega)).setNe _ (by omega)).setNe _ (by omega),by (repeat' (with_reducible first|assumption|apply Er|apply Ea|apply Ed|apply En|(refine Es ?_ (by first|(simp<;>omega)|omega) _)|refine Et ?_ (by assumption))),by rw [hB3];simp [World.setCell];omega⟩ ?_
 have hb4B:b4<B3:=by omega
 have hb5B:b5<B3:=by omega
 clear hb4 hb5 hbel ho8 hb8 hz8 hl4 hl5 hB3 k0 k1 k2 k3 xc0 yc0 xc1 yc1 xc2 yc2 xc3 yc3
 rintro V3 ⟨hb4,ho4,hb5,hbel,hBz⟩
 have xc0:=Ext.cell hbel (GA.out.cells 0).1
 have xc1:=Ext.cell hbel (GA.out.cells 1).1
 have xc2:=Ext.cell hbel (GA.out.cells 2).1
 have xc3:=Ext.cell hbel (GA.out.cells 3).1
 have yc0:=Ext.cell hbel (GB.out.cells 0).1
 have yc1:=Ext.cell hbel (GB.out.cells 1).1
 have yc2:=Ext.cell hbel (GB.out.cells 2).1
 have yc3:=Ext.cell hbel (GB.out.cells 3).1
 go_upto_region 10 with (go_at_call 25;(with_reducible refine (HAnd2.out _ (by (repeat' (with_reducible first|assumption|apply Er|apply Ea|apply Ed|apply En|(refine Es ?_ (by first|(simp<;>omega)|omega) _)|refine Et ?_ (by assumption))))).mono ?_);rintro e u9 ⟨h9,c9,rfl,ho9,hb9⟩;obtain ⟨qa1,qam1,qa2,qam2,rfl,rfl⟩:=ho9.form;have hn5:=hb5.below hb9;have k0:=hn5.cells 0;have k1:=hn5.cells 1;have k2:=hn5.cells 2;have k3:=hn5.cells 3;clear hn5)
 have hz9:=hb9.size
 refine wp_abs (F:=fun U=>Bxx U b4 #[.slice pa1 qa.head.length pam1,.int .i64 qa.frm,.int .i64 qa.period,.slice pa2 qa.cycle.length pam2] 24∧PerIs U (.slice pa1 qa.head.length pam1) (.slice pa2 qa.cycle.length pam2) qa∧Bxx U b5 #[.slice qa1 qa.head.length qam1,.int .i64 qa.frm,.int .i64 qa.period,.slice qa2 qa.cycle.length qam2] 24∧PerIs U (.slice qa1 qa.head.length qam1) (.slice qa2 qa.cycle.length qam2) qa∧Below W4.heap.size W4 U) ⟨((((hb4.below hb9).setNe _ (by omega)).setNe _ (by omega)).setNe _ (by omega)).setNe _ (by omega),POx.is ((ho4.ext hb9).above (by (repeat' (with_reducible first|exact Above.refl _ _|refine Above.alloc ?_ _|refine Above.drew ?_|refine Above.drewN ?_ _|refine Above.setCell ?_ (by first|(simp;done)|(simp;omega)|omega) _)))),(hb5.below hb9).set4,POx.is (ho9.above (by (repeat' (with_reducible first|exact Above.refl _ _|refine Above.alloc ?_ _|refine Above.drew ?_|refine Above.drewN ?_ _|refine Above.setCell ?_ (by first|(simp;done)|(simp;omega)|omega) _)))),by (repeat' (with_reducible first|assumption|apply Er|apply Ea|apply Ed|apply En|(refine Es ?_ (by first|(simp<;>omega)|omega) _)|refine Et ?_ (by assumption)))⟩ ?_
 clear hb4 hb5 hbel ho4 ho9 hb9 hz9 hBz hb4B hb5B k0 k1 k2 k3 xc0 yc0 xc1 yc1 xc2 yc2 xc3 yc3
 rintro V4 ⟨hb4,hp4,hb5,hp5,hbel⟩
 have pc0:=(hb4.cells 0).1
 have qc0:=(hb5.cells 0).1
 have pc1:=(hb4.cells 1).1
 have qc1:=(hb5.cells 1).1
 have pc2:=(hb4.cells 2).1
 have qc2:=(hb5.cells 2).1
 have pc3:=(hb4.cells 3).1
 have qc3:=(hb5.cells 3).1
 go_upto_region 12 with (go_at_call 14;refine (Equal_any _ _ _ _ qa qa _ (hp4.ext (by (repeat' (with_reducible first|assumption|apply Er|apply Ea|apply Ed|apply En|(refine Es ?_ (by first|(simp<;>omega)|omega) _)|refine Et ?_ (by assumption))))) (hp5.ext (by (repeat' (with_reducible first|assumption|apply Er|apply Ea|apply Ed|apply En|(refine Es ?_ (by first|(simp<;>omega)|omega) _)|refine Et ?_ (by assumption)))))).mono ?_;rintro e uE ⟨he,hbE⟩;rw [decide_eq_true rfl] at he;subst he)
 refine wp_abs (F:=fun U=>(∃ c0 c1 c2 c3,Bxx U b4 #[c0,c1,c2,c3] 24)∧(∃ c0 c1 c2 c3,Bxx U b5 #[c0,c1,c2,c3] 24)∧Below W4.heap.size W4 U) ⟨⟨_,_,_,_,hb4.below hbE⟩,⟨_,_,_,_,hb5.below hbE⟩,by (repeat' (with_reducible first|assumption|apply Er|apply Ea|apply Ed|apply En|(refine Es ?_ (by first|(simp<;>omega)|omega) _)|refine Et ?_ (by assumption)))⟩ ?_
 clear hb4 hp4 hb5 hp5 hbel hbE pc0 qc0 pc1 qc1 pc2 qc2 pc3 qc3
 rintro X4 ⟨⟨u0,u1,u2,u3,hb4⟩,⟨v0,v1,v2,v3,hb5⟩,hbel⟩
 have xc0:=Ext.cell hbel (GA.out.cells 0).1
 have xc1:=Ext.cell hbel (GA.out.cells 1).1
 have xc2:=Ext.cell hbel (GA.out.cells 2).1
 have xc3:=Ext.cell hbel (GA.out.cells 3).1
 have yc0:=Ext.cell hbel (GB.out.cells 0).1
 have yc1:=Ext.cell hbel (GB.out.cells 1).1
 have yc2:=Ext.cell hbel (GB.out.cells 2).1
 have yc3:=Ext.cell hbel (GB.out.cells 3).1
 have hl4:=hb4.lt
 have hl5:=hb5.lt
 go_upto_region 13 with (go_at_call 26;(with_reducible refine (HOr1.out _ (by (repeat' (with_reducible first|assumption|apply Er|apply Ea|apply Ed|apply En|(refine Es ?_ (by first|(simp<;>omega)|omega) _)|refine Et ?_ (by assumption))))).mono ?_);rintro e u8 ⟨h8,c8,rfl,ho8,hb8⟩;obtain ⟨po1,pom1,po2,pom2,rfl,rfl⟩:=ho8.form;have hn4:=hb4.below hb8;have k0:=hn4.cells 0;have k1:=hn4.cells 1;have k2:=hn4.cells 2;have k3:=hn4.cells 3;clear hn4)
 obtain ⟨B5,hB5⟩:∃ B,B=X4.heap.size:=⟨_,rfl⟩
 have hz8:=hb8.size
 refine wp_abs (F:=fun U=>Bxx U b4 #[.slice po1 qo.head.length pom1,.int .i64 qo.frm,.int .i64 qo.period,.slice po2 qo.cycle.length pom2] 24∧POx U B5 (.slice po1 qo.head.length pom1) (.slice po2 qo.cycle.length pom2) qo∧Bxx U b5 #[v0,v1,v2,v3] 24∧Below W4.heap.size W4 U∧B5≤U.heap.size) ⟨(hb4.below hb8).set4,by rw [hB5];exact ho8.above (by (repeat' (with_reducible first|exact Above.refl _ _|refine Above.alloc ?_ _|refine Above.drew ?_|refine Above.drewN ?_ _|refine Above.setCell ?_ (by first|(simp;done)|(simp;omega)|omega) _))),((((hb5.below hb8).setNe _ (by omega)).setNe _ (by omega)).setNe _ (by omega)).setNe _ (by omega),by (repeat' (with_reducible first|assumption|apply Er|apply Ea|apply Ed|apply En|(refine Es ?_ (by first|(simp<;>omega)|omega) _)|refine Et ?_ (by assumption))),by rw [hB5];simp [World.setCell];omega⟩ ?_
 have hb4B:b4<B5:=by omega
 have hb5B:b5<B5:=by omega
 clear hb4 hb5 hbel ho8 hb8 hz8 hl4 hl5 hB5 k0 k1 k2 k3 xc0 yc0 xc1 yc1 xc2 yc2 xc3 yc3
 rintro V5 ⟨hb4,ho4,hb5,hbel,hBz⟩
 have xc0:=Ext.cell hbel (GA.out.cells 0).1
 have xc1:=Ext.cell hbel (GA.out.cells 1).1
 have xc2:=Ext.cell hbel (GA.out.cells 2).1
 have xc3:=Ext.cell hbel (GA.out.cells 3).1
 have yc0:=Ext.cell hbel (GB.out.cells 0).1
 have yc1:=Ext.cell hbel (GB.out.cells 1).1
 have yc2:=Ext.cell hbel (GB.out.cells 2).1
 have yc3:=Ext.cell hbel (GB.out.cells 3).1
 go_upto_region 14 with (go_at_call 27;(with_reducible refine (HOr2.out _ (by (repeat' (with_reducible first|assumption|apply Er|apply Ea|apply Ed|apply En|(refine Es ?_ (by first|(simp<;>omega)|omega) _)|refine Et ?_ (by assumption))))).mono ?_);rintro e u9 ⟨h9,c9,rfl,ho9,hb9⟩;obtain ⟨qo1,qom1,qo2,qom2,rfl,rfl⟩:=ho9.form;have hn5:=hb5.below hb9;have k0:=hn5.cells 0;have k1:=hn5.cells 1;have k2:=hn5.cells 2;have k3:=hn5.cells 3;clear hn5)
 have hz9:=hb9.size
 refine wp_abs (F:=fun U=>Bxx U b4 #[.slice po1 qo.head.length pom1,.int .i64 qo.frm,.int .i64 qo.period,.slice po2 qo.cycle.length pom2] 24∧PerIs U (.slice po1 qo.head.length pom1) (.slice po2 qo.cycle.length pom2) qo∧Bxx U b5 #[.slice qo1 qo.head.length qom1,.int .i64 qo.frm,.int .i64 qo.period,.slice qo2 qo.cycle.length qom2] 24∧PerIs U (.slice qo1 qo.head.length qom1) (.slice qo2 qo.cycle.length qom2) qo∧Below W4.heap.size W4 U) ⟨((((hb4.below hb9).setNe _ (by omega)).setNe _ (by omega)).setNe _ (by omega)).setNe _ (by omega),POx.is ((ho4.ext hb9).above (by (repeat' (with_reducible first|exact Above.refl _ _|refine Above.alloc ?_ _|refine Above.drew ?_|refine Above.drewN ?_ _|refine Above.setCell ?_ (by first|(simp;done)|(simp;omega)|omega) _)))),(hb5.below hb9).set4,POx.is (ho9.above (by (repeat' (with_reducible first|exact Above.refl _ _|refine Above.alloc ?_ _|refine Above.drew ?_|refine Above.drewN ?_ _|refine Above.setCell ?_ (by first|(simp;done)|(simp;omega)|omega) _)))),by (repeat' (with_reducible first|assumption|apply Er|apply Ea|apply Ed|apply En|(refine Es ?_ (by first|(simp<;>omega)|omega) _)|refine Et ?_ (by assumption)))⟩ ?_
 clear hb4 hb5 hbel ho4 ho9 hb9 hz9 hBz hb4B hb5B k0 k1 k2 k3 xc0 yc0 xc1 yc1 xc2 yc2 xc3 yc3
 rintro V6 ⟨hb4,hp4,hb5,hp5,hbel⟩
 have pc0:=(hb4.cells 0).1
 have qc0:=(hb5.cells 0).1
 have pc1:=(hb4.cells 1).1
 have qc1:=(hb5.cells 1).1
 have pc2:=(hb4.cells 2).1
 have qc2:=(hb5.cells 2).1
 have pc3:=(hb4.cells 3).1
 have qc3:=(hb5.cells 3).1
 go_upto_region 16 with (go_at_call 14;refine (Equal_any _ _ _ _ qo qo _ (hp4.ext (by (repeat' (with_reducible first|assumption|apply Er|apply Ea|apply Ed|apply En|(refine Es ?_ (by first|(simp<;>omega)|omega) _)|refine Et ?_ (by assumption))))) (hp5.ext (by (repeat' (with_reducible first|assumption|apply Er|apply Ea|apply Ed|apply En|(refine Es ?_ (by first|(simp<;>omega)|omega) _)|refine Et ?_ (by assumption)))))).mono ?_;rintro e uE ⟨he,hbE⟩;rw [decide_eq_true rfl] at he;subst he)
 refine wp_abs (F:=fun U=>(∃ c0 c1 c2 c3,Bxx U b4 #[c0,c1,c2,c3] 24)∧(∃ c0 c1 c2 c3,Bxx U b5 #[c0,c1,c2,c3] 24)∧Below W4.heap.size W4 U) ⟨⟨_,_,_,_,hb4.below hbE⟩,⟨_,_,_,_,hb5.below hbE⟩,by (repeat' (with_reducible first|assumption|apply Er|apply Ea|apply Ed|apply En|(refine Es ?_ (by first|(simp<;>omega)|omega) _)|refine Et ?_ (by assumption)))⟩ ?_
 clear hb4 hp4 hb5 hp5 hbel hbE pc0 qc0 pc1 qc1 pc2 qc2 pc3 qc3
 rintro X6 ⟨⟨u0,u1,u2,u3,hb4⟩,⟨v0,v1,v2,v3,hb5⟩,hbel⟩
 have xc0:=Ext.cell hbel (GA.out.cells 0).1
 have xc1:=Ext.cell hbel (GA.out.cells 1).1
 have xc2:=Ext.cell hbel (GA.out.cells 2).1
 have xc3:=Ext.cell hbel (GA.out.cells 3).1
 have yc0:=Ext.cell hbel (GB.out.cells 0).1
 have yc1:=Ext.cell hbel (GB.out.cells 1).1
 have yc2:=Ext.cell hbel (GB.out.cells 2).1
 have yc3:=Ext.cell hbel (GB.out.cells 3).1
 have hl4:=hb4.lt
 have hl5:=hb5.lt
 go_upto_region 17 with (go_at_call 28;(with_reducible refine (HMinus1.out _ (by (repeat' (with_reducible first|assumption|apply Er|apply Ea|apply Ed|apply En|(refine Es ?_ (by first|(simp<;>omega)|omega) _)|refine Et ?_ (by assumption))))).mono ?_);rintro e u8 ⟨h8,c8,rfl,ho8,hb8⟩;obtain ⟨pm1,pmm1,pm2,pmm2,rfl,rfl⟩:=ho8.form;have hn4:=hb4.below hb8;have k0:=hn4.cells 0;have k1:=hn4.cells 1;have k2:=hn4.cells 2;have k3:=hn4.cells 3;clear hn4)
 obtain ⟨B7,hB7⟩:∃ B,B=X6.heap.size:=⟨_,rfl⟩
 have hz8:=hb8.size
 refine wp_abs (F:=fun U=>Bxx U b4 #[.slice pm1 qm.head.length pmm1,.int .i64 qm.frm,.int .i64 qm.period,.slice pm2 qm.cycle.length pmm2] 24∧POx U B7 (.slice pm1 qm.head.length pmm1) (.slice pm2 qm.cycle.length pmm2) qm∧Bxx U b5 #[v0,v1,v2,v3] 24∧Below W4.heap.size W4 U∧B7≤U.heap.size) ⟨(hb4.below hb8).set4,by rw [hB7];exact ho8.above (by (repeat' (with_reducible first|exact Above.refl _ _|refine Above.alloc ?_ _|refine Above.drew ?_|refine Above.drewN ?_ _|refine Above.setCell ?_ (by first|(simp;done)|(simp;omega)|omega) _))),((((hb5.below hb8).setNe _ (by omega)).setNe _ (by omega)).setNe _ (by omega)).setNe _ (by omega),by (repeat' (with_reducible first|assumption|apply Er|apply Ea|apply Ed|apply En|(refine Es ?_ (by first|(simp<;>omega)|omega) _)|refine Et ?_ (by assumption))),by rw [hB7];simp [World.setCell];omega⟩ ?_
 have hb4B:b4<B7:=by omega
 have hb5B:b5<B7:=by omega
 clear hb4 hb5 hbel ho8 hb8 hz8 hl4 hl5 hB7 k0 k1 k2 k3 xc0 yc0 xc1 yc1 xc2 yc2 xc3 yc3
 rintro V7 ⟨hb4,ho4,hb5,hbel,hBz⟩
 have xc0:=Ext.cell hbel (GA.out.cells 0).1
 have xc1:=Ext.cell hbel (GA.out.cells 1).1
 have xc2:=Ext.cell hbel (GA.out.cells 2).1
 have xc3:=Ext.cell hbel (GA.out.cells 3).1
 have yc0:=Ext.cell hbel (GB.out.cells 0).1
 have yc1:=Ext.cell hbel (GB.out.cells 1).1
 have yc2:=Ext.cell hbel (GB.out.cells 2).1
 have yc3:=Ext.cell hbel (GB.out.cells 3).1
 go_upto_region 18 with (go_at_call 29;(with_reducible refine (HMinus2.out _ (by (repeat' (with_reducible first|assumption|apply Er|apply Ea|apply Ed|apply En|(refine Es ?_ (by first|(simp<;>omega)|omega) _)|refine Et ?_ (by assumption))))).mono ?_);rintro e u9 ⟨h9,c9,rfl,ho9,hb9⟩;obtain ⟨qm1,qmm1,qm2,qmm2,rfl,rfl⟩:=ho9.form;have hn5:=hb5.below hb9;have k0:=hn5.cells 0;have k1:=hn5.cells 1;have k2:=hn5.cells 2;have k3:=hn5.cells 3;clear hn5)
 have hz9:=hb9.size
 refine wp_abs (F:=fun U=>Bxx U b4 #[.slice pm1 qm.head.length pmm1,.int .i64 qm.frm,.int .i64 qm.period,.slice pm2 qm.cycle.length pmm2] 24∧PerIs U (.slice pm1 qm.head.length pmm1) (.slice pm2 qm.cycle.length pmm2) qm∧Bxx U b5 #[.slice qm1 qm.head.length qmm1,.int .i64 qm.frm,.int .i64 qm.period,.slice qm2 qm.cycle.length qmm2] 24∧PerIs U (.slice qm1 qm.head.length qmm1) (.slice qm2 qm.cycle.length qmm2) qm∧Below W4.heap.size W4 U) ⟨((((hb4.below hb9).setNe _ (by omega)).setNe _ (by omega)).setNe _ (by omega)).setNe _ (by omega),POx.is ((ho4.ext hb9).above (by (repeat' (with_reducible first|exact Above.refl _ _|refine Above.alloc ?_ _|refine Above.drew ?_|refine Above.drewN ?_ _|refine Above.setCell ?_ (by first|(simp;done)|(simp;omega)|omega) _)))),(hb5.below hb9).set4,POx.is (ho9.above (by (repeat' (with_reducible first|exact Above.refl _ _|refine Above.alloc ?_ _|refine Above.drew ?_|refine Above.drewN ?_ _|refine Above.setCell ?_ (by first|(simp;done)|(simp;omega)|omega) _)))),by (repeat' (with_reducible first|assumption|apply Er|apply Ea|apply Ed|apply En|(refine Es ?_ (by first|(simp<;>omega)|omega) _)|refine Et ?_ (by assumption)))⟩ ?_
 clear hb4 hb5 hbel ho4 ho9 hb9 hz9 hBz hb4B hb5B k0 k1 k2 k3 xc0 yc0 xc1 yc1 xc2 yc2 xc3 yc3
 rintro V8 ⟨hb4,hp4,hb5,hp5,hbel⟩
 have pc0:=(hb4.cells 0).1
 have qc0:=(hb5.cells 0).1
 have pc1:=(hb4.cells 1).1
 have qc1:=(hb5.cells 1).1
 have pc2:=(hb4.cells 2).1
 have qc2:=(hb5.cells 2).1
 have pc3:=(hb4.cells 3).1
 have qc3:=(hb5.cells 3).1
 go_upto_region 20 with (go_at_call 14;refine (Equal_any _ _ _ _ qm qm _ (hp4.ext (by (repeat' (with_reducible first|assumption|apply Er|apply Ea|apply Ed|apply En|(refine Es ?_ (by first|(simp<;>omega)|omega) _)|refine Et ?_ (by assumption))))) (hp5.ext (by (repeat' (with_reducible first|assumption|apply Er|apply Ea|apply Ed|apply En|(refine Es ?_ (by first|(simp<;>omega)|omega) _)|refine Et ?_ (by assumption)))))).mono ?_;rintro e uE ⟨he,hbE⟩;rw [decide_eq_true rfl] at he;subst he)
 refine wp_abs (F:=fun U=>(∃ c0 c1 c2 c3,Bxx U b4 #[c0,c1,c2,c3] 24)∧(∃ c0 c1 c2 c3,Bxx U b5 #[c0,c1,c2,c3] 24)∧Below W4.heap.size W4 U) ⟨⟨_,_,_,_,hb4.below hbE⟩,⟨_,_,_,_,hb5.below hbE⟩,by (repeat' (with_reducible first|assumption|apply Er|apply Ea|apply Ed|apply En|(refine Es ?_ (by first|(simp<;>omega)|omega) _)|refine Et ?_ (by assumption)))⟩ ?_
 clear hb4 hp4 hb5 hp5 hbel hbE pc0 qc0 pc1 qc1 pc2 qc2 pc3 qc3
 rintro X8 ⟨⟨u0,u1,u2,u3,hb4⟩,⟨v0,v1,v2,v3,hb5⟩,hbel⟩
 clear hb4 hb5
 have HBEL:=Lib.hid hbel
 clear hbel
 go_upto_if 112 with (fail)
 go_cut [14] (fun s14 wx=>∃ n:Int,s14=.int .i64 n∧n≤2000∧-9223372036854775808≤n∧X8=wx)
 case first=>
  by_cases h9:2000<fr
  ·have h8:=Int.emod_nonneg fr (show (2000:Int)≠0 by omega)
   have h7:=Int.emod_lt_of_pos fr (show (0:Int)<2000 by omega)
   go_wp2_with fail
   go_meet
   exact ⟨_,rfl,by omega,by omega,rfl⟩
  ·go_wp2_with fail
   go_meet
   exact ⟨_,rfl,by omega,by omega,rfl⟩
 obtain ⟨n,rfl,hn1,hn2,rfl⟩:=hcut
 have hbel:=HBEL.out
 have xc0:=Ext.cell hbel (GA.out.cells 0).1
 have xc1:=Ext.cell hbel (GA.out.cells 1).1
 have xc2:=Ext.cell hbel (GA.out.cells 2).1
 have xc3:=Ext.cell hbel (GA.out.cells 3).1
 have yc0:=Ext.cell hbel (GB.out.cells 0).1
 have yc1:=Ext.cell hbel (GB.out.cells 1).1
 have yc2:=Ext.cell hbel (GB.out.cells 2).1
 have yc3:=Ext.cell hbel (GB.out.cells 3).1
 go_upto_region 24 with (go_at_call 30;refine (first_ok _ _ _ _ x y cx cy n _ (PX.out.ext (by (repeat' (with_reducible first|assumption|apply Er|apply Ea|apply Ed|apply En|(refine Es ?_ (by first|(simp<;>omega)|omega) _)|refine Et ?_ (by assumption))))) (PY.out.ext (by (repeat' (with_reducible first|assumption|apply Er|apply Ea|apply Ed|apply En|(refine Es ?_ (by first|(simp<;>omega)|omega) _)|refine Et ?_ (by assumption))))) HVX.out HVY.out Qcx.out Qcy.out (by have:=Scy.out.per;omega) (by omega) (by omega)).mono ?_;rintro e u1 ⟨n1,b1,rfl,hf1,hb1⟩)
 have HF1:=Lib.hid hf1
 have hbel2:Below W4.heap.size W4 u1:=by (repeat' (with_reducible first|assumption|apply Er|apply Ea|apply Ed|apply En|(refine Es ?_ (by first|(simp<;>omega)|omega) _)|refine Et ?_ (by assumption)))
 clear hf1 hb1 hbel xc0 yc0 xc1 yc1 xc2 yc2 xc3 yc3
 have xc0:=Ext.cell hbel2 (GA.out.cells 0).1
 have xc1:=Ext.cell hbel2 (GA.out.cells 1).1
 have xc2:=Ext.cell hbel2 (GA.out.cells 2).1
 have xc3:=Ext.cell hbel2 (GA.out.cells 3).1
 have yc0:=Ext.cell hbel2 (GB.out.cells 0).1
 have yc1:=Ext.cell hbel2 (GB.out.cells 1).1
 have yc2:=Ext.cell hbel2 (GB.out.cells 2).1
 have yc3:=Ext.cell hbel2 (GB.out.cells 3).1
 go_upto_region 25 with (go_at_call 31;refine (RFirst_ok _ _ _ _ x y cx cy n _ (PX.out.ext (by (repeat' (with_reducible first|assumption|apply Er|apply Ea|apply Ed|apply En|(refine Es ?_ (by first|(simp<;>omega)|omega) _)|refine Et ?_ (by assumption))))) (PY.out.ext (by (repeat' (with_reducible first|assumption|apply Er|apply Ea|apply Ed|apply En|(refine Es ?_ (by first|(simp<;>omega)|omega) _)|refine Et ?_ (by assumption))))) HVX.out HVY.out Qcx.out Qcy.out (by have:=HLC.out;omega) (by omega) (by omega)).mono ?_;rintro e u2 ⟨n2,b2',rfl,hf2,hb2⟩;obtain ⟨rfl,rfl⟩:=HF1.out.unique hf2)
 have hbel3:Below W4.heap.size W4 u2:=by (repeat' (with_reducible first|assumption|apply Er|apply Ea|apply Ed|apply En|(refine Es ?_ (by first|(simp<;>omega)|omega) _)|refine Et ?_ (by assumption)))
 clear hf2 hb2 hbel2 xc0 yc0 xc1 yc1 xc2 yc2 xc3 yc3
 obtain ⟨na,ba,hap⟩:∃ (na:Int) (ba:Bool),ApartIs x.mem y.mem na ba:=by
  by_cases hd:∃ n,0≤n∧¬ (x.mem n↔y.mem n)
  ·obtain ⟨n,h1,_⟩:=apart_ex Sx.out Sy.out hd
   exact ⟨n,true,h1⟩
  ·exact ⟨0,false,.inr ⟨rfl,rfl,fun z hz=>Classical.byContradiction fun h=>hd ⟨z,hz,h⟩⟩⟩
 have HAP:=Lib.hid hap
 clear hap
 have xc0:=Ext.cell hbel3 (GA.out.cells 0).1
 have xc1:=Ext.cell hbel3 (GA.out.cells 1).1
 have xc2:=Ext.cell hbel3 (GA.out.cells 2).1
 have xc3:=Ext.cell hbel3 (GA.out.cells 3).1
 have yc0:=Ext.cell hbel3 (GB.out.cells 0).1
 have yc1:=Ext.cell hbel3 (GB.out.cells 1).1
 have yc2:=Ext.cell hbel3 (GB.out.cells 2).1
 have yc3:=Ext.cell hbel3 (GB.out.cells 3).1
 go_upto_region 26 with (go_at_call 32;refine (apart_sm _ _ _ _ x y cx cy na ba _ (PX.out.ext (by (repeat' (with_reducible first|assumption|apply Er|apply Ea|apply Ed|apply En|(refine Es ?_ (by first|(simp<;>omega)|omega) _)|refine Et ?_ (by assumption))))) (PY.out.ext (by (repeat' (with_reducible first|assumption|apply Er|apply Ea|apply Ed|apply En|(refine Es ?_ (by first|(simp<;>omega)|omega) _)|refine Et ?_ (by assumption))))) Sx.out Sy.out Qcx.out Qcy.out HAP.out).mono ?_;rintro e u3 ⟨rfl,hb3⟩)
 have hbel4:Below W4.heap.size W4 u3:=by (repeat' (with_reducible first|assumption|apply Er|apply Ea|apply Ed|apply En|(refine Es ?_ (by first|(simp<;>omega)|omega) _)|refine Et ?_ (by assumption)))
 clear hb3 hbel3 xc0 yc0 xc1 yc1 xc2 yc2 xc3 yc3
 have xc0:=Ext.cell hbel4 (GA.out.cells 0).1
 have xc1:=Ext.cell hbel4 (GA.out.cells 1).1
 have xc2:=Ext.cell hbel4 (GA.out.cells 2).1
 have xc3:=Ext.cell hbel4 (GA.out.cells 3).1
 have yc0:=Ext.cell hbel4 (GB.out.cells 0).1
 have yc1:=Ext.cell hbel4 (GB.out.cells 1).1
 have yc2:=Ext.cell hbel4 (GB.out.cells 2).1
 have yc3:=Ext.cell hbel4 (GB.out.cells 3).1
 go_upto_region 27 with (go_at_call 33;refine (RApart_ok _ _ _ _ x y cx cy _ (PX.out.ext (by (repeat' (with_reducible first|assumption|apply Er|apply Ea|apply Ed|apply En|(refine Es ?_ (by first|(simp<;>omega)|omega) _)|refine Et ?_ (by assumption))))) (PY.out.ext (by (repeat' (with_reducible first|assumption|apply Er|apply Ea|apply Ed|apply En|(refine Es ?_ (by first|(simp<;>omega)|omega) _)|refine Et ?_ (by assumption))))) HVX.out HVY.out Qcx.out Qcy.out (by have:=HLC.out;omega)).mono ?_;rintro e u4 ⟨na',ba',rfl,ha4,hb4⟩;obtain ⟨rfl,rfl⟩:=HAP.out.unique (ha4.congr (fun n=>(Qcx.out.mem n).symm) (fun n=>(Qcy.out.mem n).symm)))
 have HB5:Hid (Below W4.heap.size W4 u4):=Lib.hid (by (repeat' (with_reducible first|assumption|apply Er|apply Ea|apply Ed|apply En|(refine Es ?_ (by first|(simp<;>omega)|omega) _)|refine Et ?_ (by assumption))))
 clear ha4 hb4 hbel4 xc0 yc0 xc1 yc1 xc2 yc2 xc3 yc3
 obtain ⟨bs,hbs⟩:∃ bs:Bool,bs=true↔∀ n,x.mem n→y.mem n:=by
  by_cases h:∀ n,x.mem n→y.mem n
  ·exact ⟨true,fun _=>h,fun _=>rfl⟩
  ·exact ⟨false,fun g=>by (cases g),fun g=>absurd g h⟩
 have HBS:=Lib.hid hbs
 obtain ⟨sm,hsm⟩:∃ sm,sm=sameB cx cy:=⟨_,rfl⟩
 have HSM:=Lib.hid hsm
 clear hbs hsm
 refine wp_region_factsH (w0:=u4) [0,1,2,3,4,5,6,7,8,9,10,11,12,13,14,15,16,17,18,19,20,21,22,23,24,25,26,27,28,29,30,31,32,33,34,35,36,37,38] [39] (fun v=>⟨#[.agg #[.slice a1a hla.length c1a,Value.int IntKind.u8 fa,Value.int IntKind.u8 ta,.slice a2a cla.length c2a],.agg #[.slice a1b hlb.length c1b,Value.int IntKind.u8 fb,Value.int IntKind.u8 tb,.slice a2b clb.length c2b],.int .i64 fr,.pointer (some ⟨w.heap.size,0,none⟩),.pointer (some ⟨w.heap.size+1,0,none⟩),undef,.bool false,.bool true,.pointer (some ⟨b2,0,none⟩),.pointer (some ⟨b3,0,none⟩),.pointer (some ⟨b4,0,none⟩),.int .i64 0,.pointer (some ⟨b5,0,none⟩),.int .i64 0,.int .i64 n,.int .i64 n1,.bool b1,.int .i64 n1,.bool b1,.int .i64 na,.bool ba,.int .i64 na,.bool ba,u23,u24,u25,u26,u27,u28,u29,u30,u31,u32,u33,u34,u35,u36,u37,u38,u39,u40,u41,u42,u43,u44,u45,u46,u47,u48,u49,u50,u51,u52,u53,u54,u55,u56,u57,u58,u59,u60,u61,u62,u63,u64,u65,u66,u67,u68,u69,u70,u71,u72,u73,u74,u75,u76,u77,u78,u79,u80,u81,u82,u83,u84,u85,u86,u87,u88,u89,u90,u91,u92,u93,u94,u95,u96,u97,u98,u99,u100,u101,u102,u103,u104,u105,u106,u107,u108,u109,u110,u111,u112,u113,u114,.tuple #[.int .i64 n1,.bool b1],.agg #[.slice xa1 x.head.length xm1,.int .i64 x.frm,.int .i64 x.period,.slice xa2 x.cycle.length xm2],.agg #[.slice ya1 y.head.length ym1,.int .i64 y.frm,.int .i64 y.period,.slice ya2 y.cycle.length ym2],.int .i64 n,.tuple #[.int .i64 n1,.bool b1],.int .i64 n1,.bool b1,.tuple #[.int .i64 n1,.bool b1],.agg #[.slice xa1 x.head.length xm1,.int .i64 x.frm,.int .i64 x.period,.slice xa2 x.cycle.length xm2],.agg #[.slice ya1 y.head.length ym1,.int .i64 y.frm,.int .i64 y.period,.slice ya2 y.cycle.length ym2],.int .i64 n,.tuple #[.int .i64 n1,.bool b1],.int .i64 n1,.bool b1,.tuple #[.int .i64 na,.bool ba],.agg #[.slice xa1 x.head.length xm1,.int .i64 x.frm,.int .i64 x.period,.slice xa2 x.cycle.length xm2],.agg #[.slice ya1 y.head.length ym1,.int .i64 y.frm,.int .i64 y.period,.slice ya2 y.cycle.length ym2],.tuple #[.int .i64 na,.bool ba],.int .i64 na,.bool ba,.tuple #[.int .i64 na,.bool ba],.agg #[.slice xa1 x.head.length xm1,.int .i64 x.frm,.int .i64 x.period,.slice xa2 x.cycle.length xm2],.agg #[.slice ya1 y.head.length ym1,.int .i64 y.frm,.int .i64 y.period,.slice ya2 y.cycle.length ym2],.tuple #[.int .i64 na,.bool ba],.int .i64 na,.bool ba,v 0,v 1,v 2,v 3,v 4,v 5,v 6,v 7,v 8,v 9,v 10,v 11,v 12,v 13,v 14,v 15,v 16,v 17,v 18,v 19,v 20,v 21,v 22,v 23,v 24,v 25,v 26,v 27,v 28,v 29,v 30,v 31,v 32,v 33,v 34,v 35,v 36,v 37,v 38],[]⟩) (fun j=>match j with|0=>u141|1=>u142|2=>u143|3=>u144|4=>u145|5=>u146|6=>u147|7=>u148|8=>u149|9=>u150|10=>u151|11=>u152|12=>u153|13=>u154|14=>u155|15=>u156|16=>u157|17=>u158|18=>u159|19=>u160|20=>u161|21=>u162|22=>u163|23=>u164|24=>u165|25=>u166|26=>u167|27=>u168|28=>u169|29=>u170|30=>u171|31=>u172|32=>u173|33=>u174|34=>u175|35=>u176|36=>u177|37=>u178|38=>u179|_=>undef)
  (fun i v lo hi W=>match i with
   | 0=>v 0=.bool true
   | 1=>v 1=.bool true
   | 2=>v 2=.int .i64 n1
   | 3=>v 3=.int .i64 n1
   | 4=>v 4=.bool true
   | 5=>v 5=.bool true
   | 6=>v 6=.bool true
   | 7=>v 7=.bool b1
   | 8=>v 8=.bool b1
   | 9=>v 9=.bool true
   | 10=>v 10=.bool true
   | 11=>v 11=.bool true
   | 12=>v 12=.int .i64 na
   | 13=>v 13=.int .i64 na
   | 14=>v 14=.bool true
   | 15=>v 15=.bool true
   | 16=>v 16=.bool true
   | 17=>v 17=.bool ba
   | 18=>v 18=.bool ba
   | 19=>v 19=.bool true
   | 20=>v 20=.bool true
   | 21=>v 21=.bool true
   | 22=>SetV W (v 22) x
   | 23=>SetV W (v 23) y
   | 24=>v 24=.bool bs
   | 25=>SetV W (v 25) x
   | 26=>SetV W (v 26) y
   | 27=>v 27=.bool bs
   | 28=>v 28=.bool true
   | 29=>v 29=.bool true
   | 30=>v 30=.bool true
   | 31=>SetV W (v 31) x
   | 32=>SetV W (v 32) y
   | 33=>v 33=.bool sm
   | 34=>SetV W (v 34) x
   | 35=>SetV W (v 35) y
   | 36=>v 36=.bool sm
   | 37=>v 37=.bool true
   | 38=>v 38=.bool true
   | _=>True)
  (fun W=>Sets W [(b3,y),(b2,x)]) rfl (by kernel_rfl) (by decide) rfl ?stab ?loc (fun W hb=>HSS.out.below (HB5.out.trans (hb.mono HB5.out.size))) ?steps ?fin
 case stab=>
  rintro (_|_|_|_|_|_|_|_|_|_|_|_|_|_|_|_|_|_|_|_|_|_|_|_|_|_|_|_|_|_|_|_|_|_|_|_|_|_|_|i) v lo hi W W' h hb
  ·exact h
  ·exact h
  ·exact h
  ·exact h
  ·exact h
  ·exact h
  ·exact h
  ·exact h
  ·exact h
  ·exact h
  ·exact h
  ·exact h
  ·exact h
  ·exact h
  ·exact h
  ·exact h
  ·exact h
  ·exact h
  ·exact h
  ·exact h
  ·exact h
  ·exact h
  ·exact h.below hb
  ·exact h.below hb
  ·exact h
  ·exact h.below hb
  ·exact h.below hb
  ·exact h
  ·exact h
  ·exact h
  ·exact h
  ·exact h.below hb
  ·exact h.below hb
  ·exact h
  ·exact h.below hb
  ·exact h.below hb
  ·exact h
  ·exact h
  ·exact h
  ·trivial
 case loc=>
  rintro (_|_|_|_|_|_|_|_|_|_|_|_|_|_|_|_|_|_|_|_|_|_|_|_|_|_|_|_|_|_|_|_|_|_|_|_|_|_|_|i) v v' lo lo' hi hi' W hag h
  ·exact (hag 0 (.inl rfl)).1 ▸ h
  ·exact (hag 1 (.inl rfl)).1 ▸ h
  ·exact (hag 2 (.inl rfl)).1 ▸ h
  ·exact (hag 3 (.inl rfl)).1 ▸ h
  ·exact (hag 4 (.inl rfl)).1 ▸ h
  ·exact (hag 5 (.inl rfl)).1 ▸ h
  ·exact (hag 6 (.inl rfl)).1 ▸ h
  ·exact (hag 7 (.inl rfl)).1 ▸ h
  ·exact (hag 8 (.inl rfl)).1 ▸ h
  ·exact (hag 9 (.inl rfl)).1 ▸ h
  ·exact (hag 10 (.inl rfl)).1 ▸ h
  ·exact (hag 11 (.inl rfl)).1 ▸ h
  ·exact (hag 12 (.inl rfl)).1 ▸ h
  ·exact (hag 13 (.inl rfl)).1 ▸ h
  ·exact (hag 14 (.inl rfl)).1 ▸ h
  ·exact (hag 15 (.inl rfl)).1 ▸ h
  ·exact (hag 16 (.inl rfl)).1 ▸ h
  ·exact (hag 17 (.inl rfl)).1 ▸ h
  ·exact (hag 18 (.inl rfl)).1 ▸ h
  ·exact (hag 19 (.inl rfl)).1 ▸ h
  ·exact (hag 20 (.inl rfl)).1 ▸ h
  ·exact (hag 21 (.inl rfl)).1 ▸ h
  ·have q:=hag 22 (.inl rfl)
   have q21:=hag 21 (.inr (Rdp (by kernel_rfl)))
   (try dsimp only at h ⊢);(try simp only [q.1,q.2.1,q.2.2,q21.1,q21.2.1,q21.2.2] at h);exact h
  ·have q:=hag 23 (.inl rfl)
   have q21:=hag 21 (.inr (Rdp (by kernel_rfl)))
   (try dsimp only at h ⊢);(try simp only [q.1,q.2.1,q.2.2,q21.1,q21.2.1,q21.2.2] at h);exact h
  ·exact (hag 24 (.inl rfl)).1 ▸ h
  ·have q:=hag 25 (.inl rfl)
   have q21:=hag 21 (.inr (Rdp (by kernel_rfl)))
   (try dsimp only at h ⊢);(try simp only [q.1,q.2.1,q.2.2,q21.1,q21.2.1,q21.2.2] at h);exact h
  ·have q:=hag 26 (.inl rfl)
   have q21:=hag 21 (.inr (Rdp (by kernel_rfl)))
   (try dsimp only at h ⊢);(try simp only [q.1,q.2.1,q.2.2,q21.1,q21.2.1,q21.2.2] at h);exact h
  ·exact (hag 27 (.inl rfl)).1 ▸ h
  ·exact (hag 28 (.inl rfl)).1 ▸ h
  ·exact (hag 29 (.inl rfl)).1 ▸ h
  ·exact (hag 30 (.inl rfl)).1 ▸ h
  ·have q:=hag 31 (.inl rfl)
   have q30:=hag 30 (.inr (Rdp (by kernel_rfl)))
   (try dsimp only at h ⊢);(try simp only [q.1,q.2.1,q.2.2,q30.1,q30.2.1,q30.2.2] at h);exact h
  ·have q:=hag 32 (.inl rfl)
   have q30:=hag 30 (.inr (Rdp (by kernel_rfl)))
   (try dsimp only at h ⊢);(try simp only [q.1,q.2.1,q.2.2,q30.1,q30.2.1,q30.2.2] at h);exact h
  ·exact (hag 33 (.inl rfl)).1 ▸ h
  ·have q:=hag 34 (.inl rfl)
   have q30:=hag 30 (.inr (Rdp (by kernel_rfl)))
   (try dsimp only at h ⊢);(try simp only [q.1,q.2.1,q.2.2,q30.1,q30.2.1,q30.2.2] at h);exact h
  ·have q:=hag 35 (.inl rfl)
   have q30:=hag 30 (.inr (Rdp (by kernel_rfl)))
   (try dsimp only at h ⊢);(try simp only [q.1,q.2.1,q.2.2,q30.1,q30.2.1,q30.2.2] at h);exact h
  ·exact (hag 36 (.inl rfl)).1 ▸ h
  ·exact (hag 37 (.inl rfl)).1 ▸ h
  ·exact (hag 38 (.inl rfl)).1 ▸ h
  ·trivial
 case steps=>
  refine StepsH.cons rfl ?_ (StepsH.cons rfl ?_ (StepsH.cons rfl ?_ (StepsH.cons rfl ?_ (StepsH.cons rfl ?_ (StepsH.cons rfl ?_ (StepsH.cons rfl ?_ (StepsH.cons rfl ?_ (StepsH.cons rfl ?_ (StepsH.cons rfl ?_ (StepsH.cons rfl ?_ (StepsH.cons rfl ?_ (StepsH.cons rfl ?_ (StepsH.cons rfl ?_ (StepsH.cons rfl ?_ (StepsH.cons rfl ?_ (StepsH.cons rfl ?_ (StepsH.cons rfl ?_ (StepsH.cons rfl ?_ (StepsH.cons rfl ?_ (StepsH.cons rfl ?_ (StepsH.cons rfl ?_ (StepsH.cons rfl ?_ (StepsH.cons rfl ?_ (StepsH.cons rfl ?_ (StepsH.cons rfl ?_ (StepsH.cons rfl ?_ (StepsH.cons rfl ?_ (StepsH.cons rfl ?_ (StepsH.cons rfl ?_ (StepsH.cons rfl ?_ (StepsH.cons rfl ?_ (StepsH.cons rfl ?_ (StepsH.cons rfl ?_ (StepsH.cons rfl ?_ (StepsH.cons rfl ?_ (StepsH.cons rfl ?_ (StepsH.cons rfl ?_ (StepsH.cons rfl ?_ StepsH.nil))))))))))))))))))))))))))))))))))))))
  ·rintro v lo hi W hb hS hd
   clear hd
   refine ⟨rfl,?_⟩
   intro K hK
   dsimp only
   go_wp2_with fail
   exact acx (hK (.bool true) W (Below.refl _ _) rfl) (by simp)
  ·rintro v lo hi W hb hS hd
   have e0:v 0=.bool true:=(hd 0 (Rdp (by kernel_rfl))).2.2
   clear hd
   refine ⟨rfl,?_⟩
   intro K hK
   dsimp only
   (try simp only [e0])
   go_wp2_with fail
   exact acx (hK (.bool true) W (Below.refl _ _) rfl) (by simp [e0])
  ·rintro v lo hi W hb hS hd
   have e1:v 1=.bool true:=(hd 1 (Rdp (by kernel_rfl))).2.2
   clear hd
   refine ⟨(by show ((match some (v 1) with|some (Value.bool b)=>some b|_=>none) == some true)=true;rw [e1];rfl),?_⟩
   intro K hK
   dsimp only
   (try simp only [e1])
   go_wp2_with fail
   exact acx (hK (.int .i64 n1) W (Below.refl _ _) rfl) (by simp [e1])
  ·rintro v lo hi W hb hS hd
   have e1:v 1=.bool true:=(hd 1 (Rdp (by kernel_rfl))).2.2
   clear hd
   refine ⟨(by show ((match some (v 1) with|some (Value.bool b)=>some b|_=>none) == some true)=true;rw [e1];rfl),?_⟩
   intro K hK
   dsimp only
   (try simp only [e1])
   go_wp2_with fail
   exact acx (hK (.int .i64 n1) W (Below.refl _ _) rfl) (by simp [e1])
  ·rintro v lo hi W hb hS hd
   have e1:v 1=.bool true:=(hd 1 (Rdp (by kernel_rfl))).2.2
   have e2:v 2=.int .i64 n1:=(hd 2 (Rdp (by kernel_rfl))).2.2
   have e3:v 3=.int .i64 n1:=(hd 3 (Rdp (by kernel_rfl))).2.2
   clear hd
   refine ⟨(by show ((match some (v 1) with|some (Value.bool b)=>some b|_=>none) == some true)=true;rw [e1];rfl),?_⟩
   intro K hK
   dsimp only
   (try simp only [e1,e2,e3])
   go_wp2_with fail
   exact acx (hK (.bool true) W (Below.refl _ _) rfl) (by simp [e1,e2,e3])
  ·rintro v lo hi W hb hS hd
   have e1:v 1=.bool true:=(hd 1 (Rdp (by kernel_rfl))).2.2
   have e4:v 4=.bool true:=(hd 4 (Rdp (by kernel_rfl))).2.2
   clear hd
   refine ⟨rfl,?_⟩
   intro K hK
   dsimp only
   (try simp only [e1,e4])
   go_wp2_with fail
   exact acx (hK (.bool true) W (Below.refl _ _) rfl) (by simp [e1,e4])
  ·rintro v lo hi W hb hS hd
   have e5:v 5=.bool true:=(hd 5 (Rdp (by kernel_rfl))).2.2
   clear hd
   refine ⟨rfl,?_⟩
   intro K hK
   dsimp only
   (try simp only [e5])
   go_wp2_with fail
   exact acx (hK (.bool true) W (Below.refl _ _) rfl) (by simp [e5])
  ·rintro v lo hi W hb hS hd
   have e6:v 6=.bool true:=(hd 6 (Rdp (by kernel_rfl))).2.2
   clear hd
   refine ⟨(by show ((match some (v 6) with|some (Value.bool b)=>some b|_=>none) == some true)=true;rw [e6];rfl),?_⟩
   intro K hK
   dsimp only
   (try simp only [e6])
   go_wp2_with fail
   exact acx (hK (.bool b1) W (Below.refl _ _) rfl) (by simp [e6])
  ·rintro v lo hi W hb hS hd
   have e6:v 6=.bool true:=(hd 6 (Rdp (by kernel_rfl))).2.2
   clear hd
   refine ⟨(by show ((match some (v 6) with|some (Value.bool b)=>some b|_=>none) == some true)=true;rw [e6];rfl),?_⟩
   intro K hK
   dsimp only
   (try simp only [e6])
   go_wp2_with fail
   exact acx (hK (.bool b1) W (Below.refl _ _) rfl) (by simp [e6])
  ·rintro v lo hi W hb hS hd
   have e6:v 6=.bool true:=(hd 6 (Rdp (by kernel_rfl))).2.2
   have e7:v 7=.bool b1:=(hd 7 (Rdp (by kernel_rfl))).2.2
   have e8:v 8=.bool b1:=(hd 8 (Rdp (by kernel_rfl))).2.2
   clear hd
   refine ⟨(by show ((match some (v 6) with|some (Value.bool b)=>some b|_=>none) == some true)=true;rw [e6];rfl),?_⟩
   intro K hK
   dsimp only
   (try simp only [e6,e7,e8])
   go_wp2_with fail
   exact acx (hK (.bool true) W (Below.refl _ _) rfl) (by simp [e6,e7,e8])
  ·rintro v lo hi W hb hS hd
   have e6:v 6=.bool true:=(hd 6 (Rdp (by kernel_rfl))).2.2
   have e9:v 9=.bool true:=(hd 9 (Rdp (by kernel_rfl))).2.2
   clear hd
   refine ⟨rfl,?_⟩
   intro K hK
   dsimp only
   (try simp only [e6,e9])
   go_wp2_with fail
   exact acx (hK (.bool true) W (Below.refl _ _) rfl) (by simp [e6,e9])
  ·rintro v lo hi W hb hS hd
   have e10:v 10=.bool true:=(hd 10 (Rdp (by kernel_rfl))).2.2
   clear hd
   refine ⟨rfl,?_⟩
   intro K hK
   dsimp only
   (try simp only [e10])
   go_wp2_with fail
   exact acx (hK (.bool true) W (Below.refl _ _) rfl) (by simp [e10])
  ·rintro v lo hi W hb hS hd
   have e11:v 11=.bool true:=(hd 11 (Rdp (by kernel_rfl))).2.2
   clear hd
   refine ⟨(by show ((match some (v 11) with|some (Value.bool b)=>some b|_=>none) == some true)=true;rw [e11];rfl),?_⟩
   intro K hK
   dsimp only
   (try simp only [e11])
   go_wp2_with fail
   exact acx (hK (.int .i64 na) W (Below.refl _ _) rfl) (by simp [e11])
  ·rintro v lo hi W hb hS hd
   have e11:v 11=.bool true:=(hd 11 (Rdp (by kernel_rfl))).2.2
   clear hd
   refine ⟨(by show ((match some (v 11) with|some (Value.bool b)=>some b|_=>none) == some true)=true;rw [e11];rfl),?_⟩
   intro K hK
   dsimp only
   (try simp only [e11])
   go_wp2_with fail
   exact acx (hK (.int .i64 na) W (Below.refl _ _) rfl) (by simp [e11])
  ·rintro v lo hi W hb hS hd
   have e11:v 11=.bool true:=(hd 11 (Rdp (by kernel_rfl))).2.2
   have e12:v 12=.int .i64 na:=(hd 12 (Rdp (by kernel_rfl))).2.2
   have e13:v 13=.int .i64 na:=(hd 13 (Rdp (by kernel_rfl))).2.2
   clear hd
   refine ⟨(by show ((match some (v 11) with|some (Value.bool b)=>some b|_=>none) == some true)=true;rw [e11];rfl),?_⟩
   intro K hK
   dsimp only
   (try simp only [e11,e12,e13])
   go_wp2_with fail
   exact acx (hK (.bool true) W (Below.refl _ _) rfl) (by simp [e11,e12,e13])
  ·rintro v lo hi W hb hS hd
   have e11:v 11=.bool true:=(hd 11 (Rdp (by kernel_rfl))).2.2
   have e14:v 14=.bool true:=(hd 14 (Rdp (by kernel_rfl))).2.2
   clear hd
   refine ⟨rfl,?_⟩
   intro K hK
   dsimp only
   (try simp only [e11,e14])
   go_wp2_with fail
   exact acx (hK (.bool true) W (Below.refl _ _) rfl) (by simp [e11,e14])
  ·rintro v lo hi W hb hS hd
   have e15:v 15=.bool true:=(hd 15 (Rdp (by kernel_rfl))).2.2
   clear hd
   refine ⟨rfl,?_⟩
   intro K hK
   dsimp only
   (try simp only [e15])
   go_wp2_with fail
   exact acx (hK (.bool true) W (Below.refl _ _) rfl) (by simp [e15])
  ·rintro v lo hi W hb hS hd
   have e16:v 16=.bool true:=(hd 16 (Rdp (by kernel_rfl))).2.2
   clear hd
   refine ⟨(by show ((match some (v 16) with|some (Value.bool b)=>some b|_=>none) == some true)=true;rw [e16];rfl),?_⟩
   intro K hK
   dsimp only
   (try simp only [e16])
   go_wp2_with fail
   exact acx (hK (.bool ba) W (Below.refl _ _) rfl) (by simp [e16])
  ·rintro v lo hi W hb hS hd
   have e16:v 16=.bool true:=(hd 16 (Rdp (by kernel_rfl))).2.2
   clear hd
   refine ⟨(by show ((match some (v 16) with|some (Value.bool b)=>some b|_=>none) == some true)=true;rw [e16];rfl),?_⟩
   intro K hK
   dsimp only
   (try simp only [e16])
   go_wp2_with fail
   exact acx (hK (.bool ba) W (Below.refl _ _) rfl) (by simp [e16])
  ·rintro v lo hi W hb hS hd
   have e16:v 16=.bool true:=(hd 16 (Rdp (by kernel_rfl))).2.2
   have e17:v 17=.bool ba:=(hd 17 (Rdp (by kernel_rfl))).2.2
   have e18:v 18=.bool ba:=(hd 18 (Rdp (by kernel_rfl))).2.2
   clear hd
   refine ⟨(by show ((match some (v 16) with|some (Value.bool b)=>some b|_=>none) == some true)=true;rw [e16];rfl),?_⟩
   intro K hK
   dsimp only
   (try simp only [e16,e17,e18])
   go_wp2_with fail
   exact acx (hK (.bool true) W (Below.refl _ _) rfl) (by simp [e16,e17,e18])
  ·rintro v lo hi W hb hS hd
   have e16:v 16=.bool true:=(hd 16 (Rdp (by kernel_rfl))).2.2
   have e19:v 19=.bool true:=(hd 19 (Rdp (by kernel_rfl))).2.2
   clear hd
   refine ⟨rfl,?_⟩
   intro K hK
   dsimp only
   (try simp only [e16,e19])
   go_wp2_with fail
   exact acx (hK (.bool true) W (Below.refl _ _) rfl) (by simp [e16,e19])
  ·rintro v lo hi W hb hS hd
   have e20:v 20=.bool true:=(hd 20 (Rdp (by kernel_rfl))).2.2
   clear hd
   refine ⟨rfl,?_⟩
   intro K hK
   dsimp only
   (try simp only [e20])
   go_wp2_with fail
   exact acx (hK (.bool true) W (Below.refl _ _) rfl) (by simp [e20])
  ·rintro v lo hi W hb hS hd
   have e21:v 21=.bool true:=(hd 21 (Rdp (by kernel_rfl))).2.2
   clear hd
   refine ⟨(by show ((match some (v 21) with|some (Value.bool b)=>some b|_=>none) == some true)=true;rw [e21];rfl),?_⟩
   intro K hK
   dsimp only
   (try simp only [e21])
   obtain ⟨h,c,g⟩:=hS.at 1 rfl
   have q0:=(g.box.cells 0).1
   have q1:=(g.box.cells 1).1
   have q2:=(g.box.cells 2).1
   have q3:=(g.box.cells 3).1
   go_wp2_with fail
   exact acx (hK (perV h c (x:Per).frm (x:Per).period) W (Below.refl _ _) ⟨h,c,rfl,g.is⟩) (by simp [e21])
  ·rintro v lo hi W hb hS hd
   have e21:v 21=.bool true:=(hd 21 (Rdp (by kernel_rfl))).2.2
   clear hd
   refine ⟨(by show ((match some (v 21) with|some (Value.bool b)=>some b|_=>none) == some true)=true;rw [e21];rfl),?_⟩
   intro K hK
   dsimp only
   (try simp only [e21])
   obtain ⟨h,c,g⟩:=hS.at 0 rfl
   have q0:=(g.box.cells 0).1
   have q1:=(g.box.cells 1).1
   have q2:=(g.box.cells 2).1
   have q3:=(g.box.cells 3).1
   go_wp2_with fail
   exact acx (hK (perV h c (y:Per).frm (y:Per).period) W (Below.refl _ _) ⟨h,c,rfl,g.is⟩) (by simp [e21])
  ·rintro v lo hi W hb hS hd
   have e21:v 21=.bool true:=(hd 21 (Rdp (by kernel_rfl))).2.2
   obtain ⟨la22,lb22,D22⟩:=hd 22 (Rdp (by kernel_rfl))
   obtain ⟨la23,lb23,D23⟩:=hd 23 (Rdp (by kernel_rfl))
   clear hd
   refine ⟨(by show ((match some (v 21) with|some (Value.bool b)=>some b|_=>none) == some true)=true;rw [e21];rfl),?_⟩
   intro K hK
   dsimp only
   (try simp only [e21])
   obtain ⟨h0,c0,e0,s0⟩:=D22
   obtain ⟨h1,c1,e1,s1⟩:=D23
   simp only [e0,e1]
   go_wp2_with (go_at_call 34;refine (subset_sm h0 c0 h1 c1 x y cx cy bs _ s0 s1 Sx.out Sy.out Qcx.out Qcy.out HBS.out).mono ?_;rintro e w9 ⟨he,hb9⟩;subst he)
   exact acx (hK (.bool bs) w9 hb9 rfl) (by simp [e21,e0,e1])
  ·rintro v lo hi W hb hS hd
   have e21:v 21=.bool true:=(hd 21 (Rdp (by kernel_rfl))).2.2
   clear hd
   refine ⟨(by show ((match some (v 21) with|some (Value.bool b)=>some b|_=>none) == some true)=true;rw [e21];rfl),?_⟩
   intro K hK
   dsimp only
   (try simp only [e21])
   obtain ⟨h,c,g⟩:=hS.at 1 rfl
   have q0:=(g.box.cells 0).1
   have q1:=(g.box.cells 1).1
   have q2:=(g.box.cells 2).1
   have q3:=(g.box.cells 3).1
   go_wp2_with fail
   exact acx (hK (perV h c (x:Per).frm (x:Per).period) W (Below.refl _ _) ⟨h,c,rfl,g.is⟩) (by simp [e21])
  ·rintro v lo hi W hb hS hd
   have e21:v 21=.bool true:=(hd 21 (Rdp (by kernel_rfl))).2.2
   clear hd
   refine ⟨(by show ((match some (v 21) with|some (Value.bool b)=>some b|_=>none) == some true)=true;rw [e21];rfl),?_⟩
   intro K hK
   dsimp only
   (try simp only [e21])
   obtain ⟨h,c,g⟩:=hS.at 0 rfl
   have q0:=(g.box.cells 0).1
   have q1:=(g.box.cells 1).1
   have q2:=(g.box.cells 2).1
   have q3:=(g.box.cells 3).1
   go_wp2_with fail
   exact acx (hK (perV h c (y:Per).frm (y:Per).period) W (Below.refl _ _) ⟨h,c,rfl,g.is⟩) (by simp [e21])
  ·rintro v lo hi W hb hS hd
   have e21:v 21=.bool true:=(hd 21 (Rdp (by kernel_rfl))).2.2
   obtain ⟨la25,lb25,D25⟩:=hd 25 (Rdp (by kernel_rfl))
   obtain ⟨la26,lb26,D26⟩:=hd 26 (Rdp (by kernel_rfl))
   clear hd
   refine ⟨(by show ((match some (v 21) with|some (Value.bool b)=>some b|_=>none) == some true)=true;rw [e21];rfl),?_⟩
   intro K hK
   dsimp only
   (try simp only [e21])
   obtain ⟨h0,c0,e0,s0⟩:=D25
   obtain ⟨h1,c1,e1,s1⟩:=D26
   simp only [e0,e1]
   go_wp2_with (go_at_call 35;refine (RSubset_ok h0 c0 h1 c1 x y cx cy bs _ s0 s1 HVX.out HVY.out Qcx.out Qcy.out (by have:=HLC.out;omega) HBS.out).mono ?_;rintro e w9 ⟨he,hb9⟩;subst he)
   exact acx (hK (.bool bs) w9 hb9 rfl) (by simp [e21,e0,e1])
  ·rintro v lo hi W hb hS hd
   have e21:v 21=.bool true:=(hd 21 (Rdp (by kernel_rfl))).2.2
   have e24:v 24=.bool bs:=(hd 24 (Rdp (by kernel_rfl))).2.2
   have e27:v 27=.bool bs:=(hd 27 (Rdp (by kernel_rfl))).2.2
   clear hd
   refine ⟨(by show ((match some (v 21) with|some (Value.bool b)=>some b|_=>none) == some true)=true;rw [e21];rfl),?_⟩
   intro K hK
   dsimp only
   (try simp only [e21,e24,e27])
   go_wp2_with fail
   exact acx (hK (.bool true) W (Below.refl _ _) rfl) (by simp [e21,e24,e27])
  ·rintro v lo hi W hb hS hd
   have e21:v 21=.bool true:=(hd 21 (Rdp (by kernel_rfl))).2.2
   have e28:v 28=.bool true:=(hd 28 (Rdp (by kernel_rfl))).2.2
   clear hd
   refine ⟨rfl,?_⟩
   intro K hK
   dsimp only
   (try simp only [e21,e28])
   go_wp2_with fail
   exact acx (hK (.bool true) W (Below.refl _ _) rfl) (by simp [e21,e28])
  ·rintro v lo hi W hb hS hd
   have e29:v 29=.bool true:=(hd 29 (Rdp (by kernel_rfl))).2.2
   clear hd
   refine ⟨rfl,?_⟩
   intro K hK
   dsimp only
   (try simp only [e29])
   go_wp2_with fail
   exact acx (hK (.bool true) W (Below.refl _ _) rfl) (by simp [e29])
  ·rintro v lo hi W hb hS hd
   have e30:v 30=.bool true:=(hd 30 (Rdp (by kernel_rfl))).2.2
   clear hd
   refine ⟨(by show ((match some (v 30) with|some (Value.bool b)=>some b|_=>none) == some true)=true;rw [e30];rfl),?_⟩
   intro K hK
   dsimp only
   (try simp only [e30])
   obtain ⟨h,c,g⟩:=hS.at 1 rfl
   have q0:=(g.box.cells 0).1
   have q1:=(g.box.cells 1).1
   have q2:=(g.box.cells 2).1
   have q3:=(g.box.cells 3).1
   go_wp2_with fail
   exact acx (hK (perV h c (x:Per).frm (x:Per).period) W (Below.refl _ _) ⟨h,c,rfl,g.is⟩) (by simp [e30])
  ·rintro v lo hi W hb hS hd
   have e30:v 30=.bool true:=(hd 30 (Rdp (by kernel_rfl))).2.2
   clear hd
   refine ⟨(by show ((match some (v 30) with|some (Value.bool b)=>some b|_=>none) == some true)=true;rw [e30];rfl),?_⟩
   intro K hK
   dsimp only
   (try simp only [e30])
   obtain ⟨h,c,g⟩:=hS.at 0 rfl
   have q0:=(g.box.cells 0).1
   have q1:=(g.box.cells 1).1
   have q2:=(g.box.cells 2).1
   have q3:=(g.box.cells 3).1
   go_wp2_with fail
   exact acx (hK (perV h c (y:Per).frm (y:Per).period) W (Below.refl _ _) ⟨h,c,rfl,g.is⟩) (by simp [e30])
  ·rintro v lo hi W hb hS hd
   have e30:v 30=.bool true:=(hd 30 (Rdp (by kernel_rfl))).2.2
   obtain ⟨la31,lb31,D31⟩:=hd 31 (Rdp (by kernel_rfl))
   obtain ⟨la32,lb32,D32⟩:=hd 32 (Rdp (by kernel_rfl))
   clear hd
   refine ⟨(by show ((match some (v 30) with|some (Value.bool b)=>some b|_=>none) == some true)=true;rw [e30];rfl),?_⟩
   intro K hK
   dsimp only
   (try simp only [e30])
   obtain ⟨h0,c0,e0,s0⟩:=D31
   obtain ⟨h1,c1,e1,s1⟩:=D32
   simp only [e0,e1]
   go_wp2_with (go_at_call 36;refine (same_ok h0 c0 h1 c1 x y cx cy _ s0 s1 HVX.out HVY.out Qcx.out Qcy.out).mono ?_;rintro e w9 ⟨he,hb9⟩;rw [← HSM.out] at he;subst he)
   exact acx (hK (.bool sm) w9 hb9 rfl) (by simp [e30,e0,e1])
  ·rintro v lo hi W hb hS hd
   have e30:v 30=.bool true:=(hd 30 (Rdp (by kernel_rfl))).2.2
   clear hd
   refine ⟨(by show ((match some (v 30) with|some (Value.bool b)=>some b|_=>none) == some true)=true;rw [e30];rfl),?_⟩
   intro K hK
   dsimp only
   (try simp only [e30])
   obtain ⟨h,c,g⟩:=hS.at 1 rfl
   have q0:=(g.box.cells 0).1
   have q1:=(g.box.cells 1).1
   have q2:=(g.box.cells 2).1
   have q3:=(g.box.cells 3).1
   go_wp2_with fail
   exact acx (hK (perV h c (x:Per).frm (x:Per).period) W (Below.refl _ _) ⟨h,c,rfl,g.is⟩) (by simp [e30])
  ·rintro v lo hi W hb hS hd
   have e30:v 30=.bool true:=(hd 30 (Rdp (by kernel_rfl))).2.2
   clear hd
   refine ⟨(by show ((match some (v 30) with|some (Value.bool b)=>some b|_=>none) == some true)=true;rw [e30];rfl),?_⟩
   intro K hK
   dsimp only
   (try simp only [e30])
   obtain ⟨h,c,g⟩:=hS.at 0 rfl
   have q0:=(g.box.cells 0).1
   have q1:=(g.box.cells 1).1
   have q2:=(g.box.cells 2).1
   have q3:=(g.box.cells 3).1
   go_wp2_with fail
   exact acx (hK (perV h c (y:Per).frm (y:Per).period) W (Below.refl _ _) ⟨h,c,rfl,g.is⟩) (by simp [e30])
  ·rintro v lo hi W hb hS hd
   have e30:v 30=.bool true:=(hd 30 (Rdp (by kernel_rfl))).2.2
   obtain ⟨la34,lb34,D34⟩:=hd 34 (Rdp (by kernel_rfl))
   obtain ⟨la35,lb35,D35⟩:=hd 35 (Rdp (by kernel_rfl))
   clear hd
   refine ⟨(by show ((match some (v 30) with|some (Value.bool b)=>some b|_=>none) == some true)=true;rw [e30];rfl),?_⟩
   intro K hK
   dsimp only
   (try simp only [e30])
   obtain ⟨h0,c0,e0,s0⟩:=D34
   obtain ⟨h1,c1,e1,s1⟩:=D35
   simp only [e0,e1]
   go_wp2_with (go_at_call 37;refine (RSame_ok h0 c0 h1 c1 x y cx cy _ s0 s1 HVX.out HVY.out Qcx.out Qcy.out).mono ?_;rintro e w9 ⟨he,hb9⟩;rw [← HSM.out] at he;subst he)
   exact acx (hK (.bool sm) w9 hb9 rfl) (by simp [e30,e0,e1])
  ·rintro v lo hi W hb hS hd
   have e30:v 30=.bool true:=(hd 30 (Rdp (by kernel_rfl))).2.2
   have e33:v 33=.bool sm:=(hd 33 (Rdp (by kernel_rfl))).2.2
   have e36:v 36=.bool sm:=(hd 36 (Rdp (by kernel_rfl))).2.2
   clear hd
   refine ⟨(by show ((match some (v 30) with|some (Value.bool b)=>some b|_=>none) == some true)=true;rw [e30];rfl),?_⟩
   intro K hK
   dsimp only
   (try simp only [e30,e33,e36])
   go_wp2_with fail
   exact acx (hK (.bool true) W (Below.refl _ _) rfl) (by simp [e30,e33,e36])
  ·rintro v lo hi W hb hS hd
   have e30:v 30=.bool true:=(hd 30 (Rdp (by kernel_rfl))).2.2
   have e37:v 37=.bool true:=(hd 37 (Rdp (by kernel_rfl))).2.2
   clear hd
   refine ⟨rfl,?_⟩
   intro K hK
   dsimp only
   (try simp only [e30,e37])
   go_wp2_with fail
   exact acx (hK (.bool true) W (Below.refl _ _) rfl) (by simp [e30,e37])
 case fin=>
  rintro v lo hi W9 hb9 hS9 hf _
  show wpList _ _ _ [_] _ _
  have f38:v 38=.bool true:=(hf 38 rfl).2.2.2
  clear hf hS9
  (try dsimp only)
  rw [f38]
  clear f38
  generalize v 0=y0
  generalize v 1=y1
  generalize v 2=y2
  generalize v 3=y3
  generalize v 4=y4
  generalize v 5=y5
  generalize v 6=y6
  generalize v 7=y7
  generalize v 8=y8
  generalize v 9=y9
  generalize v 10=y10
  generalize v 11=y11
  generalize v 12=y12
  generalize v 13=y13
  generalize v 14=y14
  generalize v 15=y15
  generalize v 16=y16
  generalize v 17=y17
  generalize v 18=y18
  generalize v 19=y19
  generalize v 20=y20
  generalize v 21=y21
  generalize v 22=y22
  generalize v 23=y23
  generalize v 24=y24
  generalize v 25=y25
  generalize v 26=y26
  generalize v 27=y27
  generalize v 28=y28
  generalize v 29=y29
  generalize v 30=y30
  generalize v 31=y31
  generalize v 32=y32
  generalize v 33=y33
  generalize v 34=y34
  generalize v 35=y35
  generalize v 36=y36
  generalize v 37=y37
  have hb5:=HB5.out
  have hE:=HE.out
  go_wp2_with fail
  go_ret
  exact ⟨rfl,by (repeat' (with_reducible first|assumption|apply Er|apply Ea|apply Ed|apply En|(refine Es ?_ (by first|(simp<;>omega)|omega) _)|refine Et ?_ (by assumption)))⟩
end Go.Proofs.YtjilkhhokkncoaaGreat
