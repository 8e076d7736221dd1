/- Walk: the law MixedJoins. -/
import Derived.Test.YthjnojbeimchdaaGreatBxSupWalkLh
import Derived.Test.YthjnojbeimchdaaGreatC12h
set_option linter.unusedVariables false
set_option linter.unusedSimpArgs false
namespace Go.Proofs.YthjnojbeimchdaaGreat
open Go.RowKit Go.Maps Kal
theorem perE_canon:IsCanon perE perE.mem:=⟨(perE_fv (Int.le_refl 0)).fac.wf,fun n=>Iff.rfl,fun d hd _=>hd,fun f hf _=>hf⟩
theorem join_canon {m:List (List Per)} (h:MV 0 m):IsCanon (joinF perE m) (joinF perE m).mem:=(joinF_ok (perE_fv (Int.le_refl _)).fac h.f).2.2 fun _=>perE_canon
theorem join_next {m:List (List Per)} {q:Per} {f c d:Int} {is was:Bool} (h:MadeM m) (hq:∀ n,q.mem n↔mmem m n) (f0:0≤f) (f1:f≤65535) (hc:NextF FarI (mmem m) f c is) (hd:NextIs q.mem f d was):is=was∧c=d:=by
 cases is
 ·have hn:=next_none hc
  have c0:c=0:=by
   rcases hc with ⟨h,_⟩|⟨_,h,_⟩
   ·cases h
   ·exact h
  rcases hd with ⟨rfl,d1,d2,_⟩|⟨rfl,rfl,_⟩
  ·exfalso
   have d3:=(hq d).1 d2
   by_cases hd8:d≤1000000
   ·exact hn d d1 (by omega) d3
   ·obtain ⟨y,y0,y1,y2⟩:=made_far (f:=f+8) h (by omega) (by omega) (by omega) d3
    exact hn y (by omega) (by omega) y2
  ·exact ⟨rfl,c0⟩
 ·obtain ⟨b1,b2,b3,b4⟩:=next_near h.fac f0 hc
  rcases hd with ⟨rfl,d1,d2,d3⟩|⟨rfl,rfl,d3⟩
  ·refine ⟨rfl,?_⟩
   have e1:¬ c<d:=fun hlt=>d3 c b1 hlt ((hq c).2 b3)
   have e2:¬ d<c:=fun hlt=>b4 d d1 hlt ((hq d).1 d2)
   omega
  ·exact absurd ((hq c).2 b3) (d3 c b1)
theorem join_has {m:List (List Per)} {q:Per} {n:Int} (h:MV 0 m) (hv:FV 0 q) (hq:∀ n,q.mem n↔mmem m n) (h0:0≤n):(validB q && decide (0≤n) && memB q n)=hasM m n:=by
 rw [hv.validB,decide_eq_true h0,Bool.true_and,Bool.true_and]
 exact Bool.eq_iff_iff.2 ((memB_iff h0).trans ((hq n).trans (hasM_iff h).symm))
theorem join_same {a b:List (List Per)} {p q:Per} {s:Bool} (hp:IsCanon p p.mem) (hq:IsCanon q q.mem) (ha:∀ n,p.mem n↔mmem a n) (hb:∀ n,q.mem n↔mmem b n) (hs:s=true↔∀ n,mmem a n↔mmem b n):s=sameB p q:=by
 refine Bool.eq_iff_iff.2 (hs.trans ((Iff.trans ?_ (hp.eq_iff hq).symm).trans (sameB_iff p q).symm))
 exact ⟨fun h n=>(ha n).trans ((h n).trans (hb n).symm),fun h n=>(ha n).symm.trans ((h n).trans (hb n))⟩
theorem SetAt.pvok {W:World} {b:Nat} {h c:Value} {p:Per} (hs:SetAt W b h c p) (hv:FV 0 p):PVok W (fun _=>True) ⟨h,c,p⟩:=by
 have h1:=hv.fac.wf.frm
 have h2:=hv.far
 have h3:=hv.fac.wf.per
 have h4:=hv.fac.per
 exact ⟨hs.is,⟨by show (_:Int)≤p.frm;omega,by show p.frm≤_;omega⟩,⟨by show (_:Int)≤p.period;omega,by show p.period≤_;omega⟩,fun _ _ _=>trivial,fun _ _ _=>trivial⟩
set_option maxRecDepth 100000 in
set_option maxHeartbeats 4000000 in
theorem MixedJoins_any (v0:Value) (n0:Nat) (v1:Value) (n1:Nat) (dy:Int) (w:World) (h0:ByteRows w v0 n0) (h1:ByteRows w v1 n1) (f0:0≤dy) (f1:dy≤65535) :
  Calls Tryz.prog 10 #[v0,v1,.int .u16 dy] w fun e w'=>e=.returned (.bool true)∧Below w.heap.size w w':=by
 have H0:=Lib.hid h0
 have H1:=Lib.hid h1
 clear h0 h1
 go_enter Tryz.func10,Tryz.ntmps10
 go_upto_region 4 with (first|(go_at_call 13;refine (sanity_any _).mono ?_;rintro e w1 ⟨rfl,k1⟩)|(go_at_call 14;first|((with_reducible refine (Made_any v0 n0 _ (H0.out.ext (by (repeat' (with_reducible first|assumption|apply Er|apply Ea|apply Ed|apply En|(refine Es ?_ (by first|(simp<;>omega)|omega) _)|refine Et ?_ (by assumption)))))).mono ?_);rintro e w2 ⟨mA,aA,cA,rfl,xA,dA,k2⟩)|((with_reducible refine (Made_any v1 n1 _ (H1.out.ext (by (repeat' (with_reducible first|assumption|apply Er|apply Ea|apply Ed|apply En|(refine Es ?_ (by first|(simp<;>omega)|omega) _)|refine Et ?_ (by assumption)))))).mono ?_);rintro e w3 ⟨mB,aB,cB,rfl,xB,dB,k3⟩)))
 refine wp_abs (F:=fun U=>MSets U [(w3.heap.size,mB.length,mB),(w2.heap.size,mA.length,mA)]∧Below w.heap.size w U) ⟨MSets.cons ⟨aB,cB,by (repeat' (first|(refine Bxx.at ?_;simp;done)|refine Bxx.alloc ?_ _)),(xB.mono fun _ _=>trivial).ext (by (repeat' (with_reducible first|assumption|apply Er|apply Ea|apply Ed|apply En|(refine Es ?_ (by first|(simp<;>omega)|omega) _)|refine Et ?_ (by assumption))))⟩ (MSets.cons ⟨aA,cA,((Bxx.new w2 _ _).below k3).alloc _,(xA.mono fun _ _=>trivial).ext (by (repeat' (with_reducible first|assumption|apply Er|apply Ea|apply Ed|apply En|(refine Es ?_ (by first|(simp<;>omega)|omega) _)|refine Et ?_ (by assumption))))⟩ (MSets.nil _)),by (repeat' (with_reducible first|assumption|apply Er|apply Ea|apply Ed|apply En|(refine Es ?_ (by first|(simp<;>omega)|omega) _)|refine Et ?_ (by assumption)))⟩ ?_
 clear k1 k2 k3 xA xB
 have HA:=Lib.hid dA
 have HB:=Lib.hid dB
 clear dA dB
 generalize w2.heap.size=b8 at *
 generalize w3.heap.size=b9 at *
 rintro W3 ⟨hS,hE⟩
 obtain ⟨a8,c8,gA,xA⟩:=hS.at 1 rfl
 obtain ⟨a9,c9,gB,xB⟩:=hS.at 0 rfl
 have q8:=gA.c0
 have GA:=Lib.hid gA
 have GB:=Lib.hid gB
 have XA:=Lib.hid xA
 have XB:=Lib.hid xB
 have HE:=Lib.hid hE
 clear hS gA gB xA xB hE
 obtain ⟨jA,hjA⟩:∃ jA,jA=joinF perE mA:=⟨_,rfl⟩
 obtain ⟨jB,hjB⟩:∃ jB,jB=joinF perE mB:=⟨_,rfl⟩
 have HVA:Hid (FV 0 jA):=Lib.hid (hjA ▸ joinF_fv (perE_fv (Int.le_refl _)) HA.out.mv.vt)
 have HVB:Hid (FV 0 jB):=Lib.hid (hjB ▸ joinF_fv (perE_fv (Int.le_refl _)) HB.out.mv.vt)
 have HCA:Hid (IsCanon jA jA.mem):=Lib.hid (hjA ▸ join_canon HA.out.mv)
 have HCB:Hid (IsCanon jB jB.mem):=Lib.hid (hjB ▸ join_canon HB.out.mv)
 have HMA:Hid (∀ n,jA.mem n↔mmem mA n):=Lib.hid (hjA ▸ join_mem HA.out.mv)
 have HMB:Hid (∀ n,jB.mem n↔mmem mB n):=Lib.hid (hjB ▸ join_mem HB.out.mv)
 have HJA:=fun W (h:Below W3.heap.size W3 W)=>mjoin_any 0 _ (.slice a8 mA.length c8) mA W (XA.out.ext h) HA.out.mv (Int.le_refl _)
 have HJB:=fun W (h:Below W3.heap.size W3 W)=>mjoin_any 0 _ (.slice a9 mB.length c9) mB W (XB.out.ext h) HB.out.mv (Int.le_refl _)
 have HNA:=fun W (h:Below W3.heap.size W3 W)=>mnext_any 0 _ (.slice a8 mA.length c8) mA dy W (XA.out.ext h) HA.out.mv ⟨by omega,by omega⟩
 have HCN:=fun W (h:Below W3.heap.size W3 W)=>mcount_any 0 _ (.slice a8 mA.length c8) mA dy (dy+100) W (XA.out.ext h) HA.out.mv (Int.le_refl _) f0 (by omega) (by omega)
 rw [show max dy 0=dy by omega] at HNA
 rw [← hjA] at HJA HCN
 rw [← hjB] at HJB
 clear hjA hjB
 have HJA:=Lib.hid HJA
 have HJB:=Lib.hid HJB
 have HNA:=Lib.hid HNA
 have HCN:=Lib.hid HCN
 have HSM:=Lib.hid (fun W (h:Below W3.heap.size W3 W)=>(msame_any 0 _ _ (.slice a8 mA.length c8) (.slice a9 mB.length c9) mA mB W (XA.out.ext h) (XB.out.ext h) HA.out.mv HB.out.mv).mono fun _ _ h=>h.law HA.out.mv HB.out.mv)
 have HHA:=fun W (h:Below W3.heap.size W3 W)=>mhas_any _ (.slice a8 mA.length c8) mA dy W (XA.out.ext h) ⟨by omega,by omega⟩
 go_upto_region 5 with (go_at_call 24;(with_reducible refine (HJA.out _ (Er _)).mono ?_);rintro e w4 ⟨h4,c4,rfl,p4,k4⟩;obtain ⟨x1,y1,z1,x2,y2,z2,rfl,rfl⟩:=p4.sl)
 refine wp_abs (F:=fun U=>SetAt U w4.heap.size (.slice x1 y1 z1) (.slice x2 y2 z2) jA∧Below W3.heap.size W3 U) ⟨⟨by (repeat' (first|(refine Bxx.at ?_;simp;done)|refine Bxx.alloc ?_ _)),p4.ext (by (repeat' (with_reducible first|assumption|apply Er|apply Ea|apply Ed|apply En|(refine Es ?_ (by first|(simp<;>omega)|omega) _)|refine Et ?_ (by assumption))))⟩,by (repeat' (with_reducible first|assumption|apply Er|apply Ea|apply Ed|apply En|(refine Es ?_ (by first|(simp<;>omega)|omega) _)|refine Et ?_ (by assumption)))⟩ ?_
 clear p4 k4
 generalize w4.heap.size=b10 at *
 rintro W5 ⟨hP,hE5⟩
 have HP:=Lib.hid hP
 have HE5:=Lib.hid hE5
 have r9:=(GB.out.below hE5).c0
 clear hP hE5 HJA
 go_upto_region 6 with (go_at_call 24;(with_reducible refine (HJB.out _ HE5.out).mono ?_);rintro e w6 ⟨h6,c6,rfl,p6,k6⟩;obtain ⟨x3,y3,z3,x4,y4,z4,rfl,rfl⟩:=p6.sl)
 refine wp_abs (F:=fun U=>(SetAt U w6.heap.size (.slice x3 y3 z3) (.slice x4 y4 z4) jB∧SetAt U b10 (.slice x1 y1 z1) (.slice x2 y2 z2) jA)∧Below W3.heap.size W3 U) ⟨⟨⟨by (repeat' (first|(refine Bxx.at ?_;simp;done)|refine Bxx.alloc ?_ _)),p6.ext (by (repeat' (with_reducible first|assumption|apply Er|apply Ea|apply Ed|apply En|(refine Es ?_ (by first|(simp<;>omega)|omega) _)|refine Et ?_ (by assumption))))⟩,(HP.out.below k6).below (by (repeat' (with_reducible first|assumption|apply Er|apply Ea|apply Ed|apply En|(refine Es ?_ (by first|(simp<;>omega)|omega) _)|refine Et ?_ (by assumption))))⟩,Et (Et HE5.out k6) (by (repeat' (with_reducible first|assumption|apply Er|apply Ea|apply Ed|apply En|(refine Es ?_ (by first|(simp<;>omega)|omega) _)|refine Et ?_ (by assumption))))⟩ ?_
 clear p6 k6 r9 HP HE5 HJB
 generalize w6.heap.size=b11 at *
 rintro W7 ⟨⟨hQ,hP⟩,hE7⟩
 have HP:=Lib.hid hP
 have HQ:=Lib.hid hQ
 have HE7:=Lib.hid hE7
 have s8:=(GA.out.below hE7).c0
 clear hP hQ hE7
 have HNP:=fun W (h:Below W7.heap.size W7 W)=>next_ok (.slice x1 y1 z1) (.slice x2 y2 z2) jA dy W (HP.out.is.ext h) HVA.out.valid (by omega) (by omega)
 rw [show max dy 0=dy by omega] at HNP
 have HNP:=Lib.hid HNP
 have HCP:=Lib.hid (fun W (h:Below W7.heap.size W7 W)=>count_ok (.slice x1 y1 z1) (.slice x2 y2 z2) jA dy (dy+100) W (HP.out.is.ext h) HVA.out.valid f0 (by omega) (by omega))
 have HHP:=fun W (h:Below W7.heap.size W7 W)=>has_any (.slice x1 y1 z1) (.slice x2 y2 z2) jA dy W (HP.out.is.ext h) ⟨by omega,by omega⟩ (by omega)
 rw [join_has HA.out.mv HVA.out HMA.out f0] at HHP
 have HHP:=Lib.hid HHP
 have HHA:=Lib.hid HHA
 have HSF:=Lib.hid (fun W (h:Below W7.heap.size W7 W)=>show Calls _ _ #[.agg #[.slice x1 y1 z1,.int .i64 jA.frm,.int .i64 jA.period,.slice x2 y2 z2],.agg #[.slice x3 y3 z3,.int .i64 jB.frm,.int .i64 jB.period,.slice x4 y4 z4]] W (fun e w'=>e=.returned (.bool (sameB jA jB))∧Below W.heap.size W w') from sameFactor_any (fun _=>True) (fun _=>True) ⟨.slice x1 y1 z1,.slice x2 y2 z2,jA⟩ ⟨.slice x3 y3 z3,.slice x4 y4 z4,jB⟩ W ((HP.out.below h).pvok HVA.out) ((HQ.out.below h).pvok HVB.out))
 have HPS:=Lib.hid (fun W (h:Below W7.heap.size W7 W)=>show Calls _ _ #[.agg #[.slice x1 y1 z1,.int .i64 jA.frm,.int .i64 jA.period,.slice x2 y2 z2],.agg #[.slice x3 y3 z3,.int .i64 jB.frm,.int .i64 jB.period,.slice x4 y4 z4]] W (fun e w'=>e=.returned (.bool (sameB jA jB))∧Below W.heap.size W w') from same_ok (.slice x1 y1 z1) (.slice x2 y2 z2) (.slice x3 y3 z3) (.slice x4 y4 z4) jA jB jA jB W (HP.out.is.ext h) (HQ.out.is.ext h) HVA.out.valid HVB.out.valid HCA.out HCB.out)
 have HWD:=Lib.hid (wrapI (x:=dy) ⟨by omega,by omega⟩)
 have HWE:=Lib.hid (wrapI (x:=dy+100) ⟨by omega,by omega⟩)
 have HJS:=Lib.hid (fun s hs=>join_same (s:=s) HCA.out HCB.out HMA.out HMB.out hs)
 generalize hasM mA dy=bh at *
 obtain ⟨ct,hct⟩:∃ ct,ct=belowI jA (dy+100)-belowI jA dy:=⟨_,rfl⟩
 have HCN:=HCN.out
 have HCP:=HCP.out
 rw [← hct] at HCN HCP
 have HCN:=Lib.hid HCN
 have HCP:=Lib.hid HCP
 clear hct
 go_upto_region 14 with (first|(go_at_call 16;(with_reducible refine (HNA.out _ HE7.out).mono ?_);rintro e w8 ⟨c,is,rfl,hn,k8⟩;have HX1:=Lib.hid hn;have HB8:=Lib.hid k8;have c10:=((HP.out.below k8).box.cells 0).1;have c11:=((HP.out.below k8).box.cells 1).1;have c12:=((HP.out.below k8).box.cells 2).1;have c13:=((HP.out.below k8).box.cells 3).1;clear hn k8)|(go_at_call 41;(with_reducible refine (HNP.out _ HB8.out).mono ?_);rintro e w9 ⟨d,was,rfl,hn,k9⟩;have HX2:=Lib.hid hn;have HB9:=Lib.hid (Et HB8.out k9);have t8:=(GA.out.below (Et HE7.out HB9.out)).c0;clear hn k9)|(go_at_call 15;(try simp only [HWE.out]);(with_reducible refine (HCN.out _ (Et HE7.out HB9.out)).mono ?_);rintro e w10 ⟨rfl,k10⟩;have HB10:=Lib.hid (Et HB9.out k10);have d10:=((HP.out.below HB10.out).box.cells 0).1;have d11:=((HP.out.below HB10.out).box.cells 1).1;have d12:=((HP.out.below HB10.out).box.cells 2).1;have d13:=((HP.out.below HB10.out).box.cells 3).1;clear k10)|(go_at_call 42;(try simp only [HWE.out]);(with_reducible refine (HCP.out _ HB10.out).mono ?_);rintro e w11 ⟨rfl,k11⟩;have HB11:=Lib.hid (Et HB10.out k11);have u8:=(GA.out.below (Et HE7.out HB11.out)).c0;have u9:=(GB.out.below (Et HE7.out HB11.out)).c0;clear k11)|(go_at_call 36;(with_reducible refine (HSM.out _ (Et HE7.out HB11.out)).mono ?_);rintro e w12 ⟨bs,ks,rfl,hks,hsm,k12⟩;have HB12:=Lib.hid (Et HB11.out k12);have hbs:ks=0→bs=sameB jA jB:=fun h=>HJS.out _ (hsm h);clear hsm k12))
 obtain ⟨rfl,rfl⟩:=join_next HA.out HMA.out f0 f1 HX1.out HX2.out
 have hks2:=hks.imp (fun h=>And.intro h (hbs h)) And.left
 clear hks hbs HX1 HX2 HJS c10 c11 c12 c13 d10 d11 d12 d13 s8 t8 u8 u9 HB8 HB9 HB10 HB11 HNA HNP HCN HCP HSM
 generalize sameB jA jB=sb at *
 rcases hks2 with ⟨rfl,rfl⟩|rfl
 ·go_upto_region 14 with (fail)
  refine wp_region_V (w0:=w12) [0,1,2,3,4,5,6,7,8,9,10,11,12,13,14,15,16,17,18,19,20,21,22,23,24,25,26,27,28,29,30,31,32,33,34,35,36,37,38,39,40,41,42,43,44,45,46,47,48,49,50,51,52] [53] (fun v=>⟨#[v0,v1,Value.int IntKind.u16 dy,undef,undef,undef,.bool false,.bool true,.pointer (some ⟨b8,0,none⟩),.pointer (some ⟨b9,0,none⟩),.pointer (some ⟨b10,0,none⟩),.int .i64 0,.pointer (some ⟨b11,0,none⟩),.int .i64 0,.int .i64 dy,.int .i64 c,.bool is,.int .i64 c,.bool is,.int .i64 ct,.int .i64 0,.int .i64 ct,.int .i64 0,.bool bs,.int .i64 0,.bool true,v0,.agg #[.slice aA mA.length cA],v1,.agg #[.slice aB mB.length cB],.tuple #[perV (.slice x1 y1 z1) (.slice x2 y2 z2) jA.frm jA.period,.int .i64 0],.agg #[.slice a8 mA.length c8],.tuple #[perV (.slice x1 y1 z1) (.slice x2 y2 z2) jA.frm jA.period,.int .i64 0],perV (.slice x1 y1 z1) (.slice x2 y2 z2) jA.frm jA.period,.int .i64 0,.tuple #[perV (.slice x3 y3 z3) (.slice x4 y4 z4) jB.frm jB.period,.int .i64 0],.agg #[.slice a9 mB.length c9],.tuple #[perV (.slice x3 y3 z3) (.slice x4 y4 z4) jB.frm jB.period,.int .i64 0],perV (.slice x3 y3 z3) (.slice x4 y4 z4) jB.frm jB.period,.int .i64 0,.int .i64 0,.bool false,.bool false,.int .i64 0,.bool false,.bool false,undef,undef,undef,undef,undef,undef,undef,undef,undef,undef,undef,undef,undef,undef,undef,undef,undef,Value.int IntKind.u16 dy,.int .i64 dy,.tuple #[.int .i64 c,.bool is],.agg #[.slice a8 mA.length c8],.int .i64 dy,.tuple #[.int .i64 c,.bool is],.int .i64 c,.bool is,.tuple #[.int .i64 c,.bool is],.agg #[.slice x1 y1 z1,.int .i64 jA.frm,.int .i64 jA.period,.slice x2 y2 z2],.int .i64 dy,.tuple #[.int .i64 c,.bool is],.int .i64 c,.bool is,.tuple #[.int .i64 ct,.int .i64 0],.agg #[.slice a8 mA.length c8],.int .i64 dy,.int .i64 dy,.int .i64 (dy+100),.tuple #[.int .i64 ct,.int .i64 0],.int .i64 ct,.int .i64 0,.tuple #[.int .i64 ct,.int .i64 0],.agg #[.slice x1 y1 z1,.int .i64 jA.frm,.int .i64 jA.period,.slice x2 y2 z2],.int .i64 dy,.int .i64 dy,.int .i64 (dy+100),.tuple #[.int .i64 ct,.int .i64 0],.int .i64 ct,.int .i64 0,.tuple #[.bool bs,.int .i64 0],.agg #[.slice a8 mA.length c8],.agg #[.slice a9 mB.length c9],.tuple #[.bool bs,.int .i64 0],.bool bs,.int .i64 0,v 0,v 1,v 2,v 3,v 4,v 5,v 6,v 7,v 8,v 9,v 10,v 11,v 12,v 13,v 14,v 15,v 16,v 17,v 18,v 19,v 20,v 21,v 22,v 23,v 24,v 25,v 26,v 27,v 28,v 29,v 30,v 31,v 32,v 33,v 34,v 35,v 36,v 37,v 38,v 39,v 40,v 41,v 42,v 43,v 44,v 45,v 46,v 47,v 48,v 49,v 50,v 51,v 52],[]⟩) [.bool true,.bool true,.bool is,.bool is,.bool true,.bool true,.bool true,.int .i64 c,.int .i64 c,.bool true,.bool true,.bool true,.int .i64 0,.bool true,.bool true,.bool true,.int .i64 0,.bool true,.bool true,.bool true,.int .i64 ct,.int .i64 ct,.bool true,.bool true,.bool true,.agg #[.slice a8 mA.length c8],.int .i64 dy,.bool bh,.agg #[.slice x1 y1 z1,.int .i64 jA.frm,.int .i64 jA.period,.slice x2 y2 z2],.int .i64 dy,.bool bh,.bool true,.bool true,.bool true,.int .i64 0,.bool false,.bool false,.bool bs,.agg #[.slice x1 y1 z1,.int .i64 jA.frm,.int .i64 jA.period,.slice x2 y2 z2],.agg #[.slice x3 y3 z3,.int .i64 jB.frm,.int .i64 jB.period,.slice x4 y4 z4],.bool bs,.bool true,.bool true,.bool true,.bool true,.agg #[.slice x1 y1 z1,.int .i64 jA.frm,.int .i64 jA.period,.slice x2 y2 z2],.agg #[.slice x3 y3 z3,.int .i64 jB.frm,.int .i64 jB.period,.slice x4 y4 z4],.bool bs,.agg #[.slice x1 y1 z1,.int .i64 jA.frm,.int .i64 jA.period,.slice x2 y2 z2],.agg #[.slice x3 y3 z3,.int .i64 jB.frm,.int .i64 jB.period,.slice x4 y4 z4],.bool bs,.bool true,.bool true] (fun W=>W.cell? ⟨b8,0,none⟩=some (.slice a8 mA.length c8)∧W.cell? ⟨b10,0,none⟩=some (.slice x1 y1 z1)∧W.cell? ⟨b10,1,none⟩=some (.int .i64 jA.frm)∧W.cell? ⟨b10,2,none⟩=some (.int .i64 jA.period)∧W.cell? ⟨b10,3,none⟩=some (.slice x2 y2 z2)∧W.cell? ⟨b11,0,none⟩=some (.slice x3 y3 z3)∧W.cell? ⟨b11,1,none⟩=some (.int .i64 jB.frm)∧W.cell? ⟨b11,2,none⟩=some (.int .i64 jB.period)∧W.cell? ⟨b11,3,none⟩=some (.slice x4 y4 z4)∧Below W7.heap.size W7 W) (fun W hb=>⟨(GA.out.below (Et HE7.out (Et HB12.out hb))).c0,((HP.out.below (Et HB12.out hb)).box.cells 0).1,((HP.out.below (Et HB12.out hb)).box.cells 1).1,((HP.out.below (Et HB12.out hb)).box.cells 2).1,((HP.out.below (Et HB12.out hb)).box.cells 3).1,((HQ.out.below (Et HB12.out hb)).box.cells 0).1,((HQ.out.below (Et HB12.out hb)).box.cells 1).1,((HQ.out.below (Et HB12.out hb)).box.cells 2).1,((HQ.out.below (Et HB12.out hb)).box.cells 3).1,Et HB12.out hb⟩) ?steps ?fin
  case steps=>
   refine .c [] rfl ?_ (.c [0] rfl ?_ (.c [1] rfl ?_ (.c [1] rfl ?_ (.c [1,2,3] rfl ?_ (.c [1,4] rfl ?_ (.c [5] rfl ?_ (.c [6] rfl ?_ (.c [6] rfl ?_ (.c [6,7,8] rfl ?_ (.c [6,9] rfl ?_ (.c [10] rfl ?_ (.c [11] rfl ?_ (.c [11,12] rfl ?_ (.c [11,13] rfl ?_ (.c [14] rfl ?_ (.c [15] rfl ?_ (.c [15,16] rfl ?_ (.c [15,17] rfl ?_ (.c [18] rfl ?_ (.c [19] rfl ?_ (.c [19] rfl ?_ (.c [19,20,21] rfl ?_ (.c [19,22] rfl ?_ (.c [23] rfl ?_ (.c [24] rfl ?_ (.c [24] rfl ?_ (.c [24,25,26] rfl ?_ (.c [24] rfl ?_ (.c [24] rfl ?_ (.c [24,28,29] rfl ?_ (.c [24,27,30] rfl ?_ (.c [24,31] rfl ?_ (.c [32] rfl ?_ (.c [33] rfl ?_ (.c [33,34] rfl ?_ (.c [33,35] rfl ?_ (.c [36] rfl ?_ (.c [36] rfl ?_ (.c [36] rfl ?_ (.c [36,38,39] rfl ?_ (.c [36,37,40] rfl ?_ (.c [33,36,41] rfl ?_ (.c [33,42] rfl ?_ (.c [43] rfl ?_ (.c [44] rfl ?_ (.c [44] rfl ?_ (.c [44,45,46] rfl ?_ (.c [44] rfl ?_ (.c [44] rfl ?_ (.c [44,48,49] rfl ?_ (.c [44,47,50] rfl ?_ (.c [44,51] rfl ?_ (.n)))))))))))))))))))))))))))))))))))))))))))))))))))))
   all_goals try exact stp
   all_goals
    rintro v W hb ⟨g0,p0,p1,p2,p3,q0,q1,q2,q3,gB⟩
    refine .inl ⟨rfl,fun K hK=>?_⟩
    simp only [ov,vat,Nat.reduceBEq,cond_true,cond_false]
    go_wp2_with (first|(go_at_call 19;(with_reducible refine (HHA.out _ (Et HE7.out gB)).mono ?_);rintro e w9 ⟨rfl,hb9⟩)|(go_at_call 43;(with_reducible refine (HHP.out _ gB).mono ?_);rintro e w9 ⟨rfl,hb9⟩)|(go_at_call 44;(with_reducible refine (HSF.out _ gB).mono ?_);rintro e w9 ⟨rfl,hb9⟩)|(go_at_call 45;(with_reducible refine (HPS.out _ gB).mono ?_);rintro e w9 ⟨rfl,hb9⟩))
    exact acx (hK w9 hb9) (by simp [ov,vat])
  case fin=>
   rintro W13 hb13 _
   show wpList _ _ _ [_] _ _
   simp only [vat]
   go_wp2_with fail
   go_ret
   exact ⟨rfl,Et HE.out (Et HE7.out (Et HB12.out hb13))⟩
 ·go_upto_region 14 with (fail)
  refine wp_region_V (w0:=w12) [0,1,2,3,4,5,6,7,8,9,10,11,12,13,14,15,16,17,18,19,20,21,22,23,24,25,26,27,28,29,30,31,32,33,34,35,36,37,38,39,40,41,42,43,44,45,46,47,48,49,50,51,52] [53] (fun v=>⟨#[v0,v1,Value.int IntKind.u16 dy,undef,undef,undef,.bool false,.bool true,.pointer (some ⟨b8,0,none⟩),.pointer (some ⟨b9,0,none⟩),.pointer (some ⟨b10,0,none⟩),.int .i64 0,.pointer (some ⟨b11,0,none⟩),.int .i64 0,.int .i64 dy,.int .i64 c,.bool is,.int .i64 c,.bool is,.int .i64 ct,.int .i64 0,.int .i64 ct,.int .i64 0,.bool bs,.int .i64 2,.bool true,v0,.agg #[.slice aA mA.length cA],v1,.agg #[.slice aB mB.length cB],.tuple #[perV (.slice x1 y1 z1) (.slice x2 y2 z2) jA.frm jA.period,.int .i64 0],.agg #[.slice a8 mA.length c8],.tuple #[perV (.slice x1 y1 z1) (.slice x2 y2 z2) jA.frm jA.period,.int .i64 0],perV (.slice x1 y1 z1) (.slice x2 y2 z2) jA.frm jA.period,.int .i64 0,.tuple #[perV (.slice x3 y3 z3) (.slice x4 y4 z4) jB.frm jB.period,.int .i64 0],.agg #[.slice a9 mB.length c9],.tuple #[perV (.slice x3 y3 z3) (.slice x4 y4 z4) jB.frm jB.period,.int .i64 0],perV (.slice x3 y3 z3) (.slice x4 y4 z4) jB.frm jB.period,.int .i64 0,.int .i64 0,.bool false,.bool false,.int .i64 0,.bool false,.bool false,undef,undef,undef,undef,undef,undef,undef,undef,undef,undef,undef,undef,undef,undef,undef,undef,undef,Value.int IntKind.u16 dy,.int .i64 dy,.tuple #[.int .i64 c,.bool is],.agg #[.slice a8 mA.length c8],.int .i64 dy,.tuple #[.int .i64 c,.bool is],.int .i64 c,.bool is,.tuple #[.int .i64 c,.bool is],.agg #[.slice x1 y1 z1,.int .i64 jA.frm,.int .i64 jA.period,.slice x2 y2 z2],.int .i64 dy,.tuple #[.int .i64 c,.bool is],.int .i64 c,.bool is,.tuple #[.int .i64 ct,.int .i64 0],.agg #[.slice a8 mA.length c8],.int .i64 dy,.int .i64 dy,.int .i64 (dy+100),.tuple #[.int .i64 ct,.int .i64 0],.int .i64 ct,.int .i64 0,.tuple #[.int .i64 ct,.int .i64 0],.agg #[.slice x1 y1 z1,.int .i64 jA.frm,.int .i64 jA.period,.slice x2 y2 z2],.int .i64 dy,.int .i64 dy,.int .i64 (dy+100),.tuple #[.int .i64 ct,.int .i64 0],.int .i64 ct,.int .i64 0,.tuple #[.bool bs,.int .i64 2],.agg #[.slice a8 mA.length c8],.agg #[.slice a9 mB.length c9],.tuple #[.bool bs,.int .i64 2],.bool bs,.int .i64 2,v 0,v 1,v 2,v 3,v 4,v 5,v 6,v 7,v 8,v 9,v 10,v 11,v 12,v 13,v 14,v 15,v 16,v 17,v 18,v 19,v 20,v 21,v 22,v 23,v 24,v 25,v 26,v 27,v 28,v 29,v 30,v 31,v 32,v 33,v 34,v 35,v 36,v 37,v 38,v 39,v 40,v 41,v 42,v 43,v 44,v 45,v 46,v 47,v 48,v 49,v 50,v 51,v 52],[]⟩) [.bool true,.bool true,.bool is,.bool is,.bool true,.bool true,.bool true,.int .i64 c,.int .i64 c,.bool true,.bool true,.bool true,.int .i64 0,.bool true,.bool true,.bool true,.int .i64 0,.bool true,.bool true,.bool true,.int .i64 ct,.int .i64 ct,.bool true,.bool true,.bool true,.agg #[.slice a8 mA.length c8],.int .i64 dy,.bool bh,.agg #[.slice x1 y1 z1,.int .i64 jA.frm,.int .i64 jA.period,.slice x2 y2 z2],.int .i64 dy,.bool bh,.bool true,.bool true,.bool true,.int .i64 2,.bool true,.bool true,undef,undef,undef,undef,undef,.bool true,.bool true,.bool true,.agg #[.slice x1 y1 z1,.int .i64 jA.frm,.int .i64 jA.period,.slice x2 y2 z2],.agg #[.slice x3 y3 z3,.int .i64 jB.frm,.int .i64 jB.period,.slice x4 y4 z4],.bool sb,.agg #[.slice x1 y1 z1,.int .i64 jA.frm,.int .i64 jA.period,.slice x2 y2 z2],.agg #[.slice x3 y3 z3,.int .i64 jB.frm,.int .i64 jB.period,.slice x4 y4 z4],.bool sb,.bool true,.bool true] (fun W=>W.cell? ⟨b8,0,none⟩=some (.slice a8 mA.length c8)∧W.cell? ⟨b10,0,none⟩=some (.slice x1 y1 z1)∧W.cell? ⟨b10,1,none⟩=some (.int .i64 jA.frm)∧W.cell? ⟨b10,2,none⟩=some (.int .i64 jA.period)∧W.cell? ⟨b10,3,none⟩=some (.slice x2 y2 z2)∧W.cell? ⟨b11,0,none⟩=some (.slice x3 y3 z3)∧W.cell? ⟨b11,1,none⟩=some (.int .i64 jB.frm)∧W.cell? ⟨b11,2,none⟩=some (.int .i64 jB.period)∧W.cell? ⟨b11,3,none⟩=some (.slice x4 y4 z4)∧Below W7.heap.size W7 W) (fun W hb=>⟨(GA.out.below (Et HE7.out (Et HB12.out hb))).c0,((HP.out.below (Et HB12.out hb)).box.cells 0).1,((HP.out.below (Et HB12.out hb)).box.cells 1).1,((HP.out.below (Et HB12.out hb)).box.cells 2).1,((HP.out.below (Et HB12.out hb)).box.cells 3).1,((HQ.out.below (Et HB12.out hb)).box.cells 0).1,((HQ.out.below (Et HB12.out hb)).box.cells 1).1,((HQ.out.below (Et HB12.out hb)).box.cells 2).1,((HQ.out.below (Et HB12.out hb)).box.cells 3).1,Et HB12.out hb⟩) ?steps ?fin
  case steps=>
   refine .c [] rfl ?_ (.c [0] rfl ?_ (.c [1] rfl ?_ (.c [1] rfl ?_ (.c [1,2,3] rfl ?_ (.c [1,4] rfl ?_ (.c [5] rfl ?_ (.c [6] rfl ?_ (.c [6] rfl ?_ (.c [6,7,8] rfl ?_ (.c [6,9] rfl ?_ (.c [10] rfl ?_ (.c [11] rfl ?_ (.c [11,12] rfl ?_ (.c [11,13] rfl ?_ (.c [14] rfl ?_ (.c [15] rfl ?_ (.c [15,16] rfl ?_ (.c [15,17] rfl ?_ (.c [18] rfl ?_ (.c [19] rfl ?_ (.c [19] rfl ?_ (.c [19,20,21] rfl ?_ (.c [19,22] rfl ?_ (.c [23] rfl ?_ (.c [24] rfl ?_ (.c [24] rfl ?_ (.c [24,25,26] rfl ?_ (.c [24] rfl ?_ (.c [24] rfl ?_ (.c [24,28,29] rfl ?_ (.c [24,27,30] rfl ?_ (.c [24,31] rfl ?_ (.c [32] rfl ?_ (.c [33] rfl ?_ (.c [33,34] rfl ?_ (.c [33,35] rfl ?_ (.c [36] rfl ?_ (.c [36] rfl ?_ (.c [36] rfl ?_ (.c [36,38,39] rfl ?_ (.c [36,37,40] rfl ?_ (.c [33,36,41] rfl ?_ (.c [33,42] rfl ?_ (.c [43] rfl ?_ (.c [44] rfl ?_ (.c [44] rfl ?_ (.c [44,45,46] rfl ?_ (.c [44] rfl ?_ (.c [44] rfl ?_ (.c [44,48,49] rfl ?_ (.c [44,47,50] rfl ?_ (.c [44,51] rfl ?_ (.n)))))))))))))))))))))))))))))))))))))))))))))))))))))
   all_goals try exact stp
   all_goals
    rintro v W hb ⟨g0,p0,p1,p2,p3,q0,q1,q2,q3,gB⟩
    refine .inl ⟨rfl,fun K hK=>?_⟩
    simp only [ov,vat,Nat.reduceBEq,cond_true,cond_false]
    go_wp2_with (first|(go_at_call 19;(with_reducible refine (HHA.out _ (Et HE7.out gB)).mono ?_);rintro e w9 ⟨rfl,hb9⟩)|(go_at_call 43;(with_reducible refine (HHP.out _ gB).mono ?_);rintro e w9 ⟨rfl,hb9⟩)|(go_at_call 45;(with_reducible refine (HPS.out _ gB).mono ?_);rintro e w9 ⟨rfl,hb9⟩)|(go_at_call 44;(with_reducible refine (HSF.out _ gB).mono ?_);rintro e w9 ⟨rfl,hb9⟩))
    exact acx (hK w9 hb9) (by simp [ov,vat])
  case fin=>
   rintro W13 hb13 _
   show wpList _ _ _ [_] _ _
   simp only [vat]
   go_wp2_with fail
   go_ret
   exact ⟨rfl,Et HE.out (Et HE7.out (Et HB12.out hb13))⟩
end Go.Proofs.YthjnojbeimchdaaGreat
