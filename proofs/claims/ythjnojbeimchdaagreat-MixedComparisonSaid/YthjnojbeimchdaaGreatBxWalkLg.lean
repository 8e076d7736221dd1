/- Walk: the law MixedComparison. -/
import Derived.Test.YthjnojbeimchdaaGreatBxSupWalkLg
import Derived.Deep.CutBlock
import Derived.Deep.DeepCutAuto
set_option linter.unusedVariables false
set_option linter.unusedSimpArgs false
namespace Go.Proofs.YthjnojbeimchdaaGreat
open Go.RowKit Go.Maps Kal
theorem SameRes.form {a b:List (List Per)} {w w':World} {e:Ending} (h:SameRes a b w e w'):Below w.heap.size w w'∧∃ (s:Bool) (k:Int),e=.returned (.tuple #[.bool s,.int .i64 k]):=by
 obtain ⟨b1,r1,_,h2,⟨mk,nk,_,_,rfl⟩|⟨_,rfl⟩⟩:=h
 ·exact ⟨h2,_,_,rfl⟩
 ·exact ⟨h2,_,_,rfl⟩
theorem ApartRes.form {a b:List (List Per)} {w w':World} {e:Ending} (h:ApartRes a b w e w'):Below w.heap.size w w'∧∃ (d:Int) (s:Bool) (k:Int),e=.returned (.tuple #[.int .i64 d,.bool s,.int .i64 k]):=by
 obtain ⟨r1,_,h2,⟨mk,nk,n,bb,_,_,rfl⟩|⟨_,rfl⟩⟩:=h
 ·exact ⟨h2,_,_,_,rfl⟩
 ·exact ⟨h2,_,_,_,rfl⟩
theorem SubRes.form {a b:List (List Per)} {w w':World} {e:Ending} (h:SubRes a b w e w'):Below w.heap.size w w'∧∃ (s:Bool) (k:Int),e=.returned (.tuple #[.bool s,.int .i64 k]):=by
 obtain ⟨b1,r1,_,h2,⟨mk,_,_,rfl⟩|⟨_,rfl⟩⟩:=h
 ·exact ⟨h2,_,_,rfl⟩
 ·exact ⟨h2,_,_,rfl⟩
theorem nextS_none {S:Int→Prop} {f n:Int} (hn:NextF FarI S f n false):∀ x,f≤x→x≤1152921504606846976→¬ S x:=by
 rcases hn with ⟨h,_⟩|⟨_,_,h⟩
 ·cases h
 ·exact h
theorem cmp_is {s:Int} {a b:List (List Per)} (ka:MV s a) (kb:MV s b) {w0 w1 w2 w3 w4 w5:World} {same some_ under:Bool} {e d f g:Int} (h1:SameRes a b w0 (.returned (.tuple #[.bool same,.int .i64 e])) w1) (h2:ApartRes a b w2 (.returned (.tuple #[.int .i64 d,.bool some_,.int .i64 f])) w3) (h3:SubRes a b w4 (.returned (.tuple #[.bool under,.int .i64 g])) w5):CmpR a b same e d some_ f under g:=by
 obtain ⟨a1,a2,a3,a4,a5,a6,a7,q1,q2,q3,h⟩:=cmp_of ka kb h1 h2 h3
 injection q1 with q1
 injection q2 with q2
 injection q3 with q3
 simp at q1 q2 q3
 obtain ⟨rfl,rfl⟩:=q1
 obtain ⟨rfl,rfl,rfl⟩:=q2
 obtain ⟨rfl,rfl⟩:=q3
 exact h
set_option maxRecDepth 100000 in
set_option maxHeartbeats 4000000 in
theorem MixedComparison_any (v0:Value) (n0:Nat) (v1:Value) (n1:Nat) (dy:Int) (w:World) (h0:ByteRows w v0 n0) (h1:ByteRows w v1 n1) (f0:0≤dy) (f1:dy≤65535) :
  Calls Tryz.prog 9 #[v0,v1,.int .u16 dy] w fun e w'=>e=.returned (.bool true)∧Below w.heap.size w w':=by
 have H0:=Lib.hid h0
 have H1:=Lib.hid h1
 clear h0 h1
 go_enter Tryz.func9,Tryz.ntmps9
 go_upto_region 4 with (first|(go_at_call 13;refine (sanity_any _).mono ?_;rintro e w1 ⟨rfl,k1⟩)|(go_at_call 14;first|((with_reducible refine (Made_any v0 n0 _ (H0.out.ext (by (repeat' (with_reducible first|assumption|apply Er|apply Ea|apply Ed|apply En|(refine Es ?_ (by first|(simp<;>omega)|omega) _)|refine Et ?_ (by assumption)))))).mono ?_);rintro e w2 ⟨mA,aA,cA,rfl,xA,dA,k2⟩)|((with_reducible refine (Made_any v1 n1 _ (H1.out.ext (by (repeat' (with_reducible first|assumption|apply Er|apply Ea|apply Ed|apply En|(refine Es ?_ (by first|(simp<;>omega)|omega) _)|refine Et ?_ (by assumption)))))).mono ?_);rintro e w3 ⟨mB,aB,cB,rfl,xB,dB,k3⟩)))
 refine wp_abs (F:=fun U=>MSets U [(w3.heap.size,mB.length,mB),(w2.heap.size,mA.length,mA)]∧Below w.heap.size w U) ⟨MSets.cons ⟨aB,cB,by (repeat' (first|(refine Bxx.at ?_;simp;done)|refine Bxx.alloc ?_ _)),(xB.mono fun _ _=>trivial).ext (by (repeat' (with_reducible first|assumption|apply Er|apply Ea|apply Ed|apply En|(refine Es ?_ (by first|(simp<;>omega)|omega) _)|refine Et ?_ (by assumption))))⟩ (MSets.cons ⟨aA,cA,((Bxx.new w2 _ _).below k3).alloc _,(xA.mono fun _ _=>trivial).ext (by (repeat' (with_reducible first|assumption|apply Er|apply Ea|apply Ed|apply En|(refine Es ?_ (by first|(simp<;>omega)|omega) _)|refine Et ?_ (by assumption))))⟩ (MSets.nil _)),by (repeat' (with_reducible first|assumption|apply Er|apply Ea|apply Ed|apply En|(refine Es ?_ (by first|(simp<;>omega)|omega) _)|refine Et ?_ (by assumption)))⟩ ?_
 clear k1 k2 k3 xA xB
 have HA:=Lib.hid dA
 have HB:=Lib.hid dB
 clear dA dB
 generalize w2.heap.size=b8 at *
 generalize w3.heap.size=b9 at *
 rintro W3 ⟨hS,hE⟩
 obtain ⟨a8,c8,gA,xA⟩:=hS.at 1 rfl
 obtain ⟨a9,c9,gB,xB⟩:=hS.at 0 rfl
 have q8:=gA.c0
 have q9:=gB.c0
 have GA:=Lib.hid gA
 have GB:=Lib.hid gB
 have XA:=Lib.hid xA
 have XB:=Lib.hid xB
 have HE:=Lib.hid hE
 have HS:=Lib.hid hS
 clear hS gA gB xA xB hE
 have HSM:=Lib.hid (fun W (h:Below W3.heap.size W3 W)=>msame_any 0 _ _ (.slice a8 mA.length c8) (.slice a9 mB.length c9) mA mB W (XA.out.ext h) (XB.out.ext h) HA.out.mv HB.out.mv)
 have HAP:=Lib.hid (fun W (h:Below W3.heap.size W3 W)=>mapart_any 0 _ _ (.slice a8 mA.length c8) (.slice a9 mB.length c9) mA mB W (XA.out.ext h) (XB.out.ext h) HA.out.mv HB.out.mv)
 have HSU:=Lib.hid (fun W (h:Below W3.heap.size W3 W)=>msubset_any 0 _ _ (.slice a8 mA.length c8) (.slice a9 mB.length c9) mA mB W (XA.out.ext h) (XB.out.ext h) HA.out.mv HB.out.mv)
 go_upto_region 7 with (first|(go_at_call 36;go_loud ((with_reducible refine (HSM.out _ (Er _)).mono ?_);intro e w4 hr;obtain ⟨k4,same,es,rfl⟩:=hr.form;have HR4:=Lib.hid hr;have HB4:=Lib.hid k4;have r8:=(GA.out.below HB4.out).c0;have r9:=(GB.out.below HB4.out).c0;clear hr k4))|(go_at_call 38;go_loud ((with_reducible refine (HAP.out _ HB4.out).mono ?_);intro e w5 hr;obtain ⟨k5,d,some_,ea,rfl⟩:=hr.form;have HR5:=Lib.hid hr;have HB5:=Lib.hid (Et HB4.out k5);have s8:=(GA.out.below HB5.out).c0;have s9:=(GB.out.below HB5.out).c0;clear hr k5))|(go_at_call 34;go_loud ((with_reducible refine (HSU.out _ HB5.out).mono ?_);intro e w6 hr;obtain ⟨k6,under,eu,rfl⟩:=hr.form;have HR6:=Lib.hid hr;have HB6:=Lib.hid (Et HB5.out k6);have t8:=(GA.out.below HB6.out).c0;have t9:=(GB.out.below HB6.out).c0;clear hr k6)))
 have hcmp:=cmp_is HA.out.mv HB.out.mv HR4.out HR5.out HR6.out
 have herr:=hcmp.err
 have hbig:=hcmp.big
 have HC:=Lib.hid hcmp.ok
 clear hcmp HR4 HR5 HR6 q8 q9 r8 r9 s8 s9
 subst herr
 rcases hbig with rfl|rfl
 rotate_left
 ·go_wp2_with fail
  go_ret
  exact ⟨rfl,Et HE.out HB6.out⟩
 obtain ⟨rfl,hsame,hdn,hund⟩:=HC.out rfl
 have HSA:=Lib.hid hsame
 have HDN:=Lib.hid hdn
 have HUN:=Lib.hid hund
 clear hsame hdn hund HC
 have HBZ:=HB6.out
 have HAG:Hid (∀ x:Int,0≤x→x≤70000→(some_=false∨x<d)→hasM mB x=hasM mA x):=Lib.hid (fun x x0 x1 hx=>by
  have hnd:¬ DiffM mA mB x:=by
   rcases HDN.out with ⟨a0,a1,a2,a3,a4⟩|⟨a0,a1,a2⟩
   ·exact a4 x x0 (hx.resolve_left (by rw [a0];simp))
   ·exact a2 x x0 (by show x≤1152921504606846976;omega)
  exact Bool.eq_iff_iff.2 ((hasM_iff HB.out.mv).trans ((diff_iff.1 hnd).symm.trans (hasM_iff HA.out.mv).symm)))
 have HK1:=Lib.hid (fun (x:Int) (x0:0≤x) (x1:x≤70000) W (h:Below W3.heap.size W3 W)=>mhas_any _ (.slice a8 mA.length c8) mA x W (XA.out.ext h) ⟨by omega,by omega⟩)
 have HK2:=Lib.hid (fun (x:Int) (x0:0≤x) (x1:x≤70000) W (h:Below W3.heap.size W3 W)=>mhas_any _ (.slice a9 mB.length c9) mB x W (XB.out.ext h) ⟨by omega,by omega⟩)
 have HOR:=Lib.hid (fun W (h:Below W3.heap.size W3 W)=>or_law 0 _ _ (.slice a8 mA.length c8) (.slice a9 mB.length c9) mA mB W (XA.out.ext h) (XB.out.ext h) HA.out.mv HB.out.mv)
 have HALL:Hid (∀ (mU:List (List Per)) (bs:Bool),(∀ n,mmem mU n↔mmem mA n∨mmem mB n)→(bs=true↔∀ n,mmem mU n↔mmem mB n)→bs=under):=Lib.hid fun mU bs h1 h2=>by
  refine Bool.eq_iff_iff.2 (h2.trans (Iff.trans ?_ HUN.out.symm))
  exact ⟨fun h x hx=>(h x).1 ((h1 x).2 (.inl hx)),fun h x=>(h1 x).trans ⟨fun hx=>hx.elim (h x) id,.inr⟩⟩
 cases hso:some_
 ·subst hso
  obtain rfl:same=true:=HSA.out.2 fun x=>agree_all HA.out HB.out (fun x h0 h1=>diff_iff.1 (nextS_none HDN.out x h0 h1)) x
  obtain rfl:under=true:=HUN.out.2 fun x hx=>(HSA.out.1 rfl x).1 hx
  go_upto_region 11 with (fail)
  refine wp_region_V (w0:=w6) [0,1,2,3,4,5,6,7,8,9,10,11,12,13,14,15,16,17,18,19,20,21,22,23,24] [25] (fun v=>⟨#[v0,v1,Value.int IntKind.u16 dy,undef,undef,undef,.bool false,.bool true,.pointer (some ⟨b8,0,none⟩),.pointer (some ⟨b9,0,none⟩),.bool true,.int .i64 0,.int .i64 d,.bool false,.int .i64 0,.bool true,.int .i64 0,undef,undef,undef,undef,undef,.bool true,v0,.agg #[.slice aA mA.length cA],v1,.agg #[.slice aB mB.length cB],.tuple #[.bool true,.int .i64 0],.agg #[.slice a8 mA.length c8],.agg #[.slice a9 mB.length c9],.tuple #[.bool true,.int .i64 0],.bool true,.int .i64 0,.tuple #[.int .i64 d,.bool false,.int .i64 0],.agg #[.slice a8 mA.length c8],.agg #[.slice a9 mB.length c9],.tuple #[.int .i64 d,.bool false,.int .i64 0],.int .i64 d,.bool false,.int .i64 0,.tuple #[.bool true,.int .i64 0],.agg #[.slice a8 mA.length c8],.agg #[.slice a9 mB.length c9],.tuple #[.bool true,.int .i64 0],.bool true,.int .i64 0,.int .i64 0,.int .i64 0,.bool false,.int .i64 0,.bool false,undef,undef,undef,undef,undef,v 0,v 1,v 2,v 3,v 4,v 5,v 6,v 7,v 8,v 9,v 10,v 11,v 12,v 13,v 14,v 15,v 16,v 17,v 18,v 19,v 20,v 21,v 22,v 23,v 24,undef,undef,undef,undef,undef,undef,undef,undef,undef,undef,undef,undef,undef,undef,undef,undef,undef,undef,undef,undef,undef,undef,undef,undef,undef,undef,undef,undef,undef,undef,undef,undef,undef,undef,undef,undef,undef,undef,undef,undef,undef,undef,undef,undef,undef,undef,undef,undef,undef,undef,undef,undef,undef,undef,undef,undef,undef,undef,undef,undef,undef,undef,undef,undef,undef,undef,undef,undef,undef],[]⟩) [.int .i64 0,.bool false,.bool false,.bool true,.bool false,.bool false,.bool false,.bool false,.bool false,.bool false,undef,undef,undef,undef,undef,undef,undef,.bool false,.bool false,.bool false,.bool true,.bool true,.bool true,.bool false,.bool false] (fun W=>W.cell? ⟨b8,0,none⟩=some (.slice a8 mA.length c8)∧W.cell? ⟨b9,0,none⟩=some (.slice a9 mB.length c9)∧Below W3.heap.size W3 W) (fun W hb=>⟨(GA.out.below (Et HBZ hb)).c0,(GB.out.below (Et HBZ hb)).c0,Et HBZ hb⟩) ?steps ?fin
  case steps=>
   clear t8 t9
   refine .c [] rfl ?_ (.c [0] rfl ?_ (.c [1] rfl ?_ (.c [2] rfl ?_ (.c [2] rfl ?_ (.c [2,3,4] rfl ?_ (.c [2,5] rfl ?_ (.c [6] rfl ?_ (.c [7] rfl ?_ (.c [7,8] rfl ?_ (.c [9] rfl ?_ (.c [9] rfl ?_ (.c [9,10,11] rfl ?_ (.c [9] rfl ?_ (.c [9] rfl ?_ (.c [9,13,14] rfl ?_ (.c [9,12,15] rfl ?_ (.c [7,9,16] rfl ?_ (.c [7,17] rfl ?_ (.c [18] rfl ?_ (.c [19] rfl ?_ (.c [19,20] rfl ?_ (.c [21] rfl ?_ (.c [21,22] rfl ?_ (.c [19,21,23] rfl ?_ (.n)))))))))))))))))))))))))
   all_goals try exact stp
  case fin=>
   rintro W2 hb2 ⟨g0,g1,g2⟩
   show wpList _ _ _ [_] _ _
   simp only [vat]
   go_wp2_with fail
   go_loopw [17] (fun kv wr=>∃ k:Nat,k≤300∧kv=.int .i64 k∧Hid (Below W3.heap.size W3 wr)) (fun kv _=>300-(intOf kv).toNat)
   case atStart=>exact ⟨0,by omega,rfl,Lib.hid g2⟩
   case round=>
    obtain ⟨k,hk,rfl,HBL⟩:=hrel
    have p8:=(GA.out.below HBL.out).c0
    have p9:=(GB.out.below HBL.out).c0
    have HBY:=HBL.out
    by_cases hkl:k<300
    ·have hk1:(k:Int)<300:=by omega
     have HR1:=HK1.out k (by omega) (by omega)
     have HR2:=HK2.out k (by omega) (by omega)
     rw [HAG.out k (by omega) (by omega) (by first|exact .inl rfl|simp)] at HR2
     have HR1:=Lib.hid HR1
     have HR2:=Lib.hid HR2
     generalize hasM mA (k:Int)=bk at *
     go_upto_region 16 with (fail)
     cases bk
     all_goals
      go_region_held3 (fun w'=>w'.cell? ⟨b8,0,none⟩=some (.slice a8 mA.length c8)∧w'.cell? ⟨b9,0,none⟩=some (.slice a9 mB.length c9)∧Below W3.heap.size W3 w') ((go_split_ands;refine ⟨(GA.out.below (by (repeat' (with_reducible first|assumption|apply Er|apply Ea|apply Ed|apply En|(refine Es ?_ (by first|(simp<;>omega)|omega) _)|refine Et ?_ (by assumption))))).c0,(GB.out.below (by (repeat' (with_reducible first|assumption|apply Er|apply Ea|apply Ed|apply En|(refine Es ?_ (by first|(simp<;>omega)|omega) _)|refine Et ?_ (by assumption))))).c0,by (repeat' (with_reducible first|assumption|apply Er|apply Ea|apply Ed|apply En|(refine Es ?_ (by first|(simp<;>omega)|omega) _)|refine Et ?_ (by assumption)))⟩))
       (first|(go_at_call 19;first|((with_reducible refine (HR1.out _ (by go_split_ands;(repeat' (with_reducible first|assumption|apply Er|apply Ea|apply Ed|apply En|(refine Es ?_ (by first|(simp<;>omega)|omega) _)|refine Et ?_ (by assumption))))).mono ?_);rintro e u ⟨rfl,kz⟩)|((with_reducible refine (HR2.out _ (by go_split_ands;(repeat' (with_reducible first|assumption|apply Er|apply Ea|apply Ed|apply En|(refine Es ?_ (by first|(simp<;>omega)|omega) _)|refine Et ?_ (by assumption))))).mono ?_);rintro e u ⟨rfl,kz⟩)))
     all_goals
      go_wp2_with fail
      go_roundw
      case rel=>exact ⟨k+1,by omega,by go_num,Lib.hid (by go_split_ands;(repeat' (with_reducible first|assumption|apply Er|apply Ea|apply Ed|apply En|(refine Es ?_ (by first|(simp<;>omega)|omega) _)|refine Et ?_ (by assumption))))⟩
      case measure=>simp [intOf];omega
    ·have HR1:=HK1.out dy (by omega) (by omega)
     have HR2:=HK2.out dy (by omega) (by omega)
     rw [HAG.out dy (by omega) (by omega) (by first|exact .inl rfl|simp)] at HR2
     have HD1:=Lib.hid HR1
     have HD2:=Lib.hid HR2
     clear HR1 HR2
     generalize hasM mA dy=bd at *
     clear g0 g1 g2 HBY
     go_upto_region 18 with (fail)
     refine wp_region_V (w0:=wr) [0,1,2,3,4,5,6,7,8,9,10,11,12,13,14,15,16,17] [18] (fun v=>⟨#[v0,v1,Value.int IntKind.u16 dy,undef,undef,undef,u6,.bool true,.pointer (some ⟨b8,0,none⟩),.pointer (some ⟨b9,0,none⟩),.bool true,.int .i64 0,.int .i64 d,.bool false,.int .i64 0,.bool true,.int .i64 0,.int .i64 ↑k,undef,undef,undef,undef,.bool true,v0,.agg #[.slice aA mA.length cA],v1,.agg #[.slice aB mB.length cB],.tuple #[.bool true,.int .i64 0],.agg #[.slice a8 mA.length c8],.agg #[.slice a9 mB.length c9],.tuple #[.bool true,.int .i64 0],.bool true,.int .i64 0,.tuple #[.int .i64 d,.bool false,.int .i64 0],.agg #[.slice a8 mA.length c8],.agg #[.slice a9 mB.length c9],.tuple #[.int .i64 d,.bool false,.int .i64 0],.int .i64 d,.bool false,.int .i64 0,.tuple #[.bool true,.int .i64 0],.agg #[.slice a8 mA.length c8],.agg #[.slice a9 mB.length c9],.tuple #[.bool true,.int .i64 0],.bool true,.int .i64 0,.int .i64 0,.int .i64 0,.bool false,.int .i64 0,.bool false,undef,undef,undef,undef,undef,.int .i64 0,.bool false,.bool false,.bool true,.bool false,.bool false,.bool false,.bool false,.bool false,.bool false,undef,undef,undef,undef,undef,undef,undef,.bool false,.bool false,.bool false,.bool true,.bool true,.bool true,.bool false,.bool false,.bool false,.int .i64 ↑k,.bool false,.bool false,undef,undef,undef,undef,undef,undef,undef,.bool false,u93,u94,u95,u96,u97,u98,u99,u100,u101,v 0,v 1,v 2,v 3,v 4,v 5,v 6,v 7,v 8,v 9,v 10,v 11,v 12,v 13,v 14,v 15,v 16,v 17,undef,undef,undef,undef,undef,undef,undef,undef,undef,undef,undef,undef,undef,undef,undef,undef,undef,undef,undef,undef,undef,undef,undef,undef,undef,undef,undef,undef,undef,undef],[]⟩) [.bool false,.bool true,.bool true,undef,undef,undef,undef,.bool true,.bool true,.agg #[.slice a8 mA.length c8],.int .u16 dy,.int .i64 dy,.bool bd,.agg #[.slice a9 mB.length c9],.int .u16 dy,.int .i64 dy,.bool bd,.bool false] (fun W=>W.cell? ⟨b8,0,none⟩=some (.slice a8 mA.length c8)∧W.cell? ⟨b9,0,none⟩=some (.slice a9 mB.length c9)∧Below W3.heap.size W3 W) (fun W hb=>⟨(GA.out.below (Et HBL.out hb)).c0,(GB.out.below (Et HBL.out hb)).c0,Et HBL.out hb⟩) ?steps ?fin
     case steps=>
      clear p8 p9
      refine .c [] rfl ?_ (.c [0] rfl ?_ (.c [1] rfl ?_ (.c [2] rfl ?_ (.c [2,3] rfl ?_ (.c [2] rfl ?_ (.c [2,4,5] rfl ?_ (.c [2,6] rfl ?_ (.c [7] rfl ?_ (.c [8] rfl ?_ (.c [8] rfl ?_ (.c [8,10] rfl ?_ (.c [8,9,11] rfl ?_ (.c [8] rfl ?_ (.c [8] rfl ?_ (.c [8,14] rfl ?_ (.c [8,13,15] rfl ?_ (.c [8,12,16] rfl ?_ (.n))))))))))))))))))
      all_goals try exact stp
      all_goals
       rintro v W hb ⟨g0,g1,g2⟩
       refine .inl ⟨rfl,fun K hK=>?_⟩
       simp only [ov,vat,Nat.reduceBEq,cond_true,cond_false]
       go_wp2_with (first|(go_at_call 19;(with_reducible refine (HD1.out _ g2).mono ?_);rintro e w9 ⟨rfl,hb9⟩)|(go_at_call 19;(with_reducible refine (HD2.out _ g2).mono ?_);rintro e w9 ⟨rfl,hb9⟩))
       exact acx (hK w9 hb9) (by simp [ov,vat])
     case fin=>
      rintro W4 hb4 ⟨g0,g1,g2⟩
      show wpList _ _ _ [_] _ _
      simp only [vat]
      go_upto_region 21 with (go_at_call 21;(with_reducible refine (HOR.out _ g2).mono ?_);rintro e w6 ⟨aU,cU,kU,mU,rfl,xU,kb,hk,hU⟩)
      have hE6:Below w.heap.size w w6:=Et HE.out (Et g2 kb)
      refine wp_abs (F:=fun U=>MSets U ((w6.heap.size,mU.length,mU) :: [(b9,mB.length,mB),(b8,mA.length,mA)])∧Below w.heap.size w U) ⟨MSets.cons ⟨aU,cU,by (repeat' (first|(refine Bxx.at ?_;simp;done)|refine Bxx.alloc ?_ _)),xU.ext (by (repeat' (with_reducible first|assumption|apply Er|apply Ea|apply Ed|apply En|(refine Es ?_ (by first|(simp<;>omega)|omega) _)|refine Et ?_ (by assumption))))⟩ ((HS.out.below (Et g2 kb)).below (by (repeat' (with_reducible first|assumption|apply Er|apply Ea|apply Ed|apply En|(refine Es ?_ (by first|(simp<;>omega)|omega) _)|refine Et ?_ (by assumption))))),by (repeat' (with_reducible first|assumption|apply Er|apply Ea|apply Ed|apply En|(refine Es ?_ (by first|(simp<;>omega)|omega) _)|refine Et ?_ (by assumption)))⟩ ?_
      have HU:=Lib.hid hU
      clear hU kb xU hE6 g0 g1 g2 hb4
      generalize w6.heap.size=b10 at *
      rintro W7 ⟨hS7,hE7⟩
      obtain ⟨d10,f10,gU,xU2⟩:=hS7.at 0 rfl
      obtain ⟨d9,f9,gB2,xB2⟩:=hS7.at 1 rfl
      have r10:=gU.c0
      have r9:=gB2.c0
      have HE7:=Lib.hid hE7
      clear hS7 hE7 gU gB2
      rcases hk with rfl|rfl
      rotate_left
      ·go_wp2_with fail
       go_ret
       exact ⟨rfl,HE7.out⟩
      obtain ⟨vU,sU⟩:=HU.out rfl
      have HSU:=Lib.hid sU
      have HSM2:=Lib.hid ((msame_any 0 _ _ (.slice d10 mU.length f10) (.slice d9 mB.length f9) mU mB W7 xU2 xB2 vU HB.out.mv).mono fun _ _ h=>h.law vU HB.out.mv)
      clear HU vU sU xU2 xB2
      go_upto_region 24 with (go_at_call 36;(with_reducible refine HSM2.out.mono ?_);rintro e w8 ⟨bs,ks,rfl,hks,hsm,k8⟩;have HB8:=Lib.hid k8;clear k8)
      have hks2:=hks.imp (fun h=>And.intro h (HALL.out _ _ HSU.out (hsm h))) And.left
      clear hks hsm HSM2 HSU HALL
      rcases hks2 with ⟨rfl,rfl⟩|rfl
      all_goals
       go_wp2_with fail
       go_ret
       exact ⟨rfl,Et HE7.out HB8.out⟩
 ·subst hso
  have hdd:0≤d∧d≤1152921504606846976∧DiffM mA mB d:=by
   rcases HDN.out with ⟨_,a1,a2,a3,_⟩|⟨h,_⟩
   ·exact ⟨a1,a2,a3⟩
   ·cases h
  obtain ⟨hd0,hd1,hd2⟩:=hdd
  have HDD:=Lib.hid hd2
  clear hd2
  obtain rfl:same=false:=Bool.eq_false_iff.2 fun h=>(diff_iff (a:=mA) (b:=mB)).2 (HSA.out.1 h d) HDD.out
  have hnb:hasM mB d=!hasM mA d:=by
   have i1:=hasM_iff HA.out.mv (n:=d)
   have i2:=hasM_iff HB.out.mv (n:=d)
   rcases HDD.out with ⟨h1,h2⟩|⟨h1,h2⟩
   ·rw [i1.2 h1];exact Bool.eq_false_iff.2 fun h=>h2 (i2.1 h)
   ·rw [i2.2 h1,Bool.eq_false_iff.2 fun h=>h2 (i1.1 h)];rfl
  have HH1:=Lib.hid (fun W (h:Below W3.heap.size W3 W)=>mhas_any _ (.slice a8 mA.length c8) mA d W (XA.out.ext h) ⟨by omega,by omega⟩)
  have HH2:=fun W (h:Below W3.heap.size W3 W)=>mhas_any _ (.slice a9 mB.length c9) mB d W (XB.out.ext h) ⟨by omega,by omega⟩
  rw [hnb] at HH2
  have HH2:=Lib.hid HH2
  generalize hasM mA d=bh at *
  clear hnb
  have hne:(bh == !bh)=false:=by cases bh <;> rfl
  go_upto_region 11 with (fail)
  refine wp_region_V (w0:=w6) [0,1,2,3,4,5,6,7,8,9,10,11,12,13,14,15,16,17,18,19,20,21,22,23,24] [25] (fun v=>⟨#[v0,v1,Value.int IntKind.u16 dy,undef,undef,undef,.bool false,.bool true,.pointer (some ⟨b8,0,none⟩),.pointer (some ⟨b9,0,none⟩),.bool false,.int .i64 0,.int .i64 d,.bool true,.int .i64 0,.bool under,.int .i64 0,undef,undef,undef,undef,undef,.bool true,v0,.agg #[.slice aA mA.length cA],v1,.agg #[.slice aB mB.length cB],.tuple #[.bool false,.int .i64 0],.agg #[.slice a8 mA.length c8],.agg #[.slice a9 mB.length c9],.tuple #[.bool false,.int .i64 0],.bool false,.int .i64 0,.tuple #[.int .i64 d,.bool true,.int .i64 0],.agg #[.slice a8 mA.length c8],.agg #[.slice a9 mB.length c9],.tuple #[.int .i64 d,.bool true,.int .i64 0],.int .i64 d,.bool true,.int .i64 0,.tuple #[.bool under,.int .i64 0],.agg #[.slice a8 mA.length c8],.agg #[.slice a9 mB.length c9],.tuple #[.bool under,.int .i64 0],.bool under,.int .i64 0,.int .i64 0,.int .i64 0,.bool false,.int .i64 0,.bool false,undef,undef,undef,undef,undef,v 0,v 1,v 2,v 3,v 4,v 5,v 6,v 7,v 8,v 9,v 10,v 11,v 12,v 13,v 14,v 15,v 16,v 17,v 18,v 19,v 20,v 21,v 22,v 23,v 24,undef,undef,undef,undef,undef,undef,undef,undef,undef,undef,undef,undef,undef,undef,undef,undef,undef,undef,undef,undef,undef,undef,undef,undef,undef,undef,undef,undef,undef,undef,undef,undef,undef,undef,undef,undef,undef,undef,undef,undef,undef,undef,undef,undef,undef,undef,undef,undef,undef,undef,undef,undef,undef,undef,undef,undef,undef,undef,undef,undef,undef,undef,undef,undef,undef,undef,undef,undef,undef],[]⟩) [.int .i64 0,.bool false,.bool false,.bool false,.bool true,.bool false,.bool false,.bool false,.bool true,.bool true,.agg #[.slice a8 mA.length c8],.int .i64 d,.bool bh,.agg #[.slice a9 mB.length c9],.int .i64 d,.bool (!bh),.bool false,.bool false,.bool false,.bool false,.bool false,.bool false,undef,undef,.bool false] (fun W=>W.cell? ⟨b8,0,none⟩=some (.slice a8 mA.length c8)∧W.cell? ⟨b9,0,none⟩=some (.slice a9 mB.length c9)∧Below W3.heap.size W3 W) (fun W hb=>⟨(GA.out.below (Et HBZ hb)).c0,(GB.out.below (Et HBZ hb)).c0,Et HBZ hb⟩) ?steps ?fin
  case steps=>
   clear t8 t9
   refine .c [] rfl ?_ (.c [0] rfl ?_ (.c [1] rfl ?_ (.c [2] rfl ?_ (.c [2] rfl ?_ (.c [2,3,4] rfl ?_ (.c [2,5] rfl ?_ (.c [6] rfl ?_ (.c [7] rfl ?_ (.c [7,8] rfl ?_ (.c [9] rfl ?_ (.c [9] rfl ?_ (.c [9,10,11] rfl ?_ (.c [9] rfl ?_ (.c [9] rfl ?_ (.c [9,13,14] rfl ?_ (.c [9,12,15] rfl ?_ (.c [7,9,16] rfl ?_ (.c [7,17] rfl ?_ (.c [18] rfl ?_ (.c [19] rfl ?_ (.c [19,20] rfl ?_ (.c [21] rfl ?_ (.c [21,22] rfl ?_ (.c [19,21,23] rfl ?_ (.n)))))))))))))))))))))))))
   all_goals try exact stp
   all_goals
    rintro v W hb ⟨g0,g1,g2⟩
    refine .inl ⟨rfl,fun K hK=>?_⟩
    simp only [ov,vat,Nat.reduceBEq,cond_true,cond_false]
    go_wp2_with (first|(go_at_call 19;(with_reducible refine (HH1.out _ g2).mono ?_);rintro e w9 ⟨rfl,hb9⟩)|(go_at_call 19;(with_reducible refine (HH2.out _ g2).mono ?_);rintro e w9 ⟨rfl,hb9⟩))
    exact acx (hK w9 hb9) (by simp [ov,vat])
  case fin=>
   rintro W2 hb2 ⟨g0,g1,g2⟩
   show wpList _ _ _ [_] _ _
   simp only [vat]
   go_upto_block 0 with (fail)
   go_cut [] (fun wr=>Hid (Below W3.heap.size W3 wr))
   case first=>
    go_wp2_with fail
    go_loopw [17] (fun kv wr=>∃ k:Nat,k≤300∧kv=.int .i64 k∧Hid (Below W3.heap.size W3 wr)) (fun kv _=>300-(intOf kv).toNat)
    case atStart=>exact ⟨0,by omega,rfl,Lib.hid g2⟩
    case round=>
     obtain ⟨k,hk,rfl,HBL⟩:=hrel
     have p8:=(GA.out.below HBL.out).c0
     have p9:=(GB.out.below HBL.out).c0
     have HBY:=HBL.out
     by_cases hkl:k<300∧(k:Int)<d
     ·have hk1:(k:Int)<300:=by omega
      have HR1:=HK1.out k (by omega) (by omega)
      have HR2:=HK2.out k (by omega) (by omega)
      rw [HAG.out k (by omega) (by omega) (.inr hkl.2)] at HR2
      have HR1:=Lib.hid HR1
      have HR2:=Lib.hid HR2
      generalize hasM mA (k:Int)=bk at *
      go_upto_region 16 with (fail)
      cases bk
      all_goals
       go_region_held3 (fun w'=>w'.cell? ⟨b8,0,none⟩=some (.slice a8 mA.length c8)∧w'.cell? ⟨b9,0,none⟩=some (.slice a9 mB.length c9)∧Below W3.heap.size W3 w') ((go_split_ands;refine ⟨(GA.out.below (by (repeat' (with_reducible first|assumption|apply Er|apply Ea|apply Ed|apply En|(refine Es ?_ (by first|(simp<;>omega)|omega) _)|refine Et ?_ (by assumption))))).c0,(GB.out.below (by (repeat' (with_reducible first|assumption|apply Er|apply Ea|apply Ed|apply En|(refine Es ?_ (by first|(simp<;>omega)|omega) _)|refine Et ?_ (by assumption))))).c0,by (repeat' (with_reducible first|assumption|apply Er|apply Ea|apply Ed|apply En|(refine Es ?_ (by first|(simp<;>omega)|omega) _)|refine Et ?_ (by assumption)))⟩))
        (first|(go_at_call 19;first|((with_reducible refine (HR1.out _ (by go_split_ands;(repeat' (with_reducible first|assumption|apply Er|apply Ea|apply Ed|apply En|(refine Es ?_ (by first|(simp<;>omega)|omega) _)|refine Et ?_ (by assumption))))).mono ?_);rintro e u ⟨rfl,kz⟩)|((with_reducible refine (HR2.out _ (by go_split_ands;(repeat' (with_reducible first|assumption|apply Er|apply Ea|apply Ed|apply En|(refine Es ?_ (by first|(simp<;>omega)|omega) _)|refine Et ?_ (by assumption))))).mono ?_);rintro e u ⟨rfl,kz⟩)))
      all_goals
       go_wp2_with fail
       go_roundw
       case rel=>exact ⟨k+1,by omega,by go_num,Lib.hid (by go_split_ands;(repeat' (with_reducible first|assumption|apply Er|apply Ea|apply Ed|apply En|(refine Es ?_ (by first|(simp<;>omega)|omega) _)|refine Et ?_ (by assumption))))⟩
       case measure=>simp [intOf];omega
     ·go_wp2_with fail
      all_goals first
       | (go_meet;exact HBL)
   case rest=>
    have HBL:=hcut
    clear hcut g0 g1 g2 hb2
    have p8:=(GA.out.below HBL.out).c0
    have p9:=(GB.out.below HBL.out).c0
    by_cases hdy:dy<d
    ·have HR1:=HK1.out dy (by omega) (by omega)
     have HR2:=HK2.out dy (by omega) (by omega)
     rw [HAG.out dy (by omega) (by omega) (.inr hdy)] at HR2
     have HD1:=Lib.hid HR1
     have HD2:=Lib.hid HR2
     clear HR1 HR2
     generalize hasM mA dy=bd at *
     go_upto_region 18 with (fail)
     refine wp_region_V (w0:=wc) [0,1,2,3,4,5,6,7,8,9,10,11,12,13,14,15,16,17] [18] (fun v=>⟨#[v0,v1,Value.int IntKind.u16 dy,undef,undef,undef,u6,.bool true,.pointer (some ⟨b8,0,none⟩),.pointer (some ⟨b9,0,none⟩),.bool false,.int .i64 0,.int .i64 d,.bool true,.int .i64 0,.bool under,.int .i64 0,u17,undef,undef,undef,undef,.bool true,v0,.agg #[.slice aA mA.length cA],v1,.agg #[.slice aB mB.length cB],.tuple #[.bool false,.int .i64 0],.agg #[.slice a8 mA.length c8],.agg #[.slice a9 mB.length c9],.tuple #[.bool false,.int .i64 0],.bool false,.int .i64 0,.tuple #[.int .i64 d,.bool true,.int .i64 0],.agg #[.slice a8 mA.length c8],.agg #[.slice a9 mB.length c9],.tuple #[.int .i64 d,.bool true,.int .i64 0],.int .i64 d,.bool true,.int .i64 0,.tuple #[.bool under,.int .i64 0],.agg #[.slice a8 mA.length c8],.agg #[.slice a9 mB.length c9],.tuple #[.bool under,.int .i64 0],.bool under,.int .i64 0,.int .i64 0,.int .i64 0,.bool false,.int .i64 0,.bool false,undef,undef,undef,undef,undef,.int .i64 0,.bool false,.bool false,.bool false,.bool true,.bool false,.bool false,.bool false,.bool true,.bool true,.agg #[.slice a8 mA.length c8],.int .i64 d,.bool bh,.agg #[.slice a9 mB.length c9],.int .i64 d,.bool !bh,.bool false,.bool false,.bool false,.bool false,.bool false,.bool false,undef,undef,.bool false,.bool false,u82,u83,u84,u85,u86,u87,u88,u89,u90,u91,u92,u93,u94,u95,u96,u97,u98,u99,u100,u101,v 0,v 1,v 2,v 3,v 4,v 5,v 6,v 7,v 8,v 9,v 10,v 11,v 12,v 13,v 14,v 15,v 16,v 17,undef,undef,undef,undef,undef,undef,undef,undef,undef,undef,undef,undef,undef,undef,undef,undef,undef,undef,undef,undef,undef,undef,undef,undef,undef,undef,undef,undef,undef,undef],[]⟩) [.bool true,.bool false,.bool false,.int .u16 dy,.int .i64 dy,.int .i64 d,.bool true,.bool true,.bool true,.agg #[.slice a8 mA.length c8],.int .u16 dy,.int .i64 dy,.bool bd,.agg #[.slice a9 mB.length c9],.int .u16 dy,.int .i64 dy,.bool bd,.bool false] (fun W=>W.cell? ⟨b8,0,none⟩=some (.slice a8 mA.length c8)∧W.cell? ⟨b9,0,none⟩=some (.slice a9 mB.length c9)∧Below W3.heap.size W3 W) (fun W hb=>⟨(GA.out.below (Et HBL.out hb)).c0,(GB.out.below (Et HBL.out hb)).c0,Et HBL.out hb⟩) ?steps ?fin
     case steps=>
      clear p8 p9
      refine .c [] rfl ?_ (.c [0] rfl ?_ (.c [1] rfl ?_ (.c [2] rfl ?_ (.c [2,3] rfl ?_ (.c [2] rfl ?_ (.c [2,4,5] rfl ?_ (.c [2,6] rfl ?_ (.c [7] rfl ?_ (.c [8] rfl ?_ (.c [8] rfl ?_ (.c [8,10] rfl ?_ (.c [8,9,11] rfl ?_ (.c [8] rfl ?_ (.c [8] rfl ?_ (.c [8,14] rfl ?_ (.c [8,13,15] rfl ?_ (.c [8,12,16] rfl ?_ (.n))))))))))))))))))
      all_goals try exact stp
      all_goals
       rintro v W hb ⟨g0,g1,g2⟩
       refine .inl ⟨rfl,fun K hK=>?_⟩
       simp only [ov,vat,Nat.reduceBEq,cond_true,cond_false]
       go_wp2_with (first|(go_at_call 19;(with_reducible refine (HD1.out _ g2).mono ?_);rintro e w9 ⟨rfl,hb9⟩)|(go_at_call 19;(with_reducible refine (HD2.out _ g2).mono ?_);rintro e w9 ⟨rfl,hb9⟩))
       exact acx (hK w9 hb9) (by simp [ov,vat])
     case fin=>
      rintro W4 hb4 ⟨g0,g1,g2⟩
      show wpList _ _ _ [_] _ _
      simp only [vat]
      go_upto_region 21 with (go_at_call 21;(with_reducible refine (HOR.out _ g2).mono ?_);rintro e w6 ⟨aU,cU,kU,mU,rfl,xU,kb,hk,hU⟩)
      have hE6:Below w.heap.size w w6:=Et HE.out (Et g2 kb)
      refine wp_abs (F:=fun U=>MSets U ((w6.heap.size,mU.length,mU) :: [(b9,mB.length,mB),(b8,mA.length,mA)])∧Below w.heap.size w U) ⟨MSets.cons ⟨aU,cU,by (repeat' (first|(refine Bxx.at ?_;simp;done)|refine Bxx.alloc ?_ _)),xU.ext (by (repeat' (with_reducible first|assumption|apply Er|apply Ea|apply Ed|apply En|(refine Es ?_ (by first|(simp<;>omega)|omega) _)|refine Et ?_ (by assumption))))⟩ ((HS.out.below (Et g2 kb)).below (by (repeat' (with_reducible first|assumption|apply Er|apply Ea|apply Ed|apply En|(refine Es ?_ (by first|(simp<;>omega)|omega) _)|refine Et ?_ (by assumption))))),by (repeat' (with_reducible first|assumption|apply Er|apply Ea|apply Ed|apply En|(refine Es ?_ (by first|(simp<;>omega)|omega) _)|refine Et ?_ (by assumption)))⟩ ?_
      have HU:=Lib.hid hU
      clear hU kb xU hE6 g0 g1 g2 hb4
      generalize w6.heap.size=b10 at *
      rintro W7 ⟨hS7,hE7⟩
      obtain ⟨d10,f10,gU,xU2⟩:=hS7.at 0 rfl
      obtain ⟨d9,f9,gB2,xB2⟩:=hS7.at 1 rfl
      have r10:=gU.c0
      have r9:=gB2.c0
      have HE7:=Lib.hid hE7
      clear hS7 hE7 gU gB2
      rcases hk with rfl|rfl
      rotate_left
      ·go_wp2_with fail
       go_ret
       exact ⟨rfl,HE7.out⟩
      obtain ⟨vU,sU⟩:=HU.out rfl
      have HSU:=Lib.hid sU
      have HSM2:=Lib.hid ((msame_any 0 _ _ (.slice d10 mU.length f10) (.slice d9 mB.length f9) mU mB W7 xU2 xB2 vU HB.out.mv).mono fun _ _ h=>h.law vU HB.out.mv)
      clear HU vU sU xU2 xB2
      go_upto_region 24 with (go_at_call 36;(with_reducible refine HSM2.out.mono ?_);rintro e w8 ⟨bs,ks,rfl,hks,hsm,k8⟩;have HB8:=Lib.hid k8;clear k8)
      have hks2:=hks.imp (fun h=>And.intro h (HALL.out _ _ HSU.out (hsm h))) And.left
      clear hks hsm HSM2 HSU HALL
      rcases hks2 with ⟨rfl,rfl⟩|rfl
      all_goals
       go_wp2_with fail
       go_ret
       exact ⟨rfl,Et HE7.out HB8.out⟩
    ·have hdy2:d≤dy:=by omega
     go_upto_region 18 with (fail)
     refine wp_region_V (w0:=wc) [0,1,2,3,4,5,6,7,8,9,10,11,12,13,14,15,16,17] [18] (fun v=>⟨#[v0,v1,Value.int IntKind.u16 dy,undef,undef,undef,u6,.bool true,.pointer (some ⟨b8,0,none⟩),.pointer (some ⟨b9,0,none⟩),.bool false,.int .i64 0,.int .i64 d,.bool true,.int .i64 0,.bool under,.int .i64 0,u17,undef,undef,undef,undef,.bool true,v0,.agg #[.slice aA mA.length cA],v1,.agg #[.slice aB mB.length cB],.tuple #[.bool false,.int .i64 0],.agg #[.slice a8 mA.length c8],.agg #[.slice a9 mB.length c9],.tuple #[.bool false,.int .i64 0],.bool false,.int .i64 0,.tuple #[.int .i64 d,.bool true,.int .i64 0],.agg #[.slice a8 mA.length c8],.agg #[.slice a9 mB.length c9],.tuple #[.int .i64 d,.bool true,.int .i64 0],.int .i64 d,.bool true,.int .i64 0,.tuple #[.bool under,.int .i64 0],.agg #[.slice a8 mA.length c8],.agg #[.slice a9 mB.length c9],.tuple #[.bool under,.int .i64 0],.bool under,.int .i64 0,.int .i64 0,.int .i64 0,.bool false,.int .i64 0,.bool false,undef,undef,undef,undef,undef,.int .i64 0,.bool false,.bool false,.bool false,.bool true,.bool false,.bool false,.bool false,.bool true,.bool true,.agg #[.slice a8 mA.length c8],.int .i64 d,.bool bh,.agg #[.slice a9 mB.length c9],.int .i64 d,.bool !bh,.bool false,.bool false,.bool false,.bool false,.bool false,.bool false,undef,undef,.bool false,.bool false,u82,u83,u84,u85,u86,u87,u88,u89,u90,u91,u92,u93,u94,u95,u96,u97,u98,u99,u100,u101,v 0,v 1,v 2,v 3,v 4,v 5,v 6,v 7,v 8,v 9,v 10,v 11,v 12,v 13,v 14,v 15,v 16,v 17,undef,undef,undef,undef,undef,undef,undef,undef,undef,undef,undef,undef,undef,undef,undef,undef,undef,undef,undef,undef,undef,undef,undef,undef,undef,undef,undef,undef,undef,undef],[]⟩) [.bool true,.bool false,.bool false,.int .u16 dy,.int .i64 dy,.int .i64 d,.bool false,.bool false,.bool false,undef,undef,undef,undef,undef,undef,undef,undef,undef] (fun W=>W.cell? ⟨b8,0,none⟩=some (.slice a8 mA.length c8)∧W.cell? ⟨b9,0,none⟩=some (.slice a9 mB.length c9)∧Below W3.heap.size W3 W) (fun W hb=>⟨(GA.out.below (Et HBL.out hb)).c0,(GB.out.below (Et HBL.out hb)).c0,Et HBL.out hb⟩) ?steps ?fin
     case steps=>
      clear p8 p9
      refine .c [] rfl ?_ (.c [0] rfl ?_ (.c [1] rfl ?_ (.c [2] rfl ?_ (.c [2,3] rfl ?_ (.c [2] rfl ?_ (.c [2,4,5] rfl ?_ (.c [2,6] rfl ?_ (.c [7] rfl ?_ (.c [8] rfl ?_ (.c [8] rfl ?_ (.c [8,10] rfl ?_ (.c [8,9,11] rfl ?_ (.c [8] rfl ?_ (.c [8] rfl ?_ (.c [8,14] rfl ?_ (.c [8,13,15] rfl ?_ (.c [8,12,16] rfl ?_ (.n))))))))))))))))))
      all_goals try exact stp
     case fin=>
      rintro W4 hb4 ⟨g0,g1,g2⟩
      show wpList _ _ _ [_] _ _
      simp only [vat]
      go_upto_region 21 with (go_at_call 21;(with_reducible refine (HOR.out _ g2).mono ?_);rintro e w6 ⟨aU,cU,kU,mU,rfl,xU,kb,hk,hU⟩)
      have hE6:Below w.heap.size w w6:=Et HE.out (Et g2 kb)
      refine wp_abs (F:=fun U=>MSets U ((w6.heap.size,mU.length,mU) :: [(b9,mB.length,mB),(b8,mA.length,mA)])∧Below w.heap.size w U) ⟨MSets.cons ⟨aU,cU,by (repeat' (first|(refine Bxx.at ?_;simp;done)|refine Bxx.alloc ?_ _)),xU.ext (by (repeat' (with_reducible first|assumption|apply Er|apply Ea|apply Ed|apply En|(refine Es ?_ (by first|(simp<;>omega)|omega) _)|refine Et ?_ (by assumption))))⟩ ((HS.out.below (Et g2 kb)).below (by (repeat' (with_reducible first|assumption|apply Er|apply Ea|apply Ed|apply En|(refine Es ?_ (by first|(simp<;>omega)|omega) _)|refine Et ?_ (by assumption))))),by (repeat' (with_reducible first|assumption|apply Er|apply Ea|apply Ed|apply En|(refine Es ?_ (by first|(simp<;>omega)|omega) _)|refine Et ?_ (by assumption)))⟩ ?_
      have HU:=Lib.hid hU
      clear hU kb xU hE6 g0 g1 g2 hb4
      generalize w6.heap.size=b10 at *
      rintro W7 ⟨hS7,hE7⟩
      obtain ⟨d10,f10,gU,xU2⟩:=hS7.at 0 rfl
      obtain ⟨d9,f9,gB2,xB2⟩:=hS7.at 1 rfl
      have r10:=gU.c0
      have r9:=gB2.c0
      have HE7:=Lib.hid hE7
      clear hS7 hE7 gU gB2
      rcases hk with rfl|rfl
      rotate_left
      ·go_wp2_with fail
       go_ret
       exact ⟨rfl,HE7.out⟩
      obtain ⟨vU,sU⟩:=HU.out rfl
      have HSU:=Lib.hid sU
      have HSM2:=Lib.hid ((msame_any 0 _ _ (.slice d10 mU.length f10) (.slice d9 mB.length f9) mU mB W7 xU2 xB2 vU HB.out.mv).mono fun _ _ h=>h.law vU HB.out.mv)
      clear HU vU sU xU2 xB2
      go_upto_region 24 with (go_at_call 36;(with_reducible refine HSM2.out.mono ?_);rintro e w8 ⟨bs,ks,rfl,hks,hsm,k8⟩;have HB8:=Lib.hid k8;clear k8)
      have hks2:=hks.imp (fun h=>And.intro h (HALL.out _ _ HSU.out (hsm h))) And.left
      clear hks hsm HSM2 HSU HALL
      rcases hks2 with ⟨rfl,rfl⟩|rfl
      all_goals
       go_wp2_with fail
       go_ret
       exact ⟨rfl,Et HE7.out HB8.out⟩
end Go.Proofs.YthjnojbeimchdaaGreat
