/- Walk: the law MixedChecksSets. -/
import Derived.Test.YthjnojbeimchdaaGreatNxSupWalkLi
import Derived.Test.YthjnojbeimchdaaGreatN10
import Derived.Test.YthjnojbeimchdaaGreatN2
set_option linter.unusedVariables false
set_option linter.unusedSimpArgs false
namespace Go.Proofs.YthjnojbeimchdaaGreat
open Go.RowKit Go.Maps Kal
theorem take_all {α:Type} {l:List α} {k:Nat} {d:α} {p:α→Prop} (h:k<l.length) (h1:∀ x∈l.take k,p x) (h2:p (l.getD k d)):∀ x∈l.take (k+1),p x:=fun x hx=>by
 rw [List.take_succ_eq_append_getElem h] at hx
 rcases List.mem_append.1 hx with hx|hx
 ·exact h1 x hx
 ·rw [List.mem_singleton] at hx
  rw [List.getD_eq_getElem?_getD,List.getElem?_eq_getElem h] at h2
  rw [hx];exact h2
theorem MixRaw.get {w:World} {a:Option Addr} {c:Nat} {L:List (Value × List PV)} (h:MixRaw w (.slice a L.length c) L) {k:Nat} (hk:k<L.length) :
  ∃ b o a2 c2,a=some ⟨b,o,none⟩∧w.cell? ⟨b,o+k,none⟩=some (.slice a2 (L.getD k default).2.length c2)∧TermRaw w (.slice a2 (L.getD k default).2.length c2) (L.getD k default).2:=by
 obtain ⟨b,o,rfl,hc⟩:=h.row.get (by omega)
 have e:L.getD k default=L[k]:=by rw [List.getD_eq_getElem?_getD,List.getElem?_eq_getElem hk];rfl
 have ht:=h.all L[k] (List.getElem_mem hk)
 obtain ⟨a2,c2,e2,_⟩:=ht.row.is
 rw [e]
 refine ⟨b,o,a2,c2,rfl,?_,by rw [← e2];exact ht⟩
 rw [← e2]
 exact hc k _ (by rw [List.getElem?_map,List.getElem?_eq_getElem hk];rfl)
theorem TermRaw.get {w:World} {a:Option Addr} {c:Nat} {T:List PV} (h:TermRaw w (.slice a T.length c) T) {j:Nat} (hj:j<T.length) :
  ∃ b o a1 c1 a2 c2,a=some ⟨b,o,none⟩∧w.cell? ⟨b,o+j*4,none⟩=some (.slice a1 (T.getD j default).p.head.length c1)∧w.cell? ⟨b,o+j*4+3,none⟩=some (.slice a2 (T.getD j default).p.cycle.length c2)∧(T.getD j default).p.head.length≤9223372036854775807∧(T.getD j default).p.cycle.length≤9223372036854775807:=by
 obtain ⟨b,o,rfl,hc⟩:=h.row.get (by omega)
 have hx:=h.all _ (getD_mem' (d:=default) hj)
 obtain ⟨a1,c1,e1⟩:=hx.fh
 obtain ⟨a2,c2,e2⟩:=hx.fc
 refine ⟨b,o,a1,c1,a2,c2,rfl,?_,?_,hx.lh,hx.lc⟩
 ·have:=hc (j*4+0) (T.getD j default).h (flat_get hj rfl)
  rw [e1] at this;exact this
 ·have:=hc (j*4+3) (T.getD j default).c (flat_get hj rfl)
  rw [e2] at this;exact this
set_option maxRecDepth 100000 in
set_option maxHeartbeats 4000000 in
theorem MixedChecksSets_any (v0:Value) (L:List (Value × List PV)) (dy:Int) (w:World) (h0:MixRaw w v0 L) (d0:-9223372036854775808≤dy) (d1:dy≤9223372036854775807) :
  Calls Tryz.prog 4 #[.agg #[v0],.int .i64 dy] w fun e w'=>e=.returned (.bool true)∧Below w.heap.size w w':=by
 obtain ⟨a,c,rfl,hlc,hcm,_⟩:=h0.row.is
 have H0:=Lib.hid h0
 have HD:Hid (InI dy):=Lib.hid ⟨d0,d1⟩
 clear h0
 go_enter Tryz.func4,Tryz.ntmps4
 go_upto_region 2 with (go_at_call 13;refine (sanity_any _).mono ?_;rintro e w1 ⟨rfl,k1⟩)
 refine wp_abs (F:=fun U=>Bxx U w.heap.size #[.slice a L.length c] 28∧Below w.heap.size w U) ⟨Bxx.below xB k1,xE⟩ ?_
 clear k1
 rintro W3 ⟨hB,hE⟩
 have q0:=(hB.cells 0).1
 have GB:=Lib.hid hB
 have HE:=Lib.hid hE
 have HX:=Lib.hid (H0.out.ext hE)
 clear hB hE H0
 by_cases hl:70<L.length
 ·have hlI:70<(L.length:Int):=by omega
  go_wp2_with fail
  go_ret
  exact ⟨rfl,HE.out⟩
 have hlI:¬ 70<(L.length:Int):=by omega
 go_wp2_with fail
 go_loopw [6,7] (fun i _ wr=>∃ k:Nat,k≤L.length∧i=.int .i64 k∧Hid (∀ x∈L.take k,SmallT x.2)∧Hid (Below W3.heap.size W3 wr)) (fun i _ _=>L.length-(intOf i).toNat)
 case atStart=>exact ⟨0,by omega,rfl,Lib.hid (by simp),Lib.hid (Er _)⟩
 case round=>
  obtain ⟨k,hk,rfl,HS,HBL⟩:=hrel
  have p0:=((Bxx.below GB.out HBL.out).cells 0).1
  have HBY:=HBL.out
  by_cases hlt:k<L.length
  ·have hltI:(k:Int)<L.length:=by omega
   have hX:=HX.out.ext HBL.out
   obtain ⟨bt,ot,a2,c2,hat,hcell,hT⟩:=hX.get hlt
   subst hat
   obtain ⟨T,hTe⟩:∃ T,T=(L.getD k default).2:=⟨_,rfl⟩
   rw [← hTe] at hcell hT
   have HTE:=Lib.hid hTe
   have HT:=Lib.hid hT
   obtain ⟨_,_,_,htl,htm,_⟩:=hT.row.is
   clear hTe hT hX
   by_cases h6:6<T.length
   ·have h6I:6<(T.length:Int):=by omega
    go_wp2_with fail
    go_ret
    exact ⟨rfl,Et HE.out HBL.out⟩
   have h6I:¬ 6<(T.length:Int):=by omega
   obtain ⟨wo,hwo⟩:∃ wo,wo=wr:=⟨_,rfl⟩
   have HBO:=HBL
   rw [← hwo] at HBO HT
   have HWO:=Lib.hid hwo
   clear hwo
   go_wp2_with fail
   go_loopw [7] (fun i wr=>∃ j:Nat,j≤T.length∧i=.int .i64 j∧Hid (∀ x∈T.take j,SmallF x)∧Hid (Below wo.heap.size wo wr)) (fun i _=>T.length-(intOf i).toNat)
   case atStart=>exact ⟨0,by omega,rfl,Lib.hid (by simp),Lib.hid (by rw [← HWO.out];exact Er _)⟩
   case round=>
    obtain ⟨j,hj,rfl,HSF,HB2⟩:=hrel
    have p1:=((Bxx.below GB.out (Et HBO.out HB2.out)).cells 0).1
    have p2:=Ext.cell HB2.out (show wo.cell? ⟨bt,ot+k,none⟩=some (.slice a2 T.length c2) by rw [HWO.out];exact hcell)
    by_cases hlt2:j<T.length
    ·have hltI2:(j:Int)<T.length:=by omega
     obtain ⟨b1,o1,a3,c3,a4,c4,hat,e0,e3,n0,n3⟩:=(HT.out.ext HB2.out).get hlt2
     subst hat
     have HTS:=Lib.hid (fun h=>take_all (d:=default) (p:=SmallF) hlt2 HSF.out h)
     have HSD:Hid ((T.getD j default).p.head.length≤40→(T.getD j default).p.cycle.length≤40→SmallF (T.getD j default)):=Lib.hid fun h1 h2=>⟨h1,h2⟩
     generalize T.getD j default=y at *
     by_cases g1:40<y.p.head.length
     ·have g1I:40<(y.p.head.length:Int):=by omega
      go_wp2_with fail
      go_ret
      exact ⟨rfl,Et HE.out (Et HBO.out HB2.out)⟩
     have g1I:¬ 40<(y.p.head.length:Int):=by omega
     by_cases g2:40<y.p.cycle.length
     ·have g2I:40<(y.p.cycle.length:Int):=by omega
      go_wp2_with fail
      go_ret
      exact ⟨rfl,Et HE.out (Et HBO.out HB2.out)⟩
     have g2I:¬ 40<(y.p.cycle.length:Int):=by omega
     go_wp2_with fail
     go_roundw
     case rel=>exact ⟨j+1,by omega,by go_num,Lib.hid (HTS.out (HSD.out (by omega) (by omega))),HB2⟩
     case measure=>simp [intOf];omega
    ·obtain rfl:j=T.length:=by omega
     go_wp2_with fail
     go_roundw
     case rel=>
      refine ⟨k+1,by omega,by go_num,Lib.hid (take_all (d:=default) (p:=fun x=>SmallT x.2) hlt HS.out ⟨?_,?_⟩),Lib.hid (Et HBO.out HB2.out)⟩
      ·rw [← HTE.out];omega
      ·rw [← HTE.out]
       have:=HSF.out
       rw [List.take_length] at this;exact this
     case measure=>simp [intOf];omega
  ·obtain rfl:k=L.length:=by omega
   have hmix:=(HX.out.ext HBL.out).mix (by omega) (by have:=HS.out;rw [List.take_length] at this;exact this)
   obtain ⟨m,hm⟩:∃ m,m=L.map fun x=>x.2.map PV.p:=⟨_,rfl⟩
   rw [← hm] at hmix
   have HM:=Lib.hid hmix
   clear hm hmix HS hlt
   have HRV:=fun W (h:Below wr.heap.size wr W)=>RmValid_any Any (.slice a L.length c) m W (HM.out.ext h)
   have HMV:=fun W (h:Below wr.heap.size wr W)=>mvalid_any Any (.slice a L.length c) m W (HM.out.ext h)
   have HRH:=fun W (h:Below wr.heap.size wr W)=>RmHas_any Any (.slice a L.length c) m dy W (HM.out.ext h) HD.out
   have HMH:=fun W (h:Below wr.heap.size wr W)=>mhas_any Any (.slice a L.length c) m dy W (HM.out.ext h) HD.out
   generalize hasM m dy=bh at *
   obtain ⟨vb,hvb⟩:∃ vb,vb=validM m:=⟨_,rfl⟩
   rw [← hvb] at HRV HMV
   have HVB:=Lib.hid hvb
   clear hvb
   have HRV:=Lib.hid HRV
   have HMV:=Lib.hid HMV
   have HRH:=Lib.hid HRH
   have HMH:=Lib.hid HMH
   go_upto_region 15 with (go_at_call 17;(with_reducible refine (HRV.out _ (Er _)).mono ?_);rintro e w4 ⟨rfl,k4⟩;have HB4:=Lib.hid k4;clear k4)
   clear p0
   refine wp_region_V (w0:=w4) [0,1,2,3,4,5,6,7,8,9,10,11,12] [] (fun v=>⟨#[.agg #[.slice a L.length c],.int .i64 dy,.pointer (some ⟨w.heap.size,0,none⟩),undef,u4,.bool true,.int .i64 ↑L.length,u7,.bool vb,undef,undef,undef,undef,undef,undef,undef,undef,undef,undef,undef,undef,.bool true,.pointer (some ⟨w.heap.size,0,none⟩),.slice a L.length c,.int .i64 ↑L.length,.bool false,undef,.int .i64 ↑L.length,.pointer (some ⟨w.heap.size,0,none⟩),.slice a L.length c,.int .i64 ↑L.length,.bool false,u32,u33,u34,u35,u36,u37,u38,u39,u40,u41,u42,u43,u44,u45,u46,u47,u48,u49,u50,u51,u52,u53,u54,u55,u56,u57,u58,u59,u60,u61,u62,u63,u64,u65,u66,u67,u68,u69,u70,u71,u72,u73,u74,u75,u76,.agg #[.slice a L.length c],.bool vb,v 0,v 1,v 2,v 3,v 4,v 5,v 6,v 7,v 8,v 9,v 10,v 11,v 12,undef,undef,undef,undef,undef,undef,undef,undef,undef,undef,undef,undef,undef,undef,undef,undef,undef,undef,undef,undef,undef,undef,undef,undef,undef,undef,undef,undef,undef,undef,undef,undef,undef,undef,undef,undef,undef,undef,undef,undef,undef,undef,undef,undef,undef,undef,undef,undef,undef,undef,undef,undef,undef,undef,undef,undef,undef,undef,undef,undef,undef,undef,undef,undef,undef,undef,undef,undef,undef,undef],[]⟩) [.agg #[.slice a L.length c],.bool vb,.bool vb,.bool false,.bool false,.agg #[.slice a L.length c],.int .i64 dy,.bool bh,.agg #[.slice a L.length c],.int .i64 dy,.bool bh,.bool false,.bool false] (fun W=>W.cell? ⟨w.heap.size,0,none⟩=some (.slice a L.length c)∧Below wr.heap.size wr W) (fun W hb=>⟨((Bxx.below GB.out (Et HBL.out (Et HB4.out hb))).cells 0).1,Et HB4.out hb⟩) ?steps ?fin
   case steps=>
    refine .c [] rfl ?_ (.c [0] rfl ?_ (.c [] rfl ?_ (.c [1,2] rfl ?_ (.c [3] rfl ?_ (.c [4] rfl ?_ (.c [4] rfl ?_ (.c [4,5,6] rfl ?_ (.c [4] rfl ?_ (.c [4] rfl ?_ (.c [4,8,9] rfl ?_ (.c [4,7,10] rfl ?_ (.c [4,11] rfl ?_ (.n)))))))))))))
    all_goals try exact stp
    all_goals
     rintro v W hb ⟨g0,gB⟩
     refine .inl ⟨rfl,fun K hK=>?_⟩
     simp only [ov,vat,Nat.reduceBEq,cond_true,cond_false]
     go_wp2_with (first|(go_at_call 18;(with_reducible refine (HMV.out _ gB).mono ?_);rintro e w9 ⟨rfl,hb9⟩)|(go_at_call 19;(with_reducible refine (HMH.out _ gB).mono ?_);rintro e w9 ⟨rfl,hb9⟩)|(go_at_call 20;(with_reducible refine (HRH.out _ gB).mono ?_);rintro e w9 ⟨rfl,hb9⟩))
     exact acx (hK w9 hb9) (by simp [ov,vat])
   case fin=>
    rintro W5 hb5 ⟨g0,gB⟩
    show wpList _ _ _ [] _ _
    simp only [vat]
    cases vb
    rotate_left
    ·go_wp2_with fail
     go_ret
     exact ⟨rfl,Et HE.out (Et HBL.out gB)⟩
    have HO:=Lib.hid (fun W (h:Below wr.heap.size wr W)=>mor_bad Any (fun _=>True) (.slice a L.length c) (.slice none 0 0) m [] W (HM.out.ext h) (mix_nil _) (by rw [← HVB.out];rfl))
    have HA:=Lib.hid (fun W (h:Below wr.heap.size wr W)=>mand_bad (fun _=>True) Any (.slice none 0 0) (.slice a L.length c) [] m W (mix_nil _) (HM.out.ext h) (by rw [← HVB.out];rfl))
    have HMI:=Lib.hid (fun W (h:Below wr.heap.size wr W)=>mminus_bad (fun _=>True) Any (.slice none 0 0) (.slice a L.length c) [] m W (mix_nil _) (HM.out.ext h) (by rw [← HVB.out];rfl))
    have HJ:=Lib.hid (fun W (h:Below wr.heap.size wr W)=>mjoin_bad Any (.slice a L.length c) m W (HM.out.ext h) HVB.out.symm)
    have HC:=Lib.hid (fun W (h:Below wr.heap.size wr W)=>mcount_bad Any (.slice a L.length c) m 0 1 W (HM.out.ext h) (.inl HVB.out.symm))
    have HN:=Lib.hid (fun W (h:Below wr.heap.size wr W)=>mnext_bad Any (.slice a L.length c) m 0 W (HM.out.ext h) HVB.out.symm)
    have HEM:=Lib.hid (fun W (h:Below wr.heap.size wr W)=>(mempty_any Any (.slice a L.length c) m W (HM.out.ext h)).mono fun e u (hr:∃ b,_)=>(show e=Ending.returned (.bool false)∧Below W.heap.size W u by
     obtain ⟨b,he,hb,k⟩:=hr
     have:b=false:=Bool.eq_false_iff.2 fun h9=>by
      have h8:=(hb.1 h9).1
      rw [← HVB.out] at h8;cases h8
     rw [this] at he
     exact ⟨he,k⟩))
    have HFI:=Lib.hid (fun W (h:Below wr.heap.size wr W)=>(mfinite_any Any (.slice a L.length c) m W (HM.out.ext h)).mono fun e u (hr:∃ b,_)=>(show e=Ending.returned (.bool false)∧Below W.heap.size W u by
     obtain ⟨b,he,hb,k⟩:=hr
     have:b=false:=Bool.eq_false_iff.2 fun h9=>by
      have h8:=(hb.1 h9).1
      rw [← HVB.out] at h8;cases h8
     rw [this] at he
     exact ⟨he,k⟩))
    clear HRV HMV HRH HMH hb5
    go_wp2_with (first|(go_at_call 21;(with_reducible refine (HO.out _ gB).mono ?_);rintro e w6 ⟨rfl,k6⟩;have HB6:=Lib.hid (Et gB k6);have x6:=cell_alloc_at ((Bxx.below GB.out (Et HBL.out HB6.out)).cells 0).1 (.cells #[.slice none 0 0] 28);clear k6)|(go_at_call 22;(with_reducible refine (HA.out _ (Ea HB6.out _)).mono ?_);rintro e w7 ⟨rfl,k7⟩;have HB7:=Lib.hid (Et (Ea HB6.out _) k7);have x7:=cell_alloc_at ((Bxx.below GB.out (Et HBL.out HB7.out)).cells 0).1 (.cells #[.slice none 0 0] 28);clear k7)|(go_at_call 23;(with_reducible refine (HMI.out _ (Ea HB7.out _)).mono ?_);rintro e w8 ⟨rfl,k8⟩;have HB8:=Lib.hid (Et (Ea HB7.out _) k8);have x8:=cell_alloc_at ((Bxx.below GB.out (Et HBL.out HB8.out)).cells 0).1 (.cells #[.slice none 0 0] 28);clear k8)|(go_at_call 24;(with_reducible refine (HJ.out _ (Ea HB8.out _)).mono ?_);rintro e w9 ⟨rfl,k9⟩;have HB9:=Lib.hid (Et (Ea HB8.out _) k9);have x9:=cell_alloc_at ((Bxx.below GB.out (Et HBL.out HB9.out)).cells 0).1 (.cells #[.slice none 0 0,.int .i64 0,.int .i64 0,.slice none 0 0] 39);clear k9)|(go_at_call 15;(with_reducible refine (HC.out _ (Ea HB9.out _)).mono ?_);rintro e w10 ⟨rfl,k10⟩;have HB10:=Lib.hid (Et (Ea HB9.out _) k10);have x10:=((Bxx.below GB.out (Et HBL.out HB10.out)).cells 0).1;clear k10)|(go_at_call 16;(with_reducible refine (HN.out _ HB10.out).mono ?_);rintro e w11 ⟨rfl,k11⟩;have HB11:=Lib.hid (Et HB10.out k11);have x11:=((Bxx.below GB.out (Et HBL.out HB11.out)).cells 0).1;clear k11)|(go_at_call 25;(with_reducible refine (HEM.out _ HB11.out).mono ?_);rintro e w12 ⟨rfl,k12⟩;have HB12:=Lib.hid (Et HB11.out k12);have x12:=((Bxx.below GB.out (Et HBL.out HB12.out)).cells 0).1;clear k12)|(go_at_call 26;(with_reducible refine (HFI.out _ HB12.out).mono ?_);rintro e w13 ⟨rfl,k13⟩;have HB13:=Lib.hid (Et HB12.out k13);clear k13))
    go_ret
    exact ⟨rfl,Et HE.out (Et HBL.out HB13.out)⟩
end Go.Proofs.YthjnojbeimchdaaGreat
