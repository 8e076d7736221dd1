/- Part 6 of the proof of MixedDecisionsMatchReference_said. -/
import Derived.Test.YthjnojbeimchdaaGreatU5
import Derived.Test.YthjnojbeimchdaaGreatU4
import Derived.Deep.Slices
import Derived.Test.YthjnojbeimchdaaGreatU3
import Derived.Deep.QuietTactic
import Derived.BigQuiet
set_option linter.unusedVariables false
set_option linter.unusedSimpArgs false
set_option maxRecDepth 100000
set_option maxHeartbeats 4000000
section
variable {b b':Bool}{e:Go.Ending}{F P a at_ d f hi lo n r s x y:Int}{T m m1 m2:List (List Kal.Per)}{X l:List Int}{L:List Go.Proofs.YthjnojbeimchdaaGreat.PV}{t u:List Kal.Per}{B base c cap g j k ob:Nat}{o:Go.Oper}{p:Kal.Per}{h hv v:Go.Value}{W W' W2 w w':Go.World}
namespace Go.Proofs.YthjnojbeimchdaaGreat
open Go.RowKit Go.Maps Kal
theorem mc_ (h:bj_ m=true):∀ t∈m,TV t∧t≠[]:=fun t ht=>by
 unfold bj_ at h;rw [Bool.and_eq_true] at h;have h2:=List.all_eq_true.1 h.2 t ht;unfold br_ at h2;rw [Bool.and_eq_true,Bool.and_eq_true,decide_eq_true_iff,decide_eq_true_iff] at h2;exact ⟨fun p hp=>List.all_eq_true.1 h2.2 p hp,fun e=>by have:=h2.1.1;rw [e] at this;simp at this⟩
open Classical in
noncomputable def recB (t:List Per):Bool:=decide (recT t)
open Classical in
noncomputable def barB (t:List Per):Bool:=decide (bt_ t)
theorem nc_:recB t=true↔recT t:=by simp [recB]
theorem on_:barB t=true↔bt_ t:=by simp [barB]
theorem jc_ {c:Bool} (h:b=true↔c=true):b=c:=by cases b <;> cases c <;> simp_all
theorem vu_ (h:b=true↔recT t):b=recB t:=jc_ (h.trans nc_.symm)
theorem wu_ (h:b=true↔bt_ t):b=barB t:=jc_ (h.trans on_.symm)
theorem wb_:(¬ (!barB t)=true)↔bt_ t:=by rw [<- on_];cases barB t <;> simp
theorem qi_ (F:Nat->Prop) (v:Value) (t:List Per) (w:World) (ht:ab_ w F v t) (hv:TV t) :
  Calls Tryz.prog 74 #[v] w fun e w'=>e=.returned (.bool (!barB t))∧Below w.heap.size w w':=by
 have H:=kz_ F v t w ht hv;obtain ⟨a,c,rfl,_⟩:=ht.form;clear ht hv
 go_enter Tryz.func74,Tryz.ntmps74
 go_wp2_with (go_at_call 75;refine H.mono ?_;rintro e w1 ⟨b,rfl,hb,hb1⟩;have HB:=hq_ hb;clear hb)
 go_ret;exact ⟨by rw [wu_ HB.out];rfl,hb1⟩
theorem qg_ (F:Nat->Prop) (v:Value) (m:List (List Per)) (w:World) (hm:MixR w F v m) (hv:∀ t∈m,TV t) :
  Calls Tryz.prog 57 #[v,.func (.func 74) #[] #[]] w fun e w'=>e=.returned (.bool (m.any fun t=>!barB t))∧Below w.heap.size w w':=by
 obtain ⟨L,rfl,hL⟩:=hm;have h:=fo_ F v L (fun x=>!barB x.2) 74 #[] (enters_of Tryz.func74 (by kernel_rfl) rfl) w hL.row hL.len (fun W x hW hx=>by
  have h:=qi_ F x.1 x.2 W ((hL.all x hx).ext hW) (hv _ (List.mem_map.2 ⟨x,hx,rfl⟩));have e:(#[x.1] ++ (#[]:Array Value))=#[x.1]:=by simp
  rw [e];exact h.mono fun e w' ⟨h1,h2⟩=>⟨h1,hW.trans (h2.mono hW.size)⟩)
 rw [List.any_map];exact h
theorem qe_ (F:Nat->Prop) (v:Value) (m:List (List Per)) (w:World) (hm:MixR w F v m) (hv:∀ t∈m,TV t) :
  Calls Tryz.prog 57 #[v,.func (.func 76) #[] #[]] w fun e w'=>e=.returned (.bool (m.any recB))∧Below w.heap.size w w':=by
 obtain ⟨L,rfl,hL⟩:=hm;have h:=fo_ F v L (fun x=>recB x.2) 76 #[] (enters_of Tryz.func76 (by kernel_rfl) rfl) w hL.row hL.len (fun W x hW hx=>by
  have h:=hg_ F x.1 x.2 W ((hL.all x hx).ext hW) (hv _ (List.mem_map.2 ⟨x,hx,rfl⟩));have e:(#[x.1] ++ (#[]:Array Value))=#[x.1]:=by simp
  rw [e];exact h.mono fun e w' ⟨b,h1,h2,h3⟩=>⟨by rw [h1,vu_ h2],hW.trans (h3.mono hW.size)⟩)
 rw [List.any_map];exact h
theorem ko_ (F:Nat->Prop) (v:Value) (m:List (List Per)) (w:World) (hm:MixR w F v m) :
  Calls Tryz.prog 25 #[.agg #[v]] w fun e w'=>∃ b,e=.returned (.bool b)∧(b=true↔bj_ m=true∧∀ t∈m,bt_ t)∧Below w.heap.size w w':=by
 have HV:=fun W h=>bh_ F v m W (hm.ext h);obtain ⟨a,c,rfl⟩:=hm.form;cases hq:bj_ m with
 | false=>
  rw [hq] at HV;clear hm hq
  go_enter Tryz.func25,Tryz.ntmps25
  go_wp2_with (go_at_call 18;refine (HV _ xE).mono ?_;rintro e w1 ⟨rfl,hb1⟩)
  go_ret;exact ⟨false,rfl,⟨fun h=>absurd h dq_,fun h=>absurd h.1 dq_⟩,xE⟩
 | true=>
  rw [hq] at HV;have HA:=fun W (h:Below w.heap.size w W)=>qg_ F (.slice a m.length c) m W (hm.ext h) (fun t ht=>(mc_ hq t ht).1);have HI:Hid ((m.any (fun t=>!barB t)=false)↔∀ t∈m,bt_ t):=hq_ (by rw [List.any_eq_false];exact forall_congr' fun t=>forall_congr' fun _=>by exact wb_);clear hm hq;generalize m.any (fun t=>!barB t)=b at *
  go_enter Tryz.func25,Tryz.ntmps25
  go_wp2_with (first|(go_at_call 18;refine (HV _ xE).mono ?_;rintro e w1 ⟨rfl,hb1⟩;have hbx:Bxx w1 w.heap.size #[.slice a m.length c] 28:=Bxx.below xB hb1;have x0:=hbx.c0;have hW1:Below w.heap.size w w1:=by exact xE)|(go_at_call 57;refine (HA _ hW1).mono ?_;rintro e w2 ⟨rfl,hb2⟩;have hW2:Below w.heap.size w w2:=Et hW1 hb2))
  go_ret;exact ⟨!b,by first|rfl|simp,⟨fun h=>⟨by first|rfl|trivial,HI.out.1 (by simpa using h)⟩,fun h=>by simpa using HI.out.2 h.2⟩,hW2⟩
theorem pl_ (F:Nat->Prop) (v:Value) (m:List (List Per)) (w:World) (hm:MixR w F v m) :
  Calls Tryz.prog 26 #[.agg #[v]] w fun e w'=>∃ b,e=.returned (.bool b)∧(b=true↔bj_ m=true∧∀ t∈m,¬ recT t)∧Below w.heap.size w w':=by
 have HV:=fun W h=>bh_ F v m W (hm.ext h);obtain ⟨a,c,rfl⟩:=hm.form;cases hq:bj_ m with
 | false=>
  rw [hq] at HV;clear hm hq
  go_enter Tryz.func26,Tryz.ntmps26
  go_wp2_with (go_at_call 18;refine (HV _ xE).mono ?_;rintro e w1 ⟨rfl,hb1⟩)
  go_ret;exact ⟨false,rfl,⟨fun h=>absurd h dq_,fun h=>absurd h.1 dq_⟩,xE⟩
 | true=>
  rw [hq] at HV;have HA:=fun W (h:Below w.heap.size w W)=>qe_ F (.slice a m.length c) m W (hm.ext h) (fun t ht=>(mc_ hq t ht).1);have HI:Hid ((m.any recB=false)↔∀ t∈m,¬ recT t):=hq_ (by rw [List.any_eq_false];exact forall_congr' fun t=>forall_congr' fun _=>by rw [<- nc_]);clear hm hq;generalize m.any recB=b at *
  go_enter Tryz.func26,Tryz.ntmps26
  go_wp2_with (first|(go_at_call 18;refine (HV _ xE).mono ?_;rintro e w1 ⟨rfl,hb1⟩;have hbx:Bxx w1 w.heap.size #[.slice a m.length c] 28:=Bxx.below xB hb1;have x0:=hbx.c0;have hW1:Below w.heap.size w w1:=by exact xE)|(go_at_call 57;refine (HA _ hW1).mono ?_;rintro e w2 ⟨rfl,hb2⟩;have hW2:Below w.heap.size w w2:=Et hW1 hb2))
  go_ret;exact ⟨!b,by first|rfl|simp,⟨fun h=>⟨by first|rfl|trivial,HI.out.1 (by simpa using h)⟩,fun h=>by simpa using HI.out.2 h.2⟩,hW2⟩
theorem ti_ (h:aw_ s t):br_ t=true↔t.length≤4:=by
 unfold br_;rw [Bool.and_eq_true,Bool.and_eq_true,decide_eq_true_iff,decide_eq_true_iff,List.all_eq_true];exact ⟨fun g=>g.1.2,fun g=>⟨⟨List.length_pos_iff.2 h.ne,g⟩,fun p hp=>(h.fv p hp).validB⟩⟩
theorem d8_ (h:∀ t∈m,aw_ s t):bj_ m=true↔cv_ m:=by
 unfold bj_ cv_;rw [Bool.and_eq_true,decide_eq_true_iff,List.all_eq_true];exact and_congr Iff.rfl (forall_congr' fun t=>forall_congr' fun ht=>ti_ (h t ht))
theorem c8_.num (h:c8_ s T w e w'):∃ (a:Option Addr) (c:Nat) (k:Int) (mk:List (List Per)),e=.returned (.tuple #[.agg #[.slice a mk.length c],.int .i64 k])∧MixR w' (fun b=>w.heap.size≤b) (.slice a mk.length c) mk∧Below w.heap.size w w'∧
  ((k=0∧bf_ T mk∧MV s mk)∨(k=2∧a=none∧c=0∧mk=[]∧∃ m,bf_ T m∧¬ cv_ m)):=by
 obtain ⟨v,m,hN,hvt,hb,⟨hval,rfl,hm⟩|⟨hval,rfl⟩⟩:=h
 ·obtain ⟨a,c,rfl⟩:=hm.form;exact ⟨a,c,0,m,rfl,hm,hb,.inl ⟨rfl,hN,hval,hvt⟩⟩
 ·exact ⟨none,0,2,[],rfl,⟨[],rfl,⟨none,0,rfl,sq_,oq_,.inl rfl⟩,sq_,sq_⟩,hb,.inr ⟨rfl,rfl,rfl,rfl,m,hN,fun g=>by rw [(d8_ hvt).2 g] at hval;cases hval⟩⟩
theorem dz_:∀ {m:List (List Per)} {t:List Per},(minL m t).length=m.length*t.length
 | [],t=>by simp [minL]
 | x :: m,t=>by
  have h:=dz_ (m:=m) (t:=t);have e:minL (x :: m) t=(t.map fun f=>wiP x f) ++ minL m t:=rfl;rw [e,List.length_append,List.length_map,h,List.length_cons,Nat.succ_mul,Nat.add_comm]
def fk_ (s:Int) (m1 m2:List (List Per)) (w:World) (e:Ending) (w':World):Prop:=
 ∃ (v:Value) (r:Option (List (List Per))),b4_ m1 m2 r∧Below w.heap.size w w'∧
  ((∃ k,r=some k∧MV s k∧e=.returned (.tuple #[.agg #[v],.int .i64 0])∧MixR w' (fun b=>w.heap.size≤b) v k)∨(r=none∧e=.returned (.tuple #[.agg #[.slice none 0 0],.int .i64 2])))
structure MS (s:Int) (m1 m2:List (List Per)) (w:World) (b6 j:Nat) (a:Option Addr) (c:Nat) (k:Int) (mk:List (List Per)) (W:World):Prop where
 below:Below w.heap.size w W
 obx:Bxx W b6 #[.slice a mk.length c] 28
 rbx:Bxx W (w.heap.size+1+1) #[.slice none 0 0] 28
 mix:MixR W (fun b=>w.heap.size+2<b∧b≠b6) (.slice a mk.length c) mk
 lt:w.heap.size+2<b6
 st:(k=0∧MV s mk∧∀ r,fy_ mk (m2.drop j) r->b4_ m1 m2 r)∨(k=2∧a=none∧c=0∧mk=[]∧b4_ m1 m2 none)
theorem ft_ (s:Int) (F1 F2:Nat->Prop) (v1 v2:Value) (m1 m2:List (List Per)) (w:World) (h1:MixR w F1 v1 m1) (h2:MixR w F2 v2 m2) (k1:MV s m1) (k2:MV s m2) :
  Calls Tryz.prog 23 #[.agg #[v1],.agg #[v2]] w (fk_ s m1 m2 w):=by
 have HV1:=fun W (h:Below w.heap.size w W)=>bh_ F1 v1 m1 W (h1.ext h);have HV2:=fun W (h:Below w.heap.size w W)=>bh_ F2 v2 m2 W (h2.ext h);rw [k1.val] at HV1;rw [k2.val] at HV2;have l1:=k1.len;have l2:=k2.len;obtain ⟨a1,c1,rfl⟩:=h1.form;obtain ⟨a2,c2,rfl⟩:=h2.form;have HIT:=fun W (h:Below w.heap.size w W) b1 hb1=>dv_ F1 (.slice a1 m1.length c1) m1 b1 W (h1.ext h) hb1;have hit:=hq_ HIT;have HM2:=hq_ h2;have HVT:=hq_ k1.vt;have HK2:=hq_ k2;clear h1 h2 k1 k2 HIT
 go_enter Tryz.func23,Tryz.ntmps23
 go_wp2_with (first|(go_at_call 18;first
   | ((with_reducible refine (HV1 _ xE).mono ?_);rintro e w1 ⟨rfl,hb1⟩;have b0:Bxx w1 w.heap.size #[.slice a1 m1.length c1] 28:=Bxx.below xB hb1;have b1:Bxx w1 (w.heap.size+1) #[.slice a2 m2.length c2] 28:=Bxx.below xB hb1;have b2:Bxx w1 (w.heap.size+1+1) #[.slice none 0 0] 28:=Bxx.below xB hb1;have x0:=b0.c0;have x1:=b1.c0;have hW1:Below w.heap.size w w1:=by exact xE)
   | ((with_reducible refine (HV2 _ xE).mono ?_);rintro e w2 ⟨rfl,hb2⟩;have d0:=b0.below hb2;have d1:=b1.below hb2;have d2:=b2.below hb2;have y0:=d0.c0;have y1:=d1.c0;have hW2:Below w.heap.size w w2:=by exact xE))|(go_at_call 61;refine (dn_ _ _ ⟨_,_,_,rfl⟩).mono ?_;rintro e w4 ⟨rfl,rfl⟩)|(go_at_call 68;refine (ek_ s _ _ m1 _ (hit.out _ (Ea hW2 _) w2.heap.size (Bxx.new w2 #[.slice a1 m1.length c1] 26).c0) HVT.out oq_).mono ?_;rintro e w5 hres;obtain ⟨oa,oc,k,mk,rfl,hmr,hb5,hst⟩:=hres.num;have g1:=(d1.alloc (.cells #[.slice a1 m1.length c1] 26)).below hb5;have g2:=(d2.alloc (.cells #[.slice a1 m1.length c1] 26)).below hb5;have hW5:Below w.heap.size w w5:=Et (Ea hW2 _) hb5;have s1:=g1.c0;have s2:=(g1.alloc (.cells #[.slice oa mk.length oc] 28)).c0;have HMR:=hq_ hmr;have HST:=hq_ hst;have G1:=hq_ g1;have G2:=hq_ g2;clear hmr hst g1 g2 hres))
 obtain ⟨b6,hb6⟩:∃ b6,b6=w5.heap.size:=⟨_,rfl⟩;have hg2:=G2.out.lt;have hz5:(w2.alloc (.cells #[.slice a1 m1.length c1] 26)).heap.size≤w5.heap.size:=hb5.size;have hz2:=d2.lt;have hms:MS s m1 m2 w b6 0 oa oc k mk (w5.alloc (.cells #[.slice oa mk.length oc] 28)):=by
  refine ⟨Ea hW5 _,Bxx.at hb6,G2.out.alloc _,?_,oq_,?_⟩
  ·refine (HMR.out.lt.ext (Ea (Er _) _)).mono fun b hb=>?_;obtain ⟨hb1,hb2⟩:=hb;simp at hb1;exact ⟨oq_,oq_⟩
  ·rcases HST.out with ⟨h1,h2,h3⟩|⟨h1,h2,h3,h4,m,h5,h6⟩
   ·exact .inl ⟨h1,h3,fun r hr=>⟨mk,h2,.inl ⟨(d8_ h3.vt).1 h3.val,hr⟩⟩⟩
   ·exact .inr ⟨h1,h2,h3,h4,m,h5,.inr ⟨h6,rfl⟩⟩
 rw [<- hb6];have HMS:=hq_ hms;have hm2l:m2.length≤64:=l2;clear hms hb6 hz5 hg2 hb5 hW5 hz2 d0 d1 d2 s1 s2 hb2 hb1 b0 b1 b2 x0 x1 y0 y1 HMR HST G1 G2
 go_loopw [5,7,9,10,12,14,15,16,36] (fun s5 ev _ _ _ _ _ _ idx wr=>∃ (j:Nat) (a:Option Addr) (c:Nat) (k:Int) (mk:List (List Per)),j≤m2.length∧s5=.int .i64 0∧idx=.int .i64 j∧ev=.int .i64 k∧Hid (MS s m1 m2 w b6 j a c k mk wr)) (fun _ _ _ _ _ _ _ _ idx _=>m2.length-(intOf idx).toNat)
 case atStart=>exact ⟨0,oa,oc,k,mk,oq_,rfl,rfl,rfl,HMS⟩
 case round=>
  obtain ⟨j,a,c,k,mk,hj,rfl,rfl,rfl,HM⟩:=hrel;obtain ⟨wo,hwo⟩:∃ wo,wo=wr:=⟨_,rfl⟩;subst hwo;have r1:=HM.out.obx.c0;have r2:=(HM.out.rbx.cells 0).1;have r3:=(HM.out.rbx.cells 0).2
  by_cases hjl:j<m2.length
  ·have hjI:(j:Int)<m2.length:=oq_;obtain ⟨L2,hL2,hml⟩:=HM2.out.ext HM.out.below;have hl2:L2.length=m2.length:=by rw [<- hL2,List.length_map]
   obtain ⟨b8,f8,c8,ta,tn,tc,t,he,e0,htt,hmt⟩:=hml.at (show j<L2.length by omega);injection he with q1 q2 q3
   subst q1;subst q3;clear q2;rw [hL2] at hmt;have HTT:=hq_ htt;have HMT:=hq_ hmt;clear hml htt hmt hL2 hl2;have HM':=HM.out.st;rcases HM' with ⟨rfl,hmv,hto⟩|⟨rfl,rfl,rfl,rfl,hnone⟩
   ·have hmkl:=hmv.len;have HMV:=hq_ hmv;have HTO:=hq_ hto;clear hmv hto;go_wp2_with fail
    go_loopw [5,10,12,14,15,16,47] (fun s5 lv _ _ _ _ idx wq=>∃ (i:Nat) (la:Option Addr) (lc:Nat) (Lk:List (Value × List Per)),i≤mk.length∧s5=.int .i64 0∧idx=.int .i64 i∧lv=.slice la Lk.length lc∧Hid (Below wo.heap.size wo wq)∧Hid (RowT 0 (fun k=>k≤w.heap.size+2∨k=b6) wq (.slice la Lk.length lc) Lk)∧Hid (∀ g,(Value.slice la Lk.length lc).ownBlock=some g->wo.heap.size≤g)∧Hid (Lk.map Prod.snd=minL (mk.take i) t)) (fun _ _ _ _ _ _ idx _=>mk.length-(intOf idx).toNat)
    case atStart=>exact ⟨0,none,0,[],oq_,rfl,rfl,rfl,hq_ (Below.refl _ _),hq_ (RowT.nil _ _ _),hq_ (by simp [Value.ownBlock]),hq_ rfl⟩
    case round=>
     obtain ⟨i,la,lc,Lk,hi,rfl,rfl,rfl,HBQ,HRT,HOW,HEQ⟩:=hrel
     by_cases hil:i<mk.length
     ·have hiI:(i:Int)<mk.length:=oq_;obtain ⟨L1,hL1,hml⟩:=HM.out.mix.lt;have hl1:L1.length=mk.length:=by rw [<- hL1,List.length_map]
      obtain ⟨b9,f9,c9,sa,sn,sc,u,he,e1,hut,hmu⟩:=hml.at (show i<L1.length by omega);injection he with q1 q2 q3
      subst q1;subst q3;rw [hL1] at hmu;have hvu:=HMV.out.vt u (List.mem_of_getElem? hmu);have HUT:=hq_ hut;have HU2:=fun W (h:Below wo.heap.size wo W)=>(hut.keep (a5_.below h) h.size);have e1:=Ext.cell HBQ.out e1;have HMU:=hq_ hmu;have HVU:=hq_ hvu;obtain ⟨tL,htL,htl⟩:=HTT.out;obtain ⟨_,_,he,_⟩:=htl.row.is;have htn:tn=t.length:=by injection he with _ h _;rw [h,<- htL,List.length_map]
      have htn4:tn≤4:=by rw [htn];exact HK2.out.tlen t (List.mem_of_getElem? HMT.out)
      have HTN:=hq_ htn;clear q2 hml hut hmu hvu hL1 hl1 he htn;go_wp2_with fail
      go_loopw [5,10,14,15,16,53] (fun s5 lv _ _ _ idx wq=>∃ (i3:Nat) (la:Option Addr) (lc:Nat) (Lk:List (Value × List Per)),i3≤tn∧s5=.int .i64 0∧idx=.int .i64 i3∧lv=.slice la Lk.length lc∧Hid (Below wo.heap.size wo wq)∧Hid (RowT 0 (fun k=>k≤w.heap.size+2∨k=b6) wq (.slice la Lk.length lc) Lk)∧Hid (∀ g,(Value.slice la Lk.length lc).ownBlock=some g->wo.heap.size≤g)∧Hid (Lk.map Prod.snd=minL (mk.take i) t ++ (t.take i3).map fun f=>wiP u f)) (fun _ _ _ _ _ idx _=>tn-(intOf idx).toNat)
      case atStart=>exact ⟨0,la,lc,Lk,oq_,rfl,rfl,rfl,HBQ,HRT,HOW,hq_ (by rw [HEQ.out];simp)⟩
      case round=>
       obtain ⟨i3,la,lc,Lk,hi3,rfl,rfl,rfl,HBQ2,HRT2,HOW2,HEQ2⟩:=hrel
       by_cases hi3l:i3<tn
       ·have hi3I:(i3:Int)<tn:=oq_;have htl2:=htl.keep (a5_.below HBQ2.out) HBQ2.out.size;have htLl:tL.length=tn:=by have:=congrArg List.length htL;rw [List.length_map] at this;rw [this];exact HTN.out.symm
        obtain ⟨bt,ot,x,ha,hx,hxp,_,z0,z1,z2,z3⟩:=htl2.get (show i3<tL.length by omega);subst ha;have hfx:=(HK2.out.vt t (List.mem_of_getElem? HMT.out)).fv x.p (by rw [hxp,htL];exact aa_ (by rw [<- HTN.out];exact hi3l));have hxg:t[i3]? = some x.p:=by rw [hxp,htL,List.getD_eq_getElem?_getD,List.getElem?_eq_getElem (by rw [<- HTN.out];exact hi3l)];rfl
        obtain ⟨xh,xc,xp⟩:=x;obtain ⟨ax1,nx1,cx1,ax2,nx2,cx2,rfl,rfl⟩:=hx.form;dsimp only at z0 z1 z2 z3 hfx hxg;have hown:=HRT2.out.row.lt;have hal:=Ea (Er wr) (.cells #[.slice ax1 nx1 cx1,.int .i64 xp.frm,.int .i64 xp.period,.slice ax2 nx2 cx2] 39);have HWO:=o2_ s _ F2 (.slice sa sn sc) u (.slice ax1 nx1 cx1) (.slice ax2 nx2 cx2) xp (wr.alloc (.cells #[.slice ax1 nx1 cx1,.int .i64 xp.frm,.int .i64 xp.period,.slice ax2 nx2 cx2] 39)) (HU2 wr HBQ2.out |>.ext hal) HVU.out (hx.keep (a5_.below hal)) hfx;have hb6z:=HM.out.obx.lt;have hb6l:=HM.out.lt;have hwz0:=HBQ2.out.size;have HROW:Hid (∀ (W7 W:World) (v':Value) (u':List Per),ab_ W7 (fun b=>((w.heap.size+2<b∧b≠b6)∧b<wo.heap.size)∨(wr.alloc (.cells #[.slice ax1 nx1 cx1,.int .i64 xp.frm,.int .i64 xp.period,.slice ax2 nx2 cx2] 39)).heap.size≤b) v' u'->Below W7.heap.size W7 W->ab_ W (RowF 0 (fun k=>k≤w.heap.size+2∨k=b6) (.slice la Lk.length lc)) v' u'):=hq_ fun W7 W v' u' ht h=>(ht.ext h).mono fun b hb=>by
         have hs:=World.size_alloc wr (.cells #[.slice ax1 nx1 cx1,.int .i64 xp.frm,.int .i64 xp.period,.slice ax2 nx2 cx2] 39);have ho:=fun e=>HOW2.out b e;have ho2:=fun e=>(hown b e).2;refine ⟨Nat.zero_le _,?_,fun e=>?_⟩
         ·rcases hb with ⟨⟨h1,h2⟩,h3⟩|h1
          ·rintro (h|h) <;> omega
          ·rintro (h|h) <;> omega
         ·have h4:=ho e;have h5:=ho2 e;rcases hb with ⟨⟨h1,h2⟩,h3⟩|h1 <;> omega
        have HLK:Hid (Lk.length<1000000):=hq_ (by
         have h1:=congrArg List.length HEQ2.out;rw [List.length_map,List.length_append,List.length_map,dz_,List.length_take,List.length_take] at h1;have h2:min i mk.length*t.length≤64*4:=Nat.mul_le_mul oq_ (by rw [<- HTN.out];exact htn4);have h3:=HTN.out;omega)
        have HXG:=hq_ hxg;have HAL:=hq_ hal;clear htl2 htLl hx hxp hfx hxg hal hown;go_wp2_with (first|(go_at_call 71;refine HWO.mono ?_;rintro e w7 ⟨v',rfl,ht7,hb7⟩;obtain ⟨va,vc,rfl,_⟩:=ht7.form;have hE7:=HAL.out.trans (hb7.mono HAL.out.size);have HT7:=hq_ ht7;have HE7:=hq_ hE7;have hz7:=hE7.size;clear ht7 hb7 hE7)|(at_builtin;refine de_ rq_ _ _ rq_ 0 (fun k=>k≤w.heap.size+2∨k=b6) (.slice la Lk.length lc) Lk (.slice va (wiP u xp).length vc,wiP u xp) rq_ (HRT2.out.below (Ea HE7.out _)) (HROW.out w7 _ _ _ HT7.out (Ea (Er w7) _)) _ _ rq_ sq_ tq_ (HLK.out) oq_ ?_;intro ga gc w8 hr8 hg8 hb8 hbo8;have HR8:=hq_ hr8;have HG8:=hq_ hg8;have HBO8:=hq_ hbo8;clear hr8 hg8 hb8 hbo8))
        go_roundw
        case rel=>
         have hle:(Lk ++ [(Value.slice va (wiP u xp).length vc,wiP u xp)]).length=Lk.length+1:=by simp
         refine ⟨i3+1,ga,gc,Lk ++ [(.slice va (wiP u xp).length vc,wiP u xp)],oq_,rfl,by go_num,by rw [hle],hq_ ?_,hq_ (by rw [hle];exact HR8.out),hq_ (fun g hg=>?_),hq_ ?_⟩
         ·have h1:Below wo.heap.size wo (w7.alloc (.cells #[.slice va (wiP u xp).length vc] 36)):=Et HBQ2.out (Ea HE7.out _);exact h1.grown HG8.out h1.size (fun k e=>HOW2.out k e)
         ·rw [hle] at hg;rcases HBO8.out with e|e
          ·exact HOW2.out g (e ▸ hg)
          ·rw [e] at hg;cases hg;simp;omega
         ·rw [List.map_append,HEQ2.out,List.append_assoc]
          congr 1
          obtain ⟨h1,h2⟩:=List.getElem?_eq_some_iff.1 HXG.out;rw [List.take_succ_eq_append_getElem h1,List.map_append,h2];rfl
        case measure=>simp [intOf];omega
       ·obtain rfl:i3=tn:=oq_;go_wp2_with fail
        go_roundw
        case rel=>exact ⟨i+1,la,lc,Lk,oq_,rfl,by go_num,rfl,HBQ2,HRT2,HOW2,hq_ (by
         rw [HEQ2.out,List.take_of_length_le (l:=t) (by rw [HTN.out];exact Nat.le_refl _)];obtain ⟨h1,h2⟩:=List.getElem?_eq_some_iff.1 HMU.out;unfold minL;rw [List.take_succ_eq_append_getElem h1,List.flatMap_append,h2];simp)⟩
        case measure=>simp [intOf];omega
     ·obtain rfl:i=mk.length:=oq_;have hmx:MixR wr (fun _=>True) (.slice la Lk.length lc) (minL mk t):=⟨Lk,by rw [HEQ.out,List.take_of_length_le (Nat.le_refl _)],HRT.out.mix.mono fun _ _=>trivial⟩;have hvt:∀ x∈minL mk t,aw_ s x:=fun x hx=>by
       obtain ⟨u,hu,f,hf,rfl⟩:=k1_.1 hx;have h1:=HMV.out.vt u hu;have h2:=(HK2.out.vt t (List.mem_of_getElem? HMT.out)).fv f hf;cases u with
       | nil=>exact absurd rfl h1.ne
       | cons p r=>exact ⟨by simp [wiP],fun q hq=>by
         rcases List.mem_cons.1 hq with rfl|hq
         ·exact (h1.fv p sq_).minus h2
         ·exact h1.fv q (by simp [hq]),by have:=h1.len;simpa [wiP] using this⟩
      have htl:(minL mk t).length≤256:=by rw [dz_];exact Nat.mul_le_mul hmkl (HK2.out.tlen t (List.mem_of_getElem? HMT.out))
      have hNO:=ek_ s _ _ (minL mk t) _ (dv_ (fun _=>True) (.slice la Lk.length lc) (minL mk t) wr.heap.size (wr.alloc (.cells #[.slice la Lk.length lc] 26)) (hmx.ext (Ea (Er wr) _)) (Bxx.new wr #[.slice la Lk.length lc] 26).c0) hvt oq_;have HNOH:=hq_ hNO;have hwz:=HBQ.out.size;clear hmx hvt hNO;go_wp2_with (first|(go_at_call 61;refine (dn_ _ _ ⟨_,_,_,rfl⟩).mono ?_;rintro e w4 ⟨rfl,rfl⟩)|(go_at_call 68;refine HNOH.out.mono ?_;rintro e w5 hres;obtain ⟨oa,oc,k9,mk9,rfl,hmr,hb5,hst⟩:=hres.num;have hE5:Below wo.heap.size wo w5:=Et (Ea HBQ.out _) hb5;have ho5:=HM.out.obx.below hE5;have s1:=(ho5.cells 0).1;have s2:=(ho5.cells 0).2;have HMR:=hq_ hmr;have HST:=hq_ hst;have HO5:=hq_ ho5;have HE5:=hq_ hE5;clear hmr hst hres hb5 hE5 ho5))
      go_roundw
      case rel=>
       have hbl:=HM.out.lt;have hbz:=HM.out.obx.lt;have hsz:=World.size_alloc wr (.cells #[.slice la Lk.length lc] 26);have hdr:m2.drop j=t :: m2.drop (j+1):=by
        obtain ⟨h1,h2⟩:=List.getElem?_eq_some_iff.1 HMT.out;rw [List.drop_eq_getElem_cons h1,h2]
       refine ⟨j+1,oa,oc,k9,mk9,oq_,rfl,by go_num,rfl,hq_ ⟨?_,a4_ 0 _ HO5.out,?_,?_,hbl,?_⟩⟩
       ·exact (HM.out.below.trans (HE5.out.mono HM.out.below.size)).setCell (p:=⟨b6,0,none⟩) (show w.heap.size≤b6 by omega) _
       ·exact Bxx.setNe (HM.out.rbx.below HE5.out) _ oq_
       ·exact (HMR.out.set (b:=b6) oq_).mono fun b (hb:_≤b)=>⟨oq_,oq_⟩
       ·rcases HST.out with ⟨h1,h2,h3⟩|⟨h1,h2,h3,h4,m,h5,h6⟩
        ·exact .inl ⟨h1,h3,fun r hr=>HTO.out r (by rw [hdr];exact .step h2 ((d8_ h3.vt).1 h3.val) hr)⟩
        ·exact .inr ⟨h1,h2,h3,h4,HTO.out none (by rw [hdr];exact .big h5 h6)⟩
      case measure=>simp [intOf];omega
   ·have HNO:=hq_ hnone;clear hnone;go_wp2_with fail
    have hcc:=Bxx.c0 (w:=wo.setCell ⟨w.heap.size+1+1,0,none⟩ (.slice none 0 0)) (a4_ 0 (.slice none 0 0) HM.out.rbx);exact bodyPost_ret (v:=.tuple #[.agg #[.slice none 0 0],.int .i64 2]) (by simp [results,Tryz.results23,go_sem,hcc]) rfl ⟨.slice none 0 0,none,HNO.out,HM.out.below.setCell (p:=⟨w.heap.size+1+1,0,none⟩) (by show w.heap.size≤w.heap.size+1+1;omega) _,.inr ⟨rfl,rfl⟩⟩
  ·obtain rfl:j=m2.length:=oq_;go_wp2_with fail
   have hcc:=Bxx.c0 (w:=wo.setCell ⟨w.heap.size+1+1,0,none⟩ (.slice a mk.length c)) (a4_ 0 (.slice a mk.length c) HM.out.rbx);have hbe:=HM.out.below.setCell (p:=⟨w.heap.size+1+1,0,none⟩) (by show w.heap.size≤w.heap.size+1+1;omega) (.slice a mk.length c);rcases HM.out.st with ⟨rfl,hmv,hto⟩|⟨rfl,rfl,rfl,rfl,hnone⟩
   ·refine bodyPost_ret (v:=.tuple #[.agg #[.slice a mk.length c],.int .i64 0]) (by simp [results,Tryz.results23,go_sem,hcc]) rfl ⟨.slice a mk.length c,some mk,hto _ (by rw [List.drop_of_length_le (Nat.le_refl _)];exact .nil),hbe,.inl ⟨mk,rfl,hmv,rfl,?_⟩⟩;exact (HM.out.mix.keep (fun b hb _=>Below.heap_setCell wo ⟨w.heap.size+1+1,0,none⟩ _ b (by show b≠w.heap.size+1+1;have:=hb.1;omega)) (by rw [World.size_setCell];exact Nat.le_refl _)).mono fun b hb=>by have:=hb.1;omega
   ·simp only [List.length_nil] at hcc;exact bodyPost_ret (v:=.tuple #[.agg #[.slice none 0 0],.int .i64 2]) (by simp [results,Tryz.results23,go_sem,hcc]) rfl ⟨.slice none 0 0,none,hnone,hbe,.inr ⟨rfl,rfl⟩⟩
theorem fk_.num (h:fk_ s m1 m2 w e w'):∃ (a:Option Addr) (c:Nat) (k:Int) (mk:List (List Per)),e=.returned (.tuple #[.agg #[.slice a mk.length c],.int .i64 k])∧MixR w' (fun b=>w.heap.size≤b) (.slice a mk.length c) mk∧Below w.heap.size w w'∧
  ((k=0∧b4_ m1 m2 (some mk)∧MV s mk)∨(k=2∧a=none∧c=0∧mk=[]∧b4_ m1 m2 none)):=by
 obtain ⟨v,r,hM,hb,⟨k,rfl,hmv,rfl,hm⟩|⟨rfl,rfl⟩⟩:=h
 ·obtain ⟨a,c,rfl⟩:=hm.form;exact ⟨a,c,0,k,rfl,hm,hb,.inl ⟨rfl,hM,hmv⟩⟩
 ·exact ⟨none,0,2,[],rfl,⟨[],rfl,⟨none,0,rfl,sq_,oq_,.inl rfl⟩,sq_,sq_⟩,hb,.inr ⟨rfl,rfl,rfl,rfl,hM⟩⟩
def xp_ (m1 m2:List (List Per)) (w:World) (e:Ending) (w':World):Prop:=
 ∃ (b:Bool) (r:Option (List (List Per))),b4_ m1 m2 r∧Below w.heap.size w w'∧((∃ k,r=some k∧(b=true↔∀ t∈k,bt_ t)∧e=.returned (.tuple #[.bool b,.int .i64 0]))∨(r=none∧e=.returned (.tuple #[.bool false,.int .i64 2])))
theorem y0_ (s:Int) (F1 F2:Nat->Prop) (v1 v2:Value) (m1 m2:List (List Per)) (w:World) (h1:MixR w F1 v1 m1) (h2:MixR w F2 v2 m2) (k1:MV s m1) (k2:MV s m2) :
  Calls Tryz.prog 34 #[.agg #[v1],.agg #[v2]] w (xp_ m1 m2 w):=by
 have HM:=fun W (h:Below w.heap.size w W)=>ft_ s F1 F2 v1 v2 m1 m2 W (h1.ext h) (h2.ext h) k1 k2;obtain ⟨a1,c1,rfl⟩:=h1.form;obtain ⟨a2,c2,rfl⟩:=h2.form;clear h1 h2 k1 k2
 go_enter Tryz.func34,Tryz.ntmps34
 go_wp2_with (first|(go_at_call 23;refine (HM _ (Ea (Ea (Er w) _) _)).mono ?_;rintro e w1 hres;obtain ⟨oa,oc,k,mk,rfl,hmr,hb1,hst⟩:=hres.num;have hW1:Below w.heap.size w w1:=Et (Ea (Ea (Er w) _) _) hb1;have HMR:=hq_ hmr;have HST:=hq_ hst;clear hmr hst hres hb1;rcases HST.out with ⟨rfl,hM,hmv⟩|⟨rfl,rfl,rfl,rfl,hM⟩)|(go_at_call 25;refine (ko_ _ _ mk _ (HMR.out.ext (Ea (Er w1) _))).mono ?_;rintro e w2 ⟨b,rfl,hbb,hb2⟩;have HBB:=hq_ hbb;have hW2:Below w.heap.size w w2:=Et (Ea hW1 _) hb2;clear hbb hb2))
 ·go_ret2;exact ⟨b,some mk,hM,hW2,.inl ⟨mk,rfl,⟨fun h=>(HBB.out.1 h).2,fun h=>HBB.out.2 ⟨hmv.val,h⟩⟩,rfl⟩⟩
 ·go_ret2;exact ⟨false,none,hM,Ea hW1 _,.inr ⟨rfl,rfl⟩⟩
def wq_ (s:Int) (m1 m2:List (List Per)) (w:World) (e:Ending) (w':World):Prop:=
 ∃ (a:Option Addr) (n c:Nat) (a':Option Addr) (n' c':Nat) (k:Int),e=.returned (.tuple #[.agg #[.slice a n c],.agg #[.slice a' n' c'],.int .i64 k])∧Below w.heap.size w w'∧
  ((k=0∧∃ mk nk,b4_ m1 m2 (some mk)∧b4_ m2 m1 (some nk)∧MV s mk∧MV s nk∧MixR w' (fun b=>w.heap.size≤b) (.slice a n c) mk∧MixR w' (fun b=>w.heap.size≤b) (.slice a' n' c') nk)∨(k=2∧(b4_ m1 m2 none∨((∃ mk,b4_ m1 m2 (some mk))∧b4_ m2 m1 none))))
theorem s9_ (s:Int) (F1 F2:Nat->Prop) (v1 v2:Value) (m1 m2:List (List Per)) (w:World) (h1:MixR w F1 v1 m1) (h2:MixR w F2 v2 m2) (k1:MV s m1) (k2:MV s m2) :
  Calls Tryz.prog 82 #[.agg #[v1],.agg #[v2]] w (wq_ s m1 m2 w):=by
 have HM:=fun W (h:Below w.heap.size w W)=>ft_ s F1 F2 v1 v2 m1 m2 W (h1.ext h) (h2.ext h) k1 k2;have HN:=fun W (h:Below w.heap.size w W)=>ft_ s F2 F1 v2 v1 m2 m1 W (h2.ext h) (h1.ext h) k2 k1;obtain ⟨a1,c1,rfl⟩:=h1.form;obtain ⟨a2,c2,rfl⟩:=h2.form;have HNH:=hq_ HN;clear h1 h2 k1 k2 HN
 go_enter Tryz.func82,Tryz.ntmps82
 go_wp2_with (go_at_call 23;first
  | ((with_reducible refine (HM _ (Ea (Ea (Ea (Ea (Er w) _) _) _) _)).mono ?_);rintro e w1 hres;obtain ⟨oa,oc,k,mk,rfl,hmr,hb1,hst⟩:=hres.num;have hW1:Below w.heap.size w w1:=Et (Ea (Ea (Ea (Ea (Er w) _) _) _) _) hb1;have b0:Bxx w1 w.heap.size #[.slice a1 m1.length c1] 28:=Bxx.below xB hb1;have b1:Bxx w1 (w.heap.size+1) #[.slice a2 m2.length c2] 28:=Bxx.below xB hb1;have b2:Bxx w1 (w.heap.size+1+1) #[.slice none 0 0] 28:=Bxx.below xB hb1;have b3:Bxx w1 (w.heap.size+1+1+1) #[.slice none 0 0] 28:=Bxx.below xB hb1;have x0:=(b0.alloc (.cells #[.slice oa mk.length oc] 28)).c0;have x1:=(b1.alloc (.cells #[.slice oa mk.length oc] 28)).c0;have x2:=(b2.alloc (.cells #[.slice oa mk.length oc] 28)).c0;have x3:=(b3.alloc (.cells #[.slice oa mk.length oc] 28)).c0;have y2:=((b2.alloc (.cells #[.slice oa mk.length oc] 28)).cells 0).2;have y3:=((b3.alloc (.cells #[.slice oa mk.length oc] 28)).cells 0).2;have z3:=(Bxx.alloc (Bxx.setNe b3 (k:=w.heap.size+1+1) (i:=0) (.slice none 0 0) oq_) (.cells #[.slice oa mk.length oc] 28)).c0;have z4:=(Bxx.cells (Bxx.alloc (Bxx.setNe b3 (k:=w.heap.size+1+1) (i:=0) (.slice none 0 0) oq_) (.cells #[.slice oa mk.length oc] 28)) 0).2;have B2:=hq_ b2;have B3:=hq_ b3;have HMR:=hq_ hmr;have HST:=hq_ hst;have HW1:=hq_ hW1;have hz:=b3.lt;clear hmr hst hres hb1 b0 b1 b2 b3 hW1;((rcases HST.out with ⟨rfl,hM,hmv⟩|⟨rfl,rfl,rfl,rfl,hM⟩) <;> (try simp only [List.length_nil] at x0 x1 x2 x3 y2 y3 z3 z4)))
  | (refine (HNH.out _ (Ea HW1.out _)).mono ?_;rintro e w2 hres;obtain ⟨oa2,oc2,k2,nk,rfl,hnr,hb2,hst2⟩:=hres.num;have HNR:=hq_ hnr;have HST2:=hq_ hst2;have HB2:=hq_ hb2;have HB7:=hq_ ((Bxx.new w1 #[.slice oa mk.length oc] 28).below hb2);have HX2:=hq_ ((B2.out.alloc (.cells #[.slice oa mk.length oc] 28)).below hb2);have HX3:=hq_ ((B3.out.alloc (.cells #[.slice oa mk.length oc] 28)).below hb2);have hz2:=hb2.size;clear hnr hst2 hres hb2))
 ·have e7:=(Bxx.drewB (HB7.out.alloc (.cells #[.slice oa2 nk.length oc2] 28))).c0;have e9:=(Bxx.drewB (Bxx.new w2 #[.slice oa2 nk.length oc2] 28)).c0;have p2:=HX2.out.alloc (.cells #[.slice oa2 nk.length oc2] 28);have p3:=HX3.out.alloc (.cells #[.slice oa2 nk.length oc2] 28);have q3:=Bxx.setNe p3 (k:=w.heap.size+1+1) (i:=0) (.slice oa mk.length oc) oq_;have e2:=p2.c0;have e3:=q3.c0;have g2:=(p2.cells 0).2;have g3:=(q3.cells 0).2;have e3':=p3.c0;have g3':=(p3.cells 0).2;have hc3:=Bxx.c0 (a4_ 0 (.slice oa2 nk.length oc2) q3);have hc2:=Bxx.c0 (Bxx.setNe (b:=w.heap.size+1+1) (a4_ 0 (.slice oa mk.length oc) p2) (k:=w.heap.size+1+1+1) (i:=0) (.slice oa2 nk.length oc2) oq_);have hl1:=HB7.out.lt
  go_region
  go_wp2
  have E:Below w.heap.size w w2:=Et HW1.out (Et (Ea (Er w1) _) HB2.out);have E':=((Ea E (.cells #[.slice oa2 nk.length oc2] 28)).setCell (p:=⟨w.heap.size+1+1,0,none⟩) (show w.heap.size≤w.heap.size+1+1 by omega) (.slice oa mk.length oc)).setCell (p:=⟨w.heap.size+1+1+1,0,none⟩) (show w.heap.size≤w.heap.size+1+1+1 by omega) (.slice oa2 nk.length oc2);have hm:=HMR.out;have hn:=HNR.out;simp only [World.size_alloc] at hm hn;have hm2:=(MixR.ext hm (Et (Ea (Er w1) _) HB2.out));have hm3:=MixR.set (i:=0) (u:=.slice oa2 nk.length oc2) (MixR.set (i:=0) (u:=.slice oa mk.length oc) (MixR.ext hm2 (Ea (Er w2) (.cells #[.slice oa2 nk.length oc2] 28))) (b:=w.heap.size+1+1) oq_) (b:=w.heap.size+1+1+1) oq_;have hn3:=MixR.set (i:=0) (u:=.slice oa2 nk.length oc2) (MixR.set (i:=0) (u:=.slice oa mk.length oc) (MixR.ext hn (Ea (Er w2) (.cells #[.slice oa2 nk.length oc2] 28))) (b:=w.heap.size+1+1) oq_) (b:=w.heap.size+1+1+1) oq_;refine bodyPost_ret (v:=.tuple #[.agg #[.slice oa mk.length oc],.agg #[.slice oa2 nk.length oc2],.int .i64 k2]) (by simp [results,Tryz.results82,go_sem,hc2,hc3]) rfl ⟨oa,mk.length,oc,oa2,nk.length,oc2,k2,rfl,Ed E',?_⟩;rcases HST2.out with ⟨rfl,hN,hnv⟩|⟨rfl,rfl,rfl,rfl,hN⟩
  ·exact .inl ⟨rfl,mk,nk,hM,hN,hmv,hnv,MixR.mono (MixR.ext hm3 (Ed (Er _))) (fun b hb=>oq_),MixR.mono (MixR.ext hn3 (Ed (Er _))) (fun b hb=>oq_)⟩
  ·exact .inr ⟨rfl,.inr ⟨⟨mk,hM⟩,hN⟩⟩
 ·have h2:=B2.out.alloc (.cells #[.slice none 0 0] 28);have h3:=B3.out.alloc (.cells #[.slice none 0 0] 28);have hc2:=Bxx.c0 (Bxx.setNe (b:=w.heap.size+1+1) (a4_ 0 (.slice none 0 0) h2) (k:=w.heap.size+1+1+1) (i:=0) (.slice none 0 0) oq_);have hc3:=Bxx.c0 (b:=w.heap.size+1+1+1) (a4_ 0 (.slice none 0 0) (Bxx.setNe h3 (k:=w.heap.size+1+1) (i:=0) (.slice none 0 0) oq_));exact bodyPost_ret (v:=.tuple #[.agg #[.slice none 0 0],.agg #[.slice none 0 0],.int .i64 2]) (by simp [results,Tryz.results82,go_sem,hc2,hc3]) rfl ⟨none,0,0,none,0,0,2,rfl,((Ea HW1.out _).setCell (p:=⟨w.heap.size+1+1,0,none⟩) (show w.heap.size≤w.heap.size+1+1 by omega) _).setCell (p:=⟨w.heap.size+1+1+1,0,none⟩) (show w.heap.size≤w.heap.size+1+1+1 by omega) _,.inr ⟨rfl,.inl hM⟩⟩
def x2_ (m1 m2:List (List Per)):Option (List (List Per) × List (List Per))->Prop
 | some (mk,nk)=>b4_ m1 m2 (some mk)∧b4_ m2 m1 (some nk)
 | none=>b4_ m1 m2 none∨((∃ mk,b4_ m1 m2 (some mk))∧b4_ m2 m1 none)
def xk_ (m1 m2:List (List Per)) (w:World) (e:Ending) (w':World):Prop:=
 ∃ (b:Bool) (r:Option (List (List Per) × List (List Per))),x2_ m1 m2 r∧Below w.heap.size w w'∧
  ((∃ mk nk,r=some (mk,nk)∧(b=true↔(∀ t∈mk,bt_ t)∧∀ t∈nk,bt_ t)∧e=.returned (.tuple #[.bool b,.int .i64 0]))∨(r=none∧e=.returned (.tuple #[.bool false,.int .i64 2])))
theorem yj_ (s:Int) (F1 F2:Nat->Prop) (v1 v2:Value) (m1 m2:List (List Per)) (w:World) (h1:MixR w F1 v1 m1) (h2:MixR w F2 v2 m2) (k1:MV s m1) (k2:MV s m2) :
  Calls Tryz.prog 36 #[.agg #[v1],.agg #[v2]] w (xk_ m1 m2 w):=by
 have HM:=fun W (h:Below w.heap.size w W)=>s9_ s F1 F2 v1 v2 m1 m2 W (h1.ext h) (h2.ext h) k1 k2;obtain ⟨a1,c1,rfl⟩:=h1.form;obtain ⟨a2,c2,rfl⟩:=h2.form;clear h1 h2 k1 k2
 go_enter Tryz.func36,Tryz.ntmps36
 go_wp2_with (first|(go_at_call 82;(refine (HM _ (Ea (Ea (Er w) _) _)).mono ?_;rintro e w1 hres;obtain ⟨a,n,c,a',n',c',k,rfl,hb1,hst⟩:=hres;have hW1:Below w.heap.size w w1:=Et (Ea (Ea (Er w) _) _) hb1;have HW1:=hq_ hW1;have HST:=hq_ hst;clear hW1 hst hb1;rcases HST.out with ⟨rfl,mk,nk,hM,hN,hmv,hnv,hmr,hnr⟩|⟨rfl,hF⟩))|(go_at_call 25;(with_reducible refine (ko_ _ (.slice a n c) mk _ (hmr.ext (Ea (Ea (Er w1) _) _))).mono ?_);rintro e w2 ⟨b,rfl,hbb,hb2⟩;have HBB:=hq_ hbb;have HB2:=hq_ hb2;have b7:Bxx ((w1.alloc (.cells #[.slice a n c] 28)).alloc (.cells #[.slice a' n' c'] 28)) (w1.heap.size+1) #[.slice a' n' c'] 28:=Bxx.at (by rw [World.size_alloc]);have x7:w2.cell? ⟨w1.heap.size+1,0,none⟩=some (.slice a' n' c'):=(b7.below hb2).c0;clear b7;clear hbb hb2;rcases b)|(go_at_call 25;(with_reducible refine (ko_ _ (.slice a' n' c') nk _ (hnr.ext (Et (Ea (Ea (Er w1) _) _) HB2.out))).mono ?_);rintro e w3 ⟨b2,rfl,hbb2,hb3⟩;have HBB2:=hq_ hbb2;have HB3:=hq_ hb3;clear hbb2 hb3))
 ·go_ret2;exact ⟨false,some (mk,nk),⟨hM,hN⟩,Et (Ea (Ea HW1.out _) _) HB2.out,.inl ⟨mk,nk,rfl,⟨fun h=>by simp at h,fun h=>HBB.out.2 ⟨hmv.val,h.1⟩⟩,rfl⟩⟩
 ·go_ret2;exact ⟨b2,some (mk,nk),⟨hM,hN⟩,Et (Et (Ea (Ea HW1.out _) _) HB2.out) HB3.out,.inl ⟨mk,nk,rfl,⟨fun h=>⟨(HBB.out.1 trivial).2,(HBB2.out.1 h).2⟩,fun h=>HBB2.out.2 ⟨hnv.val,h.2⟩⟩,rfl⟩⟩
 ·go_ret2;exact ⟨false,none,hF,Ea (Ea HW1.out _) _,.inr ⟨rfl,rfl⟩⟩
theorem wn_ {n:Nat} (h:ab_ W (fun b=>n≤b) v t) (hn:n≤W.heap.size) :
  MixR (W.alloc (.cells #[v] 36)) (fun b=>n≤b) (.slice (some ⟨W.heap.size,0,none⟩) 1 1) [t]:=by
 have hb:=Bxx.new W #[v] 36;refine ⟨[(v,t)],rfl,⟨_,1,rfl,sq_,oq_,.inr ⟨W.heap.size,0,rfl,hn,hb.lt,fun i u hi=>?_⟩⟩,sq_,fun x hx=>?_⟩
 ·cases i with
  | zero=>rw [show u=v by simpa using hi.symm];exact hb.c0
  | succ i=>simp at hi
 ·rw [List.mem_singleton] at hx;subst hx;exact h.ext (Ea (Er W) _)
noncomputable def ofM (p:Per):List (List Per):=if fe_ (canonC p.mem) then [] else [[canonC p.mem]]
def x9_ (m:List (List Per)) (w:World) (e:Ending) (w':World):Prop:=∃ (a:Option Addr) (c:Nat),e=.returned (.agg #[.slice a m.length c])∧MixR w' (fun b=>w.heap.size≤b) (.slice a m.length c) m∧Below w.heap.size w w'
theorem qb_ (s:Int) (h c:Value) (p:Per) (w:World) (hp:a8_ w h c p) (hv:FV s p) :
  Calls Tryz.prog 54 #[perV h c p.frm p.period] w (x9_ (ofM p) w):=by
 have HC:=fun W (hb:Below w.heap.size w W)=>nq_ s h c p W (hp.ext hb) hv;simp only [perV] at HC
 go_enter Tryz.func54,Tryz.ntmps54
 go_wp2_with (first|(go_at_call 97;((with_reducible refine (HC _ (Ea (Ea (Er w) _) _)).mono ?_);rintro e w1 ⟨h',c',rfl,ho,hb1⟩;obtain ⟨xa,xn,xc,ya,yn,yc,rfl,rfl⟩:=(ho.pv (hv.canon).2).form;have ho2:=hq_ (ho.pv (hv.canon).2);have hW1:Below w.heap.size w w1:=Et (Ea (Ea (Er w) _) _) hb1;have HO:=hq_ ho;have B2:=hq_ (show Bxx w1 (w.heap.size+1) #[.slice none 0 0] 28 from Bxx.below xB hb1);clear ho hb1))|(go_at_call 98;(with_reducible refine (sf_ (.slice xa xn xc) (.slice ya yn yc) (canonC p.mem) _ (HO.out.is.ext (Ea (Er w1) _))).mono ?_);rintro e w2 ⟨rfl,hb2⟩;have HB2:=hq_ hb2;have X3:=((Bxx.new w1 #[.slice xa xn xc,.int .i64 (canonC p.mem).frm,.int .i64 (canonC p.mem).period,.slice ya yn yc] 39).below hb2);have X2:=((B2.out.alloc (.cells #[.slice xa xn xc,.int .i64 (canonC p.mem).frm,.int .i64 (canonC p.mem).period,.slice ya yn yc] 39)).below hb2);have e2:=X2.c0;have f2:=(X2.cells 0).2;have e3:=(X3.cells 0).1;have e4:=(X3.cells 1).1;have e5:=(X3.cells 2).1;have e6:=(X3.cells 3).1;have X2':=(X2.alloc (.cells #[.slice xa xn xc,.int .i64 (canonC p.mem).frm,.int .i64 (canonC p.mem).period,.slice ya yn yc] 39)).alloc (.cells #[.slice (some { block:=w2.heap.size,off:=0 }) 1 1] 36);have e7:=X2'.c0;have e8:=(X2'.cells 0).2;clear hb2;obtain ⟨eb,heb⟩:∃ eb,eb=fe_ (canonC p.mem):=⟨_,rfl⟩;rw [<- heb];have HEB:=hq_ heb;clear heb;rcases eb))
 ·have hc2:=Bxx.c0 (a4_ 0 (.slice (some ⟨w2.heap.size+1,0,none⟩) 1 1) X2');have E1:Below w.heap.size w ((((w2.alloc (.cells #[.slice xa xn xc,.int .i64 (canonC p.mem).frm,.int .i64 (canonC p.mem).period,.slice ya yn yc] 39)).alloc (.cells #[.slice (some { block:=w2.heap.size,off:=0 }) 1 1] 36)).setCell ⟨w.heap.size+1,0,none⟩ (.slice (some ⟨w2.heap.size+1,0,none⟩) 1 1))):=(Ea (Ea (Et (Ea hW1 _) HB2.out) _) _).setCell (p:=⟨w.heap.size+1,0,none⟩) (show w.heap.size≤w.heap.size+1 by omega) _;have h0:=B2.out.lt;have hz:w1.heap.size+1≤w2.heap.size:=by have:=HB2.out.size;rwa [World.size_alloc] at this
  have h1:=(ho2.out.keep (a5_.below (Ea (Er w1) _))).keep (a5_.below HB2.out);have h2:=og_ (n:=w.heap.size+1) (W:=w2) (h1.mono fun b hb=>⟨by simp only [World.size_alloc] at hb;omega,by simp only [World.size_alloc] at hb;omega⟩) (by have:=HB2.out.size;simp only [World.size_alloc] at this;omega);have h3:=wn_ (n:=w.heap.size+1+1) (h2.mono (G:=fun b=>w.heap.size+1+1≤b) fun b hb=>by have:=HB2.out.size;simp only [World.size_alloc] at this;have hb':w.heap.size+1≤b∧(b≠w.heap.size+1∨b=w2.heap.size):=hb;show w.heap.size+1+1≤b;omega) (by rw [World.size_alloc];omega);have h4:=MixR.set (i:=0) (u:=.slice (some ⟨w2.heap.size+1,0,none⟩) 1 1) h3 (b:=w.heap.size+1) oq_;have e:ofM p=[[canonC p.mem]]:=by rw [ofM,<- HEB.out];rfl
  rw [World.size_alloc] at h4;refine bodyPost_ret (v:=.agg #[.slice (some ⟨w2.heap.size+1,0,none⟩) 1 1]) (by simp [results,Tryz.results54,go_sem,hc2]) rfl ⟨_,1,by rw [e];rfl,?_,E1⟩;rw [e];exact h4.mono fun b hb=>oq_
 ·have hc2:=Bxx.c0 (a4_ 0 (.slice none 0 0) X2);have E1:Below w.heap.size w (w2.setCell ⟨w.heap.size+1,0,none⟩ (.slice none 0 0)):=(Et (Ea hW1 _) HB2.out).setCell (p:=⟨w.heap.size+1,0,none⟩) (show w.heap.size≤w.heap.size+1 by omega) _;have e:ofM p=[]:=by rw [ofM,<- HEB.out];rfl
  refine bodyPost_ret (v:=.agg #[.slice none 0 0]) (by simp [results,Tryz.results54,go_sem,hc2]) rfl ⟨none,0,by rw [e];rfl,?_,E1⟩;rw [e];exact ⟨[],rfl,⟨none,0,rfl,sq_,oq_,.inl rfl⟩,sq_,sq_⟩
end Go.Proofs.YthjnojbeimchdaaGreat
namespace Kal
structure InvS (a m x y u v:Int) (U V:Int):Prop where
 x1:1≤x
 xy:x<y
 ym:y≤m
 gu:m∣a*u-x
 gv:m∣a*v-y
 cop:Int.gcd x y=1
 u1:-U≤u∧u≤U
 v1:-V≤v∧v≤V
 pos:0≤U∧0≤V
 le:x*V+y*U≤m
theorem InvS.start {m:Int} (ha:0≤a) (hm:2≤m) (h:Int.gcd a m=1):InvS a m (a % m) m 1 0 1 0:=by
 have h0:=Int.emod_nonneg a (show m≠0 by omega);have h1:=Int.emod_lt_of_pos a (show 0<m by omega);have hg:Int.gcd (a % m) m=1:=by rw [ha_ ha oq_];exact h
 refine ⟨?_,h1,oq_,?_,⟨-1,oq_⟩,hg,oq_,oq_,oq_,oq_⟩
 ·rcases Int.lt_or_le 0 (a % m) with h2|h2
  ·omega
  ·have e:a % m=0:=oq_;rw [e,Int.gcd_zero_left] at hg;omega
 ·rw [Int.mul_one];exact bq_ (Int.emod_emod_of_dvd a (Int.dvd_refl m)).symm
theorem InvS.step {m u v U V:Int} (h:InvS a m x y u v U V) (hx:1<x) :
  InvS a m (y-y / x*x) x (v-y / x*u) u (V+y / x*U) U∧0≤y / x∧y / x≤y∧y / x*x≤y∧0≤y / x*x∧-m≤y / x*u∧y / x*u≤m∧-m≤v-y / x*u∧v-y / x*u≤m:=by
 obtain ⟨x1,xy,ym,gu,gv,cop,u1,v1,pos,le⟩:=h;have e0:=Int.emod_nonneg y (show x≠0 by omega);have e1:=Int.emod_lt_of_pos y (show 0<x by omega);have em:y-y / x*x=y % x:=by have:=Int.emod_def y x;rw [Int.mul_comm] at this;omega
 have q0:0≤y / x:=Int.ediv_nonneg oq_ oq_;have qy:y / x≤y:=Int.ediv_le_self x oq_;have hr1:1≤y % x:=by
  rcases Int.lt_or_le 0 (y % x) with h2|h2
  ·omega
  ·have e:y % x=0:=oq_;have hd:x∣y:=Int.dvd_of_emod_eq_zero e;have h3:((Int.gcd x y:Nat):Int)=x:=(Int.gcd_eq_left_iff_dvd oq_).2 hd;omega
 generalize y / x=q at *;have a1:q*u≤q*U:=Int.mul_le_mul_of_nonneg_left u1.2 q0;have a2:q*(-U)≤q*u:=Int.mul_le_mul_of_nonneg_left u1.1 q0;rw [Int.mul_neg] at a2;have a3:q*U≤y*U:=Int.mul_le_mul_of_nonneg_right qy pos.1;have a4:0≤q*U:=Int.mul_nonneg q0 pos.1;have a5:V≤x*V:=by
  have:=Int.mul_le_mul_of_nonneg_right x1 pos.2;omega
 have a6:0≤x*V:=Int.mul_nonneg oq_ pos.2;have a7:0≤q*x:=Int.mul_nonneg q0 oq_;refine ⟨⟨oq_,oq_,oq_,?_,gu,?_,oq_,u1,oq_,?_⟩,q0,qy,oq_,a7,oq_,oq_,oq_,oq_⟩
 ·have:a*(v-q*u)-(y-q*x)=(a*v-y)-q*(a*u-x):=by
   rw [Int.mul_sub,Int.mul_sub,Int.mul_left_comm q a u];omega
  rw [this];exact Int.dvd_sub gv (Int.dvd_trans gu (Int.dvd_mul_left _ _))
 ·rw [em,ha_ oq_ oq_,Int.gcd_comm];exact cop
 ·have b1:(y-q*x)*U=y*U-q*x*U:=Int.sub_mul _ _ _;have b2:x*(V+q*U)=x*V+q*x*U:=by rw [Int.mul_add,<- Int.mul_assoc,Int.mul_comm x q]
  rw [b1,b2];omega
theorem InvS.fin {m u v U V:Int} (h:InvS a m x y u v U V) (hx:¬ 1<x) (hm:2≤m) :
  -m≤u∧u≤m∧u.tmod m % m=u % m∧-m<u.tmod m∧u.tmod m<m∧m∣a*(u % m)-1:=by
 obtain ⟨x1,xy,ym,gu,gv,cop,u1,v1,pos,le⟩:=h;obtain rfl:x=1:=oq_;have a1:U≤y*U:=by
  have:=Int.mul_le_mul_of_nonneg_right (show (1:Int)≤y by omega) pos.1;omega
 have t1:=Int.tmod_lt_of_pos u (show 0<m by omega);have t2:=Int.lt_tmod_of_pos u (show 0<m by omega);refine ⟨oq_,oq_,?_,t2,t1,?_⟩
 ·have hd:m∣u.tmod m-u:=by
   have:=Int.mul_tdiv_add_tmod u m;exact ⟨-(u.tdiv m),by rw [Int.mul_neg];omega⟩
  exact bp_ hd
 ·have hd:m∣u % m-u:=bq_ (Int.emod_emod_of_dvd u (Int.dvd_refl m));have e:a*(u % m)-1=a*(u % m-u)+(a*u-1):=by rw [Int.mul_sub];omega
  rw [e];exact Int.dvd_add (Int.dvd_trans hd (Int.dvd_mul_left _ _)) gu
def xf_ (a m r:Int):Prop:=0≤r∧r<m∧m∣a*r-1
theorem pv_ {step:Int} (h:(r-at_) % ((Int.gcd step P:Nat):Int)≠0):cp_ at_ step r P 0 0 false:=by
 refine .inr ⟨rfl,rfl,rfl,fun x ⟨h1,h2⟩=>h ?_⟩;have d1:((Int.gcd step P:Nat):Int)∣x-at_:=Int.dvd_trans (Int.gcd_dvd_left ..) (bq_ h1);have d2:((Int.gcd step P:Nat):Int)∣x-r:=Int.dvd_trans (Int.gcd_dvd_right ..) (bq_ h2);have:r-at_=(x-at_)-(x-r):=oq_;rw [this];exact Int.emod_eq_zero_of_dvd (Int.dvd_sub d1 d2)
theorem uh_ {step:Int} (hs:1≤step) (h0:0≤at_) (h1:at_<step) (hP:1≤P) (h:(r-at_) % ((Int.gcd step P:Nat):Int)=0) (hn:P / ((Int.gcd step P:Nat):Int)=1):cp_ at_ step r P at_ step true:=by
 have hd:((Int.gcd step P:Nat):Int)∣P:=Int.gcd_dvd_right ..;have e:((Int.gcd step P:Nat):Int)=P:=by
  have:=Int.ediv_mul_cancel hd;rw [hn] at this;omega
 have el:lcmI step P=step:=by
  unfold lcmI;rw [e];exact Int.ediv_mul_cancel (by have:((Int.gcd step P:Nat):Int)∣step:=Int.gcd_dvd_left ..;rwa [e] at this)
 refine .inl ⟨rfl,el.symm,h0,by rw [el];exact h1,rfl,?_⟩;rw [e] at h;exact (bp_ (Int.dvd_of_emod_eq_zero h)).symm
theorem u9_ {step inv:Int} (hs:1≤step) (h0:0≤at_) (h1:at_<step) (hP:1≤P) {g:Int} (hg:g=((Int.gcd step P:Nat):Int)) (hn:n=P / g) (h:(r-at_) % g=0) (hi:n∣step / g*inv-1) :
  cp_ at_ step r P (at_+((r-at_) / g % n*inv) % n*step) (step*n) true∧lcmI step P=step*n:=by
 have hgl:g∣step:=by rw [hg];exact Int.gcd_dvd_left ..
 have hgr:g∣P:=by rw [hg];exact Int.gcd_dvd_right ..
 have hg1:1≤g:=by rw [hg];have:=Int.gcd_pos_of_ne_zero_left P (show step≠0 by omega);omega
 have el:lcmI step P=step*n:=by
  unfold lcmI;rw [<- hg,hn];have a1:=Int.ediv_mul_cancel hgl;have a2:=Int.ediv_mul_cancel hgr
  calc step / g*P=step / g*(P / g*g):=by rw [a2]
   _=(step / g*g)*(P / g):=by rw [Int.mul_comm (P / g) g,<- Int.mul_assoc]
   _=step*(P / g):=by rw [a1]
 have hn1:1≤n:=by
  rw [hn];have a2:=Int.ediv_mul_cancel hgr;rcases Int.lt_or_le 0 (P / g) with h2|h2
  ·omega
  ·have:=Int.mul_le_mul_of_nonneg_right h2 (show 0≤g by omega);omega
 refine ⟨.inl ⟨rfl,el.symm,?_⟩,el⟩;generalize hk:((r-at_) / g % n*inv) % n=k;have k0:0≤k:=by rw [<- hk];exact Int.emod_nonneg _ oq_
 have k1:k<n:=by rw [<- hk];exact Int.emod_lt_of_pos _ oq_
 have b0:0≤k*step:=Int.mul_nonneg k0 oq_;refine ⟨oq_,?_,?_,?_⟩
 ·rw [el];have:(k+1)*step≤n*step:=Int.mul_le_mul_of_nonneg_right oq_ oq_;rw [Int.add_mul,Int.one_mul,Int.mul_comm n step] at this;omega
 ·rw [Int.add_mul_emod_self_right]
 ·apply bp_;obtain ⟨w,hw⟩:=Int.dvd_of_emod_eq_zero h;have ew:(r-at_) / g=w:=by rw [hw];exact Int.mul_ediv_cancel_left _ oq_
  rw [ew] at hk;have a1:=Int.ediv_mul_cancel hgl;generalize step / g=t at *;have d1:n∣k-w*inv:=by
   have e1:k % n=(w*inv) % n:=by rw [<- hk,Int.emod_emod_of_dvd _ (Int.dvd_refl n),Int.mul_emod,Int.emod_emod_of_dvd _ (Int.dvd_refl n),<- Int.mul_emod]
   exact bq_ e1
  have d2:n∣k*t-w:=by
   have e:k*t-w=(k-w*inv)*t+w*(t*inv-1):=by
    rw [Int.sub_mul,Int.mul_sub,Int.mul_one,Int.mul_comm t inv,<- Int.mul_assoc];omega
   rw [e];exact Int.dvd_add (Int.dvd_trans d1 (Int.dvd_mul_right _ _)) (Int.dvd_trans hi (Int.dvd_mul_left _ _))
  obtain ⟨z,hz⟩:=d2;refine ⟨z,?_⟩;have e:at_+k*step-r=(k*t-w)*g:=by
   rw [Int.sub_mul,Int.mul_assoc,a1,Int.mul_comm w g];omega
  rw [e,hz];have a2:=Int.ediv_mul_cancel hgr;rw [<- hn] at a2
  calc n*z*g=n*g*z:=by rw [Int.mul_assoc,Int.mul_comm z g,<- Int.mul_assoc]
   _=P*z:=by rw [a2]
theorem w0_ {b:Int} (h:1≤a):Int.gcd (a / ((Int.gcd a b:Nat):Int)) (b / ((Int.gcd a b:Nat):Int))=1:=
 Int.gcd_ediv_gcd_ediv_gcd (Int.gcd_pos_of_ne_zero_left b oq_)
theorem cp_.unique {step a' s':Int} (hs:1≤step) (hP:1≤P) (h:cp_ at_ step r P a s b) (g:cp_ at_ step r P a' s' b'):a=a'∧s=s'∧b=b':=by
 rcases h with ⟨rfl,rfl,h⟩|⟨rfl,rfl,rfl,h⟩ <;> rcases g with ⟨rfl,rfl,g⟩|⟨rfl,rfl,rfl,g⟩
 ·exact ⟨(fi_ hs hP h).symm.trans (fi_ hs hP g),rfl,rfl⟩
 ·exact absurd ⟨h.2.2.1,h.2.2.2⟩ (g a)
 ·exact absurd ⟨g.2.2.1,g.2.2.2⟩ (h a')
 ·exact ⟨rfl,rfl,rfl⟩
theorem tu_ {step:Int} (hs:1≤step) (hP:1≤P):∃ a s b,cp_ at_ step r P a s b:=by
 by_cases h:(r-at_) % ((Int.gcd step P:Nat):Int)=0
 ·refine ⟨_,_,true,.inl ⟨rfl,rfl,eg_ hs hP ?_⟩⟩;exact (bp_ (Int.dvd_of_emod_eq_zero h)).symm
 ·exact ⟨0,0,false,pv_ h⟩
theorem cp_.bounds {step:Int} (hs:1≤step) (hP:1≤P) (hd:step∣27720) (hp:P∣27720) (h:cp_ at_ step r P a s true):0≤a∧a<s∧s∣27720:=by
 rcases h with ⟨_,rfl,h⟩|⟨h,_⟩
 ·exact ⟨h.1,h.2.1,nb_ hs hP hd hp⟩
 ·cases h
def fs_ (S:Int->Prop) (p:Per) (t:List Per) (at_ step:Int) (j:Nat) (x:Int):Prop:=S x∨∃ c∈p.cycle.take j,x % p.period=resP p c∧ClsS t at_ step x
theorem qw_ {S:Int->Prop} {step:Int}:fs_ S p t at_ step 0 x↔S x:=by simp [fs_]
theorem tw_ {S:Int->Prop} {step:Int}:fs_ S p t at_ step p.cycle.length x↔S x∨ClsS (p :: t) at_ step x:=by
 unfold fs_;rw [List.take_length,t0_]
theorem fp_ (h:j<l.length) {c:Int}:c∈l.take (j+1)↔c∈l.take j∨c=l.getD j 0:=by
 rw [List.take_succ_eq_append_getElem h,List.mem_append,List.mem_singleton,List.getD_eq_getElem?_getD,List.getElem?_eq_getElem h];rfl
theorem qq_ {S:Int->Prop} {step:Int} (hw:p.WF) (hj:j<p.cycle.length) (hs:1≤step) (h0:0≤at_) (h1:at_<step) {a2 s2:Int}
  (h:cp_ at_ step (resP p (p.cycle.getD j 0)) p.period a2 s2 b):fs_ S p t at_ step (j+1) x↔fs_ S p t at_ step j x∨(b=true∧ClsS t a2 s2 x):=by
 unfold fs_;rw [<- h.cls hw hs h0 h1,or_assoc];refine or_congr Iff.rfl ⟨?_,?_⟩
 ·rintro ⟨c,hc,h2⟩;rcases (fp_ hj).1 hc with hc|rfl
  ·exact .inl ⟨c,hc,h2⟩
  ·exact .inr h2
 ·rintro (⟨c,hc,h2⟩|h2)
  ·exact ⟨c,(fp_ hj).2 (.inl hc),h2⟩
  ·exact ⟨_,(fp_ hj).2 (.inr rfl),h2⟩
theorem hm_ {step:Int}:ClsS [] at_ step x↔x % step=at_:=by simp [ClsS]
theorem t8_ {l:Int} (hw:∀ p∈t,p.WF) (hf:ba_ t≤f) (h:cn_ F (fun x=>False∨ClsS t 0 1 x) f l b):ax_ F (tmem t) f (if b=true then l else 0) b:=
 (h.congr (T:=tmem t) fun x hx=>by rw [false_or,ri_ hw oq_]).next
theorem rw_ (hne:t≠[]) (hw:∀ p∈t,p.WF) (h:bs_ (cq_ t t.length 0) f n b):q6_ t f n b:=
 h.congr fun x _=>(mi_ hne hw).symm
theorem sy_ {L:List (List Per)}:mmem (L ++ [t]) n↔mmem L n∨tmem t n:=by rw [p5_];unfold mmem;simp
theorem s8_:ax_ F (mmem []) f 0 false:=.inr ⟨rfl,rfl,fun _ _ _ h=>k7_ h⟩
def FarI:Int:=1152921504606846976
def perE:Per:=⟨[],0,1,[]⟩
theorem nh_ (n:Int):¬ perE.mem n:=by
 unfold Per.mem perE;simp
theorem ul_ (n:Int):(ev 9 12).mem n↔tmem [ev 1 4,ev 3 6] n:=by rw [hw_,bv_]
theorem ni_:aq_ perE [[ev 1 4,ev 3 6]]=ev 9 12:=by
 show orP perE (andP (ev 1 4) (ev 3 6))=_;refine d7_ ((gk_ oq_ oq_).congr fun n=>?_);have h:=(x1.fac.and x2.fac).1.mem n;show (ev 9 12).mem n↔perE.mem n∨(andP (ev 1 4) (ev 3 6)).mem n;rw [h,ul_];unfold tmem;simp only [List.forall_mem_cons,List.not_mem_nil];exact ⟨fun h=>.inr ⟨h.1,h.2.1⟩,fun h=>h.elim (fun h=>absurd h (nh_ n)) fun h=>⟨h.1,h.2,fun x hx=>absurd hx sq_⟩⟩
theorem kh_ (n:Int):mmem [[ev 1 4,ev 3 6]] n↔0≤n∧n % 12=9:=by
 rw [lu_,hw_];exact ⟨fun h=>h.elim id fun h=>absurd h k7_,.inl⟩
theorem vc_:ax_ FarI (mmem [[ev 1 4,ev 3 6]]) 0 9 true:=
 .inl ⟨rfl,oq_,dq_,(kh_ 9).2 oq_,fun x h1 h2 h=>by have:=(kh_ x).1 h;omega⟩
theorem tj_:ax_ FarI (mmem (ao_ [[ev 1 4]] [[ev 3 6]])) 10 21 true:=
 .inl ⟨rfl,oq_,dq_,(kh_ 21).2 oq_,fun x h1 h2 h=>by have:=(kh_ x).1 h;omega⟩
theorem tl_:ax_ FarI (mmem ([[(⟨[],5,2,[1]⟩:Per)]] ++ [])) 0 6 true:=
 .inl ⟨rfl,oq_,dq_,(m4_ 6).2 oq_,fun x h1 h2 h=>by have:=(m4_ x).1 h;omega⟩
theorem up_:recT [ev 1 4,ev 3 6]:=⟨9,dq_,(hw_ 9).2 oq_⟩
theorem ok_two (h:t.length≤4) (h':u.length≤4):cv_ [t,u]:=⟨sq_,fun x hx=>by
 simp at hx;rcases hx with rfl|rfl
 ·exact h
 ·exact h'⟩
end Kal
end
namespace Go.Proofs.YthjnojbeimchdaaGreat
open Go.RowKit Go.Maps Kal
theorem j6_ {s:Int} (h:0≤s):FV s perE:=by
 refine ⟨⟨⟨dq_,dq_,⟨by simp [perE,Rise],by simp [perE]⟩,⟨by simp [perE,Rise],by simp [perE]⟩⟩,fun n hn=>absurd hn (nh_ n),by show (0:Int)≤s+9;omega,dq_⟩,dq_⟩
def q8_ (q:Per) (w:World) (e:Ending) (w':World):Prop:=∃ h c,e=.returned (.tuple #[perV h c q.frm q.period,.int .i64 0])∧a8_ w' h c q∧Below w.heap.size w w'
structure JS (s:Int) (w:World) (b4:Nat) (q:Per) (a1:Option Addr) (n1 c1:Nat) (a2:Option Addr) (n2 c2:Nat) (W:World):Prop where
 below:Below w.heap.size w W
 rbx:Bxx W (w.heap.size+1) #[.slice none 0 0,.int .i64 0,.int .i64 0,.slice none 0 0] 39
 abx:Bxx W b4 #[.slice a1 n1 c1,.int .i64 q.frm,.int .i64 q.period,.slice a2 n2 c2] 39
 pv:PVok W (fun b=>w.heap.size+1<b∧b≠b4) ⟨.slice a1 n1 c1,.slice a2 n2 c2,q⟩
 lt:w.heap.size+1<b4
 fv:FV s q
structure JP (s:Int) (w:World) (b4 b7:Nat) (q:Per) (a1:Option Addr) (n1 c1:Nat) (a2:Option Addr) (n2 c2:Nat) (r:Per) (e1:Option Addr) (f1 g1:Nat) (e2:Option Addr) (f2 g2:Nat) (W:World):Prop where
 js:JS s w b4 q a1 n1 c1 a2 n2 c2 W
 px:Bxx W b7 #[.slice e1 f1 g1,.int .i64 r.frm,.int .i64 r.period,.slice e2 f2 g2] 39
 pva:PVok W (fun b=>w.heap.size+1<b∧b≠b4∧b<b7) ⟨.slice a1 n1 c1,.slice a2 n2 c2,q⟩
 pvr:PVok W (fun b=>b<w.heap.size∨(w.heap.size+1<b∧b≠b4∧b≠b7)) ⟨.slice e1 f1 g1,.slice e2 f2 g2,r⟩
 lt7:b4<b7
 fvr:FV s r
theorem ex_ {W:World} {b k:Nat} (x y z u:Value) (h:k≠b):((((W.setCell ⟨b,0,none⟩ x).setCell ⟨b,1,none⟩ y).setCell ⟨b,2,none⟩ z).setCell ⟨b,3,none⟩ u).heap[k]? = W.heap[k]?:=by
 rw [Below.heap_setCell _ ⟨b,3,none⟩ u k h,Below.heap_setCell _ ⟨b,2,none⟩ z k h,Below.heap_setCell _ ⟨b,1,none⟩ y k h,Below.heap_setCell _ ⟨b,0,none⟩ x k h]
theorem gt_ {B b:Nat} {w W:World} (hb:Below B w W) (h:B≤b) (x y z u:Value):Below B w ((((W.setCell ⟨b,0,none⟩ x).setCell ⟨b,1,none⟩ y).setCell ⟨b,2,none⟩ z).setCell ⟨b,3,none⟩ u):=
 hb.trans (ei_ (i:=0) W h x y z u)
section
variable {s:Int} {w W W':World} {b4 b7:Nat} {q r:Per} {a1 a2 e1 e2:Option Addr} {n1 c1 n2 c2 f1 g1 f2 g2:Nat}
theorem JS.ext (h:JS s w b4 q a1 n1 c1 a2 n2 c2 W) (hb:Below W.heap.size W W'):JS s w b4 q a1 n1 c1 a2 n2 c2 W':=
 ⟨Et h.below hb,h.rbx.below hb,h.abx.below hb,h.pv.keep (a5_.below hb),h.lt,h.fv⟩
theorem JP.ext (h:JP s w b4 b7 q a1 n1 c1 a2 n2 c2 r e1 f1 g1 e2 f2 g2 W) (hb:Below W.heap.size W W'):JP s w b4 b7 q a1 n1 c1 a2 n2 c2 r e1 f1 g1 e2 f2 g2 W':=
 ⟨h.js.ext hb,h.px.below hb,h.pva.keep (a5_.below hb),h.pvr.keep (a5_.below hb),h.lt7,h.fvr⟩
theorem JP.store {r':Per} {e1' e2':Option Addr} {f1' g1' f2' g2':Nat} (h:JP s w b4 b7 q a1 n1 c1 a2 n2 c2 r e1 f1 g1 e2 f2 g2 W) (hp:PVok W (fun b=>w.heap.size+1<b∧b≠b4∧b≠b7) ⟨.slice e1' f1' g1',.slice e2' f2' g2',r'⟩) (hv:FV s r') :
  JP s w b4 b7 q a1 n1 c1 a2 n2 c2 r' e1' f1' g1' e2' f2' g2' ((((W.setCell ⟨b7,0,none⟩ (.slice e1' f1' g1')).setCell ⟨b7,1,none⟩ (.int .i64 r'.frm)).setCell ⟨b7,2,none⟩ (.int .i64 r'.period)).setCell ⟨b7,3,none⟩ (.slice e2' f2' g2')):=by
 have l4:=h.js.lt;have l7:=h.lt7;have hn:∀ k,k≠b7->_:=fun k hk=>ex_ (W:=W) (.slice e1' f1' g1') (.int .i64 r'.frm) (.int .i64 r'.period) (.slice e2' f2' g2') hk;have hkeep:∀ {F:Nat->Prop},(∀ b,F b->b≠b7)->a5_ F W _:=fun hF b hb _=>hn b (hF b hb);have hpa:=h.pva.keep (hkeep fun b hb=>oq_);exact ⟨⟨gt_ h.js.below oq_ _ _ _ _,(hn _ oq_).trans h.js.rbx,(hn _ oq_).trans h.js.abx,hpa.mono fun b hb=>⟨hb.1,hb.2.1⟩,l4,h.js.fv⟩,dg_ h.px,hpa,
  (hp.keep (hkeep fun b hb=>hb.2.2)).mono fun b hb=>.inr hb,l7,hv⟩
theorem JS.store {r':Per} {e1' e2':Option Addr} {f1' g1' f2' g2':Nat} (h:JS s w b4 q a1 n1 c1 a2 n2 c2 W) (hp:PVok W (fun b=>w.heap.size+1<b∧b≠b4) ⟨.slice e1' f1' g1',.slice e2' f2' g2',r'⟩) (hv:FV s r') :
  JS s w b4 r' e1' f1' g1' e2' f2' g2' ((((W.setCell ⟨b4,0,none⟩ (.slice e1' f1' g1')).setCell ⟨b4,1,none⟩ (.int .i64 r'.frm)).setCell ⟨b4,2,none⟩ (.int .i64 r'.period)).setCell ⟨b4,3,none⟩ (.slice e2' f2' g2')):=by
 have l4:=h.lt;have hn:∀ k,k≠b4->_:=fun k hk=>ex_ (W:=W) (.slice e1' f1' g1') (.int .i64 r'.frm) (.int .i64 r'.period) (.slice e2' f2' g2') hk;exact ⟨gt_ h.below oq_ _ _ _ _,(hn _ oq_).trans h.rbx,dg_ h.abx,hp.keep fun b hb _=>hn b hb.2,l4,hv⟩
end
theorem i8_ (s:Int) (F:Nat->Prop) (v:Value) (m:List (List Per)) (w:World) (hm:MixR w F v m) (k1:MV s m) (hs:0≤s) :
  Calls Tryz.prog 24 #[.agg #[v]] w (q8_ (aq_ perE m) w):=by
 have HV1:=fun W (h:Below w.heap.size w W)=>bh_ F v m W (hm.ext h);rw [k1.val] at HV1;have l1:=k1.len;obtain ⟨a1,c1,rfl⟩:=hm.form;have HM1:=hq_ hm;have HK1:=hq_ k1;clear hm k1
 go_enter Tryz.func24,Tryz.ntmps24
 go_wp2_with ((go_at_call 18;((with_reducible refine (HV1 _ (Ea (Ea (Er w) _) _)).mono ?_);rintro e w1 ⟨rfl,hb1⟩;have b0:Bxx w1 w.heap.size #[.slice a1 m.length c1] 28:=Bxx.below xB hb1;have b1:Bxx w1 (w.heap.size+1) #[.slice none 0 0,.int .i64 0,.int .i64 0,.slice none 0 0] 39:=Bxx.below xB hb1;have x0:=(b0.alloc (.cells #[.slice none 0 0,.int .i64 0,.int .i64 1,.slice none 0 0] 39)).c0;have hW1:Below w.heap.size w w1:=Et (Ea (Ea (Er w) _) _) hb1;have HB0:=hq_ b0;have HB1:=hq_ b1;clear b0 b1)))
 obtain ⟨b4,hb4⟩:∃ b4,b4=w1.heap.size:=⟨_,rfl⟩;have hz1:=HB1.out.lt;have hjs:JS s w b4 (aq_ perE (m.take 0)) none 0 0 none 0 0 (w1.alloc (.cells #[.slice none 0 0,.int .i64 0,.int .i64 1,.slice none 0 0] 39)):=by
  refine ⟨Ea hW1 _,HB1.out.alloc _,Bxx.at hb4,⟨⟨Ints.nil _,Ints.nil _⟩,show InI (0:Int) from ⟨dq_,dq_⟩,show InI (1:Int) from ⟨dq_,dq_⟩,fun h=>absurd rfl h,fun h=>absurd rfl h⟩,oq_,j6_ hs⟩
 rw [<- hb4];have HJS:=hq_ hjs;clear hjs hb1 hW1 x0 hb4
 go_loopw [3,6,7,9,10,11,12,13,22] (fun s3 _ _ _ _ _ _ _ idx wr=>∃ (j:Nat) (x1:Option Addr) (y1 z1:Nat) (x2:Option Addr) (y2 z2:Nat),j≤m.length∧s3=.int .i64 0∧idx=.int .i64 j∧Hid (JS s w b4 (aq_ perE (m.take j)) x1 y1 z1 x2 y2 z2 wr)) (fun _ _ _ _ _ _ _ _ idx _=>m.length-(intOf idx).toNat)
 case atStart=>exact ⟨0,none,0,0,none,0,0,oq_,rfl,rfl,HJS⟩
 case round=>
  obtain ⟨j,x1,y1,z1,x2,y2,z2,hj,rfl,rfl,HM⟩:=hrel;obtain ⟨wo,hwo⟩:∃ wo,wo=wr:=⟨_,rfl⟩;subst hwo;have r1:=(HM.out.abx.cells 0).1;have r2:=(HM.out.abx.cells 1).1;have r3:=(HM.out.abx.cells 2).1;have r4:=(HM.out.abx.cells 3).1
  by_cases hjl:j<m.length
  ·have hjI:(j:Int)<m.length:=oq_;obtain ⟨L2,hL2,hml⟩:=HM1.out.lt;have hl2:L2.length=m.length:=by rw [<- hL2,List.length_map]
   obtain ⟨b8,f8,c8,ta,tn,tc,t,he,e0,htt,hmt⟩:=hml.at (show j<L2.length by omega);injection he with q1 q2 q3
   subst q1;subst q3;clear q2;rw [hL2] at hmt;have hvt:=HK1.out.vt t (List.mem_of_getElem? hmt);obtain ⟨tL,htL,htl⟩:=htt;obtain ⟨_,_,he,_⟩:=htl.row.is;have htn:tn=tL.length:=by injection he with _ h _
   have ht0:0<tL.length:=by have:=List.length_pos_iff.2 hvt.ne;rw [<- htL,List.length_map] at this;exact this
   have ht4:tL.length≤4:=by have:=HK1.out.tlen t (List.mem_of_getElem? hmt);rw [<- htL,List.length_map] at this;exact this
   obtain ⟨bt,ot,x,ha,hx,hxp,_,u0,u1,u2,u3⟩:=htl.get ht0;subst ha;subst htn;have htc:tL.length≤tc:=by obtain ⟨_,_,he,h1,_⟩:=htl.row.is;injection he with _ _ h3;rw [h3];exact h1
   obtain ⟨xh,xc,xp⟩:=x;obtain ⟨ax1,nx1,cx1,ax2,nx2,cx2,rfl,rfl⟩:=hx.form;dsimp only at u0 u1 u2 u3;have e0:=Ext.cell HM.out.below e0;have u0:=Ext.cell HM.out.below u0;have u1:=Ext.cell HM.out.below u1;have u2:=Ext.cell HM.out.below u2;have u3:=Ext.cell HM.out.below u3;have HTL:=hq_ htl;have HX:=hq_ hx;have HXP:=hq_ hxp;have HMT:=hq_ hmt;have HVT:=hq_ hvt;have HTLE:=hq_ htL;simp only [Nat.zero_mul,Nat.add_zero] at u0 u1 u2 u3;clear hml htl hx hxp hmt hvt hL2 hl2 htL he;obtain ⟨b7,hb7⟩:∃ b7,b7=wo.heap.size:=⟨_,rfl⟩;have HJ:Hid (JP s w b4 b7 (aq_ perE (m.take j)) x1 y1 z1 x2 y2 z2 (andL xp ((tL.map PV.p).tail.take 0)) ax1 nx1 cx1 ax2 nx2 cx2 (wo.alloc (.cells #[.slice ax1 nx1 cx1,.int .i64 xp.frm,.int .i64 xp.period,.slice ax2 nx2 cx2] 39))):=by
    have hab:=HM.out.abx.lt;refine hq_ ⟨HM.out.ext (Ea (Er _) _),Bxx.at hb7,((HM.out.pv.lt).keep (a5_.below (Ea (Er _) _))).mono fun b hb=>?_,(HX.out.keep (a5_.below (Ea HM.out.below _))).mono fun b hb=>.inl hb.2,oq_,HVT.out.fv _ ?_⟩
    ·exact ⟨hb.1.1,hb.1.2,oq_⟩
    ·rw [show (andL xp ((tL.map PV.p).tail.take 0))=xp from rfl,show xp=_ from HXP.out,HTLE.out];exact aa_ (List.length_pos_iff.2 HVT.out.ne)
   go_wp2_with fail
   ·rw [<- hb7];clear hb7;have h1l:tL.length=1:=oq_
    go_loopw [3,9,10,11,32] (fun s3 _ _ _ idx wq=>∃ (i:Nat) (y1':Option Addr) (f1 g1:Nat) (y2':Option Addr) (f2 g2:Nat),i≤tL.length-1∧s3=.int .i64 0∧idx=.int .i64 i∧Hid (JP s w b4 b7 (aq_ perE (m.take j)) x1 y1 z1 x2 y2 z2 (andL xp ((tL.map PV.p).tail.take i)) y1' f1 g1 y2' f2 g2 wq)) (fun _ _ _ _ idx _=>tL.length-1-(intOf idx).toNat)
    case atStart=>exact ⟨0,ax1,nx1,cx1,ax2,nx2,cx2,oq_,rfl,rfl,HJ⟩
    case round=>
     obtain ⟨i,y1',f1,g1,y2',f2,g2,hi,rfl,rfl,HP⟩:=hrel;obtain rfl:i=0:=oq_;have a0:=(HP.out.js.abx.cells 0).1;have a1_:=(HP.out.js.abx.cells 1).1;have a2_:=(HP.out.js.abx.cells 2).1;have a3_:=(HP.out.js.abx.cells 3).1;have p0:=(HP.out.px.cells 0).1;have p1:=(HP.out.px.cells 1).1;have p2:=(HP.out.px.cells 2).1;have p3:=(HP.out.px.cells 3).1;have HOR:=rr_ s _ _ _ _ _ _ _ HP.out.js.pv.is HP.out.pvr.is HP.out.js.fv HP.out.fvr;simp only [perV] at HOR;have e8:andL xp ((tL.map PV.p).tail.take (0))=f6_ t:=by
      rw [List.take_of_length_le (by simp;try omega),<- HTLE.out];cases hLL:tL.map PV.p with
      | nil=>rw [List.map_eq_nil_iff] at hLL;rw [hLL] at ht0;exact absurd ht0 sq_
      | cons p r=>rw [hLL] at HXP;rw [show xp=p from HXP.out];rfl
     rw [e8] at HOR;have HE8:=hq_ e8;have hvr:FV s (orP (aq_ perE (m.take j)) (f6_ t)):=HP.out.js.fv.or (e8 ▸ HP.out.fvr);have HVR:=hq_ hvr;generalize hq8:orP (aq_ perE (m.take j)) (f6_ t)=q8 at *;clear hvr;rw [e8] at p1 p2;clear e8;go_wp2_with (go_at_call 73;((with_reducible refine HOR.mono ?_);rintro e w7 ⟨h',c',rfl,ho,hb7'⟩;obtain ⟨ya,yn,yc,za,zn,zc,rfl,rfl⟩:=(ho.pv HVR.out).form;have HP7:=hq_ (HP.out.ext hb7');have HO:=hq_ (ho.pv HVR.out);have HB7:=hq_ hb7';have p7:=HP7.out.js.abx.alloc (.cells #[.slice ya yn yc,.int .i64 q8.frm,.int .i64 q8.period,.slice za zn zc] 39);have c0:=p7.cells 0;have c1':=p7.cells 1;have c2':=p7.cells 2;have c3:=p7.cells 3;obtain ⟨c00,c01⟩:=c0;obtain ⟨c10,c11⟩:=c1';obtain ⟨c20,c21⟩:=c2';obtain ⟨c30,c31⟩:=c3;clear ho hb7' p7))
     go_roundw
     case rel=>
      refine ⟨j+1,ya,yn,yc,za,zn,zc,oq_,rfl,by go_num,hq_ ?_⟩;have l4:=HP7.out.js.lt;have hl4:=HP.out.js.abx.lt;have hal:Below w7.heap.size w7 (w7.alloc (.cells #[.slice ya yn yc,.int .i64 q8.frm,.int .i64 q8.period,.slice za zn zc] 39)):=Ea (Er _) _;have hpv:PVok w7 (fun b=>w.heap.size+1<b∧b≠b4) ⟨.slice ya yn yc,.slice za zn zc,q8⟩:=HO.out.mono fun b hb=>by have h1:=hb.1;exact ⟨oq_,oq_⟩
      have h9:=(HP7.out.js.ext hal).store (hpv.keep (a5_.below hal)) HVR.out;have e9:aq_ perE (m.take (j+1))=q8:=by
       obtain ⟨h1,h2⟩:=List.getElem?_eq_some_iff.1 HMT.out;unfold aq_ at hq8 ⊢;rw [List.take_succ_eq_append_getElem h1,List.foldl_append,h2];exact hq8
      rw [e9];exact h9
     case measure=>simp [intOf];omega
   ·rw [<- hb7];clear hb7
    go_loopw [3,9,10,11,32] (fun s3 _ _ _ idx wq=>∃ (i:Nat) (y1':Option Addr) (f1 g1:Nat) (y2':Option Addr) (f2 g2:Nat),i≤tL.length-1∧s3=.int .i64 0∧idx=.int .i64 i∧Hid (JP s w b4 b7 (aq_ perE (m.take j)) x1 y1 z1 x2 y2 z2 (andL xp ((tL.map PV.p).tail.take i)) y1' f1 g1 y2' f2 g2 wq)) (fun _ _ _ _ idx _=>tL.length-1-(intOf idx).toNat)
    case atStart=>exact ⟨0,ax1,nx1,cx1,ax2,nx2,cx2,oq_,rfl,rfl,HJ⟩
    case round=>
     obtain ⟨i,y1',f1,g1,y2',f2,g2,hi,rfl,rfl,HP⟩:=hrel
     by_cases hil:i<tL.length-1
     ·have hiI:(i:Int)<(tL.length-1:Nat):=oq_;have htl2:=HTL.out.keep (a5_.below HP.out.js.below) HP.out.js.below.size;obtain ⟨bt',ot',z,ha,hz,hzp,_,k0,k1,k2,k3⟩:=htl2.get (show i+1<tL.length by omega);cases ha;obtain ⟨zh,zc,zp⟩:=z;obtain ⟨az1,nz1,cz1,az2,nz2,cz2,rfl,rfl⟩:=hz.form;dsimp only at k0 k1 k2 k3 hzp;have hfz:FV s zp:=by rw [hzp,HTLE.out];exact HVT.out.fv _ (aa_ (by rw [<- HTLE.out,List.length_map];omega))
      rw [show ot+(i+1)*4=ot+4+i*4 by omega] at k0 k1 k2 k3;have p0:=((HP.out.px.alloc (.cells #[.slice az1 nz1 cz1,.int .i64 zp.frm,.int .i64 zp.period,.slice az2 nz2 cz2] 39)).cells 0).1;have p1:=((HP.out.px.alloc (.cells #[.slice az1 nz1 cz1,.int .i64 zp.frm,.int .i64 zp.period,.slice az2 nz2 cz2] 39)).cells 1).1;have p2:=((HP.out.px.alloc (.cells #[.slice az1 nz1 cz1,.int .i64 zp.frm,.int .i64 zp.period,.slice az2 nz2 cz2] 39)).cells 2).1;have p3:=((HP.out.px.alloc (.cells #[.slice az1 nz1 cz1,.int .i64 zp.frm,.int .i64 zp.period,.slice az2 nz2 cz2] 39)).cells 3).1;have HAND:=fun W (hb:Below wr.heap.size wr W)=>tb_ s _ _ _ _ _ zp W (HP.out.pvr.is.ext hb) (hz.is.ext hb) HP.out.fvr hfz;simp only [perV] at HAND;have HZP:=hq_ hzp;clear htl2 hz hzp;go_wp2_with (go_at_call 72;((with_reducible refine (HAND _ (Ea (Er wr) _)).mono ?_);rintro e w7 ⟨h',c',rfl,ho,hb7'⟩;have hvr:=HP.out.fvr.and hfz;obtain ⟨ya,yn,yc,za,zn,zc,rfl,rfl⟩:=(ho.pv hvr).form;have HP7:=hq_ (HP.out.ext (Et (Ea (Er wr) _) hb7'));have HO:=hq_ (ho.pv hvr);have HVR:=hq_ hvr;have HB7:=hq_ hb7';have p7:=HP7.out.px.alloc (.cells #[.slice ya yn yc,.int .i64 (andP (andL xp ((tL.map PV.p).tail.take i)) zp).frm,.int .i64 (andP (andL xp ((tL.map PV.p).tail.take i)) zp).period,.slice za zn zc] 39);have c0:=p7.cells 0;have c1':=p7.cells 1;have c2':=p7.cells 2;have c3:=p7.cells 3;obtain ⟨c00,c01⟩:=c0;obtain ⟨c10,c11⟩:=c1';obtain ⟨c20,c21⟩:=c2';obtain ⟨c30,c31⟩:=c3;clear ho hvr hb7' p7))
      go_roundw
      case rel=>
       refine ⟨i+1,ya,yn,yc,za,zn,zc,oq_,rfl,by go_num,hq_ ?_⟩;have l4:=HP7.out.js.lt;have l7:=HP7.out.lt7;have hl7:=HP.out.px.lt;have hpv:PVok w7 (fun b=>w.heap.size+1<b∧b≠b4∧b≠b7) ⟨.slice ya yn yc,.slice za zn zc,andP (andL xp ((tL.map PV.p).tail.take i)) zp⟩:=HO.out.mono fun b hb=>by have h1:=hb.1;rw [World.size_alloc] at h1;exact ⟨oq_,oq_,oq_⟩
       have hal:Below w7.heap.size w7 (w7.alloc (.cells #[.slice ya yn yc,.int .i64 (andP (andL xp ((tL.map PV.p).tail.take i)) zp).frm,.int .i64 (andP (andL xp ((tL.map PV.p).tail.take i)) zp).period,.slice za zn zc] 39)):=Ea (Er _) _;have h9:=(HP7.out.ext hal).store (hpv.keep (a5_.below hal)) HVR.out;have e9:andL xp ((tL.map PV.p).tail.take (i+1))=andP (andL xp ((tL.map PV.p).tail.take i)) zp:=by
        have hi2:i<(tL.map PV.p).tail.length:=by simp;omega
        unfold andL;rw [List.take_succ_eq_append_getElem hi2,List.foldl_append];have:(tL.map PV.p).tail[i]=zp:=by rw [HZP.out,List.getD_eq_getElem?_getD,List.getElem?_eq_getElem tq_];simp
        rw [this];rfl
       rw [e9];exact h9
      case measure=>simp [intOf];omega
     ·obtain rfl:i=tL.length-1:=oq_;have a0:=(HP.out.js.abx.cells 0).1;have a1_:=(HP.out.js.abx.cells 1).1;have a2_:=(HP.out.js.abx.cells 2).1;have a3_:=(HP.out.js.abx.cells 3).1;have p0:=(HP.out.px.cells 0).1;have p1:=(HP.out.px.cells 1).1;have p2:=(HP.out.px.cells 2).1;have p3:=(HP.out.px.cells 3).1;have HOR:=rr_ s _ _ _ _ _ _ _ HP.out.js.pv.is HP.out.pvr.is HP.out.js.fv HP.out.fvr;simp only [perV] at HOR;have e8:andL xp ((tL.map PV.p).tail.take (tL.length-1))=f6_ t:=by
       rw [List.take_of_length_le (by simp;try omega),<- HTLE.out];cases hLL:tL.map PV.p with
       | nil=>rw [List.map_eq_nil_iff] at hLL;rw [hLL] at ht0;exact absurd ht0 sq_
       | cons p r=>rw [hLL] at HXP;rw [show xp=p from HXP.out];rfl
      rw [e8] at HOR;have HE8:=hq_ e8;have hvr:FV s (orP (aq_ perE (m.take j)) (f6_ t)):=HP.out.js.fv.or (e8 ▸ HP.out.fvr);have HVR:=hq_ hvr;generalize hq8:orP (aq_ perE (m.take j)) (f6_ t)=q8 at *;clear hvr;rw [e8] at p1 p2;clear e8;go_wp2_with (go_at_call 73;((with_reducible refine HOR.mono ?_);rintro e w7 ⟨h',c',rfl,ho,hb7'⟩;obtain ⟨ya,yn,yc,za,zn,zc,rfl,rfl⟩:=(ho.pv HVR.out).form;have HP7:=hq_ (HP.out.ext hb7');have HO:=hq_ (ho.pv HVR.out);have HB7:=hq_ hb7';have p7:=HP7.out.js.abx.alloc (.cells #[.slice ya yn yc,.int .i64 q8.frm,.int .i64 q8.period,.slice za zn zc] 39);have c0:=p7.cells 0;have c1':=p7.cells 1;have c2':=p7.cells 2;have c3:=p7.cells 3;obtain ⟨c00,c01⟩:=c0;obtain ⟨c10,c11⟩:=c1';obtain ⟨c20,c21⟩:=c2';obtain ⟨c30,c31⟩:=c3;clear ho hb7' p7))
      go_roundw
      case rel=>
       refine ⟨j+1,ya,yn,yc,za,zn,zc,oq_,rfl,by go_num,hq_ ?_⟩;have l4:=HP7.out.js.lt;have hl4:=HP.out.js.abx.lt;have hal:Below w7.heap.size w7 (w7.alloc (.cells #[.slice ya yn yc,.int .i64 q8.frm,.int .i64 q8.period,.slice za zn zc] 39)):=Ea (Er _) _;have hpv:PVok w7 (fun b=>w.heap.size+1<b∧b≠b4) ⟨.slice ya yn yc,.slice za zn zc,q8⟩:=HO.out.mono fun b hb=>by have h1:=hb.1;exact ⟨oq_,oq_⟩
       have h9:=(HP7.out.js.ext hal).store (hpv.keep (a5_.below hal)) HVR.out;have e9:aq_ perE (m.take (j+1))=q8:=by
        obtain ⟨h1,h2⟩:=List.getElem?_eq_some_iff.1 HMT.out;unfold aq_ at hq8 ⊢;rw [List.take_succ_eq_append_getElem h1,List.foldl_append,h2];exact hq8
       rw [e9];exact h9
      case measure=>simp [intOf];omega
  ·obtain rfl:j=m.length:=oq_;have s0:=HM.out.rbx.cells 0;have s1:=HM.out.rbx.cells 1;have s2:=HM.out.rbx.cells 2;have s3:=HM.out.rbx.cells 3;go_wp2_with fail
   have hr0:Bxx ((((wo.setCell ⟨w.heap.size+1,0,none⟩ (.slice x1 y1 z1)).setCell ⟨w.heap.size+1,1,none⟩ (.int .i64 (aq_ perE m).frm)).setCell ⟨w.heap.size+1,2,none⟩ (.int .i64 (aq_ perE m).period)).setCell ⟨w.heap.size+1,3,none⟩ (.slice x2 y2 z2)) (w.heap.size+1) #[.slice x1 y1 z1,.int .i64 (aq_ perE m).frm,.int .i64 (aq_ perE m).period,.slice x2 y2 z2] 39:=dg_ HM.out.rbx;have k0:=(hr0.cells 0).1;have k1:=(hr0.cells 1).1;have k2:=(hr0.cells 2).1;have k3:=(hr0.cells 3).1;have hpv:=HM.out.pv;rw [List.take_of_length_le (Nat.le_refl _)] at hpv;refine bodyPost_ret (v:=.tuple #[perV (.slice x1 y1 z1) (.slice x2 y2 z2) (aq_ perE m).frm (aq_ perE m).period,.int .i64 0]) (by simp [results,Tryz.results24,go_sem,k0,k1,k2,k3]) rfl ⟨_,_,rfl,?_,gt_ HM.out.below oq_ _ _ _ _⟩;exact (hpv.keep (fun b hb _=>ex_ _ _ _ _ (by have:=hb.1;omega))).is
end Go.Proofs.YthjnojbeimchdaaGreat
section
variable {b b':Bool}{e:Go.Ending}{F P a at_ d f hi lo n r s x y:Int}{T m m1 m2:List (List Kal.Per)}{X l:List Int}{L:List Go.Proofs.YthjnojbeimchdaaGreat.PV}{t u:List Kal.Per}{B base c cap g j k ob:Nat}{o:Go.Oper}{p:Kal.Per}{h hv v:Go.Value}{W W' W2 w w':Go.World}
namespace Go.Proofs.YthjnojbeimchdaaGreat
open Go.RowKit Go.Maps Kal
theorem q3_:∀ {t:List Per} {p:Per},FV s p->(∀ q∈t,FV s q)->FV s (andL p t)
 | [],p,h,_=>h
 | q :: t,p,h,g=>q3_ (t:=t) (p:=andP p q) (h.and (g q sq_)) fun r hr=>g r (by simp [hr])
theorem u2_ (h:aw_ s t):FV s (f6_ t):=by
 cases t with
 | nil=>exact absurd rfl h.ne
 | cons p r=>exact q3_ (h.fv p sq_) fun q hq=>h.fv q (by simp [hq])
theorem kb_:∀ {m:List (List Per)} {all:Per},FV s all->(∀ t∈m,aw_ s t)->FV s (aq_ all m)
 | [],all,h,_=>h
 | t :: m,all,h,g=>kb_ (m:=m) (all:=orP all (f6_ t)) (h.or (u2_ (g t sq_))) fun r hr=>g r (by simp [hr])
theorem a8_.sl {c:Value} (hp:a8_ W h c p):∃ a1 n1 c1 a2 n2 c2,h=.slice a1 n1 c1∧c=.slice a2 n2 c2:=by
 obtain ⟨⟨a1,c1,e1,_⟩,_⟩:=hp.hd;obtain ⟨⟨a2,c2,e2,_⟩,_⟩:=hp.cy;exact ⟨a1,_,c1,a2,_,c2,e1,e2⟩
theorem qc_ (s:Int) (F:Nat->Prop) (v:Value) (m:List (List Per)) (a b:Int) (w:World) (h1:MixR w F v m) (k1:MV s m) (hs:0≤s) (h0:0≤a) (hab:a≤b) (hb:b≤1099511627776) :
  Calls Tryz.prog 15 #[.agg #[v],.int .i64 a,.int .i64 b] w fun e w'=>e=.returned (.tuple #[.int .i64 (ay_ (aq_ perE m) b-ay_ (aq_ perE m) a),.int .i64 0])∧Below w.heap.size w w':=by
 have HV1:=fun W (h:Below w.heap.size w W)=>bh_ F v m W (h1.ext h);rw [k1.val] at HV1;have HJ:=fun W (h:Below w.heap.size w W)=>i8_ s F v m W (h1.ext h) k1 hs;have hfv:=kb_ (j6_ hs) k1.vt;have HFV:=hq_ hfv;obtain ⟨a1,c1,rfl⟩:=h1.form;clear h1 k1 hfv;generalize aq_ perE m=q at *
 go_enter Tryz.func15,Tryz.ntmps15
 go_wp2_with (first|(go_at_call 18;refine (HV1 _ (Ea (Er w) _)).mono ?_;rintro e w1 ⟨rfl,hb1⟩;have b0:Bxx w1 w.heap.size #[.slice a1 m.length c1] 28:=Bxx.below xB hb1;have x0:=b0.c0;have hW1:Below w.heap.size w w1:=Et (Ea (Er w) _) hb1)|(go_at_call 24;refine (HJ _ hW1).mono ?_;rintro e w2 ⟨h,c,rfl,hp,hb2⟩;obtain ⟨xa,xn,xc,ya,yn,yc,rfl,rfl⟩:=hp.sl;have HP:=hq_ hp;have hW2:Below w.heap.size w w2:=Et hW1 hb2;clear hp)|(go_at_call 42;((with_reducible refine (ud_ (.slice xa xn xc) (.slice ya yn yc) q a b _ (HP.out.ext (Ea (Er w2) _)) HFV.out.valid h0 hab hb).mono ?_);rintro e w3 ⟨rfl,hb3⟩)))
 go_ret2;exact ⟨rfl,Et (Ea hW2 _) hb3⟩
theorem y6_ (F:Nat->Prop) (v:Value) (m:List (List Per)) (a b:Int) (w:World) (h1:MixR w F v m) (hbad:bj_ m=false∨a<0∨b<a∨1099511627776<b) :
  Calls Tryz.prog 15 #[.agg #[v],.int .i64 a,.int .i64 b] w fun e w'=>e=.returned (.tuple #[.int .i64 0,.int .i64 1])∧Below w.heap.size w w':=by
 have HV1:=fun W (h:Below w.heap.size w W)=>bh_ F v m W (h1.ext h);obtain ⟨a1,c1,rfl⟩:=h1.form;clear h1;cases hq:bj_ m with
 | false=>
  rw [hq] at HV1;clear hbad hq
  go_enter Tryz.func15,Tryz.ntmps15
  go_wp2_with (go_at_call 18;refine (HV1 _ (Ea (Er w) _)).mono ?_;rintro e w1 ⟨rfl,hb1⟩;have b0:Bxx w1 w.heap.size #[.slice a1 m.length c1] 28:=Bxx.below xB hb1;have x0:=b0.c0;have hW1:Below w.heap.size w w1:=Et (Ea (Er w) _) hb1)
  go_ret2;exact ⟨rfl,hW1⟩
 | true=>
  rw [hq] at HV1;have hbad:a<0∨b<a∨1099511627776<b:=hbad.resolve_left (by rw [hq];decide);clear hq
  by_cases g1:a<0
  ·clear hbad
   go_enter Tryz.func15,Tryz.ntmps15
   go_wp2_with (go_at_call 18;refine (HV1 _ (Ea (Er w) _)).mono ?_;rintro e w1 ⟨rfl,hb1⟩;have b0:Bxx w1 w.heap.size #[.slice a1 m.length c1] 28:=Bxx.below xB hb1;have x0:=b0.c0;have hW1:Below w.heap.size w w1:=Et (Ea (Er w) _) hb1)
   go_ret2;exact ⟨rfl,hW1⟩
  ·by_cases g2:b<a
   ·clear hbad
    go_enter Tryz.func15,Tryz.ntmps15
    go_wp2_with (go_at_call 18;refine (HV1 _ (Ea (Er w) _)).mono ?_;rintro e w1 ⟨rfl,hb1⟩;have b0:Bxx w1 w.heap.size #[.slice a1 m.length c1] 28:=Bxx.below xB hb1;have x0:=b0.c0;have hW1:Below w.heap.size w w1:=Et (Ea (Er w) _) hb1)
    go_ret2;exact ⟨rfl,hW1⟩
   ·have g3:1099511627776<b:=oq_;clear hbad
    go_enter Tryz.func15,Tryz.ntmps15
    go_wp2_with (go_at_call 18;refine (HV1 _ (Ea (Er w) _)).mono ?_;rintro e w1 ⟨rfl,hb1⟩;have b0:Bxx w1 w.heap.size #[.slice a1 m.length c1] 28:=Bxx.below xB hb1;have x0:=b0.c0;have hW1:Below w.heap.size w w1:=Et (Ea (Er w) _) hb1)
    go_ret2;exact ⟨rfl,hW1⟩
structure e8_ (w:World) (v:Value) (n:Nat):Prop where
 is:∃ a c,v=.slice a n c∧(n=0∨∃ b o,a=some ⟨b,o,none⟩∧∀ i,i<n->∃ (u:Value) (l:List Int),w.cell? ⟨b,o+i,none⟩=some u∧fu_ w u l)
 len:n≤9223372036854775807
theorem e8_.ext {n:Nat} (h:e8_ w v n) (hb:Below w.heap.size w W):e8_ W v n:=by
 obtain ⟨⟨a,c,rfl,h1⟩,h2⟩:=h;refine ⟨⟨a,c,rfl,h1.imp id ?_⟩,h2⟩;rintro ⟨b,o,rfl,hc⟩;exact ⟨b,o,rfl,fun i hi=>by obtain ⟨u,l,h3,h4⟩:=hc i hi;exact ⟨u,l,Ext.cell hb h3,h4.ext hb⟩⟩
structure MFac (p:Per):Prop where
 wf:p.WF
 frm:p.frm≤8
 per:p.period≤12
theorem MFac.dvd (h:MFac p):p.period∣27720:=by
 have h1:=h.wf.per;have h2:=h.per;obtain ⟨k,hk⟩:∃ k:Nat,p.period=k:=⟨p.period.toNat,oq_⟩;rw [hk] at h1 h2 ⊢;have:∀ k:Nat,k≤12->1≤k->k∣27720:=by decide
 exact Int.natCast_dvd_natCast.2 (this k oq_ oq_)
theorem MFac.fv (h:MFac p):FV 0 p:=⟨⟨h.wf,fun n hn=>hn.1,by have:=h.frm;omega,h.dvd⟩,by have:=h.frm;omega⟩
structure j5_ (m:List (List Per)):Prop where
 len:m.length≤3
 ne:∀ t∈m,t≠[]
 tlen:∀ t∈m,t.length≤3
 fac:∀ t∈m,∀ p∈t,MFac p
theorem j5_.vt (h:j5_ m):∀ t∈m,aw_ 0 t:=fun t ht=>⟨h.ne t ht,fun p hp=>(h.fac t ht p hp).fv,by have:=h.tlen t ht;omega⟩
theorem j5_.mv (h:j5_ m):MV 0 m:=⟨(d8_ h.vt).2 ⟨by have:=h.len;omega,fun t ht=>by have:=h.tlen t ht;omega⟩,h.vt⟩
abbrev MdA (B:Nat) (k:Nat):Prop:=k=B∨k=B+1
structure MdL (B:Nat) (v:Value) (L0:List (Value × List Per)) (g cap:Nat) (M:List PV) (W:World):Prop where
 own:W.ownsRow B 39 4 (.slice (some ⟨g,0,none⟩) M.length cap) M.length (M.flatMap PV.enc)
 all:∀ x∈L0,ab_ W (fun b=>RowF B (MdA B) v b∧b≠g) x.1 x.2
 pvs:∀ x∈M,PVok W (fun b=>RowF B (MdA B) v b∧b≠g) x
 g:RowF B (MdA B) v g
 len:1≤M.length
structure MdS (B:Nat) (w:World) (v:Value) (L:List (Value × List Per)) (W:World):Prop where
 below:Below B w W
 rbx:Bxx W B #[.slice none 0 0] 28
 obx:Bxx W (B+1) #[v] 28
 row:RowT B (MdA B) W v L
 md:j5_ (L.map Prod.snd)
 last:L=[]∨∃ L0 g cap M,L=L0 ++ [(.slice (some ⟨g,0,none⟩) M.length cap,M.map PV.p)]∧MdL B v L0 g cap M W
theorem MdL.ext {L0:List (Value × List Per)} {M:List PV} (h:MdL B v L0 g cap M W) (hb:Below W.heap.size W W'):MdL B v L0 g cap M W':=
 ⟨h.own.kept (row:=none) (World.grownBy.of_below hb _) (by right;simp [Value.ownBlock]),fun x hx=>(h.all x hx).ext hb,fun x hx=>(h.pvs x hx).keep (a5_.below hb),h.g,h.len⟩
theorem MdS.ext {L:List (Value × List Per)} (h:MdS B w v L W) (hB:B≤w.heap.size) (hb:Below W.heap.size W W'):MdS B w v L W':=
 ⟨h.below.trans (hb.mono (Nat.le_trans hB h.below.size)),h.rbx.below hb,h.obx.below hb,h.row.below hb,h.md,h.last.imp id fun ⟨L0,g,cap,M,e,hl⟩=>⟨L0,g,cap,M,e,hl.ext hb⟩⟩
theorem o5_ {n:Nat} {F:Nat->Prop} (h:W.ownsRow B 39 4 (.slice (some ⟨g,0,none⟩) n cap) n (L.flatMap PV.enc)) (hn:L.length=n) (h1:1≤n) (hl:n≤1000) (hF:F g) (ha:∀ x∈L,PVok W F x):ab_ W F (.slice (some ⟨g,0,none⟩) n cap) (L.map PV.p):=by
 subst hn;have h2:L.length≤cap∧cap≤9223372036854775807:=by
  rcases h.2 with ⟨h',_⟩|⟨_,_,_,h',_,_,h3,h4,_⟩
  ·cases h'
  ·cases h';exact ⟨h3,h4⟩
 refine ⟨L,rfl,⟨_,_,rfl,h2.1,h2.2,.inr ⟨g,0,rfl,hF,(h.lt g rfl).2,fun i u hi=>?_⟩⟩,oq_,ha⟩;rw [Nat.zero_add];have:=(List.getElem?_eq_some_iff.1 hi).1;rw [c3_] at this;exact (h.cellAt i this).trans hi
theorem oi_ {b:Nat} {u:Value} {t:TypeId} (h:Bxx W b #[u] t) (e:W'.heap[b]? = W.heap[b]?):Bxx (W'.setCell ⟨b,0,none⟩ v) b #[v] t:=a4_ 0 v (e.trans h)
theorem n5_ {wo:World} {a:Option Addr} {L:List (Value × List Per)} {x:PV} (hk:W2.heap.size=k) (hS:MdS w.heap.size w (.slice a L.length c) L wo) (hb2:Below wo.heap.size wo W2) (hpv:PVok W2 (fun b=>wo.heap.size≤b∧b<W2.heap.size) x) :
  ab_ ((W2.alloc (.cells #[x.h,.int .i64 x.p.frm,.int .i64 x.p.period,x.c] 39)).alloc (.cells #[.slice (some ⟨k,0,none⟩) 1 1] 36)) (RowF w.heap.size (MdA w.heap.size) (.slice a L.length c)) (.slice (some ⟨k,0,none⟩) 1 1) [x.p]:=by
 subst hk;have hbz:=hS.obx.lt;have hz2:=hb2.size;have hvb:∀ q,(Value.slice a L.length c).ownBlock=some q->q<wo.heap.size:=fun q e=>(hS.row.row.lt q e).2;have hown:=(World.ownsRow_lit (base:=w.heap.size) (e:=39) (size:=4) W2 #[x.h,.int .i64 x.p.frm,.int .i64 x.p.period,x.c] 1 oq_ (by unfold maxLen;omega) rfl).alloc (.cells #[.slice (some ⟨W2.heap.size,0,none⟩) 1 1] 36);refine o5_ (L:=[x]) hown rfl (Nat.le_refl _) oq_ ⟨oq_,?_,fun e=>by have:=hvb _ e;omega⟩ fun y hy=>?_
 ·rintro (h|h) <;> omega
 ·rw [List.mem_singleton] at hy;subst hy;refine (hpv.keep (a5_.below (Ea (Ea (Er _) _) _))).mono fun b hb=>⟨oq_,?_,fun e=>by have:=hvb _ e;omega⟩;rintro (h|h) <;> omega
theorem MdS.new {wo w8:World} {a:Option Addr} {L:List (Value × List Per)} {ga:Option Addr} {gc:Nat} {x:PV} (hk:W2.heap.size=k) (hS:MdS w.heap.size w (.slice a L.length c) L wo) (hb2:Below wo.heap.size wo W2)
  (hpv:PVok W2 (fun b=>wo.heap.size≤b∧b<W2.heap.size) x) (hmf:MFac x.p) (hl:L.length<3)
  (hr8:RowT w.heap.size (MdA w.heap.size) w8 (.slice ga (L.length+1) gc) (L ++ [(.slice (some ⟨k,0,none⟩) 1 1,[x.p])]))
  (hg8:((W2.alloc (.cells #[x.h,.int .i64 x.p.frm,.int .i64 x.p.period,x.c] 39)).alloc (.cells #[.slice (some ⟨k,0,none⟩) 1 1] 36)).grownBy w8 (Value.slice a L.length c).ownBlock)
  (hb8:Below w.heap.size ((W2.alloc (.cells #[x.h,.int .i64 x.p.frm,.int .i64 x.p.period,x.c] 39)).alloc (.cells #[.slice (some ⟨k,0,none⟩) 1 1] 36)) w8)
  (hloc:(Value.slice ga (L.length+1) gc).ownBlock=(Value.slice a L.length c).ownBlock∨(Value.slice ga (L.length+1) gc).ownBlock=some (k+2)) :
  MdS w.heap.size w (.slice ga (L.length+1) gc) (L ++ [(.slice (some ⟨k,0,none⟩) 1 1,[x.p])]) (w8.setCell ⟨w.heap.size+1,0,none⟩ (.slice ga (L.length+1) gc)):=by
 subst hk;have hbz:=hS.obx.lt;have hz2:=hb2.size;have hvb:∀ q,(Value.slice a L.length c).ownBlock=some q->q<wo.heap.size:=fun q e=>(hS.row.row.lt q e).2;have hvn:=hS.row.ne;have hown0:=World.ownsRow_lit (base:=w.heap.size) (e:=39) (size:=4) W2 #[x.h,.int .i64 x.p.frm,.int .i64 x.p.period,x.c] 1 oq_ (by unfold maxLen;omega) rfl;have hal:Below W2.heap.size W2 ((W2.alloc (.cells #[x.h,.int .i64 x.p.frm,.int .i64 x.p.period,x.c] 39)).alloc (.cells #[.slice (some ⟨W2.heap.size,0,none⟩) 1 1] 36)):=Ea (Ea (Er _) _) _;have hown1:=hown0.alloc (.cells #[.slice (some ⟨W2.heap.size,0,none⟩) 1 1] 36);generalize hv:Value.slice a L.length c=v at *;generalize hv':Value.slice ga (L.length+1) gc=v' at *;have hz3:((W2.alloc (.cells #[x.h,.int .i64 x.p.frm,.int .i64 x.p.period,x.c] 39)).alloc (.cells #[.slice (some ⟨W2.heap.size,0,none⟩) 1 1] 36)).heap.size=W2.heap.size+2:=by simp
 generalize ((W2.alloc (.cells #[x.h,.int .i64 x.p.frm,.int .i64 x.p.period,x.c] 39)).alloc (.cells #[.slice (some ⟨W2.heap.size,0,none⟩) 1 1] 36))=W3 at *;have hal0:Below wo.heap.size wo W3:=Et hb2 hal;have hset:w8.grownBy (w8.setCell ⟨w.heap.size+1,0,none⟩ v') (some (w.heap.size+1)):=World.grownBy.set' ⟨rfl,rfl,rfl,Nat.le_refl _,fun _ _ _=>rfl⟩ _;have hs8:=hg8.size;have keep3:∀ b,b<W3.heap.size->b≠w.heap.size+1->v.ownBlock≠some b->(w8.setCell ⟨w.heap.size+1,0,none⟩ v').heap[b]? = W3.heap[b]?:=fun b h1 h2 h3=>
  (hset.block b oq_ (fun e=>h2 (by cases e;rfl))).trans (hg8.block b h1 (fun e=>h3 e.symm))
 have keep0:∀ b,b<wo.heap.size->b≠w.heap.size+1->v.ownBlock≠some b->(w8.setCell ⟨w.heap.size+1,0,none⟩ v').heap[b]? = wo.heap[b]?:=fun b h1 h2 h3=>(keep3 b oq_ h2 h3).trans (hal0.block b h1);have keep2:∀ b,b<W2.heap.size->b≠w.heap.size+1->v.ownBlock≠some b->(w8.setCell ⟨w.heap.size+1,0,none⟩ v').heap[b]? = W2.heap[b]?:=fun b h1 h2 h3=>(keep3 b oq_ h2 h3).trans (hal.block b h1);have hv'b:∀ b,v'.ownBlock=some b->v.ownBlock=some b∨b=W2.heap.size+2:=fun b e=>by
  rcases hloc with h|h
  ·exact .inl (h ▸ e)
  ·rw [h] at e;cases e;exact .inr rfl
 refine ⟨((hS.below.trans (hal0.mono hS.below.size)).trans hb8).setCell (p:=⟨w.heap.size+1,0,none⟩) (by show w.heap.size≤w.heap.size+1;omega) _,(keep0 _ oq_ oq_ (fun e=>hvn _ e (.inl rfl))).trans hS.rbx,
  oi_ hS.obx ((hg8.block _ oq_ (fun e=>hvn _ e.symm (.inr rfl))).trans (hal0.block _ oq_)),hr8.box hset (.inr rfl),?_,.inr ⟨L,W2.heap.size,1,[x],rfl,⟨?_,fun y hy=>?_,fun y hy=>?_,?_,sq_⟩⟩⟩
 ·have hm:=hS.md;rw [List.map_append];have key:∀ {P:List Per->Prop},(∀ t∈L.map Prod.snd,P t)->P [x.p]->∀ t∈L.map Prod.snd ++ [[x.p]],P t:=fun h1 h2 t ht=>by
   rcases List.mem_append.1 ht with ht|ht
   ·exact h1 t ht
   ·rw [List.mem_singleton] at ht;subst ht;exact h2
  exact ⟨tq_,key hm.ne sq_,key hm.tlen sq_,key hm.fac (fun p hp=>by rw [List.mem_singleton] at hp;subst hp;exact hmf)⟩
 ·have h1:=hown1.kept hg8 (.inr fun e=>by have:=hvb W2.heap.size e.symm;omega);exact h1.kept hset (.inr fun e=>by have e:W2.heap.size=w.heap.size+1:=Option.some.inj e;omega)
 ·refine ((hS.row.all y hy).lt.keep (fun b hb hl=>?_) ?_).mono fun b hb=>⟨⟨hb.1.1,hb.1.2.1,fun e=>?_⟩,?_⟩
  ·exact keep0 b hb.2 (fun e=>hb.1.2.1 (.inr e)) hb.1.2.2
  ·have:=hset.size;omega
  ·rcases hv'b b e with h|h
   ·exact hb.1.2.2 h
   ·have:=hb.2;omega
  ·have:=hb.2;omega
 ·rw [List.mem_singleton] at hy;subst hy;refine (hpv.keep (fun b hb hl=>?_)).mono fun b hb=>⟨⟨oq_,?_,fun e=>?_⟩,oq_⟩
  ·exact keep2 b hb.2 oq_ (fun e=>by have:=hvb b e;omega)
  ·rintro (h|h) <;> omega
  ·rcases hv'b b e with h|h
   ·have:=hvb b h;omega
   ·omega
 ·refine ⟨oq_,?_,fun e=>?_⟩
  ·rintro (h|h) <;> omega
  ·rcases hv'b _ e with h|h
   ·have:=hvb _ h;omega
   ·omega
theorem MdS.more {wo W9:World} {ab:Nat} {L0:List (Value × List Per)} {g' cap':Nat} {M:List PV} {x:PV} (hS:MdS w.heap.size w (.slice (some ⟨ab,0,none⟩) (L0.length+1) c) (L0 ++ [(.slice (some ⟨g,0,none⟩) M.length cap,M.map PV.p)]) wo)
  (hml:MdL w.heap.size (.slice (some ⟨ab,0,none⟩) (L0.length+1) c) L0 g cap M wo) (hb2:Below wo.heap.size wo W2) (hpv:PVok W2 (fun b=>wo.heap.size≤b∧b<W2.heap.size) x) (hmf:MFac x.p) (hM:M.length<3)
  (hg:W2.grownBy W9 (some g)) (hown:W9.ownsRow w.heap.size 39 4 (.slice (some ⟨g',0,none⟩) (M.length+1) cap') (M.length+1) ((M ++ [x]).flatMap PV.enc)) (hloc:g'=g∨W2.heap.size≤g') :
  MdS w.heap.size w (.slice (some ⟨ab,0,none⟩) (L0.length+1) c) (L0 ++ [(.slice (some ⟨g',0,none⟩) (M.length+1) cap',(M ++ [x]).map PV.p)]) (W9.setCell ⟨ab,L0.length,none⟩ (.slice (some ⟨g',0,none⟩) (M.length+1) cap')):=by
 have hbz:=hS.obx.lt;have hz2:=hb2.size;have hz9:=hg.size;have hle:(L0 ++ [((Value.slice (some ⟨g,0,none⟩) M.length cap),M.map PV.p)]).length=L0.length+1:=by simp
 have hrow:=hS.row.row;rw [hle,List.map_append] at hrow;have hab:=hrow.lt ab rfl;have hvn:=hS.row.ne ab rfl;obtain ⟨g0,g1,g2⟩:=hml.g;have hgab:ab≠g:=fun e=>g2 (by simp [Value.ownBlock,e]);have hgl:=(hml.own.lt g rfl).2;have hset:W9.grownBy (W9.setCell ⟨ab,L0.length,none⟩ (.slice (some ⟨g',0,none⟩) (M.length+1) cap')) (some ab):=World.grownBy.set' ⟨rfl,rfl,rfl,Nat.le_refl _,fun _ _ _=>rfl⟩ _;have keep2:∀ b,b<W2.heap.size->b≠g->b≠ab->(W9.setCell ⟨ab,L0.length,none⟩ (.slice (some ⟨g',0,none⟩) (M.length+1) cap')).heap[b]? = W2.heap[b]?:=fun b h1 h2 h3=>
  (hset.block b oq_ (fun e=>h3 (by cases e;rfl))).trans (hg.block b h1 (fun e=>h2 (by cases e;rfl)))
 have keep0:∀ b,b<wo.heap.size->b≠g->b≠ab->(W9.setCell ⟨ab,L0.length,none⟩ (.slice (some ⟨g',0,none⟩) (M.length+1) cap')).heap[b]? = wo.heap[b]?:=fun b h1 h2 h3=>(keep2 b oq_ h2 h3).trans (hb2.block b h1);have hsz:=hset.size;have gB:g≠w.heap.size:=fun e=>g1 (.inl e);have gB1:g≠w.heap.size+1:=fun e=>g1 (.inr e);have aB:ab≠w.heap.size:=fun e=>hvn (.inl e);have aB1:ab≠w.heap.size+1:=fun e=>hvn (.inr e);have g'ab:g'≠ab:=by rcases hloc with h|h <;> omega
 have hown':=hown.kept hset (.inr fun e=>by injection e with e;exact g'ab e);have all0:∀ y∈L0,ab_ (W9.setCell ⟨ab,L0.length,none⟩ (.slice (some ⟨g',0,none⟩) (M.length+1) cap')) (fun b=>RowF w.heap.size (MdA w.heap.size) (.slice (some ⟨ab,0,none⟩) (L0.length+1) c) b∧b≠g') y.1 y.2:=fun y hy=>by
  refine ((hml.all y hy).lt.keep (fun b hb hl=>?_) oq_).mono fun b hb=>⟨hb.1.1,?_⟩
  ·exact keep0 b hb.2 hb.1.2 fun e=>hb.1.1.2.2 (by simp [Value.ownBlock,e])
  ·rcases hloc with h|h
   ·rw [h];exact hb.1.2
   ·have:=hb.2;omega
 have pvs:∀ y∈M ++ [x],PVok (W9.setCell ⟨ab,L0.length,none⟩ (.slice (some ⟨g',0,none⟩) (M.length+1) cap')) (fun b=>RowF w.heap.size (MdA w.heap.size) (.slice (some ⟨ab,0,none⟩) (L0.length+1) c) b∧b≠g') y:=fun y hy=>by
  rcases List.mem_append.1 hy with hy|hy
  ·refine ((hml.pvs y hy).lt.keep (fun b hb hl=>?_)).mono fun b hb=>⟨hb.1.1,?_⟩
   ·exact keep0 b hb.2 hb.1.2 fun e=>hb.1.1.2.2 (by simp [Value.ownBlock,e])
   ·rcases hloc with h|h
    ·rw [h];exact hb.1.2
    ·have:=hb.2;omega
  ·rw [List.mem_singleton] at hy;subst hy;refine (hpv.keep (fun b hb hl=>keep2 b hb.2 oq_ oq_)).mono fun b hb=>⟨⟨oq_,?_,fun e=>?_⟩,oq_⟩
   ·rintro (h|h) <;> omega
   ·simp [Value.ownBlock] at e;omega
 have hgF:RowF w.heap.size (MdA w.heap.size) (.slice (some ⟨ab,0,none⟩) (L0.length+1) c) g':=by
  refine ⟨oq_,?_,fun e=>?_⟩
  ·rintro (h|h) <;> omega
  ·simp [Value.ownBlock] at e;omega
 refine ⟨((hS.below.trans (hb2.mono hS.below.size)).trans (World.grownBy.below' hg oq_ oq_)).setCell (p:=⟨ab,L0.length,none⟩) hab.1 _,(keep0 _ oq_ oq_ oq_).trans hS.rbx,(keep0 _ oq_ oq_ oq_).trans hS.obx,?_,?_,
  .inr ⟨L0,g',cap',M ++ [x],sq_,⟨by simpa using hown',all0,pvs,hgF,sq_⟩⟩⟩
 ·have hr2:=(hrow.kept (World.grownBy.of_below hb2 none) (.inr (by simp [Value.ownBlock]))).kept hg (.inr fun e=>hgab (by simpa [Value.ownBlock] using e));have hr3:=(hr2.stored L0.length (.slice (some ⟨g',0,none⟩) (M.length+1) cap')).1;rw [List.set_append_right _ _ sq_,List.length_map,Nat.sub_self] at hr3;refine ⟨by rw [List.length_append,List.map_append (f:=Prod.fst)];exact hr3,fun y hy=>?_,hS.row.ne,by simp;have:=hS.row.len;rw [hle] at this;omega⟩;rcases List.mem_append.1 hy with hy|hy
  ·exact (all0 y hy).mono fun b hb=>hb.1
  ·rw [List.mem_singleton] at hy;subst hy;exact o5_ hown' sq_ oq_ oq_ hgF fun y hy=>(pvs y hy).mono fun b hb=>hb.1
 ·have hm:=hS.md;rw [List.map_append] at hm ⊢;have hmem:M.map PV.p∈L0.map Prod.snd ++ [((Value.slice (some ⟨g,0,none⟩) M.length cap),M.map PV.p)].map Prod.snd:=by simp
  have key:∀ {P:List Per->Prop},(∀ t∈L0.map Prod.snd ++ [((Value.slice (some ⟨g,0,none⟩) M.length cap),M.map PV.p)].map Prod.snd,P t)->P ((M ++ [x]).map PV.p)->∀ t∈L0.map Prod.snd ++ [((Value.slice (some ⟨g',0,none⟩) (M.length+1) cap'),(M ++ [x]).map PV.p)].map Prod.snd,P t:=fun h1 h2 t ht=>by
   rcases List.mem_append.1 ht with ht|ht
   ·exact h1 t (List.mem_append_left _ ht)
   ·simp only [List.map_cons,List.map_nil,List.mem_singleton] at ht;subst ht;exact h2
  refine ⟨by have:=hm.len;simp at this ⊢;omega,key hm.ne sq_,key hm.tlen tq_,key hm.fac fun p hp=>?_⟩;rw [List.map_append] at hp;rcases List.mem_append.1 hp with hp|hp
  ·exact hm.fac _ hmem p hp
  ·simp only [List.map_cons,List.map_nil,List.mem_singleton] at hp;subst hp;exact hmf
theorem ph_ (w:World) {a:Act} {K:Act->World->Prop} {Q:Exit->Act->World->Prop} (sx x:Operand)
  (ho:o.op=.call { callee:=.builtin .append,args:=#[sx,x],argTypes:=#[36,36] }) (B g cap:Nat) (M:List PV) (y:PV) (hs:a.eval sx=.slice (some ⟨g,0,none⟩) M.length cap)
  (h:w.ownsRow B 39 4 (.slice (some ⟨g,0,none⟩) M.length cap) M.length (M.flatMap PV.enc)) (blk c:Nat) (hx:a.eval x=.slice (some ⟨blk,0,none⟩) 1 c)
  (hnew:Bxx w blk #[y.h,.int .i64 y.p.frm,.int .i64 y.p.period,y.c] 39) (hone:∀ u∈y.enc,u.oneCell'=true) (hl:M.length≤1000) (hB:B≤w.heap.size)
  (k:∀ (g' cap':Nat) (w':World),w'.ownsRow B 39 4 (.slice (some ⟨g',0,none⟩) (M.length+1) cap') (M.length+1) ((M ++ [y]).flatMap PV.enc)->w.grownBy w' (some g)->(g'=g∨g'=w.heap.size)->K (a.put o.dst (.slice (some ⟨g',0,none⟩) (M.length+1) cap')) w') :
  Oper.wp Tryz.prog o a w K Q:=by
 obtain ⟨i,hi,h1,h2,h3⟩:=f1_;refine wp_append_lies w sx x 36 ho B 39 i (.agg #[.slice none 0 0,.int .i64 0,.int .i64 0,.slice none 0 0]) 4 64 Tryz.underlying36 hi h1 h2 h3 rfl oq_ _ M.length (M.flatMap PV.enc) hs h ⟨blk,0,none⟩ 1 c y.enc hx rfl ?_ hone oq_ (by unfold maxLen;omega) oq_ hB _ rfl ?_
 ·intro j u hu;have e:({ block:=blk,off:=0 }:Addr).add j=⟨blk,j,none⟩:=by
   rcases Nat.eq_zero_or_pos j with h|h
   ·subst h;simp [Addr.add]
   ·simp [Addr.add];omega
  rw [e,(hnew.cells j).1,<- hu]
  match j with
  | 0=>rfl
  | 1=>rfl
  | 2=>rfl
  | 3=>rfl
  | k+4=>rfl
 ·intro g' cap' w' hown' hgrow hloc _;exact k g' cap' w' (by rw [List.flatMap_append];simpa using hown') hgrow (hloc.imp (fun e=>(Option.some.inj e).symm) id)
theorem n6_ (v:Value) (n:Nat) (w:World) (h:e8_ w v n) :
  Calls Tryz.prog 14 #[v] w fun e w'=>∃ (m:List (List Per)) (a:Option Addr) (c:Nat),e=.returned (.agg #[.slice a m.length c])∧MixR w' (fun b=>w.heap.size≤b) (.slice a m.length c) m∧j5_ m∧Below w.heap.size w w':=by
 have HR:=hq_ h;obtain ⟨⟨a1,c1,rfl,_⟩,hn⟩:=h
 go_enter Tryz.func14,Tryz.ntmps14
 go_wp2_with fail
 have hmd0:MdS w.heap.size w (.slice none 0 0) [] ((w.alloc (.cells #[.slice none 0 0] 28)).alloc (.cells #[.slice none 0 0] 28)):=
  ⟨Ea (Ea (Er w) _) _,(Bxx.new w _ _).alloc _,Bxx.at sq_,RowT.nil _ _ _,⟨sq_,sq_,sq_,sq_⟩,.inl rfl⟩
 have HMD0:=hq_ hmd0;clear hmd0
 go_loopw [4,5,6] (fun iv _ _ wr=>∃ (i:Nat) (v:Value) (L:List (Value × List Per)),i≤9∧i≤n∧iv=.int .i64 i∧Hid (MdS w.heap.size w v L wr)) (fun iv _ _ _=>9-(intOf iv).toNat)
 case atStart=>exact ⟨0,_,[],oq_,oq_,rfl,HMD0⟩
 case round=>
  obtain ⟨i,v,L,hi9,hin,rfl,HS⟩:=hrel;obtain ⟨a2,c2,rfl,hc1,hc2,hform⟩:=HS.out.row.form;obtain ⟨wo,hwo⟩:∃ wo,wo=wr:=⟨_,rfl⟩;subst hwo;have b3:=HS.out.obx.c0;have hLl:L.length≤3:=by have h:=HS.out.md.len;rwa [List.length_map] at h
  by_cases hil:i<n
  ·have hilI:(i:Int)<n:=oq_
   by_cases hi:i<9
   ·have hiI:(i:Int)<9:=oq_;obtain ⟨⟨a1',c1',he,h3⟩,-⟩:=HR.out.ext HS.out.below;injection he with e1 e2 e3
    subst e1;subst e3;rcases h3 with h0|⟨b,o,rfl,hc⟩
    ·omega
    obtain ⟨u,l,hcell,hby⟩:=hc i hil;have hmf:=lb_ u l wo hby;have HBY:=hq_ hby;have hr0:=hby.rng0 0;have HAT:=hq_ (fun W (h:Below wo.heap.size wo W)=>t5_ u l 0 0 rfl W (hby.ext h) oq_);generalize l.getD 0 0=x0 at *;obtain ⟨⟨ua,uc,rfl,_⟩,_,_⟩:=hby;clear hc e2;rcases HS.out.last with hL|⟨L0,g,cap,M,hL,hml⟩
    ·subst hL;go_wp2_with (first|(go_at_call 55;(refine hmf.mono ?_;rintro e w1 ⟨h',c',p,rfl,ho,hwf,hfr,hpe,hb1⟩;have hpf:MFac p:=⟨hwf,hfr,hpe⟩;have hpv:=ho.pv hpf.fv;obtain ⟨ya,yn,yc,za,zn,zc,rfl,rfl⟩:=hpv.form;have HPV:=hq_ hpv;have HPF:=hq_ hpf;have hE2:Below wo.heap.size wo (w1.alloc (.cells #[.slice ya yn yc,.int .i64 p.frm,.int .i64 p.period,.slice za zn zc] 39)):=Ea hb1 _;have hS2:=HS.out.ext (Nat.le_refl _) hE2;have d3:=hS2.obx.cells 0;have k4:=Ext.cell hE2 hcell;have HW1:=hq_ hb1.size;have HE2:=hq_ hE2;have HS2:=hq_ hS2;have HPV2:=hq_ ((hpv.keep (a5_.below (Ea (Er w1) (.cells #[.slice ya yn yc,.int .i64 p.frm,.int .i64 p.period,.slice za zn zc] 39)))).mono (G:=fun b=>wo.heap.size≤b∧b<(w1.alloc (.cells #[.slice ya yn yc,.int .i64 p.frm,.int .i64 p.period,.slice za zn zc] 39)).heap.size) fun b hb=>⟨hb.1,by rw [World.size_alloc];have:=hb.2;omega⟩);clear ho hwf hfr hpe hpf hpv hE2 hS2 hb1))|(at_builtin;(refine de_ rq_ _ _ rq_ w.heap.size (MdA w.heap.size) (.slice a2 ([]:List (Value × List Per)).length c2) ([]:List (Value × List Per)) (.slice (some ⟨w1.heap.size+1,0,none⟩) 1 1,[p]) rq_ (HS2.out.row.below (Ea (Ea (Er _) _) _)) (n5_ (x:=⟨_,_,p⟩) sq_ HS.out HE2.out HPV2.out) _ _ rq_ (Bxx.at (c:=#[.slice (some ⟨w1.heap.size+1,0,none⟩) 1 1]) (t:=36) sq_).c0 (by have h7:=HS2.out.obx.lt;rw [World.size_alloc] at h7;rintro (h|h) <;> simp at h <;> omega) (by simp;try omega) (by have h7:=HS2.out.obx.lt;rw [World.size_alloc] at h7;simp;omega) ?_;intro ga gc w8 hr8 hg8 hb8 hbo8;have hx8:=((HS2.out.obx.alloc _).alloc _).grown hg8 (fun e=>HS.out.row.ne _ e.symm (.inr rfl));have d8:=hx8.cells 0;have HR8:=hq_ hr8;have HG8:=hq_ hg8;have HB8:=hq_ hb8;have HBO8:=hq_ hbo8;clear hx8 hr8 hg8 hb8 hbo8)))
     go_roundw
     case rel=>exact ⟨i+1,.slice ga (([]:List (Value × List Per)).length+1) gc,[] ++ [(.slice (some ⟨w1.heap.size+1,0,none⟩) 1 1,[p])],oq_,oq_,by go_num,hq_ (MdS.new (x:=⟨_,_,p⟩) sq_ HS.out HE2.out HPV2.out HPF.out sq_ HR8.out HG8.out HB8.out (by have h:=HBO8.out;simp only [World.size_alloc] at h;exact h))⟩
     case measure=>simp [intOf];omega
    ·subst hL;have hle:(L0 ++ [((Value.slice (some ⟨g,0,none⟩) M.length cap),M.map PV.p)]).length=L0.length+1:=by simp
     obtain ⟨ab,rfl⟩:∃ ab,a2=some ⟨ab,0,none⟩:=hform.resolve_left (by rw [hle];omega);have hgc:wo.cell? ⟨ab,L0.length,none⟩=some (.slice (some ⟨g,0,none⟩) M.length cap):=by
      have h9:=(HS.out.row.get rfl (k:=L0.length) (by rw [hle];omega)).2.1;rw [h9];simp
     have hM1:=hml.len;have HML:=hq_ hml;rw [hle] at b3 hLl;clear hml hform;have HLE:=hq_ hle;go_upto_region 7 with (go_at_call 55;(refine hmf.mono ?_;rintro e w1 ⟨h',c',p,rfl,ho,hwf,hfr,hpe,hb1⟩;have hpf:MFac p:=⟨hwf,hfr,hpe⟩;have hpv:=ho.pv hpf.fv;obtain ⟨ya,yn,yc,za,zn,zc,rfl,rfl⟩:=hpv.form;have HPV:=hq_ hpv;have HPF:=hq_ hpf;have hE2:Below wo.heap.size wo (w1.alloc (.cells #[.slice ya yn yc,.int .i64 p.frm,.int .i64 p.period,.slice za zn zc] 39)):=Ea hb1 _;have hS2:=HS.out.ext (Nat.le_refl _) hE2;have d3:=hS2.obx.cells 0;have k4:=Ext.cell hE2 hcell;have HW1:=hq_ hb1.size;have HE2:=hq_ hE2;have HS2:=hq_ hS2;have HPV2:=hq_ ((hpv.keep (a5_.below (Ea (Er w1) (.cells #[.slice ya yn yc,.int .i64 p.frm,.int .i64 p.period,.slice za zn zc] 39)))).mono (G:=fun b=>wo.heap.size≤b∧b<(w1.alloc (.cells #[.slice ya yn yc,.int .i64 p.frm,.int .i64 p.period,.slice za zn zc] 39)).heap.size) fun b hb=>⟨hb.1,by rw [World.size_alloc];have:=hb.2;omega⟩);clear ho hwf hfr hpe hpf hpv hE2 hS2 hb1))
     refine Code.wp_mono (Q:=fun e a' W'=>e=.normal∧(∃ (cnd:Bool) (z26 z27 z28 z29 z30 z31 z32 z33 z34 z35 z36 z37 z38 z39 z40 z41 z42 z43 z44 z45 z46 z47 z48:Value),a'=⟨#[.slice (some ⟨b,o,none⟩) n c1,undef,.pointer (some ⟨w.heap.size,0,none⟩),.pointer (some ⟨w.heap.size+1,0,none⟩),.int .i64 ↑i,.int .i64 (↑L0.length+1),.pointer (some ⟨w1.heap.size,0,none⟩),.agg #[.slice none 0 0],.int .i64 ↑i,.slice (some ⟨b,o,none⟩) n c1,.int .i64 ↑n,.bool true,.bool true,.int .i64 ↑i,.bool true,.bool true,u16,u17,.pointer (some ⟨w.heap.size+1,0,none⟩),.slice (some ⟨ab,0,none⟩) (L0.length+1) c2,.int .i64 (↑L0.length+1),.slice (some ⟨b,o,none⟩) n c1,.int .i64 ↑i,.pointer (some ⟨b,o+i,none⟩),.slice ua l.length uc,perV (.slice ya yn yc) (.slice za zn zc) p.frm p.period,z26,z27,z28,z29,z30,z31,z32,z33,z34,z35,z36,z37,z38,z39,z40,z41,z42,z43,z44,z45,z46,z47,z48,.bool cnd,u50,u51,u52,u53,u54,u55,u56,u57,u58,u59,u60,u61,u62,u63,u64,u65,u66,u67,u68,u69,u70,u71,u72,undef],[]⟩∧(cnd=true->M.length<3))∧Below (w1.alloc (.cells #[.slice ya yn yc,.int .i64 p.frm,.int .i64 p.period,.slice za zn zc] 39)).heap.size (w1.alloc (.cells #[.slice ya yn yc,.int .i64 p.frm,.int .i64 p.period,.slice za zn zc] 39)) W') ?imp ?reg
     case reg=>
      by_cases hM:M.length<3
      ·have hMI:(M.length:Int)<3:=oq_;go_wp2_with (go_at_call 56;(refine (HAT.out _ HE2.out).mono ?_;rintro e w3 ⟨rfl,hb3⟩;have e3:=(HS2.out.ext (Nat.le_refl _) hb3).obx.c0;rw [hle] at e3;have f3:=Ext.cell (Et HE2.out hb3) hgc))
       all_goals exact hb3.mono sq_
      ·have hMI:¬ (M.length:Int)<3:=oq_;go_wp2_with (go_at_call 56;(refine (HAT.out _ HE2.out).mono ?_;rintro e w3 ⟨rfl,hb3⟩;have e3:=(HS2.out.ext (Nat.le_refl _) hb3).obx.c0;rw [hle] at e3;have f3:=Ext.cell (Et HE2.out hb3) hgc))
       all_goals exact hb3.mono sq_
     case imp=>
      rintro e a' w3 ⟨rfl,⟨cnd,z26,z27,z28,z29,z30,z31,z32,z33,z34,z35,z36,z37,z38,z39,z40,z41,z42,z43,z44,z45,z46,z47,z48,rfl,hM⟩,hb3⟩;have HE3:=hq_ (Et HE2.out hb3);have hS3:=HS2.out.ext (Nat.le_refl _) hb3;have HS3:=hq_ hS3;have e3:=hS3.obx.cells 0;rw [hle] at e3;have f3:=Ext.cell HE3.out hgc;have hpb:=(Bxx.new w1 #[.slice ya yn yc,.int .i64 p.frm,.int .i64 p.period,.slice za zn zc] 39).below hb3;have p0:=(hpb.cells 0).1;have p1:=(hpb.cells 1).1;have p2:=(hpb.cells 2).1;have p3:=(hpb.cells 3).1;have HPV3:=hq_ ((HPV2.out.keep (a5_.below hb3)).mono (G:=fun b=>wo.heap.size≤b∧b<w3.heap.size) fun b hb=>⟨hb.1,Nat.lt_of_lt_of_le hb.2 hb3.size⟩);have hw13:w1.heap.size<w3.heap.size:=by have:=hb3.size;rw [World.size_alloc] at this;omega
      clear hS3 hb3 hpb;cases cnd
      ·by_cases h3:L0.length+1<3
       ·have h3I:(L0.length:Int)+1<3:=oq_;go_wp2_with (at_builtin;(refine de_ rq_ _ _ rq_ w.heap.size (MdA w.heap.size) (.slice (some ⟨ab,0,none⟩) (L0 ++ [((Value.slice (some ⟨g,0,none⟩) M.length cap),M.map PV.p)]).length c2) (L0 ++ [((Value.slice (some ⟨g,0,none⟩) M.length cap),M.map PV.p)]) (.slice (some ⟨w3.heap.size,0,none⟩) 1 1,[p]) (by rw [hle];rfl) (HS3.out.row.below (Ea (Ea (Er _) _) _)) (n5_ (x:=⟨_,_,p⟩) rfl HS.out HE3.out HPV3.out) _ _ rq_ (Bxx.at (c:=#[.slice (some ⟨w3.heap.size,0,none⟩) 1 1]) (t:=36) sq_).c0 (by have h7:=HS3.out.obx.lt;rintro (h|h) <;> simp at h <;> omega) (by simp;try omega) (by have h7:=HS3.out.obx.lt;simp;omega) ?_;intro ga gc w8 hr8 hg8 hb8 hbo8;have hx8:=((HS3.out.obx.alloc _).alloc _).grown hg8 (fun e=>HS.out.row.ne _ e.symm (.inr rfl));have d8:=hx8.cells 0;have HR8:=hq_ hr8;have HG8:=hq_ hg8;have HB8:=hq_ hb8;have HBO8:=hq_ hbo8;clear hx8 hr8 hg8 hb8 hbo8))
        go_roundw
        case rel=>
         have h9:=MdS.new (x:=⟨_,_,p⟩) rfl HS.out HE3.out HPV3.out HPF.out (by rw [hle];omega) HR8.out HG8.out HB8.out (by have h:=HBO8.out;simp only [World.size_alloc] at h;exact h);rw [hle] at h9;exact ⟨i+1,_,_,oq_,oq_,by go_num,hq_ h9⟩
        case measure=>simp [intOf];omega
       ·have h3I:¬ (L0.length:Int)+1<3:=oq_;go_wp2_with fail
        go_roundw
        case rel=>
         have h9:=HS3.out;rw [hle] at h9;exact ⟨i+1,_,_,oq_,oq_,by go_num,hq_ h9⟩
        case measure=>simp [intOf];omega
      ·have HM:=hq_ (hM rfl);clear hM;go_wp2_with fail
       have e3':w3.cell? ⟨w.heap.size+1,0,none⟩=some (.slice (some ⟨ab,0,none⟩) (L0.length+1) c2):=e3.1;have hml:=HML.out;have hgB1:some (w.heap.size+1)≠some g:=fun e=>hml.g.2.1 (.inr (Option.some.inj e).symm);have hgab:some ab≠some g:=fun e=>hml.g.2.2 e;have hgl:=(hml.own.lt g rfl).2;have hsz2:=HE2.out.size;have hw1l:wo.heap.size≤w1.heap.size:=HW1.out;have hgw1:some w1.heap.size≠some g:=fun e=>by have:=Option.some.inj e;omega
       have HOW:=hq_ (fun W (h:Below w3.heap.size w3 W)=>((hml.ext HE3.out).ext h).own);have hbz3:w.heap.size≤w3.heap.size:=by have:=HS3.out.obx.lt;omega
       have hgl3:g<w3.heap.size:=by have:=HE3.out.size;omega
       clear hml;refine i1_ (w0:=w3) (some g) 12 [0,1,2,3,4,5,6,7,8,9,10,11,12,13] [14] (fun v=>⟨#[.slice (some ⟨b,o,none⟩) n c1,undef,.pointer (some ⟨w.heap.size,0,none⟩),.pointer (some ⟨w.heap.size+1,0,none⟩),.int .i64 ↑i,.int .i64 (↑L0.length+1),.pointer (some ⟨w1.heap.size,0,none⟩),.agg #[.slice none 0 0],.int .i64 ↑i,.slice (some ⟨b,o,none⟩) n c1,.int .i64 ↑n,.bool true,.bool true,.int .i64 ↑i,.bool true,.bool true,u16,u17,.pointer (some ⟨w.heap.size+1,0,none⟩),.slice (some ⟨ab,0,none⟩) (L0.length+1) c2,.int .i64 (↑L0.length+1),.slice (some ⟨b,o,none⟩) n c1,.int .i64 ↑i,.pointer (some ⟨b,o+i,none⟩),.slice ua l.length uc,perV (.slice ya yn yc) (.slice za zn zc) p.frm p.period,z26,z27,z28,z29,z30,z31,z32,z33,z34,z35,z36,z37,z38,z39,z40,z41,z42,z43,z44,z45,z46,z47,z48,.bool true,v 0,v 1,v 2,v 3,v 4,v 5,v 6,v 7,v 8,v 9,v 10,v 11,v 12,v 13,u64,u65,u66,u67,u68,u69,u70,u71,u72,undef],[]⟩) (fun j=>match j with|0=>u50|1=>u51|2=>u52|3=>u53|4=>u54|5=>u55|6=>u56|7=>u57|8=>u58|9=>u59|10=>u60|11=>u61|12=>u62|13=>u63|_=>undef)
        (fun i v lo hi W=>match i with
         | 0=>v 0=.pointer (some ⟨w.heap.size+1,0,none⟩)
         | 1=>v 1=.slice (some ⟨ab,0,none⟩) (L0.length+1) c2
         | 2=>v 2=.int .i64 (L0.length+1)
         | 3=>v 3=.int .i64 L0.length
         | 4=>v 4=.pointer (some ⟨w.heap.size+1,0,none⟩)
         | 5=>v 5=.slice (some ⟨ab,0,none⟩) (L0.length+1) c2
         | 6=>v 6=.int .i64 (L0.length+1)
         | 7=>v 7=.int .i64 L0.length
         | 8=>v 8=.pointer (some ⟨ab,L0.length,none⟩)
         | 9=>v 9=.slice (some ⟨g,0,none⟩) M.length cap
         | 10=>v 10=perV (.slice ya yn yc) (.slice za zn zc) p.frm p.period
         | 11=>v 11=.slice (some ⟨lo 11,0,none⟩) 1 1∧lo 11<hi 11∧w3.heap.size≤lo 11∧hi 11≤W.heap.size∧Bxx W (lo 11) #[.slice ya yn yc,.int .i64 p.frm,.int .i64 p.period,.slice za zn zc] 39
         | 12=>∃ g' cap',v 12=.slice (some ⟨g',0,none⟩) (M.length+1) cap'∧W.ownsRow w.heap.size 39 4 (.slice (some ⟨g',0,none⟩) (M.length+1) cap') (M.length+1) ((M ++ [(⟨.slice ya yn yc,.slice za zn zc,p⟩:PV)]).flatMap PV.enc)∧(g'=g∨w3.heap.size≤g')
         | 13=>v 13=.pointer (some ⟨ab,L0.length,none⟩)
         | _=>True)
        (fun W=>W.cell? ⟨w.heap.size+1,0,none⟩=some (.slice (some ⟨ab,0,none⟩) (L0.length+1) c2)∧W.cell? ⟨ab,L0.length,none⟩=some (.slice (some ⟨g,0,none⟩) M.length cap)∧W.cell? ⟨w1.heap.size,0,none⟩=some (.slice ya yn yc)∧W.cell? ⟨w1.heap.size,1,none⟩=some (.int .i64 p.frm)∧W.cell? ⟨w1.heap.size,2,none⟩=some (.int .i64 p.period)∧W.cell? ⟨w1.heap.size,3,none⟩=some (.slice za zn zc)) rfl (by kernel_rfl) dq_ rfl ?stab ?loc (fun W hb=>⟨hb.cell e3' hgB1,hb.cell f3 hgab,hb.cell p0 hgw1,hb.cell p1 hgw1,hb.cell p2 hgw1,hb.cell p3 hgw1⟩) ?steps ?fin
       case stab=>
        rintro (_|_|_|_|_|_|_|_|_|_|_|_|_|_|i) v lo hi W W' h hb
        ·exact h
        ·exact h
        ·exact h
        ·exact h
        ·exact h
        ·exact h
        ·exact h
        ·exact h
        ·exact h
        ·exact h
        ·exact h
        ·rw [if_neg dq_] at hb;exact ⟨h.1,h.2.1,h.2.2.1,Nat.le_trans h.2.2.2.1 hb.size,(hb.block (lo 11) (by have:=h.2.1;have:=h.2.2.2.1;omega) (fun e=>by have h7:lo 11=g:=Option.some.inj e;have:=h.2.2.1;omega)).trans h.2.2.2.2⟩
        ·rw [if_pos rfl] at hb;exact (let ⟨g',cap',e,ho,hl⟩:=h;⟨g',cap',e,ho.kept (row:=none) (World.grownBy.of_below hb _) (by right;simp [Value.ownBlock]),hl⟩)
        ·exact h
        ·trivial
       case loc=>
        rintro (_|_|_|_|_|_|_|_|_|_|_|_|_|_|i) v v' lo lo' hi hi' W hag h
        ·exact (hag 0 (.inl rfl)).1 ▸ h
        ·exact (hag 1 (.inl rfl)).1 ▸ h
        ·exact (hag 2 (.inl rfl)).1 ▸ h
        ·exact (hag 3 (.inl rfl)).1 ▸ h
        ·exact (hag 4 (.inl rfl)).1 ▸ h
        ·exact (hag 5 (.inl rfl)).1 ▸ h
        ·exact (hag 6 (.inl rfl)).1 ▸ h
        ·exact (hag 7 (.inl rfl)).1 ▸ h
        ·exact (hag 8 (.inl rfl)).1 ▸ h
        ·exact (hag 9 (.inl rfl)).1 ▸ h
        ·exact (hag 10 (.inl rfl)).1 ▸ h
        ·have q:=hag 11 (.inl rfl);have q10:=hag 10 (.inr (Rdp (by kernel_rfl)))
         (try dsimp only at h ⊢);(try simp only [q.1,q.2.1,q.2.2,q10.1,q10.2.1,q10.2.2] at h);exact h
        ·have q:=hag 12 (.inl rfl);have q9:=hag 9 (.inr (Rdp (by kernel_rfl)));have q11:=hag 11 (.inr (Rdp (by kernel_rfl)))
         (try dsimp only at h ⊢);(try simp only [q.1,q.2.1,q.2.2,q9.1,q9.2.1,q9.2.2,q11.1,q11.2.1,q11.2.2] at h);exact h
        ·exact (hag 13 (.inl rfl)).1 ▸ h
        ·trivial
       case steps=>
        refine an_.cons rfl ?_ (an_.cons rfl ?_ (an_.cons rfl ?_ (an_.cons rfl ?_ (an_.cons rfl ?_ (an_.cons rfl ?_ (an_.cons rfl ?_ (an_.cons rfl ?_ (an_.cons rfl ?_ (an_.cons rfl ?_ (an_.cons rfl ?_ (an_.cons rfl ?_ (an_.cons rfl ?_ (an_.cons rfl ?_ an_.nil)))))))))))))
        ·rintro v lo hi W hb hkx ⟨g0,g1,g2,g3,g4,g5⟩ hd K hK;replace hK:=fun x W' (h:Below W.heap.size W W')=>hK x W' (by rw [if_neg dq_];exact h);clear hkx;clear hd;dsimp only;go_wp2_with fail
         exact acx (hK (.pointer (some ⟨w.heap.size+1,0,none⟩)) W (Below.refl _ _) rfl) sq_
        ·rintro v lo hi W hb hkx ⟨g0,g1,g2,g3,g4,g5⟩ hd K hK;replace hK:=fun x W' (h:Below W.heap.size W W')=>hK x W' (by rw [if_neg dq_];exact h);clear hkx;have e0:v 0=.pointer (some ⟨w.heap.size+1,0,none⟩):=(hd 0 (Rdp (by kernel_rfl))).2.2;clear hd;dsimp only
         (try simp only [e0])
         go_wp2_with fail
         exact acx (hK (.slice (some ⟨ab,0,none⟩) (L0.length+1) c2) W (Below.refl _ _) rfl) (by simp [e0])
        ·rintro v lo hi W hb hkx ⟨g0,g1,g2,g3,g4,g5⟩ hd K hK;replace hK:=fun x W' (h:Below W.heap.size W W')=>hK x W' (by rw [if_neg dq_];exact h);clear hkx;clear hd;dsimp only;go_wp2_with fail
         exact acx (hK (.int .i64 (L0.length+1)) W (Below.refl _ _) rfl) sq_
        ·rintro v lo hi W hb hkx ⟨g0,g1,g2,g3,g4,g5⟩ hd K hK;replace hK:=fun x W' (h:Below W.heap.size W W')=>hK x W' (by rw [if_neg dq_];exact h);clear hkx;have e2:v 2=.int .i64 (L0.length+1):=(hd 2 (Rdp (by kernel_rfl))).2.2;clear hd;dsimp only
         (try simp only [e2])
         go_wp2_with fail
         exact acx (hK (.int .i64 L0.length) W (Below.refl _ _) rfl) (by simp [e2])
        ·rintro v lo hi W hb hkx ⟨g0,g1,g2,g3,g4,g5⟩ hd K hK;replace hK:=fun x W' (h:Below W.heap.size W W')=>hK x W' (by rw [if_neg dq_];exact h);clear hkx;clear hd;dsimp only;go_wp2_with fail
         exact acx (hK (.pointer (some ⟨w.heap.size+1,0,none⟩)) W (Below.refl _ _) rfl) sq_
        ·rintro v lo hi W hb hkx ⟨g0,g1,g2,g3,g4,g5⟩ hd K hK;replace hK:=fun x W' (h:Below W.heap.size W W')=>hK x W' (by rw [if_neg dq_];exact h);clear hkx;have e4:v 4=.pointer (some ⟨w.heap.size+1,0,none⟩):=(hd 4 (Rdp (by kernel_rfl))).2.2;clear hd;dsimp only
         (try simp only [e4])
         go_wp2_with fail
         exact acx (hK (.slice (some ⟨ab,0,none⟩) (L0.length+1) c2) W (Below.refl _ _) rfl) (by simp [e4])
        ·rintro v lo hi W hb hkx ⟨g0,g1,g2,g3,g4,g5⟩ hd K hK;replace hK:=fun x W' (h:Below W.heap.size W W')=>hK x W' (by rw [if_neg dq_];exact h);clear hkx;clear hd;dsimp only;go_wp2_with fail
         exact acx (hK (.int .i64 (L0.length+1)) W (Below.refl _ _) rfl) sq_
        ·rintro v lo hi W hb hkx ⟨g0,g1,g2,g3,g4,g5⟩ hd K hK;replace hK:=fun x W' (h:Below W.heap.size W W')=>hK x W' (by rw [if_neg dq_];exact h);clear hkx;have e6:v 6=.int .i64 (L0.length+1):=(hd 6 (Rdp (by kernel_rfl))).2.2;clear hd;dsimp only
         (try simp only [e6])
         go_wp2_with fail
         exact acx (hK (.int .i64 L0.length) W (Below.refl _ _) rfl) (by simp [e6])
        ·rintro v lo hi W hb hkx ⟨g0,g1,g2,g3,g4,g5⟩ hd K hK;replace hK:=fun x W' (h:Below W.heap.size W W')=>hK x W' (by rw [if_neg dq_];exact h);clear hkx;have e5:v 5=.slice (some ⟨ab,0,none⟩) (L0.length+1) c2:=(hd 5 (Rdp (by kernel_rfl))).2.2;have e7:v 7=.int .i64 L0.length:=(hd 7 (Rdp (by kernel_rfl))).2.2;clear hd;dsimp only
         (try simp only [e5,e7])
         go_wp2_with fail
         exact acx (hK (.pointer (some ⟨ab,L0.length,none⟩)) W (Below.refl _ _) rfl) (by simp [e5,e7])
        ·rintro v lo hi W hb hkx ⟨g0,g1,g2,g3,g4,g5⟩ hd K hK;replace hK:=fun x W' (h:Below W.heap.size W W')=>hK x W' (by rw [if_neg dq_];exact h);clear hkx;have e8:v 8=.pointer (some ⟨ab,L0.length,none⟩):=(hd 8 (Rdp (by kernel_rfl))).2.2;clear hd;dsimp only
         (try simp only [e8])
         go_wp2_with fail
         exact acx (hK (.slice (some ⟨g,0,none⟩) M.length cap) W (Below.refl _ _) rfl) (by simp [e8])
        ·rintro v lo hi W hb hkx ⟨g0,g1,g2,g3,g4,g5⟩ hd K hK;replace hK:=fun x W' (h:Below W.heap.size W W')=>hK x W' (by rw [if_neg dq_];exact h);clear hkx;clear hd;dsimp only;go_wp2_with fail
         exact acx (hK (perV (.slice ya yn yc) (.slice za zn zc) p.frm p.period) W (Below.refl _ _) rfl) (by simp [ite_true])
        ·rintro v lo hi W hb hkx ⟨g0,g1,g2,g3,g4,g5⟩ hd K hK;replace hK:=fun x W' (h:Below W.heap.size W W')=>hK x W' (by rw [if_neg dq_];exact h);clear hkx;have e10:v 10=perV (.slice ya yn yc) (.slice za zn zc) p.frm p.period:=(hd 10 (Rdp (by kernel_rfl))).2.2;clear hd;dsimp only
         (try simp only [e10])
         go_wp2_with fail
         exact acx (hK (.slice (some ⟨W.heap.size,0,none⟩) 1 1) _ (Ea (Er _) _) ⟨rfl,sq_,hb.size,sq_,Bxx.new _ _ _⟩) (by simp [e10])
        ·rintro v lo hi W hb hkx ⟨g0,g1,g2,g3,g4,g5⟩ hd K hK;replace hK:=fun x W' (h:W.grownBy W' (some g))=>hK x W' (by rw [if_pos rfl];exact h);replace hkx:=hkx rfl;have e9:v 9=.slice (some ⟨g,0,none⟩) M.length cap:=(hd 9 (Rdp (by kernel_rfl))).2.2;obtain ⟨la11,lb11,D11⟩:=hd 11 (Rdp (by kernel_rfl));clear hd;dsimp only
         (try simp only [e9])
         obtain ⟨e11,h11a,h11b,h11c,h11d⟩:=D11;refine ph_ W _ _ rq_ w.heap.size g cap M ⟨.slice ya yn yc,.slice za zn zc,p⟩ (by first|rfl|exact e9) (HOW.out _ hkx) (lo 11) 1 (by first|exact e11|(simp [e11];done)) h11d (PV.enc_one _ rfl rfl) (by have:=HM.out;omega) (by have h8:=hkx.size;omega) ?_;intro g' cap' w9 hown9 hgrow9 hloc9;exact acx (hK (.slice (some ⟨g',0,none⟩) (M.length+1) cap') w9 hgrow9 ⟨g',cap',rfl,hown9,hloc9.imp id (fun e=>by rw [e];exact hb.size)⟩) (by simp only [e9];rfl)
        ·rintro v lo hi W hb hkx ⟨g0,g1,g2,g3,g4,g5⟩ hd K hK;replace hK:=fun x W' (h:Below W.heap.size W W')=>hK x W' (by rw [if_neg dq_];exact h);clear hkx;have e1:v 1=.slice (some ⟨ab,0,none⟩) (L0.length+1) c2:=(hd 1 (Rdp (by kernel_rfl))).2.2;have e3:v 3=.int .i64 L0.length:=(hd 3 (Rdp (by kernel_rfl))).2.2;clear hd;dsimp only
         (try simp only [e1,e3])
         go_wp2_with fail
         exact acx (hK (.pointer (some ⟨ab,L0.length,none⟩)) W (Below.refl _ _) rfl) (by simp [e1,e3])
       case fin=>
        rintro v lo hi9' W9 hg9 ⟨g0,g1,-,-,-,-⟩ hf hap;show wpList _ _ _ [_] _ _;have e13:v 13=.pointer (some ⟨ab,L0.length,none⟩):=(hf 13 rfl).2.2.2;obtain ⟨-,-,-,g',cap',e12,hown9,hloc9⟩:=hf 12 rfl;clear hf hap;dsimp only;rw [e13,e12];clear e12 e13;have hrw:=HS3.out.row.row;have fz:W9.frozen? ⟨ab,L0.length,none⟩=false:=(hg9.frozen_far _ (hrw.lt ab rfl).2 hgab).trans (hrw.frozenAt L0.length);have HG9:=hq_ hg9;have HOWN9:=hq_ hown9;have HLOC9:=hq_ hloc9;clear hrw hg9 hown9 hloc9;generalize v 0=z0,v 1=z1,v 2=z2,v 3=z3,v 4=z4,v 5=z5,v 6=z6,v 7=z7,v 8=z8,v 9=z9,v 10=z10,v 11=z11;go_wp2_with fail
        go_roundw
        case rel=>
         have h8:=HS.out;have h7:=HML.out;rw [hle] at h8 h7;exact ⟨i+1,_,_,oq_,oq_,by go_num,hq_ (MdS.more h8 h7 HE3.out HPV3.out HPF.out HM.out HG9.out HOWN9.out HLOC9.out)⟩
        case measure=>simp [intOf];omega
   ·obtain rfl:i=9:=oq_;have r2:=HS.out.rbx.cells 0;go_wp2_with fail
    have hset:=HS.out.row.box (World.grownBy.set' (i:=0) ⟨rfl,rfl,rfl,Nat.le_refl _,fun _ _ _=>rfl⟩ (.slice a2 L.length c2)) (.inl rfl);have hcc:=Bxx.c0 (a4_ 0 (.slice a2 L.length c2) HS.out.rbx);exact bodyPost_ret (v:=.agg #[.slice a2 L.length c2]) (by simp [results,Tryz.results14,go_sem,hcc]) rfl ⟨L.map Prod.snd,a2,c2,by rw [List.length_map],⟨L,rfl,by rw [List.length_map];exact hset.mix⟩,HS.out.md,HS.out.below.setCell (p:=⟨w.heap.size,0,none⟩) (Nat.le_refl _) _⟩
  ·obtain rfl:i=n:=oq_;have r2:=HS.out.rbx.cells 0;go_wp2_with fail
   have hset:=HS.out.row.box (World.grownBy.set' (i:=0) ⟨rfl,rfl,rfl,Nat.le_refl _,fun _ _ _=>rfl⟩ (.slice a2 L.length c2)) (.inl rfl);have hcc:=Bxx.c0 (a4_ 0 (.slice a2 L.length c2) HS.out.rbx);exact bodyPost_ret (v:=.agg #[.slice a2 L.length c2]) (by simp [results,Tryz.results14,go_sem,hcc]) rfl ⟨L.map Prod.snd,a2,c2,by rw [List.length_map],⟨L,rfl,by rw [List.length_map];exact hset.mix⟩,HS.out.md,HS.out.below.setCell (p:=⟨w.heap.size,0,none⟩) (Nat.le_refl _) _⟩
end Go.Proofs.YthjnojbeimchdaaGreat
end
namespace Go.Proofs.YthjnojbeimchdaaGreat
open Go.ChangeShapes Go.WideShapes Go.ChangeAt Go.RowKit Go.Joins Kal
section
variable {H:Type} {enc:TypeId × Value->H} {w:World} {base:Nat} {spare:Nat->Bool} {held:Bool}
theorem ma_ {r:Reach} {b0:Nat} {v:Value} {d:DataW H} {p:List MemPlace} (hv:Value.okWide Tryz.prog w r b0 22 v) (h:DataW.Trod enc Tryz.prog w base spare held 22 v d p):∃ n,e8_ w v n:=by
 obtain ⟨a,len,cap,rfl⟩:=okWide_slice Tryz.underlying22 hv;obtain ⟨fuel,hf⟩:=h;have hf:DataW.trod enc Tryz.prog w base spare held fuel 22 [.slice a len cap]=some (d,p):=hf;rcases Go.Deep.open_slice1 Tryz.underlying22 (by kernel_rfl) hf with ⟨hcs,_⟩|⟨a',len',cap',m,n,V,D,Pl,hcs,_,hl,hm,hmm,_,hx⟩
 ·simp only [List.cons.injEq,Value.slice.injEq,and_true] at hcs;obtain ⟨rfl,rfl,rfl⟩:=hcs;exact ⟨0,⟨none,0,rfl,.inl rfl⟩,oq_⟩
 ·simp only [List.cons.injEq,Value.slice.injEq,and_true] at hcs;obtain ⟨rfl,rfl,rfl⟩:=hcs;have hlm:len≤m:=by rw [hmm];split <;> omega
  refine ⟨len,⟨some a',cap,rfl,?_⟩,by unfold maxLen at hm;omega⟩
  by_cases h0:len=0
  ·exact .inl h0
  ·refine .inr ?_;obtain ⟨b,off,spot⟩:=a';have hc:=(hx 0 oq_).1;have hspot:spot=none:=by simpa [Addr.add] using World.cell?_spot hc
   subst hspot;refine ⟨b,off,rfl,fun i hi=>?_⟩;obtain ⟨h1,h2⟩:=hx i oq_;obtain ⟨l,hb⟩:=vh_ h2;have e2:(⟨b,off,none⟩:Addr).add i=⟨b,off+i,none⟩:=by
    rcases Nat.eq_zero_or_pos i with h|h
    ·subst h;simp [Addr.add]
    ·simp [Addr.add];omega
   rw [e2] at h1;exact ⟨V i,l,h1,hb⟩
end
end Go.Proofs.YthjnojbeimchdaaGreat
section
variable {b b':Bool}{e:Go.Ending}{F P a at_ d f hi lo n r s x y:Int}{T m m1 m2:List (List Kal.Per)}{X l:List Int}{L:List Go.Proofs.YthjnojbeimchdaaGreat.PV}{t u:List Kal.Per}{B base c cap g j k ob:Nat}{o:Go.Oper}{p:Kal.Per}{h hv v:Go.Value}{W W' W2 w w':Go.World}
namespace Go.Proofs.YthjnojbeimchdaaGreat
open Go.RowKit Go.Maps Kal
theorem le_ (v:Value) (l:List Int) (x:Int) (w:World) (hv:Ints w v l) :
  Calls Tryz.prog 144 #[v,.int .i64 x] w fun e w'=>e=.returned (.bool (decide (x∈l)))∧w=w':=by
 obtain ⟨⟨a,c,rfl,hlc,hc,hcells⟩,hlen,hb⟩:=hv
 go_enter Tryz.func144,Tryz.ntmps144
 go_wp2_with fail
 go_loop [5] (fun i=>∃ k:Nat,k≤l.length∧i=.int .i64 k∧x ∉ l.take k) (fun i=>l.length-(intOf i).toNat)
 case atStart=>exact ⟨0,oq_,rfl,sq_⟩
 case round=>
  obtain ⟨k,hk,rfl,hno⟩:=hrel;have HNO:=hq_ hno;clear hno
  by_cases hlt:k<l.length
  ·rcases hcells with h|⟨b,o,rfl,hcell⟩
   ·rw [h] at hlt;simp at hlt
   have hcl:=hcell k hlt;have hlI:(k:Int)<l.length:=oq_;have hts:l.take (k+1)=l.take k ++ [l.getD k 0]:=by rw [List.take_succ_eq_append_getElem hlt,List.getD_eq_getElem?_getD,List.getElem?_eq_getElem hlt];rfl
   have HTS:=hq_ hts;have HM:=hq_ (ah_ hlt);clear hts hcell;generalize l.getD k 0=y at *
   by_cases hyx:y=x
   ·have hyb:(y == x)=true:=by simp [hyx]
    have HYX:=hq_ hyx;clear hyx;go_wp2_with fail
    go_ret;exact ⟨ac_ (by rw [decide_eq_true];rw [<- HYX.out];exact HM.out),rfl⟩
   ·have hyb:(y == x)=false:=by simp [hyx]
    have HYX:=hq_ hyx;clear hyx;go_wp2_with fail
    go_round
    case rel=>exact ⟨k+1,oq_,by go_num,by
     rw [HTS.out,List.mem_append];rintro (h|h)
     ·exact HNO.out h
     ·rw [List.mem_singleton] at h;exact HYX.out h.symm⟩
    case measure=>simp [intOf];omega
  ·obtain rfl:k=l.length:=oq_;go_wp2_with fail
   go_ret;exact ⟨ac_ (by rw [decide_eq_false];have h:=HNO.out;rwa [List.take_length] at h),rfl⟩
theorem jq_ (v:Value) (l:List Int) (lim:Int) (w:World) (hv:Ints w v l) :
  Calls Tryz.prog 104 #[v,.int .i64 lim] w fun e w'=>e=.returned (.bool (b7_ (-1) lim l))∧∃ n,w'=w.drewN n:=by
 obtain ⟨⟨a,c,rfl,hlc,hc,hcells⟩,hlen,hb⟩:=hv
 go_enter Tryz.func104,Tryz.ntmps104
 go_wp2_with fail
 go_loopw [5] (fun i wr=>∃ (k:Nat) (pv:Int),k≤l.length∧i=.int .i64 k∧((k=0∧pv=-1)∨(1≤k∧pv=l.getD (k-1) 0∧0≤pv))∧b7_ (-1) lim l=b7_ pv lim (l.drop k)∧∃ n,wr=w.drewN n) (fun i _=>l.length-(intOf i).toNat)
 case atStart=>exact ⟨0,-1,oq_,rfl,.inl ⟨rfl,rfl⟩,sq_,0,rfl⟩
 case round=>
  obtain ⟨k,pv,hk,rfl,hpv,hr,n,rfl⟩:=hrel;have HR:=hq_ hr;clear hr
  by_cases hlt:k<l.length
  ·rcases hcells with h|⟨b,o,rfl,hcell⟩
   ·rw [h] at hlt;simp at hlt
   have hcl:=hcell k hlt;have hlI:(k:Int)<l.length:=oq_;have hdr:b7_ pv lim (l.drop k)=if l.getD k 0≤pv∨lim≤l.getD k 0 then false else b7_ (l.getD k 0) lim (l.drop (k+1)):=by rw [drop_cons hlt,b7_]
   rw [hdr] at HR;clear hdr;obtain ⟨x,hx⟩:∃ x,x=l.getD k 0:=⟨_,rfl⟩;rw [<- hx] at hcl HR;have HX:=hq_ hx;clear hx;have hend:∀ q:Bool,(x≤pv∨lim≤x↔q=true)->b7_ (-1) lim l=if q then false else b7_ x lim (l.drop (k+1)):=fun q h=>by
    rw [HR.out];cases q <;> simp at h <;> simp [h]
   have HEND:=hq_ hend;clear hend;rcases hpv with ⟨hk0,hp0⟩|⟨hk1,hpe,hp0⟩
   ·have hkz:¬ (0:Int)<k:=oq_;have hkd:decide ((0:Int)<(k:Int))=false:=by simp [hk0]
    have hkn:decide (0<k)=false:=by simp [hk0]
    have hkm:¬ 0<k:=oq_;have HK0:=hq_ hk0;have HP0:=hq_ hp0;clear hcell hk0 hp0
    by_cases h1:x<0
    ·have d1:decide (x<0)=true:=by simp [h1]
     go_wp2_with fail
     go_quiet (fail)
     go_wp2_with fail
     go_ret;refine ⟨ac_ ?_,_,World.drewN_drewN _ _ _⟩;rw [HEND.out true (by have:=HP0.out;simp;omega)];rfl
    ·have d1:decide (x<0)=false:=by simp;omega
     by_cases h2:lim≤x
     ·have d2:decide (lim≤x)=true:=by simp [h2]
      go_wp2_with fail
      go_quiet (fail)
      go_wp2_with fail
      go_ret;refine ⟨ac_ ?_,_,World.drewN_drewN _ _ _⟩;rw [HEND.out true (by simp [h2])];rfl
     ·have d2:decide (lim≤x)=false:=by simp;omega
      go_wp2_with fail
      go_quiet (fail)
      go_wp2_with fail
      go_roundw
      case rel=>exact ⟨k+1,x,oq_,by go_num,.inr ⟨oq_,HX.out,oq_⟩,by rw [HEND.out false (by have:=HP0.out;simp;omega)];rfl,_,rfl⟩
      case measure=>simp [intOf];omega
   ·have hcl2:=hcell (k-1) oq_;have hkz:(0:Int)<k:=oq_;have hkd:decide ((0:Int)<(k:Int))=true:=by simp;omega
    rw [<- hpe] at hcl2;have HPE:=hq_ hpe;clear hcell hpe
    by_cases h1:x<0
    ·have d1:decide (x<0)=true:=by simp [h1]
     go_wp2_with fail
     go_quiet (fail)
     go_wp2_with fail
     go_ret;refine ⟨ac_ ?_,_,World.drewN_drewN _ _ _⟩;rw [HEND.out true tq_];rfl
    ·have d1:decide (x<0)=false:=by simp;omega
     by_cases h2:lim≤x
     ·have d2:decide (lim≤x)=true:=by simp [h2]
      go_wp2_with fail
      go_quiet (fail)
      go_wp2_with fail
      go_ret;refine ⟨ac_ ?_,_,World.drewN_drewN _ _ _⟩;rw [HEND.out true (by simp [h2])];rfl
     ·have d2:decide (lim≤x)=false:=by simp;omega
      obtain ⟨k',hk'⟩:∃ k',k=k'+1:=⟨k-1,oq_⟩;subst hk';rw [show k'+1-1=k' from by omega] at hcl2;have hs1:(((k'+1:Nat):Int)-1)=(k':Int):=oq_
      by_cases h3:x≤pv
      ·have d3:decide (x≤pv)=true:=by simp [h3]
       go_wp2_with fail
       go_quiet (fail)
       go_wp2_with fail
       go_ret;refine ⟨ac_ ?_,_,World.drewN_drewN _ _ _⟩;rw [HEND.out true (by simp [h3])];rfl
      ·have d3:decide (x≤pv)=false:=by simp;omega
       go_wp2_with fail
       go_quiet (fail)
       go_wp2_with fail
       go_roundw
       case rel=>exact ⟨k'+1+1,x,oq_,by go_num,.inr ⟨oq_,HX.out,oq_⟩,by rw [HEND.out false tq_];rfl,_,rfl⟩
       case measure=>simp [intOf];omega
  ·obtain rfl:k=l.length:=oq_;go_wp2_with fail
   go_ret;exact ⟨ac_ (by rw [HR.out,List.drop_length];rfl),n,rfl⟩
theorem ve_ {head cycle:List Int} {frm period:Int} (h:frm<0∨1099511627776<frm∨period<1∨1099511627776<period∨1048576<(head.length:Int)+cycle.length):validB ⟨head,frm,period,cycle⟩=false:=by
 unfold validB;rcases h with h|h|h|h|h
 ·rw [decide_eq_false (show ¬ 0≤frm by omega)];rfl
 ·rw [decide_eq_false (show ¬ frm≤1099511627776 by omega)];simp
 ·rw [decide_eq_false (show ¬ 1≤period by omega)];simp
 ·rw [decide_eq_false (show ¬ period≤1099511627776 by omega)];simp
 ·rw [decide_eq_false (show ¬ (head.length:Int)+cycle.length≤1048576 by omega)];simp
theorem tk_ {head cycle:List Int} {frm period:Int} (h:0≤frm∧frm≤1099511627776∧1≤period∧period≤1099511627776∧(head.length:Int)+cycle.length≤1048576):validB ⟨head,frm,period,cycle⟩=(b7_ (-1) frm head && b7_ (-1) period cycle):=by
 unfold validB;rw [decide_eq_true h.1,decide_eq_true h.2.1,decide_eq_true h.2.2.1,decide_eq_true h.2.2.2.1,decide_eq_true h.2.2.2.2];simp
theorem ca_ (h c:Value) (p:Per) (w:World) (hp:a8_ w h c p) (hf:InI p.frm) (ht:InI p.period) :
  Calls Tryz.prog 62 #[perV h c p.frm p.period] w fun e w'=>e=.returned (.bool (validB p))∧Below w.heap.size w w':=by
 unfold InI at hf ht;have hh':∀ W,Below w.heap.size w W->Ints W h p.head:=fun W hb=>hp.hd.ext hb;have hc':∀ W,Below w.heap.size w W->Ints W c p.cycle:=fun W hb=>hp.cy.ext hb;have hl1:=hp.hd.len;have hl2:=hp.cy.len;obtain ⟨a1,c1,a2,c2,rfl,rfl⟩:=hp.inn.form;obtain ⟨head,frm,period,cycle⟩:=p;dsimp only at *;obtain ⟨r1,hr1⟩:∃ r1,r1=b7_ (-1) frm head:=⟨_,rfl⟩;obtain ⟨r2,hr2⟩:∃ r2,r2=b7_ (-1) period cycle:=⟨_,rfl⟩;have HR1:=hq_ hr1.symm;have HR2:=hq_ hr2.symm;clear hp hr1 hr2
 go_enter Tryz.func62,Tryz.ntmps62
 go_wp2_with (go_at_call 104;first|((with_reducible refine (jq_ (.slice a1 head.length c1) head frm _ (hh' _ xE)).mono ?_);rintro e w1 ⟨he,n1,rfl⟩;rw [HR1.out] at he;subst he)|((with_reducible refine (jq_ (.slice a2 cycle.length c2) cycle period _ (hc' _ xE)).mono ?_);rintro e w2 ⟨he,n2,rfl⟩;rw [HR2.out] at he;subst he))
 all_goals go_ret
 all_goals first
  | exact ⟨ac_ (ve_ oq_).symm,xE⟩
  | (refine ⟨ac_ ?_,xE⟩;rw [tk_ oq_,HR1.out,HR2.out];first|rfl|simp [*])
theorem u1_ (h c:Value) (p:Per) (n:Int) (w:World) (hp:a8_ w h c p) (hf:InI p.frm) (ht:InI p.period) (hn:InI n) :
  Calls Tryz.prog 107 #[perV h c p.frm p.period,.int .i64 n] w fun e w'=>e=.returned (.bool (validB p && decide (0≤n) && memB p n))∧Below w.heap.size w w':=by
 have hl:∀ W,Below w.heap.size w W->a8_ W h c p:=fun W hb=>hp.ext hb;have hf0:=hf;have ht0:=ht;unfold InI at hn hf ht;obtain ⟨a1,c1,a2,c2,rfl,rfl⟩:=hp.inn.form;have H1:∀ W,Below w.heap.size w W->Ints W (.slice a1 p.head.length c1) p.head:=fun W hb=>hp.hd.ext hb;have H2:∀ W,Below w.heap.size w W->Ints W (.slice a2 p.cycle.length c2) p.cycle:=fun W hb=>hp.cy.ext hb;have HF0:=hq_ hf0;have HT0:=hq_ ht0;clear hp hf0 ht0
 by_cases hv:validB p=true
 ·have HV:=hq_ hv;have hfp:=((as_ p).1 hv).wf.frm;have hpp:=((as_ p).1 hv).wf.per;have HW:=hq_ ((as_ p).1 hv);clear hv
  by_cases h0:0≤n
  ·by_cases hlt:n<p.frm
   ·have hm:memB p n=decide (n∈p.head):=by unfold memB;rw [if_pos hlt]
    have HM:Hid ((validB p && decide (0≤n) && memB p n)=decide (n∈p.head)):=hq_ (by rw [HV.out,hm];simp [h0]);clear hm
    go_enter Tryz.func107,Tryz.ntmps107
    go_wp2_with (first|(go_at_call 62;refine (ca_ (.slice a1 p.head.length c1) (.slice a2 p.cycle.length c2) p _ (hl _ xE) HF0.out HT0.out).mono ?_;rintro e w1 ⟨he,hb1⟩;rw [HV.out] at he;subst he;obtain ⟨hc1,hf1⟩:=au_ hb1;(try simp only [World.size_alloc,World.size_drew,af_,World.size_setCell] at hc1 hf1);have hz1:w.heap.size<w1.heap.size:=(by have h7:=hb1.size;simp at h7;omega))|(go_at_call 144;refine (le_ (.slice a1 p.head.length c1) p.head n _ (H1 _ xE)).mono ?_;rintro e w2 ⟨rfl,rfl⟩))
    go_ret;exact ⟨ac_ HM.out.symm,xE⟩
   ·have hm:memB p n=decide ((n-p.frm) % p.period∈p.cycle):=by unfold memB;rw [if_neg hlt]
    have HM:Hid ((validB p && decide (0≤n) && memB p n)=decide ((n-p.frm) % p.period∈p.cycle)):=hq_ (by rw [HV.out,hm];simp [h0]);have hsub:IntKind.i64.wrap (n-p.frm)=n-p.frm:=IntWalk.i64_in _ ⟨oq_,oq_⟩;have htm:(n-p.frm).tmod p.period=(n-p.frm) % p.period:=Int.tmod_eq_emod_of_nonneg oq_;have HSUB:=hq_ hsub;have HTM:=hq_ htm;clear hm hsub htm
    go_enter Tryz.func107,Tryz.ntmps107
    go_upto_region 5 with (go_at_call 62;refine (ca_ (.slice a1 p.head.length c1) (.slice a2 p.cycle.length c2) p _ (hl _ xE) HF0.out HT0.out).mono ?_;rintro e w1 ⟨he,hb1⟩;rw [HV.out] at he;subst he;obtain ⟨hc1,hf1⟩:=au_ hb1;(try simp only [World.size_alloc,World.size_drew,af_,World.size_setCell] at hc1 hf1);have hz1:w.heap.size<w1.heap.size:=(by have h7:=hb1.size;simp at h7;omega))
    have hge:p.frm≤n:=oq_;have hpos:0<p.period:=oq_;obtain ⟨hn1,hn2⟩:=hn;obtain ⟨ht1,ht2⟩:=ht;clear hlt hf;have hne:¬ p.period=0:=oq_;have htm:=HTM.out;go_quiet ((go_at_call 144;(first|exact hp_ (le_ (.slice a2 p.cycle.length c2) p.cycle _ _ (H2 _ xE))|exact ez_ (le_ (.slice a2 p.cycle.length c2) p.cycle _ _ (H2 _ xE)))))
    go_wp2_with fail
    go_ret;exact ⟨ac_ HM.out.symm,xE⟩
  ·have h0':decide (0≤n)=false:=by simpa using h0
   have hlt:n<0:=oq_
   go_enter Tryz.func107,Tryz.ntmps107
   go_wp2_with (go_at_call 62;refine (ca_ (.slice a1 p.head.length c1) (.slice a2 p.cycle.length c2) p _ (hl _ xE) HF0.out HT0.out).mono ?_;rintro e w1 ⟨he,hb1⟩;rw [HV.out] at he;subst he)
   go_ret;exact ⟨ac_ (by simp [h0']),xE⟩
 ·have hv':validB p=false:=by simpa using hv
  have HV:=hq_ hv';clear hv hv'
  go_enter Tryz.func107,Tryz.ntmps107
  go_wp2_with (go_at_call 62;refine (ca_ (.slice a1 p.head.length c1) (.slice a2 p.cycle.length c2) p _ (hl _ xE) HF0.out HT0.out).mono ?_;rintro e w1 ⟨he,hb1⟩;rw [HV.out] at he;subst he)
  go_ret;exact ⟨ac_ (by rw [HV.out];simp),xE⟩
theorem nt_ (a b:Int) (w:World) (ha:1≤a) (ha1:a≤9223372036854775807) (hb:0≤b) (hb1:b≤9223372036854775807) :
  Calls Tryz.prog 196 #[.int .i64 a,.int .i64 b] w fun e w'=>e=.returned (.int .i64 (Int.gcd a b:Nat))∧w=w':=by
 obtain ⟨g,hg⟩:∃ g,g=((Int.gcd a b:Nat):Int):=⟨_,rfl⟩;rw [<- hg];have HG:=hq_ hg.symm;clear hg
 go_enter Tryz.func196,Tryz.ntmps196
 go_wp2_with fail
 go_loop [0,1] (fun vx vy=>∃ x y:Int,vx=.int .i64 x∧vy=.int .i64 y∧0≤x∧x≤9223372036854775807∧0≤y∧y≤9223372036854775807∧Int.gcd x y=Int.gcd a b) (fun _ vy=>(intOf vy).toNat)
 case atStart=>exact ⟨a,b,rfl,rfl,oq_,ha1,hb,hb1,rfl⟩
 case round=>
  obtain ⟨x,y,rfl,rfl,hx0,hx1,hy0,hy1,hgxy⟩:=hrel;have HX:=hq_ hgxy;clear hgxy
  by_cases hz:y=0
  ·have hxg:x=g:=by have:=gcd_zero hx0;rw [hz] at HX;rw [HX.out,HG.out] at this;exact this.symm
   have HXG:=hq_ hxg;have hzb:(y != 0)=false:=by simp [hz]
   clear hxg hz;go_wp2_with fail
   go_ret;exact ⟨d2_ HXG.out,rfl⟩
  ·have hypos:0<y:=oq_;have hs:=gj_ hx0 hypos;rw [HX.out] at hs;have HS:=hq_ hs;clear hs;have hm0:=Int.emod_nonneg x (show y≠0 by omega);have hm1:=Int.emod_lt_of_pos x (show 0<y by omega);have hzb:(y != 0)=true:=by rw [bne_iff_ne];omega
   go_wp2_with fail
   go_round
   case rel=>exact ⟨y,x % y,rfl,rfl,hy0,hy1,hm0,oq_,HS.out⟩
   case measure=>simp [intOf];omega
theorem xi_ (q:Int->Bool) (h:k<l.length):(((l.take (k+1)).countP q:Nat):Int)=((l.take k).countP q:Nat)+if q (l.getD k 0)=true then 1 else 0:=by
 rw [List.take_succ_eq_append_getElem h,List.countP_append,List.getD_eq_getElem?_getD,List.getElem?_eq_getElem h];simp only [Option.getD_some,List.countP_singleton]
 split <;> simp
theorem xo_ (h c:Value) (p:Per) (n:Int) (w:World) (hp:a8_ w h c p) (hw:p.WF) (h1:p.frm≤1125899906842624) (h2:p.period≤1125899906842624) (hn:0≤n) (hn2:n≤9007199254740992) :
  Calls Tryz.prog 126 #[perV h c p.frm p.period,.int .i64 n] w fun e w'=>e=.returned (.int .i64 (ay_ p n))∧Below w.heap.size w w':=by
 have f0:=hw.frm;have p0:=hw.per;have hlc:=hw.cyc.length_le oq_;have hlh:=hw.head.length_le hw.frm;obtain ⟨a1,c1,a2,c2,rfl,rfl⟩:=hp.inn.form;have H1:=hq_ hp.hd;have H2:=hq_ hp.cy;clear hp
 go_enter Tryz.func126,Tryz.ntmps126
 go_upto_region 2 with (fail)
 refine al_ (F:=fun U=>Bxx U w.heap.size #[.slice a1 p.head.length c1,.int .i64 p.frm,.int .i64 p.period,.slice a2 p.cycle.length c2] 39∧Below w.heap.size w U) ⟨xB,xE⟩ ?_;rintro W1 ⟨hbx,hE⟩;have HBX:=hq_ hbx;have HE:=hq_ hE;clear hbx hE;go_wp2_with fail
 go_loopw [5,6] (fun cn i wr=>∃ k:Nat,k≤p.head.length∧i=.int .i64 k∧cn=.int .i64 (((p.head.take k).countP (fun y=>decide (y<n)):Nat):Int)∧Below W1.heap.size W1 wr) (fun _ i _=>p.head.length-(intOf i).toNat)
 case atStart=>exact ⟨0,oq_,rfl,rfl,Below.refl _ _⟩
 case round=>
  obtain ⟨k,hk,rfl,rfl,hb⟩:=hrel;have HB:=hq_ hb;have hbx:=HBX.out.below hb;have q0:=(hbx.cells 0).1;have q1:=(hbx.cells 1).1;have q2:=(hbx.cells 2).1;have q3:=(hbx.cells 3).1;have hcb:=List.countP_le_length (p:=fun y=>decide (y<n)) (l:=p.head.take k);rw [List.length_take] at hcb
  by_cases hlt:k<p.head.length
  ·have hlI:(k:Int)<p.head.length:=oq_;obtain ⟨⟨a',c',he,_,_,h3⟩,_,hrg⟩:=(H1.out.ext HE.out).ext hb;injection he with e1 _ e2
   subst e1;subst e2;rcases h3 with h3|⟨b,o,rfl,hcell⟩
   ·rw [h3] at hlt;simp at hlt
   have hcl:=hcell k hlt;have HSU:=hq_ (xi_ (fun y=>decide (y<n)) hlt);generalize p.head.getD k 0=y at *;obtain ⟨cn,hcn⟩:∃ cn,cn=((p.head.take k).countP (fun y=>decide (y<n))):=⟨_,rfl⟩;rw [<- hcn] at hcb HSU;rw [<- hcn];clear hcell hcn hb hbx
   by_cases hy:y<n
   ·have d1:decide (y<n)=true:=by simp [hy]
    go_wp2_with fail
    go_roundw
    case rel=>exact ⟨k+1,oq_,by go_num,by rw [HSU.out,if_pos d1],by have hb:=HB.out;exact xE⟩
    case measure=>simp [intOf];omega
   ·have d1:decide (y<n)=false:=by simp;omega
    go_wp2_with fail
    go_roundw
    case rel=>exact ⟨k+1,oq_,by go_num,by rw [HSU.out,if_neg (by rw [d1];simp)];simp,by have hb:=HB.out;exact xE⟩
    case measure=>simp [intOf];omega
  ·obtain rfl:k=p.head.length:=oq_;rw [List.take_length] at hcb ⊢
   by_cases hle:n≤p.frm
   ·have HM:Hid (ay_ p n=((p.head.countP (fun y=>decide (y<n)):Nat):Int)):=hq_ (by unfold ay_;rw [if_pos hle]);go_wp2_with fail
    go_ret;exact ⟨d2_ HM.out.symm,by have hE:=HE.out;have hb:=HB.out;exact xE⟩
   ·have hgt:p.frm<n:=oq_;have HM:Hid (ay_ p n=p.head.length+(n-p.frm) / p.period*p.cycle.length+((p.cycle.countP (fun y=>decide (y<(n-p.frm) % p.period)):Nat):Int)):=hq_ (by unfold ay_;rw [if_neg hle]);have hall:p.head.countP (fun y=>decide (y<n))=p.head.length:=fn_ hw.head oq_;rw [hall];obtain ⟨pb1,pb2⟩:=prod_bound (n:=n) (f:=p.frm) (k:=p.cycle.length) p0 oq_ oq_ oq_;have hne:¬ p.period=0:=oq_;have htm:(n-p.frm).tmod p.period=(n-p.frm) % p.period:=Int.tmod_eq_emod_of_nonneg oq_;have htd:(n-p.frm).tdiv p.period=(n-p.frm) / p.period:=Int.tdiv_eq_ediv_of_nonneg oq_;have hq0:0≤(n-p.frm) / p.period:=Int.ediv_nonneg oq_ oq_;have hq1:(n-p.frm) / p.period≤n-p.frm:=Int.ediv_le_self _ oq_;have hled:decide (n≤p.frm)=false:=by simp;omega
    clear hall hlt hle hb hbx hcb;go_upto_region 9 with (fail)
    go_quiet (fail)
    obtain ⟨M,hM⟩:∃ M,M=(n-p.frm) % p.period:=⟨_,rfl⟩;obtain ⟨S,hS⟩:∃ S,S=(p.head.length:Int)+(n-p.frm) / p.period*p.cycle.length:=⟨_,rfl⟩;rw [<- hM,<- hS] at HM;rw [<- hS];rw [<- hM] at htm;have hS0:0≤S∧S≤9007199254740992+9007199254740992:=oq_;clear hS hM htd hq0 hq1 pb1 pb2;go_wp2_with fail
    go_loopw [5,7] (fun cn i wq=>∃ j:Nat,j≤p.cycle.length∧i=.int .i64 j∧cn=.int .i64 (S+((p.cycle.take j).countP (fun y=>decide (y<M)):Nat))∧Below wr.heap.size wr wq) (fun _ i _=>p.cycle.length-(intOf i).toNat)
    case atStart=>exact ⟨0,oq_,rfl,sq_,xE⟩
    case round=>
     obtain ⟨j,hj,rfl,rfl,hbq⟩:=hrel;have HBQ:=hq_ hbq;have hbx:=(HBX.out.below HB.out).below hbq;have q0:=(hbx.cells 0).1;have q1:=(hbx.cells 1).1;have q2:=(hbx.cells 2).1;have q3:=(hbx.cells 3).1;have hcb:=List.countP_le_length (p:=fun y=>decide (y<M)) (l:=p.cycle.take j);rw [List.length_take] at hcb
     by_cases hlt:j<p.cycle.length
     ·have hlI:(j:Int)<p.cycle.length:=oq_;obtain ⟨⟨a',c',he,_,_,h3⟩,_,hrg⟩:=((H2.out.ext HE.out).ext HB.out).ext hbq;injection he with e1 _ e2
      subst e1;subst e2;rcases h3 with h3|⟨b,o,rfl,hcell⟩
      ·rw [h3] at hlt;simp at hlt
      have hcl:=hcell j hlt;have HSU:=hq_ (xi_ (fun y=>decide (y<M)) hlt);generalize p.cycle.getD j 0=y at *;obtain ⟨cn,hcn⟩:∃ cn,cn=((p.cycle.take j).countP (fun y=>decide (y<M))):=⟨_,rfl⟩;rw [<- hcn] at hcb HSU;rw [<- hcn];clear hcell hcn hbq hbx
      by_cases hy:y<M
      ·have d1:decide (y<M)=true:=by simp [hy]
       go_wp2_with fail
       go_quiet (fail)
       go_wp2_with fail
       go_roundw
       case rel=>exact ⟨j+1,oq_,by go_num,by rw [HSU.out,if_pos d1];congr 1;omega,by have hb:=HBQ.out;exact xE⟩
       case measure=>simp [intOf];omega
      ·have d1:decide (y<M)=false:=by simp;omega
       go_wp2_with fail
       go_quiet (fail)
       go_wp2_with fail
       go_roundw
       case rel=>exact ⟨j+1,oq_,by go_num,by rw [HSU.out,if_neg (by rw [d1];simp)];simp,by have hb:=HBQ.out;exact xE⟩
       case measure=>simp [intOf];omega
     ·obtain rfl:j=p.cycle.length:=oq_;rw [List.take_length] at hcb ⊢;go_wp2_with fail
      go_ret;exact ⟨d2_ HM.out.symm,by have hE:=HE.out;have hb:=HB.out;have hbq:=HBQ.out;exact xE⟩
theorem OwnI.empty (hb:base≤w.heap.size):OwnI (w.alloc (.cells #[] 3)) base (.slice (some ⟨w.heap.size,0,none⟩) 0 0) []:=
 ⟨⟨sq_,.inr ⟨w.heap.size,0,#[],rfl,hb,World.alloc_heap_new _ _,sq_,by unfold maxLen;omega,sq_,sq_⟩⟩,sq_,sq_⟩
def inW (lo hi:Int) (y:Int):Bool:=decide (lo≤y) && decide (y<hi)
theorem du_:inW lo hi y=true↔lo≤y∧y<hi:=by unfold inW;simp
theorem cl_ (p:Int->Bool) (h:k<l.length):(l.take (k+1)).filter p=(l.take k).filter p ++ (if p (l.getD k 0)=true then [l.getD k 0] else []):=by
 rw [List.take_succ_eq_append_getElem h,List.filter_append,List.getD_eq_getElem?_getD,List.getElem?_eq_getElem h]
 congr 1
 by_cases hp:p l[k]=true <;> simp [hp]
theorem tm_ (hw:p.WF) (h0:0≤lo):p.head.filter (inW lo hi)=sel p.mem lo (min hi p.frm):=by
 refine (hw.head.filter _).ext (ad_ h0) fun x=>?_;rw [List.mem_filter,ae_ h0,du_,hw.head_mem];exact ⟨fun ⟨⟨a,b,c⟩,d,e⟩=>⟨d,oq_,c⟩,fun ⟨a,b,c⟩=>⟨⟨oq_,oq_,c⟩,a,oq_⟩⟩
theorem rm_ (h0:0≤lo) (hf:p.frm<hi):sel p.mem lo (min hi p.frm)=sel p.mem lo (min hi (max lo p.frm)):=by
 refine (ad_ h0).ext (ad_ h0) fun x=>?_;rw [ae_ h0,ae_ h0];exact ⟨fun ⟨a,b,c⟩=>⟨a,oq_,c⟩,fun ⟨a,b,c⟩=>⟨a,oq_,c⟩⟩
theorem ta_ (hw:p.WF) {b:Int} (h0:0≤lo) (hs:lo≤s) (hf:p.frm≤s) (hb:p.frm≤b) (hd:(b-p.frm) % p.period=0) :
  sel p.mem lo (min hi (max b s)) ++ (p.cycle.map (b+·)).filter (inW s hi)=sel p.mem lo (min hi (max (b+p.period) s)):=by
 have hp:=hw.per;have hf0:=hw.frm;have hin:∀ x,x∈p.cycle.map (b+·)↔b≤x∧x<b+p.period∧p.mem x:=by
  intro x;rw [List.mem_map];constructor
  ·rintro ⟨c,hc,rfl⟩;have h1:=hw.cyc.2 c hc;refine ⟨oq_,oq_,?_⟩;rw [Per.mem_hi oq_ oq_,show b+c-p.frm=(b-p.frm)+c from oq_,Int.add_emod,hd,Int.zero_add,Int.emod_emod,Int.emod_eq_of_lt h1.1 h1.2];exact hc
  ·rintro ⟨h1,h2,h3⟩;rw [Per.mem_hi oq_ oq_,show x-p.frm=(b-p.frm)+(x-b) from oq_,Int.add_emod,hd,Int.zero_add,Int.emod_emod,Int.emod_eq_of_lt oq_ oq_] at h3;exact ⟨x-b,h3,oq_⟩
 have hr:Rise b (b+p.period) (p.cycle.map (b+·)):=by
  have:=hw.cyc.map_add b;have e:p.cycle.map (fun x=>x+b)=p.cycle.map (b+·):=List.map_congr_left fun x _=>Int.add_comm _ _;rw [e] at this;exact this.mono oq_ oq_
 have hr1:Rise lo (min hi (max b s)) (sel p.mem lo (min hi (max b s))):=ad_ h0;have hr2:=hr.filter (inW s hi);refine ep_ ?_ (ad_ h0).1 fun x=>?_
 ·refine List.pairwise_append.2 ⟨hr1.1,hr2.1,fun x hx y hy=>?_⟩;have h1:=hr1.2 x hx;have h2:=hr2.2 y hy;have h3:=du_.1 (List.mem_filter.1 hy).2;omega
 ·rw [List.mem_append,ae_ h0,ae_ h0,List.mem_filter,hin,du_];constructor
  ·rintro (⟨h1,h2,h3⟩|⟨⟨h1,h2,h3⟩,h4,h5⟩)
   ·exact ⟨h1,oq_,h3⟩
   ·exact ⟨oq_,oq_,h3⟩
  ·rintro ⟨h1,h2,h3⟩
   by_cases hx:x<min hi (max b s)
   ·exact .inl ⟨h1,hx,h3⟩
   ·exact .inr ⟨⟨oq_,oq_,h3⟩,oq_,oq_⟩
theorem nk_ (hc:p.cycle=[]) (h0:0≤lo):sel p.mem lo (min hi p.frm)=sel p.mem lo hi:=by
 refine (ad_ h0).ext (ad_ h0) fun x=>?_;rw [ae_ h0,ae_ h0];refine ⟨fun ⟨a,b,c⟩=>⟨a,oq_,c⟩,fun ⟨a,b,c⟩=>⟨a,?_,c⟩⟩;rcases Int.lt_or_le x p.frm with h|h
 ·omega
 ·exfalso;rw [Per.mem_hi oq_ h,hc] at c;simp at c
theorem wp_ {S:Int->Prop} (h0:0≤lo) (h1:hi≤8796093022208):(sel S lo hi).length≤8796093022208:=by
 rcases Int.lt_or_le lo hi with h|h
 ·have:=(ad_ (S:=S) (hi:=hi) h0).length_le oq_;omega
 ·rw [q5_ h0 h];simp
theorem g7_ (h c:Value) (p:Per) (lo hi:Int) (w:World) (hp:a8_ w h c p) (hw:p.WF) (h1:p.frm≤1125899906842624) (h2:p.period≤1125899906842624) (h0:0≤lo) (h3:lo≤1125899906842624) (h4:-9223372036854775808≤hi) (h5:hi≤8796093022208) :
  Calls Tryz.prog 168 #[perV h c p.frm p.period,.int .i64 lo,.int .i64 hi] w (ib_ (sel p.mem lo hi) w):=by
 have f0:=hw.frm;have p0:=hw.per;obtain ⟨a1,c1,a2,c2,rfl,rfl⟩:=hp.inn.form;have H1:=hq_ hp.hd;have H2:=hq_ hp.cy;have HW:=hq_ hw;clear hp hw
 go_enter Tryz.func168,Tryz.ntmps168
 go_upto_region 1 with (fail)
 refine al_ (F:=fun U=>Bxx U w.heap.size #[.slice a1 p.head.length c1,.int .i64 p.frm,.int .i64 p.period,.slice a2 p.cycle.length c2] 39∧w.heap.size<U.heap.size∧Below w.heap.size w U) ⟨xB,sq_,xE⟩ ?_;rintro W1 ⟨hbx,hz1,hE⟩;have HBX:=hq_ hbx;have HE:=hq_ hE;clear hbx hE;go_upto_region 2 with (fail)
 refine al_ (F:=fun U=>OwnI U W1.heap.size (.slice (some ⟨W1.heap.size,0,none⟩) 0 0) []∧Below W1.heap.size W1 U) ⟨OwnI.empty (Nat.le_refl _),xE⟩ ?_;rintro W2 ⟨hown0,hE2⟩;go_wp2_with fail
 go_loopw [7,8] (fun o i wr=>∃ k:Nat,k≤p.head.length∧i=.int .i64 k∧OwnI wr W1.heap.size o ((p.head.take k).filter (inW lo hi))∧Below W1.heap.size W1 wr) (fun _ i _=>p.head.length-(intOf i).toNat)
 case atStart=>exact ⟨0,oq_,rfl,hown0,hE2⟩
 case round=>
  obtain ⟨k,hk,rfl,hown,hb⟩:=hrel;have HB:=hq_ hb;have hszr:=hb.size;have hbx:=HBX.out.below hb;have q0:=(hbx.cells 0).1;have q1:=(hbx.cells 1).1;have q2:=(hbx.cells 2).1;have q3:=(hbx.cells 3).1;have hlb:=hbx.lt
  by_cases hlt:k<p.head.length
  ·have hlI:(k:Int)<p.head.length:=oq_;obtain ⟨⟨a',c',he,_,_,h38⟩,hlen8,hrg⟩:=(H1.out.ext HE.out).ext hb;injection he with e1 _ e2
   subst e1;subst e2;rcases h38 with h38|⟨b,o,rfl,hcell⟩
   ·rw [h38] at hlt;simp at hlt
   have hcl:=hcell k hlt;have hyI:=hrg _ (ah_ hlt);unfold InI at hyI;have HSU:=hq_ (cl_ (inW lo hi) hlt);have hll:=List.length_filter_le (inW lo hi) (p.head.take k);rw [List.length_take] at hll;generalize p.head.getD k 0=y at *;obtain ⟨L,hL⟩:∃ L,L=(p.head.take k).filter (inW lo hi):=⟨_,rfl⟩;rw [<- hL] at hown hll HSU;obtain ⟨oa,oc,rfl⟩:=hown.form;have HOWN:=hq_ hown;clear hcell hL hown hb hbx hrg
   by_cases hy1:lo≤y
   ·have d1:decide (lo≤y)=true:=by simp [hy1]
    by_cases hy2:y<hi
    ·have d2:decide (y<hi)=true:=by simp [hy2]
     have HIN:Hid (inW lo hi y=true):=hq_ (du_.2 ⟨hy1,hy2⟩);go_wp2_with (at_builtin;refine aj_ rq_ _ _ rq_ W1.heap.size (.slice oa L.length oc) L y rq_ (HOWN.out.ext xE) _ _ rq_ (by first|(simp;done)|exact ((Bxx.new _ #[.int .i64 y] _).cells 0).1) ⟨oq_,oq_⟩ oq_ tq_ ?_;intro gg cap w6 hown6 hgrow6 hbel6)
     go_roundw
     case rel=>
      refine ⟨k+1,oq_,by go_num,?_,(HB.out.alloc oq_ _).trans hbel6⟩;rw [HSU.out,HIN.out,if_pos rfl];exact hown6
     case measure=>simp [intOf];omega
    ·have d2:decide (y<hi)=false:=by simp;omega
     have HIN:Hid (inW lo hi y=false):=hq_ (by rw [Bool.eq_false_iff];intro h;have:=du_.1 h;omega);go_wp2_with fail
     go_roundw
     case rel=>
      refine ⟨k+1,oq_,by go_num,?_,HB.out⟩;rw [HSU.out,HIN.out,if_neg sq_,List.append_nil];exact HOWN.out
     case measure=>simp [intOf];omega
   ·have d1:decide (lo≤y)=false:=by simp;omega
    have HIN:Hid (inW lo hi y=false):=hq_ (by rw [Bool.eq_false_iff];intro h;have:=du_.1 h;omega);go_wp2_with fail
    go_roundw
    case rel=>
     refine ⟨k+1,oq_,by go_num,?_,HB.out⟩;rw [HSU.out,HIN.out,if_neg sq_,List.append_nil];exact HOWN.out
    case measure=>simp [intOf];omega
  ·obtain rfl:k=p.head.length:=oq_;rw [List.take_length,tm_ HW.out h0] at hown
   by_cases hc0:p.cycle.length=0
   ·have hcI:((p.cycle.length:Int) == 0)=true:=by simp [hc0]
    rw [nk_ (List.eq_nil_of_length_eq_zero hc0) h0] at hown;obtain ⟨oa,oc,rfl⟩:=hown.form;have HOWN:=hq_ hown;clear hown hb hbx hc0;go_wp2_with fail
    go_ret;exact ⟨_,rfl,HOWN.out.mono oq_,HE.out.trans (HB.out.mono oq_)⟩
   ·have hcI:((p.cycle.length:Int) == 0)=false:=by rw [beq_eq_false_iff_ne];omega
    by_cases hle:hi≤p.frm
    ·rw [show min hi p.frm=hi from by omega] at hown;obtain ⟨oa,oc,rfl⟩:=hown.form;have HOWN:=hq_ hown;clear hown hb hbx hc0;go_wp2_with fail
     go_ret;exact ⟨_,rfl,HOWN.out.mono oq_,HE.out.trans (HB.out.mono oq_)⟩
    ·have hgt:p.frm<hi:=oq_;rw [rm_ h0 hgt] at hown;obtain ⟨s,hs⟩:∃ s,s=max lo p.frm:=⟨_,rfl⟩;have hs0:lo≤s∧p.frm≤s∧s≤1125899906842624:=oq_;rw [<- hs] at hown;have HS:=hq_ hs.symm;have e0:=Int.emod_nonneg (s-p.frm) (show p.period≠0 by omega);have e2:=Int.emod_add_ediv_mul (s-p.frm) p.period;have e3:=Int.mul_nonneg (Int.ediv_nonneg (show 0≤s-p.frm by omega) (show 0≤p.period by omega)) (show 0≤p.period by omega);have hb0:∃ b0,b0=s-(s-p.frm) % p.period∧p.frm≤b0∧b0≤s∧(b0-p.frm) % p.period=0:=⟨_,rfl,oq_,oq_,by
      rw [show s-(s-p.frm) % p.period-p.frm=(s-p.frm) / p.period*p.period from by omega];exact Int.mul_emod_left _ _⟩
     obtain ⟨b0,hb0,hb1,hb2,hb3⟩:=hb0;obtain ⟨oa,oc,rfl⟩:=hown.form;have HOWN:=hq_ hown;have HB3:=hq_ hb3;have HB0:=hq_ hb0.symm;have hled:decide (hi≤p.frm)=false:=by simp;omega
     clear hown hb hbx hc0 hs hb0 hb3 hle e2 e3;go_upto_region 10 with (fail)
     rw [HS.out];have hne:¬ p.period=0:=oq_;have hsf:0≤s-p.frm:=oq_;have hem:=Int.emod_lt_of_pos (s-p.frm) (show 0<p.period by omega);go_wp2_with fail
     rw [HB0.out];clear hem hsf e0
     go_loopw [7,10] (fun o vb wq=>∃ b:Int,vb=.int .i64 b∧p.frm≤b∧b≤4503599627370496∧(b-p.frm) % p.period=0∧OwnI wq W1.heap.size o (sel p.mem lo (min hi (max b s)))∧Below W1.heap.size W1 wq) (fun _ vb _=>(hi-intOf vb).toNat)
     case atStart=>exact ⟨b0,rfl,hb1,oq_,HB3.out,by rw [show max b0 s=s from by omega];exact HOWN.out,HB.out⟩
     case round=>
      obtain ⟨b,rfl,hbf,hbm,hbd,hown,hbq⟩:=hrel;have HBQ:=hq_ hbq;have HBD:=hq_ hbd;have hszq:=hbq.size;obtain ⟨oa9,oc9,rfl⟩:=hown.form;have HOW:=hq_ hown;obtain ⟨L,hL⟩:∃ L,L=sel p.mem lo (min hi (max b s)):=⟨_,rfl⟩;rw [<- hL] at HOW;rw [<- hL];have HL:=hq_ hL;clear hown hbd hL hbq
      by_cases hbh:b<hi
      ·have HST:=hq_ (ta_ HW.out (hi:=hi) h0 hs0.1 hs0.2.1 hbf HBD.out);rw [<- HL.out] at HST;obtain ⟨cs,hcs⟩:∃ cs,cs=p.cycle.map (b+·):=⟨_,rfl⟩;rw [<- hcs] at HST;have hcl:cs.length=p.cycle.length:=by rw [hcs,List.length_map]
       have HCL:=hq_ hcl;have HCG:Hid (∀ j,j<p.cycle.length->cs.getD j 0=b+p.cycle.getD j 0):=hq_ (fun j hj=>by
        rw [hcs,List.getD_eq_getElem?_getD,List.getD_eq_getElem?_getD,List.getElem?_map,List.getElem?_eq_getElem hj];rfl)
       clear hcs hcl;go_wp2_with fail
       go_loopw [7,11] (fun o vj wq2=>∃ j:Nat,j≤p.cycle.length∧vj=.int .i64 j∧OwnI wq2 W1.heap.size o (L ++ (cs.take j).filter (inW s hi))∧Below W1.heap.size W1 wq2) (fun _ vj _=>p.cycle.length-(intOf vj).toNat)
       case atStart=>exact ⟨0,oq_,rfl,by simpa using HOW.out,HBQ.out⟩
       case round=>
        obtain ⟨j,hj,rfl,hown,hb2⟩:=hrel;have HB2:=hq_ hb2;have hsz2:=hb2.size;have hbx:=HBX.out.below hb2;have q0:=(hbx.cells 0).1;have q1:=(hbx.cells 1).1;have q2:=(hbx.cells 2).1;have q3:=(hbx.cells 3).1;have hlb:=hbx.lt;obtain ⟨ob,obc,rfl⟩:=hown.form
        by_cases hlt:j<p.cycle.length
        ·have hlI:(j:Int)<p.cycle.length:=oq_;obtain ⟨⟨a',c',he,_,_,h38⟩,hlen8,hrg⟩:=(H2.out.ext HE.out).ext hb2;injection he with e1 _ e2
         subst e1;subst e2;rcases h38 with h38|⟨b8,o8,rfl,hcell⟩
         ·rw [h38] at hlt;simp at hlt
         have hcl:=hcell j hlt;have hyb:=HW.out.cyc.2 _ (ah_ hlt);have HSU:=hq_ (cl_ (inW s hi) (l:=cs) (k:=j) (by rw [HCL.out];exact hlt));rw [HCG.out j hlt] at HSU;have hll:(L ++ (cs.take j).filter (inW s hi)).length≤8796093022208:=by
          have h1:List.Sublist (L ++ (cs.take j).filter (inW s hi)) (L ++ cs.filter (inW s hi)):=List.Sublist.append (List.Sublist.refl _) ((List.take_sublist j cs).filter _);have h2:=h1.length_le;rw [HST.out] at h2;have h3:=wp_ (S:=p.mem) (lo:=lo) (hi:=min hi (max (b+p.period) s)) h0 oq_;omega
         generalize p.cycle.getD j 0=y at *;obtain ⟨X,hX⟩:∃ X,X=L ++ (cs.take j).filter (inW s hi):=⟨_,rfl⟩;rw [<- hX] at hown hll;rw [<- hX];have HX:=hq_ hX;have HOWN:=hq_ hown;clear hcell hX hown hb2 hbx hrg
         by_cases hy1:s≤b+y
         ·have d1:decide (s≤b+y)=true:=by simp [hy1]
          by_cases hy2:b+y<hi
          ·have d2:decide (b+y<hi)=true:=by simp [hy2]
           have HIN:Hid (inW s hi (b+y)=true):=hq_ (du_.2 ⟨hy1,hy2⟩);go_wp2_with (at_builtin;refine aj_ rq_ _ _ rq_ W1.heap.size (.slice ob X.length obc) X (b+y) rq_ (HOWN.out.ext xE) _ _ rq_ (by first|(simp;done)|exact ((Bxx.new _ #[.int .i64 (b+y)] _).cells 0).1) ⟨oq_,oq_⟩ oq_ tq_ ?_;intro gg cap w6 hown6 hgrow6 hbel6)
           go_roundw
           case rel=>
            refine ⟨j+1,oq_,by go_num,?_,(HB2.out.alloc oq_ _).trans hbel6⟩;rw [HSU.out,HIN.out,if_pos rfl,<- List.append_assoc,<- HX.out];exact hown6
           case measure=>simp [intOf];omega
          ·have d2:decide (b+y<hi)=false:=by simp;omega
           have HIN:Hid (inW s hi (b+y)=false):=hq_ (by rw [Bool.eq_false_iff];intro h;have:=du_.1 h;omega);go_wp2_with fail
           go_roundw
           case rel=>
            refine ⟨j+1,oq_,by go_num,?_,HB2.out⟩;rw [HSU.out,HIN.out,if_neg sq_,List.append_nil,<- HX.out];exact HOWN.out
           case measure=>simp [intOf];omega
         ·have d1:decide (s≤b+y)=false:=by simp;omega
          have HIN:Hid (inW s hi (b+y)=false):=hq_ (by rw [Bool.eq_false_iff];intro h;have:=du_.1 h;omega);go_wp2_with fail
          go_roundw
          case rel=>
           refine ⟨j+1,oq_,by go_num,?_,HB2.out⟩;rw [HSU.out,HIN.out,if_neg sq_,List.append_nil,<- HX.out];exact HOWN.out
          case measure=>simp [intOf];omega
        ·obtain rfl:j=p.cycle.length:=oq_;have HLN:Hid (L ++ (cs.take p.cycle.length).filter (inW s hi)=sel p.mem lo (min hi (max (b+p.period) s))):=hq_ (by rw [List.take_of_length_le (by rw [HCL.out];exact Nat.le_refl _),HST.out]);rw [HLN.out] at hown ⊢;have HOWN:=hq_ hown;have HDN:Hid ((b+p.period-p.frm) % p.period=0):=hq_ (by rw [show b+p.period-p.frm=(b-p.frm)+p.period from oq_,Int.add_emod_right,HBD.out]);clear hown hb2;go_wp2_with fail
         go_roundw
         case rel=>exact ⟨b+p.period,rfl,oq_,oq_,HDN.out,HOWN.out,HB2.out⟩
         case measure=>simp [intOf];omega
      ·have HHI:Hid (min hi (max b s)=hi):=hq_ oq_;have HOZ:Hid (OwnI wr W1.heap.size (.slice oa9 L.length oc9) (sel p.mem lo hi)):=hq_ (by have h:=HOW.out;have h2:=HL.out;rw [HHI.out] at h2;rw [<- h2];exact h);have HLL:Hid (L.length=(sel p.mem lo hi).length):=hq_ (by rw [HL.out,HHI.out]);go_wp2_with fail
       go_ret;exact ⟨_,rfl,HOZ.out.mono oq_,HE.out.trans (HBQ.out.mono oq_)⟩
theorem j2_ {b:Nat} {x0 x1 x2 x3:Value} {t:TypeId} (h:Bxx W b #[x0,x1,x2,x3] t):Bxx (W.setCell ⟨b,0,none⟩ v) b #[v,x1,x2,x3] t:=a4_ 0 v h
theorem d3_ (h:k<l.length):l.take (k+1)=l.take k ++ [l.getD k 0]:=by
 rw [List.take_succ_eq_append_getElem h,List.getD_eq_getElem?_getD,List.getElem?_eq_getElem h];rfl
theorem jk_ (v:Value) (l:List Int) (w:World) (hv:Ints w v l) :
  Calls Tryz.prog 169 #[v] w (ib_ l w):=by
 have HV:=hq_ hv;obtain ⟨⟨a1,c1,rfl,_,_,_⟩,hlen,_⟩:=hv
 go_enter Tryz.func169,Tryz.ntmps169
 go_upto_region 2 with (fail)
 refine al_ (F:=fun U=>OwnI U w.heap.size (.slice (some ⟨w.heap.size,0,none⟩) 0 0) []∧Below w.heap.size w U) ⟨OwnI.empty (Nat.le_refl _),xE⟩ ?_;rintro W2 ⟨hown0,hE2⟩;go_wp2_with fail
 go_loopw [3,4] (fun o i wr=>∃ k:Nat,k≤l.length∧i=.int .i64 k∧OwnI wr w.heap.size o (l.take k)∧Below w.heap.size w wr) (fun _ i _=>l.length-(intOf i).toNat)
 case atStart=>exact ⟨0,oq_,rfl,hown0,hE2⟩
 case round=>
  obtain ⟨k,hk,rfl,hown,hb⟩:=hrel;have HB:=hq_ hb;have hszr:=hb.size
  by_cases hlt:k<l.length
  ·have hlI:(k:Int)<l.length:=oq_;obtain ⟨⟨a',c',he,_,_,h38⟩,_,hrg⟩:=HV.out.ext hb;injection he with e1 _ e2
   subst e1;subst e2;rcases h38 with h38|⟨b,o,rfl,hcell⟩
   ·rw [h38] at hlt;simp at hlt
   have hcl:=hcell k hlt;have hyI:=hrg _ (ah_ hlt);unfold InI at hyI;have HSU:=hq_ (d3_ hlt);have hll:(l.take k).length=k:=by simp;omega
   generalize l.getD k 0=y at *;obtain ⟨L,hL⟩:∃ L,L=l.take k:=⟨_,rfl⟩;rw [<- hL] at hown hll HSU;obtain ⟨oa,oc,rfl⟩:=hown.form;have HOWN:=hq_ hown;clear hcell hL hown hb hrg;go_wp2_with (at_builtin;refine aj_ rq_ _ _ rq_ w.heap.size (.slice oa L.length oc) L y rq_ (HOWN.out.ext xE) _ _ rq_ (by first|(simp;done)|exact ((Bxx.new _ #[.int .i64 y] _).cells 0).1) ⟨oq_,oq_⟩ oq_ tq_ ?_;intro gg cap w6 hown6 hgrow6 hbel6)
   go_roundw
   case rel=>
    refine ⟨k+1,oq_,by go_num,?_,(HB.out.alloc oq_ _).trans hbel6⟩;rw [HSU.out];rw [hll] at hown6;exact hown6
   case measure=>simp [intOf];omega
  ·obtain rfl:k=l.length:=oq_;rw [List.take_length] at hown;have HOWN:=hq_ hown;obtain ⟨oa,oc,rfl⟩:=hown.form;clear hown hb;go_wp2_with fail
   go_ret;exact ⟨_,rfl,HOWN.out,HB.out⟩
theorem sl_ (A B:List Int) (a x:Int):((A ++ a :: x :: B).set (A.length+1) a).set A.length x=A ++ x :: a :: B:=by
 simp [List.set_append]
theorem OwnI.swap {n:Nat} {A B:List Int} (h:OwnI w base (.slice (some ⟨g,0,none⟩) n cap) (A ++ a :: x :: B)) (hn:n=(A ++ a :: x :: B).length) :
  OwnI ((w.setCell ⟨g,A.length+1,none⟩ (.int .i64 a)).setCell ⟨g,A.length,none⟩ (.int .i64 x)) base (.slice (some ⟨g,0,none⟩) n cap) (A ++ x :: a :: B):=by
 have hr:=h.row;subst hn;have h1:=(hr.stored (A.length+1) (.int .i64 a)).1;have h2:=(h1.stored A.length (.int .i64 x)).1;rw [<- List.map_set (f:=Value.int .i64),<- List.map_set (f:=Value.int .i64),sl_] at h2;refine ⟨?_,fun y hy=>h.rng y (by simp at hy ⊢;grind),by have:=h.len;simp at this ⊢;omega⟩;have e:(A ++ x :: a :: B).length=(A ++ a :: x :: B).length:=by simp
 rw [e];exact h2
theorem lw_ (h:j<X.length) (x:Int):X.take (j+1) ++ x :: X.drop (j+1)=X.take j ++ X.getD j 0 :: x :: X.drop (j+1):=by
 rw [d3_ h];simp
theorem r0_ (h:j<X.length) (x:Int):X.take j ++ x :: X.getD j 0 :: X.drop (j+1)=X.take j ++ x :: X.drop j:=by
 rw [<- drop_cons h]
theorem rv_ (hX:X.Pairwise (· < ·)) (hj:j≤X.length) (hlo:j=0∨X.getD (j-1) 0<x) (hhi:∀ y∈X.drop j,x<y):(X.take j ++ x :: X.drop j).Pairwise (· < ·):=by
 have hlow:∀ y∈X.take j,y<x:=by
  rcases hlo with rfl|hlo
  ·simp
  ·intro y hy;obtain ⟨i,hi,rfl⟩:=List.mem_take_iff_getElem.1 hy;have hi2:i<j∧i<X.length:=oq_;have e:X.getD (j-1) 0=X[j-1]' oq_:=by rw [List.getD_eq_getElem?_getD,List.getElem?_eq_getElem oq_];rfl
   rw [e] at hlo;rcases Nat.lt_or_ge i (j-1) with h|h
   ·have:=List.pairwise_iff_getElem.1 hX i (j-1) hi2.2 oq_ h;omega
   ·have:i=j-1:=oq_;subst this;exact hlo
 refine List.pairwise_append.2 ⟨hX.sublist (List.take_sublist _ _),List.pairwise_cons.2 ⟨fun y hy=>hhi y hy,hX.sublist (List.drop_sublist _ _)⟩,fun y hy z hz=>?_⟩;rw [List.mem_cons] at hz;have h1:=hlow y hy;rcases hz with rfl|hz
 ·exact h1
 ·have:=hhi z hz;omega
theorem ut_ (h:j<X.length):(X.take (j+1) ++ x :: X.drop (j+1))[j]? = some (X.getD j 0):=by
 rw [lw_ h,List.getElem?_append_right tq_,List.length_take,show j-min j X.length=0 from by omega];rfl
theorem uw_ (h:j≤X.length):(X.take j ++ x :: X.drop j)[j]? = some x:=by
 rw [List.getElem?_append_right tq_,List.length_take,show j-min j X.length=0 from by omega];rfl
theorem wj_ (y:Int):y∈X.take j ++ x :: X.drop j↔y∈X∨y=x:=by
 rw [List.mem_append,List.mem_cons];constructor
 ·rintro (h|rfl|h)
  ·exact .inl (List.mem_of_mem_take h)
  ·exact .inr rfl
  ·exact .inl (List.mem_of_mem_drop h)
 ·rintro (h|rfl)
  ·rw [<- List.take_append_drop j X,List.mem_append] at h;rcases h with h|h
   ·exact .inl h
   ·exact .inr (.inr h)
  ·exact .inr (.inl rfl)
theorem jf_ (v:Value) (l:List Int) (w:World) (hv:Ints w v l) (hnd:l.Nodup) :
  Calls Tryz.prog 172 #[v] w (ib_ (a0_ l) w):=by
 have HV:=hq_ hv;have HND:=hq_ hnd;obtain ⟨⟨a1,c1,rfl,_,_,_⟩,hlen,_⟩:=hv;clear hnd
 go_enter Tryz.func172,Tryz.ntmps172
 go_upto_region 2 with (fail)
 refine al_ (F:=fun U=>OwnI U w.heap.size (.slice (some ⟨w.heap.size,0,none⟩) 0 0) []∧Below w.heap.size w U) ⟨OwnI.empty (Nat.le_refl _),xE⟩ ?_;rintro W2 ⟨hown0,hE2⟩;go_wp2_with fail
 go_loopw [3,4] (fun o i wr=>∃ (k:Nat) (X:List Int),k≤l.length∧i=.int .i64 k∧OwnI wr w.heap.size o X∧X.length=k∧X.Pairwise (· < ·)∧(∀ y,y∈X↔y∈l.take k)∧Below w.heap.size w wr) (fun _ i _=>l.length-(intOf i).toNat)
 case atStart=>exact ⟨0,[],oq_,rfl,hown0,rfl,.nil,sq_,hE2⟩
 case round=>
  obtain ⟨k,X,hk,rfl,hown,hXl,hXp,hXm,hb⟩:=hrel;have HB:=hq_ hb;have HXP:=hq_ hXp;have HXM:=hq_ hXm;have hszr:=hb.size;clear hXp hXm
  by_cases hlt:k<l.length
  ·have hlI:(k:Int)<l.length:=oq_;obtain ⟨⟨a',c',he,_,_,h38⟩,_,hrg⟩:=HV.out.ext hb;injection he with e1 _ e2
   subst e1;subst e2;rcases h38 with h38|⟨b,o,rfl,hcell⟩
   ·rw [h38] at hlt;simp at hlt
   have hcl:=hcell k hlt;have hyI:=hrg _ (ah_ hlt);unfold InI at hyI;have HSU:=hq_ (d3_ hlt);have hnew:l.getD k 0 ∉ X:=by
    intro h;have h2:=(HXM.out _).1 h;have h3:=(List.nodup_append.1 (HSU.out ▸ (HND.out.sublist (List.take_sublist (k+1) l)))).2.2 _ h2 (l.getD k 0) sq_;exact h3 rfl
   have HNEW:=hq_ hnew;clear hnew;generalize l.getD k 0=x at *;obtain ⟨oa,oc,rfl⟩:=hown.form;have HOWN:=hq_ hown;clear hcell hown hb hrg;go_wp2_with (at_builtin;refine aj_ rq_ _ _ rq_ w.heap.size (.slice oa X.length oc) X x rq_ (HOWN.out.ext xE) _ _ rq_ (by first|(simp;done)|exact ((Bxx.new _ #[.int .i64 x] _).cells 0).1) ⟨oq_,oq_⟩ oq_ tq_ ?_;intro gg cap w6 hown6 hgrow6 hbel6)
   have hbe:Below w.heap.size w w6:=(HB.out.alloc oq_ _).trans hbel6;have hgg:=hown6.lt gg rfl;have hst6:OwnI w6 w.heap.size (.slice (some ⟨gg,0,none⟩) (k+1) cap) (X.take k ++ x :: X.drop k):=by
    rw [List.take_of_length_le oq_,List.drop_eq_nil_of_le oq_,<- hXl];exact hown6
   have HST6:=hq_ hst6;have HBE:=hq_ hbe;have hgl:=hgg.1;have HXL:=hq_ hXl;clear hst6 hbe hown6 hgrow6 hbel6 hgg;have HNX:Hid (∀ j:Nat,j≤k->(j=0∨X.getD (j-1) 0<x)->(∀ y∈X.drop j,x<y)->(X.take j ++ x :: X.drop j).length=k+1∧(X.take j ++ x :: X.drop j).Pairwise (· < ·)∧(∀ y,y∈X.take j ++ x :: X.drop j↔y∈l.take (k+1))):=hq_ (fun j hj h1 h2=>⟨tq_,rv_ HXP.out oq_ h1 h2,fun y=>by rw [wj_,HXM.out,HSU.out,List.mem_append,List.mem_singleton]⟩)
   go_loopw [5,6] (fun av _ wq=>∃ j:Nat,j≤k∧av=.int .i64 j∧OwnI wq w.heap.size (.slice (some ⟨gg,0,none⟩) (k+1) cap) (X.take j ++ x :: X.drop j)∧(∀ y∈X.drop j,x<y)∧Below w.heap.size w wq) (fun av _ _=>(intOf av).toNat)
   case atStart=>exact ⟨k,oq_,rfl,HST6.out,by rw [List.drop_eq_nil_of_le (by have:=HXL.out;omega)];simp,HBE.out⟩
   case round=>
    obtain ⟨j,hj,rfl,hown,hgt,hb⟩:=hrel;have HB2:=hq_ hb;have HOWN:=hq_ hown;have HGT:=hq_ hgt;have hbs:=hb.size;clear hgt hb
    by_cases hj0:j=0
    ·have hkz:¬ (0:Int)<j:=oq_;have hkd:decide ((0:Int)<(j:Int))=false:=by simp;omega
     have hkn:decide (0<j)=false:=by simp;omega
     have hkm:¬ 0<j:=oq_;have HJ0:=hq_ hj0;clear hj0 hown;go_wp2_with fail
     go_quiet (fail)
     go_wp2_with fail
     go_roundw
     case rel=>
      have h:=HNX.out j hj (.inl HJ0.out) HGT.out;exact ⟨k+1,_,oq_,by go_num,HOWN.out.ext xE,h.1,h.2.1,h.2.2,by have hb:=HB2.out;exact xE⟩
     case measure=>simp [intOf];omega
    ·obtain ⟨i,rfl⟩:∃ i,j=i+1:=⟨j-1,oq_⟩;have hix:i<X.length:=oq_;have hrow:=hown.row;have hLl:(X.take (i+1) ++ x :: X.drop (i+1)).length=k+1:=by simp;omega
     rw [hLl] at hrow;have cz:=hrow.cellAt i oq_;have cx:=hrow.cellAt (i+1) oq_;have fz:=hrow.frozenAt i;have fx:=hrow.frozenAt (i+1);rw [List.getElem?_map,ut_ hix] at cz;rw [List.getElem?_map,uw_ oq_] at cx;have HSP:=hq_ (lw_ hix x);have HSQ:=hq_ (r0_ hix x);have HDR:=hq_ (drop_cons hix);have hzn:X.getD i 0≠x:=fun e=>HNEW.out (e ▸ ah_ hix);have HIZ:Hid (X.getD (i+1-1) 0=X.getD i 0):=hq_ rfl;have htl:(X.take i).length=i:=by simp;omega
     have HTL:=hq_ htl;generalize X.getD i 0=z at *;have hkz:(0:Int)<((i+1:Nat):Int):=oq_;have hs1:(((i+1:Nat):Int)-1)=(i:Int):=oq_;clear hown hrow hLl hix hj0 htl
     by_cases hxz:x<z
     ·have d1:decide (x<z)=true:=by simp [hxz]
      go_wp2_with fail
      go_quiet (fail)
      go_wp2_with fail
      go_roundw
      case rel=>
       have h1:∀ m,OwnI (((wr.drewN m).setCell ⟨gg,i+1,none⟩ (.int .i64 z)).setCell ⟨gg,i,none⟩ (.int .i64 x)) w.heap.size (.slice (some ⟨gg,0,none⟩) (k+1) cap) (X.take i ++ x :: X.drop i):=fun m=>by
        have h0:=HOWN.out.ext (Below.drewN (Below.refl _ wr) m);rw [HSP.out] at h0;have hln:k+1=(X.take i ++ z :: x :: X.drop (i+1)).length:=by have:=HXL.out;rw [List.length_append,HTL.out];simp;omega
        have h2:=h0.swap hln;rw [HTL.out,HSQ.out] at h2;exact h2
       refine ⟨i,oq_,by go_num,h1 _,?_,by have hb:=HB2.out;exact xE⟩;rw [HDR.out];intro y hy;rw [List.mem_cons] at hy;rcases hy with rfl|hy
       ·exact hxz
       ·exact HGT.out y hy
      case measure=>simp [intOf]
     ·have d1:decide (x<z)=false:=by simp;omega
      go_wp2_with fail
      go_quiet (fail)
      go_wp2_with fail
      go_roundw
      case rel=>
       have h:=HNX.out (i+1) hj (.inr (by rw [HIZ.out];omega)) HGT.out;exact ⟨k+1,_,oq_,by go_num,HOWN.out.ext xE,h.1,h.2.1,h.2.2,by have hb:=HB2.out;exact xE⟩
      case measure=>simp [intOf];omega
  ·obtain rfl:k=l.length:=oq_;obtain ⟨oa,oc,rfl⟩:=hown.form;have HOWN:=hq_ hown;clear hown hb;have HEQ:Hid (X=a0_ l):=hq_ (ep_ HXP.out (ga_ HND.out) fun y=>by rw [HXM.out,dj_,List.take_length]);go_wp2_with fail
   go_ret;exact ⟨_,rfl,HEQ.out ▸ HOWN.out,HB.out⟩
theorem id_ (cv:Value) (C:List Int) (T:Int) (d:Int) (k:Nat) (w:World) (hT:T≤1125899906842624) (hC:Rise 0 T C) (hcv:Ints w cv C) (hd0:0≤d) (hd1:d≤T) (hk1:1≤k) (hkn:k≤C.length) :
  Calls Tryz.prog 195 #[cv,.int .i64 d,.int .i64 k] w fun e w'=>e=.returned (.bool (e1_ C d k))∧∃ n,w'=w.drewN n:=by
 obtain ⟨⟨a,c,rfl,hlc,hcc,hcells⟩,hlen,_⟩:=hcv;rcases hcells with h|⟨b,o,rfl,hcell⟩
 ·subst h;simp at hkn;omega
 have hE:∀ i,i<C.length->0≤C.getD i 0∧C.getD i 0<T:=fun i hi=>by rw [c2_ hi];exact hC.get_bounds hi
 have HC:=hq_ hcell;have HE:=hq_ hE;clear hcell hE
 go_enter Tryz.func195,Tryz.ntmps195
 go_wp2_with fail
 go_loopw [7] (fun i wr=>∃ j:Nat,j+k≤C.length∧i=.int .i64 j∧(∀ x,x<j->C.getD (x+k) 0=C.getD x 0+d)∧∃ n,wr=w.drewN n) (fun i _=>C.length-(intOf i).toNat)
 case atStart=>exact ⟨0,oq_,rfl,fun x h1=>oq_,0,rfl⟩
 case round=>
  obtain ⟨j,hj,rfl,hall,n,rfl⟩:=hrel;have HA:=hq_ hall;clear hall
  by_cases hlt:j+k<C.length
  ·have h1:=HC.out (j+k) hlt;have h2:=HC.out j oq_;have e1:=HE.out (j+k) hlt;have e2:=HE.out j oq_;obtain ⟨x,hx⟩:∃ x,x=C.getD (j+k) 0:=⟨_,rfl⟩;obtain ⟨y,hy⟩:∃ y,y=C.getD j 0:=⟨_,rfl⟩;rw [<- hx] at h1 e1;rw [<- hy] at h2 e2;have HX:=hq_ hx;have HY:=hq_ hy;clear hx hy;have hltI:(j:Int)+(k:Int)<C.length:=oq_;go_wp2_with fail
   go_quiet (fail)
   go_wp2_with fail
   ·have hne:x≠y+d:=by simpa using ‹(x != y+d)=true›
    go_ret;refine ⟨ac_ ?_,_,World.drewN_drewN _ _ _⟩;have hnp:¬ db_ C d k:=fun h=>hne (by
     rw [HX.out,HY.out,c2_ hlt,c2_ (show j<C.length by omega)];have:=h.1 (j+k) hlt oq_;simpa using this)
    have hf:e1_ C d k=false:=by rw [<- Bool.not_eq_true,cw_];exact hnp
    rw [hf]
   ·have heq:x=y+d:=by simpa using ‹(x != y+d)=false›
    refine ⟨⟨j+1,oq_,by go_num,fun z h1=>?_,_,rfl⟩,by simp [intOf];try omega⟩;rcases Nat.lt_or_ge z j with h3|h3
    ·exact HA.out z h3
    ·obtain rfl:z=j:=oq_;rw [<- HX.out,<- HY.out];exact heq
  ·have hjn:¬ (j:Int)+(k:Int)<C.length:=oq_;have h1:=HC.out (k-1) oq_;have e1:=HE.out (k-1) oq_;have hs:((k:Int)-1).toNat=k-1:=oq_;obtain ⟨x,hx⟩:∃ x,x=C.getD (k-1) 0:=⟨_,rfl⟩;rw [<- hx] at h1 e1;have hkI:(1:Int)≤k:=oq_;have hlz:((C.length:Int) == 0)=false:=by rw [beq_eq_false_iff_ne];omega
   have hln:¬ (C.length:Int)=0:=oq_;have hfin:e1_ C d k=decide (x<d):=by
    rw [Bool.eq_iff_iff,cw_,decide_eq_true_iff,hx,c2_ (show k-1<C.length by omega)];constructor
    ·exact fun h=>h.2.2
    ·refine fun h=>⟨fun i hi hki=>?_,oq_,h⟩;have:=HA.out (i-k) oq_;rw [show i-k+k=i from by omega] at this;rwa [c2_ hi,c2_ (show i-k<C.length by omega)] at this
   have HF:=hq_ hfin;clear hx hfin;go_wp2_with fail
   all_goals go_ret
   all_goals exact ⟨ac_ HF.out.symm,_,rfl⟩
def v8_ (p:Per) (w:World) (e:Ending) (w':World):Prop:=
 ∃ (d:Int) (k:Nat),e=.returned (.int .i64 d)∧e2_ p d (p.cycle.take k)∧1≤k∧k≤p.cycle.length∧Below w.heap.size w w'
theorem re_ (h c:Value) (p:Per) (w:World) (hp:a8_ w h c p) (hw:p.WF) (hne:p.cycle≠[]) (hT:p.period≤1125899906842624) :
  Calls Tryz.prog 170 #[perV h c p.frm p.period] w (v8_ p w):=by
 have hT0:=hw.per;have hn1:1≤p.cycle.length:=by
  rcases Nat.eq_zero_or_pos p.cycle.length with h|h
  ·exact absurd (List.eq_nil_of_length_eq_zero h) hne
  ·exact h
 obtain ⟨a1,c1,a2,c2,rfl,rfl⟩:=hp.inn.form;have H2:=hq_ hp.cy;have hlI:(1:Int)≤p.cycle.length:=oq_;have HLE:=hp.cy.len;clear hp
 go_enter Tryz.func170,Tryz.ntmps170
 go_upto_region 1 with (fail)
 refine al_ (F:=fun U=>Bxx U w.heap.size #[.slice a1 p.head.length c1,.int .i64 p.frm,.int .i64 p.period,.slice a2 p.cycle.length c2] 39∧w.heap.size<U.heap.size∧Below w.heap.size w U) ⟨xB,sq_,xE⟩ ?_;rintro W1 ⟨hbx,hz1,hE⟩;have HBX:=hq_ hbx;have HE:=hq_ hE;have q3:=(hbx.cells 3).1;clear hbx hE;go_wp2_with fail
 go_loopw [4] (fun q wr=>∃ j:Nat,1≤j∧j≤p.cycle.length∧q=.int .i64 j∧(∀ q' d' k',j<q'->1≤d'->1≤k'->p.period=(q':Nat)*d'->p.cycle.length=q' * k'->¬ db_ p.cycle d' k')∧Below W1.heap.size W1 wr) (fun q _=>(intOf q).toNat)
 case atStart=>
  refine ⟨p.cycle.length,hn1,Nat.le_refl _,rfl,fun q' d' k' h1 h2 h3 h4 h5=>?_,Below.refl _ _⟩;have:q' * 1≤q' * k':=Nat.mul_le_mul_left _ h3;omega
 case round=>
  obtain ⟨j,hj1,hjn,rfl,hmax,hb⟩:=hrel;have HM:=hq_ hmax;have HB:=hq_ hb;have hbx:=HBX.out.below hb;have q0:=(hbx.cells 0).1;have q1:=(hbx.cells 1).1;have q2:=(hbx.cells 2).1;have q3:=(hbx.cells 3).1;clear hmax hbx hb
  by_cases hgt:1<j
  ·have hjI:(1:Int)<j:=oq_;have hjz:¬ (j:Int)=0:=oq_;have ht1:(p.cycle.length:Int).tmod j=(p.cycle.length:Int) % j:=Int.tmod_eq_emod_of_nonneg oq_;have ht2:p.period.tmod (j:Int)=p.period % (j:Int):=Int.tmod_eq_emod_of_nonneg oq_;obtain ⟨r1,hr1⟩:∃ r1,r1=(p.cycle.length:Int) % j:=⟨_,rfl⟩;obtain ⟨r2,hr2⟩:∃ r2,r2=p.period % (j:Int):=⟨_,rfl⟩;have hstep:(∀ d' k',1≤d'->1≤k'->p.period=(j:Nat)*d'->p.cycle.length=j*k'->¬ db_ p.cycle d' k')->∀ q' d' k',j-1<q'->1≤d'->1≤k'->p.period=(q':Nat)*d'->p.cycle.length=q' * k'->¬ db_ p.cycle d' k':=fun h q' d' k' h1 h2 h3 h4 h5=>by
    rcases Nat.lt_or_ge j q' with h7|h7
    ·exact HM.out q' d' k' h7 h2 h3 h4 h5
    ·obtain rfl:q'=j:=oq_;exact h d' k' h2 h3 h4 h5
   have HSTEP:=hq_ hstep;clear hstep
   by_cases hd1:(p.cycle.length:Int) % j=0
   ·by_cases hd2:p.period % j=0
    ·obtain ⟨d,hd⟩:∃ d,p.period / j=d:=⟨_,rfl⟩;obtain ⟨k,hk⟩:∃ k:Nat,(p.cycle.length:Int) / j=k:=⟨p.cycle.length / j,sq_⟩;have hTd:p.period=(j:Nat)*d:=by rw [<- hd];exact (Int.mul_ediv_cancel' (Int.dvd_of_emod_eq_zero hd2)).symm
     have hnk:p.cycle.length=j*k:=by
      have:=Int.mul_ediv_cancel' (Int.dvd_of_emod_eq_zero hd1);rw [hk] at this;have e:((j*k:Nat):Int)=p.cycle.length:=by rw [<- this];push_cast;rfl
      omega
     have hd1':1≤d:=by
      rcases Int.lt_or_le 0 d with h|h
      ·omega
      ·have:=Int.mul_nonpos_of_nonneg_of_nonpos (show (0:Int)≤(j:Nat) by omega) h;omega
     have hk1':1≤k:=by
      rcases Nat.eq_zero_or_pos k with h|h
      ·subst h;exact absurd (by simpa using hnk) hne
      ·exact h
     have hkn:k≤p.cycle.length:=by rw [hnk];exact Nat.le_mul_of_pos_left k oq_
     have hdT:d≤p.period:=hd ▸ Int.ediv_le_self _ oq_;have HTd:=hq_ hTd;have HNK:=hq_ hnk;have hb1:((p.cycle.length:Int) % j == 0)=true:=by simpa using hd1
     have hb2:(p.period % (j:Int) == 0)=true:=by simpa using hd2
     have ht3:p.period.tdiv (j:Int)=d:=by rw [Int.tdiv_eq_ediv_of_nonneg oq_];exact hd
     have ht4:(p.cycle.length:Int).tdiv j=k:=by rw [Int.tdiv_eq_ediv_of_nonneg oq_];exact hk
     have HD:=hq_ hd;clear hTd hnk hd1 hd2 hr1 hr2 hd hk;cases hP:e1_ p.cycle d k with
     | true=>
      have hPP:=cw_.1 hP;have HS:=hq_ (d4_ hw hne hd1' oq_ HTd.out HNK.out hk1' hPP (fun q' d' k'=>HM.out q' d' k'));have HP:=hq_ hP;have HCALL:Hid (∀ W,Below wr.heap.size wr W->Calls Tryz.prog 195 #[.slice a2 p.cycle.length c2,.int .i64 d,.int .i64 k] W fun e w'=>e=.returned (.bool true)∧∃ n,w'=W.drewN n):=hq_ (fun W hb=>by
       have:=id_ _ p.cycle p.period d k W hT hw.cyc (((H2.out.ext HE.out).ext HB.out).ext hb) oq_ hdT hk1' hkn;rw [hP] at this;exact this)
      clear hPP hP;go_wp2_with fail
      go_quiet ((go_at_call 195;(first|exact Calls.quiet_of (HCALL.out _ xE)|exact d9_ (HCALL.out _ xE))))
      go_wp2_with fail
      go_ret;exact ⟨d,k,d2_ (by first|rfl|exact HD.out),HS.out,hk1',hkn,by have hE:=HE.out;have hb:=HB.out;exact xE⟩
     | false=>
      have HP:=hq_ hP;have HCALL:Hid (∀ W,Below wr.heap.size wr W->Calls Tryz.prog 195 #[.slice a2 p.cycle.length c2,.int .i64 d,.int .i64 k] W fun e w'=>e=.returned (.bool false)∧∃ n,w'=W.drewN n):=hq_ (fun W hb=>by
       have:=id_ _ p.cycle p.period d k W hT hw.cyc (((H2.out.ext HE.out).ext HB.out).ext hb) oq_ hdT hk1' hkn;rw [hP] at this;exact this)
      clear hP;go_wp2_with fail
      go_quiet ((go_at_call 195;(first|exact Calls.quiet_of (HCALL.out _ xE)|exact d9_ (HCALL.out _ xE))))
      go_wp2_with fail
      go_roundw
      case rel=>
       refine ⟨j-1,oq_,oq_,by congr 1;omega,HSTEP.out (fun d' k' h2 h3 h4 h5 h6=>?_),by have hb:=HB.out;exact xE⟩;have e1:d'=d:=Int.eq_of_mul_eq_mul_left (show ((j:Nat):Int)≠0 by omega) (h4.symm.trans HTd.out);have e2:k'=k:=Nat.eq_of_mul_eq_mul_left (show 0<j by omega) (h5.symm.trans HNK.out);subst e1;subst e2;have hP:=HP.out;rw [cw_.2 h6] at hP;cases hP
      case measure=>simp [intOf];omega
    ·have HD2:=hq_ (HSTEP.out (fun d' k' h2 h3 h4 h5 h6=>hd2 (by rw [h4];exact Int.mul_emod_right _ _)));have hb1:((p.cycle.length:Int) % j == 0)=true:=by simpa using hd1
     have hb2:(p.period % (j:Int) == 0)=false:=by simpa using hd2
     clear hd1 hd2 hr1 hr2;go_wp2_with fail
     go_quiet (fail)
     go_wp2_with fail
     go_roundw
     case rel=>exact ⟨j-1,oq_,oq_,by congr 1;omega,HD2.out,by have hb:=HB.out;exact xE⟩
     case measure=>simp [intOf];omega
   ·have HD1:=hq_ (HSTEP.out (fun d' k' h2 h3 h4 h5 h6=>hd1 (by rw [h5];push_cast;exact Int.mul_emod_right _ _)));have hb1:((p.cycle.length:Int) % j == 0)=false:=by simpa using hd1
    clear hd1 hr1 hr2;go_wp2_with fail
    go_quiet (fail)
    go_wp2_with fail
    go_roundw
    case rel=>exact ⟨j-1,oq_,oq_,by congr 1;omega,HD1.out,by have hb:=HB.out;exact xE⟩
    case measure=>simp [intOf];omega
  ·obtain rfl:j=1:=oq_;have hP:db_ p.cycle p.period p.cycle.length:=⟨fun i hi hk=>oq_,oq_,by have:=hw.cyc.get_bounds (i:=p.cycle.length-1) oq_;exact this.2⟩;have HS:=hq_ (d4_ hw hne hT0 (Nat.le_refl 1) sq_ sq_ hn1 hP (fun q' d' k'=>HM.out q' d' k'));clear hP;go_wp2_with fail
   go_ret;exact ⟨p.period,p.cycle.length,rfl,HS.out,hn1,Nat.le_refl _,by have hE:=HE.out;have hb:=HB.out;exact xE⟩
def ui_ (p:Per) (d:Int) (B:List Int) (w:World) (e:Ending) (w':World):Prop:=
 ∃ (s:Int) (m:Nat),e=.returned (.int .i64 s)∧Kal.Start p d B s m∧Below w.heap.size w w'
theorem l2_ (h c:Value) (p:Per) (d:Int) (k:Nat) (w:World) (hp:a8_ w h c p) (hw:p.WF) (h1:p.frm≤1125899906842624) (h2:p.period≤1125899906842624) (hS:e2_ p d (p.cycle.take k)) (hk1:1≤k) (hkn:k≤p.cycle.length) :
  Calls Tryz.prog 171 #[perV h c p.frm p.period,.int .i64 d,.int .i64 k] w (ui_ p d (p.cycle.take k) w):=by
 have f0:=hw.frm;have d0:=hS.pos;have d1:=hS.le;obtain ⟨B,hB⟩:∃ B,B=p.cycle.take k:=⟨_,rfl⟩;have hBl:B.length=k:=by rw [hB];simp;omega
 rw [<- hB] at hS ⊢;have hBg:∀ i,i<k->B.getD i 0=p.cycle.getD i 0:=fun i hi=>by
  rw [hB,List.getD_eq_getElem?_getD,List.getD_eq_getElem?_getD,List.getElem?_take,if_pos hi]
 obtain ⟨a1,c1,a2,c2,rfl,rfl⟩:=hp.inn.form;have H1:=hq_ hp.hd;have H2:=hq_ hp.cy;have HLH:=hp.hd.len;have HS:=hq_ hS;have HW:=hq_ hw;have HBG:=hq_ hBg;have HBL:=hq_ hBl;clear hp hS hw hB hBg hBl;have hkI:(1:Int)≤k:=oq_;have hkz:¬ (k:Int)=0:=oq_
 go_enter Tryz.func171,Tryz.ntmps171
 go_upto_region 1 with (fail)
 refine al_ (F:=fun U=>Bxx U w.heap.size #[.slice a1 p.head.length c1,.int .i64 p.frm,.int .i64 p.period,.slice a2 p.cycle.length c2] 39∧w.heap.size<U.heap.size∧Below w.heap.size w U) ⟨xB,sq_,xE⟩ ?_;rintro W1 ⟨hbx,hz1,hE⟩;have HBX:=hq_ hbx;have HE:=hq_ hE;have q0:=(hbx.cells 0).1;clear hbx hE;go_wp2_with fail
 go_loopw [7,8,9,10,11,12] (fun hv _ bv _ _ _ wr=>∃ j:Nat,hv=.int .i64 ((p.head.length:Int)-1-j)∧bv=.int .i64 ((j:Int)+1)∧Back p d B j∧Below W1.heap.size W1 wr) (fun _ _ bv _ _ _ _=>p.head.length+1-(intOf bv).toNat)
 case atStart=>exact ⟨0,by congr 1;omega,rfl,Back.zero HW.out HS.out,Below.refl _ _⟩
 case round=>
  obtain ⟨j,rfl,rfl,hbk,hb⟩:=hrel;have HBK:=hq_ hbk;have HB:=hq_ hb;have hjl:=hbk.le;have ege:=Back.e_ge HS.out hbk;have elt:=Back.e_lt HS.out hbk;have hif:=hbk.hif;have hbx:=HBX.out.below hb;have q0:=(hbx.cells 0).1;have q1:=(hbx.cells 1).1;have q2:=(hbx.cells 2).1;have q3:=(hbx.cells 3).1;have hm:=Nat.mod_lt j (show 0<k by omega);have hm1:(j:Int).tmod (k:Int)=((j % k:Nat):Int):=by rw [Int.tmod_eq_emod_of_nonneg oq_,Int.natCast_emod]
  have hm2:(j:Int).tdiv (k:Int)=((j / k:Nat):Int):=by rw [Int.tdiv_eq_ediv_of_nonneg oq_,Int.natCast_ediv]
  obtain ⟨r,hr⟩:∃ r,r=j % k:=⟨_,rfl⟩;obtain ⟨Q,hQ⟩:∃ Q,Q=j / k:=⟨_,rfl⟩;rw [<- hr] at hm1 hm;rw [<- hQ] at hm2;have HR:=hq_ hr;have HQ:=hq_ hQ;have hQj:(Q:Int)≤j:=by rw [hQ];have:=Nat.div_le_self j k;omega
  obtain ⟨ix,hix⟩:∃ ix:Nat,ix=k-1-r:=⟨_,rfl⟩;have hixl:ix<p.cycle.length:=oq_;have hixI:(k:Int)-1-(r:Int)=ix:=oq_;obtain ⟨⟨a',c',he,_,_,h38⟩,hlen8,hrg⟩:=(H2.out.ext HE.out).ext hb;injection he with e1 _ e2
  subst e1;subst e2;rcases h38 with h38|⟨b8,o8,rfl,hcell⟩
  ·rw [h38] at hixl;simp at hixl
  have hcl:=hcell ix hixl;have hyb:=HW.out.cyc.2 _ (ah_ hixl);have heq:eAt B d p.frm j=p.frm-d*((Q:Int)+1)+p.cycle.getD ix 0:=by
   unfold eAt;rw [HBL.out,HBG.out _ oq_,hQ,<- hr,<- hix]
  generalize p.cycle.getD ix 0=y at *;obtain ⟨E,hEe⟩:∃ E,E=eAt B d p.frm j:=⟨_,rfl⟩;rw [<- hEe] at heq ege elt;have HEE:=hq_ hEe;obtain ⟨M,hM⟩:∃ M,M=((Q:Int)+1)*d:=⟨_,rfl⟩;have hM2:d*((Q:Int)+1)=M:=by rw [hM,Int.mul_comm]
  have hM0:0≤M:=by rw [hM];exact Int.mul_nonneg oq_ oq_
  rw [hM2] at heq;have HMM:=hq_ hM.symm;have heq2:p.frm+y-M=E:=oq_;clear hcell hrg hbk hb hbx hr hQ hix hEe hM hM2 heq;have hmm:=HMM.out;have hQk:(k:Int)-1-(r:Int)=ix:=hixI
  by_cases hjn:j<p.head.length
  ·obtain ⟨hx,hhx⟩:∃ hx:Nat,hx=p.head.length-1-j:=⟨_,rfl⟩;have hhl:hx<p.head.length:=oq_;have hhI:(p.head.length:Int)-1-(j:Int)=hx:=oq_;obtain ⟨⟨a',c',he,_,_,h38⟩,hlen9,hrg⟩:=(H1.out.ext HE.out).ext HB.out;injection he with e1 _ e2
   subst e1;subst e2;rcases h38 with h38|⟨b9,o9,rfl,hcell⟩
   ·rw [h38] at hhl;simp at hhl
   have hcz:=hcell hx hhl;have hzb:=HW.out.head.2 _ (ah_ hhl);have HLZ:Hid (ap_ p j=p.head.getD hx 0):=hq_ (by unfold ap_;rw [if_neg oq_,hhx,show p.head.length-j-1=p.head.length-1-j from by omega]);generalize p.head.getD hx 0=z at *;have hzn:¬ z<0:=oq_;have hzd:decide (z<0)=false:=by simp;omega
   clear hcell hrg hhx
   by_cases hE0:E<0
   ·have hEd:decide (E<0)=true:=by simp [hE0]
    have hne:(E != z)=true:=by rw [bne_iff_ne];omega
    have HST:=hq_ (Back.done HW.out HS.out HBK.out (by rw [HLZ.out,<- HEE.out];omega) (by rw [HLZ.out];omega));go_wp2_with fail
    go_quiet (fail)
    go_wp2_with fail
    go_ret;refine ⟨_,_,?_,HST.out,by have hE:=HE.out;have hb:=HB.out;exact xE⟩;rw [HLZ.out,<- HEE.out];rfl
   ·have hEd:decide (E<0)=false:=by simp;omega
    by_cases hEz:E=z
    ·have hne:(E != z)=false:=by simp [hEz]
     have HST:=hq_ (Back.step HW.out HS.out HBK.out (by rw [HLZ.out,<- HEE.out];exact hEz) (by rw [HLZ.out];omega));go_wp2_with fail
     go_quiet (fail)
     go_wp2_with fail
     go_roundw
     case rel=>exact ⟨j+1,by congr 1;omega,by congr 1,HST.out.1,by have hb:=HB.out;exact xE⟩
     case measure=>simp [intOf];omega
    ·have hne:(E != z)=true:=by rw [bne_iff_ne];exact hEz
     have HST:=hq_ (Back.done HW.out HS.out HBK.out (by rw [HLZ.out,<- HEE.out];omega) (by rw [HLZ.out];omega));go_wp2_with fail
     go_quiet (fail)
     go_wp2_with fail
     go_ret;refine ⟨_,_,?_,HST.out,by have hE:=HE.out;have hb:=HB.out;exact xE⟩;rw [HLZ.out,<- HEE.out];rfl
  ·have hjI:(p.head.length:Int)-1-(j:Int)=-1:=oq_;have HLZ:Hid (ap_ p j=-1):=hq_ (by unfold ap_;rw [if_pos oq_])
   by_cases hE0:E<0
   ·have hEd:decide (E<0)=true:=by simp [hE0]
    have HST:=hq_ (Back.done0 HW.out HS.out HBK.out (by rw [<- HEE.out];exact hE0) (by rw [HLZ.out];omega));go_wp2_with fail
    go_quiet (fail)
    go_wp2_with fail
    go_ret;exact ⟨_,_,rfl,HST.out,by have hE:=HE.out;have hb:=HB.out;exact xE⟩
   ·have hEd:decide (E<0)=false:=by simp;omega
    have hne:(E != -1)=true:=by rw [bne_iff_ne];omega
    have HST:=hq_ (Back.done HW.out HS.out HBK.out (by rw [HLZ.out,<- HEE.out];omega) (by rw [<- HEE.out];omega));go_wp2_with fail
    go_quiet (fail)
    go_wp2_with fail
    go_ret;refine ⟨_,_,?_,HST.out,by have hE:=HE.out;have hb:=HB.out;exact xE⟩;rw [HLZ.out,<- HEE.out];rfl
theorem w3_ (hw:p.WF) (hS:e2_ p d (p.cycle.take k)) (hkn:k≤p.cycle.length) (hj:j<p.cycle.length):p.cycle.getD j 0<d↔j<k:=by
 have hf:=hw.frm;have hb:=hw.cyc.2 _ (ah_ hj);constructor
 ·intro hlt;have h1:p.mem (p.frm+p.cycle.getD j 0):=by
   rw [Per.mem_hi oq_ oq_,show p.frm+p.cycle.getD j 0-p.frm=p.cycle.getD j 0 from oq_,Int.emod_eq_of_lt hb.1 hb.2];exact ah_ hj
  rw [hS.mem _ oq_,show p.frm+p.cycle.getD j 0-p.frm=p.cycle.getD j 0 from oq_,Int.emod_eq_of_lt hb.1 hlt] at h1;obtain ⟨i,hi,he⟩:=List.getElem_of_mem h1;rw [List.getElem_take] at he;have hi2:i<k∧i<p.cycle.length:=by simp at hi;omega
  rcases Nat.lt_or_ge i j with h|h
  ·have:=getD_lt hw.cyc h hj;rw [c2_ hi2.2,he] at this;omega
  ·omega
 ·intro hjk;refine (hS.rise.2 _ ?_).2;rw [c2_ hj];exact List.mem_take_iff_getElem.2 ⟨j,oq_,rfl⟩
theorem rt_ (hw:p.WF) {B:List Int} {m:Nat} (hs:Kal.Start p d B s m):p.head.filter (fun y=>decide (y<s))=p.head.take m:=by
 refine (hw.head.filter _).ext ⟨hw.head.1.sublist (List.take_sublist _ _),fun x hx=>hw.head.2 x (List.mem_of_mem_take hx)⟩ fun x=>?_;rw [List.mem_filter,decide_eq_true_eq,hs.low]
theorem h0_ {B:List Int} (hB:Rise 0 d B):(B.map fun c=>(a+c-s) % d).Nodup:=by
 rw [List.nodup_iff_pairwise_ne,List.pairwise_map];refine List.Pairwise.imp_of_mem ?_ hB.1;intro x y hx hy hxy he;have h1:=hB.2 x hx;have h2:=hB.2 y hy;have:=k5_ (a:=a-s) h1.1 h1.2 h2.1 h2.2 (by rw [show a-s+x=a+x-s from oq_,show a-s+y=a+y-s from by omega];exact he);omega
theorem ji_ (hw:p.WF) {m:Nat} (hS:e2_ p d (p.cycle.take k)) (hs:Kal.Start p d (p.cycle.take k) s m) :
  a6_ ⟨p.head.filter (fun y=>decide (y<s)),s,d,a0_ ((p.cycle.take k).map fun c=>(p.frm+c-s) % d)⟩ p.mem:=by
 rw [rt_ hw hs];refine k4_ hw hS hs (ga_ (h0_ hS.rise)) fun y=>?_;rw [dj_,List.mem_map];exact ⟨fun ⟨c,h1,h2⟩=>⟨c,h1,h2.symm⟩,fun ⟨c,h1,h2⟩=>⟨c,h1,h2.symm⟩⟩
structure LRs (w:World) (ob:Nat) (p:Per) (hp cp:Value) (f d:Int) (base:Nat) (hv:Value) (l:List Int) (W:World):Prop where
 below:Below w.heap.size w W
 pb:Bxx W w.heap.size #[hp,.int .i64 p.frm,.int .i64 p.period,cp] 39
 rb:Bxx W (w.heap.size+1) #[.slice none 0 0,.int .i64 0,.int .i64 0,.slice none 0 0] 39
 obx:Bxx W ob #[hv,.int .i64 f,.int .i64 d,.slice none 0 0] 39
 own:OwnI W base hv l
 o1:w.heap.size+1<ob
 o2:ob<base
 o3:base≤W.heap.size
theorem LRs.step {hp cp:Value} (h:LRs w ob p hp cp f d base hv l W)
  {W1:World} {v':Value} {l':List Int} (hb:Below base W W1) (ho:OwnI W1 base v' l'):LRs w ob p hp cp f d base v' l' (W1.setCell ⟨ob,0,none⟩ v'):=by
 have o1:=h.o1;have o2:=h.o2;have o3:=h.o3;have hz:=hb.size;exact ⟨(h.below.trans (hb.mono oq_)).setCell (p:=⟨ob,0,none⟩) tq_ _,(h.pb.upto hb oq_).setNe _ oq_,(h.rb.upto hb oq_).setNe _ oq_,j2_ (h.obx.upto hb oq_),
  ho.above ((a7_.refl base W1).setCell tq_ _),o1,o2,tq_⟩
structure LC (w:World) (ob:Nat) (p:Per) (hp cp:Value) (f d:Int) (l4 h4:Nat) (hv:Value) (hl:List Int) (base:Nat) (cyv:Value) (l:List Int) (W:World):Prop where
 below:Below w.heap.size w W
 pb:Bxx W w.heap.size #[hp,.int .i64 p.frm,.int .i64 p.period,cp] 39
 rb:Bxx W (w.heap.size+1) #[.slice none 0 0,.int .i64 0,.int .i64 0,.slice none 0 0] 39
 obx:Bxx W ob #[hv,.int .i64 f,.int .i64 d,cyv] 39
 own:OwnI W base cyv l
 hd:bo_ W l4 h4 hv hl
 o1:w.heap.size+1<ob
 o2:ob<base
 o3:base≤W.heap.size
 o4:ob<l4∨h4≤ob
 o5:h4≤base
 o6:w.heap.size+1<l4
theorem LC.step {hp cp:Value} {l4 h4:Nat} {hl:List Int} {cyv:Value} (h:LC w ob p hp cp f d l4 h4 hv hl base cyv l W)
  {W1:World} {v':Value} {l':List Int} (hb:Below base W W1) (ho:OwnI W1 base v' l'):LC w ob p hp cp f d l4 h4 hv hl base v' l' (W1.setCell ⟨ob,3,none⟩ v'):=by
 have o1:=h.o1;have o2:=h.o2;have o3:=h.o3;have o4:=h.o4;have o5:=h.o5;have hz:=hb.size;exact ⟨(h.below.trans (hb.mono oq_)).setCell (p:=⟨ob,3,none⟩) tq_ _,(h.pb.upto hb oq_).setNe _ oq_,(h.rb.upto hb oq_).setNe _ oq_,set4 (h.obx.upto hb oq_),
  ho.above ((a7_.refl base W1).setCell tq_ _),(h.hd.below hb oq_).set _ o4,o1,o2,tq_,o4,o5,h.o6⟩
theorem qs_ (h c:Value) (p:Per) (w:World) (hp:a8_ w h c p) (hw:p.WF) (h1:p.frm≤1125899906842624) (hc0:p.cycle=[]) :
  Calls Tryz.prog 138 #[perV h c p.frm p.period] w (e7_ p.mem w):=by
 have HC:=hq_ (im_ hw hc0);obtain ⟨a1,c1,a2,c2,rfl,rfl⟩:=hp.inn.form;have H1:=hq_ hp.hd;have HLH:=hp.hd.len;have HW:=hq_ hw;have hlz:((p.cycle.length:Int) == 0)=true:=by rw [hc0];rfl
 clear hp hw hc0
 by_cases h0:p.head.length=0
 ·have hn:¬ (0:Int)<p.head.length:=oq_;have H0:=hq_ h0;clear h0
  go_enter Tryz.func138,Tryz.ntmps138
  go_wp2_with (go_at_call 169;refine (jk_ _ p.head _ (H1.out.ext xE)).mono ?_;rintro e W2 ⟨hv,rfl,hown,hb2⟩;obtain ⟨oa,oc,rfl⟩:=hown.form;obtain ⟨hc1,hf1⟩:=au_ hb2;have hz:w.heap.size+1<W2.heap.size:=(by have:=hb2.size;simp at this;omega);have hz0:w.heap.size<W2.heap.size:=oq_)
  refine bodyPost_ret (v:=.agg #[.slice oa p.head.length oc,.int .i64 0,.int .i64 1,.slice none 0 0]) ?_ rfl ?_
  ·simp [results,Tryz.results138,go_sem, *]
  ·refine ⟨_,_,⟨p.head,0,1,[]⟩,rfl,?_,⟨?_,OwnI.nil _ _⟩,?_⟩
   ·have:=HC.out;rwa [if_pos H0.out] at this
   ·exact (hown.above (by (repeat' (with_reducible first|exact a7_.refl _ _|refine a7_.alloc ?_ _|refine a7_.drew ?_|refine a7_.drewN ?_ _|refine a7_.setCell ?_ (by first|(simp;done)|(simp;omega)|omega) _)))).mono (by first|(simp;done)|(simp;omega)|omega)
   ·exact xE
 ·have hn:(0:Int)<p.head.length:=oq_;have H0:=hq_ h0;have hlt:p.head.length-1<p.head.length:=oq_;obtain ⟨⟨a',c',he,_,_,h38⟩,hlen8,hrg⟩:=H1.out;injection he with e1 _ e2
  subst e1;subst e2;rcases h38 with h38|⟨b,o,rfl,hcell⟩
  ·rw [h38] at h0;exact absurd rfl h0
  have hcl:=hcell (p.head.length-1) hlt;have hx1:((p.head.length:Int)-1).toNat=p.head.length-1:=oq_;have hbd:=HW.out.head.2 _ (ah_ hlt);obtain ⟨x,hx⟩:∃ x,x=p.head.getD (p.head.length-1) 0:=⟨_,rfl⟩;rw [<- hx] at hcl hbd;have HX:=hq_ hx;clear hcell h0 hx hrg
  go_enter Tryz.func138,Tryz.ntmps138
  go_wp2_with (go_at_call 169;refine (jk_ _ p.head _ (H1.out.ext xE)).mono ?_;rintro e W2 ⟨hv,rfl,hown,hb2⟩;obtain ⟨oa,oc,rfl⟩:=hown.form;have hc4:=Ext.cell (w:=w) (W:=W2) xE hcl;have hblt:b<W2.heap.size:=World.block_lt_of_cell? _ _ hc4;obtain ⟨hc1,hf1⟩:=au_ hb2;have hz:w.heap.size+1<W2.heap.size:=(by have:=hb2.size;simp at this;omega);have hz0:w.heap.size<W2.heap.size:=oq_)
  refine bodyPost_ret (v:=.agg #[.slice oa p.head.length oc,.int .i64 (x+1),.int .i64 1,.slice none 0 0]) ?_ rfl ?_
  ·simp [results,Tryz.results138,go_sem, *]
  ·refine ⟨_,_,⟨p.head,x+1,1,[]⟩,rfl,?_,⟨?_,OwnI.nil _ _⟩,?_⟩
   ·have:=HC.out;rw [if_neg H0.out,<- HX.out] at this;exact this
   ·exact (hown.above (by (repeat' (with_reducible first|exact a7_.refl _ _|refine a7_.alloc ?_ _|refine a7_.drew ?_|refine a7_.drewN ?_ _|refine a7_.setCell ?_ (by first|(simp;done)|(simp;omega)|omega) _)))).mono (by first|(simp;done)|(simp;omega)|omega)
   ·exact xE
end Go.Proofs.YthjnojbeimchdaaGreat
end
