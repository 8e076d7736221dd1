/- What a law needs beside the base. -/
import Derived.Test.YthjnojbeimchdaaGreatN10
set_option linter.unusedVariables false
set_option linter.unusedSimpArgs false
namespace Go
open Go.RowKit
section
variable {P:Program} {ops:Array Oper} {Q:Exit→Act→World→Prop} {md:Region.Mode}
variable {w0:World} {ph tl:List Nat} {fr:(Nat→Value)→Act} {F:Nat→(Nat→Value)→(Nat→Nat)→(Nat→Nat)→World→Prop} {S:World→Prop}
end
end Go
namespace Go
open Go.RowKit
section
variable {P:Program} {ops:Array Oper} {Q:Exit→Act→World→Prop} {md:Region.Mode}
variable {w0:World} {row:Option Nat} {kx:Nat} {ph tl:List Nat} {fr:(Nat→Value)→Act} {F:Nat→(Nat→Value)→(Nat→Nat)→(Nat→Nat)→World→Prop} {S:World→Prop}
end
end Go
namespace Go
open Go.RowKit
section
variable {P:Program} {ops:Array Oper} {Q:Exit→Act→World→Prop} {md:Region.Mode}
variable {w0:World} {ph tl:List Nat} {fr:(Nat→Value)→Act} {F:Nat→(Nat→Value)→(Nat→Nat)→(Nat→Nat)→World→Prop} {S:World→Prop}
end
end Go
namespace Go
open Go.RowKit
section
variable {P:Program} {ops:Array Oper} {Q:Exit→Act→World→Prop} {md:Region.Mode}
variable {w0:World} {ph:List Nat} {x t:Nat} {r:List Nat} {fr:(Nat→Value)→Act} {F:Nat→(Nat→Value)→(Nat→Nat)→(Nat→Nat)→World→Prop} {S:World→Prop}
variable {x0:Nat}
end
end Go
namespace Go
open Go.RowKit
section
variable {P:Program} {ops:Array Oper} {Q:Exit→Act→World→Prop} {md:Region.Mode}
variable {w0:World} {ph tl:List Nat} {fr:(Nat→Value)→Act} {F:Nat→(Nat→Value)→(Nat→Nat)→(Nat→Nat)→World→Prop} {S:World→Prop}
end
end Go
namespace Go
open Go.RowKit
section
variable {P:Program} {ops:Array Oper} {Q:Exit→Act→World→Prop} {md:Region.Mode}
variable {w0:World} {fr:(Nat→Value)→Act} {S:World→Prop} {x:List Value}
theorem wp_region_V {id:Nat} {a:Act} (ph tl:List Nat) (fr:(Nat→Value)→Act) (x:List Value) (S:World→Prop)
  (hS:∀ W,Below w0.heap.size w0 W→S W)
  (steps:StepsV P .any ops Q w0 fr x S ph)
  (fin:∀ W,Below w0.heap.size w0 W→S W→wpList P ops Q (tl.filterMap fun i=>ops[i]?) (fr (vat x)) W)
  (v0:Nat→Value:=fun _=>undef) (ha:a=fr v0:=by rfl) (hmix:P.follows .mixedOrders=true:=by rfl) (hc:Region.chkH .any ops ph tl=true:=by kernel_rfl) (hnd:ph.Nodup:=by decide)
  (hfr:∀ v:Nat→Value,(∀ i,ph.contains i=true→v i=vat x i)→fr v=fr (vat x):=by intro v h;simp (decide:=true) only [h]):(Code.region id ops true).wp P Q a w0:=
 wp_region_factsS ph tl fr v0 (fun i v _ _ _=>v i=vat x i) S hmix hc hnd ha (fun _ _ _ _ _ _ h _=>h) (fun i v v' _ _ _ _ _ hag h=>(hag i (.inl rfl)).1 ▸ h) hS steps.to
  fun v lo hi W h1 h2 h3 _=>by rw [hfr v fun i hi'=>(h3 i hi').2.2.2];exact fin W h1 h2
theorem stp {D:List Nat} {k:Nat} {o:Oper} (h:StepV P ops Q w0 fr x S D k o:=by
  intro v W hb hS
  first
   | (
    refine .inr ⟨rfl,fun K hK=>acx (hK W (Below.refl _ _)) ?_⟩
    simp [Act.put,ov,vat]
    done)
   | (
    go_split_ands
    refine .inl ⟨rfl,fun K hK=>?_⟩
    simp only [ov,vat,Nat.reduceBEq,cond_true,cond_false]
    go_wp2_with fail
    refine acx (hK W (Below.refl _ _)) ?_
    first
     | (simp [ov,vat];done)
     | (simp [ov,vat, *];done)
    done)
   | fail):StepV P ops Q w0 fr x S D k o:=h
end
end Go
namespace Go
open Go.RowKit
section
variable {P:Program} {ops:Array Oper} {Q:Exit→Act→World→Prop} {md:Region.Mode}
variable {w0:World} {fr:(Nat→Value)→Act} {S:World→Prop} {x:List Value} {cs:List Nat} {G:FnG}
end
end Go
namespace Go
open Go.RowKit
variable {P:Program}
section
variable {b:Frame} {a:Act} {k:List Item} {cs:List Frame} {w:World} {Q:Exit→Act→World→Prop} {F:Fence} {n:Nat}
end
end Go
namespace Go.Proofs.YthjnojbeimchdaaGreat
open Go.RowKit Go.Maps Kal
set_option maxHeartbeats 2000000 in
theorem Rin_any (v:Value) (l:List Int) (x:Int) (w:World) (hv:Ints w v l) :
  Calls Tryz.prog 144 #[v,.int .i64 x] w fun e w'=>e=.returned (.bool (decide (x∈l)))∧w=w':=by
 obtain ⟨⟨a,c,rfl,hlc,hc,hcells⟩,hlen,hb⟩:=hv
 go_enter Tryz.func144,Tryz.ntmps144
 go_wp2_with fail
 go_loop [5] (fun i=>∃ k:Nat,k≤l.length∧i=.int .i64 k∧x ∉ l.take k) (fun i=>l.length-(intOf i).toNat)
 case atStart=>exact ⟨0,by omega,rfl,by simp⟩
 case round=>
  obtain ⟨k,hk,rfl,hno⟩:=hrel
  have HNO:=Lib.hid hno
  clear hno
  by_cases hlt:k<l.length
  ·rcases hcells with h|⟨b,o,rfl,hcell⟩
   ·rw [h] at hlt;simp at hlt
   have hcl:=hcell k hlt
   have hlI:(k:Int)<l.length:=by omega
   have hts:l.take (k+1)=l.take k ++ [l.getD k 0]:=by rw [List.take_succ_eq_append_getElem hlt,List.getD_eq_getElem?_getD,List.getElem?_eq_getElem hlt];rfl
   have HTS:=Lib.hid hts
   have HM:=Lib.hid (getD_mem hlt)
   clear hts hcell
   generalize l.getD k 0=y at *
   by_cases hyx:y=x
   ·have hyb:(y == x)=true:=by simp [hyx]
    have HYX:=Lib.hid hyx
    clear hyx
    go_wp2_with fail
    go_ret
    exact ⟨ret_bool (by rw [decide_eq_true];rw [← HYX.out];exact HM.out),rfl⟩
   ·have hyb:(y == x)=false:=by simp [hyx]
    have HYX:=Lib.hid hyx
    clear hyx
    go_wp2_with fail
    go_round
    case rel=>exact ⟨k+1,by omega,by go_num,by
     rw [HTS.out,List.mem_append]
     rintro (h|h)
     ·exact HNO.out h
     ·rw [List.mem_singleton] at h;exact HYX.out h.symm⟩
    case measure=>simp [intOf];omega
  ·obtain rfl:k=l.length:=by omega
   go_wp2_with fail
   go_ret
   exact ⟨ret_bool (by rw [decide_eq_false];have h:=HNO.out;rwa [List.take_length] at h),rfl⟩
set_option maxHeartbeats 2000000 in
theorem Rrising_any (v:Value) (l:List Int) (lim:Int) (w:World) (hv:Ints w v l) :
  Calls Tryz.prog 104 #[v,.int .i64 lim] w fun e w'=>e=.returned (.bool (risingB (-1) lim l))∧∃ n,w'=w.drewN n:=by
 obtain ⟨⟨a,c,rfl,hlc,hc,hcells⟩,hlen,hb⟩:=hv
 go_enter Tryz.func104,Tryz.ntmps104
 go_wp2_with fail
 go_loopw [5] (fun i wr=>∃ (k:Nat) (pv:Int),k≤l.length∧i=.int .i64 k∧((k=0∧pv=-1)∨(1≤k∧pv=l.getD (k-1) 0∧0≤pv))∧risingB (-1) lim l=risingB pv lim (l.drop k)∧∃ n,wr=w.drewN n) (fun i _=>l.length-(intOf i).toNat)
 case atStart=>exact ⟨0,-1,by omega,rfl,.inl ⟨rfl,rfl⟩,by simp,0,rfl⟩
 case round=>
  obtain ⟨k,pv,hk,rfl,hpv,hr,n,rfl⟩:=hrel
  have HR:=Lib.hid hr
  clear hr
  by_cases hlt:k<l.length
  ·rcases hcells with h|⟨b,o,rfl,hcell⟩
   ·rw [h] at hlt;simp at hlt
   have hcl:=hcell k hlt
   have hlI:(k:Int)<l.length:=by omega
   have hdr:risingB pv lim (l.drop k)=if l.getD k 0≤pv∨lim≤l.getD k 0 then false else risingB (l.getD k 0) lim (l.drop (k+1)):=by rw [drop_cons hlt,risingB]
   rw [hdr] at HR
   clear hdr
   obtain ⟨x,hx⟩:∃ x,x=l.getD k 0:=⟨_,rfl⟩
   rw [← hx] at hcl HR
   have HX:=Lib.hid hx
   clear hx
   have hend:∀ q:Bool,(x≤pv∨lim≤x↔q=true)→risingB (-1) lim l=if q then false else risingB x lim (l.drop (k+1)):=fun q h=>by
    rw [HR.out]
    cases q <;> simp at h <;> simp [h]
   have HEND:=Lib.hid hend
   clear hend
   rcases hpv with ⟨hk0,hp0⟩|⟨hk1,hpe,hp0⟩
   ·have hkz:¬ (0:Int)<k:=by omega
    have hkd:decide ((0:Int)<(k:Int))=false:=by simp [hk0]
    have hkn:decide (0<k)=false:=by simp [hk0]
    have hkm:¬ 0<k:=by omega
    have HK0:=Lib.hid hk0
    have HP0:=Lib.hid hp0
    clear hcell hk0 hp0
    by_cases h1:x<0
    ·have d1:decide (x<0)=true:=by simp [h1]
     go_wp2_with fail
     go_quiet (fail)
     go_wp2_with fail
     go_ret
     refine ⟨ret_bool ?_,_,World.drewN_drewN _ _ _⟩
     rw [HEND.out true (by have:=HP0.out;simp;omega)];rfl
    ·have d1:decide (x<0)=false:=by simp;omega
     by_cases h2:lim≤x
     ·have d2:decide (lim≤x)=true:=by simp [h2]
      go_wp2_with fail
      go_quiet (fail)
      go_wp2_with fail
      go_ret
      refine ⟨ret_bool ?_,_,World.drewN_drewN _ _ _⟩
      rw [HEND.out true (by simp [h2])];rfl
     ·have d2:decide (lim≤x)=false:=by simp;omega
      go_wp2_with fail
      go_quiet (fail)
      go_wp2_with fail
      go_roundw
      case rel=>exact ⟨k+1,x,by omega,by go_num,.inr ⟨by omega,HX.out,by omega⟩,by rw [HEND.out false (by have:=HP0.out;simp;omega)];rfl,_,rfl⟩
      case measure=>simp [intOf];omega
   ·have hcl2:=hcell (k-1) (by omega)
    have hkz:(0:Int)<k:=by omega
    have hkd:decide ((0:Int)<(k:Int))=true:=by simp;omega
    rw [← hpe] at hcl2
    have HPE:=Lib.hid hpe
    clear hcell hpe
    by_cases h1:x<0
    ·have d1:decide (x<0)=true:=by simp [h1]
     go_wp2_with fail
     go_quiet (fail)
     go_wp2_with fail
     go_ret
     refine ⟨ret_bool ?_,_,World.drewN_drewN _ _ _⟩
     rw [HEND.out true (by simp;omega)];rfl
    ·have d1:decide (x<0)=false:=by simp;omega
     by_cases h2:lim≤x
     ·have d2:decide (lim≤x)=true:=by simp [h2]
      go_wp2_with fail
      go_quiet (fail)
      go_wp2_with fail
      go_ret
      refine ⟨ret_bool ?_,_,World.drewN_drewN _ _ _⟩
      rw [HEND.out true (by simp [h2])];rfl
     ·have d2:decide (lim≤x)=false:=by simp;omega
      obtain ⟨k',hk'⟩:∃ k',k=k'+1:=⟨k-1,by omega⟩
      subst hk'
      rw [show k'+1-1=k' from by omega] at hcl2
      have hs1:(((k'+1:Nat):Int)-1)=(k':Int):=by omega
      by_cases h3:x≤pv
      ·have d3:decide (x≤pv)=true:=by simp [h3]
       go_wp2_with fail
       go_quiet (fail)
       go_wp2_with fail
       go_ret
       refine ⟨ret_bool ?_,_,World.drewN_drewN _ _ _⟩
       rw [HEND.out true (by simp [h3])];rfl
      ·have d3:decide (x≤pv)=false:=by simp;omega
       go_wp2_with fail
       go_quiet (fail)
       go_wp2_with fail
       go_roundw
       case rel=>exact ⟨k'+1+1,x,by omega,by go_num,.inr ⟨by omega,HX.out,by omega⟩,by rw [HEND.out false (by simp;omega)];rfl,_,rfl⟩
       case measure=>simp [intOf];omega
  ·obtain rfl:k=l.length:=by omega
   go_wp2_with fail
   go_ret
   exact ⟨ret_bool (by rw [HR.out,List.drop_length];rfl),n,rfl⟩
theorem valid_no {head cycle:List Int} {frm period:Int} (h:frm<0∨1099511627776<frm∨period<1∨1099511627776<period∨1048576<(head.length:Int)+cycle.length):validB ⟨head,frm,period,cycle⟩=false:=by
 unfold validB
 rcases h with h|h|h|h|h
 ·rw [decide_eq_false (show ¬ 0≤frm by omega)];rfl
 ·rw [decide_eq_false (show ¬ frm≤1099511627776 by omega)];simp
 ·rw [decide_eq_false (show ¬ 1≤period by omega)];simp
 ·rw [decide_eq_false (show ¬ period≤1099511627776 by omega)];simp
 ·rw [decide_eq_false (show ¬ (head.length:Int)+cycle.length≤1048576 by omega)];simp
theorem valid_yes {head cycle:List Int} {frm period:Int} (h:0≤frm∧frm≤1099511627776∧1≤period∧period≤1099511627776∧(head.length:Int)+cycle.length≤1048576):validB ⟨head,frm,period,cycle⟩=(risingB (-1) frm head && risingB (-1) period cycle):=by
 unfold validB
 rw [decide_eq_true h.1,decide_eq_true h.2.1,decide_eq_true h.2.2.1,decide_eq_true h.2.2.2.1,decide_eq_true h.2.2.2.2];simp
set_option maxRecDepth 100000 in
set_option maxHeartbeats 2000000 in
theorem RValid_any (h c:Value) (p:Per) (w:World) (hp:PerIs w h c p) (hf:InI p.frm) (ht:InI p.period) :
  Calls Tryz.prog 62 #[perV h c p.frm p.period] w fun e w'=>e=.returned (.bool (validB p))∧Below w.heap.size w w':=by
 unfold InI at hf ht
 have hh':∀ W,Below w.heap.size w W→Ints W h p.head:=fun W hb=>hp.hd.ext hb
 have hc':∀ W,Below w.heap.size w W→Ints W c p.cycle:=fun W hb=>hp.cy.ext hb
 have hl1:=hp.hd.len
 have hl2:=hp.cy.len
 obtain ⟨a1,c1,a2,c2,rfl,rfl⟩:=hp.inn.form
 obtain ⟨head,frm,period,cycle⟩:=p
 dsimp only at *
 obtain ⟨r1,hr1⟩:∃ r1,r1=risingB (-1) frm head:=⟨_,rfl⟩
 obtain ⟨r2,hr2⟩:∃ r2,r2=risingB (-1) period cycle:=⟨_,rfl⟩
 have HR1:=Lib.hid hr1.symm
 have HR2:=Lib.hid hr2.symm
 clear hp hr1 hr2
 go_enter Tryz.func62,Tryz.ntmps62
 go_wp2_with (go_at_call 104;first|((with_reducible refine (Rrising_any (.slice a1 head.length c1) head frm _ (hh' _ xE)).mono ?_);rintro e w1 ⟨he,n1,rfl⟩;rw [HR1.out] at he;subst he)|((with_reducible refine (Rrising_any (.slice a2 cycle.length c2) cycle period _ (hc' _ xE)).mono ?_);rintro e w2 ⟨he,n2,rfl⟩;rw [HR2.out] at he;subst he))
 all_goals go_ret
 all_goals first
  | exact ⟨ret_bool (valid_no (by omega)).symm,xE⟩
  | (refine ⟨ret_bool ?_,xE⟩;rw [valid_yes (by omega),HR1.out,HR2.out];first|rfl|simp [*])
set_option maxRecDepth 100000 in
set_option maxHeartbeats 2000000 in
theorem RHas_any (h c:Value) (p:Per) (n:Int) (w:World) (hp:PerIs w h c p) (hf:InI p.frm) (ht:InI p.period) (hn:InI n) :
  Calls Tryz.prog 107 #[perV h c p.frm p.period,.int .i64 n] w fun e w'=>e=.returned (.bool (validB p && decide (0≤n) && memB p n))∧Below w.heap.size w w':=by
 have hl:∀ W,Below w.heap.size w W→PerIs W h c p:=fun W hb=>hp.ext hb
 have hf0:=hf
 have ht0:=ht
 unfold InI at hn hf ht
 obtain ⟨a1,c1,a2,c2,rfl,rfl⟩:=hp.inn.form
 have H1:∀ W,Below w.heap.size w W→Ints W (.slice a1 p.head.length c1) p.head:=fun W hb=>hp.hd.ext hb
 have H2:∀ W,Below w.heap.size w W→Ints W (.slice a2 p.cycle.length c2) p.cycle:=fun W hb=>hp.cy.ext hb
 have HF0:=Lib.hid hf0
 have HT0:=Lib.hid ht0
 clear hp hf0 ht0
 by_cases hv:validB p=true
 ·have HV:=Lib.hid hv
  have hfp:=((validB_iff p).1 hv).wf.frm
  have hpp:=((validB_iff p).1 hv).wf.per
  have HW:=Lib.hid ((validB_iff p).1 hv)
  clear hv
  by_cases h0:0≤n
  ·by_cases hlt:n<p.frm
   ·have hm:memB p n=decide (n∈p.head):=by unfold memB;rw [if_pos hlt]
    have HM:Hid ((validB p && decide (0≤n) && memB p n)=decide (n∈p.head)):=Lib.hid (by rw [HV.out,hm];simp [h0])
    clear hm
    go_enter Tryz.func107,Tryz.ntmps107
    go_wp2_with (first|(go_at_call 62;refine (RValid_any (.slice a1 p.head.length c1) (.slice a2 p.cycle.length c2) p _ (hl _ xE) HF0.out HT0.out).mono ?_;rintro e w1 ⟨he,hb1⟩;rw [HV.out] at he;subst he;obtain ⟨hc1,hf1⟩:=bcell hb1;(try simp only [World.size_alloc,World.size_drew,size_drewN,World.size_setCell] at hc1 hf1);have hz1:w.heap.size<w1.heap.size:=(by have h7:=hb1.size;simp at h7;omega))|(go_at_call 144;refine (Rin_any (.slice a1 p.head.length c1) p.head n _ (H1 _ xE)).mono ?_;rintro e w2 ⟨rfl,rfl⟩))
    go_ret
    exact ⟨ret_bool HM.out.symm,xE⟩
   ·have hm:memB p n=decide ((n-p.frm) % p.period∈p.cycle):=by unfold memB;rw [if_neg hlt]
    have HM:Hid ((validB p && decide (0≤n) && memB p n)=decide ((n-p.frm) % p.period∈p.cycle)):=Lib.hid (by rw [HV.out,hm];simp [h0])
    have hsub:IntKind.i64.wrap (n-p.frm)=n-p.frm:=IntWalk.i64_in _ ⟨by omega,by omega⟩
    have htm:(n-p.frm).tmod p.period=(n-p.frm) % p.period:=Int.tmod_eq_emod_of_nonneg (by omega)
    have HSUB:=Lib.hid hsub
    have HTM:=Lib.hid htm
    clear hm hsub htm
    go_enter Tryz.func107,Tryz.ntmps107
    go_upto_region 5 with (go_at_call 62;refine (RValid_any (.slice a1 p.head.length c1) (.slice a2 p.cycle.length c2) p _ (hl _ xE) HF0.out HT0.out).mono ?_;rintro e w1 ⟨he,hb1⟩;rw [HV.out] at he;subst he;obtain ⟨hc1,hf1⟩:=bcell hb1;(try simp only [World.size_alloc,World.size_drew,size_drewN,World.size_setCell] at hc1 hf1);have hz1:w.heap.size<w1.heap.size:=(by have h7:=hb1.size;simp at h7;omega))
    have hge:p.frm≤n:=by omega
    have hpos:0<p.period:=by omega
    obtain ⟨hn1,hn2⟩:=hn
    obtain ⟨ht1,ht2⟩:=ht
    clear hlt hf
    have hne:¬ p.period=0:=by omega
    have htm:=HTM.out
    go_quiet ((go_at_call 144;(first|exact quiet_same (Rin_any (.slice a2 p.cycle.length c2) p.cycle _ _ (H2 _ xE))|exact quiet_add_left (Rin_any (.slice a2 p.cycle.length c2) p.cycle _ _ (H2 _ xE)))))
    go_wp2_with fail
    go_ret
    exact ⟨ret_bool HM.out.symm,xE⟩
  ·have h0':decide (0≤n)=false:=by simpa using h0
   have hlt:n<0:=by omega
   go_enter Tryz.func107,Tryz.ntmps107
   go_wp2_with (go_at_call 62;refine (RValid_any (.slice a1 p.head.length c1) (.slice a2 p.cycle.length c2) p _ (hl _ xE) HF0.out HT0.out).mono ?_;rintro e w1 ⟨he,hb1⟩;rw [HV.out] at he;subst he)
   go_ret
   exact ⟨ret_bool (by simp [h0']),xE⟩
 ·have hv':validB p=false:=by simpa using hv
  have HV:=Lib.hid hv'
  clear hv hv'
  go_enter Tryz.func107,Tryz.ntmps107
  go_wp2_with (go_at_call 62;refine (RValid_any (.slice a1 p.head.length c1) (.slice a2 p.cycle.length c2) p _ (hl _ xE) HF0.out HT0.out).mono ?_;rintro e w1 ⟨he,hb1⟩;rw [HV.out] at he;subst he)
  go_ret
  exact ⟨ret_bool (by rw [HV.out];simp),xE⟩
end Go.Proofs.YthjnojbeimchdaaGreat
namespace Go.Proofs.YthjnojbeimchdaaGreat
open Go.RowKit Go.Maps Kal
set_option maxRecDepth 100000 in
set_option maxHeartbeats 1000000 in
theorem RIn_any (F:Nat→Prop) (v:Value) (t:List Per) (n:Int) (w:World) (ht:TermR w F v t) (hn:InI n) :
  Calls Tryz.prog 67 #[v,.int .i64 n] w fun e w'=>e=.returned (.bool (inB t n))∧Below w.heap.size w w':=by
 obtain ⟨L,hLt,hL⟩:=ht
 obtain ⟨a1,c1,rfl,_⟩:=hL.row
 have HL:=Lib.hid hL
 have hl1:=hL.len
 have htl:t.length=L.length:=by rw [← hLt,List.length_map]
 have HT:=Lib.hid htl
 have HLT:=Lib.hid hLt
 have HN:=Lib.hid hn
 clear hL htl hLt hn
 go_enter Tryz.func67,Tryz.ntmps67
 go_wp2_with fail
 go_loopw [5] (fun i wr=>∃ k:Nat,k≤L.length∧i=.int .i64 k∧Hid ((t.take k).all (fun p=>hasB p n)=true)∧Hid (Below w.heap.size w wr)) (fun i _=>L.length-(intOf i).toNat)
 case atStart=>exact ⟨0,by omega,rfl,Lib.hid rfl,Lib.hid xE⟩
 case round=>
  obtain ⟨k,hk,rfl,HPRE,HBL⟩:=hrel
  by_cases hlt:k<L.length
  ·have hlI:(k:Int)<L.length:=by omega
   obtain ⟨b1,o1,x,rfl,hx,hxp,hb1,e0,e1,e2,e3⟩:=(HL.out.keep (KeepF.below HBL.out) HBL.out.size).get hlt
   rw [HLT.out] at hxp
   have HSU:Hid ((t.take (k+1)).all (fun p=>hasB p n)=((t.take k).all (fun p=>hasB p n) && hasB x.p n)):=Lib.hid (by rw [hxp];exact all_take (l:=t) (k:=k) (d:=default) (p:=fun p=>hasB p n) (show k<t.length by have:=HT.out;omega))
   have HF:Hid (hasB x.p n=false→inB t n=false):=Lib.hid fun h=>all_false (l:=t) (k:=k) (d:=default) (show k<t.length by have:=HT.out;omega) (by rw [← hxp];exact h)
   obtain ⟨xh,xc,xp⟩:=x
   obtain ⟨ax1,nx1,cx1,ax2,nx2,cx2,rfl,rfl⟩:=hx.form
   have HR:=fun W (h:Below wr.heap.size wr W)=>RHas_any (.slice ax1 nx1 cx1) (.slice ax2 nx2 cx2) xp n W (hx.is.ext h) hx.fr hx.pe HN.out
   change ∀ W,_→Calls _ _ #[.agg #[.slice ax1 nx1 cx1,.int .i64 xp.frm,.int .i64 xp.period,.slice ax2 nx2 cx2],.int .i64 n] W (fun e w'=>e=.returned (.bool (hasB xp n))∧_) at HR
   dsimp only at e0 e1 e2 e3 HSU HF
   clear hxp hx
   generalize hasB xp n=bb at *
   have HR:=Lib.hid HR
   have HBY:=HBL.out
   cases bb
   ·go_wp2_with (go_at_call 107;(with_reducible refine (HR.out _ (Er _)).mono ?_);rintro e w1 ⟨rfl,hb2⟩)
    go_ret
    exact ⟨ret_bool (by first|exact HF.out rfl|exact HF.out trivial|exact HF.out:inB t n=false).symm,Et HBL.out hb2⟩
   ·go_wp2_with (go_at_call 107;(with_reducible refine (HR.out _ (Er _)).mono ?_);rintro e w1 ⟨rfl,hb2⟩)
    go_roundw
    case rel=>exact ⟨k+1,by omega,by go_num,Lib.hid (by rw [HSU.out,HPRE.out];rfl),Lib.hid (Et HBL.out hb2)⟩
    case measure=>simp [intOf];omega
  ·obtain rfl:k=L.length:=by omega
   go_wp2_with fail
   go_ret
   refine ⟨ret_bool (Eq.symm ?_),HBL.out⟩
   have h1:=HT.out
   have h2:=HPRE.out
   rw [List.take_of_length_le (by omega)] at h2
   exact h2
set_option maxRecDepth 100000 in
set_option maxHeartbeats 2000000 in
theorem RmValid_any (F:Nat→Prop) (v:Value) (m:List (List Per)) (w:World) (hm:MixR w F v m) :
  Calls Tryz.prog 17 #[.agg #[v]] w fun e w'=>e=.returned (.bool (validM m))∧Below w.heap.size w w':=by
 obtain ⟨L,hLm,hL⟩:=hm
 obtain ⟨a,c,rfl,_⟩:=hL.row
 have HL:=Lib.hid hL
 have hlen:=hL.len
 have hml:m.length=L.length:=by rw [← hLm];exact List.length_map _
 have HLM:=Lib.hid hLm
 have HM:=Lib.hid hml
 clear hL hLm hml
 go_enter Tryz.func17,Tryz.ntmps17
 by_cases hgt:64<L.length
 ·have hgI:64<(L.length:Int):=by omega
  go_wp2_with fail
  go_ret
  refine ⟨ret_bool ?_,xE⟩
  have:=HM.out
  unfold validM
  rw [decide_eq_false (by omega)];rfl
 have hgI:¬ 64<(L.length:Int):=by omega
 go_wp2_with fail
 go_loopw [3,4,5] (fun i _ _ wr=>∃ k:Nat,k≤L.length∧i=.int .i64 k∧Hid ((m.take k).all validT=true)∧Hid (Below w.heap.size w wr)∧Hid (Bxx wr w.heap.size #[.slice a L.length c] 28)) (fun i _ _ _=>L.length-(intOf i).toNat)
 case atStart=>exact ⟨0,by omega,rfl,Lib.hid rfl,Lib.hid xE,Lib.hid xB⟩
 case round=>
  obtain ⟨k,hk,rfl,HPRE,HBL,HBX⟩:=hrel
  have hc0:=(Bxx.cells HBX.out 0).1
  by_cases hlt:k<L.length
  ·have hlI:(k:Int)<L.length:=by omega
   obtain ⟨b8,f8,tv,rfl,hcell,hT⟩:=(HL.out.keep (KeepF.below HBL.out) HBL.out.size).get hlt
   rw [HLM.out] at hT
   have HSU:Hid ((m.take (k+1)).all validT=((m.take k).all validT && validT (m.getD k []))):=Lib.hid (all_take (l:=m) (k:=k) (d:=[]) (p:=validT) (show k<m.length by have:=HM.out;omega))
   have HF:Hid (validT (m.getD k [])=false→validM m=false):=Lib.hid fun h=>by unfold validM;rw [all_false (l:=m) (k:=k) (d:=[]) (show k<m.length by have:=HM.out;omega) h,Bool.and_false]
   generalize m.getD k []=t at *
   obtain ⟨T,hTt,hTL⟩:=hT
   obtain ⟨a2,c2,rfl,_⟩:=hTL.row
   have htl:t.length=T.length:=by rw [← hTt,List.length_map]
   have ht44:=hTL.len
   have HTL:=Lib.hid hTL
   have HTT:=Lib.hid hTt
   have HTN:=Lib.hid htl
   clear hTL hTt htl
   by_cases h1:T.length<1
   ·have h1I:(T.length:Int)<1:=by omega
    go_wp2_with fail
    go_ret
    refine ⟨ret_bool (HF.out ?_).symm,HBL.out⟩
    have:=HTN.out
    unfold validT;rw [decide_eq_false (by omega)];rfl
   ·by_cases h2:4<T.length
    ·have h1I:¬ (T.length:Int)<1:=by omega
     have h2I:4<(T.length:Int):=by omega
     go_wp2_with fail
     go_ret
     refine ⟨ret_bool (HF.out ?_).symm,HBL.out⟩
     have:=HTN.out
     unfold validT;rw [decide_eq_false (p:=t.length≤4) (by omega),Bool.and_false];rfl
    ·have h1I:¬ (T.length:Int)<1:=by omega
     have h2I:¬ 4<(T.length:Int):=by omega
     have HV4:Hid (validT t=t.all validB):=Lib.hid (by have:=HTN.out;unfold validT;rw [decide_eq_true (by omega),decide_eq_true (by omega)];rfl)
     obtain ⟨wo,hwo⟩:∃ wo,wo=wr:=⟨_,rfl⟩
     have HBO:=HBL
     rw [← hwo] at HBO HTL HBX
     have HWO:=Lib.hid hwo
     clear hwo
     go_wp2_with fail
     go_loopw [5] (fun i wq=>∃ j:Nat,j≤T.length∧i=.int .i64 j∧Hid ((t.take j).all validB=true)∧Hid (Below wo.heap.size wo wq)) (fun i _=>T.length-(intOf i).toNat)
     case atStart=>exact ⟨0,by omega,rfl,Lib.hid rfl,Lib.hid (by rw [← HWO.out];exact Er _)⟩
     case round=>
      obtain ⟨j,hj,rfl,HPR2,HB2⟩:=hrel
      by_cases hlt2:j<T.length
      ·have hlI2:(j:Int)<T.length:=by omega
       obtain ⟨b1,o1,x,rfl,hx,hxp,hb1,e0,e1,e2,e3⟩:=(HTL.out.keep (KeepF.below HB2.out) HB2.out.size).get hlt2
       rw [HTT.out] at hxp
       have HS2:Hid ((t.take (j+1)).all validB=((t.take j).all validB && validB x.p)):=Lib.hid (by rw [hxp];exact all_take (l:=t) (k:=j) (d:=default) (p:=validB) (show j<t.length by have:=HTN.out;omega))
       have HF2:Hid (validB x.p=false→t.all validB=false):=Lib.hid fun h=>all_false (l:=t) (k:=j) (d:=default) (show j<t.length by have:=HTN.out;omega) (by rw [← hxp];exact h)
       obtain ⟨xh,xc,xp⟩:=x
       obtain ⟨ax1,nx1,cx1,ax2,nx2,cx2,rfl,rfl⟩:=hx.form
       have HR:=fun W (h:Below wr.heap.size wr W)=>RValid_any (.slice ax1 nx1 cx1) (.slice ax2 nx2 cx2) xp W (hx.is.ext h) hx.fr hx.pe
       change ∀ W,_→Calls _ _ #[.agg #[.slice ax1 nx1 cx1,.int .i64 xp.frm,.int .i64 xp.period,.slice ax2 nx2 cx2]] W (fun e w'=>e=.returned (.bool (validB xp))∧_) at HR
       dsimp only at e0 e1 e2 e3 HS2 HF2
       clear hxp hx
       generalize validB xp=bb at *
       have HR:=Lib.hid HR
       cases bb
       ·go_wp2_with (go_at_call 62;(with_reducible refine (HR.out _ (Er _)).mono ?_);rintro e w1 ⟨rfl,hb2⟩)
        go_ret
        exact ⟨ret_bool (HF.out (HV4.out.trans (by first|exact HF2.out rfl|exact HF2.out trivial|exact HF2.out))).symm,Et HBO.out (Et HB2.out hb2)⟩
       ·go_wp2_with (go_at_call 62;(with_reducible refine (HR.out _ (Er _)).mono ?_);rintro e w1 ⟨rfl,hb2⟩)
        go_roundw
        case rel=>exact ⟨j+1,by omega,by go_num,Lib.hid (by rw [HS2.out,HPR2.out];rfl),Lib.hid (Et HB2.out hb2)⟩
        case measure=>simp [intOf];omega
      ·obtain rfl:j=T.length:=by omega
       go_wp2_with fail
       go_roundw
       case rel=>
        refine ⟨k+1,by omega,by go_num,Lib.hid ?_,Lib.hid (Et HBO.out HB2.out),Lib.hid (Bxx.below HBX.out HB2.out)⟩
        have h1:=HTN.out
        have h2:=HPR2.out
        rw [List.take_of_length_le (by omega)] at h2
        rw [HSU.out,HPRE.out,HV4.out,h2];rfl
       case measure=>simp [intOf];omega
  ·obtain rfl:k=L.length:=by omega
   go_wp2_with fail
   go_ret
   refine ⟨ret_bool (Eq.symm ?_),HBL.out⟩
   have h1:=HM.out
   have h2:=HPRE.out
   rw [List.take_of_length_le (by omega)] at h2
   unfold validM
   rw [decide_eq_true (by omega),h2];rfl
set_option maxRecDepth 100000 in
set_option maxHeartbeats 2000000 in
theorem RmHas_any (F:Nat→Prop) (v:Value) (m:List (List Per)) (n:Int) (w:World) (hm:MixR w F v m) (hn:InI n) :
  Calls Tryz.prog 20 #[.agg #[v],.int .i64 n] w fun e w'=>e=.returned (.bool (hasM m n))∧Below w.heap.size w w':=by
 have HV:=fun W (h:Below w.heap.size w W)=>RmValid_any F v m W (hm.ext h)
 obtain ⟨L,hLm,hL⟩:=hm
 obtain ⟨a,c,rfl,_⟩:=hL.row
 have HL:=Lib.hid hL
 have hlen:=hL.len
 have hml:m.length=L.length:=by rw [← hLm];exact List.length_map _
 have HLM:=Lib.hid hLm
 have HM:=Lib.hid hml
 have HN:=Lib.hid hn
 clear hL hLm hml hn
 cases hq:validM m with
 | false=>
  rw [hq] at HV
  have HQ:=Lib.hid hq
  clear hq
  go_enter Tryz.func20,Tryz.ntmps20
  go_wp2_with (go_at_call 17;(with_reducible refine (HV _ xE).mono ?_);rintro e w1 ⟨rfl,hb1⟩)
  go_ret
  refine ⟨ret_bool ?_,xE⟩
  unfold hasM;rw [HQ.out];rfl
 | true=>
  rw [hq] at HV
  have HQ:Hid (hasM m n=m.any fun t=>inB t n):=Lib.hid (by unfold hasM;rw [hq];rfl)
  clear hq
  have HV:=Lib.hid HV
  go_enter Tryz.func20,Tryz.ntmps20
  go_wp2_with (go_at_call 17;(with_reducible refine (HV.out _ xE).mono ?_);rintro e w1 ⟨rfl,hb1⟩;have b0:Bxx w1 w.heap.size #[.slice a L.length c] 28:=Bxx.below xB hb1;have x0:=(Bxx.cells b0 0).1;have B0:=Lib.hid b0;have hW1:Below w.heap.size w w1:=xE;clear b0)
  go_loopw [5] (fun i wr=>∃ k:Nat,k≤L.length∧i=.int .i64 k∧Hid ((m.take k).any (fun t=>inB t n)=false)∧Hid (Below w1.heap.size w1 wr)) (fun i _=>L.length-(intOf i).toNat)
  case atStart=>exact ⟨0,by omega,rfl,Lib.hid rfl,Lib.hid (Er _)⟩
  case round=>
   obtain ⟨k,hk,rfl,HPRE,HBL⟩:=hrel
   have hc0:=(Bxx.cells (Bxx.below B0.out HBL.out) 0).1
   by_cases hlt:k<L.length
   ·have hlI:(k:Int)<L.length:=by omega
    have hbb:=Et hW1 HBL.out
    obtain ⟨b8,f8,tv,rfl,hcell,hT⟩:=(HL.out.keep (KeepF.below hbb) hbb.size).get hlt
    rw [HLM.out] at hT
    have htk:k<m.length:=by have:=HM.out;omega
    have HSU:Hid ((m.take (k+1)).any (fun t=>inB t n)=((m.take k).any (fun t=>inB t n) || inB (m.getD k []) n)):=Lib.hid (by rw [List.take_succ_eq_append_getElem htk,List.any_append,List.getD_eq_getElem?_getD,List.getElem?_eq_getElem htk];simp)
    have HF:Hid (inB (m.getD k []) n=true→(m.any fun t=>inB t n)=true):=Lib.hid fun h=>List.any_eq_true.2 ⟨_,getD_mem' (d:=[]) htk,h⟩
    have HR:=Lib.hid (fun W (h:Below wr.heap.size wr W)=>RIn_any F tv (m.getD k []) n W (hT.ext h) HN.out)
    obtain ⟨a2,c2,rfl,ht44⟩:=hT.form
    clear hT htk hbb
    generalize m.getD k []=t at *
    generalize inB t n=bb at *
    have HBY:=HBL.out
    cases bb
    ·go_wp2_with (go_at_call 67;(with_reducible refine (HR.out _ (Er _)).mono ?_);rintro e w2 ⟨rfl,hb2⟩)
     go_roundw
     case rel=>exact ⟨k+1,by omega,by go_num,Lib.hid (by rw [HSU.out,HPRE.out];rfl),Lib.hid (Et HBL.out hb2)⟩
     case measure=>simp [intOf];omega
    ·go_wp2_with (go_at_call 67;(with_reducible refine (HR.out _ (Er _)).mono ?_);rintro e w2 ⟨rfl,hb2⟩)
     go_ret
     exact ⟨ret_bool (HQ.out.trans (by first|exact HF.out rfl|exact HF.out trivial|exact HF.out)).symm,Et hW1 (Et HBL.out hb2)⟩
   ·obtain rfl:k=L.length:=by omega
    go_wp2_with fail
    go_ret
    refine ⟨ret_bool (Eq.symm ?_),Et hW1 HBL.out⟩
    have h1:=HM.out
    have h2:=HPRE.out
    rw [List.take_of_length_le (by omega)] at h2
    exact HQ.out.trans h2
end Go.Proofs.YthjnojbeimchdaaGreat
namespace Go.Proofs.YthjnojbeimchdaaGreat
open Go.RowKit Go.Maps Kal
set_option maxRecDepth 100000 in
set_option maxHeartbeats 2000000 in
theorem mor_bad (F1 F2:Nat→Prop) (v1 v2:Value) (m1 m2:List (List Per)) (w:World) (h1:MixR w F1 v1 m1) (h2:MixR w F2 v2 m2) (hb:(validM m1 && validM m2)=false) :
  Calls Tryz.prog 21 #[.agg #[v1],.agg #[v2]] w fun e w'=>e=.returned (.tuple #[.agg #[.slice none 0 0],.int .i64 1])∧Below w.heap.size w w':=by
 have HV1:=fun W (h:Below w.heap.size w W)=>mvalid_any F1 v1 m1 W (h1.ext h)
 have HV2:=fun W (h:Below w.heap.size w W)=>mvalid_any F2 v2 m2 W (h2.ext h)
 obtain ⟨a1,c1,rfl⟩:=h1.form
 obtain ⟨a2,c2,rfl⟩:=h2.form
 clear h1 h2
 cases hq:validM m1 with
 | false=>
  rw [hq] at HV1
  clear hb hq HV2
  go_enter Tryz.func21,Tryz.ntmps21
  go_wp2_with (go_at_call 18;(with_reducible refine (HV1 _ xE).mono ?_);rintro e w1 ⟨rfl,hb1⟩;have b2:Bxx w1 (w.heap.size+1+1) #[.slice none 0 0] 28:=Bxx.below xB hb1;have y2:=(b2.cells 0).1;have f2:=(b2.cells 0).2;have hW1:Below w.heap.size w w1:=by exact xE)
  have hcc:=Bxx.c0 (heap_set_at 0 (.slice none 0 0) b2)
  refine bodyPost_ret (v:=.tuple #[.agg #[.slice none 0 0],.int .i64 1]) (by simp [results,Tryz.results21,go_sem,hcc]) rfl ⟨rfl,hW1.setCell (p:=⟨w.heap.size+1+1,0,none⟩) (by show w.heap.size≤w.heap.size+1+1;omega) _⟩
 | true=>
  rw [hq] at HV1 hb
  have hq2:validM m2=false:=by simpa using hb
  rw [hq2] at HV2
  clear hb hq hq2
  go_enter Tryz.func21,Tryz.ntmps21
  go_wp2_with (go_at_call 18;first
   | ((with_reducible refine (HV1 _ xE).mono ?_);rintro e w1 ⟨rfl,hb1⟩;have b1:Bxx w1 (w.heap.size+1) #[.slice a2 m2.length c2] 28:=Bxx.below xB hb1;have b2:Bxx w1 (w.heap.size+1+1) #[.slice none 0 0] 28:=Bxx.below xB hb1;have x1:=b1.c0;have hW1:Below w.heap.size w w1:=by exact xE)
   | ((with_reducible refine (HV2 _ hW1).mono ?_);rintro e w2 ⟨rfl,hb2⟩;have d2:=b2.below hb2;have y2:=(d2.cells 0).1;have f2:=(d2.cells 0).2;have hW2:Below w.heap.size w w2:=Et hW1 hb2))
  have hcc:=Bxx.c0 (heap_set_at 0 (.slice none 0 0) d2)
  refine bodyPost_ret (v:=.tuple #[.agg #[.slice none 0 0],.int .i64 1]) (by simp [results,Tryz.results21,go_sem,hcc]) rfl ⟨rfl,hW2.setCell (p:=⟨w.heap.size+1+1,0,none⟩) (by show w.heap.size≤w.heap.size+1+1;omega) _⟩
set_option maxRecDepth 100000 in
set_option maxHeartbeats 2000000 in
theorem mand_bad (F1 F2:Nat→Prop) (v1 v2:Value) (m1 m2:List (List Per)) (w:World) (h1:MixR w F1 v1 m1) (h2:MixR w F2 v2 m2) (hb:(validM m1 && validM m2)=false) :
  Calls Tryz.prog 22 #[.agg #[v1],.agg #[v2]] w fun e w'=>e=.returned (.tuple #[.agg #[.slice none 0 0],.int .i64 1])∧Below w.heap.size w w':=by
 have HV1:=fun W (h:Below w.heap.size w W)=>mvalid_any F1 v1 m1 W (h1.ext h)
 have HV2:=fun W (h:Below w.heap.size w W)=>mvalid_any F2 v2 m2 W (h2.ext h)
 obtain ⟨a1,c1,rfl⟩:=h1.form
 obtain ⟨a2,c2,rfl⟩:=h2.form
 clear h1 h2
 cases hq:validM m1 with
 | false=>
  rw [hq] at HV1
  clear hb hq HV2
  go_enter Tryz.func22,Tryz.ntmps22
  go_wp2_with (go_at_call 18;(with_reducible refine (HV1 _ xE).mono ?_);rintro e w1 ⟨rfl,hb1⟩;have b2:Bxx w1 (w.heap.size+1+1) #[.slice none 0 0] 28:=Bxx.below xB hb1;have y2:=(b2.cells 0).1;have f2:=(b2.cells 0).2;have hW1:Below w.heap.size w w1:=by exact xE)
  have hcc:=Bxx.c0 (heap_set_at 0 (.slice none 0 0) b2)
  refine bodyPost_ret (v:=.tuple #[.agg #[.slice none 0 0],.int .i64 1]) (by simp [results,Tryz.results22,go_sem,hcc]) rfl ⟨rfl,hW1.setCell (p:=⟨w.heap.size+1+1,0,none⟩) (by show w.heap.size≤w.heap.size+1+1;omega) _⟩
 | true=>
  rw [hq] at HV1 hb
  have hq2:validM m2=false:=by simpa using hb
  rw [hq2] at HV2
  clear hb hq hq2
  go_enter Tryz.func22,Tryz.ntmps22
  go_wp2_with (go_at_call 18;first
   | ((with_reducible refine (HV1 _ xE).mono ?_);rintro e w1 ⟨rfl,hb1⟩;have b1:Bxx w1 (w.heap.size+1) #[.slice a2 m2.length c2] 28:=Bxx.below xB hb1;have b2:Bxx w1 (w.heap.size+1+1) #[.slice none 0 0] 28:=Bxx.below xB hb1;have x1:=b1.c0;have hW1:Below w.heap.size w w1:=by exact xE)
   | ((with_reducible refine (HV2 _ hW1).mono ?_);rintro e w2 ⟨rfl,hb2⟩;have d2:=b2.below hb2;have y2:=(d2.cells 0).1;have f2:=(d2.cells 0).2;have hW2:Below w.heap.size w w2:=Et hW1 hb2))
  have hcc:=Bxx.c0 (heap_set_at 0 (.slice none 0 0) d2)
  refine bodyPost_ret (v:=.tuple #[.agg #[.slice none 0 0],.int .i64 1]) (by simp [results,Tryz.results22,go_sem,hcc]) rfl ⟨rfl,hW2.setCell (p:=⟨w.heap.size+1+1,0,none⟩) (by show w.heap.size≤w.heap.size+1+1;omega) _⟩
set_option maxRecDepth 100000 in
set_option maxHeartbeats 2000000 in
theorem mminus_bad (F1 F2:Nat→Prop) (v1 v2:Value) (m1 m2:List (List Per)) (w:World) (h1:MixR w F1 v1 m1) (h2:MixR w F2 v2 m2) (hb:(validM m1 && validM m2)=false) :
  Calls Tryz.prog 23 #[.agg #[v1],.agg #[v2]] w fun e w'=>e=.returned (.tuple #[.agg #[.slice none 0 0],.int .i64 1])∧Below w.heap.size w w':=by
 have HV1:=fun W (h:Below w.heap.size w W)=>mvalid_any F1 v1 m1 W (h1.ext h)
 have HV2:=fun W (h:Below w.heap.size w W)=>mvalid_any F2 v2 m2 W (h2.ext h)
 obtain ⟨a1,c1,rfl⟩:=h1.form
 obtain ⟨a2,c2,rfl⟩:=h2.form
 clear h1 h2
 cases hq:validM m1 with
 | false=>
  rw [hq] at HV1
  clear hb hq HV2
  go_enter Tryz.func23,Tryz.ntmps23
  go_wp2_with (go_at_call 18;(with_reducible refine (HV1 _ xE).mono ?_);rintro e w1 ⟨rfl,hb1⟩;have b2:Bxx w1 (w.heap.size+1+1) #[.slice none 0 0] 28:=Bxx.below xB hb1;have y2:=(b2.cells 0).1;have f2:=(b2.cells 0).2;have hW1:Below w.heap.size w w1:=by exact xE)
  have hcc:=Bxx.c0 (heap_set_at 0 (.slice none 0 0) b2)
  refine bodyPost_ret (v:=.tuple #[.agg #[.slice none 0 0],.int .i64 1]) (by simp [results,Tryz.results23,go_sem,hcc]) rfl ⟨rfl,hW1.setCell (p:=⟨w.heap.size+1+1,0,none⟩) (by show w.heap.size≤w.heap.size+1+1;omega) _⟩
 | true=>
  rw [hq] at HV1 hb
  have hq2:validM m2=false:=by simpa using hb
  rw [hq2] at HV2
  clear hb hq hq2
  go_enter Tryz.func23,Tryz.ntmps23
  go_wp2_with (go_at_call 18;first
   | ((with_reducible refine (HV1 _ xE).mono ?_);rintro e w1 ⟨rfl,hb1⟩;have b1:Bxx w1 (w.heap.size+1) #[.slice a2 m2.length c2] 28:=Bxx.below xB hb1;have b2:Bxx w1 (w.heap.size+1+1) #[.slice none 0 0] 28:=Bxx.below xB hb1;have x1:=b1.c0;have hW1:Below w.heap.size w w1:=by exact xE)
   | ((with_reducible refine (HV2 _ hW1).mono ?_);rintro e w2 ⟨rfl,hb2⟩;have d2:=b2.below hb2;have y2:=(d2.cells 0).1;have f2:=(d2.cells 0).2;have hW2:Below w.heap.size w w2:=Et hW1 hb2))
  have hcc:=Bxx.c0 (heap_set_at 0 (.slice none 0 0) d2)
  refine bodyPost_ret (v:=.tuple #[.agg #[.slice none 0 0],.int .i64 1]) (by simp [results,Tryz.results23,go_sem,hcc]) rfl ⟨rfl,hW2.setCell (p:=⟨w.heap.size+1+1,0,none⟩) (by show w.heap.size≤w.heap.size+1+1;omega) _⟩
set_option maxRecDepth 100000 in
set_option maxHeartbeats 2000000 in
theorem mjoin_bad (F:Nat→Prop) (v:Value) (m:List (List Per)) (w:World) (hm:MixR w F v m) (hq:validM m=false) :
  Calls Tryz.prog 24 #[.agg #[v]] w fun e w'=>e=.returned (.tuple #[perV (.slice none 0 0) (.slice none 0 0) 0 0,.int .i64 1])∧Below w.heap.size w w':=by
 have HV1:=fun W (h:Below w.heap.size w W)=>mvalid_any F v m W (hm.ext h)
 rw [hq] at HV1
 obtain ⟨a1,c1,rfl⟩:=hm.form
 clear hm hq
 go_enter Tryz.func24,Tryz.ntmps24
 go_wp2_with (go_at_call 18;(with_reducible refine (HV1 _ xE).mono ?_);rintro e w1 ⟨rfl,hb1⟩;have b1:Bxx w1 (w.heap.size+1) #[.slice none 0 0,.int .i64 0,.int .i64 0,.slice none 0 0] 39:=Bxx.below xB hb1;have g0:=b1.cells 0;have g1:=b1.cells 1;have g2:=b1.cells 2;have g3:=b1.cells 3;have hW1:Below w.heap.size w w1:=by exact xE)
 have hs:=Bxx.set4 (x':=.slice none 0 0) (y':=.int .i64 0) (z':=.int .i64 0) (u':=.slice none 0 0) b1
 have k0:=(hs.cells 0).1
 have k1:=(hs.cells 1).1
 have k2:=(hs.cells 2).1
 have k3:=(hs.cells 3).1
 refine bodyPost_ret (v:=.tuple #[perV (.slice none 0 0) (.slice none 0 0) 0 0,.int .i64 1]) (by simp [results,Tryz.results24,go_sem,k0,k1,k2,k3]) rfl ⟨rfl,below_st4 hW1 (by omega) _ _ _ _⟩
set_option maxRecDepth 100000 in
set_option maxHeartbeats 2000000 in
theorem mnext_bad (F:Nat→Prop) (v:Value) (m:List (List Per)) (f:Int) (w:World) (hm:MixR w F v m) (hq:validM m=false) :
  Calls Tryz.prog 16 #[.agg #[v],.int .i64 f] w fun e w'=>e=.returned (.tuple #[.int .i64 0,.bool false])∧Below w.heap.size w w':=by
 have HV1:=fun W (h:Below w.heap.size w W)=>mvalid_any F v m W (hm.ext h)
 rw [hq] at HV1
 obtain ⟨a1,c1,rfl⟩:=hm.form
 clear hm hq
 go_enter Tryz.func16,Tryz.ntmps16
 go_wp2_with (go_at_call 18;refine (HV1 _ (Ea (Er w) _)).mono ?_;rintro e w1 ⟨rfl,hb1⟩;have hW1:Below w.heap.size w w1:=Et (Ea (Er w) _) hb1)
 go_ret2
 exact ⟨rfl,hW1⟩
end Go.Proofs.YthjnojbeimchdaaGreat
namespace Go.Proofs.YthjnojbeimchdaaGreat
open Go.ChangeShapes Go.WideShapes Go.ChangeAt Go.RowKit Go.Joins Kal
theorem liftOwn:ownKnob Tryz.prog.godebug=none:=by kernel_rfl
theorem liftLaid:laidOutB Tryz.prog=true:=by kernel_rfl
section
variable {H:Type} {enc:TypeId × Value→H} {w:World} {base:Nat} {spare:Nat→Bool} {held:Bool}
theorem int_of {n:Nat} {t:TypeId} {k:IntKind} {v:Value} {y:DataW H × List MemPlace} (ht:Tryz.prog.underlying t=some (.int k)) (h:DataW.trod enc Tryz.prog w base spare held n t [v]=some y):∃ m,v=.int k m∧(Lit.int k m).wf=true:=by
 obtain ⟨m,hcs,_,hw⟩:=DataW.trod_int ht h
 simp at hcs
 exact ⟨m,hcs,hw⟩
end
end Go.Proofs.YthjnojbeimchdaaGreat
namespace Go.Proofs.YthjnojbeimchdaaGreat
open Go.ChangeShapes Go.WideShapes Go.ChangeAt Go.RowKit Go.Joins Kal
section
variable {H:Type} {enc:TypeId × Value→H} {w:World} {base:Nat} {spare:Nat→Bool} {held:Bool}
theorem ints_of {n:Nat} {v:Value} {y:DataW H × List MemPlace} (h:DataW.trod enc Tryz.prog w base spare held n 37 [v]=some y):∃ (l:List Int) (a:Option Addr) (c:Nat),v=.slice a l.length c∧(l.length≤300→Ints w (.slice a l.length c) l)∧l.length≤9223372036854775807:=by
 rcases open_ints Tryz.underlying37 Tryz.underlying3 (by kernel_rfl) h with ⟨hcs,_⟩|⟨a,len,cap,zs,hcs,hle,hl,hm,hz,_,hcell,hwz⟩
 ·simp at hcs
  subst hcs
  exact ⟨[],none,0,rfl,fun _=>Ints.nil _,by simp⟩
 ·simp at hcs
  subst hcs
  have hlz:len≤zs.length:=by rw [hz];split <;> omega
  have hlen:(zs.take len).length=len:=by rw [List.length_take];omega
  refine ⟨zs.take len,some a,cap,by rw [hlen],fun h300=>⟨⟨some a,cap,rfl,?_,?_,?_⟩,?_,?_⟩,by rw [hlen];unfold maxLen at hm;omega⟩
  ·rw [hlen];omega
  ·unfold maxLen at hm;omega
  ·by_cases h0:len=0
   ·exact .inl (by rw [h0];rfl)
   ·refine .inr ?_
    obtain ⟨b,off,spot⟩:=a
    have hc:=hcell 0 (by omega)
    have hspot:spot=none:=by simpa [Addr.add] using World.cell?_spot hc
    subst hspot
    refine ⟨b,off,rfl,fun i hi=>?_⟩
    rw [hlen] at hi
    have h9:=hcell i (by omega)
    have e:(zs.take len).getD i 0=zs.getD i 0:=by
     rw [List.getD_eq_getElem?_getD,List.getD_eq_getElem?_getD,List.getElem?_take_of_lt hi]
    rw [e]
    have e2:(⟨b,off,none⟩:Addr).add i=⟨b,off+i,none⟩:=by
     rcases Nat.eq_zero_or_pos i with h|h
     ·subst h;simp [Addr.add]
     ·simp [Addr.add];omega
    rwa [e2] at h9
  ·omega
  ·intro x hx
   have:=bounds_i64 (hwz x (List.mem_of_mem_take hx))
   exact ⟨this.1,this.2⟩
end
end Go.Proofs.YthjnojbeimchdaaGreat
namespace Go.Proofs.YthjnojbeimchdaaGreat
open Go.ChangeShapes Go.WideShapes Go.ChangeAt Go.RowKit Go.Joins Kal
structure PVraw (w:World) (x:PV):Prop where
 fh:∃ a c,x.h=.slice a x.p.head.length c
 fc:∃ a c,x.c=.slice a x.p.cycle.length c
 h:x.p.head.length≤300→Ints w x.h x.p.head
 c:x.p.cycle.length≤300→Ints w x.c x.p.cycle
 fr:InI x.p.frm
 pe:InI x.p.period
 lh:x.p.head.length≤9223372036854775807
 lc:x.p.cycle.length≤9223372036854775807
theorem PVraw.ext {w W:World} {x:PV} (h:PVraw w x) (hb:Below w.heap.size w W):PVraw W x:=⟨h.fh,h.fc,fun k=>(h.h k).ext hb,fun k=>(h.c k).ext hb,h.fr,h.pe,h.lh,h.lc⟩
def Any:Nat→Prop:=fun _=>True
structure TermRaw (w:World) (v:Value) (L:List PV):Prop where
 row:RowR w Any v L.length (L.flatMap PV.enc)
 all:∀ x∈L,PVraw w x
theorem TermRaw.ext {w W:World} {v:Value} {L:List PV} (h:TermRaw w v L) (hb:Below w.heap.size w W):TermRaw W v L:=⟨h.row.keep (KeepF.below hb) hb.size,fun x hx=>(h.all x hx).ext hb⟩
structure MixRaw (w:World) (v:Value) (L:List (Value × List PV)):Prop where
 row:RowR w Any v L.length (L.map Prod.fst)
 all:∀ x∈L,TermRaw w x.1 x.2
theorem MixRaw.ext {w W:World} {v:Value} {L:List (Value × List PV)} (h:MixRaw w v L) (hb:Below w.heap.size w W):MixRaw W v L:=⟨h.row.keep (KeepF.below hb) hb.size,fun x hx=>(h.all x hx).ext hb⟩
def SmallF (x:PV):Prop:=x.p.head.length≤40∧x.p.cycle.length≤40
def SmallT (L:List PV):Prop:=L.length≤6∧∀ x∈L,SmallF x
theorem TermRaw.term {w:World} {v:Value} {L:List PV} (h:TermRaw w v L) (hs:SmallT L):TermR w Any v (L.map PV.p):=
 ⟨L,rfl,h.row,by have:=hs.1;omega,fun x hx=>⟨⟨(h.all x hx).h (by have:=(hs.2 x hx).1;omega),(h.all x hx).c (by have:=(hs.2 x hx).2;omega)⟩,(h.all x hx).fr,(h.all x hx).pe,fun _ _ _=>trivial,fun _ _ _=>trivial⟩⟩
theorem MixRaw.mix {w:World} {v:Value} {L:List (Value × List PV)} (h:MixRaw w v L) (hl:L.length≤70) (hs:∀ x∈L,SmallT x.2):MixR w Any v (L.map fun x=>x.2.map PV.p):=by
 refine ⟨L.map fun x=>(x.1,x.2.map PV.p),by rw [List.map_map];rfl,⟨?_,by rw [List.length_map];omega,fun y hy=>?_⟩⟩
 ·have:=h.row
  rw [List.length_map,List.map_map];exact this
 ·obtain ⟨x,hx,rfl⟩:=List.mem_map.1 hy
  exact (h.all x hx).term (hs x hx)
theorem RowR.get {w:World} {F:Nat→Prop} {a:Option Addr} {n c:Nat} {cs:List Value} (h:RowR w F (.slice a n c) n cs) (hn:0<n):∃ b o,a=some ⟨b,o,none⟩∧∀ i u,cs[i]? = some u→w.cell? ⟨b,o+i,none⟩=some u:=by
 obtain ⟨a',c',he,_,_,h3⟩:=h.is
 injection he with e1 _ _
 subst e1
 rcases h3 with h3|⟨b,o,rfl,_,_,hc⟩
 ·omega
 ·exact ⟨b,o,rfl,hc⟩
section
variable {H:Type} {enc:TypeId × Value→H} {w:World} {base:Nat} {spare:Nat→Bool} {held:Bool}
theorem add_off {b o n:Nat}:((⟨b,o,none⟩:Addr).add n)=⟨b,o+n,none⟩:=by
 rcases Nat.eq_zero_or_pos n with h|h
 ·subst h;simp [Addr.add]
 ·simp [Addr.add];omega
set_option maxRecDepth 100000 in
theorem term_of {n:Nat} {v:Value} {y:DataW H × List MemPlace} (h:DataW.trod enc Tryz.prog w base spare held n 36 [v]=some y):∃ L,TermRaw w v L:=by
 rcases Go.Deep.open_slice Tryz.underlying36 h with ⟨hcs,_⟩|⟨a,len,cap,m,n,D,Pl,hcs,_,hl,hm,hmm,_,hx⟩
 ·simp only [List.cons.injEq,and_true] at hcs
  subst hcs
  exact ⟨[],⟨⟨none,0,rfl,by simp,by omega,.inl rfl⟩,by simp⟩⟩
 ·simp only [List.cons.injEq,and_true] at hcs
  subst hcs
  have hlm:len≤m:=by rw [hmm];split <;> omega
  have h4:Tryz.prog.cellsOf 39=4:=by kernel_rfl
  have each:∀ i,i<len→∃ x:PV,PVraw w x∧∀ j u,x.enc[j]? = some u→w.cell? ((a.add (i*4)).add j)=some u:=fun i hi=>by
   obtain ⟨cs',h1,h2⟩:=hx i (by omega)
   rw [h4] at h1
   obtain ⟨_,hlen,hcell⟩:=World.cells?_some h1
   obtain ⟨y0,y1,y2,y3,k,_,_,g0,g1,g2,g3⟩:=trod_struct4 Tryz.underlying39 h2
   match cs',hlen with
   | [u0,u1,u2,u3],_=>
    obtain ⟨l0,a0,c0,rfl,i0,n0⟩:=ints_of (show DataW.trod enc Tryz.prog w base spare held k 37 [u0]=some y0 from g0)
    obtain ⟨l3,a3,c3,rfl,i3,n3⟩:=ints_of (show DataW.trod enc Tryz.prog w base spare held k 37 [u3]=some y3 from g3)
    obtain ⟨f,rfl,wf⟩:=int_of Tryz.underlying3 (show DataW.trod enc Tryz.prog w base spare held k 3 [u1]=some y1 from g1)
    obtain ⟨t,rfl,wt⟩:=int_of Tryz.underlying3 (show DataW.trod enc Tryz.prog w base spare held k 3 [u2]=some y2 from g2)
    have bf:=bounds_i64 wf
    have bt:=bounds_i64 wt
    refine ⟨⟨.slice a0 l0.length c0,.slice a3 l3.length c3,⟨l0,f,t,l3⟩⟩,⟨⟨_,_,rfl⟩,⟨_,_,rfl⟩,i0,i3,⟨bf.1,bf.2⟩,⟨bt.1,bt.2⟩,n0,n3⟩,fun j u hj=>?_⟩
    have hj4:j<4:=(List.getElem?_eq_some_iff.1 hj).1
    have hc:=hcell j hj4
    match j,hj4 with
    | 0,_=>simp [PV.enc] at hj;subst hj;simpa using hc
    | 1,_=>simp [PV.enc] at hj;subst hj;simpa using hc
    | 2,_=>simp [PV.enc] at hj;subst hj;simpa using hc
    | 3,_=>simp [PV.enc] at hj;subst hj;simpa using hc
  have hch:∃ X:Nat→PV,∀ i,i<len→PVraw w (X i)∧∀ j u,(X i).enc[j]? = some u→w.cell? ((a.add (i*4)).add j)=some u:=by
   refine ⟨fun i=>if hi:i<len then (each i hi).choose else default,fun i hi=>?_⟩
   simp only [dif_pos hi]
   exact (each i hi).choose_spec
  obtain ⟨X,hX⟩:=hch
  have hlenX:((List.range len).map X).length=len:=by simp
  refine ⟨(List.range len).map X,⟨⟨some a,cap,by rw [hlenX],by rw [hlenX];exact hl,by unfold maxLen at hm;omega,?_⟩,fun x hx'=>?_⟩⟩
  ·rw [hlenX]
   by_cases h0:len=0
   ·exact .inl h0
   ·refine .inr ?_
    obtain ⟨b,off,spot⟩:=a
    have hc:=(hX 0 (by omega)).2 0 _ rfl
    have hspot:spot=none:=by simpa [Addr.add] using World.cell?_spot hc
    subst hspot
    refine ⟨b,off,rfl,trivial,?_,fun i u hu=>?_⟩
    ·have:=World.block_lt_of_cell? w _ hc
     simpa [Addr.add] using this
    ·have hi:i<4*len:=by
      have:=(List.getElem?_eq_some_iff.1 hu).1
      rw [flat_len,hlenX] at this;omega
     have hq:i / 4<len:=by omega
     have e:i=i / 4*4+i % 4:=by omega
     have hu2:(X (i / 4)).enc[i % 4]? = some u:=by
      obtain ⟨u',hu'⟩:∃ u',(X (i / 4)).enc[i % 4]? = some u':=⟨_,List.getElem?_eq_getElem (by rw [PV.enc_len];omega)⟩
      have:=flat_get (L:=(List.range len).map X) (j:=i / 4) (i:=i % 4) (u:=u') (by rw [hlenX];exact hq) (by rw [List.getD_eq_getElem?_getD];simpa [hq] using hu')
      rw [← e,hu] at this
      rw [hu',← this]
     have:=(hX _ hq).2 _ u hu2
     rw [add_off,add_off] at this
     rw [e,← Nat.add_assoc];exact this
  ·obtain ⟨i,hi,rfl⟩:=List.mem_map.1 hx'
   exact (hX i (by simpa using hi)).1
set_option maxRecDepth 100000 in
theorem open_mix {r:Reach} {b0:Nat} {v:Value} {d:DataW H} {p:List MemPlace} (hv:Value.okWide Tryz.prog w r b0 28 v) (h:DataW.Trod enc Tryz.prog w base spare held 28 v d p):∃ v0 L,v=.agg #[v0]∧MixRaw w v0 L:=by
 obtain ⟨cs,rfl,hsz⟩:=okWide_struct Tryz.underlying28 hv
 have h1:Tryz.prog.cellsOf 28=1:=by kernel_rfl
 rw [h1] at hsz
 obtain ⟨c0,rfl⟩:∃ c0,cs=#[c0]:=by
  obtain ⟨l⟩:=cs
  match l,hsz with
  | [c0],_=>exact ⟨c0,rfl⟩
 obtain ⟨fuel,hf⟩:=h
 obtain ⟨y0,n,_,_,g0⟩:=trod_struct1 Tryz.underlying28 hf
 have g0':DataW.trod enc Tryz.prog w base spare held n 26 [c0]=some y0:=g0
 rcases Go.Deep.open_slice1 Tryz.underlying26 (by kernel_rfl) g0' with ⟨hcs,_⟩|⟨a,len,cap,m,n,V,D,Pl,hcs,_,hl,hm,hmm,_,hx⟩
 ·simp only [List.cons.injEq,and_true] at hcs
  subst hcs
  exact ⟨_,[],rfl,⟨⟨none,0,rfl,by simp,by omega,.inl rfl⟩,by simp⟩⟩
 ·simp only [List.cons.injEq,and_true] at hcs
  subst hcs
  have hlm:len≤m:=by rw [hmm];split <;> omega
  have hch:∃ X:Nat→List PV,∀ i,i<len→TermRaw w (V i) (X i):=by
   refine ⟨fun i=>if hi:i<len then (term_of (hx i (by omega)).2).choose else [],fun i hi=>?_⟩
   simp only [dif_pos hi]
   exact (term_of (hx i (by omega)).2).choose_spec
  obtain ⟨X,hX⟩:=hch
  have hlenX:((List.range len).map fun i=>(V i,X i)).length=len:=by simp
  refine ⟨_,(List.range len).map fun i=>(V i,X i),rfl,⟨⟨some a,cap,by rw [hlenX],by rw [hlenX];exact hl,by unfold maxLen at hm;omega,?_⟩,fun x hx'=>?_⟩⟩
  ·rw [hlenX]
   by_cases h0:len=0
   ·exact .inl h0
   ·refine .inr ?_
    obtain ⟨b,off,spot⟩:=a
    have hc:=(hx 0 (by omega)).1
    have hspot:spot=none:=by simpa [Addr.add] using World.cell?_spot hc
    subst hspot
    refine ⟨b,off,rfl,trivial,?_,fun i u hu=>?_⟩
    ·have:=World.block_lt_of_cell? w _ hc
     simpa [Addr.add] using this
    ·have hi:i<len:=by
      have:=(List.getElem?_eq_some_iff.1 hu).1
      simpa using this
     have e:u=V i:=by simpa [hi] using hu.symm
     have:=(hx i (by omega)).1
     rw [add_off] at this
     rw [e];exact this
  ·obtain ⟨i,hi,rfl⟩:=List.mem_map.1 hx'
   exact hX i (by simpa using hi)
end
end Go.Proofs.YthjnojbeimchdaaGreat
