/- Walks: Members (package kalendsref04). -/
import Derived.Test.YtjilkhhokkncoaaGreatMWalkRg
set_option linter.unusedVariables false
set_option linter.unusedSimpArgs false
namespace Go.Proofs.YtjilkhhokkncoaaGreat
open Go.RowKit Go.Maps Kal
theorem OwnI.empty {w:World} {base:Nat} (hb:base≤w.heap.size):OwnI (w.alloc (.cells #[] 3)) base (.slice (some ⟨w.heap.size,0,none⟩) 0 0) []:=
 ⟨⟨by simp,.inr ⟨w.heap.size,0,#[],rfl,hb,World.alloc_heap_new _ _,by simp,by unfold maxLen;omega,by simp,by simp⟩⟩,by simp,by simp⟩
def inW (lo hi:Int) (y:Int):Bool:=decide (lo≤y) && decide (y<hi)
theorem inW_iff {lo hi y:Int}:inW lo hi y=true↔lo≤y∧y<hi:=by unfold inW;simp
theorem filter_take_succ2 (p:Int→Bool) {l:List Int} {k:Nat} (h:k<l.length):(l.take (k+1)).filter p=(l.take k).filter p ++ (if p (l.getD k 0)=true then [l.getD k 0] else []):=by
 rw [List.take_succ_eq_append_getElem h,List.filter_append,List.getD_eq_getElem?_getD,List.getElem?_eq_getElem h]
 congr 1
 by_cases hp:p l[k]=true <;> simp [hp]
theorem memb_head {p:Per} (hw:p.WF) {lo hi:Int} (h0:0≤lo):p.head.filter (inW lo hi)=sel p.mem lo (min hi p.frm):=by
 refine (hw.head.filter _).ext (sel_rise h0) fun x=>?_
 rw [List.mem_filter,sel_mem h0,inW_iff,hw.head_mem]
 exact ⟨fun ⟨⟨a,b,c⟩,d,e⟩=>⟨d,by omega,c⟩,fun ⟨a,b,c⟩=>⟨⟨by omega,by omega,c⟩,a,by omega⟩⟩
theorem memb_start {p:Per} {lo hi:Int} (h0:0≤lo) (hf:p.frm<hi):sel p.mem lo (min hi p.frm)=sel p.mem lo (min hi (max lo p.frm)):=by
 refine (sel_rise h0).ext (sel_rise h0) fun x=>?_
 rw [sel_mem h0,sel_mem h0]
 exact ⟨fun ⟨a,b,c⟩=>⟨a,by omega,c⟩,fun ⟨a,b,c⟩=>⟨a,by omega,c⟩⟩
theorem memb_step {p:Per} (hw:p.WF) {lo hi s b:Int} (h0:0≤lo) (hs:lo≤s) (hf:p.frm≤s) (hb:p.frm≤b) (hd:(b-p.frm) % p.period=0) :
  sel p.mem lo (min hi (max b s)) ++ (p.cycle.map (b+·)).filter (inW s hi)=sel p.mem lo (min hi (max (b+p.period) s)):=by
 have hp:=hw.per
 have hf0:=hw.frm
 have hin:∀ x,x∈p.cycle.map (b+·)↔b≤x∧x<b+p.period∧p.mem x:=by
  intro x
  rw [List.mem_map]
  constructor
  ·rintro ⟨c,hc,rfl⟩
   have h1:=hw.cyc.2 c hc
   refine ⟨by omega,by omega,?_⟩
   rw [Per.mem_hi (by omega) (by omega),show b+c-p.frm=(b-p.frm)+c from by omega,Int.add_emod,hd,Int.zero_add,Int.emod_emod,Int.emod_eq_of_lt h1.1 h1.2]
   exact hc
  ·rintro ⟨h1,h2,h3⟩
   rw [Per.mem_hi (by omega) (by omega),show x-p.frm=(b-p.frm)+(x-b) from by omega,Int.add_emod,hd,Int.zero_add,Int.emod_emod,Int.emod_eq_of_lt (by omega) (by omega)] at h3
   exact ⟨x-b,h3,by omega⟩
 have hr:Rise b (b+p.period) (p.cycle.map (b+·)):=by
  have:=hw.cyc.map_add b
  have e:p.cycle.map (fun x=>x+b)=p.cycle.map (b+·):=List.map_congr_left fun x _=>Int.add_comm _ _
  rw [e] at this
  exact this.mono (by omega) (by omega)
 have hr1:Rise lo (min hi (max b s)) (sel p.mem lo (min hi (max b s))):=sel_rise h0
 have hr2:=hr.filter (inW s hi)
 refine sorted_ext ?_ (sel_rise h0).1 fun x=>?_
 ·refine List.pairwise_append.2 ⟨hr1.1,hr2.1,fun x hx y hy=>?_⟩
  have h1:=hr1.2 x hx
  have h2:=hr2.2 y hy
  have h3:=inW_iff.1 (List.mem_filter.1 hy).2
  omega
 ·rw [List.mem_append,sel_mem h0,sel_mem h0,List.mem_filter,hin,inW_iff]
  constructor
  ·rintro (⟨h1,h2,h3⟩|⟨⟨h1,h2,h3⟩,h4,h5⟩)
   ·exact ⟨h1,by omega,h3⟩
   ·exact ⟨by omega,by omega,h3⟩
  ·rintro ⟨h1,h2,h3⟩
   by_cases hx:x<min hi (max b s)
   ·exact .inl ⟨h1,hx,h3⟩
   ·exact .inr ⟨⟨by omega,by omega,h3⟩,by omega,by omega⟩
theorem memb_nocycle {p:Per} (hc:p.cycle=[]) {lo hi:Int} (h0:0≤lo):sel p.mem lo (min hi p.frm)=sel p.mem lo hi:=by
 refine (sel_rise h0).ext (sel_rise h0) fun x=>?_
 rw [sel_mem h0,sel_mem h0]
 refine ⟨fun ⟨a,b,c⟩=>⟨a,by omega,c⟩,fun ⟨a,b,c⟩=>⟨a,?_,c⟩⟩
 rcases Int.lt_or_le x p.frm with h|h
 ·omega
 ·exfalso
  rw [Per.mem_hi (by omega) h,hc] at c
  simp at c
theorem sel_len {S:Int→Prop} {lo hi:Int} (h0:0≤lo) (h1:hi≤8796093022208):(sel S lo hi).length≤8796093022208:=by
 rcases Int.lt_or_le lo hi with h|h
 ·have:=(sel_rise (S:=S) (hi:=hi) h0).length_le (by omega);omega
 ·rw [sel_nil h0 h];simp
set_option maxRecDepth 100000 in
set_option maxHeartbeats 4000000 in
theorem RMembers_any (h c:Value) (p:Per) (lo hi:Int) (w:World) (hp:PerIs w h c p) (hw:p.WF) (h1:p.frm≤1125899906842624) (h2:p.period≤1125899906842624) (h0:0≤lo) (h3:lo≤1125899906842624) (h4:-9223372036854775808≤hi) (h5:hi≤8796093022208) :
  Calls Tryz.prog 50 #[perV h c p.frm p.period,.int .i64 lo,.int .i64 hi] w (WinRes (sel p.mem lo hi) w):=by
 have f0:=hw.frm
 have p0:=hw.per
 obtain ⟨a1,c1,a2,c2,rfl,rfl⟩:=hp.inn.form
 have H1:=Lib.hid hp.hd
 have H2:=Lib.hid hp.cy
 have HW:=Lib.hid hw
 clear hp hw
 go_enter Tryz.func50,Tryz.ntmps50
 go_upto_region 1 with (fail)
 refine wp_abs (F:=fun U=>Bxx U w.heap.size #[.slice a1 p.head.length c1,.int .i64 p.frm,.int .i64 p.period,.slice a2 p.cycle.length c2] 24∧w.heap.size<U.heap.size∧Below w.heap.size w U) ⟨by (repeat' (first|(refine Bxx.at ?_;simp;done)|refine Bxx.alloc ?_ _)),by simp,by (repeat' (with_reducible first|assumption|apply Er|apply Ea|apply Ed|apply En|(refine Es ?_ (by first|(simp<;>omega)|omega) _)|refine Et ?_ (by assumption)))⟩ ?_
 rintro W1 ⟨hbx,hz1,hE⟩
 have HBX:=Lib.hid hbx
 have HE:=Lib.hid hE
 clear hbx hE
 go_upto_region 2 with (fail)
 refine wp_abs (F:=fun U=>OwnI U W1.heap.size (.slice (some ⟨W1.heap.size,0,none⟩) 0 0) []∧Below W1.heap.size W1 U) ⟨OwnI.empty (Nat.le_refl _),by (repeat' (with_reducible first|assumption|apply Er|apply Ea|apply Ed|apply En|(refine Es ?_ (by first|(simp<;>omega)|omega) _)|refine Et ?_ (by assumption)))⟩ ?_
 rintro W2 ⟨hown0,hE2⟩
 go_wp2_with fail
 go_loopw [7,8] (fun o i wr=>∃ k:Nat,k≤p.head.length∧i=.int .i64 k∧OwnI wr W1.heap.size o ((p.head.take k).filter (inW lo hi))∧Below W1.heap.size W1 wr) (fun _ i _=>p.head.length-(intOf i).toNat)
 case atStart=>exact ⟨0,by omega,rfl,hown0,hE2⟩
 case round=>
  obtain ⟨k,hk,rfl,hown,hb⟩:=hrel
  have HB:=Lib.hid hb
  have hszr:=hb.size
  have hbx:=HBX.out.below hb
  have q0:=(hbx.cells 0).1
  have q1:=(hbx.cells 1).1
  have q2:=(hbx.cells 2).1
  have q3:=(hbx.cells 3).1
  have hlb:=hbx.lt
  by_cases hlt:k<p.head.length
  ·have hlI:(k:Int)<p.head.length:=by omega
   obtain ⟨⟨a',c',he,_,_,h38⟩,hlen8,hrg⟩:=(H1.out.ext HE.out).ext hb
   injection he with e1 _ e2
   subst e1;subst e2
   rcases h38 with h38|⟨b,o,rfl,hcell⟩
   ·rw [h38] at hlt;simp at hlt
   have hcl:=hcell k hlt
   have hyI:=hrg _ (getD_mem hlt)
   unfold InI at hyI
   have HSU:=Lib.hid (filter_take_succ2 (inW lo hi) hlt)
   have hll:=List.length_filter_le (inW lo hi) (p.head.take k)
   rw [List.length_take] at hll
   generalize p.head.getD k 0=y at *
   obtain ⟨L,hL⟩:∃ L,L=(p.head.take k).filter (inW lo hi):=⟨_,rfl⟩
   rw [← hL] at hown hll HSU
   obtain ⟨oa,oc,rfl⟩:=hown.form
   have HOWN:=Lib.hid hown
   clear hcell hL hown hb hbx hrg
   by_cases hy1:lo≤y
   ·have d1:decide (lo≤y)=true:=by simp [hy1]
    by_cases hy2:y<hi
    ·have d2:decide (y<hi)=true:=by simp [hy2]
     have HIN:Hid (inW lo hi y=true):=Lib.hid (inW_iff.2 ⟨hy1,hy2⟩)
     go_wp2_with (at_builtin;refine append_list (by rfl) _ _ (by rfl) W1.heap.size (.slice oa L.length oc) L y (by rfl) (HOWN.out.ext (by (repeat' (with_reducible first|assumption|apply Er|apply Ea|apply Ed|apply En|(refine Es ?_ (by first|(simp<;>omega)|omega) _)|refine Et ?_ (by assumption))))) _ _ (by rfl) (by first|(simp;done)|exact ((Bxx.new _ #[.int .i64 y] _).cells 0).1) ⟨by omega,by omega⟩ (by omega) (by simp;omega) ?_;intro gg cap w6 hown6 hgrow6 hbel6)
     go_roundw
     case rel=>
      refine ⟨k+1,by omega,by go_num,?_,(HB.out.alloc (by omega) _).trans hbel6⟩
      rw [HSU.out,HIN.out,if_pos rfl];exact hown6
     case measure=>simp [intOf];omega
    ·have d2:decide (y<hi)=false:=by simp;omega
     have HIN:Hid (inW lo hi y=false):=Lib.hid (by rw [Bool.eq_false_iff];intro h;have:=inW_iff.1 h;omega)
     go_wp2_with fail
     go_roundw
     case rel=>
      refine ⟨k+1,by omega,by go_num,?_,HB.out⟩
      rw [HSU.out,HIN.out,if_neg (by simp),List.append_nil];exact HOWN.out
     case measure=>simp [intOf];omega
   ·have d1:decide (lo≤y)=false:=by simp;omega
    have HIN:Hid (inW lo hi y=false):=Lib.hid (by rw [Bool.eq_false_iff];intro h;have:=inW_iff.1 h;omega)
    go_wp2_with fail
    go_roundw
    case rel=>
     refine ⟨k+1,by omega,by go_num,?_,HB.out⟩
     rw [HSU.out,HIN.out,if_neg (by simp),List.append_nil];exact HOWN.out
    case measure=>simp [intOf];omega
  ·obtain rfl:k=p.head.length:=by omega
   rw [List.take_length,memb_head HW.out h0] at hown
   by_cases hc0:p.cycle.length=0
   ·have hcI:((p.cycle.length:Int) == 0)=true:=by simp [hc0]
    rw [memb_nocycle (List.eq_nil_of_length_eq_zero hc0) h0] at hown
    obtain ⟨oa,oc,rfl⟩:=hown.form
    have HOWN:=Lib.hid hown
    clear hown hb hbx hc0
    go_wp2_with fail
    go_ret
    exact ⟨_,rfl,HOWN.out.mono (by omega),HE.out.trans (HB.out.mono (by omega))⟩
   ·have hcI:((p.cycle.length:Int) == 0)=false:=by rw [beq_eq_false_iff_ne];omega
    by_cases hle:hi≤p.frm
    ·rw [show min hi p.frm=hi from by omega] at hown
     obtain ⟨oa,oc,rfl⟩:=hown.form
     have HOWN:=Lib.hid hown
     clear hown hb hbx hc0
     go_wp2_with fail
     go_ret
     exact ⟨_,rfl,HOWN.out.mono (by omega),HE.out.trans (HB.out.mono (by omega))⟩
    ·have hgt:p.frm<hi:=by omega
     rw [memb_start h0 hgt] at hown
     obtain ⟨s,hs⟩:∃ s,s=max lo p.frm:=⟨_,rfl⟩
     have hs0:lo≤s∧p.frm≤s∧s≤1125899906842624:=by omega
     rw [← hs] at hown
     have HS:=Lib.hid hs.symm
     have e0:=Int.emod_nonneg (s-p.frm) (show p.period≠0 by omega)
     have e2:=Int.emod_add_ediv_mul (s-p.frm) p.period
     have e3:=Int.mul_nonneg (Int.ediv_nonneg (show 0≤s-p.frm by omega) (show 0≤p.period by omega)) (show 0≤p.period by omega)
     have hb0:∃ b0,b0=s-(s-p.frm) % p.period∧p.frm≤b0∧b0≤s∧(b0-p.frm) % p.period=0:=⟨_,rfl,by omega,by omega,by
      rw [show s-(s-p.frm) % p.period-p.frm=(s-p.frm) / p.period*p.period from by omega]
      exact Int.mul_emod_left _ _⟩
     obtain ⟨b0,hb0,hb1,hb2,hb3⟩:=hb0
     obtain ⟨oa,oc,rfl⟩:=hown.form
     have HOWN:=Lib.hid hown
     have HB3:=Lib.hid hb3
     have HB0:=Lib.hid hb0.symm
     have hled:decide (hi≤p.frm)=false:=by simp;omega
     clear hown hb hbx hc0 hs hb0 hb3 hle e2 e3
     go_upto_region 10 with (fail)
     rw [HS.out]
     have hne:¬ p.period=0:=by omega
     have hsf:0≤s-p.frm:=by omega
     have hem:=Int.emod_lt_of_pos (s-p.frm) (show 0<p.period by omega)
     go_wp2_with fail
     rw [HB0.out]
     clear hem hsf e0
     go_loopw [7,10] (fun o vb wq=>∃ b:Int,vb=.int .i64 b∧p.frm≤b∧b≤4503599627370496∧(b-p.frm) % p.period=0∧OwnI wq W1.heap.size o (sel p.mem lo (min hi (max b s)))∧Below W1.heap.size W1 wq) (fun _ vb _=>(hi-intOf vb).toNat)
     case atStart=>exact ⟨b0,rfl,hb1,by omega,HB3.out,by rw [show max b0 s=s from by omega];exact HOWN.out,HB.out⟩
     case round=>
      obtain ⟨b,rfl,hbf,hbm,hbd,hown,hbq⟩:=hrel
      have HBQ:=Lib.hid hbq
      have HBD:=Lib.hid hbd
      have hszq:=hbq.size
      obtain ⟨oa9,oc9,rfl⟩:=hown.form
      have HOW:=Lib.hid hown
      obtain ⟨L,hL⟩:∃ L,L=sel p.mem lo (min hi (max b s)):=⟨_,rfl⟩
      rw [← hL] at HOW
      rw [← hL]
      have HL:=Lib.hid hL
      clear hown hbd hL hbq
      by_cases hbh:b<hi
      ·have HST:=Lib.hid (memb_step HW.out (hi:=hi) h0 hs0.1 hs0.2.1 hbf HBD.out)
       rw [← HL.out] at HST
       obtain ⟨cs,hcs⟩:∃ cs,cs=p.cycle.map (b+·):=⟨_,rfl⟩
       rw [← hcs] at HST
       have hcl:cs.length=p.cycle.length:=by rw [hcs,List.length_map]
       have HCL:=Lib.hid hcl
       have HCG:Hid (∀ j,j<p.cycle.length→cs.getD j 0=b+p.cycle.getD j 0):=Lib.hid (fun j hj=>by
        rw [hcs,List.getD_eq_getElem?_getD,List.getD_eq_getElem?_getD,List.getElem?_map,List.getElem?_eq_getElem hj];rfl)
       clear hcs hcl
       go_wp2_with fail
       go_loopw [7,11] (fun o vj wq2=>∃ j:Nat,j≤p.cycle.length∧vj=.int .i64 j∧OwnI wq2 W1.heap.size o (L ++ (cs.take j).filter (inW s hi))∧Below W1.heap.size W1 wq2) (fun _ vj _=>p.cycle.length-(intOf vj).toNat)
       case atStart=>exact ⟨0,by omega,rfl,by simpa using HOW.out,HBQ.out⟩
       case round=>
        obtain ⟨j,hj,rfl,hown,hb2⟩:=hrel
        have HB2:=Lib.hid hb2
        have hsz2:=hb2.size
        have hbx:=HBX.out.below hb2
        have q0:=(hbx.cells 0).1
        have q1:=(hbx.cells 1).1
        have q2:=(hbx.cells 2).1
        have q3:=(hbx.cells 3).1
        have hlb:=hbx.lt
        obtain ⟨ob,obc,rfl⟩:=hown.form
        by_cases hlt:j<p.cycle.length
        ·have hlI:(j:Int)<p.cycle.length:=by omega
         obtain ⟨⟨a',c',he,_,_,h38⟩,hlen8,hrg⟩:=(H2.out.ext HE.out).ext hb2
         injection he with e1 _ e2
         subst e1;subst e2
         rcases h38 with h38|⟨b8,o8,rfl,hcell⟩
         ·rw [h38] at hlt;simp at hlt
         have hcl:=hcell j hlt
         have hyb:=HW.out.cyc.2 _ (getD_mem hlt)
         have HSU:=Lib.hid (filter_take_succ2 (inW s hi) (l:=cs) (k:=j) (by rw [HCL.out];exact hlt))
         rw [HCG.out j hlt] at HSU
         have hll:(L ++ (cs.take j).filter (inW s hi)).length≤8796093022208:=by
          have h1:List.Sublist (L ++ (cs.take j).filter (inW s hi)) (L ++ cs.filter (inW s hi)):=List.Sublist.append (List.Sublist.refl _) ((List.take_sublist j cs).filter _)
          have h2:=h1.length_le
          rw [HST.out] at h2
          have h3:=sel_len (S:=p.mem) (lo:=lo) (hi:=min hi (max (b+p.period) s)) h0 (by omega)
          omega
         generalize p.cycle.getD j 0=y at *
         obtain ⟨X,hX⟩:∃ X,X=L ++ (cs.take j).filter (inW s hi):=⟨_,rfl⟩
         rw [← hX] at hown hll
         rw [← hX]
         have HX:=Lib.hid hX
         have HOWN:=Lib.hid hown
         clear hcell hX hown hb2 hbx hrg
         by_cases hy1:s≤b+y
         ·have d1:decide (s≤b+y)=true:=by simp [hy1]
          by_cases hy2:b+y<hi
          ·have d2:decide (b+y<hi)=true:=by simp [hy2]
           have HIN:Hid (inW s hi (b+y)=true):=Lib.hid (inW_iff.2 ⟨hy1,hy2⟩)
           go_wp2_with (at_builtin;refine append_list (by rfl) _ _ (by rfl) W1.heap.size (.slice ob X.length obc) X (b+y) (by rfl) (HOWN.out.ext (by (repeat' (with_reducible first|assumption|apply Er|apply Ea|apply Ed|apply En|(refine Es ?_ (by first|(simp<;>omega)|omega) _)|refine Et ?_ (by assumption))))) _ _ (by rfl) (by first|(simp;done)|exact ((Bxx.new _ #[.int .i64 (b+y)] _).cells 0).1) ⟨by omega,by omega⟩ (by omega) (by simp;omega) ?_;intro gg cap w6 hown6 hgrow6 hbel6)
           go_roundw
           case rel=>
            refine ⟨j+1,by omega,by go_num,?_,(HB2.out.alloc (by omega) _).trans hbel6⟩
            rw [HSU.out,HIN.out,if_pos rfl,← List.append_assoc,← HX.out];exact hown6
           case measure=>simp [intOf];omega
          ·have d2:decide (b+y<hi)=false:=by simp;omega
           have HIN:Hid (inW s hi (b+y)=false):=Lib.hid (by rw [Bool.eq_false_iff];intro h;have:=inW_iff.1 h;omega)
           go_wp2_with fail
           go_roundw
           case rel=>
            refine ⟨j+1,by omega,by go_num,?_,HB2.out⟩
            rw [HSU.out,HIN.out,if_neg (by simp),List.append_nil,← HX.out];exact HOWN.out
           case measure=>simp [intOf];omega
         ·have d1:decide (s≤b+y)=false:=by simp;omega
          have HIN:Hid (inW s hi (b+y)=false):=Lib.hid (by rw [Bool.eq_false_iff];intro h;have:=inW_iff.1 h;omega)
          go_wp2_with fail
          go_roundw
          case rel=>
           refine ⟨j+1,by omega,by go_num,?_,HB2.out⟩
           rw [HSU.out,HIN.out,if_neg (by simp),List.append_nil,← HX.out];exact HOWN.out
          case measure=>simp [intOf];omega
        ·obtain rfl:j=p.cycle.length:=by omega
         have HLN:Hid (L ++ (cs.take p.cycle.length).filter (inW s hi)=sel p.mem lo (min hi (max (b+p.period) s))):=Lib.hid (by rw [List.take_of_length_le (by rw [HCL.out];exact Nat.le_refl _),HST.out])
         rw [HLN.out] at hown ⊢
         have HOWN:=Lib.hid hown
         have HDN:Hid ((b+p.period-p.frm) % p.period=0):=Lib.hid (by rw [show b+p.period-p.frm=(b-p.frm)+p.period from by omega,Int.add_emod_right,HBD.out])
         clear hown hb2
         go_wp2_with fail
         go_roundw
         case rel=>exact ⟨b+p.period,rfl,by omega,by omega,HDN.out,HOWN.out,HB2.out⟩
         case measure=>simp [intOf];omega
      ·have HHI:Hid (min hi (max b s)=hi):=Lib.hid (by omega)
       have HOZ:Hid (OwnI wr W1.heap.size (.slice oa9 L.length oc9) (sel p.mem lo hi)):=Lib.hid (by have h:=HOW.out;have h2:=HL.out;rw [HHI.out] at h2;rw [← h2];exact h)
       have HLL:Hid (L.length=(sel p.mem lo hi).length):=Lib.hid (by rw [HL.out,HHI.out])
       go_wp2_with fail
       go_ret
       exact ⟨_,rfl,HOZ.out.mono (by omega),HE.out.trans (HBQ.out.mono (by omega))⟩
end Go.Proofs.YtjilkhhokkncoaaGreat
