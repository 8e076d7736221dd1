/- Walks: shape (package kalendsref04) of infinite sets. -/
import Derived.Test.YtjilkhhokkncoaaGreatMWalkRw
set_option linter.unusedVariables false
set_option linter.unusedSimpArgs false
namespace Go.Proofs.YtjilkhhokkncoaaGreat
open Go.RowKit Go.Maps Kal
set_option maxRecDepth 100000 in
set_option maxHeartbeats 4000000 in
theorem Rshape_inf (h c:Value) (p:Per) (w:World) (hp:PerIs w h c p) (hw:p.WF) (h1:p.frm≤1125899906842624) (h2:p.period≤1125899906842624) (hne:p.cycle≠[]) :
  Calls Tryz.prog 44 #[perV h c p.frm p.period] w (CanonRes p.mem w):=by
 have f0:=hw.frm
 have p0:=hw.per
 have hn1:1≤p.cycle.length:=by
  rcases Nat.eq_zero_or_pos p.cycle.length with h|h
  ·exact absurd (List.eq_nil_of_length_eq_zero h) hne
  ·exact h
 have hlz:((p.cycle.length:Int) == 0)=false:=by rw [beq_eq_false_iff_ne];omega
 have hln:¬ (p.cycle.length:Int)=0:=by omega
 obtain ⟨a1,c1,a2,c2,rfl,rfl⟩:=hp.inn.form
 obtain ⟨⟨a',c',he,_,_,h38⟩,_,_⟩:=hp.cy
 injection he with e1 _ e2
 subst e1;subst e2
 rcases h38 with h38|⟨b8,f8,rfl,hcell⟩
 ·exact absurd h38 hne
 have HCELL:=Lib.hid hcell
 clear hcell
 have H1:=Lib.hid hp.hd
 have H2:=Lib.hid hp.cy
 have HP:=Lib.hid hp
 have HW:=Lib.hid hw
 have HNE:=Lib.hid hne
 have HLH:=hp.hd.len
 have HLC:=hp.cy.len
 clear hp hw hne
 go_enter Tryz.func44,Tryz.ntmps44
 go_upto_region 8 with (go_at_call 78;refine (Rleast_any _ _ p _ (HP.out.ext (by (repeat' (with_reducible first|assumption|apply Er|apply Ea|apply Ed|apply En|(refine Es ?_ (by first|(simp<;>omega)|omega) _)|refine Et ?_ (by assumption))))) HW.out HNE.out h2).mono ?_;rintro e W2 ⟨d,k,rfl,hS,hk1,hkn,hb2⟩)
 refine wp_abs (F:=fun U=>Bxx U w.heap.size #[.slice a1 p.head.length c1,.int .i64 p.frm,.int .i64 p.period,.slice (some ⟨b8,f8,none⟩) p.cycle.length c2] 24∧Bxx U (w.heap.size+1) #[.slice none 0 0,.int .i64 0,.int .i64 0,.slice none 0 0] 24∧w.heap.size+1<U.heap.size∧Below w.heap.size w U) ⟨by refine Bxx.below ?_ hb2;(repeat' (first|(refine Bxx.at ?_;simp;done)|refine Bxx.alloc ?_ _)),by refine Bxx.below ?_ hb2;(repeat' (first|(refine Bxx.at ?_;simp;done)|refine Bxx.alloc ?_ _)),by have:=hb2.size;simp at this;omega,by (repeat' (with_reducible first|assumption|apply Er|apply Ea|apply Ed|apply En|(refine Es ?_ (by first|(simp<;>omega)|omega) _)|refine Et ?_ (by assumption)))⟩ ?_
 clear hb2
 rintro W1 ⟨hpb,hrb,hz1,hE⟩
 have HPB:=Lib.hid hpb
 have HRB:=Lib.hid hrb
 have HE:=Lib.hid hE
 have d0:=hS.pos
 have dle:=hS.le
 have HS:=Lib.hid hS
 have HSK:Hid (∀ j,j<p.cycle.length→(p.cycle.getD j 0<d↔j<k)):=Lib.hid (fun j hj=>short_k HW.out hS hkn hj)
 clear hpb hrb hE hS
 go_loopw [5] (fun kv wr=>∃ j:Nat,j≤k∧kv=.int .i64 j∧Below W1.heap.size W1 wr) (fun kv _=>p.cycle.length-(intOf kv).toNat)
 case atStart=>exact ⟨0,by omega,rfl,Below.refl _ _⟩
 case round=>
  obtain ⟨j,hj,rfl,hb⟩:=hrel
  have HB:=Lib.hid hb
  have hbx:=HPB.out.below hb
  have q0:=(hbx.cells 0).1
  have q1:=(hbx.cells 1).1
  have q2:=(hbx.cells 2).1
  have q3:=(hbx.cells 3).1
  clear hbx hb
  by_cases hjk:j<k
  ·have hlt:j<p.cycle.length:=by omega
   have hlI:(j:Int)<p.cycle.length:=by omega
   have hcl:=Ext.cell HB.out (Ext.cell HE.out (HCELL.out j hlt))
   have hyd:=(HSK.out j hlt).2 hjk
   generalize p.cycle.getD j 0=y at *
   have d1:decide (y<d)=true:=by simp [hyd]
   go_wp2_with fail
   go_roundw
   case rel=>exact ⟨j+1,by omega,by go_num,by have hb:=HB.out;(repeat' (with_reducible first|assumption|apply Er|apply Ea|apply Ed|apply En|(refine Es ?_ (by first|(simp<;>omega)|omega) _)|refine Et ?_ (by assumption)))⟩
   case measure=>simp [intOf];omega
  ·obtain rfl:j=k:=by omega
   rcases Nat.lt_or_ge j p.cycle.length with hlt|hge
   ·have hlI:(j:Int)<p.cycle.length:=by omega
    have hcl:=Ext.cell HB.out (Ext.cell HE.out (HCELL.out j hlt))
    have hyd:=fun h=>hjk ((HSK.out j hlt).1 h)
    generalize p.cycle.getD j 0=y0 at *
    have d1:decide (y0<d)=false:=by simpa using hyd
    clear hyd
    go_upto_region 13 with (go_at_call 79;refine (Rstart_any _ _ p d j _ (HP.out.ext (by have hE:=HE.out;have hb:=HB.out;(repeat' (with_reducible first|assumption|apply Er|apply Ea|apply Ed|apply En|(refine Es ?_ (by first|(simp<;>omega)|omega) _)|refine Et ?_ (by assumption))))) HW.out h1 h2 HS.out hk1 hkn).mono ?_;rintro e W3 ⟨s,m,rfl,hst,hb3⟩)
    clear hcl d1
    have hWb:Below w.heap.size w W3:=by have hE:=HE.out;have hb:=HB.out;(repeat' (with_reducible first|assumption|apply Er|apply Ea|apply Ed|apply En|(refine Es ?_ (by first|(simp<;>omega)|omega) _)|refine Et ?_ (by assumption)))
    obtain ⟨ob,hobe⟩:∃ ob,ob=W3.heap.size:=⟨_,rfl⟩
    have hob2:w.heap.size+1<ob:=by have h7:=hb3.size;have h8:=HB.out.size;omega
    have hs0:=hst.s0
    have hsf:=hst.sf
    have HQ:=Lib.hid (shape_canon HW.out HS.out hst)
    rw [← hobe]
    refine wp_abs (F:=fun U=>LS w ob p (.slice a1 p.head.length c1) (.slice (some ⟨b8,f8,none⟩) p.cycle.length c2) s d U.heap.size (.slice none 0 0) [] U) ⟨Ea hWb _,((HPB.out.below HB.out).below hb3).alloc _,((HRB.out.below HB.out).below hb3).alloc _,by rw [hobe];exact Bxx.at rfl,OwnI.nil _ _,hob2,by simp;omega,Nat.le_refl _⟩ ?_
    clear hst hb3 hWb q0 q1 q2 q3 hobe
    rintro W4 hLS
    have HLS:=Lib.hid hLS
    clear hLS
    go_loopw [8] (fun i wr=>∃ (k2:Nat) (hv:Value),k2≤p.head.length∧i=.int .i64 k2∧LS w ob p (.slice a1 p.head.length c1) (.slice (some ⟨b8,f8,none⟩) p.cycle.length c2) s d W4.heap.size hv ((p.head.take k2).filter (fun y=>decide (y<s))) wr) (fun i _=>p.head.length-(intOf i).toNat)
    case atStart=>exact ⟨0,_,by omega,rfl,HLS.out⟩
    case round=>
     obtain ⟨k2,hv,hk2,rfl,hst⟩:=hrel
     have HST:=Lib.hid hst
     have hown:=hst.own
     have q0:=(hst.pb.cells 0).1
     have q1:=(hst.pb.cells 1).1
     have q2:=(hst.pb.cells 2).1
     have q3:=(hst.pb.cells 3).1
     have o0:=(hst.obx.cells 0).1
     have oz:=(hst.obx.cells 0).2
     have o3:=(hst.obx.cells 3).1
     have hs2:=hst.o2
     have hs3:=hst.o3
     by_cases hlt2:k2<p.head.length
     ·have hlI:(k2:Int)<p.head.length:=by omega
      obtain ⟨⟨a',c',he,_,_,h38⟩,hlen8,hrg⟩:=H1.out.ext hst.below
      injection he with e1 _ e2
      subst e1;subst e2
      rcases h38 with h38|⟨b9,f9,rfl,hcell⟩
      ·rw [h38] at hlt2;simp at hlt2
      have hcl:=hcell k2 hlt2
      have hyI:=hrg _ (getD_mem hlt2)
      unfold InI at hyI
      have HSU:=Lib.hid (filter_take_succ2 (fun y=>decide (y<s)) hlt2)
      have hll:=List.length_filter_le (fun y=>decide (y<s)) (p.head.take k2)
      rw [List.length_take] at hll
      generalize p.head.getD k2 0=y at *
      clear hcell hrg hst
      by_cases hy1:y<s
      ·have d1:decide (y<s)=true:=by simp [hy1]
       go_wp2_with fail
       refine wp_region_facts (w0:=wr) [0,1,2,3,4,5,6,7] [8,9,10] (fun v=>⟨#[perV (.slice (some ⟨b9,f9,none⟩) p.head.length c1) (.slice (some ⟨b8,f8,none⟩) p.cycle.length c2) p.frm p.period,.pointer (some ⟨w.heap.size,0,none⟩),.pointer (some ⟨w.heap.size+1,0,none⟩),undef,.int .i64 d,.int .i64 ↑j,.int .i64 s,.pointer (some ⟨ob,0,none⟩),.int .i64 ↑k2,undef,.pointer (some ⟨w.heap.size,3,none⟩),.slice (some ⟨b8,f8,none⟩) p.cycle.length c2,.int .i64 ↑p.cycle.length,.bool false,undef,undef,undef,undef,undef,undef,undef,undef,undef,undef,undef,undef,undef,undef,undef,undef,undef,undef,undef,.agg #[.slice (some ⟨b9,f9,none⟩) p.head.length c1,.int .i64 p.frm,.int .i64 p.period,.slice (some ⟨b8,f8,none⟩) p.cycle.length c2],.int .i64 d,.int .i64 ↑j,.pointer (some ⟨w.heap.size,3,none⟩),.slice (some ⟨b8,f8,none⟩) p.cycle.length c2,.int .i64 ↑p.cycle.length,.bool true,.bool true,.pointer (some ⟨w.heap.size,3,none⟩),.slice (some ⟨b8,f8,none⟩) p.cycle.length c2,.int .i64 ↑j,.pointer (some ⟨b8,f8+j,none⟩),.int .i64 y0,.int .i64 d,.bool false,.bool false,u49,u50,.agg #[.slice (some ⟨b9,f9,none⟩) p.head.length c1,.int .i64 p.frm,.int .i64 p.period,.slice (some ⟨b8,f8,none⟩) p.cycle.length c2],.int .i64 d,.int .i64 ↑j,.int .i64 s,.int .i64 s,.int .i64 d,.agg #[.slice none 0 0,.int .i64 s,.int .i64 d,.slice none 0 0],.int .i64 ↑k2,.pointer (some ⟨w.heap.size,0,none⟩),.slice (some ⟨b9,f9,none⟩) p.head.length c1,.int .i64 ↑p.head.length,.bool true,u63,u64,.pointer (some ⟨w.heap.size,0,none⟩),.slice (some ⟨b9,f9,none⟩) p.head.length c1,.int .i64 ↑k2,.pointer (some ⟨b9,f9+k2,none⟩),.int .i64 y,.int .i64 s,.bool true,v 0,v 1,v 2,v 3,v 4,v 5,v 6,v 7,u80,u81,undef,undef,undef,undef,undef,undef,undef,undef,undef,undef,undef,undef,undef,undef,undef,undef,undef,undef,undef,undef,undef,undef,undef,undef,undef,undef,undef],[]⟩) (fun j=>match j with|0=>u72|1=>u73|2=>u74|3=>u75|4=>u76|5=>u77|6=>u78|7=>u79|_=>undef)
        (fun i v lo hi W=>match i with
         | 0=>v 0=.pointer (some ⟨ob,0,none⟩)
         | 1=>v 1=hv
         | 2=>v 2=.pointer (some ⟨w.heap.size,0,none⟩)
         | 3=>v 3=.slice (some ⟨b9,f9,none⟩) p.head.length c1
         | 4=>v 4=.int .i64 k2
         | 5=>v 5=.pointer (some ⟨b9,f9+k2,none⟩)
         | 6=>v 6=.int .i64 y
         | 7=>v 7=.slice (some ⟨lo 7,0,none⟩) 1 1∧lo 7<hi 7∧Bxx W (lo 7) #[.int .i64 y] 3
         | _=>True)
        (fun W=>W.cell? ⟨w.heap.size,0,none⟩=some (.slice (some ⟨b9,f9,none⟩) p.head.length c1)∧W.cell? ⟨b9,f9+k2,none⟩=some (.int .i64 y)∧W.cell? ⟨ob,0,none⟩=some hv) rfl (by kernel_rfl) (by decide) rfl ?stab ?loc (fun W9 hb=>⟨cux q0 hb,cux hcl hb,cux o0 hb⟩) ?steps ?fin
       case stab=>
        rintro (_|_|_|_|_|_|_|_|i) v lo hi W W' h hb
        ·exact h
        ·exact h
        ·exact h
        ·exact h
        ·exact h
        ·exact h
        ·exact h
        ·exact ⟨h.1,h.2.1,h.2.2.below hb⟩
        ·trivial
       case loc=>
        rintro (_|_|_|_|_|_|_|_|i) v v' lo lo' hi hi' W hag h
        ·exact (hag 0 (.inl rfl)).1 ▸ h
        ·exact (hag 1 (.inl rfl)).1 ▸ h
        ·exact (hag 2 (.inl rfl)).1 ▸ h
        ·exact (hag 3 (.inl rfl)).1 ▸ h
        ·exact (hag 4 (.inl rfl)).1 ▸ h
        ·exact (hag 5 (.inl rfl)).1 ▸ h
        ·exact (hag 6 (.inl rfl)).1 ▸ h
        ·have q:=hag 7 (.inl rfl)
         have q6:=hag 6 (.inr (Rdp (by kernel_rfl)))
         (try dsimp only at h ⊢);(try simp only [q.1,q.2.1,q.2.2,q6.1,q6.2.1,q6.2.2] at h);exact h
        ·trivial
       case steps=>
        refine SFx.cons rfl ?_ (SFx.cons rfl ?_ (SFx.cons rfl ?_ (SFx.cons rfl ?_ (SFx.cons rfl ?_ (SFx.cons rfl ?_ (SFx.cons rfl ?_ (SFx.cons rfl ?_ SFx.nil)))))))
        ·rintro v lo hi W hb ⟨g0,g1,g2⟩ hd K hK
         clear hd
         dsimp only
         go_wp2_with fail
         exact acx (hK (.pointer (some ⟨ob,0,none⟩)) W (Below.refl _ _) rfl) (by simp)
        ·rintro v lo hi W hb ⟨g0,g1,g2⟩ hd K hK
         have e0:v 0=.pointer (some ⟨ob,0,none⟩):=(hd 0 (Rdp (by kernel_rfl))).2.2
         clear hd
         dsimp only
         (try simp only [e0])
         go_wp2_with fail
         exact acx (hK (hv) W (Below.refl _ _) rfl) (by simp [e0])
        ·rintro v lo hi W hb ⟨g0,g1,g2⟩ hd K hK
         clear hd
         dsimp only
         go_wp2_with fail
         exact acx (hK (.pointer (some ⟨w.heap.size,0,none⟩)) W (Below.refl _ _) rfl) (by simp)
        ·rintro v lo hi W hb ⟨g0,g1,g2⟩ hd K hK
         have e2:v 2=.pointer (some ⟨w.heap.size,0,none⟩):=(hd 2 (Rdp (by kernel_rfl))).2.2
         clear hd
         dsimp only
         (try simp only [e2])
         go_wp2_with fail
         exact acx (hK (.slice (some ⟨b9,f9,none⟩) p.head.length c1) W (Below.refl _ _) rfl) (by simp [e2])
        ·rintro v lo hi W hb ⟨g0,g1,g2⟩ hd K hK
         clear hd
         dsimp only
         go_wp2_with fail
         exact acx (hK (.int .i64 k2) W (Below.refl _ _) rfl) (by simp)
        ·rintro v lo hi W hb ⟨g0,g1,g2⟩ hd K hK
         have e3:v 3=.slice (some ⟨b9,f9,none⟩) p.head.length c1:=(hd 3 (Rdp (by kernel_rfl))).2.2
         have e4:v 4=.int .i64 k2:=(hd 4 (Rdp (by kernel_rfl))).2.2
         clear hd
         dsimp only
         (try simp only [e3,e4])
         go_wp2_with fail
         exact acx (hK (.pointer (some ⟨b9,f9+k2,none⟩)) W (Below.refl _ _) rfl) (by simp [e3,e4])
        ·rintro v lo hi W hb ⟨g0,g1,g2⟩ hd K hK
         have e5:v 5=.pointer (some ⟨b9,f9+k2,none⟩):=(hd 5 (Rdp (by kernel_rfl))).2.2
         clear hd
         dsimp only
         (try simp only [e5])
         go_wp2_with fail
         exact acx (hK (.int .i64 y) W (Below.refl _ _) rfl) (by simp [e5])
        ·rintro v lo hi W hb ⟨g0,g1,g2⟩ hd K hK
         have e6:v 6=.int .i64 y:=(hd 6 (Rdp (by kernel_rfl))).2.2
         clear hd
         dsimp only
         (try simp only [e6])
         go_wp2_with fail
         exact acx (hK (.slice (some ⟨W.heap.size,0,none⟩) 1 1) _ (Ea (Er _) _) ⟨rfl,by simp,Bxx.new _ _ _⟩) (by simp [e6])
       case fin=>
        rintro v lo hi W2 hb ⟨g0,g1,g2⟩ hf hap
        show wpList _ _ _ [_,_,_] _ _
        have e1:v 1=hv:=(hf 1 rfl).2.2.2
        obtain ⟨l7,m7,n7,e7,lt7,hb7⟩:=hf 7 rfl
        have hown1:=hown.ext hb
        have hz2:=hb.size
        have hnew:W2.cell? ⟨lo 7,0,none⟩=some (.int .i64 y):=(hb7.cells 0).1
        clear hf hap g0 g1 g2
        dsimp only
        rw [e1,e7]
        generalize lo 7=bn at *
        refine append_list (by rfl) _ _ (by rfl) W4.heap.size hv _ y (by rfl) hown1 _ _ (by rfl) hnew ⟨by omega,by omega⟩ (by omega) (by omega) ?_
        intro g cap W5 hown2 hgrow hbel
        have hbel':Below W4.heap.size wr W5:=(hb.mono hs3).trans hbel
        have hqf2:W5.frozen? ⟨ob,0,none⟩=false:=(Below.frozen hbel' (p:=⟨ob,0,none⟩) hs2).trans oz
        have hqc2:W5.cell? ⟨ob,0,none⟩=some hv:=Below.cell' hbel' o0 hs2
        go_wp2_with fail
        go_roundw
        case rel=>
         refine ⟨k2+1,.slice (some ⟨g,0,none⟩) (((p.head.take k2).filter (fun y=>decide (y<s))).length+1) cap,by omega,by go_num,?_⟩
         rw [HSU.out,if_pos d1]
         exact HST.out.step hbel' hown2
        case measure=>simp [intOf];omega
      ·have d1:decide (y<s)=false:=by simp;omega
       go_wp2_with fail
       go_roundw
       case rel=>
        refine ⟨k2+1,hv,by omega,by go_num,?_⟩
        rw [HSU.out,if_neg (by rw [d1];simp),List.append_nil];exact HST.out
       case measure=>simp [intOf];omega
     ·obtain rfl:k2=p.head.length:=by omega
      rw [List.take_length] at HST hown
      obtain ⟨hl,hhl⟩:∃ hl,hl=p.head.filter (fun y=>decide (y<s)):=⟨_,rfl⟩
      rw [← hhl] at HST hown HQ
      obtain ⟨a9,c9,rfl⟩:=hown.form
      have hst0:=HST.out
      have HLC:Hid (LC w ob p (.slice a1 p.head.length c1) (.slice (some ⟨b8,f8,none⟩) p.cycle.length c2) s d W4.heap.size wr.heap.size (.slice a9 hl.length c9) hl wr.heap.size (.slice none 0 0) [] wr):=
       Lib.hid ⟨hst0.below,hst0.pb,hst0.rb,hst0.obx,OwnI.nil _ _,hown.oin,hst0.o1,by omega,Nat.le_refl _,.inl hs2,Nat.le_refl _,by have:=hst0.o1;omega⟩
      have hwz:=hst0.o1
      clear hst hst0 hhl hown
      go_upto_region 18 with (fail)
      clear o0 o3 oz q0 q1 q2 q3
      generalize wr.heap.size=B5 at *
      go_loopw [9] (fun i wq=>∃ (k3:Nat) (cyv:Value),k3≤j∧i=.int .i64 k3∧LC w ob p (.slice a1 p.head.length c1) (.slice (some ⟨b8,f8,none⟩) p.cycle.length c2) s d W4.heap.size B5 (.slice a9 hl.length c9) hl B5 cyv (((p.cycle.take j).take k3).map fun c=>(p.frm+c-s) % d) wq) (fun i _=>j-(intOf i).toNat)
      case atStart=>exact ⟨0,_,by omega,rfl,HLC.out⟩
      case round=>
       obtain ⟨k3,cyv,hk3,rfl,hTw⟩:=hrel
       have HTW:=Lib.hid hTw
       have q0:=(hTw.pb.cells 0).1
       have q1:=(hTw.pb.cells 1).1
       have q3:=(hTw.pb.cells 3).1
       have o0:=(hTw.obx.cells 0).1
       have o1:=(hTw.obx.cells 1).1
       have o2:=(hTw.obx.cells 2).1
       have o3:=(hTw.obx.cells 3).1
       have oz:=(hTw.obx.cells 3).2
       have hs5:=hTw.o2
       have hs6:=hTw.o3
       have hown:=hTw.own
       by_cases hlt3:k3<j
       ·have hlI:(k3:Int)<j:=by omega
        have hlt4:k3<p.cycle.length:=by omega
        have hcl:=Ext.cell hTw.below (HCELL.out k3 hlt4)
        have hyb:=HW.out.cyc.2 _ (getD_mem hlt4)
        have htk:(((p.cycle.take j).take (k3+1)).map fun c=>(p.frm+c-s) % d)=(((p.cycle.take j).take k3).map fun c=>(p.frm+c-s) % d) ++ [(p.frm+p.cycle.getD k3 0-s) % d]:=by
         have h4:k3<(p.cycle.take j).length:=by simp;omega
         rw [take_succ_getD h4,List.map_append]
         rw [List.getD_eq_getElem?_getD,List.getElem?_take,if_pos hlt3,← List.getD_eq_getElem?_getD];rfl
        have HTK:=Lib.hid htk
        generalize p.cycle.getD k3 0=y at *
        have hlen:(((p.cycle.take j).take k3).map fun c=>(p.frm+c-s) % d).length=k3:=by simp;omega
        have HLEN:=Lib.hid hlen
        have hz0:=Int.emod_nonneg (p.frm+y-s) (show d≠0 by omega)
        have hz1':=Int.emod_lt_of_pos (p.frm+y-s) (show 0<d by omega)
        obtain ⟨z,hz⟩:∃ z,z=(p.frm+y-s) % d:=⟨_,rfl⟩
        rw [← hz] at hz0 hz1' HTK
        have htm:(p.frm+y-s).tmod d=z:=by rw [Int.tmod_eq_emod_of_nonneg (by omega)];exact hz.symm
        have hdz:¬ d=0:=by omega
        clear hTw htk hlen hz
        go_wp2_with fail
        refine wp_region_facts (w0:=wr) [0,1,2,3,4,5,6,7,8,9,10,11,12,13,14] [15,16,17] (fun v=>⟨#[perV (.slice a1 p.head.length c1) (.slice (some ⟨b8,f8,none⟩) p.cycle.length c2) p.frm p.period,.pointer (some ⟨w.heap.size,0,none⟩),.pointer (some ⟨w.heap.size+1,0,none⟩),undef,.int .i64 d,.int .i64 ↑j,.int .i64 s,.pointer (some ⟨ob,0,none⟩),.int .i64 ↑p.head.length,.int .i64 ↑k3,.pointer (some ⟨w.heap.size,3,none⟩),.slice (some ⟨b8,f8,none⟩) p.cycle.length c2,.int .i64 ↑p.cycle.length,.bool false,undef,undef,undef,undef,undef,undef,undef,undef,undef,undef,undef,undef,undef,undef,undef,undef,undef,undef,undef,.agg #[.slice a1 p.head.length c1,.int .i64 p.frm,.int .i64 p.period,.slice (some ⟨b8,f8,none⟩) p.cycle.length c2],.int .i64 d,.int .i64 ↑j,.pointer (some ⟨w.heap.size,3,none⟩),.slice (some ⟨b8,f8,none⟩) p.cycle.length c2,.int .i64 ↑p.cycle.length,.bool true,.bool true,.pointer (some ⟨w.heap.size,3,none⟩),.slice (some ⟨b8,f8,none⟩) p.cycle.length c2,.int .i64 ↑j,.pointer (some ⟨b8,f8+j,none⟩),.int .i64 y0,.int .i64 d,.bool false,.bool false,u49,u50,.agg #[.slice a1 p.head.length c1,.int .i64 p.frm,.int .i64 p.period,.slice (some ⟨b8,f8,none⟩) p.cycle.length c2],.int .i64 d,.int .i64 ↑j,.int .i64 s,.int .i64 s,.int .i64 d,.agg #[.slice none 0 0,.int .i64 s,.int .i64 d,.slice none 0 0],.int .i64 ↑p.head.length,.pointer (some ⟨w.heap.size,0,none⟩),.slice a1 p.head.length c1,.int .i64 ↑p.head.length,.bool false,u63,u64,u65,u66,u67,u68,u69,u70,u71,u72,u73,u74,u75,u76,u77,u78,u79,u80,u81,.int .i64 ↑k3,.int .i64 ↑j,.bool true,u85,u86,v 0,v 1,v 2,v 3,v 4,v 5,v 6,v 7,v 8,v 9,v 10,v 11,v 12,v 13,v 14,u102,u103,undef,undef,undef,undef,undef],[]⟩) (fun j=>match j with|0=>u87|1=>u88|2=>u89|3=>u90|4=>u91|5=>u92|6=>u93|7=>u94|8=>u95|9=>u96|10=>u97|11=>u98|12=>u99|13=>u100|14=>u101|_=>undef)
         (fun i v lo hi W=>match i with
          | 0=>v 0=.pointer (some ⟨ob,3,none⟩)
          | 1=>v 1=cyv
          | 2=>v 2=.pointer (some ⟨w.heap.size,1,none⟩)
          | 3=>v 3=.int .i64 p.frm
          | 4=>v 4=.pointer (some ⟨w.heap.size,3,none⟩)
          | 5=>v 5=.slice (some ⟨b8,f8,none⟩) p.cycle.length c2
          | 6=>v 6=.int .i64 k3
          | 7=>v 7=.pointer (some ⟨b8,f8+k3,none⟩)
          | 8=>v 8=.int .i64 y
          | 9=>v 9=.int .i64 (p.frm+y)
          | 10=>v 10=.int .i64 s
          | 11=>v 11=.int .i64 (p.frm+y-s)
          | 12=>v 12=.int .i64 d
          | 13=>v 13=.int .i64 z
          | 14=>v 14=.slice (some ⟨lo 14,0,none⟩) 1 1∧lo 14<hi 14∧Bxx W (lo 14) #[.int .i64 z] 3
          | _=>True)
         (fun W=>W.cell? ⟨w.heap.size,1,none⟩=some (.int .i64 p.frm)∧W.cell? ⟨w.heap.size,3,none⟩=some (.slice (some ⟨b8,f8,none⟩) p.cycle.length c2)∧W.cell? ⟨b8,f8+k3,none⟩=some (.int .i64 y)∧W.cell? ⟨ob,3,none⟩=some cyv) rfl (by kernel_rfl) (by decide) rfl ?stab ?loc (fun W9 hb=>⟨cux q1 hb,cux q3 hb,cux hcl hb,cux o3 hb⟩) ?steps ?fin
        case stab=>
         rintro (_|_|_|_|_|_|_|_|_|_|_|_|_|_|_|i) v lo hi W W' h hb
         ·exact h
         ·exact h
         ·exact h
         ·exact h
         ·exact h
         ·exact h
         ·exact h
         ·exact h
         ·exact h
         ·exact h
         ·exact h
         ·exact h
         ·exact h
         ·exact h
         ·exact ⟨h.1,h.2.1,h.2.2.below hb⟩
         ·trivial
        case loc=>
         rintro (_|_|_|_|_|_|_|_|_|_|_|_|_|_|_|i) v v' lo lo' hi hi' W hag h
         ·exact (hag 0 (.inl rfl)).1 ▸ h
         ·exact (hag 1 (.inl rfl)).1 ▸ h
         ·exact (hag 2 (.inl rfl)).1 ▸ h
         ·exact (hag 3 (.inl rfl)).1 ▸ h
         ·exact (hag 4 (.inl rfl)).1 ▸ h
         ·exact (hag 5 (.inl rfl)).1 ▸ h
         ·exact (hag 6 (.inl rfl)).1 ▸ h
         ·exact (hag 7 (.inl rfl)).1 ▸ h
         ·exact (hag 8 (.inl rfl)).1 ▸ h
         ·exact (hag 9 (.inl rfl)).1 ▸ h
         ·exact (hag 10 (.inl rfl)).1 ▸ h
         ·exact (hag 11 (.inl rfl)).1 ▸ h
         ·exact (hag 12 (.inl rfl)).1 ▸ h
         ·exact (hag 13 (.inl rfl)).1 ▸ h
         ·have q:=hag 14 (.inl rfl)
          have q13:=hag 13 (.inr (Rdp (by kernel_rfl)))
          (try dsimp only at h ⊢);(try simp only [q.1,q.2.1,q.2.2,q13.1,q13.2.1,q13.2.2] at h);exact h
         ·trivial
        case steps=>
         refine SFx.cons rfl ?_ (SFx.cons rfl ?_ (SFx.cons rfl ?_ (SFx.cons rfl ?_ (SFx.cons rfl ?_ (SFx.cons rfl ?_ (SFx.cons rfl ?_ (SFx.cons rfl ?_ (SFx.cons rfl ?_ (SFx.cons rfl ?_ (SFx.cons rfl ?_ (SFx.cons rfl ?_ (SFx.cons rfl ?_ (SFx.cons rfl ?_ (SFx.cons rfl ?_ SFx.nil))))))))))))))
         ·rintro v lo hi W hb ⟨g0,g1,g2,g3⟩ hd K hK
          clear hd
          dsimp only
          go_wp2_with fail
          exact acx (hK (.pointer (some ⟨ob,3,none⟩)) W (Below.refl _ _) rfl) (by simp)
         ·rintro v lo hi W hb ⟨g0,g1,g2,g3⟩ hd K hK
          have e0:v 0=.pointer (some ⟨ob,3,none⟩):=(hd 0 (Rdp (by kernel_rfl))).2.2
          clear hd
          dsimp only
          (try simp only [e0])
          go_wp2_with fail
          exact acx (hK (cyv) W (Below.refl _ _) rfl) (by simp [e0])
         ·rintro v lo hi W hb ⟨g0,g1,g2,g3⟩ hd K hK
          clear hd
          dsimp only
          go_wp2_with fail
          exact acx (hK (.pointer (some ⟨w.heap.size,1,none⟩)) W (Below.refl _ _) rfl) (by simp)
         ·rintro v lo hi W hb ⟨g0,g1,g2,g3⟩ hd K hK
          have e2:v 2=.pointer (some ⟨w.heap.size,1,none⟩):=(hd 2 (Rdp (by kernel_rfl))).2.2
          clear hd
          dsimp only
          (try simp only [e2])
          go_wp2_with fail
          exact acx (hK (.int .i64 p.frm) W (Below.refl _ _) rfl) (by simp [e2])
         ·rintro v lo hi W hb ⟨g0,g1,g2,g3⟩ hd K hK
          clear hd
          dsimp only
          go_wp2_with fail
          exact acx (hK (.pointer (some ⟨w.heap.size,3,none⟩)) W (Below.refl _ _) rfl) (by simp)
         ·rintro v lo hi W hb ⟨g0,g1,g2,g3⟩ hd K hK
          have e4:v 4=.pointer (some ⟨w.heap.size,3,none⟩):=(hd 4 (Rdp (by kernel_rfl))).2.2
          clear hd
          dsimp only
          (try simp only [e4])
          go_wp2_with fail
          exact acx (hK (.slice (some ⟨b8,f8,none⟩) p.cycle.length c2) W (Below.refl _ _) rfl) (by simp [e4])
         ·rintro v lo hi W hb ⟨g0,g1,g2,g3⟩ hd K hK
          clear hd
          dsimp only
          go_wp2_with fail
          exact acx (hK (.int .i64 k3) W (Below.refl _ _) rfl) (by simp)
         ·rintro v lo hi W hb ⟨g0,g1,g2,g3⟩ hd K hK
          have e5:v 5=.slice (some ⟨b8,f8,none⟩) p.cycle.length c2:=(hd 5 (Rdp (by kernel_rfl))).2.2
          have e6:v 6=.int .i64 k3:=(hd 6 (Rdp (by kernel_rfl))).2.2
          clear hd
          dsimp only
          (try simp only [e5,e6])
          go_wp2_with fail
          exact acx (hK (.pointer (some ⟨b8,f8+k3,none⟩)) W (Below.refl _ _) rfl) (by simp [e5,e6])
         ·rintro v lo hi W hb ⟨g0,g1,g2,g3⟩ hd K hK
          have e7:v 7=.pointer (some ⟨b8,f8+k3,none⟩):=(hd 7 (Rdp (by kernel_rfl))).2.2
          clear hd
          dsimp only
          (try simp only [e7])
          go_wp2_with fail
          exact acx (hK (.int .i64 y) W (Below.refl _ _) rfl) (by simp [e7])
         ·rintro v lo hi W hb ⟨g0,g1,g2,g3⟩ hd K hK
          have e3:v 3=.int .i64 p.frm:=(hd 3 (Rdp (by kernel_rfl))).2.2
          have e8:v 8=.int .i64 y:=(hd 8 (Rdp (by kernel_rfl))).2.2
          clear hd
          dsimp only
          (try simp only [e3,e8])
          go_wp2_with fail
          exact acx (hK (.int .i64 (p.frm+y)) W (Below.refl _ _) rfl) (by simp [e3,e8])
         ·rintro v lo hi W hb ⟨g0,g1,g2,g3⟩ hd K hK
          clear hd
          dsimp only
          go_wp2_with fail
          exact acx (hK (.int .i64 s) W (Below.refl _ _) rfl) (by simp)
         ·rintro v lo hi W hb ⟨g0,g1,g2,g3⟩ hd K hK
          have e9:v 9=.int .i64 (p.frm+y):=(hd 9 (Rdp (by kernel_rfl))).2.2
          have e10:v 10=.int .i64 s:=(hd 10 (Rdp (by kernel_rfl))).2.2
          clear hd
          dsimp only
          (try simp only [e9,e10])
          go_wp2_with fail
          exact acx (hK (.int .i64 (p.frm+y-s)) W (Below.refl _ _) rfl) (by simp [e9,e10])
         ·rintro v lo hi W hb ⟨g0,g1,g2,g3⟩ hd K hK
          clear hd
          dsimp only
          go_wp2_with fail
          exact acx (hK (.int .i64 d) W (Below.refl _ _) rfl) (by simp)
         ·rintro v lo hi W hb ⟨g0,g1,g2,g3⟩ hd K hK
          have e11:v 11=.int .i64 (p.frm+y-s):=(hd 11 (Rdp (by kernel_rfl))).2.2
          have e12:v 12=.int .i64 d:=(hd 12 (Rdp (by kernel_rfl))).2.2
          clear hd
          dsimp only
          (try simp only [e11,e12])
          go_wp2_with fail
          exact acx (hK (.int .i64 z) W (Below.refl _ _) rfl) (by simp [e11,e12])
         ·rintro v lo hi W hb ⟨g0,g1,g2,g3⟩ hd K hK
          have e13:v 13=.int .i64 z:=(hd 13 (Rdp (by kernel_rfl))).2.2
          clear hd
          dsimp only
          (try simp only [e13])
          go_wp2_with fail
          exact acx (hK (.slice (some ⟨W.heap.size,0,none⟩) 1 1) _ (Ea (Er _) _) ⟨rfl,by simp,Bxx.new _ _ _⟩) (by simp [e13])
        case fin=>
         rintro v lo hi W2 hb ⟨g0,g1,g2,g3⟩ hf hap
         show wpList _ _ _ [_,_,_] _ _
         have e1:v 1=cyv:=(hf 1 rfl).2.2.2
         obtain ⟨l9,m9,n9,e9,lt9,hb9⟩:=hf 14 rfl
         have hown1:=hown.ext hb
         have hz2:=hb.size
         have hnew:W2.cell? ⟨lo 14,0,none⟩=some (.int .i64 z):=(hb9.cells 0).1
         clear hf hap g0 g1 g2 g3
         dsimp only
         rw [e1,e9]
         generalize lo 14=bn at *
         refine append_list (by rfl) _ _ (by rfl) B5 cyv _ z (by rfl) hown1 _ _ (by rfl) hnew ⟨by omega,by omega⟩ (by rw [HLEN.out];omega) (by omega) ?_
         intro g cap W5 hown2 hgrow hbel
         rw [HLEN.out] at hown2 ⊢
         have hbel':Below B5 wr W5:=(hb.mono hs6).trans hbel
         have hqf2:W5.frozen? ⟨ob,3,none⟩=false:=(Below.frozen hbel' (p:=⟨ob,3,none⟩) hs5).trans oz
         have hqc2:W5.cell? ⟨ob,3,none⟩=some cyv:=Below.cell' hbel' o3 hs5
         go_wp2_with fail
         go_roundw
         case rel=>
          refine ⟨k3+1,.slice (some ⟨g,0,none⟩) (k3+1) cap,by omega,by go_num,?_⟩
          rw [HTK.out]
          exact HTW.out.step hbel' hown2
         case measure=>simp [intOf];omega
       ·obtain rfl:k3=j:=by omega
        rw [List.take_take,Nat.min_self] at hown HTW
        obtain ⟨cl,hcl⟩:∃ cl,cl=(p.cycle.take k3).map fun c=>(p.frm+c-s) % d:=⟨_,rfl⟩
        have hnd:cl.Nodup:=by rw [hcl];exact shift_nodup HS.out.rise
        rw [← hcl] at hown HTW HQ
        have HND:=Lib.hid hnd
        have HCL:=Lib.hid hcl
        obtain ⟨m8,c8,rfl⟩:=hown.form
        have hoc:=hown.ints
        have HOC:=Lib.hid hoc
        have hrb2:=HTW.out.rb
        have hob9:=HTW.out.obx
        have HRB2:=Lib.hid hrb2
        have HOB9:=Lib.hid hob9
        have hhd:=HTW.out.hd
        have HHD:=Lib.hid hhd
        have hbW:=HTW.out.below
        have HBW:=Lib.hid hbW
        have o6:=HTW.out.o6
        have o5:=HTW.out.o5
        clear hnd hcl hown hoc hTw hhd hrb2 hob9 hbW
        have o5':ob<wr.heap.size:=by omega
        have o6':w.heap.size+1<wr.heap.size:=by omega
        have r0:=(HRB2.out.cells 0)
        have r1:=(HRB2.out.cells 1)
        have r2:=(HRB2.out.cells 2)
        have r3:=(HRB2.out.cells 3)
        go_wp2_with (go_at_call 80;refine (Rsorted_any _ cl _ (HOC.out.ext (by (repeat' (with_reducible first|assumption|apply Er|apply Ea|apply Ed|apply En|(refine Es ?_ (by first|(simp<;>omega)|omega) _)|refine Et ?_ (by assumption))))) HND.out).mono ?_;rintro e W6 ⟨sv,rfl,hown6,hb6⟩;obtain ⟨ya,yc,rfl⟩:=hown6.form;have HOWN6:=Lib.hid hown6;clear hown6;have x6:W6.frozen? ⟨ob,3,none⟩=false:=(Below.frozen hb6 (p:=⟨ob,3,none⟩) o5').trans oz;have y0:W6.cell? ⟨ob,0,none⟩=some (.slice a9 hl.length c9):=Below.cell' hb6 o0 o5';have y1:W6.cell? ⟨ob,1,none⟩=some (.int .i64 s):=Below.cell' hb6 o1 o5';have y2:W6.cell? ⟨ob,2,none⟩=some (.int .i64 d):=Below.cell' hb6 o2 o5';have y3:W6.cell? ⟨ob,3,none⟩=some (.slice m8 cl.length c8):=Below.cell' hb6 o3 o5';have z0:=((HRB2.out.upto hb6 o6').cells 0);have z1:=((HRB2.out.upto hb6 o6').cells 1);have z2:=((HRB2.out.upto hb6 o6').cells 2);have z3:=((HRB2.out.upto hb6 o6').cells 3);have zl:=(HRB2.out.upto hb6 o6').lt)
        have hbW:=HBW.out
        have hb6z:=hb6.size
        refine bodyPost_ret (v:=.agg #[.slice a9 hl.length c9,.int .i64 s,.int .i64 d,.slice ya (isort cl).length yc]) (by simp [results,Tryz.results44,go_sem, *]) rfl ⟨_,_,⟨hl,s,d,isort cl⟩,rfl,HQ.out,⟨?_,?_⟩,by (repeat' (with_reducible first|assumption|apply Er|apply Ea|apply Ed|apply En|(refine Es ?_ (by first|(simp<;>omega)|omega) _)|refine Et ?_ (by assumption)))⟩
        ·have h1:OwnIn _ _ _ (.slice a9 hl.length c9) hl:=(((((HHD.out.below hb6 (by omega)).set (b:=ob) (i:=3) (.slice ya (isort cl).length yc) (by omega)).set (b:=w.heap.size+1) (i:=0) (.slice a9 hl.length c9) (by omega)).set (b:=w.heap.size+1) (i:=1) (.int .i64 s) (by omega)).set (b:=w.heap.size+1) (i:=2) (.int .i64 d) (by omega)).set (b:=w.heap.size+1) (i:=3) (.slice ya (isort cl).length yc) (by omega)
         exact h1.own.mono (base':=w.heap.size) (by omega)
        ·have h1:OwnIn _ _ _ (.slice ya (isort cl).length yc) (isort cl):=(((((HOWN6.out.oin).set (b:=ob) (i:=3) (.slice ya (isort cl).length yc) (by omega)).set (b:=w.heap.size+1) (i:=0) (.slice a9 hl.length c9) (by omega)).set (b:=w.heap.size+1) (i:=1) (.int .i64 s) (by omega)).set (b:=w.heap.size+1) (i:=2) (.int .i64 d) (by omega)).set (b:=w.heap.size+1) (i:=3) (.slice ya (isort cl).length yc) (by omega)
         exact h1.own.mono (base':=w.heap.size) (by omega)
   ·have hlI:¬ (j:Int)<p.cycle.length:=by omega
    go_upto_region 13 with (go_at_call 79;refine (Rstart_any _ _ p d j _ (HP.out.ext (by have hE:=HE.out;have hb:=HB.out;(repeat' (with_reducible first|assumption|apply Er|apply Ea|apply Ed|apply En|(refine Es ?_ (by first|(simp<;>omega)|omega) _)|refine Et ?_ (by assumption))))) HW.out h1 h2 HS.out hk1 hkn).mono ?_;rintro e W3 ⟨s,m,rfl,hst,hb3⟩)
    have hWb:Below w.heap.size w W3:=by have hE:=HE.out;have hb:=HB.out;(repeat' (with_reducible first|assumption|apply Er|apply Ea|apply Ed|apply En|(refine Es ?_ (by first|(simp<;>omega)|omega) _)|refine Et ?_ (by assumption)))
    obtain ⟨ob,hobe⟩:∃ ob,ob=W3.heap.size:=⟨_,rfl⟩
    have hob2:w.heap.size+1<ob:=by have h7:=hb3.size;have h8:=HB.out.size;omega
    have hs0:=hst.s0
    have hsf:=hst.sf
    have HQ:=Lib.hid (shape_canon HW.out HS.out hst)
    rw [← hobe]
    refine wp_abs (F:=fun U=>LS w ob p (.slice a1 p.head.length c1) (.slice (some ⟨b8,f8,none⟩) p.cycle.length c2) s d U.heap.size (.slice none 0 0) [] U) ⟨Ea hWb _,((HPB.out.below HB.out).below hb3).alloc _,((HRB.out.below HB.out).below hb3).alloc _,by rw [hobe];exact Bxx.at rfl,OwnI.nil _ _,hob2,by simp;omega,Nat.le_refl _⟩ ?_
    clear hst hb3 hWb q0 q1 q2 q3 hobe
    rintro W4 hLS
    have HLS:=Lib.hid hLS
    clear hLS
    go_loopw [8] (fun i wr=>∃ (k2:Nat) (hv:Value),k2≤p.head.length∧i=.int .i64 k2∧LS w ob p (.slice a1 p.head.length c1) (.slice (some ⟨b8,f8,none⟩) p.cycle.length c2) s d W4.heap.size hv ((p.head.take k2).filter (fun y=>decide (y<s))) wr) (fun i _=>p.head.length-(intOf i).toNat)
    case atStart=>exact ⟨0,_,by omega,rfl,HLS.out⟩
    case round=>
     obtain ⟨k2,hv,hk2,rfl,hst⟩:=hrel
     have HST:=Lib.hid hst
     have hown:=hst.own
     have q0:=(hst.pb.cells 0).1
     have q1:=(hst.pb.cells 1).1
     have q2:=(hst.pb.cells 2).1
     have q3:=(hst.pb.cells 3).1
     have o0:=(hst.obx.cells 0).1
     have oz:=(hst.obx.cells 0).2
     have o3:=(hst.obx.cells 3).1
     have hs2:=hst.o2
     have hs3:=hst.o3
     by_cases hlt2:k2<p.head.length
     ·have hlI:(k2:Int)<p.head.length:=by omega
      obtain ⟨⟨a',c',he,_,_,h38⟩,hlen8,hrg⟩:=H1.out.ext hst.below
      injection he with e1 _ e2
      subst e1;subst e2
      rcases h38 with h38|⟨b9,f9,rfl,hcell⟩
      ·rw [h38] at hlt2;simp at hlt2
      have hcl:=hcell k2 hlt2
      have hyI:=hrg _ (getD_mem hlt2)
      unfold InI at hyI
      have HSU:=Lib.hid (filter_take_succ2 (fun y=>decide (y<s)) hlt2)
      have hll:=List.length_filter_le (fun y=>decide (y<s)) (p.head.take k2)
      rw [List.length_take] at hll
      generalize p.head.getD k2 0=y at *
      clear hcell hrg hst
      by_cases hy1:y<s
      ·have d1:decide (y<s)=true:=by simp [hy1]
       go_wp2_with fail
       refine wp_region_facts (w0:=wr) [0,1,2,3,4,5,6,7] [8,9,10] (fun v=>⟨#[perV (.slice (some ⟨b9,f9,none⟩) p.head.length c1) (.slice (some ⟨b8,f8,none⟩) p.cycle.length c2) p.frm p.period,.pointer (some ⟨w.heap.size,0,none⟩),.pointer (some ⟨w.heap.size+1,0,none⟩),undef,.int .i64 d,.int .i64 ↑j,.int .i64 s,.pointer (some ⟨ob,0,none⟩),.int .i64 ↑k2,undef,.pointer (some ⟨w.heap.size,3,none⟩),.slice (some ⟨b8,f8,none⟩) p.cycle.length c2,.int .i64 ↑p.cycle.length,.bool false,undef,undef,undef,undef,undef,undef,undef,undef,undef,undef,undef,undef,undef,undef,undef,undef,undef,undef,undef,.agg #[.slice (some ⟨b9,f9,none⟩) p.head.length c1,.int .i64 p.frm,.int .i64 p.period,.slice (some ⟨b8,f8,none⟩) p.cycle.length c2],.int .i64 d,.int .i64 ↑j,.pointer (some ⟨w.heap.size,3,none⟩),.slice (some ⟨b8,f8,none⟩) p.cycle.length c2,.int .i64 ↑p.cycle.length,.bool false,.bool false,undef,undef,undef,undef,undef,undef,undef,.bool false,u49,u50,.agg #[.slice (some ⟨b9,f9,none⟩) p.head.length c1,.int .i64 p.frm,.int .i64 p.period,.slice (some ⟨b8,f8,none⟩) p.cycle.length c2],.int .i64 d,.int .i64 ↑j,.int .i64 s,.int .i64 s,.int .i64 d,.agg #[.slice none 0 0,.int .i64 s,.int .i64 d,.slice none 0 0],.int .i64 ↑k2,.pointer (some ⟨w.heap.size,0,none⟩),.slice (some ⟨b9,f9,none⟩) p.head.length c1,.int .i64 ↑p.head.length,.bool true,u63,u64,.pointer (some ⟨w.heap.size,0,none⟩),.slice (some ⟨b9,f9,none⟩) p.head.length c1,.int .i64 ↑k2,.pointer (some ⟨b9,f9+k2,none⟩),.int .i64 y,.int .i64 s,.bool true,v 0,v 1,v 2,v 3,v 4,v 5,v 6,v 7,u80,u81,undef,undef,undef,undef,undef,undef,undef,undef,undef,undef,undef,undef,undef,undef,undef,undef,undef,undef,undef,undef,undef,undef,undef,undef,undef,undef,undef],[]⟩) (fun j=>match j with|0=>u72|1=>u73|2=>u74|3=>u75|4=>u76|5=>u77|6=>u78|7=>u79|_=>undef)
        (fun i v lo hi W=>match i with
         | 0=>v 0=.pointer (some ⟨ob,0,none⟩)
         | 1=>v 1=hv
         | 2=>v 2=.pointer (some ⟨w.heap.size,0,none⟩)
         | 3=>v 3=.slice (some ⟨b9,f9,none⟩) p.head.length c1
         | 4=>v 4=.int .i64 k2
         | 5=>v 5=.pointer (some ⟨b9,f9+k2,none⟩)
         | 6=>v 6=.int .i64 y
         | 7=>v 7=.slice (some ⟨lo 7,0,none⟩) 1 1∧lo 7<hi 7∧Bxx W (lo 7) #[.int .i64 y] 3
         | _=>True)
        (fun W=>W.cell? ⟨w.heap.size,0,none⟩=some (.slice (some ⟨b9,f9,none⟩) p.head.length c1)∧W.cell? ⟨b9,f9+k2,none⟩=some (.int .i64 y)∧W.cell? ⟨ob,0,none⟩=some hv) rfl (by kernel_rfl) (by decide) rfl ?stab ?loc (fun W9 hb=>⟨cux q0 hb,cux hcl hb,cux o0 hb⟩) ?steps ?fin
       case stab=>
        rintro (_|_|_|_|_|_|_|_|i) v lo hi W W' h hb
        ·exact h
        ·exact h
        ·exact h
        ·exact h
        ·exact h
        ·exact h
        ·exact h
        ·exact ⟨h.1,h.2.1,h.2.2.below hb⟩
        ·trivial
       case loc=>
        rintro (_|_|_|_|_|_|_|_|i) v v' lo lo' hi hi' W hag h
        ·exact (hag 0 (.inl rfl)).1 ▸ h
        ·exact (hag 1 (.inl rfl)).1 ▸ h
        ·exact (hag 2 (.inl rfl)).1 ▸ h
        ·exact (hag 3 (.inl rfl)).1 ▸ h
        ·exact (hag 4 (.inl rfl)).1 ▸ h
        ·exact (hag 5 (.inl rfl)).1 ▸ h
        ·exact (hag 6 (.inl rfl)).1 ▸ h
        ·have q:=hag 7 (.inl rfl)
         have q6:=hag 6 (.inr (Rdp (by kernel_rfl)))
         (try dsimp only at h ⊢);(try simp only [q.1,q.2.1,q.2.2,q6.1,q6.2.1,q6.2.2] at h);exact h
        ·trivial
       case steps=>
        refine SFx.cons rfl ?_ (SFx.cons rfl ?_ (SFx.cons rfl ?_ (SFx.cons rfl ?_ (SFx.cons rfl ?_ (SFx.cons rfl ?_ (SFx.cons rfl ?_ (SFx.cons rfl ?_ SFx.nil)))))))
        ·rintro v lo hi W hb ⟨g0,g1,g2⟩ hd K hK
         clear hd
         dsimp only
         go_wp2_with fail
         exact acx (hK (.pointer (some ⟨ob,0,none⟩)) W (Below.refl _ _) rfl) (by simp)
        ·rintro v lo hi W hb ⟨g0,g1,g2⟩ hd K hK
         have e0:v 0=.pointer (some ⟨ob,0,none⟩):=(hd 0 (Rdp (by kernel_rfl))).2.2
         clear hd
         dsimp only
         (try simp only [e0])
         go_wp2_with fail
         exact acx (hK (hv) W (Below.refl _ _) rfl) (by simp [e0])
        ·rintro v lo hi W hb ⟨g0,g1,g2⟩ hd K hK
         clear hd
         dsimp only
         go_wp2_with fail
         exact acx (hK (.pointer (some ⟨w.heap.size,0,none⟩)) W (Below.refl _ _) rfl) (by simp)
        ·rintro v lo hi W hb ⟨g0,g1,g2⟩ hd K hK
         have e2:v 2=.pointer (some ⟨w.heap.size,0,none⟩):=(hd 2 (Rdp (by kernel_rfl))).2.2
         clear hd
         dsimp only
         (try simp only [e2])
         go_wp2_with fail
         exact acx (hK (.slice (some ⟨b9,f9,none⟩) p.head.length c1) W (Below.refl _ _) rfl) (by simp [e2])
        ·rintro v lo hi W hb ⟨g0,g1,g2⟩ hd K hK
         clear hd
         dsimp only
         go_wp2_with fail
         exact acx (hK (.int .i64 k2) W (Below.refl _ _) rfl) (by simp)
        ·rintro v lo hi W hb ⟨g0,g1,g2⟩ hd K hK
         have e3:v 3=.slice (some ⟨b9,f9,none⟩) p.head.length c1:=(hd 3 (Rdp (by kernel_rfl))).2.2
         have e4:v 4=.int .i64 k2:=(hd 4 (Rdp (by kernel_rfl))).2.2
         clear hd
         dsimp only
         (try simp only [e3,e4])
         go_wp2_with fail
         exact acx (hK (.pointer (some ⟨b9,f9+k2,none⟩)) W (Below.refl _ _) rfl) (by simp [e3,e4])
        ·rintro v lo hi W hb ⟨g0,g1,g2⟩ hd K hK
         have e5:v 5=.pointer (some ⟨b9,f9+k2,none⟩):=(hd 5 (Rdp (by kernel_rfl))).2.2
         clear hd
         dsimp only
         (try simp only [e5])
         go_wp2_with fail
         exact acx (hK (.int .i64 y) W (Below.refl _ _) rfl) (by simp [e5])
        ·rintro v lo hi W hb ⟨g0,g1,g2⟩ hd K hK
         have e6:v 6=.int .i64 y:=(hd 6 (Rdp (by kernel_rfl))).2.2
         clear hd
         dsimp only
         (try simp only [e6])
         go_wp2_with fail
         exact acx (hK (.slice (some ⟨W.heap.size,0,none⟩) 1 1) _ (Ea (Er _) _) ⟨rfl,by simp,Bxx.new _ _ _⟩) (by simp [e6])
       case fin=>
        rintro v lo hi W2 hb ⟨g0,g1,g2⟩ hf hap
        show wpList _ _ _ [_,_,_] _ _
        have e1:v 1=hv:=(hf 1 rfl).2.2.2
        obtain ⟨l7,m7,n7,e7,lt7,hb7⟩:=hf 7 rfl
        have hown1:=hown.ext hb
        have hz2:=hb.size
        have hnew:W2.cell? ⟨lo 7,0,none⟩=some (.int .i64 y):=(hb7.cells 0).1
        clear hf hap g0 g1 g2
        dsimp only
        rw [e1,e7]
        generalize lo 7=bn at *
        refine append_list (by rfl) _ _ (by rfl) W4.heap.size hv _ y (by rfl) hown1 _ _ (by rfl) hnew ⟨by omega,by omega⟩ (by omega) (by omega) ?_
        intro g cap W5 hown2 hgrow hbel
        have hbel':Below W4.heap.size wr W5:=(hb.mono hs3).trans hbel
        have hqf2:W5.frozen? ⟨ob,0,none⟩=false:=(Below.frozen hbel' (p:=⟨ob,0,none⟩) hs2).trans oz
        have hqc2:W5.cell? ⟨ob,0,none⟩=some hv:=Below.cell' hbel' o0 hs2
        go_wp2_with fail
        go_roundw
        case rel=>
         refine ⟨k2+1,.slice (some ⟨g,0,none⟩) (((p.head.take k2).filter (fun y=>decide (y<s))).length+1) cap,by omega,by go_num,?_⟩
         rw [HSU.out,if_pos d1]
         exact HST.out.step hbel' hown2
        case measure=>simp [intOf];omega
      ·have d1:decide (y<s)=false:=by simp;omega
       go_wp2_with fail
       go_roundw
       case rel=>
        refine ⟨k2+1,hv,by omega,by go_num,?_⟩
        rw [HSU.out,if_neg (by rw [d1];simp),List.append_nil];exact HST.out
       case measure=>simp [intOf];omega
     ·obtain rfl:k2=p.head.length:=by omega
      rw [List.take_length] at HST hown
      obtain ⟨hl,hhl⟩:∃ hl,hl=p.head.filter (fun y=>decide (y<s)):=⟨_,rfl⟩
      rw [← hhl] at HST hown HQ
      obtain ⟨a9,c9,rfl⟩:=hown.form
      have hst0:=HST.out
      have HLC:Hid (LC w ob p (.slice a1 p.head.length c1) (.slice (some ⟨b8,f8,none⟩) p.cycle.length c2) s d W4.heap.size wr.heap.size (.slice a9 hl.length c9) hl wr.heap.size (.slice none 0 0) [] wr):=
       Lib.hid ⟨hst0.below,hst0.pb,hst0.rb,hst0.obx,OwnI.nil _ _,hown.oin,hst0.o1,by omega,Nat.le_refl _,.inl hs2,Nat.le_refl _,by have:=hst0.o1;omega⟩
      have hwz:=hst0.o1
      clear hst hst0 hhl hown
      go_upto_region 18 with (fail)
      clear o0 o3 oz q0 q1 q2 q3
      generalize wr.heap.size=B5 at *
      go_loopw [9] (fun i wq=>∃ (k3:Nat) (cyv:Value),k3≤j∧i=.int .i64 k3∧LC w ob p (.slice a1 p.head.length c1) (.slice (some ⟨b8,f8,none⟩) p.cycle.length c2) s d W4.heap.size B5 (.slice a9 hl.length c9) hl B5 cyv (((p.cycle.take j).take k3).map fun c=>(p.frm+c-s) % d) wq) (fun i _=>j-(intOf i).toNat)
      case atStart=>exact ⟨0,_,by omega,rfl,HLC.out⟩
      case round=>
       obtain ⟨k3,cyv,hk3,rfl,hTw⟩:=hrel
       have HTW:=Lib.hid hTw
       have q0:=(hTw.pb.cells 0).1
       have q1:=(hTw.pb.cells 1).1
       have q3:=(hTw.pb.cells 3).1
       have o0:=(hTw.obx.cells 0).1
       have o1:=(hTw.obx.cells 1).1
       have o2:=(hTw.obx.cells 2).1
       have o3:=(hTw.obx.cells 3).1
       have oz:=(hTw.obx.cells 3).2
       have hs5:=hTw.o2
       have hs6:=hTw.o3
       have hown:=hTw.own
       by_cases hlt3:k3<j
       ·have hlI:(k3:Int)<j:=by omega
        have hlt4:k3<p.cycle.length:=by omega
        have hcl:=Ext.cell hTw.below (HCELL.out k3 hlt4)
        have hyb:=HW.out.cyc.2 _ (getD_mem hlt4)
        have htk:(((p.cycle.take j).take (k3+1)).map fun c=>(p.frm+c-s) % d)=(((p.cycle.take j).take k3).map fun c=>(p.frm+c-s) % d) ++ [(p.frm+p.cycle.getD k3 0-s) % d]:=by
         have h4:k3<(p.cycle.take j).length:=by simp;omega
         rw [take_succ_getD h4,List.map_append]
         rw [List.getD_eq_getElem?_getD,List.getElem?_take,if_pos hlt3,← List.getD_eq_getElem?_getD];rfl
        have HTK:=Lib.hid htk
        generalize p.cycle.getD k3 0=y at *
        have hlen:(((p.cycle.take j).take k3).map fun c=>(p.frm+c-s) % d).length=k3:=by simp;omega
        have HLEN:=Lib.hid hlen
        have hz0:=Int.emod_nonneg (p.frm+y-s) (show d≠0 by omega)
        have hz1':=Int.emod_lt_of_pos (p.frm+y-s) (show 0<d by omega)
        obtain ⟨z,hz⟩:∃ z,z=(p.frm+y-s) % d:=⟨_,rfl⟩
        rw [← hz] at hz0 hz1' HTK
        have htm:(p.frm+y-s).tmod d=z:=by rw [Int.tmod_eq_emod_of_nonneg (by omega)];exact hz.symm
        have hdz:¬ d=0:=by omega
        clear hTw htk hlen hz
        go_wp2_with fail
        refine wp_region_facts (w0:=wr) [0,1,2,3,4,5,6,7,8,9,10,11,12,13,14] [15,16,17] (fun v=>⟨#[perV (.slice a1 p.head.length c1) (.slice (some ⟨b8,f8,none⟩) p.cycle.length c2) p.frm p.period,.pointer (some ⟨w.heap.size,0,none⟩),.pointer (some ⟨w.heap.size+1,0,none⟩),undef,.int .i64 d,.int .i64 ↑j,.int .i64 s,.pointer (some ⟨ob,0,none⟩),.int .i64 ↑p.head.length,.int .i64 ↑k3,.pointer (some ⟨w.heap.size,3,none⟩),.slice (some ⟨b8,f8,none⟩) p.cycle.length c2,.int .i64 ↑p.cycle.length,.bool false,undef,undef,undef,undef,undef,undef,undef,undef,undef,undef,undef,undef,undef,undef,undef,undef,undef,undef,undef,.agg #[.slice a1 p.head.length c1,.int .i64 p.frm,.int .i64 p.period,.slice (some ⟨b8,f8,none⟩) p.cycle.length c2],.int .i64 d,.int .i64 ↑j,.pointer (some ⟨w.heap.size,3,none⟩),.slice (some ⟨b8,f8,none⟩) p.cycle.length c2,.int .i64 ↑p.cycle.length,.bool false,.bool false,undef,undef,undef,undef,undef,undef,undef,.bool false,u49,u50,.agg #[.slice a1 p.head.length c1,.int .i64 p.frm,.int .i64 p.period,.slice (some ⟨b8,f8,none⟩) p.cycle.length c2],.int .i64 d,.int .i64 ↑j,.int .i64 s,.int .i64 s,.int .i64 d,.agg #[.slice none 0 0,.int .i64 s,.int .i64 d,.slice none 0 0],.int .i64 ↑p.head.length,.pointer (some ⟨w.heap.size,0,none⟩),.slice a1 p.head.length c1,.int .i64 ↑p.head.length,.bool false,u63,u64,u65,u66,u67,u68,u69,u70,u71,u72,u73,u74,u75,u76,u77,u78,u79,u80,u81,.int .i64 ↑k3,.int .i64 ↑j,.bool true,u85,u86,v 0,v 1,v 2,v 3,v 4,v 5,v 6,v 7,v 8,v 9,v 10,v 11,v 12,v 13,v 14,u102,u103,undef,undef,undef,undef,undef],[]⟩) (fun j=>match j with|0=>u87|1=>u88|2=>u89|3=>u90|4=>u91|5=>u92|6=>u93|7=>u94|8=>u95|9=>u96|10=>u97|11=>u98|12=>u99|13=>u100|14=>u101|_=>undef)
         (fun i v lo hi W=>match i with
          | 0=>v 0=.pointer (some ⟨ob,3,none⟩)
          | 1=>v 1=cyv
          | 2=>v 2=.pointer (some ⟨w.heap.size,1,none⟩)
          | 3=>v 3=.int .i64 p.frm
          | 4=>v 4=.pointer (some ⟨w.heap.size,3,none⟩)
          | 5=>v 5=.slice (some ⟨b8,f8,none⟩) p.cycle.length c2
          | 6=>v 6=.int .i64 k3
          | 7=>v 7=.pointer (some ⟨b8,f8+k3,none⟩)
          | 8=>v 8=.int .i64 y
          | 9=>v 9=.int .i64 (p.frm+y)
          | 10=>v 10=.int .i64 s
          | 11=>v 11=.int .i64 (p.frm+y-s)
          | 12=>v 12=.int .i64 d
          | 13=>v 13=.int .i64 z
          | 14=>v 14=.slice (some ⟨lo 14,0,none⟩) 1 1∧lo 14<hi 14∧Bxx W (lo 14) #[.int .i64 z] 3
          | _=>True)
         (fun W=>W.cell? ⟨w.heap.size,1,none⟩=some (.int .i64 p.frm)∧W.cell? ⟨w.heap.size,3,none⟩=some (.slice (some ⟨b8,f8,none⟩) p.cycle.length c2)∧W.cell? ⟨b8,f8+k3,none⟩=some (.int .i64 y)∧W.cell? ⟨ob,3,none⟩=some cyv) rfl (by kernel_rfl) (by decide) rfl ?stab ?loc (fun W9 hb=>⟨cux q1 hb,cux q3 hb,cux hcl hb,cux o3 hb⟩) ?steps ?fin
        case stab=>
         rintro (_|_|_|_|_|_|_|_|_|_|_|_|_|_|_|i) v lo hi W W' h hb
         ·exact h
         ·exact h
         ·exact h
         ·exact h
         ·exact h
         ·exact h
         ·exact h
         ·exact h
         ·exact h
         ·exact h
         ·exact h
         ·exact h
         ·exact h
         ·exact h
         ·exact ⟨h.1,h.2.1,h.2.2.below hb⟩
         ·trivial
        case loc=>
         rintro (_|_|_|_|_|_|_|_|_|_|_|_|_|_|_|i) v v' lo lo' hi hi' W hag h
         ·exact (hag 0 (.inl rfl)).1 ▸ h
         ·exact (hag 1 (.inl rfl)).1 ▸ h
         ·exact (hag 2 (.inl rfl)).1 ▸ h
         ·exact (hag 3 (.inl rfl)).1 ▸ h
         ·exact (hag 4 (.inl rfl)).1 ▸ h
         ·exact (hag 5 (.inl rfl)).1 ▸ h
         ·exact (hag 6 (.inl rfl)).1 ▸ h
         ·exact (hag 7 (.inl rfl)).1 ▸ h
         ·exact (hag 8 (.inl rfl)).1 ▸ h
         ·exact (hag 9 (.inl rfl)).1 ▸ h
         ·exact (hag 10 (.inl rfl)).1 ▸ h
         ·exact (hag 11 (.inl rfl)).1 ▸ h
         ·exact (hag 12 (.inl rfl)).1 ▸ h
         ·exact (hag 13 (.inl rfl)).1 ▸ h
         ·have q:=hag 14 (.inl rfl)
          have q13:=hag 13 (.inr (Rdp (by kernel_rfl)))
          (try dsimp only at h ⊢);(try simp only [q.1,q.2.1,q.2.2,q13.1,q13.2.1,q13.2.2] at h);exact h
         ·trivial
        case steps=>
         refine SFx.cons rfl ?_ (SFx.cons rfl ?_ (SFx.cons rfl ?_ (SFx.cons rfl ?_ (SFx.cons rfl ?_ (SFx.cons rfl ?_ (SFx.cons rfl ?_ (SFx.cons rfl ?_ (SFx.cons rfl ?_ (SFx.cons rfl ?_ (SFx.cons rfl ?_ (SFx.cons rfl ?_ (SFx.cons rfl ?_ (SFx.cons rfl ?_ (SFx.cons rfl ?_ SFx.nil))))))))))))))
         ·rintro v lo hi W hb ⟨g0,g1,g2,g3⟩ hd K hK
          clear hd
          dsimp only
          go_wp2_with fail
          exact acx (hK (.pointer (some ⟨ob,3,none⟩)) W (Below.refl _ _) rfl) (by simp)
         ·rintro v lo hi W hb ⟨g0,g1,g2,g3⟩ hd K hK
          have e0:v 0=.pointer (some ⟨ob,3,none⟩):=(hd 0 (Rdp (by kernel_rfl))).2.2
          clear hd
          dsimp only
          (try simp only [e0])
          go_wp2_with fail
          exact acx (hK (cyv) W (Below.refl _ _) rfl) (by simp [e0])
         ·rintro v lo hi W hb ⟨g0,g1,g2,g3⟩ hd K hK
          clear hd
          dsimp only
          go_wp2_with fail
          exact acx (hK (.pointer (some ⟨w.heap.size,1,none⟩)) W (Below.refl _ _) rfl) (by simp)
         ·rintro v lo hi W hb ⟨g0,g1,g2,g3⟩ hd K hK
          have e2:v 2=.pointer (some ⟨w.heap.size,1,none⟩):=(hd 2 (Rdp (by kernel_rfl))).2.2
          clear hd
          dsimp only
          (try simp only [e2])
          go_wp2_with fail
          exact acx (hK (.int .i64 p.frm) W (Below.refl _ _) rfl) (by simp [e2])
         ·rintro v lo hi W hb ⟨g0,g1,g2,g3⟩ hd K hK
          clear hd
          dsimp only
          go_wp2_with fail
          exact acx (hK (.pointer (some ⟨w.heap.size,3,none⟩)) W (Below.refl _ _) rfl) (by simp)
         ·rintro v lo hi W hb ⟨g0,g1,g2,g3⟩ hd K hK
          have e4:v 4=.pointer (some ⟨w.heap.size,3,none⟩):=(hd 4 (Rdp (by kernel_rfl))).2.2
          clear hd
          dsimp only
          (try simp only [e4])
          go_wp2_with fail
          exact acx (hK (.slice (some ⟨b8,f8,none⟩) p.cycle.length c2) W (Below.refl _ _) rfl) (by simp [e4])
         ·rintro v lo hi W hb ⟨g0,g1,g2,g3⟩ hd K hK
          clear hd
          dsimp only
          go_wp2_with fail
          exact acx (hK (.int .i64 k3) W (Below.refl _ _) rfl) (by simp)
         ·rintro v lo hi W hb ⟨g0,g1,g2,g3⟩ hd K hK
          have e5:v 5=.slice (some ⟨b8,f8,none⟩) p.cycle.length c2:=(hd 5 (Rdp (by kernel_rfl))).2.2
          have e6:v 6=.int .i64 k3:=(hd 6 (Rdp (by kernel_rfl))).2.2
          clear hd
          dsimp only
          (try simp only [e5,e6])
          go_wp2_with fail
          exact acx (hK (.pointer (some ⟨b8,f8+k3,none⟩)) W (Below.refl _ _) rfl) (by simp [e5,e6])
         ·rintro v lo hi W hb ⟨g0,g1,g2,g3⟩ hd K hK
          have e7:v 7=.pointer (some ⟨b8,f8+k3,none⟩):=(hd 7 (Rdp (by kernel_rfl))).2.2
          clear hd
          dsimp only
          (try simp only [e7])
          go_wp2_with fail
          exact acx (hK (.int .i64 y) W (Below.refl _ _) rfl) (by simp [e7])
         ·rintro v lo hi W hb ⟨g0,g1,g2,g3⟩ hd K hK
          have e3:v 3=.int .i64 p.frm:=(hd 3 (Rdp (by kernel_rfl))).2.2
          have e8:v 8=.int .i64 y:=(hd 8 (Rdp (by kernel_rfl))).2.2
          clear hd
          dsimp only
          (try simp only [e3,e8])
          go_wp2_with fail
          exact acx (hK (.int .i64 (p.frm+y)) W (Below.refl _ _) rfl) (by simp [e3,e8])
         ·rintro v lo hi W hb ⟨g0,g1,g2,g3⟩ hd K hK
          clear hd
          dsimp only
          go_wp2_with fail
          exact acx (hK (.int .i64 s) W (Below.refl _ _) rfl) (by simp)
         ·rintro v lo hi W hb ⟨g0,g1,g2,g3⟩ hd K hK
          have e9:v 9=.int .i64 (p.frm+y):=(hd 9 (Rdp (by kernel_rfl))).2.2
          have e10:v 10=.int .i64 s:=(hd 10 (Rdp (by kernel_rfl))).2.2
          clear hd
          dsimp only
          (try simp only [e9,e10])
          go_wp2_with fail
          exact acx (hK (.int .i64 (p.frm+y-s)) W (Below.refl _ _) rfl) (by simp [e9,e10])
         ·rintro v lo hi W hb ⟨g0,g1,g2,g3⟩ hd K hK
          clear hd
          dsimp only
          go_wp2_with fail
          exact acx (hK (.int .i64 d) W (Below.refl _ _) rfl) (by simp)
         ·rintro v lo hi W hb ⟨g0,g1,g2,g3⟩ hd K hK
          have e11:v 11=.int .i64 (p.frm+y-s):=(hd 11 (Rdp (by kernel_rfl))).2.2
          have e12:v 12=.int .i64 d:=(hd 12 (Rdp (by kernel_rfl))).2.2
          clear hd
          dsimp only
          (try simp only [e11,e12])
          go_wp2_with fail
          exact acx (hK (.int .i64 z) W (Below.refl _ _) rfl) (by simp [e11,e12])
         ·rintro v lo hi W hb ⟨g0,g1,g2,g3⟩ hd K hK
          have e13:v 13=.int .i64 z:=(hd 13 (Rdp (by kernel_rfl))).2.2
          clear hd
          dsimp only
          (try simp only [e13])
          go_wp2_with fail
          exact acx (hK (.slice (some ⟨W.heap.size,0,none⟩) 1 1) _ (Ea (Er _) _) ⟨rfl,by simp,Bxx.new _ _ _⟩) (by simp [e13])
        case fin=>
         rintro v lo hi W2 hb ⟨g0,g1,g2,g3⟩ hf hap
         show wpList _ _ _ [_,_,_] _ _
         have e1:v 1=cyv:=(hf 1 rfl).2.2.2
         obtain ⟨l9,m9,n9,e9,lt9,hb9⟩:=hf 14 rfl
         have hown1:=hown.ext hb
         have hz2:=hb.size
         have hnew:W2.cell? ⟨lo 14,0,none⟩=some (.int .i64 z):=(hb9.cells 0).1
         clear hf hap g0 g1 g2 g3
         dsimp only
         rw [e1,e9]
         generalize lo 14=bn at *
         refine append_list (by rfl) _ _ (by rfl) B5 cyv _ z (by rfl) hown1 _ _ (by rfl) hnew ⟨by omega,by omega⟩ (by rw [HLEN.out];omega) (by omega) ?_
         intro g cap W5 hown2 hgrow hbel
         rw [HLEN.out] at hown2 ⊢
         have hbel':Below B5 wr W5:=(hb.mono hs6).trans hbel
         have hqf2:W5.frozen? ⟨ob,3,none⟩=false:=(Below.frozen hbel' (p:=⟨ob,3,none⟩) hs5).trans oz
         have hqc2:W5.cell? ⟨ob,3,none⟩=some cyv:=Below.cell' hbel' o3 hs5
         go_wp2_with fail
         go_roundw
         case rel=>
          refine ⟨k3+1,.slice (some ⟨g,0,none⟩) (k3+1) cap,by omega,by go_num,?_⟩
          rw [HTK.out]
          exact HTW.out.step hbel' hown2
         case measure=>simp [intOf];omega
       ·obtain rfl:k3=j:=by omega
        rw [List.take_take,Nat.min_self] at hown HTW
        obtain ⟨cl,hcl⟩:∃ cl,cl=(p.cycle.take k3).map fun c=>(p.frm+c-s) % d:=⟨_,rfl⟩
        have hnd:cl.Nodup:=by rw [hcl];exact shift_nodup HS.out.rise
        rw [← hcl] at hown HTW HQ
        have HND:=Lib.hid hnd
        have HCL:=Lib.hid hcl
        obtain ⟨m8,c8,rfl⟩:=hown.form
        have hoc:=hown.ints
        have HOC:=Lib.hid hoc
        have hrb2:=HTW.out.rb
        have hob9:=HTW.out.obx
        have HRB2:=Lib.hid hrb2
        have HOB9:=Lib.hid hob9
        have hhd:=HTW.out.hd
        have HHD:=Lib.hid hhd
        have hbW:=HTW.out.below
        have HBW:=Lib.hid hbW
        have o6:=HTW.out.o6
        have o5:=HTW.out.o5
        clear hnd hcl hown hoc hTw hhd hrb2 hob9 hbW
        have o5':ob<wr.heap.size:=by omega
        have o6':w.heap.size+1<wr.heap.size:=by omega
        have r0:=(HRB2.out.cells 0)
        have r1:=(HRB2.out.cells 1)
        have r2:=(HRB2.out.cells 2)
        have r3:=(HRB2.out.cells 3)
        go_wp2_with (go_at_call 80;refine (Rsorted_any _ cl _ (HOC.out.ext (by (repeat' (with_reducible first|assumption|apply Er|apply Ea|apply Ed|apply En|(refine Es ?_ (by first|(simp<;>omega)|omega) _)|refine Et ?_ (by assumption))))) HND.out).mono ?_;rintro e W6 ⟨sv,rfl,hown6,hb6⟩;obtain ⟨ya,yc,rfl⟩:=hown6.form;have HOWN6:=Lib.hid hown6;clear hown6;have x6:W6.frozen? ⟨ob,3,none⟩=false:=(Below.frozen hb6 (p:=⟨ob,3,none⟩) o5').trans oz;have y0:W6.cell? ⟨ob,0,none⟩=some (.slice a9 hl.length c9):=Below.cell' hb6 o0 o5';have y1:W6.cell? ⟨ob,1,none⟩=some (.int .i64 s):=Below.cell' hb6 o1 o5';have y2:W6.cell? ⟨ob,2,none⟩=some (.int .i64 d):=Below.cell' hb6 o2 o5';have y3:W6.cell? ⟨ob,3,none⟩=some (.slice m8 cl.length c8):=Below.cell' hb6 o3 o5';have z0:=((HRB2.out.upto hb6 o6').cells 0);have z1:=((HRB2.out.upto hb6 o6').cells 1);have z2:=((HRB2.out.upto hb6 o6').cells 2);have z3:=((HRB2.out.upto hb6 o6').cells 3);have zl:=(HRB2.out.upto hb6 o6').lt)
        have hbW:=HBW.out
        have hb6z:=hb6.size
        refine bodyPost_ret (v:=.agg #[.slice a9 hl.length c9,.int .i64 s,.int .i64 d,.slice ya (isort cl).length yc]) (by simp [results,Tryz.results44,go_sem, *]) rfl ⟨_,_,⟨hl,s,d,isort cl⟩,rfl,HQ.out,⟨?_,?_⟩,by (repeat' (with_reducible first|assumption|apply Er|apply Ea|apply Ed|apply En|(refine Es ?_ (by first|(simp<;>omega)|omega) _)|refine Et ?_ (by assumption)))⟩
        ·have h1:OwnIn _ _ _ (.slice a9 hl.length c9) hl:=(((((HHD.out.below hb6 (by omega)).set (b:=ob) (i:=3) (.slice ya (isort cl).length yc) (by omega)).set (b:=w.heap.size+1) (i:=0) (.slice a9 hl.length c9) (by omega)).set (b:=w.heap.size+1) (i:=1) (.int .i64 s) (by omega)).set (b:=w.heap.size+1) (i:=2) (.int .i64 d) (by omega)).set (b:=w.heap.size+1) (i:=3) (.slice ya (isort cl).length yc) (by omega)
         exact h1.own.mono (base':=w.heap.size) (by omega)
        ·have h1:OwnIn _ _ _ (.slice ya (isort cl).length yc) (isort cl):=(((((HOWN6.out.oin).set (b:=ob) (i:=3) (.slice ya (isort cl).length yc) (by omega)).set (b:=w.heap.size+1) (i:=0) (.slice a9 hl.length c9) (by omega)).set (b:=w.heap.size+1) (i:=1) (.int .i64 s) (by omega)).set (b:=w.heap.size+1) (i:=2) (.int .i64 d) (by omega)).set (b:=w.heap.size+1) (i:=3) (.slice ya (isort cl).length yc) (by omega)
         exact h1.own.mono (base':=w.heap.size) (by omega)
end Go.Proofs.YtjilkhhokkncoaaGreat
