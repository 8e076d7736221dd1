/- Contracts: R.Made; small sets and the operations over them. -/
import Derived.Test.YtjilkhhokkncoaaGreatMK14
import Derived.Test.YtjilkhhokkncoaaGreatMK1
import Derived.Test.YtjilkhhokkncoaaGreatMK3
set_option linter.unusedVariables false
set_option linter.unusedSimpArgs false
/- Walks: Made (package kalendsref04). Under way. -/
namespace Go.Proofs.YtjilkhhokkncoaaGreat
open Go.RowKit Go.Maps Kal
structure Bytes (w:World) (v:Value) (l:List Int):Prop where
 is:∃ a c,v=.slice a l.length c∧(l=[]∨∃ b o,a=some ⟨b,o,none⟩∧∀ i,i<l.length→w.cell? ⟨b,o+i,none⟩=some (.int .u8 (l.getD i 0)))
 len:l.length≤9223372036854775807
 rng:∀ x∈l,0≤x∧x≤255
theorem Bytes.ext {w W:World} {v:Value} {l:List Int} (h:Bytes w v l) (hb:Below w.heap.size w W):Bytes W v l:=by
 obtain ⟨⟨a,c,rfl,h3⟩,h4,h5⟩:=h
 refine ⟨⟨a,c,rfl,h3.imp id ?_⟩,h4,h5⟩
 rintro ⟨b,o,rfl,hc⟩
 exact ⟨b,o,rfl,fun i hi=>Ext.cell hb (hc i hi)⟩
structure MadeAt (W0 wr:World) (b3:Nat) (A T:Int) (hv cv:Value):Prop where
 grown:W0.grownBy wr (some b3)
 box:Bxx wr b3 #[hv,.int .i64 A,.int .i64 T,cv] 24
set_option maxRecDepth 100000 in
set_option maxHeartbeats 1000000 in
theorem Made_any (hv cv:Value) (hl cl:List Int) (f t:Int) (w:World) (h1:Bytes w hv hl) (h2:Bytes w cv cl) (f0:0≤f) (f1:f≤255) (t0:0≤t) (t1:t≤255) :
  Calls Tryz.prog 23 #[.agg #[hv,.int .u8 f,.int .u8 t,cv]] w fun e w'=>∃ (h c:Value) (p:Per),e=.returned (perV h c p.frm p.period)∧POx w' w.heap.size h c p∧p.WF∧p.frm≤20∧p.period≤12∧Below w.heap.size w w':=by
 have H1:=Lib.hid h1
 have H2:=Lib.hid h2
 obtain ⟨⟨a1,c1,rfl,_⟩,g2,_⟩:=h1
 obtain ⟨⟨a2,c2,rfl,_⟩,k2,_⟩:=h2
 go_enter Tryz.func23,Tryz.ntmps23
 go_upto_region 3 with (fail)
 refine wp_abs (F:=fun U=>Bxx U w.heap.size #[.slice a1 hl.length c1,.int .u8 f,.int .u8 t,.slice a2 cl.length c2] 40∧Bxx U (w.heap.size+1) #[.slice none 0 0,.int .i64 0,.int .i64 0,.slice none 0 0] 24∧Bxx U (w.heap.size+1+1) #[.slice none 0 0,.int .i64 (f % 21),.int .i64 (1+t % 12),.slice none 0 0] 24∧Bytes U (.slice a1 hl.length c1) hl∧Bytes U (.slice a2 cl.length c2) cl∧Below w.heap.size w U∧U.heap.size=w.heap.size+3)
  ⟨by (repeat' (first|(refine Bxx.at ?_;simp;done)|refine Bxx.alloc ?_ _)),by (repeat' (first|(refine Bxx.at ?_;simp;done)|refine Bxx.alloc ?_ _)),by (repeat' (first|(refine Bxx.at ?_;simp;done)|refine Bxx.alloc ?_ _)),H1.out.ext (by (repeat' (with_reducible first|assumption|apply Er|apply Ea|apply Ed|apply En|(refine Es ?_ (by first|(simp<;>omega)|omega) _)|refine Et ?_ (by assumption)))),H2.out.ext (by (repeat' (with_reducible first|assumption|apply Er|apply Ea|apply Ed|apply En|(refine Es ?_ (by first|(simp<;>omega)|omega) _)|refine Et ?_ (by assumption)))),by (repeat' (with_reducible first|assumption|apply Er|apply Ea|apply Ed|apply En|(refine Es ?_ (by first|(simp<;>omega)|omega) _)|refine Et ?_ (by assumption))),by simp⟩ ?_
 have hA0:=Int.emod_nonneg f (show (21:Int)≠0 by omega)
 have hA1:=Int.emod_lt_of_pos f (show (0:Int)<21 by omega)
 have hT0:=Int.emod_nonneg t (show (12:Int)≠0 by omega)
 have hT1:=Int.emod_lt_of_pos t (show (0:Int)<12 by omega)
 generalize f % 21=A at *
 generalize t % 12=T at *
 obtain ⟨N,hN⟩:∃ N:Nat,A=N:=⟨A.toNat,by omega⟩
 subst hN
 rintro W0 ⟨hb1,hb2,hb3,hh,hc,hE,hz⟩
 go_loopw [4,5,24] (fun i _ _ wr=>∃ (k:Nat) (l:List Int) (a:Option Addr) (c:Nat),k≤N∧i=.int .i64 k∧Rise 0 k l∧OwnI wr W0.heap.size (.slice a l.length c) l∧MadeAt W0 wr (w.heap.size+1+1) N (1+T) (.slice a l.length c) (.slice none 0 0)) (fun i _ _ _=>N-(intOf i).toNat)
 case atStart=>exact ⟨0,[],none,0,by omega,rfl,Rise.nil,OwnI.nil _ _,⟨World.grownBy.of_below (Er _) _,hb3⟩⟩
 case round=>
  obtain ⟨k,l,a,c,hk,rfl,hl9,hown,hm⟩:=hrel
  obtain ⟨wo,hwo⟩:∃ wo:World,wo=wr:=⟨wr,rfl⟩
  subst hwo
  have m0:wo.cell? ⟨w.heap.size+1+1,0,none⟩=some (.slice a l.length c):=(hm.box.cells 0).1
  have m1:wo.cell? ⟨w.heap.size+1+1,1,none⟩=some (.int .i64 N):=(hm.box.cells 1).1
  have n0:wo.cell? ⟨w.heap.size,0,none⟩=some (.slice a1 hl.length c1):=by
   have h7:Bxx wo w.heap.size #[.slice a1 hl.length c1,.int .u8 f,.int .u8 t,.slice a2 cl.length c2] 40:=(hm.grown.block _ (by omega) (by simp;omega)).trans hb1
   exact (h7.cells 0).1
  have HM:=Lib.hid hm
  have HOWN:=Lib.hid hown
  have HL9:=Lib.hid hl9
  have hszr:=hm.grown.size
  have hEr:Below w.heap.size w wo:=⟨hm.grown.os.trans hE.os,hm.grown.tape.trans hE.tape,hm.grown.output.trans hE.output,by omega,fun j hj=>(hm.grown.block j (by omega) (by simp;omega)).trans (hE.block j hj)⟩
  have HER:=Lib.hid hEr
  clear hEr
  clear hm hown hl9
  by_cases hlt:k<N
  ·have hkI:(k:Int)<N:=by omega
   go_wp2_with fail
   go_loopw [5,24] (fun i _ wq=>∃ j:Nat,j≤hl.length∧i=.int .i64 j∧Below wo.heap.size wo wq) (fun i _ _=>hl.length-(intOf i).toNat)
   case atStart=>exact ⟨0,by omega,rfl,by (repeat' (with_reducible first|assumption|apply Er|apply Ea|apply Ed|apply En|(refine Es ?_ (by first|(simp<;>omega)|omega) _)|refine Et ?_ (by assumption)))⟩
   case round=>
    obtain ⟨j,hj,rfl,hb⟩:=hrel
    have q0:=Ext.cell hb m0
    have q1:=Ext.cell hb m1
    have q2:=Ext.cell hb n0
    have HBQ:=Lib.hid hb
    have hszq:=hb.size
    by_cases hlj:j<hl.length
    ·have hjI:(j:Int)<hl.length:=by omega
     obtain ⟨⟨a',c',he,h3⟩,_,h5⟩:=H1.out.ext (HER.out.trans (hb.mono (by omega)))
     injection he with e1 _ e2
     subst e1;subst e2
     rcases h3 with h3|⟨b1,o1,rfl,hcell⟩
     ·rw [h3] at hlj;simp at hlj
     have hcl:=hcell j hlj
     have hxr:=h5 _ (getD_mem hlj)
     generalize hl.getD j 0=x at *
     clear hcell hb h5
     have hx0:=Int.emod_nonneg x (show (N:Int)≠0 by omega)
     have hx1:=Int.emod_lt_of_pos x (show (0:Int)<N by omega)
     have htm:x.tmod N=x % N:=Int.tmod_eq_emod_of_nonneg (by omega)
     obtain ⟨y,hy⟩:∃ y,y=x % (N:Int):=⟨_,rfl⟩
     rw [← hy] at htm hx0 hx1
     by_cases hyk:y=k
     ·have hyb:(y == (k:Int))=true:=by simp [hyk]
      go_wp2_with fail
      go_quiet (fail)
      have hb:=HBQ.out
      have hlen:l.length≤20:=by have:=HL9.out.length_le (by omega);omega
      go_wp2_with (at_builtin;refine append_list (by rfl) _ _ (by rfl) W0.heap.size (.slice a l.length c) l k (by rfl) (HOWN.out.ext (by (repeat' (with_reducible first|assumption|apply Er|apply Ea|apply Ed|apply En|(refine Es ?_ (by first|(simp<;>omega)|omega) _)|refine Et ?_ (by assumption))))) _ _ (by rfl) (by first|(simp;done)|exact ((Bxx.new _ #[.int .i64 k] _).cells 0).1) ⟨by omega,by omega⟩ (by omega) (by simp;omega) ?_;intro g cap w5 hown5 hgrow5 hbel5;have hbx:Bxx w5 (w.heap.size+1+1) #[.slice a l.length c,.int .i64 N,.int .i64 (1+T),.slice none 0 0] 24:=(hgrow5.block _ (by simp;omega) (fun e=>by first|(have h7:=(HOWN.out.lt _ e.symm).1;omega)|(have h7:=(HOWN.out.lt _ e).1;omega))).trans (HM.out.box.below (by (repeat' (with_reducible first|assumption|apply Er|apply Ea|apply Ed|apply En|(refine Es ?_ (by first|(simp<;>omega)|omega) _)|refine Et ?_ (by assumption)))));have g0:=hbx.cells 0)
      have hb0:Below W0.heap.size wo wr:=hb.mono (by omega)
      have hB:Below W0.heap.size wo w5:=Below.trans (by (repeat' (first|assumption|exact hb0.trans ((En (Er _) _).mono (by omega))|(refine Below.alloc ?_ (by have:=hb0.size;simp;omega) _)|exact hb0.drew|refine Ed ?_|refine En ?_ _))) hbel5
      have hsz5:=hB.size
      go_roundw
      case rel=>
       refine ⟨k+1,l ++ [(k:Int)],some ⟨g,0,none⟩,cap,by omega,by go_num,⟨List.pairwise_append.2 ⟨HL9.out.1,by simp,fun x hx y hy=>?_⟩,fun x hx=>?_⟩,?_,⟨⟨hB.os.trans HM.out.grown.os,hB.tape.trans HM.out.grown.tape,hB.output.trans HM.out.grown.output,?_,fun q hq hne=>?_⟩,?_⟩⟩
       ·have h7:=HL9.out.2 x hx
        simp at hy
        omega
       ·rcases List.mem_append.1 hx with h7|h7
        ·have:=HL9.out.2 x h7;omega
        ·simp at h7;omega
       ·rw [List.length_append]
        exact hown5.kept_lt (fun q hq=>⟨Below.heap_setCell _ _ _ q (by have:=(hown5.lt q hq).1;simp;omega),by simp⟩)
       ·simp;omega
       ·exact (Below.heap_setCell _ _ _ q (by simpa using hne)).trans ((hB.block q hq).trans (HM.out.grown.block q hq hne))
       ·rw [List.length_append]
        have h9:=heap_set_at 0 (.slice (some ⟨g,0,none⟩) (l.length+1) cap) hbx
        simpa [Bxx] using h9
      case measure=>simp [intOf];omega
     ·have hyb:(y == (k:Int))=false:=by simp [hyk]
      go_wp2_with fail
      go_quiet (fail)
      go_wp2_with fail
      go_roundw
      case rel=>exact ⟨j+1,by omega,by go_num,by have hb:=HBQ.out;(repeat' (with_reducible first|assumption|apply Er|apply Ea|apply Ed|apply En|(refine Es ?_ (by first|(simp<;>omega)|omega) _)|refine Et ?_ (by assumption)))⟩
      case measure=>simp [intOf];omega
    ·obtain rfl:j=hl.length:=by omega
     clear hb
     go_wp2_with fail
     go_roundw
     case rel=>exact ⟨k+1,l,a,c,by omega,by go_num,⟨HL9.out.1,fun x hx=>by have:=HL9.out.2 x hx;omega⟩,HOWN.out.ext HBQ.out,⟨HM.out.grown.trans (World.grownBy.of_below HBQ.out _),HM.out.box.below HBQ.out⟩⟩
     case measure=>simp [intOf];omega
  ·obtain rfl:k=N:=by omega
   go_upto_region 10 with (fail)
   refine wp_abs (F:=fun U=>Bxx U w.heap.size #[.slice a1 hl.length c1,.int .u8 f,.int .u8 t,.slice a2 cl.length c2] 40∧Bxx U (w.heap.size+1) #[.slice none 0 0,.int .i64 0,.int .i64 0,.slice none 0 0] 24∧Bxx U (w.heap.size+1+1) #[.slice a l.length c,.int .i64 k,.int .i64 (1+T),.slice none 0 0] 24∧OwnI U W0.heap.size (.slice a l.length c) l∧Below w.heap.size w U∧W0.heap.size≤U.heap.size)
    ⟨(HM.out.grown.block _ (by omega) (by simp;omega)).trans hb1,(HM.out.grown.block _ (by omega) (by simp)).trans hb2,HM.out.box,HOWN.out,HER.out,hszr⟩ ?_
   have hriseL:Rise 0 k l:=HL9.out
   clear m0 m1 n0 HM HOWN HER hb1 hb2 hb3 hh hc hszr
   rintro W1 ⟨hb1,hb2,hb3,hown1,hE1,hz1⟩
   obtain ⟨M,hM⟩:∃ M:Nat,1+T=M:=⟨(1+T).toNat,by omega⟩
   rw [hM] at hb3 ⊢
   have HM9:=Lib.hid hM
   have hM1:1≤M:=by omega
   have hM2:M≤12:=by omega
   clear hM
   go_wp2_with fail
   go_loopw [6,7,54] (fun i _ _ wr=>∃ (n:Nat) (m:List Int) (a3:Option Addr) (c3:Nat),n≤M∧i=.int .i64 n∧Rise 0 n m∧OwnI wr W1.heap.size (.slice a3 m.length c3) m∧W1.grownBy wr (some (w.heap.size+1+1))∧Bxx wr (w.heap.size+1+1) #[.slice a l.length c,.int .i64 k,.int .i64 M,.slice a3 m.length c3] 24) (fun i _ _ _=>M-(intOf i).toNat)
   case atStart=>exact ⟨0,[],none,0,by omega,rfl,Rise.nil,OwnI.nil _ _,World.grownBy.of_below (Er _) _,hb3⟩
   case round=>
    obtain ⟨n,m,a3,c3,hn,rfl,hl9,hown,hgm,hbm⟩:=hrel
    obtain ⟨wo,hwo⟩:∃ wo:World,wo=wr:=⟨wr,rfl⟩
    subst hwo
    have m0:wo.cell? ⟨w.heap.size+1+1,3,none⟩=some (.slice a3 m.length c3):=(hbm.cells 3).1
    have m1:wo.cell? ⟨w.heap.size+1+1,2,none⟩=some (.int .i64 M):=(hbm.cells 2).1
    have n0:wo.cell? ⟨w.heap.size,3,none⟩=some (.slice a2 cl.length c2):=by
     have h7:Bxx wo w.heap.size #[.slice a1 hl.length c1,.int .u8 f,.int .u8 t,.slice a2 cl.length c2] 40:=(hgm.block _ (by omega) (by simp;omega)).trans hb1
     exact (h7.cells 3).1
    have HGM:=Lib.hid hgm
    have HBM:=Lib.hid hbm
    have HOWN:=Lib.hid hown
    have HL9:=Lib.hid hl9
    have hszr:=hgm.size
    have hEr:Below w.heap.size w wo:=⟨hgm.os.trans hE1.os,hgm.tape.trans hE1.tape,hgm.output.trans hE1.output,by omega,fun j hj=>(hgm.block j (by omega) (by simp;omega)).trans (hE1.block j hj)⟩
    have HER:=Lib.hid hEr
    clear hEr hgm hbm hown hl9
    by_cases hlt:n<M
    ·have hkI:(n:Int)<M:=by omega
     go_wp2_with fail
     go_loopw [7,54] (fun i _ wq=>∃ j:Nat,j≤cl.length∧i=.int .i64 j∧Below wo.heap.size wo wq) (fun i _ _=>cl.length-(intOf i).toNat)
     case atStart=>exact ⟨0,by omega,rfl,by (repeat' (with_reducible first|assumption|apply Er|apply Ea|apply Ed|apply En|(refine Es ?_ (by first|(simp<;>omega)|omega) _)|refine Et ?_ (by assumption)))⟩
     case round=>
      obtain ⟨j,hj,rfl,hb⟩:=hrel
      have q0:=Ext.cell hb m0
      have q1:=Ext.cell hb m1
      have q2:=Ext.cell hb n0
      have HBQ:=Lib.hid hb
      have hszq:=hb.size
      by_cases hlj:j<cl.length
      ·have hjI:(j:Int)<cl.length:=by omega
       obtain ⟨⟨a3',c3',he,h3⟩,_,h5⟩:=H2.out.ext (HER.out.trans (hb.mono (by omega)))
       injection he with e1 _ e2
       subst e1;subst e2
       rcases h3 with h3|⟨b1,o1,rfl,hcell⟩
       ·rw [h3] at hlj;simp at hlj
       have hcl:=hcell j hlj
       have hxr:=h5 _ (getD_mem hlj)
       generalize cl.getD j 0=x at *
       clear hcell hb h5
       have hx0:=Int.emod_nonneg x (show (M:Int)≠0 by omega)
       have hx1:=Int.emod_lt_of_pos x (show (0:Int)<M by omega)
       have htm:x.tmod M=x % M:=Int.tmod_eq_emod_of_nonneg (by omega)
       obtain ⟨y,hy⟩:∃ y,y=x % (M:Int):=⟨_,rfl⟩
       rw [← hy] at htm hx0 hx1
       by_cases hyk:y=n
       ·have hyb:(y == (n:Int))=true:=by simp [hyk]
        go_wp2_with fail
        go_quiet (fail)
        have hb:=HBQ.out
        have hlen:m.length≤20:=by have:=HL9.out.length_le (by omega);omega
        go_wp2_with (at_builtin;refine append_list (by rfl) _ _ (by rfl) W1.heap.size (.slice a3 m.length c3) m n (by rfl) (HOWN.out.ext (by (repeat' (with_reducible first|assumption|apply Er|apply Ea|apply Ed|apply En|(refine Es ?_ (by first|(simp<;>omega)|omega) _)|refine Et ?_ (by assumption))))) _ _ (by rfl) (by first|(simp;done)|exact ((Bxx.new _ #[.int .i64 n] _).cells 0).1) ⟨by omega,by omega⟩ (by omega) (by simp;omega) ?_;intro g cap w5 hown5 hgrow5 hbel5;have hbx:Bxx w5 (w.heap.size+1+1) #[.slice a l.length c,.int .i64 k,.int .i64 M,.slice a3 m.length c3] 24:=(hgrow5.block _ (by simp;omega) (fun e=>by first|(have h7:=(HOWN.out.lt _ e.symm).1;omega)|(have h7:=(HOWN.out.lt _ e).1;omega))).trans (HBM.out.below (by (repeat' (with_reducible first|assumption|apply Er|apply Ea|apply Ed|apply En|(refine Es ?_ (by first|(simp<;>omega)|omega) _)|refine Et ?_ (by assumption)))));have g0:=hbx.cells 3)
        have hb0:Below W1.heap.size wo wr:=hb.mono (by omega)
        have hB:Below W1.heap.size wo w5:=Below.trans (by (repeat' (first|assumption|exact hb0.trans ((En (Er _) _).mono (by omega))|(refine Below.alloc ?_ (by have:=hb0.size;simp;omega) _)|exact hb0.drew|refine Ed ?_|refine En ?_ _))) hbel5
        have hsz5:=hB.size
        go_roundw
        case rel=>
         refine ⟨n+1,m ++ [(n:Int)],some ⟨g,0,none⟩,cap,by omega,by go_num,⟨List.pairwise_append.2 ⟨HL9.out.1,by simp,fun x hx y hy=>?_⟩,fun x hx=>?_⟩,?_,⟨hB.os.trans HGM.out.os,hB.tape.trans HGM.out.tape,hB.output.trans HGM.out.output,?_,fun q hq hne=>?_⟩,?_⟩
         ·have h7:=HL9.out.2 x hx
          simp at hy
          omega
         ·rcases List.mem_append.1 hx with h7|h7
          ·have:=HL9.out.2 x h7;omega
          ·simp at h7;omega
         ·rw [List.length_append]
          exact hown5.kept_lt (fun q hq=>⟨Below.heap_setCell _ _ _ q (by have:=(hown5.lt q hq).1;simp;omega),by simp⟩)
         ·simp;omega
         ·exact (Below.heap_setCell _ _ _ q (by simpa using hne)).trans ((hB.block q hq).trans (HGM.out.block q hq hne))
         ·rw [List.length_append]
          have h9:=heap_set_at 3 (.slice (some ⟨g,0,none⟩) (m.length+1) cap) hbx
          simpa [Bxx] using h9
        case measure=>simp [intOf];omega
       ·have hyb:(y == (n:Int))=false:=by simp [hyk]
        go_wp2_with fail
        go_quiet (fail)
        go_wp2_with fail
        go_roundw
        case rel=>exact ⟨j+1,by omega,by go_num,by have hb:=HBQ.out;(repeat' (with_reducible first|assumption|apply Er|apply Ea|apply Ed|apply En|(refine Es ?_ (by first|(simp<;>omega)|omega) _)|refine Et ?_ (by assumption)))⟩
        case measure=>simp [intOf];omega
      ·obtain rfl:j=cl.length:=by omega
       clear hb
       go_wp2_with fail
       go_roundw
       case rel=>exact ⟨n+1,m,a3,c3,by omega,by go_num,⟨HL9.out.1,fun x hx=>by have:=HL9.out.2 x hx;omega⟩,HOWN.out.ext HBQ.out,HGM.out.trans (World.grownBy.of_below HBQ.out _),HBM.out.below HBQ.out⟩
       case measure=>simp [intOf];omega
    ·obtain rfl:n=M:=by omega
     have hownH:OwnI wo W0.heap.size (.slice a l.length c) l:=hown1.kept HGM.out (.inr (fun e=>by have:=(hown1.lt _ e).1;omega))
     have hrb:Bxx wo (w.heap.size+1) #[.slice none 0 0,.int .i64 0,.int .i64 0,.slice none 0 0] 24:=(HGM.out.block _ (by omega) (by simp)).trans hb2
     have g0:=HBM.out.cells 0
     have g1:=HBM.out.cells 1
     have g2:=HBM.out.cells 2
     have g3:=HBM.out.cells 3
     have r0:=hrb.cells 0
     have r1:=hrb.cells 1
     have r2:=hrb.cells 2
     have r3:=hrb.cells 3
     have HOWNH:=Lib.hid hownH
     clear hownH
     go_wp2_with fail
     have hEr:=HER.out
     exact bodyPost_ret (v:=perV (.slice a l.length c) (.slice a3 m.length c3) k n) (by simp [results,Tryz.results23,go_sem, *]) rfl ⟨_,_,⟨l,k,n,m⟩,rfl,⟨(HOWNH.out.above (by (repeat' (with_reducible first|exact Above.refl _ _|refine Above.alloc ?_ _|refine Above.drew ?_|refine Above.drewN ?_ _|refine Above.setCell ?_ (by first|(simp;done)|(simp;omega)|omega) _)))).mono (by omega),(HOWN.out.above (by (repeat' (with_reducible first|exact Above.refl _ _|refine Above.alloc ?_ _|refine Above.drew ?_|refine Above.drewN ?_ _|refine Above.setCell ?_ (by first|(simp;done)|(simp;omega)|omega) _)))).mono (by omega)⟩,⟨by show (0:Int)≤k;omega,by show (1:Int)≤n;omega,by assumption,HL9.out⟩,by show (k:Int)≤20;omega,by show (n:Int)≤12;omega,by (repeat' (with_reducible first|assumption|apply Er|apply Ea|apply Ed|apply En|(refine Es ?_ (by first|(simp<;>omega)|omega) _)|refine Et ?_ (by assumption)))⟩
end Go.Proofs.YtjilkhhokkncoaaGreat
/- Plain mathematics of the law PeriodicResidues: found in a window day by day; listed at a place. -/
namespace Go.Proofs.YtjilkhhokkncoaaGreat
open Kal
theorem lcm_le {a b A B:Int} (ha:1≤a) (hb:1≤b) (h1:a≤A) (h2:b≤B):lcmI a b≤A*B:=by
 have h3:lcmI a b≤a*b:=by
  have h4:=lcmI_pos ha hb
  have h6:lcmI a b∣a*b:=lcmI_dvd ha hb (Int.dvd_mul_right a b) (Int.dvd_mul_left a b)
  exact Int.le_of_dvd (Int.mul_pos (by omega) (by omega)) h6
 have h5:a*b≤A*B:=Int.mul_le_mul h1 h2 (by omega) (by omega)
 omega
end Go.Proofs.YtjilkhhokkncoaaGreat
/- Small sets: what the sets that R.Made builds and their combinations keep (bounds of From and Period); the operations' contracts over them. -/
namespace Go.Proofs.YtjilkhhokkncoaaGreat
open Go.RowKit Go.Maps Kal
def RawIs (w:World) (v:Value):Prop:=∃ (hv cv:Value) (hl cl:List Int) (f t:Int),v=.agg #[hv,.int .u8 f,.int .u8 t,cv]∧Bytes w hv hl∧Bytes w cv cl∧0≤f∧f≤255∧0≤t∧t≤255
structure Sm (F B:Int) (p:Per):Prop where
 wf:p.WF
 frm:p.frm≤F
 per:p.period≤B
theorem Sm.mono {F B F' B':Int} {p:Per} (h:Sm F B p) (h1:F≤F') (h2:B≤B'):Sm F' B' p:=⟨h.wf,by have:=h.frm;omega,by have:=h.per;omega⟩
theorem Sm.valid {F B:Int} {p:Per} (h:Sm F B p) (hb:F+B≤1048576):Valid p:=by
 have h0:=h.wf.frm
 have h1:=h.wf.per
 have h2:=h.frm
 have h5:=h.per
 have h3:=h.wf.head.length_le h0
 have h4:=h.wf.cyc.length_le (show (0:Int)≤p.period by omega)
 exact ⟨h.wf,by omega,by omega,by omega⟩
theorem Sm.pf {F B:Int} {p:Per} (h:Sm F B p):PFrom p.mem F p.period:=h.wf.pfrom.mono h.frm
theorem exists_per {S:Int→Prop} {f d:Int} (hf:0≤f) (hd:1≤d) (hS0:∀ n,S n→0≤n) (hp:PFrom S f d):∃ p:Per,p.WF∧p.frm=f∧p.period=d∧∀ n,p.mem n↔S n:=by
 have h:=per_of_list (S:=S) (f:=f) (d:=d) (hl:=sel S 0 f) (cl:=sel (fun n=>S (f+n)) 0 d) hf hd hS0 hp (sel_rise (Int.le_refl _)) (sel_rise (Int.le_refl _))
  (fun n h1 h2=>by rw [sel_mem (Int.le_refl _)];exact ⟨fun h=>h.2.2,fun h=>⟨h1,h2,h⟩⟩) (fun n h1 h2=>by rw [sel_mem (Int.le_refl _)];exact ⟨fun h=>h.2.2,fun h=>⟨h1,h2,h⟩⟩)
 exact ⟨_,h.1,rfl,rfl,h.2⟩
theorem canon_sm {S:Int→Prop} {f d:Int} (hf:0≤f) (hd:1≤d) (hS0:∀ n,S n→0≤n) (hp:PFrom S f d):∃ q,IsCanon q S∧Sm f d q:=by
 obtain ⟨p,hw,h1,h2,hm⟩:=exists_per hf hd hS0 hp
 obtain ⟨q,hq⟩:=exists_canon hw
 have hq':IsCanon q S:=hq.congr hm
 exact ⟨q,hq',hq'.wf,hq'.frm_le hf hd hp,hq'.minp d hd hp.ev⟩
theorem Sm.canon {F B:Int} {p:Per} (h:Sm F B p):∃ q,IsCanon q p.mem∧Sm F B q:=by
 obtain ⟨q,hq,hs⟩:=canon_sm (S:=p.mem) h.wf.frm h.wf.per (fun n hn=>hn.1) h.wf.pfrom
 exact ⟨q,hq,hs.mono h.frm h.per⟩
theorem canon_of_sm {F B:Int} {p q:Per} (h:Sm F B p) (hq:IsCanon q p.mem):Sm F B q:=by
 obtain ⟨q',hq',hs⟩:=h.canon
 rw [hq.unique hq'];exact hs
theorem small_op {F A B:Int} {p1 p2:Per} (s1:Sm F A p1) (s2:Sm F B p2) {U:Int→Prop} (g:Prop→Prop→Prop) (hU:∀ n,U n↔g (p1.mem n) (p2.mem n)) (h0:∀ n,U n→0≤n):∃ q,IsCanon q U∧Sm F (A*B) q:=by
 have a1:=s1.wf.per
 have b1:=s2.wf.per
 have hF:0≤F:=by have:=s1.wf.frm;have:=s1.frm;omega
 have hl:=lcmI_pos a1 b1
 have hp:PFrom U F (lcmI p1.period p2.period):=(s1.pf.of_dvd a1 hl lcmI_dvd_left).op (s2.pf.of_dvd b1 hl lcmI_dvd_right) g (fun n _=>hU n) (by omega)
 obtain ⟨q,hq,hs⟩:=canon_sm hF hl h0 hp
 exact ⟨q,hq,hs.mono (Int.le_refl _) (lcm_le a1 b1 s1.per s2.per)⟩
theorem and_ex {F A B:Int} {p1 p2:Per} (s1:Sm F A p1) (s2:Sm F B p2):∃ q,IsCanon q (fun n=>p1.mem n∧p2.mem n)∧Sm F (A*B) q:=small_op s1 s2 And (fun _=>Iff.rfl) (fun _ h=>h.1.1)
theorem or_ex {F A B:Int} {p1 p2:Per} (s1:Sm F A p1) (s2:Sm F B p2):∃ q,IsCanon q (fun n=>p1.mem n∨p2.mem n)∧Sm F (A*B) q:=small_op s1 s2 Or (fun _=>Iff.rfl) (fun _ h=>h.elim (fun h=>h.1) (fun h=>h.1))
theorem minus_ex {F A B:Int} {p1 p2:Per} (s1:Sm F A p1) (s2:Sm F B p2):∃ q,IsCanon q (fun n=>p1.mem n∧¬ p2.mem n)∧Sm F (A*B) q:=small_op s1 s2 (fun a b=>a∧¬ b) (fun _=>Iff.rfl) (fun _ h=>h.1.1)
theorem cnt_sm {S:Int→Prop} {F A B:Int} {qa qb:Per} (s1:Sm F A qa) (s2:Sm F B qb) (hb:F+A*B≤1048576):cnt S (max qa.frm qb.frm+lcmI qa.period qb.period).toNat≤1048576:=by
 have h1:=cnt_bound S (max qa.frm qb.frm+lcmI qa.period qb.period).toNat
 have h2:=lcm_le s1.wf.per s2.wf.per s1.per s2.per
 have:=s1.frm;have:=s2.frm
 omega
theorem mul_ge {A B:Int} (ha:1≤A) (hb:1≤B):A≤A*B∧B≤A*B:=by
 have h1:A*1≤A*B:=Int.mul_le_mul_of_nonneg_left hb (by omega)
 have h2:1*B≤A*B:=Int.mul_le_mul_of_nonneg_right ha (by omega)
 omega
theorem And_sm (h1 c1 h2 c2:Value) (p1 p2 q:Per) (F A B:Int) (w:World) (hp1:PerIs w h1 c1 p1) (hp2:PerIs w h2 c2 p2) (s1:Sm F A p1) (s2:Sm F B p2) (hb:F+A*B≤1048576) (hq:IsCanon q (fun n=>p1.mem n∧p2.mem n)) :
  Calls Tryz.prog 24 #[perV h1 c1 p1.frm p1.period,perV h2 c2 p2.frm p2.period] w (PerOk q w):=by
 obtain ⟨qa,hqa,ta⟩:=s1.canon
 obtain ⟨qb,hqb,tb⟩:=s2.canon
 have a0:=s1.wf.per
 have b0:=s2.wf.per
 have a1:=s1.per
 have b1:=s2.per
 have a3:=ta.per
 have b3:=tb.per
 have hm:=mul_ge (show 1≤A by omega) (show 1≤B by omega)
 have hl:=lcm_le ta.wf.per tb.wf.per ta.per tb.per
 have hF:0≤F:=by have:=s1.wf.frm;have:=s1.frm;omega
 exact And_ok h1 c1 h2 c2 p1 p2 qa qb q w hp1 hp2 (s1.valid (by omega)) (s2.valid (by omega)) hqa hqb (by omega) (by omega) (by omega) hq (cnt_sm ta tb hb)
theorem Or_sm (h1 c1 h2 c2:Value) (p1 p2 q:Per) (F A B:Int) (w:World) (hp1:PerIs w h1 c1 p1) (hp2:PerIs w h2 c2 p2) (s1:Sm F A p1) (s2:Sm F B p2) (hb:F+A*B≤1048576) (hq:IsCanon q (fun n=>p1.mem n∨p2.mem n)) :
  Calls Tryz.prog 26 #[perV h1 c1 p1.frm p1.period,perV h2 c2 p2.frm p2.period] w (PerOk q w):=by
 obtain ⟨qa,hqa,ta⟩:=s1.canon
 obtain ⟨qb,hqb,tb⟩:=s2.canon
 have a0:=s1.wf.per
 have b0:=s2.wf.per
 have a1:=s1.per
 have b1:=s2.per
 have a3:=ta.per
 have b3:=tb.per
 have hm:=mul_ge (show 1≤A by omega) (show 1≤B by omega)
 have hl:=lcm_le ta.wf.per tb.wf.per ta.per tb.per
 have hF:0≤F:=by have:=s1.wf.frm;have:=s1.frm;omega
 exact Or_ok h1 c1 h2 c2 p1 p2 qa qb q w hp1 hp2 (s1.valid (by omega)) (s2.valid (by omega)) hqa hqb (by omega) hq (cnt_sm ta tb hb)
theorem Minus_sm (h1 c1 h2 c2:Value) (p1 p2 q:Per) (F A B:Int) (w:World) (hp1:PerIs w h1 c1 p1) (hp2:PerIs w h2 c2 p2) (s1:Sm F A p1) (s2:Sm F B p2) (hb:F+A*B≤1048576) (hq:IsCanon q (fun n=>p1.mem n∧¬ p2.mem n)) :
  Calls Tryz.prog 28 #[perV h1 c1 p1.frm p1.period,perV h2 c2 p2.frm p2.period] w (PerOk q w):=by
 obtain ⟨qa,hqa,ta⟩:=s1.canon
 obtain ⟨qb,hqb,tb⟩:=s2.canon
 have a0:=s1.wf.per
 have b0:=s2.wf.per
 have a1:=s1.per
 have b1:=s2.per
 have a3:=ta.per
 have b3:=tb.per
 have hm:=mul_ge (show 1≤A by omega) (show 1≤B by omega)
 have hl:=lcm_le ta.wf.per tb.wf.per ta.per tb.per
 have hF:0≤F:=by have:=s1.wf.frm;have:=s1.frm;omega
 exact Minus_ok h1 c1 h2 c2 p1 p2 qa qb q w hp1 hp2 (s1.valid (by omega)) (s2.valid (by omega)) hqa hqb (by omega) hq (cnt_sm ta tb hb)
theorem Sets.tl {W:World} {L:List (Nat × Per)} {x:Nat × Per} (h:Sets W (x :: L)):Sets W L:=fun y hy=>h y (List.mem_cons_of_mem _ hy)
end Go.Proofs.YtjilkhhokkncoaaGreat
