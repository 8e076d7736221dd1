/- Part 10 of what the claims of this seat rest on. -/
import Derived.Test.YthjnojbeimchdaaGreatN4
import Derived.Test.YthjnojbeimchdaaGreatN7
import Derived.Test.YthjnojbeimchdaaGreatN9
import Derived.Test.YthjnojbeimchdaaGreatRows
import Derived.WalkKit
import Derived.ProofKit
import Derived.OpenShut
import Derived.ShutString
import Derived.ChangeOld
import Derived.Below
import Derived.Lib.SmallJoins
import Derived.Deep.Slices
set_option linter.unusedVariables false
set_option linter.unusedSimpArgs false
namespace Go.Proofs.YthjnojbeimchdaaGreat
open Go.RowKit Go.Maps Kal
set_option maxHeartbeats 1000000 in
theorem at_any (v:Value) (l:List Int) (i:Nat) (k:Int) (hk:k=i) (w:World) (h:Bytes w v l) (hi:i≤100) :
  Calls Tryz.prog 56 #[v,.int .i64 k] w fun e w'=>e=.returned (.int .i64 (l.getD i 0))∧Below w.heap.size w w':=by
 subst hk
 obtain ⟨⟨a1,c1,rfl,h3⟩,g2,g3⟩:=h
 by_cases hl:i<l.length
 ·rcases h3 with h3|⟨b,o,rfl,hc⟩
  ·rw [h3] at hl;simp at hl
  have hci:=hc i hl
  have hr:=g3 _ (getD_mem' (d:=0) hl)
  have hiI:(i:Int)<l.length:=by omega
  generalize l.getD i 0=x at *
  clear hc g3
  go_enter Tryz.func56,Tryz.ntmps56
  go_wp2_with fail
  go_ret
  exact ⟨rfl,xE⟩
 ·have hx:l.getD i 0=0:=by rw [List.getD_eq_getElem?_getD,List.getElem?_eq_none (by omega)];rfl
  have hiI:¬ (i:Int)<l.length:=by omega
  rw [hx]
  clear h3 g3
  go_enter Tryz.func56,Tryz.ntmps56
  go_wp2_with fail
  go_ret
  exact ⟨rfl,xE⟩
theorem Bytes.rng0 {w:World} {v:Value} {l:List Int} (h:Bytes w v l) (i:Nat):0≤l.getD i 0∧l.getD i 0≤255:=by
 by_cases hl:i<l.length
 ·exact h.rng _ (getD_mem' (d:=0) hl)
 ·rw [List.getD_eq_getElem?_getD,List.getElem?_eq_none (by omega)];decide
theorem OwnI.kept_far {w w':World} {base B:Nat} {v:Value} {l:List Int} {row:Option Nat} (h:OwnI w base v l) (hg:w.grownBy w' row) (h1:∀ q,v.ownBlock=some q→q<B) (h2:∀ q,row=some q→B≤q):OwnI w' base v l:=h.kept hg (by
 by_cases hn:v.ownBlock=none
 ·exact .inl hn
 ·refine .inr fun e=>?_
  obtain ⟨q,hq⟩:=Option.ne_none_iff_exists'.1 hn
  have:=h1 q hq
  have:=h2 q (e.symm.trans hq)
  omega)
set_option maxRecDepth 100000 in
set_option maxHeartbeats 2000000 in
theorem MadeFactor_any (v:Value) (l:List Int) (w:World) (h1:Bytes w v l) :
  Calls Tryz.prog 55 #[v] w fun e w'=>∃ (h c:Value) (p:Per),e=.returned (perV h c p.frm p.period)∧POx w' w.heap.size h c p∧p.WF∧p.frm≤8∧p.period≤12∧Below w.heap.size w w':=by
 have HAT:=fun W (i:Nat) (k:Int) (hk:k=i) (hi:i≤100) (hb:Below w.heap.size w W)=>at_any v l i k hk W (h1.ext hb) hi
 have r0:=h1.rng0 0
 have r1:=h1.rng0 1
 have r2:=h1.rng0 2
 have r3:=h1.rng0 3
 have r4:=h1.rng0 4
 obtain ⟨⟨a1,c1,rfl,_⟩,g2,_⟩:=h1
 have HA0:=fun W hb=>HAT W 0 0 rfl (by omega) hb
 have HA1:=fun W hb=>HAT W 1 1 rfl (by omega) hb
 have HA2:=fun W hb=>HAT W 2 2 rfl (by omega) hb
 have HA3:=fun W hb=>HAT W 3 3 rfl (by omega) hb
 have HA4:=fun W hb=>HAT W 4 4 rfl (by omega) hb
 generalize l.getD 0 0=x0 at *
 generalize l.getD 1 0=x1 at *
 generalize l.getD 2 0=x2 at *
 generalize l.getD 3 0=x3 at *
 generalize l.getD 4 0=x4 at *
 clear HAT
 have hA0:=Int.emod_nonneg x1 (show (9:Int)≠0 by omega)
 have hA1:=Int.emod_lt_of_pos x1 (show (0:Int)<9 by omega)
 have hT0:=Int.emod_nonneg x0 (show (12:Int)≠0 by omega)
 have hT1:=Int.emod_lt_of_pos x0 (show (0:Int)<12 by omega)
 go_enter Tryz.func55,Tryz.ntmps55
 go_wp2_with (go_at_call 56;first
  | ((with_reducible refine (HA1 _ xE).mono ?_);rintro e w1 ⟨rfl,hb1⟩;have hW1:Below w.heap.size w w1:=by exact xE)
  | ((with_reducible refine (HA0 _ xE).mono ?_);rintro e w2 ⟨rfl,hb2⟩;have hW2:Below w.heap.size w w2:=by exact xE)
  | ((with_reducible refine (HA2 _ xE).mono ?_);rintro e w3 ⟨rfl,hb3⟩;have hW3:Below w.heap.size w w3:=by exact xE)
  | ((with_reducible refine (HA3 _ xE).mono ?_);rintro e w4 ⟨rfl,hb4⟩;have hW4:Below w.heap.size w w4:=by exact xE))
 obtain ⟨b3,hb3e⟩:∃ b3,b3=w2.heap.size:=⟨_,rfl⟩
 rw [← hb3e]
 have hz2:=hb2.size
 have hz3:=hb3.size
 have hz4:=hb4.size
 simp only [World.size_alloc] at hz2 hz3 hz4
 have hz1:=hb1.size
 simp only [World.size_alloc] at hz1
 have hbx:Bxx w4 b3 #[.slice none 0 0,.int .i64 (x1 % 9),.int .i64 (1+x0 % 12),.slice none 0 0] 39:=((Bxx.at hb3e).below hb3).below hb4
 have hrb:Bxx w4 w.heap.size #[.slice none 0 0,.int .i64 0,.int .i64 0,.slice none 0 0] 39:=((((Bxx.at (w:=w) rfl).below hb1).below hb2 |>.alloc _).below hb3).below hb4
 have hb3l:w.heap.size<b3:=by omega
 have hb3z:b3<w4.heap.size:=by omega
 generalize x1 % 9=A at *
 generalize x0 % 12=T0 at *
 obtain ⟨N,hN⟩:∃ N:Nat,A=N:=⟨A.toNat,by omega⟩
 subst hN
 obtain ⟨T,hT⟩:∃ T:Nat,1+T0=T:=⟨(1+T0).toNat,by omega⟩
 rw [hT] at hbx ⊢
 have hTl:1≤T∧T≤12:=by omega
 have hx23:0≤x2+256*x3∧x2+256*x3≤65535:=by omega
 generalize x2+256*x3=bits at *
 clear hT HA0 HA1 HA2 HA3 hb1 hb2 hb3 hb4 hW1 hW2 hW3 hb3e hz1 hz2 hz3 hz4
 have HW4:=Lib.hid hW4
 clear hW4
 go_loopw [5] (fun kv wr=>∃ (k:Nat) (cl:List Int) (a:Option Addr) (c:Nat),k≤T∧kv=.int .i64 k∧Hid (Rise 0 k cl)∧Hid (OwnI wr w4.heap.size (.slice a cl.length c) cl)∧Hid (Bxx wr b3 #[.slice none 0 0,.int .i64 N,.int .i64 T,.slice a cl.length c] 39)∧Hid (Bxx wr w.heap.size #[.slice none 0 0,.int .i64 0,.int .i64 0,.slice none 0 0] 39)∧Hid (Below w.heap.size w wr)∧w4.heap.size≤wr.heap.size) (fun kv _=>T-(intOf kv).toNat)
 case atStart=>exact ⟨0,[],none,0,by omega,rfl,Lib.hid Rise.nil,Lib.hid (OwnI.nil _ _),Lib.hid hbx,Lib.hid hrb,HW4,Nat.le_refl _⟩
 case round=>
  obtain ⟨k,cl,a,c,hk,rfl,HR,HO,HBX,HRB,HB,hz⟩:=hrel
  obtain ⟨wo,hwo⟩:∃ wo,wo=wr:=⟨_,rfl⟩
  subst hwo
  have m0:=(HBX.out.cells 2).1
  have m1:=(HBX.out.cells 3).1
  have hlen:cl.length≤12:=by have:=HR.out.length_le (by omega);omega
  by_cases hlt:k<T
  ·have hkI:(k:Int)<T:=by omega
   go_wp2_with (at_builtin;go_loud (refine append_list (by rfl) _ _ (by rfl) w4.heap.size (.slice a cl.length c) cl k (by rfl) (HO.out.ext (Ea (Er _) _)) _ _ (by rfl) (by simp) ⟨by omega,by omega⟩ (by omega) (by simp;omega) ?_;intro g cap w5 hown5 hgrow5 hbel5;have hbx5:=(HBX.out.alloc (.cells #[.int .i64 k] 3)).grown hgrow5 (fun e=>by have h7:=(HO.out.lt _ e.symm).1;omega);have hrb5:=(HRB.out.alloc (.cells #[.int .i64 k] 3)).grown hgrow5 (fun e=>by have h7:=(HO.out.lt _ e.symm).1;omega);have g0:=hbx5.cells 3;have hz5:=hgrow5.size;rw [World.size_alloc] at hz5;have HO5:=Lib.hid hown5;have HBX5:=Lib.hid hbx5;have HRB5:=Lib.hid hrb5;have HBE:=Lib.hid hbel5;clear hown5 hbx5 hrb5 hgrow5 hbel5))
   ·go_roundw
    case rel=>
     have e:(cl ++ [(k:Int)]).length=cl.length+1:=by simp
     refine ⟨k+1,cl ++ [(k:Int)],some ⟨g,0,none⟩,cap,by omega,by go_num,Lib.hid ⟨List.pairwise_append.2 ⟨HR.out.1,by simp,fun x hx y hy=>?_⟩,fun x hx=>?_⟩,Lib.hid ?_,Lib.hid ?_,Lib.hid ?_,Lib.hid ?_,?_⟩
     ·have h7:=HR.out.2 x hx
      simp at hy
      omega
     ·rcases List.mem_append.1 hx with h7|h7
      ·have:=HR.out.2 x h7;omega
      ·simp at h7;omega
     ·rw [e]
      exact HO5.out.kept_lt (fun q hq=>⟨Below.heap_setCell _ _ _ q (by have:=(HO5.out.lt q hq).1;show q≠b3;omega),by simp⟩)
     ·rw [e];exact heap_set_at 3 _ HBX5.out
     ·exact HRB5.out.setNe _ (by omega)
     ·exact ((HB.out.trans (((Ea (Er wo) _).mono HB.out.size))).trans (HBE.out.mono (by omega))).setCell (p:=⟨b3,3,none⟩) (by show w.heap.size≤b3;omega) _
     ·simp;omega
    case measure=>simp [intOf];omega
   ·go_roundw
    case rel=>exact ⟨k+1,cl,a,c,by omega,by go_num,Lib.hid ⟨HR.out.1,fun x hx=>by have:=HR.out.2 x hx;omega⟩,HO,HBX,HRB,HB,hz⟩
    case measure=>simp [intOf];omega
  ·obtain rfl:k=T:=by omega
   obtain ⟨W1,hW1⟩:∃ W1,W1=wo:=⟨_,rfl⟩
   have hcl:=HO.out.lt
   have HCO:Hid (OwnI wo w4.heap.size (.slice a cl.length c) cl):=HO
   clear m1
   go_wp2_with fail
   clear m0
   go_loopw [6] (fun kv wr=>∃ (j:Nat) (hl:List Int) (a':Option Addr) (c':Nat),j≤N∧kv=.int .i64 j∧Hid (Rise 0 j hl)∧Hid (OwnI wr wo.heap.size (.slice a' hl.length c') hl)∧Hid (OwnI wr w4.heap.size (.slice a cl.length c) cl)∧Hid (Bxx wr b3 #[.slice a' hl.length c',.int .i64 N,.int .i64 k,.slice a cl.length c] 39)∧Hid (Bxx wr w.heap.size #[.slice none 0 0,.int .i64 0,.int .i64 0,.slice none 0 0] 39)∧Hid (Below w.heap.size w wr)∧wo.heap.size≤wr.heap.size) (fun kv _=>N-(intOf kv).toNat)
   case atStart=>exact ⟨0,[],none,0,by omega,rfl,Lib.hid Rise.nil,Lib.hid (OwnI.nil _ _),HO,HBX,HRB,HB,Nat.le_refl _⟩
   case round=>
    obtain ⟨j,hl,a',c',hj,rfl,HR2,HO2,HCO2,HBX2,HRB2,HB2,hz2⟩:=hrel
    obtain ⟨w7,hw7⟩:∃ w7,w7=wr:=⟨_,rfl⟩
    subst hw7
    have m0:=(HBX2.out.cells 1).1
    have hlen2:hl.length≤12:=by have:=HR2.out.length_le (by omega);omega
    by_cases hlt2:j<N
    ·have hjI:(j:Int)<N:=by omega
     go_wp2_with (first|(go_at_call 56;(with_reducible refine (HA4 _ HB2.out).mono ?_);rintro e w8 ⟨rfl,hb8⟩;have hbx8:=HBX2.out.below hb8;have g1:=hbx8.cells 0;have hz8:=hb8.size;have HBX8:=Lib.hid hbx8;have HB8:=Lib.hid hb8;clear hbx8 hb8)|(at_builtin;go_loud (refine append_list (by rfl) _ _ (by rfl) wo.heap.size (.slice a' hl.length c') hl j (by rfl) ((HO2.out.ext HB8.out).ext (Ea (Er _) _)) _ _ (by rfl) (by simp) ⟨by omega,by omega⟩ (by omega) (by simp;omega) ?_;intro g cap w5 hown5 hgrow5 hbel5;have hne:∀ q,(Value.slice a' hl.length c').ownBlock=some q→wo.heap.size≤q:=fun q e=>(HO2.out.lt _ e).1;have hbx5:=(HBX8.out.alloc (.cells #[.int .i64 j] 3)).grown hgrow5 (fun e=>by have h7:=hne _ e.symm;omega);have hrb5:=((HRB2.out.below HB8.out).alloc (.cells #[.int .i64 j] 3)).grown hgrow5 (fun e=>by have h7:=hne _ e.symm;omega);have hco5:=((HCO2.out.ext HB8.out).ext (Ea (Er _) (.cells #[.int .i64 j] 3))).kept_far hgrow5 (fun q hq=>(hcl q hq).2) hne;have g0:=hbx5.cells 0;have hz5:=hgrow5.size;rw [World.size_alloc] at hz5;have HO5:=Lib.hid hown5;have HCO5:=Lib.hid hco5;have HBX5:=Lib.hid hbx5;have HRB5:=Lib.hid hrb5;have HBE:=Lib.hid hbel5;clear hown5 hbx5 hrb5 hgrow5 hbel5 hco5)))
     ·go_roundw
      case rel=>
       have e:(hl ++ [(j:Int)]).length=hl.length+1:=by simp
       refine ⟨j+1,hl ++ [(j:Int)],some ⟨g,0,none⟩,cap,by omega,by go_num,Lib.hid ⟨List.pairwise_append.2 ⟨HR2.out.1,by simp,fun x hx y hy=>?_⟩,fun x hx=>?_⟩,Lib.hid ?_,Lib.hid ?_,Lib.hid ?_,Lib.hid ?_,Lib.hid ?_,?_⟩
       ·have h7:=HR2.out.2 x hx
        simp at hy
        omega
       ·rcases List.mem_append.1 hx with h7|h7
        ·have:=HR2.out.2 x h7;omega
        ·simp at h7;omega
       ·rw [e]
        exact HO5.out.kept_lt (fun q hq=>⟨Below.heap_setCell _ _ _ q (by have:=(HO5.out.lt q hq).1;show q≠b3;omega),by simp⟩)
       ·exact HCO5.out.kept_lt (fun q hq=>⟨Below.heap_setCell _ _ _ q (by have:=(HCO5.out.lt q hq).1;show q≠b3;omega),by simp⟩)
       ·rw [e];exact heap_set_at 0 _ HBX5.out
       ·exact HRB5.out.setNe _ (by omega)
       ·exact (((HB2.out.trans (HB8.out.mono HB2.out.size)).trans (((Ea (Er w8) _).mono (by have:=HB2.out.size;omega)))).trans (HBE.out.mono (by omega))).setCell (p:=⟨b3,0,none⟩) (by show w.heap.size≤b3;omega) _
       ·simp;omega
      case measure=>simp [intOf];omega
     ·go_roundw
      case rel=>exact ⟨j+1,hl,a',c',by omega,by go_num,Lib.hid ⟨HR2.out.1,fun x hx=>by have:=HR2.out.2 x hx;omega⟩,Lib.hid (HO2.out.ext HB8.out),Lib.hid (HCO2.out.ext HB8.out),HBX8,Lib.hid (HRB2.out.below HB8.out),Lib.hid (HB2.out.trans (HB8.out.mono HB2.out.size)),by omega⟩
      case measure=>simp [intOf];omega
    ·obtain rfl:j=N:=by omega
     have g0:=HBX2.out.cells 0
     have g1:=HBX2.out.cells 1
     have g2:=HBX2.out.cells 2
     have g3:=HBX2.out.cells 3
     have q0:=HRB2.out.cells 0
     have q1:=HRB2.out.cells 1
     have q2:=HRB2.out.cells 2
     have q3:=HRB2.out.cells 3
     go_wp2_with fail
     exact bodyPost_ret (v:=perV (.slice a' hl.length c') (.slice a cl.length c) j k) (by simp [results,Tryz.results55,go_sem, *]) rfl ⟨_,_,⟨hl,j,k,cl⟩,rfl,⟨(HO2.out.above (by (repeat' (with_reducible first|exact Above.refl _ _|refine Above.alloc ?_ _|refine Above.drew ?_|refine Above.drewN ?_ _|refine Above.setCell ?_ (by first|(simp;done)|(simp;omega)|omega) _)))).mono (by omega),(HCO2.out.above (by (repeat' (with_reducible first|exact Above.refl _ _|refine Above.alloc ?_ _|refine Above.drew ?_|refine Above.drewN ?_ _|refine Above.setCell ?_ (by first|(simp;done)|(simp;omega)|omega) _)))).mono (by omega)⟩,⟨by show (0:Int)≤j;omega,by show (1:Int)≤k;omega,HR2.out,HR.out⟩,by show (j:Int)≤8;omega,by show (k:Int)≤12;omega,by have:=HB2.out;exact xE⟩
end Go.Proofs.YthjnojbeimchdaaGreat
namespace Go.Proofs.YthjnojbeimchdaaGreat
open Go.RowKit Go.Maps Kal
structure ByteRows (w:World) (v:Value) (n:Nat):Prop where
 is:∃ a c,v=.slice a n c∧(n=0∨∃ b o,a=some ⟨b,o,none⟩∧∀ i,i<n→∃ (u:Value) (l:List Int),w.cell? ⟨b,o+i,none⟩=some u∧Bytes w u l)
 len:n≤9223372036854775807
theorem ByteRows.ext {w W:World} {v:Value} {n:Nat} (h:ByteRows w v n) (hb:Below w.heap.size w W):ByteRows W v n:=by
 obtain ⟨⟨a,c,rfl,h1⟩,h2⟩:=h
 refine ⟨⟨a,c,rfl,h1.imp id ?_⟩,h2⟩
 rintro ⟨b,o,rfl,hc⟩
 exact ⟨b,o,rfl,fun i hi=>by obtain ⟨u,l,h3,h4⟩:=hc i hi;exact ⟨u,l,Ext.cell hb h3,h4.ext hb⟩⟩
structure MFac (p:Per):Prop where
 wf:p.WF
 frm:p.frm≤8
 per:p.period≤12
theorem MFac.dvd {p:Per} (h:MFac p):p.period∣27720:=by
 have h1:=h.wf.per
 have h2:=h.per
 obtain ⟨k,hk⟩:∃ k:Nat,p.period=k:=⟨p.period.toNat,by omega⟩
 rw [hk] at h1 h2 ⊢
 have:∀ k:Nat,k≤12→1≤k→k∣27720:=by decide
 exact Int.natCast_dvd_natCast.2 (this k (by omega) (by omega))
theorem MFac.fv {p:Per} (h:MFac p):FV 0 p:=⟨⟨h.wf,fun n hn=>hn.1,by have:=h.frm;omega,h.dvd⟩,by have:=h.frm;omega⟩
structure MadeM (m:List (List Per)):Prop where
 len:m.length≤3
 ne:∀ t∈m,t≠[]
 tlen:∀ t∈m,t.length≤3
 fac:∀ t∈m,∀ p∈t,MFac p
theorem MadeM.vt {m:List (List Per)} (h:MadeM m):∀ t∈m,VTerm 0 t:=fun t ht=>⟨h.ne t ht,fun p hp=>(h.fac t ht p hp).fv,by have:=h.tlen t ht;omega⟩
abbrev MdA (B:Nat) (k:Nat):Prop:=k=B∨k=B+1
structure MdL (B:Nat) (v:Value) (L0:List (Value × List Per)) (g cap:Nat) (M:List PV) (W:World):Prop where
 own:W.ownsRow B 39 4 (.slice (some ⟨g,0,none⟩) M.length cap) M.length (M.flatMap PV.enc)
 all:∀ x∈L0,TermR W (fun b=>RowF B (MdA B) v b∧b≠g) x.1 x.2
 pvs:∀ x∈M,PVok W (fun b=>RowF B (MdA B) v b∧b≠g) x
 g:RowF B (MdA B) v g
 len:1≤M.length
structure MdS (B:Nat) (w:World) (v:Value) (L:List (Value × List Per)) (W:World):Prop where
 below:Below B w W
 rbx:Bxx W B #[.slice none 0 0] 28
 obx:Bxx W (B+1) #[v] 28
 row:RowT B (MdA B) W v L
 md:MadeM (L.map Prod.snd)
 last:L=[]∨∃ L0 g cap M,L=L0 ++ [(.slice (some ⟨g,0,none⟩) M.length cap,M.map PV.p)]∧MdL B v L0 g cap M W
theorem MdL.ext {B:Nat} {v:Value} {L0:List (Value × List Per)} {g cap:Nat} {M:List PV} {W W':World} (h:MdL B v L0 g cap M W) (hb:Below W.heap.size W W'):MdL B v L0 g cap M W':=
 ⟨h.own.kept (row:=none) (World.grownBy.of_below hb _) (by right;simp [Value.ownBlock]),fun x hx=>(h.all x hx).ext hb,fun x hx=>(h.pvs x hx).keep (KeepF.below hb),h.g,h.len⟩
theorem MdS.ext {B:Nat} {w:World} {v:Value} {L:List (Value × List Per)} {W W':World} (h:MdS B w v L W) (hB:B≤w.heap.size) (hb:Below W.heap.size W W'):MdS B w v L W':=
 ⟨h.below.trans (hb.mono (Nat.le_trans hB h.below.size)),h.rbx.below hb,h.obx.below hb,h.row.below hb,h.md,h.last.imp id fun ⟨L0,g,cap,M,e,hl⟩=>⟨L0,g,cap,M,e,hl.ext hb⟩⟩
theorem own_term {W:World} {B g n cap:Nat} {L:List PV} {F:Nat→Prop} (h:W.ownsRow B 39 4 (.slice (some ⟨g,0,none⟩) n cap) n (L.flatMap PV.enc)) (hn:L.length=n) (h1:1≤n) (hl:n≤1000) (hF:F g) (ha:∀ x∈L,PVok W F x):TermR W F (.slice (some ⟨g,0,none⟩) n cap) (L.map PV.p):=by
 subst hn
 have h2:L.length≤cap∧cap≤9223372036854775807:=by
  rcases h.2 with ⟨h',_⟩|⟨_,_,_,h',_,_,h3,h4,_⟩
  ·cases h'
  ·cases h';exact ⟨h3,h4⟩
 refine ⟨L,rfl,⟨_,_,rfl,h2.1,h2.2,.inr ⟨g,0,rfl,hF,(h.lt g rfl).2,fun i u hi=>?_⟩⟩,by omega,ha⟩
 rw [Nat.zero_add]
 have:=(List.getElem?_eq_some_iff.1 hi).1
 rw [flat_len] at this
 exact (h.cellAt i this).trans hi
theorem cells_set_by {W W':World} {b:Nat} {u:Value} {t:TypeId} {v:Value} (h:Bxx W b #[u] t) (e:W'.heap[b]? = W.heap[b]?):Bxx (W'.setCell ⟨b,0,none⟩ v) b #[v] t:=heap_set_at 0 v (e.trans h)
theorem new_term {w wo W2:World} {a:Option Addr} {c:Nat} {L:List (Value × List Per)} {x:PV} {k:Nat} (hk:W2.heap.size=k) (hS:MdS w.heap.size w (.slice a L.length c) L wo) (hb2:Below wo.heap.size wo W2) (hpv:PVok W2 (fun b=>wo.heap.size≤b∧b<W2.heap.size) x) :
  TermR ((W2.alloc (.cells #[x.h,.int .i64 x.p.frm,.int .i64 x.p.period,x.c] 39)).alloc (.cells #[.slice (some ⟨k,0,none⟩) 1 1] 36)) (RowF w.heap.size (MdA w.heap.size) (.slice a L.length c)) (.slice (some ⟨k,0,none⟩) 1 1) [x.p]:=by
 subst hk
 have hbz:=hS.obx.lt
 have hz2:=hb2.size
 have hvb:∀ q,(Value.slice a L.length c).ownBlock=some q→q<wo.heap.size:=fun q e=>(hS.row.row.lt q e).2
 have hown:=(World.ownsRow_lit (base:=w.heap.size) (e:=39) (size:=4) W2 #[x.h,.int .i64 x.p.frm,.int .i64 x.p.period,x.c] 1 (by omega) (by unfold maxLen;omega) rfl).alloc (.cells #[.slice (some ⟨W2.heap.size,0,none⟩) 1 1] 36)
 refine own_term (L:=[x]) hown rfl (Nat.le_refl _) (by omega) ⟨by omega,?_,fun e=>by have:=hvb _ e;omega⟩ fun y hy=>?_
 ·rintro (h|h) <;> omega
 ·rw [List.mem_singleton] at hy;subst hy
  refine (hpv.keep (KeepF.below (Ea (Ea (Er _) _) _))).mono fun b hb=>⟨by omega,?_,fun e=>by have:=hvb _ e;omega⟩
  rintro (h|h) <;> omega
theorem MdS.new {w wo W2 w8:World} {a:Option Addr} {c:Nat} {L:List (Value × List Per)} {ga:Option Addr} {gc:Nat} {x:PV} {k:Nat} (hk:W2.heap.size=k) (hS:MdS w.heap.size w (.slice a L.length c) L wo) (hb2:Below wo.heap.size wo W2)
  (hpv:PVok W2 (fun b=>wo.heap.size≤b∧b<W2.heap.size) x) (hmf:MFac x.p) (hl:L.length<3)
  (hr8:RowT w.heap.size (MdA w.heap.size) w8 (.slice ga (L.length+1) gc) (L ++ [(.slice (some ⟨k,0,none⟩) 1 1,[x.p])]))
  (hg8:((W2.alloc (.cells #[x.h,.int .i64 x.p.frm,.int .i64 x.p.period,x.c] 39)).alloc (.cells #[.slice (some ⟨k,0,none⟩) 1 1] 36)).grownBy w8 (Value.slice a L.length c).ownBlock)
  (hb8:Below w.heap.size ((W2.alloc (.cells #[x.h,.int .i64 x.p.frm,.int .i64 x.p.period,x.c] 39)).alloc (.cells #[.slice (some ⟨k,0,none⟩) 1 1] 36)) w8)
  (hloc:(Value.slice ga (L.length+1) gc).ownBlock=(Value.slice a L.length c).ownBlock∨(Value.slice ga (L.length+1) gc).ownBlock=some (k+2)) :
  MdS w.heap.size w (.slice ga (L.length+1) gc) (L ++ [(.slice (some ⟨k,0,none⟩) 1 1,[x.p])]) (w8.setCell ⟨w.heap.size+1,0,none⟩ (.slice ga (L.length+1) gc)):=by
 subst hk
 have hbz:=hS.obx.lt
 have hz2:=hb2.size
 have hvb:∀ q,(Value.slice a L.length c).ownBlock=some q→q<wo.heap.size:=fun q e=>(hS.row.row.lt q e).2
 have hvn:=hS.row.ne
 have hown0:=World.ownsRow_lit (base:=w.heap.size) (e:=39) (size:=4) W2 #[x.h,.int .i64 x.p.frm,.int .i64 x.p.period,x.c] 1 (by omega) (by unfold maxLen;omega) rfl
 have hal:Below W2.heap.size W2 ((W2.alloc (.cells #[x.h,.int .i64 x.p.frm,.int .i64 x.p.period,x.c] 39)).alloc (.cells #[.slice (some ⟨W2.heap.size,0,none⟩) 1 1] 36)):=Ea (Ea (Er _) _) _
 have hown1:=hown0.alloc (.cells #[.slice (some ⟨W2.heap.size,0,none⟩) 1 1] 36)
 generalize hv:Value.slice a L.length c=v at *
 generalize hv':Value.slice ga (L.length+1) gc=v' at *
 have hz3:((W2.alloc (.cells #[x.h,.int .i64 x.p.frm,.int .i64 x.p.period,x.c] 39)).alloc (.cells #[.slice (some ⟨W2.heap.size,0,none⟩) 1 1] 36)).heap.size=W2.heap.size+2:=by simp
 generalize ((W2.alloc (.cells #[x.h,.int .i64 x.p.frm,.int .i64 x.p.period,x.c] 39)).alloc (.cells #[.slice (some ⟨W2.heap.size,0,none⟩) 1 1] 36))=W3 at *
 have hal0:Below wo.heap.size wo W3:=Et hb2 hal
 have hset:w8.grownBy (w8.setCell ⟨w.heap.size+1,0,none⟩ v') (some (w.heap.size+1)):=World.grownBy.set' ⟨rfl,rfl,rfl,Nat.le_refl _,fun _ _ _=>rfl⟩ _
 have hs8:=hg8.size
 have keep3:∀ b,b<W3.heap.size→b≠w.heap.size+1→v.ownBlock≠some b→(w8.setCell ⟨w.heap.size+1,0,none⟩ v').heap[b]? = W3.heap[b]?:=fun b h1 h2 h3=>
  (hset.block b (by omega) (fun e=>h2 (by cases e;rfl))).trans (hg8.block b h1 (fun e=>h3 e.symm))
 have keep0:∀ b,b<wo.heap.size→b≠w.heap.size+1→v.ownBlock≠some b→(w8.setCell ⟨w.heap.size+1,0,none⟩ v').heap[b]? = wo.heap[b]?:=fun b h1 h2 h3=>(keep3 b (by omega) h2 h3).trans (hal0.block b h1)
 have keep2:∀ b,b<W2.heap.size→b≠w.heap.size+1→v.ownBlock≠some b→(w8.setCell ⟨w.heap.size+1,0,none⟩ v').heap[b]? = W2.heap[b]?:=fun b h1 h2 h3=>(keep3 b (by omega) h2 h3).trans (hal.block b h1)
 have hv'b:∀ b,v'.ownBlock=some b→v.ownBlock=some b∨b=W2.heap.size+2:=fun b e=>by
  rcases hloc with h|h
  ·exact .inl (h ▸ e)
  ·rw [h] at e;cases e;exact .inr rfl
 refine ⟨((hS.below.trans (hal0.mono hS.below.size)).trans hb8).setCell (p:=⟨w.heap.size+1,0,none⟩) (by show w.heap.size≤w.heap.size+1;omega) _,(keep0 _ (by omega) (by omega) (fun e=>hvn _ e (.inl rfl))).trans hS.rbx,
  cells_set_by hS.obx ((hg8.block _ (by omega) (fun e=>hvn _ e.symm (.inr rfl))).trans (hal0.block _ (by omega))),hr8.box hset (.inr rfl),?_,.inr ⟨L,W2.heap.size,1,[x],rfl,⟨?_,fun y hy=>?_,fun y hy=>?_,?_,by simp⟩⟩⟩
 ·have hm:=hS.md
  rw [List.map_append]
  have key:∀ {P:List Per→Prop},(∀ t∈L.map Prod.snd,P t)→P [x.p]→∀ t∈L.map Prod.snd ++ [[x.p]],P t:=fun h1 h2 t ht=>by
   rcases List.mem_append.1 ht with ht|ht
   ·exact h1 t ht
   ·rw [List.mem_singleton] at ht;subst ht;exact h2
  exact ⟨by simp;omega,key hm.ne (by simp),key hm.tlen (by simp),key hm.fac (fun p hp=>by rw [List.mem_singleton] at hp;subst hp;exact hmf)⟩
 ·have h1:=hown1.kept hg8 (.inr fun e=>by have:=hvb W2.heap.size e.symm;omega)
  exact h1.kept hset (.inr fun e=>by have e:W2.heap.size=w.heap.size+1:=Option.some.inj e;omega)
 ·refine ((hS.row.all y hy).lt.keep (fun b hb hl=>?_) ?_).mono fun b hb=>⟨⟨hb.1.1,hb.1.2.1,fun e=>?_⟩,?_⟩
  ·exact keep0 b hb.2 (fun e=>hb.1.2.1 (.inr e)) hb.1.2.2
  ·have:=hset.size;omega
  ·rcases hv'b b e with h|h
   ·exact hb.1.2.2 h
   ·have:=hb.2;omega
  ·have:=hb.2;omega
 ·rw [List.mem_singleton] at hy;subst hy
  refine (hpv.keep (fun b hb hl=>?_)).mono fun b hb=>⟨⟨by omega,?_,fun e=>?_⟩,by omega⟩
  ·exact keep2 b hb.2 (by omega) (fun e=>by have:=hvb b e;omega)
  ·rintro (h|h) <;> omega
  ·rcases hv'b b e with h|h
   ·have:=hvb b h;omega
   ·omega
 ·refine ⟨by omega,?_,fun e=>?_⟩
  ·rintro (h|h) <;> omega
  ·rcases hv'b _ e with h|h
   ·have:=hvb _ h;omega
   ·omega
theorem MdS.more {w wo W2 W9:World} {ab c:Nat} {L0:List (Value × List Per)} {g cap g' cap':Nat} {M:List PV} {x:PV} (hS:MdS w.heap.size w (.slice (some ⟨ab,0,none⟩) (L0.length+1) c) (L0 ++ [(.slice (some ⟨g,0,none⟩) M.length cap,M.map PV.p)]) wo)
  (hml:MdL w.heap.size (.slice (some ⟨ab,0,none⟩) (L0.length+1) c) L0 g cap M wo) (hb2:Below wo.heap.size wo W2) (hpv:PVok W2 (fun b=>wo.heap.size≤b∧b<W2.heap.size) x) (hmf:MFac x.p) (hM:M.length<3)
  (hg:W2.grownBy W9 (some g)) (hown:W9.ownsRow w.heap.size 39 4 (.slice (some ⟨g',0,none⟩) (M.length+1) cap') (M.length+1) ((M ++ [x]).flatMap PV.enc)) (hloc:g'=g∨W2.heap.size≤g') :
  MdS w.heap.size w (.slice (some ⟨ab,0,none⟩) (L0.length+1) c) (L0 ++ [(.slice (some ⟨g',0,none⟩) (M.length+1) cap',(M ++ [x]).map PV.p)]) (W9.setCell ⟨ab,L0.length,none⟩ (.slice (some ⟨g',0,none⟩) (M.length+1) cap')):=by
 have hbz:=hS.obx.lt
 have hz2:=hb2.size
 have hz9:=hg.size
 have hle:(L0 ++ [((Value.slice (some ⟨g,0,none⟩) M.length cap),M.map PV.p)]).length=L0.length+1:=by simp
 have hrow:=hS.row.row
 rw [hle,List.map_append] at hrow
 have hab:=hrow.lt ab rfl
 have hvn:=hS.row.ne ab rfl
 obtain ⟨g0,g1,g2⟩:=hml.g
 have hgab:ab≠g:=fun e=>g2 (by simp [Value.ownBlock,e])
 have hgl:=(hml.own.lt g rfl).2
 have hset:W9.grownBy (W9.setCell ⟨ab,L0.length,none⟩ (.slice (some ⟨g',0,none⟩) (M.length+1) cap')) (some ab):=World.grownBy.set' ⟨rfl,rfl,rfl,Nat.le_refl _,fun _ _ _=>rfl⟩ _
 have keep2:∀ b,b<W2.heap.size→b≠g→b≠ab→(W9.setCell ⟨ab,L0.length,none⟩ (.slice (some ⟨g',0,none⟩) (M.length+1) cap')).heap[b]? = W2.heap[b]?:=fun b h1 h2 h3=>
  (hset.block b (by omega) (fun e=>h3 (by cases e;rfl))).trans (hg.block b h1 (fun e=>h2 (by cases e;rfl)))
 have keep0:∀ b,b<wo.heap.size→b≠g→b≠ab→(W9.setCell ⟨ab,L0.length,none⟩ (.slice (some ⟨g',0,none⟩) (M.length+1) cap')).heap[b]? = wo.heap[b]?:=fun b h1 h2 h3=>(keep2 b (by omega) h2 h3).trans (hb2.block b h1)
 have hsz:=hset.size
 have gB:g≠w.heap.size:=fun e=>g1 (.inl e)
 have gB1:g≠w.heap.size+1:=fun e=>g1 (.inr e)
 have aB:ab≠w.heap.size:=fun e=>hvn (.inl e)
 have aB1:ab≠w.heap.size+1:=fun e=>hvn (.inr e)
 have g'ab:g'≠ab:=by rcases hloc with h|h <;> omega
 have hown':=hown.kept hset (.inr fun e=>by injection e with e;exact g'ab e)
 have all0:∀ y∈L0,TermR (W9.setCell ⟨ab,L0.length,none⟩ (.slice (some ⟨g',0,none⟩) (M.length+1) cap')) (fun b=>RowF w.heap.size (MdA w.heap.size) (.slice (some ⟨ab,0,none⟩) (L0.length+1) c) b∧b≠g') y.1 y.2:=fun y hy=>by
  refine ((hml.all y hy).lt.keep (fun b hb hl=>?_) (by omega)).mono fun b hb=>⟨hb.1.1,?_⟩
  ·exact keep0 b hb.2 hb.1.2 fun e=>hb.1.1.2.2 (by simp [Value.ownBlock,e])
  ·rcases hloc with h|h
   ·rw [h];exact hb.1.2
   ·have:=hb.2;omega
 have pvs:∀ y∈M ++ [x],PVok (W9.setCell ⟨ab,L0.length,none⟩ (.slice (some ⟨g',0,none⟩) (M.length+1) cap')) (fun b=>RowF w.heap.size (MdA w.heap.size) (.slice (some ⟨ab,0,none⟩) (L0.length+1) c) b∧b≠g') y:=fun y hy=>by
  rcases List.mem_append.1 hy with hy|hy
  ·refine ((hml.pvs y hy).lt.keep (fun b hb hl=>?_)).mono fun b hb=>⟨hb.1.1,?_⟩
   ·exact keep0 b hb.2 hb.1.2 fun e=>hb.1.1.2.2 (by simp [Value.ownBlock,e])
   ·rcases hloc with h|h
    ·rw [h];exact hb.1.2
    ·have:=hb.2;omega
  ·rw [List.mem_singleton] at hy;subst hy
   refine (hpv.keep (fun b hb hl=>keep2 b hb.2 (by omega) (by omega))).mono fun b hb=>⟨⟨by omega,?_,fun e=>?_⟩,by omega⟩
   ·rintro (h|h) <;> omega
   ·simp [Value.ownBlock] at e;omega
 have hgF:RowF w.heap.size (MdA w.heap.size) (.slice (some ⟨ab,0,none⟩) (L0.length+1) c) g':=by
  refine ⟨by omega,?_,fun e=>?_⟩
  ·rintro (h|h) <;> omega
  ·simp [Value.ownBlock] at e;omega
 refine ⟨((hS.below.trans (hb2.mono hS.below.size)).trans (World.grownBy.below' hg (by omega) (by omega))).setCell (p:=⟨ab,L0.length,none⟩) hab.1 _,(keep0 _ (by omega) (by omega) (by omega)).trans hS.rbx,(keep0 _ (by omega) (by omega) (by omega)).trans hS.obx,?_,?_,
  .inr ⟨L0,g',cap',M ++ [x],by simp,⟨by simpa using hown',all0,pvs,hgF,by simp⟩⟩⟩
 ·have hr2:=(hrow.kept (World.grownBy.of_below hb2 none) (.inr (by simp [Value.ownBlock]))).kept hg (.inr fun e=>hgab (by simpa [Value.ownBlock] using e))
  have hr3:=(hr2.stored L0.length (.slice (some ⟨g',0,none⟩) (M.length+1) cap')).1
  rw [List.set_append_right _ _ (by simp),List.length_map,Nat.sub_self] at hr3
  refine ⟨by rw [List.length_append,List.map_append (f:=Prod.fst)];exact hr3,fun y hy=>?_,hS.row.ne,by simp;have:=hS.row.len;rw [hle] at this;omega⟩
  rcases List.mem_append.1 hy with hy|hy
  ·exact (all0 y hy).mono fun b hb=>hb.1
  ·rw [List.mem_singleton] at hy;subst hy
   exact own_term hown' (by simp) (by omega) (by omega) hgF fun y hy=>(pvs y hy).mono fun b hb=>hb.1
 ·have hm:=hS.md
  rw [List.map_append] at hm ⊢
  have hmem:M.map PV.p∈L0.map Prod.snd ++ [((Value.slice (some ⟨g,0,none⟩) M.length cap),M.map PV.p)].map Prod.snd:=by simp
  have key:∀ {P:List Per→Prop},(∀ t∈L0.map Prod.snd ++ [((Value.slice (some ⟨g,0,none⟩) M.length cap),M.map PV.p)].map Prod.snd,P t)→P ((M ++ [x]).map PV.p)→∀ t∈L0.map Prod.snd ++ [((Value.slice (some ⟨g',0,none⟩) (M.length+1) cap'),(M ++ [x]).map PV.p)].map Prod.snd,P t:=fun h1 h2 t ht=>by
   rcases List.mem_append.1 ht with ht|ht
   ·exact h1 t (List.mem_append_left _ ht)
   ·simp only [List.map_cons,List.map_nil,List.mem_singleton] at ht;subst ht;exact h2
  refine ⟨by have:=hm.len;simp at this ⊢;omega,key hm.ne (by simp),key hm.tlen (by simp;omega),key hm.fac fun p hp=>?_⟩
  rw [List.map_append] at hp
  rcases List.mem_append.1 hp with hp|hp
  ·exact hm.fac _ hmem p hp
  ·simp only [List.map_cons,List.map_nil,List.mem_singleton] at hp;subst hp;exact hmf
set_option maxRecDepth 100000 in
theorem append_last (w:World) {o:Oper} {a:Act} {K:Act→World→Prop} {Q:Exit→Act→World→Prop} (sx x:Operand)
  (ho:o.op=.call { callee:=.builtin .append,args:=#[sx,x],argTypes:=#[36,36] }) (B g cap:Nat) (M:List PV) (y:PV) (hs:a.eval sx=.slice (some ⟨g,0,none⟩) M.length cap)
  (h:w.ownsRow B 39 4 (.slice (some ⟨g,0,none⟩) M.length cap) M.length (M.flatMap PV.enc)) (blk c:Nat) (hx:a.eval x=.slice (some ⟨blk,0,none⟩) 1 c)
  (hnew:Bxx w blk #[y.h,.int .i64 y.p.frm,.int .i64 y.p.period,y.c] 39) (hone:∀ u∈y.enc,u.oneCell'=true) (hl:M.length≤1000) (hB:B≤w.heap.size)
  (k:∀ (g' cap':Nat) (w':World),w'.ownsRow B 39 4 (.slice (some ⟨g',0,none⟩) (M.length+1) cap') (M.length+1) ((M ++ [y]).flatMap PV.enc)→w.grownBy w' (some g)→(g'=g∨g'=w.heap.size)→K (a.put o.dst (.slice (some ⟨g',0,none⟩) (M.length+1) cap')) w') :
  Oper.wp Tryz.prog o a w K Q:=by
 obtain ⟨i,hi,h1,h2,h3⟩:=perInfo
 refine wp_append_lies w sx x 36 ho B 39 i (.agg #[.slice none 0 0,.int .i64 0,.int .i64 0,.slice none 0 0]) 4 64 Tryz.underlying36 hi h1 h2 h3 rfl (by omega) _ M.length (M.flatMap PV.enc) hs h ⟨blk,0,none⟩ 1 c y.enc hx rfl ?_ hone (by omega) (by unfold maxLen;omega) (by omega) hB _ rfl ?_
 ·intro j u hu
  have e:({ block:=blk,off:=0 }:Addr).add j=⟨blk,j,none⟩:=by
   rcases Nat.eq_zero_or_pos j with h|h
   ·subst h;simp [Addr.add]
   ·simp [Addr.add];omega
  rw [e,(hnew.cells j).1,← hu]
  match j with
  | 0=>rfl
  | 1=>rfl
  | 2=>rfl
  | 3=>rfl
  | k+4=>rfl
 ·intro g' cap' w' hown' hgrow hloc _
  exact k g' cap' w' (by rw [List.flatMap_append];simpa using hown') hgrow (hloc.imp (fun e=>(Option.some.inj e).symm) id)
set_option maxRecDepth 100000 in
set_option maxHeartbeats 4000000 in
theorem Made_any (v:Value) (n:Nat) (w:World) (h:ByteRows w v n) :
  Calls Tryz.prog 14 #[v] w fun e w'=>∃ (m:List (List Per)) (a:Option Addr) (c:Nat),e=.returned (.agg #[.slice a m.length c])∧MixR w' (fun b=>w.heap.size≤b) (.slice a m.length c) m∧MadeM m∧Below w.heap.size w w':=by
 have HR:=Lib.hid h
 obtain ⟨⟨a1,c1,rfl,_⟩,hn⟩:=h
 go_enter Tryz.func14,Tryz.ntmps14
 go_wp2_with fail
 have hmd0:MdS w.heap.size w (.slice none 0 0) [] ((w.alloc (.cells #[.slice none 0 0] 28)).alloc (.cells #[.slice none 0 0] 28)):=
  ⟨Ea (Ea (Er w) _) _,(Bxx.new w _ _).alloc _,Bxx.at (by simp),RowT.nil _ _ _,⟨by simp,by simp,by simp,by simp⟩,.inl rfl⟩
 have HMD0:=Lib.hid hmd0
 clear hmd0
 go_loopw [4,5,6] (fun iv _ _ wr=>∃ (i:Nat) (v:Value) (L:List (Value × List Per)),i≤9∧i≤n∧iv=.int .i64 i∧Hid (MdS w.heap.size w v L wr)) (fun iv _ _ _=>9-(intOf iv).toNat)
 case atStart=>exact ⟨0,_,[],by omega,by omega,rfl,HMD0⟩
 case round=>
  obtain ⟨i,v,L,hi9,hin,rfl,HS⟩:=hrel
  obtain ⟨a2,c2,rfl,hc1,hc2,hform⟩:=HS.out.row.form
  obtain ⟨wo,hwo⟩:∃ wo,wo=wr:=⟨_,rfl⟩
  subst hwo
  have b3:=HS.out.obx.c0
  have hLl:L.length≤3:=by have h:=HS.out.md.len;rwa [List.length_map] at h
  by_cases hil:i<n
  ·have hilI:(i:Int)<n:=by omega
   by_cases hi:i<9
   ·have hiI:(i:Int)<9:=by omega
    obtain ⟨⟨a1',c1',he,h3⟩,-⟩:=HR.out.ext HS.out.below
    injection he with e1 e2 e3
    subst e1;subst e3
    rcases h3 with h0|⟨b,o,rfl,hc⟩
    ·omega
    obtain ⟨u,l,hcell,hby⟩:=hc i hil
    have hmf:=MadeFactor_any u l wo hby
    have HBY:=Lib.hid hby
    have hr0:=hby.rng0 0
    have HAT:=Lib.hid (fun W (h:Below wo.heap.size wo W)=>at_any u l 0 0 rfl W (hby.ext h) (by omega))
    generalize l.getD 0 0=x0 at *
    obtain ⟨⟨ua,uc,rfl,_⟩,_,_⟩:=hby
    clear hc e2
    rcases HS.out.last with hL|⟨L0,g,cap,M,hL,hml⟩
    ·subst hL
     go_wp2_with (first|(go_at_call 55;go_loud (refine hmf.mono ?_;rintro e w1 ⟨h',c',p,rfl,ho,hwf,hfr,hpe,hb1⟩;have hpf:MFac p:=⟨hwf,hfr,hpe⟩;have hpv:=ho.pv hpf.fv;obtain ⟨ya,yn,yc,za,zn,zc,rfl,rfl⟩:=hpv.form;have HPV:=Lib.hid hpv;have HPF:=Lib.hid hpf;have hE2:Below wo.heap.size wo (w1.alloc (.cells #[.slice ya yn yc,.int .i64 p.frm,.int .i64 p.period,.slice za zn zc] 39)):=Ea hb1 _;have hS2:=HS.out.ext (Nat.le_refl _) hE2;have d3:=hS2.obx.cells 0;have k4:=Ext.cell hE2 hcell;have HW1:=Lib.hid hb1.size;have HE2:=Lib.hid hE2;have HS2:=Lib.hid hS2;have HPV2:=Lib.hid ((hpv.keep (KeepF.below (Ea (Er w1) (.cells #[.slice ya yn yc,.int .i64 p.frm,.int .i64 p.period,.slice za zn zc] 39)))).mono (G:=fun b=>wo.heap.size≤b∧b<(w1.alloc (.cells #[.slice ya yn yc,.int .i64 p.frm,.int .i64 p.period,.slice za zn zc] 39)).heap.size) fun b hb=>⟨hb.1,by rw [World.size_alloc];have:=hb.2;omega⟩);clear ho hwf hfr hpe hpf hpv hE2 hS2 hb1))|(at_builtin;go_loud (refine append_term (by rfl) _ _ (by rfl) w.heap.size (MdA w.heap.size) (.slice a2 ([]:List (Value × List Per)).length c2) ([]:List (Value × List Per)) (.slice (some ⟨w1.heap.size+1,0,none⟩) 1 1,[p]) (by rfl) (HS2.out.row.below (Ea (Ea (Er _) _) _)) (new_term (x:=⟨_,_,p⟩) (by simp) HS.out HE2.out HPV2.out) _ _ (by rfl) (Bxx.at (c:=#[.slice (some ⟨w1.heap.size+1,0,none⟩) 1 1]) (t:=36) (by simp)).c0 (by have h7:=HS2.out.obx.lt;rw [World.size_alloc] at h7;rintro (h|h) <;> simp at h <;> omega) (by simp;try omega) (by have h7:=HS2.out.obx.lt;rw [World.size_alloc] at h7;simp;omega) ?_;intro ga gc w8 hr8 hg8 hb8 hbo8;have hx8:=((HS2.out.obx.alloc _).alloc _).grown hg8 (fun e=>HS.out.row.ne _ e.symm (.inr rfl));have d8:=hx8.cells 0;have HR8:=Lib.hid hr8;have HG8:=Lib.hid hg8;have HB8:=Lib.hid hb8;have HBO8:=Lib.hid hbo8;clear hx8 hr8 hg8 hb8 hbo8)))
     go_roundw
     case rel=>exact ⟨i+1,.slice ga (([]:List (Value × List Per)).length+1) gc,[] ++ [(.slice (some ⟨w1.heap.size+1,0,none⟩) 1 1,[p])],by omega,by omega,by go_num,Lib.hid (MdS.new (x:=⟨_,_,p⟩) (by simp) HS.out HE2.out HPV2.out HPF.out (by simp) HR8.out HG8.out HB8.out (by have h:=HBO8.out;simp only [World.size_alloc] at h;exact h))⟩
     case measure=>simp [intOf];omega
    ·subst hL
     have hle:(L0 ++ [((Value.slice (some ⟨g,0,none⟩) M.length cap),M.map PV.p)]).length=L0.length+1:=by simp
     obtain ⟨ab,rfl⟩:∃ ab,a2=some ⟨ab,0,none⟩:=hform.resolve_left (by rw [hle];omega)
     have hgc:wo.cell? ⟨ab,L0.length,none⟩=some (.slice (some ⟨g,0,none⟩) M.length cap):=by
      have h9:=(HS.out.row.get rfl (k:=L0.length) (by rw [hle];omega)).2.1
      rw [h9];simp
     have hM1:=hml.len
     have HML:=Lib.hid hml
     rw [hle] at b3 hLl
     clear hml hform
     have HLE:=Lib.hid hle
     go_upto_region 7 with (go_at_call 55;go_loud (refine hmf.mono ?_;rintro e w1 ⟨h',c',p,rfl,ho,hwf,hfr,hpe,hb1⟩;have hpf:MFac p:=⟨hwf,hfr,hpe⟩;have hpv:=ho.pv hpf.fv;obtain ⟨ya,yn,yc,za,zn,zc,rfl,rfl⟩:=hpv.form;have HPV:=Lib.hid hpv;have HPF:=Lib.hid hpf;have hE2:Below wo.heap.size wo (w1.alloc (.cells #[.slice ya yn yc,.int .i64 p.frm,.int .i64 p.period,.slice za zn zc] 39)):=Ea hb1 _;have hS2:=HS.out.ext (Nat.le_refl _) hE2;have d3:=hS2.obx.cells 0;have k4:=Ext.cell hE2 hcell;have HW1:=Lib.hid hb1.size;have HE2:=Lib.hid hE2;have HS2:=Lib.hid hS2;have HPV2:=Lib.hid ((hpv.keep (KeepF.below (Ea (Er w1) (.cells #[.slice ya yn yc,.int .i64 p.frm,.int .i64 p.period,.slice za zn zc] 39)))).mono (G:=fun b=>wo.heap.size≤b∧b<(w1.alloc (.cells #[.slice ya yn yc,.int .i64 p.frm,.int .i64 p.period,.slice za zn zc] 39)).heap.size) fun b hb=>⟨hb.1,by rw [World.size_alloc];have:=hb.2;omega⟩);clear ho hwf hfr hpe hpf hpv hE2 hS2 hb1))
     refine Code.wp_mono (Q:=fun e a' W'=>e=.normal∧(∃ (cnd:Bool) (z26 z27 z28 z29 z30 z31 z32 z33 z34 z35 z36 z37 z38 z39 z40 z41 z42 z43 z44 z45 z46 z47 z48:Value),a'=⟨#[.slice (some ⟨b,o,none⟩) n c1,undef,.pointer (some ⟨w.heap.size,0,none⟩),.pointer (some ⟨w.heap.size+1,0,none⟩),.int .i64 ↑i,.int .i64 (↑L0.length+1),.pointer (some ⟨w1.heap.size,0,none⟩),.agg #[.slice none 0 0],.int .i64 ↑i,.slice (some ⟨b,o,none⟩) n c1,.int .i64 ↑n,.bool true,.bool true,.int .i64 ↑i,.bool true,.bool true,u16,u17,.pointer (some ⟨w.heap.size+1,0,none⟩),.slice (some ⟨ab,0,none⟩) (L0.length+1) c2,.int .i64 (↑L0.length+1),.slice (some ⟨b,o,none⟩) n c1,.int .i64 ↑i,.pointer (some ⟨b,o+i,none⟩),.slice ua l.length uc,perV (.slice ya yn yc) (.slice za zn zc) p.frm p.period,z26,z27,z28,z29,z30,z31,z32,z33,z34,z35,z36,z37,z38,z39,z40,z41,z42,z43,z44,z45,z46,z47,z48,.bool cnd,u50,u51,u52,u53,u54,u55,u56,u57,u58,u59,u60,u61,u62,u63,u64,u65,u66,u67,u68,u69,u70,u71,u72,undef],[]⟩∧(cnd=true→M.length<3))∧Below (w1.alloc (.cells #[.slice ya yn yc,.int .i64 p.frm,.int .i64 p.period,.slice za zn zc] 39)).heap.size (w1.alloc (.cells #[.slice ya yn yc,.int .i64 p.frm,.int .i64 p.period,.slice za zn zc] 39)) W') ?imp ?reg
     case reg=>
      by_cases hM:M.length<3
      ·have hMI:(M.length:Int)<3:=by omega
       go_wp2_with (go_at_call 56;go_loud (refine (HAT.out _ HE2.out).mono ?_;rintro e w3 ⟨rfl,hb3⟩;have e3:=(HS2.out.ext (Nat.le_refl _) hb3).obx.c0;rw [hle] at e3;have f3:=Ext.cell (Et HE2.out hb3) hgc))
       all_goals exact hb3.mono (by simp)
      ·have hMI:¬ (M.length:Int)<3:=by omega
       go_wp2_with (go_at_call 56;go_loud (refine (HAT.out _ HE2.out).mono ?_;rintro e w3 ⟨rfl,hb3⟩;have e3:=(HS2.out.ext (Nat.le_refl _) hb3).obx.c0;rw [hle] at e3;have f3:=Ext.cell (Et HE2.out hb3) hgc))
       all_goals exact hb3.mono (by simp)
     case imp=>
      rintro e a' w3 ⟨rfl,⟨cnd,z26,z27,z28,z29,z30,z31,z32,z33,z34,z35,z36,z37,z38,z39,z40,z41,z42,z43,z44,z45,z46,z47,z48,rfl,hM⟩,hb3⟩
      have HE3:=Lib.hid (Et HE2.out hb3)
      have hS3:=HS2.out.ext (Nat.le_refl _) hb3
      have HS3:=Lib.hid hS3
      have e3:=hS3.obx.cells 0
      rw [hle] at e3
      have f3:=Ext.cell HE3.out hgc
      have hpb:=(Bxx.new w1 #[.slice ya yn yc,.int .i64 p.frm,.int .i64 p.period,.slice za zn zc] 39).below hb3
      have p0:=(hpb.cells 0).1
      have p1:=(hpb.cells 1).1
      have p2:=(hpb.cells 2).1
      have p3:=(hpb.cells 3).1
      have HPV3:=Lib.hid ((HPV2.out.keep (KeepF.below hb3)).mono (G:=fun b=>wo.heap.size≤b∧b<w3.heap.size) fun b hb=>⟨hb.1,Nat.lt_of_lt_of_le hb.2 hb3.size⟩)
      have hw13:w1.heap.size<w3.heap.size:=by have:=hb3.size;rw [World.size_alloc] at this;omega
      clear hS3 hb3 hpb
      cases cnd
      ·by_cases h3:L0.length+1<3
       ·have h3I:(L0.length:Int)+1<3:=by omega
        go_wp2_with (at_builtin;go_loud (refine append_term (by rfl) _ _ (by rfl) w.heap.size (MdA w.heap.size) (.slice (some ⟨ab,0,none⟩) (L0 ++ [((Value.slice (some ⟨g,0,none⟩) M.length cap),M.map PV.p)]).length c2) (L0 ++ [((Value.slice (some ⟨g,0,none⟩) M.length cap),M.map PV.p)]) (.slice (some ⟨w3.heap.size,0,none⟩) 1 1,[p]) (by rw [hle];rfl) (HS3.out.row.below (Ea (Ea (Er _) _) _)) (new_term (x:=⟨_,_,p⟩) rfl HS.out HE3.out HPV3.out) _ _ (by rfl) (Bxx.at (c:=#[.slice (some ⟨w3.heap.size,0,none⟩) 1 1]) (t:=36) (by simp)).c0 (by have h7:=HS3.out.obx.lt;rintro (h|h) <;> simp at h <;> omega) (by simp;try omega) (by have h7:=HS3.out.obx.lt;simp;omega) ?_;intro ga gc w8 hr8 hg8 hb8 hbo8;have hx8:=((HS3.out.obx.alloc _).alloc _).grown hg8 (fun e=>HS.out.row.ne _ e.symm (.inr rfl));have d8:=hx8.cells 0;have HR8:=Lib.hid hr8;have HG8:=Lib.hid hg8;have HB8:=Lib.hid hb8;have HBO8:=Lib.hid hbo8;clear hx8 hr8 hg8 hb8 hbo8))
        go_roundw
        case rel=>
         have h9:=MdS.new (x:=⟨_,_,p⟩) rfl HS.out HE3.out HPV3.out HPF.out (by rw [hle];omega) HR8.out HG8.out HB8.out (by have h:=HBO8.out;simp only [World.size_alloc] at h;exact h)
         rw [hle] at h9
         exact ⟨i+1,_,_,by omega,by omega,by go_num,Lib.hid h9⟩
        case measure=>simp [intOf];omega
       ·have h3I:¬ (L0.length:Int)+1<3:=by omega
        go_wp2_with fail
        go_roundw
        case rel=>
         have h9:=HS3.out
         rw [hle] at h9
         exact ⟨i+1,_,_,by omega,by omega,by go_num,Lib.hid h9⟩
        case measure=>simp [intOf];omega
      ·have HM:=Lib.hid (hM rfl)
       clear hM
       go_wp2_with fail
       have e3':w3.cell? ⟨w.heap.size+1,0,none⟩=some (.slice (some ⟨ab,0,none⟩) (L0.length+1) c2):=e3.1
       have hml:=HML.out
       have hgB1:some (w.heap.size+1)≠some g:=fun e=>hml.g.2.1 (.inr (Option.some.inj e).symm)
       have hgab:some ab≠some g:=fun e=>hml.g.2.2 e
       have hgl:=(hml.own.lt g rfl).2
       have hsz2:=HE2.out.size
       have hw1l:wo.heap.size≤w1.heap.size:=HW1.out
       have hgw1:some w1.heap.size≠some g:=fun e=>by have:=Option.some.inj e;omega
       have HOW:=Lib.hid (fun W (h:Below w3.heap.size w3 W)=>((hml.ext HE3.out).ext h).own)
       have hbz3:w.heap.size≤w3.heap.size:=by have:=HS3.out.obx.lt;omega
       have hgl3:g<w3.heap.size:=by have:=HE3.out.size;omega
       clear hml
       refine wp_region_row (w0:=w3) (some g) 12 [0,1,2,3,4,5,6,7,8,9,10,11,12,13] [14] (fun v=>⟨#[.slice (some ⟨b,o,none⟩) n c1,undef,.pointer (some ⟨w.heap.size,0,none⟩),.pointer (some ⟨w.heap.size+1,0,none⟩),.int .i64 ↑i,.int .i64 (↑L0.length+1),.pointer (some ⟨w1.heap.size,0,none⟩),.agg #[.slice none 0 0],.int .i64 ↑i,.slice (some ⟨b,o,none⟩) n c1,.int .i64 ↑n,.bool true,.bool true,.int .i64 ↑i,.bool true,.bool true,u16,u17,.pointer (some ⟨w.heap.size+1,0,none⟩),.slice (some ⟨ab,0,none⟩) (L0.length+1) c2,.int .i64 (↑L0.length+1),.slice (some ⟨b,o,none⟩) n c1,.int .i64 ↑i,.pointer (some ⟨b,o+i,none⟩),.slice ua l.length uc,perV (.slice ya yn yc) (.slice za zn zc) p.frm p.period,z26,z27,z28,z29,z30,z31,z32,z33,z34,z35,z36,z37,z38,z39,z40,z41,z42,z43,z44,z45,z46,z47,z48,.bool true,v 0,v 1,v 2,v 3,v 4,v 5,v 6,v 7,v 8,v 9,v 10,v 11,v 12,v 13,u64,u65,u66,u67,u68,u69,u70,u71,u72,undef],[]⟩) (fun j=>match j with|0=>u50|1=>u51|2=>u52|3=>u53|4=>u54|5=>u55|6=>u56|7=>u57|8=>u58|9=>u59|10=>u60|11=>u61|12=>u62|13=>u63|_=>undef)
        (fun i v lo hi W=>match i with
         | 0=>v 0=.pointer (some ⟨w.heap.size+1,0,none⟩)
         | 1=>v 1=.slice (some ⟨ab,0,none⟩) (L0.length+1) c2
         | 2=>v 2=.int .i64 (L0.length+1)
         | 3=>v 3=.int .i64 L0.length
         | 4=>v 4=.pointer (some ⟨w.heap.size+1,0,none⟩)
         | 5=>v 5=.slice (some ⟨ab,0,none⟩) (L0.length+1) c2
         | 6=>v 6=.int .i64 (L0.length+1)
         | 7=>v 7=.int .i64 L0.length
         | 8=>v 8=.pointer (some ⟨ab,L0.length,none⟩)
         | 9=>v 9=.slice (some ⟨g,0,none⟩) M.length cap
         | 10=>v 10=perV (.slice ya yn yc) (.slice za zn zc) p.frm p.period
         | 11=>v 11=.slice (some ⟨lo 11,0,none⟩) 1 1∧lo 11<hi 11∧w3.heap.size≤lo 11∧hi 11≤W.heap.size∧Bxx W (lo 11) #[.slice ya yn yc,.int .i64 p.frm,.int .i64 p.period,.slice za zn zc] 39
         | 12=>∃ g' cap',v 12=.slice (some ⟨g',0,none⟩) (M.length+1) cap'∧W.ownsRow w.heap.size 39 4 (.slice (some ⟨g',0,none⟩) (M.length+1) cap') (M.length+1) ((M ++ [(⟨.slice ya yn yc,.slice za zn zc,p⟩:PV)]).flatMap PV.enc)∧(g'=g∨w3.heap.size≤g')
         | 13=>v 13=.pointer (some ⟨ab,L0.length,none⟩)
         | _=>True)
        (fun W=>W.cell? ⟨w.heap.size+1,0,none⟩=some (.slice (some ⟨ab,0,none⟩) (L0.length+1) c2)∧W.cell? ⟨ab,L0.length,none⟩=some (.slice (some ⟨g,0,none⟩) M.length cap)∧W.cell? ⟨w1.heap.size,0,none⟩=some (.slice ya yn yc)∧W.cell? ⟨w1.heap.size,1,none⟩=some (.int .i64 p.frm)∧W.cell? ⟨w1.heap.size,2,none⟩=some (.int .i64 p.period)∧W.cell? ⟨w1.heap.size,3,none⟩=some (.slice za zn zc)) rfl (by kernel_rfl) (by decide) rfl ?stab ?loc (fun W hb=>⟨hb.cell e3' hgB1,hb.cell f3 hgab,hb.cell p0 hgw1,hb.cell p1 hgw1,hb.cell p2 hgw1,hb.cell p3 hgw1⟩) ?steps ?fin
       case stab=>
        rintro (_|_|_|_|_|_|_|_|_|_|_|_|_|_|i) v lo hi W W' h hb
        ·exact h
        ·exact h
        ·exact h
        ·exact h
        ·exact h
        ·exact h
        ·exact h
        ·exact h
        ·exact h
        ·exact h
        ·exact h
        ·rw [if_neg (by decide)] at hb;exact ⟨h.1,h.2.1,h.2.2.1,Nat.le_trans h.2.2.2.1 hb.size,(hb.block (lo 11) (by have:=h.2.1;have:=h.2.2.2.1;omega) (fun e=>by have h7:lo 11=g:=Option.some.inj e;have:=h.2.2.1;omega)).trans h.2.2.2.2⟩
        ·rw [if_pos rfl] at hb;exact (let ⟨g',cap',e,ho,hl⟩:=h;⟨g',cap',e,ho.kept (row:=none) (World.grownBy.of_below hb _) (by right;simp [Value.ownBlock]),hl⟩)
        ·exact h
        ·trivial
       case loc=>
        rintro (_|_|_|_|_|_|_|_|_|_|_|_|_|_|i) v v' lo lo' hi hi' W hag h
        ·exact (hag 0 (.inl rfl)).1 ▸ h
        ·exact (hag 1 (.inl rfl)).1 ▸ h
        ·exact (hag 2 (.inl rfl)).1 ▸ h
        ·exact (hag 3 (.inl rfl)).1 ▸ h
        ·exact (hag 4 (.inl rfl)).1 ▸ h
        ·exact (hag 5 (.inl rfl)).1 ▸ h
        ·exact (hag 6 (.inl rfl)).1 ▸ h
        ·exact (hag 7 (.inl rfl)).1 ▸ h
        ·exact (hag 8 (.inl rfl)).1 ▸ h
        ·exact (hag 9 (.inl rfl)).1 ▸ h
        ·exact (hag 10 (.inl rfl)).1 ▸ h
        ·have q:=hag 11 (.inl rfl)
         have q10:=hag 10 (.inr (Rdp (by kernel_rfl)))
         (try dsimp only at h ⊢);(try simp only [q.1,q.2.1,q.2.2,q10.1,q10.2.1,q10.2.2] at h);exact h
        ·have q:=hag 12 (.inl rfl)
         have q9:=hag 9 (.inr (Rdp (by kernel_rfl)))
         have q11:=hag 11 (.inr (Rdp (by kernel_rfl)))
         (try dsimp only at h ⊢);(try simp only [q.1,q.2.1,q.2.2,q9.1,q9.2.1,q9.2.2,q11.1,q11.2.1,q11.2.2] at h);exact h
        ·exact (hag 13 (.inl rfl)).1 ▸ h
        ·trivial
       case steps=>
        refine StepsG.cons rfl ?_ (StepsG.cons rfl ?_ (StepsG.cons rfl ?_ (StepsG.cons rfl ?_ (StepsG.cons rfl ?_ (StepsG.cons rfl ?_ (StepsG.cons rfl ?_ (StepsG.cons rfl ?_ (StepsG.cons rfl ?_ (StepsG.cons rfl ?_ (StepsG.cons rfl ?_ (StepsG.cons rfl ?_ (StepsG.cons rfl ?_ (StepsG.cons rfl ?_ StepsG.nil)))))))))))))
        ·rintro v lo hi W hb hkx ⟨g0,g1,g2,g3,g4,g5⟩ hd K hK
         replace hK:=fun x W' (h:Below W.heap.size W W')=>hK x W' (by rw [if_neg (by decide)];exact h)
         clear hkx
         clear hd
         dsimp only
         go_wp2_with fail
         exact acx (hK (.pointer (some ⟨w.heap.size+1,0,none⟩)) W (Below.refl _ _) rfl) (by simp)
        ·rintro v lo hi W hb hkx ⟨g0,g1,g2,g3,g4,g5⟩ hd K hK
         replace hK:=fun x W' (h:Below W.heap.size W W')=>hK x W' (by rw [if_neg (by decide)];exact h)
         clear hkx
         have e0:v 0=.pointer (some ⟨w.heap.size+1,0,none⟩):=(hd 0 (Rdp (by kernel_rfl))).2.2
         clear hd
         dsimp only
         (try simp only [e0])
         go_wp2_with fail
         exact acx (hK (.slice (some ⟨ab,0,none⟩) (L0.length+1) c2) W (Below.refl _ _) rfl) (by simp [e0])
        ·rintro v lo hi W hb hkx ⟨g0,g1,g2,g3,g4,g5⟩ hd K hK
         replace hK:=fun x W' (h:Below W.heap.size W W')=>hK x W' (by rw [if_neg (by decide)];exact h)
         clear hkx
         clear hd
         dsimp only
         go_wp2_with fail
         exact acx (hK (.int .i64 (L0.length+1)) W (Below.refl _ _) rfl) (by simp)
        ·rintro v lo hi W hb hkx ⟨g0,g1,g2,g3,g4,g5⟩ hd K hK
         replace hK:=fun x W' (h:Below W.heap.size W W')=>hK x W' (by rw [if_neg (by decide)];exact h)
         clear hkx
         have e2:v 2=.int .i64 (L0.length+1):=(hd 2 (Rdp (by kernel_rfl))).2.2
         clear hd
         dsimp only
         (try simp only [e2])
         go_wp2_with fail
         exact acx (hK (.int .i64 L0.length) W (Below.refl _ _) rfl) (by simp [e2])
        ·rintro v lo hi W hb hkx ⟨g0,g1,g2,g3,g4,g5⟩ hd K hK
         replace hK:=fun x W' (h:Below W.heap.size W W')=>hK x W' (by rw [if_neg (by decide)];exact h)
         clear hkx
         clear hd
         dsimp only
         go_wp2_with fail
         exact acx (hK (.pointer (some ⟨w.heap.size+1,0,none⟩)) W (Below.refl _ _) rfl) (by simp)
        ·rintro v lo hi W hb hkx ⟨g0,g1,g2,g3,g4,g5⟩ hd K hK
         replace hK:=fun x W' (h:Below W.heap.size W W')=>hK x W' (by rw [if_neg (by decide)];exact h)
         clear hkx
         have e4:v 4=.pointer (some ⟨w.heap.size+1,0,none⟩):=(hd 4 (Rdp (by kernel_rfl))).2.2
         clear hd
         dsimp only
         (try simp only [e4])
         go_wp2_with fail
         exact acx (hK (.slice (some ⟨ab,0,none⟩) (L0.length+1) c2) W (Below.refl _ _) rfl) (by simp [e4])
        ·rintro v lo hi W hb hkx ⟨g0,g1,g2,g3,g4,g5⟩ hd K hK
         replace hK:=fun x W' (h:Below W.heap.size W W')=>hK x W' (by rw [if_neg (by decide)];exact h)
         clear hkx
         clear hd
         dsimp only
         go_wp2_with fail
         exact acx (hK (.int .i64 (L0.length+1)) W (Below.refl _ _) rfl) (by simp)
        ·rintro v lo hi W hb hkx ⟨g0,g1,g2,g3,g4,g5⟩ hd K hK
         replace hK:=fun x W' (h:Below W.heap.size W W')=>hK x W' (by rw [if_neg (by decide)];exact h)
         clear hkx
         have e6:v 6=.int .i64 (L0.length+1):=(hd 6 (Rdp (by kernel_rfl))).2.2
         clear hd
         dsimp only
         (try simp only [e6])
         go_wp2_with fail
         exact acx (hK (.int .i64 L0.length) W (Below.refl _ _) rfl) (by simp [e6])
        ·rintro v lo hi W hb hkx ⟨g0,g1,g2,g3,g4,g5⟩ hd K hK
         replace hK:=fun x W' (h:Below W.heap.size W W')=>hK x W' (by rw [if_neg (by decide)];exact h)
         clear hkx
         have e5:v 5=.slice (some ⟨ab,0,none⟩) (L0.length+1) c2:=(hd 5 (Rdp (by kernel_rfl))).2.2
         have e7:v 7=.int .i64 L0.length:=(hd 7 (Rdp (by kernel_rfl))).2.2
         clear hd
         dsimp only
         (try simp only [e5,e7])
         go_wp2_with fail
         exact acx (hK (.pointer (some ⟨ab,L0.length,none⟩)) W (Below.refl _ _) rfl) (by simp [e5,e7])
        ·rintro v lo hi W hb hkx ⟨g0,g1,g2,g3,g4,g5⟩ hd K hK
         replace hK:=fun x W' (h:Below W.heap.size W W')=>hK x W' (by rw [if_neg (by decide)];exact h)
         clear hkx
         have e8:v 8=.pointer (some ⟨ab,L0.length,none⟩):=(hd 8 (Rdp (by kernel_rfl))).2.2
         clear hd
         dsimp only
         (try simp only [e8])
         go_wp2_with fail
         exact acx (hK (.slice (some ⟨g,0,none⟩) M.length cap) W (Below.refl _ _) rfl) (by simp [e8])
        ·rintro v lo hi W hb hkx ⟨g0,g1,g2,g3,g4,g5⟩ hd K hK
         replace hK:=fun x W' (h:Below W.heap.size W W')=>hK x W' (by rw [if_neg (by decide)];exact h)
         clear hkx
         clear hd
         dsimp only
         go_wp2_with fail
         exact acx (hK (perV (.slice ya yn yc) (.slice za zn zc) p.frm p.period) W (Below.refl _ _) rfl) (by simp [ite_true])
        ·rintro v lo hi W hb hkx ⟨g0,g1,g2,g3,g4,g5⟩ hd K hK
         replace hK:=fun x W' (h:Below W.heap.size W W')=>hK x W' (by rw [if_neg (by decide)];exact h)
         clear hkx
         have e10:v 10=perV (.slice ya yn yc) (.slice za zn zc) p.frm p.period:=(hd 10 (Rdp (by kernel_rfl))).2.2
         clear hd
         dsimp only
         (try simp only [e10])
         go_wp2_with fail
         exact acx (hK (.slice (some ⟨W.heap.size,0,none⟩) 1 1) _ (Ea (Er _) _) ⟨rfl,by simp,hb.size,by simp,Bxx.new _ _ _⟩) (by simp [e10])
        ·rintro v lo hi W hb hkx ⟨g0,g1,g2,g3,g4,g5⟩ hd K hK
         replace hK:=fun x W' (h:W.grownBy W' (some g))=>hK x W' (by rw [if_pos rfl];exact h)
         replace hkx:=hkx rfl
         have e9:v 9=.slice (some ⟨g,0,none⟩) M.length cap:=(hd 9 (Rdp (by kernel_rfl))).2.2
         obtain ⟨la11,lb11,D11⟩:=hd 11 (Rdp (by kernel_rfl))
         clear hd
         dsimp only
         (try simp only [e9])
         obtain ⟨e11,h11a,h11b,h11c,h11d⟩:=D11
         refine append_last W _ _ (by rfl) w.heap.size g cap M ⟨.slice ya yn yc,.slice za zn zc,p⟩ (by first|rfl|exact e9) (HOW.out _ hkx) (lo 11) 1 (by first|exact e11|(simp [e11];done)) h11d (PV.enc_one _ rfl rfl) (by have:=HM.out;omega) (by have h8:=hkx.size;omega) ?_
         intro g' cap' w9 hown9 hgrow9 hloc9
         exact acx (hK (.slice (some ⟨g',0,none⟩) (M.length+1) cap') w9 hgrow9 ⟨g',cap',rfl,hown9,hloc9.imp id (fun e=>by rw [e];exact hb.size)⟩) (by simp only [e9];rfl)
        ·rintro v lo hi W hb hkx ⟨g0,g1,g2,g3,g4,g5⟩ hd K hK
         replace hK:=fun x W' (h:Below W.heap.size W W')=>hK x W' (by rw [if_neg (by decide)];exact h)
         clear hkx
         have e1:v 1=.slice (some ⟨ab,0,none⟩) (L0.length+1) c2:=(hd 1 (Rdp (by kernel_rfl))).2.2
         have e3:v 3=.int .i64 L0.length:=(hd 3 (Rdp (by kernel_rfl))).2.2
         clear hd
         dsimp only
         (try simp only [e1,e3])
         go_wp2_with fail
         exact acx (hK (.pointer (some ⟨ab,L0.length,none⟩)) W (Below.refl _ _) rfl) (by simp [e1,e3])
       case fin=>
        rintro v lo hi9' W9 hg9 ⟨g0,g1,-,-,-,-⟩ hf hap
        show wpList _ _ _ [_] _ _
        have e13:v 13=.pointer (some ⟨ab,L0.length,none⟩):=(hf 13 rfl).2.2.2
        obtain ⟨-,-,-,g',cap',e12,hown9,hloc9⟩:=hf 12 rfl
        clear hf hap
        dsimp only
        rw [e13,e12]
        clear e12 e13
        have hrw:=HS3.out.row.row
        have fz:W9.frozen? ⟨ab,L0.length,none⟩=false:=(hg9.frozen_far _ (hrw.lt ab rfl).2 hgab).trans (hrw.frozenAt L0.length)
        have HG9:=Lib.hid hg9
        have HOWN9:=Lib.hid hown9
        have HLOC9:=Lib.hid hloc9
        clear hrw hg9 hown9 hloc9
        generalize v 0=z0
        generalize v 1=z1
        generalize v 2=z2
        generalize v 3=z3
        generalize v 4=z4
        generalize v 5=z5
        generalize v 6=z6
        generalize v 7=z7
        generalize v 8=z8
        generalize v 9=z9
        generalize v 10=z10
        generalize v 11=z11
        go_wp2_with fail
        go_roundw
        case rel=>
         have h8:=HS.out
         have h7:=HML.out
         rw [hle] at h8 h7
         exact ⟨i+1,_,_,by omega,by omega,by go_num,Lib.hid (MdS.more h8 h7 HE3.out HPV3.out HPF.out HM.out HG9.out HOWN9.out HLOC9.out)⟩
        case measure=>simp [intOf];omega
   ·obtain rfl:i=9:=by omega
    have r2:=HS.out.rbx.cells 0
    go_wp2_with fail
    have hset:=HS.out.row.box (World.grownBy.set' (i:=0) ⟨rfl,rfl,rfl,Nat.le_refl _,fun _ _ _=>rfl⟩ (.slice a2 L.length c2)) (.inl rfl)
    have hcc:=Bxx.c0 (heap_set_at 0 (.slice a2 L.length c2) HS.out.rbx)
    exact bodyPost_ret (v:=.agg #[.slice a2 L.length c2]) (by simp [results,Tryz.results14,go_sem,hcc]) rfl ⟨L.map Prod.snd,a2,c2,by rw [List.length_map],⟨L,rfl,by rw [List.length_map];exact hset.mix⟩,HS.out.md,HS.out.below.setCell (p:=⟨w.heap.size,0,none⟩) (Nat.le_refl _) _⟩
  ·obtain rfl:i=n:=by omega
   have r2:=HS.out.rbx.cells 0
   go_wp2_with fail
   have hset:=HS.out.row.box (World.grownBy.set' (i:=0) ⟨rfl,rfl,rfl,Nat.le_refl _,fun _ _ _=>rfl⟩ (.slice a2 L.length c2)) (.inl rfl)
   have hcc:=Bxx.c0 (heap_set_at 0 (.slice a2 L.length c2) HS.out.rbx)
   exact bodyPost_ret (v:=.agg #[.slice a2 L.length c2]) (by simp [results,Tryz.results14,go_sem,hcc]) rfl ⟨L.map Prod.snd,a2,c2,by rw [List.length_map],⟨L,rfl,by rw [List.length_map];exact hset.mix⟩,HS.out.md,HS.out.below.setCell (p:=⟨w.heap.size,0,none⟩) (Nat.le_refl _) _⟩
end Go.Proofs.YthjnojbeimchdaaGreat
namespace Go.Proofs.YthjnojbeimchdaaGreat
open Go.RowKit Go.Maps Kal
theorem sh_fv {s b:Int} {p:Per} (h:FV s p) (he:shE p b=0):FV (max (s+b) 0) (shP p b):=by
 refine ⟨(shP_any h.fac).2,?_⟩
 unfold shE at he
 split at he
 ·cases he
 ·split at he
  ·assumption
  ·cases he
set_option maxRecDepth 100000 in
set_option maxHeartbeats 1000000 in
theorem Shift_arg (h c:Value) (p:Per) (b:Int) (w:World) (hp:PerIs w h c p) (hv:Valid p) (hbad:b < -1099511627776∨1099511627776<b) :
  Calls Tryz.prog 93 #[perV h c p.frm p.period,.int .i64 b] w (PerErr 1 w):=by
 have hl:∀ W,Below w.heap.size w W→PerIs W h c p:=fun W hb=>hp.ext hb
 have HV:=Lib.hid ((validB_iff p).2 hv)
 clear hp hv
 rcases hbad with hlo|hhi
 all_goals
  go_enter Tryz.func93,Tryz.ntmps93
  go_wp2_with (go_at_call 65;refine (valid_any h c p _ (hl _ xE)).mono ?_;rintro e w1 ⟨he,hb1⟩;rw [HV.out] at he;subst he;obtain ⟨hc1,hf1⟩:=bcell hb1;(try simp only [World.size_alloc,World.size_drew,size_drewN,World.size_setCell] at hc1 hf1);have hz1:=hb1.size;(try simp only [World.size_alloc,World.size_drew,size_drewN,World.size_setCell] at hz1);have hz1':w.heap.size+1<w1.heap.size:=by omega)
  refine bodyPost_ret (v:=.tuple #[perV (.slice none 0 0) (.slice none 0 0) 0 0,.int .i64 1]) ?_ rfl ⟨rfl,xE⟩
  simp [results,Tryz.results93,go_sem, *]
theorem Shift_fv (s b:Int) (h c:Value) (p:Per) (w:World) (hp:PerIs w h c p) (hv:FV s p) (hb:InI b) :
  Calls Tryz.prog 93 #[perV h c p.frm p.period,.int .i64 b] w fun e w'=>(shE p b=0∧PerOk (shP p b) w e w')∨(∃ k,(k=1∨k=2)∧shE p b=k∧PerErr k w e w'):=by
 by_cases hr:b < -1099511627776∨1099511627776<b
 ·refine (Shift_arg h c p b w hp hv.valid hr).mono fun e w' h=>.inr ⟨1,.inl rfl,if_pos hr,h⟩
 ·refine (Shift_ok h c p (shP p b) b w hp hv.valid (by omega) (by omega) ?_).mono fun e w' h=>?_
  ·exact (shP_any hv.fac).1.congr fun n=>by unfold shS shiftS;exact Iff.rfl
  ·by_cases hf:(shP p b).frm≤1099511627776
   ·exact .inl ⟨by unfold shE;rw [if_neg hr,if_pos hf],h.1 hf⟩
   ·exact .inr ⟨2,.inr rfl,by unfold shE;rw [if_neg hr,if_neg hf],h.2 (by omega)⟩
def ShRes (s b:Int) (m:List (List Per)) (w:World) (e:Ending) (w':World):Prop:=
 ((
  ∀ t∈m,∀ p∈t,shE p b=0)∧NormRes (max (s+b) 0) (shL m b) w e w') ∨
  ∃ k,(∃ t∈m,∃ p∈t,shE p b=k)∧k≠0∧e=.returned (.tuple #[.agg #[.slice none 0 0],.int .i64 k])∧Below w.heap.size w w'
noncomputable def shRow (t:List Per) (b:Int) (i:Nat):List Per:=(t.take i).map (fun p=>shP p b) ++ List.replicate (t.length-i) ⟨[],0,0,[]⟩
theorem shRow_set {t:List Per} {b:Int} {i:Nat} (h:i<t.length) {p:Per} (hp:t.getD i default=p):(shRow t b i).set i (shP p b)=shRow t b (i+1):=by
 have hl:((t.take i).map (fun p=>shP p b)).length=i:=by simp;omega
 unfold shRow
 rw [List.set_append_right _ _ (by omega),hl,Nat.sub_self,show t.length-i=(t.length-(i+1))+1 by omega,List.replicate_succ,List.set_cons_zero,List.take_succ_eq_append_getElem h,List.map_append,List.append_assoc]
 have:t[i]=p:=by rw [← hp,List.getD_eq_getElem?_getD,List.getElem?_eq_getElem h];rfl
 rw [this];rfl
theorem shRow_all {t:List Per} {b:Int}:shRow t b t.length=t.map fun p=>shP p b:=by unfold shRow;simp
structure SS (s b:Int) (m:List (List Per)) (w:World) (j:Nat) (lv:Value) (Lk:List (Value × List Per)) (W:World):Prop where
 below:Below w.heap.size w W
 rbx:Bxx W (w.heap.size+1) #[.slice none 0 0] 28
 row:RowT w.heap.size (fun k=>k=w.heap.size∨k=w.heap.size+1) W lv Lk
 own:∀ g,lv.ownBlock=some g→w.heap.size+2≤g
 eq:Lk.map Prod.snd=shL (m.take j) b
 ok:∀ t∈m.take j,∀ p∈t,shE p b=0
theorem SS.ext {s b:Int} {m:List (List Per)} {w:World} {j:Nat} {lv:Value} {Lk:List (Value × List Per)} {W W':World} (h:SS s b m w j lv Lk W) (hb:Below W.heap.size W W'):SS s b m w j lv Lk W':=
 ⟨h.below.trans (hb.mono h.below.size),h.rbx.below hb,h.row.below hb,h.own,h.eq,h.ok⟩
theorem shL_len {m:List (List Per)} {b:Int}:(shL m b).length=m.length:=by unfold shL;simp
theorem sh_vt {s b:Int} {m:List (List Per)} (k:MV s m) (h:∀ t∈m,∀ p∈t,shE p b=0):∀ t∈shL m b,VTerm (max (s+b) 0) t:=fun t ht=>by
 obtain ⟨u,hu,rfl⟩:=List.mem_map.1 ht
 have hv:=k.vt u hu
 refine ⟨fun e=>hv.ne (List.map_eq_nil_iff.1 e),fun p hp=>?_,by simpa using hv.len⟩
 obtain ⟨q,hq,rfl⟩:=List.mem_map.1 hp
 exact sh_fv (hv.fv q hq) (h u hu q hq)
set_option maxRecDepth 100000 in
set_option maxHeartbeats 4000000 in
theorem mshift_any (s b:Int) (F:Nat→Prop) (v:Value) (m:List (List Per)) (w:World) (hm:MixR w F v m) (k1:MV s m) (hb:InI b) :
  Calls Tryz.prog 50 #[.agg #[v],.int .i64 b] w (ShRes s b m w):=by
 have HV1:=fun W (h:Below w.heap.size w W)=>mvalid_any F v m W (hm.ext h)
 rw [k1.val] at HV1
 have l1:=k1.len
 obtain ⟨a1,c1,rfl⟩:=hm.form
 have HM1:=Lib.hid hm
 have HK1:=Lib.hid k1
 have HBI:=Lib.hid hb
 obtain ⟨bi,hbi,hbz,hbs,hby⟩:=perInfo
 clear hm k1 hb
 go_enter Tryz.func50,Tryz.ntmps50
 go_wp2_with ((go_at_call 18;go_loud ((with_reducible refine (HV1 _ (Ea (Ea (Er w) _) _)).mono ?_);rintro e w1 ⟨rfl,hb1⟩;have b0:Bxx w1 w.heap.size #[.slice a1 m.length c1] 28:=Bxx.below xB hb1;have b1:Bxx w1 (w.heap.size+1) #[.slice none 0 0] 28:=Bxx.below xB hb1;have x0:=b0.c0;have hW1:Below w.heap.size w w1:=Et (Ea (Ea (Er w) _) _) hb1;have HB0:=Lib.hid b0;have HB1:=Lib.hid b1;clear b0 b1)))
 have hss:SS s b m w 0 (.slice none 0 0) [] w1:=⟨hW1,HB1.out,RowT.nil _ _ _,by simp [Value.ownBlock],rfl,by simp⟩
 have HSS:=Lib.hid hss
 have HW1:=Lib.hid hW1
 clear hss hW1 hb1 HV1
 go_loopw [5,6,8,9,10,11,12,13,21] (fun s5 lv _ _ _ _ _ _ idx wq=>∃ (j:Nat) (la:Option Addr) (lc:Nat) (Lk:List (Value × List Per)),j≤m.length∧s5=.int .i64 0∧idx=.int .i64 j∧lv=.slice la Lk.length lc∧Hid (SS s b m w j (.slice la Lk.length lc) Lk wq)) (fun _ _ _ _ _ _ _ _ idx _=>m.length-(intOf idx).toNat)
 case atStart=>exact ⟨0,none,0,[],by omega,rfl,rfl,rfl,HSS⟩
 case round=>
  obtain ⟨j,la,lc,Lk,hj,rfl,rfl,rfl,HS⟩:=hrel
  obtain ⟨wo,hwo⟩:∃ wo,wo=wr:=⟨_,rfl⟩
  subst hwo
  by_cases hjl:j<m.length
  ·have hjI:(j:Int)<m.length:=by omega
   obtain ⟨L2,hL2,hml⟩:=HM1.out.ext HS.out.below
   have hl2:L2.length=m.length:=by rw [← hL2,List.length_map]
   obtain ⟨b8,f8,c8,ta,tn,tc,t,he,e0,htt,hmt⟩:=hml.at (show j<L2.length by omega)
   injection he with q1 q2 q3
   subst q1;subst q3
   rw [hL2] at hmt
   obtain ⟨tL,htL,htl⟩:=htt
   obtain ⟨_,_,he,_⟩:=htl.row.is
   have htn:tn=t.length:=by injection he with _ h _;rw [h,← htL,List.length_map]
   have htn4:tn≤4:=by rw [htn];exact HK1.out.tlen t (List.mem_of_getElem? hmt)
   have HTN:=Lib.hid htn
   have HMT:=Lib.hid hmt
   have HTL:=Lib.hid htl
   have HTE:=Lib.hid htL
   clear q2 hml hmt hL2 hl2 htl he htn htL
   go_wp2_with (at_make;refine wpList_make_full _ rfl _ _ 36 rfl wo.heap.size 39 bi (.agg #[.slice none 0 0,.int .i64 0,.int .i64 0,.slice none 0 0]) 4 Tryz.underlying36 hbi hbz hbs .i64 .i64 _ _ tn rfl rfl rfl rfl (by rw [hby];omega) (by unfold maxLen;omega) (by simp) ?_;intro w3 hown3 hgrow3;have hb3:Below wo.heap.size wo w3:=((Below.refl _ _).grown hgrow3 (by simp) (fun k e=>by cases e)))
   rw [madePer] at hown3
   have hrow0:Row4 wo.heap.size wo.heap.size tn w3 (List.replicate tn (default:PV)):=⟨by rw [List.length_replicate];exact hown3,fun x hx=>by rw [List.eq_of_mem_replicate hx];exact default_ok _ _,by simp,by omega⟩
   have HR0:=Lib.hid hrow0
   have HB3:=Lib.hid hb3
   clear hown3 hgrow3 hrow0 hb3
   go_loopw [5,10,11,12,13,30] (fun s5 _ _ _ _ idx wq=>∃ (i:Nat) (M:List PV),i≤tn∧s5=.int .i64 0∧idx=.int .i64 i∧Hid (M.length=tn)∧Hid (M.map PV.p=shRow t b i)∧Hid (Row4 wo.heap.size wo.heap.size tn wq M)∧Hid (Below wo.heap.size wo wq)∧Hid (∀ p∈t.take i,shE p b=0)) (fun _ _ _ _ _ idx _=>tn-(intOf idx).toNat)
   case atStart=>exact ⟨0,_,by omega,rfl,rfl,Lib.hid (by simp),Lib.hid (by unfold shRow;rw [HTN.out];simp [show (default:PV).p=⟨[],0,0,[]⟩ from rfl]),HR0,HB3,Lib.hid (by simp)⟩
   case round=>
    obtain ⟨i,M,hi,rfl,rfl,HLE,HEQ,HR,HBQ,HOK⟩:=hrel
    by_cases hil:i<tn
    ·have hiI:(i:Int)<tn:=by omega
     have htl2:=HTL.out.keep (KeepF.below HBQ.out) HBQ.out.size
     have htLl:tL.length=tn:=by have:=congrArg List.length HTE.out;rw [List.length_map] at this;rw [this];exact HTN.out.symm
     obtain ⟨bt,ot,x,ha,hx,hxp,_,z0,z1,z2,z3⟩:=htl2.get (show i<tL.length by omega)
     subst ha
     have hfx:=(HK1.out.vt t (List.mem_of_getElem? HMT.out)).fv x.p (by rw [hxp,HTE.out];exact getD_mem' (by rw [← HTN.out];exact hil))
     have hxg:t.getD i default=x.p:=by rw [hxp,HTE.out]
     obtain ⟨xh,xc,xp⟩:=x
     obtain ⟨ax1,nx1,cx1,ax2,nx2,cx2,rfl,rfl⟩:=hx.form
     dsimp only at z0 z1 z2 z3 hfx hxg
     have HSH:=fun W (h:Below wr.heap.size wr W)=>Shift_fv s b _ _ xp W (hx.is.ext h) hfx HBI.out
     simp only [perV] at HSH
     have HFX:=Lib.hid hfx
     have HXG:=Lib.hid hxg
     have hle:=HR.out.le
     clear htl2 htLl hx hxp hfx hxg
     go_wp2_with (go_at_call 93;go_loud ((with_reducible refine (HSH _ (Ea (Er wr) _)).mono ?_);rintro e w7 h7;rcases h7 with ⟨he0,h',c',rfl,ho,hb7⟩|⟨k,hk,hek,rfl,hb7⟩;(obtain ⟨ya,yn,yc,za,zn,zc,rfl,rfl⟩:=(ho.pv (sh_fv HFX.out he0)).form;have hpv:=ho.pv (sh_fv HFX.out he0);have hE7:Below wr.heap.size wr w7:=Et (Ea (Er wr) _) hb7;obtain ⟨-,g0,g1,g2,g3,g4⟩:=((HR.out.below hE7).below (Ea (Er w7) (.cells #[.slice ya yn yc,.int .i64 (shP xp b).frm,.int .i64 (shP xp b).period,.slice za zn zc] 39))).get (show i<M.length by have:=HLE.out;omega);have HPV:=Lib.hid hpv;have HE7:=Lib.hid hE7;have HE0:=Lib.hid he0;clear ho hpv hE7 he0 hb7);rotate_left;(have hE7:Below wo.heap.size wo w7:=Et (Ea HBQ.out _) hb7;have hbx:=(HS.out.rbx.below hE7).alloc (.cells #[.slice none 0 0,.int .i64 0,.int .i64 0,.slice none 0 0] 39);have x5:=hbx.cells 0;have HBX:=Lib.hid hbx;have HE7:=Lib.hid hE7;clear hbx hE7 hb7;rcases hk with rfl|rfl)))
     ·have hcc:=Bxx.c0 (heap_set_at 0 (.slice none 0 0) HBX.out)
      refine bodyPost_ret (v:=.tuple #[.agg #[.slice none 0 0],.int .i64 1]) (by simp [results,Tryz.results50,go_sem,hcc]) rfl (.inr ⟨1,?_,by decide,rfl,?_⟩)
      ·exact ⟨t,List.mem_of_getElem? HMT.out,xp,HXG.out ▸ getD_mem' (by rw [← HTN.out];exact hil),hek⟩
      ·exact ((HS.out.below.trans ((Ea HE7.out (.cells #[.slice none 0 0,.int .i64 0,.int .i64 0,.slice none 0 0] 39)).mono HS.out.below.size)).setCell (p:=⟨w.heap.size+1,0,none⟩) (show w.heap.size≤w.heap.size+1 by omega) _)
     ·have hcc:=Bxx.c0 (heap_set_at 0 (.slice none 0 0) HBX.out)
      refine bodyPost_ret (v:=.tuple #[.agg #[.slice none 0 0],.int .i64 2]) (by simp [results,Tryz.results50,go_sem,hcc]) rfl (.inr ⟨2,?_,by decide,rfl,?_⟩)
      ·exact ⟨t,List.mem_of_getElem? HMT.out,xp,HXG.out ▸ getD_mem' (by rw [← HTN.out];exact hil),hek⟩
      ·exact ((HS.out.below.trans ((Ea HE7.out (.cells #[.slice none 0 0,.int .i64 0,.int .i64 0,.slice none 0 0] 39)).mono HS.out.below.size)).setCell (p:=⟨w.heap.size+1,0,none⟩) (show w.heap.size≤w.heap.size+1 by omega) _)
     ·go_roundw
      case rel=>
       have hal:Below w7.heap.size w7 (w7.alloc (.cells #[.slice ya yn yc,.int .i64 (shP xp b).frm,.int .i64 (shP xp b).period,.slice za zn zc] 39)):=Ea (Er _) _
       have hil2:i<t.length:=by rw [← HTN.out];exact hil
       have hwl:=HR.out.le
       have hr9:=((HR.out.below HE7.out).below hal).set (x:=⟨.slice ya yn yc,.slice za zn zc,shP xp b⟩) (show i<M.length by have:=HLE.out;omega) ((HPV.out.keep (KeepF.below hal)).mono fun k hk=>by have h1:=hk.1;rw [World.size_alloc] at h1;exact ⟨by omega,by omega⟩)
       refine ⟨i+1,_,by omega,rfl,by go_num,Lib.hid (by rw [List.length_set];exact HLE.out),Lib.hid ?_,Lib.hid hr9,Lib.hid ((Ea (Et HBQ.out HE7.out) _).trans (below_set4 _ (Nat.le_refl _) _ _ _ _)),Lib.hid fun p hp=>?_⟩
       ·rw [List.map_set,HEQ.out];exact shRow_set hil2 HXG.out
       ·rw [List.take_succ_eq_append_getElem hil2] at hp
        rcases List.mem_append.1 hp with hp|hp
        ·exact HOK.out p hp
        ·rw [List.mem_singleton] at hp
         have h1:=HXG.out
         rw [List.getD_eq_getElem?_getD,List.getElem?_eq_getElem hil2] at h1
         rw [hp,show t[i]=xp from h1];exact HE0.out
      case measure=>simp [intOf];omega
    ·obtain rfl:i=tn:=by omega
     have hbz:=HS.out.rbx.lt
     have hown:=HS.out.row.row.lt
     have htt:TermR wr (fun k=>wo.heap.size≤k) (.slice (some ⟨wo.heap.size,0,none⟩) i i) (t.map fun p=>shP p b):=⟨M,by rw [HEQ.out,HTN.out];exact shRow_all,by have h:=HR.out.term;rwa [HLE.out] at h⟩
     have HROW:=Lib.hid (fun W (h:Below wr.heap.size wr W)=>(htt.ext h).fresh (B:=w.heap.size) (v:=.slice la Lk.length lc) (by omega) (fun g hg=>(hown g hg).2))
     have hlk:Lk.length=j:=by have h:=congrArg List.length HS.out.eq;rw [List.length_map,shL_len,List.length_take] at h;omega
     have hwl:=HR.out.le
     clear htt hown
     go_wp2_with (at_builtin;go_loud (refine append_term (by rfl) _ _ (by rfl) w.heap.size (fun k=>k=w.heap.size∨k=w.heap.size+1) (.slice la Lk.length lc) Lk (.slice (some ⟨wo.heap.size,0,none⟩) i i,t.map fun p=>shP p b) (by rfl) (HS.out.row.below (Ea HBQ.out _)) (HROW.out _ (Ea (Er _) _)) _ _ (by rfl) (by simp) (by simp;omega) (by omega) (by simp;omega) ?_;intro ga gc w8 hr8 hg8 hb8 hbo8;have HR8:=Lib.hid hr8;have HG8:=Lib.hid hg8;have HB8:=Lib.hid hb8;have HBO8:=Lib.hid hbo8;clear hr8 hg8 hb8 hbo8))
     go_roundw
     case rel=>
      have hjt:j+1≤m.length:=by omega
      obtain ⟨h1,h2⟩:=List.getElem?_eq_some_iff.1 HMT.out
      have hle:(Lk ++ [((Value.slice (some ⟨wo.heap.size,0,none⟩) i i),t.map fun p=>shP p b)]).length=Lk.length+1:=by simp
      refine ⟨j+1,ga,gc,Lk ++ [((Value.slice (some ⟨wo.heap.size,0,none⟩) i i),t.map fun p=>shP p b)],by omega,rfl,by go_num,by rw [hle,hlk],Lib.hid ⟨?_,?_,by rw [hle];exact HR8.out,fun g hg=>?_,?_,fun u hu p hp=>?_⟩⟩
      ·exact (HS.out.below.trans ((Ea HBQ.out _).mono HS.out.below.size)).trans HB8.out
      ·exact ((HS.out.rbx.below HBQ.out).alloc _).grown HG8.out (fun e=>HS.out.row.ne _ e.symm (.inr rfl))
      ·rw [hle] at hg
       rcases HBO8.out with e|e
       ·exact HS.out.own g (e ▸ hg)
       ·rw [e] at hg;cases hg;simp;omega
      ·unfold shL
       rw [List.map_append,HS.out.eq,List.take_succ_eq_append_getElem h1,List.map_append,h2];rfl
      ·rw [List.take_succ_eq_append_getElem h1] at hu
       rcases List.mem_append.1 hu with hu|hu
       ·exact HS.out.ok u hu p hp
       ·rw [List.mem_singleton,h2] at hu
        subst hu
        exact HOK.out p (by rw [List.take_of_length_le (by rw [← HTN.out];exact Nat.le_refl _)];exact hp)
     case measure=>simp [intOf];omega
  ·obtain rfl:j=m.length:=by omega
   have hmx:MixR wo (fun _=>True) (.slice la Lk.length lc) (shL m b):=⟨Lk,by rw [HS.out.eq,List.take_of_length_le (Nat.le_refl _)],HS.out.row.mix.mono fun _ _=>trivial⟩
   have hok:∀ t∈m,∀ p∈t,shE p b=0:=by have h:=HS.out.ok;rwa [List.take_of_length_le (Nat.le_refl _)] at h
   have HNO:=Lib.hid (normal_any (max (s+b) 0) _ _ (shL m b) _ (values_seq (fun _=>True) (.slice la Lk.length lc) (shL m b) wo.heap.size (wo.alloc (.cells #[.slice la Lk.length lc] 26)) (hmx.ext (Ea (Er wo) _)) (Bxx.new wo #[.slice la Lk.length lc] 26).c0) (sh_vt HK1.out hok) (by rw [shL_len];omega))
   have HOK:=Lib.hid hok
   have hbz:=HS.out.rbx.lt
   clear hmx hok
   go_wp2_with (first|(go_at_call 61;refine (values_any _ _ ⟨_,_,_,rfl⟩).mono ?_;rintro e w4 ⟨rfl,rfl⟩)|(go_at_call 68;go_loud (refine HNO.out.mono ?_;rintro e w5 ⟨v,mk,hN,hvt,hb5,hres⟩;have hW5:Below wo.heap.size wo w5:=Et (Ea (Er wo) _) hb5;have g2:=HS.out.rbx.below hW5;have s1:=(g2.cells 0).1;have s2:=(g2.cells 0).2;have HN:=Lib.hid hN;have HVV:=Lib.hid hvt;have G2:=Lib.hid g2;have HW5:=Lib.hid hW5;clear hN hvt g2 hW5 hb5;rcases hres with ⟨hval,rfl,hmr⟩|⟨hval,rfl⟩;(obtain ⟨xa,xc,rfl⟩:=hmr.form))))
   ·have hcc:=Bxx.c0 (w:=w5.setCell ⟨w.heap.size+1,0,none⟩ (.slice xa mk.length xc)) (heap_set_at 0 (.slice xa mk.length xc) G2.out)
    refine bodyPost_ret (v:=.tuple #[.agg #[.slice xa mk.length xc],.int .i64 0]) (by simp [results,Tryz.results50,go_sem,hcc]) rfl (.inl ⟨HOK.out,_,mk,HN.out,HVV.out,(HS.out.below.trans (HW5.out.mono HS.out.below.size)).setCell (p:=⟨w.heap.size+1,0,none⟩) (by show w.heap.size≤w.heap.size+1;omega) _,.inl ⟨hval,rfl,?_⟩⟩)
    exact (hmr.set (b:=w.heap.size+1) (by simp;omega)).mono fun k (hk:_≤k)=>by simp at hk;omega
   ·have hcc:=Bxx.c0 (w:=w5.setCell ⟨w.heap.size+1,0,none⟩ (.slice none 0 0)) (heap_set_at 0 (.slice none 0 0) G2.out)
    exact bodyPost_ret (v:=.tuple #[.agg #[.slice none 0 0],.int .i64 2]) (by simp [results,Tryz.results50,go_sem,hcc]) rfl (.inl ⟨HOK.out,.slice none 0 0,mk,HN.out,HVV.out,(HS.out.below.trans (HW5.out.mono HS.out.below.size)).setCell (p:=⟨w.heap.size+1,0,none⟩) (by show w.heap.size≤w.heap.size+1;omega) _,.inr ⟨hval,rfl⟩⟩)
end Go.Proofs.YthjnojbeimchdaaGreat
namespace Go.Proofs.YthjnojbeimchdaaGreat
open Go.RowKit Go.Maps Kal
theorem hasM_iff {s:Int} {m:List (List Per)} (h:MV s m) {n:Int}:hasM m n=true↔mmem m n:=by
 unfold hasM mmem
 rw [h.val,Bool.true_and,List.any_eq_true]
 exact ⟨fun ⟨t,ht,h1⟩=>⟨t,ht,(inB_iff fun p hp=>((h.vt t ht).fv p hp).validB).1 h1⟩,fun ⟨t,ht,h1⟩=>⟨t,ht,(inB_iff fun p hp=>((h.vt t ht).fv p hp).validB).2 h1⟩⟩
theorem MV.f {s:Int} {m:List (List Per)} (h:MV s m):∀ t∈m,FTerm s t:=fun t ht=>(h.vt t ht).f
def LawRes (s:Int) (S:Int→Prop) (w:World) (e:Ending) (w':World):Prop:=
 ∃ (a:Option Addr) (c:Nat) (k:Int) (m:List (List Per)),e=.returned (.tuple #[.agg #[.slice a m.length c],.int .i64 k])∧MixR w' (fun _=>True) (.slice a m.length c) m∧Below w.heap.size w w'∧(k=0∨k=2)∧(k=0→MV s m∧∀ n,mmem m n↔S n)
theorem NormRes.law {s:Int} {T:List (List Per)} {w w':World} {e:Ending} (h:NormRes s T w e w') (hf:∀ t∈T,FTerm s t):LawRes s (mmem T) w e w':=by
 obtain ⟨a,c,k,mk,rfl,h1,h2,⟨rfl,h3,h4⟩|⟨rfl,_⟩⟩:=h.num
 ·exact ⟨a,c,0,mk,rfl,h1.mono fun _ _=>trivial,h2,.inl rfl,fun _=>⟨h4,(h3.ok hf).2.1⟩⟩
 ·exact ⟨a,c,2,mk,rfl,h1.mono fun _ _=>trivial,h2,.inr rfl,fun h=>absurd h (by decide)⟩
theorem MinRes.law {s:Int} {m1 m2:List (List Per)} {w w':World} {e:Ending} (h:MinRes s m1 m2 w e w') (k1:MV s m1) (k2:MV s m2):LawRes s (fun n=>mmem m1 n∧¬ mmem m2 n) w e w':=by
 obtain ⟨v,r,h1,h2,⟨k,rfl,h3,rfl,h5⟩|⟨rfl,rfl⟩⟩:=h
 ·obtain ⟨a,c,rfl⟩:=h5.form
  exact ⟨a,c,0,k,rfl,h5.mono fun _ _=>trivial,h2,.inl rfl,fun _=>⟨h3,(h1.ok k1.f k2.f).2⟩⟩
 ·exact ⟨none,0,2,[],rfl,mix_nil _,h2,.inr rfl,fun h=>absurd h (by decide)⟩
theorem or_law (s:Int) (F1 F2:Nat→Prop) (v1 v2:Value) (m1 m2:List (List Per)) (w:World) (h1:MixR w F1 v1 m1) (h2:MixR w F2 v2 m2) (k1:MV s m1) (k2:MV s m2) :
  Calls Tryz.prog 21 #[.agg #[v1],.agg #[v2]] w (LawRes s (fun n=>mmem m1 n∨mmem m2 n) w):=
 (mor_any s F1 F2 v1 v2 m1 m2 w h1 h2 k1 k2).mono fun e w' h=>by
  obtain ⟨a,c,k,m,e1,e2,e3,e4,e5⟩:=h.law fun t ht=>(List.mem_append.1 ht).elim (k1.f t) (k2.f t)
  exact ⟨a,c,k,m,e1,e2,e3,e4,fun hk=>⟨(e5 hk).1,fun n=>((e5 hk).2 n).trans mmem_append⟩⟩
theorem and_law (s:Int) (F1 F2:Nat→Prop) (v1 v2:Value) (m1 m2:List (List Per)) (w:World) (h1:MixR w F1 v1 m1) (h2:MixR w F2 v2 m2) (k1:MV s m1) (k2:MV s m2) :
  Calls Tryz.prog 22 #[.agg #[v1],.agg #[v2]] w (LawRes s (fun n=>mmem m1 n∧mmem m2 n) w):=
 (mand_any s F1 F2 v1 v2 m1 m2 w h1 h2 k1 k2).mono fun e w' h=>by
  obtain ⟨a,c,k,m,e1,e2,e3,e4,e5⟩:=h.law (pairs_fterm k1.f k2.f)
  exact ⟨a,c,k,m,e1,e2,e3,e4,fun hk=>⟨(e5 hk).1,fun n=>((e5 hk).2 n).trans mmem_pairs⟩⟩
theorem minus_law (s:Int) (F1 F2:Nat→Prop) (v1 v2:Value) (m1 m2:List (List Per)) (w:World) (h1:MixR w F1 v1 m1) (h2:MixR w F2 v2 m2) (k1:MV s m1) (k2:MV s m2) :
  Calls Tryz.prog 23 #[.agg #[v1],.agg #[v2]] w (LawRes s (fun n=>mmem m1 n∧¬ mmem m2 n) w):=
 (mminus_any s F1 F2 v1 v2 m1 m2 w h1 h2 k1 k2).mono fun e w' h=>h.law k1 k2
end Go.Proofs.YthjnojbeimchdaaGreat
/- The arguments of the laws: a struct Raw that reads as data is opened; what the rows ask beside the walk. -/
namespace Go.Proofs.YthjnojbeimchdaaGreat
open Go.ChangeShapes Go.WideShapes Go.ChangeAt Go.RowKit Go.Joins Kal
section
variable {H:Type} {enc:TypeId × Value→H} {w:World} {base:Nat} {spare:Nat→Bool} {held:Bool}
theorem bytes_of {n:Nat} {v:Value} {y:DataW H × List MemPlace} (h:DataW.trod enc Tryz.prog w base spare held n 68 [v]=some y):∃ l,Bytes w v l:=by
 rcases open_ints Tryz.underlying68 Tryz.underlying5 (by kernel_rfl) h with ⟨hcs,_⟩|⟨a,len,cap,zs,hcs,_,hl,hm,hz,_,hcell,hwz⟩
 ·simp at hcs
  subst hcs
  exact ⟨[],⟨none,0,rfl,.inl rfl⟩,by simp,by simp⟩
 ·simp at hcs
  subst hcs
  have hlz:len≤zs.length:=by rw [hz];split <;> omega
  have hlen:(zs.take len).length=len:=by rw [List.length_take];omega
  refine ⟨zs.take len,⟨some a,cap,by rw [hlen],?_⟩,?_,?_⟩
  ·by_cases h0:len=0
   ·exact .inl (by rw [h0];rfl)
   ·refine .inr ?_
    obtain ⟨b,off,spot⟩:=a
    have hc:=hcell 0 (by omega)
    have hspot:spot=none:=by simpa [Addr.add] using World.cell?_spot hc
    subst hspot
    refine ⟨b,off,rfl,fun i hi=>?_⟩
    rw [hlen] at hi
    have h9:=hcell i (by omega)
    have e:(zs.take len).getD i 0=zs.getD i 0:=by
     rw [List.getD_eq_getElem?_getD,List.getD_eq_getElem?_getD,List.getElem?_take_of_lt hi]
    rw [e]
    have e2:(⟨b,off,none⟩:Addr).add i=⟨b,off+i,none⟩:=by
     rcases Nat.eq_zero_or_pos i with h|h
     ·subst h;simp [Addr.add]
     ·simp [Addr.add];omega
    rwa [e2] at h9
  ·rw [hlen];unfold maxLen at hm;omega
  ·intro x hx
   exact bounds_u8 (hwz x (List.mem_of_mem_take hx))
end
end Go.Proofs.YthjnojbeimchdaaGreat
namespace Go.Proofs.YthjnojbeimchdaaGreat
open Go.ChangeShapes Go.WideShapes Go.ChangeAt Go.RowKit Go.Joins Kal
section
variable {H:Type} {enc:TypeId × Value→H} {w:World} {base:Nat} {spare:Nat→Bool} {held:Bool}
set_option maxRecDepth 100000 in
theorem open_rows {r:Reach} {b0:Nat} {v:Value} {d:DataW H} {p:List MemPlace} (hv:Value.okWide Tryz.prog w r b0 22 v) (h:DataW.Trod enc Tryz.prog w base spare held 22 v d p):∃ n,ByteRows w v n:=by
 obtain ⟨a,len,cap,rfl⟩:=okWide_slice Tryz.underlying22 hv
 obtain ⟨fuel,hf⟩:=h
 have hf:DataW.trod enc Tryz.prog w base spare held fuel 22 [.slice a len cap]=some (d,p):=hf
 rcases Go.Deep.open_slice1 Tryz.underlying22 (by kernel_rfl) hf with ⟨hcs,_⟩|⟨a',len',cap',m,n,V,D,Pl,hcs,_,hl,hm,hmm,_,hx⟩
 ·simp only [List.cons.injEq,Value.slice.injEq,and_true] at hcs
  obtain ⟨rfl,rfl,rfl⟩:=hcs
  exact ⟨0,⟨none,0,rfl,.inl rfl⟩,by omega⟩
 ·simp only [List.cons.injEq,Value.slice.injEq,and_true] at hcs
  obtain ⟨rfl,rfl,rfl⟩:=hcs
  have hlm:len≤m:=by rw [hmm];split <;> omega
  refine ⟨len,⟨some a',cap,rfl,?_⟩,by unfold maxLen at hm;omega⟩
  by_cases h0:len=0
  ·exact .inl h0
  ·refine .inr ?_
   obtain ⟨b,off,spot⟩:=a'
   have hc:=(hx 0 (by omega)).1
   have hspot:spot=none:=by simpa [Addr.add] using World.cell?_spot hc
   subst hspot
   refine ⟨b,off,rfl,fun i hi=>?_⟩
   obtain ⟨h1,h2⟩:=hx i (by omega)
   obtain ⟨l,hb⟩:=bytes_of h2
   have e2:(⟨b,off,none⟩:Addr).add i=⟨b,off+i,none⟩:=by
    rcases Nat.eq_zero_or_pos i with h|h
    ·subst h;simp [Addr.add]
    ·simp [Addr.add];omega
   rw [e2] at h1
   exact ⟨V i,l,h1,hb⟩
end
end Go.Proofs.YthjnojbeimchdaaGreat
namespace Go.Proofs.YthjnojbeimchdaaGreat
open Go.RowKit Go.Shelf Kal
attribute [local go_sem] Oper.semAt_some
def NextIs (S:Int→Prop) (d n:Int) (b:Bool):Prop:=(b=true∧d≤n∧S n∧∀ x,d≤x→x<n→¬ S x)∨(b=false∧n=0∧∀ x,d≤x→¬ S x)
theorem NextIs.unique {S:Int→Prop} {d n m:Int} {a b:Bool} (h1:NextIs S d n a) (h2:NextIs S d m b):n=m∧a=b:=by
 rcases h1 with ⟨rfl,h3,h4,h5⟩|⟨rfl,rfl,h3⟩ <;> rcases h2 with ⟨rfl,k3,k4,k5⟩|⟨rfl,rfl,k3⟩
 ·refine ⟨?_,rfl⟩
  rcases Int.lt_or_le n m with h|h
  ·exact absurd h4 (k5 n h3 h)
  ·rcases Int.lt_or_le m n with h'|h'
   ·exact absurd k4 (h5 m k3 h')
   ·omega
 ·exact absurd h4 (k3 n h3)
 ·exact absurd k4 (h3 m k3)
 ·exact ⟨rfl,rfl⟩
structure NxI (w:World) (r1 r2:Nat) (v1 v2:Value) (W:World):Prop where
 below:Below w.heap.size w W
 b1:Bxx W r1 #[v1] 3
 b2:Bxx W r2 #[v2] 4
theorem NxI.grow {w:World} {r1 r2:Nat} {v1 v2:Value} {W W':World} {row:Option Nat} (h:NxI w r1 r2 v1 v2 W) (hg:W.grownBy W' row)
  (hr:∀ r,row=some r→w.heap.size≤r∧((r≠r1∧r≠r2)∨∃ o:Obj,W.heap[r]? = some o∧o.isCells=false)):NxI w r1 r2 v1 v2 W':=by
 have key:∀ {b:Nat} {c:Array Value} {t:TypeId},Bxx W b c t→(b=r1∨b=r2)→Bxx W' b c t:=fun {b c t} hx hbo=>by
  refine (hg.block b hx.lt fun e=>?_).trans hx
  obtain ⟨_,h1|⟨o,ho,hc⟩⟩:=hr b e.symm
  ·rcases hbo with rfl|rfl <;> simp at h1
  ·rw [show W.heap[b]? = _ from hx] at ho;cases ho;cases hc
 exact ⟨h.below.grown hg h.below.size (fun k e=>(hr k e).1),key h.b1 (.inl rfl),key h.b2 (.inr rfl)⟩
def NextRes (S:Int→Prop) (d:Int) (w:World) (e:Ending) (w':World):Prop:=∃ (n:Int) (b:Bool),e=.returned (.tuple #[.int .i64 n,.bool b])∧NextIs S d n b∧Below w.heap.size w w'
set_option maxRecDepth 100000 in
set_option maxHeartbeats 2000000 in
theorem next_ok (h c:Value) (p:Per) (day:Int) (w:World) (hp:PerIs w h c p) (hv:Valid p) (h0:-9223372036854775808≤day) (hd1:day≤1099511627776) :
  Calls Tryz.prog 41 #[perV h c p.frm p.period,.int .i64 day] w (NextRes p.mem (max day 0) w):=by
 obtain ⟨a1,c1,a2,c2,rfl,rfl⟩:=hp.inn.form
 have hl:∀ W,Below w.heap.size w W→PerIs W (.slice a1 p.head.length c1) (.slice a2 p.cycle.length c2) p:=fun W hb=>hp.ext hb
 have hvb:=(validB_iff p).2 hv
 have HV:=Lib.hid hv
 have HP:=Lib.hid hp
 have hdb:decide ((1099511627776:Int)<day)=false:=by rw [decide_eq_false_iff_not];omega
 have m0:0≤max day 0:=by omega
 have m1:max day 0≤1099511627776:=by omega
 clear hv hp
 refine callsIn_wide (n:=0).1 ?_
 refine callsIn_of_wp_marks Tryz.func41 rfl trivial ?_ rfl
 simp only [Tryz.ntmps41,List.size_toArray,List.length_cons,List.length_nil,Nat.reduceAdd,Nat.reduceSub,Array.replicate_succ,Array.replicate_zero,List.push_toArray,List.append_toArray,List.nil_append,List.cons_append]
 gi_wp2_with (refine ⟨trivial,rfl,?_⟩;gi_at_call 65;refine (callsIn_wide.2 (valid_any _ _ p _ (hl _ xE))).mono ?_;rintro e w1 ⟨rfl,hb1⟩;obtain ⟨hc1,hf1⟩:=bcell hb1;(try simp only [World.size_alloc,World.size_drew,size_drewN,World.size_setCell] at hc1 hf1);have hz1:w.heap.size+2<w1.heap.size:=(by have h7:=hb1.size;simp at h7;omega))
 refine ⟨trivial,rfl,?_⟩
 generalize max day 0=d at *
 refine (callsIn_wide.2 (from_any (.slice a1 p.head.length c1) (.slice a2 p.cycle.length c2) p d _ ⟨_,_,_,_,_,_,rfl,rfl⟩)).mono ?_
 rintro e w' ⟨rfl,rfl⟩
 gi_wp2_with fail
 generalize hW0:(w1.alloc _).alloc _=W0
 have hE:Below w.heap.size w W0:=by rw [← hW0];exact xE
 have hsz:W0.heap.size=w1.heap.size+2:=by rw [← hW0];simp
 have hb0:Below w1.heap.size w1 W0:=by rw [← hW0];exact xE
 have hr1:Bxx W0 (w.heap.size+1) #[.int .i64 0] 3:=((Bxx.at (by simp)).alloc _).upto hb1 (by simp) |>.upto hb0 (by omega)
 have hr2:Bxx W0 (w.heap.size+1+1) #[.bool false] 4:=(Bxx.at (by simp)).upto hb1 (by simp) |>.upto hb0 (by omega)
 have hpb:Bxx W0 w1.heap.size #[.slice a1 p.head.length c1,.int .i64 p.frm,.int .i64 p.period,.slice a2 p.cycle.length c2] 39:=by rw [← hW0];exact (Bxx.at (by simp)).alloc _
 have hlb:Bxx W0 (w1.heap.size+1) #[.int .i64 d] 3:=by rw [← hW0];exact Bxx.at (by simp)
 have hz1':W0.heap.size≤w1.heap.size+2:=by omega
 have hz2:w1.heap.size+2≤W0.heap.size:=by omega
 have hpW:=HP.out.ext hE
 have hin:=HP.out.inn
 have hST:NxI w (w.heap.size+1) (w.heap.size+1+1) (.int .i64 0) (.bool false) W0:=⟨hE,hr1,hr2⟩
 have HST:=Lib.hid hST
 clear hW0 hsz hST hr1 hr2 hc1 hf1 hb1 hb0
 have hw:=HV.out.wf
 have h1:p.frm≤1125899906842624:=by have:=HV.out.frm;omega
 have h2:p.period≤1125899906842624:=by have:=HV.out.per;omega
 have garr:∀ (v:Value) (l:List Int),IntsIn w 0 w.heap.size v l→l≠[]→∀ b o n c',v=.slice (some ⟨b,o,none⟩) n c'→b<w.heap.size:=fun v l hi hl b o n c' he=>(hi.blk hl b (by rw [he];rfl)).2
 refine wpIn_rangeX (x:=some (w1.heap.size+1)) (gf:=127) (lb:=#[.pointer (some ⟨w1.heap.size,0,none⟩),.pointer (some ⟨w1.heap.size+1,0,none⟩)]) rfl (enters_of Tryz.func127 (by kernel_rfl) rfl)
  (from_seq (.slice a1 p.head.length c1) (.slice a2 p.cycle.length c2) p d w1.heap.size (w1.heap.size+1) W0 (fun k=>k<w.heap.size∨k=w1.heap.size∨k=w1.heap.size+1) hpW hw h1 h2 m0 (by omega) hpb hlb (.inr (.inl rfl)) (.inr (.inr rfl))
   (fun hl b o n c' he=>.inl (garr _ _ hin.hd hl b o n c' he)) (fun hl b o n c' he=>⟨.inl (garr _ _ hin.cy hl b o n c' he),by have:=garr _ _ hin.cy hl b o n c' he;omega⟩) (by omega))
  (fun h k=>h.trans k) (KpB.putObj (by intro k hk;omega)) (fun y=>rfl)
  (fun pre W'=>pre=[]∧NxI w (w.heap.size+1) (w.heap.size+1+1) (.int .i64 0) (.bool false) W')
  (fun c' _ W'=>c'=.ret∧∃ y,NextIs p.mem d y true∧NxI w (w.heap.size+1) (w.heap.size+1+1) (.int .i64 y) (.bool true) W')
  (fun pre A C row hI hg hr=>⟨hI.1,hI.2.grow hg fun r e=>by
   rcases hr r e with ⟨h,_⟩|⟨h,h'⟩
   ·injection h with h;exact ⟨by omega,.inl ⟨by omega,by omega⟩⟩
   ·exact ⟨by omega,.inr h'⟩⟩)
  (fun c' pre A C row hI hg hr=>⟨hI.1,hI.2.choose,hI.2.choose_spec.1,hI.2.choose_spec.2.grow hg fun r e=>by
   rcases hr r e with ⟨h,_⟩|⟨h,h'⟩
   ·injection h with h;exact ⟨by omega,.inl ⟨by omega,by omega⟩⟩
   ·exact ⟨by omega,.inr h'⟩⟩)
  (fun pre W' hI x hx=>by rw [hI.1] at hx;simp at hx) ⟨rfl,HST.out⟩
  (fun y=>⟨#[perV (.slice a1 p.head.length c1) (.slice a2 p.cycle.length c2) p.frm p.period,.int .i64 day,.pointer (some ⟨w.heap.size,0,none⟩),undef,.pointer (some ⟨w.heap.size+1,0,none⟩),.pointer (some ⟨w.heap.size+1+1,0,none⟩),.int .i64 y,.agg #[.slice a1 p.head.length c1,.int .i64 p.frm,.int .i64 p.period,.slice a2 p.cycle.length c2],.bool true,.bool false,.bool false,.int .i64 day,.bool false,.bool false,.agg #[.slice a1 p.head.length c1,.int .i64 p.frm,.int .i64 p.period,.slice a2 p.cycle.length c2],.int .i64 day,.int .i64 d,.func (Fn.func 127) #[] #[.pointer (some ⟨w1.heap.size,0,none⟩),.pointer (some ⟨w1.heap.size+1,0,none⟩)],.int .i64 y,undef],[]⟩) ?assign ?body ?done ?stop
 case assign=>
  intro l y W' K hK
  gi_wp2
  exact hK
 case body=>
  rintro l pre y W' ⟨rfl,hNI⟩ hen
  obtain ⟨hy1,hy2,hy3,hy4⟩:=EnS.last m0 hen
  have HY:Hid (NextIs p.mem d y true):=Lib.hid (.inl ⟨rfl,hy1,hy2,fun x h1 h2 h3=>by have h4:=(sel_mem (S:=p.mem) (hi:=y) m0 x).2 ⟨h1,h2,h3⟩;rw [← hy3] at h4;simp at h4⟩)
  have q1:=(hNI.b1.cells 0).1
  have q2:=(hNI.b1.cells 0).2
  have q3:=(hNI.b2.cells 0).1
  have q4:=(hNI.b2.cells 0).2
  have HNI:=Lib.hid hNI
  clear hen hy1 hy2 hy3 hy4 hNI
  gi_wp2
  refine ⟨((KeepsOthers.setCell W' ⟨w.heap.size+1,0,none⟩ (.int .i64 y)).trans (KeepsOthers.setCell _ ⟨w.heap.size+1+1,0,none⟩ (.bool true))).from _,rfl,y,HY.out,?_,?_,?_⟩
  ·exact (HNI.out.below.setCell (p:=⟨w.heap.size+1,0,none⟩) (by simp) _).setCell (p:=⟨w.heap.size+1+1,0,none⟩) (by simp;omega) _
  ·exact Bxx.setNe (heap_set_at 0 _ HNI.out.b1) _ (by omega)
  ·exact heap_set_at 0 _ (HNI.out.b2.setNe _ (by omega))
 case done=>
  rintro D xs W' hD ⟨n,hn,hxs⟩ ⟨rfl,hNI⟩ hdef
  have HN:Hid (NextIs p.mem d 0 false):=Lib.hid (.inr ⟨rfl,rfl,fun x h1 h2=>by have h4:=(sel_mem (S:=p.mem) (hi:=n) m0 x).2 ⟨h1,hn x h2,h2⟩;rw [← hxs] at h4;simp at h4⟩)
  have q1:=(hNI.b1.cells 0).1
  have q2:=(hNI.b1.cells 0).2
  have q3:=(hNI.b2.cells 0).1
  have q4:=(hNI.b2.cells 0).2
  have HNI:=Lib.hid hNI
  have HDEF:=Lib.hid hdef
  clear hNI hdef hn hxs
  gi_wp2_with fail
  have hDlt:=(Array.getElem?_eq_some_iff.1 HDEF.out).1
  have hM:MarksX w.heap.size [{ target:=.collected D,args:=#[] }] ((W'.setCell ⟨w.heap.size+1,0,none⟩ (.int .i64 0)).setCell ⟨w.heap.size+1+1,0,none⟩ (.bool false)):=
   marks_one (by omega) (by rw [heap_set_ne (by omega),heap_set_ne (by omega)];exact HDEF.out)
  refine leaves_marks (B:=w.heap.size) _ _ hM fun w' hs=>?_
  have c1:Bxx w' (w.heap.size+1) #[.int .i64 0] 3:=hs.cells _ _ (Bxx.setNe (heap_set_at 0 _ HNI.out.b1) _ (by omega)) rfl
  have c2:Bxx w' (w.heap.size+1+1) #[.bool false] 4:=hs.cells _ _ (heap_set_at 0 _ (HNI.out.b2.setNe _ (by omega))) rfl
  have q1:=(c1.cells 0).1
  have q2:=(c2.cells 0).1
  have hbw:Below w.heap.size w ((W'.setCell ⟨w.heap.size+1,0,none⟩ (.int .i64 0)).setCell ⟨w.heap.size+1+1,0,none⟩ (.bool false)):=
   (HNI.out.below.setCell (p:=⟨w.heap.size+1,0,none⟩) (by simp) _).setCell (p:=⟨w.heap.size+1+1,0,none⟩) (by simp;omega) _
  exact ⟨.tuple #[.int .i64 0,.bool false],by simp [results,Tryz.results41,go_sem,q1,q2],0,false,rfl,HN.out,hbw.trans hs.below⟩
 case stop=>
  rintro D c' pre W' hD _ ⟨rfl,y,hNx,hNI⟩ hdef
  have HNI:=Lib.hid hNI
  have HNX:=Lib.hid hNx
  have HDEF:=Lib.hid hdef
  clear hNI hdef hNx
  gi_wp2_with fail
  have hM:MarksX w.heap.size [{ target:=.collected D,args:=#[] }] W':=marks_one (by omega) HDEF.out
  refine leaves_marks (B:=w.heap.size) _ _ hM fun w' hs=>?_
  have c1:Bxx w' (w.heap.size+1) #[.int .i64 y] 3:=hs.cells _ _ HNI.out.b1 rfl
  have c2:Bxx w' (w.heap.size+1+1) #[.bool true] 4:=hs.cells _ _ HNI.out.b2 rfl
  have q1:=(c1.cells 0).1
  have q2:=(c2.cells 0).1
  exact ⟨.tuple #[.int .i64 y,.bool true],by simp [results,Tryz.results41,go_sem,q1,q2],y,true,rfl,HNX.out,HNI.out.below.trans hs.below⟩
end Go.Proofs.YthjnojbeimchdaaGreat
namespace Go.Proofs.YthjnojbeimchdaaGreat
open Go.ChangeShapes Go.WideShapes Go.ChangeAt Go.RowKit Go.Joins Kal
def numV (v:Value):Int:=match v with|.int _ x=>x|_=>0
section
variable {H:Type} {enc:TypeId × Value→H} {w:World} {base:Nat} {spare:Nat→Bool} {held:Bool}
set_option maxRecDepth 100000 in
theorem open_arr {r:Reach} {b0 n:Nat} {t e:TypeId} {k:IntKind} {v:Value} {d:DataW H} {p:List MemPlace} (ht:Tryz.prog.underlying t=some (.array n e)) (he:Tryz.prog.underlying e=some (.int k)) (hce:Tryz.prog.cellsOf e=1) (hct:Tryz.prog.cellsOf t=n)
  (hv:Value.okWide Tryz.prog w r b0 t v) (h:DataW.Trod enc Tryz.prog w base spare held t v d p):∃ ns:List Int,ns.length=n∧v=.agg (ns.map (Value.int k)).toArray∧∀ x∈ns,(Lit.int k x).wf=true:=by
 have hv2:∃ cs:Array Value,v=.agg cs∧cs.size=Tryz.prog.cellsOf t:=by
  unfold Value.okWide at hv
  rw [ht] at hv
  obtain ⟨cs,h1,h2,_⟩:=hv
  exact ⟨cs,h1,h2⟩
 obtain ⟨cs,rfl,hsz⟩:=hv2
 obtain ⟨fuel,hf⟩:=h
 obtain ⟨xs,m,_,_,hl,hxl,hi⟩:=DataW.trod_array ht hf
 have hcs:∀ i,i<n→∃ z,cs.toList[i]? = some (.int k z)∧(Lit.int k z).wf=true:=by
  intro i hin
  have h1:=hi i hin
  rw [hce,Nat.mul_one,List.getElem?_eq_getElem (by omega)] at h1
  obtain ⟨z,h2,_,h3⟩:=DataW.trod_int he h1
  refine ⟨z,?_,h3⟩
  have h4:(List.take 1 (List.drop i cs.toList))[0]? = some (.int k z):=by
   have h5:List.take 1 (List.drop i cs.toList)=[.int k z]:=h2
   rw [h5];rfl
  rw [List.getElem?_take_of_lt (by omega),List.getElem?_drop] at h4
  simpa using h4
 refine ⟨cs.toList.map numV,by simp [hsz,hct],?_,?_⟩
 ·congr 1
  apply Array.ext
  ·simp
  ·intro i h1 h2
   obtain ⟨z,hz,_⟩:=hcs i (by omega)
   rw [List.getElem?_eq_getElem (by simpa using h1)] at hz
   have hz':=Option.some.inj hz
   simp at hz'
   simp [hz',numV]
 ·intro x hx
  obtain ⟨y,hy,rfl⟩:=List.mem_map.1 hx
  obtain ⟨i,hi2,rfl⟩:=List.getElem_of_mem hy
  obtain ⟨z,hz,hw⟩:=hcs i (by simp at hi2;omega)
  rw [List.getElem?_eq_getElem hi2] at hz
  have hz':=Option.some.inj hz
  rw [hz'];exact hw
theorem list2 {l:List Int} (h:l.length=2):∃ a b,l=[a,b]:=by
 match l,h with
 | [a,b],_=>exact ⟨a,b,rfl⟩
end
end Go.Proofs.YthjnojbeimchdaaGreat
