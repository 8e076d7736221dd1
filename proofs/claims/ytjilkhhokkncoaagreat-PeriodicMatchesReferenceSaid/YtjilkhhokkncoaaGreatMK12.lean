/- Contract: First. -/
import Derived.Test.YtjilkhhokkncoaaGreatMK8
import Derived.Test.YtjilkhhokkncoaaGreatMK1
set_option linter.unusedVariables false
set_option linter.unusedSimpArgs false
/- Walks: First (package periodic). -/
namespace Go.Proofs.YtjilkhhokkncoaaGreat
open Go.RowKit Go.Maps Kal
def FirstRes (U:Int→Prop) (d:Int) (w:World) (e:Ending) (w':World):Prop:=∃ (n:Int) (b:Bool),e=.returned (.tuple #[.int .i64 n,.bool b])∧FirstIs U d n b∧Below w.heap.size w w'
set_option maxRecDepth 100000 in
set_option maxHeartbeats 1000000 in
theorem first_ok (h1 c1 h2 c2:Value) (p1 p2 qa qb:Per) (day:Int) (w:World) (hp1:PerIs w h1 c1 p1) (hp2:PerIs w h2 c2 p2) (hv1:Valid p1) (hv2:Valid p2) (hqa:IsCanon qa p1.mem) (hqb:IsCanon qb p2.mem)
  (hpb':qb.period≤4294967295) (hd0:-9223372036854775808≤day) (hd1:day≤1099511627776) :
  Calls Tryz.prog 30 #[perV h1 c1 p1.frm p1.period,perV h2 c2 p2.frm p2.period,.int .i64 day] w (FirstRes (fun n=>p1.mem n∧p2.mem n) (max day 0) w):=by
 obtain ⟨a1,m1,a2,m2,rfl,rfl⟩:=hp1.inn.form
 obtain ⟨a3,m3,a4,m4,rfl,rfl⟩:=hp2.inn.form
 have hl1:∀ W,Below w.heap.size w W→PerIs W (.slice a1 p1.head.length m1) (.slice a2 p1.cycle.length m2) p1:=fun W hb=>hp1.ext hb
 have hl2:∀ W,Below w.heap.size w W→PerIs W (.slice a3 p2.head.length m3) (.slice a4 p2.cycle.length m4) p2:=fun W hb=>hp2.ext hb
 have hvb1:=(validB_iff p1).2 hv1
 have hvb2:=(validB_iff p2).2 hv2
 have HV1:=Lib.hid hv1
 have HV2:=Lib.hid hv2
 have HQA:=Lib.hid hqa
 have HQB:=Lib.hid hqb
 have HF1:Hid (p1.frm≤562949953421312∧p1.period≤562949953421312):=by have:=hv1.frm;have:=hv1.per;exact Lib.hid (by omega)
 have HF2:Hid (p2.frm≤562949953421312∧p2.period≤562949953421312):=by have:=hv2.frm;have:=hv2.per;exact Lib.hid (by omega)
 obtain ⟨b1,b2,_,b4,b5⟩:=hqa.smaller hv1.wf
 obtain ⟨d1,d2,_,d4,d5⟩:=hqb.smaller hv2.wf
 have za0:=hqa.wf.frm
 have zb0:=hqb.wf.frm
 have za1:=hqa.wf.per
 have zb1:=hqb.wf.per
 have e1:=hv1.frm
 have e2:=hv1.per
 have e3:=hv2.frm
 have e4:=hv2.per
 have hgl:=gcd_bound (b:=qb.period) za1
 have hgl2:=gcd_bound2 (a:=qa.period) zb1
 clear hp1 hp2 hv1 hv2 hqa hqb
 obtain ⟨D,hD⟩:∃ D,D=max day 0:=⟨_,rfl⟩
 have hD0:0≤D:=by omega
 have hD1:D≤1099511627776:=by omega
 have HD:=Lib.hid hD
 obtain ⟨s0,hs0⟩:∃ s0,s0=max (max qa.frm qb.frm) 0:=⟨_,rfl⟩
 have HS0:=Lib.hid hs0
 obtain ⟨st,hst⟩:∃ st,st=max (max qa.frm qb.frm) D:=⟨_,rfl⟩
 have HSTT:=Lib.hid hst
 have hs1:qa.frm≤st:=by omega
 have hs2:qb.frm≤st:=by omega
 have hs3:st≤1099511627776:=by omega
 have hs4:s0≤1099511627776:=by omega
 have hs5:0≤s0:=by omega
 have hs6:qa.frm≤s0:=by omega
 have hs7:qb.frm≤s0:=by omega
 generalize hG:((Int.gcd qa.period qb.period:Nat):Int)=g at *
 have HG:=Lib.hid hG
 rw [← hD]
 clear hst hs0 hG hD
 have hdb:decide ((1099511627776:Int)<day)=false:=by rw [decide_eq_false_iff_not];omega
 go_enter Tryz.func30,Tryz.ntmps30
 go_upto_region 3 with (go_at_call 15;first|((with_reducible refine (valid_any _ _ p1 _ (hl1 _ (by (repeat' (with_reducible first|assumption|apply Er|apply Ea|apply Ed|apply En|(refine Es ?_ (by first|(simp<;>omega)|omega) _)|refine Et ?_ (by assumption)))))).mono ?_);rintro e w1 ⟨rfl,hb1⟩;obtain ⟨hx1,hf1⟩:=bcell hb1;(try simp only [World.size_alloc,World.size_drew,size_drewN,World.size_setCell] at hx1 hf1);have hz1:w.heap.size+1<w1.heap.size:=(by have h7:=hb1.size;simp at h7;omega))|((with_reducible refine (valid_any _ _ p2 _ (hl2 _ (by (repeat' (with_reducible first|assumption|apply Er|apply Ea|apply Ed|apply En|(refine Es ?_ (by first|(simp<;>omega)|omega) _)|refine Et ?_ (by assumption)))))).mono ?_);rintro e w2 ⟨rfl,hb2⟩;obtain ⟨hx2,hf2⟩:=bcell hb2;(try simp only [World.size_alloc,World.size_drew,size_drewN,World.size_setCell] at hx2 hf2);have hz2:w.heap.size+1<w2.heap.size:=(by have h7:=hb2.size;omega)))
 have hA:Bxx w2 w.heap.size #[.slice a1 p1.head.length m1,.int .i64 p1.frm,.int .i64 p1.period,.slice a2 p1.cycle.length m2] 24:=(((Bxx.at rfl).alloc _).upto hb1 (by simp;omega)).upto hb2 (by omega)
 have hB:Bxx w2 (w.heap.size+1) #[.slice a3 p2.head.length m3,.int .i64 p2.frm,.int .i64 p2.period,.slice a4 p2.cycle.length m4] 24:=((Bxx.at (by simp)).upto hb1 (by simp)).upto hb2 (by omega)
 have hE2:Below w.heap.size w w2:=by (repeat' (with_reducible first|assumption|apply Er|apply Ea|apply Ed|apply En|(refine Es ?_ (by first|(simp<;>omega)|omega) _)|refine Et ?_ (by assumption)))
 clear hb1 hb2 hx1 hf1 hx2 hf2 hz1 hz2
 have A0:w2.cell? ⟨w.heap.size,0,none⟩=some (.slice a1 p1.head.length m1):=(hA.cells 0).1
 have A1:w2.cell? ⟨w.heap.size,1,none⟩=some (.int .i64 p1.frm):=(hA.cells 1).1
 have A2:w2.cell? ⟨w.heap.size,2,none⟩=some (.int .i64 p1.period):=(hA.cells 2).1
 have A3:w2.cell? ⟨w.heap.size,3,none⟩=some (.slice a2 p1.cycle.length m2):=(hA.cells 3).1
 have B0:w2.cell? ⟨w.heap.size+1,0,none⟩=some (.slice a3 p2.head.length m3):=(hB.cells 0).1
 have B1:w2.cell? ⟨w.heap.size+1,1,none⟩=some (.int .i64 p2.frm):=(hB.cells 1).1
 have B2:w2.cell? ⟨w.heap.size+1,2,none⟩=some (.int .i64 p2.period):=(hB.cells 2).1
 have B3:w2.cell? ⟨w.heap.size+1,3,none⟩=some (.slice a4 p2.cycle.length m4):=(hB.cells 3).1
 obtain ⟨QQ,hQQ⟩:∃ QQ:Exit→Act→World→Prop,QQ=(fun e a' W'=>e=.normal∧∃ (u34 u35:Value),a'=⟨#[perV (.slice a1 p1.head.length m1) (.slice a2 p1.cycle.length m2) p1.frm p1.period,perV (.slice a3 p2.head.length m3) (.slice a4 p2.cycle.length m4) p2.frm p2.period,(.int .i64 D),.pointer (some ⟨w.heap.size,0,none⟩),.pointer (some ⟨w.heap.size+1,0,none⟩),undef,.int .i64 0,.bool false,undef,undef,undef,undef,undef,undef,undef,undef,undef,undef,undef,undef,undef,undef,.agg #[.slice a1 p1.head.length m1,.int .i64 p1.frm,.int .i64 p1.period,.slice a2 p1.cycle.length m2],.bool true,.bool false,.bool false,.agg #[.slice a3 p2.head.length m3,.int .i64 p2.frm,.int .i64 p2.period,.slice a4 p2.cycle.length m4],.bool true,.bool false,.bool false,.bool false,.int .i64 day,.bool false,.bool false,u34,u35,undef,undef,undef,undef,undef,undef,undef,undef,undef,undef,undef,undef,undef,undef,undef,undef,undef,undef,undef,undef,undef,undef,undef,undef,undef,undef,undef,undef,undef,undef,undef,undef,undef,undef,undef,undef,undef,undef,undef,undef,undef,undef,undef,undef,undef,undef,undef,undef,undef,undef,undef,undef,undef,undef,undef,undef,undef,undef,undef,undef,undef,undef,undef,undef,undef,undef,undef,undef,undef,undef,undef,undef,undef,undef,undef,undef,undef,undef,undef,undef,undef,undef,undef,undef,undef,undef,undef,undef,undef,undef,undef,undef,undef,undef,undef,undef,undef,undef,undef,undef,undef,undef,undef,undef,undef],[]⟩∧w2=W'):=⟨_,rfl⟩
 have HQQ:=Lib.hid hQQ
 clear hQQ
 refine Code.wp_mono (Q:=QQ) ?imp ?reg
 case reg=>
  go_wp2_with fail
  rw [HQQ.out,HD.out]
  exact ⟨rfl,_,_,rfl,rfl⟩
 case imp=>
  intro e a' W3 hq
  rw [HQQ.out] at hq
  obtain ⟨rfl,u34,u35,rfl,rfl⟩:=hq
  clear HQQ QQ
  obtain ⟨HL,hHL⟩:∃ HL,HL=sel (fun n=>qa.mem n∧qb.mem n) 0 s0:=⟨_,rfl⟩
  have HHL:=Lib.hid hHL
  have hcl:(HL.length:Int)≤s0:=by
   have:=(sel_rise (S:=fun n=>qa.mem n∧qb.mem n) (lo:=0) (hi:=s0) (Int.le_refl _)).length_le (by omega);rw [← hHL] at this;omega
  have hhm:∀ x,x∈HL↔0≤x∧x<s0∧p1.mem x∧p2.mem x:=fun x=>by
   rw [hHL,sel_mem (Int.le_refl _),HQA.out.mem,HQB.out.mem]
  have hhr:Rise 0 s0 HL:=by rw [hHL];exact sel_rise (Int.le_refl _)
  have HHM:=Lib.hid hhm
  have HHR:=Lib.hid hhr
  clear hHL hhm hhr
  go_wp2_with (first|(go_at_call 58;refine (newPair_any _ _ _ _ p1 p2 qa qb 0 _ (hl1 _ hE2) (hl2 _ hE2) HV1.out.wf HV2.out.wf HF1.out.1 HF2.out.1 HF1.out.2 HF2.out.2 HQA.out HQB.out (by omega) (by omega)).mono ?_;rintro e w3 ⟨x1,x2,x3,x4,xv,yv,mb,he,hP,hb3⟩;rw [← HS0.out,HG.out] at he;rw [← HS0.out] at hP;subst he;have hPA:=hP.at;rw [HG.out] at hPA;have HPA:=Lib.hid hPA;clear hP hPA)|(go_at_call 59;refine (heads_any _ _ _ _ qa qb s0 _ _ g mb _ HPA.out HQA.out.wf HQB.out.wf (by have:=HS0.out;omega) (by omega) (by omega) (by omega) (by omega)).mono ?_;rintro e w4 ⟨hv,rfl,hown4,hb4⟩;rw [← HHL.out] at hown4;obtain ⟨hva,hvc,rfl⟩:=hown4.form))
  have hE4:Below w2.heap.size w2 w4:=Et hb3 hb4
  have hi4:=hown4.ints
  have HI4:=Lib.hid hi4
  have hA4:=hA.below hE4
  have hB4:=hB.below hE4
  clear A0 A1 A2 A3 B0 B1 B2 B3 hb3 hb4 hown4 hi4
  go_loop [41] (fun i=>∃ k:Nat,k≤HL.length∧i=.int .i64 k∧∀ x∈HL.take k,x<D) (fun i=>HL.length-(intOf i).toNat)
  case atStart=>exact ⟨0,by omega,rfl,by simp⟩
  case round=>
   obtain ⟨k,hk,rfl,hpre⟩:=hrel
   by_cases hlt:k<HL.length
   ·obtain ⟨⟨a8,c8,he8,_,_,h38⟩,_,_⟩:=HI4.out
    injection he8 with he1 he2 he3
    subst he1;subst he3
    rcases h38 with h38|⟨b8,f8,rfl,hcell⟩
    ·rw [h38] at hlt;simp at hlt
    have hcl8:=hcell k hlt
    have hyb:=HHR.out.2 _ (getD_mem hlt)
    have hym:=(HHM.out _).1 (getD_mem hlt)
    have hkI:(k:Int)<HL.length:=by omega
    have htk:HL.take (k+1)=HL.take k ++ [HL.getD k 0]:=by rw [List.take_succ_eq_append_getElem hlt];simp [hlt]
    have hlow:∀ m,p1.mem m∧p2.mem m→D≤m→HL.getD k 0≤m:=fun m hm hdm=>by
     rcases Int.lt_or_le m (HL.getD k 0) with hlt9|hge9
     ·exfalso
      have hmm:m∈HL:=(HHM.out m).2 ⟨hm.1.1,by omega,hm⟩
      have h5:m∈HL.take k:=by
       obtain ⟨i,hi,rfl⟩:=List.getElem_of_mem hmm
       have h6:HL.getD k 0=HL[k]:=by simp [hlt]
       rw [h6] at hlt9
       have hik:i<k:=by
        rcases Nat.lt_or_ge i k with h|h
        ·exact h
        ·rcases Nat.lt_or_ge k i with h'|h'
         ·have:=HHR.out.get_lt h' hi;omega
         ·obtain rfl:i=k:=by omega
          omega
       rw [List.mem_iff_getElem];exact ⟨i,by simp;omega,by simp⟩
      have:=hpre m h5;omega
     ·exact hge9
    have HTK:=Lib.hid htk
    have HLOW:=Lib.hid hlow
    have HYM:=Lib.hid hym
    have HPRE:=Lib.hid hpre
    obtain ⟨y,hy⟩:∃ y,y=HL.getD k 0:=⟨_,rfl⟩
    have HY:=Lib.hid hy
    rw [← hy] at hcl8 hyb
    clear htk hlow hym hpre hcell hy
    by_cases hyD:D≤y
    ·go_wp2_with fail
     go_ret2
     exact ⟨y,true,rfl,⟨fun _=>⟨by rw [HY.out];exact HYM.out.2.2,hyD,by omega,fun m hm hdm=>by rw [HY.out];exact HLOW.out m hm hdm⟩,fun h=>by cases h⟩,Et hE2 hE4⟩
    ·go_wp2_with fail
     go_round
     case rel=>
      refine ⟨k+1,by omega,by go_num,fun x hx=>?_⟩
      rw [HTK.out,← HY.out] at hx
      rcases List.mem_append.1 hx with hx|hx
      ·exact HPRE.out x hx
      ·obtain rfl:x=y:=by simpa using hx
       omega
     case measure=>simp [intOf];omega
   ·obtain rfl:k=HL.length:=by omega
    rw [List.take_length] at hpre
    have HPRE:=Lib.hid hpre
    clear hpre
    have A0:w4.cell? ⟨w.heap.size,0,none⟩=some (.slice a1 p1.head.length m1):=(hA4.cells 0).1
    have A1:w4.cell? ⟨w.heap.size,1,none⟩=some (.int .i64 p1.frm):=(hA4.cells 1).1
    have A2:w4.cell? ⟨w.heap.size,2,none⟩=some (.int .i64 p1.period):=(hA4.cells 2).1
    have A3:w4.cell? ⟨w.heap.size,3,none⟩=some (.slice a2 p1.cycle.length m2):=(hA4.cells 3).1
    have B0:w4.cell? ⟨w.heap.size+1,0,none⟩=some (.slice a3 p2.head.length m3):=(hB4.cells 0).1
    have B1:w4.cell? ⟨w.heap.size+1,1,none⟩=some (.int .i64 p2.frm):=(hB4.cells 1).1
    have B2:w4.cell? ⟨w.heap.size+1,2,none⟩=some (.int .i64 p2.period):=(hB4.cells 2).1
    have B3:w4.cell? ⟨w.heap.size+1,3,none⟩=some (.slice a4 p2.cycle.length m4):=(hB4.cells 3).1
    have hE4w:=Et hE2 hE4
    go_upto_region 11 with (go_at_call 58;refine (newPair_any _ _ _ _ p1 p2 qa qb D _ (hl1 _ hE4w) (hl2 _ hE4w) HV1.out.wf HV2.out.wf HF1.out.1 HF2.out.1 HF1.out.2 HF2.out.2 HQA.out HQB.out (by omega) (by omega)).mono ?_;rintro e w5 ⟨x1,x2,x3,x4,xv,yv,mb,he,hP,hb5⟩;rw [← HSTT.out,HG.out] at he;rw [← HSTT.out] at hP;subst he;obtain ⟨z1,y1,z2,y2,rfl,rfl⟩:=hP.a.form;obtain ⟨z3,y3,z4,y4,rfl,rfl⟩:=hP.b.form;obtain ⟨⟨⟨xa,xc,rfl,_⟩,hxl,_⟩,_⟩:=hP.x;obtain ⟨⟨⟨ya,yc,rfl,_⟩,hyl,_⟩,_⟩:=hP.y)
    have hEb:=hE4w.trans (hb5.mono (by have:=hE4w.size;omega))
    generalize hpbw:w5.heap.size=pb at *
    have hszc:w.heap.size≤pb:=by have:=hEb.size;omega
    refine wp_abs (F:=fun W3=>Bxx W3 pb #[.slice z1 qa.head.length y1,.int .i64 qa.frm,.int .i64 qa.period,.slice z2 qa.cycle.length y2,.slice z3 qb.head.length y3,.int .i64 qb.frm,.int .i64 qb.period,.slice z4 qb.cycle.length y4,.int .i64 st,.slice xa (isort (cycL qa st)).length xc,.slice ya (isort (cycL qb st)).length yc,.int .i64 g,.map (some mb)] 62∧PairAt W3 (.slice z1 qa.head.length y1) (.slice z2 qa.cycle.length y2) (.slice z3 qb.head.length y3) (.slice z4 qb.cycle.length y4) qa qb st (.slice xa (isort (cycL qa st)).length xc) (.slice ya (isort (cycL qb st)).length yc) g mb∧Below w.heap.size w W3)
     ⟨Bxx.at hpbw.symm,by rw [← HG.out];exact (hP.below (Ea (Er w5) _) (by omega)).at,Ea hEb _⟩ ?_
    clear hP hEb hb5 hE4w hA4 hB4 A0 A1 A2 A3 B0 B1 B2 B3 hA hB hE2 hE4 HI4 hpbw hvb1 hvb2
    rintro W5 ⟨hpb,hPA,hE5⟩
    have hpbl:=hpb.lt
    have hL0:=lcmI_pos za1 zb1
    generalize hLL:lcmI qa.period qb.period=L at *
    have HLL:=Lib.hid hLL
    have hfa:=opFacts HQA.out HQB.out hs1 hs2 hLL.symm HG.out.symm
    have hx9:=hfa.hx
    have hy9:=hfa.hy
    have HFA:=Lib.hid hfa
    have HX:=Lib.hid hx9
    have HY9:=Lib.hid hy9
    have HPA:=Lib.hid hPA
    have c0:W5.cell? ⟨pb,0,none⟩=some (.slice z1 qa.head.length y1):=(hpb.cells 0).1
    have c1:W5.cell? ⟨pb,1,none⟩=some (.int .i64 qa.frm):=(hpb.cells 1).1
    have c2:W5.cell? ⟨pb,2,none⟩=some (.int .i64 qa.period):=(hpb.cells 2).1
    have c3:W5.cell? ⟨pb,3,none⟩=some (.slice z2 qa.cycle.length y2):=(hpb.cells 3).1
    have c4:W5.cell? ⟨pb,4,none⟩=some (.slice z3 qb.head.length y3):=(hpb.cells 4).1
    have c5:W5.cell? ⟨pb,5,none⟩=some (.int .i64 qb.frm):=(hpb.cells 5).1
    have c6:W5.cell? ⟨pb,6,none⟩=some (.int .i64 qb.period):=(hpb.cells 6).1
    have c7:W5.cell? ⟨pb,7,none⟩=some (.slice z4 qb.cycle.length y4):=(hpb.cells 7).1
    have c8:W5.cell? ⟨pb,8,none⟩=some (.int .i64 st):=(hpb.cells 8).1
    have c9:W5.cell? ⟨pb,9,none⟩=some (.slice xa (isort (cycL qa st)).length xc):=(hpb.cells 9).1
    have c10:W5.cell? ⟨pb,10,none⟩=some (.slice ya (isort (cycL qb st)).length yc):=(hpb.cells 10).1
    have c11:W5.cell? ⟨pb,11,none⟩=some (.int .i64 g):=(hpb.cells 11).1
    have c12:W5.cell? ⟨pb,12,none⟩=some (.map (some mb)):=(hpb.cells 12).1
    have HPB:=Lib.hid hpb
    have HE5:=Lib.hid hE5
    clear hLL hfa hx9 hy9 hPA hpb hE5
    obtain ⟨na,hna⟩:∃ na,na=qa.period / g:=⟨_,rfl⟩
    obtain ⟨mm,hmm⟩:∃ mm,mm=qb.period / g:=⟨_,rfl⟩
    have hmm1:1≤mm:=by rw [hmm];exact (Int.le_ediv_iff_mul_le (by omega)).2 (by omega)
    have hmm2:mm≤4294967295:=by rw [hmm];exact Int.le_trans (Int.ediv_le_self _ (by omega)) hpb'
    have hna0:0≤na:=by rw [hna];exact Int.ediv_nonneg (by omega) (by omega)
    have hna1:na≤qa.period:=by rw [hna];exact Int.ediv_le_self _ (by omega)
    have hnm0:=Int.emod_nonneg na (show mm≠0 by omega)
    have hnm1:=Int.emod_lt_of_pos na (show 0<mm by omega)
    have hcop:Int.gcd (na % mm) mm=1:=by rw [gcd_emod hna0 hmm1,hna,hmm,← HG.out];exact coprime_div za1 zb1
    have HCOP:=Lib.hid hcop
    have hinv:IsInv (na % mm) mm (invI (na % mm) mm):=by
     obtain ⟨v,hv⟩:=inv_exists hnm0 hnm1 hcop
     rw [invI_eq hv];exact hv
    obtain ⟨iv,hiv⟩:∃ iv,iv=invI (na % mm) mm:=⟨_,rfl⟩
    rw [← hiv] at hinv
    have hiv0:=hinv.1
    have hiv1:=hinv.2.1
    have HINV:=Lib.hid hinv
    have HIV:=Lib.hid hiv
    have HNA:=Lib.hid hna
    have HMM:=Lib.hid hmm
    clear hna hmm hcop hinv hiv
    obtain ⟨M,hM⟩:∃ M:Nat→List Int,M=fun k=>meetL ((isort (cycL qa st)).take k) (isort (cycL qb st)) qa.period qb.period st:=⟨_,rfl⟩
    have HMM2:=Lib.hid hM
    have hMS:∀ k,k<(isort (cycL qa st)).length→M (k+1)=M k ++ (grp (isort (cycL qb st)) g ((isort (cycL qa st)).getD k 0 % g)).map fun y=>st+solveI ((isort (cycL qa st)).getD k 0) qa.period y qb.period:=fun k hk=>by rw [hM,← HG.out];exact meetL_succ hk
    have HMS:=Lib.hid hMS
    have hM0:∀ k,∀ x∈M k,0≤x:=fun k x hx=>by
     rw [hM] at hx
     have:x∈meetL (isort (cycL qa st)) (isort (cycL qb st)) qa.period qb.period st:=by
      unfold meetL at hx ⊢
      obtain ⟨r,hr,hx⟩:=List.mem_flatMap.1 hx
      exact List.mem_flatMap.2 ⟨r,List.mem_of_mem_take hr,hx⟩
     have:=(HFA.out.meet x).1 this
     omega
    have HM0:=Lib.hid hM0
    clear hM hMS hM0
    have hq1:qa.period.tdiv g=na:=by rw [HNA.out];exact Int.tdiv_eq_ediv_of_nonneg (by omega)
    have hq2:qb.period.tdiv g=mm:=by rw [HMM.out];exact Int.tdiv_eq_ediv_of_nonneg (by omega)
    have hq3:IntKind.i64.wrap na=na:=wrapI ⟨by omega,by omega⟩
    have hq4:IntKind.i64.wrap mm=mm:=wrapI ⟨by omega,by omega⟩
    go_quiet (fail)
    (try rw [← HNA.out])
    (try rw [← HMM.out])
    clear hq1 hq2 hq3 hq4
    go_wp2_with (go_at_call 60;refine (invert_any _ _ _ hnm0 hnm1 (by omega) HCOP.out).mono ?_;rintro e w9 ⟨he,nq9,rfl⟩;rw [← HIV.out] at he;subst he)
    go_loopw [74,14] (fun i b wr=>∃ (k:Nat) (best:Int),k≤(isort (cycL qa st)).length∧i=.int .i64 k∧b=.int .i64 best∧best=(M k).foldl bstep (-1)∧Below W5.heap.size W5 wr) (fun i _ _=>(isort (cycL qa st)).length-(intOf i).toNat)
    case atStart=>exact ⟨0,-1,by omega,rfl,rfl,(by rw [HMM2.out];simp [meetL]),En (Er _) _⟩
    case round=>
     obtain ⟨k,best,hk,rfl,rfl,hbest,hbw⟩:=hrel
     have hbr:=bfold_rng (M k) (HM0.out k) (-1) ⟨by omega,by omega⟩
     rw [← hbest] at hbr
     have HBEST:=Lib.hid hbest
     have HBW:=Lib.hid hbw
     have hszr:=hbw.size
     clear hbest
     by_cases hlt:k<(isort (cycL qa st)).length
     ·obtain ⟨⟨a8,c8,he8,_,_,h38⟩,_,_⟩:=HPA.out.x.ext hbw
      injection he8 with he1 he2 he3
      subst he1;subst he3
      rcases h38 with h38|⟨b8,f8,rfl,hcell⟩
      ·rw [h38] at hlt;simp at hlt
      have hcl8:=hcell k hlt
      have hxI:=HX.out.2 _ (getD_mem hlt)
      have hsu:=HMS.out k hlt
      have hkI:(k:Int)<(isort (cycL qa st)).length:=by omega
      generalize hxx:(isort (cycL qa st)).getD k 0=x at *
      have hm0:=Int.emod_nonneg x (show g≠0 by omega)
      have hm1:=Int.emod_lt_of_pos x (show 0<g by omega)
      obtain ⟨v,hlk,hvv⟩:=HPA.out.m (x % g) ⟨by omega,by omega⟩
      have hgm:∀ y∈grp (isort (cycL qb st)) g (x % g),y∈isort (cycL qb st)∧y % g=x % g:=fun y hy=>by simpa [grp] using hy
      obtain ⟨zs,hzs⟩:∃ zs,zs=grp (isort (cycL qb st)) g (x % g):=⟨_,rfl⟩
      rw [← hzs] at hvv hgm hsu
      obtain ⟨va,vc,rfl⟩:∃ a c,v=.slice a zs.length c:=by obtain ⟨⟨a,c,e,_⟩,_⟩:=hvv;exact ⟨a,c,e⟩
      have hzl:zs.length≤17592186044416:=hvv.len
      obtain ⟨wo,hwo⟩:∃ wo:World,wo=wr:=⟨_,rfl⟩
      rw [← hwo] at hbw hcl8 hcell ⊢
      have HBWo:Hid (Below W5.heap.size W5 wo):=Lib.hid hbw
      have hL2:∀ nq,(Instr.lookup 60 (.map (some mb)) (.int .i64 (x % g)) false).run Tryz.prog (wo.drewN nq)=.ok (.slice va zs.length vc) (wo.drewN nq):=fun nq=>hlk _ (En hbw nq)
      have hpbo:=HPB.out.below hbw
      have p11:wo.cell? ⟨pb,11,none⟩=some (.int .i64 g):=(hpbo.cells 11).1
      have p12:wo.cell? ⟨pb,12,none⟩=some (.map (some mb)):=(hpbo.cells 12).1
      have HVV:=Lib.hid hvv
      have HGM:=Lib.hid hgm
      have HSU:=Lib.hid hsu
      clear hbw hcell hsu hgm hvv hlk hwo hzs hpbo HBW
      go_wp2_with fail
      go_quiet (fail)
      go_wp2_with fail
      go_loopw [86,14] (fun i b wr=>∃ (j:Nat) (bj:Int),j≤zs.length∧i=.int .i64 j∧b=.int .i64 bj∧bj=((zs.take j).map fun y=>st+solveI x qa.period y qb.period).foldl bstep best∧Below W5.heap.size W5 wr) (fun i _ _=>zs.length-(intOf i).toNat)
      case atStart=>exact ⟨0,best,by omega,rfl,rfl,by simp,En HBWo.out _⟩
      case round=>
       obtain ⟨j,bj,hj,rfl,rfl,hbj,hbw⟩:=hrel
       have hszr:=hbw.size
       by_cases hlj:j<zs.length
       ·have hpbr:=HPB.out.below hbw
        obtain ⟨⟨a9,c9,he9,_,_,h39⟩,_,_⟩:=HVV.out.ext hbw
        injection he9 with he1 he2 he3
        subst he1;subst he3
        rcases h39 with h39|⟨b9,f9,rfl,hcell9⟩
        ·rw [h39] at hlj;simp at hlj
        have hcl9:=hcell9 j hlj
        have hym:=HGM.out _ (getD_mem hlj)
        have hyI:=HY9.out.2 _ hym.1
        have hjI:(j:Int)<zs.length:=by omega
        have htk:((zs.take (j+1)).map fun y=>st+solveI x qa.period y qb.period).foldl bstep best=bstep (((zs.take j).map fun y=>st+solveI x qa.period y qb.period).foldl bstep best) (st+solveI x qa.period (zs.getD j 0) qb.period):=by
         rw [map_take_succ _ hlj,List.foldl_append,List.getD_eq_getElem?_getD,List.getElem?_eq_getElem hlj];rfl
        rw [← hbj] at htk
        have hbjr:-1≤bj∧bj≤2251799813685248:=by
         rw [hbj]
         refine bfold_rng _ (fun z hz=>?_) best hbr
         obtain ⟨y9,hy9,rfl⟩:=List.mem_map.1 hz
         have h9:=HGM.out y9 (List.mem_of_mem_take hy9)
         have:=(isSol_exists (x:=x) (a:=qa.period) (y:=y9) (b:=qb.period) za1 zb1 (by rw [HG.out];exact h9.2.symm)).1
         omega
        generalize hyy:zs.getD j 0=y at *
        obtain ⟨d9,hd9⟩:∃ d9,d9=(y-x) / g:=⟨_,rfl⟩
        have hdz:(y-x) % g=0:=Int.emod_eq_emod_iff_emod_sub_eq_zero.1 hym.2
        have hd9b:=ediv_bound (x:=y-x) (g:=g) (B:=1099511627776) (by omega) (by omega) (by omega) (by omega)
        rw [← hd9] at hd9b
        obtain ⟨hd9l,hd9u⟩:=hd9b
        have hdt:(y-x).tdiv g=d9:=by rw [hd9];exact tdiv_dvd hdz
        have hdw:IntKind.i64.wrap d9=d9:=wrapI ⟨by omega,by omega⟩
        obtain ⟨r,hr⟩:∃ r,r=(d9 % mm*iv) % mm:=⟨_,rfl⟩
        have hr0:0≤r:=by rw [hr];exact Int.emod_nonneg _ (by omega)
        have hr1:r<mm:=by rw [hr];exact Int.emod_lt_of_pos _ (by omega)
        have hdm0:=Int.emod_nonneg d9 (show mm≠0 by omega)
        have hdm1:=Int.emod_lt_of_pos d9 (show 0<mm by omega)
        have hsol:solveI x qa.period y qb.period=x+qa.period*r:=by
         refine solveI_eq za1 zb1 (isSol_of (r:=x) (s:=y) (g:=g) (i:=iv) za1 zb1 (Int.emod_eq_of_lt hxI.1 hxI.2).symm (Int.emod_eq_of_lt hyI.1 hyI.2).symm HG.out.symm hdz ?_ ?_)
         ·rw [← HNA.out,← HMM.out];exact HINV.out
         ·rw [hr,hd9,HMM.out]
        have hP90:0≤r*qa.period:=Int.mul_nonneg hr0 (by omega)
        have hat:st+solveI x qa.period y qb.period=st+x+r*qa.period:=by rw [hsol,Int.mul_comm qa.period r];omega
        rw [hat] at htk
        have hlim0:0≤2251799813685248-st-x:=by omega
        have hlim1:2251799813685248-st-x≤2251799813685248:=by omega
        have hqd:(2251799813685248-st-x) / qa.period<r↔(2251799813685248-st-x)<r*qa.period:=by
         exact Int.ediv_lt_iff_lt_mul (by omega)
        have hqd0:0≤(2251799813685248-st-x) / qa.period:=Int.ediv_nonneg hlim0 (by omega)
        have hqd1:(2251799813685248-st-x) / qa.period≤(2251799813685248-st-x):=Int.ediv_le_self _ hlim0
        have p8:wr.cell? ⟨pb,8,none⟩=some (.int .i64 st):=(hpbr.cells 8).1
        have p11:wr.cell? ⟨pb,11,none⟩=some (.int .i64 g):=(hpbr.cells 11).1
        have p2:wr.cell? ⟨pb,2,none⟩=some (.int .i64 qa.period):=(hpbr.cells 2).1
        have HTK:=Lib.hid htk
        have HR:=Lib.hid hr
        have HBWj:=Lib.hid hbw
        have HQD:=Lib.hid hqd
        clear htk hr hbw hbj hsol hat hcell9 hyy hpbr hd9 hdz hym
        go_upto_region 21 with ((first|(go_at_call 62;refine (residue_any d9 mm _ hmm1 (by omega)).mono ?_;rintro e w' ⟨rfl,rfl⟩)|(go_at_call 61;refine (multiply_any (d9 % mm) iv mm _ hdm0 (by omega) hiv0 (by omega) hmm1 (by omega)).mono ?_;rintro e w' ⟨he,nq,rfl⟩;rw [← HR.out] at he;subst he)))
        have hdl:decide ((2251799813685248-st-x:Int)<0)=false:=by rw [decide_eq_false_iff_not];omega
        have hdl2:¬ (2251799813685248-st-x:Int)<0:=by omega
        go_upto_region 22 with (fail)
        by_cases hbig:(2251799813685248-st-x) / qa.period<r
        ·have hstp:bstep bj (st+x+r*qa.period)=bj:=by
          have:=HQD.out.1 hbig
          unfold bstep;rw [if_neg (by omega)]
         have HSTP:=Lib.hid hstp
         have hb1:decide ((2251799813685248-st-x) / qa.period<r)=true:=decide_eq_true hbig
         clear hstp
         go_wp2_with fail
         go_roundw
         case rel=>exact ⟨j+1,bj,by omega,by go_num,rfl,by rw [HTK.out];exact HSTP.out.symm,En HBWj.out _⟩
         case measure=>simp [intOf];omega
        ·have hb1:decide ((2251799813685248-st-x) / qa.period<r)=false:=decide_eq_false hbig
         have hb3:r≤(2251799813685248-st-x) / qa.period:=by omega
         have hPl:r*qa.period≤2251799813685248-st-x:=by
          rcases Int.lt_or_le (2251799813685248-st-x) (r*qa.period) with h|h
          ·exact absurd (HQD.out.2 h) hbig
          ·exact h
         have hwm:IntKind.i64.wrap (r*qa.period)=r*qa.period:=wrapI ⟨by omega,by omega⟩
         have hatM:st+x+r*qa.period≤2251799813685248:=by omega
         have hat0:0≤st+x+r*qa.period:=by omega
         by_cases hb0:bj<0
         ·have hstp:bstep bj (st+x+r*qa.period)=st+x+r*qa.period:=by unfold bstep;rw [if_pos ⟨hatM,.inl hb0⟩]
          have HSTP:=Lib.hid hstp
          clear hstp
          go_wp2_with fail
          go_roundw
          case rel=>exact ⟨j+1,st+x+r*qa.period,by omega,by go_num,rfl,by rw [HTK.out];exact HSTP.out.symm,En HBWj.out _⟩
          case measure=>simp [intOf];omega
         ·by_cases hlt9:st+x+r*qa.period<bj
          ·have hstp:bstep bj (st+x+r*qa.period)=st+x+r*qa.period:=by unfold bstep;rw [if_pos ⟨hatM,.inr hlt9⟩]
           have HSTP:=Lib.hid hstp
           clear hstp
           go_wp2_with fail
           go_roundw
           case rel=>exact ⟨j+1,st+x+r*qa.period,by omega,by go_num,rfl,by rw [HTK.out];exact HSTP.out.symm,En HBWj.out _⟩
           case measure=>simp [intOf];omega
          ·have hstp:bstep bj (st+x+r*qa.period)=bj:=by unfold bstep;rw [if_neg (by omega)]
           have HSTP:=Lib.hid hstp
           clear hstp
           go_wp2_with fail
           go_roundw
           case rel=>exact ⟨j+1,bj,by omega,by go_num,rfl,by rw [HTK.out];exact HSTP.out.symm,En HBWj.out _⟩
           case measure=>simp [intOf];omega
       ·obtain rfl:j=zs.length:=by omega
        rw [List.take_length] at hbj
        have HBJ:=Lib.hid hbj
        have HBWj:=Lib.hid hbw
        clear hbj hbw
        go_wp2_with fail
        go_roundw
        case rel=>exact ⟨k+1,bj,by omega,by go_num,rfl,by rw [HSU.out,List.foldl_append,← HBEST.out];exact HBJ.out,HBWj.out⟩
        case measure=>simp [intOf];omega
     ·obtain rfl:k=(isort (cycL qa st)).length:=by omega
      clear hbw
      have hup:PFrom (fun n=>p1.mem n∧p2.mem n) st L:=by
       have h1:=(HQA.out.pfrom.mono hs1).of_dvd za1 hL0 (by rw [← HLL.out];exact lcmI_dvd_left)
       have h2:=(HQB.out.pfrom.mono hs2).of_dvd zb1 hL0 (by rw [← HLL.out];exact lcmI_dvd_right)
       intro n hn
       exact ⟨fun h=>⟨(h1 n hn).1 h.1,(h2 n hn).1 h.2⟩,fun h=>⟨(h1 n hn).2 h.1,(h2 n hn).2 h.2⟩⟩
      have hfin:FirstIs (fun n=>p1.mem n∧p2.mem n) D (max best 0) (decide (0≤best)):=by
       rw [HBEST.out]
       refine first_of hL0 hup (fun m hm hdm=>?_) (by have:=HSTT.out;omega) (by omega) (fun n=>?_)
       ·rcases Int.lt_or_le m st with h9|h9
        ·exfalso
         have h8:m<s0:=by have:=HSTT.out;have:=HS0.out;omega
         have:=HPRE.out m ((HHM.out m).2 ⟨by omega,h8,hm⟩)
         omega
        ·exact h9
       ·rw [HMM2.out];simp only [List.take_length];exact HFA.out.meet n
      have HFIN:=Lib.hid hfin
      clear hup hfin
      go_wp2_with fail
      go_ret2
      exact ⟨max best 0,decide (0≤best),rfl,HFIN.out,HE5.out.trans (HBW.out.mono (by omega))⟩
end Go.Proofs.YtjilkhhokkncoaaGreat
