/- Walks: start (package kalendsref04). -/
import Derived.Test.YtjilkhhokkncoaaGreatMWalkRt
set_option linter.unusedVariables false
set_option linter.unusedSimpArgs false
namespace Go.Proofs.YtjilkhhokkncoaaGreat
open Go.RowKit Go.Maps Kal
def StartRes (p:Per) (d:Int) (B:List Int) (w:World) (e:Ending) (w':World):Prop:=
 ∃ (s:Int) (m:Nat),e=.returned (.int .i64 s)∧Kal.Start p d B s m∧Below w.heap.size w w'
set_option maxRecDepth 100000 in
set_option maxHeartbeats 4000000 in
theorem Rstart_any (h c:Value) (p:Per) (d:Int) (k:Nat) (w:World) (hp:PerIs w h c p) (hw:p.WF) (h1:p.frm≤1125899906842624) (h2:p.period≤1125899906842624) (hS:Short p d (p.cycle.take k)) (hk1:1≤k) (hkn:k≤p.cycle.length) :
  Calls Tryz.prog 79 #[perV h c p.frm p.period,.int .i64 d,.int .i64 k] w (StartRes p d (p.cycle.take k) w):=by
 have f0:=hw.frm
 have d0:=hS.pos
 have d1:=hS.le
 obtain ⟨B,hB⟩:∃ B,B=p.cycle.take k:=⟨_,rfl⟩
 have hBl:B.length=k:=by rw [hB];simp;omega
 rw [← hB] at hS ⊢
 have hBg:∀ i,i<k→B.getD i 0=p.cycle.getD i 0:=fun i hi=>by
  rw [hB,List.getD_eq_getElem?_getD,List.getD_eq_getElem?_getD,List.getElem?_take,if_pos hi]
 obtain ⟨a1,c1,a2,c2,rfl,rfl⟩:=hp.inn.form
 have H1:=Lib.hid hp.hd
 have H2:=Lib.hid hp.cy
 have HLH:=hp.hd.len
 have HS:=Lib.hid hS
 have HW:=Lib.hid hw
 have HBG:=Lib.hid hBg
 have HBL:=Lib.hid hBl
 clear hp hS hw hB hBg hBl
 have hkI:(1:Int)≤k:=by omega
 have hkz:¬ (k:Int)=0:=by omega
 go_enter Tryz.func79,Tryz.ntmps79
 go_upto_region 1 with (fail)
 refine wp_abs (F:=fun U=>Bxx U w.heap.size #[.slice a1 p.head.length c1,.int .i64 p.frm,.int .i64 p.period,.slice a2 p.cycle.length c2] 24∧w.heap.size<U.heap.size∧Below w.heap.size w U) ⟨by (repeat' (first|(refine Bxx.at ?_;simp;done)|refine Bxx.alloc ?_ _)),by simp,by (repeat' (with_reducible first|assumption|apply Er|apply Ea|apply Ed|apply En|(refine Es ?_ (by first|(simp<;>omega)|omega) _)|refine Et ?_ (by assumption)))⟩ ?_
 rintro W1 ⟨hbx,hz1,hE⟩
 have HBX:=Lib.hid hbx
 have HE:=Lib.hid hE
 have q0:=(hbx.cells 0).1
 clear hbx hE
 go_wp2_with fail
 go_loopw [7,8,9,10,11,12] (fun hv _ bv _ _ _ wr=>∃ j:Nat,hv=.int .i64 ((p.head.length:Int)-1-j)∧bv=.int .i64 ((j:Int)+1)∧Back p d B j∧Below W1.heap.size W1 wr) (fun _ _ bv _ _ _ _=>p.head.length+1-(intOf bv).toNat)
 case atStart=>exact ⟨0,by congr 1;omega,rfl,Back.zero HW.out HS.out,Below.refl _ _⟩
 case round=>
  obtain ⟨j,rfl,rfl,hbk,hb⟩:=hrel
  have HBK:=Lib.hid hbk
  have HB:=Lib.hid hb
  have hjl:=hbk.le
  have ege:=Back.e_ge HS.out hbk
  have elt:=Back.e_lt HS.out hbk
  have hif:=hbk.hif
  have hbx:=HBX.out.below hb
  have q0:=(hbx.cells 0).1
  have q1:=(hbx.cells 1).1
  have q2:=(hbx.cells 2).1
  have q3:=(hbx.cells 3).1
  have hm:=Nat.mod_lt j (show 0<k by omega)
  have hm1:(j:Int).tmod (k:Int)=((j % k:Nat):Int):=by rw [Int.tmod_eq_emod_of_nonneg (by omega),Int.natCast_emod]
  have hm2:(j:Int).tdiv (k:Int)=((j / k:Nat):Int):=by rw [Int.tdiv_eq_ediv_of_nonneg (by omega),Int.natCast_ediv]
  obtain ⟨r,hr⟩:∃ r,r=j % k:=⟨_,rfl⟩
  obtain ⟨Q,hQ⟩:∃ Q,Q=j / k:=⟨_,rfl⟩
  rw [← hr] at hm1 hm
  rw [← hQ] at hm2
  have HR:=Lib.hid hr
  have HQ:=Lib.hid hQ
  have hQj:(Q:Int)≤j:=by rw [hQ];have:=Nat.div_le_self j k;omega
  obtain ⟨ix,hix⟩:∃ ix:Nat,ix=k-1-r:=⟨_,rfl⟩
  have hixl:ix<p.cycle.length:=by omega
  have hixI:(k:Int)-1-(r:Int)=ix:=by omega
  obtain ⟨⟨a',c',he,_,_,h38⟩,hlen8,hrg⟩:=(H2.out.ext HE.out).ext hb
  injection he with e1 _ e2
  subst e1;subst e2
  rcases h38 with h38|⟨b8,o8,rfl,hcell⟩
  ·rw [h38] at hixl;simp at hixl
  have hcl:=hcell ix hixl
  have hyb:=HW.out.cyc.2 _ (getD_mem hixl)
  have heq:eAt B d p.frm j=p.frm-d*((Q:Int)+1)+p.cycle.getD ix 0:=by
   unfold eAt;rw [HBL.out,HBG.out _ (by omega),hQ,← hr,← hix]
  generalize p.cycle.getD ix 0=y at *
  obtain ⟨E,hEe⟩:∃ E,E=eAt B d p.frm j:=⟨_,rfl⟩
  rw [← hEe] at heq ege elt
  have HEE:=Lib.hid hEe
  obtain ⟨M,hM⟩:∃ M,M=((Q:Int)+1)*d:=⟨_,rfl⟩
  have hM2:d*((Q:Int)+1)=M:=by rw [hM,Int.mul_comm]
  have hM0:0≤M:=by rw [hM];exact Int.mul_nonneg (by omega) (by omega)
  rw [hM2] at heq
  have HMM:=Lib.hid hM.symm
  have heq2:p.frm+y-M=E:=by omega
  clear hcell hrg hbk hb hbx hr hQ hix hEe hM hM2 heq
  have hmm:=HMM.out
  have hQk:(k:Int)-1-(r:Int)=ix:=hixI
  by_cases hjn:j<p.head.length
  ·obtain ⟨hx,hhx⟩:∃ hx:Nat,hx=p.head.length-1-j:=⟨_,rfl⟩
   have hhl:hx<p.head.length:=by omega
   have hhI:(p.head.length:Int)-1-(j:Int)=hx:=by omega
   obtain ⟨⟨a',c',he,_,_,h38⟩,hlen9,hrg⟩:=(H1.out.ext HE.out).ext HB.out
   injection he with e1 _ e2
   subst e1;subst e2
   rcases h38 with h38|⟨b9,o9,rfl,hcell⟩
   ·rw [h38] at hhl;simp at hhl
   have hcz:=hcell hx hhl
   have hzb:=HW.out.head.2 _ (getD_mem hhl)
   have HLZ:Hid (lastOf p j=p.head.getD hx 0):=Lib.hid (by unfold lastOf;rw [if_neg (by omega),hhx,show p.head.length-j-1=p.head.length-1-j from by omega])
   generalize p.head.getD hx 0=z at *
   have hzn:¬ z<0:=by omega
   have hzd:decide (z<0)=false:=by simp;omega
   clear hcell hrg hhx
   by_cases hE0:E<0
   ·have hEd:decide (E<0)=true:=by simp [hE0]
    have hne:(E != z)=true:=by rw [bne_iff_ne];omega
    have HST:=Lib.hid (Back.done HW.out HS.out HBK.out (by rw [HLZ.out,← HEE.out];omega) (by rw [HLZ.out];omega))
    go_wp2_with fail
    go_quiet (fail)
    go_wp2_with fail
    go_ret
    refine ⟨_,_,?_,HST.out,by have hE:=HE.out;have hb:=HB.out;(repeat' (with_reducible first|assumption|apply Er|apply Ea|apply Ed|apply En|(refine Es ?_ (by first|(simp<;>omega)|omega) _)|refine Et ?_ (by assumption)))⟩
    rw [HLZ.out,← HEE.out];rfl
   ·have hEd:decide (E<0)=false:=by simp;omega
    by_cases hEz:E=z
    ·have hne:(E != z)=false:=by simp [hEz]
     have HST:=Lib.hid (Back.step HW.out HS.out HBK.out (by rw [HLZ.out,← HEE.out];exact hEz) (by rw [HLZ.out];omega))
     go_wp2_with fail
     go_quiet (fail)
     go_wp2_with fail
     go_roundw
     case rel=>exact ⟨j+1,by congr 1;omega,by congr 1,HST.out.1,by have hb:=HB.out;(repeat' (with_reducible first|assumption|apply Er|apply Ea|apply Ed|apply En|(refine Es ?_ (by first|(simp<;>omega)|omega) _)|refine Et ?_ (by assumption)))⟩
     case measure=>simp [intOf];omega
    ·have hne:(E != z)=true:=by rw [bne_iff_ne];exact hEz
     have HST:=Lib.hid (Back.done HW.out HS.out HBK.out (by rw [HLZ.out,← HEE.out];omega) (by rw [HLZ.out];omega))
     go_wp2_with fail
     go_quiet (fail)
     go_wp2_with fail
     go_ret
     refine ⟨_,_,?_,HST.out,by have hE:=HE.out;have hb:=HB.out;(repeat' (with_reducible first|assumption|apply Er|apply Ea|apply Ed|apply En|(refine Es ?_ (by first|(simp<;>omega)|omega) _)|refine Et ?_ (by assumption)))⟩
     rw [HLZ.out,← HEE.out];rfl
  ·have hjI:(p.head.length:Int)-1-(j:Int)=-1:=by omega
   have HLZ:Hid (lastOf p j=-1):=Lib.hid (by unfold lastOf;rw [if_pos (by omega)])
   by_cases hE0:E<0
   ·have hEd:decide (E<0)=true:=by simp [hE0]
    have HST:=Lib.hid (Back.done0 HW.out HS.out HBK.out (by rw [← HEE.out];exact hE0) (by rw [HLZ.out];omega))
    go_wp2_with fail
    go_quiet (fail)
    go_wp2_with fail
    go_ret
    exact ⟨_,_,rfl,HST.out,by have hE:=HE.out;have hb:=HB.out;(repeat' (with_reducible first|assumption|apply Er|apply Ea|apply Ed|apply En|(refine Es ?_ (by first|(simp<;>omega)|omega) _)|refine Et ?_ (by assumption)))⟩
   ·have hEd:decide (E<0)=false:=by simp;omega
    have hne:(E != -1)=true:=by rw [bne_iff_ne];omega
    have HST:=Lib.hid (Back.done HW.out HS.out HBK.out (by rw [HLZ.out,← HEE.out];omega) (by rw [← HEE.out];omega))
    go_wp2_with fail
    go_quiet (fail)
    go_wp2_with fail
    go_ret
    refine ⟨_,_,?_,HST.out,by have hE:=HE.out;have hb:=HB.out;(repeat' (with_reducible first|assumption|apply Er|apply Ea|apply Ed|apply En|(refine Es ?_ (by first|(simp<;>omega)|omega) _)|refine Et ?_ (by assumption)))⟩
    rw [HLZ.out,← HEE.out];rfl
end Go.Proofs.YtjilkhhokkncoaaGreat
