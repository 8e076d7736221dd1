/- The statement MixedDecisionsMatchReferenceSaid: for every input the law returns true, and its arguments read as before. -/
import Derived.Test.YthjnojbeimchdaaGreatU8
import Derived.Test.YthjnojbeimchdaaGreatU6
import Derived.Test.YthjnojbeimchdaaGreatU7
import Derived.Test.YthjnojbeimchdaaGreatU5
import Derived.Test.YthjnojbeimchdaaGreatU4
set_option linter.unusedVariables false
set_option linter.unusedSimpArgs false
set_option maxRecDepth 100000
set_option maxHeartbeats 4000000
section
variable {b b':Bool}{e:Go.Ending}{n s:Int}{T m m1 m2:List (List Kal.Per)}{l:List Int}{t u:List Kal.Per}{p q:Kal.Per}{h v:Go.Value}{W W' w w':Go.World}
namespace Go.Proofs.YthjnojbeimchdaaGreat
open Go.RowKit Go.Maps Kal
structure RMS (s:Int) (m1 m2:List (List Per)) (w:World) (b6 j:Nat) (a2:Option Addr) (c2:Nat) (a:Option Addr) (c:Nat) (k:Int) (mk:List (List Per)) (W:World):Prop where
 ms:MS s m1 m2 w b6 j a c k mk W
 yb:Bxx W (w.heap.size+1) #[.slice a2 m2.length c2] 28
theorem uo_ (hm:∀ u∈m,aw_ s u) (ht:∀ f∈t,FV s f):∀ x∈minL m t,aw_ s x:=fun x hx=>by
 obtain ⟨u,hu,f,hf,rfl⟩:=k1_.1 hx;have h1:=hm u hu;have h2:=ht f hf;cases u with
 | nil=>exact absurd rfl h1.ne
 | cons p r=>exact ⟨by simp [wiP],fun q hq=>by
   rcases List.mem_cons.1 hq with rfl|hq
   ·exact (h1.fv p sq_).minus h2
   ·exact h1.fv q (by simp [hq]),by have:=h1.len;simpa [wiP] using this⟩
theorem vz_ {f:Per}:(wiP u f).length=u.length:=by cases u <;> simp [wiP]
theorem r7_ (s:Int) (F1 F2:Nat->Prop) (v1 v2:Value) (m1 m2:List (List Per)) (w:World) (h1:MixR w F1 v1 m1) (h2:MixR w F2 v2 m2) (k1:MV s m1) (k2:MV s m2) :
  Calls Tryz.prog 49 #[.agg #[v1],.agg #[v2]] w (fk_ s m1 m2 w):=by
 have HV1:=fun W (h:Below w.heap.size w W)=>cb_ F1 v1 m1 W (h1.ext h);have HV2:=fun W (h:Below w.heap.size w W)=>cb_ F2 v2 m2 W (h2.ext h);rw [k1.val] at HV1;rw [k2.val] at HV2;have l1:=k1.len;have l2:=k2.len;have HNO1:=hq_ (fun W (h:Below w.heap.size w W)=>dy_ s F1 v1 m1 W (h1.ext h) k1.vt (fun t ht=>by have:=k1.tlen t ht;omega) oq_);obtain ⟨a1,c1,rfl⟩:=h1.form;obtain ⟨a2,c2,rfl⟩:=h2.form;have HM2:=hq_ h2;have HK2:=hq_ k2;clear h1 h2 k1 k2
 go_enter Tryz.func49,Tryz.ntmps49
 go_wp2_with (first|(go_at_call 17;first
   | ((with_reducible refine (HV1 _ xE).mono ?_);rintro e w1 ⟨rfl,hb1⟩;have b0:Bxx w1 w.heap.size #[.slice a1 m1.length c1] 28:=Bxx.below xB hb1;have b1:Bxx w1 (w.heap.size+1) #[.slice a2 m2.length c2] 28:=Bxx.below xB hb1;have b2:Bxx w1 (w.heap.size+1+1) #[.slice none 0 0] 28:=Bxx.below xB hb1;have x0:=b0.c0;have x1:=b1.c0;have hW1:Below w.heap.size w w1:=by exact xE)
   | ((with_reducible refine (HV2 _ xE).mono ?_);rintro e w2 ⟨rfl,hb2⟩;have d0:=b0.below hb2;have d1:=b1.below hb2;have d2:=b2.below hb2;have y0:=d0.c0;have y1:=d1.c0;have hW2:Below w.heap.size w w2:=by exact xE))|(go_at_call 90;refine (HNO1.out _ hW2).mono ?_;rintro e w5 hres;obtain ⟨oa,oc,kz,mkz,rfl,hmr,hb5,hst⟩:=hres.num;have g1:=d1.below hb5;have g2:=d2.below hb5;have hW5:Below w.heap.size w w5:=Et hW2 hb5;have HMR:=hq_ hmr;have HST:=hq_ hst;have G1:=hq_ g1;have G2:=hq_ g2;clear hmr hst g1 g2 hres))
 obtain ⟨b6,hb6⟩:∃ b6,b6=w5.heap.size:=⟨_,rfl⟩;have hg2:=G2.out.lt;have hz5:w2.heap.size≤w5.heap.size:=hb5.size;have hz2:=d2.lt;have hms:RMS s m1 m2 w b6 0 a2 c2 oa oc kz mkz (w5.alloc (.cells #[.slice oa mkz.length oc] 28)):=by
  refine ⟨⟨Ea hW5 _,Bxx.at hb6,G2.out.alloc _,?_,oq_,?_⟩,G1.out.alloc _⟩
  ·have hbb:Below w5.heap.size w5 (w5.alloc (.cells #[.slice oa mkz.length oc] 28)):=Ea (Er w5) _;refine (HMR.out.lt.keep (a5_.below hbb) hbb.size).mono fun b hb=>?_;obtain ⟨hb1,hb2⟩:=hb;exact ⟨oq_,oq_⟩
  ·rcases HST.out with ⟨h1,h2,h3⟩|⟨h1,h2,h3,h4,m,h5,h6⟩
   ·exact .inl ⟨h1,h3,fun r hr=>⟨mkz,h2,.inl ⟨(d8_ h3.vt).1 h3.val,hr⟩⟩⟩
   ·exact .inr ⟨h1,h2,h3,h4,m,h5,.inr ⟨h6,rfl⟩⟩
 rw [<- hb6];have HMS:=hq_ hms;clear hms hb6 hz5 hg2 hb5 hW5 hz2 d0 d1 d2 hb2 hb1 b0 b1 b2 x0 x1 y0 y1 HMR HST G1 G2
 go_loopw [7,8,9,10,11,12,13] (fun ev idx _ _ _ _ _ wr=>∃ (j:Nat) (a:Option Addr) (c:Nat) (k:Int) (mk:List (List Per)),j≤m2.length∧idx=.int .i64 j∧ev=.int .i64 k∧Hid (RMS s m1 m2 w b6 j a2 c2 a c k mk wr)) (fun _ idx _ _ _ _ _ _=>m2.length-(intOf idx).toNat)
 case atStart=>exact ⟨0,oa,oc,kz,mkz,oq_,rfl,rfl,HMS⟩
 case round=>
  obtain ⟨j,a,c,k,mk,hj,rfl,rfl,HM⟩:=hrel;obtain ⟨wo,hwo⟩:∃ wo,wo=wr:=⟨_,rfl⟩;subst hwo;clear HMS;have r1:=HM.out.ms.obx.c0;have r2:=(HM.out.ms.rbx.cells 0).1;have r3:=(HM.out.ms.rbx.cells 0).2;have r4:=HM.out.yb.c0;have hb6l:=HM.out.ms.lt;have hb6z:=HM.out.ms.obx.lt
  by_cases hjl:j<m2.length
  ·have hjI:(j:Int)<m2.length:=oq_;obtain ⟨L2,hL2,hml⟩:=HM2.out.ext HM.out.ms.below;have hl2:L2.length=m2.length:=by rw [<- hL2,List.length_map]
   obtain ⟨b8,f8,c8,ta,tn,tc,t,he,e0,htt,hmt⟩:=hml.at (show j<L2.length by omega);injection he with q1 q2 q3
   subst q1;subst q3;clear q2;rw [hL2] at hmt;obtain ⟨_,_,he,_⟩:=htt.form;cases he;have HTT:=hq_ htt;have HMT:=hq_ hmt;have htn4:=HK2.out.tlen t (List.mem_of_getElem? hmt);have hvt:=HK2.out.vt t (List.mem_of_getElem? hmt);have HVT2:=hq_ hvt;obtain ⟨tL,htL,htl⟩:=htt;have htn:t.length=tL.length:=by rw [<- htL,List.length_map]
   have htne:0<tL.length:=by rw [<- htn];exact List.length_pos_iff.2 hvt.ne
   obtain ⟨bt,ot,x0,ha,-⟩:=htl.get htne;subst ha;have HTL:=hq_ htl;have HTLL:=hq_ htL;have HTN:=hq_ htn;have HE0:=hq_ e0;clear hml hmt hL2 hl2 htl htL htn htne hvt;have HM':=HM.out.ms.st;rcases HM' with ⟨rfl,hmv,hto⟩|⟨rfl,rfl,rfl,rfl,hnone⟩
   ·have hmkl:=hmv.len;have HMV:=hq_ hmv;have HTO:=hq_ hto;clear hmv hto;go_wp2_with fail
    go_loopw [9,10,11,12,13] (fun lv idx _ _ _ wq=>∃ (i:Nat) (la:Option Addr) (lc:Nat) (Lk:List (Value × List Per)),i≤mk.length∧idx=.int .i64 i∧lv=.slice la Lk.length lc∧Hid (Below wo.heap.size wo wq)∧Hid (OwnT (fun k=>k≤w.heap.size+2∨k=b6) wo.heap.size wq (.slice la Lk.length lc) Lk)∧Hid (Lk.map Prod.snd=minL (mk.take i) t)) (fun _ idx _ _ _ _=>mk.length-(intOf idx).toNat)
    case atStart=>exact ⟨0,some ⟨wo.heap.size,0,none⟩,0,[],oq_,rfl,rfl,hq_ (Ea (Er _) _),hq_ (OwnT.of (B:=wo.heap.size) (World.ownsRow_lit (base:=wo.heap.size) (e:=36) (size:=1) wo #[] 0 (Nat.le_refl _) (by unfold maxLen;omega) rfl) (Nat.le_refl _) sq_ (fun g hg=>by simp [Value.ownBlock] at hg;omega) sq_),hq_ rfl⟩
    case round=>
     obtain ⟨i,la,lc,Lk,hi,rfl,rfl,HBQ,HRT,HEQ⟩:=hrel;have r1:=Ext.cell HBQ.out r1;have r4:=Ext.cell HBQ.out r4
     by_cases hil:i<mk.length
     ·have hiI:(i:Int)<mk.length:=oq_;obtain ⟨L1,hL1,hml⟩:=HM.out.ms.mix.lt;have hl1:L1.length=mk.length:=by rw [<- hL1,List.length_map]
      obtain ⟨b9,f9,c9,sa,sn,sc,u,he,e1,hut,hmu⟩:=hml.at (show i<L1.length by omega);injection he with q1 q2 q3
      subst q1;subst q3;clear q2;rw [hL1] at hmu;obtain ⟨_,_,he,_⟩:=hut.form;cases he;have hvu:=HMV.out.vt u (List.mem_of_getElem? hmu);have hul:=HMV.out.tlen u (List.mem_of_getElem? hmu);have HU2:=hq_ (fun W (h:Below wo.heap.size wo W)=>(hut.keep (a5_.below h) h.size));have HE1:=hq_ e1;have HMU:=hq_ hmu;have HVU:=hq_ hvu;have e0:=Ext.cell HBQ.out HE0.out;clear hml hut hmu hvu hL1 hl1 e1;go_wp2_with fail
      go_loopw [9,11,12,13] (fun lv idx _ _ wq=>∃ (i3:Nat) (la:Option Addr) (lc:Nat) (Lk:List (Value × List Per)),i3≤t.length∧idx=.int .i64 i3∧lv=.slice la Lk.length lc∧Hid (Below wo.heap.size wo wq)∧Hid (OwnT (fun k=>k≤w.heap.size+2∨k=b6) wo.heap.size wq (.slice la Lk.length lc) Lk)∧Hid (Lk.map Prod.snd=minL (mk.take i) t ++ (t.take i3).map fun f=>wiP u f)) (fun _ idx _ _ _=>t.length-(intOf idx).toNat)
      case atStart=>exact ⟨0,la,lc,Lk,oq_,rfl,rfl,HBQ,HRT,hq_ (by rw [HEQ.out];simp)⟩
      case round=>
       obtain ⟨i3,la,lc,Lk,hi3,rfl,rfl,HBQ2,HRT2,HEQ2⟩:=hrel;have r1:=Ext.cell HBQ2.out HM.out.ms.obx.c0;have r4:=Ext.cell HBQ2.out HM.out.yb.c0;have e0:=Ext.cell HBQ2.out HE0.out;have e1:=Ext.cell HBQ2.out HE1.out
       by_cases hi3l:i3<t.length
       ·have hi3I:(i3:Int)<t.length:=oq_;have htl2:=HTL.out.keep (a5_.below HBQ2.out) HBQ2.out.size;obtain ⟨_,_,x,ha,hx,hxp,_,z0,z1,z2,z3⟩:=htl2.get (show i3<tL.length by rw [<- HTN.out];exact hi3l);cases ha;have hfx:=HVT2.out.fv x.p (by rw [hxp,HTLL.out];exact aa_ hi3l);have hxg:t[i3]? = some x.p:=by rw [hxp,HTLL.out,List.getD_eq_getElem?_getD,List.getElem?_eq_getElem hi3l];rfl
        obtain ⟨xh,xc,xp⟩:=x;obtain ⟨ax1,nx1,cx1,ax2,nx2,cx2,rfl,rfl⟩:=hx.form;dsimp only at z0 z1 z2 z3 hfx hxg;have HWO:=hq_ (fun W (h:Below wr.heap.size wr W)=>nl_ s _ _ (.slice sa u.length sc) u (.slice ax1 nx1 cx1) (.slice ax2 nx2 cx2) xp W (HU2.out W (Et HBQ2.out h)) HVU.out oq_ (hx.keep (a5_.below h)) hfx);have hwz0:=HBQ2.out.size;have HLK:Hid (Lk.length<1000000):=hq_ (by
         have h1:=congrArg List.length HEQ2.out;rw [List.length_map,List.length_append,List.length_map,dz_,List.length_take,List.length_take] at h1;have h2:min i mk.length*t.length≤64*4:=Nat.mul_le_mul oq_ htn4;omega)
        have HXG:=hq_ hxg;clear htl2 hx hxp hfx hxg;go_upto_region 14 with (fail)
        refine ai_ (w0:=wr) [0,1,2,3,4,5,6,7,8,9,10,11,12,13,14,15,16,17] [18] (fun v=>⟨#[.agg #[.slice a1 m1.length c1],.agg #[.slice (some ⟨b8,f8,none⟩) m2.length c2],.pointer (some ⟨w.heap.size,0,none⟩),.pointer (some ⟨w.heap.size+1,0,none⟩),.pointer (some ⟨w.heap.size+1+1,0,none⟩),u5,.pointer (some ⟨b6,0,none⟩),.int .i64 0,.int .i64 ↑j,.slice la Lk.length lc,.int .i64 ↑i,.int .i64 ↑i3,v 17,u13,.agg #[.slice a1 m1.length c1],.bool true,.bool false,.bool false,.agg #[.slice (some ⟨b8,f8,none⟩) m2.length c2],.bool true,.bool false,.bool false,undef,.tuple #[.agg #[.slice oa mkz.length oc],.int .i64 kz],.pointer (some ⟨w.heap.size,0,none⟩),.slice a1 m1.length c1,.tuple #[.agg #[.slice oa mkz.length oc],.int .i64 kz],.agg #[.slice oa mkz.length oc],.int .i64 kz,.int .i64 ↑j,.pointer (some ⟨w.heap.size+1,0,none⟩),.slice (some ⟨b8,f8,none⟩) m2.length c2,.int .i64 ↑m2.length,.bool true,.bool true,.int .i64 0,.bool true,.bool true,u38,u39,.slice (some ⟨wo.heap.size,0,none⟩) 0 0,.int .i64 ↑i,.pointer (some ⟨b6,0,none⟩),.slice (some ⟨b9,f9,none⟩) mk.length c,.int .i64 ↑mk.length,.bool true,u46,u47,.int .i64 ↑i3,.pointer (some ⟨w.heap.size+1,0,none⟩),.slice (some ⟨b8,f8,none⟩) m2.length c2,.int .i64 ↑j,.pointer (some ⟨b8,f8+j,none⟩),.slice (some ⟨bt,ot,none⟩) t.length tc,.int .i64 ↑t.length,.bool true,u56,u57,v 14,v 0,v 1,v 2,v 3,v 4,v 5,v 6,v 7,v 8,v 9,v 10,v 11,v 12,v 13,v 15,v 16,u75,u76,u77,u78,u79,u80,u81,u82,u83,u84,u85,u86,undef,undef],[]⟩) [.pointer (some ⟨b6,0,none⟩),.slice (some ⟨b9,f9,none⟩) mk.length c,.int .i64 i,.pointer (some ⟨b9,f9+i,none⟩),.slice sa u.length sc,.pointer (some ⟨w.heap.size+1,0,none⟩),.slice (some ⟨b8,f8,none⟩) m2.length c2,.int .i64 j,.pointer (some ⟨b8,f8+j,none⟩),.slice (some ⟨bt,ot,none⟩) t.length tc,.int .i64 i3,.pointer (some ⟨bt,ot+i3*4,none⟩),perV (.slice ax1 nx1 cx1) (.slice ax2 nx2 cx2) xp.frm xp.period,undef,undef,undef,.bool true,undef] [13,14,15,17] (fun i v lo hi W=>match i with|13=>∃ v',v 13=.tuple #[v',.bool true]∧ab_ W (fun b=>((w.heap.size+2<b∧b≠b6)∧b<wo.heap.size)∨lo 13≤b) v' (wiP u xp)|14=>v 14=v 13∧∃ v',v 14=.tuple #[v',.bool true]|15=>∃ v',v 14=.tuple #[v',.bool true]∧v 15=v'|17=>∃ v',v 14=.tuple #[v',.bool true]∧v 17=v'|_=>True) (fun W=>W.cell? ⟨b6,0,none⟩=some (.slice (some ⟨b9,f9,none⟩) mk.length c)∧W.cell? ⟨w.heap.size+1,0,none⟩=some (.slice (some ⟨b8,f8,none⟩) m2.length c2)∧W.cell? ⟨b9,f9+i,none⟩=some (.slice sa u.length sc)∧W.cell? ⟨b8,f8+j,none⟩=some (.slice (some ⟨bt,ot,none⟩) t.length tc)∧W.cell? ⟨bt,ot+i3*4,none⟩=some (.slice ax1 nx1 cx1)∧W.cell? ⟨bt,ot+i3*4+1,none⟩=some (.int .i64 xp.frm)∧W.cell? ⟨bt,ot+i3*4+2,none⟩=some (.int .i64 xp.period)∧W.cell? ⟨bt,ot+i3*4+3,none⟩=some (.slice ax2 nx2 cx2)) (fun W hb=>⟨Ext.cell hb r1,Ext.cell hb r4,Ext.cell hb e1,Ext.cell hb e0,Ext.cell hb z0,Ext.cell hb z1,Ext.cell hb z2,Ext.cell hb z3⟩) ?stab ?loc ?steps ?fin (fun j=>match j with|0=>u59|1=>u60|2=>u61|3=>u62|4=>u63|5=>u64|6=>u65|7=>u66|8=>u67|9=>u68|10=>u69|11=>u70|12=>u71|13=>u72|14=>u58|15=>u73|16=>u74|17=>u12|_=>undef)
        case stab=>
         refine ⟨?_,?_,?_,?_,trivial⟩
         ·intro v lo hi W W' h hb;exact (let ⟨x1,e,ht⟩:=h;⟨x1,e,ht.ext hb⟩)
         ·intro v lo hi W W' h hb;exact h
         ·intro v lo hi W W' h hb;exact h
         ·intro v lo hi W W' h hb;exact h
        case loc=>
         refine ⟨?_,?_,?_,?_,trivial⟩
         ·intro v v' lo lo' hi hi' W hag h;have q:=hag 13 (.inl rfl)
          (try dsimp only at h ⊢)
          simp only [q.1,q.2.1,q.2.2] at h;exact h
         ·intro v v' lo lo' hi hi' W hag h;have q:=hag 14 (.inl rfl);have q13:=hag 13 (.inr (Rdp (by kernel_rfl)))
          (try dsimp only at h ⊢)
          simp only [q.1,q.2.1,q.2.2,q13.1,q13.2.1,q13.2.2] at h;exact h
         ·intro v v' lo lo' hi hi' W hag h;have q:=hag 15 (.inl rfl);have q14:=hag 14 (.inr (Rdp (by kernel_rfl)))
          (try dsimp only at h ⊢)
          simp only [q.1,q.2.1,q.2.2,q14.1,q14.2.1,q14.2.2] at h;exact h
         ·intro v v' lo lo' hi hi' W hag h;have q:=hag 17 (.inl rfl);have q14:=hag 14 (.inr (Rdp (by kernel_rfl)))
          (try dsimp only at h ⊢)
          simp only [q.1,q.2.1,q.2.2,q14.1,q14.2.1,q14.2.2] at h;exact h
        case steps=>
         clear r1 r4 e1 e0 z0 z1 z2 z3;refine .c [] [] rfl ?_ (.c [0] [] rfl ?_ (.c [] [] rfl ?_ (.c [1,2] [] rfl ?_ (.c [3] [] rfl ?_ (.c [] [] rfl ?_ (.c [5] [] rfl ?_ (.c [] [] rfl ?_ (.c [6,7] [] rfl ?_ (.c [8] [] rfl ?_ (.c [] [] rfl ?_ (.c [9,10] [] rfl ?_ (.c [11] [] rfl ?_ (.c [4,12] [] rfl ?_ (.c [] [13] rfl ?_ (.c [] [14] rfl ?_ (.c [] [14] rfl ?_ (.c [] [15] rfl ?_ (.n))))))))))))))))))
         all_goals try exact stw
         ·rintro v lo hi W hb ⟨s0,s1,s2,s3,t0,t1,t2,t3⟩ _;refine .inl ⟨rfl,fun K hK=>?_⟩;simp only [ov,vat,Nat.reduceBEq,cond_true,cond_false];go_wp2_with (go_at_call 92;(with_reducible refine (HWO.out _ hb).mono ?_);rintro e w9 ⟨v',rfl,ht9,hb9⟩)
          exact acx (hK (.tuple #[v',.bool true]) w9 hb9 ⟨v',rfl,ht9⟩) (by simp [ov,vat,upd])
         ·rintro v lo hi W hb ⟨s0,s1,s2,s3,t0,t1,t2,t3⟩ ⟨⟨la13,lb13,D13⟩,_⟩;refine .inl ⟨rfl,fun K hK=>?_⟩;simp only [ov,vat,Nat.reduceBEq,cond_true,cond_false]
          (try dsimp only at D13)
          obtain ⟨v8,e8,_⟩:=D13;go_wp2_with fail
          exact acx (hK (v 13) W (Below.refl _ _) ⟨rfl,v8,e8⟩) (by simp [ov,vat,upd,e8])
         ·rintro v lo hi W hb ⟨s0,s1,s2,s3,t0,t1,t2,t3⟩ ⟨⟨la14,lb14,D14⟩,_⟩;refine .inl ⟨rfl,fun K hK=>?_⟩;simp only [ov,vat,Nat.reduceBEq,cond_true,cond_false]
          (try dsimp only at D14)
          obtain ⟨-,v9,e9⟩:=D14;simp only [e9];go_wp2_with fail
          exact acx (hK v9 W (Below.refl _ _) ⟨v9,e9,rfl⟩) (by simp [ov,vat,upd,e9])
         ·rintro v lo hi W hb ⟨s0,s1,s2,s3,t0,t1,t2,t3⟩ ⟨⟨la14,lb14,D14⟩,_⟩;refine .inl ⟨rfl,fun K hK=>?_⟩;simp only [ov,vat,Nat.reduceBEq,cond_true,cond_false]
          (try dsimp only at D14)
          obtain ⟨-,v9,e9⟩:=D14;simp only [e9];go_wp2_with fail
          exact acx (hK W (Below.refl _ _)) (by simp [ov,vat,upd,e9])
         ·rintro v lo hi W hb ⟨s0,s1,s2,s3,t0,t1,t2,t3⟩ ⟨⟨la15,lb15,D15⟩,_⟩;refine .inl ⟨rfl,fun K hK=>?_⟩;simp only [ov,vat,Nat.reduceBEq,cond_true,cond_false]
          (try dsimp only at D15)
          obtain ⟨v9,e9,e15⟩:=D15;go_wp2_with fail
          exact acx (hK (v 15) W (Below.refl _ _) ⟨v9,e9,e15⟩) (by simp [ov,vat,upd,e9,e15])
        case fin=>
         rintro v lo hi9 W2 hb ⟨s0,s1,s2,s3,t0,t1,t2,t3⟩ hf hap;show wpList _ _ _ [_] _ _;obtain ⟨l13,-,h13,v',e13,ht13⟩:=hf 13 rfl;obtain ⟨-,-,-,e14,-⟩:=hf 14 rfl;obtain ⟨-,-,-,v9,e14',e15⟩:=hf 17 rfl;have e16:v 16=.bool true:=(hf 16 rfl).2.2.2;clear hf hap s0 s1 s2 s3 t0 t1 t2 t3;rw [e14,e13] at e14';obtain rfl:v'=v9:=by simpa using e14'
         dsimp only;rw [e15,e16];clear e14 e14' e13 e15 e16;generalize lo 13=l13v at *;generalize hi9 13=h13v at *;generalize v 0=z0,v 1=z1,v 2=z2,v 3=z3,v 4=z4,v 5=z5,v 6=z6,v 7=z7,v 8=z8,v 9=z9,v 10=z10,v 11=z11,v 12=z12,v 13=z13,v 14=z14;obtain ⟨va,vc,rfl,_⟩:=ht13.form;have HT7:=hq_ ht13;have HE7:=hq_ hb;have hz7:=hb.size;clear ht13 hb;go_wp2_with (at_builtin;refine er_ rq_ _ _ rq_ (fun k=>k≤w.heap.size+2∨k=b6) wo.heap.size (.slice la Lk.length lc) Lk (.slice va (wiP u xp).length vc,wiP u xp) rq_ (HRT2.out.ext (Ea HE7.out _)) ((HT7.out.ext (Ea (Er W2) _)).mono fun b hb=>⟨fun h=>by rcases hb with ⟨⟨h1,h2⟩,h3⟩|h1 <;> rcases h with h|h <;> omega,fun e=>by have h4:=HRT2.out.own b e;have h5:=(HRT2.out.row.row.lt b e).2;rcases hb with ⟨⟨h1,h2⟩,h3⟩|h1 <;> omega⟩) _ _ rq_ sq_ (by intro h;simp at h;omega) HLK.out tq_ ?_;intro ga gc w8 ho8 hg8 hb8;have HO8:=hq_ ho8;have HB8:Hid (Below wo.heap.size wo w8):=hq_ ((HBQ2.out.trans ((Ea HE7.out (.cells #[.slice va (wiP u xp).length vc] 36)).mono hwz0)).trans hb8);clear ho8 hg8 hb8)
         go_roundw
         case rel=>
          have hle:(Lk ++ [(Value.slice va (wiP u xp).length vc,wiP u xp)]).length=Lk.length+1:=by simp
          refine ⟨i3+1,ga,gc,Lk ++ [(.slice va (wiP u xp).length vc,wiP u xp)],oq_,by go_num,by rw [hle],HB8,hq_ (by rw [hle];exact HO8.out),hq_ ?_⟩;rw [List.map_append,HEQ2.out,List.append_assoc]
          congr 1
          obtain ⟨h1,h2⟩:=List.getElem?_eq_some_iff.1 HXG.out;rw [List.take_succ_eq_append_getElem h1,List.map_append,h2];rfl
         case measure=>simp [intOf];omega
       ·obtain rfl:i3=t.length:=oq_;go_wp2_with fail
        go_roundw
        case rel=>exact ⟨i+1,la,lc,Lk,oq_,by go_num,rfl,HBQ2,HRT2,hq_ (by
         rw [HEQ2.out,List.take_of_length_le (l:=t) (Nat.le_refl _)];obtain ⟨h1,h2⟩:=List.getElem?_eq_some_iff.1 HMU.out;unfold minL;rw [List.take_succ_eq_append_getElem h1,List.flatMap_append,h2];simp)⟩
        case measure=>simp [intOf];omega
     ·obtain rfl:i=mk.length:=oq_;have hmx:MixR wr (fun _=>True) (.slice la Lk.length lc) (minL mk t):=⟨Lk,by rw [HEQ.out,List.take_of_length_le (Nat.le_refl _)],HRT.out.row.mix.mono fun _ _=>trivial⟩;have htl:(minL mk t).length≤256:=by rw [dz_];exact Nat.mul_le_mul hmkl htn4
      have HNOH:=hq_ (dy_ s _ _ (minL mk t) _ hmx (uo_ HMV.out.vt HVT2.out.fv) (fun x hx=>by obtain ⟨u,hu,f,hf,rfl⟩:=k1_.1 hx;rw [vz_];have:=HMV.out.tlen u hu;omega) oq_);have hwz:=HBQ.out.size;clear hmx;go_wp2_with (go_at_call 90;refine HNOH.out.mono ?_;rintro e w5 hres;obtain ⟨oa,oc,k9,mk9,rfl,hmr,hb5,hst⟩:=hres.num;have hE5:Below wo.heap.size wo w5:=Et HBQ.out hb5;have ho5:=HM.out.ms.obx.below hE5;have s1:=(ho5.cells 0).1;have s2:=(ho5.cells 0).2;have HMR:=hq_ hmr;have HST:=hq_ hst;have HO5:=hq_ ho5;have HE5:=hq_ hE5;clear hmr hst hres hb5 hE5 ho5)
      go_roundw
      case rel=>
       have hdr:m2.drop j=t :: m2.drop (j+1):=by
        obtain ⟨h1,h2⟩:=List.getElem?_eq_some_iff.1 HMT.out;rw [List.drop_eq_getElem_cons h1,h2]
       refine ⟨j+1,oa,oc,k9,mk9,oq_,by go_num,rfl,hq_ ⟨⟨?_,a4_ 0 _ HO5.out,?_,?_,hb6l,?_⟩,?_⟩⟩
       ·exact (HM.out.ms.below.trans (HE5.out.mono HM.out.ms.below.size)).setCell (p:=⟨b6,0,none⟩) (show w.heap.size≤b6 by omega) _
       ·exact Bxx.setNe (HM.out.ms.rbx.below HE5.out) _ oq_
       ·exact (HMR.out.set (b:=b6) oq_).mono fun b (hb:_≤b)=>⟨oq_,oq_⟩
       ·rcases HST.out with ⟨h1,h2,h3⟩|⟨h1,h2,h3,h4,m,h5,h6⟩
        ·exact .inl ⟨h1,h3,fun r hr=>HTO.out r (by rw [hdr];exact .step h2 ((d8_ h3.vt).1 h3.val) hr)⟩
        ·exact .inr ⟨h1,h2,h3,h4,HTO.out none (by rw [hdr];exact .big h5 h6)⟩
       ·exact Bxx.setNe (HM.out.yb.below HE5.out) _ oq_
      case measure=>simp [intOf];omega
   ·have HNO:=hq_ hnone;clear hnone;go_wp2_with fail
    have hcc:=Bxx.c0 (w:=wo.setCell ⟨w.heap.size+1+1,0,none⟩ (.slice none 0 0)) (a4_ 0 (.slice none 0 0) HM.out.ms.rbx);exact bodyPost_ret (v:=.tuple #[.agg #[.slice none 0 0],.int .i64 2]) (by simp [results,Tryz.results49,go_sem,hcc]) rfl ⟨.slice none 0 0,none,HNO.out,HM.out.ms.below.setCell (p:=⟨w.heap.size+1+1,0,none⟩) (by show w.heap.size≤w.heap.size+1+1;omega) _,.inr ⟨rfl,rfl⟩⟩
  ·obtain rfl:j=m2.length:=oq_;go_wp2_with fail
   have hcc:=Bxx.c0 (w:=wo.setCell ⟨w.heap.size+1+1,0,none⟩ (.slice a mk.length c)) (a4_ 0 (.slice a mk.length c) HM.out.ms.rbx);have hbe:=HM.out.ms.below.setCell (p:=⟨w.heap.size+1+1,0,none⟩) (by show w.heap.size≤w.heap.size+1+1;omega) (.slice a mk.length c);rcases HM.out.ms.st with ⟨rfl,hmv,hto⟩|⟨rfl,rfl,rfl,rfl,hnone⟩
   ·refine bodyPost_ret (v:=.tuple #[.agg #[.slice a mk.length c],.int .i64 0]) (by simp [results,Tryz.results49,go_sem,hcc]) rfl ⟨.slice a mk.length c,some mk,hto _ (by rw [List.drop_of_length_le (Nat.le_refl _)];exact .nil),hbe,.inl ⟨mk,rfl,hmv,rfl,?_⟩⟩;exact (HM.out.ms.mix.keep (fun b hb _=>Below.heap_setCell wo ⟨w.heap.size+1+1,0,none⟩ _ b (by show b≠w.heap.size+1+1;have:=hb.1;omega)) (by rw [World.size_setCell];exact Nat.le_refl _)).mono fun b hb=>by have:=hb.1;omega
   ·simp only [List.length_nil] at hcc;exact bodyPost_ret (v:=.tuple #[.agg #[.slice none 0 0],.int .i64 2]) (by simp [results,Tryz.results49,go_sem,hcc]) rfl ⟨.slice none 0 0,none,hnone,hbe,.inr ⟨rfl,rfl⟩⟩
theorem vs_ {lo hi:Nat} {c:Value} (hp:ar_ W lo hi h c q) (hv:FV s q):PVok W (fun b=>lo≤b∧b<hi) ⟨h,c,q⟩:=by
 have v1:=hv.valid;have v2:=v1.wf.frm;have v3:q.frm≤1099511627776:=v1.frm;have v4:=v1.wf.per;have v5:q.period≤1099511627776:=v1.per;exact ⟨hp.is,⟨by show _≤q.frm;omega,by show q.frm≤_;omega⟩,⟨by show _≤q.period;omega,by show q.period≤_;omega⟩,fun hh k hk=>hp.hd.blk hh k hk,fun hh k hk=>hp.cy.blk hh k hk⟩
theorem tc_ (s:Int) (F:Nat->Prop) (v:Value) (m:List (List Per)) (w:World) (hm:MixR w F v m) (k1:MV s m) (hs:0≤s) :
  Calls Tryz.prog 52 #[.agg #[v]] w (q8_ (aq_ perE m) w):=by
 have HV1:=fun W (h:Below w.heap.size w W)=>cb_ F v m W (hm.ext h);rw [k1.val] at HV1;have l1:=k1.len;obtain ⟨a1,c1,rfl⟩:=hm.form;have HM1:=hq_ hm;have HK1:=hq_ k1;clear hm k1
 go_enter Tryz.func52,Tryz.ntmps52
 go_wp2_with ((go_at_call 17;((with_reducible refine (HV1 _ (Ea (Ea (Er w) _) _)).mono ?_);rintro e w1 ⟨rfl,hb1⟩;have b0:Bxx w1 w.heap.size #[.slice a1 m.length c1] 28:=Bxx.below xB hb1;have b1:Bxx w1 (w.heap.size+1) #[.slice none 0 0,.int .i64 0,.int .i64 0,.slice none 0 0] 39:=Bxx.below xB hb1;have hW1:Below w.heap.size w w1:=Et (Ea (Ea (Er w) _) _) hb1;have HB0:=hq_ b0;have HB1:=hq_ b1;clear b0 b1)))
 obtain ⟨b4,hb4⟩:∃ b4,b4=w1.heap.size:=⟨_,rfl⟩;have hz1:=HB1.out.lt;have hjs:JS s w b4 (aq_ perE (m.take 0)) none 0 0 none 0 0 (w1.alloc (.cells #[.slice none 0 0,.int .i64 0,.int .i64 1,.slice none 0 0] 39)):=by
  refine ⟨Ea hW1 _,HB1.out.alloc _,Bxx.at hb4,⟨⟨Ints.nil _,Ints.nil _⟩,show InI (0:Int) from ⟨dq_,dq_⟩,show InI (1:Int) from ⟨dq_,dq_⟩,fun h=>absurd rfl h,fun h=>absurd rfl h⟩,oq_,j6_ hs⟩
 have HMB:Hid (Bxx (w1.alloc (.cells #[.slice none 0 0,.int .i64 0,.int .i64 1,.slice none 0 0] 39)) w.heap.size #[.slice a1 m.length c1] 28):=hq_ (HB0.out.alloc _);rw [<- hb4];have HJS:=hq_ hjs;clear hjs hb1 hW1 hb4 HB0 HB1
 go_loopw [5,6,7,8,9] (fun idx _ _ _ _ wr=>∃ (j:Nat) (x1:Option Addr) (y1 z1:Nat) (x2:Option Addr) (y2 z2:Nat),j≤m.length∧idx=.int .i64 j∧Hid (JS s w b4 (aq_ perE (m.take j)) x1 y1 z1 x2 y2 z2 wr)∧Hid (Bxx wr w.heap.size #[.slice a1 m.length c1] 28)) (fun idx _ _ _ _ _=>m.length-(intOf idx).toNat)
 case atStart=>exact ⟨0,none,0,0,none,0,0,oq_,rfl,HJS,HMB⟩
 case round=>
  obtain ⟨j,x1,y1,z1,x2,y2,z2,hj,rfl,HM,HA⟩:=hrel;obtain ⟨wo,hwo⟩:∃ wo,wo=wr:=⟨_,rfl⟩;subst hwo;clear HJS HMB;have r0:=HA.out.c0;have r1:=(HM.out.abx.cells 0).1;have r2:=(HM.out.abx.cells 1).1;have r3:=(HM.out.abx.cells 2).1;have r4:=(HM.out.abx.cells 3).1
  by_cases hjl:j<m.length
  ·have hjI:(j:Int)<m.length:=oq_;obtain ⟨L2,hL2,hml⟩:=HM1.out.lt;have hl2:L2.length=m.length:=by rw [<- hL2,List.length_map]
   obtain ⟨b8,f8,c8,ta,tn,tc,t,he,e0,htt,hmt⟩:=hml.at (show j<L2.length by omega);injection he with q1 q2 q3
   subst q1;subst q3;clear q2;rw [hL2] at hmt;have hvt:=HK1.out.vt t (List.mem_of_getElem? hmt);obtain ⟨tL,htL,htl⟩:=htt;obtain ⟨_,_,he,_⟩:=htl.row.is;have htn:tn=tL.length:=by injection he with _ h _
   have ht0:0<tL.length:=by have:=List.length_pos_iff.2 hvt.ne;rw [<- htL,List.length_map] at this;exact this
   have ht4:tL.length≤4:=by have:=HK1.out.tlen t (List.mem_of_getElem? hmt);rw [<- htL,List.length_map] at this;exact this
   obtain ⟨bt,ot,x,ha,hx,hxp,_,u0,u1,u2,u3⟩:=htl.get ht0;subst ha;subst htn;obtain ⟨xh,xc,xp⟩:=x;obtain ⟨ax1,nx1,cx1,ax2,nx2,cx2,rfl,rfl⟩:=hx.form;dsimp only at u0 u1 u2 u3;have e0:=Ext.cell HM.out.below e0;have u0:=Ext.cell HM.out.below u0;have u1:=Ext.cell HM.out.below u1;have u2:=Ext.cell HM.out.below u2;have u3:=Ext.cell HM.out.below u3;have HTL:=hq_ htl;have HX:=hq_ hx;have HXP:=hq_ hxp;have HMT:=hq_ hmt;have HVT:=hq_ hvt;have HTLE:=hq_ htL;simp only [Nat.zero_mul,Nat.add_zero] at u0 u1 u2 u3;clear hml htl hx hxp hmt hvt hL2 hl2 htL he;have htI:(0:Int)<tL.length:=oq_;obtain ⟨b7,hb7⟩:∃ b7,b7=wo.heap.size:=⟨_,rfl⟩;have HJ:Hid (JP s w b4 b7 (aq_ perE (m.take j)) x1 y1 z1 x2 y2 z2 (andL xp ((tL.map PV.p).tail.take 0)) ax1 nx1 cx1 ax2 nx2 cx2 (wo.alloc (.cells #[.slice ax1 nx1 cx1,.int .i64 xp.frm,.int .i64 xp.period,.slice ax2 nx2 cx2] 39))):=by
    have hab:=HM.out.abx.lt;refine hq_ ⟨HM.out.ext (Ea (Er _) _),Bxx.at hb7,((HM.out.pv.lt).keep (a5_.below (Ea (Er _) _))).mono fun b hb=>?_,(HX.out.keep (a5_.below (Ea HM.out.below _))).mono fun b hb=>.inl hb.2,oq_,HVT.out.fv _ ?_⟩
    ·exact ⟨hb.1.1,hb.1.2,oq_⟩
    ·rw [show (andL xp ((tL.map PV.p).tail.take 0))=xp from rfl,show xp=_ from HXP.out,HTLE.out];exact aa_ (List.length_pos_iff.2 HVT.out.ne)
   have HA2:Hid (Bxx (wo.alloc (.cells #[.slice ax1 nx1 cx1,.int .i64 xp.frm,.int .i64 xp.period,.slice ax2 nx2 cx2] 39)) w.heap.size #[.slice (some ⟨b8,f8,none⟩) m.length c1] 28):=hq_ (HA.out.alloc _);go_wp2_with fail
   rw [<- hb7];clear hb7 u0 u1 u2 u3 e0
   go_loopw [8,9] (fun ev kv wq=>∃ (i:Nat) (y1':Option Addr) (f1 g1:Nat) (y2':Option Addr) (f2 g2:Nat),i+1≤tL.length∧ev=.int .i64 0∧kv=.int .i64 (i+1:Nat)∧Hid (JP s w b4 b7 (aq_ perE (m.take j)) x1 y1 z1 x2 y2 z2 (andL xp ((tL.map PV.p).tail.take i)) y1' f1 g1 y2' f2 g2 wq)∧Hid (Bxx wq w.heap.size #[.slice (some ⟨b8,f8,none⟩) m.length c1] 28)) (fun _ kv _=>tL.length-(intOf kv).toNat)
   case atStart=>exact ⟨0,ax1,nx1,cx1,ax2,nx2,cx2,oq_,rfl,by go_num,HJ,HA2⟩
   case round=>
    obtain ⟨i,y1',f1,g1,y2',f2,g2,hi,rfl,rfl,HP,HAI⟩:=hrel;clear HJ HA2
    by_cases hil:i+1<tL.length
    ·have hiI:(i:Int)+1<tL.length:=oq_;have htl2:=HTL.out.keep (a5_.below HP.out.js.below) HP.out.js.below.size;obtain ⟨bt',ot',z,ha,hz,hzp,_,k0,k1,k2,k3⟩:=htl2.get hil;cases ha;obtain ⟨zh,zc,zp⟩:=z;obtain ⟨az1,nz1,cz1,az2,nz2,cz2,rfl,rfl⟩:=hz.form;dsimp only at k0 k1 k2 k3 hzp;have hfz:FV s zp:=by rw [hzp,HTLE.out];exact HVT.out.fv _ (aa_ (by rw [<- HTLE.out,List.length_map];omega))
     have HNX:Hid (andL xp ((tL.map PV.p).tail.take (i+1))=andP (andL xp ((tL.map PV.p).tail.take i)) zp):=hq_ (by
      have h1:i<(tL.map PV.p).tail.length:=by rw [List.length_tail,List.length_map];omega
      have h2:(tL.map PV.p).tail[i]=zp:=by
       rw [List.getElem_tail,hzp,List.getD_eq_getElem?_getD,List.getElem?_eq_getElem];rfl
      unfold andL;rw [List.take_succ_eq_append_getElem h1,List.foldl_append,h2];rfl)
     have p0:=(HP.out.px.cells 0).1;have p1:=(HP.out.px.cells 1).1;have p2:=(HP.out.px.cells 2).1;have p3:=(HP.out.px.cells 3).1;have HAND:=hq_ (fun W (hb:Below wr.heap.size wr W)=>show Calls _ _ #[.agg #[.slice y1' f1 g1,.int .i64 _,.int .i64 _,.slice y2' f2 g2],.agg #[.slice az1 nz1 cz1,.int .i64 zp.frm,.int .i64 zp.period,.slice az2 nz2 cz2]] W (b6_ (andP (andL xp ((tL.map PV.p).tail.take i)) zp) W) from pw_ s _ _ _ _ _ zp W (HP.out.pvr.is.ext hb) (hz.is.ext hb) HP.out.fvr hfz);have HVR:=hq_ (HP.out.fvr.and hfz);generalize andP (andL xp ((tL.map PV.p).tail.take i)) zp=q at *;generalize andL xp ((tL.map PV.p).tail.take i)=r at *;have hl7:=HP.out.px.lt;clear htl2 hz hzp hfz;go_upto_region 13 with (fail)
     refine Code.wp_mono (Q:=fun e a' W'=>e=.normal∧(∃ (ya:Option Addr) (yn yc:Nat) (za:Option Addr) (zn zc:Nat) (y36 y37 y38 y39 y40 y41 y42 y43 y44:Value),a'=⟨#[.agg #[.slice (some ⟨b8,f8,none⟩) m.length c1],.pointer (some ⟨w.heap.size,0,none⟩),.pointer (some ⟨w.heap.size+1,0,none⟩),u3,.pointer (some ⟨b4,0,none⟩),.int .i64 ↑j,.slice (some ⟨bt,ot,none⟩) tL.length tc,.pointer (some ⟨b7,0,none⟩),.int .i64 0,.int .i64 ↑(i+1),.agg #[.slice (some ⟨b8,f8,none⟩) m.length c1],.bool true,.bool false,undef,.agg #[.slice none 0 0,.int .i64 0,.int .i64 1,.slice none 0 0],.int .i64 ↑j,.pointer (some ⟨w.heap.size,0,none⟩),.slice (some ⟨b8,f8,none⟩) m.length c1,.int .i64 ↑m.length,.bool true,u20,u21,.pointer (some ⟨w.heap.size,0,none⟩),.slice (some ⟨b8,f8,none⟩) m.length c1,.int .i64 ↑j,.pointer (some ⟨b8,f8+j,none⟩),.slice (some ⟨bt,ot,none⟩) tL.length tc,.slice (some ⟨bt,ot,none⟩) tL.length tc,.pointer (some ⟨bt,ot,none⟩),.agg #[.slice ax1 nx1 cx1,.int .i64 xp.frm,.int .i64 xp.period,.slice ax2 nx2 cx2],.int .i64 ↑(i+1),.slice (some ⟨bt,ot,none⟩) tL.length tc,.int .i64 ↑tL.length,.bool true,u34,u35,y36,y37,y38,y39,y40,y41,y42,y43,y44,u45,u46,u47,u48,u49,u50,u51,u52,u53,u54,u55,u56,u57,u58,undef],[]⟩∧Hid (JP s w b4 b7 (aq_ perE (m.take j)) x1 y1 z1 x2 y2 z2 q ya yn yc za zn zc W'))∧Hid (Bxx W' w.heap.size #[.slice (some ⟨b8,f8,none⟩) m.length c1] 28)) ?imp ?reg
     case reg=>
      refine cx_ (w0:=wr) [0,1,2,3,4,5,6,7,8] 8 9 [10] (fun v=>⟨#[.agg #[.slice (some ⟨b8,f8,none⟩) m.length c1],.pointer (some ⟨w.heap.size,0,none⟩),.pointer (some ⟨w.heap.size+1,0,none⟩),u3,.pointer (some ⟨b4,0,none⟩),.int .i64 ↑j,.slice (some ⟨bt,ot,none⟩) tL.length tc,.pointer (some ⟨b7,0,none⟩),.int .i64 0,.int .i64 ↑(i+1),.agg #[.slice (some ⟨b8,f8,none⟩) m.length c1],.bool true,.bool false,undef,.agg #[.slice none 0 0,.int .i64 0,.int .i64 1,.slice none 0 0],.int .i64 ↑j,.pointer (some ⟨w.heap.size,0,none⟩),.slice (some ⟨b8,f8,none⟩) m.length c1,.int .i64 ↑m.length,.bool true,u20,u21,.pointer (some ⟨w.heap.size,0,none⟩),.slice (some ⟨b8,f8,none⟩) m.length c1,.int .i64 ↑j,.pointer (some ⟨b8,f8+j,none⟩),.slice (some ⟨bt,ot,none⟩) tL.length tc,.slice (some ⟨bt,ot,none⟩) tL.length tc,.pointer (some ⟨bt,ot,none⟩),.agg #[.slice ax1 nx1 cx1,.int .i64 xp.frm,.int .i64 xp.period,.slice ax2 nx2 cx2],.int .i64 ↑(i+1),.slice (some ⟨bt,ot,none⟩) tL.length tc,.int .i64 ↑tL.length,.bool true,u34,u35,v 6,v 0,v 1,v 2,v 3,v 4,v 5,v 7,v 8,u45,u46,u47,u48,u49,u50,u51,u52,u53,u54,u55,u56,u57,u58,undef],[]⟩) [.agg #[.slice y1' f1 g1,.int .i64 r.frm,.int .i64 r.period,.slice y2' f2 g2],.slice (some ⟨bt,ot,none⟩) tL.length tc,.int .i64 (i+1:Nat),.pointer (some ⟨bt,ot+(i+1)*4,none⟩),.agg #[.slice az1 nz1 cz1,.int .i64 zp.frm,.int .i64 zp.period,.slice az2 nz2 cz2],undef,undef,undef,.int .i64 0] [5,6,7] (fun i v lo hi W=>match i with|5=>∃ h c,v 5=.tuple #[perV h c q.frm q.period,.int .i64 0]∧e4_ W (lo 5) (hi 5) h c q|6=>v 6=v 5∧∃ h c,v 6=.tuple #[perV h c q.frm q.period,.int .i64 0]|7=>∃ h c,v 6=.tuple #[perV h c q.frm q.period,.int .i64 0]∧v 7=perV h c q.frm q.period|_=>True) (fun W=>W.cell? ⟨b7,0,none⟩=some (.slice y1' f1 g1)∧W.cell? ⟨b7,1,none⟩=some (.int .i64 r.frm)∧W.cell? ⟨b7,2,none⟩=some (.int .i64 r.period)∧W.cell? ⟨b7,3,none⟩=some (.slice y2' f2 g2)∧W.cell? ⟨bt,ot+(i+1)*4,none⟩=some (.slice az1 nz1 cz1)∧W.cell? ⟨bt,ot+(i+1)*4+1,none⟩=some (.int .i64 zp.frm)∧W.cell? ⟨bt,ot+(i+1)*4+2,none⟩=some (.int .i64 zp.period)∧W.cell? ⟨bt,ot+(i+1)*4+3,none⟩=some (.slice az2 nz2 cz2)) (fun W hb=>⟨Ext.cell hb p0,Ext.cell hb p1,Ext.cell hb p2,Ext.cell hb p3,Ext.cell hb k0,Ext.cell hb k1,Ext.cell hb k2,Ext.cell hb k3⟩) ?stab ?loc ?steps ?fin ?fin2 (fun j=>match j with|0=>u37|1=>u38|2=>u39|3=>u40|4=>u41|5=>u42|6=>u36|7=>u43|8=>u44|_=>undef)
      case stab=>
       refine ⟨?_,?_,?_,trivial⟩
       ·intro v lo hi W W' h hb;exact (let ⟨x1,x2,e,hp⟩:=h;⟨x1,x2,e,hp.below hb⟩)
       ·intro v lo hi W W' h hb;exact h
       ·intro v lo hi W W' h hb;exact h
      case loc=>
       refine ⟨?_,?_,?_,trivial⟩
       ·intro v v' lo lo' hi hi' W hag h;have q:=hag 5 (.inl rfl)
        (try dsimp only at h ⊢)
        simp only [q.1,q.2.1,q.2.2] at h;exact h
       ·intro v v' lo lo' hi hi' W hag h;have q:=hag 6 (.inl rfl);have q5:=hag 5 (.inr (Rdp (by kernel_rfl)))
        (try dsimp only at h ⊢)
        simp only [q.1,q.2.1,q.2.2,q5.1,q5.2.1,q5.2.2] at h;exact h
       ·intro v v' lo lo' hi hi' W hag h;have q:=hag 7 (.inl rfl);have q6:=hag 6 (.inr (Rdp (by kernel_rfl)))
        (try dsimp only at h ⊢)
        simp only [q.1,q.2.1,q.2.2,q6.1,q6.2.1,q6.2.2] at h;exact h
      case steps=>
       clear p0 p1 p2 p3 k0 k1 k2 k3;refine .c [] [] rfl ?_ (.c [] [] rfl ?_ (.c [] [] rfl ?_ (.c [1,2] [] rfl ?_ (.c [3] [] rfl ?_ (.c [0,4] [] rfl ?_ (.c [] [5] rfl ?_ (.c [] [6] rfl ?_ (.c [] [6] rfl ?_ (.n)))))))))
       all_goals try exact stl
       ·rintro v lo hi W hb ⟨s0,s1,s2,s3,t0,t1,t2,t3⟩ _;refine ⟨rfl,fun K hK=>?_⟩;simp only [ov,vat,Nat.reduceBEq,cond_true,cond_false];go_wp2_with (go_at_call 95;(with_reducible refine (HAND.out _ hb).mono ?_);rintro e w9 ⟨h',c',rfl,ho,hb9⟩)
        exact acx (hK (.tuple #[perV h' c' q.frm q.period,.int .i64 0]) w9 hb9 ⟨h',c',rfl,ho.at⟩) (by simp [ov,vat,upd])
       ·rintro v lo hi W hb ⟨s0,s1,s2,s3,t0,t1,t2,t3⟩ ⟨⟨la5,lb5,D5⟩,_⟩;refine ⟨rfl,fun K hK=>?_⟩;simp only [ov,vat,Nat.reduceBEq,cond_true,cond_false]
        (try dsimp only at D5)
        obtain ⟨h8,c8,e8,_⟩:=D5;go_wp2_with fail
        exact acx (hK (v 5) W (Below.refl _ _) ⟨rfl,h8,c8,e8⟩) (by simp [ov,vat,upd,e8])
       ·rintro v lo hi W hb ⟨s0,s1,s2,s3,t0,t1,t2,t3⟩ ⟨⟨la6,lb6,D6⟩,_⟩;refine ⟨rfl,fun K hK=>?_⟩;simp only [ov,vat,Nat.reduceBEq,cond_true,cond_false]
        (try dsimp only at D6)
        obtain ⟨-,h9,c9,e9⟩:=D6;simp only [e9];go_wp2_with fail
        exact acx (hK (perV h9 c9 q.frm q.period) W (Below.refl _ _) ⟨h9,c9,e9,rfl⟩) (by simp [ov,vat,upd,e9])
       ·rintro v lo hi W hb ⟨s0,s1,s2,s3,t0,t1,t2,t3⟩ ⟨⟨la6,lb6,D6⟩,_⟩;refine ⟨rfl,fun K hK=>?_⟩;simp only [ov,vat,Nat.reduceBEq,cond_true,cond_false]
        (try dsimp only at D6)
        obtain ⟨-,h9,c9,e9⟩:=D6;simp only [e9];go_wp2_with fail
        exact acx (hK W (Below.refl _ _)) (by simp [ov,vat,upd,e9])
      case fin=>
       rintro v lo hi9 W5 hb5-hf hap;show wpList _ _ _ [_,_] _ _;obtain ⟨l5,-,h5,h,c,e5,hp5⟩:=hf 5 rfl;obtain ⟨-,-,-,e6,-⟩:=hf 6 rfl;obtain ⟨-,-,-,h',c',e6',e7⟩:=hf 7 rfl;have e8:v 8=.int .i64 0:=(hf 8 rfl).2.2.2;clear hf hap;rw [e6,e5] at e6';obtain ⟨rfl,rfl⟩:h=h'∧c=c':=by simpa [perV] using e6'
       dsimp only;rw [e7,e8];clear e5 e6 e6' e7 e8;have hpi:=hp5.inn;generalize lo 5=l5v at *;generalize hi9 5=h5v at *;clear hp5;obtain ⟨a5,m5,a6,m6,rfl,rfl⟩:=hpi.form;have hP7:=HP.out.ext hb5;have l4:=hP7.js.lt;have l7:=hP7.lt7;have r0:=hP7.px.cells 0;have r1:=hP7.px.cells 1;have r2:=hP7.px.cells 2;have r3:=hP7.px.cells 3;have HNEW:=hq_ (hP7.store ((vs_ hpi HVR.out).mono fun b hb=>by have:=hb.1;exact ⟨oq_,oq_,oq_⟩) HVR.out);have HMB5:=hq_ ((ex_ (W:=W5) (b:=b7) (.slice a5 q.head.length m5) (.int .i64 q.frm) (.int .i64 q.period) (.slice a6 q.cycle.length m6) (show w.heap.size≠b7 by omega)).trans (HAI.out.below hb5));clear hpi hP7;generalize v 0=zz0,v 1=zz1,v 2=zz2,v 3=zz3,v 4=zz4,v 5=zz5,v 6=zz6;go_wp2_with fail
       exact ⟨⟨_,_,_,_,_,_,HNEW⟩,HMB5⟩
      case fin2=>
       rintro v lo hi9 W5 hb5-hf hap;obtain ⟨l5,-,h5,h,c,e5,hp5⟩:=hf 5 rfl dq_;obtain ⟨-,-,-,e6,-⟩:=hf 6 rfl dq_;obtain ⟨-,-,-,h',c',e6',e7⟩:=hf 7 rfl dq_;clear hf hap;rw [e6,e5] at e6';obtain ⟨rfl,rfl⟩:h=h'∧c=c':=by simpa [perV] using e6'
       have e99:=e6.trans e5;dsimp only;rw [e7,e99];clear e5 e6 e6' e7 e99;have hpi:=hp5.inn;generalize lo 5=l5v at *;generalize hi9 5=h5v at *;clear hp5;obtain ⟨a5,m5,a6,m6,rfl,rfl⟩:=hpi.form;have hP7:=HP.out.ext hb5;have l4:=hP7.js.lt;have l7:=hP7.lt7;have r0:=hP7.px.cells 0;have r1:=hP7.px.cells 1;have r2:=hP7.px.cells 2;have r3:=hP7.px.cells 3;have HNEW:=hq_ (hP7.store ((vs_ hpi HVR.out).mono fun b hb=>by have:=hb.1;exact ⟨oq_,oq_,oq_⟩) HVR.out);have HMB5:=hq_ ((ex_ (W:=W5) (b:=b7) (.slice a5 q.head.length m5) (.int .i64 q.frm) (.int .i64 q.period) (.slice a6 q.cycle.length m6) (show w.heap.size≠b7 by omega)).trans (HAI.out.below hb5));clear hpi hP7;generalize v 0=zz0,v 1=zz1,v 2=zz2,v 3=zz3,v 4=zz4,v 5=zz5,v 8=zz8;constructor
       ·show wpList _ _ _ [_,_,_] _ _;go_wp2_with fail
        exact ⟨⟨_,_,_,_,_,_,HNEW⟩,HMB5⟩
       ·show wpList _ _ _ [_,_,_] _ _;go_wp2_with fail
        exact ⟨⟨_,_,_,_,_,_,HNEW⟩,HMB5⟩
     case imp=>
      rintro e a' W6 ⟨rfl,⟨ya,yn,yc,za,zn,zc,y36,y37,y38,y39,y40,y41,y42,y43,y44,rfl,HP6⟩,HA6⟩;go_wp2_with fail
      go_roundw
      case rel=>exact ⟨i+1,ya,yn,yc,za,zn,zc,oq_,rfl,by go_num,hq_ (by rw [HNX.out];exact HP6.out),HA6⟩
      case measure=>simp [intOf];omega
    ·have hie:i+1=tL.length:=oq_;have HIE:=hq_ hie;clear hie;have hiI:¬ (i:Int)+1<tL.length:=by have:=HIE.out;omega
     have b0:=(HP.out.js.abx.cells 0).1;have b1_:=(HP.out.js.abx.cells 1).1;have b2_:=(HP.out.js.abx.cells 2).1;have b3_:=(HP.out.js.abx.cells 3).1;have p0:=(HP.out.px.cells 0).1;have p1:=(HP.out.px.cells 1).1;have p2:=(HP.out.px.cells 2).1;have p3:=(HP.out.px.cells 3).1;have HE8:Hid (andL xp ((tL.map PV.p).tail.take i)=f6_ t):=hq_ (by
      rw [List.take_of_length_le (by rw [List.length_tail,List.length_map];have:=HIE.out;omega),<- HTLE.out];cases hLL:tL.map PV.p with
      | nil=>rw [List.map_eq_nil_iff] at hLL;rw [hLL] at ht0;exact absurd ht0 sq_
      | cons p r=>rw [hLL] at HXP;rw [show xp=p from HXP.out];rfl)
     have HOR:=hq_ (show Calls _ _ #[.agg #[.slice x1 y1 z1,.int .i64 (aq_ perE (m.take j)).frm,.int .i64 (aq_ perE (m.take j)).period,.slice x2 y2 z2],.agg #[.slice y1' f1 g1,.int .i64 (andL xp ((tL.map PV.p).tail.take i)).frm,.int .i64 (andL xp ((tL.map PV.p).tail.take i)).period,.slice y2' f2 g2]] wr (b6_ (orP (aq_ perE (m.take j)) (andL xp ((tL.map PV.p).tail.take i))) wr) from t3_ s _ _ _ _ _ _ _ HP.out.js.pv.is HP.out.pvr.is HP.out.js.fv HP.out.fvr);have HVR:Hid (FV s (orP (aq_ perE (m.take j)) (andL xp ((tL.map PV.p).tail.take i)))):=hq_ (HP.out.js.fv.or HP.out.fvr);have HQ9:Hid (aq_ perE (m.take (j+1))=orP (aq_ perE (m.take j)) (andL xp ((tL.map PV.p).tail.take i))):=hq_ (by
      rw [HE8.out];obtain ⟨h1,h2⟩:=List.getElem?_eq_some_iff.1 HMT.out;unfold aq_;rw [List.take_succ_eq_append_getElem h1,List.foldl_append,h2];rfl)
     generalize orP (aq_ perE (m.take j)) (andL xp ((tL.map PV.p).tail.take i))=q8 at *;go_wp2_with (go_at_call 96;((with_reducible refine HOR.out.mono ?_);rintro e w7 ⟨h',c',rfl,ho,hb7'⟩;obtain ⟨ya,yn,yc,za,zn,zc,rfl,rfl⟩:=(ho.pv HVR.out).form;have HP7:=hq_ (HP.out.ext hb7');have HO:=hq_ (ho.pv HVR.out);have HA7:=hq_ (HAI.out.below hb7');have HB7:=hq_ hb7';obtain ⟨c00,c01⟩:=HP7.out.js.abx.cells 0;obtain ⟨c10,c11⟩:=HP7.out.js.abx.cells 1;obtain ⟨c20,c21⟩:=HP7.out.js.abx.cells 2;obtain ⟨c30,c31⟩:=HP7.out.js.abx.cells 3;clear ho hb7'))
     go_roundw
     case rel=>
      have l4:=HP7.out.js.lt;have hl4:=HP.out.js.abx.lt;have hpv:PVok w7 (fun b=>w.heap.size+1<b∧b≠b4) ⟨.slice ya yn yc,.slice za zn zc,q8⟩:=HO.out.mono fun b hb=>by have h1:=hb.1;exact ⟨oq_,oq_⟩
      refine ⟨j+1,ya,yn,yc,za,zn,zc,oq_,by go_num,hq_ ?_,hq_ ?_⟩
      ·rw [HQ9.out];exact HP7.out.js.store hpv HVR.out
      ·exact (ex_ (W:=w7) (b:=b4) (.slice ya yn yc) (.int .i64 q8.frm) (.int .i64 q8.period) (.slice za zn zc) (show w.heap.size≠b4 by omega)).trans HA7.out
     case measure=>simp [intOf];omega
  ·obtain rfl:j=m.length:=oq_;have s0:=HM.out.rbx.cells 0;have s1:=HM.out.rbx.cells 1;have s2:=HM.out.rbx.cells 2;have s3:=HM.out.rbx.cells 3;go_wp2_with fail
   have hr0:Bxx ((((wo.setCell ⟨w.heap.size+1,0,none⟩ (.slice x1 y1 z1)).setCell ⟨w.heap.size+1,1,none⟩ (.int .i64 (aq_ perE m).frm)).setCell ⟨w.heap.size+1,2,none⟩ (.int .i64 (aq_ perE m).period)).setCell ⟨w.heap.size+1,3,none⟩ (.slice x2 y2 z2)) (w.heap.size+1) #[.slice x1 y1 z1,.int .i64 (aq_ perE m).frm,.int .i64 (aq_ perE m).period,.slice x2 y2 z2] 39:=dg_ HM.out.rbx;have k0:=(hr0.cells 0).1;have k1:=(hr0.cells 1).1;have k2:=(hr0.cells 2).1;have k3:=(hr0.cells 3).1;have hpv:=HM.out.pv;rw [List.take_of_length_le (Nat.le_refl _)] at hpv;refine bodyPost_ret (v:=.tuple #[perV (.slice x1 y1 z1) (.slice x2 y2 z2) (aq_ perE m).frm (aq_ perE m).period,.int .i64 0]) (by simp [results,Tryz.results52,go_sem,k0,k1,k2,k3]) rfl ⟨_,_,rfl,?_,gt_ HM.out.below oq_ _ _ _ _⟩;exact (hpv.keep (fun b hb _=>ex_ _ _ _ _ (by have:=hb.1;omega))).is
theorem xw_ (s:Int) (F1 F2:Nat->Prop) (v1 v2:Value) (m1 m2:List (List Per)) (w:World) (h1:MixR w F1 v1 m1) (h2:MixR w F2 v2 m2) (k1:MV s m1) (k2:MV s m2) :
  Calls Tryz.prog 35 #[.agg #[v1],.agg #[v2]] w (xp_ m1 m2 w):=by
 have HM:=fun W (h:Below w.heap.size w W)=>r7_ s F1 F2 v1 v2 m1 m2 W (h1.ext h) (h2.ext h) k1 k2;obtain ⟨a1,c1,rfl⟩:=h1.form;obtain ⟨a2,c2,rfl⟩:=h2.form;clear h1 h2 k1 k2
 go_enter Tryz.func35,Tryz.ntmps35
 go_wp2_with (first|(go_at_call 49;refine (HM _ (Ea (Ea (Er w) _) _)).mono ?_;rintro e w1 hres;obtain ⟨oa,oc,k,mk,rfl,hmr,hb1,hst⟩:=hres.num;have hW1:Below w.heap.size w w1:=Et (Ea (Ea (Er w) _) _) hb1;have HMR:=hq_ hmr;have HST:=hq_ hst;clear hmr hst hres hb1;rcases HST.out with ⟨rfl,hM,hmv⟩|⟨rfl,rfl,rfl,rfl,hM⟩)|(go_at_call 32;refine (xh_ _ _ mk _ (HMR.out.ext (Ea (Er w1) _)) hmv.val).mono ?_;rintro e w2 ⟨b,rfl,hbb,hb2⟩;have HBB:=hq_ hbb;have hW2:Below w.heap.size w w2:=Et (Ea hW1 _) hb2;clear hbb hb2))
 ·go_ret2;exact ⟨b,some mk,hM,hW2,.inl ⟨mk,rfl,⟨fun h=>(HBB.out.1 h).2,fun h=>HBB.out.2 ⟨hmv.val,h⟩⟩,rfl⟩⟩
 ·go_ret2;exact ⟨false,none,hM,Ea hW1 _,.inr ⟨rfl,rfl⟩⟩
theorem yb_ (s:Int) (F1 F2:Nat->Prop) (v1 v2:Value) (m1 m2:List (List Per)) (w:World) (h1:MixR w F1 v1 m1) (h2:MixR w F2 v2 m2) (k1:MV s m1) (k2:MV s m2) :
  Calls Tryz.prog 37 #[.agg #[v1],.agg #[v2]] w (xk_ m1 m2 w):=by
 have HM:=fun W (h:Below w.heap.size w W)=>r7_ s F1 F2 v1 v2 m1 m2 W (h1.ext h) (h2.ext h) k1 k2;have HN:=fun W (h:Below w.heap.size w W)=>r7_ s F2 F1 v2 v1 m2 m1 W (h2.ext h) (h1.ext h) k2 k1;obtain ⟨a1,c1,rfl⟩:=h1.form;obtain ⟨a2,c2,rfl⟩:=h2.form;clear h1 h2 k1 k2;have hb0:Bxx ((w.alloc (.cells #[.slice a1 m1.length c1] 28)).alloc (.cells #[.slice a2 m2.length c2] 28)) w.heap.size #[.slice a1 m1.length c1] 28:=by exact xB
 have hb1:Bxx ((w.alloc (.cells #[.slice a1 m1.length c1] 28)).alloc (.cells #[.slice a2 m2.length c2] 28)) (w.heap.size+1) #[.slice a2 m2.length c2] 28:=by exact xB
 have HB00:=hq_ hb0;have HB01:=hq_ hb1;clear hb0 hb1
 go_enter Tryz.func37,Tryz.ntmps37
 go_wp2_with (first|(go_at_call 49;(with_reducible refine (HM _ (Ea (Ea (Er w) _) _)).mono ?_);rintro e w1 hres;obtain ⟨oa,oc,k,mk,rfl,hmr,hb1,hst⟩:=hres.num;have HW1:=hq_ (show Below w.heap.size w w1 from Et (Ea (Ea (Er w) _) _) hb1);have x0:=(((HB00.out.below hb1).alloc (.cells #[.slice oa mk.length oc] 28)).cells 0).1;have x1:=(((HB01.out.below hb1).alloc (.cells #[.slice oa mk.length oc] 28)).cells 0).1;have HX6:=hq_ (Bxx.new w1 #[.slice oa mk.length oc] 28);have HMR:=hq_ (hmr.ext (Ea (Er w1) (.cells #[.slice oa mk.length oc] 28)));have HST:=hq_ hst;clear hmr hst hres hb1;rcases HST.out with ⟨rfl,hM,hmv⟩|⟨rfl,rfl,rfl,rfl,hM⟩)|(go_at_call 49;(with_reducible refine (HN _ (Ea HW1.out _)).mono ?_);rintro e w2 hres;obtain ⟨ob,oc2,k2,nk,rfl,hmr,hb2,hst⟩:=hres.num;have HW2:=hq_ (show Below w.heap.size w w2 from Et (Ea HW1.out _) hb2);have x6:=(((HX6.out.below hb2).alloc (.cells #[.slice ob nk.length oc2] 28)).cells 0).1;have HX8:=hq_ (Bxx.new w2 #[.slice ob nk.length oc2] 28);have HMR1:=hq_ ((HMR.out.ext hb2).ext (Ea (Er w2) (.cells #[.slice ob nk.length oc2] 28)));have HMR2:=hq_ (hmr.ext (Ea (Er w2) (.cells #[.slice ob nk.length oc2] 28)));have HST2:=hq_ hst;clear hmr hst hres hb2;rcases HST2.out with ⟨rfl,hN,hnv⟩|⟨rfl,rfl,rfl,rfl,hN⟩)|(go_at_call 32;(with_reducible refine (xh_ _ (.slice oa mk.length oc) mk _ HMR1.out hmv.val).mono ?_);rintro e w3 ⟨b,rfl,hbb,hb3⟩;have HBB:=hq_ hbb;have HB3:=hq_ (Et (Ea HW2.out _) hb3);have x8:=((HX8.out.below hb3).cells 0).1;have HMR3:=hq_ (HMR2.out.ext hb3);clear hbb hb3;cases b)|(go_at_call 32;(with_reducible refine (xh_ _ (.slice ob nk.length oc2) nk _ HMR3.out hnv.val).mono ?_);rintro e w4 ⟨b2,rfl,hbb2,hb4⟩;have HBB2:=hq_ hbb2;have HB4:=hq_ (Et HB3.out hb4);clear hbb2 hb4))
 all_goals go_ret2
 ·exact ⟨false,some (mk,nk),⟨hM,hN⟩,HB3.out,.inl ⟨mk,nk,rfl,⟨fun h=>by simp at h,fun h=>HBB.out.2 ⟨hmv.val,h.1⟩⟩,rfl⟩⟩
 ·exact ⟨b2,some (mk,nk),⟨hM,hN⟩,HB4.out,.inl ⟨mk,nk,rfl,⟨fun h=>⟨(HBB.out.1 (by first|rfl|trivial)).2,(HBB2.out.1 h).2⟩,fun h=>HBB2.out.2 ⟨hnv.val,h.2⟩⟩,rfl⟩⟩
 ·exact ⟨false,none,.inr ⟨⟨mk,hM⟩,hN⟩,Ea HW2.out _,.inr ⟨rfl,rfl⟩⟩
 ·exact ⟨false,none,.inl hM,Ea HW1.out _,.inr ⟨rfl,rfl⟩⟩
theorem xx_ (s:Int) (F:Nat->Prop) (v:Value) (m:List (List Per)) (a b:Int) (w:World) (h1:MixR w F v m) (k1:MV s m) (hs:0≤s) (h0:0≤a) (hab:a≤b) (hb:b≤1099511627776) :
  Calls Tryz.prog 40 #[.agg #[v],.int .i64 a,.int .i64 b] w fun e w'=>e=.returned (.tuple #[.int .i64 (ay_ (aq_ perE m) b-ay_ (aq_ perE m) a),.int .i64 0])∧Below w.heap.size w w':=by
 have HV1:=fun W (h:Below w.heap.size w W)=>cb_ F v m W (h1.ext h);rw [k1.val] at HV1;have HJ:=fun W (h:Below w.heap.size w W)=>tc_ s F v m W (h1.ext h) k1 hs;have hfv:=kb_ (j6_ hs) k1.vt;have HFV:=hq_ hfv;obtain ⟨a1,c1,rfl⟩:=h1.form;have ha0:¬ a<0:=oq_;have hba:¬ b<a:=oq_;have hbt:¬ 1099511627776<b:=oq_;clear h1 k1 hfv;generalize aq_ perE m=q at *
 go_enter Tryz.func40,Tryz.ntmps40
 go_wp2_with (first|(go_at_call 17;refine (HV1 _ (Ea (Er w) _)).mono ?_;rintro e w1 ⟨rfl,hb1⟩;have b0:Bxx w1 w.heap.size #[.slice a1 m.length c1] 28:=Bxx.below xB hb1;have x0:=b0.c0;have hW1:Below w.heap.size w w1:=Et (Ea (Er w) _) hb1)|(go_at_call 52;refine (HJ _ hW1).mono ?_;rintro e w2 ⟨h,c,rfl,hp,hb2⟩;obtain ⟨xa,xn,xc,ya,yn,yc,rfl,rfl⟩:=hp.sl;have HP:=hq_ hp;have hW2:Below w.heap.size w w2:=Et hW1 hb2;clear hp)|(go_at_call 83;((with_reducible refine (y9_ (.slice xa xn xc) (.slice ya yn yc) q a b _ (HP.out.ext (Ea (Er w2) _)) HFV.out.valid h0 hab hb).mono ?_);rintro e w3 ⟨rfl,hb3⟩)))
 go_ret2;exact ⟨rfl,Et (Ea hW2 _) hb3⟩
theorem u4_ {k:Nat} {x:List Per} (hk:m1[k]? = some x):ao_ (m1.take (k+1)) m2=ao_ (m1.take k) m2 ++ (m2.take m2.length).map (x ++ ·):=by rw [List.take_length];exact mg_ hk
structure RPS (w W0:World) (n:Nat) (ov:Value) (Lk:List (Value × List Per)) (T:List (List Per)) (W:World):Prop where
 below:Below W0.heap.size W0 W
 row:OwnT (fun _=>False) W0.heap.size W ov Lk
 eq:Lk.map Prod.snd=T
 len:Lk.length≤n
theorem qr_ (F1 F2:Nat->Prop) (v1 v2:Value) (m1 m2:List (List Per)) (w:World) (h1:MixR w F1 v1 m1) (h2:MixR w F2 v2 m2) (k1:m1.length≤64) (k2:m2.length≤64) (t1:∀ t∈m1,t.length≤4) (t2:∀ t∈m2,t.length≤4) :
  Calls Tryz.prog 79 #[.agg #[v1],.agg #[v2]] w fun e w'=>∃ v,e=.returned v∧MixR w' (fun _=>True) v (ao_ m1 m2)∧Below w.heap.size w w':=by
 obtain ⟨L1,hL1,hM1⟩:=h1;obtain ⟨L2,hL2,hM2⟩:=h2;obtain ⟨a1,c1,rfl,_⟩:=hM1.row.is;obtain ⟨a2,c2,rfl,_⟩:=hM2.row.is;have e1:m1.length=L1.length:=by rw [<- hL1,List.length_map]
 have e2:m2.length=L2.length:=by rw [<- hL2,List.length_map]
 have HM1:=hq_ hM1.lt;have HM2:=hq_ hM2.lt;have HL1:=hq_ hL1;have HL2:=hq_ hL2;have HT1:=hq_ t1;have HT2:=hq_ t2;rw [e1] at k1;rw [e2] at k2;have HE2:=hq_ e2;clear hM1 hM2 hL1 hL2 t1 t2 e1 e2
 go_enter Tryz.func79,Tryz.ntmps79
 go_wp2_with fail
 generalize hW0:(w.alloc (.cells #[.slice a1 L1.length c1] 28)).alloc (.cells #[.slice a2 L2.length c2] 28)=W0;have hx0:W0.cell? ⟨w.heap.size,0,none⟩=some (.slice a1 L1.length c1):=by rw [<- hW0];exact ((Bxx.new w _ _).alloc _).c0
 have hx1:W0.cell? ⟨w.heap.size+1,0,none⟩=some (.slice a2 L2.length c2):=by rw [<- hW0];exact (Bxx.at (w:=w.alloc (.cells #[.slice a1 L1.length c1] 28)) (c:=#[.slice a2 L2.length c2]) (t:=28) sq_).c0
 have hE0:Below w.heap.size w W0:=by rw [<- hW0];exact xE
 have hsz:W0.heap.size=w.heap.size+2:=by rw [<- hW0];simp
 have HE0:=hq_ hE0;have HX0:=hq_ hx0;have HX1:=hq_ hx1;have HST:Hid (RPS w W0 (0*64) (.slice (some ⟨w.heap.size+1+1,0,none⟩) 0 0) [] (ao_ (m1.take 0) m2) (W0.alloc (.cells #[] 36))):=hq_ (by
  rw [show w.heap.size+1+1=W0.heap.size by omega];exact ⟨Ea (Er W0) _,OwnT.of (B:=W0.heap.size) (World.ownsRow_lit (base:=W0.heap.size) (e:=36) (size:=1) W0 #[] 0 (Nat.le_refl _) (by unfold maxLen;omega) rfl) (Nat.le_refl _) sq_ (fun _ _ h=>h) sq_,rfl,sq_⟩)
 clear hW0 hx0 hx1 hE0
 go_loopw [5,6,7,8] (fun ov i _ _ wr=>∃ (k:Nat) (Lk:List (Value × List Per)),k≤L1.length∧i=.int .i64 k∧Hid (RPS w W0 (k*64) ov Lk (ao_ (m1.take k) m2) wr)) (fun _ i _ _ _=>L1.length-(intOf i).toNat)
 case atStart=>exact ⟨0,[],oq_,rfl,HST⟩
 case round=>
  obtain ⟨k,Lk,hk,rfl,HS⟩:=hrel;clear HST;obtain ⟨pa,pc,rfl,-⟩:=HS.out.row.row.form;have q0:=Ext.cell HS.out.below HX0.out
  by_cases hlt:k<L1.length
  ·have hlI:(k:Int)<L1.length:=oq_;obtain ⟨b,o,c9,xa,xn,xc,xt,ha,q3w,htx,hdx⟩:=HM1.out.at hlt;cases ha;obtain ⟨_,_,ha,_⟩:=htx.form;cases ha;rw [HL1.out] at hdx;have hxl:=HT1.out xt (List.mem_of_getElem? hdx);have HPR:=hq_ (u4_ (m2:=m2) hdx);have HQ3:=hq_ q3w;have HS0:Hid (RPS w W0 (k*64+0) (.slice pa Lk.length pc) Lk (ao_ (m1.take k) m2 ++ (m2.take 0).map (xt ++ ·)) wr):=hq_ (by simpa using HS.out);obtain ⟨X,hX,hXL⟩:=htx;have hxn:xt.length=X.length:=by rw [<- hX,List.length_map]
   have HRX:=hq_ (fun W (h:Below w.heap.size w W)=>(by have:=(hXL.keep (a5_.below h) h.size).row;rwa [<- hxn] at this:RowR W _ (.slice xa xt.length xc) xt.length (X.flatMap PV.enc)));have HFX:Hid ((X.flatMap PV.enc).length=xt.length*4):=hq_ (by rw [c3_,hxn]);have HOX:=hq_ hXL.cells_one;have HXN:=hq_ hxn;have HXL:=hq_ hXL;have HXX:=hq_ hX;clear hdx HS hX hXL hxn q3w;have q1:=Ext.cell HS0.out.below HX1.out;go_wp2_with fail
   go_loopw [5,7,8] (fun ov i _ wq=>∃ (j:Nat) (Lk:List (Value × List Per)),j≤L2.length∧i=.int .i64 j∧Hid (RPS w W0 (k*64+j) ov Lk (ao_ (m1.take k) m2 ++ (m2.take j).map (xt ++ ·)) wq)) (fun _ i _ _=>L2.length-(intOf i).toNat)
   case atStart=>exact ⟨0,Lk,oq_,rfl,HS0⟩
   case round=>
    obtain ⟨j,Mk,hj,rfl,HJ⟩:=hrel;clear HS0;obtain ⟨oa,oc,rfl,-⟩:=HJ.out.row.row.form;have hmk:=HJ.out.len;have hzj:=HJ.out.below.size;have HWJ:=hq_ (Et HE0.out HJ.out.below);have q0:=Ext.cell HJ.out.below HX0.out;have q1:=Ext.cell HJ.out.below HX1.out
    by_cases hjl:j<L2.length
    ·have hjI:(j:Int)<L2.length:=oq_;obtain ⟨b',o',c9,ya,yn,yc,yt,ha,q4w,hty,hdy⟩:=HM2.out.at hjl;cases ha;obtain ⟨_,_,ha,_⟩:=hty.form;cases ha;rw [HL2.out] at hdy;have hyl:=HT2.out yt (List.mem_of_getElem? hdy);have q3:=Ext.cell HWJ.out HQ3.out;have q4:=Ext.cell HWJ.out q4w;have q0a:=ag_ q0 (.cells #[] 39);have q3a:=ag_ q3 (.cells #[] 39);obtain ⟨Y,hY,hYL⟩:=hty;have hyn:yt.length=Y.length:=by rw [<- hY,List.length_map]
     have HRY:=hq_ (fun W (h:Below w.heap.size w W)=>(by have:=(hYL.keep (a5_.below h) h.size).row;rwa [<- hyn] at this:RowR W _ (.slice ya yt.length yc) yt.length (Y.flatMap PV.enc)));have HFY:Hid ((Y.flatMap PV.enc).length=yt.length*4):=hq_ (by rw [c3_,hyn]);have HOY:=hq_ hYL.cells_one;have HTK:Hid ((m2.take (j+1)).map (xt ++ ·)=(m2.take j).map (xt ++ ·) ++ [xt ++ yt]):=hq_ (by rw [List.take_add_one,hdy];simp);have HTM:Hid (∀ v W,Below wr.heap.size wr W->W.ownsRow wr.heap.size 39 4 v (xt.length+yt.length) (X.flatMap PV.enc ++ Y.flatMap PV.enc)->ab_ W (fun b=>b<w.heap.size∨wr.heap.size≤b) v (xt ++ yt)):=hq_ fun v W h ho=>by
      refine ⟨X ++ Y,by rw [List.map_append,HXX.out,hY],gf_ (B:=wr.heap.size) ?_ (fun b hb=>.inr hb) (by rw [List.length_append,<- HXN.out,<- hyn];omega) fun x hx=>?_⟩
      ·rw [List.length_append,<- HXN.out,<- hyn,List.flatMap_append];exact ho
      ·rcases List.mem_append.1 hx with hx|hx
       ·exact ((HXL.out.all x hx).keep (a5_.below (Et HWJ.out h))).mono fun b hb=>.inl hb.2
       ·exact ((hYL.all x hx).keep (a5_.below (Et HWJ.out h))).mono fun b hb=>.inl hb.2
     clear hY hYL hyn hdy q4w;go_wp2_with (at_builtin;first
      | (refine by_ rq_ _ _ rq_ wr.heap.size (.slice (some ⟨wr.heap.size,0,none⟩) 0 0) (.slice xa xt.length xc) 0 xt.length [] (X.flatMap PV.enc) _ rq_ (World.ownsRow_lit (base:=wr.heap.size) (e:=39) (size:=4) wr #[] 0 (Nat.le_refl _) (by unfold maxLen;omega) rfl) rq_ (HRX.out _ (Ea HWJ.out _)) HFX.out HOX.out oq_ sq_ ?_;intro v7 w7 hown7 hgrow7;rw [Nat.zero_add,List.nil_append] at hown7;have hE7:Below wr.heap.size wr w7:=(Ea (Er wr) (.cells #[] 39)).grown hgrow7 sq_ (fun k e=>by simp [Value.ownBlock] at e;omega);obtain ⟨na7,nc7,rfl⟩:=bm_ hown7;have z1:=Ext.cell hE7 q1;have z4:=Ext.cell hE7 q4;have HOWN7:=hq_ hown7;have HE7:=hq_ hE7;have hz7:=hE7.size;clear hown7 hgrow7 hE7)
      | (refine by_ rq_ _ _ rq_ wr.heap.size (.slice na7 xt.length nc7) (.slice ya yt.length yc) xt.length yt.length _ _ _ rq_ HOWN7.out rq_ (HRY.out _ (Et HWJ.out HE7.out)) HFY.out HOY.out oq_ hz7 ?_;intro v8 w8 hown8 hgrow8;have hE8:=HE7.out.grown hgrow8 HE7.out.size (fun k e=>(HOWN7.out.lt k e).1);obtain ⟨na8,nc8,rfl⟩:=bm_ hown8;have HTM8:=hq_ (HTM.out _ _ hE8 hown8);have HE8:=hq_ hE8;have hz8:=hE8.size;clear hown8 hgrow8 hE8)
      | (refine er_ rq_ _ _ rq_ (fun _=>False) W0.heap.size (.slice oa Mk.length oc) Mk (.slice na8 (xt.length+yt.length) nc8,xt ++ yt) rq_ (HJ.out.row.ext (Ea HE8.out _)) ((HTM8.out.ext (Ea (Er w8) _)).mono fun b hb=>⟨fun h=>h,fun e=>by have h1:=HJ.out.row.own b e;have h2:=(HJ.out.row.row.row.lt b e).2;omega⟩) _ _ rq_ sq_ (fun h=>h) oq_ tq_ ?_;intro ga gc w9 ho9 hg9 hb9;have HO9:=hq_ ho9;have HB9:Hid (Below W0.heap.size W0 w9):=hq_ ((HJ.out.below.trans ((Ea HE8.out (.cells #[.slice na8 (xt.length+yt.length) nc8] 36)).mono hzj)).trans hb9);clear ho9 hg9 hb9))
     go_roundw
     case rel=>exact ⟨j+1,Mk ++ [(.slice na8 (xt.length+yt.length) nc8,xt ++ yt)],oq_,by go_num,hq_ ⟨HB9.out,HO9.out,by rw [List.map_append,HJ.out.eq,HTK.out,List.append_assoc];rfl,tq_⟩⟩
     case measure=>simp [intOf];omega
    ·obtain rfl:j=L2.length:=oq_;go_wp2_with fail
     go_roundw
     case rel=>exact ⟨k+1,Mk,oq_,by go_num,hq_ ⟨HJ.out.below,HJ.out.row,by rw [HJ.out.eq,HPR.out,HE2.out],oq_⟩⟩
     case measure=>simp [intOf];omega
  ·obtain rfl:k=L1.length:=oq_;go_wp2_with fail
   go_ret;exact ⟨_,rfl,⟨Lk,by rw [HS.out.eq,List.take_of_length_le (by rw [<- HL1.out,List.length_map];exact Nat.le_refl _)],HS.out.row.mix.mono fun _ _=>trivial⟩,Et HE0.out HS.out.below⟩
theorem ya_ (s:Int) (F:Nat->Prop) (v:Value) (m:List (List Per)) (f:Int) (w:World) (h1:MixR w F v m) (k1:MV s m) (hf:InI f) :
  Calls Tryz.prog 30 #[.agg #[v],.int .i64 f] w (ou_ (mmem m) (max f 0) w):=by
 have HV1:=fun W (h:Below w.heap.size w W)=>cb_ F v m W (h1.ext h);rw [k1.val] at HV1;have HLE:=hq_ (fun W (h:Below w.heap.size w W)=>xj_ s F v m f W (h1.ext h) k1.vt (by have:=k1.len;omega) hf);obtain ⟨a1,c1,rfl⟩:=h1.form;clear h1 k1
 go_enter Tryz.func30,Tryz.ntmps30
 go_wp2_with (first|(go_at_call 17;refine (HV1 _ (Ea (Er w) _)).mono ?_;rintro e w1 ⟨rfl,hb1⟩;have b0:Bxx w1 w.heap.size #[.slice a1 m.length c1] 28:=Bxx.below xB hb1;have x0:=b0.c0;have hW1:Below w.heap.size w w1:=Et (Ea (Er w) _) hb1)|(go_at_call 78;((with_reducible refine (HLE.out _ hW1).mono ?_);rintro e w5 ⟨n,b,rfl,hn,hb5⟩)))
 go_ret2;exact ⟨n,b,rfl,hn,Et hW1 hb5⟩
theorem y2_ (s:Int) (F1 F2:Nat->Prop) (v1 v2:Value) (m1 m2:List (List Per)) (f:Int) (w:World) (h1:MixR w F1 v1 m1) (h2:MixR w F2 v2 m2) (k1:MV s m1) (k2:MV s m2) (hf:InI f) :
  Calls Tryz.prog 31 #[.agg #[v1],.agg #[v2],.int .i64 f] w (ou_ (mmem (ao_ m1 m2)) (max f 0) w):=by
 have HV1:=fun W (h:Below w.heap.size w W)=>cb_ F1 v1 m1 W (h1.ext h);have HV2:=fun W (h:Below w.heap.size w W)=>cb_ F2 v2 m2 W (h2.ext h);rw [k1.val] at HV1;rw [k2.val] at HV2;have l1:=k1.len;have l2:=k2.len;have hVT:∀ t∈ao_ m1 m2,aw_ s t:=fun t ht=>by
  obtain ⟨x,hx,y,hy,rfl⟩:=hi_.1 ht;refine ⟨fun e=>(k1.vt x hx).ne (List.append_eq_nil_iff.1 e).1,fun p hp=>(List.mem_append.1 hp).elim ((k1.vt x hx).fv p) ((k2.vt y hy).fv p),?_⟩;rw [List.length_append];have:=k1.tlen x hx;have:=k2.tlen y hy;omega
 have hpl:(ao_ m1 m2).length≤4096:=by rw [gd_];exact Nat.mul_le_mul l1 l2
 have HPA:=hq_ (fun W (h:Below w.heap.size w W)=>qr_ F1 F2 v1 v2 m1 m2 W (h1.ext h) (h2.ext h) l1 l2 k1.tlen k2.tlen);have HLE:Hid (∀ v W,MixR W (fun _=>True) v (ao_ m1 m2)->Calls Tryz.prog 78 #[v,.int .i64 f] W (ou_ (mmem (ao_ m1 m2)) (max f 0) W)):=hq_ fun v W h=>xj_ s _ v _ f W h hVT oq_ hf;obtain ⟨a1,c1,rfl⟩:=h1.form;obtain ⟨a2,c2,rfl⟩:=h2.form;clear h1 h2 k1 k2 hVT hpl
 go_enter Tryz.func31,Tryz.ntmps31
 go_wp2_with (first|(go_at_call 17;first
   | ((with_reducible refine (HV1 _ xE).mono ?_);rintro e w1 ⟨rfl,hb1⟩;have b0:Bxx w1 w.heap.size #[.slice a1 m1.length c1] 28:=Bxx.below xB hb1;have b1:Bxx w1 (w.heap.size+1) #[.slice a2 m2.length c2] 28:=Bxx.below xB hb1;have x0:=b0.c0;have x1:=b1.c0;have hW1:Below w.heap.size w w1:=by exact xE)
   | ((with_reducible refine (HV2 _ xE).mono ?_);rintro e w2 ⟨rfl,hb2⟩;have d0:=b0.below hb2;have d1:=b1.below hb2;have y0:=d0.c0;have y1:=d1.c0;have hW2:Below w.heap.size w w2:=by exact xE))|(go_at_call 79;refine (HPA.out _ hW2).mono ?_;rintro e w4 ⟨v4,rfl,hm4,hb4⟩;have HM4:=hq_ hm4;have HB4:=hq_ hb4;clear hm4 hb4)|(go_at_call 78;((with_reducible refine (HLE.out _ _ HM4.out).mono ?_);rintro e w5 ⟨n,b,rfl,hn,hb5⟩)))
 go_ret2;exact ⟨n,b,rfl,hn,Et (Et hW2 HB4.out) hb5⟩
theorem yo_ {F1 F2:Nat->Prop} {a1 a2:Option Addr} {c1 c2:Nat} (h1:MixR w F1 (.slice a1 m1.length c1) m1) (h2:MixR w F2 (.slice a2 m2.length c2) m2) (l1:m1.length≤64) (l2:m2.length≤64) :
  ∃ x1 x2:List Value,(∀ W,Below w.heap.size w W->RowR W F1 (.slice a1 m1.length c1) m1.length x1∧RowR W F2 (.slice a2 m2.length c2) m2.length x2)∧x1.length=m1.length*1∧x2.length=m2.length*1∧(∀ u∈x1,u.oneCell'=true)∧(∀ u∈x2,u.oneCell'=true)∧
   ∀ (B:Nat) (v:Value) (W:World),Below w.heap.size w W->W.ownsRow B 36 1 v (m1.length+m2.length) (x1 ++ x2)->MixR W (fun _=>True) v (m1 ++ m2):=by
 obtain ⟨L1,hL1,hM1⟩:=h1;obtain ⟨L2,hL2,hM2⟩:=h2;have e1:m1.length=L1.length:=by rw [<- hL1,List.length_map]
 have e2:m2.length=L2.length:=by rw [<- hL2,List.length_map]
 refine ⟨L1.map Prod.fst,L2.map Prod.fst,fun W h=>⟨?_,?_⟩,by rw [List.length_map];omega,by rw [List.length_map];omega,hM1.cells_one,hM2.cells_one,fun B v W h ho=>?_⟩
 ·have:=(hM1.keep (a5_.below h) h.size).row;rwa [<- e1] at this
 ·have:=(hM2.keep (a5_.below h) h.size).row;rwa [<- e2] at this
 ·refine ⟨L1 ++ L2,by rw [List.map_append,hL1,hL2],kq_ (B:=B) ?_ (by rw [List.length_append];omega) fun x hx=>?_⟩
  ·rw [List.length_append,List.map_append,<- e1,<- e2];exact ho
  ·rcases List.mem_append.1 hx with hx|hx
   ·exact ⟨_,(hM1.all x hx).ext h⟩
   ·exact ⟨_,(hM2.all x hx).ext h⟩
theorem y1_ (s:Int) (F1 F2:Nat->Prop) (v1 v2:Value) (m1 m2:List (List Per)) (w:World) (h1:MixR w F1 v1 m1) (h2:MixR w F2 v2 m2) (k1:MV s m1) (k2:MV s m2) :
  Calls Tryz.prog 39 #[.agg #[v1],.agg #[v2]] w (kc_ m1 m2 w):=by
 have HI0:Hid (InI (0:Int)):=hq_ (by unfold InI;decide);have HM:=fun W (h:Below w.heap.size w W)=>r7_ s F1 F2 v1 v2 m1 m2 W (h1.ext h) (h2.ext h) k1 k2;have HN:=fun W (h:Below w.heap.size w W)=>r7_ s F2 F1 v2 v1 m2 m1 W (h2.ext h) (h1.ext h) k2 k1;obtain ⟨a1,c1,rfl⟩:=h1.form;obtain ⟨a2,c2,rfl⟩:=h2.form;clear h1 h2 k1 k2;have hb0:Bxx ((w.alloc (.cells #[.slice a1 m1.length c1] 28)).alloc (.cells #[.slice a2 m2.length c2] 28)) w.heap.size #[.slice a1 m1.length c1] 28:=by exact xB
 have hb1:Bxx ((w.alloc (.cells #[.slice a1 m1.length c1] 28)).alloc (.cells #[.slice a2 m2.length c2] 28)) (w.heap.size+1) #[.slice a2 m2.length c2] 28:=by exact xB
 have HB00:=hq_ hb0;have HB01:=hq_ hb1;clear hb0 hb1
 go_enter Tryz.func39,Tryz.ntmps39
 go_upto_region 7 with (first|(go_at_call 49;(with_reducible refine (HM _ (Ea (Ea (Er w) _) _)).mono ?_);rintro e w1 hres;obtain ⟨oa,oc,k,mk,rfl,hmr,hb1,hst⟩:=hres.num;have HW1:=hq_ (show Below w.heap.size w w1 from Et (Ea (Ea (Er w) _) _) hb1);have x0:=(((HB00.out.below hb1).alloc (.cells #[.slice oa mk.length oc] 28)).cells 0).1;have x1:=(((HB01.out.below hb1).alloc (.cells #[.slice oa mk.length oc] 28)).cells 0).1;have HX6:=hq_ (Bxx.new w1 #[.slice oa mk.length oc] 28);have HMR:=hq_ (hmr.ext (Ea (Er w1) (.cells #[.slice oa mk.length oc] 28)));have HST:=hq_ hst;clear hmr hst hres hb1;rcases HST.out with ⟨rfl,hM,hmv⟩|⟨rfl,rfl,rfl,rfl,hM⟩)|(go_at_call 49;(with_reducible refine (HN _ (Ea HW1.out _)).mono ?_);rintro e w2 hres;obtain ⟨ob,oc2,k2,nk,rfl,hmr,hb2,hst⟩:=hres.num;have HW2:=hq_ (show Below w.heap.size w w2 from Et (Ea HW1.out _) hb2);have HX6':=hq_ ((HX6.out.below hb2).alloc (.cells #[.slice ob nk.length oc2] 28));have HX8:=hq_ (Bxx.new w2 #[.slice ob nk.length oc2] 28);have HMR1:=hq_ ((HMR.out.ext hb2).ext (Ea (Er w2) (.cells #[.slice ob nk.length oc2] 28)));have HMR2:=hq_ (hmr.ext (Ea (Er w2) (.cells #[.slice ob nk.length oc2] 28)));have HST2:=hq_ hst;clear hmr hst hres hb2;rcases HST2.out with ⟨rfl,hN,hnv⟩|⟨rfl,rfl,rfl,rfl,hN⟩))
 ·obtain ⟨xs,ys,hrw,hx1,hy1,hxo,hyo,hmx⟩:=yo_ HMR1.out HMR2.out hmv.len hnv.len;have HRW:=hq_ hrw;have HX1:=hq_ hx1;have HY1:=hq_ hy1;have HXO:=hq_ hxo;have HYO:=hq_ hyo;have HMX:=hq_ hmx;have lm:=hmv.len;have ln:=hnv.len;have HVT:=hq_ (se_ hmv.vt hnv.vt);have HB8:=hq_ (Ea HW2.out (.cells #[.slice ob nk.length oc2] 28));have hz8:(w2.alloc (.cells #[.slice ob nk.length oc2] 28)).heap.size=w2.heap.size+1:=World.size_alloc _ _;have hz1:=HX6'.out.lt;clear hrw hx1 hy1 hxo hyo hmx HMR1 HMR2 HST HST2 HMR;have HX6a:=HX6';have HX8a:=HX8;obtain ⟨W8,hW8⟩:∃ W8,W8=w2.alloc (.cells #[.slice ob nk.length oc2] 28):=⟨_,rfl⟩;rw [<- hW8] at HRW HMX HB8 hz8 HX6a HX8a hz1 ⊢;clear hW8 HX6' HX8;obtain ⟨p8,hp8⟩:∃ p8,p8=w2.heap.size:=⟨_,rfl⟩;rw [<- hp8] at HX8a hz8 ⊢;have HOW:Hid ((W8.alloc (.cells #[] 36)).ownsRow W8.heap.size 36 1 (.slice (some ⟨W8.heap.size,0,none⟩) 0 0) 0 []):=hq_ (World.ownsRow_lit (base:=W8.heap.size) (e:=36) (size:=1) W8 #[] 0 (Nat.le_refl _) (by unfold maxLen;omega) rfl);have x6:=((HX6a.out.alloc (.cells #[] 36)).cells 0).1;have x8:=((HX8a.out.alloc (.cells #[] 36)).cells 0).1;have HZ8:=hq_ hz8;clear hp8 hz8;go_wp2_with (first|(at_builtin;first|((refine co_ rq_ _ _ rq_ W8.heap.size (.slice (some ⟨W8.heap.size,0,none⟩) 0 0) (.slice oa mk.length oc) 0 mk.length [] xs _ rq_ HOW.out rq_ (HRW.out _ (Ea (Er W8) _)).1 HX1.out HXO.out oq_ sq_ ?_);intro v7 w7 hown7 hgrow7;rw [Nat.zero_add,List.nil_append] at hown7;have hE7:Below W8.heap.size W8 w7:=(Ea (Er W8) (.cells #[] 36)).grown hgrow7 sq_ (fun k e=>by simp [Value.ownBlock] at e;omega);obtain ⟨na7,nc7,rfl⟩:=cu_ hown7;have y8:=((HX8a.out.below hE7).cells 0).1;have HOWN7:=hq_ hown7;have HE7:=hq_ hE7;have hz7:=hE7.size;clear hown7 hgrow7 hE7)|((refine co_ rq_ _ _ rq_ W8.heap.size (.slice na7 mk.length nc7) (.slice ob nk.length oc2) mk.length nk.length _ _ _ rq_ HOWN7.out rq_ (HRW.out _ HE7.out).2 HY1.out HYO.out oq_ hz7 ?_);intro v8 w8 hown8 hgrow8;have hE8:=HE7.out.grown hgrow8 HE7.out.size (fun k e=>(HOWN7.out.lt k e).1);have HMX8:=hq_ (HMX.out _ _ _ hE8 hown8);have HE8:=hq_ hE8;clear hown8 hgrow8 hE8))|(go_at_call 78;((with_reducible refine (xj_ s _ _ (mk ++ nk) 0 _ HMX8.out HVT.out (by rw [List.length_append];omega) HI0.out).mono ?_);rintro e w5 ⟨n9,b9,rfl,hn,hb5⟩)))
  exact bodyPost_ret (v:=.tuple #[.int .i64 n9,.bool b9,.int .i64 0]) (by simp [results,Tryz.results39,go_sem]) rfl ⟨some (mk,nk),⟨hM,hN⟩,Et (Et HB8.out HE8.out) hb5,.inl ⟨mk,nk,n9,b9,rfl,by rwa [show max (0:Int) 0=0 from rfl] at hn,rfl⟩⟩
 ·exact bodyPost_ret (v:=.tuple #[.int .i64 0,.bool false,.int .i64 2]) (by simp [results,Tryz.results39,go_sem]) rfl ⟨none,.inr ⟨⟨mk,hM⟩,hN⟩,Ea HW2.out _,.inr ⟨rfl,rfl⟩⟩
 ·exact bodyPost_ret (v:=.tuple #[.int .i64 0,.bool false,.int .i64 2]) (by simp [results,Tryz.results39,go_sem]) rfl ⟨none,.inl hM,Ea HW1.out _,.inr ⟨rfl,rfl⟩⟩
theorem xy_ (F:Nat->Prop) (v:Value) (m:List (List Per)) (a b:Int) (w:World) (h1:MixR w F v m) (hv:bj_ m=true) (hbad:a<0∨b<a∨1099511627776<b) :
  Calls Tryz.prog 40 #[.agg #[v],.int .i64 a,.int .i64 b] w fun e w'=>e=.returned (.tuple #[.int .i64 0,.int .i64 1])∧Below w.heap.size w w':=by
 have HV1:=fun W (h:Below w.heap.size w W)=>cb_ F v m W (h1.ext h);rw [hv] at HV1;obtain ⟨a1,c1,rfl⟩:=h1.form;clear h1 hv
 by_cases g1:a<0
 ·clear hbad
  go_enter Tryz.func40,Tryz.ntmps40
  go_wp2_with (go_at_call 17;refine (HV1 _ (Ea (Er w) _)).mono ?_;rintro e w1 ⟨rfl,hb1⟩;have b0:Bxx w1 w.heap.size #[.slice a1 m.length c1] 28:=Bxx.below xB hb1;have x0:=b0.c0;have hW1:Below w.heap.size w w1:=Et (Ea (Er w) _) hb1)
  go_ret2;exact ⟨rfl,hW1⟩
 ·by_cases g2:b<a
  ·clear hbad
   go_enter Tryz.func40,Tryz.ntmps40
   go_wp2_with (go_at_call 17;refine (HV1 _ (Ea (Er w) _)).mono ?_;rintro e w1 ⟨rfl,hb1⟩;have b0:Bxx w1 w.heap.size #[.slice a1 m.length c1] 28:=Bxx.below xB hb1;have x0:=b0.c0;have hW1:Below w.heap.size w w1:=Et (Ea (Er w) _) hb1)
   go_ret2;exact ⟨rfl,hW1⟩
  ·have g3:1099511627776<b:=oq_;clear hbad
   go_enter Tryz.func40,Tryz.ntmps40
   go_wp2_with (go_at_call 17;refine (HV1 _ (Ea (Er w) _)).mono ?_;rintro e w1 ⟨rfl,hb1⟩;have b0:Bxx w1 w.heap.size #[.slice a1 m.length c1] 28:=Bxx.below xB hb1;have x0:=b0.c0;have hW1:Below w.heap.size w w1:=Et (Ea (Er w) _) hb1)
   go_ret2;exact ⟨rfl,hW1⟩
theorem y4_ (F:Nat->Prop) (v:Value) (m:List (List Per)) (a b:Int) (w:World) (h1:MixR w F v m) (k1:MV 0 m) :
  ∃ n k:Int,(∀ W,Below w.heap.size w W->Calls Tryz.prog 15 #[.agg #[v],.int .i64 a,.int .i64 b] W fun e w'=>e=.returned (.tuple #[.int .i64 n,.int .i64 k])∧Below W.heap.size W w')∧
   (∀ W,Below w.heap.size w W->Calls Tryz.prog 40 #[.agg #[v],.int .i64 a,.int .i64 b] W fun e w'=>e=.returned (.tuple #[.int .i64 n,.int .i64 k])∧Below W.heap.size W w'):=by
 by_cases h:a<0∨b<a∨1099511627776<b
 ·exact ⟨0,1,fun W hb=>y6_ F v m a b W (h1.ext hb) (.inr h),fun W hb=>xy_ F v m a b W (h1.ext hb) k1.val h⟩
 ·exact ⟨_,0,fun W hb=>qc_ 0 F v m a b W (h1.ext hb) k1 oq_ oq_ oq_ oq_,fun W hb=>xx_ 0 F v m a b W (h1.ext hb) k1 oq_ oq_ oq_ oq_⟩
theorem y5_ (F:Nat->Prop) (v:Value) (m:List (List Per)) (w:World) (h1:MixR w F v m) (k1:MV 0 m) :
  ∃ n:Bool,(∀ W,Below w.heap.size w W->Calls Tryz.prog 25 #[.agg #[v]] W fun e w'=>e=.returned (.bool n)∧Below W.heap.size W w')∧
   (∀ W,Below w.heap.size w W->Calls Tryz.prog 32 #[.agg #[v]] W fun e w'=>e=.returned (.bool n)∧Below W.heap.size W w'):=by
 classical
 refine ⟨decide (bj_ m=true∧∀ t∈m,bt_ t),fun W hb=>(ko_ F v m W (h1.ext hb)).mono ?_,fun W hb=>(xh_ F v m W (h1.ext hb) k1.val).mono ?_⟩
 all_goals
  rintro e u ⟨b,he,hi,k⟩;refine ⟨?_,k⟩;rw [he,show b=decide (bj_ m=true∧∀ t∈m,bt_ t) from Bool.eq_iff_iff.2 (hi.trans sq_)]
theorem xz_ (F:Nat->Prop) (v:Value) (m:List (List Per)) (w:World) (h1:MixR w F v m) (k1:MV 0 m) :
  ∃ n:Bool,(∀ W,Below w.heap.size w W->Calls Tryz.prog 26 #[.agg #[v]] W fun e w'=>e=.returned (.bool n)∧Below W.heap.size W w')∧
   (∀ W,Below w.heap.size w W->Calls Tryz.prog 33 #[.agg #[v]] W fun e w'=>e=.returned (.bool n)∧Below W.heap.size W w'):=by
 classical
 refine ⟨decide (bj_ m=true∧∀ t∈m,¬ recT t),fun W hb=>(pl_ F v m W (h1.ext hb)).mono ?_,fun W hb=>(xv_ F v m W (h1.ext hb) k1.val).mono ?_⟩
 all_goals
  rintro e u ⟨b,he,hi,k⟩;refine ⟨?_,k⟩;rw [he,show b=decide (bj_ m=true∧∀ t∈m,¬ recT t) from Bool.eq_iff_iff.2 (hi.trans sq_)]
def SubK (m1 m2:List (List Per)) (b:Bool) (k:Int):Prop:=(k=0∧∃ x,b4_ m1 m2 (some x)∧(b=true↔∀ t∈x,bt_ t))∨(k=2∧b=false∧b4_ m1 m2 none)
theorem SubK.unique {k k':Int} (h:SubK m1 m2 b k) (g:SubK m1 m2 b' k'):b'=b∧k'=k:=by
 rcases h with ⟨rfl,x,h1,h2⟩|⟨rfl,rfl,h1⟩ <;> rcases g with ⟨rfl,y,g1,g2⟩|⟨rfl,rfl,g1⟩
 ·have:=g1.unique h1;injection this with this;subst this
  exact ⟨Bool.eq_iff_iff.2 (g2.trans h2.symm),rfl⟩
 ·exact absurd (g1.unique h1) sq_
 ·exact absurd (g1.unique h1) sq_
 ·exact ⟨rfl,rfl⟩
theorem xp_.k (h:xp_ m1 m2 w e w'):∃ b k,e=.returned (.tuple #[.bool b,.int .i64 k])∧SubK m1 m2 b k∧Below w.heap.size w w':=by
 obtain ⟨b,r,hM,hb,⟨x,rfl,hi,he⟩|⟨rfl,he⟩⟩:=h
 ·exact ⟨b,0,he,.inl ⟨rfl,x,hM,hi⟩,hb⟩
 ·exact ⟨false,2,he,.inr ⟨rfl,rfl,hM⟩,hb⟩
theorem x2_.unique {r s:Option (List (List Per) × List (List Per))} (h:x2_ m1 m2 r) (g:x2_ m1 m2 s):s=r:=by
 cases r with
 | none=>
  cases s with
  | none=>rfl
  | some y=>
   exfalso;rcases h with h|⟨_,h⟩
   ·exact absurd (h.unique g.1) sq_
   ·exact absurd (h.unique g.2) sq_
 | some x=>
  cases s with
  | none=>
   exfalso;rcases g with g|⟨_,g⟩
   ·exact absurd (g.unique h.1) sq_
   ·exact absurd (g.unique h.2) sq_
  | some y=>
   have h1:=g.1.unique h.1;have h2:=g.2.unique h.2;injection h1 with h1
   injection h2 with h2
   rw [Prod.ext h1 h2]
def xr_ (m1 m2:List (List Per)) (b:Bool) (k:Int):Prop:=(k=0∧∃ x y,x2_ m1 m2 (some (x,y))∧(b=true↔(∀ t∈x,bt_ t)∧∀ t∈y,bt_ t))∨(k=2∧b=false∧x2_ m1 m2 none)
theorem xr_.unique {k k':Int} (h:xr_ m1 m2 b k) (g:xr_ m1 m2 b' k'):b'=b∧k'=k:=by
 rcases h with ⟨rfl,x,y,h1,h2⟩|⟨rfl,rfl,h1⟩ <;> rcases g with ⟨rfl,x',y',g1,g2⟩|⟨rfl,rfl,g1⟩
 ·have:=x2_.unique h1 g1;injection this with this;injection this with e1 e2;subst e1;subst e2
  exact ⟨Bool.eq_iff_iff.2 (g2.trans h2.symm),rfl⟩
 ·exact absurd (x2_.unique h1 g1) sq_
 ·exact absurd (x2_.unique h1 g1) sq_
 ·exact ⟨rfl,rfl⟩
theorem xk_.k (h:xk_ m1 m2 w e w'):∃ b k,e=.returned (.tuple #[.bool b,.int .i64 k])∧xr_ m1 m2 b k∧Below w.heap.size w w':=by
 obtain ⟨b,r,hM,hb,⟨x,y,rfl,hi,he⟩|⟨rfl,he⟩⟩:=h
 ·exact ⟨b,0,he,.inl ⟨rfl,x,y,hM,hi⟩,hb⟩
 ·exact ⟨false,2,he,.inr ⟨rfl,rfl,hM⟩,hb⟩
def xn_ (m1 m2:List (List Per)) (n:Int) (b:Bool) (k:Int):Prop:=(k=0∧∃ x y,x2_ m1 m2 (some (x,y))∧ax_ FarI (mmem (x ++ y)) 0 n b)∨(k=2∧n=0∧b=false∧x2_ m1 m2 none)
theorem xn_.unique {n':Int} {k k':Int} (h:xn_ m1 m2 n b k) (g:xn_ m1 m2 n' b' k'):n'=n∧b'=b∧k'=k:=by
 rcases h with ⟨rfl,x,y,h1,h2⟩|⟨rfl,rfl,rfl,h1⟩ <;> rcases g with ⟨rfl,x',y',g1,g2⟩|⟨rfl,rfl,rfl,g1⟩
 ·have:=x2_.unique h1 g1;injection this with this;injection this with e1 e2;subst e1;subst e2
  obtain ⟨e1,e2⟩:=g2.unique h2;exact ⟨e1,e2,rfl⟩
 ·exact absurd (x2_.unique h1 g1) sq_
 ·exact absurd (x2_.unique h1 g1) sq_
 ·exact ⟨rfl,rfl,rfl⟩
theorem kc_.k (h:kc_ m1 m2 w e w'):∃ n b k,e=.returned (.tuple #[.int .i64 n,.bool b,.int .i64 k])∧xn_ m1 m2 n b k∧Below w.heap.size w w':=by
 obtain ⟨r,hM,hb,⟨x,y,n,b,rfl,hn,he⟩|⟨rfl,he⟩⟩:=h
 ·exact ⟨n,b,0,he,.inl ⟨rfl,x,y,hM,hn⟩,hb⟩
 ·exact ⟨0,false,2,he,.inr ⟨rfl,rfl,rfl,hM⟩,hb⟩
theorem vi_ (h:∀ t∈m,aw_ s t) (ho:cv_ m):MV s m:=⟨(d8_ h).2 ho,h⟩
theorem xd_ (h:FV s p):aw_ s [p]:=⟨sq_,fun q hq=>by rw [List.mem_singleton] at hq;subst hq;exact h,sq_⟩
theorem h5_ (h:FV s p):MV s [[p]]:=vi_ (fun t ht=>by rw [List.mem_singleton] at ht;subst ht;exact xd_ h) (ok_one sq_)
theorem fd_ (h:CFac 0 p):FV 0 p:=⟨h.fac,by have:=h.fac.frm;omega⟩
theorem lg_:MV 0 [[ev 1 4,ev 3 6]]:=vi_ (fun t ht=>by
 rw [List.mem_singleton] at ht;subst ht;exact ⟨sq_,fun p hp=>by
  rcases List.mem_cons.1 hp with rfl|hp
  ·exact fd_ x1
  ·rw [List.mem_singleton] at hp;subst hp;exact fd_ x2,sq_⟩) (ok_one sq_)
theorem c8_.is {n:Nat} (h:c8_ s T w e w') (hm:bf_ T m) (ho:cv_ m) (hn:m.length=n) :
  ∃ a c,e=.returned (.tuple #[.agg #[.slice a n c],.int .i64 0])∧MixR w' (fun b=>w.heap.size≤b) (.slice a n c) m∧Below w.heap.size w w':=by
 obtain ⟨a,c,k,mk,rfl,h1,h2,⟨rfl,h3,h4⟩|⟨_,_,_,_,m',h3,h4⟩⟩:=h.num
 ·obtain rfl:=h3.unique hm;subst hn;exact ⟨a,c,rfl,h1,h2⟩
 ·obtain rfl:=h3.unique hm;exact absurd ho h4
theorem fk_.is {n:Nat} (h:fk_ s m1 m2 w e w') (hm:b4_ m1 m2 (some m)) (hn:m.length=n) :
  ∃ a c,e=.returned (.tuple #[.agg #[.slice a n c],.int .i64 0])∧MixR w' (fun b=>w.heap.size≤b) (.slice a n c) m∧Below w.heap.size w w':=by
 obtain ⟨v,r,h1,h2,⟨k,rfl,_,rfl,h5⟩|⟨rfl,_⟩⟩:=h
 ·have e:=h1.unique hm;injection e with e
  subst e;subst hn;obtain ⟨a,c,rfl⟩:=h5.form;exact ⟨a,c,rfl,h5,h2⟩
 ·have e:=h1.unique hm;cases e
def MixB (W:World) (b n:Nat) (m:List (List Per)):Prop:=∃ a c,Bxx W b #[.slice a n c] 28∧MixR W (fun _=>True) (.slice a n c) m
def bk_ (W:World) (L:List (Nat × Nat × List (List Per))):Prop:=∀ x∈L,MixB W x.1 x.2.1 x.2.2
theorem bk_.below {L:List (Nat × Nat × List (List Per))} (h:bk_ W L) (hb:Below W.heap.size W W'):bk_ W' L:=fun x hx=>by
 obtain ⟨a,c,h1,h2⟩:=h x hx;exact ⟨a,c,h1.below hb,h2.ext hb⟩
theorem bk_.nil (W:World):bk_ W []:=fun x hx=>nomatch hx
theorem bk_.cons {L:List (Nat × Nat × List (List Per))} {b n:Nat} (h1:MixB W b n m) (h:bk_ W L):bk_ W ((b,n,m) :: L):=fun x hx=>by
 rcases List.mem_cons.1 hx with rfl|hx
 ·exact h1
 ·exact h x hx
theorem bk_.at {L:List (Nat × Nat × List (List Per))} (h:bk_ W L) (i:Nat) {b n:Nat} (e:L[i]? = some (b,n,m)):MixB W b n m:=h (b,n,m) (List.mem_of_getElem? e)
theorem bz_ (n r:Int) (h0:0≤r) (h1:r<n) (hd:n∣27720) (w:World) :
  Calls Tryz.prog 53 #[.int .i64 n,.int .i64 r] w fun e w'=>∃ a c,e=.returned (.agg #[.slice a 1 c])∧MixR w' (fun b=>w.heap.size≤b) (.slice a 1 c) [[ev r n]]∧Below w.heap.size w w':=by
 have hn:n≤27720:=Int.le_of_dvd dq_ hd;have hcf:=h6_ h0 h1 hd;have hof:ofM (ev r n)=[[ev r n]]:=by unfold ofM;rw [hcf.canonC,show fe_ (ev r n)=false from by simp [fe_,ev]];rfl
 have HO:=fun W b (h:Bxx W b #[.int .i64 r] 3)=>qb_ 0 (.slice none 0 0) (.slice (some ⟨b,0,none⟩) 1 1) (ev r n) W ⟨Ints.nil _,Ints.lit (l:=[r]) h sq_ (fun x hx=>by rw [List.mem_singleton] at hx;subst hx;exact ⟨oq_,oq_⟩)⟩ (fd_ hcf);rw [hof] at HO;change ∀ W b,_->Calls _ _ #[.agg #[.slice none 0 0,.int .i64 0,.int .i64 n,.slice (some ⟨b,0,none⟩) 1 1]] W _ at HO;clear hcf hof hd
 go_enter Tryz.func53,Tryz.ntmps53
 go_wp2_with (go_at_call 54;(refine (HO _ _ xB).mono ?_;rintro e w1 ⟨a,c,rfl,hm,hb1⟩;have b0:Bxx w1 w.heap.size #[.slice none 0 0] 28:=Bxx.below xB hb1;have x0:=b0.cells 0))
 have hcc:=Bxx.c0 (a4_ 0 (.slice a 1 c) b0);exact bodyPost_ret (v:=.agg #[.slice a 1 c]) (by simp [results,Tryz.results53,go_sem,hcc]) rfl ⟨a,c,rfl,((hm.mono (G:=fun b=>w.heap.size+1≤b) fun b hb=>by simp at hb;omega).set oq_).mono fun b hb=>oq_,(Et (Ea (Ea (Er w) _) _) hb1).setCell (p:=⟨w.heap.size,0,none⟩) (Nat.le_refl _) _⟩
theorem MixR.first {F:Nat->Prop} (h:MixR W F v (t :: m)):∃ b o c ta tc,v=.slice (some ⟨b,o,none⟩) (m.length+1) c∧W.cell? ⟨b,o,none⟩=some (.slice ta t.length tc)∧ab_ W F (.slice ta t.length tc) t:=by
 obtain ⟨L,hL,hml⟩:=h;have hl:L.length=m.length+1:=by have:=congrArg List.length hL;simpa using this
 obtain ⟨b,o,c,ta,tn,tc,u,he,e0,htt,hmt⟩:=hml.at (show 0<L.length by omega);rw [hL] at hmt;obtain rfl:t=u:=by simpa using hmt
 obtain ⟨_,_,h1,_⟩:=htt.form;injection h1 with h1 h2 h3
 subst h2;exact ⟨b,o,c,ta,tc,by rw [he,hl],by simpa using e0,htt⟩
theorem Bxx.ints {b:Nat} {t:TypeId} (h:Bxx w b (l.map (Value.int .i64)).toArray t) (hl:decide (l.length≤10)=true) (hr:(l.all fun x=>decide (0≤x∧x≤1000))=true):Ints w (.slice (some ⟨b,0,none⟩) l.length l.length) l:=
 Ints.lit h (by have:=of_decide_eq_true hl;omega) fun x hx=>by
  have:=of_decide_eq_true (List.all_eq_true.1 hr x hx);unfold InI;omega
theorem of_ (F:Nat->Prop) (h c:Value) (p:Per) (n:Int) (l:List Int) (k b:Nat) (w:World) (hx:PVok w F ⟨h,c,p⟩) (hb:Bxx w b (l.map (Value.int .i64)).toArray 3) (he:p=⟨[],0,n,l⟩) (hk:l.length=k) (hn:InI n) (hl:decide (l.length≤10)=true) (hr:(l.all fun x=>decide (0≤x∧x≤1000))=true) :
  Calls Tryz.prog 44 #[.agg #[h,.int .i64 p.frm,.int .i64 p.period,c],.agg #[.slice none 0 0,.int .i64 0,.int .i64 n,.slice (some ⟨b,0,none⟩) k k]] w fun e w'=>e=.returned (.bool true)∧Below w.heap.size w w':=by
 subst hk;have h1:=f0_ F (fun _=>True) ⟨h,c,p⟩ ⟨.slice none 0 0,.slice (some ⟨b,0,none⟩) l.length l.length,⟨[],0,n,l⟩⟩ w hx ⟨⟨Ints.nil _,hb.ints hl hr⟩,show InI (0:Int) from ⟨dq_,dq_⟩,hn,fun h=>absurd rfl h,fun _ _ _=>trivial⟩;have h2:bi_ p ⟨[],0,n,l⟩=true:=by rw [he];unfold bi_;simp
 have h1:Calls _ _ #[.agg #[h,.int .i64 p.frm,.int .i64 p.period,c],.agg #[.slice none 0 0,.int .i64 0,.int .i64 n,.slice (some ⟨b,0,none⟩) l.length l.length]] w fun e w'=>e=.returned (.bool (bi_ p ⟨[],0,n,l⟩))∧_:=h1;rwa [h2] at h1
theorem vw_ (W:World):MixR W (fun _=>True) (.slice none 0 0) []:=⟨[],rfl,⟨none,0,rfl,sq_,oq_,.inl rfl⟩,sq_,sq_⟩
def dx_:Per:=⟨[],0,4,[0,1,2]⟩
def ed_:Per:=⟨[],0,6,[2,4]⟩
theorem vb_:bf_ ([[ev 0 2]] ++ [[ev 1 4]]) [[dx_]]:=w4_
theorem sc_:b4_ [[ev 0 2]] [[ev 0 6]] (some [[ed_]]):=uy_
theorem i0:InI 0:=⟨dq_,dq_⟩
theorem kc_.is {mk nk:List (List Per)} (h:kc_ m1 m2 w e w') (hm:b4_ m1 m2 (some mk)) (hn:b4_ m2 m1 (some nk)) (hx:ax_ FarI (mmem (mk ++ nk)) 0 n b) :
  e=.returned (.tuple #[.int .i64 n,.bool b,.int .i64 0])∧Below w.heap.size w w':=by
 obtain ⟨r,hB,hb,⟨mk',nk',n',b',rfl,hx',rfl⟩|⟨rfl,_⟩⟩:=h
 ·have e1:=hB.1.unique hm;have e2:=hB.2.unique hn;injection e1 with e1;injection e2 with e2
  subst e1;subst e2;obtain ⟨rfl,rfl⟩:=hx'.unique hx;exact ⟨rfl,hb⟩
 ·rcases hB with h|⟨_,h⟩
  ·have:=h.unique hm;cases this
  ·have:=h.unique hn;cases this
theorem x8_ (W:World) (b:Nat) (h:Bxx W b #[.int .i64 0,.int .i64 2,.int .i64 4] 3):Calls Tryz.prog 54 #[.agg #[.slice (some ⟨b,0,none⟩) 3 3,.int .i64 5,.int .i64 1,.slice none 0 0]] W
  fun e w'=>∃ a c,e=.returned (.agg #[.slice a 1 c])∧MixR w' (fun b=>W.heap.size≤b) (.slice a 1 c) [[tri]]∧Below W.heap.size W w':=by
 have h1:=qb_ 0 (.slice (some ⟨b,0,none⟩) 3 3) (.slice none 0 0) tri W ⟨Bxx.ints (l:=[0,2,4]) h dq_ dq_,Ints.nil _⟩ (fd_ kv_);rw [show ofM tri=[[tri]] from by unfold ofM;rw [kv_.canonC,show fe_ tri=false from by decide];rfl] at h1;exact h1
theorem MixB.first {b n k:Nat} (h:MixB W b n (t :: m)) (hk:t.length=k):∃ bb o c ta tc,Bxx W b #[.slice (some ⟨bb,o,none⟩) n c] 28∧W.cell? ⟨bb,o,none⟩=some (.slice ta k tc)∧ab_ W (fun _=>True) (.slice ta k tc) t:=by
 obtain ⟨a,c,h1,h2⟩:=h;obtain ⟨bb,o,c',ta,tc,he,h3,h4⟩:=h2.first;injection he with e1 e2 e3
 subst e1;subst e3;subst hk;exact ⟨bb,o,_,ta,tc,h1,h3,h4⟩
theorem ab_.one_p {F:Nat->Prop} {ta:Option Addr} {tc:Nat} (h:ab_ W F (.slice ta 1 tc) [p]):∃ b o a1 n1 c1 a2 n2 c2,ta=some ⟨b,o,none⟩∧PVok W F ⟨.slice a1 n1 c1,.slice a2 n2 c2,p⟩∧
  W.cell? ⟨b,o,none⟩=some (.slice a1 n1 c1)∧W.cell? ⟨b,o+1,none⟩=some (.int .i64 p.frm)∧W.cell? ⟨b,o+2,none⟩=some (.int .i64 p.period)∧W.cell? ⟨b,o+3,none⟩=some (.slice a2 n2 c2):=by
 obtain ⟨b,o,c,a1,n1,c1,a2,n2,c2,he,hx,h0,h1,h2,h3⟩:=h.single rfl;injection he with e1
 exact ⟨b,o,a1,n1,c1,a2,n2,c2,e1,hx,h0,h1,h2,h3⟩
theorem r2_ (w:World) :
  Calls Tryz.prog 13 #[] w fun e w'=>e=.returned (.bool true)∧Below w.heap.size w w':=by
 have v14:=h5_ (fd_ x1);have v36:=h5_ (fd_ x2);have v26:=h5_ (fd_ x3);have v02:=h5_ (fd_ x4);have v06:=h5_ (fd_ x5);have d2:(2:Int)∣27720:=⟨13860,dq_⟩;have d4:(4:Int)∣27720:=⟨6930,dq_⟩;have d6:(6:Int)∣27720:=⟨4620,dq_⟩;have hS:=bk_.nil w;have hE:=Er w
 go_enter Tryz.func13,Tryz.ntmps13
 go_upto_region 2 with (first|(go_at_call 53;(first|((with_reducible refine (bz_ 4 1 oq_ oq_ d4 _).mono ?_);rintro e uA2 ⟨aA2,cA2,rfl,mA,kA⟩)|((with_reducible refine (bz_ 6 3 oq_ oq_ d6 _).mono ?_);rintro e uB2 ⟨aB2,cB2,rfl,mB,kB⟩)))|(go_at_call 22;(refine (jx_ 0 _ _ (.slice aA2 1 cA2) (.slice aB2 1 cB2) _ _ _ (mA.ext kB) mB v14 v36).mono ?_;rintro e uR hR;obtain ⟨aR2,cR2,rfl,mR,kR⟩:=hR.is v1_ (ok_one sq_) rfl)))
 refine al_ (F:=fun U=>bk_ U ((uR.heap.size,1,[[ev 1 4,ev 3 6]]) :: [])∧Below w.heap.size w U) ⟨bk_.cons ⟨aR2,cR2,xB,(mR.mono fun _ _=>trivial).ext xE⟩ (hS.below xE),xE⟩ ?_;clear hS hE mA mB kA kB mR kR;generalize uR.heap.size=b2 at *;rintro W2 ⟨hS,hE⟩;go_upto_region 3 with (first|(go_at_call 53;(first|((with_reducible refine (bz_ 4 1 oq_ oq_ d4 _).mono ?_);rintro e uA3 ⟨aA3,cA3,rfl,mA,kA⟩)|((with_reducible refine (bz_ 6 2 oq_ oq_ d6 _).mono ?_);rintro e uB3 ⟨aB3,cB3,rfl,mB,kB⟩)))|(go_at_call 22;(refine (jx_ 0 _ _ (.slice aA3 1 cA3) (.slice aB3 1 cB3) _ _ _ (mA.ext kB) mB v14 v26).mono ?_;rintro e uR hR;obtain ⟨aR3,cR3,rfl,mR,kR⟩:=hR.is v3_ t1_ rfl)))
 refine al_ (F:=fun U=>bk_ U ((uR.heap.size,0,[]) :: [(b2,1,[[ev 1 4,ev 3 6]])])∧Below w.heap.size w U) ⟨bk_.cons ⟨aR3,cR3,xB,(mR.mono fun _ _=>trivial).ext xE⟩ (hS.below xE),xE⟩ ?_;clear hS hE mA mB kA kB mR kR;generalize uR.heap.size=b3 at *;rintro W3 ⟨hS,hE⟩;go_upto_region 4 with (first|(go_at_call 53;(first|((with_reducible refine (bz_ 2 0 oq_ oq_ d2 _).mono ?_);rintro e uA4 ⟨aA4,cA4,rfl,mA,kA⟩)|((with_reducible refine (bz_ 4 1 oq_ oq_ d4 _).mono ?_);rintro e uB4 ⟨aB4,cB4,rfl,mB,kB⟩)))|(go_at_call 21;(refine (ln_ 0 _ _ (.slice aA4 1 cA4) (.slice aB4 1 cB4) _ _ _ (mA.ext kB) mB v02 v14).mono ?_;rintro e uR hR;obtain ⟨aR4,cR4,rfl,mR,kR⟩:=hR.is vb_ (ok_one sq_) rfl)))
 refine al_ (F:=fun U=>bk_ U ((uR.heap.size,1,[[dx_]]) :: [(b3,0,[]),(b2,1,[[ev 1 4,ev 3 6]])])∧Below w.heap.size w U) ⟨bk_.cons ⟨aR4,cR4,xB,(mR.mono fun _ _=>trivial).ext xE⟩ (hS.below xE),xE⟩ ?_;clear hS hE mA mB kA kB mR kR;generalize uR.heap.size=b4 at *;rintro W4 ⟨hS,hE⟩;go_upto_region 5 with (first|(go_at_call 53;(first|((with_reducible refine (bz_ 4 1 oq_ oq_ d4 _).mono ?_);rintro e uA5 ⟨aA5,cA5,rfl,mA,kA⟩)|((with_reducible refine (bz_ 6 3 oq_ oq_ d6 _).mono ?_);rintro e uB5 ⟨aB5,cB5,rfl,mB,kB⟩)))|(go_at_call 21;(refine (ln_ 0 _ _ (.slice aA5 1 cA5) (.slice aB5 1 cB5) _ _ _ (mA.ext kB) mB v14 v36).mono ?_;rintro e uR hR;obtain ⟨aR5,cR5,rfl,mR,kR⟩:=hR.is w6_ (ok_two sq_ sq_) rfl)))
 refine al_ (F:=fun U=>bk_ U ((uR.heap.size,2,[[ev 1 4],[ev 3 6]]) :: [(b4,1,[[dx_]]),(b3,0,[]),(b2,1,[[ev 1 4,ev 3 6]])])∧Below w.heap.size w U) ⟨bk_.cons ⟨aR5,cR5,xB,(mR.mono fun _ _=>trivial).ext xE⟩ (hS.below xE),xE⟩ ?_;clear hS hE mA mB kA kB mR kR;generalize uR.heap.size=b5 at *;rintro W5 ⟨hS,hE⟩;go_upto_region 6 with (first|(go_at_call 53;(first|((with_reducible refine (bz_ 2 0 oq_ oq_ d2 _).mono ?_);rintro e uA6 ⟨aA6,cA6,rfl,mA,kA⟩)|((with_reducible refine (bz_ 6 0 oq_ oq_ d6 _).mono ?_);rintro e uB6 ⟨aB6,cB6,rfl,mB,kB⟩)))|(go_at_call 23;(refine (ft_ 0 _ _ (.slice aA6 1 cA6) (.slice aB6 1 cB6) _ _ _ (mA.ext kB) mB v02 v06).mono ?_;rintro e uR hR;obtain ⟨aR6,cR6,rfl,mR,kR⟩:=hR.is sc_ rfl)))
 refine al_ (F:=fun U=>bk_ U ((uR.heap.size,1,[[ed_]]) :: [(b5,2,[[ev 1 4],[ev 3 6]]),(b4,1,[[dx_]]),(b3,0,[]),(b2,1,[[ev 1 4,ev 3 6]])])∧Below w.heap.size w U) ⟨bk_.cons ⟨aR6,cR6,xB,(mR.mono fun _ _=>trivial).ext xE⟩ (hS.below xE),xE⟩ ?_;clear hS hE mA mB kA kB mR kR;generalize uR.heap.size=b6 at *;rintro W6 ⟨hS,hE⟩;obtain ⟨aL7,cL7,gB,gM⟩:=hS.at 4 rfl;have q0:=gB.c0;go_upto_region 7 with (go_at_call 24;(refine (i8_ 0 _ (.slice aL7 1 cL7) [[ev 1 4,ev 3 6]] _ gM lg_ oq_).mono ?_;rintro e uR hR;rw [ni_] at hR;obtain ⟨hJ,cJ,rfl,pJ,kR⟩:=hR;obtain ⟨xa,xn,xc,ya,yn,yc,rfl,rfl⟩:=pJ.sl))
 refine al_ (F:=fun U=>bk_ U [(b6,1,[[ed_]]),(b5,2,[[ev 1 4],[ev 3 6]]),(b4,1,[[dx_]]),(b3,0,[]),(b2,1,[[ev 1 4,ev 3 6]])]∧(Bxx U uR.heap.size #[.slice xa xn xc,.int .i64 (ev 9 12).frm,.int .i64 (ev 9 12).period,.slice ya yn yc] 39∧a8_ U (.slice xa xn xc) (.slice ya yn yc) (ev 9 12))∧Below w.heap.size w U) ⟨hS.below xE,⟨xB,pJ.ext xE⟩,xE⟩ ?_;clear hS hE gB gM q0 kR pJ;generalize uR.heap.size=b7 at *;rintro W7 ⟨hS,hP,hE⟩;obtain ⟨aL8,cL8,gB,gM⟩:=hS.at 4 rfl;have q0:=gB.c0;go_upto_region 8 with (go_at_call 15;(refine (qc_ 0 _ (.slice aL8 1 cL8) [[ev 1 4,ev 3 6]] 0 30 _ gM lg_ oq_ oq_ oq_ oq_).mono ?_;rintro e uR ⟨he,kR⟩;rw [ni_,show ay_ (ev 9 12) 30-ay_ (ev 9 12) 0=2 from by decide] at he;subst he))
 refine al_ (F:=fun U=>bk_ U [(b6,1,[[ed_]]),(b5,2,[[ev 1 4],[ev 3 6]]),(b4,1,[[dx_]]),(b3,0,[]),(b2,1,[[ev 1 4,ev 3 6]])]∧(Bxx U b7 #[.slice xa xn xc,.int .i64 (ev 9 12).frm,.int .i64 (ev 9 12).period,.slice ya yn yc] 39∧a8_ U (.slice xa xn xc) (.slice ya yn yc) (ev 9 12))∧Below w.heap.size w U) ⟨hS.below xE,⟨hP.1.below xE,hP.2.ext xE⟩,xE⟩ ?_;clear hS hP hE gB gM q0 kR;rintro W8 ⟨hS,hP,hE⟩;obtain ⟨aL9,cL9,gB,gM⟩:=hS.at 4 rfl;have q0:=gB.c0;go_upto_region 9 with (go_at_call 16;(refine (sa_ 0 _ (.slice aL9 1 cL9) [[ev 1 4,ev 3 6]] 0 _ gM lg_ i0).mono ?_;rintro e uR ⟨n9,f9,rfl,hn,kR⟩;obtain ⟨rfl,rfl⟩:=hn.unique (show ax_ FarI _ (max 0 0) 9 true from vc_)))
 refine al_ (F:=fun U=>bk_ U [(b6,1,[[ed_]]),(b5,2,[[ev 1 4],[ev 3 6]]),(b4,1,[[dx_]]),(b3,0,[]),(b2,1,[[ev 1 4,ev 3 6]])]∧(Bxx U b7 #[.slice xa xn xc,.int .i64 (ev 9 12).frm,.int .i64 (ev 9 12).period,.slice ya yn yc] 39∧a8_ U (.slice xa xn xc) (.slice ya yn yc) (ev 9 12))∧Below w.heap.size w U) ⟨hS.below xE,⟨hP.1.below xE,hP.2.ext xE⟩,xE⟩ ?_;clear hS hP hE gB gM q0 kR hn;rintro W9 ⟨hS,hP,hE⟩;go_upto_region 10 with (first|(go_at_call 53;first|((with_reducible refine (bz_ 4 1 oq_ oq_ d4 _).mono ?_);rintro e uA10 ⟨aA10,cA10,rfl,mA,kA⟩)|((with_reducible refine (bz_ 6 3 oq_ oq_ d6 _).mono ?_);rintro e uB10 ⟨aB10,cB10,rfl,mB,kB⟩))|(go_at_call 27;(refine (rf_ 0 _ _ (.slice aA10 1 cA10) (.slice aB10 1 cB10) _ _ 10 _ (mA.ext kB) mB v14 v36 ⟨dq_,dq_⟩).mono ?_;rintro e uR ⟨n9,f9,rfl,hn,kR⟩;obtain ⟨rfl,rfl⟩:=hn.unique (show ax_ FarI _ (max 10 0) 21 true from tj_))))
 refine al_ (F:=fun U=>bk_ U [(b6,1,[[ed_]]),(b5,2,[[ev 1 4],[ev 3 6]]),(b4,1,[[dx_]]),(b3,0,[]),(b2,1,[[ev 1 4,ev 3 6]])]∧(Bxx U b7 #[.slice xa xn xc,.int .i64 (ev 9 12).frm,.int .i64 (ev 9 12).period,.slice ya yn yc] 39∧a8_ U (.slice xa xn xc) (.slice ya yn yc) (ev 9 12))∧Below w.heap.size w U) ⟨hS.below xE,⟨hP.1.below xE,hP.2.ext xE⟩,xE⟩ ?_;clear hS hP hE mA mB kA kB kR hn;rintro W10 ⟨hS,hP,hE⟩;go_upto_region 11 with (first|(go_at_call 53;(with_reducible refine (bz_ 2 0 oq_ oq_ d2 _).mono ?_);rintro e uA11 ⟨aA11,cA11,rfl,mA,kA⟩)|(go_at_call 54;(refine (x8_ _ _ xB).mono ?_;rintro e uB11 ⟨aB11,cB11,rfl,mB,kB⟩))|(go_at_call 38;(refine (rb_ 0 _ _ (.slice aA11 1 cA11) (.slice aB11 1 cB11) _ _ _ (mA.ext xE) mB v02 (h5_ (fd_ kv_))).mono ?_;rintro e uR hR;obtain ⟨rfl,kR⟩:=hR.is ww_ x3_ tl_)))
 refine al_ (F:=fun U=>bk_ U [(b6,1,[[ed_]]),(b5,2,[[ev 1 4],[ev 3 6]]),(b4,1,[[dx_]]),(b3,0,[]),(b2,1,[[ev 1 4,ev 3 6]])]∧(Bxx U b7 #[.slice xa xn xc,.int .i64 (ev 9 12).frm,.int .i64 (ev 9 12).period,.slice ya yn yc] 39∧a8_ U (.slice xa xn xc) (.slice ya yn yc) (ev 9 12))∧Below w.heap.size w U) ⟨hS.below xE,⟨hP.1.below xE,hP.2.ext xE⟩,xE⟩ ?_;clear hS hP hE mA mB kA kB kR;rintro W11 ⟨hS,hP,hE⟩;obtain ⟨bb2,o2,c2,t2,tc2,B2,E2,-⟩:=(hS.at 4 rfl).first (k:=2) rfl;obtain ⟨a3,c3,B3,M3⟩:=hS.at 3 rfl;obtain ⟨bb4,o4,c4,t4,tc4,B4,E4,T4⟩:=(hS.at 2 rfl).first (k:=1) rfl;obtain ⟨a5,c5,B5,M5⟩:=hS.at 1 rfl;obtain ⟨bb6,o6,c6,t6,tc6,B6,E6,T6⟩:=(hS.at 0 rfl).first (k:=1) rfl;obtain ⟨f4,g4,a41,n41,c41,a42,n42,c42,rfl,P4,z0,z1,z2,z3⟩:=T4.one_p;obtain ⟨f6,g6,a61,n61,c61,a62,n62,c62,rfl,P6,y0,y1,y2,y3⟩:=T6.one_p;have q2:=B2.c0;have q3:=B3.c0;have q4:=B4.c0;have q5:=B5.c0;have q6:=B6.c0;have HP:=hq_ hP;have HS:=hq_ hS;have HE:=hq_ hE;have HM3:=hq_ M3;have HB6:=hq_ B6;have HSF4:=hq_ (fun W b (h:Below W11.heap.size W11 W) (hb:Bxx W b #[.int .i64 0,.int .i64 1,.int .i64 2] 3)=>of_ _ (.slice a41 n41 c41) (.slice a42 n42 c42) dx_ 4 [0,1,2] 3 b W (P4.keep (a5_.below h)) hb rfl rfl ⟨dq_,dq_⟩ dq_ dq_);have HSF6:=hq_ (fun W b (h:Below W11.heap.size W11 W) (hb:Bxx W b #[.int .i64 2,.int .i64 4] 3)=>of_ _ (.slice a61 n61 c61) (.slice a62 n62 c62) ed_ 6 [2,4] 2 b W (P6.keep (a5_.below h)) hb rfl rfl ⟨dq_,dq_⟩ dq_ dq_);clear hP hS hE M3 M5 T4 T6 P4 P6 B2 B3 B4 B5 B6 v14 v36 v26 v02 v06 d2 d4 d6;go_upto_region 13 with (fail)
 go_upto_region 14 with (go_at_call 44;(first
  | ((with_reducible refine (HSF4.out _ _ (Ea (Er _) _) (Bxx.new _ _ _)).mono ?_);rintro e u1 ⟨rfl,k1⟩;have hb1:Below W11.heap.size W11 u1:=Et (Ea (Er _) _) k1;have r6:=(HB6.out.below hb1).c0;have G6:=Ext.cell hb1 E6;have x0:=Ext.cell hb1 y0;have x1:=Ext.cell hb1 y1;have x2:=Ext.cell hb1 y2;have x3:=Ext.cell hb1 y3)
  | ((with_reducible refine (HSF6.out _ _ (Ea hb1 _) (Bxx.new _ _ _)).mono ?_);rintro e u2 ⟨rfl,k2⟩)))
 have hb2:Below W11.heap.size W11 u2:=Et (Ea hb1 _) k2;have HB2:=hq_ hb2;have hP2:=HP.out.1.below hb2;have p0:=(hP2.cells 0).1;have p1:=(hP2.cells 1).1;have p2:=(hP2.cells 2).1;have p3:=(hP2.cells 3).1;have HS2:=hq_ (HS.out.below hb2);have HSF9:=hq_ (fun W b (h:Below u2.heap.size u2 W) (hb:Bxx W b #[.int .i64 9] 3)=>of_ (fun _=>True) (.slice xa xn xc) (.slice ya yn yc) (ev 9 12) 12 [9] 1 b W ⟨(HP.out.2.ext hb2).ext h,show InI (0:Int) from i0,show InI (12:Int) from ⟨dq_,dq_⟩,fun _ _ _=>trivial,fun _ _ _=>trivial⟩ hb rfl rfl ⟨dq_,dq_⟩ dq_ dq_);clear hP2 hb1 hb2 k1 k2 q2 q3 q4 q5 q6 E2 E4 E6 z0 z1 z2 z3 y0 y1 y2 y3 r6 G6 x0 x1 x2 x3;go_upto_region 15 with (fail)
 obtain ⟨a3',c3',N3,M3'⟩:=HS2.out.at 3 rfl;obtain ⟨a2',c2',N2,M2'⟩:=HS2.out.at 4 rfl;have HN3:=hq_ N3;have HN2:=hq_ N2;have HM3':=hq_ M3';have HM2':=hq_ M2';clear N3 N2 M3' M2';go_wp2_with (first|(go_at_call 44;((with_reducible refine (HSF9.out _ _ (Ea (Er _) _) (Bxx.new _ _ _)).mono ?_);rintro e u3 ⟨rfl,k3⟩;have hb3:Below u2.heap.size u2 u3:=Et (Ea (Er _) _) k3;have s3:=(HN3.out.below hb3).c0;have HB3:=hq_ hb3;clear hb3 k3))|(go_at_call 25;(first
   | ((with_reducible refine (ko_ _ (.slice a3' 0 c3') [] _ (HM3'.out.ext HB3.out)).mono ?_);rintro e u4 ⟨b4',rfl,hb4,k4⟩;obtain rfl:b4'=true:=hb4.2 ⟨dq_,sq_⟩;have HB4:=hq_ (Et HB3.out k4);clear k4 hb4)
   | ((with_reducible refine (ko_ (fun _=>True) (.slice none 0 0) [] _ (vw_ _)).mono ?_);rintro e u5 ⟨b5',rfl,hb5,k5⟩;obtain rfl:b5'=true:=hb5.2 ⟨dq_,sq_⟩;have hbb:=Et HB4.out k5;have s2:=(HN2.out.below hbb).c0;have HB5:=hq_ hbb;clear k5 hbb hb5)))|(go_at_call 26;((with_reducible refine (pl_ _ (.slice a2' 1 c2') [[ev 1 4,ev 3 6]] _ (HM2'.out.ext HB5.out)).mono ?_);rintro e u6 ⟨b6',rfl,hb6,k6⟩;obtain rfl:b6'=false:=(by cases b6';rfl;exact absurd up_ ((hb6.1 rfl).2 _ sq_)))))
 go_ret;exact ⟨rfl,(HE.out.trans (HB2.out.mono HE.out.size)).trans ((Et HB5.out k6).mono (HE.out.trans (HB2.out.mono HE.out.size)).size)⟩
theorem xg_ (v0:Value) (n0:Nat) (v1:Value) (n1:Nat) (bb:Int) (w:World) (h0:e8_ w v0 n0) (h1:e8_ w v1 n1) (hb0:-9223372036854775808≤bb) (hb1:bb≤9223372036854775807) :
  Calls Tryz.prog 8 #[v0,v1,.int .i64 bb] w fun e w'=>e=.returned (.bool true)∧Below w.heap.size w w':=by
 have H0:=hq_ h0;have H1:=hq_ h1;clear h0 h1
 go_enter Tryz.func8,Tryz.ntmps8
 go_upto_region 4 with (first|(go_at_call 13;refine (r2_ _).mono ?_;rintro e u1 ⟨rfl,k1⟩)|(go_at_call 14;first|((with_reducible refine (n6_ v0 n0 _ (H0.out.ext xE)).mono ?_);rintro e u2 ⟨mA,aA,cA,rfl,yA,dA,k2⟩)|((with_reducible refine (n6_ v1 n1 _ (H1.out.ext xE)).mono ?_);rintro e u3 ⟨mB,aB,cB,rfl,yB,dB,k3⟩)))
 refine al_ (F:=fun U=>bk_ U [(u3.heap.size,mB.length,mB),(u2.heap.size,mA.length,mA)]∧Below w.heap.size w U) ⟨bk_.cons ⟨aB,cB,xB,(yB.mono fun _ _=>trivial).ext xE⟩ (bk_.cons ⟨aA,cA,((Bxx.new u2 _ _).below k3).alloc _,(yA.mono fun _ _=>trivial).ext xE⟩ (bk_.nil _)),xE⟩ ?_;clear k1 k2 k3 yA yB;have HA:=hq_ dA;have HB:=hq_ dB;clear dA dB;generalize u2.heap.size=b8 at *;generalize u3.heap.size=b9 at *;rintro W3 ⟨hS,hE0⟩;obtain ⟨aA8,cA8,gA,yA⟩:=hS.at 1 rfl;obtain ⟨aB8,cB8,gB,yB⟩:=hS.at 0 rfl;have HQ8:=hq_ gA.c0;have HQ9:=hq_ gB.c0;have HE0:=hq_ hE0;have hbb:InI bb:=⟨hb0,hb1⟩;have HNx1:=hq_ (fun W (h:Below W3.heap.size W3 W)=>sa_ 0 _ (.slice aA8 mA.length cA8) mA bb W (yA.ext h) HA.out.mv hbb);have HNx2:=hq_ (fun W (h:Below W3.heap.size W3 W)=>ya_ 0 _ (.slice aA8 mA.length cA8) mA bb W (yA.ext h) HA.out.mv hbb);have HFi1:=hq_ (fun W (h:Below W3.heap.size W3 W)=>rf_ 0 _ _ (.slice aA8 mA.length cA8) (.slice aB8 mB.length cB8) mA mB bb W (yA.ext h) (yB.ext h) HA.out.mv HB.out.mv hbb);have HFi2:=hq_ (fun W (h:Below W3.heap.size W3 W)=>y2_ 0 _ _ (.slice aA8 mA.length cA8) (.slice aB8 mB.length cB8) mA mB bb W (yA.ext h) (yB.ext h) HA.out.mv HB.out.mv hbb);have HSu1:=hq_ (fun W (h:Below W3.heap.size W3 W)=>(y0_ 0 _ _ (.slice aA8 mA.length cA8) (.slice aB8 mB.length cB8) mA mB W (yA.ext h) (yB.ext h) HA.out.mv HB.out.mv).mono fun _ _ h=>h.k);have HSu2:=hq_ (fun W (h:Below W3.heap.size W3 W)=>(xw_ 0 _ _ (.slice aA8 mA.length cA8) (.slice aB8 mB.length cB8) mA mB W (yA.ext h) (yB.ext h) HA.out.mv HB.out.mv).mono fun _ _ h=>h.k);have HSa1:=hq_ (fun W (h:Below W3.heap.size W3 W)=>(yj_ 0 _ _ (.slice aA8 mA.length cA8) (.slice aB8 mB.length cB8) mA mB W (yA.ext h) (yB.ext h) HA.out.mv HB.out.mv).mono fun _ _ h=>h.k);have HSa2:=hq_ (fun W (h:Below W3.heap.size W3 W)=>(yb_ 0 _ _ (.slice aA8 mA.length cA8) (.slice aB8 mB.length cB8) mA mB W (yA.ext h) (yB.ext h) HA.out.mv HB.out.mv).mono fun _ _ h=>h.k);have HAp1:=hq_ (fun W (h:Below W3.heap.size W3 W)=>(rb_ 0 _ _ (.slice aA8 mA.length cA8) (.slice aB8 mB.length cB8) mA mB W (yA.ext h) (yB.ext h) HA.out.mv HB.out.mv).mono fun _ _ h=>h.k);have HAp2:=hq_ (fun W (h:Below W3.heap.size W3 W)=>(y1_ 0 _ _ (.slice aA8 mA.length cA8) (.slice aB8 mB.length cB8) mA mB W (yA.ext h) (yB.ext h) HA.out.mv HB.out.mv).mono fun _ _ h=>h.k);obtain ⟨be,hem1,hem2⟩:=y5_ _ (.slice aA8 mA.length cA8) mA W3 yA HA.out.mv;obtain ⟨bf,hfi1,hfi2⟩:=xz_ _ (.slice aA8 mA.length cA8) mA W3 yA HA.out.mv;have HEm1:=hq_ hem1;have HEm2:=hq_ hem2;have HFn1:=hq_ hfi1;have HFn2:=hq_ hfi2;have HCo:=hq_ (fun b=>y4_ _ (.slice aA8 mA.length cA8) mA bb b W3 yA HA.out.mv);clear hS hE0 gA gB yA yB hem1 hem2 hfi1 hfi2;have q8:=HQ8.out;have q9:=HQ9.out;go_upto_region 8 with (first|(go_at_call 16;(with_reducible refine (HNx1.out _ (Er _)).mono ?_);rintro e u4 ⟨n4,c4,rfl,r4,z4⟩;have s8:=Ext.cell z4 q8;have s9:=Ext.cell z4 q9)|(go_at_call 30;(with_reducible refine (HNx2.out _ z4).mono ?_);rintro e u5 ⟨n5,c5,rfl,r5,z5⟩;have hE5:=Et z4 z5;have s8':=Ext.cell hE5 q8;have s9':=Ext.cell hE5 q9)|(go_at_call 27;(with_reducible refine (HFi1.out _ hE5).mono ?_);rintro e u6 ⟨n6,c6,rfl,r6,z6⟩;have hE6:=Et hE5 z6;have t8:=Ext.cell hE6 q8;have t9:=Ext.cell hE6 q9)|(go_at_call 31;(with_reducible refine (HFi2.out _ hE6).mono ?_);rintro e u7 ⟨n7,c7,rfl,r7,z7⟩;have hE7:=Et hE6 z7))
 obtain ⟨rfl,rfl⟩:=r5.unique r4;obtain ⟨rfl,rfl⟩:=r7.unique r6;refine al_ (F:=fun U=>Below W3.heap.size W3 U) hE7 ?_;clear r4 r5 r6 r7 z4 z5 z6 z7 hE5 hE6 hE7 s8 s9 s8' s9' t8 t9 q8 q9;rintro W8 hE8;have q8:=Ext.cell hE8 HQ8.out;have q9:=Ext.cell hE8 HQ9.out;have HE8:=hq_ hE8;clear hE8;have hk1:(n5 != n5)=false:=by simp
 have hk2:(c5 != c5)=false:=by simp
 have hk3:(n7 != n7)=false:=by simp
 have hk4:(c7 != c7)=false:=by simp
 have hk5:(be != be)=false:=by simp
 have hk6:(bf != bf)=false:=by simp
 refine ai_ (w0:=W8) [0,1,2,3,4,5,6,7,8,9,10,11,12,13,14,15,16,17,18,19,20,21,22,23,24,25,26,27,28,29,30,31] [] (fun v=>⟨#[v0,v1,.int .i64 bb,undef,undef,undef,.bool false,.bool true,.pointer (some ⟨b8,0,none⟩),.pointer (some ⟨b9,0,none⟩),.int .i64 n5,.bool c5,.int .i64 n5,.bool c5,.int .i64 n7,.bool c7,.int .i64 n7,.bool c7,undef,undef,undef,undef,undef,undef,undef,undef,undef,undef,undef,undef,undef,undef,undef,undef,undef,undef,.bool true,v0,.agg #[.slice aA mA.length cA],v1,.agg #[.slice aB mB.length cB],.tuple #[.int .i64 n5,.bool c5],.agg #[.slice aA8 mA.length cA8],.int .i64 bb,.tuple #[.int .i64 n5,.bool c5],.int .i64 n5,.bool c5,.tuple #[.int .i64 n5,.bool c5],.agg #[.slice aA8 mA.length cA8],.int .i64 bb,.tuple #[.int .i64 n5,.bool c5],.int .i64 n5,.bool c5,.tuple #[.int .i64 n7,.bool c7],.agg #[.slice aA8 mA.length cA8],.agg #[.slice aB8 mB.length cB8],.int .i64 bb,.tuple #[.int .i64 n7,.bool c7],.int .i64 n7,.bool c7,.tuple #[.int .i64 n7,.bool c7],.agg #[.slice aA8 mA.length cA8],.agg #[.slice aB8 mB.length cB8],.int .i64 bb,.tuple #[.int .i64 n7,.bool c7],.int .i64 n7,.bool c7,v 0,v 1,v 2,v 3,v 4,v 5,v 6,v 7,v 8,v 9,v 10,v 11,v 12,v 13,v 14,v 15,v 16,v 17,v 18,v 19,v 20,v 21,v 22,v 23,v 24,v 25,v 26,v 27,v 28,v 29,v 30,v 31,undef,undef,undef,undef,undef,undef,undef,undef,undef,undef,undef,undef,undef,undef,undef,undef,undef,undef,undef,undef,undef,undef,undef,undef,undef,undef,undef,undef,undef,undef,undef,undef,undef,undef,undef,undef,undef,undef,undef,undef,undef,undef,undef,undef,undef,undef,undef,undef,undef,undef,undef,undef,undef,undef,undef,undef,undef,undef,undef,undef,undef,undef,undef,undef,undef,undef,undef,undef,undef,undef,undef,undef,undef,undef,undef,undef,undef,undef,undef,undef,undef,undef,undef,undef,undef,undef,undef,undef,undef,undef,undef,undef,undef,undef,undef,undef,undef,undef,undef,undef],[]⟩) [.int .i64 n5,.int .i64 n5,.bool false,.bool false,.bool c5,.bool c5,.bool false,.bool false,.bool false,.int .i64 n7,.int .i64 n7,.bool false,.bool false,.bool false,.bool c7,.bool c7,.bool false,.bool false,.bool false,.agg #[.slice aA8 mA.length cA8],.bool be,.agg #[.slice aA8 mA.length cA8],.bool be,.bool false,.bool false,.bool false,.agg #[.slice aA8 mA.length cA8],.bool bf,.agg #[.slice aA8 mA.length cA8],.bool bf,.bool false,.bool false] [] (fun _ _ _ _ _=>True) (fun W=>W.cell? ⟨b8,0,none⟩=some (.slice aA8 mA.length cA8)∧Below W3.heap.size W3 W) (fun W hb=>⟨Ext.cell (Et HE8.out hb) HQ8.out,Et HE8.out hb⟩) trivial trivial ?steps ?fin
 case steps=>
  clear q8 q9;refine .c [] [] rfl ?_ (.c [] [] rfl ?_ (.c [0,1] [] rfl ?_ (.c [2] [] rfl ?_ (.c [3] [] rfl ?_ (.c [3] [] rfl ?_ (.c [3,4,5] [] rfl ?_ (.c [3,6] [] rfl ?_ (.c [7] [] rfl ?_ (.c [8] [] rfl ?_ (.c [8] [] rfl ?_ (.c [8,9,10] [] rfl ?_ (.c [8,11] [] rfl ?_ (.c [12] [] rfl ?_ (.c [13] [] rfl ?_ (.c [13] [] rfl ?_ (.c [13,14,15] [] rfl ?_ (.c [13,16] [] rfl ?_ (.c [17] [] rfl ?_ (.c [18] [] rfl ?_ (.c [18,19] [] rfl ?_ (.c [18] [] rfl ?_ (.c [18,21] [] rfl ?_ (.c [18,20,22] [] rfl ?_ (.c [18,23] [] rfl ?_ (.c [24] [] rfl ?_ (.c [25] [] rfl ?_ (.c [25,26] [] rfl ?_ (.c [25] [] rfl ?_ (.c [25,28] [] rfl ?_ (.c [25,27,29] [] rfl ?_ (.c [25,30] [] rfl ?_ (.n))))))))))))))))))))))))))))))))
  all_goals try exact stw
  ·rintro v lo hi W hb ⟨g0,g1⟩ _;refine .inl ⟨rfl,fun K hK=>?_⟩;simp only [ov,vat,Nat.reduceBEq,cond_true,cond_false];go_wp2_with (go_at_call 25;(with_reducible refine (HEm1.out _ g1).mono ?_);rintro e w9 ⟨rfl,hb9⟩)
   exact acx (hK w9 hb9) (by simp [ov,vat,upd])
  ·rintro v lo hi W hb ⟨g0,g1⟩ _;refine .inl ⟨rfl,fun K hK=>?_⟩;simp only [ov,vat,Nat.reduceBEq,cond_true,cond_false];go_wp2_with (go_at_call 32;(with_reducible refine (HEm2.out _ g1).mono ?_);rintro e w9 ⟨rfl,hb9⟩)
   exact acx (hK w9 hb9) (by simp [ov,vat,upd])
  ·rintro v lo hi W hb ⟨g0,g1⟩ _;refine .inl ⟨rfl,fun K hK=>?_⟩;simp only [ov,vat,Nat.reduceBEq,cond_true,cond_false];go_wp2_with (go_at_call 26;(with_reducible refine (HFn1.out _ g1).mono ?_);rintro e w9 ⟨rfl,hb9⟩)
   exact acx (hK w9 hb9) (by simp [ov,vat,upd])
  ·rintro v lo hi W hb ⟨g0,g1⟩ _;refine .inl ⟨rfl,fun K hK=>?_⟩;simp only [ov,vat,Nat.reduceBEq,cond_true,cond_false];go_wp2_with (go_at_call 33;(with_reducible refine (HFn2.out _ g1).mono ?_);rintro e w9 ⟨rfl,hb9⟩)
   exact acx (hK w9 hb9) (by simp [ov,vat,upd])
 case fin=>
  rintro v lo hi W9 hb9 ⟨g0,hE9⟩ hf _;show wpList _ _ _ [] _ _;have f31:v 31=.bool false:=(hf 31 rfl).2.2.2;clear hf;dsimp only;rw [f31];clear f31;generalize v 0=y0,v 1=y1,v 2=y2,v 3=y3,v 4=y4,v 5=y5,v 6=y6,v 7=y7,v 8=y8,v 9=y9,v 10=y10,v 11=y11,v 12=y12,v 13=y13,v 14=y14,v 15=y15,v 16=y16,v 17=y17,v 18=y18,v 19=y19,v 20=y20,v 21=y21,v 22=y22,v 23=y23,v 24=y24,v 25=y25,v 26=y26,v 27=y27,v 28=y28,v 29=y29,v 30=y30;have hEA:=hE9;clear g0 hE9 hb9 HE8;have q8:=Ext.cell hEA HQ8.out;have q9:=Ext.cell hEA HQ9.out;obtain ⟨nc,kc,hc1,hc2⟩:=HCo.out (wrap64 (bb+500));have HC1:=hq_ hc1;have HC2:=hq_ hc2;clear hc1 hc2;go_upto_region 18 with (first|(go_at_call 34;(with_reducible refine (HSu1.out _ hEA).mono ?_);rintro e u4 ⟨b4,k4,rfl,r4,z4⟩;have hE4:=Et hEA z4;have s8:=Ext.cell hE4 HQ8.out;have s9:=Ext.cell hE4 HQ9.out)|(go_at_call 35;(with_reducible refine (HSu2.out _ hE4).mono ?_);rintro e u5 ⟨b5,k5,rfl,r5,z5⟩;have hE5:=Et hE4 z5;have s8':=Ext.cell hE5 HQ8.out;have s9':=Ext.cell hE5 HQ9.out)|(go_at_call 36;(with_reducible refine (HSa1.out _ hE5).mono ?_);rintro e u6 ⟨b6,k6,rfl,r6,z6⟩;have hE6:=Et hE5 z6;have t8:=Ext.cell hE6 HQ8.out;have t9:=Ext.cell hE6 HQ9.out)|(go_at_call 37;(with_reducible refine (HSa2.out _ hE6).mono ?_);rintro e u7 ⟨b7,k7,rfl,r7,z7⟩;have hE7:=Et hE6 z7;have t8':=Ext.cell hE7 HQ8.out;have t9':=Ext.cell hE7 HQ9.out)|(go_at_call 38;(with_reducible refine (HAp1.out _ hE7).mono ?_);rintro e ua ⟨na,ba,ka,rfl,ra,za⟩;have hEa:=Et hE7 za;have x8:=Ext.cell hEa HQ8.out;have x9:=Ext.cell hEa HQ9.out)|(go_at_call 39;(with_reducible refine (HAp2.out _ hEa).mono ?_);rintro e ub ⟨nb,bb2,kb,rfl,rb,zb⟩;have hEb:=Et hEa zb;have x8':=Ext.cell hEb HQ8.out)|(go_at_call 15;((with_reducible refine (HC1.out _ hEb).mono ?_);rintro e uc ⟨rfl,zc⟩;have hEc:=Et hEb zc;have y8:=Ext.cell hEc HQ8.out))|(go_at_call 40;(with_reducible refine (HC2.out _ hEc).mono ?_);rintro e ud ⟨rfl,zd⟩;have hEd:=Et hEc zd))
  obtain ⟨rfl,rfl⟩:=r5.unique r4;obtain ⟨rfl,rfl⟩:=r7.unique r6;obtain ⟨rfl,rfl,rfl⟩:=rb.unique ra;have HEF:=hq_ (Et HE0.out hEd);clear r4 r5 r6 r7 ra rb z4 z5 z6 z7 za zb zc zd hE4 hE5 hE6 hE7 hEa hEb hEc hEd s8 s9 s8' s9' t8 t9 t8' t9' x8 x9 x8' y8 q8 q9 hEA;go_wp2_with fail
  go_ret;exact ⟨rfl,HEF.out⟩
end Go.Proofs.YthjnojbeimchdaaGreat
namespace Go.Proofs.YthjnojbeimchdaaGreat
open Go.ChangeShapes Go.WideShapes Go.ChangeAt Go.RowKit Go.Joins Kal
theorem MixedDecisionsMatchReference_lifted (os:Os) (started:os.Started) (H:Type) (enc:TypeId × Value->H) :
  ReturnsInHanded {} Tryz.checked os 8 .any (Rows.mixedDecisionsMatchReferenceSpec.pre6 enc Tryz.prog Tryz.f8 Rows.mixedDecisionsMatchReferenceRow.domain false) (Rows.mixedDecisionsMatchReferenceSpec.post enc Tryz.prog Tryz.f8 false true false false):=by
 refine returnsInHanded_of_change (C:=Tryz.checked) wt_ started (by kernel_rfl) Tryz.func8
  (ChangeSpec.witness6 (enc:=enc) (C:=Tryz.checked) false ⟨#[],#[.slice none 0 0,.slice none 0 0,.int .i64 0],[]⟩ 8 (by kernel_rfl) (by kernel_rfl) (by kernel_rfl) (by kernel_rfl)) ?_
 intro W base args ds gs before hval0 hW hcnd _;have hval:∀ (j:Nat) t v,Tryz.f8.params[j]? = some t->args[j]? = some v->Value.okWide Tryz.prog W .any base t v:=hval0;have hW':=hW;obtain ⟨p,q,hA0,hV,rfl,hfz,hnd⟩:=hW;have hA:DataW.TrodAll enc Tryz.prog W 0 (fun _=>true) true Tryz.f8.params.toList args.toList ds p:=hA0;rw [Tryz.params8] at hA hval;obtain ⟨v0,vs0,d0,ds0,p0,q0,hargs,rfl,rfl,h0,r0⟩:=trodAll_cons hA;obtain ⟨v1,vs1,d1,ds1,p1,q1,rfl,rfl,rfl,h1,r1⟩:=trodAll_cons r0;obtain ⟨v2,vs2,d2,ds2,p2,q2,rfl,rfl,rfl,h2,r2⟩:=trodAll_cons r1;obtain ⟨rfl,rfl,rfl⟩:=trodAll_nil r2;obtain rfl:args=#[v0,v1,v2]:=by cases args;simp_all
 obtain ⟨rfl,rfl⟩:=trodVars_none hV;have k0:=h0;have lt0:∀ x∈p0,x.block<W.heap.size:=by obtain ⟨m,hm⟩:=k0;exact DataW.trod_lt m _ _ _ hm
 obtain ⟨n0,w0⟩:=ma_ (hval 0 22 v0 rfl rfl) h0;have k1:=h1;have lt1:∀ x∈p1,x.block<W.heap.size:=by obtain ⟨m,hm⟩:=k1;exact DataW.trod_lt m _ _ _ hm
 obtain ⟨n1,w1⟩:=ma_ (hval 1 22 v1 rfl rfl) h1;obtain ⟨m2,rfl,rfl,rfl,w2⟩:=open_int Tryz.underlying3 (hval 2 3 v2 rfl rfl) h2;have b2:=bounds_i64 w2;clear hA0 hval0;refine (xg_ v0 n0 v1 n1 m2 W w0 w1 b2.1 b2.2).mono fun e W' ⟨he,bel⟩=>?_;subst he;exact ⟨_,rfl,_,_,_,[],_,[],hW',trodAll_mk1 (shut_bool Tryz.underlying4 _),(trodAll_cons_mk (Below.trod o4_ (by kernel_rfl) (of_decide_eq_true (by kernel_rfl)) k0 bel lt0) (trodAll_cons_mk (Below.trod o4_ (by kernel_rfl) (of_decide_eq_true (by kernel_rfl)) k1 bel lt1) (trodAll_cons_mk (shut_int Tryz.underlying3 w2) trodAll_mk0))),rfl,bel.frame _,fun h=>by cases h⟩
theorem MixedDecisionsMatchReference_said:Rows.MixedDecisionsMatchReferenceSaid:=
 OpenClaim.holds_of_wide 8 Tryz.f8 rfl rfl rfl rfl rfl rfl rfl ⟨rfl,rfl,rfl,rfl,rfl⟩ rfl rfl rfl rfl rfl (by kernel_rfl) Tryz.func8 (by kernel_rfl)
  (of_decide_eq_true (by kernel_rfl)) (by unfold Func.isWrapper;first|(rw [if_pos (by decide +kernel)];kernel_rfl)|(rw [if_neg (by decide +kernel)];exact ⟨rfl,rfl⟩))
  (fun os started H enc _=>MixedDecisionsMatchReference_lifted os started H enc)
#print axioms MixedDecisionsMatchReference_said
end Go.Proofs.YthjnojbeimchdaaGreat
end
