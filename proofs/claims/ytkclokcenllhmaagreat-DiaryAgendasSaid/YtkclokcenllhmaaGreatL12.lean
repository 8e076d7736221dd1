/- The statement DiaryAgendasSaid: for every input the law returns true, and its arguments read as before. -/
import Derived.Test.YtkclokcenllhmaaGreatL6
import Derived.Test.YtkclokcenllhmaaGreatL8
import Derived.Test.YtkclokcenllhmaaGreatL5
import Derived.Test.YtkclokcenllhmaaGreatL7
import Derived.Test.YtkclokcenllhmaaGreatL1
import Derived.Test.YtkclokcenllhmaaGreatL3
set_option linter.unusedVariables false
set_option linter.unusedSimpArgs false
set_option maxRecDepth 100000
set_option maxHeartbeats 4000000
section
variable {a b:Int}{c k n:Nat}{W w w':Go.World}
namespace Kal
def spL (l:ai_):Spn:=(l.frm,l.fin)
theorem x3_ {d:List Ent} {R:List ai_} {N M:List Spn} (hp:R.Perm (linW d a b)) (hw:a<b->∀ e∈d,∃ D,b5_ e.s a b D) (hN:BusyTo d a b N) (hM:NS M) (hm:∀ t,SpM M t↔SpM (R.map spL) t∧a≤t∧t<b):M=N:=by
 refine NS.unique hM hN.1 fun t=>(hm t).trans ((and_congr_left fun ht=>?_).trans ((and_comm.trans and_assoc).trans (hN.2 t).symm));have hl:a<b:=oq_;constructor
 ·rintro ⟨s,hs,h1,h2⟩;obtain ⟨l,hl,rfl⟩:=List.mem_map.1 hs;obtain ⟨_,e,he,y,hy,hc,rfl⟩:=tn_ hw (hp.mem_iff.1 hl);exact ⟨e,he,y,hy,h1,h2⟩
 ·rintro ⟨e,he,y,hy,h1,h2⟩;refine ⟨spL (az_ e y),List.mem_map.2 ⟨_,hp.mem_iff.2 ?_,rfl⟩,h1,h2⟩;unfold linW;rw [if_pos hl];exact (fu_ (hw hl)).2 ⟨e,he,y,hy,⟨oq_,oq_⟩,rfl⟩
def cntL (R:List ai_) (i:Int) (k:Nat):Nat:=(R.take k).countP fun l=>decide (l.id=i)
theorem x5_ {R:List ai_} {i:Int}:cntL R i 0=0:=by unfold cntL;simp
theorem xb_ {R:List ai_} {i:Int}:cntL R i k≤k:=Nat.le_trans List.countP_le_length (List.length_take_le _ _)
theorem x4_ {R:List ai_} {i:Int} (hk:k<R.length):cntL R i (k+1)=cntL R i k+if (R.getD k default).id=i then 1 else 0:=by
 unfold cntL;rw [List.take_succ_eq_append_getElem hk,List.countP_append,a5_ hk];by_cases h:R[k].id=i <;> simp [h]
theorem x9_ {d:List Ent} {R:List ai_} {e:Ent} {D:List Inst} (hp:R.Perm (linW d a b)) (hd:AscD d) (he:e∈d) (h1:a<b->b5_ e.s a b D) (h0:¬ a<b->D=[]):cntL R e.id R.length=D.length:=by
 unfold cntL;rw [List.take_length,hp.countP_eq];unfold linW;by_cases hl:a<b
 ·rw [if_pos hl,x0_ hd he,(h1 hl).eq]
 ·rw [if_neg hl,h0 hl];rfl
theorem x6_ {d:List Ent} {R:List ai_} {e:Ent} {l:ai_} (hp:R.Perm (linW d a b)) (hw:a<b->∀ e∈d,∃ D,b5_ e.s a b D) (hd:AscD d) (he:e∈d) (hl:l∈R) (hi:l.id=e.id):l.kind=if e.firm then 2 else 1:=by
 obtain ⟨_,f,hf,y,_,_,rfl⟩:=tn_ hw (hp.mem_iff.1 hl);rw [<- hd.inj hf he hi];rfl
theorem x8_ {R:List ai_} (h:R.Pairwise fun x y=>¬ LtL y x) (hk:k+1<R.length):(R.getD k default).frm≤(R.getD (k+1) default).frm:=by
 have:=List.pairwise_iff_getElem.1 h k (k+1) oq_ hk oq_;rw [a5_ (show k<R.length by omega),a5_ hk];unfold LtL at this;omega
end Kal
namespace Go.Proofs.YtkclokcenllhmaaGreat
open Go.RowKit Go.Maps Kal
theorem wz_ {F:Nat->Prop} {a:Option Addr} {R:List ai_} (h:RowR W F (.slice a n c) R.length (R.flatMap menc)) (hk:k<R.length) :
  ∃ b o,a=some ⟨b,o,none⟩∧b<W.heap.size∧W.cell? ⟨b,o+k*3,none⟩=some (.int .i64 (R.getD k default).frm)∧W.cell? ⟨b,o+k*3+1,none⟩=some (.int .i64 (R.getD k default).fin)∧W.cell? ⟨b,o+k*3+2,none⟩=some (.int .i64 (R.getD k default).kind):=by
 obtain ⟨a',c',he,h1,h2,h3⟩:=h.is;injection he with e1 _ e2
 subst e1;subst e2;rcases h3 with h3|⟨b,o,rfl,hF,hl,hc⟩
 ·omega
 ·exact ⟨b,o,rfl,hl,hc (k*3+0) _ (a7_ x2_ default hk rfl),hc (k*3+1) _ (a7_ x2_ default hk rfl),hc (k*3+2) _ (a7_ x2_ default hk rfl)⟩
theorem xe_ {F:Nat->Prop} {a:Option Addr} {R:List ai_} (h:RowR W F (.slice a n c) R.length (R.flatMap denc)) (hk:k<R.length) :
  ∃ b o,a=some ⟨b,o,none⟩∧b<W.heap.size∧W.cell? ⟨b,o+k,none⟩=some (.int .i64 (R.getD k default).id):=by
 obtain ⟨a',c',he,h1,h2,h3⟩:=h.is;injection he with e1 _ e2
 subst e1;subst e2;rcases h3 with h3|⟨b,o,rfl,hF,hl,hc⟩
 ·omega
 ·have h4:=hc (k*1+0) _ (a7_ xa_ default hk rfl);rw [Nat.add_zero,Nat.mul_one] at h4;exact ⟨b,o,rfl,hl,h4⟩
def LsS (s:Str) (a b:Int) (v:Value):Prop:=∃ D:List Inst,(∃ p c,v=.slice p D.length c)∧D.length≤100∧(a<b->b5_ s a b D)∧(¬ a<b->D=[])
def LsV (s:Str) (a b:Int) (v:Value):Prop:=∃ lv,v=.tuple #[lv,.int .i64 0]∧LsS s a b lv
open Classical in
theorem xc_ {D N:List Spn} {R:List ai_} {d:List Ent} {e:Ending} (hw:WinB a b) (hD:D=R.map spL) (hp:R.Perm (linW d a b)) (hwn:a<b->∀ e∈d,∃ D,b5_ e.s a b D) (hN:BusyTo d a b N) (hf:D.any farS=false) (h:eb_ (fun x y=>x && y) D [(a,b)] w e w') :
  ∃ v,e=.returned (.tuple #[v,.int .i64 0])∧SpnL w' (fun k=>w.heap.size≤k) v N∧Below w.heap.size w w':=by
 have hf2:([(a,b)]:List Spn).any farS=false:=ii_ fun s hs=>by
  obtain rfl:=List.mem_singleton.1 hs;have h1:=hw.lo;have h2:=hw.hi;have h3:=hw.le;have h4:=hw.sz;dsimp only;omega
 rcases h with ⟨h,_⟩|⟨_,r,M,h3,h4,h5,_,h7,h8⟩
 ·rw [hf,hf2] at h;cases h
 ·have:M=N:=x3_ hp hwn hN h4 fun t=>(h5 t).trans (by
   rw [Bool.and_eq_true,decide_eq_true_eq,decide_eq_true_eq,hD];refine and_congr Iff.rfl ?_;constructor
   ·rintro ⟨s,hs,g1,g2⟩;obtain rfl:=List.mem_singleton.1 hs;exact ⟨g1,g2⟩
   ·rintro ⟨g1,g2⟩;exact ⟨(a,b),sq_,g1,g2⟩)
  subst this;exact ⟨r,h3,h7,h8⟩
theorem xd_ {s:Str} (h:MStr s) {y:Inst} (hy:IsI s y):y.fin≤y.frm+10080:=by
 rcases hy with ⟨c,hc,ho,_⟩|hy
 ·have:=h.val.len;rw [ho.2];unfold dd_;dsimp only;omega
 ·exact (h.val.ins hy).2.2.2
theorem x7_ {d:List Ent} {R:List ai_} (hM:is_ d) (hp:R.Perm (linW d a b)) (hw:a<b->∀ e∈d,∃ D,b5_ e.s a b D) (hW:WinB a b) (hb:b≤300000) {x:ai_} (hx:x∈R) :
  (-2251799813685248≤x.frm∧x.frm≤2251799813685248)∧(-2251799813685248≤x.fin∧x.fin≤2251799813685248):=by
 obtain ⟨_,e,he,y,hy,hc,rfl⟩:=tn_ hw (hp.mem_iff.1 hx);have h1:=(hM.ok e he).sm.ms.low hy;have h2:=xd_ (hM.ok e he).sm.ms hy;obtain ⟨h3,h4⟩:=hc;have h5:=hW.lo;show (_≤y.frm∧y.frm≤_)∧(_≤y.fin∧y.fin≤_);omega
theorem x1_ (lv:Value) (A:List RwV) (t n:Int) (w:World) (h:RwsR w lv A) (h1:-2147483648≤t) (h2:t≤2147483647) (h3:0≤n) (h4:n≤65535) :
  Calls Tryz.prog 6 #[lv,.int .i32 t,.int .u16 n] w fun e w'=>e=.returned (.bool true)∧Below w.heap.size w w':=by
 have HS:=hq_ (ez_ w);have HMD:=hq_ (fun W (hb:Below w.heap.size w W)=>fs_ lv A W (h.below hb));have HW:=hq_ (fun W=>hv_ t n W h1 h2 h3 h4);obtain ⟨iS,iS1,iS2,iS3,iS4⟩:=ob_;have HIS:=hq_ (And.intro iS1 (And.intro iS2 (And.intro iS3 iS4)));clear h iS1 iS2 iS3 iS4
 go_enter Tryz.func6,Tryz.ntmps6
 go_upto_region 4 with (first|(go_at_call 13;(with_reducible refine HS.out.mono ?_);rintro e w1 ⟨rfl,hb⟩;have HB1:=hq_ hb;clear hb)|(go_at_call 14;(with_reducible refine (HMD.out w1 HB1.out).mono ?_);rintro e w2 ⟨v0,L,rfl,hM,hD,hb⟩;obtain ⟨a0,c0,rfl⟩:=hD.form;have HM:=hq_ hM;have HD:=hq_ hD;have HB2:=hq_ (Et HB1.out hb);clear hM hD hb)|(go_at_call 15;(with_reducible refine (HW.out w2).mono ?_);rintro e w3 ⟨a,l,ha,hl,rfl,hb⟩;obtain ⟨b,hab⟩:∃ b,b=a+l:=⟨_,rfl⟩;rw [<- hab];have HAB:=hq_ (And.intro ha (And.intro hl hab));have HB3:=hq_ hb;clear ha hl hab hb))
 refine bf_ (F:=fun U=>(Bxx U w3.heap.size #[.int .i64 a,.int .i64 b] 28∧DiaL U (fun k=>w1.heap.size≤k) (.slice a0 L.length c0) L)∧Below w.heap.size w U) ⟨⟨Bxx.new w3 _ _,HD.out.ext (Ea HB3.out _)⟩,Et HB2.out (Ea HB3.out _)⟩ ?_;rintro w4 ⟨⟨hbx,hd4⟩,hb4⟩;have HWB:Hid (WinB a b):=hq_ (by obtain ⟨⟨g1,g2⟩,⟨g3,g4⟩,g5⟩:=HAB.out;exact ⟨oq_,oq_,oq_,oq_⟩);have hsm:=HM.out.sm;have HLL:Hid (L.length≤4):=hq_ (by have:=HM.out.len;rwa [List.length_map] at this);have HAG:=hq_ (ol_ _ (.slice a0 L.length c0) L a b w4 hd4 hsm (by have:=HLL.out;omega) HWB.out);have HBU:=hq_ (fun W (hb:Below w4.heap.size w4 W)=>fk_ _ (.slice a0 L.length c0) L false a b W (hd4.ext hb) hsm HWB.out);have HD4:=hq_ hd4;have HB4:=hq_ hb4;have HBX:=hq_ hbx;have x0:=(hbx.cells 0).1;have x1:=(hbx.cells 1).1;clear hbx hd4 hb4 hsm HMD HW HS;go_wp2_with (first|(go_at_call 18;(with_reducible refine HAG.out.mono ?_);rintro e w5 ⟨v1,v2,R,rfl,hp,hsd,hl,hr1,hr2,hwn,hb⟩;obtain ⟨ma,mc,rfl,-⟩:=hr1.is;obtain ⟨na,nc,rfl,-⟩:=hr2.is;have HP:=hq_ hp;have HSD:=hq_ hsd;have HRL:=hq_ hl;have HR1:=hq_ hr1;have HR2:=hq_ hr2;have HWN:=hq_ hwn;have HB5:=hq_ hb;have x0:=Ext.cell hb x0;have x1:=Ext.cell hb x1;clear hp hsd hl hr1 hr2 hwn hb)|(go_at_call 16;(with_reducible refine (HBU.out w5 HB5.out).mono ?_);rintro e w6 ⟨v6,N,rfl,hN,hl6,hs6,hb⟩;obtain ⟨p6,q6,rfl⟩:=hs6.form;have HN:=hq_ hN;have HNS:=hq_ hs6;have HW6:=hq_ hb;have HB6:=hq_ (Et HB5.out hb);clear hN hl6 hs6 hb x0 x1))
 obtain ⟨d,hd0⟩:∃ d,d=L.map EntV.ent:=⟨_,rfl⟩;have hNd:=HN.out;rw [jh_,<- hd0] at hNd;have hpd:=HP.out;have hwd:=HWN.out;rw [<- hd0] at hpd hwd;have HND:=hq_ hNd;have HPD:=hq_ hpd;have HWD:=hq_ hwd;have HD0:=hq_ hd0;have HSP:Hid (∀ x∈R,(-2251799813685248≤x.frm∧x.frm≤2251799813685248)∧(-2251799813685248≤x.fin∧x.fin≤2251799813685248)):=hq_ fun x hx=>x7_ (by rw [hd0];exact HM.out) hpd hwd HWB.out (by obtain ⟨⟨g1,g2⟩,⟨g3,g4⟩,g5⟩:=HAB.out;omega) hx;clear hd0 hNd hpd hwd;go_loopw [15,16] (fun sv iv wr=>∃ k:Nat,k≤R.length∧iv=.int .i64 k∧Hid (OwnS w6.heap.size (fun _=>False) wr sv ((R.take k).map spL))∧Hid (Below w6.heap.size w6 wr)) (fun _ iv _=>R.length-(intOf iv).toNat)
 case atStart=>exact ⟨0,oq_,rfl,hq_ ⟨⟨sq_,.inr ⟨w6.heap.size,0,#[],rfl,oq_,by simpa using World.alloc_heap_new w6 _,sq_,by simp [maxLen],sq_,sq_⟩⟩,sq_,fun _ _ h=>h,sq_⟩,hq_ (Ea (Er _) _)⟩
 case round=>
  obtain ⟨k,hk,rfl,HO,HB⟩:=hrel;have hwz:=HB.out.size;obtain ⟨O,hO⟩:∃ O,O=(R.take k).map spL:=⟨_,rfl⟩;have hOl:O.length=k:=by rw [hO,List.length_map,List.length_take,Nat.min_eq_left hk]
  rw [<- hO] at HO;have HOO:=hq_ hO;have HOL:=hq_ hOl;clear hO hOl;obtain ⟨oa,oc,rfl,-⟩:=HO.out.form;have hRl:R.length≤4096:=HRL.out;by_cases hlt:k<R.length
  ·have hlI:(k:Int)<R.length:=oq_;have HLT:=hq_ hlt;have HB5w:=hq_ (Et HW6.out HB.out);obtain ⟨b8,f8,rfl,hb8,e0,e1,-⟩:=wz_ (HR1.out.keep (W':=wr) (a3_.below HB5w.out) HB5w.out.size) hlt;obtain ⟨x,hx⟩:∃ x,x=R.getD k default:=⟨_,rfl⟩;rw [<- hx] at e0 e1;have HXM:=hq_ (HSP.out x (by rw [hx];exact a8_ hlt));have hmo:=eh_ (f:=spL) (d:=default) hlt;rw [<- hx] at hmo;have HMO:=hq_ hmo;have HXX:=hq_ hx;clear hx hmo hlt;go_upto_region 13 with (at_builtin;(refine ac_ rq_ _ _ _ _ rq_ iS _ 2 16 Tryz.underlying31 HIS.out.1 HIS.out.2.1 HIS.out.2.2.1 HIS.out.2.2.2 rfl dq_ dq_ w6.heap.size (.slice oa O.length oc) O.length (O.flatMap senc) (senc (x.frm,x.fin)) rfl rq_ (HO.out.below an_ (Ea (Er wr) _)).row wr.heap.size 1 rq_ (am_ (Bxx.at sq_)) in_ (by have:=HOL.out;omega) tq_ ?_);intro v' w9 hown9 hgrow9 hloc9;obtain ⟨na9,nc9,rfl⟩:=a9_ hown9)
   have HB9:Hid (Below w6.heap.size w6 w9):=hq_ ((Ea HB.out _).grown hgrow9 tq_ fun q e=>(HO.out.row.lt q e).1);have HO9:=hq_ (OwnG.push (y:=(x.frm,x.fin)) an_ (HO.out.below an_ (Ea (Er wr) _)) ⟨⟨by have:=HXM.out;dsimp only;omega,by have:=HXM.out;dsimp only;omega⟩,⟨by have:=HXM.out;dsimp only;omega,by have:=HXM.out;dsimp only;omega⟩⟩ hown9 hgrow9 hloc9 (fun h=>h) (by have:=HOL.out;omega));clear hown9 hgrow9 hloc9 e0 e1;rcases Nat.eq_zero_or_pos k with hk0|hpos
   ·have HK0:=hq_ hk0;clear hk0;have hkI:decide ((0:Int)<k)=false:=decide_eq_false (by have:=HK0.out;omega);have hkN:decide (0<k)=false:=decide_eq_false (by have:=HK0.out;omega);have hkM:¬ 0<k:=by have:=HK0.out;omega
    have hkO:¬ (0:Int)<k:=by have:=HK0.out;omega
    go_quiet (fail)
    go_wp2_with fail
    go_roundw
    case rel=>exact ⟨k+1,by have:=HLT.out;omega,by go_num,hq_ (by rw [HMO.out,<- HOO.out];exact HO9.out.below an_ (En (Er _) _)),hq_ (En HB9.out _)⟩
    case measure=>have:=HLT.out;simp [intOf];omega
   ·obtain ⟨j,rfl⟩:∃ j,k=j+1:=⟨k-1,oq_⟩;have HB59:=hq_ (Et HW6.out HB9.out);obtain ⟨b7,f7,hbo,-,p0,-,-⟩:=wz_ (HR1.out.keep (W':=w9) (a3_.below HB59.out) HB59.out.size) (show j<R.length by omega);injection hbo with hbo
    injection hbo with q1 q2
    subst q1 q2;obtain ⟨b7,f7,hbo,-,p1,-,-⟩:=wz_ (HR1.out.keep (W':=w9) (a3_.below HB59.out) HB59.out.size) HLT.out;injection hbo with hbo
    injection hbo with q1 q2
    subst q1 q2;have hge:=x8_ HSD.out HLT.out;rw [<- HXX.out] at p1 hge;obtain ⟨xj,hxj⟩:∃ y,y=(R.getD j default).frm:=⟨_,rfl⟩;rw [<- hxj] at p0 hge;have hgt:¬ xj > x.frm:=oq_;have hji:((j:Int)+1)-1=j:=oq_;clear hge hxj hpos;go_quiet (fail)
    go_wp2_with fail
    go_roundw
    case rel=>exact ⟨j+1+1,by have:=HLT.out;omega,by go_num,hq_ (by rw [HMO.out,<- HOO.out];exact HO9.out.below an_ (En (Er _) _)),hq_ (En HB9.out _)⟩
    case measure=>have:=HLT.out;simp [intOf];omega
  ·obtain rfl:k=R.length:=oq_;have hkI:¬ (R.length:Int)<R.length:=oq_;have hOe:O=R.map spL:=by rw [HOO.out,List.take_length]
   have hfar:O.any farS=false:=ii_ fun s hs=>by
    rw [hOe] at hs;obtain ⟨l,hl,rfl⟩:=List.mem_map.1 hs;exact HSP.out l hl
   have hbx:=HBX.out.below (Et HB6.out HB.out);have z0:=(hbx.cells 0).1;have z1:=(hbx.cells 1).1;have hab1:=HAB.out.1;have hmt:=(s6_ _ _ (.slice oa O.length oc) (.slice (some ⟨wr.heap.size,0,none⟩) 1 1) O [(a,b)] (wr.alloc (.cells #[.int .i64 a,.int .i64 b] 28)) (HO.out.spnL.ext (Ea (Er wr) _)) (SpnL.lit (l:=[(a,b)]) (Bxx.new wr #[.int .i64 a,.int .i64 b] 28) rfl sq_ (List.forall_mem_cons.2 ⟨⟨⟨by have:=HWB.out.lo;dsimp only;omega,by have:=HWB.out.hi;have:=HWB.out.le;dsimp only;omega⟩,⟨by have:=HWB.out.lo;have:=HWB.out.le;dsimp only;omega,by have:=HWB.out.hi;dsimp only;omega⟩⟩,sq_⟩)) (by have:=HOL.out;simp;omega)).mono fun e w' h=>xc_ HWB.out hOe HPD.out HWD.out HND.out hfar h;have HMT:=hq_ hmt;clear hOe hfar hbx hmt hab1;go_wp2_with (go_at_call 30;(with_reducible refine HMT.out.mono ?_);rintro e w7 ⟨v7,rfl,hs7,hb7⟩;obtain ⟨p7,q7,rfl⟩:=hs7.form;have HS7:=hq_ hs7;have HB7:=hq_ (Et HB.out (Et (Ea (Er wr) _) hb7));clear hs7 hb7 z0 z1)
   obtain ⟨wk,hwk⟩:∃ x,x=wr:=⟨_,rfl⟩;subst hwk;go_loopw [19,20,21,22,23] (fun iv _ _ _ _ wr=>∃ i:Nat,i≤L.length∧iv=.int .i64 i∧Hid (Below w7.heap.size w7 wr)) (fun iv _ _ _ _ _=>L.length-(intOf iv).toNat)
   case atStart=>exact ⟨0,oq_,rfl,hq_ (Er _)⟩
   case round=>
    obtain ⟨i,hi,rfl,HBi⟩:=hrel;have hLb:L.length≤4:=HLL.out;by_cases hlt:i<L.length
    ·have hlI:(i:Int)<L.length:=oq_;have HLI:=hq_ (show i+1≤L.length by omega);have HBW:=hq_ (Et HB6.out (Et HB7.out HBi.out));obtain ⟨b8,o8,x,y1,d1,y2,d2,rfl,hbb,hx,hxm,hxr,hcv,hev,e0,e1,e2,e3,e4,e5⟩:=(HD4.out.ext HBW.out).get hlt;have hls:=fun W (hb:Below wr.heap.size wr W)=>mu_ _ _ _ x.s a b W (hxr.1.ext hb) (HM.out.ok x.ent (List.mem_map.2 ⟨x,hxm,rfl⟩)).sm HWB.out;rw [hcv,hev] at hls;have HLS:=hq_ hls;have hxd:x.ent∈d:=by rw [HD0.out];exact List.mem_map.2 ⟨x,hxm,rfl⟩
     have hasc:AscD d:=by rw [HD0.out];exact HM.out.asc
     have HCA:Hid (∀ D:List Inst,(a<b->b5_ x.s a b D)->(¬ a<b->D=[])->cntL R x.id R.length=D.length):=hq_ fun D g1 g0=>x9_ HPD.out hasc hxd g1 g0;have HKL:Hid (∀ y:ai_,y∈R->y.id=x.id->y.kind=if x.firm then 2 else 1):=hq_ fun y hy he=>x6_ HPD.out HWD.out hasc hxd hy he;have hbx:=HBX.out.below HBW.out;have z0:=(hbx.cells 0).1;have z1:=(hbx.cells 1).1;clear hx hxm hxr hcv hev hls hxd hasc hbx hlt;obtain ⟨wi,hwi⟩:∃ x,x=wr:=⟨_,rfl⟩;have HI:=HBi;go_upto_region 19 with fail
     refine bj_ (w0:=wr) [0,1,2,3,4,5,6,7,8,9,10] [11] [103,104,105,106,107,108,109,102,110,111,20] [.slice (some ⟨b8,o8,none⟩) L.length c0,.int .i64 i,.pointer (some ⟨b8,o8+i*6,none⟩),.pointer (some ⟨b8,o8+i*6+3,none⟩),.agg #[.slice y1 x.s.cls.length d1,.int .i64 x.s.len,.slice y2 x.s.ext.length d2],.agg #[.int .i64 a,.int .i64 b],undef,undef,undef,.int .i64 0,undef] [[],[],[0,1],[2],[3],[],[4,5],[],[],[],[]] [[],[],[],[],[],[],[],[6],[7],[7],[8]] [6,7,8,10] (fun i v lo hi W=>match i with|6=>LsV x.s a b (v 6)|7=>LsV x.s a b (v 7)|8=>LsS x.s a b (v 8)|10=>LsS x.s a b (v 10)|_=>True) (.a e3 (.a e4 (.a e5 (.a z0 (.a z1 (.b)))))) ?steps19 ?fin19 (stab:=?stab19)
     case stab19=>
      refine ⟨?_,?_,?_,?_,trivial⟩
      ·intro v lo hi W W' h hb;exact h
      ·intro v lo hi W W' h hb;exact h
      ·intro v lo hi W W' h hb;exact h
      ·intro v lo hi W W' h hb;exact h
     case steps19=>
      repeat' first|exact .n|refine .c ?_ ?_|fail
      all_goals try exact stw
      ·rintro v lo hi W hb ⟨g0,g1,g2,g3,g4,gB⟩ _;refine .inl ⟨rfl,fun K hK=>?_⟩;simp only [ov,vat,Nat.reduceBEq,cond_true,cond_false];go_wp2_with (go_at_call 31;(with_reducible refine (HLS.out W gB).mono ?_);rintro e w9 ⟨lv,D,rfl,hb9,hx9,hl9,h19,h09,-⟩)
       exact acx (hK (.tuple #[lv,.int .i64 0]) w9 hb9 ⟨lv,rfl,D,hx9.form,hl9,h19,fun h=>h09 oq_⟩) (by simp [ov,vat,upd])
      ·rintro v lo hi W hb ⟨g0,g1,g2,g3,g4,gB⟩ ⟨⟨la6,lb6,D6⟩,_⟩;refine .inl ⟨rfl,fun K hK=>?_⟩;simp only [ov,vat,Nat.reduceBEq,cond_true,cond_false]
       (try dsimp only at D6)
       obtain ⟨lv,e6,h6⟩:=D6
       (try simp only [e6])
       go_wp2_with fail
       exact acx (hK (.tuple #[lv,.int .i64 0]) W (Below.refl _ _) ⟨lv,rfl,h6⟩) (by simp [ov,vat,upd,e6])
      ·rintro v lo hi W hb ⟨g0,g1,g2,g3,g4,gB⟩ ⟨⟨la7,lb7,D7⟩,_⟩;refine .inl ⟨rfl,fun K hK=>?_⟩;simp only [ov,vat,Nat.reduceBEq,cond_true,cond_false]
       (try dsimp only at D7)
       obtain ⟨lv,e6,h6⟩:=D7
       (try simp only [e6])
       go_wp2_with fail
       exact acx (hK lv W (Below.refl _ _) h6) (by simp [ov,vat,upd,e6])
      ·rintro v lo hi W hb ⟨g0,g1,g2,g3,g4,gB⟩ ⟨⟨la7,lb7,D7⟩,_⟩;refine .inl ⟨rfl,fun K hK=>?_⟩;simp only [ov,vat,Nat.reduceBEq,cond_true,cond_false]
       (try dsimp only at D7)
       obtain ⟨lv,e6,h6⟩:=D7
       (try simp only [e6])
       go_wp2_with fail
       exact acx (hK W (Below.refl _ _)) (by simp [ov,vat,upd,e6])
      ·rintro v lo hi W hb ⟨g0,g1,g2,g3,g4,gB⟩ ⟨⟨la8,lb8,D8⟩,_⟩;refine .inl ⟨rfl,fun K hK=>?_⟩;simp only [ov,vat,Nat.reduceBEq,cond_true,cond_false]
       (try dsimp only at D8)
       go_wp2_with fail
       exact acx (hK (v 8) W (Below.refl _ _) D8) (by simp [ov,vat,upd])
     case fin19=>
      rintro v lo hi W2 hb2 ⟨g0,g1,g2,g3,g4,gB⟩ hf hap;show wpList _ _ _ [_] _ _;obtain ⟨-,-,-,D,⟨da,dc,hdv⟩,hDl,hD1,hD0⟩:=hf 10 rfl;have e9:v 9=.int .i64 0:=(hf 9 rfl).2.2.2
      (try dsimp only)
      rw [e9,hdv];have HDC:=hq_ (HCA.out D hD1 hD0);have HB2i:=hq_ (Et HI.out hb2);have HW2:=hq_ hb2;have h0:=Ext.cell hb2 e0;have h1:=Ext.cell hb2 e1;clear e9 hf hap hdv hb2 g0 g1 g2 g3 g4 gB hD1 hD0 e0 e1 e2 e3 e4 e5 z0 z1;generalize v 0=yv0,v 1=yv1,v 2=yv2,v 3=yv3,v 4=yv4,v 5=yv5,v 6=yv6,v 7=yv7,v 8=yv8;obtain ⟨w2,hw2⟩:∃ x,x=W2:=⟨_,rfl⟩;have HE0:=hq_ h0;have HE1:=hq_ h1;clear h0 h1;go_wp2_with fail
      go_loopw [22,23] (fun cv kv wr=>∃ k:Nat,k≤R.length∧cv=.int .i64 (cntL R x.id k)∧kv=.int .i64 k∧Hid (Below W2.heap.size W2 wr)) (fun _ kv _=>R.length-(intOf kv).toNat)
      case atStart=>exact ⟨0,oq_,by rw [x5_];rfl,rfl,hq_ (Er _)⟩
      case round=>
       obtain ⟨k,hk,rfl,rfl,HBk⟩:=hrel;have hcl:cntL R x.id k≤k:=xb_;by_cases hlt:k<R.length
       ·have hlI:(k:Int)<R.length:=oq_;have HLK:=hq_ (show k+1≤R.length by omega);have HBR:=hq_ (Et HW6.out (Et HB7.out (Et HB2i.out HBk.out)));obtain ⟨b7,f7,rfl,hb7,p0,p1,p2⟩:=wz_ (HR1.out.keep (W':=wr) (a3_.below HBR.out) HBR.out.size) hlt;obtain ⟨b6,f6,rfl,hb6,q0⟩:=xe_ (HR2.out.keep (W':=wr) (a3_.below HBR.out) HBR.out.size) hlt;have hst:=x4_ (i:=x.id) hlt;have hym:R.getD k default∈R:=a8_ hlt;obtain ⟨y,hy⟩:∃ y,y=R.getD k default:=⟨_,rfl⟩;rw [<- hy] at p0 p1 p2 q0 hst hym;have r0:=Ext.cell HBk.out HE0.out;have r1:=Ext.cell HBk.out HE1.out;by_cases hid:y.id=x.id
        ·have hkd:=HKL.out y hym hid;rw [if_pos hid] at hst;have HST:=hq_ hst;have qa:(y.id == x.id)=true:=by simp [hid]
         obtain ⟨fm,hfm⟩:∃ c,x.firm=c:=⟨_,rfl⟩;rw [hfm] at hkd r1;have HID:=hq_ hid;clear hst hym hy hid hfm hlt p0 p1;cases fm;all_goals
          simp at hkd;rw [hkd] at p2;clear hkd;go_upto_region 24 with fail
          go_quiet (fail)
          go_upto_region 26 with fail
          go_quiet (fail)
          go_wp2_with fail
          go_roundw
         all_goals first
          | exact ⟨k+1,HLK.out,by rw [HST.out];rfl,by go_num,hq_ (by have hb:=HBk.out;exact xE)⟩
          | (have:=HLK.out;simp [intOf];omega)
        ·rw [if_neg hid] at hst;have HST:=hq_ hst;have qa:(y.id == x.id)=false:=by simp [hid]
         clear hst hym hy hid hlt p0 p1 p2;go_upto_region 24 with fail
         go_quiet (fail)
         go_wp2_with fail
         go_roundw
         case rel=>exact ⟨k+1,HLK.out,by rw [HST.out];rfl,by go_num,hq_ (by have hb:=HBk.out;exact xE)⟩
         case measure=>have:=HLK.out;simp [intOf];omega
       ·obtain rfl:k=R.length:=oq_;have hkI:¬ (R.length:Int)<R.length:=oq_;rw [HDC.out];go_wp2_with fail
        go_roundw
        case rel=>exact ⟨i+1,HLI.out,by go_num,hq_ (Et HB2i.out HBk.out)⟩
        case measure=>have:=HLI.out;simp [intOf];omega
    ·obtain rfl:i=L.length:=oq_;have hiI:¬ (L.length:Int)<L.length:=oq_;have hsm:=hy_ _ _ (.slice p7 N.length q7) (.slice p6 N.length q6) N N wr (HS7.out.ext HBi.out) (HNS.out.ext (Et HB7.out HBi.out));have HSM:=hq_ hsm;clear hsm;go_wp2_with (go_at_call 22;(with_reducible refine HSM.out.mono ?_);rintro e w8 ⟨rfl,hb8⟩;have HB8:=hq_ hb8;clear hb8)
     go_ret;exact ⟨sq_,Et HB4.out (Et HB6.out (Et HB7.out (Et HBi.out HB8.out)))⟩
end Go.Proofs.YtkclokcenllhmaaGreat
namespace Go.Proofs.YtkclokcenllhmaaGreat
open Go.ChangeShapes Go.WideShapes Go.ChangeAt Go.RowKit Go.Joins Kal
theorem DiaryAgendas_lifted (os:Os) (started:os.Started) (H:Type) (enc:TypeId × Value->H) :
  ReturnsInHanded {} Tryz.checked os 6 .any (Rows.diaryAgendasSpec.pre6 enc Tryz.prog Tryz.f6 Rows.diaryAgendasRow.domain false) (Rows.diaryAgendasSpec.post enc Tryz.prog Tryz.f6 false true false false):=by
 refine returnsInHanded_of_change (C:=Tryz.checked) js_ started (by kernel_rfl) Tryz.func6
  (ChangeSpec.witness6 (enc:=enc) (C:=Tryz.checked) false ⟨#[],#[.slice none 0 0,.int .i32 0,.int .u16 0],[]⟩ 8 (by kernel_rfl) (by kernel_rfl) (by kernel_rfl) (by kernel_rfl)) ?_
 intro W base args ds gs before hval0 hW hcnd _;have hval:∀ (j:Nat) t v,Tryz.f6.params[j]? = some t->args[j]? = some v->Value.okWide Tryz.prog W .any base t v:=hval0;have hW':=hW;obtain ⟨p,q,hA0,hV,rfl,hfz,hnd⟩:=hW;have hA:DataW.TrodAll enc Tryz.prog W 0 (fun _=>true) true Tryz.f6.params.toList args.toList ds p:=hA0;rw [Tryz.params6] at hA hval;obtain ⟨v0,vs0,d0,ds0,p0,q0,hargs,rfl,rfl,h0,r0⟩:=trodAll_cons hA;obtain ⟨v1,vs1,d1,ds1,p1,q1,rfl,rfl,rfl,h1,r1⟩:=trodAll_cons r0;obtain ⟨v2,vs2,d2,ds2,p2,q2,rfl,rfl,rfl,h2,r2⟩:=trodAll_cons r1;obtain ⟨rfl,rfl,rfl⟩:=trodAll_nil r2;obtain rfl:args=#[v0,v1,v2]:=by cases args;simp_all
 obtain ⟨rfl,rfl⟩:=trodVars_none hV;have k0:=h0;have lt0:∀ x∈p0,x.block<W.heap.size:=by obtain ⟨m,hm⟩:=k0;exact DataW.trod_lt m _ _ _ hm
 obtain ⟨L0,w0⟩:=ex_ (hval 0 22 v0 rfl rfl) h0;obtain ⟨m1,rfl,rfl,rfl,w1⟩:=open_int Tryz.underlying21 (hval 1 21 v1 rfl rfl) h1;have b1:=bounds_i32 w1;obtain ⟨m2,rfl,rfl,rfl,w2⟩:=open_int Tryz.underlying30 (hval 2 30 v2 rfl rfl) h2;have b2:=bounds_u16 w2;clear hA0 hval0;refine (x1_ v0 L0 m1 m2 W w0 b1.1 b1.2 b2.1 b2.2).mono fun e W' ⟨he,bel⟩=>?_;subst he;exact ⟨_,rfl,_,_,_,[],_,[],hW',trodAll_mk1 (shut_bool Tryz.underlying4 _),(trodAll_cons_mk (Below.trod eg_ (by kernel_rfl) (of_decide_eq_true (by kernel_rfl)) k0 bel lt0) (trodAll_cons_mk (shut_int Tryz.underlying21 w1) (trodAll_cons_mk (shut_int Tryz.underlying30 w2) trodAll_mk0))),rfl,bel.frame _,fun h=>by cases h⟩
theorem jn2 {a b:Bool} (h:a=true) (g:b=true):(a && b)=true:=by rw [h,g];rfl
theorem DiaryAgendas_said:Rows.DiaryAgendasSaid:=
 OpenClaim.holds_of_wide 6 Tryz.f6 rfl rfl rfl rfl rfl rfl rfl ⟨rfl,rfl,rfl,rfl,rfl⟩ rfl rfl rfl rfl rfl (by as_aux_lemma=>kernel_rfl) Tryz.func6 (jn2 (jn2 (jn2 (jn2 (jn2 (jn2 (jn2 (jn2 (jn2 (jn2 (jn2 (jn2 (jn2 (jn2 (jn2 (jn2 (jn2 (jn2 (jn2 (jn2 (jn2 (jn2 (jn2 (jn2 (jn2 (jn2 (jn2 (jn2 (jn2 (jn2 (jn2 (by as_aux_lemma=>kernel_rfl) (by as_aux_lemma=>kernel_rfl)) (by as_aux_lemma=>kernel_rfl)) (by as_aux_lemma=>kernel_rfl)) (by as_aux_lemma=>kernel_rfl)) (by as_aux_lemma=>kernel_rfl)) (by as_aux_lemma=>kernel_rfl)) (by as_aux_lemma=>kernel_rfl)) (by as_aux_lemma=>kernel_rfl)) (by as_aux_lemma=>kernel_rfl)) (by as_aux_lemma=>kernel_rfl)) (by as_aux_lemma=>kernel_rfl)) (by as_aux_lemma=>kernel_rfl)) (by as_aux_lemma=>kernel_rfl)) (by as_aux_lemma=>kernel_rfl)) (by as_aux_lemma=>kernel_rfl)) (by as_aux_lemma=>kernel_rfl)) (by as_aux_lemma=>kernel_rfl)) (by as_aux_lemma=>kernel_rfl)) (by as_aux_lemma=>kernel_rfl)) (by as_aux_lemma=>kernel_rfl)) (by as_aux_lemma=>kernel_rfl)) (by as_aux_lemma=>kernel_rfl)) (by as_aux_lemma=>kernel_rfl)) (by as_aux_lemma=>kernel_rfl)) (by as_aux_lemma=>kernel_rfl)) (by as_aux_lemma=>kernel_rfl)) (by as_aux_lemma=>kernel_rfl)) (by as_aux_lemma=>kernel_rfl)) (by as_aux_lemma=>kernel_rfl)) (by as_aux_lemma=>kernel_rfl)) (by as_aux_lemma=>kernel_rfl))
  (of_decide_eq_true (by as_aux_lemma=>kernel_rfl)) (by unfold Func.isWrapper;first|(rw [if_pos (by decide +kernel)];kernel_rfl)|(rw [if_neg (by decide +kernel)];exact ⟨rfl,rfl⟩))
  (fun os started H enc _=>DiaryAgendas_lifted os started H enc)
#print axioms DiaryAgendas_said
end Go.Proofs.YtkclokcenllhmaaGreat
end
