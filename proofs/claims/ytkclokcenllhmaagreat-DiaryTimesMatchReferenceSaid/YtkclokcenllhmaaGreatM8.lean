/- Part 8 of the proof of the laws. -/
import Derived.Test.YtkclokcenllhmaaGreatM2
import Derived.Test.YtkclokcenllhmaaGreatM7
import Derived.Test.YtkclokcenllhmaaGreatM4
import Derived.Test.YtkclokcenllhmaaGreatM6
import Derived.Test.YtkclokcenllhmaaGreatM5
import Derived.Test.YtkclokcenllhmaaGreatM3
import Derived.Deep.Cut
import Derived.Deep.CutBlock
import Derived.Deep.DeepCutAuto
set_option linter.unusedVariables false
set_option linter.unusedSimpArgs false
set_option maxRecDepth 100000
set_option maxHeartbeats 4000000
section
variable {a b f x y:Int}{l:List Int}{xs:List Go.Value}{B c g i j k n:Nat}{e:Go.TypeId}{lv v:Go.Value}{A C W W' w w':Go.World}
namespace Go.Proofs.YtkclokcenllhmaaGreat
open Go.RowKit Go.Maps Kal
theorem w9_ (F:Nat->Prop) (v:Value) (t:List Per) (n:Int) (w:World) (ht:ag_ w F v t) (hn:InI n) :
  Calls Tryz.prog 199 #[v,.int .i64 n] w fun e w'=>e=.returned (.bool (inB t n))∧Below w.heap.size w w':=by
 obtain ⟨L,hLt,hL⟩:=ht;obtain ⟨a1,c1,rfl,_⟩:=hL.row;have HL:=hq_ hL;have hl1:=hL.len;have htl:t.length=L.length:=by rw [<- hLt,List.length_map]
 have HT:=hq_ htl;have HLT:=hq_ hLt;have HN:=hq_ hn;clear hL htl hLt hn
 go_enter Tryz.func199,Tryz.ntmps199
 go_wp2_with fail
 go_loopw [5] (fun i wr=>∃ k:Nat,k≤L.length∧i=.int .i64 k∧Hid ((t.take k).all (fun p=>hasB p n)=true)∧Hid (Below w.heap.size w wr)) (fun i _=>L.length-(intOf i).toNat)
 case atStart=>exact ⟨0,oq_,rfl,hq_ rfl,hq_ xE⟩
 case round=>
  obtain ⟨k,hk,rfl,HPRE,HBL⟩:=hrel;by_cases hlt:k<L.length
  ·have hlI:(k:Int)<L.length:=oq_;obtain ⟨b1,o1,x,rfl,hx,hxp,hb1,e0,e1,e2,e3⟩:=(HL.out.keep (a3_.below HBL.out) HBL.out.size).get hlt;rw [HLT.out] at hxp;have HSU:Hid ((t.take (k+1)).all (fun p=>hasB p n)=((t.take k).all (fun p=>hasB p n) && hasB x.p n)):=hq_ (by rw [hxp];exact fr_ (l:=t) (k:=k) (d:=default) (p:=fun p=>hasB p n) (show k<t.length by have:=HT.out;omega));have HF:Hid (hasB x.p n=false->inB t n=false):=hq_ fun h=>all_false (l:=t) (k:=k) (d:=default) (show k<t.length by have:=HT.out;omega) (by rw [<- hxp];exact h);obtain ⟨xh,xc,xp⟩:=x;obtain ⟨ax1,nx1,cx1,ax2,nx2,cx2,rfl,rfl⟩:=hx.form;have HR:=fun W (h:Below wr.heap.size wr W)=>tp_ (.slice ax1 nx1 cx1) (.slice ax2 nx2 cx2) xp n W (hx.is.ext h) hx.fr hx.pe HN.out;change ∀ W,_->Calls _ _ #[.agg #[.slice ax1 nx1 cx1,.int .i64 xp.frm,.int .i64 xp.period,.slice ax2 nx2 cx2],.int .i64 n] W (fun e w'=>e=.returned (.bool (hasB xp n))∧_) at HR;dsimp only at e0 e1 e2 e3 HSU HF;clear hxp hx;generalize hasB xp n=bb at *;have HR:=hq_ HR;have HBY:=HBL.out;cases bb
   ·go_wp2_with (go_at_call 238;(with_reducible refine (HR.out _ (Er _)).mono ?_);rintro e w1 ⟨rfl,hb2⟩)
    go_ret;exact ⟨a1_ (by first|exact HF.out rfl|exact HF.out trivial|exact HF.out:inB t n=false).symm,Et HBL.out hb2⟩
   ·go_wp2_with (go_at_call 238;(with_reducible refine (HR.out _ (Er _)).mono ?_);rintro e w1 ⟨rfl,hb2⟩)
    go_roundw
    case rel=>exact ⟨k+1,oq_,by go_num,hq_ (by rw [HSU.out,HPRE.out];rfl),hq_ (Et HBL.out hb2)⟩
    case measure=>simp [intOf];omega
  ·obtain rfl:k=L.length:=oq_;go_wp2_with fail
   go_ret;refine ⟨a1_ (Eq.symm ?_),HBL.out⟩;have h1:=HT.out;have h2:=HPRE.out;rw [List.take_of_length_le oq_] at h2;exact h2
theorem ht_ (F:Nat->Prop) (v:Value) (m:List (List Per)) (w:World) (hm:MixR w F v m) :
  Calls Tryz.prog 141 #[.agg #[v]] w fun e w'=>e=.returned (.bool (ak_ m))∧Below w.heap.size w w':=by
 obtain ⟨L,hLm,hL⟩:=hm;obtain ⟨a,c,rfl,_⟩:=hL.row;have HL:=hq_ hL;have hlen:=hL.len;have hml:m.length=L.length:=by rw [<- hLm];exact List.length_map _
 have HLM:=hq_ hLm;have HM:=hq_ hml;clear hL hLm hml
 go_enter Tryz.func141,Tryz.ntmps141
 by_cases hgt:64<L.length
 ·have hgI:64<(L.length:Int):=oq_;go_wp2_with fail
  go_ret;refine ⟨a1_ ?_,xE⟩;have:=HM.out;unfold ak_;rw [decide_eq_false oq_];rfl
 have hgI:¬ 64<(L.length:Int):=oq_;go_wp2_with fail
 go_loopw [3,4,5] (fun i _ _ wr=>∃ k:Nat,k≤L.length∧i=.int .i64 k∧Hid ((m.take k).all az_=true)∧Hid (Below w.heap.size w wr)∧Hid (Bxx wr w.heap.size #[.slice a L.length c] 128)) (fun i _ _ _=>L.length-(intOf i).toNat)
 case atStart=>exact ⟨0,oq_,rfl,hq_ rfl,hq_ xE,hq_ xB⟩
 case round=>
  obtain ⟨k,hk,rfl,HPRE,HBL,HBX⟩:=hrel;have hc0:=(Bxx.cells HBX.out 0).1;by_cases hlt:k<L.length
  ·have hlI:(k:Int)<L.length:=oq_;obtain ⟨b8,f8,tv,rfl,hcell,hT⟩:=(HL.out.keep (a3_.below HBL.out) HBL.out.size).get hlt;rw [HLM.out] at hT;have HSU:Hid ((m.take (k+1)).all az_=((m.take k).all az_ && az_ (m.getD k []))):=hq_ (fr_ (l:=m) (k:=k) (d:=[]) (p:=az_) (show k<m.length by have:=HM.out;omega));have HF:Hid (az_ (m.getD k [])=false->ak_ m=false):=hq_ fun h=>by unfold ak_;rw [all_false (l:=m) (k:=k) (d:=[]) (show k<m.length by have:=HM.out;omega) h,Bool.and_false]
   generalize m.getD k []=t at *;obtain ⟨T,hTt,hTL⟩:=hT;obtain ⟨a2,c2,rfl,_⟩:=hTL.row;have htl:t.length=T.length:=by rw [<- hTt,List.length_map]
   have ht44:=hTL.len;have HTL:=hq_ hTL;have HTT:=hq_ hTt;have HTN:=hq_ htl;clear hTL hTt htl;by_cases h1:T.length<1
   ·have h1I:(T.length:Int)<1:=oq_;go_wp2_with fail
    go_ret;refine ⟨a1_ (HF.out ?_).symm,HBL.out⟩;have:=HTN.out;unfold az_;rw [decide_eq_false oq_];rfl
   ·by_cases h2:4<T.length
    ·have h1I:¬ (T.length:Int)<1:=oq_;have h2I:4<(T.length:Int):=oq_;go_wp2_with fail
     go_ret;refine ⟨a1_ (HF.out ?_).symm,HBL.out⟩;have:=HTN.out;unfold az_;rw [decide_eq_false (p:=t.length≤4) oq_,Bool.and_false];rfl
    ·have h1I:¬ (T.length:Int)<1:=oq_;have h2I:¬ 4<(T.length:Int):=oq_;have HV4:Hid (az_ t=t.all validB):=hq_ (by have:=HTN.out;unfold az_;rw [decide_eq_true oq_,decide_eq_true oq_];rfl);obtain ⟨wo,hwo⟩:∃ wo,wo=wr:=⟨_,rfl⟩;have HBO:=HBL;rw [<- hwo] at HBO HTL HBX;have HWO:=hq_ hwo;clear hwo;go_wp2_with fail
     go_loopw [5] (fun i wq=>∃ j:Nat,j≤T.length∧i=.int .i64 j∧Hid ((t.take j).all validB=true)∧Hid (Below wo.heap.size wo wq)) (fun i _=>T.length-(intOf i).toNat)
     case atStart=>exact ⟨0,oq_,rfl,hq_ rfl,hq_ (by rw [<- HWO.out];exact Er _)⟩
     case round=>
      obtain ⟨j,hj,rfl,HPR2,HB2⟩:=hrel;by_cases hlt2:j<T.length
      ·have hlI2:(j:Int)<T.length:=oq_;obtain ⟨b1,o1,x,rfl,hx,hxp,hb1,e0,e1,e2,e3⟩:=(HTL.out.keep (a3_.below HB2.out) HB2.out.size).get hlt2;rw [HTT.out] at hxp;have HS2:Hid ((t.take (j+1)).all validB=((t.take j).all validB && validB x.p)):=hq_ (by rw [hxp];exact fr_ (l:=t) (k:=j) (d:=default) (p:=validB) (show j<t.length by have:=HTN.out;omega));have HF2:Hid (validB x.p=false->t.all validB=false):=hq_ fun h=>all_false (l:=t) (k:=j) (d:=default) (show j<t.length by have:=HTN.out;omega) (by rw [<- hxp];exact h);obtain ⟨xh,xc,xp⟩:=x;obtain ⟨ax1,nx1,cx1,ax2,nx2,cx2,rfl,rfl⟩:=hx.form;have HR:=fun W (h:Below wr.heap.size wr W)=>dd_ (.slice ax1 nx1 cx1) (.slice ax2 nx2 cx2) xp W (hx.is.ext h) hx.fr hx.pe;change ∀ W,_->Calls _ _ #[.agg #[.slice ax1 nx1 cx1,.int .i64 xp.frm,.int .i64 xp.period,.slice ax2 nx2 cx2]] W (fun e w'=>e=.returned (.bool (validB xp))∧_) at HR;dsimp only at e0 e1 e2 e3 HS2 HF2;clear hxp hx;generalize validB xp=bb at *;have HR:=hq_ HR;cases bb
       ·go_wp2_with (go_at_call 197;(with_reducible refine (HR.out _ (Er _)).mono ?_);rintro e w1 ⟨rfl,hb2⟩)
        go_ret;exact ⟨a1_ (HF.out (HV4.out.trans (by first|exact HF2.out rfl|exact HF2.out trivial|exact HF2.out))).symm,Et HBO.out (Et HB2.out hb2)⟩
       ·go_wp2_with (go_at_call 197;(with_reducible refine (HR.out _ (Er _)).mono ?_);rintro e w1 ⟨rfl,hb2⟩)
        go_roundw
        case rel=>exact ⟨j+1,oq_,by go_num,hq_ (by rw [HS2.out,HPR2.out];rfl),hq_ (Et HB2.out hb2)⟩
        case measure=>simp [intOf];omega
      ·obtain rfl:j=T.length:=oq_;go_wp2_with fail
       go_roundw
       case rel=>
        refine ⟨k+1,oq_,by go_num,hq_ ?_,hq_ (Et HBO.out HB2.out),hq_ (Bxx.below HBX.out HB2.out)⟩;have h1:=HTN.out;have h2:=HPR2.out;rw [List.take_of_length_le oq_] at h2;rw [HSU.out,HPRE.out,HV4.out,h2];rfl
       case measure=>simp [intOf];omega
  ·obtain rfl:k=L.length:=oq_;go_wp2_with fail
   go_ret;refine ⟨a1_ (Eq.symm ?_),HBL.out⟩;have h1:=HM.out;have h2:=HPRE.out;rw [List.take_of_length_le oq_] at h2;unfold ak_;rw [decide_eq_true oq_,h2];rfl
theorem qy_ (F:Nat->Prop) (v:Value) (m:List (List Per)) (n:Int) (w:World) (hm:MixR w F v m) (hn:InI n) :
  Calls Tryz.prog 147 #[.agg #[v],.int .i64 n] w fun e w'=>e=.returned (.bool (hasM m n))∧Below w.heap.size w w':=by
 have HV:=fun W (h:Below w.heap.size w W)=>ht_ F v m W (hm.ext h);obtain ⟨L,hLm,hL⟩:=hm;obtain ⟨a,c,rfl,_⟩:=hL.row;have HL:=hq_ hL;have hlen:=hL.len;have hml:m.length=L.length:=by rw [<- hLm];exact List.length_map _
 have HLM:=hq_ hLm;have HM:=hq_ hml;have HN:=hq_ hn;clear hL hLm hml hn;cases hq:ak_ m with
 | false=>
  rw [hq] at HV;have HQ:=hq_ hq;clear hq
  go_enter Tryz.func147,Tryz.ntmps147
  go_wp2_with (go_at_call 141;(with_reducible refine (HV _ xE).mono ?_);rintro e w1 ⟨rfl,hb1⟩)
  go_ret;refine ⟨a1_ ?_,xE⟩;unfold hasM;rw [HQ.out];rfl
 | true=>
  rw [hq] at HV;have HQ:Hid (hasM m n=m.any fun t=>inB t n):=hq_ (by unfold hasM;rw [hq];rfl);clear hq;have HV:=hq_ HV
  go_enter Tryz.func147,Tryz.ntmps147
  go_wp2_with (go_at_call 141;(with_reducible refine (HV.out _ xE).mono ?_);rintro e w1 ⟨rfl,hb1⟩;have b0:Bxx w1 w.heap.size #[.slice a L.length c] 128:=Bxx.below xB hb1;have x0:=(Bxx.cells b0 0).1;have B0:=hq_ b0;have hW1:Below w.heap.size w w1:=xE;clear b0)
  go_loopw [5] (fun i wr=>∃ k:Nat,k≤L.length∧i=.int .i64 k∧Hid ((m.take k).any (fun t=>inB t n)=false)∧Hid (Below w1.heap.size w1 wr)) (fun i _=>L.length-(intOf i).toNat)
  case atStart=>exact ⟨0,oq_,rfl,hq_ rfl,hq_ (Er _)⟩
  case round=>
   obtain ⟨k,hk,rfl,HPRE,HBL⟩:=hrel;have hc0:=(Bxx.cells (Bxx.below B0.out HBL.out) 0).1;by_cases hlt:k<L.length
   ·have hlI:(k:Int)<L.length:=oq_;have hbb:=Et hW1 HBL.out;obtain ⟨b8,f8,tv,rfl,hcell,hT⟩:=(HL.out.keep (a3_.below hbb) hbb.size).get hlt;rw [HLM.out] at hT;have htk:k<m.length:=by have:=HM.out;omega
    have HSU:Hid ((m.take (k+1)).any (fun t=>inB t n)=((m.take k).any (fun t=>inB t n) || inB (m.getD k []) n)):=hq_ (by rw [List.take_succ_eq_append_getElem htk,List.any_append,List.getD_eq_getElem?_getD,List.getElem?_eq_getElem htk];simp);have HF:Hid (inB (m.getD k []) n=true->(m.any fun t=>inB t n)=true):=hq_ fun h=>List.any_eq_true.2 ⟨_,ac_ (d:=[]) htk,h⟩;have HR:=hq_ (fun W (h:Below wr.heap.size wr W)=>w9_ F tv (m.getD k []) n W (hT.ext h) HN.out);obtain ⟨a2,c2,rfl,ht44⟩:=hT.form;clear hT htk hbb;generalize m.getD k []=t at *;generalize inB t n=bb at *;have HBY:=HBL.out;cases bb
    ·go_wp2_with (go_at_call 199;(with_reducible refine (HR.out _ (Er _)).mono ?_);rintro e w2 ⟨rfl,hb2⟩)
     go_roundw
     case rel=>exact ⟨k+1,oq_,by go_num,hq_ (by rw [HSU.out,HPRE.out];rfl),hq_ (Et HBL.out hb2)⟩
     case measure=>simp [intOf];omega
    ·go_wp2_with (go_at_call 199;(with_reducible refine (HR.out _ (Er _)).mono ?_);rintro e w2 ⟨rfl,hb2⟩)
     go_ret;exact ⟨a1_ (HQ.out.trans (by first|exact HF.out rfl|exact HF.out trivial|exact HF.out)).symm,Et hW1 (Et HBL.out hb2)⟩
   ·obtain rfl:k=L.length:=oq_;go_wp2_with fail
    go_ret;refine ⟨a1_ (Eq.symm ?_),Et hW1 HBL.out⟩;have h1:=HM.out;have h2:=HPRE.out;rw [List.take_of_length_le oq_] at h2;exact HQ.out.trans h2
theorem eq_ (x lo hi:Int) (w:World) (h1:lo≤x) (h2:x≤hi) :
  Calls Tryz.prog 140 #[.int .i64 x,.int .i64 lo,.int .i64 hi] w fun e w'=>e=.returned (.bool true)∧w=w':=by
 go_enter Tryz.func140,Tryz.ntmps140
 go_wp2;go_ret;exact ⟨rfl,rfl⟩
theorem v6_ (y:Inst) (w:World) (h:br_ y) :
  Calls Tryz.prog 142 #[ival y] w fun e w'=>e=.returned (.bool true)∧Below w.heap.size w w':=by
 obtain ⟨yd,yf,yt⟩:=y;obtain ⟨⟨h1,h2⟩,⟨h3,h4⟩,h5,h6⟩:=h;dsimp only at h1 h2 h3 h4 h5 h6;have HA:=fun W=>eq_ yd 0 1099511627776 W h1 h2;have HB:=fun W=>eq_ yf (-2251799813685248) 1583296743997439 W h3 h4;have HC:=fun W=>eq_ yt (yf+1) (yf+10080) W h5 h6;show Calls _ _ #[.agg #[.int .i64 yd,.int .i64 yf,.int .i64 yt]] _ _
 go_enter Tryz.func142,Tryz.ntmps142
 go_wp2_with (go_at_call 140;first|((with_reducible refine (HA _).mono ?_);rintro e w1 ⟨rfl,rfl⟩)|((with_reducible refine (HB _).mono ?_);rintro e w1 ⟨rfl,rfl⟩)|((with_reducible refine (HC _).mono ?_);rintro e w1 ⟨rfl,rfl⟩))
 go_ret;exact ⟨rfl,xE⟩
theorem i4_ (F:Nat->Prop) (cv ev:Value) (s:Str) (w:World) (h:StrR w F cv ev s) (hv:bi_ ak_ s) :
  Calls Tryz.prog 89 #[.agg #[cv,.int .i64 s.len,ev]] w fun e w'=>e=.returned (.bool true)∧Below w.heap.size w w':=by
 obtain ⟨L,h⟩:=h;have hln:s.cls.length=L.length:=by rw [<- h.eq];exact List.length_map _
 obtain ⟨ac,cc,rfl⟩:=h.cl.form;obtain ⟨ae,ce,rfl⟩:=h.ex.form;have hl1:L.length≤64:=by have:=hv.ncls;omega
 have hl2:=hv.next;obtain ⟨hi1,hi2⟩:=hv.len;have HS:=hq_ h;have HV:=hq_ hv;have HLN:=hq_ hln;have HIL:=hq_ (fun W=>eq_ s.len 1 10080 W hi1 hi2);have hb0:Bxx (w.alloc (.cells #[.slice ac L.length cc,.int .i64 s.len,.slice ae s.ext.length ce] 55)) w.heap.size #[.slice ac L.length cc,.int .i64 s.len,.slice ae s.ext.length ce] 55:=Bxx.at rfl;have HBX:=hq_ hb0;have n2I:¬ (64:Int)<L.length:=oq_;have n4I:¬ (4096:Int)<s.ext.length:=oq_;have n5I:decide ((4096:Int)<(s.ext.length:Int))=false:=decide_eq_false n4I;clear h hv hln hb0
 go_enter Tryz.func89,Tryz.ntmps89
 go_wp2_with (go_at_call 140;(with_reducible refine (HIL.out _).mono ?_);rintro e w1 ⟨rfl,rfl⟩)
 clear n5I;go_loopw [3,4] (fun i _ wr=>∃ k:Nat,k≤L.length∧i=.int .i64 k∧Hid (Below w.heap.size w wr)∧Hid (Bxx wr w.heap.size #[.slice ac L.length cc,.int .i64 s.len,.slice ae s.ext.length ce] 55)) (fun i _ _=>L.length-(intOf i).toNat)
 case atStart=>exact ⟨0,oq_,rfl,hq_ xE,HBX⟩
 case round=>
  obtain ⟨k,hk,rfl,HB,HBB⟩:=hrel;have q0:=(HBB.out.cells 0).1;by_cases hlt:k<L.length
  ·have hlI:(k:Int)<L.length:=oq_;obtain ⟨b,o,a1,c1,m,mi,rfl,hbb,e0,e1,hm,him,hcl⟩:=HS.out.cl.get hlt;have hkc:k<s.cls.length:=by rw [HLN.out];exact hlt
   rw [HS.out.eq] at hcl;obtain ⟨gv,⟨gm1,gm2⟩,gr⟩:=HV.out.cls k hkc;rw [hcl] at gv gm1 gm2;have HVA:=fun W (hb:Below w.heap.size w W)=>ht_ F (.slice a1 m.length c1) m W (hm.ext hb);have gv:ak_ m=true:=gv;rw [gv] at HVA;have HVA:=hq_ HVA;have HIA:=hq_ (fun W=>eq_ mi (-4320) 4320 W gm1 gm2);have HPM:Hid (∀ j,k=j+1->∃ pm,w.cell? ⟨b,o+j*2+1,none⟩=some (.int .i64 pm)∧pm<mi):=hq_ fun j hj=>by
    obtain ⟨b',o',_,_,m',pm,hbo,_,_,g1,_,_,g2⟩:=HS.out.cl.get (show j<L.length by omega);injection hbo with hbo
    injection hbo with q1 q2
    subst q1 q2;have g3:=gr j hj;rw [<- HS.out.eq,g2,HS.out.eq,hcl] at g3;exact ⟨pm,g1,g3⟩
   have e0':=Ext.cell HB.out e0;have e1':=Ext.cell HB.out e1;clear e0 e1 hm him hcl hkc gv gm1 gm2 gr;go_upto_region 7 with (fail)
   refine bh_ (F:=fun U=>Bxx U wr.heap.size #[.slice a1 m.length c1,.int .i64 mi] 130∧Below wr.heap.size wr U) ⟨Bxx.new _ _ _,Ea (Er _) _⟩ ?_;rintro W2 ⟨hcb,hb2⟩;have x0:=(hcb.cells 0).1;have x1:=(hcb.cells 1).1;have hbu:Below w.heap.size w W2:=Et HB.out hb2;have s0:=((HBB.out.below hb2).cells 0).1;have HB2:=hq_ hb2;clear hcb hb2 e0' e1';cases k with
   | zero=>
    rw [show (((0:Nat):Int))=0 from rfl];refine a9_ (w0:=W2) [0,1,2,3,4,5,6,7,8,9,10,11,12,13,14,15,16,17,18,19,20,21,22,23,24,25] [] [34,35,36,37,38,39,40,41,42,43,44,45,46,47,48,49,50,51,52,53,54,55,56,57,58,59] [.pointer (some ⟨wr.heap.size,0,none⟩),.agg #[.slice a1 m.length c1],.bool true,.bool false,.bool false,.pointer (some ⟨wr.heap.size,1,none⟩),.int .i64 mi,.bool true,.bool false,.bool false,.bool false,.int .i64 0,.bool false,.bool false,undef,undef,undef,undef,undef,undef,undef,undef,undef,undef,.bool false,.bool false] [[],[0],[1],[2],[3],[4],[4,5],[4,6],[4,7],[4,8],[9],[10],[10,11],[10,12],[13],[13,14],[13],[13,16],[13,15,17],[13,18],[13,19],[13],[13,21],[13,20,22],[10,13,23],[10,24]] (.a x0 (.z x1)) ?steps7a ?fin7a
    case steps7a=>
     repeat' first|exact .n|refine .c ?_ ?_|fail
     all_goals try exact stp
     all_goals
      rintro v W hb ⟨g0,g1⟩;refine .inl ⟨rfl,fun K hK=>?_⟩;simp only [ov,vat,Nat.reduceBEq,cond_true,cond_false];go_wp2_with (first|(go_at_call 141;(with_reducible refine (HVA.out _ (Et hbu hb)).mono ?_);rintro e w9 ⟨rfl,hb9⟩)|(go_at_call 140;(with_reducible refine (HIA.out _).mono ?_);rintro e w9 ⟨rfl,h9⟩;have hb9:Below W.heap.size W w9:=h9 ▸ Below.refl _ _;clear h9))
      exact acx (hK w9 hb9) (by simp [ov,vat])
    case fin7a=>
     rintro W3 hb3 hg;show wpList _ _ _ [] _ _;simp only [vat];have HB3:=hq_ (Et HB2.out hb3);clear hg hb3 x0 x1 s0 hbu;go_wp2_with fail
     go_roundw
     case rel=>exact ⟨0+1,oq_,by go_num,hq_ (Et HB.out HB3.out),hq_ (HBB.out.below HB3.out)⟩
     case measure=>simp [intOf];omega
   | succ j=>
    obtain ⟨pm,hp1,hpm⟩:=HPM.out j rfl;have p1:=Ext.cell hbu hp1;have hpI:¬ mi≤pm:=oq_;have hjI:(0:Int)<(j:Int)+1:=oq_;clear hp1;rw [show (((j+1:Nat):Int))=(j:Int)+1 by omega];refine a9_ (w0:=W2) [0,1,2,3,4,5,6,7,8,9,10,11,12,13,14,15,16,17,18,19,20,21,22,23,24,25] [] [34,35,36,37,38,39,40,41,42,43,44,45,46,47,48,49,50,51,52,53,54,55,56,57,58,59] [.pointer (some ⟨wr.heap.size,0,none⟩),.agg #[.slice a1 m.length c1],.bool true,.bool false,.bool false,.pointer (some ⟨wr.heap.size,1,none⟩),.int .i64 mi,.bool true,.bool false,.bool false,.bool false,.int .i64 ((j:Int)+1),.bool true,.bool true,.pointer (some ⟨w.heap.size,0,none⟩),.slice (some ⟨b,o,none⟩) L.length cc,.int .i64 ((j:Int)+1),.int .i64 (j:Int),.pointer (some ⟨b,o+j*2,none⟩),.pointer (some ⟨b,o+j*2+1,none⟩),.int .i64 pm,.pointer (some ⟨wr.heap.size,1,none⟩),.int .i64 mi,.bool false,.bool false,.bool false] [[],[0],[1],[2],[3],[4],[4,5],[4,6],[4,7],[4,8],[9],[10],[10,11],[10,12],[13],[13,14],[13],[13,16],[13,15,17],[13,18],[13,19],[13],[13,21],[13,20,22],[10,13,23],[10,24]] (.a x0 (.a x1 (.a s0 (.z p1)))) ?steps7b ?fin7b
    case steps7b=>
     repeat' first|exact .n|refine .c ?_ ?_|fail
     all_goals try exact stp
     all_goals
      rintro v W hb ⟨g0,g1,g2,g3⟩;refine .inl ⟨rfl,fun K hK=>?_⟩;simp only [ov,vat,Nat.reduceBEq,cond_true,cond_false];go_wp2_with (first|(go_at_call 141;(with_reducible refine (HVA.out _ (Et hbu hb)).mono ?_);rintro e w9 ⟨rfl,hb9⟩)|(go_at_call 140;(with_reducible refine (HIA.out _).mono ?_);rintro e w9 ⟨rfl,h9⟩;have hb9:Below W.heap.size W w9:=h9 ▸ Below.refl _ _;clear h9))
      exact acx (hK w9 hb9) (by simp [ov,vat])
    case fin7b=>
     rintro W3 hb3 hg;show wpList _ _ _ [] _ _;simp only [vat];have HB3:=hq_ (Et HB2.out hb3);clear hg hb3 x0 x1 s0 p1 hbu;go_wp2_with fail
     go_roundw
     case rel=>exact ⟨j+1+1,oq_,by go_num,hq_ (Et HB.out HB3.out),hq_ (HBB.out.below HB3.out)⟩
     case measure=>simp [intOf];omega
  ·obtain rfl:k=L.length:=oq_;have s2:=(HBB.out.cells 2).1;go_wp2_with fail
   go_loopw [5] (fun i wr=>∃ k:Nat,k≤s.ext.length∧i=.int .i64 k∧Hid (Below w.heap.size w wr)∧Hid (Bxx wr w.heap.size #[.slice ac L.length cc,.int .i64 s.len,.slice ae s.ext.length ce] 55)) (fun i _=>s.ext.length-(intOf i).toNat)
   case atStart=>exact ⟨0,oq_,rfl,HB,HBB⟩
   case round=>
    obtain ⟨k,hk,rfl,HB,HBB⟩:=hrel;have s2:=(HBB.out.cells 2).1;by_cases hlt:k<s.ext.length
    ·have hlI:(k:Int)<s.ext.length:=oq_;obtain ⟨b,o,y,rfl,hbl,hy,hyi,y0,y1,y2⟩:=(HS.out.ex.ext HB.out).get hlt;obtain ⟨gg,gr⟩:=HV.out.ext k hlt;rw [hy] at gg;have HGX:=hq_ (fun W=>v6_ y W gg);have HYL:=hq_ gr;have HY:=hq_ hy;clear gg gr hy hyi;go_upto_region 12 with (fail)
     cases k with
     | zero=>
      rw [show (((0:Nat):Int))=0 from rfl];simp only [Nat.zero_mul,Nat.add_zero] at y0 y1 y2;have HLS:=hq_ (fun W=>h6_ y y W);refine a9_ (w0:=wr) [0,1,2,3,4,5,6,7,8,9,10,11,12,13,14,15,16,17,18,19,20,21,22,23,24,25] [] [67,68,69,70,71,72,73,74,75,76,77,78,79,80,81,82,83,84,85,86,87,88,89,90,91,92] [.pointer (some ⟨w.heap.size,2,none⟩),.slice (some ⟨b,o,none⟩) s.ext.length ce,.int .i64 0,.pointer (some ⟨b,o,none⟩),.agg #[.int .i64 y.day,.int .i64 y.frm,.int .i64 y.fin],.bool true,.bool false,.bool false,.int .i64 0,.bool false,.bool false,undef,undef,undef,undef,undef,undef,undef,undef,undef,undef,undef,undef,undef,.bool false,.bool false] [[],[0],[],[1,2],[3],[4],[5],[6],[7],[7,8],[7,9],[10],[10,11],[10],[10,13],[10,12,14],[10,15],[10],[10,17],[10],[10,18,19],[10,20],[10,16,21],[10,22],[7,10,23],[7,24]] (.a s2 (.a y0 (.a y1 (.z y2)))) ?steps12a ?fin12a
      case steps12a=>
       repeat' first|exact .n|refine .c ?_ ?_|fail
       all_goals try exact stp
       all_goals
        rintro v W hb ⟨g0,g1,g2,g3⟩;refine .inl ⟨rfl,fun K hK=>?_⟩;simp only [ov,vat,Nat.reduceBEq,cond_true,cond_false];go_wp2_with (first|(go_at_call 142;(with_reducible refine (HGX.out _).mono ?_);rintro e w9 ⟨rfl,hb9⟩)|(go_at_call 143;(with_reducible refine (HLS.out _).mono ?_);rintro e w9 ⟨rfl,hb9⟩))
        exact acx (hK w9 hb9) (by simp [ov,vat])
      case fin12a=>
       rintro W3 hb3 hg;show wpList _ _ _ [] _ _;simp only [vat];have HB3:=hq_ hb3;clear hg hb3 y0 y1 y2 s2;go_wp2_with fail
       go_roundw
       case rel=>exact ⟨0+1,oq_,by go_num,hq_ (Et HB.out HB3.out),hq_ (HBB.out.below HB3.out)⟩
       case measure=>simp [intOf];omega
     | succ j=>
      obtain ⟨b',o',z,hbo,_,hz,_,z0,z1,z2⟩:=(HS.out.ex.ext HB.out).get (show j<s.ext.length by omega);injection hbo with hbo
      injection hbo with i1 i2
      subst i1 i2;have hlz:=HYL.out j rfl;rw [HY.out,hz] at hlz;have HLS:=fun W=>h6_ z y W;rw [decide_eq_true hlz] at HLS;have HLS:=hq_ HLS;have hjI:(0:Int)<(j:Int)+1:=oq_;clear hlz hz;rw [show (((j+1:Nat):Int))=(j:Int)+1 by omega];refine a9_ (w0:=wr) [0,1,2,3,4,5,6,7,8,9,10,11,12,13,14,15,16,17,18,19,20,21,22,23,24,25] [] [67,68,69,70,71,72,73,74,75,76,77,78,79,80,81,82,83,84,85,86,87,88,89,90,91,92] [.pointer (some ⟨w.heap.size,2,none⟩),.slice (some ⟨b,o,none⟩) s.ext.length ce,.int .i64 ((j:Int)+1),.pointer (some ⟨b,o+(j+1)*3,none⟩),.agg #[.int .i64 y.day,.int .i64 y.frm,.int .i64 y.fin],.bool true,.bool false,.bool false,.int .i64 ((j:Int)+1),.bool true,.bool true,.pointer (some ⟨w.heap.size,2,none⟩),.slice (some ⟨b,o,none⟩) s.ext.length ce,.int .i64 ((j:Int)+1),.int .i64 (j:Int),.pointer (some ⟨b,o+j*3,none⟩),.agg #[.int .i64 z.day,.int .i64 z.frm,.int .i64 z.fin],.pointer (some ⟨w.heap.size,2,none⟩),.slice (some ⟨b,o,none⟩) s.ext.length ce,.int .i64 ((j:Int)+1),.pointer (some ⟨b,o+(j+1)*3,none⟩),.agg #[.int .i64 y.day,.int .i64 y.frm,.int .i64 y.fin],.bool true,.bool false,.bool false,.bool false] [[],[0],[],[1,2],[3],[4],[5],[6],[7],[7,8],[7,9],[10],[10,11],[10],[10,13],[10,12,14],[10,15],[10],[10,17],[10],[10,18,19],[10,20],[10,16,21],[10,22],[7,10,23],[7,24]] (.a s2 (.a y0 (.a y1 (.a y2 (.a z0 (.a z1 (.z z2))))))) ?steps12b ?fin12b
      case steps12b=>
       repeat' first|exact .n|refine .c ?_ ?_|fail
       all_goals try exact stp
       all_goals
        rintro v W hb ⟨g0,g1,g2,g3,g4,g5,g6⟩;refine .inl ⟨rfl,fun K hK=>?_⟩;simp only [ov,vat,Nat.reduceBEq,cond_true,cond_false];go_wp2_with (first|(go_at_call 142;(with_reducible refine (HGX.out _).mono ?_);rintro e w9 ⟨rfl,hb9⟩)|(go_at_call 143;(with_reducible refine (HLS.out _).mono ?_);rintro e w9 ⟨rfl,hb9⟩))
        exact acx (hK w9 hb9) (by simp [ov,vat])
      case fin12b=>
       rintro W3 hb3 hg;show wpList _ _ _ [] _ _;simp only [vat];have HB3:=hq_ hb3;clear hg hb3 y0 y1 y2 z0 z1 z2 s2;go_wp2_with fail
       go_roundw
       case rel=>exact ⟨j+1+1,oq_,by go_num,hq_ (Et HB.out HB3.out),hq_ (HBB.out.below HB3.out)⟩
       case measure=>simp [intOf];omega
    ·obtain rfl:k=s.ext.length:=oq_;go_wp2_with fail
     go_ret;exact ⟨rfl,HB.out⟩
theorem js_ (F:Nat->Prop) (x:EntV) (w:World) (h:REnt w F x) (hg:e9_ ak_ x.ent) :
  Calls Tryz.prog 43 #[x.val] w fun e w'=>e=.returned (.bool true)∧Below w.heap.size w w':=by
 have HV:=fun W (hb:Below w.heap.size w W)=>i4_ F x.cv x.ev x.s W (h.1.ext hb) hg.s;obtain ⟨a1,c1,a2,c2,hcv,hev⟩:=h.1.form;obtain ⟨g1,g2⟩:=hg.id;obtain ⟨g3,g4⟩:=hg.rank;obtain ⟨id,fm,rk,cv,ev,s⟩:=x;dsimp only at hcv hev HV;subst hcv;subst hev;change 1≤id at g1;change id≤1099511627776 at g2;change 0≤rk at g3;change rk≤100 at g4;dsimp only [EntV.val];have HV:=hq_ HV;clear h hg
 go_enter Tryz.func43,Tryz.ntmps43
 go_wp2_with (go_at_call 89;(with_reducible refine (HV.out _ xE).mono ?_);rintro e w1 ⟨rfl,hb1⟩)
 go_ret;exact ⟨rfl,xE⟩
theorem f8_ (F:Nat->Prop) (v:Value) (L:List EntV) (w:World) (h:DiaL w F v L) (hd:SmD (L.map EntV.ent)) :
  Calls Tryz.prog 42 #[v] w fun e w'=>e=.returned (.bool true)∧Below w.heap.size w w':=by
 obtain ⟨a,c,rfl⟩:=h.form;have hll:L.length≤1000:=by have:=hd.len;rwa [List.length_map] at this
 have n1I:¬ (4096:Int)<L.length:=oq_;have HD:=hq_ h;have HSD:=hq_ hd;clear h hd
 go_enter Tryz.func42,Tryz.ntmps42
 go_wp2_with fail
 go_loopw [3] (fun i wr=>∃ k:Nat,k≤L.length∧i=.int .i64 k∧Hid (Below w.heap.size w wr)) (fun i _=>L.length-(intOf i).toNat)
 case atStart=>exact ⟨0,oq_,rfl,hq_ (Below.refl _ _)⟩
 case round=>
  obtain ⟨k,hk,rfl,HB⟩:=hrel;by_cases hlt:k<L.length
  ·have hlI:(k:Int)<L.length:=oq_;have HLT:=hq_ (show k+1≤L.length by omega);obtain ⟨b,o,x,x1,d1,x2,d2,rfl,hbb,hx,hxm,hxr,hcv,hev,e0,e1,e2,e3,e4,e5⟩:=(HD.out.ext HB.out).get hlt;have HPR:=fun W (hb:Below wr.heap.size wr W)=>js_ F x W (hxr.ext hb) (HSD.out.good x.ent (List.mem_map.2 ⟨x,hxm,rfl⟩)).1;rw [EntV.val,hcv,hev] at HPR;have HPR:=hq_ HPR;have HX:=hq_ hx;clear hx hxm hxr hcv hev;go_upto_region 6 with (fail)
   cases k with
   | zero=>
    rw [show (((0:Nat):Int))=0 from rfl];simp only [Nat.zero_mul,Nat.add_zero] at e0 e1 e2 e3 e4 e5;refine a9_ (w0:=wr) [0,1,2,3,4,5,6,7,8,9,10,11,12,13,14,15,16,17,18,19,20,21,22,23] [] [13,14,15,16,17,18,19,20,21,22,23,24,25,26,27,28,29,30,31,32,33,34,35,36] [.slice (some ⟨b,o,none⟩) L.length c,.int .i64 0,.pointer (some ⟨b,o,none⟩),.agg #[.int .i64 x.id,.bool x.firm,.int .i64 x.rank,.slice x1 x.s.cls.length d1,.int .i64 x.s.len,.slice x2 x.s.ext.length d2],.bool true,.bool false,.bool false,.int .i64 0,.bool false,.bool false,undef,undef,undef,undef,undef,undef,undef,undef,undef,undef,undef,undef,.bool false,.bool false] [[],[],[0,1],[2],[3],[4],[5],[6],[6,7],[6,8],[9],[9],[9,11],[9,10,12],[9,13],[9,14],[9],[9],[9,16,17],[9,18],[9,19],[9,15,20],[6,9,21],[6,22]] (.a e0 (.a e1 (.a e2 (.a e3 (.a e4 (.a e5 (.b))))))) ?steps6a ?fin6a
    case steps6a=>
     repeat' first|exact .n|refine .c ?_ ?_|fail
     all_goals try exact stp
     all_goals
      rintro v W hb ⟨g0,g1,g2,g3,g4,g5,g6⟩;refine .inl ⟨rfl,fun K hK=>?_⟩;simp only [ov,vat,Nat.reduceBEq,cond_true,cond_false];go_wp2_with (go_at_call 43;(with_reducible refine (HPR.out _ g6).mono ?_);rintro e w9 ⟨rfl,hb9⟩)
      exact acx (hK w9 hb9) (by simp [ov,vat])
    case fin6a=>
     rintro W3 hb3 hg;show wpList _ _ _ [] _ _;simp only [vat];have HB3:=hq_ (Et HB.out hb3);clear hg hb3 e0 e1 e2 e3 e4 e5;go_wp2_with fail
     go_roundw
     case rel=>exact ⟨0+1,HLT.out,by go_num,HB3⟩
     case measure=>simp [intOf];omega
   | succ j=>
    obtain ⟨b',o',z,z1,y1,z2,y2,hbo,-,hz,-,-,-,-,p0,-⟩:=(HD.out.ext HB.out).get (show j<L.length by omega);injection hbo with hbo
    injection hbo with q1 q2
    subst q1;subst q2;have hzx:z.id<x.id:=by
     have hj1:j<(L.map EntV.ent).length:=by rw [List.length_map];omega
     have hj2:j+1<(L.map EntV.ent).length:=by rw [List.length_map];omega
     have:=List.pairwise_iff_getElem.1 HSD.out.asc j (j+1) hj1 hj2 oq_;rw [<- a6_ (d:=default) hj1,<- a6_ (d:=default) hj2,ch_,ch_,hz,HX.out] at this;exact this
    have hzI:¬ x.id≤z.id:=oq_;have hjI:(0:Int)<(j:Int)+1:=oq_;clear hz hzx;rw [show (((j+1:Nat):Int))=(j:Int)+1 by omega];refine a9_ (w0:=wr) [0,1,2,3,4,5,6,7,8,9,10,11,12,13,14,15,16,17,18,19,20,21,22,23] [] [13,14,15,16,17,18,19,20,21,22,23,24,25,26,27,28,29,30,31,32,33,34,35,36] [.slice (some ⟨b,o,none⟩) L.length c,.int .i64 ((j:Int)+1),.pointer (some ⟨b,o+(j+1)*6,none⟩),.agg #[.int .i64 x.id,.bool x.firm,.int .i64 x.rank,.slice x1 x.s.cls.length d1,.int .i64 x.s.len,.slice x2 x.s.ext.length d2],.bool true,.bool false,.bool false,.int .i64 ((j:Int)+1),.bool true,.bool true,.slice (some ⟨b,o,none⟩) L.length c,.int .i64 ((j:Int)+1),.int .i64 (j:Int),.pointer (some ⟨b,o+j*6,none⟩),.pointer (some ⟨b,o+j*6,none⟩),.int .i64 z.id,.slice (some ⟨b,o,none⟩) L.length c,.int .i64 ((j:Int)+1),.pointer (some ⟨b,o+(j+1)*6,none⟩),.pointer (some ⟨b,o+(j+1)*6,none⟩),.int .i64 x.id,.bool false,.bool false,.bool false] [[],[],[0,1],[2],[3],[4],[5],[6],[6,7],[6,8],[9],[9],[9,11],[9,10,12],[9,13],[9,14],[9],[9],[9,16,17],[9,18],[9,19],[9,15,20],[6,9,21],[6,22]] (.a e0 (.a e1 (.a e2 (.a e3 (.a e4 (.a e5 (.a p0 (.b)))))))) ?steps6b ?fin6b
    case steps6b=>
     repeat' first|exact .n|refine .c ?_ ?_|fail
     all_goals try exact stp
     all_goals
      rintro v W hb ⟨g0,g1,g2,g3,g4,g5,g6,g7⟩;refine .inl ⟨rfl,fun K hK=>?_⟩;simp only [ov,vat,Nat.reduceBEq,cond_true,cond_false];go_wp2_with (go_at_call 43;(with_reducible refine (HPR.out _ g7).mono ?_);rintro e w9 ⟨rfl,hb9⟩)
      exact acx (hK w9 hb9) (by simp [ov,vat])
    case fin6b=>
     rintro W3 hb3 hg;show wpList _ _ _ [] _ _;simp only [vat];have HB3:=hq_ (Et HB.out hb3);clear hg hb3 e0 e1 e2 e3 e4 e5 p0;go_wp2_with fail
     go_roundw
     case rel=>exact ⟨j+1+1,HLT.out,by go_num,HB3⟩
     case measure=>simp [intOf];omega
  ·obtain rfl:k=L.length:=oq_;have hkI:¬ (L.length:Int)<L.length:=oq_;go_wp2_with fail
   go_ret;exact ⟨rfl,HB.out⟩
theorem b4_ (h:A.ownsRow B e k v n xs) (hb:Below A.heap.size A C):C.ownsRow B e k v n xs:=
 h.kept (row:=none) ⟨hb.os,hb.tape,hb.output,hb.size,fun b hl _=>hb.block b hl⟩ (by cases v.ownBlock <;> simp)
theorem cl_ (h:W.ownsRow B e k v n xs):RowR W (fun b=>B≤b) v n xs:=by
 have h':=h;obtain ⟨hl,⟨rfl,h2⟩|⟨g,cap,cur,rfl,hb,hg,h3,h4,h5,h6⟩⟩:=h
 ·rw [h2];exact ⟨none,0,rfl,oq_,oq_,.inl rfl⟩
 ·refine ⟨_,cap,rfl,h3,h4,.inr ⟨g,0,rfl,hb,(h'.lt g rfl).2,fun i u hi=>?_⟩⟩;rw [Nat.zero_add];have:=(List.getElem?_eq_some_iff.1 hi).1;exact (h'.cellAt i (by rw [<- hl];exact this)).trans hi
def of_ (F G:Nat->Prop) (d:List Ent) (x:Ent) (w:World) (e:Ending) (w':World):Prop:=
 ∃ v M,e=.returned (.tuple #[v,.int .i64 0])∧M.map EntV.ent=putD d x∧DiaL w' (fun b=>F b∨G b∨w.heap.size≤b) v M∧Below w.heap.size w w'
theorem qg_ (F G:Nat->Prop) (v:Value) (L:List EntV) (x:EntV) (w:World) (h:DiaL w F v L) (hd:SmD (L.map EntV.ent)) (hx:REnt w G x) (hgx:e9_ ak_ x.ent) :
  Calls Tryz.prog 34 #[v,x.val] w (of_ F G (L.map EntV.ent) x.ent w):=by
 obtain ⟨a0,c0,rfl⟩:=h.form;have hll:L.length≤1000:=by have:=hd.len;rwa [List.length_map] at this
 have HV:=hq_ (fun W (hb:Below w.heap.size w W)=>f8_ F _ L W (h.ext hb) hd);have HPP:=fun W (hb:Below w.heap.size w W)=>js_ G x W (hx.ext hb) hgx;have HD:=hq_ h;have HSD:=hq_ hd;have HXR:=hq_ hx;have HX1:=hx.one;obtain ⟨iE,iE1,iE2,iE3,iE4⟩:=k5_;have HIE:=hq_ (And.intro iE1 (And.intro iE2 (And.intro iE3 iE4)));obtain ⟨q1,p1,q2,p2,hcx,hex⟩:=hx.1.form;obtain ⟨xe,hxe⟩:∃ xe,xe=x.ent:=⟨_,rfl⟩;obtain ⟨X,hXX⟩:∃ X,X=x:=⟨_,rfl⟩;have HXX:=hq_ hXX;have hXE:X.ent=xe:=by rw [hXX,hxe]
 have HXE:=hq_ hXE;obtain ⟨xid,xfm,xrk,xcv,xev,xs⟩:=x;dsimp only at hcx hex;subst hcx;subst hex;dsimp only [EntV.val] at HPP ⊢;have HPP:=hq_ HPP;have hXenc:X.enc=[.int .i64 xid,.bool xfm,.int .i64 xrk,.slice q1 xs.cls.length p1,.int .i64 xs.len,.slice q2 xs.ext.length p2]:=by rw [hXX];rfl
 have HXN:=hq_ hXenc;have HX1:=hq_ (show ∀ u∈([.int .i64 xid,.bool xfm,.int .i64 xrk,.slice q1 xs.cls.length p1,.int .i64 xs.len,.slice q2 xs.ext.length p2]:List Value),u.oneCell'=true from HX1);rw [<- hxe];have hid:xe.id=xid:=by rw [hxe];rfl
 have HID:=hq_ hid;clear h hd hx hgx iE1 iE2 iE3 iE4 hxe hid hXX hXE hXenc
 go_enter Tryz.func34,Tryz.ntmps34
 go_wp2_with (first|(go_at_call 42;(with_reducible refine (HV.out _ (Ea (Er w) _)).mono ?_);rintro e w1 ⟨rfl,hb1⟩;have HB1:=hq_ (Et (Ea (Er w) _) hb1);have hbx:=(Bxx.new w #[.int .i64 xid,.bool xfm,.int .i64 xrk,.slice q1 xs.cls.length p1,.int .i64 xs.len,.slice q2 xs.ext.length p2] 57).below hb1;have HXB:=hq_ hbx;have x0:=(hbx.cells 0).1;have x1:=(hbx.cells 1).1;have x2:=(hbx.cells 2).1;have x3:=(hbx.cells 3).1;have x4:=(hbx.cells 4).1;have x5:=(hbx.cells 5).1;clear hb1 hbx)|(go_at_call 43;(with_reducible refine (HPP.out _ HB1.out).mono ?_);rintro e w2 ⟨rfl,hb2⟩;have HB2:=hq_ (Et HB1.out hb2);have HXB:=hq_ (HXB.out.below hb2);have hz2:=HXB.out.lt;clear hb2 x0 x1 x2 x3 x4 x5))
 go_loopw [6,7,8] (fun ov dv iv wr=>∃ (i:Nat) (done:Bool) (o:List EntV),i≤L.length∧iv=.int .i64 i∧dv=.bool done∧Hid (PutI (L.map EntV.ent) xe i done (o.map EntV.ent))∧Hid (wr.ownsRow (w.heap.size+1) 57 6 ov o.length (o.flatMap EntV.enc))∧Hid (∀ y∈o,y∈L∨y=X)∧Hid (Below w.heap.size w wr)∧Hid (Bxx wr w.heap.size #[.int .i64 xid,.bool xfm,.int .i64 xrk,.slice q1 xs.cls.length p1,.int .i64 xs.len,.slice q2 xs.ext.length p2] 57)) (fun _ _ iv _=>L.length-(intOf iv).toNat)
 case atStart=>exact ⟨0,false,[],oq_,rfl,rfl,hq_ PutI.nil,hq_ ⟨sq_,.inr ⟨w2.heap.size,0,#[],rfl,oq_,by simpa using World.alloc_heap_new w2 _,sq_,by simp [maxLen],sq_,sq_⟩⟩,hq_ sq_,hq_ (Ea HB2.out _),hq_ (HXB.out.alloc _)⟩
 case round=>
  obtain ⟨k,done,O,hk,rfl,rfl,HP,HO,HM,HB,HBX⟩:=hrel;obtain ⟨oa,oc,rfl⟩:=a5_ HO.out;have hwz:=HB.out.size;have hOl:O.length≤k+1:=by have:=HP.out.len;rwa [List.length_map] at this
  by_cases hlt:k<L.length
  ·have hlI:(k:Int)<L.length:=oq_;have HLT:=hq_ (show k+1≤L.length by omega);obtain ⟨b,o,y,x1,d1,x2,d2,rfl,hbb,hy,hym,hyr,hcv,hev,e0,e1,e2,e3,e4,e5⟩:=HD.out.get hlt;have hkL:k<(L.map EntV.ent).length:=by rw [List.length_map];exact hlt
   have hge:(L.map EntV.ent).getD k default=y.ent:=by rw [ch_,hy]
   have HKL:=hq_ hkL;have HGE:=hq_ hge;have HYM:=hq_ hym;have HY1:=hyr.one;have hyenc:y.enc=[.int .i64 y.id,.bool y.firm,.int .i64 y.rank,.slice x1 y.s.cls.length d1,.int .i64 y.s.len,.slice x2 y.s.ext.length d2]:=by unfold EntV.enc;rw [hcv,hev]
   rw [hyenc] at HY1;have HY1:=hq_ HY1;have HYN:=hq_ hyenc;have hye:y.ent.id=y.id:=rfl;have z0:=(HBX.out.cells 0).1;have z1:=(HBX.out.cells 1).1;have z2:=(HBX.out.cells 2).1;have z3:=(HBX.out.cells 3).1;have z4:=(HBX.out.cells 4).1;have z5:=(HBX.out.cells 5).1;have HE0:=hq_ e0;have HE1:=hq_ e1;have HE2:=hq_ e2;have HE3:=hq_ e3;have HE4:=hq_ e4;have HE5:=hq_ e5;have f0:=Ext.cell HB.out e0;have f1:=Ext.cell HB.out e1;have f2:=Ext.cell HB.out e2;have f3:=Ext.cell HB.out e3;have f4:=Ext.cell HB.out e4;have f5:=Ext.cell HB.out e5;clear hy hym hyr hcv hev hkL hge hyenc hye hlt e0 e1 e2 e3 e4 e5;cases done with
   | true=>
    have hgt:xid<y.id:=by have:=HP.out.gt HSD.out.asc HKL.out;rw [HGE.out,HID.out] at this;exact this
    have hne:(y.id != xid)=true:=by simp;omega
    have hne2:¬ y.id=xid:=oq_;have HPN:=hq_ (HP.out.rest HSD.out.asc HKL.out);go_wp2_with fail
    go_quiet (fail)
    go_wp2_with fail
    go_quiet (fail)
    go_wp2_with (at_builtin;(refine ab_ rq_ _ _ _ _ rq_ iE _ 6 80 Tryz.underlying25 HIE.out.1 HIE.out.2.1 HIE.out.2.2.1 HIE.out.2.2.2 rfl dq_ dq_ (w.heap.size+1) (.slice oa (O).length oc) (O).length ((O).flatMap EntV.enc) [.int .i64 y.id,.bool y.firm,.int .i64 y.rank,.slice x1 y.s.cls.length d1,.int .i64 y.s.len,.slice x2 y.s.ext.length d2] rfl rq_ (b4_ HO.out xE) _ 1 rq_ (al_ (Bxx.new _ #[.int .i64 y.id,.bool y.firm,.int .i64 y.rank,.slice x1 y.s.cls.length d1,.int .i64 y.s.len,.slice x2 y.s.ext.length d2] 57)) HY1.out tq_ tq_ ?_);intro v' w9 hown9 hgrow9 hloc9;obtain ⟨na9,nc9,rfl⟩:=a5_ hown9;have HB9:=hq_ ((Et HB.out xE).grown hgrow9 tq_ fun q e=>by have:=(HO.out.lt q e).1;omega);have HBX9:=hq_ ((HBX.out.below xE).grown hgrow9 (fun e=>by have:=(HO.out.lt _ e.symm).1;omega));have HO9:=hq_ hown9;clear hown9 hgrow9 hloc9)
    go_roundw
    case rel=>exact ⟨k+1,true,O ++ [y],HLT.out,by go_num,rfl,hq_ (by rw [List.map_append,List.map_cons,List.map_nil,<- HGE.out];exact HPN.out),hq_ (b4_ (by have h:=HO9.out;rw [List.flatMap_append,List.flatMap_cons,List.flatMap_nil,List.append_nil,HYN.out];simpa using h) xE),hq_ (fun z hz=>by rcases List.mem_append.1 hz with hz|hz;exact HM.out z hz;exact .inl (by rw [List.mem_singleton.1 hz];exact HYM.out)),hq_ (Et HB9.out xE),hq_ (HBX9.out.below xE)⟩
    case measure=>have:=HLT.out;simp [intOf];omega
   | false=>
    rcases Int.lt_trichotomy y.id xid with hc|hc|hc
    ·have hge:¬ xid≤y.id:=oq_;have hne:(y.id != xid)=true:=by simp;omega
     have hne2:¬ y.id=xid:=oq_;have HPN:=hq_ (HP.out.low HKL.out (by rw [HGE.out,HID.out];exact hc));go_wp2_with fail
     go_quiet (fail)
     go_wp2_with fail
     go_quiet (fail)
     go_wp2_with (at_builtin;(refine ab_ rq_ _ _ _ _ rq_ iE _ 6 80 Tryz.underlying25 HIE.out.1 HIE.out.2.1 HIE.out.2.2.1 HIE.out.2.2.2 rfl dq_ dq_ (w.heap.size+1) (.slice oa (O).length oc) (O).length ((O).flatMap EntV.enc) [.int .i64 y.id,.bool y.firm,.int .i64 y.rank,.slice x1 y.s.cls.length d1,.int .i64 y.s.len,.slice x2 y.s.ext.length d2] rfl rq_ (b4_ HO.out xE) _ 1 rq_ (al_ (Bxx.new _ #[.int .i64 y.id,.bool y.firm,.int .i64 y.rank,.slice x1 y.s.cls.length d1,.int .i64 y.s.len,.slice x2 y.s.ext.length d2] 57)) HY1.out tq_ tq_ ?_);intro v' w9 hown9 hgrow9 hloc9;obtain ⟨na9,nc9,rfl⟩:=a5_ hown9;have HB9:=hq_ ((Et HB.out xE).grown hgrow9 tq_ fun q e=>by have:=(HO.out.lt q e).1;omega);have HBX9:=hq_ ((HBX.out.below xE).grown hgrow9 (fun e=>by have:=(HO.out.lt _ e.symm).1;omega));have HO9:=hq_ hown9;clear hown9 hgrow9 hloc9)
     go_roundw
     case rel=>exact ⟨k+1,false,O ++ [y],HLT.out,by go_num,rfl,hq_ (by rw [List.map_append,List.map_cons,List.map_nil,<- HGE.out];exact HPN.out),hq_ (b4_ (by have h:=HO9.out;rw [List.flatMap_append,List.flatMap_cons,List.flatMap_nil,List.append_nil,HYN.out];simpa using h) xE),hq_ (fun z hz=>by rcases List.mem_append.1 hz with hz|hz;exact HM.out z hz;exact .inl (by rw [List.mem_singleton.1 hz];exact HYM.out)),hq_ (Et HB9.out xE),hq_ (HBX9.out.below xE)⟩
     case measure=>have:=HLT.out;simp [intOf];omega
    ·have hge:xid≤y.id:=oq_;have hne:(y.id != xid)=false:=by simp;exact hc
     have HPN:=hq_ (HP.out.here HKL.out (by rw [HGE.out,HID.out];exact hc));clear hc;go_wp2_with fail
     go_quiet (fail)
     go_wp2_with (at_builtin;(refine ab_ rq_ _ _ _ _ rq_ iE _ 6 80 Tryz.underlying25 HIE.out.1 HIE.out.2.1 HIE.out.2.2.1 HIE.out.2.2.2 rfl dq_ dq_ (w.heap.size+1) (.slice oa (O).length oc) (O).length ((O).flatMap EntV.enc) [.int .i64 xid,.bool xfm,.int .i64 xrk,.slice q1 xs.cls.length p1,.int .i64 xs.len,.slice q2 xs.ext.length p2] rfl rq_ (b4_ HO.out xE) _ 1 rq_ (al_ (Bxx.new _ #[.int .i64 xid,.bool xfm,.int .i64 xrk,.slice q1 xs.cls.length p1,.int .i64 xs.len,.slice q2 xs.ext.length p2] 57)) HX1.out tq_ tq_ ?_);intro v' w9 hown9 hgrow9 hloc9;obtain ⟨na9,nc9,rfl⟩:=a5_ hown9;have HB9:=hq_ ((Et HB.out xE).grown hgrow9 tq_ fun q e=>by have:=(HO.out.lt q e).1;omega);have HBX9:=hq_ ((HBX.out.below xE).grown hgrow9 (fun e=>by have:=(HO.out.lt _ e.symm).1;omega));have HO9:=hq_ hown9;clear hown9 hgrow9 hloc9;have f0:=Ext.cell HB9.out HE0.out;have z0:=(HBX9.out.cells 0).1;have hz9:=HB9.out.size)
     go_quiet (fail)
     go_wp2_with fail
     go_roundw
     case rel=>exact ⟨k+1,true,O ++ [X],HLT.out,by go_num,rfl,hq_ (by rw [List.map_append,List.map_cons,List.map_nil,HXE.out];exact HPN.out),hq_ (b4_ (by have h:=HO9.out;rw [List.flatMap_append,List.flatMap_cons,List.flatMap_nil,List.append_nil,HXN.out];simpa using h) xE),hq_ (fun z hz=>by rcases List.mem_append.1 hz with hz|hz;exact HM.out z hz;exact .inr (List.mem_singleton.1 hz)),hq_ (Et HB9.out xE),hq_ (HBX9.out.below xE)⟩
     case measure=>have:=HLT.out;simp [intOf];omega
    ·have hge:xid≤y.id:=oq_;have hne:(y.id != xid)=true:=by simp;omega
     have hne2:¬ y.id=xid:=oq_;have HPN:=hq_ (HP.out.past HKL.out (by rw [HGE.out,HID.out];exact hc));go_wp2_with fail
     go_quiet (fail)
     go_wp2_with (at_builtin;(refine ab_ rq_ _ _ _ _ rq_ iE _ 6 80 Tryz.underlying25 HIE.out.1 HIE.out.2.1 HIE.out.2.2.1 HIE.out.2.2.2 rfl dq_ dq_ (w.heap.size+1) (.slice oa (O).length oc) (O).length ((O).flatMap EntV.enc) [.int .i64 xid,.bool xfm,.int .i64 xrk,.slice q1 xs.cls.length p1,.int .i64 xs.len,.slice q2 xs.ext.length p2] rfl rq_ (b4_ HO.out xE) _ 1 rq_ (al_ (Bxx.new _ #[.int .i64 xid,.bool xfm,.int .i64 xrk,.slice q1 xs.cls.length p1,.int .i64 xs.len,.slice q2 xs.ext.length p2] 57)) HX1.out tq_ tq_ ?_);intro v' w9 hown9 hgrow9 hloc9;obtain ⟨na9,nc9,rfl⟩:=a5_ hown9;have HB9:=hq_ ((Et HB.out xE).grown hgrow9 tq_ fun q e=>by have:=(HO.out.lt q e).1;omega);have HBX9:=hq_ ((HBX.out.below xE).grown hgrow9 (fun e=>by have:=(HO.out.lt _ e.symm).1;omega));have HO9:=hq_ hown9;clear hown9 hgrow9 hloc9;have HO9:=hq_ (show w9.ownsRow (w.heap.size+1) 57 6 (.slice na9 (O.length+1) nc9) (O.length+1) ((O ++ [X]).flatMap EntV.enc) from by rw [List.flatMap_append,List.flatMap_cons,List.flatMap_nil,List.append_nil,HXN.out];exact HO9.out);have f0:=Ext.cell HB9.out HE0.out;have f1:=Ext.cell HB9.out HE1.out;have f2:=Ext.cell HB9.out HE2.out;have f3:=Ext.cell HB9.out HE3.out;have f4:=Ext.cell HB9.out HE4.out;have f5:=Ext.cell HB9.out HE5.out;have z0:=(HBX9.out.cells 0).1;have hz9:=HB9.out.size;have hox9:(O ++ [X]).length=O.length+1:=sq_)
     go_quiet (fail)
     go_wp2_with (at_builtin;(refine ab_ rq_ _ _ _ _ rq_ iE _ 6 80 Tryz.underlying25 HIE.out.1 HIE.out.2.1 HIE.out.2.2.1 HIE.out.2.2.2 rfl dq_ dq_ (w.heap.size+1) (.slice na9 (O.length+1) nc9) (O.length+1) ((O ++ [X]).flatMap EntV.enc) [.int .i64 y.id,.bool y.firm,.int .i64 y.rank,.slice x1 y.s.cls.length d1,.int .i64 y.s.len,.slice x2 y.s.ext.length d2] rfl rq_ (b4_ HO9.out xE) _ 1 rq_ (al_ (Bxx.new _ #[.int .i64 y.id,.bool y.firm,.int .i64 y.rank,.slice x1 y.s.cls.length d1,.int .i64 y.s.len,.slice x2 y.s.ext.length d2] 57)) HY1.out tq_ tq_ ?_);intro v' w8 hown8 hgrow8 hloc8;obtain ⟨na8,nc8,rfl⟩:=a5_ hown8;have HB8:=hq_ ((Et HB9.out xE).grown hgrow8 tq_ fun q e=>by have:=(HO9.out.lt q e).1;omega);have HBX8:=hq_ ((HBX9.out.below xE).grown hgrow8 (fun e=>by have:=(HO9.out.lt _ e.symm).1;omega));have HO8:=hq_ hown8;clear hown8 hgrow8 hloc8)
     go_roundw
     case rel=>exact ⟨k+1,true,O ++ [X] ++ [y],HLT.out,by go_num,rfl,hq_ (by rw [List.map_append,List.map_append,List.map_cons,List.map_nil,List.map_cons,List.map_nil,HXE.out,<- HGE.out];exact HPN.out),hq_ (b4_ (by have h:=HO8.out;rw [List.flatMap_append,List.flatMap_cons,List.flatMap_nil,List.append_nil,HYN.out];simpa using h) xE),hq_ (fun z hz=>by rcases List.mem_append.1 hz with hz|hz;(rcases List.mem_append.1 hz with hz|hz;exact HM.out z hz;exact .inr (List.mem_singleton.1 hz));exact .inl (by rw [List.mem_singleton.1 hz];exact HYM.out)),hq_ (Et HB8.out xE),hq_ (HBX8.out.below xE)⟩
     case measure=>have:=HLT.out;simp [intOf];omega
  ·obtain rfl:k=L.length:=oq_;have hkI:¬ (L.length:Int)<L.length:=oq_;have hlm:(L.map EntV.ent).length=L.length:=List.length_map _;have HFIN:Hid (∀ (W:World) (u:Value) (M:List EntV),M.map EntV.ent=putD (L.map EntV.ent) xe->W.ownsRow (w.heap.size+1) 57 6 u M.length (M.flatMap EntV.enc)->(∀ y∈M,y∈L∨y=X)->M.length≤10000->Below w.heap.size w W->of_ F G (L.map EntV.ent) xe w (.returned (.tuple #[u,.int .i64 0])) W):=hq_ fun W u M h1 h2 h3 h4 h5=>
    ⟨u,M,rfl,h1,⟨(cl_ h2).mono fun b hb=>.inr (.inr oq_),oq_,fun y hy=>by
     rcases h3 y hy with hy|rfl
     ·exact ad_.mono ((HD.out.all y hy).ext h5) fun b hb=>.inl hb
     ·rw [HXX.out];exact ad_.mono (HXR.out.ext h5) fun b hb=>.inr (.inl hb)⟩,h5⟩
   have z0:=(HBX.out.cells 0).1;have z1:=(HBX.out.cells 1).1;have z2:=(HBX.out.cells 2).1;have z3:=(HBX.out.cells 3).1;have z4:=(HBX.out.cells 4).1;have z5:=(HBX.out.cells 5).1;cases done with
   | true=>
    have h4:¬ (4096:Int)<O.length:=oq_;go_wp2_with fail
    go_ret2;exact HFIN.out _ _ O (by have h:=HP.out;rw [<- hlm] at h;exact h.end1) HO.out HM.out oq_ HB.out
   | false=>
    have h4:¬ (4096:Int)<(O.length:Int)+1:=oq_;go_wp2_with (at_builtin;(refine ab_ rq_ _ _ _ _ rq_ iE _ 6 80 Tryz.underlying25 HIE.out.1 HIE.out.2.1 HIE.out.2.2.1 HIE.out.2.2.2 rfl dq_ dq_ (w.heap.size+1) (.slice oa (O).length oc) (O).length ((O).flatMap EntV.enc) [.int .i64 xid,.bool xfm,.int .i64 xrk,.slice q1 xs.cls.length p1,.int .i64 xs.len,.slice q2 xs.ext.length p2] rfl rq_ (b4_ HO.out xE) _ 1 rq_ (al_ (Bxx.new _ #[.int .i64 xid,.bool xfm,.int .i64 xrk,.slice q1 xs.cls.length p1,.int .i64 xs.len,.slice q2 xs.ext.length p2] 57)) HX1.out tq_ tq_ ?_);intro v' w9 hown9 hgrow9 hloc9;obtain ⟨na9,nc9,rfl⟩:=a5_ hown9;have HB9:=hq_ ((Et HB.out xE).grown hgrow9 tq_ fun q e=>by have:=(HO.out.lt q e).1;omega);have HBX9:=hq_ ((HBX.out.below xE).grown hgrow9 (fun e=>by have:=(HO.out.lt _ e.symm).1;omega));have HO9:=hq_ hown9;clear hown9 hgrow9 hloc9)
    go_ret2;exact HFIN.out _ _ (O ++ [X]) (by have h:=HP.out;rw [<- hlm] at h;rw [List.map_append,List.map_cons,List.map_nil,HXE.out];exact h.end0) (by have h:=HO9.out;rw [List.flatMap_append,List.flatMap_cons,List.flatMap_nil,List.append_nil,HXN.out];simpa using h) (fun z hz=>by rcases List.mem_append.1 hz with hz|hz;exact HM.out z hz;exact .inr (List.mem_singleton.1 hz)) tq_ HB9.out
theorem wr_ {b:Nat} {t:TypeId} (h:Bxx W b #[.int .i64 30,.int .i64 60,.int .i64 90,.int .i64 600,.int .i64 1440,.int .i64 1500,.int .i64 3000,.int .i64 10080] t) (x:Int) (hx:0≤x):W.cell? ⟨b,(x % 8).toNat,none⟩=some (.int .i64 (lenF x)):=by
 rw [(h.cells _).1];unfold lenF;have hk:(x % 8).toNat<8:=oq_;generalize (x % 8).toNat=k at *
 match k,hk with
 | 0,_=>rfl
 | 1,_=>rfl
 | 2,_=>rfl
 | 3,_=>rfl
 | 4,_=>rfl
 | 5,_=>rfl
 | 6,_=>rfl
 | 7,_=>rfl
theorem l6_ {b o:Nat} {ll:List (List Int)} (h:c3_ w (.slice (some ⟨b,o,none⟩) ll.length c) ll) (hi:i+n≤ll.length) {o' c':Nat} (ho:n=0∨o'=o+i):c3_ w (.slice (some ⟨b,o',none⟩) n c') ((ll.drop i).take n):=by
 obtain ⟨⟨a,c2,he,h1⟩,h2⟩:=h;injection he with e1 _ e2
 have hl:((ll.drop i).take n).length=n:=by rw [List.length_take,List.length_drop];omega
 refine ⟨⟨_,c',by rw [hl],?_⟩,by rw [hl];omega⟩;by_cases h0:n=0
 ·left;exact List.eq_nil_of_length_eq_zero (by rw [hl];exact h0)
 ·obtain rfl:o'=o+i:=ho.resolve_left h0;rcases h1 with h1|⟨b2,o2,e,hc⟩
  ·rw [h1] at hi;simp at hi;omega
  ·rw [<- e1] at e;injection e with e
   injection e with e3 e4
   subst e3;subst e4;refine .inr ⟨_,_,rfl,fun j hj=>?_⟩;rw [hl] at hj;obtain ⟨u,g1,g2⟩:=hc (i+j) oq_;refine ⟨u,by rw [Nat.add_assoc];exact g1,?_⟩;have e:((ll.drop i).take n).getD j []=ll.getD (i+j) []:=by
    rw [List.getD_eq_getElem?_getD,List.getD_eq_getElem?_getD,List.getElem?_take_of_lt hj,List.getElem?_drop]
   rw [e];exact g2
theorem vd_ (ll:List (List Int)) (hk:k<ll.length):(ll.drop k).take ((min ((k:Int)+2) ll.length).toNat-k)=(ll.drop k).take 2:=by
 by_cases h:k+2≤ll.length
 ·rw [show (min ((k:Int)+2) ll.length).toNat-k=2 by omega]
 ·have hl:(ll.drop k).length=1:=by rw [List.length_drop];omega
  rw [List.take_of_length_le (by rw [hl];omega),List.take_of_length_le (by rw [hl];omega)]
theorem q0_ (B:Nat) (lv:Value) (l:List Inst) (x:Inst) (w:World) (h:ExtL w (fun b=>B≤b) lv l) (hx:InIn x) (hl:l.length≤1000) (hB:B≤w.heap.size) :
  Calls Tryz.prog 109 #[lv,ival x] w fun e w'=>∃ a c,e=.returned (.slice a (insI l x).length c)∧ExtL w' (fun b=>B≤b) (.slice a (insI l x).length c) (insI l x)∧Below w.heap.size w w':=
 (g1_ _ lv l x w h hx hl).mono fun e w' ⟨hb,v',he,hc⟩=>by
  subst he;rcases hc with ⟨hm,rfl⟩|⟨hm,ho⟩
  ·have e1:insI l x=l:=by unfold insI;rw [if_pos hm]
   obtain ⟨a,c,rfl⟩:=h.form;rw [e1];exact ⟨a,c,rfl,h.ext hb,hb⟩
  ·have e1:insI l x=putI l x:=by unfold insI;rw [if_neg hm]
   obtain ⟨a,c,rfl,_⟩:=ho.form;rw [e1];exact ⟨a,c,rfl,ho.extL.mono fun b hb'=>by have:=hb'.1;omega,hb⟩
def vo_ (ll:List (List Int)) (ml:List Int) (LN:Int) (w W1 W:World):Prop:=∃ (v:Value) (M:List ClsV),M.map ClsV.cls=clsF ll ml (min 3 (min ml.length ll.length))∧OwnC (w.heap.size+4) (fun _=>False) W v M∧Bxx W (w.heap.size+1+1+1) #[v,.int .i64 LN,.slice none 0 0] 55∧W1.grownBy W (some (w.heap.size+1+1+1))
theorem q4_ (x:RawV) (ll:List (List Int)) (ml el:List Int) (w:World) (h:RawR w x ll ml el) :
  Calls Tryz.prog 64 #[x.val] w (od_ (jh_ ll ml x.ln el) w):=by
 have HR:=hq_ h;obtain ⟨hd,⟨da,dc,hde,hdl,hdc⟩,hm,l0,l1,he⟩:=h;obtain ⟨⟨ma,mc,hme,_⟩,hml,hmr⟩:=hm;obtain ⟨⟨ea,ec,hee,_⟩,hel,her⟩:=he;obtain ⟨dv,mv,ln,ev⟩:=x;dsimp only at hde hme hee l0 l1;subst hde;subst hme;subst hee;have HMR:=hq_ hmr;have HER:=hq_ her;obtain ⟨LN,hLN⟩:∃ LN,lenF ln=LN:=⟨_,rfl⟩;have HLN:=hq_ hLN;have hlb:=s9_ ln;rw [hLN] at hlb;obtain ⟨lb1,lb2⟩:=hlb;have hT:Bxx (((w.alloc (.cells #[.slice da ll.length dc,.slice ma ml.length mc,.int .u8 ln,.slice ea el.length ec] 49)).alloc (.cells #[.slice none 0 0,.int .i64 0,.slice none 0 0] 55)).alloc (.cells #[.int .i64 30,.int .i64 60,.int .i64 90,.int .i64 600,.int .i64 1440,.int .i64 1500,.int .i64 3000,.int .i64 10080] 3)) (w.heap.size+1+1) #[.int .i64 30,.int .i64 60,.int .i64 90,.int .i64 600,.int .i64 1440,.int .i64 1500,.int .i64 3000,.int .i64 10080] 3:=Bxx.at sq_;have q:=wr_ hT ln l0;rw [hLN] at q;obtain ⟨r,hr⟩:∃ r,ln % 8=r:=⟨_,rfl⟩;have hrb:0≤r∧r<8:=oq_;obtain ⟨r1,r2⟩:=hrb;have htm:ln.tmod 8=r:=by rw [Int.tmod_eq_emod_of_nonneg l0];exact hr
 rw [hr] at q;clear hT hLN hd hmr her;show Calls _ _ #[.agg #[.slice da ll.length dc,.slice ma ml.length mc,.int .u8 ln,.slice ea el.length ec]] _ _
 go_enter Tryz.func64,Tryz.ntmps64
 go_upto_block 0 with (fail)
 refine bh_ (F:=fun U=>Bxx U w.heap.size #[.slice da ll.length dc,.slice ma ml.length mc,.int .u8 ln,.slice ea el.length ec] 49∧Bxx U (w.heap.size+1) #[.slice none 0 0,.int .i64 0,.slice none 0 0] 55∧Bxx U (w.heap.size+1+1+1) #[.slice none 0 0,.int .i64 LN,.slice none 0 0] 55∧U.heap.size=w.heap.size+4∧Below w.heap.size w U) ⟨xB,xB,xB,sq_,xE⟩ ?_;rintro W1 ⟨hc0,hc1,hco,hs1,hcb⟩;have K0:=hq_ hc0;have K1:=hq_ hc1;have KO:=hq_ hco;have KB:=hq_ hcb;have HS1:=hq_ hs1;clear q r1 r2 htm hr hc0 hc1 hco hs1 hcb
 go_cut [] (fun wx=>Hid (vo_ ll ml LN w W1 wx))
 case first=>
  go_wp2_with fail
  go_loopw [4,5,6] (fun mv iv _ wr=>∃ (k:Nat) (v:Value) (M:List ClsV) (mn:Int),k≤3∧k≤ml.length∧k≤ll.length∧iv=.int .i64 k∧mv=.int .i64 mn∧Hid (minF ml k=mn)∧Hid (M.map ClsV.cls=clsF ll ml k)∧M.length≤k∧Hid (OwnC (w.heap.size+4) (fun _=>False) wr v M)∧Hid (Bxx wr (w.heap.size+1+1+1) #[v,.int .i64 LN,.slice none 0 0] 55)∧Hid (W1.grownBy wr (some (w.heap.size+1+1+1)))) (fun _ iv _ _=>3-(intOf iv).toNat)
  case atStart=>exact ⟨0,.slice none 0 0,[],-1500,oq_,oq_,oq_,rfl,rfl,hq_ rfl,hq_ rfl,sq_,hq_ OwnG.nil,KO,hq_ ⟨rfl,rfl,rfl,Nat.le_refl _,fun _ _ _=>rfl⟩⟩
  case round=>
   obtain ⟨k,v,M,mn,hk3,hkm,hkl,rfl,rfl,HMN,HM,hMl,HV,HBO,HG⟩:=hrel;obtain ⟨wk,hwk⟩:∃ x,x=wr:=⟨_,rfl⟩;subst hwk;obtain ⟨va,vc,rfl,-⟩:=HV.out.form;have hgz:=HG.out.size;have hs14:=HS1.out;have HBK:Hid (Below w.heap.size w wk):=hq_ (KB.out.grown HG.out KB.out.size fun q e=>by injection e with e;omega);have hkz:=HBK.out.size;have hr0:Bxx wk w.heap.size #[.slice da ll.length dc,.slice ma ml.length mc,.int .u8 ln,.slice ea el.length ec] 49:=(HG.out.block _ oq_ (by intro e;injection e with e;omega)).trans K0.out;have x0:=(hr0.cells 0).1;have x1:=(hr0.cells 1).1;have x3:=(hr0.cells 3).1;have HR0:=hq_ hr0;have hmb:=mm_ HMR.out k;rw [HMN.out] at hmb;obtain ⟨mb1,mb2,-⟩:=hmb;have mb2:mn≤9978:=oq_;clear hr0;have LEAVE:Hid (¬ (k<ml.length∧k<3∧k<ll.length)->k=min 3 (min ml.length ll.length)):=hq_ oq_;by_cases hA:k<ml.length∧k<3∧k<ll.length
   ·obtain ⟨c1,c2,c3⟩:=hA;have c1I:(k:Int)<ml.length:=oq_;have c2I:(k:Int)<3:=oq_;have c3I:(k:Int)<ll.length:=oq_;obtain ⟨⟨a',cc',he',hcl⟩,_,_⟩:=HR.out.mins.ext HBK.out;injection he' with e1 _ e2
    subst e1;subst e2;rcases hcl with hcl|⟨b8,f8,rfl,hcl⟩
    ·rw [hcl] at c1;simp at c1
    have z0:=hcl k c1;have hyr:=HMR.out _ (ac_ (d:=0) c1);have HNM:Hid (minF ml (k+1)=mn+1+15*ml.getD k 0):=hq_ (by show minF ml k+1+15*ml.getD k 0=_;rw [HMN.out]);have HCN:Hid (clsF ll ml (k+1)=clsF ll ml k ++ if minF ml (k+1)≤4320 then [⟨dy_ ((ll.drop k).take 2),minF ml (k+1)⟩] else []):=hq_ rfl;obtain ⟨y,hy⟩:∃ y,ml.getD k 0=y:=⟨_,rfl⟩;rw [hy] at z0 hyr HNM;rw [HNM.out] at HCN;obtain ⟨y1,y2⟩:=hyr;have hdays:=HR.out.days.ext HBK.out;obtain ⟨b9,f9,rfl⟩:∃ b o,da=some ⟨b,o,none⟩:=by
     obtain ⟨⟨a',cc',he',hcl⟩,_⟩:=hdays;injection he' with e1 _ e2
     rcases hcl with hcl|⟨b,o,e,_⟩
     ·rw [hcl] at c3;simp at c3
     ·exact ⟨b,o,e1.trans e⟩
    have HDY:=hq_ (fun W (hb:Below w.heap.size w W)=>HR.out.days.ext hb);clear hcl hy hdays;obtain ⟨D,hD⟩:∃ D,dy_ ((ll.drop k).take 2)=D:=⟨_,rfl⟩;have HDM:=hq_ (g6_ ((ll.drop k).take 2));have HMD:=hq_ (fun W (hb:Below w.heap.size w W)=>to_ (.slice (some ⟨b9,f9+k,none⟩) ((min ((k:Int)+2) ll.length).toNat-k) (dc-k)) ((ll.drop k).take 2) W (by have h1:=l6_ (i:=k) (n:=(min ((k:Int)+2) ll.length).toNat-k) (o':=f9+k) (c':=dc-k) (HDY.out W hb) oq_ (.inr rfl);rw [vd_ ll c3] at h1;exact h1));rw [hD] at HMD HDM HCN;clear hD;by_cases hle:mn+1+15*y≤4320
    ·rw [if_pos hle] at HCN;obtain ⟨iC,iC1,iC2,iC3,iC4⟩:=ol_;have HIC:=hq_ (And.intro iC1 (And.intro iC2 (And.intro iC3 iC4)));clear iC1 iC2 iC3 iC4;go_wp2_with (first|(go_at_call 108;(refine (HMD.out _ HBK.out).mono ?_;rintro e w5 ⟨a5,c5,rfl,hmx,hmd,hb5⟩;have HMX:=hq_ hmx;have HB5:=hq_ hb5;have hz5:=hb5.size;have ho5:=HBO.out.below hb5;have o5:=ho5.cells 0;have o6:=((ho5.alloc (.cells #[.slice a5 D.length c5] 128)).cells 0);have o7:=(((ho5.alloc (.cells #[.slice a5 D.length c5] 128)).alloc (.cells #[.slice a5 D.length c5,.int .i64 (mn+1+15*y)] 130)).cells 0);have HO5:=hq_ ho5;clear hmx hmd hb5 ho5))|(at_builtin;(refine ab_ rq_ _ _ _ _ rq_ iC _ 2 32 Tryz.underlying52 HIC.out.1 HIC.out.2.1 HIC.out.2.2.1 HIC.out.2.2.2 rfl dq_ dq_ (w.heap.size+4) (.slice va M.length vc) M.length (M.flatMap ClsV.enc) (ClsV.enc ⟨.slice a5 D.length c5,D,mn+1+15*y⟩) rfl rq_ (HV.out.below ar_ (Ea (Ea HB5.out (.cells #[.slice a5 D.length c5] 128)) (.cells #[.slice a5 D.length c5,.int .i64 (mn+1+15*y)] 130))).row (w5.heap.size+1) 1 rq_ (al_ (Bxx.at (w:=w5.alloc (.cells #[.slice a5 D.length c5] 128)) (c:=#[.slice a5 D.length c5,.int .i64 (mn+1+15*y)]) (t:=130) sq_)) (by simp [ClsV.enc,Value.oneCell']) oq_ tq_ ?_);intro v' w9 hown9 hgrow9 hloc9;obtain ⟨na,nc,rfl⟩:=a5_ hown9;have hne9:∀ q,(Value.slice va M.length vc).ownBlock=some q->w.heap.size+4≤q:=fun q e=>(HV.out.row.lt q e).1;have d2:=(((HO5.out.alloc (.cells #[.slice a5 D.length c5] 128)).alloc (.cells #[.slice a5 D.length c5,.int .i64 (mn+1+15*y)] 130)).grown hgrow9 (fun e=>by have:=hne9 _ e.symm;omega));have g2:=d2.cells 0;have HD2:=hq_ d2;have HV9:=hq_ (OwnG.push (y:=⟨.slice a5 D.length c5,D,mn+1+15*y⟩) ar_ (HV.out.below ar_ (Ea (Ea HB5.out (.cells #[.slice a5 D.length c5] 128)) (.cells #[.slice a5 D.length c5,.int .i64 (mn+1+15*y)] 130))) ⟨(HMX.out.ext (Ea (Ea (Er _) _) _)).mono fun q hq=>⟨oq_,fun h=>h,fun e=>by have:=(HV.out.row.lt q e).2;omega⟩,by show InI (mn+1+15*y);exact ⟨oq_,oq_⟩⟩ hown9 hgrow9 hloc9 (fun h=>h) oq_);have HG9:=hq_ hgrow9;have HNE:=hq_ hne9;clear hown9 hgrow9 hloc9 d2 hne9))
     go_roundw
     case rel=>
      have hgs:World.grownBy w9 (w9.setCell ⟨w.heap.size+1+1+1,0,none⟩ (.slice na (M.length+1) nc)) (some (w.heap.size+1+1+1)):=World.grownBy.set' ⟨rfl,rfl,rfl,Nat.le_refl _,fun _ _ _=>rfl⟩ _;have hgall:W1.grownBy w9 (some (w.heap.size+1+1+1)):=by
       have h1:W1.grownBy ((w5.alloc (.cells #[.slice a5 D.length c5] 128)).alloc (.cells #[.slice a5 D.length c5,.int .i64 (mn+1+15*y)] 130)) (some (w.heap.size+1+1+1)):=World.grownBy.trans' HG.out (World.grownBy.of_below (Ea (Ea HB5.out _) _) _);exact ⟨HG9.out.os.trans h1.os,HG9.out.tape.trans h1.tape,HG9.out.output.trans h1.output,Nat.le_trans h1.size HG9.out.size,fun q hq hne=>(HG9.out.block q (Nat.lt_of_lt_of_le hq h1.size) (fun e=>by have:=HNE.out q e.symm;omega)).trans (h1.block q hq hne)⟩
      exact ⟨k+1,.slice na (M.length+1) nc,M ++ [⟨.slice a5 D.length c5,D,mn+1+15*y⟩],mn+1+15*y,oq_,oq_,oq_,by go_num,rfl,HNM,hq_ (by rw [List.map_append,HM.out,HCN.out];rfl),tq_,hq_ (HV9.out.low ar_ hgs oq_),hq_ (a0_ 0 _ HD2.out),hq_ (World.grownBy.trans' hgall hgs)⟩
     case measure=>simp [intOf];omega
    ·rw [if_neg hle,List.append_nil] at HCN;go_wp2_with (go_at_call 108;(refine (HMD.out _ HBK.out).mono ?_;rintro e w5 ⟨a5,c5,rfl,hmx,hmd,hb5⟩;have HB5:=hq_ hb5;clear hmx hmd hb5))
     go_roundw
     case rel=>exact ⟨k+1,.slice va M.length vc,M,mn+1+15*y,oq_,oq_,oq_,by go_num,rfl,HNM,hq_ (by rw [HM.out,HCN.out]),oq_,hq_ (HV.out.below ar_ (Ea HB5.out _)),hq_ ((HBO.out.below HB5.out).alloc _),hq_ (World.grownBy.trans' HG.out (World.grownBy.of_below (Ea HB5.out _) _))⟩
     case measure=>simp [intOf];omega
   ·have HEND:Hid (vo_ ll ml LN w W1 wk):=hq_ ⟨_,M,by rw [HM.out,LEAVE.out hA],HV.out,HBO.out,HG.out⟩;by_cases c1:k<ml.length
    ·have c1I:(k:Int)<ml.length:=oq_;by_cases c2:k<3
     ·have c2I:(k:Int)<3:=oq_;have c3I:¬ (k:Int)<ll.length:=oq_;go_wp2_with fail
      go_meet
      exact HEND
     ·have c2I:¬ (k:Int)<3:=oq_;go_wp2_with fail
      go_meet
      exact HEND
    ·have c1I:¬ (k:Int)<ml.length:=oq_;go_wp2_with fail
     go_meet
     exact HEND
 case rest=>
  obtain ⟨v,M,hM,hV,hO,hG⟩:=hcut.out;obtain ⟨va,vc,rfl,-⟩:=hV.form;have HM:=hq_ hM;have HV0:=hq_ hV;have HO0:=hq_ hO;have HG0:=hq_ hG;have hs14:=HS1.out;clear hcut hM hV hO hG;go_wp2_with fail
  go_loopw [7,8] (fun iv _ wr=>∃ (k:Nat) (xv:Value) (xl:List Inst),k≤4∧k≤el.length∧iv=.int .i64 k∧xl.length≤k∧Hid (xl=extF (el.take k))∧Hid (ExtL wr (fun b=>w.heap.size+4≤b) xv xl)∧Hid (OwnC (w.heap.size+4) (fun _=>False) wr (.slice va M.length vc) M)∧Hid (Bxx wr (w.heap.size+1+1+1) #[.slice va M.length vc,.int .i64 LN,xv] 55)∧Hid (W1.grownBy wr (some (w.heap.size+1+1+1)))) (fun iv _ _=>4-(intOf iv).toNat)
  case atStart=>exact ⟨0,.slice none 0 0,[],oq_,oq_,rfl,sq_,hq_ rfl,hq_ ⟨⟨none,0,rfl,sq_,oq_,.inl rfl⟩,sq_,sq_⟩,HV0,HO0,HG0⟩
  case round=>
   obtain ⟨k,xv,xl,hk4,hke,rfl,hxk,HXL,HX,HV,HBO,HG⟩:=hrel;obtain ⟨wk,hwk⟩:∃ x,x=wr:=⟨_,rfl⟩;subst hwk;obtain ⟨xa,xc,rfl⟩:=HX.out.form;have hgz:=HG.out.size;have HBK:Hid (Below w.heap.size w wk):=hq_ (KB.out.grown HG.out KB.out.size fun q e=>by injection e with e;omega);have hkz:=HBK.out.size;have hr0:Bxx wk w.heap.size #[.slice da ll.length dc,.slice ma ml.length mc,.int .u8 ln,.slice ea el.length ec] 49:=(HG.out.block _ oq_ (by intro e;injection e with e;omega)).trans K0.out;have x3:=(hr0.cells 3).1;clear hr0;by_cases hA:k<el.length∧k<4
   ·obtain ⟨c1,c2⟩:=hA;have c1I:(k:Int)<el.length:=oq_;have c2I:(k:Int)<4:=oq_;obtain ⟨⟨a',cc',he',hcl⟩,_,_⟩:=HR.out.ext.ext HBK.out;injection he' with e1 _ e2
    subst e1;subst e2;rcases hcl with hcl|⟨b8,f8,rfl,hcl⟩
    ·rw [hcl] at c1;simp at c1
    have z0:=hcl k c1;have hyr:=HER.out _ (ac_ (d:=0) c1);have HTK:Hid (el.take (k+1)=el.take k ++ [el.getD k 0]):=hq_ (by rw [List.take_succ_eq_append_getElem c1,List.getD_eq_getElem?_getD,List.getElem?_eq_getElem c1];rfl);obtain ⟨y,hy⟩:∃ y,el.getD k 0=y:=⟨_,rfl⟩;rw [hy] at z0 hyr HTK;clear hcl hy;obtain ⟨y1,y2⟩:=hyr;obtain ⟨d,hd⟩:∃ d,y % 7=d:=⟨_,rfl⟩;obtain ⟨q,hq⟩:∃ q,y / 5760=q:=⟨_,rfl⟩;obtain ⟨m5,hm5⟩:∃ m,y % 5760=m:=⟨_,rfl⟩;obtain ⟨fr,hfr⟩:∃ fr,15*m5-2880=fr:=⟨_,rfl⟩;have htd:y.tmod 7=d:=by rw [Int.tmod_eq_emod_of_nonneg y1];exact hd
    have htq:y.tdiv 5760=q:=by rw [Int.tdiv_eq_ediv_of_nonneg y1];exact hq
    have htm:y.tmod 5760=m5:=by rw [Int.tmod_eq_emod_of_nonneg y1];exact hm5
    have hdb:0≤d∧d<7:=oq_;have hqb:0≤q∧q≤11:=oq_;have hmb:0≤m5∧m5<5760:=oq_;have hfb:-2880≤fr∧fr≤83505:=oq_;obtain ⟨d1,d2⟩:=hdb;obtain ⟨q1,q2⟩:=hqb;obtain ⟨m1,m2⟩:=hmb;obtain ⟨fr1,fr2⟩:=hfb;have HXE:Hid (extI y=⟨d,fr,fr+15*(1+q*7)⟩):=hq_ (by unfold extI;rw [hd,hq,hm5,hfr]);obtain ⟨XL,hXL⟩:∃ XL,insI xl ⟨d,fr,fr+15*(1+q*7)⟩=XL:=⟨_,rfl⟩;have HXX:=hq_ hXL;have hlx:XL.length≤k+1:=by rw [<- hXL];have:=g0_ (l:=xl) (x:=⟨d,fr,fr+15*(1+q*7)⟩);omega
    have HIN:=hq_ (fun W (hb:Below wk.heap.size wk W)=>q0_ (w.heap.size+4) (.slice xa xl.length xc) xl ⟨d,fr,fr+15*(1+q*7)⟩ W (HX.out.ext hb) ⟨by constructor <;> (show _≤_;simp only;omega),by constructor <;> (show _≤_;simp only;omega),by constructor <;> (show _≤_;simp only;omega)⟩ oq_ (by have:=hb.size;omega));rw [hXL] at HIN;have o2:=(HBO.out.cells 2).1;have HFR:=hq_ hfr;clear hd hq hm5 hXL;go_upto_region 14 with (fail)
    refine aw_ (w0:=wk) [0,1,2,3,4,5,6,7,8,9,10,11,12,13,14,15,16,17,18,19,20,21,22,23,24,25] [26] [85,86,87,88,89,90,91,92,93,94,95,96,97,98,99,100,101,102,103,104,105,106,107,108,109,110] [.pointer (some ⟨w.heap.size+1+1+1,2,none⟩),.slice xa xl.length xc,.pointer (some ⟨w.heap.size,3,none⟩),.slice (some ⟨b8,f8,none⟩) el.length ec,.int .i64 k,.pointer (some ⟨b8,f8+k,none⟩),.int .u16 y,.int .i64 y,.int .i64 d,.int .i64 fr,.int .i64 fr,.pointer (some ⟨w.heap.size,3,none⟩),.slice (some ⟨b8,f8,none⟩) el.length ec,.int .i64 k,.pointer (some ⟨b8,f8+k,none⟩),.int .u16 y,.int .i64 y,.int .i64 q,.int .i64 (q*7),.int .i64 (1+q*7),.int .i64 (15*(1+q*7)),.int .i64 (fr+15*(1+q*7)),.agg #[.int .i64 fr,.int .i64 (fr+15*(1+q*7))],.agg #[.int .i64 d,.int .i64 fr,.int .i64 (fr+15*(1+q*7))],undef,.pointer (some ⟨w.heap.size+1+1+1,2,none⟩)] [[],[0],[],[2],[],[3,4],[5],[6],[7],[],[],[],[11],[],[12,13],[14],[15],[16],[17],[18],[19],[10,20],[9,21],[8,22],[1,23],[]] [] [24] (fun i v lo hi W=>match i with|24=>∃ a c,v 24=.slice a XL.length c∧ExtL W (fun b=>w.heap.size+4≤b) (v 24) XL|_=>True) (.a o2 (.a x3 (.z z0))) ?steps14 ?fin14 (stab:=?stab14)
    case stab14=>
     refine ⟨?_,trivial⟩
     ·intro v lo hi W W' h hb;exact (let ⟨a,c,e,h⟩:=h;⟨a,c,e,h.ext hb⟩)
    case steps14=>
     repeat' first|exact .n|refine .d ?_ ?_|fail
     all_goals try exact stw
     ·rintro v lo hi W hb ⟨g0,g1,g2⟩ _;refine .inl ⟨rfl,fun K hK=>?_⟩;simp only [ov,vat,Nat.reduceBEq,cond_true,cond_false];go_wp2_with (go_at_call 109;(with_reducible refine (HIN.out _ hb).mono ?_);rintro e w9 ⟨a9,c9,rfl,ho9,hb9⟩)
      exact acx (hK (.slice a9 XL.length c9) w9 hb9 ⟨a9,c9,rfl,ho9⟩) (by simp [ov,vat,upd])
    case fin14=>
     rintro v lo hi W6 hb6 ⟨g0,g1,g2⟩ hf hap;show wpList _ _ _ [_] _ _;obtain ⟨-,-,-,a9,c9,e24,hx9⟩:=hf 24 rfl;have e25:v 25=.pointer (some ⟨w.heap.size+1+1+1,2,none⟩):=(hf 25 rfl).2.2.2;clear hf hap
     (try dsimp only)
     rw [e24,e25];rw [e24] at hx9;have ho6:=HBO.out.below hb6;have o6:=ho6.cells 2;have HO6:=hq_ ho6;have HX9:=hq_ hx9;have HB6:=hq_ hb6;have hz6:=hb6.size;clear g0 g1 g2 o2 x3 z0 hb6 ho6 hx9 e24 e25;generalize v 0=z0,v 1=z1,v 2=z2,v 3=z3,v 4=z4,v 5=z5,v 6=z6,v 7=z7,v 8=z8,v 9=z9,v 10=z10,v 11=z11,v 12=z12,v 13=z13,v 14=z14,v 15=z15,v 16=z16,v 17=z17,v 18=z18,v 19=z19,v 20=z20,v 21=z21,v 22=z22,v 23=z23;go_wp2_with fail
     go_roundw
     case rel=>
      have hgs:World.grownBy W6 (W6.setCell ⟨w.heap.size+1+1+1,2,none⟩ (.slice a9 XL.length c9)) (some (w.heap.size+1+1+1)):=World.grownBy.set' ⟨rfl,rfl,rfl,Nat.le_refl _,fun _ _ _=>rfl⟩ _;exact ⟨k+1,.slice a9 XL.length c9,XL,oq_,oq_,by go_num,oq_,hq_ (by rw [HTK.out,rl_,HXE.out,<- HXL.out,HXX.out]),hq_ (HX9.out.keep (a3_.grown hgs oq_) hgs.size),hq_ ((HV.out.below ar_ HB6.out).low ar_ hgs oq_),hq_ (a0_ 2 _ HO6.out),hq_ (World.grownBy.trans' (World.grownBy.trans' HG.out (World.grownBy.of_below HB6.out _)) hgs)⟩
     case measure=>simp [intOf];omega
   ·have HFE:Hid (xl=extF (el.take 4)):=hq_ (by
     rw [HXL.out];by_cases h4:k=4
     ·rw [h4]
     ·rw [List.take_of_length_le (show el.length≤k by omega),List.take_of_length_le (show el.length≤4 by omega)])
    have hml:M.length=(clsF ll ml (min 3 (min ml.length ll.length))).length:=by rw [<- HM.out,List.length_map]
    have HML:=hq_ hml;have HXE:Hid (xl.length=(extF (el.take 4)).length):=hq_ (by rw [<- HFE.out]);have hr1:Bxx wk (w.heap.size+1) #[.slice none 0 0,.int .i64 0,.slice none 0 0] 55:=(HG.out.block _ oq_ (by intro e;injection e with e;omega)).trans K1.out;have HR1:=hq_ hr1;have j0:=hr1.cells 0;have j1:=hr1.cells 1;have j2:=hr1.cells 2;have t0:=(HBO.out.cells 0).1;have t1:=(HBO.out.cells 1).1;have t2:=(HBO.out.cells 2).1;clear hml hr1;have DONE:∀ (ts:Array Value),True:=fun _=>trivial;clear DONE;by_cases c1:k<el.length
    ·have c1I:(k:Int)<el.length:=oq_;have c2I:¬ (k:Int)<4:=oq_;go_wp2_with fail
     have hfin:=oz_ (x':=.slice va M.length vc) (y':=.int .i64 LN) (z':=.slice xa xl.length xc) HR1.out;have s0:=(hfin.cells 0).1;have s1:=(hfin.cells 1).1;have s2:=(hfin.cells 2).1;have hbf:=HBK.out;have hgs:World.grownBy wk (((wk.setCell ⟨w.heap.size+1,0,none⟩ (.slice va M.length vc)).setCell ⟨w.heap.size+1,1,none⟩ (.int .i64 LN)).setCell ⟨w.heap.size+1,2,none⟩ (.slice xa xl.length xc)) (some (w.heap.size+1)):=World.grownBy.set' (World.grownBy.set' (World.grownBy.set' ⟨rfl,rfl,rfl,Nat.le_refl _,fun _ _ _=>rfl⟩ _) _) _;have hst:StrR _ (fun b=>w.heap.size≤b) (.slice va M.length vc) (.slice xa xl.length xc) (jh_ ll ml ln el):=⟨M,HM.out,(HV.out.low ar_ hgs oq_).clsL.mono fun b h=>by have:=h.1;omega,by
      have h1:=(HX.out.keep (a3_.grown hgs oq_) hgs.size).mono (G:=fun b=>w.heap.size≤b) fun b h=>oq_;rw [HFE.out] at h1 ⊢;exact h1,by show InI (lenF ln);rw [HLN.out];exact ⟨oq_,oq_⟩⟩
     refine bodyPost_ret (v:=.agg #[.slice va M.length vc,.int .i64 LN,.slice xa xl.length xc]) (by simp [results,Tryz.results64,go_sem,s0,s1,s2]) rfl ?_;rw [HML.out,HXE.out] at hst ⊢;exact ⟨va,vc,xa,xc,by rw [<- HLN.out];rfl,hst.lt,xE⟩
    ·have c1I:¬ (k:Int)<el.length:=oq_;go_wp2_with fail
     have hfin:=oz_ (x':=.slice va M.length vc) (y':=.int .i64 LN) (z':=.slice xa xl.length xc) HR1.out;have s0:=(hfin.cells 0).1;have s1:=(hfin.cells 1).1;have s2:=(hfin.cells 2).1;have hbf:=HBK.out;have hgs:World.grownBy wk (((wk.setCell ⟨w.heap.size+1,0,none⟩ (.slice va M.length vc)).setCell ⟨w.heap.size+1,1,none⟩ (.int .i64 LN)).setCell ⟨w.heap.size+1,2,none⟩ (.slice xa xl.length xc)) (some (w.heap.size+1)):=World.grownBy.set' (World.grownBy.set' (World.grownBy.set' ⟨rfl,rfl,rfl,Nat.le_refl _,fun _ _ _=>rfl⟩ _) _) _;have hst:StrR _ (fun b=>w.heap.size≤b) (.slice va M.length vc) (.slice xa xl.length xc) (jh_ ll ml ln el):=⟨M,HM.out,(HV.out.low ar_ hgs oq_).clsL.mono fun b h=>by have:=h.1;omega,by
      have h1:=(HX.out.keep (a3_.grown hgs oq_) hgs.size).mono (G:=fun b=>w.heap.size≤b) fun b h=>oq_;rw [HFE.out] at h1 ⊢;exact h1,by show InI (lenF ln);rw [HLN.out];exact ⟨oq_,oq_⟩⟩
     refine bodyPost_ret (v:=.agg #[.slice va M.length vc,.int .i64 LN,.slice xa xl.length xc]) (by simp [results,Tryz.results64,go_sem,s0,s1,s2]) rfl ?_;rw [HML.out,HXE.out] at hst ⊢;exact ⟨va,vc,xa,xc,by rw [<- HLN.out];rfl,hst.lt,xE⟩
def CpS (n:Nat) (S:Str) (v:Value) (W:World):Prop:=∃ a1 c1 a2 c2,v=.agg #[.slice a1 S.cls.length c1,.int .i64 S.len,.slice a2 S.ext.length c2]∧StrR W (fun b=>n≤b) (.slice a1 S.cls.length c1) (.slice a2 S.ext.length c2) S
theorem CpS.ext {S:Str} (h:CpS n S v W) (hb:Below W.heap.size W W'):CpS n S v W':=by
 obtain ⟨a1,c1,a2,c2,e,g⟩:=h;exact ⟨a1,c1,a2,c2,e,g.ext hb⟩
def EnS (n:Nat) (id rk:Int) (fm:Bool) (S:Str) (v:Value) (W:World):Prop:=∃ a1 c1 a2 c2,v=.agg #[.int .i64 id,.bool fm,.int .i64 rk,.slice a1 S.cls.length c1,.int .i64 S.len,.slice a2 S.ext.length c2]∧StrR W (fun b=>n≤b) (.slice a1 S.cls.length c1) (.slice a2 S.ext.length c2) S
theorem EnS.ext {id rk:Int} {fm:Bool} {S:Str} (h:EnS n id rk fm S v W) (hb:Below W.heap.size W W'):EnS n id rk fm S v W':=by
 obtain ⟨a1,c1,a2,c2,e,g⟩:=h;exact ⟨a1,c1,a2,c2,e,g.ext hb⟩
def xc_ (w:World) (e:Ending) (w':World):Prop:=∃ y:EntV,e=.returned y.val∧REnt w' (fun b=>w.heap.size≤b) y∧lk_ y.ent∧Below w.heap.size w w'
theorem Bxx.set6 {b:Nat} {x0 x1 x2 x3 x4 x5 y0 y1 y2 y3 y4 y5:Value} {t:TypeId} (h:Bxx W b #[x0,x1,x2,x3,x4,x5] t) :
  Bxx ((((((W.setCell ⟨b,0,none⟩ y0).setCell ⟨b,1,none⟩ y1).setCell ⟨b,2,none⟩ y2).setCell ⟨b,3,none⟩ y3).setCell ⟨b,4,none⟩ y4).setCell ⟨b,5,none⟩ y5) b #[y0,y1,y2,y3,y4,y5] t∧W.grownBy ((((((W.setCell ⟨b,0,none⟩ y0).setCell ⟨b,1,none⟩ y1).setCell ⟨b,2,none⟩ y2).setCell ⟨b,3,none⟩ y3).setCell ⟨b,4,none⟩ y4).setCell ⟨b,5,none⟩ y5) (some b):=
 ⟨a0_ 5 y5 (a0_ 4 y4 (a0_ 3 y3 (a0_ 2 y2 (a0_ 1 y1 (a0_ 0 y0 h))))),World.grownBy.set' (World.grownBy.set' (World.grownBy.set' (World.grownBy.set' (World.grownBy.set' (World.grownBy.set' ⟨rfl,rfl,rfl,Nat.le_refl _,fun _ _ _=>rfl⟩ _) _) _) _) _) _⟩
theorem w3_ {k:Int} (h:0≤x) (hk:0<k):0≤Int.tmod x k∧Int.tmod x k<k:=by
 rw [Int.tmod_eq_emod_of_nonneg h];exact ⟨Int.emod_nonneg _ oq_,Int.emod_lt_of_pos _ hk⟩
theorem rf_ (x:RwV) (w:World) (h:RwOk w x):Calls Tryz.prog 25 #[x.val] w (xc_ w):=by
 obtain ⟨⟨ll,ml,el,hraw⟩,m0,m1,r0,r1⟩:=h;obtain ⟨mt,rk,fm,⟨dv,mv,ln,ev⟩⟩:=x;dsimp only [RwV.val] at *;obtain ⟨S,hS⟩:∃ S,jh_ ll ml ln el=S:=⟨_,rfl⟩;have HMS:Hid (hf_ S):=hq_ (hS ▸ q6_ hraw.mins.rng hraw.ext.rng);have HMD:Hid (∀ W,Below w.heap.size w W->Calls Tryz.prog 64 #[.agg #[dv,mv,.int .u8 ln,ev]] W (od_ S W)):=hq_ (fun W hb=>hS ▸ q4_ ⟨dv,mv,ln,ev⟩ ll ml el W (hraw.below hb));have hm5:=w3_ (k:=12) m0 oq_;have hr5:=w3_ (k:=6) r0 oq_;obtain ⟨m,hm⟩:∃ m,Int.tmod mt 12=m:=⟨_,rfl⟩;obtain ⟨r,hr⟩:∃ r,Int.tmod rk 6=r:=⟨_,rfl⟩;rw [hm] at hm5;rw [hr] at hr5;clear hS hraw
 go_enter Tryz.func25,Tryz.ntmps25
 go_upto_region 1 with fail
 refine bh_ (F:=fun U=>Bxx U w.heap.size #[.int .u8 mt,.int .u8 rk,.bool fm,dv,mv,.int .u8 ln,ev] 51∧Bxx U (w.heap.size+1) #[.int .i64 0,.bool false,.int .i64 0,.slice none 0 0,.int .i64 0,.slice none 0 0] 57∧Below w.heap.size w U) ⟨(Bxx.new w _ _).alloc _,Bxx.at sq_,xE⟩ ?_;rintro w2 ⟨hb,hr0,hu⟩;have x0:=(hb.cells 0).1;have x1:=(hb.cells 1).1;have x2:=(hb.cells 2).1;have x3:=(hb.cells 3).1;have x4:=(hb.cells 4).1;have x5:=(hb.cells 5).1;have x6:=(hb.cells 6).1;have HR0:=hq_ hr0;have HU:=hq_ hu;clear hb hr0 hu;refine aw_ (w0:=w2) [0,1,2,3,4,5,6,7,8,9,10,11,12,13,14] [15] [3,4,5,6,7,8,9,10,11,12,13,14,15,16,17] [.pointer (some ⟨w.heap.size,0,none⟩),.int .u8 mt,.int .u8 m,.int .i64 m,.int .i64 (1+m),.pointer (some ⟨w.heap.size,2,none⟩),.bool fm,.pointer (some ⟨w.heap.size,1,none⟩),.int .u8 rk,.int .u8 r,.int .i64 r,.pointer (some ⟨w.heap.size,3,none⟩),.agg #[dv,mv,.int .u8 ln,ev],undef,undef] [[],[0],[1],[2],[3],[],[5],[],[7],[8],[9],[],[11],[12],[4,6,10]] [[],[],[],[],[],[],[],[],[],[],[],[],[],[],[13]] [13,14] (fun i v lo hi W=>match i with|13=>CpS w2.heap.size S (v 13) W|14=>EnS w2.heap.size (1+m) r fm S (v 14) W|_=>True) (.a x0 (.a x1 (.a x2 (.a x3 (.a x4 (.a x5 (.z x6))))))) ?steps ?fin
 case steps=>
  repeat' first|exact .n|refine .c ?_ ?_|fail
  all_goals try exact stw
  ·rintro v lo hi W hb ⟨g0,g1,g2,g3,g4,g5,g6⟩ _;refine .inl ⟨rfl,fun K hK=>?_⟩;simp only [ov,vat,Nat.reduceBEq,cond_true,cond_false];go_wp2_with (go_at_call 64;(with_reducible refine (HMD.out _ (Et HU.out hb)).mono ?_);rintro e w9 ⟨a1,c1,a2,c2,rfl,hst,hb9⟩)
   exact acx (hK (.agg #[.slice a1 S.cls.length c1,.int .i64 S.len,.slice a2 S.ext.length c2]) w9 hb9 ⟨a1,c1,a2,c2,rfl,hst.mono fun b h=>Nat.le_trans hb.size h.1⟩) (by simp [ov,vat,upd])
  ·rintro v lo hi W hb ⟨g0,g1,g2,g3,g4,g5,g6⟩ ⟨⟨la13,lb13,D13⟩,_⟩;refine .inl ⟨rfl,fun K hK=>?_⟩;simp only [ov,vat,Nat.reduceBEq,cond_true,cond_false]
   (try dsimp only at D13)
   obtain ⟨a1,c1,a2,c2,e13,hst⟩:=D13
   (try simp only [e13])
   go_wp2_with fail
   exact acx (hK (.agg #[.int .i64 (1+m),.bool fm,.int .i64 r,.slice a1 S.cls.length c1,.int .i64 S.len,.slice a2 S.ext.length c2]) W (Below.refl _ _) ⟨a1,c1,a2,c2,rfl,hst⟩) (by simp [ov,vat,upd,e13])
 case fin=>
  rintro v lo hi W3 hb3 ⟨-,-,-,-,-,-,-⟩ hf hap;show wpList _ _ _ [_] _ _;obtain ⟨-,-,-,a1,c1,a2,c2,e14,hst⟩:=hf 14 rfl;have hbx:=HR0.out.below hb3;have c0:=hbx.cells 0;have c1':=hbx.cells 1;have c2':=hbx.cells 2;have c3:=hbx.cells 3;have c4:=hbx.cells 4;have c5:=hbx.cells 5;have HST:=hq_ hst;have HBX:=hq_ hbx;have HB3:=hq_ (Et HU.out hb3);rw [e14];clear hf hap hst hbx hb3 e14 x0 x1 x2 x3 x4 x5 x6;generalize v 0=yv0,v 1=yv1,v 2=yv2,v 3=yv3,v 4=yv4,v 5=yv5,v 6=yv6,v 7=yv7,v 8=yv8,v 9=yv9,v 10=yv10,v 11=yv11,v 12=yv12,v 13=yv13;have hz2:=HR0.out.lt;go_wp2_with fail
  have hs:=HBX.out.set6 (y0:=.int .i64 (1+m)) (y1:=.bool fm) (y2:=.int .i64 r) (y3:=.slice a1 S.cls.length c1) (y4:=.int .i64 S.len) (y5:=.slice a2 S.ext.length c2);generalize ((((((W3.setCell ⟨w.heap.size+1,0,none⟩ (.int .i64 (1+m))).setCell ⟨w.heap.size+1,1,none⟩ (.bool fm)).setCell ⟨w.heap.size+1,2,none⟩ (.int .i64 r)).setCell ⟨w.heap.size+1,3,none⟩ (.slice a1 S.cls.length c1)).setCell ⟨w.heap.size+1,4,none⟩ (.int .i64 S.len)).setCell ⟨w.heap.size+1,5,none⟩ (.slice a2 S.ext.length c2))=W4 at hs ⊢;obtain ⟨hs,hg⟩:=hs;have s0:=(hs.cells 0).1;have s1:=(hs.cells 1).1;have s2:=(hs.cells 2).1;have s3:=(hs.cells 3).1;have s4:=(hs.cells 4).1;have s5:=(hs.cells 5).1;refine bodyPost_ret (v:=.agg #[.int .i64 (1+m),.bool fm,.int .i64 r,.slice a1 S.cls.length c1,.int .i64 S.len,.slice a2 S.ext.length c2]) (by simp [results,Tryz.results25,go_sem,s0,s1,s2,s3,s4,s5]) rfl ?_;have hst:=(HST.out.keep (a3_.grown hg (fun h=>by have:w2.heap.size≤w.heap.size+1:=h;omega)) hg.size).mono (G:=fun b=>w.heap.size≤b) fun b hb=>Nat.le_trans HU.out.size hb;have hI:∀ x:Int,0≤x∧x≤1000->InI x:=fun x h=>⟨oq_,oq_⟩;exact ⟨⟨1+m,fm,r,.slice a1 S.cls.length c1,.slice a2 S.ext.length c2,S⟩,rfl,⟨hst,hI (1+m) oq_,hI r oq_⟩,⟨⟨⟨by show 1≤1+m;omega,by show 1+m≤1099511627776;omega⟩,⟨by show 0≤r;omega,by show r≤100;omega⟩,HMS.out.ms.val⟩,HMS.out.sms,⟨by show 1≤1+m;omega,by show 1+m≤12;omega⟩,⟨by show 0≤r;omega,by show r≤5;omega⟩,HMS.out.near⟩,HB3.out.grown hg HB3.out.size (fun q e=>by injection e with e;omega)⟩
def w7_ (w:World) (e:Ending) (w':World):Prop:=∃ v L,e=.returned v∧p2_ (L.map EntV.ent)∧DiaL w' (fun b=>w.heap.size≤b) v L∧Below w.heap.size w w'
theorem q5_ (v:Value) (A:List RwV) (w:World) (h:RwsR w v A):Calls Tryz.prog 14 #[v] w (w7_ w):=by
 obtain ⟨a,c,rfl⟩:∃ a c,v=.slice a A.length c:=by obtain ⟨a,c,e,_⟩:=h.row.is;exact ⟨a,c,e⟩
 have hlen:(A.length:Int)≤9223372036854775807:=by obtain ⟨a',c',e,h1,h2,_⟩:=h.row.is;omega
 have H:=hq_ h;clear h
 go_enter Tryz.func14,Tryz.ntmps14
 go_wp2_with fail
 go_loopw [3,4] (fun ov iv wr=>∃ (k:Nat) (L:List EntV),k≤4∧k≤A.length∧iv=.int .i64 k∧Hid (ex_ k (L.map EntV.ent))∧Hid (DiaL wr (fun b=>w.heap.size≤b) ov L)∧Hid (Below w.heap.size w wr)) (fun _ iv _=>4-(intOf iv).toNat)
 case atStart=>exact ⟨0,[],oq_,oq_,rfl,hq_ .nil,hq_ ⟨⟨_,0,rfl,sq_,oq_,.inl rfl⟩,sq_,sq_⟩,hq_ xE⟩
 case round=>
  obtain ⟨k,L,hk4,hkA,rfl,HMI,HD,HB⟩:=hrel;obtain ⟨oa,oc,rfl⟩:=HD.out.form;by_cases hlt:k<A.length
  ·have hlI:(k:Int)<A.length:=oq_;by_cases h4:k<4
   ·have h4I:(k:Int)<4:=oq_;obtain ⟨b,o,x,rfl,hbl,hx,hok,e0,e1,e2,e3,e4,e5,e6⟩:=(H.out.below HB.out).get hlt;have hen:=fun W (hb:Below wr.heap.size wr W)=>rf_ x W (hok.below hb);obtain ⟨mt,rk,fm,⟨dv,mv,ln,ev⟩⟩:=x;dsimp only [RwV.val] at *;have HEN:=hq_ hen;have HLT:=hq_ (show k+1≤A.length by omega);have HL4:=hq_ (show k+1≤4 by omega);have hsm:SmD (L.map EntV.ent):=HMI.out.sm oq_;have HSM:=hq_ hsm;have hwz:=HB.out.size;clear hx hok hen hsm;go_wp2_with (first|(go_at_call 25;(with_reducible refine (HEN.out _ (Er _)).mono ?_);rintro e w4 ⟨y,rfl,hyr,hyo,hb4⟩;have hpt:=qg_ (fun b=>w.heap.size≤b) (fun b=>wr.heap.size≤b) (.slice oa L.length oc) L y w4 (HD.out.ext hb4) HSM.out hyr hyo.good;obtain ⟨y1,g1,y2,g2,hycv,hyev⟩:=hyr.1.form;obtain ⟨yid,yfm,yrk,ycv,yev,ys⟩:=y;dsimp only at hycv hyev;subst hycv;subst hyev;dsimp only [EntV.val] at hpt ⊢;have HPT:=hq_ hpt;have HYO:=hq_ hyo;have HB4:=hq_ hb4;clear hpt hyr hyo hb4)|(go_at_call 34;(with_reducible refine HPT.out.mono ?_);rintro e w5 ⟨v5,M,rfl,hM,hD,hb5⟩;obtain ⟨ma,mc,rfl⟩:=hD.form;have HM:=hq_ hM;have HD5:=hq_ hD;have HB5:=hq_ hb5;clear hM hD hb5))
    go_roundw
    case rel=>
     have h45:=HB4.out.size;exact ⟨k+1,M,HL4.out,HLT.out,by go_num,hq_ (by rw [HM.out];exact HMI.out.put HYO.out),hq_ (HD5.out.mono fun b hb=>by rcases hb with hb|hb|hb <;> omega),hq_ (Et HB.out (Et HB4.out HB5.out))⟩
    case measure=>simp [intOf];omega
   ·obtain rfl:k=4:=oq_;go_wp2_with fail
    go_ret;exact ⟨_,L,rfl,⟨HMI.out.asc,HMI.out.ok,HMI.out.len⟩,HD.out,HB.out⟩
  ·have hlI:¬ (k:Int)<A.length:=oq_;go_wp2_with fail
   go_ret;exact ⟨_,L,rfl,⟨HMI.out.asc,HMI.out.ok,by have:=HMI.out.len;omega⟩,HD.out,HB.out⟩
theorem mj_ {F:Nat->Prop} {a:Option Addr} {R:List a4_} (h:RowR W F (.slice a n c) R.length (R.flatMap menc)) (hk:k<R.length) :
  ∃ b o,a=some ⟨b,o,none⟩∧b<W.heap.size∧W.cell? ⟨b,o+k*3,none⟩=some (.int .i64 (R.getD k default).frm)∧W.cell? ⟨b,o+k*3+1,none⟩=some (.int .i64 (R.getD k default).fin)∧W.cell? ⟨b,o+k*3+2,none⟩=some (.int .i64 (R.getD k default).kind):=by
 obtain ⟨a',c',he,h1,h2,h3⟩:=h.is;injection he with e1 _ e2
 subst e1;subst e2;rcases h3 with h3|⟨b,o,rfl,hF,hl,hc⟩
 ·omega
 ·exact ⟨b,o,rfl,hl,hc (k*3+0) _ (a7_ iq_ default hk rfl),hc (k*3+1) _ (a7_ iq_ default hk rfl),hc (k*3+2) _ (a7_ iq_ default hk rfl)⟩
theorem xi_ {F:Nat->Prop} {a:Option Addr} {R:List a4_} (h:RowR W F (.slice a n c) R.length (R.flatMap denc)) (hk:k<R.length) :
  ∃ b o,a=some ⟨b,o,none⟩∧b<W.heap.size∧W.cell? ⟨b,o+k,none⟩=some (.int .i64 (R.getD k default).id):=by
 obtain ⟨a',c',he,h1,h2,h3⟩:=h.is;injection he with e1 _ e2
 subst e1;subst e2;rcases h3 with h3|⟨b,o,rfl,hF,hl,hc⟩
 ·omega
 ·have h4:=hc (k*1+0) _ (a7_ u5_ default hk rfl);rw [Nat.add_zero,Nat.mul_one] at h4;exact ⟨b,o,rfl,hl,h4⟩
theorem neqM (a b c:Int) (W:World):(binOp .neq 72 (.agg #[.int .i64 a,.int .i64 b,.int .i64 c]) (.agg #[.int .i64 a,.int .i64 b,.int .i64 c])).run Tryz.prog W=.ok (.bool false) W:=by
 simp [go_sem]
theorem mw_ (F G:Nat->Prop) (v1 v2:Value) (R:List a4_) (w:World) (h1:RowR w F v1 R.length (R.flatMap menc)) (h2:RowR w G v2 R.length (R.flatMap menc)) (hn:R.length≤1000000) :
  Calls Tryz.prog 23 #[v1,v2] w fun e w'=>e=.returned (.bool true)∧Below w.heap.size w w':=by
 obtain ⟨a1,n1,rfl,-⟩:=h1.is;obtain ⟨a2,n2,rfl,-⟩:=h2.is;have H1:=hq_ h1;have H2:=hq_ h2;have hdf:((R.length:Int) != (R.length:Int))=false:=by simp
 clear h1 h2
 go_enter Tryz.func23,Tryz.ntmps23
 go_wp2_with fail
 go_loopw [5] (fun i wr=>∃ k:Nat,k≤R.length∧i=.int .i64 k∧Hid (Below w.heap.size w wr)) (fun i _=>R.length-(intOf i).toNat)
 case atStart=>exact ⟨0,oq_,rfl,hq_ xE⟩
 case round=>
  obtain ⟨k,hk,rfl,HB⟩:=hrel;by_cases hlt:k<R.length
  ·have hlI:(k:Int)<R.length:=oq_;have HLT:=hq_ (show k+1≤R.length by omega);obtain ⟨p,hp⟩:∃ p,R.getD k default=p:=⟨_,rfl⟩;obtain ⟨b1,o1,rfl,_,c0,c1,c2⟩:=mj_ (H1.out.keep (a3_.below HB.out) HB.out.size) hlt;obtain ⟨b2,o2,rfl,_,g0,g1,g2⟩:=mj_ (H2.out.keep (a3_.below HB.out) HB.out.size) hlt;rw [hp] at c0 c1 c2 g0 g1 g2;have heq:=fun W=>neqM p.frm p.fin p.kind W;clear hp hlt;go_upto_region 6 with fail
   refine a9_ (w0:=wr) [0,1,2,3,4,5,6,7,8] [] [17,18,19,20,21,22,23,24,25] [.slice (some ⟨b1,o1,none⟩) R.length n1,.int .i64 k,.pointer (some ⟨b1,o1+k*3,none⟩),.agg #[.int .i64 p.frm,.int .i64 p.fin,.int .i64 p.kind],.slice (some ⟨b2,o2,none⟩) R.length n2,.int .i64 k,.pointer (some ⟨b2,o2+k*3,none⟩),.agg #[.int .i64 p.frm,.int .i64 p.fin,.int .i64 p.kind],.bool false] [[],[],[0,1],[2],[],[],[4,5],[6],[3,7]] (.a c0 (.a c1 (.a c2 (.a g0 (.a g1 (.z g2)))))) ?steps ?fin
   case steps=>
    repeat' first|exact .n|refine .c ?_ ?_|fail
    all_goals try exact stp
   case fin=>
    rintro W3 hb3 hg;show wpList _ _ _ [] _ _;simp only [vat];have HB3:=hq_ (Et HB.out hb3);clear hg hb3 c0 c1 c2 g0 g1 g2 heq;go_wp2_with fail
    go_roundw
    case rel=>exact ⟨k+1,HLT.out,by go_num,HB3⟩
    case measure=>simp [intOf];omega
  ·obtain rfl:k=R.length:=oq_;have hkI:¬ (R.length:Int)<R.length:=oq_;go_wp2_with fail
   go_ret;exact ⟨rfl,HB.out⟩
theorem sr_ (n:Int) (w:World) (hn:InI n) :
  Calls Tryz.prog 88 #[.int .i64 n,.int .i64 1440] w fun e w'=>e=.returned (.int .i64 (n / 1440))∧w=w':=by
 obtain ⟨k1,k2⟩:=hn;by_cases h:0≤n
 ·have hq:Int.tdiv n 1440=n / 1440:=Int.tdiv_eq_ediv_of_nonneg h;obtain ⟨q,hq2⟩:∃ q,n / 1440=q:=⟨_,rfl⟩;rw [hq2] at hq ⊢;have hb:-9000000000000000000≤q∧q≤9000000000000000000:=oq_;obtain ⟨b1,b2⟩:=hb;clear hq2
  go_enter Tryz.func88,Tryz.ntmps88
  go_wp2;go_ret;exact ⟨rfl,rfl⟩
 ·have hq:Int.tdiv (-1-n) 1440=(-1-n) / 1440:=Int.tdiv_eq_ediv_of_nonneg oq_;obtain ⟨q,hq2⟩:∃ q,(-1-n) / 1440=q:=⟨_,rfl⟩;rw [hq2] at hq;have hr:n / 1440=-1-q:=oq_;rw [hr];have hb:-9000000000000000000≤q∧q≤9000000000000000000:=oq_;obtain ⟨b1,b2⟩:=hb;clear hq2 hr
  go_enter Tryz.func88,Tryz.ntmps88
  go_wp2;go_ret;exact ⟨rfl,rfl⟩
theorem ts_ (a1 a2 a3:Option Addr) (n1 c1 n2 c2 n3 c3:Nat) (len mi d:Int) (w:World) (h1:1≤len) (h2:len≤10080) (h3:-4320≤mi) (h4:mi≤4320) (h5:-4503599627370496≤d) (h6:d≤4503599627370496) :
  Calls Tryz.prog 137 #[.agg #[.slice a1 n1 c1,.int .i64 len,.slice a2 n2 c2],.agg #[.slice a3 n3 c3,.int .i64 mi],.int .i64 d] w fun e w'=>e=.returned (.agg #[.int .i64 d,.int .i64 (d*1440+mi),.int .i64 (d*1440+mi+len)])∧Below w.heap.size w w':=by
 go_enter Tryz.func137,Tryz.ntmps137
 go_wp2;have hr:Bxx (((w.alloc (.cells #[.slice a1 n1 c1,.int .i64 len,.slice a2 n2 c2] 55)).alloc (.cells #[.slice a3 n3 c3,.int .i64 mi] 130)).alloc (.cells #[.int .i64 d,.int .i64 (d*1440+mi),.int .i64 (d*1440+mi+len)] 77)) (w.heap.size+1+1) #[.int .i64 d,.int .i64 (d*1440+mi),.int .i64 (d*1440+mi+len)] 77:=Bxx.at sq_;have s0:=(hr.cells 0).1;have s1:=(hr.cells 1).1;have s2:=(hr.cells 2).1;exact bodyPost_ret (v:=.agg #[.int .i64 d,.int .i64 (d*1440+mi),.int .i64 (d*1440+mi+len)]) (by simp [results,Tryz.results137,go_sem,s0,s1,s2]) rfl ⟨rfl,xE⟩
theorem mt_ (a b c d:Int) (w:World) :
  Calls Tryz.prog 148 #[.agg #[.int .i64 a,.int .i64 b],.agg #[.int .i64 c,.int .i64 d]] w fun e w'=>e=.returned (.bool (decide (ae_ a b c d)))∧Below w.heap.size w w':=by
 by_cases h1:a<d
 ·by_cases h2:c<b;all_goals
   go_enter Tryz.func148,Tryz.ntmps148
   go_wp2;go_ret;exact ⟨a1_ (by simp [ae_,h1,h2]),xE⟩
 ·go_enter Tryz.func148,Tryz.ntmps148
  go_wp2;go_ret;exact ⟨a1_ (by rw [decide_eq_false (fun h:ae_ a b c d=>by have:=h.1;omega)]),xE⟩
def bo_ (l:List Inst):List Inst:=l.filter fun x=>decide (x.fin≤2251799813685248)
theorem ni_ {l:List Inst} (hk:k<l.length):bo_ (l.take (k+1))=bo_ (l.take k) ++ if (l.getD k default).fin≤2251799813685248 then [l.getD k default] else []:=by
 unfold bo_;rw [List.take_succ_eq_append_getElem hk,List.filter_append,a6_ hk];by_cases h:l[k].fin≤2251799813685248 <;> simp [h]
theorem pu_ {l:List Inst}:(bo_ (l.take k)).length≤k:=by
 unfold bo_;exact Nat.le_trans (List.length_filter_le _ _) (List.length_take_le _ _)
theorem nx_ (F:Nat->Prop) (v:Value) (l:List Inst) (w:World) (h:ExtL w F v l) (hl:l.length≤100000) :
  Calls Tryz.prog 95 #[v] w fun e w'=>∃ u,e=.returned u∧ExtL w' (fun b=>w.heap.size≤b) u (bo_ l)∧Below w.heap.size w w':=by
 obtain ⟨a1,c1,rfl⟩:=h.form;have HE:=hq_ h;obtain ⟨iI,iI1,iI2,iI3,iI4⟩:=fk_;have HII:=hq_ (And.intro iI1 (And.intro iI2 (And.intro iI3 iI4)));clear h iI1 iI2 iI3 iI4
 go_enter Tryz.func95,Tryz.ntmps95
 go_wp2_with fail
 go_loopw [3,4] (fun ov iv wr=>∃ k:Nat,k≤l.length∧iv=.int .i64 k∧Hid (OwnX w.heap.size (fun _=>False) wr ov (bo_ (l.take k)))∧Hid (Below w.heap.size w wr)) (fun _ iv _=>l.length-(intOf iv).toNat)
 case atStart=>exact ⟨0,oq_,rfl,hq_ (by rw [show bo_ (l.take 0)=[] by simp [bo_]];exact ⟨⟨sq_,.inr ⟨w.heap.size,0,#[],rfl,oq_,by simpa using World.alloc_heap_new w _,sq_,by simp [maxLen],sq_,sq_⟩⟩,sq_,fun _ _ h=>h,sq_⟩),hq_ (Ea (Er _) _)⟩
 case round=>
  obtain ⟨k,hk,rfl,HO,HB⟩:=hrel;have hwz:=HB.out.size;have hOl:=pu_ (l:=l) (k:=k);obtain ⟨O,hO⟩:∃ O,O=bo_ (l.take k):=⟨_,rfl⟩;rw [<- hO] at HO hOl;have HOO:=hq_ hO;have HOL:=hq_ (show O.length≤100000 by omega);clear hO;obtain ⟨oa,oc,rfl,-⟩:=HO.out.form;by_cases hlt:k<l.length
  ·have hlI:(k:Int)<l.length:=oq_;have HLT:=hq_ (show k+1≤l.length by omega);obtain ⟨b8,f8,x,rfl,hb8,hx,hix,e0,e1,e2⟩:=(HE.out.ext HB.out).get hlt;have htk:=ni_ hlt;rw [hx] at htk;have HIX:=hq_ hix;clear hx hlt hOl hix;by_cases ht:x.fin≤2251799813685248
   ·rw [if_pos ht] at htk;have HTK:=hq_ htk;clear htk;go_wp2_with (at_builtin;((refine ab_ rq_ _ _ _ _ rq_ iI _ 3 24 Tryz.underlying53 HII.out.1 HII.out.2.1 HII.out.2.2.1 HII.out.2.2.2 rfl dq_ dq_ w.heap.size (.slice oa O.length oc) O.length (O.flatMap ienc) (ienc x) rfl rq_ (HO.out.below am_ (Ea (Er wr) _)).row wr.heap.size 1 rq_ (cm_ (Bxx.new wr #[.int .i64 x.day,.int .i64 x.frm,.int .i64 x.fin] 77)) (by simp [ienc,Value.oneCell']) (by have:=HOL.out;omega) tq_ ?_);intro v' w9 hown9 hgrow9 hloc9;obtain ⟨na9,nc9,rfl⟩:=a5_ hown9;have HO9:=hq_ (OwnG.push (y:=x) am_ (HO.out.below am_ (Ea (Er wr) _)) HIX.out hown9 hgrow9 hloc9 (fun h=>h) (by have:=HOL.out;omega));have HB9:=hq_ ((Ea HB.out _).grown hgrow9 tq_ fun q e=>(HO.out.row.lt q e).1);clear hown9 hgrow9 hloc9))
    go_roundw
    case rel=>exact ⟨k+1,HLT.out,by go_num,hq_ (by rw [HTK.out,<- HOO.out];exact HO9.out),HB9⟩
    case measure=>have:=HLT.out;simp [intOf];omega
   ·rw [if_neg ht,List.append_nil] at htk;have HTK:=hq_ htk;clear htk;go_wp2_with fail
    go_roundw
    case rel=>exact ⟨k+1,HLT.out,by go_num,hq_ (by rw [HTK.out,<- HOO.out];exact HO.out),HB⟩
    case measure=>have:=HLT.out;simp [intOf];omega
  ·obtain rfl:k=l.length:=oq_;have hkI:¬ (l.length:Int)<l.length:=oq_;have hOe:O=bo_ l:=by rw [HOO.out,List.take_length]
   have HOE:=hq_ hOe;clear hOe hOl;go_wp2_with fail
   go_ret;exact ⟨_,rfl,by rw [<- HOE.out];exact HO.out.extL.mono fun b hb=>hb.1,HB.out⟩
theorem or_ {F:Nat->Prop} {l:List Inst} {x:Inst} {e:Ending} (h:ExtL w F lv l) (hr:ke_ lv l x w e w'):∃ u,e=.returned u∧ExtL w' (fun _=>True) u (insI l x)∧Below w.heap.size w w':=by
 obtain ⟨hb,u,rfl,⟨hx,rfl⟩|⟨hx,ho⟩⟩:=hr
 ·refine ⟨_,rfl,?_,hb⟩;unfold insI;rw [if_pos hx];exact (h.ext hb).mono fun _ _=>trivial
 ·refine ⟨_,rfl,?_,hb⟩;unfold insI;rw [if_neg hx];exact ho.extL.mono fun _ _=>trivial
theorem b0_.congr {s:Str} {x:Inst} {t:Int} {p q:List Inst} (h:b0_ s x k t p) (hm:∀ y,y∈q↔y∈p):b0_ s x k t q:=
 ⟨fun y hy=>h.is y ((hm y).1 hy),fun j y h1 h2 h3 h4=>(hm y).2 (h.all j y h1 h2 h3 h4),fun y h1 h2 h3=>(hm y).2 (h.row y h1 h2 h3)⟩
def WthS (s:Str) (a b:Int) (y:Inst):Prop:=(dc_ s y∨y∈s.ext)∧ae_ y.frm y.fin a b
def WthJ (s:Str) (a b:Int) (j:Nat) (y:Inst):Prop:=(dc_ s y∨y∈s.ext.take j)∧ae_ y.frm y.fin a b
theorem vm_ {s:Str} {y:Inst}:WthJ s a b s.ext.length y↔WthS s a b y:=by unfold WthJ WthS;rw [List.take_length]
theorem tg_ {s:Str} {y:Inst}:WthJ s a b 0 y↔ce_ s ⟨0,a,b⟩ y:=by
 unfold WthJ ce_ ae_;simp;exact fun _=>⟨fun h=>⟨h.2,h.1⟩,fun h=>⟨h.2,h.1⟩⟩
theorem tf_ {s:Str} {y:Inst} (hj:j<s.ext.length):WthJ s a b (j+1) y↔WthJ s a b j y∨(y=s.ext.getD j default∧ae_ y.frm y.fin a b):=by
 unfold WthJ;rw [List.take_succ_eq_append_getElem hj,List.mem_append,List.mem_singleton,a6_ hj];constructor
 ·rintro ⟨h|h|h,g⟩
  ·exact .inl ⟨.inl h,g⟩
  ·exact .inl ⟨.inr h,g⟩
  ·exact .inr ⟨h,g⟩
 ·rintro (⟨h|h,g⟩|⟨h,g⟩)
  ·exact ⟨.inl h,g⟩
  ·exact ⟨.inr (.inl h),g⟩
  ·exact ⟨.inr (.inr h),g⟩
def qz_ (s:Str) (a b:Int) (w:World) (e:Ending) (w':World):Prop:=
 ∃ u D,e=.returned u∧ExtL w' (fun _=>True) u D∧AscI D∧(∀ y,y∈D↔WthS s a b y)∧D.length≤200∧Below w.heap.size w w'
theorem nz_ (F:Nat->Prop) (cv ev:Value) (s:Str) (a b:Int) (w:World) (h:StrR w F cv ev s) (hs:SmS s) (hw:WinB a b) :
  Calls Tryz.prog 96 #[.agg #[cv,.int .i64 s.len,ev],.agg #[.int .i64 a,.int .i64 b]] w (qz_ s a b w):=by
 obtain ⟨L,h⟩:=h;obtain ⟨a1,c1,rfl⟩:=h.cl.form;obtain ⟨a2,n2,rfl⟩:=h.ex.form;have hln:s.cls.length=L.length:=by rw [<- h.eq];exact List.length_map _
 obtain ⟨la1,la2⟩:=hs.ms.val.len;have hnc:=hs.nc;have hnx:=hs.nx;rw [hln] at hnc;obtain ⟨w1l,w1h,w1e,w1s⟩:=hw;have HST:=hq_ h;have HSM:=hq_ hs;have HLN:=hq_ hln;clear h hs hln
 go_enter Tryz.func96,Tryz.ntmps96
 go_upto_region 2 with fail
 refine bh_ (F:=fun U=>(Bxx U w.heap.size #[.slice a1 L.length c1,.int .i64 s.len,.slice a2 s.ext.length n2] 55∧Bxx U (w.heap.size+1) #[.int .i64 a,.int .i64 b] 28∧ExtL U (fun _=>True) (.slice (some ⟨w.heap.size+1+1,0,none⟩) 0 0) [])∧Below w.heap.size w U) ⟨⟨((Bxx.at rfl).alloc _).alloc _,(Bxx.at sq_).alloc _,⟨⟨_,_,rfl,Nat.le_refl _,sq_,.inl rfl⟩,sq_,sq_⟩⟩,xE⟩ ?_;rintro w1 ⟨⟨hb0,hb1,he⟩,hb⟩;have HB0:=hq_ hb0;have HB1:=hq_ hb1;have HE:=hq_ he;have HB:=hq_ hb;have HSW:=hq_ (HST.out.below hb);obtain ⟨X,hX⟩:∃ X:Inst,X=⟨0,a,b⟩:=⟨_,rfl⟩;have HX:=hq_ hX;have HLOW:=hq_ (HSM.out.ms.lows X);have x0:=(hb0.cells 0).1;clear hb0 hb1 he hb hX;go_wp2_with fail
 clear x0;go_loopw [5,6,7,8] (fun ov iv _ _ wr=>∃ (k:Nat) (D:List Inst),k≤L.length∧iv=.int .i64 k∧D.length≤40*k∧Hid (b0_ s X k (lowS s X k) D)∧Hid (AscI D)∧Hid (ExtL wr (fun _=>True) ov D)∧Hid (Below w1.heap.size w1 wr)) (fun _ iv _ _ _=>L.length-(intOf iv).toNat)
 case atStart=>exact ⟨0,[],oq_,rfl,sq_,hq_ (b0_.start (HLOW.out 0)),hq_ .nil,HE,hq_ (Er _)⟩
 case round=>
  obtain ⟨k,D,hk,rfl,hDl,HSI,HAS,HEX,HBW⟩:=hrel;have x0:=((HB0.out.below HBW.out).cells 0).1;have x1:=((HB0.out.below HBW.out).cells 1).1;have y0:=((HB1.out.below HBW.out).cells 0).1;by_cases hlt:k<L.length
  ·have hlI:(k:Int)<L.length:=oq_;obtain ⟨b8,f8,a3,c3,m,mi,rfl,hbb,e0,e1,hm,him,hcl⟩:=(HSW.out.below HBW.out).cl.get hlt;rw [HST.out.eq] at hcl;have hkc:k<s.cls.length:=by rw [HLN.out];exact hlt
   have hcm:(⟨m,mi⟩:Cls)∈s.cls:=by rw [<- hcl,a6_ hkc];exact List.getElem_mem _
   obtain ⟨hmi1,hmi2⟩:-4320≤mi∧mi≤4320:=HSM.out.ms.min hcm;have HMV:=hq_ (HSM.out.ms.mv _ hcm);have HCL:=hq_ hcl;have HKC:=hq_ hkc;have hlk:lowS s X k=max 0 ((a-s.len-mi) / 1440+1):=by unfold lowS;rw [hcl,HX.out]
   have HM:=hq_ hm;have HFD:=hq_ (fun W=>sr_ (a-s.len-mi) W ⟨oq_,oq_⟩);obtain ⟨t0,ht0⟩:∃ t0,t0=lowS s X k:=⟨_,rfl⟩;rw [<- ht0] at HSI hlk;have hq:max 0 ((a-s.len-mi) / 1440+1)=t0:=hlk.symm;have ht1:0≤t0∧t0≤4398046511104∧a-s.len-mi<t0*1440:=oq_;obtain ⟨ht1,ht2,ht3⟩:=ht1;obtain ⟨q,hqq⟩:∃ q,(a-s.len-mi) / 1440=q:=⟨_,rfl⟩;rw [hqq] at HFD hq;have hqb:-4398046511104≤q∧q≤4398046511104:=oq_;obtain ⟨hqb1,hqb2⟩:=hqb;have HLT:=hq_ hlt;have HDL:=hq_ hDl;clear hm hcl hkc hcm him hlk ht0 hqq hlt hDl hbb;have e2:=a2_ e0 (.cells #[.slice a3 m.length c3,.int .i64 mi] 130);have hbx:Bxx (wr.alloc (.cells #[.slice a3 m.length c3,.int .i64 mi] 130)) wr.heap.size #[.slice a3 m.length c3,.int .i64 mi] 130:=Bxx.at rfl;have hq2:(if 0<q+1 then q+1 else 0)=t0:=by rw [<- hq];split <;> omega
   have hq3:(if q+1 > 0 then q+1 else 0)=t0:=by rw [<- hq];split <;> omega
   have HBX:=hq_ hbx;have x1':=fun o=>a2_ x1 o;have y0':=fun o=>a2_ y0 o;clear hbx;go_wp2_with (first|(go_at_call 88;(with_reducible refine (HFD.out _).mono ?_);rintro e w2 ⟨rfl,rfl⟩)|rw [hq]|rw [hq2]|rw [hq3])
   have HEX1:=hq_ (HEX.out.ext (Ea (Er wr) (.cells #[.slice a3 m.length c3,.int .i64 mi] 130)));obtain ⟨wo,rfl⟩:∃ wo:World,wo=wr:=⟨_,rfl⟩;clear e0 e1 e2 x0 x1 y0 x1' y0' hq hq2 hq3;go_loopw [5,8] (fun ov tv wr=>∃ (t:Int) (E:List Inst),tv=.int .i64 t∧t0≤t∧(t=t0∨(t-1)*1440+mi<b)∧(E.length:Int)≤40*k+(t-t0)∧Hid (b0_ s X k t E)∧Hid (AscI E)∧Hid (ExtL wr (fun _=>True) ov E)∧Hid (Bxx wr wo.heap.size #[.slice a3 m.length c3,.int .i64 mi] 130)∧Hid (Below wo.heap.size wo wr)) (fun _ tv _=>(t0+100-intOf tv).toNat)
   case atStart=>exact ⟨t0,D,rfl,Int.le_refl _,.inl rfl,by have:=HDL.out;omega,HSI,HAS,HEX1,HBX,hq_ (Ea (Er _) _)⟩
   case round=>
    obtain ⟨t,E,rfl,ht0,htb,hEl,HSI2,HAS2,HEX2,HB2,HBo⟩:=hrel;have HB1o:=hq_ (Et HBW.out HBo.out);have p0:=(HB2.out.cells 0).1;have p1:=(HB2.out.cells 1).1;have y1:=((HB1.out.below HB1o.out).cells 1).1;have x0:=((HB0.out.below HB1o.out).cells 0).1;have x1:=((HB0.out.below HB1o.out).cells 1).1;have x2:=((HB0.out.below HB1o.out).cells 2).1;have hkL:k≤3:=oq_;have htd:t-t0≤30:=oq_;by_cases hf:t*1440+mi<b
    ·have hH:=qy_ _ (.slice a3 m.length c3) m t wr (HM.out.ext HBo.out) ⟨oq_,oq_⟩;have hin:hasM m t=true↔mmem m t:=mc_ HMV.out t;obtain ⟨bh,hbh⟩:∃ bh,hasM m t=bh:=⟨_,rfl⟩;rw [hbh] at hH hin;have HH:=hq_ hH;have HIN2:=hq_ hin;have HT3:=hq_ ht3;have HTB:=hq_ (show t0≤t+1∧(t+1-1)*1440+mi<b by omega);have HEL:=hq_ hEl;clear hH hin hbh htb hEl;cases bh with
     | false=>
      have hsk:=HSI2.out.skip (by rw [HCL.out];exact fun h=>absurd (HIN2.out.2 h) dq_);have HSK:=hq_ hsk;clear hsk;go_wp2_with (go_at_call 147;(with_reducible refine HH.out.mono ?_);rintro e w3 ⟨rfl,hb3⟩;have HB3:=hq_ hb3;clear hb3)
      go_roundw
      case rel=>exact ⟨t+1,E,rfl,HTB.out.1,.inr HTB.out.2,by have:=HEL.out;omega,HSK,HAS2,hq_ (HEX2.out.ext HB3.out),hq_ (HB2.out.below HB3.out),hq_ (Et HBo.out HB3.out)⟩
      case measure=>have:=HTB.out;simp [intOf];omega
     | true=>
      have htk:=HSI2.out.take HKC.out (by rw [HCL.out];exact HIN2.out.1 rfl) (by rw [HCL.out,HX.out];exact ⟨by have:=HT3.out;show a<t*1440+mi+s.len;omega,hf⟩);rw [HCL.out] at htk;obtain ⟨I,hI⟩:∃ I,I=dk_ s ⟨m,mi⟩ t:=⟨_,rfl⟩;rw [<- hI] at htk;have hIv:ival I=.agg #[.int .i64 t,.int .i64 (t*1440+mi),.int .i64 (t*1440+mi+s.len)]:=by rw [hI];rfl
      have hIi:InIn I:=by rw [hI];exact ⟨⟨by show _≤t;omega,by show t≤_;omega⟩,⟨by show _≤t*1440+mi;omega,by show t*1440+mi≤_;omega⟩,⟨by show _≤t*1440+mi+s.len;omega,by show t*1440+mi+s.len≤_;omega⟩⟩
      have HTK:=hq_ (htk.2.congr (q:=insI E I) fun y=>by rw [ik_,List.mem_append,List.mem_singleton];exact or_comm);have HAT:=hq_ (fun W=>ts_ (some ⟨b8,f8,none⟩) a2 a3 L.length c1 s.ext.length n2 m.length c3 s.len mi t W la1 la2 hmi1 hmi2 oq_ oq_);have HEI:=hq_ (fun W (hb:Below wr.heap.size wr W) (ov:Value) (ho:ExtL W (fun _=>True) ov E)=>(g1_ (fun _=>True) ov E I W ho hIi (by have:=HEL.out;omega)).mono fun e w' h=>or_ ho h);rw [hIv] at HEI;have HIL:=hq_ (g0_ (l:=E) (x:=I));clear htk hI hIv hIi;obtain ⟨oa,oc,hov⟩:=HEX2.out.form;subst hov;go_wp2_with (first|(go_at_call 147;(with_reducible refine HH.out.mono ?_);rintro e w3 ⟨rfl,hb3⟩;have HB3:=hq_ hb3;have HBX3:=hq_ (HB2.out.below hb3);have p0:=Ext.cell hb3 p0;have p1:=Ext.cell hb3 p1;have x0:=Ext.cell hb3 x0;have x1:=Ext.cell hb3 x1;have x2:=Ext.cell hb3 x2;clear hb3)|(go_at_call 137;(with_reducible refine (HAT.out _).mono ?_);rintro e w4 ⟨rfl,hb4⟩;have HB4:=hq_ (Et HB3.out hb4);clear hb4)|(go_at_call 109;(with_reducible refine (HEI.out _ HB4.out _ (HEX2.out.ext HB4.out)).mono ?_);rintro e w5 ⟨u5,rfl,he5,hb5⟩;have HE5:=hq_ he5;have HB5:=hq_ (Et HB4.out hb5);clear he5 hb5))
      go_roundw
      case rel=>exact ⟨t+1,insI E I,rfl,HTB.out.1,.inr HTB.out.2,by have:=HEL.out;have:=HIL.out;omega,HTK,hq_ (ij_ HAS2.out),HE5,hq_ (HB2.out.below HB5.out),hq_ (Et HBo.out HB5.out)⟩
      case measure=>have:=HTB.out;simp [intOf];omega
    ·have hrd:=HSI2.out.round (t':=lowS s X (k+1)) (fun y hy hc=>by
      rw [HCL.out] at hy;have h1:=hc.2;rw [hy.2,HX.out] at h1;have:y.day*1440+mi<b:=h1;omega) (HLOW.out (k+1))
     have HRD:=hq_ hrd;have HEL:=hq_ (show E.length≤40*(k+1) by omega);clear hrd htb hEl;go_wp2_with fail
     go_roundw
     case rel=>exact ⟨k+1,E,by have:=HLT.out;omega,by go_num,HEL.out,HRD,HAS2,HEX2,HB1o⟩
     case measure=>have:=HLT.out;simp [intOf];omega
  ·obtain rfl:k=L.length:=oq_;have hkI:¬ (L.length:Int)<L.length:=oq_;have hd:=HSI.out;rw [<- HLN.out] at hd;have hdn:∀ y,y∈D↔WthJ s a b 0 y:=fun y=>(hd.done y).trans (by rw [HX.out];exact tg_.symm);have HDN:=hq_ hdn;have hDl2:D.length≤150:=oq_;clear hd hdn x1 y0 hlt;go_wp2_with fail
   clear x0;go_loopw [5,9] (fun ov jv wr=>∃ (j:Nat) (E:List Inst),j≤s.ext.length∧jv=.int .i64 j∧E.length≤150+j∧Hid (∀ y,y∈E↔WthJ s a b j y)∧Hid (AscI E)∧Hid (ExtL wr (fun _=>True) ov E)∧Hid (Below w1.heap.size w1 wr)) (fun _ jv _=>s.ext.length-(intOf jv).toNat)
   case atStart=>exact ⟨0,D,oq_,rfl,oq_,HDN,HAS,HEX,HBW⟩
   case round=>
    obtain ⟨j,E,hj,rfl,hEl,HME,HAE,HEE,HBE⟩:=hrel;have x2:=((HB0.out.below HBE.out).cells 2).1;have y0:=((HB1.out.below HBE.out).cells 0).1;have y1:=((HB1.out.below HBE.out).cells 1).1;obtain ⟨oa,oc,hov⟩:=HEE.out.form;subst hov;by_cases hlt:j<s.ext.length
    ·have hlI:(j:Int)<s.ext.length:=oq_;obtain ⟨b8,f8,y,rfl,hb8,hy,hiy,e0,e1,e2⟩:=(HSW.out.below HBE.out).ex.get hlt;have hst:=fun z=>tf_ (s:=s) (a:=a) (b:=b) (y:=z) hlt;rw [hy] at hst;have HST2:=hq_ hst;have HIY:=hq_ hiy;have HLT:=hq_ (show j+1≤s.ext.length by omega);have HCO:=fun W=>mt_ y.frm y.fin a b W;obtain ⟨p,hp⟩:∃ p,decide (ae_ y.frm y.fin a b)=p:=⟨_,rfl⟩;rw [hp] at HCO;have HCO:=hq_ HCO;have HP:=hq_ hp;have HEL:=hq_ hEl;clear hst hy hiy hp hlt hEl;go_upto_region 14 with fail
     refine a9_ (w0:=wr) [0,1,2,3,4,5,6,7] [] [61,62,63,64,65,66,67,68] [.pointer (some ⟨w.heap.size,2,none⟩),.slice (some ⟨b8,f8,none⟩) s.ext.length n2,.int .i64 j,.pointer (some ⟨b8,f8+j*3,none⟩),.pointer (some ⟨b8,f8+j*3+1,none⟩),.agg #[.int .i64 y.frm,.int .i64 y.fin],.agg #[.int .i64 a,.int .i64 b],.bool p] [[],[0],[],[1,2],[3],[4],[],[5,6]] (.a x2 (.a y0 (.a y1 (.a e1 (.a e2 (.b)))))) ?steps14 ?fin14
     case steps14=>
      repeat' first|exact .n|refine .c ?_ ?_|fail
      all_goals try exact stp
      all_goals
       rintro v W hb ⟨g0,g1,g2,g3,g4,gB⟩;refine .inl ⟨rfl,fun K hK=>?_⟩;simp only [ov,vat,Nat.reduceBEq,cond_true,cond_false];go_wp2_with (go_at_call 148;(with_reducible refine (HCO.out _).mono ?_);rintro e w9 ⟨rfl,hb9⟩)
       exact acx (hK w9 hb9) (by simp [ov,vat])
     case fin14=>
      rintro W3 hb3 -
      show wpList _ _ _ [] _ _;simp only [vat];have HB3:=hq_ hb3;have x2:=Ext.cell hb3 x2;have e0:=Ext.cell hb3 e0;have e1:=Ext.cell hb3 e1;have e2:=Ext.cell hb3 e2;clear hb3 y0 y1;cases p with
      | true=>
       have hcl:ae_ y.frm y.fin a b:=of_decide_eq_true HP.out;have HME2:Hid (∀ z,z∈insI E y↔WthJ s a b (j+1) z):=hq_ fun z=>by
        rw [ik_,HST2.out,HME.out];constructor
        ·rintro (rfl|h)
         ·exact .inr ⟨rfl,hcl⟩
         ·exact .inl h
        ·rintro (h|⟨h,_⟩)
         ·exact .inr h
         ·exact .inl h
       have HEI:=hq_ ((g1_ (fun _=>True) (.slice oa E.length oc) E y W3 (HEE.out.ext HB3.out) HIY.out (by have:=HEL.out;omega)).mono fun e w' h=>or_ (HEE.out.ext HB3.out) h);have HIL:=hq_ (g0_ (l:=E) (x:=y));go_wp2_with (go_at_call 109;(with_reducible refine HEI.out.mono ?_);rintro e w5 ⟨u5,rfl,he5,hb5⟩;have HE5:=hq_ he5;have HB5:=hq_ (Et HBE.out (Et HB3.out hb5));clear he5 hb5)
       go_roundw
       case rel=>exact ⟨j+1,insI E y,HLT.out,by go_num,by have:=HEL.out;have:=HIL.out;omega,HME2,hq_ (ij_ HAE.out),HE5,HB5⟩
       case measure=>have:=HLT.out;simp [intOf];omega
      | false=>
       have hcl:¬ ae_ y.frm y.fin a b:=of_decide_eq_false HP.out;have HME2:Hid (∀ z,z∈E↔WthJ s a b (j+1) z):=hq_ fun z=>by
        rw [HST2.out,HME.out];exact ⟨.inl,fun h=>h.elim id fun ⟨h1,h2⟩=>absurd (h1 ▸ h2) hcl⟩
       clear hcl;go_wp2_with fail
       go_roundw
       case rel=>exact ⟨j+1,E,HLT.out,by go_num,by have:=HEL.out;omega,HME2,HAE,hq_ (HEE.out.ext HB3.out),hq_ (Et HBE.out HB3.out)⟩
       case measure=>have:=HLT.out;simp [intOf];omega
    ·obtain rfl:j=s.ext.length:=oq_;have hjI:¬ (s.ext.length:Int)<s.ext.length:=oq_;have HEL:=hq_ (show E.length≤200 by omega);have HMA:=hq_ (fun z=>(HME.out z).trans vm_);clear hEl y0 y1;go_wp2_with fail
     go_ret;exact ⟨_,E,rfl,HEE.out,HAE.out,HMA.out,HEL.out,Et HB.out HBE.out⟩
def xg_ (s:Str) (a b:Int) (w:World) (e:Ending) (w':World):Prop:=
 ∃ (v:Value) (D:List Inst),e=.returned (.tuple #[v,.int .i64 0])∧Below w.heap.size w w'∧ExtL w' (fun b=>w.heap.size≤b) v D∧D.length≤200∧(a<b->au_ s a b D)∧(¬ a<b->D=[])∧∀ y∈D,InIn y
theorem pv_ {s:Str} {D:List Inst} (hs:MStr s) (hA:AscI D) (hm:∀ y,y∈D↔WthS s a b y):au_ s a b (bo_ D):=
 ⟨List.Pairwise.filter _ hA,fun y=>by
  unfold bo_;rw [List.mem_filter,hm,decide_eq_true_eq];unfold WthS IsI;constructor
  ·rintro ⟨⟨h|h,hc⟩,ht⟩
   ·obtain ⟨c,h1,h2⟩:=h;exact ⟨.inl ⟨c,h1,h2,ht⟩,hc⟩
   ·exact ⟨.inr h,hc⟩
  ·rintro ⟨⟨c,h1,h2,ht⟩|h,hc⟩
   ·exact ⟨⟨.inl ⟨c,h1,h2⟩,hc⟩,ht⟩
   ·obtain ⟨_,⟨_,g1⟩,_,g2⟩:=hs.val.ins h;exact ⟨⟨.inr h,hc⟩,oq_⟩⟩
theorem f6_ (F:Nat->Prop) (cv ev:Value) (s:Str) (a b:Int) (w:World) (h:StrR w F cv ev s) (hs:SmS s) (hw:WinB a b) :
  Calls Tryz.prog 52 #[.agg #[cv,.int .i64 s.len,ev],.agg #[.int .i64 a,.int .i64 b]] w (xg_ s a b w):=by
 have HV:=hq_ (fun W (hb:Below w.heap.size w W)=>i4_ F cv ev s W (h.ext hb) hs.ms.val);have HWI:=hq_ (fun W (hb:Below w.heap.size w W)=>nz_ F cv ev s a b W (h.ext hb) hs hw);obtain ⟨L,h⟩:=h;obtain ⟨a1,c1,rfl⟩:=h.cl.form;obtain ⟨a2,n2,rfl⟩:=h.ex.form;obtain ⟨w1l,w1h,w1e,w1s⟩:=hw;have hnc:=hs.nc;have hnx:=hs.nx;have HSM:=hq_ hs;clear h hs
 go_enter Tryz.func52,Tryz.ntmps52
 go_upto_region 1 with fail
 refine bh_ (F:=fun U=>(Bxx U w.heap.size #[.slice a1 L.length c1,.int .i64 s.len,.slice a2 s.ext.length n2] 55∧Bxx U (w.heap.size+1) #[.int .i64 a,.int .i64 b] 28)∧Below w.heap.size w U) ⟨⟨(Bxx.at rfl).alloc _,Bxx.at sq_⟩,xE⟩ ?_;rintro w1 ⟨⟨hb0,hb1⟩,hb⟩;have HB0:=hq_ hb0;have HB1:=hq_ hb1;have HB:=hq_ hb;have x0:=(hb0.cells 0).1;have x1:=(hb0.cells 1).1;have x2:=(hb0.cells 2).1;clear hb0 hb1 hb;by_cases hab:a=b
 ·subst hab;go_wp2_with (go_at_call 89;(with_reducible refine (HV.out _ HB.out).mono ?_);rintro e w2 ⟨rfl,hb2⟩;have HB2:=hq_ (Et HB.out hb2);have y0:=((HB1.out.below hb2).cells 0).1;have y1:=((HB1.out.below hb2).cells 1).1;clear hb2)
  go_ret2;exact ⟨.slice none 0 0,[],rfl,HB2.out,⟨⟨none,0,rfl,Nat.le_refl _,sq_,.inl rfl⟩,sq_,sq_⟩,sq_,fun h=>oq_,fun _=>rfl,sq_⟩
 ·have qa:(a == b)=false:=by simp [hab]
  have hlt:a<b:=oq_;go_wp2_with (first|(go_at_call 89;(with_reducible refine (HV.out _ HB.out).mono ?_);rintro e w2 ⟨rfl,hb2⟩;have HB2:=hq_ (Et HB.out hb2);have y0:=((HB1.out.below hb2).cells 0).1;have y1:=((HB1.out.below hb2).cells 1).1;have x0:=Ext.cell hb2 x0;have x1:=Ext.cell hb2 x1;have x2:=Ext.cell hb2 x2;clear hb2)|(go_at_call 96;(with_reducible refine (HWI.out _ HB2.out).mono ?_);rintro e w3 ⟨u,D,rfl,he,ha,hm,hl,hb3⟩;have HRT:=hq_ (nx_ (fun _=>True) u D w3 he oq_);have HW:=hq_ (pv_ HSM.out.ms ha hm);have HB3:=hq_ (Et HB2.out hb3);have HTL:Hid ((bo_ D).length≤200):=hq_ (Nat.le_trans (List.length_filter_le _ _) hl);clear he ha hm hl hb3 x0 x1 x2 y0 y1)|(go_at_call 95;(with_reducible refine HRT.out.mono ?_);rintro e w4 ⟨u4,rfl,he4,hb4⟩;obtain ⟨oa,oc,hov⟩:=he4.form;subst hov;have HE4:=hq_ he4;have HB4:=hq_ (Et HB3.out hb4);have HZ3:=hq_ HB3.out.size;have htl:=HTL.out;clear he4 hb4))
  go_ret2;exact ⟨_,bo_ D,rfl,HB4.out,HE4.out.mono fun c hc=>Nat.le_trans HZ3.out hc,HTL.out,fun _=>HW.out,fun h=>absurd hlt h,HE4.out.all⟩
end Go.Proofs.YtkclokcenllhmaaGreat
namespace Kal
theorem getI (h:k<l.length):l.getD k 0=l[k]:=by rw [List.getD_eq_getElem?_getD,List.getElem?_eq_getElem h];rfl
abbrev AscN (l:List Int):Prop:=l.Pairwise (· < ·)
def insN (l:List Int) (x:Int):List Int:=l.filter (fun y=>decide (y<x)) ++ x :: l.filter (fun y=>decide (x<y))
theorem du_:y∈insN l x↔y=x∨y∈l:=by
 unfold insN;simp only [List.mem_append,List.mem_cons,List.mem_filter,decide_eq_true_eq];constructor
 ·rintro (⟨h,_⟩|h|⟨h,_⟩)
  ·exact .inr h
  ·exact .inl h
  ·exact .inr h
 ·rintro (h|h)
  ·exact .inr (.inl h)
  ·rcases Int.lt_trichotomy y x with g|g|g
   ·exact .inl ⟨h,g⟩
   ·exact .inr (.inl g)
   ·exact .inr (.inr ⟨h,g⟩)
theorem AscN.ins (h:AscN l) (x:Int):AscN (insN l x):=by
 refine List.pairwise_append.2 ⟨h.filter _,List.pairwise_cons.2 ⟨fun y hy=>?_,h.filter _⟩,fun y hy z hz=>?_⟩
 ·exact of_decide_eq_true (List.mem_filter.1 hy).2
 ·have h1:y<x:=of_decide_eq_true (List.mem_filter.1 hy).2;rcases List.mem_cons.1 hz with rfl|hz
  ·exact h1
  ·have h2:x<z:=of_decide_eq_true (List.mem_filter.1 hz).2;omega
theorem d0_:(insN l x).length≤l.length+1:=by
 unfold insN;rw [List.length_append,List.length_cons];have:∀ l:List Int,(l.filter fun y=>decide (y<x)).length+(l.filter fun y=>decide (x<y)).length≤l.length:=fun l=>by
  induction l with
  | nil=>simp
  | cons y l ih=>
   by_cases h1:y<x
   ·have h2:¬ x<y:=oq_;simp [h1,h2];omega
   ·by_cases h2:x<y
    ·simp [h1,h2];omega
    ·simp [h1,h2];omega
 have:=this l;omega
theorem if_ {p:Int->Bool} (h:∀ y∈l,p y=true):l.filter p=l:=List.filter_eq_self.2 h
theorem gw_ {p:Int->Bool} (h:∀ y∈l,p y=false):l.filter p=[]:=List.filter_eq_nil_iff.2 fun y hy=>by rw [h y hy];simp
theorem s3_ (h:AscN l) (hk:k≤l.length) (h1:∀ j,j<k->l.getD j 0<x) (h2:k<l.length->x<l.getD k 0):insN l x=l.take k ++ x :: l.drop k:=by
 have ht:∀ y∈l.take k,y<x:=fun y hy=>by
  obtain ⟨j,hj,rfl⟩:=List.getElem_of_mem hy;rw [List.getElem_take];have:=h1 j (by rw [List.length_take] at hj;omega);rwa [getI (by rw [List.length_take] at hj;omega)] at this
 have hd:∀ y∈l.drop k,x<y:=fun y hy=>by
  obtain ⟨j,hj,rfl⟩:=List.getElem_of_mem hy;rw [List.getElem_drop];rw [List.length_drop] at hj;have h3:=h2 oq_;rw [getI oq_] at h3;rcases Nat.eq_zero_or_pos j with rfl|hp
  ·exact h3
  ·have:=List.pairwise_iff_getElem.1 h k (k+j) oq_ oq_ oq_;omega
 unfold insN
 conv=>lhs;rw [<- List.take_append_drop k l]
 rw [List.filter_append,List.filter_append,if_ (fun y hy=>decide_eq_true (ht y hy)),gw_ (l:=l.drop k) (p:=fun y=>decide (y<x)) (fun y hy=>decide_eq_false (by have:=hd y hy;omega)),gw_ (l:=l.take k) (fun y hy=>decide_eq_false (by have:=ht y hy;omega)),if_ (l:=l.drop k) (fun y hy=>decide_eq_true (hd y hy))];simp
theorem wo_ (h:AscN l) (hx:x∈l):insN l x=l:=by
 induction l with
 | nil=>cases hx
 | cons y l ih=>
  have h1:=List.pairwise_cons.1 h;unfold insN;by_cases e:x=y
  ·subst e;rw [List.filter_cons,List.filter_cons,if_neg sq_,if_neg sq_,gw_ (fun z hz=>decide_eq_false (by have:=h1.1 z hz;omega)),if_ (fun z hz=>decide_eq_true (h1.1 z hz))];rfl
  ·have hx2:x∈l:=by
    rcases List.mem_cons.1 hx with g|g
    ·exact absurd g e
    ·exact g
   have hlt:=h1.1 x hx2;have:=ih h1.2 hx2;unfold insN at this;rw [List.filter_cons,List.filter_cons,if_pos tq_,if_neg tq_,List.cons_append,this]
def bndN (l:List Int) (a:List Spn):List Int:=a.foldl (fun l s=>insN (insN l s.1) s.2) l
theorem r2_ {a:List Spn} {s:Spn}:bndN l (a ++ [s])=insN (insN (bndN l a) s.1) s.2:=by unfold bndN;rw [List.foldl_append];rfl
theorem AscN.bnd {a:List Spn}:∀ {l:List Int},AscN l->AscN (bndN l a):=by
 induction a with
 | nil=>exact fun h=>h
 | cons s a ih=>exact fun h=>ih ((h.ins _).ins _)
theorem ip_ {a:List Spn}:∀ {l:List Int},y∈bndN l a↔y∈l∨∃ s∈a,y=s.1∨y=s.2:=by
 induction a with
 | nil=>intro l;simp [bndN]
 | cons s a ih=>
  intro l;show y∈bndN (insN (insN l s.1) s.2) a↔_;rw [ih,du_,du_];simp only [List.mem_cons,exists_eq_or_imp];constructor
  ·rintro ((h|h|h)|h)
   ·exact .inr (.inl (.inr h))
   ·exact .inr (.inl (.inl h))
   ·exact .inl h
   ·exact .inr (.inr h)
  ·rintro (h|(h|h)|h)
   ·exact .inl (.inr (.inr h))
   ·exact .inl (.inr (.inl h))
   ·exact .inl (.inl h)
   ·exact .inr h
theorem i6_ {a:List Spn}:∀ {l:List Int},(bndN l a).length≤l.length+2*a.length:=by
 induction a with
 | nil=>intro l;simp [bndN]
 | cons s a ih=>
  intro l;have h1:=ih (l:=insN (insN l s.1) s.2);have h2:=d0_ (l:=insN l s.1) (x:=s.2);have h3:=d0_ (l:=l) (x:=s.1);show (bndN (insN (insN l s.1) s.2) a).length≤_;rw [List.length_cons];omega
theorem oj_ {B:List Int} (h:AscN B) (hi:i+1<B.length) (hy:y∈B) (hl:y<B.getD (i+1) 0):y≤B.getD i 0:=by
 obtain ⟨j,hj,rfl⟩:=List.getElem_of_mem hy;rw [getI hi] at hl;rw [getI oq_];have key:∀ {p q:Nat} (hp:p<B.length) (hq:q<B.length),p<q->B[p]<B[q]:=fun hp hq h1=>List.pairwise_iff_getElem.1 h _ _ hp hq h1;rcases Nat.lt_trichotomy j i with g|g|g
 ·have:=key hj oq_ g;omega
 ·subst g;omega
 ·rcases Nat.lt_or_eq_of_le (show i+1≤j by omega) with g2|g2
  ·have:=key hi hj g2;omega
  ·subst g2;omega
theorem kg_ {B:List Int} {a:List Spn} (h:AscN B) (ha:∀ s∈a,s.1∈B∧s.2∈B) (hi:i+1<B.length) {t:Int} (h1:B.getD i 0≤t) (h2:t<B.getD (i+1) 0):SpM a t↔SpM a (B.getD i 0):=by
 constructor
 ·rintro ⟨s,hs,g1,g2⟩;exact ⟨s,hs,oj_ h hi (ha s hs).1 oq_,oq_⟩
 ·rintro ⟨s,hs,g1,g2⟩;refine ⟨s,hs,oq_,?_⟩;rcases Int.lt_or_le s.2 (B.getD (i+1) 0) with g|g
  ·have:=oj_ h hi (ha s hs).2 g;omega
  ·omega
theorem hk_ {B:List Int} {a:List Spn} (h:AscN B) (ha:∀ s∈a,s.1∈B∧s.2∈B) {t:Int} (ht:t<B.getD 0 0∨B=[]):¬ SpM a t:=by
 rintro ⟨s,hs,g1,g2⟩;obtain ⟨j,hj,e⟩:=List.getElem_of_mem (ha s hs).1;rcases ht with ht|rfl
 ·rw [getI oq_] at ht;rcases Nat.eq_zero_or_pos j with rfl|hp
  ·omega
  ·have:=List.pairwise_iff_getElem.1 h 0 j oq_ hj hp;omega
 ·simp at hj
theorem lx_ {B:List Int} {a:List Spn} (h:AscN B) (ha:∀ s∈a,s.1∈B∧s.2∈B) (hk:k+1=B.length) {t:Int} (ht:B.getD k 0≤t):¬ SpM a t:=by
 rintro ⟨s,hs,g1,g2⟩;obtain ⟨j,hj,e⟩:=List.getElem_of_mem (ha s hs).2;rw [getI oq_] at ht;rcases Nat.lt_or_eq_of_le (show j≤k by omega) with g|g
 ·have:=List.pairwise_iff_getElem.1 h j k hj oq_ g;omega
 ·subst g;omega
structure CmI (P:Int->Prop) (x:Int) (N:List Spn):Prop where
 ns:NS N
 mem:∀ t,SpM N t↔P t∧t<x
 le:∀ s∈N,s.2≤x
theorem CmI.skip {P:Int->Prop} {N:List Spn} (h:CmI P x N) (hxy:x<y) (hP:∀ t,x≤t->t<y->¬ P t):CmI P y N:=
 ⟨h.ns,fun t=>(h.mem t).trans ⟨fun g=>⟨g.1,oq_⟩,fun g=>⟨g.1,by
  rcases Int.lt_or_le t x with e|e
  ·exact e
  ·exact absurd g.1 (hP t e g.2)⟩⟩,fun s hs=>by have:=h.le s hs;omega⟩
theorem CmI.grow {P:Int->Prop} {M:List Spn} (h:CmI P x (M ++ [(f,x)])) (hxy:x<y) (hP:∀ t,x≤t->t<y->P t):CmI P y (M ++ [(f,y)]):=by
 have hf:=h.ns.pos (f,x) sq_;dsimp only at hf;refine ⟨h.ns.grow oq_,fun t=>?_,fun s hs=>?_⟩
 ·have h1:=h.mem t;rw [SpM.app,SpM.cons] at h1 ⊢;constructor
  ·rintro (g|⟨g1,g2⟩|g)
   ·have:=h1.1 (.inl g);exact ⟨this.1,oq_⟩
   ·dsimp only at g1 g2;rcases Int.lt_or_le t x with e|e
    ·exact ⟨(h1.1 (.inr (.inl ⟨g1,e⟩))).1,g2⟩
    ·exact ⟨hP t e g2,g2⟩
   ·exact absurd g (SpM.nil t)
  ·rintro ⟨g1,g2⟩;rcases Int.lt_or_le t x with e|e
   ·rcases h1.2 ⟨g1,e⟩ with g|⟨g3,g4⟩|g
    ·exact .inl g
    ·exact .inr (.inl ⟨g3,g2⟩)
    ·exact absurd g (SpM.nil t)
   ·exact .inr (.inl ⟨by dsimp only;omega,g2⟩)
 ·rcases List.mem_append.1 hs with hs|hs
  ·have:=h.le s (by simp [hs]);omega
  ·obtain rfl:=List.mem_singleton.1 hs;exact Int.le_refl _
theorem CmI.push {P:Int->Prop} {N:List Spn} (h:CmI P x N) (hxy:x<y) (hP:∀ t,x≤t->t<y->P t) (hl:∀ M s,N=M ++ [s]->s.2≠x):CmI P y (N ++ [(x,y)]):=by
 have hg:∀ s∈N,s.2<x:=fun s hs=>by
  rcases List.eq_nil_or_concat N with rfl|⟨M,z,rfl⟩
  ·cases hs
  ·rw [List.concat_eq_append] at *;have h1:=hl M z rfl;have h2:=h.le z sq_;rcases List.mem_append.1 hs with hs|hs
   ·have h3:=(List.pairwise_append.1 h.ns.gap).2.2 s hs z sq_;have h4:=h.ns.pos z sq_;omega
   ·obtain rfl:=List.mem_singleton.1 hs;omega
 refine ⟨h.ns.push hxy hg,fun t=>?_,fun s hs=>?_⟩
 ·rw [SpM.app,SpM.cons,h.mem t];constructor
  ·rintro (g|⟨g1,g2⟩|g)
   ·exact ⟨g.1,oq_⟩
   ·exact ⟨hP t g1 g2,g2⟩
   ·exact absurd g (SpM.nil t)
  ·rintro ⟨g1,g2⟩;rcases Int.lt_or_le t x with e|e
   ·exact .inl ⟨g1,e⟩
   ·exact .inr (.inl ⟨e,g2⟩)
 ·rcases List.mem_append.1 hs with hs|hs
  ·have:=h.le s hs;omega
  ·obtain rfl:=List.mem_singleton.1 hs;exact Int.le_refl _
theorem jc_ {l:List Spn} {n g:Int} (hn:1≤n) (ha:a≤g) (hf:by_ (SpM l) n g):∃ f,a≤f∧f≤g∧by_ (SpM l) n f∧(f=a∨∃ s∈l,f=s.2):=by
 obtain ⟨k,hk⟩:∃ k:Nat,(k:Int)=g-a:=⟨(g-a).toNat,oq_⟩;induction k generalizing g with
 | zero=>exact ⟨g,ha,Int.le_refl _,hf,.inl oq_⟩
 | succ k ih=>
  by_cases h:by_ (SpM l) n (g-1)
  ·obtain ⟨f,h1,h2,h3⟩:=ih oq_ h oq_;exact ⟨f,h1,oq_,h3⟩
  ·refine ⟨g,ha,Int.le_refl _,hf,.inr ?_⟩;have:SpM l (g-1):=Classical.byContradiction fun hc=>h fun t t1 t2=>by
    rcases Int.lt_or_le t g with e|e
    ·obtain rfl:t=g-1:=oq_;exact hc
    ·exact hf t e oq_
   obtain ⟨s,hs,h1,h2⟩:=this;refine ⟨s,hs,?_⟩;have h3:=hf g (Int.le_refl _) oq_;rcases Int.lt_or_le g s.2 with e|e
   ·exact absurd ⟨s,hs,oq_,e⟩ h3
   ·omega
def GpI (l:List Spn) (n a b:Int) (B:List Int) (i:Nat):Prop:=∀ j,j<i->a≤B.getD j 0->B.getD j 0+n≤b->¬ by_ (SpM l) n (B.getD j 0)
theorem GpI.found {l:List Spn} {n:Int} {B:List Int} (h:GpI l n a b B i) (hB:AscN B) (hb:∀ y,y=a∨(∃ s∈l,y=s.2)->y∈B) (hn:1≤n) (hi:i<B.length) (h1:a≤B.getD i 0) (h2:B.getD i 0+n≤b) (h3:by_ (SpM l) n (B.getD i 0)):GapK (SpM l) n a b (B.getD i 0) true:=
 .inl ⟨rfl,h1,h2,h3,fun g g1 g2 hf=>by
  obtain ⟨f,f1,f2,f3,f4⟩:=jc_ hn g1 hf;obtain ⟨j,hj,e⟩:=List.getElem_of_mem (hb f f4);rw [<- getI hj] at e;rcases Nat.lt_or_ge j i with q|q
  ·exact h j q oq_ oq_ (e ▸ f3)
  ·rcases Nat.lt_or_eq_of_le q with q|q
   ·have:=List.pairwise_iff_getElem.1 hB i j hi hj q;rw [<- getI hj,<- getI hi] at this;omega
   ·subst q;omega⟩
theorem GpI.none {l:List Spn} {n:Int} {B:List Int} (h:GpI l n a b B B.length) (hb:∀ y,y=a∨(∃ s∈l,y=s.2)->y∈B) (hn:1≤n):GapK (SpM l) n a b 0 false:=
 .inr ⟨rfl,rfl,fun g g1 g2 hf=>by
  obtain ⟨f,f1,f2,f3,f4⟩:=jc_ hn g1 hf;obtain ⟨j,hj,e⟩:=List.getElem_of_mem (hb f f4);rw [<- getI hj] at e;exact h j hj oq_ oq_ (e ▸ f3)⟩
end Kal
namespace Go.Proofs.YtkclokcenllhmaaGreat
open Go.RowKit Go.Maps Kal
theorem gc_ (t:Int) (w:World) :
  Calls Tryz.prog 105 #[.int .i64 t] w fun e w'=>e=.returned (.bool (decide (t < -2251799813685248∨t > 2251799813685248)))∧w=w':=by
 by_cases h1:t < -2251799813685248
 ·go_enter Tryz.func105,Tryz.ntmps105
  go_wp2;go_ret;exact ⟨a1_ (by first|(simp [h1];done)|(simp [h1];omega)),rfl⟩
 ·go_enter Tryz.func105,Tryz.ntmps105
  go_wp2;go_ret;exact ⟨a1_ (by first|(simp [h1];done)|(simp [h1];omega)),rfl⟩
theorem gr_ {l:List Spn} {p:Spn->Bool} (hk:k<l.length) (h:(l.take k).any p=false) (e:p (l.getD k default)=false):(l.take (k+1)).any p=false:=by
 rw [List.take_succ_eq_append_getElem hk,List.any_append,h,<- a6_ (d:=default) hk,List.any_cons,List.any_nil,e];rfl
theorem k0_ {l:List Spn} {p:Spn->Bool} (hk:k<l.length) (e:p (l.getD k default)=true):l.any p=true:=
 List.any_eq_true.2 ⟨_,ac_ hk,e⟩
theorem mu_ (F:Nat->Prop) (v:Value) (l:List Spn) (w:World) (h:SpnL w F v l) :
  Calls Tryz.prog 97 #[v] w fun e w'=>e=.returned (.bool (!(l.any farS)))∧Below w.heap.size w w':=by
 obtain ⟨a1,c1,rfl⟩:=h.form;have hlen:=h.len;have H:=hq_ h;clear h
 go_enter Tryz.func97,Tryz.ntmps97
 go_wp2_with fail
 go_loopw [3] (fun i wr=>∃ k:Nat,k≤l.length∧i=.int .i64 k∧Hid ((l.take k).any farS=false)∧Hid (Below w.heap.size w wr)) (fun i _=>l.length-(intOf i).toNat)
 case atStart=>exact ⟨0,oq_,rfl,hq_ sq_,hq_ (Below.refl _ _)⟩
 case round=>
  obtain ⟨k,hk,rfl,HT,HB⟩:=hrel;by_cases hlt:k<l.length
  ·obtain ⟨b1,o1,x,y,rfl,_,hx,_,_,e0,e1⟩:=(H.out.ext HB.out).get hlt;have hfa:farS (l.getD k default)=(decide (x < -2251799813685248∨x > 2251799813685248) || decide (y < -2251799813685248∨y > 2251799813685248)):=by rw [hx];rfl
   have HX:=fun W=>gc_ x W;have HY:=fun W=>gc_ y W;obtain ⟨p,hp⟩:∃ p,decide (x < -2251799813685248∨x > 2251799813685248)=p:=⟨_,rfl⟩;obtain ⟨q,hq⟩:∃ q,decide (y < -2251799813685248∨y > 2251799813685248)=q:=⟨_,rfl⟩;rw [hp] at HX hfa;rw [hq] at HY hfa;have HFA:=hq_ hfa;have HX:=hq_ HX;have HY:=hq_ HY;have HLT:=hq_ hlt;clear hp hq hfa hx;cases p with
   | true=>
    go_wp2_with (go_at_call 105;(with_reducible refine (HX.out _).mono ?_);rintro e w1 ⟨rfl,rfl⟩)
    go_ret;exact ⟨a1_ (by rw [k0_ HLT.out (p:=farS) (by rw [HFA.out];rfl)];rfl),by have hb:=HB.out;exact xE⟩
   | false=>
    cases q with
    | true=>
     go_wp2_with (go_at_call 105;first|((with_reducible refine (HX.out _).mono ?_);rintro e w1 ⟨rfl,rfl⟩)|((with_reducible refine (HY.out _).mono ?_);rintro e w1 ⟨rfl,rfl⟩))
     go_ret;exact ⟨a1_ (by rw [k0_ HLT.out (p:=farS) (by rw [HFA.out];rfl)];rfl),by have hb:=HB.out;exact xE⟩
    | false=>
     go_wp2_with (go_at_call 105;first|((with_reducible refine (HX.out _).mono ?_);rintro e w1 ⟨rfl,rfl⟩)|((with_reducible refine (HY.out _).mono ?_);rintro e w1 ⟨rfl,rfl⟩))
     go_roundw
     case rel=>exact ⟨k+1,oq_,by go_num,hq_ (gr_ HLT.out HT.out (by rw [HFA.out];rfl)),hq_ (by have hb:=HB.out;exact xE)⟩
     case measure=>simp [intOf];omega
  ·have hn:l.any farS=false:=by
    have h:=HT.out;rwa [List.take_of_length_le oq_] at h
   have HN:=hq_ hn;clear hn;go_wp2_with fail
   go_ret;exact ⟨a1_ (by rw [HN.out];rfl),by have hb:=HB.out;exact xE⟩
theorem jp_ (F:Nat->Prop) (v:Value) (l:List Spn) (t:Int) (w:World) (h:SpnL w F v l) :
  Calls Tryz.prog 150 #[v,.int .i64 t] w fun e w'=>e=.returned (.bool (l.any (inSp t)))∧Below w.heap.size w w':=by
 obtain ⟨a1,c1,rfl⟩:=h.form;have hlen:=h.len;have H:=hq_ h;clear h
 go_enter Tryz.func150,Tryz.ntmps150
 go_wp2_with fail
 go_loopw [5] (fun i wr=>∃ k:Nat,k≤l.length∧i=.int .i64 k∧Hid ((l.take k).any (inSp t)=false)∧Hid (Below w.heap.size w wr)) (fun i _=>l.length-(intOf i).toNat)
 case atStart=>exact ⟨0,oq_,rfl,hq_ sq_,hq_ (Below.refl _ _)⟩
 case round=>
  obtain ⟨k,hk,rfl,HT,HB⟩:=hrel;by_cases hlt:k<l.length
  ·obtain ⟨b1,o1,x,y,rfl,_,hx,_,_,e0,e1⟩:=(H.out.ext HB.out).get hlt;have hfa:inSp t (l.getD k default)=(decide (x≤t) && decide (t<y)):=by rw [hx];rfl
   have HFA:=hq_ hfa;have HLT:=hq_ hlt;clear hfa hx;by_cases h1:x≤t
   ·by_cases h2:t<y
    ·go_wp2_with fail
     go_ret;exact ⟨a1_ (by rw [k0_ HLT.out (p:=inSp t) (by rw [HFA.out];simp [h1,h2])]),by have hb:=HB.out;exact xE⟩
    ·go_wp2_with fail
     go_roundw
     case rel=>exact ⟨k+1,oq_,by go_num,hq_ (gr_ HLT.out HT.out (by rw [HFA.out];simp [h2])),hq_ (by have hb:=HB.out;exact xE)⟩
     case measure=>simp [intOf];omega
   ·go_wp2_with fail
    go_roundw
    case rel=>exact ⟨k+1,oq_,by go_num,hq_ (gr_ HLT.out HT.out (by rw [HFA.out];simp [h1])),hq_ (by have hb:=HB.out;exact xE)⟩
    case measure=>simp [intOf];omega
  ·have hn:l.any (inSp t)=false:=by
    have h:=HT.out;rwa [List.take_of_length_le oq_] at h
   have HN:=hq_ hn;clear hn;go_wp2_with fail
   go_ret;exact ⟨a1_ (by rw [HN.out]),by have hb:=HB.out;exact xE⟩
def inK (k:Int) (a b:Bool):Bool:=if k=0 then a || b else a && b
theorem ss_ (k:Int) (hk:k=0∨k=1) (a b:Bool) (w:World) :
  Calls Tryz.prog 149 #[.int .i64 k,.bool a,.bool b] w fun e w'=>e=.returned (.bool (inK k a b))∧w=w':=by
 rcases hk with rfl|rfl
 all_goals
  cases a;all_goals
   go_enter Tryz.func149,Tryz.ntmps149
   go_wp2;go_ret;exact ⟨a1_ (by simp [inK]),rfl⟩
theorem ds_:∀ u∈l.map (Value.int .i64),u.oneCell'=true:=fun u hu=>by
 obtain ⟨x,_,rfl⟩:=List.mem_map.1 hu;rfl
theorem ia_ (h:OwnI W B (.slice (some ⟨g,0,none⟩) l.length c) l) (hk:k≤l.length) (o c':Nat) (ho:k<l.length->o=k) (hc:l.length-k≤c') (hm:c'≤9223372036854775807) :
  RowR W (fun _=>True) (.slice (some ⟨g,o,none⟩) (l.length-k) c') (l.length-k) ((l.drop k).map (Value.int .i64)):=by
 refine ⟨_,_,rfl,hc,?_,?_⟩
 ·exact hm
 rcases Nat.lt_or_eq_of_le hk with hlt|rfl
 ·obtain rfl:=ho hlt;refine .inr ⟨g,o,rfl,trivial,(h.lt g rfl).2,fun i u hu=>?_⟩;rw [List.getElem?_map,List.getElem?_drop] at hu;rcases Nat.lt_or_ge (o+i) l.length with hi|hi
  ·obtain ⟨b,f,hb,-,hc,-,-⟩:=h.ints.elem hi;injection hb with hb
   injection hb with e1 e2
   subst e1;subst e2;rw [List.getElem?_eq_getElem hi] at hu;rw [getI hi] at hc;simp at hu;rw [<- hu,<- hc,Nat.zero_add]
  ·rw [List.getElem?_eq_none hi] at hu;cases hu
 ·exact .inl oq_
theorem jq_ (B g c:Nat) (l:List Int) (x:Int) (w:World) (h:OwnI w B (.slice (some ⟨g,0,none⟩) l.length c) l) (ha:AscN l) (hx:InI x) (hl:l.length≤900000) (hB:B≤w.heap.size) :
  Calls Tryz.prog 106 #[.slice (some ⟨g,0,none⟩) l.length c,.int .i64 x] w fun e w'=>∃ g' c',e=.returned (.slice (some ⟨g',0,none⟩) (insN l x).length c')∧OwnI w' B (.slice (some ⟨g',0,none⟩) (insN l x).length c') (insN l x)∧Below B w w'∧(∀ b,b<w.heap.size->b≠g->w'.heap[b]? = w.heap[b]?)∧(g'=g∨w.heap.size≤g'):=by
 have hcn:l.length≤c:=by
  obtain ⟨⟨a',c',e,h1,_⟩,_⟩:=h.ints;injection e with _ _ e2
  omega
 have hcm:c≤9223372036854775807:=by
  obtain ⟨⟨a',c',e,_,h1,_⟩,_⟩:=h.ints;injection e with _ _ e2
  omega
 have HCM:=hq_ hcm;have hgB:=h.lt g rfl;obtain ⟨iI,iI1,iI2,iI3,iI4⟩:=dr_;have HII:=hq_ (And.intro iI1 (And.intro iI2 (And.intro iI3 iI4)));have HO:=hq_ h;have HA:=hq_ ha;have HX:=hq_ hx;have HG:=hq_ hgB;clear h ha hx hgB iI1 iI2 iI3 iI4
 go_enter Tryz.func106,Tryz.ntmps106
 go_wp2_with fail
 go_loopw [5] (fun i wr=>∃ k:Nat,k≤l.length∧i=.int .i64 k∧Hid (∀ j,j<k->l.getD j 0<x)∧Hid (Below w.heap.size w wr)) (fun i _=>l.length-(intOf i).toNat)
 case atStart=>exact ⟨0,oq_,rfl,hq_ (by intro j hj;omega),hq_ (Below.refl _ _)⟩
 case round=>
  obtain ⟨k,hk,rfl,HK,HB⟩:=hrel;have HO:=hq_ (HO.out.ext HB.out);have hsz:=HB.out.size;by_cases hlt:k<l.length
  ·obtain ⟨b8,f8,hbo,-,hc8,hm8,-⟩:=HO.out.ints.elem hlt;injection hbo with hbo
   injection hbo with q1 q2
   subst q1;subst q2;rw [Nat.zero_add] at hc8;have hin:=s3_ HA.out hk HK.out;obtain ⟨y,hy⟩:∃ y,l.getD k 0=y:=⟨_,rfl⟩;rw [hy] at hc8 hm8 hin;by_cases h1:y<x
   ·have HKS:Hid (∀ j,j<k+1->l.getD j 0<x):=hq_ fun j hj=>by
     rcases Nat.lt_or_eq_of_le (show j≤k by omega) with e|e
     ·exact HK.out j e
     ·rw [e,hy];exact h1
    clear hy hm8 hin;go_wp2_with fail
    go_roundw
    case rel=>exact ⟨k+1,oq_,by go_num,HKS,hq_ (by have hb:=HB.out;exact xE)⟩
    case measure=>simp [intOf];omega
   ·by_cases h2:y=x
    ·have hin2:=wo_ HA.out (h2 ▸ hm8);have HI2:=hq_ hin2;have qa:(y == x)=true:=by simp [h2]
     clear hy hm8 hin hin2 h2;go_wp2_with fail
     go_ret;exact ⟨g,c,by rw [HI2.out];rfl,by rw [HI2.out];exact HO.out.ext xE,(HB.out.mono hB).trans ((show Below wr.heap.size wr _ by exact xE).mono oq_),fun b hb _=>(Et HB.out (show Below wr.heap.size wr _ by exact xE)).block b hb,.inl rfl⟩
    ·have qa:(y == x)=false:=by simp [h2]
     replace hin:=hin fun _=>oq_;clear hy hm8 h2;have HIN:=hq_ hin;have hrg:∀ y∈l,InI y:=HO.out.rng;have HRG:=hq_ hrg;have HLK:Hid ((l.take k).length=k):=hq_ (by rw [List.length_take];omega);have HGG:=hq_ (HO.out.lt g rfl);have hBr:B≤wr.heap.size:=oq_;clear hin hrg;go_wp2_with (first|(at_builtin;((refine b3_ rq_ _ _ _ _ rq_ iI _ 1 8 Tryz.underlying36 HII.out.1 HII.out.2.1 HII.out.2.2.1 HII.out.2.2.2 rfl dq_ dq_ wr.heap.size (.slice (some ⟨wr.heap.size,0,none⟩) 0 0) _ 0 (l.length-k) [] ((l.drop k).map (Value.int .i64)) (fun _=>True) rfl ⟨sq_,.inr ⟨wr.heap.size,0,#[],rfl,oq_,by simpa using World.alloc_heap_new wr _,sq_,by simp [maxLen],sq_,sq_⟩⟩ rfl (ia_ (HO.out.ext (Ea (Er wr) _)) hk k (c-k) (fun _=>rfl) oq_ (by have:=HCM.out;omega)) sq_ ds_ oq_ sq_ ?_);intro v2 w2 hown2 hgrow2 hloc2;rw [Nat.zero_add,List.nil_append] at hown2;obtain ⟨ra,rc,rfl⟩:=a5_ hown2;have hb2:Below wr.heap.size wr w2:=Below.grown (Ea (Er wr) _) hgrow2 sq_ (fun q e=>by cases e;exact Nat.le_refl _);have HO2:=hq_ hown2;have HB2:=hq_ hb2;have hz2:=hb2.size;have hO2:=HO.out.ext hb2;have HC2:Hid (OwnI w2 B (.slice (some ⟨g,0,none⟩) k c) (l.take k)):=hq_ (OwnI.cut hO2.row hk (fun y hy=>HRG.out y (List.mem_of_mem_take hy)) rfl oq_);clear hown2 hgrow2 hloc2 hb2 hO2))|(at_builtin;((refine em_ rq_ _ _ rq_ B (.slice (some ⟨g,0,none⟩) k c) (l.take k) x rq_ (HC2.out.ext (Ea (Er w2) _)) w2.heap.size 1 rq_ (((Bxx.new w2 #[.int .i64 x] 3).cells 0).1) HX.out (by rw [HLK.out];omega) tq_ ?_);intro g3 c3 w3 hown3 hgrow3 hbel3 hloc3;rw [HLK.out] at hown3;rw [HLK.out];have HO3:=hq_ hown3;have hb3:Below B wr w3:=Below.trans (HB2.out.mono hBr) (Below.trans ((Ea (Er w2) _).mono (show B≤w2.heap.size by omega)) hbel3);have hz3:=hbel3.size;have HR3:Hid (RowR w3 (fun b=>wr.heap.size≤b) (.slice ra (l.length-k) rc) (l.length-k) ((l.drop k).map (Value.int .i64))):=hq_ ((cl_ HO2.out).keep (fun b (hb:wr.heap.size≤b) hl=>(hgrow3.block b tq_ (fun e=>by have:=HGG.out;have e2:b=g:=(by cases e;rfl);omega)).trans (Below.heap_alloc w2 _ b hl)) (by simp at hz3;omega));have HB3:=hq_ hb3;have HK3:Hid (∀ b,b<wr.heap.size->b≠g->w3.heap[b]? = wr.heap[b]?):=hq_ (fun b h1 h2=>(hgrow3.block b tq_ (fun e=>h2 (by cases e;rfl))).trans ((Below.heap_alloc w2 _ b oq_).trans (HB2.out.block b h1)));have HL3:Hid (g3=g∨wr.heap.size≤g3):=hq_ (hloc3.imp (fun e=>by cases e;rfl) (fun e=>by simp at e;omega));simp at hz3;clear hown3 hgrow3 hbel3 hloc3 hb3))|(at_builtin;((refine b3_ rq_ _ _ _ _ rq_ iI _ 1 8 Tryz.underlying36 HII.out.1 HII.out.2.1 HII.out.2.2.1 HII.out.2.2.2 rfl dq_ dq_ B (.slice (some ⟨g3,0,none⟩) (k+1) c3) _ (k+1) (l.length-k) ((l.take k ++ [x]).map (Value.int .i64)) ((l.drop k).map (Value.int .i64)) _ rfl (by have h:=HO3.out.row;rwa [List.length_append,HLK.out] at h) rfl HR3.out sq_ ds_ oq_ oq_ ?_);intro v4 w4 hown4 hgrow4 hloc4;have HO4:=hq_ hown4;have HB4:=hq_ (HB3.out.grown hgrow4 oq_ (fun q e=>by have:=HO3.out.lt q e;omega));have HK4:Hid (∀ b,b<wr.heap.size->b≠g->w4.heap[b]? = wr.heap[b]?):=hq_ (fun b h1 h2=>(hgrow4.block b oq_ (fun e=>by have h3:b=g3:=(by cases e;rfl);have:=HL3.out;omega)).trans (HK3.out b h1 h2));have HL4:=hq_ hloc4;have HZ3:=hq_ hz3;clear hown4 hgrow4 hloc4)))
     go_ret;have hins:insN l x=l.take k ++ x :: l.drop k:=HIN.out;have hlen:(insN l x).length=k+1+(l.length-k):=by rw [hins,List.length_append,List.length_cons,HLK.out,List.length_drop];omega
     have hrow:w4.ownsRow B 3 1 v4 (insN l x).length ((insN l x).map (Value.int .i64)):=by
      have h:=HO4.out;rw [hlen,hins];simpa using h
     obtain ⟨g4,c4,rfl⟩:∃ g4 c4,v4=.slice (some ⟨g4,0,none⟩) (insN l x).length c4:=by
      rcases hrow.2 with ⟨_,h0⟩|⟨g4,c4,_,e,_⟩
      ·omega
      ·exact ⟨g4,c4,e⟩
     exact ⟨g4,c4,rfl,⟨hrow,fun y hy=>by
      rcases du_.1 hy with rfl|hy
      ·exact HX.out
      ·exact HRG.out y hy,by have:=d0_ (l:=l) (x:=x);omega⟩,(HB.out.mono hB).trans HB4.out,fun b h1 h2=>(HK4.out b oq_ h2).trans (HB.out.block b h1),by
      have h3:=HL3.out;have h5:=HZ3.out;rcases HL4.out with e|e
      ·have e2:g4=g3:=by cases e;rfl
       omega
      ·have e2:g4=w3.heap.size:=by cases e;rfl
       omega⟩
  ·have hkl:k=l.length:=oq_;have hkI:¬ (k:Int)<l.length:=oq_;have hin:=s3_ HA.out hk HK.out fun h=>absurd h hlt;have HKL:=hq_ hkl;have hkn:¬ k<l.length:=hlt;by_cases hcc:c=k
   ·have hkc:¬ k<c:=oq_;clear hkl hlt hcc;have HP:=hq_ (show k<l.length->0=k from fun h=>absurd h hkn);have HQ:=hq_ (show l.length-k≤c-k by have:=HKL.out;omega);have HIN:=hq_ hin;have hrg:∀ y∈l,InI y:=HO.out.rng;have HRG:=hq_ hrg;have HLK:Hid ((l.take k).length=k):=hq_ (by rw [List.length_take];omega);have HGG:=hq_ (HO.out.lt g rfl);have hBr:B≤wr.heap.size:=oq_;clear hin hrg;go_wp2_with (first|(at_builtin;((refine b3_ rq_ _ _ _ _ rq_ iI _ 1 8 Tryz.underlying36 HII.out.1 HII.out.2.1 HII.out.2.2.1 HII.out.2.2.2 rfl dq_ dq_ wr.heap.size (.slice (some ⟨wr.heap.size,0,none⟩) 0 0) _ 0 (l.length-k) [] ((l.drop k).map (Value.int .i64)) (fun _=>True) rfl ⟨sq_,.inr ⟨wr.heap.size,0,#[],rfl,oq_,by simpa using World.alloc_heap_new wr _,sq_,by simp [maxLen],sq_,sq_⟩⟩ rfl (ia_ (HO.out.ext (Ea (Er wr) _)) hk 0 (c-k) HP.out HQ.out (by have:=HCM.out;omega)) sq_ ds_ oq_ sq_ ?_);intro v2 w2 hown2 hgrow2 hloc2;rw [Nat.zero_add,List.nil_append] at hown2;obtain ⟨ra,rc,rfl⟩:=a5_ hown2;have hb2:Below wr.heap.size wr w2:=Below.grown (Ea (Er wr) _) hgrow2 sq_ (fun q e=>by cases e;exact Nat.le_refl _);have HO2:=hq_ hown2;have HB2:=hq_ hb2;have hz2:=hb2.size;have hO2:=HO.out.ext hb2;have HC2:Hid (OwnI w2 B (.slice (some ⟨g,0,none⟩) k c) (l.take k)):=hq_ (OwnI.cut hO2.row hk (fun y hy=>HRG.out y (List.mem_of_mem_take hy)) rfl oq_);clear hown2 hgrow2 hloc2 hb2 hO2))|(at_builtin;((refine em_ rq_ _ _ rq_ B (.slice (some ⟨g,0,none⟩) k c) (l.take k) x rq_ (HC2.out.ext (Ea (Er w2) _)) w2.heap.size 1 rq_ (((Bxx.new w2 #[.int .i64 x] 3).cells 0).1) HX.out (by rw [HLK.out];omega) tq_ ?_);intro g3 c3 w3 hown3 hgrow3 hbel3 hloc3;rw [HLK.out] at hown3;rw [HLK.out];have HO3:=hq_ hown3;have hb3:Below B wr w3:=Below.trans (HB2.out.mono hBr) (Below.trans ((Ea (Er w2) _).mono (show B≤w2.heap.size by omega)) hbel3);have hz3:=hbel3.size;have HR3:Hid (RowR w3 (fun b=>wr.heap.size≤b) (.slice ra (l.length-k) rc) (l.length-k) ((l.drop k).map (Value.int .i64))):=hq_ ((cl_ HO2.out).keep (fun b (hb:wr.heap.size≤b) hl=>(hgrow3.block b tq_ (fun e=>by have:=HGG.out;have e2:b=g:=(by cases e;rfl);omega)).trans (Below.heap_alloc w2 _ b hl)) (by simp at hz3;omega));have HB3:=hq_ hb3;have HK3:Hid (∀ b,b<wr.heap.size->b≠g->w3.heap[b]? = wr.heap[b]?):=hq_ (fun b h1 h2=>(hgrow3.block b tq_ (fun e=>h2 (by cases e;rfl))).trans ((Below.heap_alloc w2 _ b oq_).trans (HB2.out.block b h1)));have HL3:Hid (g3=g∨wr.heap.size≤g3):=hq_ (hloc3.imp (fun e=>by cases e;rfl) (fun e=>by simp at e;omega));simp at hz3;clear hown3 hgrow3 hbel3 hloc3 hb3))|(at_builtin;((refine b3_ rq_ _ _ _ _ rq_ iI _ 1 8 Tryz.underlying36 HII.out.1 HII.out.2.1 HII.out.2.2.1 HII.out.2.2.2 rfl dq_ dq_ B (.slice (some ⟨g3,0,none⟩) (k+1) c3) _ (k+1) (l.length-k) ((l.take k ++ [x]).map (Value.int .i64)) ((l.drop k).map (Value.int .i64)) _ rfl (by have h:=HO3.out.row;rwa [List.length_append,HLK.out] at h) rfl HR3.out sq_ ds_ oq_ oq_ ?_);intro v4 w4 hown4 hgrow4 hloc4;have HO4:=hq_ hown4;have HB4:=hq_ (HB3.out.grown hgrow4 oq_ (fun q e=>by have:=HO3.out.lt q e;omega));have HK4:Hid (∀ b,b<wr.heap.size->b≠g->w4.heap[b]? = wr.heap[b]?):=hq_ (fun b h1 h2=>(hgrow4.block b oq_ (fun e=>by have h3:b=g3:=(by cases e;rfl);have:=HL3.out;omega)).trans (HK3.out b h1 h2));have HL4:=hq_ hloc4;have HZ3:=hq_ hz3;clear hown4 hgrow4 hloc4)))
    go_ret;have hins:insN l x=l.take k ++ x :: l.drop k:=HIN.out;have hlen:(insN l x).length=k+1+(l.length-k):=by rw [hins,List.length_append,List.length_cons,HLK.out,List.length_drop];omega
    have hrow:w4.ownsRow B 3 1 v4 (insN l x).length ((insN l x).map (Value.int .i64)):=by
     have h:=HO4.out;rw [hlen,hins];simpa using h
    obtain ⟨g4,c4,rfl⟩:∃ g4 c4,v4=.slice (some ⟨g4,0,none⟩) (insN l x).length c4:=by
     rcases hrow.2 with ⟨_,h0⟩|⟨g4,c4,_,e,_⟩
     ·omega
     ·exact ⟨g4,c4,e⟩
    exact ⟨g4,c4,rfl,⟨hrow,fun y hy=>by
     rcases du_.1 hy with rfl|hy
     ·exact HX.out
     ·exact HRG.out y hy,by have:=d0_ (l:=l) (x:=x);omega⟩,(HB.out.mono hB).trans HB4.out,fun b h1 h2=>(HK4.out b oq_ h2).trans (HB.out.block b h1),by
     have h3:=HL3.out;have h5:=HZ3.out;rcases HL4.out with e|e
     ·have e2:g4=g3:=by cases e;rfl
      omega
     ·have e2:g4=w3.heap.size:=by cases e;rfl
      omega⟩
   ·have hkc:k<c:=oq_;clear hkl hlt hcc;have HQ:=hq_ (show l.length-k≤c-k by have:=HKL.out;omega);have HIN:=hq_ hin;have hrg:∀ y∈l,InI y:=HO.out.rng;have HRG:=hq_ hrg;have HLK:Hid ((l.take k).length=k):=hq_ (by rw [List.length_take];omega);have HGG:=hq_ (HO.out.lt g rfl);have hBr:B≤wr.heap.size:=oq_;clear hin hrg;go_wp2_with (first|(at_builtin;((refine b3_ rq_ _ _ _ _ rq_ iI _ 1 8 Tryz.underlying36 HII.out.1 HII.out.2.1 HII.out.2.2.1 HII.out.2.2.2 rfl dq_ dq_ wr.heap.size (.slice (some ⟨wr.heap.size,0,none⟩) 0 0) _ 0 (l.length-k) [] ((l.drop k).map (Value.int .i64)) (fun _=>True) rfl ⟨sq_,.inr ⟨wr.heap.size,0,#[],rfl,oq_,by simpa using World.alloc_heap_new wr _,sq_,by simp [maxLen],sq_,sq_⟩⟩ rfl (ia_ (HO.out.ext (Ea (Er wr) _)) hk k (c-k) (fun _=>rfl) HQ.out (by have:=HCM.out;omega)) sq_ ds_ oq_ sq_ ?_);intro v2 w2 hown2 hgrow2 hloc2;rw [Nat.zero_add,List.nil_append] at hown2;obtain ⟨ra,rc,rfl⟩:=a5_ hown2;have hb2:Below wr.heap.size wr w2:=Below.grown (Ea (Er wr) _) hgrow2 sq_ (fun q e=>by cases e;exact Nat.le_refl _);have HO2:=hq_ hown2;have HB2:=hq_ hb2;have hz2:=hb2.size;have hO2:=HO.out.ext hb2;have HC2:Hid (OwnI w2 B (.slice (some ⟨g,0,none⟩) k c) (l.take k)):=hq_ (OwnI.cut hO2.row hk (fun y hy=>HRG.out y (List.mem_of_mem_take hy)) rfl oq_);clear hown2 hgrow2 hloc2 hb2 hO2))|(at_builtin;((refine em_ rq_ _ _ rq_ B (.slice (some ⟨g,0,none⟩) k c) (l.take k) x rq_ (HC2.out.ext (Ea (Er w2) _)) w2.heap.size 1 rq_ (((Bxx.new w2 #[.int .i64 x] 3).cells 0).1) HX.out (by rw [HLK.out];omega) tq_ ?_);intro g3 c3 w3 hown3 hgrow3 hbel3 hloc3;rw [HLK.out] at hown3;rw [HLK.out];have HO3:=hq_ hown3;have hb3:Below B wr w3:=Below.trans (HB2.out.mono hBr) (Below.trans ((Ea (Er w2) _).mono (show B≤w2.heap.size by omega)) hbel3);have hz3:=hbel3.size;have HR3:Hid (RowR w3 (fun b=>wr.heap.size≤b) (.slice ra (l.length-k) rc) (l.length-k) ((l.drop k).map (Value.int .i64))):=hq_ ((cl_ HO2.out).keep (fun b (hb:wr.heap.size≤b) hl=>(hgrow3.block b tq_ (fun e=>by have:=HGG.out;have e2:b=g:=(by cases e;rfl);omega)).trans (Below.heap_alloc w2 _ b hl)) (by simp at hz3;omega));have HB3:=hq_ hb3;have HK3:Hid (∀ b,b<wr.heap.size->b≠g->w3.heap[b]? = wr.heap[b]?):=hq_ (fun b h1 h2=>(hgrow3.block b tq_ (fun e=>h2 (by cases e;rfl))).trans ((Below.heap_alloc w2 _ b oq_).trans (HB2.out.block b h1)));have HL3:Hid (g3=g∨wr.heap.size≤g3):=hq_ (hloc3.imp (fun e=>by cases e;rfl) (fun e=>by simp at e;omega));simp at hz3;clear hown3 hgrow3 hbel3 hloc3 hb3))|(at_builtin;((refine b3_ rq_ _ _ _ _ rq_ iI _ 1 8 Tryz.underlying36 HII.out.1 HII.out.2.1 HII.out.2.2.1 HII.out.2.2.2 rfl dq_ dq_ B (.slice (some ⟨g3,0,none⟩) (k+1) c3) _ (k+1) (l.length-k) ((l.take k ++ [x]).map (Value.int .i64)) ((l.drop k).map (Value.int .i64)) _ rfl (by have h:=HO3.out.row;rwa [List.length_append,HLK.out] at h) rfl HR3.out sq_ ds_ oq_ oq_ ?_);intro v4 w4 hown4 hgrow4 hloc4;have HO4:=hq_ hown4;have HB4:=hq_ (HB3.out.grown hgrow4 oq_ (fun q e=>by have:=HO3.out.lt q e;omega));have HK4:Hid (∀ b,b<wr.heap.size->b≠g->w4.heap[b]? = wr.heap[b]?):=hq_ (fun b h1 h2=>(hgrow4.block b oq_ (fun e=>by have h3:b=g3:=(by cases e;rfl);have:=HL3.out;omega)).trans (HK3.out b h1 h2));have HL4:=hq_ hloc4;have HZ3:=hq_ hz3;clear hown4 hgrow4 hloc4)))
    go_ret;have hins:insN l x=l.take k ++ x :: l.drop k:=HIN.out;have hlen:(insN l x).length=k+1+(l.length-k):=by rw [hins,List.length_append,List.length_cons,HLK.out,List.length_drop];omega
    have hrow:w4.ownsRow B 3 1 v4 (insN l x).length ((insN l x).map (Value.int .i64)):=by
     have h:=HO4.out;rw [hlen,hins];simpa using h
    obtain ⟨g4,c4,rfl⟩:∃ g4 c4,v4=.slice (some ⟨g4,0,none⟩) (insN l x).length c4:=by
     rcases hrow.2 with ⟨_,h0⟩|⟨g4,c4,_,e,_⟩
     ·omega
     ·exact ⟨g4,c4,e⟩
    exact ⟨g4,c4,rfl,⟨hrow,fun y hy=>by
     rcases du_.1 hy with rfl|hy
     ·exact HX.out
     ·exact HRG.out y hy,by have:=d0_ (l:=l) (x:=x);omega⟩,(HB.out.mono hB).trans HB4.out,fun b h1 h2=>(HK4.out b oq_ h2).trans (HB.out.block b h1),by
     have h3:=HL3.out;have h5:=HZ3.out;rcases HL4.out with e|e
     ·have e2:g4=g3:=by cases e;rfl
      omega
     ·have e2:g4=w3.heap.size:=by cases e;rfl
      omega⟩
theorem kv_ {l:List Spn}:∀ u∈l.flatMap senc,u.oneCell'=true:=fun u hu=>by
 obtain ⟨x,_,h⟩:=List.mem_flatMap.1 hu;exact d2_ u h
theorem ku_ {l:List Spn}:(l.flatMap senc).length=l.length*2:=by
 induction l with
 | nil=>rfl
 | cons x l ih=>rw [List.flatMap_cons,List.length_append,ih,er_,List.length_cons];omega
theorem r3_ {l:List Spn} (hk:k<l.length):bndN [] (l.take (k+1))=insN (insN (bndN [] (l.take k)) (l.getD k default).1) (l.getD k default).2:=by
 rw [List.take_succ_eq_append_getElem hk,r2_,<- a6_ (d:=default) hk]
structure BdW (w w4:World) (N:List Int) (v:Value) (W:World):Prop where
 own:∃ g c,v=.slice (some ⟨g,0,none⟩) N.length c∧OwnI W w.heap.size (.slice (some ⟨g,0,none⟩) N.length c) N∧(g=w.heap.size∨w4.heap.size≤g)
 below:Below w.heap.size w W
 keep:∀ b,b<w4.heap.size->b≠w.heap.size->W.heap[b]? = w4.heap[b]?
 size:w4.heap.size≤W.heap.size
 asc:AscN N
theorem BdW.ins {w4:World} {N:List Int} (h:BdW w w4 N v W) (hx:InI x) (hl:N.length≤900000) (h4:w.heap.size≤w4.heap.size) :
  Calls Tryz.prog 106 #[v,.int .i64 x] W fun e w'=>∃ u,e=.returned u∧BdW w w4 (insN N x) u w':=by
 obtain ⟨g,c,rfl,h2,h3⟩:=h.own;have hs:=h.size;refine (jq_ w.heap.size g c N x W h2 h.asc hx hl oq_).mono ?_;rintro e w' ⟨g',c',rfl,k1,k2,k3,k4⟩;have ks:=k2.size;exact ⟨_,rfl,⟨g',c',rfl,k1,oq_⟩,h.below.trans k2,fun b b1 b2=>(k3 b oq_ oq_).trans (h.keep b b1 b2),oq_,h.asc.ins x⟩
theorem jn_ (F G:Nat->Prop) (v1 v2:Value) (l1 l2:List Spn) (w:World) (h1:SpnL w F v1 l1) (h2:SpnL w G v2 l2) (hn:l1.length+l2.length≤400000) :
  Calls Tryz.prog 107 #[v1,v2] w fun e w'=>∃ g c,e=.returned (.slice (some ⟨g,0,none⟩) (bndN [] (l1 ++ l2)).length c)∧OwnI w' w.heap.size (.slice (some ⟨g,0,none⟩) (bndN [] (l1 ++ l2)).length c) (bndN [] (l1 ++ l2))∧Below w.heap.size w w':=by
 obtain ⟨iS,iS1,iS2,iS3,iS4⟩:=fl_;have HIS:=hq_ (And.intro iS1 (And.intro iS2 (And.intro iS3 iS4)));obtain ⟨a1,c1,rfl⟩:=h1.form;obtain ⟨a2,c2,rfl⟩:=h2.form;have H1:=hq_ h1;have H2:=hq_ h2;clear h1 h2 iS1 iS2 iS3 iS4;obtain ⟨l,hl⟩:∃ l,l=l1 ++ l2:=⟨_,rfl⟩;rw [<- hl];have HL:=hq_ hl;clear hl
 go_enter Tryz.func107,Tryz.ntmps107
 go_wp2_with (first|(at_builtin;((refine b3_ rq_ _ _ _ _ rq_ iS _ 2 16 Tryz.underlying31 HIS.out.1 HIS.out.2.1 HIS.out.2.2.1 HIS.out.2.2.2 rfl dq_ dq_ (w.heap.size+1) (.slice (some ⟨w.heap.size+1,0,none⟩) 0 0) (.slice a1 l1.length c1) 0 l1.length [] (l1.flatMap senc) F rq_ ⟨sq_,.inr ⟨w.heap.size+1,0,#[],rfl,oq_,by simpa using World.alloc_heap_new (w.alloc _) _,sq_,by simp [maxLen],sq_,sq_⟩⟩ rq_ (H1.out.ext (Ea (Ea (Er w) _) _)).row ku_ kv_ oq_ sq_ ?_);intro v2 w2 hown2 hgrow2 hloc2;rw [Nat.zero_add,List.nil_append] at hown2;obtain ⟨ra,rc,rfl⟩:=a5_ hown2;have hb2:Below (w.heap.size+1) (w.alloc (.cells #[] 3)) w2:=Below.grown (by have:=Ea (Er (w.alloc (.cells #[] 3))) (.cells #[] 28);simpa using this) hgrow2 sq_ (fun q e=>by cases e;exact Nat.le_refl _);have HO2:=hq_ hown2;have HB2:=hq_ hb2;have hz2:=hb2.size;simp at hz2;clear hown2 hgrow2 hloc2 hb2))|(at_builtin;((refine b3_ rq_ _ _ _ _ rq_ iS _ 2 16 Tryz.underlying31 HIS.out.1 HIS.out.2.1 HIS.out.2.2.1 HIS.out.2.2.2 rfl dq_ dq_ (w.heap.size+1) (.slice ra l1.length rc) (.slice a2 l2.length c2) l1.length l2.length (l1.flatMap senc) (l2.flatMap senc) G rq_ HO2.out rq_ (H2.out.ext (Et (Ea (Er w) _) (HB2.out.mono sq_))).row ku_ kv_ oq_ oq_ ?_);intro v4 w4 hown4 hgrow4 hloc4;obtain ⟨sa,sc,rfl⟩:=a5_ hown4;have HO4:=hq_ hown4;have HB4:=hq_ (HB2.out.grown hgrow4 oq_ (fun q e=>(World.ownsRow.lt HO2.out q e).1));clear hown4 hgrow4 hloc4)))
 have hb4:Below w.heap.size w w4:=Et (Ea (Er w) (.cells #[] 3)) (HB4.out.mono sq_);have hz4:=HB4.out.size;simp at hz4;have hd0:BdW w w4 [] (.slice (some ⟨w.heap.size,0,none⟩) 0 0) w4:=⟨⟨w.heap.size,0,rfl,⟨⟨sq_,.inr ⟨w.heap.size,0,#[],rfl,Nat.le_refl _,(HB4.out.block w.heap.size oq_).trans (by simpa using World.alloc_heap_new w (.cells #[] 3)),sq_,by simp [maxLen],sq_,sq_⟩⟩,sq_,sq_⟩,.inl rfl⟩,hb4,fun _ _ _=>rfl,Nat.le_refl _,.nil⟩;have hl:=HL.out;have hll:l.length=l1.length+l2.length:=by rw [hl,List.length_append]
 have hS:SpnL w4 (fun b=>w.heap.size+1≤b) (.slice sa l.length sc) l:=by
  refine ⟨?_,oq_,fun x hx=>?_⟩
  ·have h:=cl_ HO4.out;rw [hll,hl,List.flatMap_append];exact h
  ·rw [hl] at hx;rcases List.mem_append.1 hx with hx|hx
   ·exact H1.out.all x hx
   ·exact H2.out.all x hx
 rw [<- hll];have HS:=hq_ hS;have HD0:=hq_ hd0;have HB4:=hq_ hb4;have HLN:=hq_ (show l.length≤400000 by omega);have hws:w.heap.size≤w4.heap.size:=hb4.size;clear hS hd0 hb4 hl hll hz4;go_loopw [5,7] (fun ov iv wr=>∃ k:Nat,k≤l.length∧iv=.int .i64 k∧Hid (BdW w w4 (bndN [] (l.take k)) ov wr)) (fun _ iv _=>l.length-(intOf iv).toNat)
 case atStart=>exact ⟨0,oq_,rfl,HD0⟩
 case round=>
  obtain ⟨k,hk,rfl,HD⟩:=hrel;have hlen:=HLN.out;have hbl:=i6_ (a:=l.take k) (l:=[]);rw [List.length_take,Nat.min_eq_left hk,List.length_nil] at hbl;by_cases hlt:k<l.length
  ·have hlI:(k:Int)<l.length:=oq_;have HLT:=hq_ (show k+1≤l.length by omega);have HK:=hq_ (fun (W:World) (ov:Value) (N:List Int) (h:BdW w w4 N ov W)=>(⟨HS.out.row.keep (fun b (hb:w.heap.size+1≤b) hl=>h.keep b hl oq_) h.size,HS.out.len,HS.out.all⟩:SpnL W (fun b=>w.heap.size+1≤b) (.slice sa l.length sc) l));obtain ⟨b8,f8,x,y,rfl,hb8,hx,hix,hiy,e0,e1⟩:=(HK.out _ _ _ HD.out).get hlt;have hbt:=r3_ hlt;rw [hx] at hbt;have HBT:=hq_ hbt;have HI1:=hq_ (HD.out.ins hix oq_ hws);have HIY:=hq_ hiy;have HLK:=hq_ hlt;have HXX:=hq_ hx;have HNL:=hq_ hbl;clear hbt hx hlt hbl hix hiy;go_wp2_with (first|(go_at_call 106;(with_reducible refine HI1.out.mono ?_);rintro e w5 ⟨u5,rfl,hd5⟩;obtain ⟨b7,f7,x',y',hbo,-,hx',-,-,-,e2⟩:=(HK.out _ _ _ hd5).get HLK.out;injection hbo with hbo;injection hbo with q1 q2;subst q1 q2;rw [HXX.out] at hx';injection hx' with q3 q4;subst q3 q4;have HD5:=hq_ hd5;have HI2:=hq_ (hd5.ins HIY.out (by have:=d0_ (l:=bndN [] (l.take k)) (x:=x);have:=HNL.out;omega) hws);clear hd5 e0 e1)|(go_at_call 106;(with_reducible refine HI2.out.mono ?_);rintro e w6 ⟨u6,rfl,hd6⟩;have HD6:=hq_ hd6;clear hd6 e2))
   go_roundw
   case rel=>exact ⟨k+1,HLT.out,by go_num,hq_ (by rw [HBT.out];exact HD6.out)⟩
   case measure=>have:=HLT.out;simp [intOf];omega
  ·obtain rfl:k=l.length:=oq_;have hkI:¬ (l.length:Int)<l.length:=oq_;have hd:=HD.out;rw [List.take_length] at hd;obtain ⟨g,c,rfl,ho,-⟩:=hd.own;have HO:=hq_ ho;have HBB:=hq_ hd.below;clear hd ho hbl;go_wp2_with fail
   go_ret;exact ⟨g,c,rfl,HO.out,HBB.out⟩
end Go.Proofs.YtkclokcenllhmaaGreat
end
namespace Go.Proofs.YtkclokcenllhmaaGreat
open Go.RowKit Go.Maps Kal
def CmP (k:Int) (l1 l2:List Spn) (t:Int):Prop:=inK k (l1.any (inSp t)) (l2.any (inSp t))=true
theorem j7_ {l:List Spn} {t u:Int} (h:SpM l t↔SpM l u):l.any (inSp t)=l.any (inSp u):=by
 rw [Bool.eq_iff_iff,cz_,cz_];exact h
theorem oh_ {l:List Spn} {t:Int} (h:¬ SpM l t):l.any (inSp t)=false:=by
 rcases hb:l.any (inSp t) with _|_
 ·rfl
 ·exact absurd (cz_.1 hb) h
section
variable {k:Int} {l1 l2:List Spn} {B:List Int}
theorem r8_ (hA:AscN B) (h1:∀ s∈l1,s.1∈B∧s.2∈B) (h2:∀ s∈l2,s.1∈B∧s.2∈B) {i:Nat} (hi:i+1<B.length) {t:Int} (t1:B.getD i 0≤t) (t2:t<B.getD (i+1) 0):CmP k l1 l2 t↔CmP k l1 l2 (B.getD i 0):=by
 unfold CmP;rw [j7_ (kg_ hA h1 hi t1 t2),j7_ (kg_ hA h2 hi t1 t2)]
theorem r9_ {t:Int} (h1:¬ SpM l1 t) (h2:¬ SpM l2 t):¬ CmP k l1 l2 t:=by
 unfold CmP;rw [oh_ h1,oh_ h2];unfold inK
 split <;> simp
theorem u1_ (hA:AscN B) (h1:∀ s∈l1,s.1∈B∧s.2∈B) (h2:∀ s∈l2,s.1∈B∧s.2∈B):CmI (CmP k l1 l2) (B.getD 0 0) []:=
 ⟨NS.nil,fun t=>⟨fun h=>absurd h (SpM.nil t),fun h=>absurd h.1 (r9_ (hk_ hA h1 (.inl h.2)) (hk_ hA h2 (.inl h.2)))⟩,sq_⟩
theorem wf_ (hA:AscN B) (h1:∀ s∈l1,s.1∈B∧s.2∈B) (h2:∀ s∈l2,s.1∈B∧s.2∈B) {i:Nat} {N:List Spn} (hi:i+1=B.length∨B=[]) (h:CmI (CmP k l1 l2) (B.getD i 0) N):NS N∧∀ t,SpM N t↔CmP k l1 l2 t:=
 ⟨h.ns,fun t=>(h.mem t).trans ⟨fun g=>g.1,fun g=>⟨g,by
  rcases Int.lt_or_le t (B.getD i 0) with e|e
  ·exact e
  ·refine absurd g (r9_ ?_ ?_)
   ·rcases hi with hi|rfl
    ·exact lx_ hA h1 hi e
    ·exact hk_ hA h1 (.inr rfl)
   ·rcases hi with hi|rfl
    ·exact lx_ hA h2 hi e
    ·exact hk_ hA h2 (.inr rfl)⟩⟩⟩
end
def w8_ (k:Int) (l1 l2:List Spn) (w:World) (e:Ending) (w':World):Prop:=
 ∃ v N,e=.returned v∧NS N∧(∀ t,SpM N t↔CmP k l1 l2 t)∧N.length≤2*(l1.length+l2.length)∧SpnL w' (fun b=>w.heap.size≤b) v N∧Below w.heap.size w w'
theorem jo_ (k:Int) (hk:k=0∨k=1) (F G:Nat->Prop) (v1 v2:Value) (l1 l2:List Spn) (w:World) (h1:SpnL w F v1 l1) (h2:SpnL w G v2 l2) (hn:l1.length+l2.length≤400000) :
  Calls Tryz.prog 98 #[.int .i64 k,v1,v2] w (w8_ k l1 l2 w):=by
 obtain ⟨iS,iS1,iS2,iS3,iS4⟩:=fl_;have HIS:=hq_ (And.intro iS1 (And.intro iS2 (And.intro iS3 iS4)));have HBD:=hq_ (jn_ F G v1 v2 l1 l2 w h1 h2 hn);obtain ⟨a1,c1,rfl⟩:=h1.form;obtain ⟨a2,c2,rfl⟩:=h2.form;have hA:AscN (bndN [] (l1 ++ l2)):=AscN.bnd .nil;have hm:∀ s∈l1 ++ l2,s.1∈bndN [] (l1 ++ l2)∧s.2∈bndN [] (l1 ++ l2):=fun s hs=>⟨ip_.2 (.inr ⟨s,hs,.inl rfl⟩),ip_.2 (.inr ⟨s,hs,.inr rfl⟩)⟩;have hbl:=i6_ (a:=l1 ++ l2) (l:=[]);rw [List.length_append,List.length_nil] at hbl;obtain ⟨B,hB⟩:∃ B,B=bndN [] (l1 ++ l2):=⟨_,rfl⟩;rw [<- hB] at HBD hA hm hbl;have H1:=hq_ h1;have H2:=hq_ h2;have HA:=hq_ hA;have HM1:=hq_ (fun s (hs:s∈l1)=>hm s (List.mem_append_left _ hs));have HM2:=hq_ (fun s (hs:s∈l2)=>hm s (List.mem_append_right _ hs));have HBL:=hq_ hbl;have HN:=hq_ hn;have HK:=hq_ hk;clear h1 h2 hA hm hbl hB hn hk iS1 iS2 iS3 iS4
 go_enter Tryz.func98,Tryz.ntmps98
 go_wp2_with (go_at_call 107;(with_reducible refine HBD.out.mono ?_);rintro e w1 ⟨gB,cB,rfl,ho1,hb1⟩;have HO1:=hq_ ho1;have HB1:=hq_ hb1;clear ho1 hb1)
 have hz1:=HB1.out.size;go_loopw [8,9,10,11] (fun ov iv _ _ wr=>∃ (i:Nat) (N:List Spn),(i<B.length∨i=0)∧iv=.int .i64 i∧N.length≤i∧Hid (CmI (CmP k l1 l2) (B.getD i 0) N)∧Hid (OwnS w1.heap.size (fun _=>False) wr ov N)∧Hid (Below w1.heap.size w1 wr)) (fun _ iv _ _ _=>B.length-(intOf iv).toNat)
 case atStart=>exact ⟨0,[],.inr rfl,rfl,sq_,hq_ (u1_ HA.out HM1.out HM2.out),hq_ ⟨⟨sq_,.inr ⟨w1.heap.size,0,#[],rfl,oq_,by simpa using World.alloc_heap_new w1 _,sq_,by simp [maxLen],sq_,sq_⟩⟩,sq_,fun _ _ h=>h,sq_⟩,hq_ (Ea (Er _) _)⟩
 case round=>
  obtain ⟨i,N,hi,rfl,hNl,HCM,HO,HB⟩:=hrel;have hwz:=HB.out.size;have hbl:=HBL.out;have hn:=HN.out;by_cases hlt:i+1<B.length
  ·have hlI:(i:Int)+1<B.length:=oq_;obtain ⟨b8,f8,hbo,-,e0,hm0,-⟩:=(HO1.out.ext HB.out).ints.elem (show i<B.length by omega);injection hbo with hbo
   injection hbo with q1 q2
   subst q1 q2;obtain ⟨b8,f8,hbo,-,e1,hm1,-⟩:=(HO1.out.ext HB.out).ints.elem hlt;injection hbo with hbo
   injection hbo with q1 q2
   subst q1 q2;rw [Nat.zero_add] at e0 e1;have htu:B.getD i 0<B.getD (i+1) 0:=by
    rw [getI hlt,getI (show i<B.length by omega)];exact List.pairwise_iff_getElem.1 HA.out i (i+1) oq_ hlt oq_
   have hcc:=fun t t1 t2=>r8_ (k:=k) HA.out HM1.out HM2.out hlt (t:=t) t1 t2;have hit:=And.intro (HO1.out.rng _ hm0) (HO1.out.rng _ hm1);obtain ⟨t,ht⟩:∃ t,B.getD i 0=t:=⟨_,rfl⟩;obtain ⟨u,hu⟩:∃ u,B.getD (i+1) 0=u:=⟨_,rfl⟩;rw [ht] at e0 htu hcc hit HCM;rw [hu] at e1 htu hcc hit;have HH1:=hq_ (fun W (hb:Below wr.heap.size wr W)=>jp_ F (.slice a1 l1.length c1) l1 t W ((H1.out.ext HB1.out).ext (Et HB.out hb)));have HH2:=hq_ (fun W (hb:Below wr.heap.size wr W)=>jp_ G (.slice a2 l2.length c2) l2 t W ((H2.out.ext HB1.out).ext (Et HB.out hb)));have hcp:CmP k l1 l2 t↔inK k (l1.any (inSp t)) (l2.any (inSp t))=true:=Iff.rfl;obtain ⟨p1,hp1⟩:∃ p,l1.any (inSp t)=p:=⟨_,rfl⟩;obtain ⟨p2,hp2⟩:∃ p,l2.any (inSp t)=p:=⟨_,rfl⟩;rw [hp1] at HH1 hcp;rw [hp2] at HH2 hcp;have HIN:=fun W=>ss_ k HK.out p1 p2 W;obtain ⟨kp,hkp⟩:∃ c,inK k p1 p2=c:=⟨_,rfl⟩;rw [hkp] at HIN hcp;have HIN:=hq_ HIN;have HCC:=hq_ hcc;have HTU:=hq_ htu;have HIT:=hq_ hit;have HCP:=hq_ hcp;have HUU:=hq_ hu;have HLT:=hq_ hlt;obtain ⟨oa,oc,rfl,-⟩:=HO.out.form;clear hcc htu hit hcp hu ht hp1 hp2 hkp hlt hm0 hm1;cases kp with
   | false=>
    have HSK:=hq_ (HCM.out.skip HTU.out fun z z1 z2 hz=>by have:=HCP.out.1 ((HCC.out z z1 z2).1 hz);cases this);go_wp2_with (first|(go_at_call 150;first|((with_reducible refine (HH1.out _ xE).mono ?_);rintro e w5 ⟨rfl,hb5⟩;have HB5:=hq_ hb5;clear hb5)|((with_reducible refine (HH2.out _ HB5.out).mono ?_);rintro e w6 ⟨rfl,hb6⟩;have HB6:=hq_ (Et HB5.out hb6);clear hb6))|(go_at_call 149;(with_reducible refine (HIN.out _).mono ?_);rintro e w7 ⟨rfl,rfl⟩))
    go_roundw
    case rel=>exact ⟨i+1,N,by have:=HLT.out;omega,by go_num,oq_,hq_ (by rw [HUU.out];exact HSK.out),hq_ (HO.out.below a8_ HB6.out),hq_ (Et HB.out HB6.out)⟩
    case measure=>have:=HLT.out;simp [intOf];omega
   | true=>
    have HKP:Hid (CmP k l1 l2 t):=hq_ (HCP.out.2 rfl);have HOL:=hq_ (show N.length≤800000 by omega);have hib:i≤800000:=oq_;rcases List.eq_nil_or_concat N with ho|⟨M,⟨f0,t0⟩,ho⟩
    ·have HNL2:=hq_ (fun M s (e:N=M ++ [s])=>(show s.2≠t by rw [ho] at e;simp at e));have hol0:(N.length:Int)=0:=by rw [ho];rfl
     have HOZ:=hq_ hol0;have k1:¬ (0:Int)<N.length:=oq_;have k2:¬ 0<N.length:=oq_;have k3:decide ((0:Int)<N.length)=false:=decide_eq_false k1;have k4:decide (0<N.length)=false:=decide_eq_false k2;clear ho hol0;have HSWP:=hq_ (HCM.out.push HTU.out (fun z z1 z2=>(HCC.out z z1 z2).2 HKP.out) (HNL2.out));go_wp2_with (first|(go_at_call 150;first|((with_reducible refine (HH1.out _ xE).mono ?_);rintro e w5 ⟨rfl,hb5⟩;have e0:=Ext.cell hb5 e0;have e1:=Ext.cell hb5 e1;skip;have HB5:=hq_ hb5;clear hb5)|((with_reducible refine (HH2.out _ HB5.out).mono ?_);rintro e w6 ⟨rfl,hb6⟩;have e0:=Ext.cell hb6 e0;have e1:=Ext.cell hb6 e1;skip;have HB6:=hq_ (Et HB5.out hb6);have hz6:=HB6.out.size;clear hb6))|(go_at_call 149;(with_reducible refine (HIN.out _).mono ?_);rintro e w7 ⟨rfl,rfl⟩)|(at_builtin;((refine ab_ rq_ _ _ _ _ rq_ iS _ 2 16 Tryz.underlying31 HIS.out.1 HIS.out.2.1 HIS.out.2.2.1 HIS.out.2.2.2 rfl dq_ dq_ w1.heap.size (.slice oa N.length oc) N.length (N.flatMap senc) (senc (t,u)) rfl rq_ (by first|exact ((HO.out.below a8_ HB6.out).below a8_ (Ea (Er w6) _)).row|(have h:=((HO.out.below a8_ HB6.out).below a8_ (Ea (Er w6) (.cells #[.int .i64 t,.int .i64 u] 28))).row;rw [List.length_append] at h;exact h)) w6.heap.size 1 rq_ (al_ (Bxx.at sq_)) d2_ (by have:=HOL.out;first|omega|(simp at this;omega)) tq_ ?_);intro v' w9 hown9 hgrow9 hloc9;obtain ⟨na9,nc9,rfl⟩:=a5_ hown9;have HO9:=hq_ (OwnG.push (y:=(t,u)) a8_ ((HO.out.below a8_ HB6.out).below a8_ (Ea (Er w6) _)) ⟨HIT.out.1,HIT.out.2⟩ (by first|exact hown9|(rw [List.length_append];exact hown9)) hgrow9 hloc9 (fun h=>h) (by have:=HOL.out;first|omega|(simp;omega)|(simp at this ⊢;omega)));have HB9:=hq_ ((Ea (Et HB.out HB6.out) _).grown hgrow9 tq_ fun q e=>((HO.out.below a8_ HB6.out).row.lt q e).1);clear hown9 hgrow9 hloc9)))
     go_roundw
     case rel=>exact ⟨i+1,N ++ [(t,u)],by have:=HLT.out;omega,by go_num,by simp at hNl ⊢;omega,hq_ (by rw [HUU.out];exact HSWP.out),by first|exact HO9|(have h:=HO9;simp only [List.length_append,List.length_cons,List.length_nil] at h ⊢;exact h),HB9⟩
     case measure=>have:=HLT.out;simp [intOf];omega
    ·subst ho;rw [List.concat_eq_append] at *;obtain ⟨og,hog,hogr⟩:∃ g,oa=some ⟨g,0,none⟩∧w1.heap.size≤g:=by
      obtain ⟨a',c',e,_,_,h|⟨g,hg⟩⟩:=HO.out.form
      ·simp at h
      ·injection e with e1 _ e2
       exact ⟨g,e1.trans hg,(HO.out.row.lt g (by rw [e1,hg];rfl)).1⟩
     subst hog;have z3:wr.cell? ⟨og,M.length*2+1,none⟩=some (.int .i64 t0):=by
      have h:=HO.out.spnL;obtain ⟨b3,o3,u3,v3,e3,_,hg3,_,_,_,e4⟩:=h.get (k:=M.length) sq_;injection e3 with e3
      injection e3 with e3 e5 _
      subst e3;subst e5;rw [List.getD_eq_getElem?_getD,List.getElem?_append_right (Nat.le_refl _),Nat.sub_self] at hg3;injection hg3 with _ hg3
      rw [hg3,<- e4];simp
     have hogx:og<wr.heap.size:=(HO.out.row.lt og rfl).2;rw [show (M ++ [(f0,t0)]).length=M.length+1 by simp] at *;by_cases htp:t0=t
     ·obtain rfl:t=t0:=htp.symm;have HSG:=hq_ (HCM.out.grow HTU.out fun z z1 z2=>(HCC.out z z1 z2).2 HKP.out);go_wp2_with (first|(go_at_call 150;first|((with_reducible refine (HH1.out _ xE).mono ?_);rintro e w5 ⟨rfl,hb5⟩;have e0:=Ext.cell hb5 e0;have e1:=Ext.cell hb5 e1;have z3:=Ext.cell hb5 z3;have HB5:=hq_ hb5;clear hb5)|((with_reducible refine (HH2.out _ HB5.out).mono ?_);rintro e w6 ⟨rfl,hb6⟩;have e0:=Ext.cell hb6 e0;have e1:=Ext.cell hb6 e1;have z3:=Ext.cell hb6 z3;have HB6:=hq_ (Et HB5.out hb6);have hfr:w6.frozen? ⟨og,M.length*2+1,none⟩=false:=ji_ (HO.out.below a8_ HB6.out) _;clear hb6))|(go_at_call 149;(with_reducible refine (HIN.out _).mono ?_);rintro e w7 ⟨rfl,rfl⟩))
      have hg7:World.grownBy w6 (w6.setCell ⟨og,M.length*2+1,none⟩ (.int .i64 u)) (some og):=World.grownBy.set' (World.grownBy.refl _ _) _;have HO7:=hq_ ((HO.out.below a8_ HB6.out).setTo (t':=u) HIT.out.2);have HB7:=hq_ ((Et HB.out HB6.out).grown hg7 (Et HB.out HB6.out).size fun q e=>by cases e;exact hogr);clear e0 e1 z3 hfr hg7;go_roundw
      case rel=>exact ⟨i+1,M ++ [(f0,u)],by have:=HLT.out;omega,by go_num,by have:=HOL.out;simp at hNl ⊢;omega,hq_ (by rw [HUU.out];exact HSG.out),by simpa using HO7,HB7⟩
      case measure=>have:=HLT.out;simp [intOf];omega
     ·have qa:(t0 == t)=false:=by simp [htp]
      have HNL2:=hq_ (fun M' s (e:M ++ [(f0,t0)]=M' ++ [s])=>(show s.2≠t by
       have:=List.append_inj_right' e rfl;injection this with this
       rw [<- this];exact htp))
      clear htp;have HSWP:=hq_ (HCM.out.push HTU.out (fun z z1 z2=>(HCC.out z z1 z2).2 HKP.out) (HNL2.out));go_wp2_with (first|(go_at_call 150;first|((with_reducible refine (HH1.out _ xE).mono ?_);rintro e w5 ⟨rfl,hb5⟩;have e0:=Ext.cell hb5 e0;have e1:=Ext.cell hb5 e1;have z3:=Ext.cell hb5 z3;have HB5:=hq_ hb5;clear hb5)|((with_reducible refine (HH2.out _ HB5.out).mono ?_);rintro e w6 ⟨rfl,hb6⟩;have e0:=Ext.cell hb6 e0;have e1:=Ext.cell hb6 e1;have z3:=Ext.cell hb6 z3;have HB6:=hq_ (Et HB5.out hb6);have hz6:=HB6.out.size;clear hb6))|(go_at_call 149;(with_reducible refine (HIN.out _).mono ?_);rintro e w7 ⟨rfl,rfl⟩)|(at_builtin;((refine ab_ rq_ _ _ _ _ rq_ iS _ 2 16 Tryz.underlying31 HIS.out.1 HIS.out.2.1 HIS.out.2.2.1 HIS.out.2.2.2 rfl dq_ dq_ w1.heap.size (.slice (some ⟨og,0,none⟩) (M.length+1) oc) (M.length+1) ((M ++ [(f0,t0)]).flatMap senc) (senc (t,u)) rfl rq_ (by first|exact ((HO.out.below a8_ HB6.out).below a8_ (Ea (Er w6) _)).row|(have h:=((HO.out.below a8_ HB6.out).below a8_ (Ea (Er w6) (.cells #[.int .i64 t,.int .i64 u] 28))).row;rw [List.length_append] at h;exact h)) w6.heap.size 1 rq_ (al_ (Bxx.at sq_)) d2_ (by have:=HOL.out;first|omega|(simp at this;omega)) tq_ ?_);intro v' w9 hown9 hgrow9 hloc9;obtain ⟨na9,nc9,rfl⟩:=a5_ hown9;have HO9:=hq_ (OwnG.push (y:=(t,u)) a8_ ((HO.out.below a8_ HB6.out).below a8_ (Ea (Er w6) _)) ⟨HIT.out.1,HIT.out.2⟩ (by first|exact hown9|(rw [List.length_append];exact hown9)) hgrow9 hloc9 (fun h=>h) (by have:=HOL.out;first|omega|(simp;omega)|(simp at this ⊢;omega)));have HB9:=hq_ ((Ea (Et HB.out HB6.out) _).grown hgrow9 tq_ fun q e=>((HO.out.below a8_ HB6.out).row.lt q e).1);clear hown9 hgrow9 hloc9)))
      go_roundw
      case rel=>exact ⟨i+1,(M ++ [(f0,t0)]) ++ [(t,u)],by have:=HLT.out;omega,by go_num,by simp at hNl ⊢;omega,hq_ (by rw [HUU.out];exact HSWP.out),by first|exact HO9|(have h:=HO9;simp only [List.length_append,List.length_cons,List.length_nil] at h ⊢;exact h),HB9⟩
      case measure=>have:=HLT.out;simp [intOf];omega
  ·have hib:i≤800000:=oq_;have hlI:¬ (i:Int)+1<B.length:=oq_;have hdn:=wf_ (k:=k) HA.out HM1.out HM2.out (i:=i) (N:=N) (by
    rcases hi with hi|rfl
    ·exact .inl oq_
    ·rcases B with _|⟨z,B⟩
     ·exact .inr rfl
     ·exact .inl (by simp at hlt ⊢;omega)) HCM.out
   have HDN:=hq_ hdn;have HNL:=hq_ (show N.length≤2*(l1.length+l2.length) by omega);obtain ⟨oa,oc,rfl,-⟩:=HO.out.form;clear hdn hi hlt;go_wp2_with fail
   go_ret;exact ⟨_,N,rfl,HDN.out.1,HDN.out.2,HNL.out,HO.out.spnL.mono fun b hb=>by have:=hb.1;omega,Et HB1.out HB.out⟩
end Go.Proofs.YtkclokcenllhmaaGreat
