/- The statement DiaryEntriesSaid: for every input the law returns true, and its arguments read as before. -/
import Derived.Test.YtkclokcenllhmaaGreatL8
import Derived.Test.YtkclokcenllhmaaGreatL2
import Derived.Test.YtkclokcenllhmaaGreatL5
import Derived.Test.YtkclokcenllhmaaGreatL4
import Derived.Test.YtkclokcenllhmaaGreatL6
import Derived.Test.YtkclokcenllhmaaGreatL7
import Derived.Test.YtkclokcenllhmaaGreatL1
import Derived.Test.YtkclokcenllhmaaGreatL3
set_option linter.unusedVariables false
set_option linter.unusedSimpArgs false
set_option maxRecDepth 100000
set_option maxHeartbeats 4000000
section
variable {k:Nat}{w w':Go.World}
namespace Go.Proofs.YtkclokcenllhmaaGreat
open Go.RowKit Go.Maps Kal
theorem md_ (F G:Nat->Prop) (v1 v2:Value) (t u:List Per) (w:World) (h1:af_ w F v1 t) (h2:af_ w G v2 u) :
  Calls Tryz.prog 236 #[v1,v2] w fun e w'=>e=.returned (.bool (hm_ t u))∧Below w.heap.size w w':=by
 obtain ⟨L,hLt,hL⟩:=h1;obtain ⟨M,hMu,hM⟩:=h2;obtain ⟨a1,c1,rfl,_⟩:=hL.row;obtain ⟨a2,c2,rfl,_⟩:=hM.row;have HL:=hq_ hL;have HM:=hq_ hM;have hl1:=hL.len;have hl2:=hM.len;have ht:t.length=L.length:=by rw [<- hLt,List.length_map]
 have hu:u.length=M.length:=by rw [<- hMu,List.length_map]
 have HT:=hq_ ht;have HU:=hq_ hu;have HLT:=hq_ hLt;have HMU:=hq_ hMu;clear hL hM ht hu hLt hMu;by_cases hne:L.length=M.length
 ·have HNE:=hq_ hne;rw [<- hne];clear hne hl2
  go_enter Tryz.func236,Tryz.ntmps236
  go_wp2_with fail
  go_loopw [5] (fun i wr=>∃ k:Nat,k≤L.length∧i=.int .i64 k∧Hid (∀ j,j<k->t.getD j default=u.getD j default)∧Hid (Below w.heap.size w wr)) (fun i _=>L.length-(intOf i).toNat)
  case atStart=>exact ⟨0,oq_,rfl,hq_ (by intro j hj;omega),hq_ xE⟩
  case round=>
   obtain ⟨k,hk,rfl,HPRE,HBL⟩:=hrel;have hb:=HBL.out;by_cases hlt:k<L.length
   ·have hlI:(k:Int)<L.length:=oq_;obtain ⟨b1,o1,x,rfl,hx,hxp,hb1,e0,e1,e2,e3⟩:=(HL.out.keep (a3_.below hb) hb.size).get hlt;obtain ⟨b2,o2,y,rfl,hy,hyp,hb2,g0,g1,g2,g3⟩:=(HM.out.keep (a3_.below hb) hb.size).get (show k<M.length by have:=HNE.out;omega);rw [HLT.out] at hxp;rw [HMU.out] at hyp;have HE:=fun W (h:Below wr.heap.size wr W)=>jy_ F G x y W (hx.keep (a3_.below h)) (hy.keep (a3_.below h));have HXP:=hq_ hxp;have HYP:=hq_ hyp;obtain ⟨xh,xc,xp⟩:=x;obtain ⟨yh,yc,yp⟩:=y;obtain ⟨ax1,nx1,cx1,ax2,nx2,cx2,rfl,rfl⟩:=hx.form;obtain ⟨ay1,ny1,cy1,ay2,ny2,cy2,rfl,rfl⟩:=hy.form;clear hxp hyp hx hy;change ∀ W,_->Calls _ _ #[.agg #[.slice ax1 nx1 cx1,.int .i64 xp.frm,.int .i64 xp.period,.slice ax2 nx2 cx2],.agg #[.slice ay1 ny1 cy1,.int .i64 yp.frm,.int .i64 yp.period,.slice ay2 ny2 cy2]] W (fun e w'=>e=.returned (.bool (cf_ xp yp))∧_) at HE;change Hid (xp=_) at HXP;change Hid (yp=_) at HYP;dsimp only at e0 e1 e2 e3 g0 g1 g2 g3;have HEH:=hq_ HE;clear HE;generalize hq:cf_ xp yp=bq at *;have HQ:=hq_ hq;clear hq;go_upto_region 6 with (fail)
    cases bq;all_goals
     go_region_held3 (fun w'=>w'.cell? ⟨b1,o1+k*4,none⟩=some (.slice ax1 nx1 cx1)∧w'.cell? ⟨b1,o1+k*4+1,none⟩=some (.int .i64 xp.frm)∧w'.cell? ⟨b1,o1+k*4+2,none⟩=some (.int .i64 xp.period)∧w'.cell? ⟨b1,o1+k*4+3,none⟩=some (.slice ax2 nx2 cx2)∧w'.cell? ⟨b2,o2+k*4,none⟩=some (.slice ay1 ny1 cy1)∧w'.cell? ⟨b2,o2+k*4+1,none⟩=some (.int .i64 yp.frm)∧w'.cell? ⟨b2,o2+k*4+2,none⟩=some (.int .i64 yp.period)∧w'.cell? ⟨b2,o2+k*4+3,none⟩=some (.slice ay2 ny2 cy2)∧Below wr.heap.size wr w') ((go_split_ands;refine ⟨?_,?_,?_,?_,?_,?_,?_,?_,xE⟩ <;> first|assumption|(refine Ext.cell (w:=wr) xE (by assumption))))
      (first|(go_at_call 267;(with_reducible refine (HEH.out _ (by go_split_ands;exact xE)).mono ?_);rintro e u9 ⟨rfl,kz⟩))
    ·go_wp2_with fail
     go_ret;refine ⟨a1_ (ey_ ?_).symm,Et HBL.out (by go_split_ands;exact xE)⟩;rintro rfl;have:=HQ.out;rw [(kg_ _ _).2 (HXP.out.trans HYP.out.symm)] at this;exact absurd this dq_
    ·go_wp2_with fail
     go_roundw
     case rel=>
      refine ⟨k+1,oq_,by go_num,hq_ ?_,hq_ (Et HBL.out (by go_split_ands;exact xE))⟩;intro j hj;by_cases h:j<k
      ·exact HPRE.out j h
      ·obtain rfl:j=k:=oq_;rw [<- HXP.out,<- HYP.out];exact (kg_ _ _).1 HQ.out
     case measure=>simp [intOf];omega
   ·obtain rfl:k=L.length:=oq_;go_wp2_with fail
    go_ret;refine ⟨a1_ (jf_ ?_).symm,HBL.out⟩;refine List.ext_getElem (by have:=HT.out;have:=HU.out;have:=HNE.out;omega) fun j h1 h2=>?_;have:=HPRE.out j (by have:=HT.out;omega);rw [List.getD_eq_getElem?_getD,List.getD_eq_getElem?_getD,List.getElem?_eq_getElem h1,List.getElem?_eq_getElem h2] at this;exact this
 ·have hneI:¬ (L.length:Int)=M.length:=oq_
  go_enter Tryz.func236,Tryz.ntmps236
  go_wp2_with fail
  go_ret;refine ⟨a1_ (ey_ ?_).symm,xE⟩;rintro rfl;have:=HT.out;have:=HU.out;omega
noncomputable def jd_ (a b:List (List Per)):Bool:=decide (a=b)
theorem je_ {t u:List (List Per)} (h:t=u):jd_ t u=true:=by unfold jd_;simp [h]
theorem hz_ {t u:List (List Per)} (h:t≠u):jd_ t u=false:=by unfold jd_;simp [h]
theorem nf_ (F G:Nat->Prop) (v1 v2:Value) (m1 m2:List (List Per)) (w:World) (h1:MixR w F v1 m1) (h2:MixR w G v2 m2) :
  Calls Tryz.prog 196 #[.agg #[v1],.agg #[v2]] w fun e w'=>e=.returned (.bool (jd_ m1 m2))∧Below w.heap.size w w':=by
 obtain ⟨L,hLt,hL⟩:=h1;obtain ⟨M,hMu,hM⟩:=h2;obtain ⟨a1,c1,rfl,_⟩:=hL.row;obtain ⟨a2,c2,rfl,_⟩:=hM.row;have HL:=hq_ hL;have HM:=hq_ hM;have hl1:=hL.len;have hl2:=hM.len;have ht:m1.length=L.length:=by rw [<- hLt,List.length_map]
 have hu:m2.length=M.length:=by rw [<- hMu,List.length_map]
 have HT:=hq_ ht;have HU:=hq_ hu;have HLT:=hq_ hLt;have HMU:=hq_ hMu;clear hL hM ht hu hLt hMu;by_cases hne:L.length=M.length
 ·have HNE:=hq_ hne;rw [<- hne];clear hne hl2
  go_enter Tryz.func196,Tryz.ntmps196
  go_wp2_with fail
  go_loopw [5] (fun i wr=>∃ k:Nat,k≤L.length∧i=.int .i64 k∧Hid (∀ j,j<k->m1.getD j []=m2.getD j [])∧Hid (Below w.heap.size w wr)∧Hid (Bxx wr w.heap.size #[.slice a1 L.length c1] 128)∧Hid (Bxx wr (w.heap.size+1) #[.slice a2 L.length c2] 128)) (fun i _=>L.length-(intOf i).toNat)
  case atStart=>exact ⟨0,oq_,rfl,hq_ (by intro j hj;omega),hq_ xE,hq_ xB,hq_ xB⟩
  case round=>
   obtain ⟨k,hk,rfl,HPRE,HBL,HB1,HB2⟩:=hrel;have hb:=HBL.out;have p1:=(Bxx.cells HB1.out 0).1;have p2:=(Bxx.cells HB2.out 0).1;by_cases hlt:k<L.length
   ·have hlI:(k:Int)<L.length:=oq_;obtain ⟨b1,o1,tv,rfl,e0,hx⟩:=(HL.out.keep (a3_.below hb) hb.size).get hlt;obtain ⟨b2,o2,uv,rfl,g0,hy⟩:=(HM.out.keep (a3_.below hb) hb.size).get (show k<M.length by have:=HNE.out;omega);rw [HLT.out] at hx;rw [HMU.out] at hy;have HEH:=fun W (h:Below wr.heap.size wr W)=>md_ F G tv uv _ _ W (hx.ext h) (hy.ext h);obtain ⟨ax,cx,rfl,_⟩:=hx.form;obtain ⟨ay,cy,rfl,_⟩:=hy.form;clear hx hy;generalize hq:hm_ (m1.getD k []) (m2.getD k [])=bq at *;have HQ:=hq_ hq;have HEH:=hq_ HEH;clear hq;generalize (m1.getD k []).length=n1 at *;generalize (m2.getD k []).length=n2 at *;go_upto_region 6 with (fail)
    cases bq;all_goals
     go_region_held3 (fun w'=>w'.cell? ⟨w.heap.size,0,none⟩=some (.slice (some ⟨b1,o1,none⟩) L.length c1)∧w'.cell? ⟨w.heap.size+1,0,none⟩=some (.slice (some ⟨b2,o2,none⟩) L.length c2)∧w'.cell? ⟨b1,o1+k,none⟩=some (.slice ax n1 cx)∧w'.cell? ⟨b2,o2+k,none⟩=some (.slice ay n2 cy)∧Below wr.heap.size wr w') ((go_split_ands;refine ⟨?_,?_,?_,?_,xE⟩ <;> first|assumption|(refine Ext.cell (w:=wr) xE (by assumption))))
      (first|(go_at_call 236;(with_reducible refine (HEH.out _ (by go_split_ands;exact xE)).mono ?_);rintro e u9 ⟨rfl,kz⟩))
    ·go_wp2_with fail
     go_ret;refine ⟨a1_ (hz_ ?_).symm,Et HBL.out (by go_split_ands;exact xE)⟩;rintro rfl;have:=HQ.out;rw [jf_ rfl] at this;exact absurd this dq_
    ·go_wp2_with fail
     go_roundw
     case rel=>
      have hbb:Below wr.heap.size wr u9:=by go_split_ands;exact xE
      refine ⟨k+1,oq_,by go_num,hq_ ?_,hq_ (Et HBL.out hbb),hq_ (Bxx.below HB1.out hbb),hq_ (Bxx.below HB2.out hbb)⟩;intro j hj;by_cases h:j<k
      ·exact HPRE.out j h
      ·obtain rfl:j=k:=oq_;exact Classical.byContradiction fun hn=>by
        have:=HQ.out;rw [ey_ hn] at this;cases this
     case measure=>simp [intOf];omega
   ·obtain rfl:k=L.length:=oq_;go_wp2_with fail
    go_ret;refine ⟨a1_ (je_ ?_).symm,HBL.out⟩;refine List.ext_getElem (by have:=HT.out;have:=HU.out;have:=HNE.out;omega) fun j h1 h2=>?_;have:=HPRE.out j (by have:=HT.out;omega);rw [List.getD_eq_getElem?_getD,List.getD_eq_getElem?_getD,List.getElem?_eq_getElem h1,List.getElem?_eq_getElem h2] at this;exact this
 ·have hneI:¬ (L.length:Int)=M.length:=oq_
  go_enter Tryz.func196,Tryz.ntmps196
  go_wp2_with fail
  go_ret;refine ⟨a1_ (hz_ ?_).symm,xE⟩;rintro rfl;have:=HT.out;have:=HU.out;omega
theorem neqX (a b c:Int) (W:World):(binOp .neq 77 (.agg #[.int .i64 a,.int .i64 b,.int .i64 c]) (.agg #[.int .i64 a,.int .i64 b,.int .i64 c])).run Tryz.prog W=.ok (.bool false) W:=by
 simp [go_sem]
theorem ne_ (F G:Nat->Prop) (v1 v2:Value) (l:List Inst) (w:World) (h1:ExtL w F v1 l) (h2:ExtL w G v2 l) :
  Calls Tryz.prog 195 #[v1,v2] w fun e w'=>e=.returned (.bool true)∧Below w.heap.size w w':=by
 obtain ⟨a1,c1,rfl⟩:=h1.form;obtain ⟨a2,c2,rfl⟩:=h2.form;have hn:=h1.len;have H1:=hq_ h1;have H2:=hq_ h2;have hdf:((l.length:Int) != (l.length:Int))=false:=by simp
 clear h1 h2
 go_enter Tryz.func195,Tryz.ntmps195
 go_wp2_with fail
 go_loopw [5] (fun i wr=>∃ k:Nat,k≤l.length∧i=.int .i64 k∧Hid (Below w.heap.size w wr)) (fun i _=>l.length-(intOf i).toNat)
 case atStart=>exact ⟨0,oq_,rfl,hq_ xE⟩
 case round=>
  obtain ⟨k,hk,rfl,HB⟩:=hrel;by_cases hlt:k<l.length
  ·have hlI:(k:Int)<l.length:=oq_;have HLT:=hq_ (show k+1≤l.length by omega);obtain ⟨b1,o1,x,rfl,_,hx,_,e0,e1,e2⟩:=(H1.out.ext HB.out).get hlt;obtain ⟨b2,o2,y,rfl,_,hy,_,g0,g1,g2⟩:=(H2.out.ext HB.out).get hlt;obtain rfl:y=x:=hy.symm.trans hx;obtain ⟨yd,yf,yt⟩:=y;dsimp only at e0 e1 e2 g0 g1 g2;have heq:=fun W=>neqX yd yf yt W;clear hx hy hlt;go_upto_region 6 with fail
   refine a6_ (w0:=wr) [0,1,2,3,4,5,6,7,8] [] [17,18,19,20,21,22,23,24,25] [.slice (some ⟨b1,o1,none⟩) l.length c1,.int .i64 k,.pointer (some ⟨b1,o1+k*3,none⟩),.agg #[.int .i64 yd,.int .i64 yf,.int .i64 yt],.slice (some ⟨b2,o2,none⟩) l.length c2,.int .i64 k,.pointer (some ⟨b2,o2+k*3,none⟩),.agg #[.int .i64 yd,.int .i64 yf,.int .i64 yt],.bool false] [[],[],[0,1],[2],[],[],[4,5],[6],[3,7]] (.a e0 (.a e1 (.a e2 (.a g0 (.a g1 (.z g2)))))) ?steps ?fin
   case steps=>
    repeat' first|exact .n|refine .c ?_ ?_|fail
    all_goals try exact stp
   case fin=>
    rintro W3 hb3 hg;show wpList _ _ _ [] _ _;simp only [vat];have HB3:=hq_ (Et HB.out hb3);clear hg hb3 e0 e1 e2 g0 g1 g2 heq;go_wp2_with fail
    go_roundw
    case rel=>exact ⟨k+1,HLT.out,by go_num,HB3⟩
    case measure=>simp [intOf];omega
  ·obtain rfl:k=l.length:=oq_;have hkI:¬ (l.length:Int)<l.length:=oq_;go_wp2_with fail
   go_ret;exact ⟨rfl,HB.out⟩
theorem ku_ (F G:Nat->Prop) (v1 e1 v2 e2:Value) (s:Str) (w:World) (h1:StrR w F v1 e1 s) (h2:StrR w G v2 e2 s) :
  Calls Tryz.prog 139 #[.agg #[v1,.int .i64 s.len,e1],.agg #[v2,.int .i64 s.len,e2]] w fun e w'=>e=.returned (.bool true)∧Below w.heap.size w w':=by
 obtain ⟨L,h1⟩:=h1;obtain ⟨M,h2⟩:=h2;obtain ⟨a1,c1,rfl⟩:=h1.cl.form;obtain ⟨a2,c2,rfl⟩:=h2.cl.form;obtain ⟨p1,q1,rfl⟩:=h1.ex.form;obtain ⟨p2,q2,rfl⟩:=h2.ex.form;have hn:M.length=L.length:=by have:=congrArg List.length (h1.eq.trans h2.eq.symm);simpa using this.symm
 have hnL:=h1.cl.len;rw [hn];have HN:=hq_ hn;have H1:=hq_ h1;have H2:=hq_ h2;have hdf:((L.length:Int) != (L.length:Int))=false:=by simp
 have hdf2:(s.len != s.len)=false:=by simp
 have HSL:=hq_ (fun W (hb:Below w.heap.size w W)=>ne_ F G _ _ s.ext W (h1.ex.ext hb) (h2.ex.ext hb));clear h1 h2 hn
 go_enter Tryz.func139,Tryz.ntmps139
 go_wp2_with (go_at_call 195;(with_reducible refine (HSL.out _ xE).mono ?_);rintro e w1 ⟨rfl,hb1⟩;have hx:=((Bxx.new w #[.slice a1 L.length c1,.int .i64 s.len,.slice p1 s.ext.length q1] 55).alloc (.cells #[.slice a2 L.length c2,.int .i64 s.len,.slice p2 s.ext.length q2] 55)).below hb1;have hy:=(Bxx.at (w:=w.alloc (.cells #[.slice a1 L.length c1,.int .i64 s.len,.slice p1 s.ext.length q1] 55)) (b:=w.heap.size+1) (c:=#[.slice a2 L.length c2,.int .i64 s.len,.slice p2 s.ext.length q2]) (t:=55) sq_).below hb1;have HX:=hq_ hx;have HY:=hq_ hy;have HB1:=hq_ (show Below w.heap.size w w1 from Et xE hb1);clear hx hy hb1)
 clear hdf hdf2;go_loopw [5] (fun i wr=>∃ k:Nat,k≤L.length∧i=.int .i64 k∧Hid (Below w1.heap.size w1 wr)) (fun i _=>L.length-(intOf i).toNat)
 case atStart=>exact ⟨0,oq_,rfl,hq_ xE⟩
 case round=>
  obtain ⟨k,hk,rfl,HB⟩:=hrel;have x0:=((HX.out.below HB.out).cells 0).1;have y0:=((HY.out.below HB.out).cells 0).1;by_cases hlt:k<L.length
  ·have hlI:(k:Int)<L.length:=oq_;have HLT:=hq_ (show k+1≤L.length by omega);have HBW:=hq_ (Et HB1.out HB.out);have hlM:k<M.length:=by have:=HN.out;omega
   obtain ⟨b1,o1,xa,xc,m,mi,rfl,_,e0,e1,hm1,_,g1⟩:=(H1.out.cl.keep (a3_.below HBW.out) HBW.out.size).get hlt;have hl2:=(H2.out.cl.keep (a3_.below HBW.out) HBW.out.size);rw [HN.out] at hl2;obtain ⟨b2,o2,ya,yc,m2,mi2,rfl,_,f0,f1,hm2,_,g2⟩:=hl2.get hlM;rw [H1.out.eq] at g1;rw [H2.out.eq,g1] at g2;injection g2 with g3 g4
   subst g3;subst g4;have hse:=fun W (hb:Below wr.heap.size wr W)=>nf_ _ _ _ _ m m W (hm1.ext hb) (hm2.ext hb);rw [je_ rfl] at hse;have HSE:=hq_ hse;have hq:(mi != mi)=false:=by simp
   clear hm1 hm2 g1 hse hl2 hlM hlt;go_upto_region 6 with fail
   refine a6_ (w0:=wr) [0,1,2,3,4,5,6,7,8,9,10,11,12,13,14,15,16,17,18,19,20,21,22,23,24,25,26,27,28] [] [35,36,37,38,39,40,41,42,43,44,45,46,47,48,49,50,51,52,53,54,55,56,57,58,59,60,61,62,63] [.pointer (some ⟨w.heap.size,0,none⟩),.slice (some ⟨b1,o1,none⟩) L.length c1,.int .i64 k,.pointer (some ⟨b1,o1+k*2,none⟩),.pointer (some ⟨b1,o1+k*2+1,none⟩),.int .i64 mi,.pointer (some ⟨w.heap.size+1,0,none⟩),.slice (some ⟨b2,o2,none⟩) L.length c2,.int .i64 k,.pointer (some ⟨b2,o2+k*2,none⟩),.pointer (some ⟨b2,o2+k*2+1,none⟩),.int .i64 mi,.bool false,.bool false,.pointer (some ⟨w.heap.size,0,none⟩),.slice (some ⟨b1,o1,none⟩) L.length c1,.int .i64 k,.pointer (some ⟨b1,o1+k*2,none⟩),.pointer (some ⟨b1,o1+k*2,none⟩),.agg #[.slice xa m.length xc],.pointer (some ⟨w.heap.size+1,0,none⟩),.slice (some ⟨b2,o2,none⟩) L.length c2,.int .i64 k,.pointer (some ⟨b2,o2+k*2,none⟩),.pointer (some ⟨b2,o2+k*2,none⟩),.agg #[.slice ya m.length yc],.bool true,.bool false,.bool false] [[],[0],[],[1,2],[3],[4],[],[6],[],[7,8],[9],[10],[5,11],[12],[13],[13,14],[13],[13,15,16],[13,17],[13,18],[13],[13,20],[13],[13,21,22],[13,23],[13,24],[13,19,25],[13,26],[13,27]] (.a x0 (.a y0 (.a e0 (.a e1 (.a f0 (.a f1 (.b))))))) ?steps ?fin
   case steps=>
    repeat' first|exact .n|refine .c ?_ ?_|fail
    all_goals try exact stp
    all_goals
     rintro v W hb ⟨s0,s1,s2,s3,s4,s5,s6⟩;refine .inl ⟨rfl,fun K hK=>?_⟩;simp only [ov,vat,Nat.reduceBEq,cond_true,cond_false];go_wp2_with (go_at_call 196;(with_reducible refine (HSE.out _ s6).mono ?_);rintro e w9 ⟨rfl,hb9⟩)
     exact acx (hK w9 hb9) (by simp [ov,vat])
   case fin=>
    rintro W3 hb3 hg;show wpList _ _ _ [] _ _;simp only [vat];have HB3:=hq_ (Et HB.out hb3);clear hg hb3 e0 e1 f0 f1 x0 y0 hq;go_wp2_with fail
    go_roundw
    case rel=>exact ⟨k+1,HLT.out,by go_num,HB3⟩
    case measure=>simp [intOf];omega
  ·obtain rfl:k=L.length:=oq_;have hkI:¬ (L.length:Int)<L.length:=oq_;go_wp2_with fail
   go_ret;exact ⟨rfl,Et HB1.out HB.out⟩
theorem mc_ (F G:Nat->Prop) (x y:EntV) (w:World) (hx:REnt w F x) (hy:REnt w G y) (he:x.ent=y.ent) :
  Calls Tryz.prog 87 #[x.val,y.val] w fun e w'=>e=.returned (.bool true)∧Below w.heap.size w w':=by
 obtain ⟨x1,n1,x2,n2,hc1,hv1⟩:=hx.1.form;obtain ⟨y1,g1,y2,g2,hc2,hv2⟩:=hy.1.form;obtain ⟨id,fm,rk,cv,ev,s⟩:=x;obtain ⟨id',fm',rk',cv',ev',s'⟩:=y;injection he with he1 he2 he3 he4
 dsimp only at *;subst he1;subst he2;subst he3;subst he4;subst hc1;subst hv1;subst hc2;subst hv2;dsimp only [EntV.val];have HSS:=hq_ (fun W (hb:Below w.heap.size w W)=>ku_ F G _ _ _ _ s W (hx.1.ext hb) (hy.1.ext hb));have q1:(id == id)=true:=by simp
 have q2:(rk == rk)=true:=by simp
 have q3:(fm == fm)=true:=by simp
 clear hx hy
 go_enter Tryz.func87,Tryz.ntmps87
 go_wp2_with (go_at_call 139;(with_reducible refine (HSS.out _ xE).mono ?_);rintro e w1 ⟨rfl,hb1⟩)
 go_ret;exact ⟨rfl,xE⟩
theorem h0_ (F G:Nat->Prop) (v1 v2:Value) (L M:List EntV) (w:World) (h1:DiaL w F v1 L) (h2:DiaL w G v2 M) (he:L.map EntV.ent=M.map EntV.ent) :
  Calls Tryz.prog 39 #[v1,v2] w fun e w'=>e=.returned (.bool true)∧Below w.heap.size w w':=by
 obtain ⟨a1,c1,rfl⟩:=h1.form;obtain ⟨a2,c2,rfl⟩:=h2.form;have hn:M.length=L.length:=by have:=congrArg List.length he;simpa using this.symm
 have hnL:=h1.len;have hdf:((L.length:Int) != (L.length:Int))=false:=by simp
 have H1:=hq_ h1;have H2:=hq_ h2;have HN:=hq_ hn;have HE:=hq_ he;rw [hn];clear h1 h2 hn he
 go_enter Tryz.func39,Tryz.ntmps39
 go_wp2_with fail
 go_loopw [5] (fun i wr=>∃ k:Nat,k≤L.length∧i=.int .i64 k∧Hid (Below w.heap.size w wr)) (fun i _=>L.length-(intOf i).toNat)
 case atStart=>exact ⟨0,oq_,rfl,hq_ xE⟩
 case round=>
  obtain ⟨k,hk,rfl,HB⟩:=hrel;by_cases hlt:k<L.length
  ·have hlI:(k:Int)<L.length:=oq_;have HLT:=hq_ (show k+1≤L.length by omega);have hlM:k<M.length:=by have:=HN.out;omega
   obtain ⟨b1,o1,x,p1,d1,p2,d2,rfl,_,hx,_,hxr,hcx,hvx,e0,e1,e2,e3,e4,e5⟩:=(H1.out.ext HB.out).get hlt;have hl2:=H2.out.ext HB.out;rw [HN.out] at hl2;obtain ⟨b2,o2,y,r1,t1,r2,t2,rfl,_,hy,_,hyr,hcy,hvy,f0,f1,f2,f3,f4,f5⟩:=hl2.get hlM;have hxy:x.ent=y.ent:=by
    have:=congrArg (fun l:List Ent=>l.getD k default) HE.out;simp only [bn_] at this;rw [hx,hy] at this;exact this
   have hse:=fun W (hb:Below wr.heap.size wr W)=>mc_ _ _ x y W (hxr.ext hb) (hyr.ext hb) hxy;rw [EntV.val,EntV.val,hcx,hvx,hcy,hvy] at hse;have HSE:=hq_ hse;clear hxr hyr hcx hvx hcy hvy hxy hse hx hy hl2 hlM hlt;go_upto_region 6 with fail
   refine a6_ (w0:=wr) [0,1,2,3,4,5,6,7,8,9] [] [17,18,19,20,21,22,23,24,25,26] [.slice (some ⟨b1,o1,none⟩) L.length c1,.int .i64 k,.pointer (some ⟨b1,o1+k*6,none⟩),.agg #[.int .i64 x.id,.bool x.firm,.int .i64 x.rank,.slice p1 x.s.cls.length d1,.int .i64 x.s.len,.slice p2 x.s.ext.length d2],.slice (some ⟨b2,o2,none⟩) L.length c2,.int .i64 k,.pointer (some ⟨b2,o2+k*6,none⟩),.agg #[.int .i64 y.id,.bool y.firm,.int .i64 y.rank,.slice r1 y.s.cls.length t1,.int .i64 y.s.len,.slice r2 y.s.ext.length t2],.bool true,.bool false] [[],[],[0,1],[2],[],[],[4,5],[6],[3,7],[8]] (.a e0 (.a e1 (.a e2 (.a e3 (.a e4 (.a e5 (.a f0 (.a f1 (.a f2 (.a f3 (.a f4 (.a f5 (.b))))))))))))) ?steps ?fin
   case steps=>
    repeat' first|exact .n|refine .c ?_ ?_|fail
    all_goals try exact stp
    all_goals
     rintro v W hb ⟨s0,s1,s2,s3,s4,s5,s6,s7,s8,s9,s10,s11,s12⟩;refine .inl ⟨rfl,fun K hK=>?_⟩;simp only [ov,vat,Nat.reduceBEq,cond_true,cond_false];go_wp2_with (go_at_call 87;(with_reducible refine (HSE.out _ s12).mono ?_);rintro e w9 ⟨rfl,hb9⟩)
     exact acx (hK w9 hb9) (by simp [ov,vat])
   case fin=>
    rintro W3 hb3 hg;show wpList _ _ _ [] _ _;simp only [vat];have HB3:=hq_ (Et HB.out hb3);clear hg hb3 e0 e1 e2 e3 e4 e5 f0 f1 f2 f3 f4 f5;go_wp2_with fail
    go_roundw
    case rel=>exact ⟨k+1,HLT.out,by go_num,HB3⟩
    case measure=>simp [intOf];omega
  ·obtain rfl:k=L.length:=oq_;have hkI:¬ (L.length:Int)<L.length:=oq_;go_wp2_with fail
   go_ret;exact ⟨rfl,HB.out⟩
theorem cq_.drop {d:List Ent} {m:Int} (h:cq_ k d):cq_ k (c0_ d m):=⟨h.asc.drop m,fun e he=>h.ok e (gv_.1 he).1,by
 have:=List.length_filter_le (fun x:Ent=>decide (x.id≠m)) d;have:=h.len;unfold c0_;omega⟩
theorem is_.i {d:List Ent} (h:is_ d):cq_ 4 d:=⟨h.asc,h.ok,h.len⟩
theorem lo_ {d:List Ent} {m:Int} {e:Ending} (h:jl_ d m w e w') (hx:∃ x∈d,x.id=m):∃ v N,e=.returned (.tuple #[v,.int .i64 0])∧N.map EntV.ent=c0_ d m∧OwnE w.heap.size (fun _=>False) w' v N∧Below w.heap.size w w':=by
 obtain ⟨v,k,he,hb,⟨_,rfl,N,hN,hO⟩|⟨hn,_⟩⟩:=h
 ·exact ⟨v,N,he,hN,hO,hb⟩
 ·exact absurd hx hn
theorem vk_ {d:List Ent} {m:Int} {e:Ending} (h:jl_ d m w e w') (hx:∀ x∈d,x.id≠m):e=.returned (.tuple #[.slice none 0 0,.int .i64 4])∧Below w.heap.size w w':=by
 obtain ⟨v,k,he,hb,⟨⟨x,hm,hi⟩,_⟩|⟨_,rfl,rfl⟩⟩:=h
 ·exact absurd hi (hx x hm)
 ·exact ⟨he,hb⟩
theorem i1_ (lv:Value) (A:List RwV) (x:RwV) (w:World) (h:RwsR w lv A) (hx:RwOk w x) :
  Calls Tryz.prog 11 #[lv,x.val] w fun e w'=>e=.returned (.bool true)∧Below w.heap.size w w':=by
 have HS:=hq_ ez_;have HMD:=hq_ (fun W (hb:Below w.heap.size w W)=>fs_ lv A W (h.below hb));have hen:=fun W (hb:Below w.heap.size w W)=>k8_ x W (hx.below hb);obtain ⟨mt,rk,fm,⟨dv,mv,ln,ev⟩⟩:=x;dsimp only [RwV.val] at *;have HEN:=hq_ hen;clear h hx hen
 go_enter Tryz.func11,Tryz.ntmps11
 go_upto_region 1 with fail
 refine bf_ (F:=fun U=>Bxx U w.heap.size #[.int .u8 mt,.int .u8 rk,.bool fm,dv,mv,.int .u8 ln,ev] 51∧Below w.heap.size w U) ⟨Bxx.new w _ _,Ea (Er w) _⟩ ?_;rintro u ⟨hb,hu⟩;have HU:=hq_ hu;have HBX:=hq_ hb;clear hb hu;go_upto_region 3 with (first|(go_at_call 13;(with_reducible refine (HS.out u).mono ?_);rintro e w1 ⟨rfl,hb⟩;have HB1:=hq_ (Et HU.out hb);have HU1:=hq_ hb;clear hb)|(go_at_call 14;(with_reducible refine (HMD.out w1 HB1.out).mono ?_);rintro e w2 ⟨v0,L,rfl,hM,hD,hb⟩;obtain ⟨a0,c0,rfl⟩:=hD.form;have HM:=hq_ hM;have HD:=hq_ hD;have HB2:=hq_ (Et HB1.out hb);have HU2:=hq_ (Et HU1.out hb);clear hM hD hb))
 have hxb:=HBX.out.below HU2.out;have x0:=(hxb.cells 0).1;have x1:=(hxb.cells 1).1;have x2:=(hxb.cells 2).1;have x3:=(hxb.cells 3).1;have x4:=(hxb.cells 4).1;have x5:=(hxb.cells 5).1;have x6:=(hxb.cells 6).1;clear hxb;go_upto_region 4 with (go_at_call 25;(with_reducible refine (HEN.out w2 HB2.out).mono ?_);rintro e w3 ⟨y,rfl,hyr,hyo,hb⟩;obtain ⟨y1,g1,y2,g2,hc,hv⟩:=hyr.1.form;obtain ⟨X,hX⟩:∃ X,X=y:=⟨_,rfl⟩;rw [<- hX] at hyr hyo;obtain ⟨i1,f1,r1,cv,ev',s1⟩:=y;dsimp only at hc hv;subst hc;subst hv;dsimp only [EntV.val];have HX:=hq_ hX;have HXR:=hq_ hyr;have HXO:=hq_ hyo;have HB3:=hq_ hb;clear hyr hyo hb hX)
 clear x0 x1 x2 x3 x4 x5 x6;refine bf_ (F:=fun U=>(Bxx U w3.heap.size #[.int .i64 i1,.bool f1,.int .i64 r1,.slice y1 s1.cls.length g1,.int .i64 s1.len,.slice y2 s1.ext.length g2] 57∧DiaL U (fun k=>w1.heap.size≤k) (.slice a0 L.length c0) L∧REnt U (fun k=>w2.heap.size≤k) X)∧Below w.heap.size w U) ⟨⟨Bxx.new w3 _ _,HD.out.ext (Ea HB3.out _),HXR.out.ext (Ea (Er _) _)⟩,Et HB2.out (Ea HB3.out _)⟩ ?_;rintro w4 ⟨⟨hbx,hd,hxr⟩,hb⟩;obtain ⟨d,hd0⟩:∃ d,d=L.map EntV.ent:=⟨_,rfl⟩;have hM:=HM.out;rw [<- hd0] at hM;have hXi:X.ent.id=i1:=by rw [HX.out];rfl
 have hpu:=fun W (hb:Below w4.heap.size w4 W)=>i5_ _ _ (.slice a0 L.length c0) L X W (hd.ext hb) (by rw [<- hd0];exact hM.sm) (hxr.ext hb) HXO.out.good;have hval:X.val=.agg #[.int .i64 i1,.bool f1,.int .i64 r1,.slice y1 s1.cls.length g1,.int .i64 s1.len,.slice y2 s1.ext.length g2]:=by rw [HX.out]
 rw [<- hd0,hval] at hpu;have HPU:=hq_ hpu;have HI1:Hid (InI i1∧X.ent.id=i1):=hq_ ⟨by rw [<- hXi];obtain ⟨q1,q2⟩:=HXO.out.id;exact ⟨oq_,oq_⟩,hXi⟩;have HMI:=hq_ (hM.i.put HXO.out);have HD0:=hq_ hd0;have HMd:=hq_ hM;have HDL:=hq_ hd;have HB4:=hq_ hb;have HBE:=hq_ hbx;have HXR4:=hq_ hxr;have x0:=(hbx.cells 0).1;have x1:=(hbx.cells 1).1;have x2:=(hbx.cells 2).1;have x3:=(hbx.cells 3).1;have x4:=(hbx.cells 4).1;have x5:=(hbx.cells 5).1;clear hbx hd hxr hb hd0 hM hXi hpu hval HMD HEN HS;go_upto_region 5 with (go_at_call 26;(with_reducible refine (HPU.out w4 (Er _)).mono ?_);rintro e w5 ⟨v5,rfl,hb,M,hM,hO⟩;have HMM:=hq_ hM;have hDM:=hO.diaL;obtain ⟨a5,c5,rfl⟩:=hDM.form;have HDM:=hq_ hDM;have HB5:=hq_ hb;clear hM hO hDM hb)
 clear x0 x1 x2 x3 x4 x5;have x0:=((HBE.out.below HB5.out).cells 0).1;have hdr:=gn_ _ (.slice a5 M.length c5) M i1 w5 HDM.out (by rw [HMM.out];exact HMI.out.sm oq_) HI1.out.1;rw [HMM.out] at hdr;have HDR:=hq_ hdr;clear hdr;go_upto_region 6 with (go_at_call 35;(with_reducible refine HDR.out.mono ?_);rintro e w6 hres;obtain ⟨v6,N,rfl,hN,hO,hb⟩:=lo_ hres ⟨X.ent,cw_.2 (.inl rfl),HI1.out.2⟩;replace hN:N.map EntV.ent=c0_ d i1:=(by rw [hN,<- HI1.out.2,t5_ HMd.out.asc]);have HNN:=hq_ hN;have hDN:=hO.diaL;obtain ⟨a6,c6,rfl⟩:=hDN.form;have HDN:=hq_ hDN;have HW6:=hq_ hb;have HB6:=hq_ (Et HB5.out hb);clear hN hO hDN hb hres)
 have hv5:=fun W (hb:Below w6.heap.size w6 W)=>bi_ _ _ M W ((HDM.out.ext HW6.out).ext hb);have hv6:=fun W (hb:Below w6.heap.size w6 W)=>bi_ _ _ N W (HDN.out.ext hb);rw [HMM.out,bb_.2 (HMI.out.sm oq_).valid] at hv5;rw [HNN.out,bb_.2 (HMd.out.i.drop.sm oq_).valid] at hv6;have HV5:=hq_ hv5;have HV6:=hq_ hv6;clear hv5 hv6;go_wp2_with (first|(go_at_call 40;(with_reducible refine (HV5.out w6 (Er _)).mono ?_);rintro e w7 ⟨rfl,hb⟩;have HB7:=hq_ hb;clear hb)|(go_at_call 40;(with_reducible refine (HV6.out w7 HB7.out).mono ?_);rintro e w8 ⟨rfl,hb⟩;have HB8:=hq_ (Et HB7.out hb);clear hb))
 have HML:Hid (M.length=(putD d X.ent).length):=hq_ (by rw [<- HMM.out,List.length_map]);have HLd:Hid (L.length=d.length):=hq_ (by rw [HD0.out,List.length_map]);have HL4:Hid (L.length≤4):=hq_ (by have:=HMd.out.len;have:=HLd.out;omega);have HB48:Hid (Below w4.heap.size w4 w8):=hq_ (Et HB6.out HB8.out);go_loopw [12] (fun iv wr=>∃ k:Nat,k≤L.length∧iv=.int .i64 k∧Hid (∀ y∈d.take k,y.id≠i1)∧Hid (Below w8.heap.size w8 wr)) (fun iv _=>L.length-(intOf iv).toNat)
 case atStart=>exact ⟨0,oq_,rfl,hq_ sq_,hq_ (Er _)⟩
 case round=>
  obtain ⟨k,hk,rfl,HNO,HB⟩:=hrel;have hLb:L.length≤4:=HL4.out;have HBW:=hq_ (Et HB48.out HB.out);have x0:=((HBE.out.below HBW.out).cells 0).1;by_cases hlt:k<L.length
  ·have hlI:(k:Int)<L.length:=oq_;have HLT:=hq_ (show k+1≤L.length by omega);obtain ⟨b,o,x,p1,d1,p2,d2,rfl,hbb,hx,hxm,hxr,hcv,hev,e0,e1,e2,e3,e4,e5⟩:=(HDL.out.ext HBW.out).get hlt;have HXD:Hid (d.getD k default=x.ent):=hq_ (by rw [HD0.out,bn_,hx]);have HXM:Hid (x.ent∈d):=hq_ (by rw [HD0.out];exact List.mem_map.2 ⟨x,hxm,rfl⟩);have hxv:x.val=.agg #[.int .i64 x.id,.bool x.firm,.int .i64 x.rank,.slice p1 x.s.cls.length d1,.int .i64 x.s.len,.slice p2 x.s.ext.length d2]:=by rw [EntV.val,hcv,hev]
   have HXV:=hq_ hxv;have HXW:=hq_ hxr;clear hx hxm hxr hcv hev hxv;by_cases heq:x.id=i1
   ·have e0b:(x.id == i1)=true:=by simp [heq]
    have HEQ:Hid (x.ent.id=i1):=hq_ heq;have hp2:=fun W (hb:Below wr.heap.size wr W)=>i5_ _ _ (.slice a5 M.length c5) M x W (((HDM.out.ext HW6.out).ext (Et (Et HB8.out HB.out) hb))) (by rw [HMM.out];exact HMI.out.sm oq_) (HXW.out.ext hb) (HMd.out.ok _ HXM.out).good;have hd2:=fun W (hb:Below wr.heap.size wr W)=>gn_ _ (.slice (some ⟨b,o,none⟩) L.length c0) L i1 W (HDL.out.ext (Et HBW.out hb)) (by rw [<- HD0.out];exact HMd.out.sm) HI1.out.1;rw [HXV.out,HMM.out] at hp2;rw [<- HD0.out] at hd2;have HP2:=hq_ hp2;have HD2:=hq_ hd2;clear heq hp2 hd2;go_upto_region 11 with fail
    go_quiet (fail)
    go_wp2_with (first|(go_at_call 26;(with_reducible refine (HP2.out _ xE).mono ?_);rintro e w9 ⟨v9,rfl,hb,M9,hM9,hO9⟩;replace hb:=Et (En (Er wr) _) hb;have hD9:=hO9.diaL;obtain ⟨a9,c9,rfl⟩:=hD9.form;have HD9:=hq_ hD9;have HM9:=hq_ hM9;have HB9:=hq_ hb;have x0:=Ext.cell hb x0;clear hb hM9 hO9 hD9)|(go_at_call 35;(with_reducible refine (HD2.out _ HB9.out).mono ?_);rintro e w10 hres;obtain ⟨v10,N10,rfl,hN10,hO10,hb⟩:=lo_ hres ⟨x.ent,HXM.out,HEQ.out⟩;have hD10:=hO10.diaL;obtain ⟨a10,c10,rfl⟩:=hD10.form;have HD10:=hq_ hD10;have HN10:=hq_ hN10;have HV10:=hq_ hb;have HB10:=hq_ (Et HB9.out hb);clear hb hN10 hO10 hD10 hres)|(go_at_call 39;(with_reducible refine (h0_ _ _ _ _ M9 L w10 (HD9.out.ext HV10.out) (HDL.out.ext (Et HBW.out HB10.out)) (by rw [HM9.out,<- HD0.out,w2_ HMd.out.asc (by rw [HI1.out.2];exact HEQ.out.symm),m9_ HMd.out.asc HXM.out])).mono ?_);rintro e w11 ⟨rfl,hb⟩;have HV11:=hq_ hb;clear hb)|(go_at_call 39;(with_reducible refine (h0_ _ _ _ _ N10 N w11 (HD10.out.ext HV11.out) (HDN.out.ext (Et (Et (Et HB8.out HB.out) HB10.out) HV11.out)) (by rw [HN10.out,HNN.out])).mono ?_);rintro e w12 ⟨rfl,hb⟩;have HV12:=hq_ (Et HV11.out hb);clear hb))
    go_ret;have hlen:(M.length:Int)=L.length:=by rw [HML.out,HLd.out,n7_ HMd.out.asc HXM.out (by rw [HI1.out.2];exact HEQ.out)]
    exact ⟨a1_ (by simp [hlen]),Et HB4.out (Et (Et HBW.out HB10.out) HV12.out)⟩
   ·have e0b:(x.id == i1)=false:=by simp [heq]
    have HNE:=hq_ heq;clear heq;go_upto_region 11 with fail
    go_quiet (fail)
    go_wp2_with fail
    go_roundw
    case rel=>
     refine ⟨k+1,HLT.out,by go_num,hq_ fun y hy=>?_,hq_ (by have hb:=HB.out;exact xE)⟩;have hkd:k<d.length:=by have:=HLT.out;have:=HLd.out;omega
     rw [List.take_succ_eq_append_getElem hkd,<- a5_ (d:=default) hkd,HXD.out] at hy;rcases List.mem_append.1 hy with hy|hy
     ·exact HNO.out y hy
     ·rw [List.mem_singleton.1 hy];exact HNE.out
    case measure=>simp [intOf];omega
  ·obtain rfl:k=L.length:=oq_;have hkI:¬ (L.length:Int)<L.length:=oq_;have hno:∀ y∈d,y.id≠i1:=by have:=HNO.out;rwa [List.take_of_length_le (by rw [HLd.out];exact Nat.le_refl _)] at this
   have HNO2:=hq_ hno;have hd2:=gn_ _ (.slice a0 L.length c0) L i1 wr (HDL.out.ext HBW.out) (by rw [<- HD0.out];exact HMd.out.sm) HI1.out.1;rw [<- HD0.out] at hd2;have HD2:=hq_ hd2;clear hno hd2;go_wp2_with (first|(go_at_call 35;(with_reducible refine HD2.out.mono ?_);rintro e w10 hres;obtain ⟨rfl,hb⟩:=vk_ hres HNO2.out;have HB10:=hq_ hb;clear hb hres)|(go_at_call 39;(with_reducible refine (h0_ _ _ _ _ N L w10 (HDN.out.ext (Et (Et HB8.out HB.out) HB10.out)) (HDL.out.ext (Et HBW.out HB10.out)) (by rw [HNN.out,<- HD0.out,t4_ HNO2.out])).mono ?_);rintro e w11 ⟨rfl,hb⟩;have HV11:=hq_ hb;clear hb))
   go_ret;have hlen:(M.length:Int)=L.length+1:=by rw [HML.out,HLd.out,n6_ HMd.out.asc (by rw [HI1.out.2];exact HNO2.out)];simp
   exact ⟨a1_ (by simp [hlen]),Et HB4.out (Et (Et HBW.out HB10.out) HV11.out)⟩
end Go.Proofs.YtkclokcenllhmaaGreat
namespace Go.Proofs.YtkclokcenllhmaaGreat
open Go.ChangeShapes Go.WideShapes Go.ChangeAt Go.RowKit Go.Joins Kal
theorem DiaryEntries_lifted (os:Os) (started:os.Started) (H:Type) (enc:TypeId × Value->H) :
  ReturnsInHanded {} Tryz.checked os 11 .any (Rows.diaryEntriesSpec.pre6 enc Tryz.prog Tryz.f11 Rows.diaryEntriesRow.domain false) (Rows.diaryEntriesSpec.post enc Tryz.prog Tryz.f11 false true false false):=by
 refine returnsInHanded_of_change (C:=Tryz.checked) js_ started (by kernel_rfl) Tryz.func11
  (ChangeSpec.witness6 (enc:=enc) (C:=Tryz.checked) false ⟨#[],#[.slice none 0 0,.agg #[.int .u8 0,.int .u8 0,.bool false,.slice none 0 0,.slice none 0 0,.int .u8 0,.slice none 0 0]],[]⟩ 8 (by kernel_rfl) (by kernel_rfl) (by kernel_rfl) (by kernel_rfl)) ?_
 intro W base args ds gs before hval0 hW hcnd _;have hval:∀ (j:Nat) t v,Tryz.f11.params[j]? = some t->args[j]? = some v->Value.okWide Tryz.prog W .any base t v:=hval0;have hW':=hW;obtain ⟨p,q,hA0,hV,rfl,hfz,hnd⟩:=hW;have hA:DataW.TrodAll enc Tryz.prog W 0 (fun _=>true) true Tryz.f11.params.toList args.toList ds p:=hA0;rw [Tryz.params11] at hA hval;obtain ⟨v0,vs0,d0,ds0,p0,q0,hargs,rfl,rfl,h0,r0⟩:=trodAll_cons hA;obtain ⟨v1,vs1,d1,ds1,p1,q1,rfl,rfl,rfl,h1,r1⟩:=trodAll_cons r0;obtain ⟨rfl,rfl,rfl⟩:=trodAll_nil r1;obtain rfl:args=#[v0,v1]:=by cases args;simp_all
 obtain ⟨rfl,rfl⟩:=trodVars_none hV;have k0:=h0;have lt0:∀ x∈p0,x.block<W.heap.size:=by obtain ⟨m,hm⟩:=k0;exact DataW.trod_lt m _ _ _ hm
 obtain ⟨L0,w0⟩:=ex_ (hval 0 22 v0 rfl rfl) h0;have k1:=h1;have lt1:∀ x∈p1,x.block<W.heap.size:=by obtain ⟨m,hm⟩:=k1;exact DataW.trod_lt m _ _ _ hm
 obtain ⟨x1,rfl,w1⟩:=pp_ (hval 1 51 v1 rfl rfl) h1;clear hA0 hval0;refine (i1_ v0 L0 x1 W w0 w1).mono fun e W' ⟨he,bel⟩=>?_;subst he;exact ⟨_,rfl,_,_,_,[],_,[],hW',trodAll_mk1 (shut_bool Tryz.underlying4 _),(trodAll_cons_mk (Below.trod eg_ (by kernel_rfl) (of_decide_eq_true (by kernel_rfl)) k0 bel lt0) (trodAll_cons_mk (Below.trod eg_ (by kernel_rfl) (of_decide_eq_true (by kernel_rfl)) k1 bel lt1) trodAll_mk0)),rfl,bel.frame _,fun h=>by cases h⟩
theorem jn2 {a b:Bool} (h:a=true) (g:b=true):(a && b)=true:=by rw [h,g];rfl
theorem DiaryEntries_said:Rows.DiaryEntriesSaid:=
 OpenClaim.holds_of_wide 11 Tryz.f11 rfl rfl rfl rfl rfl rfl rfl ⟨rfl,rfl,rfl,rfl,rfl⟩ rfl rfl rfl rfl rfl (by as_aux_lemma=>kernel_rfl) Tryz.func11 (jn2 (jn2 (jn2 (jn2 (jn2 (jn2 (jn2 (jn2 (jn2 (jn2 (jn2 (jn2 (jn2 (jn2 (jn2 (jn2 (jn2 (jn2 (jn2 (jn2 (jn2 (jn2 (jn2 (jn2 (jn2 (jn2 (jn2 (jn2 (jn2 (jn2 (jn2 (by as_aux_lemma=>kernel_rfl) (by as_aux_lemma=>kernel_rfl)) (by as_aux_lemma=>kernel_rfl)) (by as_aux_lemma=>kernel_rfl)) (by as_aux_lemma=>kernel_rfl)) (by as_aux_lemma=>kernel_rfl)) (by as_aux_lemma=>kernel_rfl)) (by as_aux_lemma=>kernel_rfl)) (by as_aux_lemma=>kernel_rfl)) (by as_aux_lemma=>kernel_rfl)) (by as_aux_lemma=>kernel_rfl)) (by as_aux_lemma=>kernel_rfl)) (by as_aux_lemma=>kernel_rfl)) (by as_aux_lemma=>kernel_rfl)) (by as_aux_lemma=>kernel_rfl)) (by as_aux_lemma=>kernel_rfl)) (by as_aux_lemma=>kernel_rfl)) (by as_aux_lemma=>kernel_rfl)) (by as_aux_lemma=>kernel_rfl)) (by as_aux_lemma=>kernel_rfl)) (by as_aux_lemma=>kernel_rfl)) (by as_aux_lemma=>kernel_rfl)) (by as_aux_lemma=>kernel_rfl)) (by as_aux_lemma=>kernel_rfl)) (by as_aux_lemma=>kernel_rfl)) (by as_aux_lemma=>kernel_rfl)) (by as_aux_lemma=>kernel_rfl)) (by as_aux_lemma=>kernel_rfl)) (by as_aux_lemma=>kernel_rfl)) (by as_aux_lemma=>kernel_rfl)) (by as_aux_lemma=>kernel_rfl)) (by as_aux_lemma=>kernel_rfl))
  (of_decide_eq_true (by as_aux_lemma=>kernel_rfl)) (by unfold Func.isWrapper;first|(rw [if_pos (by decide +kernel)];kernel_rfl)|(rw [if_neg (by decide +kernel)];exact ⟨rfl,rfl⟩))
  (fun os started H enc _=>DiaryEntries_lifted os started H enc)
#print axioms DiaryEntries_said
end Go.Proofs.YtkclokcenllhmaaGreat
end
