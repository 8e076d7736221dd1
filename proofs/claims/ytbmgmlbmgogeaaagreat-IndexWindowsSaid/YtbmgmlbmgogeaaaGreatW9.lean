/- Part 9 of the proof of the laws. -/
import Derived.Test.YtbmgmlbmgogeaaaGreatW3
import Derived.Deep.QuietTactic
import Derived.BigQuiet
import Derived.Test.YtbmgmlbmgogeaaaGreatW5
import Derived.Test.YtbmgmlbmgogeaaaGreatW7
import Derived.Test.YtbmgmlbmgogeaaaGreatW8
import Derived.Deep.Cut
import Derived.Deep.CutBlock
import Derived.Deep.DeepCutAuto
import Derived.Test.YtbmgmlbmgogeaaaGreatW6
import Derived.Test.YtbmgmlbmgogeaaaGreatW4
set_option linter.unusedVariables false
set_option linter.unusedSimpArgs false
set_option maxRecDepth 100000
set_option maxHeartbeats 4000000
section
variable {sv:Array Go.Value}{b done:Bool}{a e f i r x:Int}{l ml:List Int}{B c hi k lo n:Nat}{row:Option Nat}{cv v v':Go.Value}{A C W W' W1 w w':Go.World}
namespace Go.Proofs.YtbmgmlbmgogeaaaGreat
section
open Go.RowKit Go.Maps Kal
theorem Wq (v:Value) (l:List Int) (lim:Int) (w:World) (hv:Ints w v l) :
  Calls Tryz.prog 171 #[v,.int .i64 lim] w λe w'=>e=.returned (.bool (gP (-1) lim l))/\∃ n,w'=w.drewN n:=by
 obtain ⟨⟨a,c,rfl,hlc,hc,ck⟩,hlen,hb⟩:=hv
 go_in
 go_wp2
 go_loopw [5] (λi wr=>∃ (k:Nat) (pv:Int),k<=l.length/\i=.int .i64 k/\((k=0/\pv=-1)\/(1<=k/\pv=l.getD (k-1) 0/\0<=pv))/\gP (-1) lim l=gP pv lim (l.drop k)/\∃ n,wr=w.drewN n) (λi _=>l.length-(intOf i).toNat)
 .exact ⟨0,-1,ad,rfl,.inl ⟨rfl,rfl⟩,aj,0,rfl⟩
 obtain ⟨k,pv,hk,rfl,ks,hr,n,rfl⟩:=hrel;have HR:=af hr;clear hr;by_cases hlt:k<l.length
 .rcases ck with h|⟨b,o,rfl,hcell⟩
  .rw [h] at hlt;simp at hlt
  have hcl:=hcell k hlt;have cP:(k:Int)<l.length:=ad;have hdr:gP pv lim (l.drop k)=if l.getD k 0<=pv\/lim<=l.getD k 0 then false else gP (l.getD k 0) lim (l.drop (k+1)):=by rw [drop_cons hlt,gP]
  rw [hdr] at HR;clear hdr;obtain ⟨x,hx⟩:∃ x,x=l.getD k 0:=⟨_,rfl⟩;rw [<- hx] at hcl HR;have HX:=af hx;clear hx;have hend:∀ q:Bool,(x<=pv\/lim<=x↔q=true)->gP (-1) lim l=if q then false else gP x lim (l.drop (k+1)):=λq h=>by
   rw [HR.o];cases q <;> simp at h <;> simp [h]
  have iD:=af hend;clear hend;rcases ks with ⟨hk0,wy⟩|⟨sq,Bl,wy⟩
  .have J1:¬ (0:Int)<k:=ad;have JY:decide ((0:Int)<(k:Int))=false:=by simp [hk0]
   have hkn:decide (0<k)=false:=by simp [hk0]
   have hkm:¬ 0<k:=ad;have HK0:=af hk0;have Ep:=af wy;clear hcell hk0 wy;by_cases h1:x<0
   .have d1:decide (x<0)=true:=by simp [h1]
    go_wp2_with fail
    go_quiet (fail)
    go_wp2
    go_ret;refine ⟨bX ?_,_,NP _ _ _⟩;rw [iD.o true (by have:=Ep.o;simp;omega)];rfl
   have d1:decide (x<0)=false:=by simp;omega
   by_cases h2:lim<=x
   .have d2:decide (lim<=x)=true:=by simp [h2]
    go_wp2_with fail
    go_quiet (fail)
    go_wp2
    go_ret;refine ⟨bX ?_,_,NP _ _ _⟩;rw [iD.o true (by simp [h2])];rfl
   have d2:decide (lim<=x)=false:=by simp;omega
   go_wp2_with fail
   go_quiet (fail)
   go_wp2
   go_roundw
   .exact ⟨k+1,x,ad,by go_num,.inr ⟨ad,HX.o,ad⟩,by rw [iD.o false (by have:=Ep.o;simp;omega)];rfl,_,rfl⟩
   simp [intOf];omega
  have Gf:=hcell (k-1) ad;have J1:(0:Int)<k:=ad;have JY:decide ((0:Int)<(k:Int))=true:=by simp;omega
  rw [<- Bl] at Gf;have T1:=af Bl;clear hcell Bl;by_cases h1:x<0
  .have d1:decide (x<0)=true:=by simp [h1]
   go_wp2_with fail
   go_quiet (fail)
   go_wp2
   go_ret;refine ⟨bX ?_,_,NP _ _ _⟩;rw [iD.o true aR];rfl
  have d1:decide (x<0)=false:=by simp;omega
  by_cases h2:lim<=x
  .have d2:decide (lim<=x)=true:=by simp [h2]
   go_wp2_with fail
   go_quiet (fail)
   go_wp2
   go_ret;refine ⟨bX ?_,_,NP _ _ _⟩;rw [iD.o true (by simp [h2])];rfl
  have d2:decide (lim<=x)=false:=by simp;omega
  obtain ⟨k',eQ⟩:∃ k',k=k'+1:=⟨k-1,ad⟩;subst eQ;rw [show k'+1-1=k' from by omega] at Gf;have hs1:(((k'+1:Nat):Int)-1)=(k':Int):=ad;by_cases h3:x<=pv
  .have d3:decide (x<=pv)=true:=by simp [h3]
   go_wp2_with fail
   go_quiet (fail)
   go_wp2
   go_ret;refine ⟨bX ?_,_,NP _ _ _⟩;rw [iD.o true (by simp [h3])];rfl
  have d3:decide (x<=pv)=false:=by simp;omega
  go_wp2_with fail
  go_quiet (fail)
  go_wp2
  go_roundw
  .exact ⟨k'+1+1,x,ad,by go_num,.inr ⟨ad,HX.o,ad⟩,by rw [iD.o false aR];rfl,_,rfl⟩
  simp [intOf];omega
 obtain rfl:k=l.length:=ad;go_wp2;go_ret;exact ⟨bX (by rw [HR.o,List.drop_length];rfl),n,rfl⟩
theorem z5_ {head cycle:List Int} {frm period:Int} (h:frm<0\/1099511627776<frm\/period<1\/1099511627776<period\/1048576<(head.length:Int)+cycle.length):validB ⟨head,frm,period,cycle⟩=false:=by
 unfold validB;rcases h with h|h|h|h|h
 .rw [P9 (show ¬ 0<=frm by omega)];rfl
 .rw [P9 (show ¬ frm<=1099511627776 by omega)];simp
 .rw [P9 (show ¬ 1<=period by omega)];simp
 .rw [P9 (show ¬ period<=1099511627776 by omega)];simp
 rw [P9 (show ¬ (head.length:Int)+cycle.length<=1048576 by omega)];simp
theorem wv_ {head cycle:List Int} {frm period:Int} (h:0<=frm/\frm<=1099511627776/\1<=period/\period<=1099511627776/\(head.length:Int)+cycle.length<=1048576):validB ⟨head,frm,period,cycle⟩=(gP (-1) frm head && gP (-1) period cycle):=by
 unfold validB;rw [PH h.1,PH h.2.1,PH h.2.2.1,PH h.2.2.2.1,PH h.2.2.2.2];simp
theorem s9_ (h c:Value) (p:Per) (w:World) (hp:cj w h c p) (hf:aS p.frm) (ht:aS p.period) :
  Calls Tryz.prog 120 #[ar h c p.frm p.period] w λe w'=>e=.returned (.bool (validB p))/\Below w.heap.size w w':=by
 unfold aS at hf ht;have Qx:∀ W,Below w.heap.size w W->Ints W h p.head:=λW hb=>hp.hd.ext hb;have hc':∀ W,Below w.heap.size w W->Ints W c p.cycle:=λW hb=>hp.cy.ext hb;have fA:=hp.hd.len;have hl2:=hp.cy.len;obtain ⟨a1,c1,a2,c2,rfl,rfl⟩:=hp.inn.form;obtain ⟨head,frm,period,cycle⟩:=p;dsimp only at *;obtain ⟨r1,hr1⟩:∃ r1,r1=gP (-1) frm head:=⟨_,rfl⟩;obtain ⟨r2,hr2⟩:∃ r2,r2=gP (-1) period cycle:=⟨_,rfl⟩;have pX:=af hr1.symm;have jh:=af hr2.symm;clear hp hr1 hr2
 go_in
 go_wp2_with (go_at_call 171;first|((with_reducible refine (Wq (.slice a1 head.length c1) head frm _ (Qx _ xE)).mono ?_);rintro e w1 ⟨he,n1,rfl⟩;rw [pX.o] at he;subst he)|((with_reducible refine (Wq (.slice a2 cycle.length c2) cycle period _ (hc' _ xE)).mono ?_);rintro e w2 ⟨he,n2,rfl⟩;rw [jh.o] at he;subst he))
 all_goals go_ret
 all_goals first
  | exact ⟨bX (z5_ ad).symm,xE⟩
  | (refine ⟨bX ?_,xE⟩;rw [wv_ ad,pX.o,jh.o];first|rfl|simp [*])
theorem qb_ (F:Nat->Prop) (v:Value) (m:List (List Per)) (w:World) (hm:aF w F v m) :
  Calls Tryz.prog 82 #[.agg #[v]] w λe w'=>e=.returned (.bool (ef m))/\Below w.heap.size w w':=by
 obtain ⟨L,AE,hL⟩:=hm;obtain ⟨a,c,rfl,_⟩:=hL.row;have HL:=af hL;have hlen:=hL.len;have dF:m.length=L.length:=by rw [<- AE];exact U6 _
 have qW:=af AE;have HM:=af dF;clear hL AE dF
 go_in
 by_cases JW:64<L.length
 .have hgI:64<(L.length:Int):=ad;go_wp2;go_ret;refine ⟨bX ?_,xE⟩;have:=HM.o;unfold ef;rw [P9 ad];rfl
 have hgI:¬ 64<(L.length:Int):=ad;go_wp2;go_loopw [3,4,5] (λi _ _ wr=>∃ k:Nat,k<=L.length/\i=.int .i64 k/\Hid ((m.take k).all gZ=true)/\Hid (Below w.heap.size w wr)/\Hid (ag wr w.heap.size #[.slice a L.length c] 57)) (λi _ _ _=>L.length-(intOf i).toNat)
 .exact ⟨0,ad,rfl,af rfl,af xE,af xB⟩
 obtain ⟨k,hk,rfl,cT,wU,cD⟩:=hrel;have hc0:=(ag.cells cD.o 0).1;by_cases hlt:k<L.length
 .have cP:(k:Int)<L.length:=ad;obtain ⟨b8,f8,tv,rfl,hcell,hT⟩:=(HL.o.keep (aP.below wU.o) wU.o.size).get hlt;rw [qW.o] at hT;have ig:Hid ((m.take (k+1)).all gZ=((m.take k).all gZ && gZ (m.getD k []))):=af (RU (l:=m) (k:=k) (d:=[]) (p:=gZ) (show k<m.length by have:=HM.o;omega));have HF:Hid (gZ (m.getD k [])=false->ef m=false):=af λh=>by unfold ef;rw [all_false (l:=m) (k:=k) (d:=[]) (show k<m.length by have:=HM.o;omega) h,yw]
  generalize m.getD k []=t at *;obtain ⟨T,PS,JM⟩:=hT;obtain ⟨a2,c2,rfl,_⟩:=JM.row;have ia:t.length=T.length:=by rw [<- PS,U6]
  have Rg:=JM.len;have xj:=af JM;have IV:=af PS;have gW:=af ia;clear JM PS ia;by_cases h1:T.length<1
  .have Jy:(T.length:Int)<1:=ad;go_wp2;go_ret;refine ⟨bX (HF.o ?_).symm,wU.o⟩;have:=gW.o;unfold gZ;rw [P9 ad];rfl
  by_cases h2:4<T.length
  .have Jy:¬ (T.length:Int)<1:=ad;have Fv:4<(T.length:Int):=ad;go_wp2;go_ret;refine ⟨bX (HF.o ?_).symm,wU.o⟩;have:=gW.o;unfold gZ;rw [P9 (p:=t.length<=4) ad,yw];rfl
  have Jy:¬ (T.length:Int)<1:=ad;have Fv:¬ 4<(T.length:Int):=ad;have Ub:Hid (gZ t=t.all validB):=af (by have:=gW.o;unfold gZ;rw [PH ad,PH ad];rfl);obtain ⟨wo,qF⟩:∃ wo,wo=wr:=⟨_,rfl⟩;have gk:=wU;rw [<- qF] at gk xj cD;have rl:=af qF;clear qF;go_wp2;go_loopw [5] (λi wq=>∃ j:Nat,j<=T.length/\i=.int .i64 j/\Hid ((t.take j).all validB=true)/\Hid (Below wo.heap.size wo wq)) (λi _=>T.length-(intOf i).toNat)
  .exact ⟨0,ad,rfl,af rfl,af (by rw [<- rl.o];exact Er _)⟩
  obtain ⟨j,hj,rfl,Ev,bl⟩:=hrel;by_cases hlt2:j<T.length
  .have A5:(j:Int)<T.length:=ad;obtain ⟨b1,o1,x,rfl,hx,c_,hb1,e0,e1,e2,e3⟩:=(xj.o.keep (aP.below bl.o) bl.o.size).get hlt2;rw [IV.o] at c_;have dV:Hid ((t.take (j+1)).all validB=((t.take j).all validB && validB x.p)):=af (by rw [c_];exact RU (l:=t) (k:=j) (d:=default) (p:=validB) (show j<t.length by have:=gW.o;omega));have zi:Hid (validB x.p=false->t.all validB=false):=af λh=>all_false (l:=t) (k:=j) (d:=default) (show j<t.length by have:=gW.o;omega) (by rw [<- c_];exact h);obtain ⟨xh,xc,xp⟩:=x;obtain ⟨eA,eE,eB,eW,fq,dZ,rfl,rfl⟩:=hx.form;have HR:=λW (h:Below wr.heap.size wr W)=>s9_ (.slice eA eE eB) (.slice eW fq dZ) xp W (hx.is.ext h) hx.fr hx.pe;change ∀ W,_->Calls _ _ #[.agg #[.slice eA eE eB,.int .i64 xp.frm,.int .i64 xp.period,.slice eW fq dZ]] W (λe w'=>e=.returned (.bool (validB xp))/\_) at HR;dsimp only at e0 e1 e2 e3 dV zi;clear c_ hx;generalize validB xp=bb at *;have HR:=af HR;cases bb
   .go_wp2_with (go_at_call 120;(with_reducible refine (HR.o _ (Er _)).mono ?_);rintro e w1 ⟨rfl,hb2⟩)
    go_ret;exact ⟨bX (HF.o (Ub.o.trans (by first|exact zi.o rfl|exact zi.o trivial|exact zi.o))).symm,Et gk.o (Et bl.o hb2)⟩
   go_wp2_with (go_at_call 120;(with_reducible refine (HR.o _ (Er _)).mono ?_);rintro e w1 ⟨rfl,hb2⟩)
   go_roundw
   .exact ⟨j+1,ad,by go_num,af (by rw [dV.o,Ev.o];rfl),af (Et bl.o hb2)⟩
   simp [intOf];omega
  obtain rfl:j=T.length:=ad;go_wp2;go_roundw
  .refine ⟨k+1,ad,by go_num,af ?_,af (Et gk.o bl.o),af (ag.below cD.o bl.o)⟩;have h1:=gW.o;have h2:=Ev.o;rw [PM ad] at h2;rw [ig.o,cT.o,Ub.o,h2];rfl
  simp [intOf];omega
 obtain rfl:k=L.length:=ad;go_wp2;go_ret;refine ⟨bX (Eq.symm ?_),wU.o⟩;have h1:=HM.o;have h2:=cT.o;rw [PM ad] at h2;unfold ef;rw [PH ad,h2];rfl
theorem Fs (x lo hi:Int) (w:World) (h1:lo<=x) (h2:x<=hi) :
  Calls Tryz.prog 77 #[.int .i64 x,.int .i64 lo,.int .i64 hi] w λe w'=>e=.returned (.bool true)/\w=w':=by
 go_in
 go_wp2;go_ret;exact ⟨rfl,rfl⟩
theorem yu_ (y:ai) (w:World) (h:j_ y) :
  Calls Tryz.prog 83 #[bQ y] w λe w'=>e=.returned (.bool true)/\Below w.heap.size w w':=by
 obtain ⟨yd,yf,yt⟩:=y;obtain ⟨⟨h1,h2⟩,⟨h3,h4⟩,h5,h6⟩:=h;dsimp only at h1 h2 h3 h4 h5 h6;have HA:=λW=>Fs yd 0 1099511627776 W h1 h2;have HB:=λW=>Fs yf (-2251799813685248) 1583296743997439 W h3 h4;have HC:=λW=>Fs yt (yf+1) (yf+10080) W h5 h6;show Calls _ _ #[.agg #[.int .i64 yd,.int .i64 yf,.int .i64 yt]] _ _
 go_in
 go_wp2_with (go_at_call 77;first|((with_reducible refine (HA _).mono ?_);rintro e w1 ⟨rfl,rfl⟩)|((with_reducible refine (HB _).mono ?_);rintro e w1 ⟨rfl,rfl⟩)|((with_reducible refine (HC _).mono ?_);rintro e w1 ⟨rfl,rfl⟩))
 go_ret;exact ⟨rfl,xE⟩
theorem r6_ (F:Nat->Prop) (cv ev:Value) (s:aE) (w:World) (h:bq w F cv ev s) (hv:nE ef s) :
  Calls Tryz.prog 44 #[.agg #[cv,.int .i64 s.len,ev]] w λe w'=>e=.returned (.bool true)/\Below w.heap.size w w':=by
 obtain ⟨L,h⟩:=h;have lx:s.cls.length=L.length:=by rw [<- h.eq];exact U6 _
 obtain ⟨ac,cc,rfl⟩:=h.cl.form;obtain ⟨ae,ce,rfl⟩:=h.ex.form;have fA:L.length<=64:=by have:=hv.ncls;omega
 have hl2:=hv.next;obtain ⟨lX,tI⟩:=hv.len;have HS:=af h;have HV:=af hv;have eU:=af lx;have HIL:=af (λW=>Fs s.len 1 10080 W lX tI);have hb0:ag (w.alloc (.cells #[.slice ac L.length cc,.int .i64 s.len,.slice ae s.ext.length ce] 43)) w.heap.size #[.slice ac L.length cc,.int .i64 s.len,.slice ae s.ext.length ce] 43:=ag.at rfl;have cD:=af hb0;have KQ:¬ (64:Int)<L.length:=ad;have KR:¬ (4096:Int)<s.ext.length:=ad;have Sv:decide ((4096:Int)<(s.ext.length:Int))=false:=P9 KR;clear h hv lx hb0
 go_in
 go_wp2_with (go_at_call 77;(with_reducible refine (HIL.o _).mono ?_);rintro e w1 ⟨rfl,rfl⟩)
 clear Sv;go_loopw [3,4] (λi _ wr=>∃ k:Nat,k<=L.length/\i=.int .i64 k/\Hid (Below w.heap.size w wr)/\Hid (ag wr w.heap.size #[.slice ac L.length cc,.int .i64 s.len,.slice ae s.ext.length ce] 43)) (λi _ _=>L.length-(intOf i).toNat)
 .exact ⟨0,ad,rfl,af xE,cD⟩
 obtain ⟨k,hk,rfl,HB,fQ⟩:=hrel;have q0:=(fQ.o.cells 0).1;by_cases hlt:k<L.length
 .have cP:(k:Int)<L.length:=ad;obtain ⟨b,o,a1,c1,m,mi,rfl,dL,e0,e1,hm,mQ,hcl⟩:=HS.o.cl.get hlt;have mR:k<s.cls.length:=by rw [eU.o];exact hlt
  rw [HS.o.eq] at hcl;obtain ⟨gv,⟨O4,O5⟩,gr⟩:=HV.o.cls k mR;rw [hcl] at gv O4 O5;have pa:=λW (hb:Below w.heap.size w W)=>qb_ F (.slice a1 m.length c1) m W (hm.ext hb);have gv:ef m=true:=gv;rw [gv] at pa;have pa:=af pa;have IE:=af (λW=>Fs mi (-4320) 4320 W O4 O5);have B6:Hid (∀ j,k=j+1->∃ pm,w.cell? ⟨b,o+j*2+1,none⟩=some (.int .i64 pm)/\pm<mi):=af λj hj=>by
   obtain ⟨b',o',_,_,m',pm,jn,_,_,g1,_,_,g2⟩:=HS.o.cl.get (show j<L.length by omega);injection jn with jn
   injection jn with q1 q2
   subst q1 q2;have g3:=gr j hj;rw [<- HS.o.eq,g2,HS.o.eq,hcl] at g3;exact ⟨pm,g1,g3⟩
  have Uq:=an.cell HB.o e0;have nK:=an.cell HB.o e1;clear e0 e1 hm mQ hcl mR gv O4 O5 gr;go_upto_region 7 with (fail)
  refine j9 (F:=λU=>ag U wr.heap.size #[.slice a1 m.length c1,.int .i64 mi] 59/\Below wr.heap.size wr U) ⟨ag.new _ _ _,Ea (Er _) _⟩ ?_;rintro W2 ⟨hcb,hb2⟩;have x0:=(hcb.cells 0).1;have x1:=(hcb.cells 1).1;have eI:Below w.heap.size w W2:=Et HB.o hb2;have s0:=((fQ.o.below hb2).cells 0).1;have bl:=af hb2;clear hcb hb2 Uq nK;cases k with
  | zero=>
   rw [show (((0:Nat):Int))=0 from rfl];refine jE (w0:=W2) [0,1,2,3,4,5,6,7,8,9,10,11,12,13,14,15,16,17,18,19,20,21,22,23,24,25] [] (λv=>⟨#[.agg #[.slice (some ⟨b,o,none⟩) L.length cc,.int .i64 s.len,.slice ae s.ext.length ce],.pointer (some ⟨w.heap.size,0,none⟩),u2,.int .i64 0,.pointer (some ⟨wr.heap.size,0,none⟩),undef,.pointer (some ⟨w.heap.size,0,none⟩),.slice (some ⟨b,o,none⟩) L.length cc,.int .i64 ↑L.length,.bool false,.bool false,.pointer (some ⟨w.heap.size,1,none⟩),.int .i64 s.len,.bool true,.bool false,.bool false,.bool false,.pointer (some ⟨w.heap.size,2,none⟩),.slice ae s.ext.length ce,.int .i64 ↑s.ext.length,.bool false,.bool false,.int .i64 0,.pointer (some ⟨w.heap.size,0,none⟩),.slice (some ⟨b,o,none⟩) L.length cc,.int .i64 ↑L.length,.bool true,u27,u28,.pointer (some ⟨w.heap.size,0,none⟩),.slice (some ⟨b,o,none⟩) L.length cc,.int .i64 0,.pointer (some ⟨b,o+0*2,none⟩),.agg #[.slice a1 m.length c1,.int .i64 mi],v 0,v 1,v 2,v 3,v 4,v 5,v 6,v 7,v 8,v 9,v 10,v 11,v 12,v 13,v 14,v 15,v 16,v 17,v 18,v 19,v 20,v 21,v 22,v 23,v 24,v 25,undef,undef,undef,undef,undef,undef,undef,undef,undef,undef,undef,undef,undef,undef,undef,undef,undef,undef,undef,undef,undef,undef,undef,undef,undef,undef,undef,undef,undef,undef,undef,undef,undef],[]⟩) [.pointer (some ⟨wr.heap.size,0,none⟩),.agg #[.slice a1 m.length c1],.bool true,.bool false,.bool false,.pointer (some ⟨wr.heap.size,1,none⟩),.int .i64 mi,.bool true,.bool false,.bool false,.bool false,.int .i64 0,.bool false,.bool false,undef,undef,undef,undef,undef,undef,undef,undef,undef,undef,.bool false,.bool false] (λW=>W.cell? ⟨wr.heap.size,0,none⟩=some (.slice a1 m.length c1)/\W.cell? ⟨wr.heap.size,1,none⟩=some (Value.int .i64 mi)) (λW hb=>⟨an.cell hb x0,an.cell hb x1⟩) ?steps7a ?fin7a (λj=>match j with|0=>u34|1=>u35|2=>u36|3=>u37|4=>u38|5=>u39|6=>u40|7=>u41|8=>u42|9=>u43|10=>u44|11=>u45|12=>u46|13=>u47|14=>u48|15=>u49|16=>u50|17=>u51|18=>u52|19=>u53|20=>u54|21=>u55|22=>u56|23=>u57|24=>u58|25=>u59|_=>undef)
   case steps7a=>
    refine .c [] rfl ?_ (.c [0] rfl ?_ (.c [1] rfl ?_ (.c [2] rfl ?_ (.c [3] rfl ?_ (.c [4] rfl ?_ (.c [4,5] rfl ?_ (.c [4,6] rfl ?_ (.c [4,7] rfl ?_ (.c [4,8] rfl ?_ (.c [9] rfl ?_ (.c [10] rfl ?_ (.c [10,11] rfl ?_ (.c [10,12] rfl ?_ (.c [13] rfl ?_ (.c [13,14] rfl ?_ (.c [13] rfl ?_ (.c [13,16] rfl ?_ (.c [13,15,17] rfl ?_ (.c [13,18] rfl ?_ (.c [13,19] rfl ?_ (.c [13] rfl ?_ (.c [13,21] rfl ?_ (.c [13,20,22] rfl ?_ (.c [10,13,23] rfl ?_ (.c [10,24] rfl ?_ (.n))))))))))))))))))))))))));all_goals try exact jX
    all_goals
     rintro v W hb ⟨g0,g1⟩;refine .inl ⟨rfl,λK hK=>?_⟩;simp only [ov,aD,Nat.reduceBEq,cond_true,cond_false];go_wp2_with (first|(go_at_call 82;(with_reducible refine (pa.o _ (Et eI hb)).mono ?_);rintro e w9 ⟨rfl,bg⟩)|(go_at_call 77;(with_reducible refine (IE.o _).mono ?_);rintro e w9 ⟨rfl,h9⟩;have bg:Below W.heap.size W w9:=h9 ▸ JV _ _;clear h9));exact aQ (hK w9 bg) (by simp [ov,aD])
   case fin7a=>
    rintro W3 hb3 hg;show wpList _ _ _ [] _ _;simp only [aD];have cq:=af (Et bl.o hb3);clear hg hb3 x0 x1 s0 eI;go_wp2;go_roundw
    .exact ⟨0+1,ad,by go_num,af (Et HB.o cq.o),af (fQ.o.below cq.o)⟩
    simp [intOf];omega
  | succ j=>
   obtain ⟨pm,fN,C0⟩:=B6.o j rfl;have p1:=an.cell eI fN;have Vx:¬ mi<=pm:=ad;have sm:(0:Int)<(j:Int)+1:=ad;clear fN;rw [show (((j+1:Nat):Int))=(j:Int)+1 by omega];refine jE (w0:=W2) [0,1,2,3,4,5,6,7,8,9,10,11,12,13,14,15,16,17,18,19,20,21,22,23,24,25] [] (λv=>⟨#[.agg #[.slice (some ⟨b,o,none⟩) L.length cc,.int .i64 s.len,.slice ae s.ext.length ce],.pointer (some ⟨w.heap.size,0,none⟩),u2,.int .i64 (↑j+1),.pointer (some ⟨wr.heap.size,0,none⟩),undef,.pointer (some ⟨w.heap.size,0,none⟩),.slice (some ⟨b,o,none⟩) L.length cc,.int .i64 ↑L.length,.bool false,.bool false,.pointer (some ⟨w.heap.size,1,none⟩),.int .i64 s.len,.bool true,.bool false,.bool false,.bool false,.pointer (some ⟨w.heap.size,2,none⟩),.slice ae s.ext.length ce,.int .i64 ↑s.ext.length,.bool false,.bool false,.int .i64 (↑j+1),.pointer (some ⟨w.heap.size,0,none⟩),.slice (some ⟨b,o,none⟩) L.length cc,.int .i64 ↑L.length,.bool true,u27,u28,.pointer (some ⟨w.heap.size,0,none⟩),.slice (some ⟨b,o,none⟩) L.length cc,.int .i64 (↑j+1),.pointer (some ⟨b,o+(j+1)*2,none⟩),.agg #[.slice a1 m.length c1,.int .i64 mi],v 0,v 1,v 2,v 3,v 4,v 5,v 6,v 7,v 8,v 9,v 10,v 11,v 12,v 13,v 14,v 15,v 16,v 17,v 18,v 19,v 20,v 21,v 22,v 23,v 24,v 25,undef,undef,undef,undef,undef,undef,undef,undef,undef,undef,undef,undef,undef,undef,undef,undef,undef,undef,undef,undef,undef,undef,undef,undef,undef,undef,undef,undef,undef,undef,undef,undef,undef],[]⟩) [.pointer (some ⟨wr.heap.size,0,none⟩),.agg #[.slice a1 m.length c1],.bool true,.bool false,.bool false,.pointer (some ⟨wr.heap.size,1,none⟩),.int .i64 mi,.bool true,.bool false,.bool false,.bool false,.int .i64 ((j:Int)+1),.bool true,.bool true,.pointer (some ⟨w.heap.size,0,none⟩),.slice (some ⟨b,o,none⟩) L.length cc,.int .i64 ((j:Int)+1),.int .i64 (j:Int),.pointer (some ⟨b,o+j*2,none⟩),.pointer (some ⟨b,o+j*2+1,none⟩),.int .i64 pm,.pointer (some ⟨wr.heap.size,1,none⟩),.int .i64 mi,.bool false,.bool false,.bool false] (λW=>W.cell? ⟨wr.heap.size,0,none⟩=some (.slice a1 m.length c1)/\W.cell? ⟨wr.heap.size,1,none⟩=some (Value.int .i64 mi)/\W.cell? ⟨w.heap.size,0,none⟩=some (.slice (some ⟨b,o,none⟩) L.length cc)/\W.cell? ⟨b,o+j*2+1,none⟩=some (Value.int .i64 pm)) (λW hb=>⟨an.cell hb x0,an.cell hb x1,an.cell hb s0,an.cell hb p1⟩) ?steps7b ?fin7b (λj=>match j with|0=>u34|1=>u35|2=>u36|3=>u37|4=>u38|5=>u39|6=>u40|7=>u41|8=>u42|9=>u43|10=>u44|11=>u45|12=>u46|13=>u47|14=>u48|15=>u49|16=>u50|17=>u51|18=>u52|19=>u53|20=>u54|21=>u55|22=>u56|23=>u57|24=>u58|25=>u59|_=>undef)
   case steps7b=>
    refine .c [] rfl ?_ (.c [0] rfl ?_ (.c [1] rfl ?_ (.c [2] rfl ?_ (.c [3] rfl ?_ (.c [4] rfl ?_ (.c [4,5] rfl ?_ (.c [4,6] rfl ?_ (.c [4,7] rfl ?_ (.c [4,8] rfl ?_ (.c [9] rfl ?_ (.c [10] rfl ?_ (.c [10,11] rfl ?_ (.c [10,12] rfl ?_ (.c [13] rfl ?_ (.c [13,14] rfl ?_ (.c [13] rfl ?_ (.c [13,16] rfl ?_ (.c [13,15,17] rfl ?_ (.c [13,18] rfl ?_ (.c [13,19] rfl ?_ (.c [13] rfl ?_ (.c [13,21] rfl ?_ (.c [13,20,22] rfl ?_ (.c [10,13,23] rfl ?_ (.c [10,24] rfl ?_ (.n))))))))))))))))))))))))));all_goals try exact jX
    all_goals
     rintro v W hb ⟨g0,g1,g2,g3⟩;refine .inl ⟨rfl,λK hK=>?_⟩;simp only [ov,aD,Nat.reduceBEq,cond_true,cond_false];go_wp2_with (first|(go_at_call 82;(with_reducible refine (pa.o _ (Et eI hb)).mono ?_);rintro e w9 ⟨rfl,bg⟩)|(go_at_call 77;(with_reducible refine (IE.o _).mono ?_);rintro e w9 ⟨rfl,h9⟩;have bg:Below W.heap.size W w9:=h9 ▸ JV _ _;clear h9));exact aQ (hK w9 bg) (by simp [ov,aD])
   case fin7b=>
    rintro W3 hb3 hg;show wpList _ _ _ [] _ _;simp only [aD];have cq:=af (Et bl.o hb3);clear hg hb3 x0 x1 s0 p1 eI;go_wp2;go_roundw
    .exact ⟨j+1+1,ad,by go_num,af (Et HB.o cq.o),af (fQ.o.below cq.o)⟩
    simp [intOf];omega
 obtain rfl:k=L.length:=ad;have s2:=(fQ.o.cells 2).1;go_wp2;go_loopw [5] (λi wr=>∃ k:Nat,k<=s.ext.length/\i=.int .i64 k/\Hid (Below w.heap.size w wr)/\Hid (ag wr w.heap.size #[.slice ac L.length cc,.int .i64 s.len,.slice ae s.ext.length ce] 43)) (λi _=>s.ext.length-(intOf i).toNat)
 .exact ⟨0,ad,rfl,HB,fQ⟩
 obtain ⟨k,hk,rfl,HB,fQ⟩:=hrel;have s2:=(fQ.o.cells 2).1;by_cases hlt:k<s.ext.length
 .have cP:(k:Int)<s.ext.length:=ad;obtain ⟨b,o,y,rfl,hbl,hy,oS,y0,y1,y2⟩:=(HS.o.ex.ext HB.o).get hlt;obtain ⟨gg,gr⟩:=HV.o.ext k hlt;rw [hy] at gg;have TB:=af (λW=>yu_ y W gg);have HYL:=af gr;have HY:=af hy;clear gg gr hy oS;go_upto_region 12 with (fail)
  cases k with
  | zero=>
   rw [show (((0:Nat):Int))=0 from rfl];simp only [WN,Nat.add_zero] at y0 y1 y2;have j7:=af (λW=>RN y y W);refine jE (w0:=wr) [0,1,2,3,4,5,6,7,8,9,10,11,12,13,14,15,16,17,18,19,20,21,22,23,24,25] [] (λv=>⟨#[.agg #[.slice ac L.length cc,.int .i64 s.len,.slice (some ⟨b,o,none⟩) s.ext.length ce],.pointer (some ⟨w.heap.size,0,none⟩),u2,.int .i64 ↑L.length,u4,.int .i64 0,.pointer (some ⟨w.heap.size,0,none⟩),.slice ac L.length cc,.int .i64 ↑L.length,.bool false,.bool false,.pointer (some ⟨w.heap.size,1,none⟩),.int .i64 s.len,.bool true,.bool false,.bool false,.bool false,.pointer (some ⟨w.heap.size,2,none⟩),.slice (some ⟨b,o,none⟩) s.ext.length ce,.int .i64 ↑s.ext.length,.bool false,.bool false,.int .i64 ↑L.length,.pointer (some ⟨w.heap.size,0,none⟩),.slice ac L.length cc,.int .i64 ↑L.length,.bool false,u27,u28,u29,u30,u31,u32,u33,u34,u35,u36,u37,u38,u39,u40,u41,u42,u43,u44,u45,u46,u47,u48,u49,u50,u51,u52,u53,u54,u55,u56,u57,u58,u59,.int .i64 0,.pointer (some ⟨w.heap.size,2,none⟩),.slice (some ⟨b,o,none⟩) s.ext.length ce,.int .i64 ↑s.ext.length,.bool true,u65,u66,v 0,v 1,v 2,v 3,v 4,v 5,v 6,v 7,v 8,v 9,v 10,v 11,v 12,v 13,v 14,v 15,v 16,v 17,v 18,v 19,v 20,v 21,v 22,v 23,v 24,v 25],[]⟩) [.pointer (some ⟨w.heap.size,2,none⟩),.slice (some ⟨b,o,none⟩) s.ext.length ce,.int .i64 0,.pointer (some ⟨b,o,none⟩),.agg #[.int .i64 y.day,.int .i64 y.frm,.int .i64 y.fin],.bool true,.bool false,.bool false,.int .i64 0,.bool false,.bool false,undef,undef,undef,undef,undef,undef,undef,undef,undef,undef,undef,undef,undef,.bool false,.bool false] (λW=>W.cell? ⟨w.heap.size,2,none⟩=some (.slice (some ⟨b,o,none⟩) s.ext.length ce)/\W.cell? ⟨b,o,none⟩=some (Value.int .i64 y.day)/\W.cell? ⟨b,o+1,none⟩=some (Value.int .i64 y.frm)/\W.cell? ⟨b,o+2,none⟩=some (Value.int .i64 y.fin)) (λW hb=>⟨an.cell hb s2,an.cell hb y0,an.cell hb y1,an.cell hb y2⟩) ?steps12a ?fin12a (λj=>match j with|0=>u67|1=>u68|2=>u69|3=>u70|4=>u71|5=>u72|6=>u73|7=>u74|8=>u75|9=>u76|10=>u77|11=>u78|12=>u79|13=>u80|14=>u81|15=>u82|16=>u83|17=>u84|18=>u85|19=>u86|20=>u87|21=>u88|22=>u89|23=>u90|24=>u91|25=>u92|_=>undef)
   case steps12a=>
    refine .c [] rfl ?_ (.c [0] rfl ?_ (.c [] rfl ?_ (.c [1,2] rfl ?_ (.c [3] rfl ?_ (.c [4] rfl ?_ (.c [5] rfl ?_ (.c [6] rfl ?_ (.c [7] rfl ?_ (.c [7,8] rfl ?_ (.c [7,9] rfl ?_ (.c [10] rfl ?_ (.c [10,11] rfl ?_ (.c [10] rfl ?_ (.c [10,13] rfl ?_ (.c [10,12,14] rfl ?_ (.c [10,15] rfl ?_ (.c [10] rfl ?_ (.c [10,17] rfl ?_ (.c [10] rfl ?_ (.c [10,18,19] rfl ?_ (.c [10,20] rfl ?_ (.c [10,16,21] rfl ?_ (.c [10,22] rfl ?_ (.c [7,10,23] rfl ?_ (.c [7,24] rfl ?_ (.n))))))))))))))))))))))))));all_goals try exact jX
    all_goals
     rintro v W hb ⟨g0,g1,g2,g3⟩;refine .inl ⟨rfl,λK hK=>?_⟩;simp only [ov,aD,Nat.reduceBEq,cond_true,cond_false];go_wp2_with (first|(go_at_call 83;(with_reducible refine (TB.o _).mono ?_);rintro e w9 ⟨rfl,bg⟩)|(go_at_call 47;(with_reducible refine (j7.o _).mono ?_);rintro e w9 ⟨rfl,bg⟩));exact aQ (hK w9 bg) (by simp [ov,aD])
   case fin12a=>
    rintro W3 hb3 hg;show wpList _ _ _ [] _ _;simp only [aD];have cq:=af hb3;clear hg hb3 y0 y1 y2 s2;go_wp2;go_roundw
    .exact ⟨0+1,ad,by go_num,af (Et HB.o cq.o),af (fQ.o.below cq.o)⟩
    simp [intOf];omega
  | succ j=>
   obtain ⟨b',o',z,jn,_,hz,_,z0,z1,z2⟩:=(HS.o.ex.ext HB.o).get (show j<s.ext.length by omega);injection jn with jn
   injection jn with i1 i2
   subst i1 i2;have GH:=HYL.o j rfl;rw [HY.o,hz] at GH;have j7:=λW=>RN z y W;rw [PH GH] at j7;have j7:=af j7;have sm:(0:Int)<(j:Int)+1:=ad;clear GH hz;rw [show (((j+1:Nat):Int))=(j:Int)+1 by omega];refine jE (w0:=wr) [0,1,2,3,4,5,6,7,8,9,10,11,12,13,14,15,16,17,18,19,20,21,22,23,24,25] [] (λv=>⟨#[.agg #[.slice ac L.length cc,.int .i64 s.len,.slice (some ⟨b,o,none⟩) s.ext.length ce],.pointer (some ⟨w.heap.size,0,none⟩),u2,.int .i64 ↑L.length,u4,.int .i64 (↑j+1),.pointer (some ⟨w.heap.size,0,none⟩),.slice ac L.length cc,.int .i64 ↑L.length,.bool false,.bool false,.pointer (some ⟨w.heap.size,1,none⟩),.int .i64 s.len,.bool true,.bool false,.bool false,.bool false,.pointer (some ⟨w.heap.size,2,none⟩),.slice (some ⟨b,o,none⟩) s.ext.length ce,.int .i64 ↑s.ext.length,.bool false,.bool false,.int .i64 ↑L.length,.pointer (some ⟨w.heap.size,0,none⟩),.slice ac L.length cc,.int .i64 ↑L.length,.bool false,u27,u28,u29,u30,u31,u32,u33,u34,u35,u36,u37,u38,u39,u40,u41,u42,u43,u44,u45,u46,u47,u48,u49,u50,u51,u52,u53,u54,u55,u56,u57,u58,u59,.int .i64 (↑j+1),.pointer (some ⟨w.heap.size,2,none⟩),.slice (some ⟨b,o,none⟩) s.ext.length ce,.int .i64 ↑s.ext.length,.bool true,u65,u66,v 0,v 1,v 2,v 3,v 4,v 5,v 6,v 7,v 8,v 9,v 10,v 11,v 12,v 13,v 14,v 15,v 16,v 17,v 18,v 19,v 20,v 21,v 22,v 23,v 24,v 25],[]⟩) [.pointer (some ⟨w.heap.size,2,none⟩),.slice (some ⟨b,o,none⟩) s.ext.length ce,.int .i64 ((j:Int)+1),.pointer (some ⟨b,o+(j+1)*3,none⟩),.agg #[.int .i64 y.day,.int .i64 y.frm,.int .i64 y.fin],.bool true,.bool false,.bool false,.int .i64 ((j:Int)+1),.bool true,.bool true,.pointer (some ⟨w.heap.size,2,none⟩),.slice (some ⟨b,o,none⟩) s.ext.length ce,.int .i64 ((j:Int)+1),.int .i64 (j:Int),.pointer (some ⟨b,o+j*3,none⟩),.agg #[.int .i64 z.day,.int .i64 z.frm,.int .i64 z.fin],.pointer (some ⟨w.heap.size,2,none⟩),.slice (some ⟨b,o,none⟩) s.ext.length ce,.int .i64 ((j:Int)+1),.pointer (some ⟨b,o+(j+1)*3,none⟩),.agg #[.int .i64 y.day,.int .i64 y.frm,.int .i64 y.fin],.bool true,.bool false,.bool false,.bool false] (λW=>W.cell? ⟨w.heap.size,2,none⟩=some (.slice (some ⟨b,o,none⟩) s.ext.length ce)/\W.cell? ⟨b,o+(j+1)*3,none⟩=some (Value.int .i64 y.day)/\W.cell? ⟨b,o+(j+1)*3+1,none⟩=some (Value.int .i64 y.frm)/\W.cell? ⟨b,o+(j+1)*3+2,none⟩=some (Value.int .i64 y.fin)/\W.cell? ⟨b,o+j*3,none⟩=some (Value.int .i64 z.day)/\W.cell? ⟨b,o+j*3+1,none⟩=some (Value.int .i64 z.frm)/\W.cell? ⟨b,o+j*3+2,none⟩=some (Value.int .i64 z.fin)) (λW hb=>⟨an.cell hb s2,an.cell hb y0,an.cell hb y1,an.cell hb y2,an.cell hb z0,an.cell hb z1,an.cell hb z2⟩) ?steps12b ?fin12b (λj=>match j with|0=>u67|1=>u68|2=>u69|3=>u70|4=>u71|5=>u72|6=>u73|7=>u74|8=>u75|9=>u76|10=>u77|11=>u78|12=>u79|13=>u80|14=>u81|15=>u82|16=>u83|17=>u84|18=>u85|19=>u86|20=>u87|21=>u88|22=>u89|23=>u90|24=>u91|25=>u92|_=>undef)
   case steps12b=>
    refine .c [] rfl ?_ (.c [0] rfl ?_ (.c [] rfl ?_ (.c [1,2] rfl ?_ (.c [3] rfl ?_ (.c [4] rfl ?_ (.c [5] rfl ?_ (.c [6] rfl ?_ (.c [7] rfl ?_ (.c [7,8] rfl ?_ (.c [7,9] rfl ?_ (.c [10] rfl ?_ (.c [10,11] rfl ?_ (.c [10] rfl ?_ (.c [10,13] rfl ?_ (.c [10,12,14] rfl ?_ (.c [10,15] rfl ?_ (.c [10] rfl ?_ (.c [10,17] rfl ?_ (.c [10] rfl ?_ (.c [10,18,19] rfl ?_ (.c [10,20] rfl ?_ (.c [10,16,21] rfl ?_ (.c [10,22] rfl ?_ (.c [7,10,23] rfl ?_ (.c [7,24] rfl ?_ (.n))))))))))))))))))))))))));all_goals try exact jX
    all_goals
     rintro v W hb ⟨g0,g1,g2,g3,g4,g5,g6⟩;refine .inl ⟨rfl,λK hK=>?_⟩;simp only [ov,aD,Nat.reduceBEq,cond_true,cond_false];go_wp2_with (first|(go_at_call 83;(with_reducible refine (TB.o _).mono ?_);rintro e w9 ⟨rfl,bg⟩)|(go_at_call 47;(with_reducible refine (j7.o _).mono ?_);rintro e w9 ⟨rfl,bg⟩));exact aQ (hK w9 bg) (by simp [ov,aD])
   case fin12b=>
    rintro W3 hb3 hg;show wpList _ _ _ [] _ _;simp only [aD];have cq:=af hb3;clear hg hb3 y0 y1 y2 z0 z1 z2 s2;go_wp2;go_roundw
    .exact ⟨j+1+1,ad,by go_num,af (Et HB.o cq.o),af (fQ.o.below cq.o)⟩
    simp [intOf];omega
 obtain rfl:k=s.ext.length:=ad;go_wp2;go_ret;exact ⟨rfl,HB.o⟩
def eL (n:ba):List ba->List ba
 | []=>[n]
 | y :: l=>if n.id<y.id then n :: y :: l else y :: eL n l
theorem y7_ {n:ba} {l:List ba} {x:ba}:x∈eL n l->x=n\/x∈l:=by
 induction l with
 | nil=>intro h;exact .inl (N2.1 h)
 | cons y l ih=>
  unfold eL
  split
  .intro h;exact (U3.1 h).elim .inl .inr
  intro h;rcases U3.1 h with h|h
  .exact .inr (U3.2 (.inl h))
  exact (ih h).imp (λh=>h) λh=>U3.2 (.inr h)
theorem y6_ (n:ba) (l:List ba):(eL n l).map ba.key=du (l.map ba.key) n.id n.s:=by
 induction l with
 | nil=>rfl
 | cons y l ih=>
  unfold eL;rw [GB];show _=du ((y.id,y.s) :: l.map ba.key) n.id n.s;unfold du
  split
  .rfl
  rw [GB,ih];rfl
theorem R4 (n:ba) (l:List ba):(eL n l).length=l.length+1:=by
 induction l with
 | nil=>rfl
 | cons y l ih=>
  unfold eL
  split
  .rfl
  rw [MH,ih,MH]
def dr (M:List ba) (n:ba) (k:Nat) (done:Bool) (out:List ba):Prop:=out ++ (if done then M.drop k else eL n (M.drop k))=eL n M
theorem dr.start (M:List ba) (n:ba):dr M n 0 false []:=by unfold dr;rfl
theorem dr.len {M:List ba} {n:ba} {out:List ba} (h:dr M n k done out) (hk:k<=M.length):out.length=k+(if done then 1 else 0):=by
 have h1:=congrArg List.length h;rw [MB,R4] at h1;cases done
 .rw [if_neg aj,R4,S2] at h1;simp;omega
 rw [if_pos rfl,S2] at h1;simp;omega
theorem dr.next {M:List ba} {n y:ba} {out:List ba} (h:dr M n k done out) (hy:M[k]? = some y) (hd:done=true\/¬ n.id<y.id):dr M n (k+1) done (out ++ [y]):=by
 have hk:=(GD.1 hy).1;have e:M.drop k=y :: M.drop (k+1):=by rw [GE hk,(GD.1 hy).2]
 unfold dr at *;rw [e] at h;cases done
 .have pz:¬ n.id<y.id:=hd.elim (λh=>by cases h) λh=>h;have e2:eL n (y :: M.drop (k+1))=y :: eL n (M.drop (k+1)):=by conv=>lhs;unfold eL;rw [if_neg pz]
  rw [if_neg aj] at h ⊢;rw [e2] at h;rw [QL,List.singleton_append];exact h
 rw [if_pos rfl] at h ⊢;rw [QL,List.singleton_append];exact h
theorem dr.here {M:List ba} {n y:ba} {out:List ba} (h:dr M n k false out) (hy:M[k]? = some y) (hd:n.id<y.id):dr M n (k+1) true (out ++ [n] ++ [y]):=by
 have hk:=(GD.1 hy).1;have e:M.drop k=y :: M.drop (k+1):=by rw [GE hk,(GD.1 hy).2]
 unfold dr at *;have e2:eL n (y :: M.drop (k+1))=n :: y :: M.drop (k+1):=by conv=>lhs;unfold eL;rw [if_pos hd]
 rw [e,if_neg aj,e2] at h;rw [if_pos rfl,QL,QL];exact h
theorem dr.end1 {M:List ba} {n:ba} {out:List ba} (h:dr M n M.length true out):out=eL n M:=by
 unfold dr at h;rw [if_pos rfl,List.drop_length,Q4] at h;exact h
theorem dr.end0 {M:List ba} {n:ba} {out:List ba} (h:dr M n M.length false out):out ++ [n]=eL n M:=by
 unfold dr at h;rw [if_neg aj,List.drop_length] at h;exact h
theorem Ij {α β:Type} (f:α->List β) (l:List α) (x:α):l.flatMap f ++ f x=(l ++ [x]).flatMap f:=by simp
def Y0 (q:Nat) (G F:Nat->Prop) (M:List ba) (L:IL) (id:Int) (s:aE) (w:World) (e:Ending) (w':World):Prop:=
 ((id<1\/1099511627776<id)/\e=.returned (.int .i64 1)/\Below w.heap.size w w') \/
 ((
  1<=id/\id<=1099511627776)/\((id∈ids L/\e=.returned (.int .i64 5)/\Below w.heap.size w w') \/
  (id ∉ ids L/\e=.returned (.int .i64 0)/\w.grownBy w' (some q)/\∃ v' M',eX w' q (λk=>(G k\/F k)\/w.heap.size<=k) v' M' (du L id s)/\M'.length=M.length+1)))
theorem YS {q:Nat} {G F:Nat->Prop} {ev:Value} {M out:List ba} {L:IL} {id:Int} {s:aE} {wf:World} (H:eX w q G v M L) (hb:Below w.heap.size w wf) (ho:wf.ownsRow (w.heap.size+1) 68 4 v' out.length (out.flatMap ba.enc)) (he:out=eL ⟨id,cv,ev,s⟩ M) (hs:bq w F cv ev s) (hid:aS id) (qB:id ∉ ids L) (hF:¬ F q) :
  w.grownBy (wf.setCell ⟨q,0,none⟩ v') (some q)/\∃ v2 M',eX (wf.setCell ⟨q,0,none⟩ v') q (λk=>(G k\/F k)\/w.heap.size<=k) v2 M' (du L id s)/\M'.length=M.length+1:=by
 refine ⟨World.grownBy.set' (World.grownBy.of_below hb _) v',v',out,Y7 (G:=λk=>G k\/F k) (H.ext hb).box ⟨ho.1,ho.2.imp (λh=>h) (λ⟨g,cap,cur,e,hb,r⟩=>⟨g,cap,cur,e,ad,r⟩)⟩ H.box.lt (λh=>h.elim H.apart hF) ?_ ?_ (R3 H.asc qB),by rw [he,R4]⟩
 .intro x hx;rw [he] at hx;rcases y7_ hx with rfl|hx
  .exact ⟨(hs.ext hb).mono λk hk=>.inl (.inr hk),hid⟩
  exact xC.mono ((H.ext hb).all x hx) λk hk=>.inl (.inl hk)
 rw [he,y6_,H.eq]
def q1n (M:List ba) (id:Int) (cv ev:Value) (s:aE) (w:World) (ov dv iv:Value) (wr:World):Prop:=
 ∃ (k:Nat) (done:Bool) (out:List ba),k<=M.length/\iv=.int .i64 k/\dv=.bool done/\Hid (dr M ⟨id,cv,ev,s⟩ k done out)/\Hid (wr.ownsRow (w.heap.size+1) 68 4 ov out.length (out.flatMap ba.enc))/\Hid (Below (w.heap.size+1) (w.alloc (.cells #[cv,.int .i64 s.len,ev] 43)) wr)
theorem yr_ (q:Nat) (G F:Nat->Prop) (v:Value) (M:List ba) (L:IL) (id:Int) (cv ev:Value) (s:aE) (w:World) (h:eX w q G v M L) (hl:M.length<=1000) (hs:bq w F cv ev s) (hv:nE ef s) (hid:aS id) (hF:¬ F q) :
  Calls Tryz.prog 27 #[.pointer (some ⟨q,0,none⟩),.int .i64 id,.agg #[cv,.int .i64 s.len,ev]] w (Y0 q G F M L id s w):=by
 obtain ⟨a,c,rfl⟩:=h.form;have H:=af h;have hq:=h.box.lt;have oY:=af hid;have HS:=af hs;obtain ⟨a1,c1,a2,c2,rfl,rfl⟩:=hs.form;have HV:=af (λW (hb:Below w.heap.size w W)=>r6_ F _ _ s W (hs.ext hb) hv);have HF:=af (λW (hb:Below w.heap.size w W)=>XZ q G _ M L id W (h.ext hb) ad);have cD:=af (λW (hb:Below w.heap.size w W)=>(h.ext hb).box);obtain ⟨id1,id2⟩:=oY.o;by_cases hA:id<1
 .clear h hs hv hid
  go_in
  go_wp2
  go_ret;exact .inl ⟨.inl hA,rfl,xE⟩
 by_cases hB:1099511627776<id
 .clear h hs hv hid
  go_in
  go_wp2
  go_ret;exact .inl ⟨.inr hB,rfl,xE⟩
 have rj:=af (show 1<=id/\id<=1099511627776 by omega);rcases XY (L:=L) (i:=id) with ⟨qB,hp⟩|⟨k,t,hk,hp⟩
 .rw [hp] at HF;have iH:=af qB;obtain ⟨iM,Ht,Hu,Hv,Hw⟩:=Zb;have eT:=af (And.intro Ht (And.intro Hu (And.intro Hv Hw)));have hm4:((M.length:Int) == 4096)=false:=by simp;omega
  clear h hs hv qB hp Ht Hu Hv Hw
  go_in
  go_wp2_with (first|(go_at_call 44;(with_reducible refine (HV.o _ (Ea (Er w) _)).mono ?_);rintro e w1 ⟨rfl,hb1⟩;have hb2:Below w.heap.size w w1:=Et (Ea (Er w) _) hb1;have q0:=((cD.o _ hb2).cells 0).1;have bm:=af hb1;have bl:=af hb2;clear hb1 hb2)|(go_at_call 54;(with_reducible refine (HF.o _ bl.o).mono ?_);rintro e w2 ⟨rfl,e1⟩;obtain rfl:w1=w2:=e1.symm))
  have jx:=af ((bm.o.mono (show w.heap.size+1<=_ by simp)).alloc (show w.heap.size+1<=_ by have:=bm.o.size;simpa using this) (.cells #[] 68));have fB:(w1.alloc (.cells #[] 68)).ownsRow (w.heap.size+1) 68 4 (.slice (some ⟨w1.heap.size,0,none⟩) 0 0) 0 (([]:List ba).flatMap ba.enc):=
   ⟨rfl,.inr ⟨w1.heap.size,0,#[],rfl,by have:=bm.o.size;simpa using this,DP _ _,TZ _,by simp [maxLen],rfl,rfl⟩⟩
  have Ej:=af fB;have pY:=af ((ag.new w #[.slice a1 s.cls.length c1,.int .i64 s.len,.slice a2 s.ext.length c2] 43));clear fB q0 hm4;go_loopw [7,8,9] (λov dv iv wr=>q1n M id (.slice a1 s.cls.length c1) (.slice a2 s.ext.length c2) s w ov dv iv wr) (λ_ _ iv _=>M.length-(intOf iv).toNat)
  .exact ⟨0,false,[],ad,rfl,rfl,af (dr.start _ _),Ej,jx⟩
  obtain ⟨k,done,out,hk,rfl,rfl,HP,HO,HB⟩:=hrel;obtain ⟨oa,oc,rfl⟩:=kF HO.o;have bL:Hid (Below w.heap.size w wr):=af ((Ea (Er w) _).trans (HB.o.mono ad));have hxb:=pY.o.upto HB.o ad;have x0:=(hxb.cells 0).1;have x1:=(hxb.cells 1).1;have x2:=(hxb.cells 2).1;have q0:=((cD.o _ bL.o).cells 0).1;have j8:=af (HP.o.len hk);clear hxb;by_cases hlt:k<M.length
  .have cP:(k:Int)<M.length:=ad;obtain ⟨b,o,y,rfl,hbl,hy,-,oS,e0,e1,e2,e3⟩:=H.o.get hlt;have HY:=af hy;have Dw:=af (λW (hb:Below w.heap.size w W)=>And.intro (an.cell hb e0) (And.intro (an.cell hb e1) (And.intro (an.cell hb e2) (an.cell hb e3))));clear e0 e1 e2 e3 hy oS;obtain ⟨e0,e1,e2,e3⟩:=Dw.o _ bL.o;have bU:=af (show k+1<=M.length by omega);have zT:Hid (∀ u∈ba.enc y,u.oneCell'=true):=af (λu hu=>Sn (G:=G) (W:=w) H.o.all u (M7.2 ⟨y,LH HY.o,hu⟩));cases done
   .simp only [NV,if_false] at j8;by_cases hid3:id<y.id
    .have om:=af (HP.o.here HY.o hid3);go_upto_region 15 with (at_builtin;(refine mL aC _ _ _ _ aC iM _ 4 64 Tryz.underlying51 eT.o.1 eT.o.2.1 eT.o.2.2.1 eT.o.2.2.2 rfl aG aG (w.heap.size+1) (.slice oa out.length oc) (out.length) (out.flatMap ba.enc) (ba.enc ⟨id,.slice a1 s.cls.length c1,.slice a2 s.ext.length c2,s⟩) rfl aC (HO.o.alloc _) wr.heap.size 1 aC (vk (ag.new wr #[.int .i64 id,.slice a1 s.cls.length c1,.int .i64 s.len,.slice a2 s.ext.length c2] 68)) (by simp [ba.enc,Value.oneCell']) (by have:=j8.o;omega) (by rw [U7];have:=HB.o.size;simp at this;omega) ?_);intro v9 w8 au aq aI;obtain ⟨ma,mc,rfl⟩:=kF au;rw [Ij] at au;have bg:=(HB.o.alloc (by have:=HB.o.size;simp at this;omega) (.cells #[.int .i64 id,.slice a1 s.cls.length c1,.int .i64 s.len,.slice a2 s.ext.length c2] 68)).grown aq (by rw [U7];have:=HB.o.size;simp at this;omega) (λq' e=>(HO.o.lt q' e).1);have fV:=af bg;have uI:=af au;have Cf:=af ((Ea (Er w) (.cells #[.slice a1 s.cls.length c1,.int .i64 s.len,.slice a2 s.ext.length c2] 43)).trans (bg.mono (show w.heap.size<=w.heap.size+1 by omega)));obtain ⟨f0,f1,f2,f3⟩:=Dw.o _ Cf.o;have q9:=((cD.o _ Cf.o).cells 0).1;clear au aq aI bg)
     clear e0 e1 e2 e3 q0 x0 x1 x2;go_wp2_with (at_builtin;(refine mL aC _ _ _ _ aC iM _ 4 64 Tryz.underlying51 eT.o.1 eT.o.2.1 eT.o.2.2.1 eT.o.2.2.2 rfl aG aG (w.heap.size+1) (.slice ma (out.length+1) mc) ((out.length+1)) ((out ++ [(⟨id,.slice a1 s.cls.length c1,.slice a2 s.ext.length c2,s⟩:ba)]).flatMap ba.enc) (ba.enc y) rfl aC (uI.o.alloc _) w8.heap.size 1 aC (vk (ag.new w8 #[.int .i64 y.id,y.cv,.int .i64 y.s.len,y.ev] 68)) zT.o (by have:=j8.o;omega) (by rw [U7];have:=fV.o.size;simp at this;omega) ?_);intro v9 w9 au aq aI;obtain ⟨na,nc,rfl⟩:=kF au;rw [Ij] at au;have bg:=(fV.o.alloc (by have:=fV.o.size;simp at this;omega) (.cells #[.int .i64 y.id,y.cv,.int .i64 y.s.len,y.ev] 68)).grown aq (by rw [U7];have:=fV.o.size;simp at this;omega) (λq' e=>(uI.o.lt q' e).1);have jx:=af bg;have jz:=af au;clear au aq aI bg);go_roundw
     .exact ⟨k+1,true,out ++ [⟨id,.slice a1 s.cls.length c1,.slice a2 s.ext.length c2,s⟩] ++ [y],bU.o,by go_num,rfl,om,af (by have h2:=jz.o;simpa using h2),jx⟩
     have:=bU.o;simp [intOf];omega
    have om:=af (HP.o.next HY.o (.inr hid3));go_wp2_with (at_builtin;(refine mL aC _ _ _ _ aC iM _ 4 64 Tryz.underlying51 eT.o.1 eT.o.2.1 eT.o.2.2.1 eT.o.2.2.2 rfl aG aG (w.heap.size+1) (.slice oa out.length oc) (out.length) (out.flatMap ba.enc) (ba.enc y) rfl aC (HO.o.alloc _) wr.heap.size 1 aC (vk (ag.new wr #[.int .i64 y.id,y.cv,.int .i64 y.s.len,y.ev] 68)) zT.o (by have:=j8.o;omega) (by rw [U7];have:=HB.o.size;simp at this;omega) ?_);intro v9 w9 au aq aI;obtain ⟨na,nc,rfl⟩:=kF au;rw [Ij] at au;have bg:=(HB.o.alloc (by have:=HB.o.size;simp at this;omega) (.cells #[.int .i64 y.id,y.cv,.int .i64 y.s.len,y.ev] 68)).grown aq (by rw [U7];have:=HB.o.size;simp at this;omega) (λq' e=>(HO.o.lt q' e).1);have jx:=af bg;have jz:=af au;clear au aq aI bg);go_roundw
    .exact ⟨k+1,false,out ++ [y],bU.o,by go_num,rfl,om,af (by have h2:=jz.o;simpa using h2),jx⟩
    have:=bU.o;simp [intOf];omega
   simp only [if_true] at j8;have om:=af (HP.o.next HY.o (.inl rfl));go_wp2_with (at_builtin;(refine mL aC _ _ _ _ aC iM _ 4 64 Tryz.underlying51 eT.o.1 eT.o.2.1 eT.o.2.2.1 eT.o.2.2.2 rfl aG aG (w.heap.size+1) (.slice oa out.length oc) (out.length) (out.flatMap ba.enc) (ba.enc y) rfl aC (HO.o.alloc _) wr.heap.size 1 aC (vk (ag.new wr #[.int .i64 y.id,y.cv,.int .i64 y.s.len,y.ev] 68)) zT.o (by have:=j8.o;omega) (by rw [U7];have:=HB.o.size;simp at this;omega) ?_);intro v9 w9 au aq aI;obtain ⟨na,nc,rfl⟩:=kF au;rw [Ij] at au;have bg:=(HB.o.alloc (by have:=HB.o.size;simp at this;omega) (.cells #[.int .i64 y.id,y.cv,.int .i64 y.s.len,y.ev] 68)).grown aq (by rw [U7];have:=HB.o.size;simp at this;omega) (λq' e=>(HO.o.lt q' e).1);have jx:=af bg;have jz:=af au;clear au aq aI bg);go_roundw
   .exact ⟨k+1,true,out ++ [y],bU.o,by go_num,rfl,om,af (by have h2:=jz.o;simpa using h2),jx⟩
   have:=bU.o;simp [intOf];omega
  obtain rfl:k=M.length:=ad;have q8:=((cD.o _ bL.o).cells 0).2;clear hlt;cases done
  .simp only [NV,if_false] at j8;clear q8;go_wp2_with (at_builtin;(refine mL aC _ _ _ _ aC iM _ 4 64 Tryz.underlying51 eT.o.1 eT.o.2.1 eT.o.2.2.1 eT.o.2.2.2 rfl aG aG (w.heap.size+1) (.slice oa out.length oc) (out.length) (out.flatMap ba.enc) (ba.enc ⟨id,.slice a1 s.cls.length c1,.slice a2 s.ext.length c2,s⟩) rfl aC (HO.o.alloc _) wr.heap.size 1 aC (vk (ag.new wr #[.int .i64 id,.slice a1 s.cls.length c1,.int .i64 s.len,.slice a2 s.ext.length c2] 68)) (by simp [ba.enc,Value.oneCell']) (by have:=j8.o;omega) (by rw [U7];have:=HB.o.size;simp at this;omega) ?_);intro v9 w9 au aq aI;obtain ⟨na,nc,rfl⟩:=kF au;rw [Ij] at au;have bg:=(HB.o.alloc (by have:=HB.o.size;simp at this;omega) (.cells #[.int .i64 id,.slice a1 s.cls.length c1,.int .i64 s.len,.slice a2 s.ext.length c2] 68)).grown aq (by rw [U7];have:=HB.o.size;simp at this;omega) (λq' e=>(HO.o.lt q' e).1);have zR:=af ((Ea (Er w) (.cells #[.slice a1 s.cls.length c1,.int .i64 s.len,.slice a2 s.ext.length c2] 43)).trans (bg.mono (show w.heap.size<=w.heap.size+1 by omega)));have jz:=af au;have q9:=((cD.o _ zR.o).cells 0).1;have q8:=((cD.o _ zR.o).cells 0).2;clear au aq aI bg);go_ret;exact .inr ⟨rj.o,.inr ⟨iH.o,rfl,YS H.o zR.o (by have h2:=jz.o;simpa using h2) HP.o.end0 HS.o oY.o iH.o hF⟩⟩
  simp only [if_true] at j8;go_wp2_with (fail);go_ret;exact .inr ⟨rj.o,.inr ⟨iH.o,rfl,YS H.o bL.o HO.o HP.o.end1 HS.o oY.o iH.o hF⟩⟩
 rw [hp] at HF;have dq:Hid (id∈ids L):=af (VC.2 ⟨_,LH hk,rfl⟩);clear h hs hv hk hp
 go_in
 go_wp2_with (first|(go_at_call 44;(with_reducible refine (HV.o _ (Ea (Er w) _)).mono ?_);rintro e w1 ⟨rfl,hb1⟩;have hb2:Below w.heap.size w w1:=Et (Ea (Er w) _) hb1;have q0:=((cD.o _ hb2).cells 0).1;have bl:=af hb2;clear hb1 hb2)|(go_at_call 54;(with_reducible refine (HF.o _ bl.o).mono ?_);rintro e w2 ⟨rfl,e1⟩;obtain rfl:w1=w2:=e1.symm;have hk0:(0:Int)<=(k:Int):=ad))
 go_ret;exact .inr ⟨rj.o,.inl ⟨dq.o,rfl,bl.o⟩⟩
def jb (x:Int):Int:=([30,60,90,600,1440,1500,3000,10080]:List Int).getD (x % 8).toNat 0
def dS (ml:List Int):Nat->Int
 | 0=>-1500
 | k+1=>dS ml k+1+15*ml.getD k 0
def eY (ll:List (List Int)) (ml:List Int):Nat->List ey
 | 0=>[]
 | k+1=>eY ll ml k ++ if dS ml (k+1)<=4320 then [⟨tD ((ll.drop k).take 2),dS ml (k+1)⟩] else []
def g_ (x:Int):ai:=⟨x % 7,15*(x % 5760)-2880,15*(x % 5760)-2880+15*(1+x / 5760*7)⟩
def extF (el:List Int):List ai:=el.foldl (λa x=>dG a (g_ x)) []
def Ik (ll:List (List Int)) (ml:List Int) (x:Int) (el:List Int):aE:=⟨eY ll ml (min 3 (min ml.length ll.length)),jb x,extF (el.take 4)⟩
theorem ZK (x:Int):30<=jb x/\jb x<=10080:=by
 have h:(x % 8).toNat<8:=ad;unfold jb;generalize (x % 8).toNat=k at *
 match k,h with
 | 0,_=>decide
 | 1,_=>decide
 | 2,_=>decide
 | 3,_=>decide
 | 4,_=>decide
 | 5,_=>decide
 | 6,_=>decide
 | 7,_=>decide
theorem SB (h:∀ x∈ml,0<=x/\x<=255):∀ k:Nat,-1500<=dS ml k/\dS ml k<=-1500+3826*k/\dS ml k<dS ml (k+1):=by
 have e:∀ k,0<=ml.getD k 0/\ml.getD k 0<=255:=λk=>by
  by_cases hk:k<ml.length
  .exact h _ (dI (d:=0) hk)
  rw [VS,DS ad];decide
 intro k;induction k with
 | zero=>have:=e 0;refine ⟨VI _,by show (-1500:Int)<=-1500+3826*((0:Nat):Int);omega,?_⟩;show dS ml 0<dS ml 0+1+15*ml.getD 0 0;omega
 | succ k ih=>
  have h1:=e k;have h2:=e (k+1);have e1:dS ml (k+1)=dS ml k+1+15*ml.getD k 0:=rfl;have e2:dS ml (k+1+1)=dS ml (k+1)+1+15*ml.getD (k+1) 0:=rfl;refine ⟨ad,ad,ad⟩
theorem xk_ (ll:List (List Int)) (ml:List Int):∀ k,(eY ll ml k).length<=k:=by
 intro k;induction k with
 | zero=>exact TZ _
 | succ k ih=>
  unfold eY;rw [MB]
  split
  .rw [NF];omega
  rw [M4];omega
theorem Nl {ll:List (List Int)}:∀ k,∀ c∈eY ll ml k,MV 0 c.days:=by
 intro k;induction k with
 | zero=>intro c hc;simp [eY] at hc
 | succ k ih=>
  intro c hc;unfold eY at hc;rcases VJ.1 hc with hc|hc
  .exact ih c hc
  split at hc
  .rw [N2] at hc;subst hc;exact (Rx _).mv
  simp at hc
theorem xj_ {ll:List (List Int)} (h:∀ x∈ml,0<=x/\x<=255):∀ k,ju ef (eY ll ml k) (dS ml k):=by
 intro k;induction k with
 | zero=>exact ju.nil
 | succ k ih=>
  have h1:=SB h k;have h2:=SB h (k+1);unfold eY
  split
  .rename_i h3;exact ih.snoc h1.2.2 ((Rx _).mv.val) ad h3
  rw [Q4];exact ih.le ad
theorem va_ (h:0<=x/\x<=65535):j_ (g_ x)/\-10000<=(g_ x).frm:=by
 unfold j_ g_;simp only;omega
theorem v8_ {el:List Int} (h:∀ x∈el,0<=x/\x<=65535):iz (extF el)/\(extF el).length<=el.length/\∀ y∈extF el,j_ y/\-10000<=y.frm:=by
 have key:∀ (l:List Int) (a:List ai),(∀ x∈l,0<=x/\x<=65535)->iz a->(∀ y∈a,j_ y/\-10000<=y.frm)->iz (l.foldl (λa x=>dG a (g_ x)) a)/\(l.foldl (λa x=>dG a (g_ x)) a).length<=a.length+l.length/\∀ y∈l.foldl (λa x=>dG a (g_ x)) a,j_ y/\-10000<=y.frm:=by
  intro l;induction l with
  | nil=>exact λa _ h2 h3=>⟨h2,aj,h3⟩
  | cons x l ih=>
   intro a h1 h2 h3;obtain ⟨k1,k2,k3⟩:=ih (dG a (g_ x)) (λy hy=>h1 y (P5 _ hy)) (y4_ h2) (λy hy=>by
    rcases y5_.1 hy with rfl|hy
    .exact va_ (h1 x aj)
    exact h3 y hy)
   have:=YC (l:=a) (x:=g_ x);exact ⟨k1,by rw [List.foldl_cons,MH];omega,k3⟩
 have:=key el [] h .nil aj;simpa [extF] using this
theorem v9_ (el:List Int) (x:Int):extF (el ++ [x])=dG (extF el) (g_ x):=by unfold extF;rw [GQ];rfl
structure Cx (s:aE):Prop where
 ms:bO s
 near:∀ x∈s.ext,-10000<=x.frm
 ncls:s.cls.length<=3
 next:s.ext.length<=4
theorem tl_ {ll:List (List Int)} {el:List Int} (hm:∀ y∈ml,0<=y/\y<=255) (he:∀ y∈el,0<=y/\y<=65535):Cx (Ik ll ml x el):=by
 have hl:=ZK x;obtain ⟨g1,g2,g3⟩:=v8_ (el:=el.take 4) λy hy=>he y (S8 hy);have g4:(extF (el.take 4)).length<=4:=by rw [MO] at g2;omega
 have hk:=xk_ ll ml (min 3 (min ml.length ll.length));refine ⟨⟨⟨?_,?_,?_,?_,?_⟩,Nl _⟩,λy hy=>(g3 y hy).2,?_,g4⟩
 .show (eY ll ml _).length<=64;omega
 .show 1<=jb x/\jb x<=10080;omega
 .show (extF (el.take 4)).length<=4096;omega
 .exact (xj_ hm _).good
 .exact g1.good λy hy=>(g3 y hy).1
 show (eY ll ml _).length<=3;omega
theorem Nx {b:Nat} {t:TypeId} (h:ag W b #[.int .i64 30,.int .i64 60,.int .i64 90,.int .i64 600,.int .i64 1440,.int .i64 1500,.int .i64 3000,.int .i64 10080] t) (x:Int) (hx:0<=x):W.cell? ⟨b,(x % 8).toNat,none⟩=some (.int .i64 (jb x)):=by
 rw [(h.cells _).1];unfold jb;have hk:(x % 8).toNat<8:=ad;generalize (x % 8).toNat=k at *
 match k,hk with
 | 0,_=>rfl
 | 1,_=>rfl
 | 2,_=>rfl
 | 3,_=>rfl
 | 4,_=>rfl
 | 5,_=>rfl
 | 6,_=>rfl
 | 7,_=>rfl
theorem nt_ {b o i:Nat} {ll:List (List Int)} (h:xz w (.slice (some ⟨b,o,none⟩) ll.length c) ll) (hi:i+n<=ll.length) {o' c':Nat} (ho:n=0\/o'=o+i):xz w (.slice (some ⟨b,o',none⟩) n c') ((ll.drop i).take n):=by
 obtain ⟨⟨a,c2,he,h1⟩,h2⟩:=h;injection he with e1 _ e2
 have hl:((ll.drop i).take n).length=n:=by rw [MO,S2];omega
 refine ⟨⟨_,c',by rw [hl],?_⟩,by rw [hl];omega⟩;by_cases h0:n=0
 .left;exact NL (by rw [hl];exact h0)
 obtain rfl:o'=o+i:=ho.resolve_left h0;rcases h1 with h1|⟨b2,o2,e,hc⟩
 .rw [h1] at hi;simp at hi;omega
 rw [<- e1] at e;injection e with e
 injection e with e3 e4
 subst e3;subst e4;refine .inr ⟨_,_,rfl,λj hj=>?_⟩;rw [hl] at hj;obtain ⟨u,g1,g2⟩:=hc (i+j) ad;refine ⟨u,by rw [OE];exact g1,?_⟩;have e:((ll.drop i).take n).getD j []=ll.getD (i+j) []:=by
  rw [VS,VS,LJ hj,q8u]
 rw [e];exact g2
theorem z1_ (ll:List (List Int)) (hk:k<ll.length):(ll.drop k).take ((min ((k:Int)+2) ll.length).toNat-k)=(ll.drop k).take 2:=by
 by_cases h:k+2<=ll.length
 .rw [show (min ((k:Int)+2) ll.length).toNat-k=2 by omega]
 have hl:(ll.drop k).length=1:=by rw [S2];omega
 rw [PM (by rw [hl];omega),PM (by rw [hl];omega)]
theorem te_ (B:Nat) (lv:Value) (l:List ai) (x:ai) (w:World) (h:bZ w (λb=>B<=b) lv l) (hx:jB x) (hl:l.length<=1000) (hB:B<=w.heap.size) :
  Calls Tryz.prog 43 #[lv,bQ x] w λe w'=>∃ a c,e=.returned (.slice a (dG l x).length c)/\bZ w' (λb=>B<=b) (.slice a (dG l x).length c) (dG l x)/\Below w.heap.size w w':=
 (td_ _ lv l x w h hx hl).mono λe w' ⟨hb,v',he,hc⟩=>by
  subst he;rcases hc with ⟨hm,rfl⟩|⟨hm,ho⟩
  .have e1:dG l x=l:=by unfold dG;rw [if_pos hm]
   obtain ⟨a,c,rfl⟩:=h.form;rw [e1];exact ⟨a,c,rfl,h.ext hb,hb⟩
  have e1:dG l x=dw l x:=by unfold dG;rw [if_neg hm]
  obtain ⟨a,c,rfl,_⟩:=ho.form;rw [e1];exact ⟨a,c,rfl,ho.extL.mono λb hb'=>by have:=hb'.1;omega,hb⟩
def Z0 (ll:List (List Int)) (ml:List Int) (LN:Int) (w W1 W:World):Prop:=∃ (v:Value) (M:List br),M.map br.cls=eY ll ml (min 3 (min ml.length ll.length))/\rq (w.heap.size+4) (λ_=>False) W v M/\ag W (w.heap.size+1+1+1) #[v,.int .i64 LN,.slice none 0 0] 43/\W1.grownBy W (some (w.heap.size+1+1+1))
theorem tk_ (x:jD) (ll:List (List Int)) (ml el:List Int) (w:World) (h:ru w x ll ml el) :
  Calls Tryz.prog 17 #[x.val] w (Kz (Ik ll ml x.ln el) w):=by
 have HR:=af h;obtain ⟨hd,⟨da,dc,JS,sj,hdc⟩,hm,l0,l1,he⟩:=h;obtain ⟨⟨ma,mc,hme,_⟩,dF,ly⟩:=hm;obtain ⟨⟨ea,ec,CO,_⟩,hel,her⟩:=he;obtain ⟨dv,mv,ln,ev⟩:=x;dsimp only at JS hme CO l0 l1;subst JS;subst hme;subst CO;have th:=af ly;have DG:=af her;obtain ⟨LN,JJ⟩:∃ LN,jb ln=LN:=⟨_,rfl⟩;have eU:=af JJ;have gw:=ZK ln;rw [JJ] at gw;obtain ⟨Sg,lb2⟩:=gw;have hT:ag (((w.alloc (.cells #[.slice da ll.length dc,.slice ma ml.length mc,.int .u8 ln,.slice ea el.length ec] 27)).alloc (.cells #[.slice none 0 0,.int .i64 0,.slice none 0 0] 43)).alloc (.cells #[.int .i64 30,.int .i64 60,.int .i64 90,.int .i64 600,.int .i64 1440,.int .i64 1500,.int .i64 3000,.int .i64 10080] 3)) (w.heap.size+1+1) #[.int .i64 30,.int .i64 60,.int .i64 90,.int .i64 600,.int .i64 1440,.int .i64 1500,.int .i64 3000,.int .i64 10080] 3:=ag.at aj;have q:=Nx hT ln l0;rw [JJ] at q;obtain ⟨r,hr⟩:∃ r,ln % 8=r:=⟨_,rfl⟩;have eu:0<=r/\r<8:=ad;obtain ⟨r1,r2⟩:=eu;have kt:ln.tmod 8=r:=by rw [NY l0];exact hr
 rw [hr] at q;clear hT JJ hd ly her;show Calls _ _ #[.agg #[.slice da ll.length dc,.slice ma ml.length mc,.int .u8 ln,.slice ea el.length ec]] _ _
 go_in
 go_upto_block 0 with (fail)
 refine j9 (F:=λU=>ag U w.heap.size #[.slice da ll.length dc,.slice ma ml.length mc,.int .u8 ln,.slice ea el.length ec] 27/\ag U (w.heap.size+1) #[.slice none 0 0,.int .i64 0,.slice none 0 0] 43/\ag U (w.heap.size+1+1+1) #[.slice none 0 0,.int .i64 LN,.slice none 0 0] 43/\U.heap.size=w.heap.size+4/\Below w.heap.size w U) ⟨xB,xB,xB,aj,xE⟩ ?_;rintro W1 ⟨hc0,hc1,py,hs1,hcb⟩;have K0:=af hc0;have K1:=af hc1;have KO:=af py;have KB:=af hcb;have kz:=af hs1;clear q r1 r2 kt hr hc0 hc1 py hs1 hcb
 go_cut [] (λwx=>Hid (Z0 ll ml LN w W1 wx))
 case first=>
  go_wp2
  go_loopw [4,5,6] (λmv iv _ wr=>∃ (k:Nat) (v:Value) (M:List br) (mn:Int),k<=3/\k<=ml.length/\k<=ll.length/\iv=.int .i64 k/\mv=.int .i64 mn/\Hid (dS ml k=mn)/\Hid (M.map br.cls=eY ll ml k)/\M.length<=k/\Hid (rq (w.heap.size+4) (λ_=>False) wr v M)/\Hid (ag wr (w.heap.size+1+1+1) #[v,.int .i64 LN,.slice none 0 0] 43)/\Hid (W1.grownBy wr (some (w.heap.size+1+1+1)))) (λ_ iv _ _=>3-(intOf iv).toNat)
  .exact ⟨0,.slice none 0 0,[],-1500,ad,ad,ad,rfl,rfl,af rfl,af rfl,aj,af aN.nil,KO,af ⟨rfl,rfl,rfl,TZ _,λ_ _ _=>rfl⟩⟩
  obtain ⟨k,v,M,mn,hk3,hkm,lu,rfl,rfl,TQ,HM,PG,HV,gk,HG⟩:=hrel;obtain ⟨wk,nZ⟩:∃ x,x=wr:=⟨_,rfl⟩;subst nZ;obtain ⟨va,vc,rfl,-⟩:=HV.o.form;have Vi:=HG.o.size;have q3m:=kz.o;have mw:Hid (Below w.heap.size w wk):=af (KB.o.grown HG.o KB.o.size λq e=>by injection e with e;omega);have J1:=mw.o.size;have jq:ag wk w.heap.size #[.slice da ll.length dc,.slice ma ml.length mc,.int .u8 ln,.slice ea el.length ec] 27:=(HG.o.block _ ad (by intro e;injection e with e;omega)).trans K0.o;have x0:=(jq.cells 0).1;have x1:=(jq.cells 1).1;have x3:=(jq.cells 3).1;have tj:=af jq;have J3:=SB th.o k;rw [TQ.o] at J3;obtain ⟨mb1,mb2,-⟩:=J3;have mb2:mn<=9978:=ad;clear jq;have LEAVE:Hid (¬ (k<ml.length/\k<3/\k<ll.length)->k=min 3 (min ml.length ll.length)):=af ad;by_cases hA:k<ml.length/\k<3/\k<ll.length
  .obtain ⟨c1,c2,c3⟩:=hA;have EW:(k:Int)<ml.length:=ad;have I4:(k:Int)<3:=ad;have c3I:(k:Int)<ll.length:=ad;obtain ⟨⟨a',Uo,he',hcl⟩,_,_⟩:=HR.o.mins.ext mw.o;injection he' with e1 _ e2
   subst e1;subst e2;rcases hcl with hcl|⟨b8,f8,rfl,hcl⟩
   .rw [hcl] at c1;simp at c1
   have z0:=hcl k c1;have wH:=th.o _ (dI (d:=0) c1);have IK:Hid (dS ml (k+1)=mn+1+15*ml.getD k 0):=af (by show dS ml k+1+15*ml.getD k 0=_;rw [TQ.o]);have m_:Hid (eY ll ml (k+1)=eY ll ml k ++ if dS ml (k+1)<=4320 then [⟨tD ((ll.drop k).take 2),dS ml (k+1)⟩] else []):=af rfl;obtain ⟨y,hy⟩:∃ y,ml.getD k 0=y:=⟨_,rfl⟩;rw [hy] at z0 wH IK;rw [IK.o] at m_;obtain ⟨y1,y2⟩:=wH;have ye:=HR.o.days.ext mw.o;obtain ⟨b9,f9,rfl⟩:∃ b o,da=some ⟨b,o,none⟩:=by
    obtain ⟨⟨a',Uo,he',hcl⟩,_⟩:=ye;injection he' with e1 _ e2
    rcases hcl with hcl|⟨b,o,e,_⟩
    .rw [hcl] at c3;simp at c3
    exact ⟨b,o,e1.trans e⟩
   have It:=af (λW (hb:Below w.heap.size w W)=>HR.o.days.ext hb);clear hcl hy ye;obtain ⟨D,hD⟩:∃ D,tD ((ll.drop k).take 2)=D:=⟨_,rfl⟩;have Ls:=af (Rx ((ll.drop k).take 2));have B4:=af (λW (hb:Below w.heap.size w W)=>x6_ (.slice (some ⟨b9,f9+k,none⟩) ((min ((k:Int)+2) ll.length).toNat-k) (dc-k)) ((ll.drop k).take 2) W (by have h1:=nt_ (i:=k) (n:=(min ((k:Int)+2) ll.length).toNat-k) (o':=f9+k) (c':=dc-k) (It.o W hb) ad (.inr rfl);rw [z1_ ll c3] at h1;exact h1));rw [hD] at B4 Ls m_;clear hD;by_cases hle:mn+1+15*y<=4320
   .rw [if_pos hle] at m_;obtain ⟨iC,Hp,Hq,Hr,Hs⟩:=q7a;have uw:=af (And.intro Hp (And.intro Hq (And.intro Hr Hs)));clear Hp Hq Hr Hs;go_wp2_with (first|(go_at_call 42;(refine (B4.o _ mw.o).mono ?_;rintro e w5 ⟨a5,c5,rfl,hmx,GL,hb5⟩;have uF:=af hmx;have bW:=af hb5;have od:=hb5.size;have pD:=gk.o.below hb5;have o5:=pD.cells 0;have o6:=((pD.alloc (.cells #[.slice a5 D.length c5] 57)).cells 0);have o7:=(((pD.alloc (.cells #[.slice a5 D.length c5] 57)).alloc (.cells #[.slice a5 D.length c5,.int .i64 (mn+1+15*y)] 59)).cells 0);have lG:=af pD;clear hmx GL hb5 pD))|(at_builtin;(refine mL aC _ _ _ _ aC iC _ 2 32 Tryz.underlying40 uw.o.1 uw.o.2.1 uw.o.2.2.1 uw.o.2.2.2 rfl aG aG (w.heap.size+4) (.slice va M.length vc) M.length (M.flatMap br.enc) (br.enc ⟨.slice a5 D.length c5,D,mn+1+15*y⟩) rfl aC (HV.o.below mM (Ea (Ea bW.o (.cells #[.slice a5 D.length c5] 57)) (.cells #[.slice a5 D.length c5,.int .i64 (mn+1+15*y)] 59))).row (w5.heap.size+1) 1 aC (vk (ag.at (w:=w5.alloc (.cells #[.slice a5 D.length c5] 57)) (c:=#[.slice a5 D.length c5,.int .i64 (mn+1+15*y)]) (t:=59) aj)) (by simp [br.enc,Value.oneCell']) ad aR ?_);intro v' w9 au aq aI;obtain ⟨na,nc,rfl⟩:=kF au;have gI:∀ q,(Value.slice va M.length vc).ownBlock=some q->w.heap.size+4<=q:=λq e=>(HV.o.row.lt q e).1;have d2:=(((lG.o.alloc (.cells #[.slice a5 D.length c5] 57)).alloc (.cells #[.slice a5 D.length c5,.int .i64 (mn+1+15*y)] 59)).grown aq (λe=>by have:=gI _ e.symm;omega));have g2:=d2.cells 0;have mA:=af d2;have MW:=af (aN.push (y:=⟨.slice a5 D.length c5,D,mn+1+15*y⟩) mM (HV.o.below mM (Ea (Ea bW.o (.cells #[.slice a5 D.length c5] 57)) (.cells #[.slice a5 D.length c5,.int .i64 (mn+1+15*y)] 59))) ⟨(uF.o.ext (Ea (Ea (Er _) _) _)).mono λq hq=>⟨ad,λh=>h,λe=>by have:=(HV.o.row.lt q e).2;omega⟩,by show aS (mn+1+15*y);exact ⟨ad,ad⟩⟩ au aq aI (λh=>h) ad);have fF:=af aq;have jg:=af gI;clear au aq aI d2 gI));go_roundw
    .have fS:World.grownBy w9 (w9.setCell ⟨w.heap.size+1+1+1,0,none⟩ (.slice na (M.length+1) nc)) (some (w.heap.size+1+1+1)):=World.grownBy.set' ⟨rfl,rfl,rfl,TZ _,λ_ _ _=>rfl⟩ _;have lV:W1.grownBy w9 (some (w.heap.size+1+1+1)):=by
      have h1:W1.grownBy ((w5.alloc (.cells #[.slice a5 D.length c5] 57)).alloc (.cells #[.slice a5 D.length c5,.int .i64 (mn+1+15*y)] 59)) (some (w.heap.size+1+1+1)):=World.grownBy.trans' HG.o (World.grownBy.of_below (Ea (Ea bW.o _) _) _);exact ⟨fF.o.os.trans h1.os,fF.o.tape.trans h1.tape,fF.o.output.trans h1.output,NN h1.size fF.o.size,λq hq hne=>(fF.o.block q (N6 hq h1.size) (λe=>by have:=jg.o q e.symm;omega)).trans (h1.block q hq hne)⟩
     exact ⟨k+1,.slice na (M.length+1) nc,M ++ [⟨.slice a5 D.length c5,D,mn+1+15*y⟩],mn+1+15*y,ad,ad,ad,by go_num,rfl,IK,af (by rw [UZ,HM.o,m_.o];rfl),aR,af (MW.o.low mM fS ad),af (bE 0 _ mA.o),af (World.grownBy.trans' lV fS)⟩
    simp [intOf];omega
   rw [if_neg hle,Q4] at m_;go_wp2_with (go_at_call 42;(refine (B4.o _ mw.o).mono ?_;rintro e w5 ⟨a5,c5,rfl,hmx,GL,hb5⟩;have bW:=af hb5;clear hmx GL hb5));go_roundw
   .exact ⟨k+1,.slice va M.length vc,M,mn+1+15*y,ad,ad,ad,by go_num,rfl,IK,af (by rw [HM.o,m_.o]),ad,af (HV.o.below mM (Ea bW.o _)),af ((gk.o.below bW.o).alloc _),af (World.grownBy.trans' HG.o (World.grownBy.of_below (Ea bW.o _) _))⟩
   simp [intOf];omega
  have iD:Hid (Z0 ll ml LN w W1 wk):=af ⟨_,M,by rw [HM.o,LEAVE.o hA],HV.o,gk.o,HG.o⟩;by_cases c1:k<ml.length
  .have EW:(k:Int)<ml.length:=ad;by_cases c2:k<3
   .have I4:(k:Int)<3:=ad;have c3I:¬ (k:Int)<ll.length:=ad;go_wp2_with fail
    go_meet
    exact iD
   have I4:¬ (k:Int)<3:=ad;go_wp2_with fail
   go_meet
   exact iD
  have EW:¬ (k:Int)<ml.length:=ad;go_wp2_with fail
  go_meet
  exact iD
 case rest=>
  obtain ⟨v,M,hM,hV,hO,hG⟩:=hcut.o;obtain ⟨va,vc,rfl,-⟩:=hV.form;have HM:=af hM;have HV0:=af hV;have Ej:=af hO;have HG0:=af hG;have q3m:=kz.o;clear hcut hM hV hO hG;go_wp2;go_loopw [7,8] (λiv _ wr=>∃ (k:Nat) (xv:Value) (xl:List ai),k<=4/\k<=el.length/\iv=.int .i64 k/\xl.length<=k/\Hid (xl=extF (el.take k))/\Hid (bZ wr (λb=>w.heap.size+4<=b) xv xl)/\Hid (rq (w.heap.size+4) (λ_=>False) wr (.slice va M.length vc) M)/\Hid (ag wr (w.heap.size+1+1+1) #[.slice va M.length vc,.int .i64 LN,xv] 43)/\Hid (W1.grownBy wr (some (w.heap.size+1+1+1)))) (λiv _ _=>4-(intOf iv).toNat)
  .exact ⟨0,.slice none 0 0,[],ad,ad,rfl,aj,af rfl,af ⟨⟨none,0,rfl,aj,ad,.inl rfl⟩,aj,aj⟩,HV0,Ej,HG0⟩
  obtain ⟨k,xv,xl,hk4,hke,rfl,hxk,IY,HX,HV,gk,HG⟩:=hrel;obtain ⟨wk,nZ⟩:∃ x,x=wr:=⟨_,rfl⟩;subst nZ;obtain ⟨xa,xc,rfl⟩:=HX.o.form;have Vi:=HG.o.size;have mw:Hid (Below w.heap.size w wk):=af (KB.o.grown HG.o KB.o.size λq e=>by injection e with e;omega);have J1:=mw.o.size;have jq:ag wk w.heap.size #[.slice da ll.length dc,.slice ma ml.length mc,.int .u8 ln,.slice ea el.length ec] 27:=(HG.o.block _ ad (by intro e;injection e with e;omega)).trans K0.o;have x3:=(jq.cells 3).1;clear jq;by_cases hA:k<el.length/\k<4
  .obtain ⟨c1,c2⟩:=hA;have EW:(k:Int)<el.length:=ad;have I4:(k:Int)<4:=ad;obtain ⟨⟨a',Uo,he',hcl⟩,_,_⟩:=HR.o.ext.ext mw.o;injection he' with e1 _ e2
   subst e1;subst e2;rcases hcl with hcl|⟨b8,f8,rfl,hcl⟩
   .rw [hcl] at c1;simp at c1
   have z0:=hcl k c1;have wH:=DG.o _ (dI (d:=0) c1);have ij:Hid (el.take (k+1)=el.take k ++ [el.getD k 0]):=af (by rw [LF c1,VS,U2 c1];rfl);obtain ⟨y,hy⟩:∃ y,el.getD k 0=y:=⟨_,rfl⟩;rw [hy] at z0 wH ij;clear hcl hy;obtain ⟨y1,y2⟩:=wH;obtain ⟨d,hd⟩:∃ d,y % 7=d:=⟨_,rfl⟩;obtain ⟨q,hq⟩:∃ q,y / 5760=q:=⟨_,rfl⟩;obtain ⟨m5,QS⟩:∃ m,y % 5760=m:=⟨_,rfl⟩;obtain ⟨fr,hfr⟩:∃ fr,15*m5-2880=fr:=⟨_,rfl⟩;have Kc:y.tmod 7=d:=by rw [NY y1];exact hd
   have htq:y.tdiv 5760=q:=by rw [DL y1];exact hq
   have kt:y.tmod 5760=m5:=by rw [NY y1];exact QS
   have AT:0<=d/\d<7:=ad;have eD:0<=q/\q<=11:=ad;have J3:0<=m5/\m5<5760:=ad;have hfb:-2880<=fr/\fr<=83505:=ad;obtain ⟨d1,d2⟩:=AT;obtain ⟨q1,q2⟩:=eD;obtain ⟨m1,m2⟩:=J3;obtain ⟨fr1,fr2⟩:=hfb;have xo:Hid (g_ y=⟨d,fr,fr+15*(1+q*7)⟩):=af (by unfold g_;rw [hd,hq,QS,hfr]);obtain ⟨XL,JO⟩:∃ XL,dG xl ⟨d,fr,fr+15*(1+q*7)⟩=XL:=⟨_,rfl⟩;have IZ:=af JO;have hlx:XL.length<=k+1:=by rw [<- JO];have:=YC (l:=xl) (x:=⟨d,fr,fr+15*(1+q*7)⟩);omega
   have dq:=af (λW (hb:Below wk.heap.size wk W)=>te_ (w.heap.size+4) (.slice xa xl.length xc) xl ⟨d,fr,fr+15*(1+q*7)⟩ W (HX.o.ext hb) ⟨by constructor <;> (show _<=_;simp only;omega),by constructor <;> (show _<=_;simp only;omega),by constructor <;> (show _<=_;simp only;omega)⟩ ad (by have:=hb.size;omega));rw [JO] at dq;have o2:=(gk.o.cells 2).1;have HFR:=af hfr;clear hd hq QS JO;go_upto_region 14 with (fail)
   refine oz (w0:=wk) [0,1,2,3,4,5,6,7,8,9,10,11,12,13,14,15,16,17,18,19,20,21,22,23,24,25] [26] (λv=>⟨#[.agg #[.slice da ll.length dc,.slice ma ml.length mc,Value.int IntKind.u8 ln,.slice (some ⟨b8,f8,none⟩) el.length ec],.pointer (some ⟨w.heap.size,0,none⟩),.pointer (some ⟨w.heap.size+1,0,none⟩),.pointer (some ⟨w.heap.size+1+1+1,0,none⟩),u4,u5,u6,.int .i64 ↑k,.int .i64 fr,.slice (some ⟨w.heap.size+1+1,0,none⟩) 8 8,.pointer (some ⟨w.heap.size,2,none⟩),Value.int IntKind.u8 ln,Value.int IntKind.u8 r,.pointer (some ⟨w.heap.size+1+1,r.toNat,none⟩),.int .i64 LN,.agg #[.slice none 0 0,.int .i64 LN,.slice none 0 0],u16,u17,u18,u19,u20,u21,u22,u23,u24,u25,u26,u27,u28,u29,u30,u31,u32,u33,u34,u35,u36,u37,u38,u39,u40,u41,u42,u43,u44,u45,u46,u47,u48,u49,u50,u51,u52,u53,u54,u55,u56,u57,u58,u59,u60,u61,u62,u63,u64,.int .i64 ↑k,.pointer (some ⟨w.heap.size,3,none⟩),.slice (some ⟨b8,f8,none⟩) el.length ec,.int .i64 ↑el.length,.bool true,.bool true,.int .i64 ↑k,.bool true,.bool true,u74,u75,.pointer (some ⟨w.heap.size,3,none⟩),.slice (some ⟨b8,f8,none⟩) el.length ec,.int .i64 ↑k,.pointer (some ⟨b8,f8+k,none⟩),Value.int IntKind.u16 y,Value.int IntKind.u16 m5,.int .i64 m5,.int .i64 (15*m5),.int .i64 fr,v 0,v 1,v 2,v 3,v 4,v 5,v 6,v 7,v 8,v 9,v 10,v 11,v 12,v 13,v 14,v 15,v 16,v 17,v 18,v 19,v 20,v 21,v 22,v 23,v 24,v 25,undef],[]⟩) [.pointer (some ⟨w.heap.size+1+1+1,2,none⟩),.slice xa xl.length xc,.pointer (some ⟨w.heap.size,3,none⟩),.slice (some ⟨b8,f8,none⟩) el.length ec,.int .i64 k,.pointer (some ⟨b8,f8+k,none⟩),.int .u16 y,.int .i64 y,.int .i64 d,.int .i64 fr,.int .i64 fr,.pointer (some ⟨w.heap.size,3,none⟩),.slice (some ⟨b8,f8,none⟩) el.length ec,.int .i64 k,.pointer (some ⟨b8,f8+k,none⟩),.int .u16 y,.int .i64 y,.int .i64 q,.int .i64 (q*7),.int .i64 (1+q*7),.int .i64 (15*(1+q*7)),.int .i64 (fr+15*(1+q*7)),.agg #[.int .i64 fr,.int .i64 (fr+15*(1+q*7))],.agg #[.int .i64 d,.int .i64 fr,.int .i64 (fr+15*(1+q*7))],undef,.pointer (some ⟨w.heap.size+1+1+1,2,none⟩)] [24] (λi v lo hi W=>match i with|24=>∃ a c,v 24=.slice a XL.length c/\bZ W (λb=>w.heap.size+4<=b) (v 24) XL|_=>True) (λW=>W.cell? ⟨w.heap.size+1+1+1,2,none⟩=some (.slice xa xl.length xc)/\W.cell? ⟨w.heap.size,3,none⟩=some (.slice (some ⟨b8,f8,none⟩) el.length ec)/\W.cell? ⟨b8,f8+k,none⟩=some (Value.int .u16 y)) (λW hb=>⟨an.cell hb o2,an.cell hb x3,an.cell hb z0⟩) ?stab14 ?loc14 ?steps14 ?fin14 (λj=>match j with|0=>u85|1=>u86|2=>u87|3=>u88|4=>u89|5=>u90|6=>u91|7=>u92|8=>u93|9=>u94|10=>u95|11=>u96|12=>u97|13=>u98|14=>u99|15=>u100|16=>u101|17=>u102|18=>u103|19=>u104|20=>u105|21=>u106|22=>u107|23=>u108|24=>u109|25=>u110|_=>undef)
   case stab14=>
    refine ⟨?_,trivial⟩;intro v lo hi W W' h hb;exact (let ⟨a,c,e,h⟩:=h;⟨a,c,e,h.ext hb⟩)
   case loc14=>
    refine ⟨?_,trivial⟩;intro v v' lo lo' hi hi' W aA h;have q:=aA 24 (.inl rfl)
    (try dsimp only at h ⊢)
    simp only [q.1,q.2.1,q.2.2] at h;exact h
   case steps14=>
    refine .c [] [] rfl ?_ (.c [0] [] rfl ?_ (.c [] [] rfl ?_ (.c [2] [] rfl ?_ (.c [] [] rfl ?_ (.c [3,4] [] rfl ?_ (.c [5] [] rfl ?_ (.c [6] [] rfl ?_ (.c [7] [] rfl ?_ (.c [] [] rfl ?_ (.c [] [] rfl ?_ (.c [] [] rfl ?_ (.c [11] [] rfl ?_ (.c [] [] rfl ?_ (.c [12,13] [] rfl ?_ (.c [14] [] rfl ?_ (.c [15] [] rfl ?_ (.c [16] [] rfl ?_ (.c [17] [] rfl ?_ (.c [18] [] rfl ?_ (.c [19] [] rfl ?_ (.c [10,20] [] rfl ?_ (.c [9,21] [] rfl ?_ (.c [8,22] [] rfl ?_ (.c [1,23] [] rfl ?_ (.c [] [] rfl ?_ (.n))))))))))))))))))))))))));all_goals try exact oh
    rintro v lo hi W hb ⟨g0,g1,g2⟩ _;refine .inl ⟨rfl,λK hK=>?_⟩;simp only [ov,aD,Nat.reduceBEq,cond_true,cond_false];go_wp2_with (go_at_call 43;(with_reducible refine (dq.o _ hb).mono ?_);rintro e w9 ⟨a9,c9,rfl,nT,bg⟩);exact aQ (hK (.slice a9 XL.length c9) w9 bg ⟨a9,c9,rfl,nT⟩) (by simp [ov,aD,upd])
   case fin14=>
    rintro v lo hi W6 bG ⟨g0,g1,g2⟩ hf hap;show wpList _ _ _ [_] _ _;obtain ⟨-,-,-,a9,c9,OP,Rq⟩:=hf 24 rfl;have Us:v 25=.pointer (some ⟨w.heap.size+1+1+1,2,none⟩):=(hf 25 rfl).2.2.2;clear hf hap;dsimp only;rw [OP,Us];rw [OP] at Rq;have Be:=gk.o.below bG;have o6:=Be.cells 2;have Ek:=af Be;have HX9:=af Rq;have bR:=af bG;have BD:=bG.size;clear g0 g1 g2 o2 x3 z0 bG Be Rq OP Us;generalize v 0=z0,v 1=z1,v 2=z2,v 3=z3,v 4=z4,v 5=z5,v 6=z6,v 7=z7,v 8=z8,v 9=z9,v 10=yP,v 11=yQ,v 12=z12,v 13=S_,v 14=Ta,v 15=K5,v 16=Tb,v 17=z17,v 18=Tc,v 19=Td,v 20=z20,v 21=z21,v 22=z22,v 23=z23;go_wp2;go_roundw
    .have fS:World.grownBy W6 (W6.setCell ⟨w.heap.size+1+1+1,2,none⟩ (.slice a9 XL.length c9)) (some (w.heap.size+1+1+1)):=World.grownBy.set' ⟨rfl,rfl,rfl,TZ _,λ_ _ _=>rfl⟩ _;exact ⟨k+1,.slice a9 XL.length c9,XL,ad,ad,by go_num,ad,af (by rw [ij.o,v9_,xo.o,<- IY.o,IZ.o]),af (HX9.o.keep (aP.grown fS ad) fS.size),af ((HV.o.below mM bR.o).low mM fS ad),af (bE 2 _ Ek.o),af (World.grownBy.trans' (World.grownBy.trans' HG.o (World.grownBy.of_below bR.o _)) fS)⟩
    simp [intOf];omega
  have BV:Hid (xl=extF (el.take 4)):=af (by
   rw [IY.o];by_cases h4:k=4
   .rw [h4]
   rw [PM (show el.length<=k by omega),PM (show el.length<=4 by omega)])
  have dF:M.length=(eY ll ml (min 3 (min ml.length ll.length))).length:=by rw [<- HM.o,U6]
  have lF:=af dF;have xo:Hid (xl.length=(extF (el.take 4)).length):=af (by rw [<- BV.o]);have hr1:ag wk (w.heap.size+1) #[.slice none 0 0,.int .i64 0,.slice none 0 0] 43:=(HG.o.block _ ad (by intro e;injection e with e;omega)).trans K1.o;have pX:=af hr1;have j0:=hr1.cells 0;have j1:=hr1.cells 1;have j2:=hr1.cells 2;have t0:=(gk.o.cells 0).1;have t1:=(gk.o.cells 1).1;have t2:=(gk.o.cells 2).1;clear dF hr1;have q2l:∀ (ts:Array Value),True:=λ_=>trivial;clear q2l;by_cases c1:k<el.length
  .have EW:(k:Int)<el.length:=ad;have I4:¬ (k:Int)<4:=ad;go_wp2_with fail;have aM:=xK (x':=.slice va M.length vc) (y':=.int .i64 LN) (z':=.slice xa xl.length xc) pX.o;have s0:=(aM.cells 0).1;have s1:=(aM.cells 1).1;have s2:=(aM.cells 2).1;have kh:=mw.o;have fS:World.grownBy wk (((wk.setCell ⟨w.heap.size+1,0,none⟩ (.slice va M.length vc)).setCell ⟨w.heap.size+1,1,none⟩ (.int .i64 LN)).setCell ⟨w.heap.size+1,2,none⟩ (.slice xa xl.length xc)) (some (w.heap.size+1)):=World.grownBy.set' (World.grownBy.set' (World.grownBy.set' ⟨rfl,rfl,rfl,TZ _,λ_ _ _=>rfl⟩ _) _) _;have hst:bq _ (λb=>w.heap.size<=b) (.slice va M.length vc) (.slice xa xl.length xc) (Ik ll ml ln el):=⟨M,HM.o,(HV.o.low mM fS ad).clsL.mono λb h=>by have:=h.1;omega,by
    have h1:=(HX.o.keep (aP.grown fS ad) fS.size).mono (G:=λb=>w.heap.size<=b) λb h=>ad;rw [BV.o] at h1 ⊢;exact h1,by show aS (jb ln);rw [eU.o];exact ⟨ad,ad⟩⟩
   refine VN (v:=.agg #[.slice va M.length vc,.int .i64 LN,.slice xa xl.length xc]) (by simp [results,Tryz.results17,go_sem,s0,s1,s2]) rfl ?_;rw [lF.o,xo.o] at hst ⊢;exact ⟨va,vc,xa,xc,by rw [<- eU.o];rfl,hst.lt,xE⟩
  have EW:¬ (k:Int)<el.length:=ad;go_wp2_with fail;have aM:=xK (x':=.slice va M.length vc) (y':=.int .i64 LN) (z':=.slice xa xl.length xc) pX.o;have s0:=(aM.cells 0).1;have s1:=(aM.cells 1).1;have s2:=(aM.cells 2).1;have kh:=mw.o;have fS:World.grownBy wk (((wk.setCell ⟨w.heap.size+1,0,none⟩ (.slice va M.length vc)).setCell ⟨w.heap.size+1,1,none⟩ (.int .i64 LN)).setCell ⟨w.heap.size+1,2,none⟩ (.slice xa xl.length xc)) (some (w.heap.size+1)):=World.grownBy.set' (World.grownBy.set' (World.grownBy.set' ⟨rfl,rfl,rfl,TZ _,λ_ _ _=>rfl⟩ _) _) _;have hst:bq _ (λb=>w.heap.size<=b) (.slice va M.length vc) (.slice xa xl.length xc) (Ik ll ml ln el):=⟨M,HM.o,(HV.o.low mM fS ad).clsL.mono λb h=>by have:=h.1;omega,by
   have h1:=(HX.o.keep (aP.grown fS ad) fS.size).mono (G:=λb=>w.heap.size<=b) λb h=>ad;rw [BV.o] at h1 ⊢;exact h1,by show aS (jb ln);rw [eU.o];exact ⟨ad,ad⟩⟩
  refine VN (v:=.agg #[.slice va M.length vc,.int .i64 LN,.slice xa xl.length xc]) (by simp [results,Tryz.results17,go_sem,s0,s1,s2]) rfl ?_;rw [lF.o,xo.o] at hst ⊢;exact ⟨va,vc,xa,xc,by rw [<- eU.o];rfl,hst.lt,xE⟩
end
end Go.Proofs.YtbmgmlbmgogeaaaGreat
namespace Kal
section
theorem jk.nil:jk [] f 0 ⟨0,0,0⟩ false:=.inr ⟨rfl,rfl,rfl,aj⟩
theorem jk.skip {L:IL} {x:ai} {j:Int} {s:aE} {y:ai} (h:jk L f i x b) (hn:ez (iN s) f y false):jk (L ++ [(j,s)]) f i x b:=by
 have no:∀ z,¬ ez (iN s) f z true:=λz hz=>by have:=(hn.unique hz).2;cases this
 rcases h with ⟨rfl,t,h1,h2,h3⟩|⟨rfl,rfl,rfl,h1⟩
 .refine .inl ⟨rfl,t,MK _ h1,h2,λk u z hk hz=>?_⟩;rcases VJ.1 hk with hk|hk
  .exact h3 k u z hk hz
  obtain ⟨rfl,rfl⟩:k=j/\u=s:=by simpa using hk
  exact absurd hz (no z)
 refine .inr ⟨rfl,rfl,rfl,λk u z hk=>?_⟩;rcases VJ.1 hk with hk|hk
 .exact h1 k u z hk
 obtain ⟨rfl,rfl⟩:k=j/\u=s:=by simpa using hk
 exact no z
theorem jk.take {L:IL} {x:ai} {j:Int} {s:aE} {y:ai} (h:jk L f i x b) (hn:ez (iN s) f y true) (hb:b=false\/bo y x):jk (L ++ [(j,s)]) f j y true:=by
 refine .inl ⟨rfl,s,aj,hn,λk u z hk hz=>?_⟩;rcases VJ.1 hk with hk|hk
 .rcases h with ⟨rfl,t,h1,h2,h3⟩|⟨rfl,rfl,rfl,h1⟩
  .rcases hb with hb|hb
   .cases hb
   have h4:=(h3 k u z hk hz).1;refine ⟨λh5=>h4 (h5.trans hb),λ_=>?_⟩;rcases bo.tri z x with h6|h6|h6
   .exact absurd h6 h4
   .subst h6;exact hb
   exact hb.trans h6
  exact absurd hz (h1 k u z hk)
 obtain ⟨rfl,rfl⟩:k=j/\u=s:=by simpa using hk
 obtain ⟨rfl,_⟩:=hn.unique hz;exact ⟨bo.irrefl,λh=>ad⟩
theorem jk.pass {L:IL} {x:ai} {j:Int} {s:aE} {y:ai} (h:jk L f i x b) (hn:ez (iN s) f y true) (hb:b=true/\¬ bo y x) (hj:∀ k∈ids L,k<j):jk (L ++ [(j,s)]) f i x b:=by
 obtain ⟨rfl,hb⟩:=hb;rcases h with ⟨_,t,h1,h2,h3⟩|⟨h,_⟩
 .refine .inl ⟨rfl,t,MK _ h1,h2,λk u z hk hz=>?_⟩;rcases VJ.1 hk with hk|hk
  .exact h3 k u z hk hz
  obtain ⟨rfl,rfl⟩:k=j/\u=s:=by simpa using hk
  obtain ⟨rfl,_⟩:=hn.unique hz;exact ⟨hb,λh=>by have:=hj i (VC.2 ⟨_,h1,rfl⟩);omega⟩
 cases h
theorem jk.pos {L:IL} {x:ai} (h:jk L f i x b) (hL:∀ k∈ids L,1<=k):(b=true->1<=i)/\(b=false->i=0):=by
 rcases h with ⟨rfl,t,h1,_⟩|⟨rfl,rfl,_⟩
 .exact ⟨λ_=>hL i (VC.2 ⟨_,h1,rfl⟩),λh=>by cases h⟩
 exact ⟨λh=>(by cases h),λ_=>rfl⟩
end
end Kal
namespace Go.Proofs.YtbmgmlbmgogeaaaGreat
section
open Go.RowKit Go.Maps Kal
def x5_ (L:IL) (f:Int) (w:World) (e:Ending) (w':World):Prop:=∃ i x b,e=.returned (.tuple #[.int .i64 i,bQ x,.bool b])/\jk L f i x b/\Below w.heap.size w w'
structure Uk (L:IL) (f:Int) (w:World) (k:Nat) (i:Int) (W:World):Prop where
 ex:∃ x b,jk (L.take k) f i x b/\ag W (w.heap.size+1) #[.int .i64 x.day,.int .i64 x.frm,.int .i64 x.fin] 46
 rbx:ag W w.heap.size #[.int .i64 0,.int .i64 0,.int .i64 0] 46
 below:Below w.heap.size w W
theorem df.lookv {b:Nat} {E:List (Int × Value)} (h:df w b n E) (hi:aS i) (hv:(i,v)∈E):(Instr.lookup 96 (.map (some b)) (.int .i64 i) false).run Tryz.prog w=.ok v w:=by
 rcases h.look hi with ⟨u,hu,_,hrun⟩|⟨hn,_⟩
 .obtain ⟨D,hown,hD⟩:=h;have e1:=hD.val i v hv .nil;rw [hD.val i u hu .nil] at e1;injection e1 with e1
  subst e1;exact hrun
 exact absurd (VC.2 ⟨_,hv,rfl⟩) hn
theorem Wz (u:bC) (W:World):(Instr.field 95 (.agg #[.slice u.a1 u.n1 u.c1,.int .i64 u.len,.slice u.a2 u.n2 u.c2,.bool (u.g 0),.bool (u.g 1),.bool (u.g 2),.bool (u.g 3),.bool (u.g 4),.bool (u.g 5),.bool (u.g 6)]) 0).run Tryz.prog W=.ok (.agg #[.slice u.a1 u.n1 u.c1,.int .i64 u.len,.slice u.a2 u.n2 u.c2]) W:=by
 first|kernel_rfl|rfl|simp [go_sem]
theorem Za {q r:Nat} {x1 x2 x3 y1 y2 y3:Value} {c:Array Value} {t t':TypeId} (hx:ag W q #[x1,x2,x3] t) (hr:ag W r c t') (hne:r≠q) (ho:al W (q+1) v l) (hb:Below B w W) (hB:B<=q) :
  ag (((W.setCell ⟨q,0,none⟩ y1).setCell ⟨q,1,none⟩ y2).setCell ⟨q,2,none⟩ y3) q #[y1,y2,y3] t/\ag (((W.setCell ⟨q,0,none⟩ y1).setCell ⟨q,1,none⟩ y2).setCell ⟨q,2,none⟩ y3) r c t'/\al (((W.setCell ⟨q,0,none⟩ y1).setCell ⟨q,1,none⟩ y2).setCell ⟨q,2,none⟩ y3) (q+1) v l/\Below B w (((W.setCell ⟨q,0,none⟩ y1).setCell ⟨q,1,none⟩ y2).setCell ⟨q,2,none⟩ y3):=by
 have hg:World.grownBy W (((W.setCell ⟨q,0,none⟩ y1).setCell ⟨q,1,none⟩ y2).setCell ⟨q,2,none⟩ y3) (some q):=World.grownBy.set' (World.grownBy.set' (World.grownBy.set' ⟨rfl,rfl,rfl,TZ _,λ_ _ _=>rfl⟩ _) _) _;refine ⟨xK hx,((hr.setNe _ hne).setNe _ hne).setNe _ hne,ho.kept hg ?_,hb.grown hg (by have:=hx.lt;omega) λk e=>by injection e with e;omega⟩;rcases hq:v.ownBlock with _|k
 .exact .inl rfl
 exact .inr λe=>by have:=(ho.lt k hq).1;injection e with e;omega
theorem Sm {p b:Nat} {G:Nat->Prop} {E:List (Int × bC)} {L:IL} (h:fy W p b n G E L) (hk:k<E.length) :
  ∃ id u s,(E.map Prod.fst).getD k 0=id/\L.take (k+1)=L.take k ++ [(id,s)]/\tz W G u s/\aS id/\1<=id/\(∀ j∈ids (L.take k),j<id)/\(Instr.lookup 96 (.map (some b)) (.int .i64 id) false).run Tryz.prog W=.ok u.val W/\(id,u)∈E:=by
 obtain ⟨⟨id,u⟩,hx⟩:∃ x,E[k]? = some x:=⟨_,U2 hk⟩;have hmem:(id,u)∈E:=LH hx;obtain ⟨h1,h2,s,h3,h4⟩:=h.ent id u hmem;have vK:E.length=L.length:=by have:=congrArg List.length h.ids;simpa [ids] using this
 have CT:k<L.length:=ad;have e1:(E.map Prod.fst)[k]? = some id:=by rw [OA,hx];rfl
 have e2:(L[k]).1=id:=by
  rw [h.ids] at e1;unfold ids at e1;rw [OA,U2 CT] at e1;simpa using e1
 have e3:L[k]=(id,s):=WM h.asc (NS CT) h3 e2;refine ⟨id,u,s,by rw [VS,e1];rfl,by rw [LF CT,e3],h4,h1,h2,?_,h.map.lookv h1 (VC.2 ⟨_,hmem,rfl⟩),hmem⟩;intro j hj;have hp:=h.asc;unfold je at hp;have hsp:ids L=ids (L.take k) ++ ids (L.drop k):=by unfold ids;rw [<- UZ,S0]
 rw [hsp,N9] at hp;refine hp.2.2 j hj id ?_;have:L.drop k=L[k] :: L.drop (k+1):=GE CT;rw [this,e3];simp [ids]
theorem RH (p b n:Nat) (G:Nat->Prop) (E:List (Int × bC)) (L:IL) (f:Int) (w:World) (h:fy w p b n G E L) (hf:aS f) :
  Calls Tryz.prog 19 #[.pointer (some ⟨p,0,none⟩),.int .i64 f] w (x5_ L f w):=by
 have hpl:=h.box.lt;have hbl:=h.map.lt;have HI:=af h;have HF:=af hf;have re:=af (λW (hb:Below w.heap.size w W)=>Jf p b n (E.map dT) W (h.ext hb).box (h.ext hb).map h.sorted h.num);have vK:E.length=L.length:=by have:=congrArg List.length h.ids;simpa [ids] using this
 have DE:=af vK;obtain ⟨f1,f2⟩:=hf;clear h vK
 go_in
 go_wp2_with (go_at_call 36;refine (re.o _ xE).mono ?_;rintro e w1 ⟨a,c,rfl,ho,hb1⟩;have HO:=af ho;have bm:=af hb1;have hw1:=hb1.size;simp only [U7] at hw1;clear ho hb1)
 have eO:Below w.heap.size w w1:=Et xE bm.o;have hz0:w.heap.size+1<w1.heap.size:=ad;have hB0:ag w1 w.heap.size #[.int .i64 0,.int .i64 0,.int .i64 0] 46:=ag.below ((ag.at rfl).alloc _) bm.o;have hB1:ag w1 (w.heap.size+1) #[.int .i64 0,.int .i64 0,.int .i64 0] 46:=ag.below (ag.at aj) bm.o;have pY:Hid (Uk L f w 0 0 w1):=af ⟨⟨⟨0,0,0⟩,false,jk.nil,hB1⟩,hB0,eO⟩;have gj:=af eO;have HOW:Hid (al w1 (w.heap.size+1+1) (.slice a E.length c) (E.map Prod.fst)):=af (by have:=HO.o.mono (base':=w.heap.size+1+1) aj;rw [xH,U6] at this;exact this);clear hB0 hB1 eO;go_loopw [7,10,11,12,17] (λv7 _ _ _ vi wr=>∃ (k:Nat) (i:Int),k<=E.length/\vi=.int .i64 k/\v7=.int .i64 i/\Hid (Uk L f w k i wr)/\Hid (al wr (w.heap.size+1+1) (.slice a E.length c) (E.map Prod.fst))) (λ_ _ _ _ vi _=>E.length-(intOf vi).toNat)
 .exact ⟨0,0,ad,rfl,rfl,pY,HOW⟩
 obtain ⟨k,i,hk,rfl,rfl,HS,bL⟩:=hrel;have Ho:w.heap.size+1<wr.heap.size:=by obtain ⟨_,_,_,hq⟩:=HS.o.ex;exact hq.lt
 have hlen:E.length<=17592186044416:=by have:=bL.o.len;simpa using this
 by_cases hlt:k<E.length
 .have cP:(k:Int)<E.length:=ad;have hI:=HI.o.ext HS.o.below;obtain ⟨id,u,s,g1,g2,g3,g4,g5,g6,g7,-⟩:=Sm hI hlt;have q0:=(hI.box.cells 0).1;obtain ⟨x,bb,cz,hxb⟩:=HS.o.ex;obtain ⟨⟨a',c',he,_,_,hcl⟩,_,_⟩:=bL.o.ints;injection he with e1 e2 e3
  rcases hcl with hcl|⟨b8,f8,xW,hcl⟩
  .exfalso;have:=congrArg List.length hcl;simp at this;rw [this] at hlt;simp at hlt
  have c0:wr.cell? ⟨b8,f8+k,none⟩=some (.int .i64 id):=by rw [hcl k (by simpa using hlt),g1]
  rw [xW] at e1;subst e1;obtain ⟨ua,un,uc,ul,va,vn,vc,ug⟩:=u;obtain ⟨gs,gl,gm,-⟩:=g3;dsimp only [bC.val] at gs gl g7;subst gl;have bU:=af (show k+1<=E.length by omega);have Qq:=Wz ⟨ua,un,uc,s.len,va,vn,vc,ug⟩ wr;dsimp only at Qq;have fu:=af (λW (hb:Below wr.heap.size wr W)=>XI G _ _ s f W (gs.ext hb) gm HF.o);have yV:=af cz;have tq:=af hxb;have ij:=af g2;have HJ:=af g6;have uO:=af (cz.pos λj hj=>by
   have:j∈ids L:=by unfold ids at *;exact S8 (by rw [Y8] at hj;exact hj)
   rw [<- HI.o.ids] at this;obtain ⟨⟨j',u'⟩,tT,rfl⟩:=VC.1 this;exact (HI.o.ent _ _ tT).2.1)
  have oo:=af HS.o.rbx;clear e2 e3 xW hcl g1 g2 gs gm g6 cz hxb hI;by_cases hi0:i=0
  .subst hi0;have kh:bb=false:=by cases bb with|true=>have:=uO.o.1 rfl;omega|false=>rfl
   subst kh;go_wp2_with (go_at_call 30;(with_reducible refine (fu.o _ (JV _ _)).mono ?_);rintro e w4 ⟨y,cc,rfl,hN,hb4⟩;have HN:=af hN;have cR:=af hb4;have hk4:=hb4.size;have kW:=af ((tq.o.below hb4).alloc (.cells #[.int .i64 y.day,.int .i64 y.frm,.int .i64 y.fin] 46));have z0:=(kW.o.cells 0).1;have z1:=(kW.o.cells 0).2;have z2:=(kW.o.cells 1).1;have z3:=(kW.o.cells 1).2;have z4:=(kW.o.cells 2).1;have z5:=(kW.o.cells 2).2;clear hN hb4;cases cc)
   .go_roundw
    .exact ⟨k+1,0,bU.o,by go_num,rfl,af ⟨⟨x,false,by rw [ij.o];exact yV.o.skip HN.o,kW.o⟩,(oo.o.below cR.o).alloc _,Ea (Et HS.o.below cR.o) _⟩,af (bL.o.ext (Ea cR.o _))⟩
    have:=bU.o;simp [intOf];omega
   skip
   go_region
   all_goals
    go_wp2
    go_roundw
    .have dL:Below w.heap.size w (w4.alloc (.cells #[.int .i64 y.day,.int .i64 y.frm,.int .i64 y.fin] 46)):=Ea (Et HS.o.below cR.o) _;have gx:=kW.o;have hr4:=(oo.o.below cR.o).alloc (.cells #[.int .i64 y.day,.int .i64 y.frm,.int .i64 y.fin] 46);have QZ:=bL.o.ext (Ea cR.o (.cells #[.int .i64 y.day,.int .i64 y.frm,.int .i64 y.fin] 46));obtain ⟨C5,wB,pD,hb5⟩:=Za (y1:=.int .i64 y.day) (y2:=.int .i64 y.frm) (y3:=.int .i64 y.fin) gx hr4 ad QZ dL ad;exact ⟨k+1,id,bU.o,by go_num,rfl,af ⟨⟨y,true,by rw [ij.o];exact yV.o.take HN.o (.inl rfl),C5⟩,wB,hb5.drew⟩,af (pD.ext (Ed (Er _)))⟩
    have:=bU.o;simp [intOf];omega
  go_wp2_with (first|(go_at_call 30;(with_reducible refine (fu.o _ (JV _ _)).mono ?_);rintro e w4 ⟨y,cc,rfl,hN,hb4⟩;have HN:=af hN;have cR:=af hb4;have hk4:=hb4.size;have kW:=af ((tq.o.below hb4).alloc (.cells #[.int .i64 y.day,.int .i64 y.frm,.int .i64 y.fin] 46));have z0:=(kW.o.cells 0).1;have z2:=(kW.o.cells 1).1;have z4:=(kW.o.cells 2).1;clear hN hb4;cases cc)|(go_at_call 46;(with_reducible refine (t9_ y x _).mono ?_);rintro e w6 ⟨B,rfl,hB,bG⟩;have fQ:=af hB;have bR:=af bG;have uT:=af (kW.o.below bG);clear z0 z2 z4 hB bG;have z0:=(uT.o.cells 0).1;have z1:=(uT.o.cells 0).2;have z2:=(uT.o.cells 1).1;have z3:=(uT.o.cells 1).2;have z4:=(uT.o.cells 2).1;have z5:=(uT.o.cells 2).2;have hyb:ag (w4.alloc (.cells #[.int .i64 y.day,.int .i64 y.frm,.int .i64 y.fin] 46)) w4.heap.size #[.int .i64 y.day,.int .i64 y.frm,.int .i64 y.fin] 46:=ag.at rfl;have y0:=((hyb.below bR.o).cells 0).1;have y1:=((hyb.below bR.o).cells 1).1;have y2:=((hyb.below bR.o).cells 2).1;clear hyb;cases B))
  .go_roundw
   .exact ⟨k+1,i,bU.o,by go_num,rfl,af ⟨⟨x,bb,by rw [ij.o];exact yV.o.skip HN.o,kW.o⟩,(oo.o.below cR.o).alloc _,Ea (Et HS.o.below cR.o) _⟩,af (bL.o.ext (Ea cR.o _))⟩
   have:=bU.o;simp [intOf];omega
  .go_roundw
   .have Ga:bb=true:=by cases bb with|true=>rfl|false=>exact absurd (uO.o.2 aj) hi0
    exact ⟨k+1,i,bU.o,by go_num,rfl,af ⟨⟨x,bb,by rw [ij.o];exact yV.o.pass HN.o ⟨Ga,λh=>by have:=fQ.o.2 h;simp at this⟩ HJ.o,uT.o⟩,oo.o.below (Et (Ea cR.o _) bR.o),Et HS.o.below (Et (Ea cR.o _) bR.o)⟩,af (bL.o.ext (Et (Ea cR.o _) bR.o))⟩
   have:=bU.o;simp [intOf];omega
  skip
  go_region
  all_goals
   go_wp2
   go_roundw
   .have dL:Below w.heap.size w w6:=Et HS.o.below (Et (Ea cR.o _) bR.o);have gx:=tq.o.below (Et (Ea cR.o _) bR.o);have hr4:=oo.o.below (Et (Ea cR.o _) bR.o);have QZ:=bL.o.ext (Et (Ea cR.o _) bR.o);obtain ⟨C5,wB,pD,hb5⟩:=Za (y1:=.int .i64 y.day) (y2:=.int .i64 y.frm) (y3:=.int .i64 y.fin) gx hr4 ad QZ dL ad;exact ⟨k+1,id,bU.o,by go_num,rfl,af ⟨⟨y,true,by rw [ij.o];exact yV.o.take HN.o (.inr (fQ.o.1 aj)),C5⟩,wB,hb5.drew⟩,af (pD.ext (Ed (Er _)))⟩
   have:=bU.o;simp [intOf];omega
 obtain rfl:k=E.length:=ad;have IZ:=HS.o.ex;obtain ⟨x,bb,cz,hxb⟩:=IZ;have eu:=HS.o.rbx;have tq:=af hxb;have oo:=af eu;have x0:=(hxb.cells 0).1;have x1:=(hxb.cells 1).1;have x2:=(hxb.cells 2).1;have y0:=(eu.cells 0).1;have y1:=(eu.cells 1).1;have y2:=(eu.cells 2).1;have j0:=(eu.cells 0).2;have j1:=(eu.cells 1).2;have j2:=(eu.cells 2).2;have ep:=cz.pos λj hj=>by
  have:j∈ids L:=by unfold ids at *;exact S8 (by rw [Y8] at hj;exact hj)
  rw [<- HI.o.ids] at this;obtain ⟨⟨j',u'⟩,tT,rfl⟩:=VC.1 this;exact (HI.o.ent _ _ tT).2.1
 have hdec:decide (0<i)=bb:=by
  cases bb with
  | true=>exact PH (by have:=ep.1 rfl;omega)
  | false=>exact P9 (by have:=ep.2 rfl;omega)
 have Lq:=af hdec;rw [PM (by rw [DE.o];exact TZ _)] at cz;have yV:=af cz;clear cz hxb eu ep hdec;have fg:¬ (E.length:Int)<E.length:=ad;go_wp2_with fail
 go_region
 all_goals
  go_wp2_with fail
  have c0:ag _ _ _ 46:=bE 0 (.int .i64 x.day) oo.o;have c1:ag _ _ _ 46:=bE 1 (.int .i64 x.frm) c0;have c2:ag _ _ _ 46:=bE 2 (.int .i64 x.fin) c1;have s0:=(c0.cells 0).1;have s1:=(c1.cells 1).1;have s2:=(c2.cells 2).1;have hb5:=HS.o.below;exact VN (v:=.tuple #[.int .i64 i,bQ x,.bool (decide (0<i))]) (by simp [results,Tryz.results19,go_sem,s0,s1,s2,bQ]) rfl ⟨i,x,_,rfl,by rw [Lq.o];exact yV.o,xE⟩
end
end Go.Proofs.YtbmgmlbmgogeaaaGreat
namespace Kal
section
theorem jL.snoc {s:aE} {L:IL} (h:jL s L l e) (he:e=0) {t:aE} (hb:oB t s b 0):jL s (L ++ [(i,t)]) (l ++ if b then [i] else []) 0:=by
 induction h with
 | nil=>
  cases b with
  | true=>exact .yes hb .nil
  | false=>exact .no hb .nil
 | yes h hl ih=>exact .yes h (ih rfl)
 | no h hl ih=>exact .no h (ih rfl)
 | bad h he'=>exact absurd he he'
 | late h hl he' ih=>exact absurd he he'
theorem jL.stop {s:aE} {L R:IL} (h:jL s L l e) (he:e=0) {t:aE} {k:Int} (hb:oB t s b k) (hk:k≠0):jL s (L ++ (i,t) :: R) [] k:=by
 induction h with
 | nil=>exact .bad hb hk
 | yes h hl ih=>exact .late h (ih rfl) hk
 | no h hl ih=>exact .late h (ih rfl) hk
 | bad h he'=>exact absurd he he'
 | late h hl he' ih=>exact absurd he he'
theorem t1_ {L:IL} {b:Int} {s:aE} {c:Bool} (hc:c=true↔eG s a b):ka (L ++ [(i,s)]) a b=ka L a b ++ if c then [i] else []:=by
 unfold ka ids;rw [MG,UZ]
 congr 1
 cases c with
 | true=>rw [List.filter_cons_of_pos (by simpa using hc.1 rfl)];rfl
 | false=>rw [q8r (by simpa using λh=>by have:=hc.2 h;cases this)];rfl
end
end Kal
namespace Go.Proofs.YtbmgmlbmgogeaaaGreat
section
open Go.RowKit Go.Shelf Go.Maps Kal
attribute [local go_sem] GC
def rn (s:aE) (t:Int):Prop:=∃ y,iN s y/\y.frm<=t/\t<y.fin
theorem t4_ {s:aE} {t:Int} (h:bO s) (g:rn s t):-2251799813685248<=t/\t<=2251799813685248:=by
 obtain ⟨y,hy,h1,h2⟩:=g;have h3:=h.low hy;rcases hy with ⟨c,hc,ho,hf⟩|hy
 .omega
 have:=h.val.ins hy;unfold j_ at this;omega
theorem Yz {s:aE} {t:Int}:rn s t↔(∃ j,j<s.cls.length/\∃ d,fD s (s.cls.getD j default) t (t+1) d)\/∃ y∈s.ext,eH y.frm y.fin t (t+1):=by
 constructor
 .rintro ⟨y,⟨c,hc,⟨ho1,ho2⟩,hf⟩|hy,h1,h2⟩
  .obtain ⟨j,hj,rfl⟩:=tu (d:=default) hc;have e1:y.frm=y.day*1440+(s.cls.getD j default).min:=congrArg ai.frm ho2;have e2:y.fin=y.day*1440+(s.cls.getD j default).min+s.len:=congrArg ai.fin ho2;exact .inl ⟨j,hj,y.day,ho1,by unfold Hy;omega,ad,ad⟩
  exact .inr ⟨y,hy,by unfold eH;omega⟩
 rintro (⟨j,hj,d,h1,h2,h3,h4⟩|⟨y,hy,h⟩)
 .refine ⟨lM s (s.cls.getD j default) d,.inl ⟨_,by rw [fx hj];exact NS hj,⟨h1,rfl⟩,h2⟩,?_,?_⟩
  .show d*1440+(s.cls.getD j default).min<=t;omega
  exact h3
 unfold eH at h;exact ⟨y,.inr hy,ad,h.2⟩
def zm_ (s:aE) (t:Int) (w:World) (e:Ending) (w':World):Prop:=∃ r:Bool,e=.returned (.bool r)/\(r=true↔rn s t)/\Below w.heap.size w w'
structure pd (w:World) (n:Nat) (sv:Array Value) (t:Int) (r:Bool) (W:World):Prop where
 below:Below w.heap.size w W
 b0:ag W w.heap.size sv 43
 b1:ag W (w.heap.size+1) #[.bool r] 4
 b2:ag W n #[.int .i64 t,.int .i64 (t+1)] 29
theorem pd.grow {t:Int} {r:Bool} (h:pd w n sv t r A) (hg:A.grownBy C row) (hr:∀ k,row=some k->w.heap.size<=k/\∃ o:Obj,A.heap[k]? = some o/\o.isCells=false):pd w n sv t r C:=by
 have key:∀ {b:Nat} {c:Array Value} {t:TypeId},ag A b c t->ag C b c t:=λ{b c t} hb=>hb.grown hg λe=>by
  obtain ⟨_,o,h1,h2⟩:=hr b e.symm;rw [hb] at h1;cases h1;cases h2
 exact ⟨h.below.grown hg h.below.size λk e=>(hr k e).1,key h.b0,key h.b1,key h.b2⟩
theorem pd.ext {t:Int} {r:Bool} (h:pd w n sv t r A) (hb:Below A.heap.size A C):pd w n sv t r C:=
 ⟨Et h.below hb,h.b0.below hb,h.b1.below hb,h.b2.below hb⟩
theorem pd.setR {t:Int} {r s:Bool} (h:pd w n sv t r A) (hn:n≠w.heap.size+1):pd w n sv t s (A.setCell ⟨w.heap.size+1,0,none⟩ (.bool s)):=
 ⟨h.below.setCell (p:=⟨w.heap.size+1,0,none⟩) aj _,h.b0.setNe _ ad,bE 0 _ h.b1,h.b2.setNe _ hn⟩
theorem xq_ (F:Nat->Prop) (cv ev:Value) (s:aE) (t:Int) (w:World) (h:bq w F cv ev s) (eC:bO s) (ht:aS t) :
  Calls Tryz.prog 39 #[.agg #[cv,.int .i64 s.len,ev],.int .i64 t] w (zm_ s t w):=by
 obtain ⟨t1,t2⟩:=ht;have h:=h.lt;have HV:=λW (hb:Below w.heap.size w W)=>Ab _ cv ev s W (h.ext hb);rw [xx.2 eC.val] at HV;obtain ⟨L,h⟩:=h;have lx:s.cls.length=L.length:=by rw [<- h.eq];exact U6 _
 obtain ⟨a1,c1,rfl⟩:=h.cl.form;obtain ⟨a2,c2,rfl⟩:=h.ex.form;have fA:=h.cl.len;obtain ⟨sS,sT⟩:=eC.val.len;have HV:=af HV;have lI:=af h;have eN:=af eC;have eU:=af lx;clear h eC lx;refine VL (n:=0).1 ?_;refine NT Tryz.func39 rfl trivial ?_ rfl;simp only [Tryz.ntmps39,NG,MH,M4,Nat.reduceAdd,Nat.reduceSub,N0,K7,Q3,QG,L4,S5];have hb0:ag ((w.alloc (.cells #[.slice a1 L.length c1,.int .i64 s.len,.slice a2 s.ext.length c2] 43)).alloc (.cells #[.bool false] 4)) w.heap.size #[.slice a1 L.length c1,.int .i64 s.len,.slice a2 s.ext.length c2] 43:=(ag.at rfl).alloc _;have hb1:ag ((w.alloc (.cells #[.slice a1 L.length c1,.int .i64 s.len,.slice a2 s.ext.length c2] 43)).alloc (.cells #[.bool false] 4)) (w.heap.size+1) #[.bool false] 4:=ag.at aj;have eO:Below w.heap.size w ((w.alloc (.cells #[.slice a1 L.length c1,.int .i64 s.len,.slice a2 s.ext.length c2] 43)).alloc (.cells #[.bool false] 4)):=by exact xE
 have iB:=af hb0;have bm:=af hb1;have gj:=af eO;clear hb0 hb1 eO;by_cases hr:-2251799813685248<=t/\t<=2251799813685248
 .have dq:=λW=>Aj t (-2251799813685248) 2251799813685248 W;rw [PH hr] at dq;obtain ⟨hr1,hr2⟩:=hr;have dq:=af dq;gi_wp2_with (first
   | (refine ⟨trivial,rfl,?_⟩;gi_at_call 23;(with_reducible refine (VL.2 (HV.o _ gj.o)).mono ?_);rintro e w1 ⟨rfl,h1⟩;have nx:=af h1;have hw1:=h1.size;simp only [U7] at hw1;have hz0:w.heap.size<w1.heap.size:=ad;have hz1:w.heap.size+1<w1.heap.size:=ad;have MZ:=af (iB.o.below h1);have kA:=af (bm.o.below h1);have x0:=((iB.o.below h1).cells 0).1;have x1:=((iB.o.below h1).cells 1).1;have x2:=((iB.o.below h1).cells 2).1;clear h1)
   | (refine ⟨trivial,rfl,?_⟩;gi_at_call 48;(with_reducible refine (VL.2 (dq.o _)).mono ?_);rintro e w2 ⟨rfl,rfl⟩))
  have pY:Hid (pd w w1.heap.size #[.slice a1 L.length c1,.int .i64 s.len,.slice a2 s.ext.length c2] t false (w1.alloc (.cells #[.int .i64 t,.int .i64 (t+1)] 29))):=
   af ⟨Ea (Et gj.o nx.o) _,MZ.o.alloc _,kA.o.alloc _,ag.at rfl⟩
  clear x0 x1 x2;refine wpIn_loop (λa W=>∃ (k:Nat) (u7 u24 u25 u26 u27 u28 u29 u30 u31 u32:Value) (ds:List Deferred),a=⟨#[.agg #[.slice a1 L.length c1,.int .i64 s.len,.slice a2 s.ext.length c2],.int .i64 t,.pointer (some ⟨w.heap.size,0,none⟩),undef,.pointer (some ⟨w.heap.size+1,0,none⟩),.pointer (some ⟨w1.heap.size,0,none⟩),undef,u7,.agg #[.slice a1 L.length c1,.int .i64 s.len,.slice a2 s.ext.length c2],.bool true,.bool false,.bool false,.int .i64 t,.bool true,.bool false,.bool false,.int .i64 t,.int .i64 t,.int .i64 (t+1),.agg #[.int .i64 t,.int .i64 (t+1)],.pointer (some ⟨w.heap.size,0,none⟩),.slice a1 L.length c1,.int .i64 L.length,.int .i64 k,u24,u25,u26,u27,u28,u29,u30,u31,u32,undef,undef,undef,undef],ds⟩/\k<=L.length/\Hid (∀ j,j<k->¬ ∃ d,fD s (s.cls.getD j default) t (t+1) d)/\
   Hid (pd w w1.heap.size #[.slice a1 L.length c1,.int .i64 s.len,.slice a2 s.ext.length c2] t false W)/\Hid (cJ w.heap.size ds W)) (λa _=>L.length-(intOf (a.tmps.getD 23 undef)).toNat) ?start ?round
  case start=>exact ⟨0,undef,undef,undef,undef,undef,undef,undef,undef,undef,undef,[],rfl,ad,af (by intro j hj;omega),pY,af (cJ.nil _ _)⟩
  case round=>
   rintro _ W ⟨k,u7,u24,u25,u26,u27,u28,u29,u30,u31,u32,ds,rfl,hk,HN,HS,HM⟩;have wG:=HS.o.below.size;have hwl:=HS.o.b2.lt;have Ho:w.heap.size<W.heap.size:=ad;have Rv:w.heap.size+1<W.heap.size:=ad;by_cases hlt:k<L.length
   .have cP:(k:Int)<L.length:=ad;obtain ⟨b8,f8,xa,xc,m,mi,rfl,eo,e0,e1,hm,mQ,hcl⟩:=(lI.o.below HS.o.below).cl.get hlt;rw [lI.o.eq] at hcl;have hcm:(⟨m,mi⟩:ey)∈s.cls:=by rw [<- hcl,fx (by rw [eU.o];exact hlt)];exact NS _
    obtain ⟨iZ,jS⟩:-4320<=mi/\mi<=4320:=eN.o.min hcm;have iG:=af (eN.o.mv _ hcm);have cS:=af hcl;have th:=af hm;have r0:=dW ((HS.o.b0.cells 0).1) (.cells #[.slice xa m.length xc,.int .i64 mi] 59);have r1:=dW ((HS.o.b0.cells 1).1) (.cells #[.slice xa m.length xc,.int .i64 mi] 59);have r2:=dW ((HS.o.b0.cells 2).1) (.cells #[.slice xa m.length xc,.int .i64 mi] 59);have r3:=dW ((HS.o.b2.cells 0).1) (.cells #[.slice xa m.length xc,.int .i64 mi] 59);have r4:=dW ((HS.o.b2.cells 1).1) (.cells #[.slice xa m.length xc,.int .i64 mi] 59);clear hcl hm hcm mQ;gi_wp2_with (refine ⟨trivial,rfl,?_⟩;gi_at_call 65;(with_reducible refine (VL.2 (Yl (some ⟨b8,f8,none⟩) a2 xa L.length c1 s.ext.length c2 m.length xc s.len mi t (t+1) _)).mono ?_);rintro e w' ⟨rfl,rfl⟩);generalize hW0:(((W.alloc _).alloc _).alloc _).alloc _=W0;have hE:Below W.heap.size W W0:=by rw [<- hW0];exact xE
    have hsz:W0.heap.size=W.heap.size+1+1+1+1:=by rw [<- hW0];simp
    have tR:ag W0 (W.heap.size+1) #[.slice (some ⟨b8,f8,none⟩) L.length c1,.int .i64 s.len,.slice a2 s.ext.length c2] 43:=by rw [<- hW0];exact ((ag.at aj).alloc _).alloc _
    have hcb:ag W0 (W.heap.size+1+1) #[.slice xa m.length xc,.int .i64 mi] 59:=by rw [<- hW0];exact (ag.at aj).alloc _
    have nY:ag W0 (W.heap.size+1+1+1) #[.int .i64 t,.int .i64 (t+1)] 29:=by rw [<- hW0];exact ag.at aj
    have kz:=af (HS.o.ext hE);have zr:=af (KeepsOthers.of_below hE);have L6:=af (th.o.ext hE);clear hW0 r0 r1 r2 r3 r4 e0 e1;refine E6 (α:=Int) (x:=none) (gf:=112) (lb:=#[.pointer (some ⟨W.heap.size+1+1+1,0,none⟩),.pointer (some ⟨W.heap.size+1,0,none⟩),.pointer (some ⟨W.heap.size+1+1,0,none⟩)]) rfl (enters_of Tryz.func112 (by kernel_rfl) rfl)
     (Yn (λb=>F b/\b<w.heap.size) (λk=>k<W0.heap.size) (some ⟨b8,f8,none⟩) a2 xa L.length c1 s.ext.length c2 xc (W.heap.size+1) (W.heap.size+1+1) (W.heap.size+1+1+1) W0 s ⟨m,mi⟩ t (t+1) L6.o iG.o (λk h=>by have:=h.2;show k<_;omega) (λk h=>h) tR hcb nY tR.lt hcb.lt nY.lt sS sT iZ jS ad ad ad ad)
     (λh k=>h.trans k) (λW1 l o o' hl ho hc=>de.putObj (λk h=>h) W1 l o o' hl ho hc) (λW1 W2 hn hg k hk=>hg.block k (N6 hk hn) aj) (λy=>rfl)
     (λpre W'=>pre=[]/\pd w w1.heap.size #[.slice (some ⟨b8,f8,none⟩) L.length c1,.int .i64 s.len,.slice a2 s.ext.length c2] t false W'/\KeepsOthers W0 W')
     (λc' _ W'=>c'=.ret/\(∃ d,fD s ⟨m,mi⟩ t (t+1) d)/\pd w w1.heap.size #[.slice (some ⟨b8,f8,none⟩) L.length c1,.int .i64 s.len,.slice a2 s.ext.length c2] t true W'/\KeepsOthers W0 W')
     (λpre A' C row hI hg hr=>by
      have hr':∀ r,row=some r->W0.heap.size<=r/\∃ o:Obj,A'.heap[r]? = some o/\o.isCells=false:=λr e=>by
       rcases hr r e with ⟨h,_⟩|h
       .cases h
       exact h
      exact ⟨hI.1,hI.2.1.grow hg λr e=>⟨by have:=(hr' r e).1;omega,(hr' r e).2⟩,KeepsOthers.grow hI.2.2 hg λr e=>(hr' r e).1⟩)
     (λc' pre A' C row hI hg hr=>by
      have hr':∀ r,row=some r->W0.heap.size<=r/\∃ o:Obj,A'.heap[r]? = some o/\o.isCells=false:=λr e=>by
       rcases hr r e with ⟨h,_⟩|h
       .cases h
       exact h
      exact ⟨hI.1,hI.2.1,hI.2.2.1.grow hg λr e=>⟨by have:=(hr' r e).1;omega,(hr' r e).2⟩,KeepsOthers.grow hI.2.2.2 hg λr e=>(hr' r e).1⟩)
     (λ_ _ _ _ _ _ _ _ h=>h) (λ_ _ _ _ _ h=>h) ⟨rfl,kz.o,P8 _⟩
     (λy a' _=>a'=⟨#[.agg #[.slice (some ⟨b8,f8,none⟩) L.length c1,.int .i64 s.len,.slice a2 s.ext.length c2],.int .i64 t,.pointer (some ⟨w.heap.size,0,none⟩),undef,.pointer (some ⟨w.heap.size+1,0,none⟩),.pointer (some ⟨w1.heap.size,0,none⟩),undef,.pointer (some ⟨W.heap.size,0,none⟩),.agg #[.slice (some ⟨b8,f8,none⟩) L.length c1,.int .i64 s.len,.slice a2 s.ext.length c2],.bool true,.bool false,.bool false,.int .i64 t,.bool true,.bool false,.bool false,.int .i64 t,.int .i64 t,.int .i64 (t+1),.agg #[.int .i64 t,.int .i64 (t+1)],.pointer (some ⟨w.heap.size,0,none⟩),.slice (some ⟨b8,f8,none⟩) L.length c1,.int .i64 L.length,.int .i64 k,.bool true,.pointer (some ⟨b8,f8+k*2,none⟩),.agg #[.slice xa m.length xc,.int .i64 mi],.agg #[.slice (some ⟨b8,f8,none⟩) L.length c1,.int .i64 s.len,.slice a2 s.ext.length c2],.agg #[.slice xa m.length xc,.int .i64 mi],.agg #[.int .i64 t,.int .i64 (t+1)],.func (.func 112) #[] #[.pointer (some ⟨W.heap.size+1+1+1,0,none⟩),.pointer (some ⟨W.heap.size+1,0,none⟩),.pointer (some ⟨W.heap.size+1+1,0,none⟩)],.int .i64 y,u32,undef,undef,undef,undef],[]⟩)
     (λ_ _ _ _ _ _ _ _ _ h=>h) ?assign ?body ?done ?stop
    case assign=>
     intro l pre y W' K _ _ _ hK
     gi_wp2
     exact hK _ _ (World.grownBy.of_below (JV _ _) none) aj
    case body=>
     rintro l pre y _ W' ⟨rfl,hA,bP⟩ hy rfl;have hd:=hy.all y aj;have q1:=(hA.b1.cells 0).1;have q2:=(hA.b1.cells 0).2;have jY:=af (hA.setR (s:=true) ad);have dM:=af bP;have HY:=af hd;clear hA bP hy hd;gi_wp2_with fail;exact ⟨(K8 W' _ _).from _,rfl,⟨y,HY.o⟩,jY.o,dM.o.trans (K8 W' _ _)⟩
    case done=>
     rintro D xs W' hD aM ⟨rfl,hA,bP⟩ aL;have wj:¬ ∃ d,fD s ⟨m,mi⟩ t (t+1) d:=λ⟨y,hy⟩=>by have:=(aM.iff y).2 hy;simp at this
     have jY:=af hA;have Mh:=af wj;have pV:=af (cJ.cons (D:=D) HM.o ad ((zr.o.trans bP).from _) ad aL);clear aM hA bP aL wj tR hcb nY;gi_wp2_with fail;refine ⟨⟨k+1,_,_,_,_,_,_,_,_,_,_,_,by push_cast;rfl,ad,af λj hj=>?_,jY,pV⟩,by simp [intOf];omega⟩;by_cases e:j<k
     .exact HN.o j e
     obtain rfl:j=k:=ad;rw [cS.o];exact Mh.o
    case stop=>
     rintro D c' pre W' hD ⟨rfl,hy,hA,bP⟩ aL;have jY:=af hA;have HY:=af hy;have pV:=af (cJ.cons (D:=D) HM.o ad ((zr.o.trans bP).from _) ad aL);clear hA bP aL hy;gi_wp2_with fail;refine ik (B:=w.heap.size) _ _ pV.o λw' hs=>?_;have hc:=ag.c0 (hs.cells _ _ jY.o.b1 rfl);exact ⟨.bool true,by simp [results,Tryz.results39,go_sem,hc],true,rfl,⟨λ_=>Yz.2 (.inl ⟨k,by rw [eU.o];exact hlt,by rw [cS.o];exact HY.o⟩),λ_=>rfl⟩,jY.o.below.trans hs.below⟩
   obtain rfl:k=L.length:=ad;have fg:¬ (L.length:Int)<L.length:=ad;have q1:=(HS.o.b0.cells 2).1;have q2:=(HS.o.b1.cells 0).1;have q3:=(HS.o.b1.cells 0).2;have mO:=V7 (λb=>F b/\b<w.heap.size) (.slice a2 s.ext.length c2) s.ext (λy=>decide (eH y.frm y.fin t (t+1))) 73 #[.pointer (some ⟨w1.heap.size,0,none⟩)] (enters_of Tryz.func73 (by kernel_rfl) rfl) W (lI.o.below HS.o.below).ex (λW2 y hb2 _=>(v4_ t (t+1) y w1.heap.size W2 (HS.o.b2.below hb2)).mono λe w' h=>⟨h.1,Et hb2 h.2⟩);have Dx:=af mO;obtain ⟨q,hq⟩:∃ q,s.ext.any (λy=>decide (eH y.frm y.fin t (t+1)))=q:=⟨_,rfl⟩;rw [hq] at mO;have Dx:=af mO;have HQ:=af hq;clear mO hq;gi_wp2_with (refine ⟨trivial,rfl,?_⟩;gi_at_call 72;(with_reducible refine (VL.2 Dx.o).mono ?_);rintro e w4 ⟨rfl,hb4⟩;have qN:=af (HS.o.ext hb4);have cR:=af hb4;have q4:=(qN.o.b1.cells 0).1;have q5:=(qN.o.b1.cells 0).2;clear hb4);have kc:=qN.o.setR (s:=q) ad;refine ik (B:=w.heap.size) _ _ (HM.o.keep (((KeepsOthers.of_below cR.o).trans (K8 w4 ⟨w.heap.size+1,0,none⟩ (.bool q))).from _)) λw' hs=>?_;have hc:=ag.c0 (hs.cells _ _ kc.b1 rfl);refine ⟨.bool q,by simp [results,Tryz.results39,go_sem,hc],q,rfl,?_,kc.below.trans hs.below⟩;rw [Yz,<- HQ.o,G8];constructor
   .rintro ⟨y,hy,h⟩;exact .inr ⟨y,hy,LX h⟩
   rintro (⟨j,hj,h⟩|⟨y,hy,h⟩)
   .exact absurd h (HN.o j (by rw [eU.o] at hj;exact hj))
   exact ⟨y,hy,PH h⟩
 have dq:=λW=>Aj t (-2251799813685248) 2251799813685248 W;rw [P9 hr] at dq;have dq:=af dq;have HR:=af hr;clear hr;gi_wp2_with (first
  | (refine ⟨trivial,rfl,?_⟩;gi_at_call 23;(with_reducible refine (VL.2 (HV.o _ gj.o)).mono ?_);rintro e w1 ⟨rfl,h1⟩;have nx:=af h1;have hw1:=h1.size;simp only [U7] at hw1;have kA:=af (bm.o.below h1);have x0:=((bm.o.below h1).cells 0).1;have x1:=((bm.o.below h1).cells 0).2;clear h1)
  | (refine ⟨trivial,rfl,?_⟩;gi_at_call 48;(with_reducible refine (VL.2 (dq.o _)).mono ?_);rintro e w2 ⟨rfl,rfl⟩))
 refine ik (B:=w.heap.size) _ _ (cJ.nil _ _) λw' hs=>?_;have hc:=ag.c0 (hs.cells _ _ (bE 0 (.bool false) kA.o) rfl);refine ⟨.bool false,by simp [results,Tryz.results39,go_sem,hc],false,rfl,⟨λh=>(by cases h),λh=>absurd (t4_ eN.o h) HR.o⟩,?_⟩;exact ((Et gj.o nx.o).setCell (p:=⟨w.heap.size+1,0,none⟩) aj _).trans hs.below
end
section
open Go.RowKit Kal
theorem Nv {s:aE} {x:ai} (h:bO s) (hx:iN s x):x.frm<x.fin:=by
 have hl:=h.val.len;rcases hx with ⟨c,hc,⟨_,ho⟩,_⟩|hx
 .have e1:x.frm=x.day*1440+c.min:=congrArg ai.frm ho;have e2:x.fin=x.day*1440+c.min+s.len:=congrArg ai.fin ho;omega
 have:=h.val.ins hx;unfold j_ at this;omega
theorem Nr {s:aE} {b:Int} (h:bO s) (hab:a<b) {y:ai} {c:Bool} (hN:ez (iN s) a y c):eG s a b↔rn s a\/(c=true/\y.frm<b):=by
 constructor
 .rintro ⟨_,x,hx,h1,h2⟩;by_cases e:x.frm<=a
  .exact .inl ⟨x,hx,e,h2⟩
  rcases hN with ⟨rfl,g1,g2,g3⟩|⟨rfl,rfl,g1⟩
  .have:=g3 x hx ad;unfold bo at this;exact .inr ⟨rfl,ad⟩
  exact absurd ad (g1 x hx)
 rintro (⟨x,hx,h1,h2⟩|⟨rfl,h1⟩)
 .exact ⟨hab,x,hx,ad,h2⟩
 rcases hN with ⟨_,g1,g2,g3⟩|⟨g,_⟩
 .have:=Nv h g1;exact ⟨hab,y,g1,h1,ad⟩
 cases g
end
section
open Go.RowKit Go.Maps Kal
def gK {α:Type}:List (Int × α)->Int->α->List (Int × α)
 | [],i,s=>[(i,s)]
 | (j,t) :: r,i,s=>if i<j then (i,s) :: (j,t) :: r else (j,t) :: gK r i s
theorem XN {α β:Type} {L:List (Int × α)} {M:List (Int × β)} (h:L.map Prod.fst=M.map Prod.fst) (i:Int) (x:α) (y:β):(gK L i x).map Prod.fst=(gK M i y).map Prod.fst:=by
 induction L generalizing M with
 | nil=>
  cases M with
  | nil=>rfl
  | cons z M=>simp at h
 | cons z L ih=>
  cases M with
  | nil=>simp at h
  | cons u M=>
   obtain ⟨j,t⟩:=z;obtain ⟨k,v⟩:=u;simp only [GB,MQ] at h;obtain ⟨h1,h2⟩:=h;have h1:j=k:=h1;subst h1;unfold gK
   split
   .simp [h2]
   simp [ih h2]
theorem XM (L:IL) (i:Int) (s:aE):gK L i s=du L i s:=by
 induction L with
 | nil=>rfl
 | cons z L ih=>obtain ⟨j,t⟩:=z;unfold gK du;rw [ih]
theorem Ko {α:Type} {L:List (Int × α)} {s:α} {x:Int × α}:x∈gK L i s↔x=(i,s)\/x∈L:=by
 induction L with
 | nil=>simp [gK]
 | cons y r ih=>
  obtain ⟨j,t⟩:=y;unfold gK
  split
  .simp
  rw [U3,ih,U3];constructor
  .rintro (h|h|h)
   .exact .inr (.inl h)
   .exact .inl h
   exact .inr (.inr h)
  rintro (h|h|h)
  .exact .inr (.inl h)
  .exact .inl h
  exact .inr (.inr h)
theorem uq_ {L:IL} (h:je L):(ids L).Nodup:=List.Pairwise.imp (λh=>ad) h
theorem Ns {p b:Nat} {G:Nat->Prop} {E:List (Int × bC)} {L:IL} {id:Int} {s:aE} {x:bC} (h:fy W p b n G E L) (hb:Below W.heap.size W W1) (hn:n<1000000) (qB:id ∉ ids L) (hI:aS id) (h1:1<=id)
  (hg:W1.grownBy W' (some b)) (hm:df W' b (n+1) ((gK E id x).map dT)) (hs:bq W1 (λk=>lo<=k/\k<hi) (.slice x.a1 x.n1 x.c1) (.slice x.a2 x.n2 x.c2) s) (hlo:W.heap.size<=lo) (hx:x.len=s.len) (eC:bO s) (hd:vm x.g s) :
  fy W' p b (n+1) (λk=>G k\/W.heap.size<=k) (gK E id x) (du L id s):=by
 have hbl:=h.map.lt;have hpl:=h.box.lt;refine ⟨(hg.block p (by have:=hb.size;omega) (by rintro ⟨⟩;exact h.apart.1 rfl)).trans (h.box.below hb),hm,ad,R3 h.asc qB,?_,λi y hy=>?_,h.apart.1,λhG=>hG.elim h.apart.2 λhl=>ad⟩
 .rw [XN (α:=bC) (β:=aE) (M:=L) h.ids id x s,XM];rfl
 rcases Ko.1 hy with e|hy
 .cases e;refine ⟨hI,h1,s,Cu.2 (.inl rfl),⟨(hs.keep (aP.grown hg λhF=>ad) hg.size).mono λk hk=>.inr ad,hx,eC,hd⟩⟩
 obtain ⟨g1,g2,t,g3,g4⟩:=h.ent i y hy;refine ⟨g1,g2,t,Cu.2 (.inr g3),⟨?_,g4.len,g4.ms,g4.days⟩⟩;exact ((g4.str.ext hb).keep (aP.grown hg h.apart.2) hg.size).mono λk hk=>.inl hk
theorem df.look1 {b:Nat} {E:List (Int × Value)} (h:df w b n E) (hi:aS i) (hv:(i,v)∈E):(Instr.lookup 96 (.map (some b)) (.int .i64 i) true).run Tryz.prog w=.ok (.tuple #[v,.bool true]) w:=by
 rcases h.look hi with ⟨u,hu,hrun,_⟩|⟨hn,_⟩
 .obtain ⟨D,hown,hD⟩:=h;have e1:=hD.val i v hv .nil;rw [hD.val i u hu .nil] at e1;injection e1 with e1
  subst e1;exact hrun
 exact absurd (VC.2 ⟨_,hv,rfl⟩) hn
theorem df.look0 {b:Nat} {E:List (Int × Value)} (h:df w b n E) (hi:aS i) (hn:i ∉ E.map Prod.fst):(Instr.lookup 96 (.map (some b)) (.int .i64 i) true).run Tryz.prog w=.ok (.tuple #[.agg #[.slice none 0 0,.int .i64 0,.slice none 0 0,.bool false,.bool false,.bool false,.bool false,.bool false,.bool false,.bool false],.bool false]) w:=by
 rcases h.look hi with ⟨u,hu,_⟩|⟨_,hrun⟩
 .exact absurd (VC.2 ⟨_,hu,rfl⟩) hn
 exact hrun
theorem q5h {g g':Nat->Bool} (h:Value.agg (fU g)=.agg (fU g')):∀ i,i<7->g i=g' i:=by
 injection h with h
 intro i hi;have e:=congrArg (λa:Array Value=>a[i]?) h;simp only [H9 g hi,H9 g' hi] at e;injection e with e
 injection e
theorem ow_ {g g':Nat->Bool} {s:aE} (h:Value.agg (fU g)=.agg (fU g')) (hd:vm g s):vm g' s:=λx hx=>by
 have h1:=hd x hx;rwa [q5h h _ ad] at h1
theorem y3_ {E:List (Int × bC)} {L:IL} {id:Int} {s:aE} {x:bC} {D:DataW Value} (Gs:E.map Prod.fst=ids L) (q1l:je L) (qB:id ∉ ids L) (hD:fH D (E.map dT)) (hm:IsMap D):fH (D.put (.int .i64 id) (.held x.val)) ((gK E id x).map dT):=by
 refine fH.put hD hm (by rw [xH,Gs];exact qB) (λy=>?_) ?_
 .rw [VC,VC];constructor
  .rintro ⟨z,hz,rfl⟩;rcases Ko.1 hz with rfl|hz
   .exact .inl rfl
   exact .inr ⟨z,hz,rfl⟩
  rintro (rfl|⟨z,hz,rfl⟩)
  .exact ⟨_,Ko.2 (.inl rfl),rfl⟩
  exact ⟨z,Ko.2 (.inr hz),rfl⟩
 rw [xH,XN (α:=bC) (β:=aE) (M:=L) Gs id x s,XM];exact uq_ (R3 q1l qB)
def Zs (p b n:Nat) (G:Nat->Prop) (E:List (Int × bC)) (L:IL) (id:Int) (s:aE) (w:World) (e:Ending) (w':World):Prop:=
 ((id<1\/1099511627776<id)/\e=.returned (.int .i64 1)/\Below w.heap.size w w') \/
 ((
  1<=id/\id<=1099511627776)/\((id∈ids L/\e=.returned (.int .i64 5)/\Below w.heap.size w w') \/
  (id ∉ ids L/\e=.returned (.int .i64 0)/\w.grownBy w' (some b)/\∃ x:bC,fy w' p b (n+1) (λk=>G k\/w.heap.size<=k) (gK E id x) (du L id s))))
theorem Fo (p b n:Nat) (G F:Nat->Prop) (E:List (Int × bC)) (L:IL) (id:Int) (cv ev:Value) (s:aE) (w:World) (h:fy w p b n G E L) (hn:n<4000) (hs:bq w F cv ev s) (eC:bO s) (hid:aS id) :
  Calls Tryz.prog 24 #[.pointer (some ⟨p,0,none⟩),.int .i64 id,.agg #[cv,.int .i64 s.len,ev]] w (Zs p b n G E L id s w):=by
 have hpl:=h.box.lt;have hbl:=h.map.lt;have HI:=af h;have eN:=af eC;have oY:=af hid;obtain ⟨a1,c1,a2,c2,rfl,rfl⟩:=hs.form;have HV:=λW (hb:Below w.heap.size w W)=>Ab F _ _ s W (hs.ext hb);rw [xx.2 eC.val] at HV;have HV:=af HV;have BR:=af (λW (hb:Below w.heap.size w W)=>st_ F _ _ s W (hs.ext hb) eC.val);have HPO:=af (λW (hb:Below w.heap.size w W)=>px_ F _ _ s W (hs.ext hb) eC.val);have Bb:∀ W,(binOp .eql 31 (.pointer (some ⟨p,0,none⟩)) (.pointer none)).run Tryz.prog W=.ok (.bool false) W:=λW=>by first|rfl|kernel_rfl|simp [go_sem]
 have oj:=af (λW (hb:Below w.heap.size w W)=>(h.ext hb).map);have uj:=af (λW (hb:Below w.heap.size w W)=>(h.ext hb).box);clear h eC hid hs;obtain ⟨id1,id2⟩:=oY.o;have hnp0:=Bb w;by_cases hA:id<1
 .go_in
  go_wp2
  go_ret;exact .inl ⟨.inl hA,rfl,xE⟩
 by_cases hB:1099511627776<id
 .go_in
  go_wp2
  go_ret;exact .inl ⟨.inr hB,rfl,xE⟩
 have rj:=af (show 1<=id/\id<=1099511627776 by omega);by_cases hm:id∈ids L
 .obtain ⟨⟨id',u⟩,hu,he⟩:=VC.1 (show id∈E.map Prod.fst by rw [HI.o.ids];exact hm);have he:id'=id:=he;subst he;have HM:=af hm;have DY:=af (λW (hb:Below w.heap.size w W)=>(oj.o W hb).look1 oY.o (VC.2 ⟨_,hu,rfl⟩));dsimp only [dT,bC.val] at DY;clear hu hm
  go_in
  go_wp2_with (go_at_call 23;(with_reducible refine (HV.o _ (Ea (Er w) _)).mono ?_);rintro e w1 ⟨rfl,hb1⟩;have hb2:Below w.heap.size w w1:=Et (Ea (Er w) _) hb1;have hlk:=DY.o _ hb2;have q0:=((uj.o _ hb2).cells 0).1;have bl:=af hb2;clear hb1 hb2)
  go_ret;exact .inr ⟨rj.o,.inl ⟨HM.o,rfl,by have hb2:=bl.o;exact xE⟩⟩
 have HM:=af hm;have q2e:=af (λW (hb:Below w.heap.size w W)=>(oj.o W hb).look0 oY.o (by rw [xH,HI.o.ids];exact hm));clear hm
 go_in
 go_upto_region 8 with (first|(go_at_call 23;(refine (HV.o _ (Ea (Er w) _)).mono ?_;rintro e w1 ⟨rfl,hb1⟩;have hb2:Below w.heap.size w w1:=Et (Ea (Er w) _) hb1;have hlk:=q2e.o _ hb2;have hz1:=hb2.size;have HMP:=af (oj.o _ (Ea hb2 (.cells #[.slice none 0 0,.int .i64 0,.slice none 0 0,.bool false,.bool false,.bool false,.bool false,.bool false,.bool false,.bool false] 95)));obtain ⟨D1,hown1,tF⟩:=HMP.o;obtain ⟨z,hz⟩:∃ z,Maps.size D1=z:=⟨_,rfl⟩;have yH:z<=n:=(hz ▸ hown1.size_le);have q0:=((uj.o _ hb2).cells 0).1;have q1:=((uj.o _ (Ea hb2 (.cells #[.slice none 0 0,.int .i64 0,.slice none 0 0,.bool false,.bool false,.bool false,.bool false,.bool false,.bool false,.bool false] 95))).cells 0).1;have kA:=af ((ag.new w #[.slice a1 s.cls.length c1,.int .i64 s.len,.slice a2 s.ext.length c2] 43).below hb1);have bl:=af hb2;have El:=af hown1;have HZ:=af hz;clear hb1 hb2 hown1 tF hz))|(at_len;(refine wpList_len_own _ rfl _ 96 rfl 3 95 Tryz.underlying96 _ b n D1 rfl El.o ?_);rw [HZ.o]))
 obtain ⟨bz,kJ⟩:∃ bz,((z:Int) == 4096)=bz:=⟨_,rfl⟩;rw [kJ];refine j9 (F:=λU=>ag U w.heap.size #[.slice a1 s.cls.length c1,.int .i64 s.len,.slice a2 s.ext.length c2] 43/\Below w.heap.size w U) ⟨kA.o.alloc _,Ea bl.o _⟩ ?_;rintro W0 ⟨mW,eI⟩;have x0:=(mW.cells 0).1;have x1:=(mW.cells 1).1;have x2:=(mW.cells 2).1;have q0:=((uj.o _ eI).cells 0).1;clear kJ q1 mW hlk yH;refine oz (w0:=W0) [0,1,2,3,4,5,6,7,8,9] [10] (λv=>⟨#[.pointer (some ⟨p,0,none⟩),.int .i64 id,.agg #[.slice a1 s.cls.length c1,.int .i64 s.len,.slice a2 s.ext.length c2],undef,undef,.pointer (some ⟨w.heap.size,0,none⟩),.int .i64 0,.pointer (some ⟨w1.heap.size,0,none⟩),.bool false,.pointer (some ⟨p,0,none⟩),.bool false,.bool false,.int .i64 id,.bool false,.bool false,.bool false,.int .i64 id,.bool false,.bool false,.bool false,.agg #[.slice a1 s.cls.length c1,.int .i64 s.len,.slice a2 s.ext.length c2],.bool true,.bool false,.bool false,.tuple #[.agg #[.slice none 0 0,.int .i64 0,.slice none 0 0,.bool false,.bool false,.bool false,.bool false,.bool false,.bool false,.bool false],.bool false],.pointer (some ⟨p,0,none⟩),.pointer (some ⟨p,0,none⟩),.pointer (some ⟨p,0,none⟩),.map (some b),.int .i64 id,.tuple #[.agg #[.slice none 0 0,.int .i64 0,.slice none 0 0,.bool false,.bool false,.bool false,.bool false,.bool false,.bool false,.bool false],.bool false],.agg #[.slice none 0 0,.int .i64 0,.slice none 0 0,.bool false,.bool false,.bool false,.bool false,.bool false,.bool false,.bool false],.bool false,.bool false,.pointer (some ⟨p,0,none⟩),.pointer (some ⟨p,0,none⟩),.pointer (some ⟨p,0,none⟩),.map (some b),.int .i64 ↑z,.bool bz,v 0,v 1,v 2,v 3,v 4,v 5,v 6,v 7,v 8,v 9],[]⟩) [.pointer (some ⟨p,0,none⟩),.pointer (some ⟨p,0,none⟩),.pointer (some ⟨p,0,none⟩),.map (some b),.int .i64 id,.agg #[.slice a1 s.cls.length c1,.int .i64 s.len,.slice a2 s.ext.length c2],undef,.agg #[.slice a1 s.cls.length c1,.int .i64 s.len,.slice a2 s.ext.length c2],undef,undef] [6,8,9] (λi v lo hi W=>match i with|6=>∃ y1 z1 y2 z2,v 6=.agg #[.slice y1 s.cls.length z1,.int .i64 s.len,.slice y2 s.ext.length z2]/\bq W (λb=>lo 6<=b/\b<hi 6) (.slice y1 s.cls.length z1) (.slice y2 s.ext.length z2) s|8=>∃ g,v 8=.agg (fU g)/\vm g s|9=>∃ x:bC,v 9=x.val/\v 6=.agg #[.slice x.a1 x.n1 x.c1,.int .i64 x.len,.slice x.a2 x.n2 x.c2]/\v 8=.agg (fU x.g)|_=>True) (λW=>W.cell? ⟨p,0,none⟩=some (.map (some b))/\W.cell? ⟨w.heap.size,0,none⟩=some (.slice a1 s.cls.length c1)/\W.cell? ⟨w.heap.size,1,none⟩=some (.int .i64 s.len)/\W.cell? ⟨w.heap.size,2,none⟩=some (.slice a2 s.ext.length c2)) (λW hb=>⟨an.cell hb q0,an.cell hb x0,an.cell hb x1,an.cell hb x2⟩) ?stab ?loc ?steps ?fin
 case stab=>
  refine ⟨?_,?_,?_,trivial⟩
  .intro v lo hi W W' h hb;exact (let ⟨y1,z1,y2,z2,e,h⟩:=h;⟨y1,z1,y2,z2,e,h.ext hb⟩)
  .intro v lo hi W W' h hb;exact h
  intro v lo hi W W' h hb;exact h
 case loc=>
  refine ⟨?_,?_,?_,trivial⟩
  .intro v v' lo lo' hi hi' W aA h;have q:=aA 6 (.inl rfl)
   (try dsimp only at h ⊢)
   simp only [q.1,q.2.1,q.2.2] at h;exact h
  .intro v v' lo lo' hi hi' W aA h;have q:=aA 8 (.inl rfl)
   (try dsimp only at h ⊢)
   simp only [q.1,q.2.1,q.2.2] at h;exact h
  intro v v' lo lo' hi hi' W aA h;have q:=aA 9 (.inl rfl);have q6:=aA 6 (.inr (bM (by kernel_rfl)));have q8:=aA 8 (.inr (bM (by kernel_rfl)))
  (try dsimp only at h ⊢)
  simp only [q.1,q.2.1,q.2.2,q6.1,q6.2.1,q6.2.2,q8.1,q8.2.1,q8.2.2] at h;exact h
 case steps=>
  refine .c [] [] rfl ?_ (.c [0] [] rfl ?_ (.c [1] [] rfl ?_ (.c [2] [] rfl ?_ (.c [] [] rfl ?_ (.c [] [] rfl ?_ (.c [5] [] rfl ?_ (.c [] [] rfl ?_ (.c [7] [] rfl ?_ (.c [] [6,8] rfl ?_ (.n))))))))));all_goals try exact oh
  .rintro v lo hi W hb ⟨g0,g1,g2,g3⟩ _;refine .inl ⟨rfl,λK hK=>?_⟩;simp only [ov,aD,Nat.reduceBEq,cond_true,cond_false];go_wp2_with (go_at_call 51;(with_reducible refine (BR.o _ (Et eI hb)).mono ?_);rintro e w9 ⟨y1,z1,y2,z2,rfl,nT,bg⟩);exact aQ (hK (.agg #[.slice y1 s.cls.length z1,.int .i64 s.len,.slice y2 s.ext.length z2]) w9 bg ⟨y1,z1,y2,z2,rfl,nT⟩) (by simp [ov,aD,upd])
  .rintro v lo hi W hb ⟨g0,g1,g2,g3⟩ _;refine .inl ⟨rfl,λK hK=>?_⟩;simp only [ov,aD,Nat.reduceBEq,cond_true,cond_false];go_wp2_with (go_at_call 52;(with_reducible refine (HPO.o _ (Et eI hb)).mono ?_);rintro e w9 ⟨g9,rfl,JR,bg⟩);exact aQ (hK (.agg (fU g9)) w9 bg ⟨g9,rfl,JR⟩) (by simp [ov,aD,upd])
  rintro v lo hi W hb ⟨g0,g1,g2,g3⟩ ⟨⟨la6,lb6,D6⟩,⟨la8,lb8,D8⟩,_⟩;refine .inl ⟨rfl,λK hK=>?_⟩;simp only [ov,aD,Nat.reduceBEq,cond_true,cond_false]
  (try dsimp only at D6 D8)
  obtain ⟨y1,z1,y2,z2,e6,_⟩:=D6;obtain ⟨g9,e8,_⟩:=D8
  (try simp only [e6,e8])
  go_wp2
  exact aQ (hK (bC.val ⟨y1,s.cls.length,z1,s.len,y2,s.ext.length,z2,g9⟩) W (JV _ _) ⟨⟨y1,s.cls.length,z1,s.len,y2,s.ext.length,z2,g9⟩,rfl,e6,e8⟩) (by simp [ov,aD,upd,e6,e8])
 case fin=>
  rintro v lo hi W5 hb5 ⟨g0,g1,g2,g3⟩ hf hap;show wpList _ _ _ [_] _ _;obtain ⟨l6,m6,h6,y1,z1,y2,z2,e6,Q7⟩:=hf 6 rfl;obtain ⟨-,-,-,g8,e8,U9⟩:=hf 8 rfl;obtain ⟨-,-,-,x,e9,I9,OQ⟩:=hf 9 rfl;have e3:v 3=.map (some b):=(hf 3 rfl).2.2.2;have e4:v 4=.int .i64 id:=(hf 4 rfl).2.2.2;clear hf hap;rw [e6] at I9;rw [e8] at OQ;have JR:=ow_ OQ U9;obtain ⟨qI,wL,K4,xl,lE,BL,qJ,xg⟩:=x;obtain ⟨rfl,rfl,rfl,rfl,rfl,rfl,rfl⟩:qI=y1/\wL=s.cls.length/\K4=z1/\xl=s.len/\lE=y2/\BL=s.ext.length/\qJ=z2:=by simp at I9;simp [I9]
  dsimp only;rw [e3,e4,e9];have cB:Below w.heap.size w W5:=Et eI hb5;have hz0:=eI.size;have od:=cB.size;generalize lo 6=l6v at *;generalize hi 6=h6v at *;have kV:=af Q7;have HD9:=af JR;have bL:=af cB;obtain ⟨D,hown,hD⟩:=oj.o _ cB;have aO:=af hown;have HD:=af hD;have oZ:=af (show w.heap.size<=l6v by omega);clear g0 g1 g2 g3 q0 x0 x1 x2 Q7 U9 JR e6 e8 e9 I9 OQ e3 e4 hb5 eI cB hown hD l6 m6 h6;generalize v 0=y0,v 1=y1,v 2=y2,v 3=y3,v 4=y4,v 5=y5,v 6=y6,v 7=y7,v 8=y8,v 9=y9;dsimp only [bC.val];refine wpList_mapUpdate_own _ aC _ _ _ 96 aC 3 95 (int_keyed Tryz.underlying3) Tryz.underlying96 ET b n D aC aO.o (by unfold maxLen;omega) (.int .i64 id) (bC.val ⟨qI,s.cls.length,K4,s.len,lE,s.ext.length,qJ,xg⟩) (.int .i64 id) aC aC (T4 Tryz.underlying3 (KP oY.o)) (.held (bC.val ⟨qI,s.cls.length,K4,s.len,lE,s.ext.length,qJ,xg⟩)) [] rfl ?_;intro w9 au aq;have iK:=af au;have fF:=af aq;clear au aq;go_wp2;go_ret;have hI:=HI.o;refine .inr ⟨rj.o,.inr ⟨HM.o,rfl,?_,⟨qI,s.cls.length,K4,s.len,lE,s.ext.length,qJ,xg⟩,Ns hI bL.o ad HM.o oY.o rj.o.1 fF.o ⟨_,iK.o,y3_ (s:=s) hI.ids hI.asc HM.o HD.o aO.o.isMap⟩ kV.o oZ.o rfl eN.o HD9.o⟩⟩;have h1:w.grownBy W5 (some b):=World.grownBy.of_below bL.o _;exact World.grownBy.trans' h1 fF.o
end
section
open Go.RowKit Kal
def SJ (L:IL) (a b:Int) (l:List Int) (k:Int):Prop:=
 ((a < -2251799813685248\/2251799813685248<b\/b<a)/\l=[]/\k=1) \/
 (¬ (a < -2251799813685248\/2251799813685248<b\/b<a)/\((5760000<b-a/\l=[]/\k=2)\/(b-a<=5760000/\l=ka L a b/\k=0)))
theorem SJ.ok {L:IL} {b:Int} {k:Int} (h:SJ L a b l k) (h1:-2251799813685248<=a) (h2:b<=2251799813685248) (h3:a<=b) (h4:b-a<=5760000):l=ka L a b/\k=0:=by
 rcases h with ⟨h0,_⟩|⟨h0,⟨h5,_⟩|⟨_,h6,h7⟩⟩
 .omega
 .omega
 exact ⟨h6,h7⟩
theorem vd_ (L:IL) (a b:Int):(ka L a b).length<=L.length:=by
 unfold ka ids;rw [U6];exact YQ _ _
end
end Go.Proofs.YtbmgmlbmgogeaaaGreat
namespace Kal
section
end
end Kal
namespace Go.Proofs.YtbmgmlbmgogeaaaGreat
section
open Go.RowKit Kal
end
section
open Go.RowKit Go.Maps Kal
theorem tz.mono {G G':Nat->Prop} {x:bC} {s:aE} (h:tz W G x s) (hG:∀ k,G k->G' k):tz W G' x s:=⟨h.str.mono hG,h.len,h.ms,h.days⟩
theorem fy.grown {p b:Nat} {G:Nat->Prop} {E:List (Int × bC)} {L:IL} (h:fy W p b n G E L) (hg:W.grownBy W' (some k)) (hp:p≠k) (hb:b≠k) (hG:¬ G k):fy W' p b n G E L:=
 ⟨h.box.grown hg (λe=>hp (S7 e)),h.map.kept hg (λe=>hb (S7 e)),h.num,h.asc,h.ids,λi x hx=>by
  obtain ⟨h1,h2,s,h3,h4⟩:=h.ent i x hx;exact ⟨h1,h2,s,h3,h4.keep (aP.grown hg hG) hg.size⟩,h.apart⟩
theorem fy.mono {p b:Nat} {G G':Nat->Prop} {E:List (Int × bC)} {L:IL} (h:fy W p b n G E L) (hG:∀ k,G k->G' k) (hb:¬ G' b):fy W p b n G' E L:=
 ⟨h.box,h.map,h.num,h.asc,h.ids,λi x hx=>by
  obtain ⟨h1,h2,s,h3,h4⟩:=h.ent i x hx;exact ⟨h1,h2,s,h3,h4.mono hG⟩,h.apart.1,hb⟩
theorem eX.mono {q:Nat} {G G':Nat->Prop} {M:List ba} {L:IL} (h:eX W q G v M L) (hG:∀ k,G k->G' k) (hq:¬ G' q):eX W q G' v M L:=
 ⟨h.box,h.row.mono hG,λx hx=>xC.mono (h.all x hx) hG,h.eq,h.asc,hq⟩
theorem RY {L:IL} (h:i ∉ ids L):dP L i=L:=by
 unfold dP;refine q8s.2 λx hx=>?_;have:x.1≠i:=λe=>h (VC.2 ⟨x,hx,e⟩);simpa using this
theorem t0_ (E:List (Int × bC)) (i:Int):(E.filter λx=>!(x.1 == i)).map Prod.fst=(E.map Prod.fst).filter λj=>!(j == i):=by
 rw [List.filter_map];rfl
theorem xp_ (L:IL) (i:Int):ids (dP L i)=(ids L).filter λj=>!(j == i):=by
 unfold ids dP;rw [List.filter_map];rfl
theorem ZF {p b:Nat} {G:Nat->Prop} {E:List (Int × bC)} {L:IL} {e:Ending} (h:fy w p b n G E L) (hr:Xy b n E i w e w') :
  w.grownBy w' (some b)/\e=.returned (.int .i64 (if i∈ids L then 0 else 4))/\∃ E',fy w' p b n G E' (dP L i):=by
 obtain ⟨hg,hr⟩:=hr;have hb:ag w' p #[.map (some b)] 98:=h.box.grown hg (λe=>h.apart.1 (S7 e));have hk:∀ {x s},tz w G x s->tz w' G x s:=λ{x s} h4=>h4.keep (aP.grown hg h.apart.2) hg.size;rcases hr with ⟨hm,rfl,hmap⟩|⟨hm,rfl,hmap⟩
 .rw [h.ids] at hm;refine ⟨hg,by rw [if_pos hm],_,hb,hmap,h.num,Yo h.asc,by rw [t0_,h.ids,xp_],λj x hx=>?_,h.apart⟩;obtain ⟨hx,hne⟩:=N7.1 hx;obtain ⟨h1,h2,s,h3,h4⟩:=h.ent j x hx;exact ⟨h1,h2,s,Yp.2 ⟨h3,by simpa using hne⟩,hk h4⟩
 rw [h.ids] at hm;refine ⟨hg,by rw [if_neg hm],E,hb,hmap,h.num,Yo h.asc,by rw [RY hm,h.ids],λj x hx=>?_,h.apart⟩;obtain ⟨h1,h2,s,h3,h4⟩:=h.ent j x hx;exact ⟨h1,h2,s,by rw [RY hm];exact h3,hk h4⟩
def po (L:IL):Prop:=∀ x∈L,(1<=x.1/\x.1<=5)/\Cx x.2
theorem po.del {L:IL} (h:po L) (i:Int):po (dP L i):=λx hx=>h x (Yp.1 hx).1
theorem po.ins {L:IL} (h:po L) {s:aE} (h1:1<=i/\i<=5) (hs:Cx s):po (du L i s):=λx hx=>by
 rcases Cu.1 hx with rfl|hx
 .exact ⟨h1,hs⟩
 exact h x hx
theorem po.nil:po []:=λx hx=>by simp at hx
structure CM (W:World) (B k:Nat) (L:IL):Prop where
 idx:∃ n E,n<=k/\fy W (B+1) B n (λb=>B+3<=b) E L
 ref:∃ v M,M.length<=k/\eX W (B+2) (λb=>B+3<=b) v M L
 made:po L
theorem CM.size {L:IL} (h:CM W B k L):B+3<=W.heap.size:=by
 obtain ⟨v,M,_,h⟩:=h.ref;have:=h.box.lt;omega
theorem qd (hg:W.grownBy W' (some k)) (hk:B<=k) (hB:B<=W.heap.size):Below B W W':=
 ⟨hg.os,hg.tape,hg.output,hg.size,λb hb=>hg.block b ad (λe=>by have:=S7 e;omega)⟩
def fY (L:IL) (i:Int):Int:=if i<1 then 1 else if i∈ids L then 5 else 0
def gC (L:IL) (i:Int) (s:aE):IL:=if 1<=i/\i ∉ ids L then du L i s else L
theorem Ye {L:IL} (h:i<1):fY L i=1:=if_pos h
theorem Xz {L:IL} (h:1<=i) (hm:i∈ids L):fY L i=5:=by unfold fY;rw [if_neg ad,if_pos hm]
theorem Y2 {L:IL} (h:1<=i) (hm:i ∉ ids L):fY L i=0:=by unfold fY;rw [if_neg ad,if_neg hm]
theorem Yf {L:IL} {s:aE} (h:i<1):gC L i s=L:=if_neg ad
theorem XA {L:IL} {s:aE} (hm:i∈ids L):gC L i s=L:=if_neg λh=>h.2 hm
theorem Y3 {L:IL} {s:aE} (h:1<=i) (hm:i ∉ ids L):gC L i s=du L i s:=if_pos ⟨h,hm⟩
theorem po.add {L:IL} (h:po L) {s:aE} (h1:i<=5) (hs:Cx s):po (gC L i s):=by
 unfold gC
 split
 .next e=>exact h.ins ⟨e.1,h1⟩ hs
 exact h
theorem Gr {p b:Nat} {G:Nat->Prop} {E:List (Int × bC)} {L:IL} {s:aE} {e:Ending} (h:fy w p b n G E L) (hi:i<=1099511627776) (hr:Zs p b n G E L i s w e w') :
  e=.returned (.int .i64 (fY L i))/\w.grownBy w' (some b)/\∃ n' E',n'<=n+1/\fy w' p b n' (λk=>G k\/w.heap.size<=k) E' (gC L i s):=by
 have hbl:=h.map.lt;have U0:¬ (G b\/w.heap.size<=b):=λe=>e.elim h.apart.2 ad;rcases hr with ⟨h1,rfl,hb⟩|⟨h1,⟨hm,rfl,hb⟩|⟨hm,rfl,hg,x,hx⟩⟩
 .have h2:i<1:=ad;rw [Ye h2,Yf h2];exact ⟨rfl,World.grownBy.of_below hb _,n,E,ad,(h.ext hb).mono (λk hk=>.inl hk) U0⟩
 .rw [Xz h1.1 hm,XA hm];exact ⟨rfl,World.grownBy.of_below hb _,n,E,ad,(h.ext hb).mono (λk hk=>.inl hk) U0⟩
 rw [Y2 h1.1 hm,Y3 h1.1 hm];exact ⟨rfl,hg,n+1,_,ad,hx⟩
theorem q0z {q:Nat} {G F:Nat->Prop} {M:List ba} {L:IL} {s:aE} {e:Ending} (h:eX w q G v M L) (hF:¬ F q) (hi:i<=1099511627776) (hr:Y0 q G F M L i s w e w') :
  e=.returned (.int .i64 (fY L i))/\w.grownBy w' (some q)/\∃ v' M',M'.length<=M.length+1/\eX w' q (λk=>(G k\/F k)\/w.heap.size<=k) v' M' (gC L i s):=by
 have hbl:=h.box.lt;have VF:¬ ((G q\/F q)\/w.heap.size<=q):=λe=>e.elim (λe=>e.elim h.apart hF) ad;rcases hr with ⟨h1,rfl,hb⟩|⟨h1,⟨hm,rfl,hb⟩|⟨hm,rfl,hg,v',M',hx,hl⟩⟩
 .have h2:i<1:=ad;rw [Ye h2,Yf h2];exact ⟨rfl,World.grownBy.of_below hb _,v,M,ad,(h.ext hb).mono (λk hk=>.inl (.inl hk)) VF⟩
 .rw [Xz h1.1 hm,XA hm];exact ⟨rfl,World.grownBy.of_below hb _,v,M,ad,(h.ext hb).mono (λk hk=>.inl (.inl hk)) VF⟩
 rw [Y2 h1.1 hm,Y3 h1.1 hm];exact ⟨rfl,hg,v',M',ad,hx⟩
theorem Ol {q:Nat} {G:Nat->Prop} {M:List ba} {L:IL} {e:Ending} (h:eX w q G v M L) (hr:Y1 q G M L i w e w') :
  w.grownBy w' (some q)/\e=.returned (.int .i64 (if i∈ids L then 0 else 4))/\∃ v' M',M'.length<=M.length/\eX w' q (λk=>G k\/w.heap.size<=k) v' M' (dP L i):=by
 have hbl:=h.box.lt;rcases hr with ⟨hm,rfl,rfl⟩|⟨hm,rfl,hg,v',M',hx,hl⟩
 .rw [if_neg hm,RY hm];exact ⟨P7 _ _,rfl,v,M,TZ _,h.mono (λk hk=>.inl hk) λe=>e.elim h.apart ad⟩
 rw [if_pos hm];exact ⟨hg,rfl,v',M',hl,hx⟩
end
section
open Go.RowKit Kal
theorem w2_ (A B:aE):∃ r k,oB A B r k:=by
 by_cases h:pn A B\/pn B A\/Fe A B
 .exact ⟨true,0,.inl ⟨h,rfl,rfl⟩⟩
 by_cases h2:Cz A B
 .exact ⟨false,2,.inr ⟨h,.inl ⟨h2,rfl,rfl⟩⟩⟩
 by_cases h3:hs_ A B
 .exact ⟨true,0,.inr ⟨h,.inr ⟨h2,rfl,λ_=>h3,λ_=>rfl⟩⟩⟩
 exact ⟨false,0,.inr ⟨h,.inr ⟨h2,rfl,λe=>(by cases e),λe=>absurd e h3⟩⟩⟩
theorem xr_ (F G:Nat->Prop) (qh qt qi qu:Value) (A B:aE) (r:Bool) (k:Int) (hr:oB A B r k) (w:World) (hA:bq w F qh qt A) (hB:bq w G qi qu B) (vA:bO A) (vB:bO B) :
  Calls Tryz.prog 28 #[.agg #[qh,.int .i64 A.len,qt],.agg #[qi,.int .i64 B.len,qu]] w λe w'=>e=.returned (.tuple #[.bool r,.int .i64 k])/\Below w.heap.size w w':=
 (v6_ F G qh qt qi qu A B w hA hB vA vB).mono λe w' ⟨r',k',he,hm,hb⟩=>by
  obtain ⟨rfl,rfl⟩:=hr.unique hm;exact ⟨he,hb⟩
end
section
open Go.RowKit Go.Maps Kal
def x4_ (s:aE) (L:IL) (w:World) (e:Ending) (w':World):Prop:=∃ l k a c,jL s L l k/\e=.returned (.tuple #[.slice a l.length c,.int .i64 k])/\al w' w.heap.size (.slice a l.length c) l/\Below w.heap.size w w'
theorem ph_ (p b n:Nat) (G F:Nat->Prop) (E:List (Int × bC)) (L:IL) (cv ev:Value) (s:aE) (w:World) (h:fy w p b n G E L) (hs:bq w F cv ev s) (eC:bO s) :
  Calls Tryz.prog 16 #[.pointer (some ⟨p,0,none⟩),.agg #[cv,.int .i64 s.len,ev]] w (x4_ s L w):=by
 have hpl:=h.box.lt;have hbl:=h.map.lt;have HI:=af h;have HV:=λW (hb:Below w.heap.size w W)=>Ab F cv ev s W (hs.ext hb);rw [xx.2 eC.val] at HV;have HV:=af HV;have HSR:=af hs;have eN:=af eC;obtain ⟨a1,c1,a2,c2,rfl,rfl⟩:=hs.form;have re:=af (λW (hb:Below w.heap.size w W)=>Jf p b n (E.map dT) W (h.ext hb).box (h.ext hb).map h.sorted h.num);have vK:E.length=L.length:=by have:=congrArg List.length h.ids;simpa [ids] using this
 have DE:=af vK;have hbx:=ag.at (w:=w) (b:=w.heap.size) (c:=#[.slice a1 s.cls.length c1,.int .i64 s.len,.slice a2 s.ext.length c2]) (t:=43) rfl;have cD:=af hbx;clear h vK hs eC hbx
 go_in
 go_wp2_with (first|(go_at_call 23;(with_reducible refine (HV.o _ (Ea (Er w) _)).mono ?_);rintro e w1 ⟨rfl,hb1⟩;have bm:=af (Et (Ea (Er w) _) hb1);have kA:=af (cD.o.below hb1);clear hb1)|(go_at_call 36;(with_reducible refine (re.o _ bm.o).mono ?_);rintro e w2 ⟨a,c,rfl,ho,hb2⟩;have HO:=af ho;have bl:=af hb2;clear ho hb2))
 have HOW:Hid (al w2 (w.heap.size+1) (.slice a E.length c) (E.map Prod.fst)):=af (by have:=HO.o.mono (base':=w.heap.size+1) (by have:=kA.o.lt;omega);rw [xH,U6] at this;exact this);have fX:=af (kA.o.below bl.o);have bL:=af (Et bm.o bl.o);have hz2:w.heap.size<w2.heap.size:=fX.o.lt;go_loopw [6,8,9,10,17] (λv6 _ _ _ vi wr=>∃ (k m:Nat) (o:Option Addr) (oc:Nat) (l:List Int),k<=E.length/\vi=.int .i64 k/\v6=.slice o m oc/\m=l.length/\l.length<=k/\Hid (jL s (L.take k) l 0)/\Hid (al wr w2.heap.size (.slice o m oc) l)/\Hid (Below w2.heap.size w2 wr)) (λ_ _ _ _ vi _=>E.length-(intOf vi).toNat)
 .exact ⟨0,0,none,0,[],ad,rfl,rfl,rfl,aj,af .nil,af (al.nil _ _),af (JV _ _)⟩
 obtain ⟨k,m,o,oc,l,hk,rfl,rfl,rfl,hlk,lF,j8,HB⟩:=hrel;have jV:=HB.o.size;have hlen:E.length<=17592186044416:=by have:=HOW.o.len;simpa using this
 by_cases hlt:k<E.length
 .have cP:(k:Int)<E.length:=ad;have hI:=HI.o.ext (Et bL.o HB.o);obtain ⟨id,u,t,g1,g2,g3,g4,g5,g6,g7,g8⟩:=Sm hI hlt;obtain ⟨ua,un,uc,ul,va,vn,vc,ug⟩:=u;obtain ⟨gs,gl,gm,-⟩:=g3;dsimp only [bC.val] at gs gl g7;subst gl;obtain ⟨r,kk,tN⟩:=w2_ t s;have zy:=af tN;have iF:=af (λW (hb:Below wr.heap.size wr W)=>xr_ G F _ _ _ _ t s r kk tN W (gs.ext hb) (HSR.o.ext (Et (Et bL.o HB.o) hb)) gm eN.o);have kS:=af (λW=>Wz ⟨ua,un,uc,t.len,va,vn,vc,ug⟩ W);dsimp only at kS;have oj:=af (λW (hb:Below wr.heap.size wr W)=>(hI.ext hb).map.lookv g4 (VC.2 ⟨_,g8,rfl⟩));dsimp only [dT,bC.val] at oj;have q0:=(hI.box.cells 0).1;have kQ:=(fX.o.below HB.o);have x0:=(kQ.cells 0).1;have x1:=(kQ.cells 1).1;have x2:=(kQ.cells 2).1;have wW:=af hI;have ij:=af g2;obtain ⟨⟨a',c',he,_,_,hcl⟩,_,_⟩:=(HOW.o.ext HB.o).ints;injection he with e1 e2 e3
  rcases hcl with hcl|⟨b8,f8,xW,hcl⟩
  .exfalso;have:=congrArg List.length hcl;simp at this;rw [this] at hlt;simp at hlt
  have z0:wr.cell? ⟨b8,f8+k,none⟩=some (.int .i64 id):=by rw [hcl k (by simpa using hlt),g1]
  rw [xW] at e1;subst e1;clear e2 e3 xW hcl g1 g2 g5 g6 g7 g8 gs gm kQ hI;go_upto_region 7 with (fail)
  refine jE (w0:=wr) [0,1,2,3,4,5,6,7,8,9,10,11,12,13] [] (λv=>⟨#[.pointer (some ⟨p,0,none⟩),.agg #[.slice a1 s.cls.length c1,.int .i64 s.len,.slice a2 s.ext.length c2],undef,.pointer (some ⟨w.heap.size,0,none⟩),u4,u5,.slice o l.length oc,undef,.int .i64 id,v 12,v 13,.agg #[.slice a1 s.cls.length c1,.int .i64 s.len,.slice a2 s.ext.length c2],.bool true,.bool false,.pointer (some ⟨p,0,none⟩),.slice (some ⟨b8,f8,none⟩) E.length c,.int .i64 ↑E.length,.int .i64 ↑k,.bool true,.pointer (some ⟨b8,f8+k,none⟩),.int .i64 id,v 9,v 0,v 1,v 2,v 3,v 4,v 5,v 6,v 7,v 8,v 10,v 11,u33,u34,u35,u36,u37,u38,u39,u40,u41,undef],[]⟩) [.pointer (some ⟨p,0,none⟩),.pointer (some ⟨p,0,none⟩),.pointer (some ⟨p,0,none⟩),.map (some b),.int .i64 id,.agg #[.slice ua un uc,.int .i64 t.len,.slice va vn vc,.bool (ug 0),.bool (ug 1),.bool (ug 2),.bool (ug 3),.bool (ug 4),.bool (ug 5),.bool (ug 6)],.agg #[.slice ua un uc,.int .i64 t.len,.slice va vn vc],.agg #[.slice a1 s.cls.length c1,.int .i64 s.len,.slice a2 s.ext.length c2],.tuple #[.bool r,.int .i64 kk],.tuple #[.bool r,.int .i64 kk],.bool r,.int .i64 kk,.bool r,.int .i64 kk] (λW=>W.cell? ⟨p,0,none⟩=some (.map (some b))/\W.cell? ⟨w.heap.size,0,none⟩=some (.slice a1 s.cls.length c1)/\W.cell? ⟨w.heap.size,1,none⟩=some (.int .i64 s.len)/\W.cell? ⟨w.heap.size,2,none⟩=some (.slice a2 s.ext.length c2)/\Below wr.heap.size wr W) (λW hb=>⟨an.cell hb q0,an.cell hb x0,an.cell hb x1,an.cell hb x2,hb⟩) ?steps ?fin (λj=>match j with|0=>u22|1=>u23|2=>u24|3=>u25|4=>u26|5=>u27|6=>u28|7=>u29|8=>u30|9=>u21|10=>u31|11=>u32|12=>u9|13=>u10|_=>undef)
  case steps=>
   refine .c [] rfl ?_ (.c [0] rfl ?_ (.c [1] rfl ?_ (.c [2] rfl ?_ (.c [] rfl ?_ (.c [3,4] rfl ?_ (.c [5] rfl ?_ (.c [] rfl ?_ (.c [6,7] rfl ?_ (.c [8] rfl ?_ (.c [9] rfl ?_ (.c [9] rfl ?_ (.c [10] rfl ?_ (.c [11] rfl ?_ (.n))))))))))))));all_goals try exact jX
   all_goals
    rintro v W hb ⟨g0,g1,g2,g3,g4⟩;refine .inl ⟨rfl,λK hK=>?_⟩;simp only [ov,aD,Nat.reduceBEq,cond_true,cond_false]
    first
     | (have hq:=kS.o W;go_wp2_with fail;refine aQ (hK W (JV _ _)) ?_;simp [ov,aD];done)
     | (have hq:=oj.o W g4;go_wp2_with fail;refine aQ (hK W (JV _ _)) ?_;simp [ov,aD];done)
     | (go_wp2_with (go_at_call 28;(with_reducible refine (iF.o _ g4).mono ?_);rintro e w9 ⟨rfl,bg⟩);exact aQ (hK w9 bg) (by simp [ov,aD]))
  case fin=>
   rintro W3 hb3 ⟨g0,g1,g2,g3,-⟩;show wpList _ _ _ [] _ _;simp only [aD];have cq:=af (HB.o.trans (hb3.mono jV));have IM:=af (j8.o.ext hb3);have HBW3:=af hb3.size;have zl:=af g4;have bU:=af (show k+1<=E.length by omega);clear g0 g1 g2 g3 g4 hb3 z0 x0 x1 x2 q0;by_cases JZ:kk=0
   .subst JZ;cases r
    .have zH:=af (lF.o.snoc rfl zy.o (i:=id));go_wp2;go_roundw
     .exact ⟨k+1,l.length,o,oc,l,bU.o,by go_num,rfl,rfl,ad,af (by have:=zH.o;rw [ij.o];simpa using this),IM,cq⟩
     have:=bU.o;simp [intOf];omega
    have zH:=af (lF.o.snoc rfl zy.o (i:=id));go_wp2_with (at_builtin;(refine qc aC _ _ aC w2.heap.size (.slice o l.length oc) l id aC (IM.o.ext (Ea (Er _) _)) W3.heap.size _ aC ((ag.at (w:=W3) (b:=W3.heap.size) (c:=#[.int .i64 id]) (t:=3) rfl).cells 0).1 zl.o ad (by rw [U7];have:=cq.o.size;omega) ?_);intro g cap w5 az aJ cd;have lG:=af az;have bW:=af cd;clear az aJ cd);go_roundw
    .exact ⟨k+1,l.length+1,some ⟨g,0,none⟩,cap,l ++ [id],bU.o,by go_num,rfl,aj,aR,af (by have:=zH.o;rw [ij.o];simpa using this),lG,af ((cq.o.alloc cq.o.size _).trans bW.o)⟩
    have:=bU.o;simp [intOf];omega
   have HKK:=af JZ;have HST:=af (lF.o.stop rfl zy.o (i:=id) (R:=L.drop (k+1)) JZ);have np:Hid (L.take k ++ (id,t) :: L.drop (k+1)=L):=af (by
    have h1:=S0 (k+1) L;rw [ij.o,QL] at h1;exact h1)
   go_wp2
   go_ret2;exact ⟨[],kk,none,0,by rw [<- np.o];exact HST.o,rfl,al.nil _ _,bL.o.trans (cq.o.mono ad)⟩
 obtain rfl:k=E.length:=ad;have fg:¬ (E.length:Int)<E.length:=ad;have ng:=af (show jL s L l 0 by have:=lF.o;rwa [PM (by rw [DE.o];exact TZ _)] at this);go_wp2;go_ret2;exact ⟨l,0,o,oc,ng.o,rfl,j8.o.mono ad,(bL.o.trans (HB.o.mono ad))⟩
theorem Nz {s:aE} (h:bO s):0<=jl s.len s.ext/\jl s.len s.ext<=10080:=by
 have key:∀ (l:List ai) (m:Int),0<=m->m<=10080->(∀ x∈l,x.fin-x.frm<=10080)->0<=jl m l/\jl m l<=10080:=by
  intro l;induction l with
  | nil=>exact λm h1 h2 _=>⟨h1,h2⟩
  | cons x l ih=>
   intro m h1 h2 h3;have h4:=h3 x aj;exact ih (max m (x.fin-x.frm)) ad ad λy hy=>h3 y (P5 _ hy)
 have hl:=h.val.len;exact key _ _ ad hl.2 λx hx=>by
  have:=h.val.ins hx;unfold j_ at this;omega
theorem Z8 (P:Prop):∃ b:Bool,b=true↔P:=by
 by_cases h:P
 .exact ⟨true,by simp [h]⟩
 exact ⟨false,by simp [h]⟩
theorem Yh {P:Prop} {c:Bool} (h:b=true↔P) (g:c=true↔P):b=c:=by
 rw [ML,h,g]
def Yc (L:IL) (a b:Int) (w:World) (e:Ending) (w':World):Prop:=∃ l k o c,SJ L a b l k/\e=.returned (.tuple #[.slice o l.length c,.int .i64 k])/\al w' w.heap.size (.slice o l.length c) l/\Below w.heap.size w w'
theorem Jt (p b n:Nat) (G:Nat->Prop) (E:List (Int × bC)) (L:IL) (wa wb:Int) (w:World) (h:fy w p b n G E L) (ha:aS wa) (hb:aS wb) :
  Calls Tryz.prog 14 #[.pointer (some ⟨p,0,none⟩),.agg #[.int .i64 wa,.int .i64 wb]] w (Yc L wa wb w):=by
 have hpl:=h.box.lt;have hbl:=h.map.lt;obtain ⟨a1,a2⟩:=ha;obtain ⟨b1,b2⟩:=hb;have HI:=af h;have re:=af (λW (hb:Below w.heap.size w W)=>Jf p b n (E.map dT) W (h.ext hb).box (h.ext hb).map h.sorted h.num);have vK:E.length=L.length:=by have:=congrArg List.length h.ids;simpa [ids] using this
 have DE:=af vK;clear h vK;by_cases c1:wa < -2251799813685248
 .go_in
  go_wp2
  go_ret2;exact ⟨[],1,none,0,.inl ⟨.inl c1,rfl,rfl⟩,rfl,al.nil _ _,xE⟩
 by_cases c2:2251799813685248<wb
 .go_in
  go_wp2
  go_ret2;exact ⟨[],1,none,0,.inl ⟨.inr (.inl c2),rfl,rfl⟩,rfl,al.nil _ _,xE⟩
 by_cases c3:wb<wa
 .go_in
  go_wp2
  go_ret2;exact ⟨[],1,none,0,.inl ⟨.inr (.inr c3),rfl,rfl⟩,rfl,al.nil _ _,xE⟩
 have HC:=af (show ¬ (wa < -2251799813685248\/2251799813685248<wb\/wb<wa) by omega);by_cases c4:5760000<wb-wa
 .go_in
  go_wp2
  go_ret2;exact ⟨[],2,none,0,.inr ⟨HC.o,.inl ⟨c4,rfl,rfl⟩⟩,rfl,al.nil _ _,xE⟩
 have Iq:=af (show wb-wa<=5760000 by omega);have hbx:=ag.at (w:=w) (b:=w.heap.size) (c:=#[.int .i64 wa,.int .i64 wb]) (t:=29) rfl;have cD:=af hbx;clear hbx
 go_in
 go_wp2_with (go_at_call 36;(with_reducible refine (re.o _ (Ea (Er w) _)).mono ?_);rintro e w2 ⟨a,c,rfl,ho,hb2⟩;have HO:=af ho;have bl:=af hb2;clear ho hb2)
 have HOW:Hid (al w2 (w.heap.size+1) (.slice a E.length c) (E.map Prod.fst)):=af (by have:=HO.o.mono (base':=w.heap.size+1) aj;rw [xH,U6] at this;exact this);have fX:=af (cD.o.below bl.o);have bL:=af (Et (Ea (Er w) (.cells #[.int .i64 wa,.int .i64 wb] 29)) bl.o);have hz2:w.heap.size<w2.heap.size:=fX.o.lt;go_loopw [6,8,9,10,11,36] (λv6 _ _ _ _ vi wr=>∃ (k m:Nat) (o:Option Addr) (oc:Nat) (l:List Int),k<=E.length/\vi=.int .i64 k/\v6=.slice o m oc/\m=l.length/\l.length<=k/\Hid (l=ka (L.take k) wa wb)/\Hid (al wr w2.heap.size (.slice o m oc) l)/\Hid (Below w2.heap.size w2 wr)) (λ_ _ _ _ _ vi _=>E.length-(intOf vi).toNat)
 .exact ⟨0,0,none,0,[],ad,rfl,rfl,rfl,aj,af (by simp [ka,ids]),af (al.nil _ _),af (JV _ _)⟩
 obtain ⟨k,m,o,oc,l,hk,rfl,rfl,rfl,hlk,kS,j8,HB⟩:=hrel;have jV:=HB.o.size;have hlen:E.length<=17592186044416:=by have:=HOW.o.len;simpa using this
 by_cases hlt:k<E.length
 .have cP:(k:Int)<E.length:=ad;have hI:=HI.o.ext (Et bL.o HB.o);obtain ⟨id,u,t,g1,g2,g3,g4,g5,g6,g7,g8⟩:=Sm hI hlt;obtain ⟨ua,un,uc,ul,va,vn,vc,ug⟩:=u;obtain ⟨gs,gl,gm,gd⟩:=g3;dsimp only [bC.val] at gs gl g7 gd;subst gl;have uQ:=af (λcc hcc=>t1_ (L:=L.take k) (a:=wa) (b:=wb) (i:=id) (s:=t) (c:=cc) hcc);have ij:=af g2;have zm:=af gm;have Lz:=af gd;have zl:=af g4;have bU:=af (show k+1<=E.length by omega);have gw:=Nz gm;have TM:=af (λW (hb:Below wr.heap.size wr W)=>qq_ G _ _ t W (gs.ext hb) gm);obtain ⟨lm,pB⟩:∃ lm,jl t.len t.ext=lm:=⟨_,rfl⟩;rw [pB] at TM gw;have qW:=af pB;obtain ⟨lm1,lm2⟩:=gw;obtain ⟨r,hr⟩:=Z8 (uW ug ((wa-lm) / 1440) (wb / 1440));have B9:=af hr;have qZ:=af (λW=>(q4d ug lm wa wb W ad ad ad ad ad ad).mono λe w' ⟨r',he,hr',hb'⟩=>show e=Ending.returned (Value.bool r)/\Below W.heap.size W w' from ⟨by rw [he,Yh hr' hr],hb'⟩);change Hid (∀ W,Calls _ _ #[.agg #[.bool (ug 0),.bool (ug 1),.bool (ug 2),.bool (ug 3),.bool (ug 4),.bool (ug 5),.bool (ug 6)],_,_] W _) at qZ;have fu:=af (λW (hb:Below wr.heap.size wr W)=>XI G _ _ t wa W (gs.ext hb) gm ⟨a1,a2⟩);obtain ⟨hv,Qz⟩:=Z8 (rn t wa);have IA:=af Qz;have BX:=af (λW (hb:Below wr.heap.size wr W)=>(xq_ G _ _ t wa W (gs.ext hb) gm ⟨a1,a2⟩).mono λe w' ⟨r',he,hr',hb'⟩=>show e=Ending.returned (Value.bool hv)/\Below W.heap.size W w' from ⟨by rw [he,Yh hr' Qz],hb'⟩);have q0:=(hI.box.cells 0).1;have kQ:=(fX.o.below HB.o);have x0:=(kQ.cells 0).1;have x1:=(kQ.cells 1).1;have IZ:=af kQ;obtain ⟨⟨a',c',he,_,_,hcl⟩,_,_⟩:=(HOW.o.ext HB.o).ints;injection he with e1 e2 e3
  rcases hcl with hcl|⟨b8,f8,xW,hcl⟩
  .exfalso;have:=congrArg List.length hcl;simp at this;rw [this] at hlt;simp at hlt
  have z0:wr.cell? ⟨b8,f8+k,none⟩=some (.int .i64 id):=by rw [hcl k (by simpa using hlt),g1]
  rw [xW] at e1;subst e1;clear e2 e3 xW hcl g1 g2 g4 g5 g6 g8 gs gm gd kQ hI pB hr Qz;go_upto_region 10 with (fail)
  refine j9 (F:=λU=>ag U wr.heap.size #[.slice ua un uc,.int .i64 t.len,.slice va vn vc,.bool (ug 0),.bool (ug 1),.bool (ug 2),.bool (ug 3),.bool (ug 4),.bool (ug 5),.bool (ug 6)] 95/\Below wr.heap.size wr U) ⟨ag.new _ _ _,Ea (Er _) _⟩ ?_;rintro W1 ⟨eO,eI⟩;have x0:=an.cell eI x0;have x1:=an.cell eI x1;have n0:=(eO.cells 0).1;have n1:=(eO.cells 1).1;have n2:=(eO.cells 2).1;have n3:=(eO.cells 3).1;have n4:=(eO.cells 4).1;have n5:=(eO.cells 5).1;have n6:=(eO.cells 6).1;have n7:=(eO.cells 7).1;have n8:=(eO.cells 8).1;have n9:=(eO.cells 9).1;have To:=af eI;have gj:=af eO;have hzl:wr.heap.size<W1.heap.size:=eO.lt;clear eO;by_cases hT:wa=wb
  .have hNO:=af (show (false=true↔eG t wa wb) from ⟨λh=>(by cases h),λh=>by have:=h.1;omega⟩);subst hT;refine jE (w0:=W1) [0,1,2,3,4,5,6,7,8,9,10,11,12,13,14] [] (λv=>⟨#[.pointer (some ⟨p,0,none⟩),.agg #[.int .i64 wa,.int .i64 wa],undef,.pointer (some ⟨w.heap.size,0,none⟩),.slice none 0 0,.int .i64 0,.slice o l.length oc,undef,.int .i64 id,.pointer (some ⟨wr.heap.size,0,none⟩),u10,u11,.pointer (some ⟨w.heap.size,0,none⟩),.int .i64 wa,.bool false,.bool false,.pointer (some ⟨w.heap.size,1,none⟩),.int .i64 wa,.bool false,.bool false,.bool false,.pointer (some ⟨w.heap.size,0,none⟩),.int .i64 wa,.pointer (some ⟨w.heap.size,1,none⟩),.int .i64 wa,.bool false,.bool false,.pointer (some ⟨w.heap.size,1,none⟩),.int .i64 wa,.pointer (some ⟨w.heap.size,0,none⟩),.int .i64 wa,.int .i64 (wa-wa),.bool false,.pointer (some ⟨p,0,none⟩),.slice (some ⟨b8,f8,none⟩) E.length c,.int .i64 ↑E.length,.int .i64 ↑k,.bool true,.pointer (some ⟨b8,f8+k,none⟩),.int .i64 id,.pointer (some ⟨p,0,none⟩),.pointer (some ⟨p,0,none⟩),.pointer (some ⟨p,0,none⟩),.map (some b),.int .i64 id,.agg #[.slice ua un uc,.int .i64 t.len,.slice va vn vc,.bool (ug 0),.bool (ug 1),.bool (ug 2),.bool (ug 3),.bool (ug 4),.bool (ug 5),.bool (ug 6)],v 0,v 1,v 2,v 3,v 4,v 5,v 6,v 7,v 8,v 9,v 10,v 11,v 12,v 13,v 14,u61,u62,u63,u64,u65,u66,u67,u68,u69,u70,u71,u72,u73,u74,u75,u76,u77,u78,u79,u80,u81,u82,u83,u84,u85,u86,u87,u88,u89,undef],[]⟩) [.pointer (some ⟨w.heap.size,0,none⟩),.int .i64 wa,.pointer (some ⟨w.heap.size,1,none⟩),.int .i64 wa,.bool true,.bool true,undef,undef,undef,undef,undef,undef,undef,undef,.bool true] (λW=>W.cell? ⟨w.heap.size,0,none⟩=some (Value.int .i64 wa)/\W.cell? ⟨w.heap.size,1,none⟩=some (Value.int .i64 wa)) (λW hb=>⟨an.cell hb x0,an.cell hb x1⟩) ?steps ?fin (λj=>match j with|0=>u46|1=>u47|2=>u48|3=>u49|4=>u50|5=>u51|6=>u52|7=>u53|8=>u54|9=>u55|10=>u56|11=>u57|12=>u58|13=>u59|14=>u60|_=>undef)
   case steps=>
    refine .c [] rfl ?_ (.c [0] rfl ?_ (.c [] rfl ?_ (.c [2] rfl ?_ (.c [1,3] rfl ?_ (.c [4] rfl ?_ (.c [5] rfl ?_ (.c [5,6] rfl ?_ (.c [5] rfl ?_ (.c [5,8] rfl ?_ (.c [5,9] rfl ?_ (.c [5] rfl ?_ (.c [5,7,10,11] rfl ?_ (.c [5,12] rfl ?_ (.c [5,13] rfl ?_ (.n)))))))))))))));all_goals try exact jX
   case fin=>
    rintro W3 hb3 ⟨g0,g1⟩;show wpList _ _ _ [] _ _;simp only [aD];have cq:=af (Et To.o hb3);clear n0 n1 n2 n3 n4 n5 n6 n7 n8 n9 g0 g1 hb3 x0 x1 eI;go_wp2;go_roundw
    .exact ⟨k+1,l.length,o,oc,l,bU.o,by go_num,rfl,rfl,ad,af (by rw [ij.o,uQ.o false hNO.o,<- kS.o];simp),af (j8.o.ext cq.o),af (HB.o.trans (cq.o.mono jV))⟩
    have:=bU.o;simp [intOf];omega
  have AG:(wa == wb)=false:=by simp [hT]
  refine jE (w0:=W1) [0,1,2,3,4,5,6,7,8,9,10,11,12,13,14] [] (λv=>⟨#[.pointer (some ⟨p,0,none⟩),.agg #[.int .i64 wa,.int .i64 wb],undef,.pointer (some ⟨w.heap.size,0,none⟩),.slice none 0 0,.int .i64 0,.slice o l.length oc,undef,.int .i64 id,.pointer (some ⟨wr.heap.size,0,none⟩),u10,u11,.pointer (some ⟨w.heap.size,0,none⟩),.int .i64 wa,.bool false,.bool false,.pointer (some ⟨w.heap.size,1,none⟩),.int .i64 wb,.bool false,.bool false,.bool false,.pointer (some ⟨w.heap.size,0,none⟩),.int .i64 wa,.pointer (some ⟨w.heap.size,1,none⟩),.int .i64 wb,.bool false,.bool false,.pointer (some ⟨w.heap.size,1,none⟩),.int .i64 wb,.pointer (some ⟨w.heap.size,0,none⟩),.int .i64 wa,.int .i64 (wb-wa),.bool false,.pointer (some ⟨p,0,none⟩),.slice (some ⟨b8,f8,none⟩) E.length c,.int .i64 ↑E.length,.int .i64 ↑k,.bool true,.pointer (some ⟨b8,f8+k,none⟩),.int .i64 id,.pointer (some ⟨p,0,none⟩),.pointer (some ⟨p,0,none⟩),.pointer (some ⟨p,0,none⟩),.map (some b),.int .i64 id,.agg #[.slice ua un uc,.int .i64 t.len,.slice va vn vc,.bool (ug 0),.bool (ug 1),.bool (ug 2),.bool (ug 3),.bool (ug 4),.bool (ug 5),.bool (ug 6)],v 0,v 1,v 2,v 3,v 4,v 5,v 6,v 7,v 8,v 9,v 10,v 11,v 12,v 13,v 14,u61,u62,u63,u64,u65,u66,u67,u68,u69,u70,u71,u72,u73,u74,u75,u76,u77,u78,u79,u80,u81,u82,u83,u84,u85,u86,u87,u88,u89,undef],[]⟩) [.pointer (some ⟨w.heap.size,0,none⟩),.int .i64 wa,.pointer (some ⟨w.heap.size,1,none⟩),.int .i64 wb,.bool false,.bool false,.pointer (some ⟨wr.heap.size,3,none⟩),.agg #[.bool (ug 0),.bool (ug 1),.bool (ug 2),.bool (ug 3),.bool (ug 4),.bool (ug 5),.bool (ug 6)],.pointer (some ⟨wr.heap.size,0,none⟩),.agg #[.slice ua un uc,.int .i64 t.len,.slice va vn vc],.int .i64 lm,.agg #[.int .i64 wa,.int .i64 wb],.bool r,.bool (!r),.bool (!r)] (λW=>W.cell? ⟨w.heap.size,0,none⟩=some (Value.int .i64 wa)/\W.cell? ⟨w.heap.size,1,none⟩=some (Value.int .i64 wb)/\W.cell? ⟨wr.heap.size,0,none⟩=some (.slice ua un uc)/\W.cell? ⟨wr.heap.size,1,none⟩=some (Value.int .i64 t.len)/\W.cell? ⟨wr.heap.size,2,none⟩=some (.slice va vn vc)/\W.cell? ⟨wr.heap.size,3,none⟩=some (.bool (ug 0))/\W.cell? ⟨wr.heap.size,4,none⟩=some (.bool (ug 1))/\W.cell? ⟨wr.heap.size,5,none⟩=some (.bool (ug 2))/\W.cell? ⟨wr.heap.size,6,none⟩=some (.bool (ug 3))/\W.cell? ⟨wr.heap.size,7,none⟩=some (.bool (ug 4))/\W.cell? ⟨wr.heap.size,8,none⟩=some (.bool (ug 5))/\W.cell? ⟨wr.heap.size,9,none⟩=some (.bool (ug 6))/\Below wr.heap.size wr W) (λW hb=>⟨an.cell hb x0,an.cell hb x1,an.cell hb n0,an.cell hb n1,an.cell hb n2,an.cell hb n3,an.cell hb n4,an.cell hb n5,an.cell hb n6,an.cell hb n7,an.cell hb n8,an.cell hb n9,Et eI hb⟩) ?steps ?fin (λj=>match j with|0=>u46|1=>u47|2=>u48|3=>u49|4=>u50|5=>u51|6=>u52|7=>u53|8=>u54|9=>u55|10=>u56|11=>u57|12=>u58|13=>u59|14=>u60|_=>undef)
  case steps=>
   refine .c [] rfl ?_ (.c [0] rfl ?_ (.c [] rfl ?_ (.c [2] rfl ?_ (.c [1,3] rfl ?_ (.c [4] rfl ?_ (.c [5] rfl ?_ (.c [5,6] rfl ?_ (.c [5] rfl ?_ (.c [5,8] rfl ?_ (.c [5,9] rfl ?_ (.c [5] rfl ?_ (.c [5,7,10,11] rfl ?_ (.c [5,12] rfl ?_ (.c [5,13] rfl ?_ (.n)))))))))))))));all_goals try exact jX
   all_goals
    rintro v W hb ⟨g0,g1,m0,m1,m2,m3,m4,m5,m6,m7,m8,m9,cB⟩;refine .inl ⟨rfl,λK hK=>?_⟩;simp only [ov,aD,Nat.reduceBEq,cond_true,cond_false];go_wp2_with (first|(go_at_call 38;(with_reducible refine (TM.o _ cB).mono ?_);rintro e w9 ⟨rfl,bg⟩)|(go_at_call 37;(with_reducible refine (qZ.o _).mono ?_);rintro e w9 ⟨rfl,bg⟩));exact aQ (hK w9 bg) (by simp [ov,aD])
  case fin=>
   rintro W3 hb3 hg3;show wpList _ _ _ [] _ _;simp only [aD];have cq:=af (Et To.o hb3);have hz3:=cq.o.size;have x0:=an.cell hb3 x0;have x1:=an.cell hb3 x1;have n0:=an.cell hb3 n0;have n1:=an.cell hb3 n1;have n2:=an.cell hb3 n2;clear n3 n4 n5 n6 n7 n8 n9 hg3 hb3 eI;cases r
   .have gO:=af (show (false=true↔eG t wa wb) from ⟨λh=>(by cases h),λh=>B9.o.2 (by have:=q1w Lz.o h;rw [qW.o] at this;exact this)⟩);clear n0 n1 n2 x0 x1;go_wp2;go_roundw
    .exact ⟨k+1,l.length,o,oc,l,bU.o,by go_num,rfl,rfl,ad,af (by rw [ij.o,uQ.o false gO.o,<- kS.o];simp),af (j8.o.ext cq.o),af (HB.o.trans (cq.o.mono jV))⟩
    have:=bU.o;simp [intOf];omega
   have HWL:=af (show wa<wb by have:=HC.o;omega);go_upto_region 12 with (go_at_call 30;(with_reducible refine (fu.o _ cq.o).mono ?_);rintro e w4 ⟨y,cc,rfl,hN,hb4⟩;have HN:=af hN;have cR:=af hb4;have x0:=an.cell hb4 x0;have x1:=an.cell hb4 x1;have n0:=an.cell hb4 n0;have n1:=an.cell hb4 n1;have n2:=an.cell hb4 n2;clear hN hb4)
   have kT:=af (Nr zm.o HWL.o HN.o);refine j9 (F:=λU=>ag U w4.heap.size #[.int .i64 y.day,.int .i64 y.frm,.int .i64 y.fin] 46/\Below w4.heap.size w4 U) ⟨ag.new _ _ _,Ea (Er _) _⟩ ?_;rintro W5 ⟨F8,nP⟩;have eI:Below wr.heap.size wr W5:=Et (Et cq.o cR.o) nP;have bW:=af eI;have x0:=an.cell nP x0;have x1:=an.cell nP x1;have n0:=an.cell nP n0;have n1:=an.cell nP n1;have n2:=an.cell nP n2;have k1:=(F8.cells 1).1;clear F8 nP;cases hv
   .cases cc
    .skip
     have gO:=af (show (false=true↔eG t wa wb) from ⟨λh=>(by cases h),λh=>absurd (kT.o.1 h) (λh=>h.elim (λh=>absurd (IA.o.2 h) aj) (λh=>by cases h.1))⟩);go_wp2_with (go_at_call 39;(with_reducible refine (BX.o _ eI).mono ?_);rintro e W6 ⟨rfl,bG⟩;have x1:=an.cell bG x1;have k1:=an.cell bG k1;have bR:=af (Et bW.o bG);clear bG);go_roundw
     .exact ⟨k+1,l.length,o,oc,l,bU.o,by go_num,rfl,rfl,ad,af (by rw [ij.o,uQ.o false gO.o,<- kS.o];simp),af (j8.o.ext bR.o),af (HB.o.trans (bR.o.mono jV))⟩
     have:=bU.o;simp [intOf];omega
    by_cases hl:y.frm<wb
    .have pU:=af hl;have zU:=af (show (true=true↔eG t wa wb) from ⟨λ_=>kT.o.2 (.inr ⟨rfl,pU.o⟩),λ_=>rfl⟩);go_wp2_with (first|(go_at_call 39;(with_reducible refine (BX.o _ eI).mono ?_);rintro e W6 ⟨rfl,bG⟩;have x1:=an.cell bG x1;have k1:=an.cell bG k1;have bR:=af (Et bW.o bG);have Ek:=af (j8.o.ext bR.o);have mY:=af (HB.o.trans (bR.o.mono jV));have BD:=mY.o.size;clear bG)|(at_builtin;(refine qc aC _ _ aC w2.heap.size (.slice o l.length oc) l id aC (Ek.o.ext (Ea (Er _) _)) W6.heap.size _ aC ((ag.at (w:=W6) (b:=W6.heap.size) (c:=#[.int .i64 id]) (t:=3) rfl).cells 0).1 zl.o ad (by rw [U7];omega) ?_);intro g cap w7 az aJ cd;have iJ:=af az;have gV:=af cd;clear az aJ cd));go_roundw
     .exact ⟨k+1,l.length+1,some ⟨g,0,none⟩,cap,l ++ [id],bU.o,by go_num,rfl,aj,aR,af (by rw [ij.o,uQ.o true (by simpa using zU.o),<- kS.o];simp),iJ,af ((mY.o.alloc mY.o.size _).trans gV.o)⟩
     have:=bU.o;simp [intOf];omega
    have pU:=af hl;have gO:=af (show (false=true↔eG t wa wb) from ⟨λh=>(by cases h),λh=>absurd (kT.o.1 h) (λh=>h.elim (λh=>absurd (IA.o.2 h) aj) (λh=>pU.o h.2))⟩);go_wp2_with (go_at_call 39;(with_reducible refine (BX.o _ eI).mono ?_);rintro e W6 ⟨rfl,bG⟩;have x1:=an.cell bG x1;have k1:=an.cell bG k1;have bR:=af (Et bW.o bG);clear bG);go_roundw
    .exact ⟨k+1,l.length,o,oc,l,bU.o,by go_num,rfl,rfl,ad,af (by rw [ij.o,uQ.o false gO.o,<- kS.o];simp),af (j8.o.ext bR.o),af (HB.o.trans (bR.o.mono jV))⟩
    have:=bU.o;simp [intOf];omega
   skip
   have zU:=af (show (true=true↔eG t wa wb) from ⟨λ_=>kT.o.2 (.inl (IA.o.1 rfl)),λ_=>rfl⟩);go_wp2_with (first|(go_at_call 39;(with_reducible refine (BX.o _ eI).mono ?_);rintro e W6 ⟨rfl,bG⟩;have x1:=an.cell bG x1;have k1:=an.cell bG k1;have bR:=af (Et bW.o bG);have Ek:=af (j8.o.ext bR.o);have mY:=af (HB.o.trans (bR.o.mono jV));have BD:=mY.o.size;clear bG)|(at_builtin;(refine qc aC _ _ aC w2.heap.size (.slice o l.length oc) l id aC (Ek.o.ext (Ea (Er _) _)) W6.heap.size _ aC ((ag.at (w:=W6) (b:=W6.heap.size) (c:=#[.int .i64 id]) (t:=3) rfl).cells 0).1 zl.o ad (by rw [U7];omega) ?_);intro g cap w7 az aJ cd;have iJ:=af az;have gV:=af cd;clear az aJ cd));go_roundw
   .exact ⟨k+1,l.length+1,some ⟨g,0,none⟩,cap,l ++ [id],bU.o,by go_num,rfl,aj,aR,af (by rw [ij.o,uQ.o true (by simpa using zU.o),<- kS.o];simp),iJ,af ((mY.o.alloc mY.o.size _).trans gV.o)⟩
   have:=bU.o;simp [intOf];omega
 obtain rfl:k=E.length:=ad;have ng:=af (show l=ka L wa wb by have:=kS.o;rwa [PM (by rw [DE.o];exact TZ _)] at this);have fg:¬ (E.length:Int)<E.length:=ad;go_wp2;go_ret2;exact ⟨l,0,o,oc,.inr ⟨HC.o,.inr ⟨Iq.o,ng.o,rfl⟩⟩,rfl,j8.o.mono ad,(bL.o.trans (HB.o.mono ad))⟩
def zp_ (w:World) (e:Ending) (w':World):Prop:=∃ a l,(-102999<=a/\a<=96999)/\(0<=l/\l<=21599)/\e=.returned (.agg #[.int .i64 a,.int .i64 (a+l)])/\Below w.heap.size w w'
theorem qr_ (t n:Int) (w:World) (h1:-2147483648<=t) (h2:t<=2147483647) (h3:0<=n) (h4:n<=65535) :
  Calls Tryz.prog 32 #[.int .i32 t,.int .u16 n] w (zp_ w):=by
 have e1:-99999<=Int.tmod t 100000/\Int.tmod t 100000<=99999:=by
  rcases Int.le_total 0 t with h|h
  .rw [NY h];omega
  have h5:Int.tmod t 100000=-(Int.tmod (-t) 100000):=by rw [Int.neg_tmod,Int.neg_neg]
  rw [h5,NY ad];omega
 have e2:0<=Int.tmod n 21600/\Int.tmod n 21600<=21599:=by rw [NY h3];omega
 obtain ⟨a,ha⟩:∃ a,Int.tmod t 100000=a:=⟨_,rfl⟩;obtain ⟨l,hl⟩:∃ a,Int.tmod n 21600=a:=⟨_,rfl⟩;rw [ha] at e1;rw [hl] at e2;have HA:=af ha;have HL:=af hl;clear ha hl
 go_in
 go_upto_region 2 with fail
 rw [HA.o];go_wp2_with fail;have hw1:wrap64 (a-3000)=a-3000:=by first|(apply wrap64_of <;> omega)|(unfold wrap64;omega)
 rw [hw1];have e3:0<=n % 21600/\n % 21600<=21599:=ad;have hw2:wrap64 (a-3000+n % 21600)=a-3000+n % 21600:=by first|(apply wrap64_of <;> omega)|(unfold wrap64;omega)
 rw [hw2];have hb:=ag.new w #[.int .i64 (a-3000),.int .i64 (a-3000+n % 21600)] 29;have s0:=(hb.cells 0).1;have s1:=(hb.cells 1).1;exact VN (v:=.agg #[.int .i64 (a-3000),.int .i64 (a-3000+n % 21600)]) (by simp [results,Tryz.results32,go_sem]) rfl ⟨a-3000,n % 21600,ad,e3,rfl,xE⟩
def di (r m l:Int):aE:=⟨[⟨[[ev r 2]],m⟩],l,[]⟩
theorem RE {m l:Int} (h0:0<=r) (h1:r<2) (h2:-4320<=m) (h3:m<=4320) (h4:1<=l) (h5:l<=10080):bO (di r m l):=by
 have mO:=vz (n:=2) h0 h1 ⟨13860,aG⟩;have oM:FV 0 (ev r 2):=⟨mO.fac,by have:=mO.fac.frm;omega⟩;have A9:MV 0 [[ev r 2]]:=by
  have ht:∀ t∈[[ev r 2]],lj 0 t:=λt ht=>by
   rw [N2] at ht;subst ht;exact ⟨aj,λq hq=>by rw [N2] at hq;subst hq;exact oM,aj⟩
  exact ⟨(Ad ht).2 (ok_one aj),ht⟩
 refine ⟨⟨by simp [di],⟨h4,h5⟩,by simp [di],λi hi=>?_,λi hi=>by simp [di] at hi⟩,λc hc=>?_⟩
 .have hi0:i=0:=by simp [di] at hi;exact hi
  subst hi0;exact ⟨A9.val,⟨h2,h3⟩,λj hj=>ad⟩
 have hc:c=⟨[[ev r 2]],m⟩:=by simpa [di] using hc
 rw [hc];exact A9
theorem RF (r m l:Int) (h0:0<=r) (h1:r<2) (hm:aS m) (hl:aS l) (w:World):Calls Tryz.prog 25 #[.int .i64 r,.int .i64 m,.int .i64 l] w (Kz (di r m l) w):=by
 have mO:=vz (n:=2) h0 h1 ⟨13860,aG⟩;have Vv:ofM (ev r 2)=[[ev r 2]]:=by unfold ofM;rw [mO.canonC,show Ap (ev r 2)=false from by simp [Ap,ev]];rfl
 have oM:FV 0 (ev r 2):=⟨mO.fac,by have:=mO.fac.frm;omega⟩;have HO:=λW b (h:ag W b #[.int .i64 r] 3)=>q3h 0 (.slice none 0 0) (.slice (some ⟨b,0,none⟩) 1 1) (ev r 2) W ⟨Ints.nil _,Ints.lit (l:=[r]) h aj (λx hx=>by rw [N2] at hx;subst hx;exact ⟨ad,ad⟩)⟩ oM;rw [Vv] at HO;change ∀ W b,_->Calls _ _ #[.agg #[.slice none 0 0,.int .i64 0,.int .i64 2,.slice (some ⟨b,0,none⟩) 1 1]] W _ at HO;clear mO Vv oM;have HM:=af hm;have HL:=af hl;clear hm hl
 go_in
 go_wp2_with (go_at_call 53;(refine (HO _ _ xB).mono ?_;rintro e w1 ⟨a,c,rfl,hm,hb1⟩;have b0:ag w1 w.heap.size #[.slice none 0 0,.int .i64 0,.slice none 0 0] 43:=ag.below xB hb1;have b2:=b0.alloc (.cells #[.slice a 1 c,.int .i64 m] 59);have x0:=b2.cells 0;have x1:=b2.cells 1;have x2:=b2.cells 2;have hz1:=hb1.size))
 have aM:=xK (x':=.slice (some ⟨w1.heap.size,0,none⟩) 1 1) (y':=.int .i64 l) (z':=.slice none 0 0) b2;have s0:=(aM.cells 0).1;have s1:=(aM.cells 1).1;have s2:=(aM.cells 2).1;have hz:w.heap.size+2<=w1.heap.size:=by simpa using hz1
 have hm1:aF w1 (λb=>w.heap.size+1<=b) (.slice a 1 c) [[ev r 2]]:=hm.mono λb hb=>by simp at hb;omega
 have hr:=ag.new w1 #[.slice a 1 c,.int .i64 m] 59;have hst:bq (w1.alloc (.cells #[.slice a 1 c,.int .i64 m] 59)) (λb=>w.heap.size+1<=b) (.slice (some ⟨w1.heap.size,0,none⟩) 1 1) (.slice none 0 0) (di r m l):=
  ⟨[⟨.slice a 1 c,[[ev r 2]],m⟩],rfl,⟨⟨_,1,rfl,aj,ad,.inr ⟨w1.heap.size,0,rfl,ad,hr.lt,λi u hi=>by rw [S1,(hr.cells i).1,<- hi];simp [br.enc]⟩⟩,aj,λx hx=>by
   rw [N2] at hx;subst hx;exact ⟨hm1.ext (Ea (Er _) _),HM.o⟩⟩,⟨⟨none,0,rfl,by simp [di],ad,.inl rfl⟩,by simp [di],λx hx=>by simp [di] at hx⟩,HL.o⟩
 have fS:World.grownBy (w1.alloc (.cells #[.slice a 1 c,.int .i64 m] 59)) ((((w1.alloc (.cells #[.slice a 1 c,.int .i64 m] 59)).setCell ⟨w.heap.size,0,none⟩ (.slice (some ⟨w1.heap.size,0,none⟩) 1 1)).setCell ⟨w.heap.size,1,none⟩ (.int .i64 l)).setCell ⟨w.heap.size,2,none⟩ (.slice none 0 0)) (some w.heap.size):=World.grownBy.set' (World.grownBy.set' (World.grownBy.set' (P7 _ _) _) _) _;exact VN (v:=.agg #[.slice (some ⟨w1.heap.size,0,none⟩) 1 1,.int .i64 l,.slice none 0 0]) (by simp [results,Tryz.results25,go_sem,s0,s1,s2]) rfl ⟨_,1,none,0,rfl,((hst.keep (aP.grown fS ad) fS.size).mono λb hb=>ad).lt,(((Et (Ea (Ea (Er w) _) _) hb1).trans ((Ea (Er w1) _).mono ad)).setCell (p:=⟨w.heap.size,0,none⟩) (TZ _) _ |>.setCell (p:=⟨w.heap.size,1,none⟩) (TZ _) _ |>.setCell (p:=⟨w.heap.size,2,none⟩) (TZ _) _)⟩
def dh:aE:=⟨[],1,[⟨1,1440,1500⟩]⟩
def cu:IL:=[(3,di 0 0 60),(5,dh)]
theorem Aq {x:ai}:iN dh x↔x=⟨1,1440,1500⟩:=by
 unfold iN dh;simp
theorem SU {n:Int}:aW [[ev r 2]] n↔0<=n/\n % 2=r:=by
 unfold aW bj;simp [Hz]
theorem Ak {m l:Int} {x:ai}:iN (di r m l) x↔(0<=x.day/\x.day % 2=r)/\x.frm=x.day*1440+m/\x.fin=x.day*1440+m+l/\x.fin<=2251799813685248:=by
 unfold iN di;constructor
 .rintro (⟨c,hc,⟨h1,h2⟩,h3⟩|h)
  .rw [N2] at hc;subst hc;refine ⟨SU.1 h1,?_,?_,h3⟩
   .rw [h2];rfl
   rw [h2];rfl
  simp at h
 rintro ⟨h1,h2,h3,h4⟩;exact .inl ⟨_,N2.2 rfl,⟨SU.2 h1,ai.ext' rfl h2 h3⟩,h4⟩
theorem q3x:bO dh:=by
 refine ⟨⟨by simp [dh],⟨by simp [dh],by simp [dh]⟩,by simp [dh],λi hi=>by simp [dh] at hi,λi hi=>?_⟩,λc hc=>by simp [dh] at hc⟩;have hi0:i=0:=by simp [dh] at hi;exact hi
 subst hi0;refine ⟨?_,λj hj=>ad⟩;show j_ ⟨1,1440,1500⟩;unfold j_;simp
theorem R0 {b:Int} (h1:eG (di 0 0 60) a b↔3∈l) (h2:eG dh a b↔5∈l) (hl:l=[3]\/l=[]\/l=[3,5]):ka cu a b=l:=by
 unfold ka cu ids;rcases hl with rfl|rfl|rfl <;> simp only [List.filter_cons,List.filter_nil] <;> simp only [h1,h2] <;> simp
theorem On:ka cu 0 60=[3]:=by
 refine R0 ⟨λ_=>by simp,λ_=>⟨ad,⟨0,0,60⟩,Ak.2 aj,aj,aj⟩⟩ ⟨?_,aj⟩ (.inl rfl);rintro ⟨h0,x,hx,h1,h2⟩;rw [Aq] at hx;subst hx;simp at h1
theorem Oo:ka cu 60 1440=[]:=by
 refine R0 ⟨?_,aj⟩ ⟨?_,aj⟩ (.inr (.inl rfl))
 .rintro ⟨h0,x,hx,h1,h2⟩;rw [Ak] at hx;omega
 rintro ⟨h0,x,hx,h1,h2⟩;rw [Aq] at hx;subst hx;simp at h1
theorem Oq:ka cu 1499 2881=[3,5]:=
 R0 ⟨λ_=>by simp,λ_=>⟨ad,⟨2,2880,2940⟩,Ak.2 aj,aj,aj⟩⟩ ⟨λ_=>by simp,λ_=>⟨ad,⟨1,1440,1500⟩,Aq.2 rfl,aj,aj⟩⟩ (.inr (.inr rfl))
theorem Ov:jk cu 1 5 ⟨1,1440,1500⟩ true:=by
 refine .inl ⟨rfl,dh,by simp [cu],.inl ⟨rfl,Aq.2 rfl,aj,λy hy _=>?_⟩,λj t y hj hy=>?_⟩
 .rw [Aq.1 hy];exact bo.irrefl
 rcases hy with ⟨_,h1,h2,h3⟩|⟨h,_⟩
 .unfold cu at hj;simp only [U3,UN,or_false,Prod.mk.injEq] at hj;rcases hj with ⟨rfl,rfl⟩|⟨rfl,rfl⟩
  .rw [Ak] at h1;unfold bo;dsimp only;omega
  rw [Aq.1 h1];exact ⟨bo.irrefl,ad⟩
 cases h
theorem Ow:jk cu 1441 3 ⟨2,2880,2940⟩ true:=by
 refine .inl ⟨rfl,di 0 0 60,by simp [cu],.inl ⟨rfl,Ak.2 aj,aj,λy hy hf=>?_⟩,λj t y hj hy=>?_⟩
 .rw [Ak] at hy;unfold bo;dsimp only;omega
 rcases hy with ⟨_,h1,h2,h3⟩|⟨h,_⟩
 .unfold cu at hj;simp only [U3,UN,or_false,Prod.mk.injEq] at hj;rcases hj with ⟨rfl,rfl⟩|⟨rfl,rfl⟩
  .rw [Ak] at h1;refine ⟨?_,ad⟩;unfold bo;dsimp only;omega
  rw [Aq.1 h1] at h2;simp at h2
 cases h
theorem Ot:oB (di 0 0 60) (di 1 30 10) false 0:=by
 have hp:∀ p∈oC (di 0 0 60) (di 1 30 10),p=⟨⟨[[ev 0 2]],0⟩,⟨[[ev 1 2]],30⟩,0⟩:=λp hp=>by
  obtain ⟨h1,h2,h3⟩:=tz_.1 hp;have h4:=(yo_ (a:=di 0 0 60) (b:=di 1 30 10)).1 h3;obtain ⟨c,d,k⟩:=p;obtain rfl:c=⟨[[ev 0 2]],0⟩:=by simpa [di] using h1
  obtain rfl:d=⟨[[ev 1 2]],30⟩:=by simpa [di] using h2
  unfold eH di at h4;dsimp only at h4;obtain rfl:k=0:=ad;rfl
 have hn:∀ p∈oC (di 0 0 60) (di 1 30 10),∀ n,¬ Ai p n:=λp hm n h=>by
  rw [hp p hm] at h;have h2:aW (dY [[ev 0 2]] [[ev 1 2]]) n:=h;unfold aW bj dY at h2;simp [Hz] at h2;omega
 have hb:¬ Cz (di 0 0 60) (di 1 30 10):=by
  rintro ⟨p,hm,hbig⟩;rw [hp p hm] at hbig;refine hbig ?_;show Ao (C8 (dY [[ev 0 2]] [[ev 1 2]]));have hf:∀ t∈dY [[ev 0 2]] [[ev 1 2]],qo 0 t:=qz_ (λt ht=>by
   rw [N2] at ht;subst ht;exact ⟨aj,λq hq=>by rw [N2] at hq;subst hq;exact (vz ad ad ⟨13860,aG⟩).fac⟩) (λt ht=>by
   rw [N2] at ht;subst ht;exact ⟨aj,λq hq=>by rw [N2] at hq;subst hq;exact (vz ad ad ⟨13860,aG⟩).fac⟩)
  obtain ⟨_,_,h3,h4⟩:=(Sb (dY [[ev 0 2]] [[ev 1 2]])).ok hf;refine ⟨NN h3 (by simp [dY]),h4 4 ad λt ht=>?_⟩;have:t=[ev 0 2,ev 1 2]:=by simpa [dY] using ht
  rw [this];simp
 refine .inr ⟨?_,.inr ⟨hb,rfl,⟨λh=>(nomatch h),λ⟨p,hm,n,h⟩=>absurd h (hn p hm n)⟩⟩⟩;rintro (⟨x,hx,_⟩|⟨x,hx,_⟩|⟨p,hm,n,_,_,h⟩)
 .simp [di] at hx
 .simp [di] at hx
 exact hn p hm n h
theorem Ou:oB dh (di 1 30 10) true 0:=by
 refine .inl ⟨.inl ⟨⟨1,1440,1500⟩,by simp [dh],.inl ⟨⟨1,1470,1480⟩,⟨⟨[[ev 1 2]],30⟩,by simp [di],SU.2 aj,rfl⟩,?_⟩⟩,rfl,rfl⟩;unfold eH;simp
theorem yw_:jL (di 1 30 10) cu [5] 0:=.no Ot (.yes Ou .nil)
theorem Pc (v1 v2:Value) (l1 l2:List Int) (w:World) (h1:Ints w v1 l1) (h2:Ints w v2 l2) :
  Calls Tryz.prog 21 #[v1,v2] w λe w'=>e=.returned (.bool (decide (l1=l2)))/\Below w.heap.size w w':=by
 have H1:=af h1;have H2:=af h2;obtain ⟨⟨a1,c1,rfl,_,_,_⟩,g4,_⟩:=h1;obtain ⟨⟨a2,c2,rfl,_,_,_⟩,k4,_⟩:=h2
 go_in
 by_cases hl:l1.length=l2.length
 .have cP:(l1.length:Int)=l2.length:=ad;have np:=af hl;have U_:((l1.length:Int) != (l2.length:Int))=false:=by rw [cP];simp
  rw [cP] at U_;clear hl;go_wp2;go_loopw [5] (λi wr=>∃ k:Nat,k<=l1.length/\i=.int .i64 k/\l1.take k=l2.take k/\Below w.heap.size w wr) (λi _=>l1.length-(intOf i).toNat)
  .exact ⟨0,ad,rfl,aj,xE⟩
  obtain ⟨k,hk,rfl,ht,hb⟩:=hrel;have HT:=af ht;clear ht;by_cases hlt:k<l1.length
  .have hlt2:k<l2.length:=by have:=np.o;omega
   obtain ⟨⟨a1',c1',cN,_,_,g3⟩,_,_⟩:=H1.o.ext hb;obtain ⟨⟨a2',Um,eP,_,_,k3⟩,_,_⟩:=H2.o.ext hb;injection cN with e1 _ e2
   subst e1;subst e2;injection eP with e1 _ e2
   subst e1;subst e2;rcases g3 with h|⟨b1,o1,rfl,q6n⟩
   .subst h;simp at hlt
   rcases k3 with h|⟨b2,o2,rfl,sa⟩
   .subst h;simp at hlt2
   have HB:=af hb;have hc1:=q6n k hlt;have hc2:=sa k hlt2;have HST:=af (wq_ np.o hlt HT.o);generalize hx:l1.getD k 0=x at *;generalize hy:l2.getD k 0=y at *;have HX:=af hx;have HY:=af hy;clear q6n sa hx hy hb;by_cases oR:x=y
   .have Ue:=af oR;have hb:(x != y)=false:=by rw [Ue.o];simp
    clear oR;go_wp2_with fail;go_quiet (fail)
    go_wp2
    go_roundw
    .exact ⟨k+1,ad,by go_num,HST.o Ue.o,by have hb:=HB.o;exact xE⟩
    simp [intOf];omega
   have hb:(x != y)=true:=by simp [oR]
   have hne:l1≠l2:=λh=>oR (by rw [<- HX.o,<- HY.o,h]);go_wp2_with fail;go_quiet (fail)
   go_wp2
   go_ret;exact ⟨bX (by simp [hne]),by have hb:=HB.o;exact xE⟩
  have heq:l1=l2:=by
   have h:=HT.o;rw [PM ad,PM (by have:=np.o;omega)] at h;exact h
  go_wp2
  go_ret;exact ⟨bX (by simp [heq]),xE⟩
 have cP:¬ (l1.length:Int)=l2.length:=ad;have U_:((l1.length:Int) != (l2.length:Int))=true:=by simp [cP]
 have hne:l1≠l2:=λh=>hl (by rw [h]);go_wp2;go_ret;exact ⟨bX (by simp [hne]),xE⟩
theorem u3_ (v:Value) (l:List Int) (x:Int) (w:World) (h:Ints w v l) :
  Calls Tryz.prog 29 #[v,.int .i64 x] w λe w'=>e=.returned (.bool (decide (x∈l)))/\w'=w:=by
 have H:=af h;obtain ⟨⟨a,c,rfl,_,_,_⟩,g4,_⟩:=h
 go_in
 go_wp2
 go_loopw [5] (λi wr=>∃ k:Nat,k<=l.length/\i=.int .i64 k/\wr=w/\Hid (∀ y∈l.take k,y≠x)) (λi _=>l.length-(intOf i).toNat)
 .exact ⟨0,ad,rfl,rfl,af aj⟩
 obtain ⟨k,hk,rfl,rfl,HN⟩:=hrel;by_cases hlt:k<l.length
 .have cP:(k:Int)<l.length:=ad;obtain ⟨b8,f8,rfl,-,AR,sA,-⟩:=H.o.elem hlt;obtain ⟨y,hy⟩:∃ y,l.getD k 0=y:=⟨_,rfl⟩;rw [hy] at AR sA;have HY:=af hy;have HM:=af sA;clear hy sA;by_cases oR:y=x
  .have HX:=af oR;subst oR;go_wp2;go_ret;exact ⟨bX (Eq.symm (PH HM.o)),rfl⟩
  have HX:=af oR;go_wp2;go_roundw
  .exact ⟨k+1,ad,by go_num,trivial,af (OY (P:=λy=>y≠x) hlt HN.o (by rw [HY.o];exact HX.o))⟩
  simp [intOf];omega
 obtain rfl:k=l.length:=ad;have hno:x ∉ l:=λhm=>by have:=HN.o x (by rw [OC];exact hm);exact this rfl
 have gO:=af hno;clear hno;go_wp2;go_ret;exact ⟨bX (Eq.symm (P9 gO.o)),rfl⟩
theorem fy.new (hb:ag w' (w.heap.size+1) #[.map (some w.heap.size)] 98) (hm:df w' w.heap.size 0 []):fy w' (w.heap.size+1) w.heap.size 0 (λk=>w.heap.size+2<=k) [] []:=
 ⟨hb,hm,ad,.nil,rfl,λi x hx=>by simp at hx,ad,ad⟩
theorem Om {b:Nat} (h:ag W b #[.int .i64 1,.int .i64 1440,.int .i64 1500] 46):bq W (λk=>b<=k) (.slice none 0 0) (.slice (some ⟨b,0,none⟩) 1 1) dh:=
 ⟨[],rfl,⟨⟨none,0,rfl,aj,ad,.inl rfl⟩,aj,λx hx=>by simp at hx⟩,⟨⟨_,1,rfl,by simp [dh],ad,.inr ⟨b,0,rfl,TZ _,h.lt,λi u hi=>by rw [S1,(h.cells i).1,<- hi];simp [dh,bH]⟩⟩,by simp [dh],λx hx=>by
  have hx:x=⟨1,1440,1500⟩:=by simpa [dh] using hx
  subst hx;exact ⟨by unfold aS;simp,by unfold aS;simp,by unfold aS;simp⟩⟩,by unfold aS;simp [dh]⟩
theorem u7_ (w:World):Calls Tryz.prog 12 #[] w λe w'=>e=.returned (.bool true)/\Below w.heap.size w w':=by
 have HN:=af (R2 w);have HE:=af (λW=>RF 0 0 60 ad ad ⟨ad,ad⟩ ⟨ad,ad⟩ W);have mB:=af (λW=>RF 1 30 10 ad ad ⟨ad,ad⟩ ⟨ad,ad⟩ W);have um:=af (λW=>RF 0 0 1 ad ad ⟨ad,ad⟩ ⟨ad,ad⟩ W);have eN:Hid (bO (di 0 0 60)):=af (RE ad ad ad ad ad ad)
 go_in
 go_upto_region 2 with (go_at_call 31;(with_reducible refine HN.o.mono ?_);rintro e w1 ⟨rfl,lT,lY,hb1,hz1⟩;have bm:=af hb1;have HI1:=af (fy.new lT lY);clear lT lY hb1)
 go_upto_region 3 with (first|(go_at_call 25;((with_reducible refine (HE.o w1).mono ?_);rintro e w2 ⟨y1,z1,y2,z2,rfl,hs2,hb2⟩;have dV:=af hs2;have wW:=af (HI1.o.ext hb2);have bl:=af (bm.o.trans (hb2.mono bm.o.size));have hz2:=hb2.size;clear hs2 hb2))|(go_at_call 24;((with_reducible refine (Fo _ _ 0 _ _ [] [] 3 _ _ (di 0 0 60) w2 wW.o ad dV.o eN.o (by unfold aS;omega)).mono ?_);rintro e w3 hr;obtain ⟨rfl,hg3,n3,E3,J4,gp⟩:=Gr wW.o ad hr;rw [show fY [] 3=0 from rfl];have nj:=af (gp.mono (G':=λk=>w.heap.size+2<=k) (λk hk=>by rcases hk with hk|hk <;> omega) ad);have cq:=af (bl.o.trans (qd hg3 (TZ _) ad));have q_:=af J4;have hz3:=hg3.size;clear hr hg3 gp J4)))
 have Kj:w.heap.size+2<=w3.heap.size:=ad;have fR:=af (Om (ag.new w3 #[.int .i64 1,.int .i64 1440,.int .i64 1500] 46));go_upto_region 4 with (go_at_call 24;((refine (Fo _ _ n3 _ _ E3 (gC [] 3 (di 0 0 60)) 5 _ _ dh _ (nj.o.ext (Ea (Er w3) _)) (by have:=q_.o;omega) fR.o q3x (by unfold aS;omega)).mono ?_);rintro e w4 hr;obtain ⟨rfl,hg4,n4,E4,hn4,CQ⟩:=Gr (nj.o.ext (Ea (Er w3) _)) ad hr;rw [show fY (gC [] 3 (di 0 0 60)) 5=0 from rfl];have uv:Hid (fy w4 (w.heap.size+1) w.heap.size n4 (λk=>w.heap.size+2<=k) E4 cu):=af (CQ.mono (G':=λk=>w.heap.size+2<=k) (λk hk=>by rw [U7] at hk;rcases hk with hk|hk <;> omega) ad);have cR:=af ((cq.o.trans ((Ea (Er w3) _).mono ad)).trans (qd hg4 (TZ _) (by rw [U7];omega)));have TS:Hid (n4<=2):=af (by have:=q_.o;omega);clear hr hg4 CQ hn4))
 go_upto_region 5 with (go_at_call 14;((with_reducible refine (Jt _ _ n4 _ E4 cu (0) (60) w4 uv.o (by unfold aS;omega) (by unfold aS;omega)).mono ?_);rintro e w5 ⟨l5,k5,o5,c5,hf,rfl,ho,hb⟩;obtain ⟨rfl,rfl⟩:=hf.ok ad ad ad ad;rw [On] at *;have BY:=af (uv.o.ext hb);have bW:=af (cR.o.trans (hb.mono cR.o.size));have LU:=af ho;have MY:=af hb;clear hf ho hb))
 go_upto_region 6 with (go_at_call 14;((with_reducible refine (Jt _ _ n4 _ E4 cu (60) (1440) w5 BY.o (by unfold aS;omega) (by unfold aS;omega)).mono ?_);rintro e w6 ⟨l6,k6,o6,c6,hf,rfl,ho,hb⟩;obtain ⟨rfl,rfl⟩:=hf.ok ad ad ad ad;rw [Oo] at *;have IB:=af (BY.o.ext hb);have bR:=af (bW.o.trans (hb.mono bW.o.size));have oZ:=af ho;have zQ:=af hb;clear hf ho hb))
 go_upto_region 7 with (go_at_call 14;((with_reducible refine (Jt _ _ n4 _ E4 cu (1499) (2881) w6 IB.o (by unfold aS;omega) (by unfold aS;omega)).mono ?_);rintro e w7 ⟨l7,k7,o7,c7,hf,rfl,ho,hb⟩;obtain ⟨rfl,rfl⟩:=hf.ok ad ad ad ad;rw [Oq] at *;have IC:=af (IB.o.ext hb);have gV:=af (bR.o.trans (hb.mono bR.o.size));have IG:=af ho;have IW:=af hb;clear hf ho hb))
 go_upto_region 8 with (first|(go_at_call 25;((with_reducible refine (mB.o w7).mono ?_);rintro e w8 ⟨y8,z8,x8,u8,rfl,Q8,eo⟩;have HS8:=af Q8;have Cf:=af eo;clear Q8 eo))|(go_at_call 16;((with_reducible refine (ph_ _ _ n4 _ _ E4 cu _ _ (di 1 30 10) w8 (IC.o.ext Cf.o) HS8.o (RE ad ad ad ad ad ad)).mono ?_);rintro e w9 ⟨l9,k9,o9,c9,hm,rfl,ho,hb⟩;obtain ⟨rfl,rfl⟩:=hm.unique yw_;have zt:=af ho;have zR:=af (Cf.o.trans (hb.mono Cf.o.size));clear hm ho hb)))
 have ID:=af (IC.o.ext zR.o);go_upto_region 9 with (go_at_call 19;((with_reducible refine (RH _ _ n4 _ E4 cu (1) w9 ID.o (by unfold aS;omega)).mono ?_);rintro e ic ⟨i10,pP,b10,rfl,hn,hb⟩;obtain ⟨rfl,rfl,rfl⟩:=hn.unique Ov;have Dj:=af hb;clear hn hb))
 refine j9 (F:=λU=>ag U ic.heap.size #[.int .i64 1,.int .i64 1440,.int .i64 1500] 46/\Below w9.heap.size w9 U) ⟨ag.new ic _ _,Dj.o.trans ((Ea (Er ic) _).mono Dj.o.size)⟩ ?_;rintro u10 ⟨Hf,Bt⟩;have q3k:=af Hf;have q5v:=af (ID.o.ext Bt);have EF:=af Bt;clear Hf Bt;go_upto_region 10 with (go_at_call 19;((with_reducible refine (RH _ _ n4 _ E4 cu (1441) u10 q5v.o (by unfold aS;omega)).mono ?_);rintro e BK ⟨i11,pQ,b11,rfl,hn,hb⟩;obtain ⟨rfl,rfl,rfl⟩:=hn.unique Ow;have oW:=af hb;clear hn hb))
 refine j9 (F:=λU=>ag U BK.heap.size #[.int .i64 2,.int .i64 2880,.int .i64 2940] 46/\Below u10.heap.size u10 U) ⟨ag.new BK _ _,oW.o.trans ((Ea (Er BK) _).mono oW.o.size)⟩ ?_;rintro u11 ⟨Hg,Ha⟩;have q5b:=af Hg;have uS:=af Ha;clear Hg Ha;have pW:=af (R2 u11);go_upto_region 11 with (go_at_call 31;(with_reducible refine pW.o.mono ?_);rintro e SZ ⟨rfl,lT,lY,hb1,hz12⟩;have EG:=af hb1;have DT:=af (fy.new lT lY);clear lT lY hb1)
 go_upto_region 12 with (go_at_call 19;((with_reducible refine (RH _ _ 0 _ [] [] (0) SZ DT.o (by unfold aS;omega)).mono ?_);rintro e t_ ⟨q6l,x13,b13,rfl,hn,hb⟩;obtain ⟨rfl,rfl,rfl⟩:=hn.unique jk.nil;have ui:=af hb;clear hn hb))
 refine j9 (F:=λU=>Below u11.heap.size u11 U/\fy U (u11.heap.size+1) u11.heap.size 0 (λk=>u11.heap.size+2<=k) [] []) ⟨EG.o.trans ((ui.o.trans ((Ea (Er t_) _).mono ui.o.size)).mono EG.o.size),DT.o.ext (ui.o.trans ((Ea (Er t_) _).mono ui.o.size))⟩ ?_;rintro z ⟨hz,hj⟩;have HZ:=af hz;have HJ:=af hj;have HI:=af ((q5v.o.ext uS.o).ext hz);have kA:=af ((q3k.o.below uS.o).below hz);have fX:=af (q5b.o.below hz);have Uy:Hid (Below w9.heap.size w9 z):=af ((Et EF.o uS.o).trans (hz.mono (Et EF.o uS.o).size));have Pe:Hid (Below w7.heap.size w7 z):=af (zR.o.trans (Uy.o.mono zR.o.size));have h5z:Hid (Below w5.heap.size w5 z):=af ((Et zQ.o IW.o).trans (Pe.o.mono (Et zQ.o IW.o).size));have HA:=af (LU.o.ints.ext h5z.o);have HC:=af (IG.o.ints.ext Pe.o);have HD:=af (zt.o.ints.ext Uy.o);have Li:=af (gV.o.trans (Pe.o.mono gV.o.size));clear hz hj;have HE4:Hid ((((E4.map dT).length:Nat):Int)=2):=af (by have h:=congrArg List.length HI.o.ids;simp [ids,cu] at h;simp [h]);have Ef:Hid (bO (di 0 0 1)):=af (RE ad ad ad ad ad ad);have q3v:Hid (∀ U,Below z.heap.size z U->Calls Tryz.prog 21 #[.slice o5 1 c5,.slice (some ⟨U.heap.size,0,none⟩) 1 1] (U.alloc (.cells #[.int .i64 3] 3)) λe w'=>e=.returned (.bool true)/\Below (U.alloc (.cells #[.int .i64 3] 3)).heap.size (U.alloc (.cells #[.int .i64 3] 3)) w'):=
  af (λU hU=>Pc _ _ ([3]:List Int) [3] _ (HA.o.ext (Ea hU _)) (Ints.lit (l:=[3]) (ag.new U #[.int .i64 3] 3) aj (by intro x hx;simp at hx;unfold aS;omega)))
 have q3p:Hid (∀ U,Below z.heap.size z U->Calls Tryz.prog 21 #[.slice o7 2 c7,.slice (some ⟨U.heap.size,0,none⟩) 2 2] (U.alloc (.cells #[.int .i64 3,.int .i64 5] 3)) λe w'=>e=.returned (.bool true)/\Below (U.alloc (.cells #[.int .i64 3,.int .i64 5] 3)).heap.size (U.alloc (.cells #[.int .i64 3,.int .i64 5] 3)) w'):=
  af (λU hU=>Pc _ _ ([3,5]:List Int) [3,5] _ (HC.o.ext (Ea hU _)) (Ints.lit (l:=[3,5]) (ag.new U #[.int .i64 3,.int .i64 5] 3) aj (by intro x hx;simp at hx;unfold aS;omega)))
 have q5m:Hid (∀ U,Below z.heap.size z U->Calls Tryz.prog 21 #[.slice o9 1 c9,.slice (some ⟨U.heap.size,0,none⟩) 1 1] (U.alloc (.cells #[.int .i64 5] 3)) λe w'=>e=.returned (.bool true)/\Below (U.alloc (.cells #[.int .i64 5] 3)).heap.size (U.alloc (.cells #[.int .i64 5] 3)) w'):=
  af (λU hU=>Pc _ _ ([5]:List Int) [5] _ (HD.o.ext (Ea hU _)) (Ints.lit (l:=[5]) (ag.new U #[.int .i64 5] 3) aj (by intro x hx;simp at hx;unfold aS;omega)))
 have q1a:Hid (∀ U,Below z.heap.size z U->Calls Tryz.prog 22 #[.pointer (some ⟨u11.heap.size+1,0,none⟩)] U λe w'=>e=.returned (.int .i64 0)/\Below U.heap.size U w'):=
  af (λU hU=>q7b _ _ 0 (([]:List (Int × bC)).map dT) U (HJ.o.ext hU).box (HJ.o.ext hU).map .nil ad)
 go_wp2_with (first|(go_at_call 21;((with_reducible refine (q3v.o z (Er z)).mono ?_);rintro e z1 ⟨rfl,hb⟩;have Uh:=af (Et (Ea (Er z) _) hb);clear hb))|(go_at_call 21;((with_reducible refine (q3p.o z1 Uh.o).mono ?_);rintro e z2 ⟨rfl,hb⟩;have Ui:=af (Et (Ea Uh.o _) hb);clear hb))|(go_at_call 21;((with_reducible refine (q5m.o z2 Ui.o).mono ?_);rintro e z3 ⟨rfl,hb⟩;have uU:=af (Et (Ea Ui.o _) hb);have pM:=((kA.o.below uU.o).cells 1).1;have mX:=((fX.o.below uU.o).cells 1).1;clear hb))|(go_at_call 22;((with_reducible refine (q1a.o z3 uU.o).mono ?_);rintro e z4 ⟨rfl,hb⟩;have Na:=af (Et uU.o hb);clear hb))|(go_at_call 22;((with_reducible refine (q7b _ _ n4 (E4.map dT) z4 (HI.o.ext Na.o).box (HI.o.ext Na.o).map HI.o.sorted HI.o.num).mono ?_);rintro e z5 ⟨rfl,hb⟩;rw [HE4.o];have EL:=af (Et Na.o hb);clear hb))|(go_at_call 25;((with_reducible refine (um.o z5).mono ?_);rintro e z6 ⟨ya,za,yb,zb,rfl,hs,hb⟩;have kV:=af hs;have I1:=af (Et EL.o hb);clear hs hb))|(go_at_call 24;((with_reducible refine (Fo _ _ n4 _ _ E4 cu 3 _ _ (di 0 0 1) z6 (HI.o.ext I1.o) (by have:=TS.o;omega) kV.o Ef.o (by unfold aS;omega)).mono ?_);rintro e z7 hr;obtain ⟨rfl,Vf,n7,E7,hn7,QC⟩:=Gr (HI.o.ext I1.o) ad hr;rw [show fY cu 3=5 by rfl];rw [show gC cu 3 (di 0 0 1)=cu by rfl] at QC;have IC:=af QC;have I2:=af ((Li.o.trans (I1.o.mono Li.o.size)).trans (qd Vf (TZ _) (by have:=Li.o.size;have:=I1.o.size;omega)));have HN7:Hid (n7<=3):=af (by have:=TS.o;omega);clear hr Vf QC hn7))|(go_at_call 25;((with_reducible refine (um.o z7).mono ?_);rintro e z8 ⟨yc,zc,yd,zd,rfl,hs,hb⟩;have HS8b:=af hs;have TE:=af (IC.o.ext hb);have Uj:=af (I2.o.trans (hb.mono I2.o.size));clear hs hb))|(go_at_call 24;((with_reducible refine (Fo _ _ n7 _ _ E7 cu 0 _ _ (di 0 0 1) z8 TE.o (by have:=HN7.o;omega) HS8b.o Ef.o (by unfold aS;omega)).mono ?_);rintro e z9 hr;obtain ⟨rfl,tH,n9,E9,GN,gU⟩:=Gr TE.o ad hr;rw [show fY cu 0=1 by rfl];rw [show gC cu 0 (di 0 0 1)=cu by rfl] at gU;have HI9b:=af gU;have I3:=af (Uj.o.trans (qd tH (TZ _) Uj.o.size));clear hr tH gU GN))|(go_at_call 26;((with_reducible refine (Xo _ _ n9 E9 4 z9 HI9b.o.box HI9b.o.map (by unfold aS;omega)).mono ?_);rintro e yP hr;obtain ⟨Gm,rfl,E10,q5i⟩:=ZF HI9b.o hr;rw [if_neg (show (4:Int) ∉ ids cu by unfold ids cu;simp)];have q4j:=af (I3.o.trans (qd Gm (TZ _) I3.o.size));clear hr Gm q5i)))
 go_ret;exact ⟨rfl,q4j.o⟩
end
end Go.Proofs.YtbmgmlbmgogeaaaGreat
end
