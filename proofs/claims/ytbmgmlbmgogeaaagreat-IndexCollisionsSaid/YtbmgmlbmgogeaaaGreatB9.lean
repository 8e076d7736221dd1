/- Part 9 of the proof of the laws. -/
import Derived.Test.YtbmgmlbmgogeaaaGreatB3
import Derived.Deep.QuietTactic
import Derived.BigQuiet
import Derived.Test.YtbmgmlbmgogeaaaGreatB5
import Derived.Test.YtbmgmlbmgogeaaaGreatB7
import Derived.Test.YtbmgmlbmgogeaaaGreatB8
import Derived.Deep.Cut
import Derived.Deep.CutBlock
import Derived.Deep.DeepCutAuto
import Derived.Test.YtbmgmlbmgogeaaaGreatB6
import Derived.Test.YtbmgmlbmgogeaaaGreatB4
set_option linter.unusedVariables false
set_option linter.unusedSimpArgs false
set_option maxRecDepth 100000
set_option maxHeartbeats 4000000
section
variable {b done:Bool}{a e f i id r s x y:Int}{m:List (List Kal.Per)}{l ml:List Int}{B c hi k lo n:Nat}{row:Option Nat}{p:Kal.Per}{cv ev v v':Go.Value}{A C W W' W1 w w':Go.World}
namespace Go.Proofs.YtbmgmlbmgogeaaaGreat
section
open Go.RowKit Go.Maps Kal
theorem UC (v:Value) (l:List Int) (lim:Int) (w:World) (hv:Ints w v l) :
  Calls Tryz.prog 171 #[v,.int .i64 lim] w λe w'=>e=.returned (.bool (gw (-1) lim l))/\∃ n,w'=w.drewN n:=by
 obtain ⟨⟨a,c,rfl,hlc,hc,bY⟩,hlen,hb⟩:=hv
 go_in
 go_wp2
 go_loopw [5] (λi wr=>∃ (k:Nat) (pv:Int),k<=l.length/\i=.int .i64 k/\((k=0/\pv=-1)\/(1<=k/\pv=l.getD (k-1) 0/\0<=pv))/\gw (-1) lim l=gw pv lim (l.drop k)/\∃ n,wr=w.drewN n) (λi _=>l.length-(intOf i).toNat)
 .exact ⟨0,-1,aa,rfl,.inl ⟨rfl,rfl⟩,ag,0,rfl⟩
 obtain ⟨k,pv,hk,rfl,jQ,hr,n,rfl⟩:=hrel;have HR:=ad hr;clear hr;by_cases hlt:k<l.length
 .rcases bY with h|⟨b,o,rfl,hcell⟩
  .rw [h] at hlt;simp at hlt
  have hcl:=hcell k hlt;have dh:(k:Int)<l.length:=aa;have hdr:gw pv lim (l.drop k)=if l.getD k 0<=pv\/lim<=l.getD k 0 then false else gw (l.getD k 0) lim (l.drop (k+1)):=by rw [drop_cons hlt,gw]
  rw [hdr] at HR;clear hdr;obtain ⟨x,hx⟩:∃ x,x=l.getD k 0:=⟨_,rfl⟩;rw [<- hx] at hcl HR;have HX:=ad hx;clear hx;have hend:∀ q:Bool,(x<=pv\/lim<=x↔q=true)->gw (-1) lim l=if q then false else gw x lim (l.drop (k+1)):=λq h=>by
   rw [HR.o];cases q <;> simp at h <;> simp [h]
  have ik:=ad hend;clear hend;rcases jQ with ⟨hk0,vm⟩|⟨Ac,Au,vm⟩
  .have I6:¬ (0:Int)<k:=aa;have I4:decide ((0:Int)<(k:Int))=false:=by simp [hk0]
   have hkn:decide (0<k)=false:=by simp [hk0]
   have hkm:¬ 0<k:=aa;have HK0:=ad hk0;have Dv:=ad vm;clear hcell hk0 vm;by_cases h1:x<0
   .have d1:decide (x<0)=true:=by simp [h1]
    go_wp2_with fail
    go_quiet (fail)
    go_wp2
    go_ret;refine ⟨bT ?_,_,World.drewN_drewN _ _ _⟩;rw [ik.o true (by have:=Dv.o;simp;omega)];rfl
   have d1:decide (x<0)=false:=by simp;omega
   by_cases h2:lim<=x
   .have d2:decide (lim<=x)=true:=by simp [h2]
    go_wp2_with fail
    go_quiet (fail)
    go_wp2
    go_ret;refine ⟨bT ?_,_,World.drewN_drewN _ _ _⟩;rw [ik.o true (by simp [h2])];rfl
   have d2:decide (lim<=x)=false:=by simp;omega
   go_wp2_with fail
   go_quiet (fail)
   go_wp2
   go_roundw
   .exact ⟨k+1,x,aa,by go_num,.inr ⟨aa,HX.o,aa⟩,by rw [ik.o false (by have:=Dv.o;simp;omega)];rfl,_,rfl⟩
   simp [intOf];omega
  have Fv:=hcell (k-1) aa;have I6:(0:Int)<k:=aa;have I4:decide ((0:Int)<(k:Int))=true:=by simp;omega
  rw [<- Au] at Fv;have Sf:=ad Au;clear hcell Au;by_cases h1:x<0
  .have d1:decide (x<0)=true:=by simp [h1]
   go_wp2_with fail
   go_quiet (fail)
   go_wp2
   go_ret;refine ⟨bT ?_,_,World.drewN_drewN _ _ _⟩;rw [ik.o true aO];rfl
  have d1:decide (x<0)=false:=by simp;omega
  by_cases h2:lim<=x
  .have d2:decide (lim<=x)=true:=by simp [h2]
   go_wp2_with fail
   go_quiet (fail)
   go_wp2
   go_ret;refine ⟨bT ?_,_,World.drewN_drewN _ _ _⟩;rw [ik.o true (by simp [h2])];rfl
  have d2:decide (lim<=x)=false:=by simp;omega
  obtain ⟨k',eC⟩:∃ k',k=k'+1:=⟨k-1,aa⟩;subst eC;rw [show k'+1-1=k' from by omega] at Fv;have hs1:(((k'+1:Nat):Int)-1)=(k':Int):=aa;by_cases h3:x<=pv
  .have d3:decide (x<=pv)=true:=by simp [h3]
   go_wp2_with fail
   go_quiet (fail)
   go_wp2
   go_ret;refine ⟨bT ?_,_,World.drewN_drewN _ _ _⟩;rw [ik.o true (by simp [h3])];rfl
  have d3:decide (x<=pv)=false:=by simp;omega
  go_wp2_with fail
  go_quiet (fail)
  go_wp2
  go_roundw
  .exact ⟨k'+1+1,x,aa,by go_num,.inr ⟨aa,HX.o,aa⟩,by rw [ik.o false aO];rfl,_,rfl⟩
  simp [intOf];omega
 obtain rfl:k=l.length:=aa;go_wp2;go_ret;exact ⟨bT (by rw [HR.o,List.drop_length];rfl),n,rfl⟩
theorem yc_ {head cycle:List Int} {frm period:Int} (h:frm<0\/1099511627776<frm\/period<1\/1099511627776<period\/1048576<(head.length:Int)+cycle.length):validB ⟨head,frm,period,cycle⟩=false:=by
 unfold validB;rcases h with h|h|h|h|h
 .rw [decide_eq_false (show ¬ 0<=frm by omega)];rfl
 .rw [decide_eq_false (show ¬ frm<=1099511627776 by omega)];simp
 .rw [decide_eq_false (show ¬ 1<=period by omega)];simp
 .rw [decide_eq_false (show ¬ period<=1099511627776 by omega)];simp
 rw [decide_eq_false (show ¬ (head.length:Int)+cycle.length<=1048576 by omega)];simp
theorem w1_ {head cycle:List Int} {frm period:Int} (h:0<=frm/\frm<=1099511627776/\1<=period/\period<=1099511627776/\(head.length:Int)+cycle.length<=1048576):validB ⟨head,frm,period,cycle⟩=(gw (-1) frm head && gw (-1) period cycle):=by
 unfold validB;rw [decide_eq_true h.1,decide_eq_true h.2.1,decide_eq_true h.2.2.1,decide_eq_true h.2.2.2.1,decide_eq_true h.2.2.2.2];simp
theorem rn_ (h c:Value) (p:Per) (w:World) (hp:bX w h c p) (hf:aP p.frm) (ht:aP p.period) :
  Calls Tryz.prog 120 #[an h c p.frm p.period] w λe w'=>e=.returned (.bool (validB p))/\Below w.heap.size w w':=by
 unfold aP at hf ht;have OM:∀ W,Below w.heap.size w W->Ints W h p.head:=λW hb=>hp.hd.ext hb;have hc':∀ W,Below w.heap.size w W->Ints W c p.cycle:=λW hb=>hp.cy.ext hb;have fA:=hp.hd.len;have hl2:=hp.cy.len;obtain ⟨a1,c1,a2,c2,rfl,rfl⟩:=hp.inn.form;obtain ⟨head,frm,period,cycle⟩:=p;dsimp only at *;obtain ⟨r1,hr1⟩:∃ r1,r1=gw (-1) frm head:=⟨_,rfl⟩;obtain ⟨r2,hr2⟩:∃ r2,r2=gw (-1) period cycle:=⟨_,rfl⟩;have py:=ad hr1.symm;have kB:=ad hr2.symm;clear hp hr1 hr2
 go_in
 go_wp2_with (go_at_call 171;first|((with_reducible refine (UC (.slice a1 head.length c1) head frm _ (OM _ xE)).mono ?_);rintro e w1 ⟨he,n1,rfl⟩;rw [py.o] at he;subst he)|((with_reducible refine (UC (.slice a2 cycle.length c2) cycle period _ (hc' _ xE)).mono ?_);rintro e w2 ⟨he,n2,rfl⟩;rw [kB.o] at he;subst he))
 all_goals go_ret
 all_goals first
  | exact ⟨bT (yc_ aa).symm,xE⟩
  | (refine ⟨bT ?_,xE⟩;rw [w1_ aa,py.o,kB.o];first|rfl|simp [*])
theorem ps_ (F:Nat->Prop) (v:Value) (m:List (List Per)) (w:World) (hm:aA w F v m) :
  Calls Tryz.prog 82 #[.agg #[v]] w λe w'=>e=.returned (.bool (dU m))/\Below w.heap.size w w':=by
 obtain ⟨L,zC,hL⟩:=hm;obtain ⟨a,c,rfl,_⟩:=hL.row;have HL:=ad hL;have hlen:=hL.len;have dt:m.length=L.length:=by rw [<- zC];exact List.length_map _
 have qo:=ad zC;have HM:=ad dt;clear hL zC dt
 go_in
 by_cases I1:64<L.length
 .have hgI:64<(L.length:Int):=aa;go_wp2;go_ret;refine ⟨bT ?_,xE⟩;have:=HM.o;unfold dU;rw [decide_eq_false aa];rfl
 have hgI:¬ 64<(L.length:Int):=aa;go_wp2;go_loopw [3,4,5] (λi _ _ wr=>∃ k:Nat,k<=L.length/\i=.int .i64 k/\Hid ((m.take k).all gM=true)/\Hid (Below w.heap.size w wr)/\Hid (af wr w.heap.size #[.slice a L.length c] 57)) (λi _ _ _=>L.length-(intOf i).toNat)
 .exact ⟨0,aa,rfl,ad rfl,ad xE,ad xB⟩
 obtain ⟨k,hk,rfl,cM,vQ,cw⟩:=hrel;have hc0:=(af.cells cw.o 0).1;by_cases hlt:k<L.length
 .have dh:(k:Int)<L.length:=aa;obtain ⟨b8,f8,tv,rfl,hcell,hT⟩:=(HL.o.keep (aN.below vQ.o) vQ.o.size).get hlt;rw [qo.o] at hT;have gY:Hid ((m.take (k+1)).all gM=((m.take k).all gM && gM (m.getD k []))):=ad (P_ (l:=m) (k:=k) (d:=[]) (p:=gM) (show k<m.length by have:=HM.o;omega));have HF:Hid (gM (m.getD k [])=false->dU m=false):=ad λh=>by unfold dU;rw [all_false (l:=m) (k:=k) (d:=[]) (show k<m.length by have:=HM.o;omega) h,Bool.and_false]
  generalize m.getD k []=t at *;obtain ⟨T,N_,IN⟩:=hT;obtain ⟨a2,c2,rfl,_⟩:=IN.row;have gT:t.length=T.length:=by rw [<- N_,List.length_map]
  have Pv:=IN.len;have vZ:=ad IN;have Hj:=ad N_;have gI:=ad gT;clear IN N_ gT;by_cases h1:T.length<1
  .have IA:(T.length:Int)<1:=aa;go_wp2;go_ret;refine ⟨bT (HF.o ?_).symm,vQ.o⟩;have:=gI.o;unfold gM;rw [decide_eq_false aa];rfl
  by_cases h2:4<T.length
  .have IA:¬ (T.length:Int)<1:=aa;have Nw:4<(T.length:Int):=aa;go_wp2;go_ret;refine ⟨bT (HF.o ?_).symm,vQ.o⟩;have:=gI.o;unfold gM;rw [decide_eq_false (p:=t.length<=4) aa,Bool.and_false];rfl
  have IA:¬ (T.length:Int)<1:=aa;have Nw:¬ 4<(T.length:Int):=aa;have Sp:Hid (gM t=t.all validB):=ad (by have:=gI.o;unfold gM;rw [decide_eq_true aa,decide_eq_true aa];rfl);obtain ⟨wo,pU⟩:∃ wo,wo=wr:=⟨_,rfl⟩;have gH:=vQ;rw [<- pU] at gH vZ cw;have qE:=ad pU;clear pU;go_wp2;go_loopw [5] (λi wq=>∃ j:Nat,j<=T.length/\i=.int .i64 j/\Hid ((t.take j).all validB=true)/\Hid (Below wo.heap.size wo wq)) (λi _=>T.length-(intOf i).toNat)
  .exact ⟨0,aa,rfl,ad rfl,ad (by rw [<- qE.o];exact Er _)⟩
  obtain ⟨j,hj,rfl,Dy,bj⟩:=hrel;by_cases hlt2:j<T.length
  .have Ae:(j:Int)<T.length:=aa;obtain ⟨b1,o1,x,rfl,hx,cS,hb1,e0,e1,e2,e3⟩:=(vZ.o.keep (aN.below bj.o) bj.o.size).get hlt2;rw [Hj.o] at cS;have dM:Hid ((t.take (j+1)).all validB=((t.take j).all validB && validB x.p)):=ad (by rw [cS];exact P_ (l:=t) (k:=j) (d:=default) (p:=validB) (show j<t.length by have:=gI.o;omega));have xZ:Hid (validB x.p=false->t.all validB=false):=ad λh=>all_false (l:=t) (k:=j) (d:=default) (show j<t.length by have:=gI.o;omega) (by rw [<- cS];exact h);obtain ⟨xh,xc,xp⟩:=x;obtain ⟨d_,eh,ed,eH,eR,dP,rfl,rfl⟩:=hx.form;have HR:=λW (h:Below wr.heap.size wr W)=>rn_ (.slice d_ eh ed) (.slice eH eR dP) xp W (hx.is.ext h) hx.fr hx.pe;change ∀ W,_->Calls _ _ #[.agg #[.slice d_ eh ed,.int .i64 xp.frm,.int .i64 xp.period,.slice eH eR dP]] W (λe w'=>e=.returned (.bool (validB xp))/\_) at HR;dsimp only at e0 e1 e2 e3 dM xZ;clear cS hx;generalize validB xp=bb at *;have HR:=ad HR;cases bb
   .go_wp2_with (go_at_call 120;(with_reducible refine (HR.o _ (Er _)).mono ?_);rintro e w1 ⟨rfl,hb2⟩)
    go_ret;exact ⟨bT (HF.o (Sp.o.trans (by first|exact xZ.o rfl|exact xZ.o trivial|exact xZ.o))).symm,Et gH.o (Et bj.o hb2)⟩
   go_wp2_with (go_at_call 120;(with_reducible refine (HR.o _ (Er _)).mono ?_);rintro e w1 ⟨rfl,hb2⟩)
   go_roundw
   .exact ⟨j+1,aa,by go_num,ad (by rw [dM.o,Dy.o];rfl),ad (Et bj.o hb2)⟩
   simp [intOf];omega
  obtain rfl:j=T.length:=aa;go_wp2;go_roundw
  .refine ⟨k+1,aa,by go_num,ad ?_,ad (Et gH.o bj.o),ad (af.below cw.o bj.o)⟩;have h1:=gI.o;have h2:=Dy.o;rw [List.take_of_length_le aa] at h2;rw [gY.o,cM.o,Sp.o,h2];rfl
  simp [intOf];omega
 obtain rfl:k=L.length:=aa;go_wp2;go_ret;refine ⟨bT (Eq.symm ?_),vQ.o⟩;have h1:=HM.o;have h2:=cM.o;rw [List.take_of_length_le aa] at h2;unfold dU;rw [decide_eq_true aa,h2];rfl
theorem Eu (x lo hi:Int) (w:World) (h1:lo<=x) (h2:x<=hi) :
  Calls Tryz.prog 77 #[.int .i64 x,.int .i64 lo,.int .i64 hi] w λe w'=>e=.returned (.bool true)/\w=w':=by
 go_in
 go_wp2;go_ret;exact ⟨rfl,rfl⟩
theorem y1_ (y:ai) (w:World) (h:j9 y) :
  Calls Tryz.prog 83 #[bZ y] w λe w'=>e=.returned (.bool true)/\Below w.heap.size w w':=by
 obtain ⟨yd,yf,yt⟩:=y;obtain ⟨⟨h1,h2⟩,⟨h3,h4⟩,h5,h6⟩:=h;dsimp only at h1 h2 h3 h4 h5 h6;have HA:=λW=>Eu yd 0 1099511627776 W h1 h2;have HB:=λW=>Eu yf (-2251799813685248) 1583296743997439 W h3 h4;have HC:=λW=>Eu yt (yf+1) (yf+10080) W h5 h6;show Calls _ _ #[.agg #[.int .i64 yd,.int .i64 yf,.int .i64 yt]] _ _
 go_in
 go_wp2_with (go_at_call 77;first|((with_reducible refine (HA _).mono ?_);rintro e w1 ⟨rfl,rfl⟩)|((with_reducible refine (HB _).mono ?_);rintro e w1 ⟨rfl,rfl⟩)|((with_reducible refine (HC _).mono ?_);rintro e w1 ⟨rfl,rfl⟩))
 go_ret;exact ⟨rfl,xE⟩
theorem ql_ (F:Nat->Prop) (cv ev:Value) (s:aE) (w:World) (h:bq w F cv ev s) (hv:mN dU s) :
  Calls Tryz.prog 44 #[.agg #[cv,.int .i64 s.len,ev]] w λe w'=>e=.returned (.bool true)/\Below w.heap.size w w':=by
 obtain ⟨L,h⟩:=h;have ni:s.cls.length=L.length:=by rw [<- h.eq];exact List.length_map _
 obtain ⟨ac,cc,rfl⟩:=h.cl.form;obtain ⟨ae,ce,rfl⟩:=h.ex.form;have fA:L.length<=64:=by have:=hv.ncls;omega
 have hl2:=hv.next;obtain ⟨od,zZ⟩:=hv.len;have HS:=ad h;have HV:=ad hv;have fD:=ad ni;have YR:=ad (λW=>Eu s.len 1 10080 W od zZ);have hb0:af (w.alloc (.cells #[.slice ac L.length cc,.int .i64 s.len,.slice ae s.ext.length ce] 43)) w.heap.size #[.slice ac L.length cc,.int .i64 s.len,.slice ae s.ext.length ce] 43:=af.at rfl;have cw:=ad hb0;have JV:¬ (64:Int)<L.length:=aa;have JW:¬ (4096:Int)<s.ext.length:=aa;have QO:decide ((4096:Int)<(s.ext.length:Int))=false:=decide_eq_false JW;clear h hv ni hb0
 go_in
 go_wp2_with (go_at_call 77;(with_reducible refine (YR.o _).mono ?_);rintro e w1 ⟨rfl,rfl⟩)
 clear QO;go_loopw [3,4] (λi _ wr=>∃ k:Nat,k<=L.length/\i=.int .i64 k/\Hid (Below w.heap.size w wr)/\Hid (af wr w.heap.size #[.slice ac L.length cc,.int .i64 s.len,.slice ae s.ext.length ce] 43)) (λi _ _=>L.length-(intOf i).toNat)
 .exact ⟨0,aa,rfl,ad xE,cw⟩
 obtain ⟨k,hk,rfl,HB,fw⟩:=hrel;have q0:=(fw.o.cells 0).1;by_cases hlt:k<L.length
 .have dh:(k:Int)<L.length:=aa;obtain ⟨b,o,a1,c1,m,mi,rfl,dD,e0,e1,hm,oe,hcl⟩:=HS.o.cl.get hlt;have og:k<s.cls.length:=by rw [fD.o];exact hlt
  rw [HS.o.eq] at hcl;obtain ⟨gv,⟨Nl,Nm⟩,gr⟩:=HV.o.cls k og;rw [hcl] at gv Nl Nm;have oH:=λW (hb:Below w.heap.size w W)=>ps_ F (.slice a1 m.length c1) m W (hm.ext hb);have gv:dU m=true:=gv;rw [gv] at oH;have oH:=ad oH;have G6:=ad (λW=>Eu mi (-4320) 4320 W Nl Nm);have Bc:Hid (∀ j,k=j+1->∃ pm,w.cell? ⟨b,o+j*2+1,none⟩=some (.int .i64 pm)/\pm<mi):=ad λj hj=>by
   obtain ⟨b',o',_,_,m',pm,iW,_,_,g1,_,_,g2⟩:=HS.o.cl.get (show j<L.length by omega);injection iW with iW
   injection iW with q1 q2
   subst q1 q2;have g3:=gr j hj;rw [<- HS.o.eq,g2,HS.o.eq,hcl] at g3;exact ⟨pm,g1,g3⟩
  have SF:=al.cell HB.o e0;have mS:=al.cell HB.o e1;clear e0 e1 hm oe hcl og gv Nl Nm gr;go_upto_region 7 with (fail)
  refine iR (F:=λU=>af U wr.heap.size #[.slice a1 m.length c1,.int .i64 mi] 59/\Below wr.heap.size wr U) ⟨af.new _ _ _,Ea (Er _) _⟩ ?_;rintro W2 ⟨hcb,hb2⟩;have x0:=(hcb.cells 0).1;have x1:=(hcb.cells 1).1;have eo:Below w.heap.size w W2:=Et HB.o hb2;have s0:=((fw.o.below hb2).cells 0).1;have bj:=ad hb2;clear hcb hb2 SF mS;cases k with
  | zero=>
   rw [show (((0:Nat):Int))=0 from rfl];refine jZ (w0:=W2) [0,1,2,3,4,5,6,7,8,9,10,11,12,13,14,15,16,17,18,19,20,21,22,23,24,25] [] (λv=>⟨#[.agg #[.slice (some ⟨b,o,none⟩) L.length cc,.int .i64 s.len,.slice ae s.ext.length ce],.pointer (some ⟨w.heap.size,0,none⟩),u2,.int .i64 0,.pointer (some ⟨wr.heap.size,0,none⟩),undef,.pointer (some ⟨w.heap.size,0,none⟩),.slice (some ⟨b,o,none⟩) L.length cc,.int .i64 ↑L.length,.bool false,.bool false,.pointer (some ⟨w.heap.size,1,none⟩),.int .i64 s.len,.bool true,.bool false,.bool false,.bool false,.pointer (some ⟨w.heap.size,2,none⟩),.slice ae s.ext.length ce,.int .i64 ↑s.ext.length,.bool false,.bool false,.int .i64 0,.pointer (some ⟨w.heap.size,0,none⟩),.slice (some ⟨b,o,none⟩) L.length cc,.int .i64 ↑L.length,.bool true,u27,u28,.pointer (some ⟨w.heap.size,0,none⟩),.slice (some ⟨b,o,none⟩) L.length cc,.int .i64 0,.pointer (some ⟨b,o+0*2,none⟩),.agg #[.slice a1 m.length c1,.int .i64 mi],v 0,v 1,v 2,v 3,v 4,v 5,v 6,v 7,v 8,v 9,v 10,v 11,v 12,v 13,v 14,v 15,v 16,v 17,v 18,v 19,v 20,v 21,v 22,v 23,v 24,v 25,undef,undef,undef,undef,undef,undef,undef,undef,undef,undef,undef,undef,undef,undef,undef,undef,undef,undef,undef,undef,undef,undef,undef,undef,undef,undef,undef,undef,undef,undef,undef,undef,undef],[]⟩) [.pointer (some ⟨wr.heap.size,0,none⟩),.agg #[.slice a1 m.length c1],.bool true,.bool false,.bool false,.pointer (some ⟨wr.heap.size,1,none⟩),.int .i64 mi,.bool true,.bool false,.bool false,.bool false,.int .i64 0,.bool false,.bool false,undef,undef,undef,undef,undef,undef,undef,undef,undef,undef,.bool false,.bool false] (λW=>W.cell? ⟨wr.heap.size,0,none⟩=some (.slice a1 m.length c1)/\W.cell? ⟨wr.heap.size,1,none⟩=some (Value.int .i64 mi)) (λW hb=>⟨al.cell hb x0,al.cell hb x1⟩) ?steps7a ?fin7a (λj=>match j with|0=>u34|1=>u35|2=>u36|3=>u37|4=>u38|5=>u39|6=>u40|7=>u41|8=>u42|9=>u43|10=>u44|11=>u45|12=>u46|13=>u47|14=>u48|15=>u49|16=>u50|17=>u51|18=>u52|19=>u53|20=>u54|21=>u55|22=>u56|23=>u57|24=>u58|25=>u59|_=>undef)
   case steps7a=>
    refine .c [] rfl ?_ (.c [0] rfl ?_ (.c [1] rfl ?_ (.c [2] rfl ?_ (.c [3] rfl ?_ (.c [4] rfl ?_ (.c [4,5] rfl ?_ (.c [4,6] rfl ?_ (.c [4,7] rfl ?_ (.c [4,8] rfl ?_ (.c [9] rfl ?_ (.c [10] rfl ?_ (.c [10,11] rfl ?_ (.c [10,12] rfl ?_ (.c [13] rfl ?_ (.c [13,14] rfl ?_ (.c [13] rfl ?_ (.c [13,16] rfl ?_ (.c [13,15,17] rfl ?_ (.c [13,18] rfl ?_ (.c [13,19] rfl ?_ (.c [13] rfl ?_ (.c [13,21] rfl ?_ (.c [13,20,22] rfl ?_ (.c [10,13,23] rfl ?_ (.c [10,24] rfl ?_ (.n))))))))))))))))))))))))));all_goals try exact kq
    all_goals
     rintro v W hb ⟨g0,g1⟩;refine .inl ⟨rfl,λK hK=>?_⟩;simp only [ov,aD,Nat.reduceBEq,cond_true,cond_false];go_wp2_with (first|(go_at_call 82;(with_reducible refine (oH.o _ (Et eo hb)).mono ?_);rintro e w9 ⟨rfl,bg⟩)|(go_at_call 77;(with_reducible refine (G6.o _).mono ?_);rintro e w9 ⟨rfl,h9⟩;have bg:Below W.heap.size W w9:=h9 ▸ Below.refl _ _;clear h9));exact aU (hK w9 bg) (by simp [ov,aD])
   case fin7a=>
    rintro W3 hb3 hg;show wpList _ _ _ [] _ _;simp only [aD];have cm:=ad (Et bj.o hb3);clear hg hb3 x0 x1 s0 eo;go_wp2;go_roundw
    .exact ⟨0+1,aa,by go_num,ad (Et HB.o cm.o),ad (fw.o.below cm.o)⟩
    simp [intOf];omega
  | succ j=>
   obtain ⟨pm,fs,B8⟩:=Bc.o j rfl;have p1:=al.cell eo fs;have hpI:¬ mi<=pm:=aa;have rD:(0:Int)<(j:Int)+1:=aa;clear fs;rw [show (((j+1:Nat):Int))=(j:Int)+1 by omega];refine jZ (w0:=W2) [0,1,2,3,4,5,6,7,8,9,10,11,12,13,14,15,16,17,18,19,20,21,22,23,24,25] [] (λv=>⟨#[.agg #[.slice (some ⟨b,o,none⟩) L.length cc,.int .i64 s.len,.slice ae s.ext.length ce],.pointer (some ⟨w.heap.size,0,none⟩),u2,.int .i64 (↑j+1),.pointer (some ⟨wr.heap.size,0,none⟩),undef,.pointer (some ⟨w.heap.size,0,none⟩),.slice (some ⟨b,o,none⟩) L.length cc,.int .i64 ↑L.length,.bool false,.bool false,.pointer (some ⟨w.heap.size,1,none⟩),.int .i64 s.len,.bool true,.bool false,.bool false,.bool false,.pointer (some ⟨w.heap.size,2,none⟩),.slice ae s.ext.length ce,.int .i64 ↑s.ext.length,.bool false,.bool false,.int .i64 (↑j+1),.pointer (some ⟨w.heap.size,0,none⟩),.slice (some ⟨b,o,none⟩) L.length cc,.int .i64 ↑L.length,.bool true,u27,u28,.pointer (some ⟨w.heap.size,0,none⟩),.slice (some ⟨b,o,none⟩) L.length cc,.int .i64 (↑j+1),.pointer (some ⟨b,o+(j+1)*2,none⟩),.agg #[.slice a1 m.length c1,.int .i64 mi],v 0,v 1,v 2,v 3,v 4,v 5,v 6,v 7,v 8,v 9,v 10,v 11,v 12,v 13,v 14,v 15,v 16,v 17,v 18,v 19,v 20,v 21,v 22,v 23,v 24,v 25,undef,undef,undef,undef,undef,undef,undef,undef,undef,undef,undef,undef,undef,undef,undef,undef,undef,undef,undef,undef,undef,undef,undef,undef,undef,undef,undef,undef,undef,undef,undef,undef,undef],[]⟩) [.pointer (some ⟨wr.heap.size,0,none⟩),.agg #[.slice a1 m.length c1],.bool true,.bool false,.bool false,.pointer (some ⟨wr.heap.size,1,none⟩),.int .i64 mi,.bool true,.bool false,.bool false,.bool false,.int .i64 ((j:Int)+1),.bool true,.bool true,.pointer (some ⟨w.heap.size,0,none⟩),.slice (some ⟨b,o,none⟩) L.length cc,.int .i64 ((j:Int)+1),.int .i64 (j:Int),.pointer (some ⟨b,o+j*2,none⟩),.pointer (some ⟨b,o+j*2+1,none⟩),.int .i64 pm,.pointer (some ⟨wr.heap.size,1,none⟩),.int .i64 mi,.bool false,.bool false,.bool false] (λW=>W.cell? ⟨wr.heap.size,0,none⟩=some (.slice a1 m.length c1)/\W.cell? ⟨wr.heap.size,1,none⟩=some (Value.int .i64 mi)/\W.cell? ⟨w.heap.size,0,none⟩=some (.slice (some ⟨b,o,none⟩) L.length cc)/\W.cell? ⟨b,o+j*2+1,none⟩=some (Value.int .i64 pm)) (λW hb=>⟨al.cell hb x0,al.cell hb x1,al.cell hb s0,al.cell hb p1⟩) ?steps7b ?fin7b (λj=>match j with|0=>u34|1=>u35|2=>u36|3=>u37|4=>u38|5=>u39|6=>u40|7=>u41|8=>u42|9=>u43|10=>u44|11=>u45|12=>u46|13=>u47|14=>u48|15=>u49|16=>u50|17=>u51|18=>u52|19=>u53|20=>u54|21=>u55|22=>u56|23=>u57|24=>u58|25=>u59|_=>undef)
   case steps7b=>
    refine .c [] rfl ?_ (.c [0] rfl ?_ (.c [1] rfl ?_ (.c [2] rfl ?_ (.c [3] rfl ?_ (.c [4] rfl ?_ (.c [4,5] rfl ?_ (.c [4,6] rfl ?_ (.c [4,7] rfl ?_ (.c [4,8] rfl ?_ (.c [9] rfl ?_ (.c [10] rfl ?_ (.c [10,11] rfl ?_ (.c [10,12] rfl ?_ (.c [13] rfl ?_ (.c [13,14] rfl ?_ (.c [13] rfl ?_ (.c [13,16] rfl ?_ (.c [13,15,17] rfl ?_ (.c [13,18] rfl ?_ (.c [13,19] rfl ?_ (.c [13] rfl ?_ (.c [13,21] rfl ?_ (.c [13,20,22] rfl ?_ (.c [10,13,23] rfl ?_ (.c [10,24] rfl ?_ (.n))))))))))))))))))))))))));all_goals try exact kq
    all_goals
     rintro v W hb ⟨g0,g1,g2,g3⟩;refine .inl ⟨rfl,λK hK=>?_⟩;simp only [ov,aD,Nat.reduceBEq,cond_true,cond_false];go_wp2_with (first|(go_at_call 82;(with_reducible refine (oH.o _ (Et eo hb)).mono ?_);rintro e w9 ⟨rfl,bg⟩)|(go_at_call 77;(with_reducible refine (G6.o _).mono ?_);rintro e w9 ⟨rfl,h9⟩;have bg:Below W.heap.size W w9:=h9 ▸ Below.refl _ _;clear h9));exact aU (hK w9 bg) (by simp [ov,aD])
   case fin7b=>
    rintro W3 hb3 hg;show wpList _ _ _ [] _ _;simp only [aD];have cm:=ad (Et bj.o hb3);clear hg hb3 x0 x1 s0 p1 eo;go_wp2;go_roundw
    .exact ⟨j+1+1,aa,by go_num,ad (Et HB.o cm.o),ad (fw.o.below cm.o)⟩
    simp [intOf];omega
 obtain rfl:k=L.length:=aa;have s2:=(fw.o.cells 2).1;go_wp2;go_loopw [5] (λi wr=>∃ k:Nat,k<=s.ext.length/\i=.int .i64 k/\Hid (Below w.heap.size w wr)/\Hid (af wr w.heap.size #[.slice ac L.length cc,.int .i64 s.len,.slice ae s.ext.length ce] 43)) (λi _=>s.ext.length-(intOf i).toNat)
 .exact ⟨0,aa,rfl,HB,fw⟩
 obtain ⟨k,hk,rfl,HB,fw⟩:=hrel;have s2:=(fw.o.cells 2).1;by_cases hlt:k<s.ext.length
 .have dh:(k:Int)<s.ext.length:=aa;obtain ⟨b,o,y,rfl,hbl,hy,oo,y0,y1,y2⟩:=(HS.o.ex.ext HB.o).get hlt;obtain ⟨gg,gr⟩:=HV.o.ext k hlt;rw [hy] at gg;have RX:=ad (λW=>y1_ y W gg);have Zw:=ad gr;have HY:=ad hy;clear gg gr hy oo;go_upto_region 12 with (fail)
  cases k with
  | zero=>
   rw [show (((0:Nat):Int))=0 from rfl];simp only [Nat.zero_mul,Nat.add_zero] at y0 y1 y2;have ky:=ad (λW=>P4 y y W);refine jZ (w0:=wr) [0,1,2,3,4,5,6,7,8,9,10,11,12,13,14,15,16,17,18,19,20,21,22,23,24,25] [] (λv=>⟨#[.agg #[.slice ac L.length cc,.int .i64 s.len,.slice (some ⟨b,o,none⟩) s.ext.length ce],.pointer (some ⟨w.heap.size,0,none⟩),u2,.int .i64 ↑L.length,u4,.int .i64 0,.pointer (some ⟨w.heap.size,0,none⟩),.slice ac L.length cc,.int .i64 ↑L.length,.bool false,.bool false,.pointer (some ⟨w.heap.size,1,none⟩),.int .i64 s.len,.bool true,.bool false,.bool false,.bool false,.pointer (some ⟨w.heap.size,2,none⟩),.slice (some ⟨b,o,none⟩) s.ext.length ce,.int .i64 ↑s.ext.length,.bool false,.bool false,.int .i64 ↑L.length,.pointer (some ⟨w.heap.size,0,none⟩),.slice ac L.length cc,.int .i64 ↑L.length,.bool false,u27,u28,u29,u30,u31,u32,u33,u34,u35,u36,u37,u38,u39,u40,u41,u42,u43,u44,u45,u46,u47,u48,u49,u50,u51,u52,u53,u54,u55,u56,u57,u58,u59,.int .i64 0,.pointer (some ⟨w.heap.size,2,none⟩),.slice (some ⟨b,o,none⟩) s.ext.length ce,.int .i64 ↑s.ext.length,.bool true,u65,u66,v 0,v 1,v 2,v 3,v 4,v 5,v 6,v 7,v 8,v 9,v 10,v 11,v 12,v 13,v 14,v 15,v 16,v 17,v 18,v 19,v 20,v 21,v 22,v 23,v 24,v 25],[]⟩) [.pointer (some ⟨w.heap.size,2,none⟩),.slice (some ⟨b,o,none⟩) s.ext.length ce,.int .i64 0,.pointer (some ⟨b,o,none⟩),.agg #[.int .i64 y.day,.int .i64 y.frm,.int .i64 y.fin],.bool true,.bool false,.bool false,.int .i64 0,.bool false,.bool false,undef,undef,undef,undef,undef,undef,undef,undef,undef,undef,undef,undef,undef,.bool false,.bool false] (λW=>W.cell? ⟨w.heap.size,2,none⟩=some (.slice (some ⟨b,o,none⟩) s.ext.length ce)/\W.cell? ⟨b,o,none⟩=some (Value.int .i64 y.day)/\W.cell? ⟨b,o+1,none⟩=some (Value.int .i64 y.frm)/\W.cell? ⟨b,o+2,none⟩=some (Value.int .i64 y.fin)) (λW hb=>⟨al.cell hb s2,al.cell hb y0,al.cell hb y1,al.cell hb y2⟩) ?steps12a ?fin12a (λj=>match j with|0=>u67|1=>u68|2=>u69|3=>u70|4=>u71|5=>u72|6=>u73|7=>u74|8=>u75|9=>u76|10=>u77|11=>u78|12=>u79|13=>u80|14=>u81|15=>u82|16=>u83|17=>u84|18=>u85|19=>u86|20=>u87|21=>u88|22=>u89|23=>u90|24=>u91|25=>u92|_=>undef)
   case steps12a=>
    refine .c [] rfl ?_ (.c [0] rfl ?_ (.c [] rfl ?_ (.c [1,2] rfl ?_ (.c [3] rfl ?_ (.c [4] rfl ?_ (.c [5] rfl ?_ (.c [6] rfl ?_ (.c [7] rfl ?_ (.c [7,8] rfl ?_ (.c [7,9] rfl ?_ (.c [10] rfl ?_ (.c [10,11] rfl ?_ (.c [10] rfl ?_ (.c [10,13] rfl ?_ (.c [10,12,14] rfl ?_ (.c [10,15] rfl ?_ (.c [10] rfl ?_ (.c [10,17] rfl ?_ (.c [10] rfl ?_ (.c [10,18,19] rfl ?_ (.c [10,20] rfl ?_ (.c [10,16,21] rfl ?_ (.c [10,22] rfl ?_ (.c [7,10,23] rfl ?_ (.c [7,24] rfl ?_ (.n))))))))))))))))))))))))));all_goals try exact kq
    all_goals
     rintro v W hb ⟨g0,g1,g2,g3⟩;refine .inl ⟨rfl,λK hK=>?_⟩;simp only [ov,aD,Nat.reduceBEq,cond_true,cond_false];go_wp2_with (first|(go_at_call 83;(with_reducible refine (RX.o _).mono ?_);rintro e w9 ⟨rfl,bg⟩)|(go_at_call 47;(with_reducible refine (ky.o _).mono ?_);rintro e w9 ⟨rfl,bg⟩));exact aU (hK w9 bg) (by simp [ov,aD])
   case fin12a=>
    rintro W3 hb3 hg;show wpList _ _ _ [] _ _;simp only [aD];have cm:=ad hb3;clear hg hb3 y0 y1 y2 s2;go_wp2;go_roundw
    .exact ⟨0+1,aa,by go_num,ad (Et HB.o cm.o),ad (fw.o.below cm.o)⟩
    simp [intOf];omega
  | succ j=>
   obtain ⟨b',o',z,iW,_,hz,_,z0,z1,z2⟩:=(HS.o.ex.ext HB.o).get (show j<s.ext.length by omega);injection iW with iW
   injection iW with i1 i2
   subst i1 i2;have FT:=Zw.o j rfl;rw [HY.o,hz] at FT;have ky:=λW=>P4 z y W;rw [decide_eq_true FT] at ky;have ky:=ad ky;have rD:(0:Int)<(j:Int)+1:=aa;clear FT hz;rw [show (((j+1:Nat):Int))=(j:Int)+1 by omega];refine jZ (w0:=wr) [0,1,2,3,4,5,6,7,8,9,10,11,12,13,14,15,16,17,18,19,20,21,22,23,24,25] [] (λv=>⟨#[.agg #[.slice ac L.length cc,.int .i64 s.len,.slice (some ⟨b,o,none⟩) s.ext.length ce],.pointer (some ⟨w.heap.size,0,none⟩),u2,.int .i64 ↑L.length,u4,.int .i64 (↑j+1),.pointer (some ⟨w.heap.size,0,none⟩),.slice ac L.length cc,.int .i64 ↑L.length,.bool false,.bool false,.pointer (some ⟨w.heap.size,1,none⟩),.int .i64 s.len,.bool true,.bool false,.bool false,.bool false,.pointer (some ⟨w.heap.size,2,none⟩),.slice (some ⟨b,o,none⟩) s.ext.length ce,.int .i64 ↑s.ext.length,.bool false,.bool false,.int .i64 ↑L.length,.pointer (some ⟨w.heap.size,0,none⟩),.slice ac L.length cc,.int .i64 ↑L.length,.bool false,u27,u28,u29,u30,u31,u32,u33,u34,u35,u36,u37,u38,u39,u40,u41,u42,u43,u44,u45,u46,u47,u48,u49,u50,u51,u52,u53,u54,u55,u56,u57,u58,u59,.int .i64 (↑j+1),.pointer (some ⟨w.heap.size,2,none⟩),.slice (some ⟨b,o,none⟩) s.ext.length ce,.int .i64 ↑s.ext.length,.bool true,u65,u66,v 0,v 1,v 2,v 3,v 4,v 5,v 6,v 7,v 8,v 9,v 10,v 11,v 12,v 13,v 14,v 15,v 16,v 17,v 18,v 19,v 20,v 21,v 22,v 23,v 24,v 25],[]⟩) [.pointer (some ⟨w.heap.size,2,none⟩),.slice (some ⟨b,o,none⟩) s.ext.length ce,.int .i64 ((j:Int)+1),.pointer (some ⟨b,o+(j+1)*3,none⟩),.agg #[.int .i64 y.day,.int .i64 y.frm,.int .i64 y.fin],.bool true,.bool false,.bool false,.int .i64 ((j:Int)+1),.bool true,.bool true,.pointer (some ⟨w.heap.size,2,none⟩),.slice (some ⟨b,o,none⟩) s.ext.length ce,.int .i64 ((j:Int)+1),.int .i64 (j:Int),.pointer (some ⟨b,o+j*3,none⟩),.agg #[.int .i64 z.day,.int .i64 z.frm,.int .i64 z.fin],.pointer (some ⟨w.heap.size,2,none⟩),.slice (some ⟨b,o,none⟩) s.ext.length ce,.int .i64 ((j:Int)+1),.pointer (some ⟨b,o+(j+1)*3,none⟩),.agg #[.int .i64 y.day,.int .i64 y.frm,.int .i64 y.fin],.bool true,.bool false,.bool false,.bool false] (λW=>W.cell? ⟨w.heap.size,2,none⟩=some (.slice (some ⟨b,o,none⟩) s.ext.length ce)/\W.cell? ⟨b,o+(j+1)*3,none⟩=some (Value.int .i64 y.day)/\W.cell? ⟨b,o+(j+1)*3+1,none⟩=some (Value.int .i64 y.frm)/\W.cell? ⟨b,o+(j+1)*3+2,none⟩=some (Value.int .i64 y.fin)/\W.cell? ⟨b,o+j*3,none⟩=some (Value.int .i64 z.day)/\W.cell? ⟨b,o+j*3+1,none⟩=some (Value.int .i64 z.frm)/\W.cell? ⟨b,o+j*3+2,none⟩=some (Value.int .i64 z.fin)) (λW hb=>⟨al.cell hb s2,al.cell hb y0,al.cell hb y1,al.cell hb y2,al.cell hb z0,al.cell hb z1,al.cell hb z2⟩) ?steps12b ?fin12b (λj=>match j with|0=>u67|1=>u68|2=>u69|3=>u70|4=>u71|5=>u72|6=>u73|7=>u74|8=>u75|9=>u76|10=>u77|11=>u78|12=>u79|13=>u80|14=>u81|15=>u82|16=>u83|17=>u84|18=>u85|19=>u86|20=>u87|21=>u88|22=>u89|23=>u90|24=>u91|25=>u92|_=>undef)
   case steps12b=>
    refine .c [] rfl ?_ (.c [0] rfl ?_ (.c [] rfl ?_ (.c [1,2] rfl ?_ (.c [3] rfl ?_ (.c [4] rfl ?_ (.c [5] rfl ?_ (.c [6] rfl ?_ (.c [7] rfl ?_ (.c [7,8] rfl ?_ (.c [7,9] rfl ?_ (.c [10] rfl ?_ (.c [10,11] rfl ?_ (.c [10] rfl ?_ (.c [10,13] rfl ?_ (.c [10,12,14] rfl ?_ (.c [10,15] rfl ?_ (.c [10] rfl ?_ (.c [10,17] rfl ?_ (.c [10] rfl ?_ (.c [10,18,19] rfl ?_ (.c [10,20] rfl ?_ (.c [10,16,21] rfl ?_ (.c [10,22] rfl ?_ (.c [7,10,23] rfl ?_ (.c [7,24] rfl ?_ (.n))))))))))))))))))))))))));all_goals try exact kq
    all_goals
     rintro v W hb ⟨g0,g1,g2,g3,g4,g5,g6⟩;refine .inl ⟨rfl,λK hK=>?_⟩;simp only [ov,aD,Nat.reduceBEq,cond_true,cond_false];go_wp2_with (first|(go_at_call 83;(with_reducible refine (RX.o _).mono ?_);rintro e w9 ⟨rfl,bg⟩)|(go_at_call 47;(with_reducible refine (ky.o _).mono ?_);rintro e w9 ⟨rfl,bg⟩));exact aU (hK w9 bg) (by simp [ov,aD])
   case fin12b=>
    rintro W3 hb3 hg;show wpList _ _ _ [] _ _;simp only [aD];have cm:=ad hb3;clear hg hb3 y0 y1 y2 z0 z1 z2 s2;go_wp2;go_roundw
    .exact ⟨j+1+1,aa,by go_num,ad (Et HB.o cm.o),ad (fw.o.below cm.o)⟩
    simp [intOf];omega
 obtain rfl:k=s.ext.length:=aa;go_wp2;go_ret;exact ⟨rfl,HB.o⟩
def ey (n:a_):List a_->List a_
 | []=>[n]
 | y :: l=>if n.id<y.id then n :: y :: l else y :: ey n l
theorem xe_ {n:a_} {l:List a_} {x:a_}:x∈ey n l->x=n\/x∈l:=by
 induction l with
 | nil=>intro h;exact .inl (List.mem_singleton.1 h)
 | cons y l ih=>
  unfold ey
  split
  .intro h;exact (List.mem_cons.1 h).elim .inl .inr
  intro h;rcases List.mem_cons.1 h with h|h
  .exact .inr (List.mem_cons.2 (.inl h))
  exact (ih h).imp (λh=>h) λh=>List.mem_cons.2 (.inr h)
theorem xd_ (n:a_) (l:List a_):(ey n l).map a_.key=di (l.map a_.key) n.id n.s:=by
 induction l with
 | nil=>rfl
 | cons y l ih=>
  unfold ey;rw [List.map_cons];show _=di ((y.id,y.s) :: l.map a_.key) n.id n.s;unfold di
  split
  .rfl
  rw [List.map_cons,ih];rfl
theorem Qj (n:a_) (l:List a_):(ey n l).length=l.length+1:=by
 induction l with
 | nil=>rfl
 | cons y l ih=>
  unfold ey
  split
  .rfl
  rw [List.length_cons,ih,List.length_cons]
def de (M:List a_) (n:a_) (k:Nat) (done:Bool) (out:List a_):Prop:=out ++ (if done then M.drop k else ey n (M.drop k))=ey n M
theorem de.start (M:List a_) (n:a_):de M n 0 false []:=by unfold de;rfl
theorem de.len {M:List a_} {n:a_} {out:List a_} (h:de M n k done out) (hk:k<=M.length):out.length=k+(if done then 1 else 0):=by
 have h1:=congrArg List.length h;rw [List.length_append,Qj] at h1;cases done
 .rw [if_neg ag,Qj,List.length_drop] at h1;simp;omega
 rw [if_pos rfl,List.length_drop] at h1;simp;omega
theorem de.next {M:List a_} {n y:a_} {out:List a_} (h:de M n k done out) (hy:M[k]? = some y) (hd:done=true\/¬ n.id<y.id):de M n (k+1) done (out ++ [y]):=by
 have hk:=(List.getElem?_eq_some_iff.1 hy).1;have e:M.drop k=y :: M.drop (k+1):=by rw [List.drop_eq_getElem_cons hk,(List.getElem?_eq_some_iff.1 hy).2]
 unfold de at *;rw [e] at h;cases done
 .have IU:¬ n.id<y.id:=hd.elim (λh=>by cases h) λh=>h;have e2:ey n (y :: M.drop (k+1))=y :: ey n (M.drop (k+1)):=by conv=>lhs;unfold ey;rw [if_neg IU]
  rw [if_neg ag] at h ⊢;rw [e2] at h;rw [List.append_assoc,List.singleton_append];exact h
 rw [if_pos rfl] at h ⊢;rw [List.append_assoc,List.singleton_append];exact h
theorem de.here {M:List a_} {n y:a_} {out:List a_} (h:de M n k false out) (hy:M[k]? = some y) (hd:n.id<y.id):de M n (k+1) true (out ++ [n] ++ [y]):=by
 have hk:=(List.getElem?_eq_some_iff.1 hy).1;have e:M.drop k=y :: M.drop (k+1):=by rw [List.drop_eq_getElem_cons hk,(List.getElem?_eq_some_iff.1 hy).2]
 unfold de at *;have e2:ey n (y :: M.drop (k+1))=n :: y :: M.drop (k+1):=by conv=>lhs;unfold ey;rw [if_pos hd]
 rw [e,if_neg ag,e2] at h;rw [if_pos rfl,List.append_assoc,List.append_assoc];exact h
theorem de.end1 {M:List a_} {n:a_} {out:List a_} (h:de M n M.length true out):out=ey n M:=by
 unfold de at h;rw [if_pos rfl,List.drop_length,List.append_nil] at h;exact h
theorem de.end0 {M:List a_} {n:a_} {out:List a_} (h:de M n M.length false out):out ++ [n]=ey n M:=by
 unfold de at h;rw [if_neg ag,List.drop_length] at h;exact h
theorem GL {α β:Type} (f:α->List β) (l:List α) (x:α):l.flatMap f ++ f x=(l ++ [x]).flatMap f:=by simp
def WS (q:Nat) (G F:Nat->Prop) (M:List a_) (L:IL) (id:Int) (s:aE) (w:World) (e:Ending) (w':World):Prop:=
 ((id<1\/1099511627776<id)/\e=.returned (.int .i64 1)/\Below w.heap.size w w') \/
 ((
  1<=id/\id<=1099511627776)/\((id∈ids L/\e=.returned (.int .i64 5)/\Below w.heap.size w w') \/
  (id ∉ ids L/\e=.returned (.int .i64 0)/\w.grownBy w' (some q)/\∃ v' M',eI w' q (λk=>(G k\/F k)\/w.heap.size<=k) v' M' (di L id s)/\M'.length=M.length+1)))
theorem WG {q:Nat} {G F:Nat->Prop} {M out:List a_} {L:IL} {s:aE} {wf:World} (H:eI w q G v M L) (hb:Below w.heap.size w wf) (ho:wf.ownsRow (w.heap.size+1) 68 4 v' out.length (out.flatMap a_.enc)) (he:out=ey ⟨id,cv,ev,s⟩ M) (hs:bq w F cv ev s) (hid:aP id) (pR:id ∉ ids L) (hF:¬ F q) :
  w.grownBy (wf.setCell ⟨q,0,none⟩ v') (some q)/\∃ v2 M',eI (wf.setCell ⟨q,0,none⟩ v') q (λk=>(G k\/F k)\/w.heap.size<=k) v2 M' (di L id s)/\M'.length=M.length+1:=by
 refine ⟨World.grownBy.set' (World.grownBy.of_below hb _) v',v',out,W_ (G:=λk=>G k\/F k) (H.ext hb).box ⟨ho.1,ho.2.imp (λh=>h) (λ⟨g,cap,cur,e,hb,r⟩=>⟨g,cap,cur,e,aa,r⟩)⟩ H.box.lt (λh=>h.elim H.apart hF) ?_ ?_ (Qi H.asc pR),by rw [he,Qj]⟩
 .intro x hx;rw [he] at hx;rcases xe_ hx with rfl|hx
  .exact ⟨(hs.ext hb).mono λk hk=>.inl (.inr hk),hid⟩
  exact wu.mono ((H.ext hb).all x hx) λk hk=>.inl (.inl hk)
 rw [he,xd_,H.eq]
def Mq (M:List a_) (id:Int) (cv ev:Value) (s:aE) (w:World) (ov dv iv:Value) (wr:World):Prop:=
 ∃ (k:Nat) (done:Bool) (out:List a_),k<=M.length/\iv=.int .i64 k/\dv=.bool done/\Hid (de M ⟨id,cv,ev,s⟩ k done out)/\Hid (wr.ownsRow (w.heap.size+1) 68 4 ov out.length (out.flatMap a_.enc))/\Hid (Below (w.heap.size+1) (w.alloc (.cells #[cv,.int .i64 s.len,ev] 43)) wr)
theorem xy_ (q:Nat) (G F:Nat->Prop) (v:Value) (M:List a_) (L:IL) (id:Int) (cv ev:Value) (s:aE) (w:World) (h:eI w q G v M L) (hl:M.length<=1000) (hs:bq w F cv ev s) (hv:mN dU s) (hid:aP id) (hF:¬ F q) :
  Calls Tryz.prog 27 #[.pointer (some ⟨q,0,none⟩),.int .i64 id,.agg #[cv,.int .i64 s.len,ev]] w (WS q G F M L id s w):=by
 obtain ⟨a,c,rfl⟩:=h.form;have H:=ad h;have hq:=h.box.lt;have oD:=ad hid;have HS:=ad hs;obtain ⟨a1,c1,a2,c2,rfl,rfl⟩:=hs.form;have HV:=ad (λW (hb:Below w.heap.size w W)=>ql_ F _ _ s W (hs.ext hb) hv);have HF:=ad (λW (hb:Below w.heap.size w W)=>VU q G _ M L id W (h.ext hb) aa);have cw:=ad (λW (hb:Below w.heap.size w W)=>(h.ext hb).box);obtain ⟨id1,id2⟩:=oD.o;by_cases hA:id<1
 .clear h hs hv hid
  go_in
  go_wp2
  go_ret;exact .inl ⟨.inl hA,rfl,xE⟩
 by_cases hB:1099511627776<id
 .clear h hs hv hid
  go_in
  go_wp2
  go_ret;exact .inl ⟨.inr hB,rfl,xE⟩
 have qA:=ad (show 1<=id/\id<=1099511627776 by omega);rcases VT (L:=L) (i:=id) with ⟨pR,hp⟩|⟨k,t,hk,hp⟩
 .rw [hp] at HF;have im:=ad pR;obtain ⟨iM,Gy,Gz,GA,GB⟩:=Xf;have eF:=ad (And.intro Gy (And.intro Gz (And.intro GA GB)));have hm4:((M.length:Int) == 4096)=false:=by simp;omega
  clear h hs hv pR hp Gy Gz GA GB
  go_in
  go_wp2_with (first|(go_at_call 44;(with_reducible refine (HV.o _ (Ea (Er w) _)).mono ?_);rintro e w1 ⟨rfl,hb1⟩;have hb2:Below w.heap.size w w1:=Et (Ea (Er w) _) hb1;have q0:=((cw.o _ hb2).cells 0).1;have bo:=ad hb1;have bj:=ad hb2;clear hb1 hb2)|(go_at_call 54;(with_reducible refine (HF.o _ bj.o).mono ?_);rintro e w2 ⟨rfl,e1⟩;obtain rfl:w1=w2:=e1.symm))
  have jc:=ad ((bo.o.mono (show w.heap.size+1<=_ by simp)).alloc (show w.heap.size+1<=_ by have:=bo.o.size;simpa using this) (.cells #[] 68));have eW:(w1.alloc (.cells #[] 68)).ownsRow (w.heap.size+1) 68 4 (.slice (some ⟨w1.heap.size,0,none⟩) 0 0) 0 (([]:List a_).flatMap a_.enc):=
   ⟨rfl,.inr ⟨w1.heap.size,0,#[],rfl,by have:=bo.o.size;simpa using this,World.alloc_heap_new _ _,Nat.le_refl _,by simp [maxLen],rfl,rfl⟩⟩
  have Do:=ad eW;have sE:=ad ((af.new w #[.slice a1 s.cls.length c1,.int .i64 s.len,.slice a2 s.ext.length c2] 43));clear eW q0 hm4;go_loopw [7,8,9] (λov dv iv wr=>Mq M id (.slice a1 s.cls.length c1) (.slice a2 s.ext.length c2) s w ov dv iv wr) (λ_ _ iv _=>M.length-(intOf iv).toNat)
  .exact ⟨0,false,[],aa,rfl,rfl,ad (de.start _ _),Do,jc⟩
  obtain ⟨k,done,out,hk,rfl,rfl,HP,HO,HB⟩:=hrel;obtain ⟨oa,oc,rfl⟩:=k_ HO.o;have bH:Hid (Below w.heap.size w wr):=ad ((Ea (Er w) _).trans (HB.o.mono aa));have hxb:=sE.o.upto HB.o aa;have x0:=(hxb.cells 0).1;have x1:=(hxb.cells 1).1;have x2:=(hxb.cells 2).1;have q0:=((cw.o _ bH.o).cells 0).1;have jF:=ad (HP.o.len hk);clear hxb;by_cases hlt:k<M.length
  .have dh:(k:Int)<M.length:=aa;obtain ⟨b,o,y,rfl,hbl,hy,-,oo,e0,e1,e2,e3⟩:=H.o.get hlt;have HY:=ad hy;have CG:=ad (λW (hb:Below w.heap.size w W)=>And.intro (al.cell hb e0) (And.intro (al.cell hb e1) (And.intro (al.cell hb e2) (al.cell hb e3))));clear e0 e1 e2 e3 hy oo;obtain ⟨e0,e1,e2,e3⟩:=CG.o _ bH.o;have b6:=ad (show k+1<=M.length by omega);have yO:Hid (∀ u∈a_.enc y,u.oneCell'=true):=ad (λu hu=>QG (G:=G) (W:=w) H.o.all u (List.mem_flatMap.2 ⟨y,List.mem_of_getElem? HY.o,hu⟩));cases done
   .simp only [Bool.false_eq_true,if_false] at jF;by_cases hid3:id<y.id
    .have nE:=ad (HP.o.here HY.o hid3);go_upto_region 15 with (at_builtin;(refine nK az _ _ _ _ az iM _ 4 64 Tryz.underlying51 eF.o.1 eF.o.2.1 eF.o.2.2.1 eF.o.2.2.2 rfl aF aF (w.heap.size+1) (.slice oa out.length oc) (out.length) (out.flatMap a_.enc) (a_.enc ⟨id,.slice a1 s.cls.length c1,.slice a2 s.ext.length c2,s⟩) rfl az (HO.o.alloc _) wr.heap.size 1 az (um (af.new wr #[.int .i64 id,.slice a1 s.cls.length c1,.int .i64 s.len,.slice a2 s.ext.length c2] 68)) (by simp [a_.enc,Value.oneCell']) (by have:=jF.o;omega) (by rw [World.size_alloc];have:=HB.o.size;simp at this;omega) ?_);intro v9 w8 au aq aK;obtain ⟨ma,mc,rfl⟩:=k_ au;rw [GL] at au;have bg:=(HB.o.alloc (by have:=HB.o.size;simp at this;omega) (.cells #[.int .i64 id,.slice a1 s.cls.length c1,.int .i64 s.len,.slice a2 s.ext.length c2] 68)).grown aq (by rw [World.size_alloc];have:=HB.o.size;simp at this;omega) (λq' e=>(HO.o.lt q' e).1);have gG:=ad bg;have Bb:=ad au;have Bn:=ad ((Ea (Er w) (.cells #[.slice a1 s.cls.length c1,.int .i64 s.len,.slice a2 s.ext.length c2] 43)).trans (bg.mono (show w.heap.size<=w.heap.size+1 by omega)));obtain ⟨f0,f1,f2,f3⟩:=CG.o _ Bn.o;have q9:=((cw.o _ Bn.o).cells 0).1;clear au aq aK bg)
     clear e0 e1 e2 e3 q0 x0 x1 x2;go_wp2_with (at_builtin;(refine nK az _ _ _ _ az iM _ 4 64 Tryz.underlying51 eF.o.1 eF.o.2.1 eF.o.2.2.1 eF.o.2.2.2 rfl aF aF (w.heap.size+1) (.slice ma (out.length+1) mc) ((out.length+1)) ((out ++ [(⟨id,.slice a1 s.cls.length c1,.slice a2 s.ext.length c2,s⟩:a_)]).flatMap a_.enc) (a_.enc y) rfl az (Bb.o.alloc _) w8.heap.size 1 az (um (af.new w8 #[.int .i64 y.id,y.cv,.int .i64 y.s.len,y.ev] 68)) yO.o (by have:=jF.o;omega) (by rw [World.size_alloc];have:=gG.o.size;simp at this;omega) ?_);intro v9 w9 au aq aK;obtain ⟨na,nc,rfl⟩:=k_ au;rw [GL] at au;have bg:=(gG.o.alloc (by have:=gG.o.size;simp at this;omega) (.cells #[.int .i64 y.id,y.cv,.int .i64 y.s.len,y.ev] 68)).grown aq (by rw [World.size_alloc];have:=gG.o.size;simp at this;omega) (λq' e=>(Bb.o.lt q' e).1);have jc:=ad bg;have kU:=ad au;clear au aq aK bg);go_roundw
     .exact ⟨k+1,true,out ++ [⟨id,.slice a1 s.cls.length c1,.slice a2 s.ext.length c2,s⟩] ++ [y],b6.o,by go_num,rfl,nE,ad (by have h2:=kU.o;simpa using h2),jc⟩
     have:=b6.o;simp [intOf];omega
    have nE:=ad (HP.o.next HY.o (.inr hid3));go_wp2_with (at_builtin;(refine nK az _ _ _ _ az iM _ 4 64 Tryz.underlying51 eF.o.1 eF.o.2.1 eF.o.2.2.1 eF.o.2.2.2 rfl aF aF (w.heap.size+1) (.slice oa out.length oc) (out.length) (out.flatMap a_.enc) (a_.enc y) rfl az (HO.o.alloc _) wr.heap.size 1 az (um (af.new wr #[.int .i64 y.id,y.cv,.int .i64 y.s.len,y.ev] 68)) yO.o (by have:=jF.o;omega) (by rw [World.size_alloc];have:=HB.o.size;simp at this;omega) ?_);intro v9 w9 au aq aK;obtain ⟨na,nc,rfl⟩:=k_ au;rw [GL] at au;have bg:=(HB.o.alloc (by have:=HB.o.size;simp at this;omega) (.cells #[.int .i64 y.id,y.cv,.int .i64 y.s.len,y.ev] 68)).grown aq (by rw [World.size_alloc];have:=HB.o.size;simp at this;omega) (λq' e=>(HO.o.lt q' e).1);have jc:=ad bg;have kU:=ad au;clear au aq aK bg);go_roundw
    .exact ⟨k+1,false,out ++ [y],b6.o,by go_num,rfl,nE,ad (by have h2:=kU.o;simpa using h2),jc⟩
    have:=b6.o;simp [intOf];omega
   simp only [if_true] at jF;have nE:=ad (HP.o.next HY.o (.inl rfl));go_wp2_with (at_builtin;(refine nK az _ _ _ _ az iM _ 4 64 Tryz.underlying51 eF.o.1 eF.o.2.1 eF.o.2.2.1 eF.o.2.2.2 rfl aF aF (w.heap.size+1) (.slice oa out.length oc) (out.length) (out.flatMap a_.enc) (a_.enc y) rfl az (HO.o.alloc _) wr.heap.size 1 az (um (af.new wr #[.int .i64 y.id,y.cv,.int .i64 y.s.len,y.ev] 68)) yO.o (by have:=jF.o;omega) (by rw [World.size_alloc];have:=HB.o.size;simp at this;omega) ?_);intro v9 w9 au aq aK;obtain ⟨na,nc,rfl⟩:=k_ au;rw [GL] at au;have bg:=(HB.o.alloc (by have:=HB.o.size;simp at this;omega) (.cells #[.int .i64 y.id,y.cv,.int .i64 y.s.len,y.ev] 68)).grown aq (by rw [World.size_alloc];have:=HB.o.size;simp at this;omega) (λq' e=>(HO.o.lt q' e).1);have jc:=ad bg;have kU:=ad au;clear au aq aK bg);go_roundw
   .exact ⟨k+1,true,out ++ [y],b6.o,by go_num,rfl,nE,ad (by have h2:=kU.o;simpa using h2),jc⟩
   have:=b6.o;simp [intOf];omega
  obtain rfl:k=M.length:=aa;have q8:=((cw.o _ bH.o).cells 0).2;clear hlt;cases done
  .simp only [Bool.false_eq_true,if_false] at jF;clear q8;go_wp2_with (at_builtin;(refine nK az _ _ _ _ az iM _ 4 64 Tryz.underlying51 eF.o.1 eF.o.2.1 eF.o.2.2.1 eF.o.2.2.2 rfl aF aF (w.heap.size+1) (.slice oa out.length oc) (out.length) (out.flatMap a_.enc) (a_.enc ⟨id,.slice a1 s.cls.length c1,.slice a2 s.ext.length c2,s⟩) rfl az (HO.o.alloc _) wr.heap.size 1 az (um (af.new wr #[.int .i64 id,.slice a1 s.cls.length c1,.int .i64 s.len,.slice a2 s.ext.length c2] 68)) (by simp [a_.enc,Value.oneCell']) (by have:=jF.o;omega) (by rw [World.size_alloc];have:=HB.o.size;simp at this;omega) ?_);intro v9 w9 au aq aK;obtain ⟨na,nc,rfl⟩:=k_ au;rw [GL] at au;have bg:=(HB.o.alloc (by have:=HB.o.size;simp at this;omega) (.cells #[.int .i64 id,.slice a1 s.cls.length c1,.int .i64 s.len,.slice a2 s.ext.length c2] 68)).grown aq (by rw [World.size_alloc];have:=HB.o.size;simp at this;omega) (λq' e=>(HO.o.lt q' e).1);have yM:=ad ((Ea (Er w) (.cells #[.slice a1 s.cls.length c1,.int .i64 s.len,.slice a2 s.ext.length c2] 43)).trans (bg.mono (show w.heap.size<=w.heap.size+1 by omega)));have kU:=ad au;have q9:=((cw.o _ yM.o).cells 0).1;have q8:=((cw.o _ yM.o).cells 0).2;clear au aq aK bg);go_ret;exact .inr ⟨qA.o,.inr ⟨im.o,rfl,WG H.o yM.o (by have h2:=kU.o;simpa using h2) HP.o.end0 HS.o oD.o im.o hF⟩⟩
  simp only [if_true] at jF;go_wp2_with (fail);go_ret;exact .inr ⟨qA.o,.inr ⟨im.o,rfl,WG H.o bH.o HO.o HP.o.end1 HS.o oD.o im.o hF⟩⟩
 rw [hp] at HF;have dL:Hid (id∈ids L):=ad (List.mem_map.2 ⟨_,List.mem_of_getElem? hk,rfl⟩);clear h hs hv hk hp
 go_in
 go_wp2_with (first|(go_at_call 44;(with_reducible refine (HV.o _ (Ea (Er w) _)).mono ?_);rintro e w1 ⟨rfl,hb1⟩;have hb2:Below w.heap.size w w1:=Et (Ea (Er w) _) hb1;have q0:=((cw.o _ hb2).cells 0).1;have bj:=ad hb2;clear hb1 hb2)|(go_at_call 54;(with_reducible refine (HF.o _ bj.o).mono ?_);rintro e w2 ⟨rfl,e1⟩;obtain rfl:w1=w2:=e1.symm;have hk0:(0:Int)<=(k:Int):=aa))
 go_ret;exact .inr ⟨qA.o,.inl ⟨dL.o,rfl,bj.o⟩⟩
def iH (x:Int):Int:=([30,60,90,600,1440,1500,3000,10080]:List Int).getD (x % 8).toNat 0
def dI (ml:List Int):Nat->Int
 | 0=>-1500
 | k+1=>dI ml k+1+15*ml.getD k 0
def eJ (ll:List (List Int)) (ml:List Int):Nat->List eA
 | 0=>[]
 | k+1=>eJ ll ml k ++ if dI ml (k+1)<=4320 then [⟨sS ((ll.drop k).take 2),dI ml (k+1)⟩] else []
def gN (x:Int):ai:=⟨x % 7,15*(x % 5760)-2880,15*(x % 5760)-2880+15*(1+x / 5760*7)⟩
def fY (el:List Int):List ai:=el.foldl (λa x=>du a (gN x)) []
def GN (ll:List (List Int)) (ml:List Int) (x:Int) (el:List Int):aE:=⟨eJ ll ml (min 3 (min ml.length ll.length)),iH x,fY (el.take 4)⟩
theorem XI (x:Int):30<=iH x/\iH x<=10080:=by
 have h:(x % 8).toNat<8:=aa;unfold iH;generalize (x % 8).toNat=k at *
 match k,h with
 | 0,_=>decide
 | 1,_=>decide
 | 2,_=>decide
 | 3,_=>decide
 | 4,_=>decide
 | 5,_=>decide
 | 6,_=>decide
 | 7,_=>decide
theorem QU (h:∀ x∈ml,0<=x/\x<=255):∀ k:Nat,-1500<=dI ml k/\dI ml k<=-1500+3826*k/\dI ml k<dI ml (k+1):=by
 have e:∀ k,0<=ml.getD k 0/\ml.getD k 0<=255:=λk=>by
  by_cases hk:k<ml.length
  .exact h _ (dz (d:=0) hk)
  rw [List.getD_eq_getElem?_getD,List.getElem?_eq_none aa];decide
 intro k;induction k with
 | zero=>have:=e 0;refine ⟨Int.le_refl _,by show (-1500:Int)<=-1500+3826*((0:Nat):Int);omega,?_⟩;show dI ml 0<dI ml 0+1+15*ml.getD 0 0;omega
 | succ k ih=>
  have h1:=e k;have h2:=e (k+1);have e1:dI ml (k+1)=dI ml k+1+15*ml.getD k 0:=rfl;have e2:dI ml (k+1+1)=dI ml (k+1)+1+15*ml.getD (k+1) 0:=rfl;refine ⟨aa,aa,aa⟩
theorem wp_ (ll:List (List Int)) (ml:List Int):∀ k,(eJ ll ml k).length<=k:=by
 intro k;induction k with
 | zero=>exact Nat.le_refl _
 | succ k ih=>
  unfold eJ;rw [List.length_append]
  split
  .rw [List.length_singleton];omega
  rw [List.length_nil];omega
theorem z6_ {ll:List (List Int)}:∀ k,∀ c∈eJ ll ml k,MV 0 c.days:=by
 intro k;induction k with
 | zero=>intro c hc;simp [eJ] at hc
 | succ k ih=>
  intro c hc;unfold eJ at hc;rcases List.mem_append.1 hc with hc|hc
  .exact ih c hc
  split at hc
  .rw [List.mem_singleton] at hc;subst hc;exact (PN _).mv
  simp at hc
theorem wo_ {ll:List (List Int)} (h:∀ x∈ml,0<=x/\x<=255):∀ k,jb dU (eJ ll ml k) (dI ml k):=by
 intro k;induction k with
 | zero=>exact jb.nil
 | succ k ih=>
  have h1:=QU h k;have h2:=QU h (k+1);unfold eJ
  split
  .rename_i h3;exact ih.snoc h1.2.2 ((PN _).mv.val) aa h3
  rw [List.append_nil];exact ih.le aa
theorem uk_ (h:0<=x/\x<=65535):j9 (gN x)/\-10000<=(gN x).frm:=by
 unfold j9 gN;simp only;omega
theorem ui_ {el:List Int} (h:∀ x∈el,0<=x/\x<=65535):ie (fY el)/\(fY el).length<=el.length/\∀ y∈fY el,j9 y/\-10000<=y.frm:=by
 have key:∀ (l:List Int) (a:List ai),(∀ x∈l,0<=x/\x<=65535)->ie a->(∀ y∈a,j9 y/\-10000<=y.frm)->ie (l.foldl (λa x=>du a (gN x)) a)/\(l.foldl (λa x=>du a (gN x)) a).length<=a.length+l.length/\∀ y∈l.foldl (λa x=>du a (gN x)) a,j9 y/\-10000<=y.frm:=by
  intro l;induction l with
  | nil=>exact λa _ h2 h3=>⟨h2,ag,h3⟩
  | cons x l ih=>
   intro a h1 h2 h3;obtain ⟨k1,k2,k3⟩:=ih (du a (gN x)) (λy hy=>h1 y (List.mem_cons_of_mem _ hy)) (xb_ h2) (λy hy=>by
    rcases xc_.1 hy with rfl|hy
    .exact uk_ (h1 x ag)
    exact h3 y hy)
   have:=Ws (l:=a) (x:=gN x);exact ⟨k1,by rw [List.foldl_cons,List.length_cons];omega,k3⟩
 have:=key el [] h .nil ag;simpa [fY] using this
theorem uj_ (el:List Int) (x:Int):fY (el ++ [x])=du (fY el) (gN x):=by unfold fY;rw [List.foldl_append];rfl
structure EA (s:aE):Prop where
 ms:bM s
 near:∀ x∈s.ext,-10000<=x.frm
 ncls:s.cls.length<=3
 next:s.ext.length<=4
theorem sz_ {ll:List (List Int)} {el:List Int} (hm:∀ y∈ml,0<=y/\y<=255) (he:∀ y∈el,0<=y/\y<=65535):EA (GN ll ml x el):=by
 have hl:=XI x;obtain ⟨g1,g2,g3⟩:=ui_ (el:=el.take 4) λy hy=>he y (List.mem_of_mem_take hy);have g4:(fY (el.take 4)).length<=4:=by rw [List.length_take] at g2;omega
 have hk:=wp_ ll ml (min 3 (min ml.length ll.length));refine ⟨⟨⟨?_,?_,?_,?_,?_⟩,z6_ _⟩,λy hy=>(g3 y hy).2,?_,g4⟩
 .show (eJ ll ml _).length<=64;omega
 .show 1<=iH x/\iH x<=10080;omega
 .show (fY (el.take 4)).length<=4096;omega
 .exact (wo_ hm _).good
 .exact g1.good λy hy=>(g3 y hy).1
 show (eJ ll ml _).length<=3;omega
theorem zh_ {b:Nat} {t:TypeId} (h:af W b #[.int .i64 30,.int .i64 60,.int .i64 90,.int .i64 600,.int .i64 1440,.int .i64 1500,.int .i64 3000,.int .i64 10080] t) (x:Int) (hx:0<=x):W.cell? ⟨b,(x % 8).toNat,none⟩=some (.int .i64 (iH x)):=by
 rw [(h.cells _).1];unfold iH;have hk:(x % 8).toNat<8:=aa;generalize (x % 8).toNat=k at *
 match k,hk with
 | 0,_=>rfl
 | 1,_=>rfl
 | 2,_=>rfl
 | 3,_=>rfl
 | 4,_=>rfl
 | 5,_=>rfl
 | 6,_=>rfl
 | 7,_=>rfl
theorem ni_ {b o i:Nat} {ll:List (List Int)} (h:wj w (.slice (some ⟨b,o,none⟩) ll.length c) ll) (hi:i+n<=ll.length) {o' c':Nat} (ho:n=0\/o'=o+i):wj w (.slice (some ⟨b,o',none⟩) n c') ((ll.drop i).take n):=by
 obtain ⟨⟨a,c2,he,h1⟩,h2⟩:=h;injection he with e1 _ e2
 have hl:((ll.drop i).take n).length=n:=by rw [List.length_take,List.length_drop];omega
 refine ⟨⟨_,c',by rw [hl],?_⟩,by rw [hl];omega⟩;by_cases h0:n=0
 .left;exact List.eq_nil_of_length_eq_zero (by rw [hl];exact h0)
 obtain rfl:o'=o+i:=ho.resolve_left h0;rcases h1 with h1|⟨b2,o2,e,hc⟩
 .rw [h1] at hi;simp at hi;omega
 rw [<- e1] at e;injection e with e
 injection e with e3 e4
 subst e3;subst e4;refine .inr ⟨_,_,rfl,λj hj=>?_⟩;rw [hl] at hj;obtain ⟨u,g1,g2⟩:=hc (i+j) aa;refine ⟨u,by rw [Nat.add_assoc];exact g1,?_⟩;have e:((ll.drop i).take n).getD j []=ll.getD (i+j) []:=by
  rw [List.getD_eq_getElem?_getD,List.getD_eq_getElem?_getD,List.getElem?_take_of_lt hj,List.getElem?_drop]
 rw [e];exact g2
theorem y8_ (ll:List (List Int)) (hk:k<ll.length):(ll.drop k).take ((min ((k:Int)+2) ll.length).toNat-k)=(ll.drop k).take 2:=by
 by_cases h:k+2<=ll.length
 .rw [show (min ((k:Int)+2) ll.length).toNat-k=2 by omega]
 have hl:(ll.drop k).length=1:=by rw [List.length_drop];omega
 rw [List.take_of_length_le (by rw [hl];omega),List.take_of_length_le (by rw [hl];omega)]
theorem ss_ (B:Nat) (lv:Value) (l:List ai) (x:ai) (w:World) (h:b_ w (λb=>B<=b) lv l) (hx:qG x) (hl:l.length<=1000) (hB:B<=w.heap.size) :
  Calls Tryz.prog 43 #[lv,bZ x] w λe w'=>∃ a c,e=.returned (.slice a (du l x).length c)/\b_ w' (λb=>B<=b) (.slice a (du l x).length c) (du l x)/\Below w.heap.size w w':=
 (sr_ _ lv l x w h hx hl).mono λe w' ⟨hb,v',he,hc⟩=>by
  subst he;rcases hc with ⟨hm,rfl⟩|⟨hm,ho⟩
  .have e1:du l x=l:=by unfold du;rw [if_pos hm]
   obtain ⟨a,c,rfl⟩:=h.form;rw [e1];exact ⟨a,c,rfl,h.ext hb,hb⟩
  have e1:du l x=dj l x:=by unfold du;rw [if_neg hm]
  obtain ⟨a,c,rfl,_⟩:=ho.form;rw [e1];exact ⟨a,c,rfl,ho.extL.mono λb hb'=>by have:=hb'.1;omega,hb⟩
def XR (ll:List (List Int)) (ml:List Int) (LN:Int) (w W1 W:World):Prop:=∃ (v:Value) (M:List bl),M.map bl.cls=eJ ll ml (min 3 (min ml.length ll.length))/\qI (w.heap.size+4) (λ_=>False) W v M/\af W (w.heap.size+1+1+1) #[v,.int .i64 LN,.slice none 0 0] 43/\W1.grownBy W (some (w.heap.size+1+1+1))
theorem sy_ (x:jh) (ll:List (List Int)) (ml el:List Int) (w:World) (h:qK w x ll ml el) :
  Calls Tryz.prog 17 #[x.val] w (JG (GN ll ml x.ln el) w):=by
 have HR:=ad h;obtain ⟨hd,⟨da,dc,IW,rA,hdc⟩,hm,l0,l1,he⟩:=h;obtain ⟨⟨ma,mc,hme,_⟩,dt,kN⟩:=hm;obtain ⟨⟨ea,ec,BW,_⟩,hel,her⟩:=he;obtain ⟨dv,mv,ln,ev⟩:=x;dsimp only at IW hme BW l0 l1;subst IW;subst hme;subst BW;have vU:=ad kN;have CS:=ad her;obtain ⟨LN,IJ⟩:∃ LN,iH ln=LN:=⟨_,rfl⟩;have fD:=ad IJ;have fQ:=XI ln;rw [IJ] at fQ;obtain ⟨Qy,lb2⟩:=fQ;have hT:af (((w.alloc (.cells #[.slice da ll.length dc,.slice ma ml.length mc,.int .u8 ln,.slice ea el.length ec] 27)).alloc (.cells #[.slice none 0 0,.int .i64 0,.slice none 0 0] 43)).alloc (.cells #[.int .i64 30,.int .i64 60,.int .i64 90,.int .i64 600,.int .i64 1440,.int .i64 1500,.int .i64 3000,.int .i64 10080] 3)) (w.heap.size+1+1) #[.int .i64 30,.int .i64 60,.int .i64 90,.int .i64 600,.int .i64 1440,.int .i64 1500,.int .i64 3000,.int .i64 10080] 3:=af.at ag;have q:=zh_ hT ln l0;rw [IJ] at q;obtain ⟨r,hr⟩:∃ r,ln % 8=r:=⟨_,rfl⟩;have dY:0<=r/\r<8:=aa;obtain ⟨r1,r2⟩:=dY;have jR:ln.tmod 8=r:=by rw [Int.tmod_eq_emod_of_nonneg l0];exact hr
 rw [hr] at q;clear hT IJ hd kN her;show Calls _ _ #[.agg #[.slice da ll.length dc,.slice ma ml.length mc,.int .u8 ln,.slice ea el.length ec]] _ _
 go_in
 go_upto_block 0 with (fail)
 refine iR (F:=λU=>af U w.heap.size #[.slice da ll.length dc,.slice ma ml.length mc,.int .u8 ln,.slice ea el.length ec] 27/\af U (w.heap.size+1) #[.slice none 0 0,.int .i64 0,.slice none 0 0] 43/\af U (w.heap.size+1+1+1) #[.slice none 0 0,.int .i64 LN,.slice none 0 0] 43/\U.heap.size=w.heap.size+4/\Below w.heap.size w U) ⟨xB,xB,xB,ag,xE⟩ ?_;rintro W1 ⟨hc0,hc1,BR,hs1,hcb⟩;have K0:=ad hc0;have K1:=ad hc1;have KO:=ad BR;have KB:=ad hcb;have kV:=ad hs1;clear q r1 r2 jR hr hc0 hc1 BR hs1 hcb
 go_cut [] (λwx=>Hid (XR ll ml LN w W1 wx))
 case first=>
  go_wp2
  go_loopw [4,5,6] (λmv iv _ wr=>∃ (k:Nat) (v:Value) (M:List bl) (mn:Int),k<=3/\k<=ml.length/\k<=ll.length/\iv=.int .i64 k/\mv=.int .i64 mn/\Hid (dI ml k=mn)/\Hid (M.map bl.cls=eJ ll ml k)/\M.length<=k/\Hid (qI (w.heap.size+4) (λ_=>False) wr v M)/\Hid (af wr (w.heap.size+1+1+1) #[v,.int .i64 LN,.slice none 0 0] 43)/\Hid (W1.grownBy wr (some (w.heap.size+1+1+1)))) (λ_ iv _ _=>3-(intOf iv).toNat)
  .exact ⟨0,.slice none 0 0,[],-1500,aa,aa,aa,rfl,rfl,ad rfl,ad rfl,ag,ad aV.nil,KO,ad ⟨rfl,rfl,rfl,Nat.le_refl _,λ_ _ _=>rfl⟩⟩
  obtain ⟨k,v,M,mn,hk3,hkm,ng,rfl,rfl,R9,HM,NY,HV,gH,HG⟩:=hrel;obtain ⟨wk,r_⟩:∃ x,x=wr:=⟨_,rfl⟩;subst r_;obtain ⟨va,vc,rfl,-⟩:=HV.o.form;have TA:=HG.o.size;have Pk:=kV.o;have lO:Hid (Below w.heap.size w wk):=ad (KB.o.grown HG.o KB.o.size λq e=>by injection e with e;omega);have I6:=lO.o.size;have iY:af wk w.heap.size #[.slice da ll.length dc,.slice ma ml.length mc,.int .u8 ln,.slice ea el.length ec] 27:=(HG.o.block _ aa (by intro e;injection e with e;omega)).trans K0.o;have x0:=(iY.cells 0).1;have x1:=(iY.cells 1).1;have x3:=(iY.cells 3).1;have sC:=ad iY;have I_:=QU vU.o k;rw [R9.o] at I_;obtain ⟨mb1,mb2,-⟩:=I_;have mb2:mn<=9978:=aa;clear iY;have LEAVE:Hid (¬ (k<ml.length/\k<3/\k<ll.length)->k=min 3 (min ml.length ll.length)):=ad aa;by_cases hA:k<ml.length/\k<3/\k<ll.length
  .obtain ⟨c1,c2,c3⟩:=hA;have DV:(k:Int)<ml.length:=aa;have Hs:(k:Int)<3:=aa;have ZF:(k:Int)<ll.length:=aa;obtain ⟨⟨a',SD,he',hcl⟩,_,_⟩:=HR.o.mins.ext lO.o;injection he' with e1 _ e2
   subst e1;subst e2;rcases hcl with hcl|⟨b8,f8,rfl,hcl⟩
   .rw [hcl] at c1;simp at c1
   have z0:=hcl k c1;have vE:=vU.o _ (dz (d:=0) c1);have Ha:Hid (dI ml (k+1)=mn+1+15*ml.getD k 0):=ad (by show dI ml k+1+15*ml.getD k 0=_;rw [R9.o]);have mu:Hid (eJ ll ml (k+1)=eJ ll ml k ++ if dI ml (k+1)<=4320 then [⟨sS ((ll.drop k).take 2),dI ml (k+1)⟩] else []):=ad rfl;obtain ⟨y,hy⟩:∃ y,ml.getD k 0=y:=⟨_,rfl⟩;rw [hy] at z0 vE Ha;rw [Ha.o] at mu;obtain ⟨y1,y2⟩:=vE;have wS:=HR.o.days.ext lO.o;obtain ⟨b9,f9,rfl⟩:∃ b o,da=some ⟨b,o,none⟩:=by
    obtain ⟨⟨a',SD,he',hcl⟩,_⟩:=wS;injection he' with e1 _ e2
    rcases hcl with hcl|⟨b,o,e,_⟩
    .rw [hcl] at c3;simp at c3
    exact ⟨b,o,e1.trans e⟩
   have GV:=ad (λW (hb:Below w.heap.size w W)=>HR.o.days.ext hb);clear hcl hy wS;obtain ⟨D,hD⟩:∃ D,sS ((ll.drop k).take 2)=D:=⟨_,rfl⟩;have Kr:=ad (PN ((ll.drop k).take 2));have A_:=ad (λW (hb:Below w.heap.size w W)=>wb_ (.slice (some ⟨b9,f9+k,none⟩) ((min ((k:Int)+2) ll.length).toNat-k) (dc-k)) ((ll.drop k).take 2) W (by have h1:=ni_ (i:=k) (n:=(min ((k:Int)+2) ll.length).toNat-k) (o':=f9+k) (c':=dc-k) (GV.o W hb) aa (.inr rfl);rw [y8_ ll c3] at h1;exact h1));rw [hD] at A_ Kr mu;clear hD;by_cases hle:mn+1+15*y<=4320
   .rw [if_pos hle] at mu;obtain ⟨iC,Gu,Gv,Gw,Gx⟩:=Xa;have tB:=ad (And.intro Gu (And.intro Gv (And.intro Gw Gx)));clear Gu Gv Gw Gx;go_wp2_with (first|(go_at_call 42;(refine (A_.o _ lO.o).mono ?_;rintro e w5 ⟨a5,c5,rfl,hmx,FX,hb5⟩;have tK:=ad hmx;have cr:=ad hb5;have nx:=hb5.size;have oY:=gH.o.below hb5;have o5:=oY.cells 0;have o6:=((oY.alloc (.cells #[.slice a5 D.length c5] 57)).cells 0);have o7:=(((oY.alloc (.cells #[.slice a5 D.length c5] 57)).alloc (.cells #[.slice a5 D.length c5,.int .i64 (mn+1+15*y)] 59)).cells 0);have kT:=ad oY;clear hmx FX hb5 oY))|(at_builtin;(refine nK az _ _ _ _ az iC _ 2 32 Tryz.underlying40 tB.o.1 tB.o.2.1 tB.o.2.2.1 tB.o.2.2.2 rfl aF aF (w.heap.size+4) (.slice va M.length vc) M.length (M.flatMap bl.enc) (bl.enc ⟨.slice a5 D.length c5,D,mn+1+15*y⟩) rfl az (HV.o.below lY (Ea (Ea cr.o (.cells #[.slice a5 D.length c5] 57)) (.cells #[.slice a5 D.length c5,.int .i64 (mn+1+15*y)] 59))).row (w5.heap.size+1) 1 az (um (af.at (w:=w5.alloc (.cells #[.slice a5 D.length c5] 57)) (c:=#[.slice a5 D.length c5,.int .i64 (mn+1+15*y)]) (t:=59) ag)) (by simp [bl.enc,Value.oneCell']) aa aO ?_);intro v' w9 au aq aK;obtain ⟨na,nc,rfl⟩:=k_ au;have gi:∀ q,(Value.slice va M.length vc).ownBlock=some q->w.heap.size+4<=q:=λq e=>(HV.o.row.lt q e).1;have d2:=(((kT.o.alloc (.cells #[.slice a5 D.length c5] 57)).alloc (.cells #[.slice a5 D.length c5,.int .i64 (mn+1+15*y)] 59)).grown aq (λe=>by have:=gi _ e.symm;omega));have g2:=d2.cells 0;have oA:=ad d2;have LQ:=ad (aV.push (y:=⟨.slice a5 D.length c5,D,mn+1+15*y⟩) lY (HV.o.below lY (Ea (Ea cr.o (.cells #[.slice a5 D.length c5] 57)) (.cells #[.slice a5 D.length c5,.int .i64 (mn+1+15*y)] 59))) ⟨(tK.o.ext (Ea (Ea (Er _) _) _)).mono λq hq=>⟨aa,λh=>h,λe=>by have:=(HV.o.row.lt q e).2;omega⟩,by show aP (mn+1+15*y);exact ⟨aa,aa⟩⟩ au aq aK (λh=>h) aa);have iN:=ad aq;have jE:=ad gi;clear au aq aK d2 gi));go_roundw
    .have fP:World.grownBy w9 (w9.setCell ⟨w.heap.size+1+1+1,0,none⟩ (.slice na (M.length+1) nc)) (some (w.heap.size+1+1+1)):=World.grownBy.set' ⟨rfl,rfl,rfl,Nat.le_refl _,λ_ _ _=>rfl⟩ _;have lx:W1.grownBy w9 (some (w.heap.size+1+1+1)):=by
      have h1:W1.grownBy ((w5.alloc (.cells #[.slice a5 D.length c5] 57)).alloc (.cells #[.slice a5 D.length c5,.int .i64 (mn+1+15*y)] 59)) (some (w.heap.size+1+1+1)):=World.grownBy.trans' HG.o (World.grownBy.of_below (Ea (Ea cr.o _) _) _);exact ⟨iN.o.os.trans h1.os,iN.o.tape.trans h1.tape,iN.o.output.trans h1.output,Nat.le_trans h1.size iN.o.size,λq hq hne=>(iN.o.block q (Nat.lt_of_lt_of_le hq h1.size) (λe=>by have:=jE.o q e.symm;omega)).trans (h1.block q hq hne)⟩
     exact ⟨k+1,.slice na (M.length+1) nc,M ++ [⟨.slice a5 D.length c5,D,mn+1+15*y⟩],mn+1+15*y,aa,aa,aa,by go_num,rfl,Ha,ad (by rw [List.map_append,HM.o,mu.o];rfl),aO,ad (LQ.o.low lY fP aa),ad (br 0 _ oA.o),ad (World.grownBy.trans' lx fP)⟩
    simp [intOf];omega
   rw [if_neg hle,List.append_nil] at mu;go_wp2_with (go_at_call 42;(refine (A_.o _ lO.o).mono ?_;rintro e w5 ⟨a5,c5,rfl,hmx,FX,hb5⟩;have cr:=ad hb5;clear hmx FX hb5));go_roundw
   .exact ⟨k+1,.slice va M.length vc,M,mn+1+15*y,aa,aa,aa,by go_num,rfl,Ha,ad (by rw [HM.o,mu.o]),aa,ad (HV.o.below lY (Ea cr.o _)),ad ((gH.o.below cr.o).alloc _),ad (World.grownBy.trans' HG.o (World.grownBy.of_below (Ea cr.o _) _))⟩
   simp [intOf];omega
  have ik:Hid (XR ll ml LN w W1 wk):=ad ⟨_,M,by rw [HM.o,LEAVE.o hA],HV.o,gH.o,HG.o⟩;by_cases c1:k<ml.length
  .have DV:(k:Int)<ml.length:=aa;by_cases c2:k<3
   .have Hs:(k:Int)<3:=aa;have ZF:¬ (k:Int)<ll.length:=aa;go_wp2_with fail
    go_meet
    exact ik
   have Hs:¬ (k:Int)<3:=aa;go_wp2_with fail
   go_meet
   exact ik
  have DV:¬ (k:Int)<ml.length:=aa;go_wp2_with fail
  go_meet
  exact ik
 case rest=>
  obtain ⟨v,M,hM,hV,hO,hG⟩:=hcut.o;obtain ⟨va,vc,rfl,-⟩:=hV.form;have HM:=ad hM;have Zo:=ad hV;have Do:=ad hO;have YL:=ad hG;have Pk:=kV.o;clear hcut hM hV hO hG;go_wp2;go_loopw [7,8] (λiv _ wr=>∃ (k:Nat) (xv:Value) (xl:List ai),k<=4/\k<=el.length/\iv=.int .i64 k/\xl.length<=k/\Hid (xl=fY (el.take k))/\Hid (b_ wr (λb=>w.heap.size+4<=b) xv xl)/\Hid (qI (w.heap.size+4) (λ_=>False) wr (.slice va M.length vc) M)/\Hid (af wr (w.heap.size+1+1+1) #[.slice va M.length vc,.int .i64 LN,xv] 43)/\Hid (W1.grownBy wr (some (w.heap.size+1+1+1)))) (λiv _ _=>4-(intOf iv).toNat)
  .exact ⟨0,.slice none 0 0,[],aa,aa,rfl,ag,ad rfl,ad ⟨⟨none,0,rfl,ag,aa,.inl rfl⟩,ag,ag⟩,Zo,Do,YL⟩
  obtain ⟨k,xv,xl,hk4,hke,rfl,hxk,Hm,HX,HV,gH,HG⟩:=hrel;obtain ⟨wk,r_⟩:∃ x,x=wr:=⟨_,rfl⟩;subst r_;obtain ⟨xa,xc,rfl⟩:=HX.o.form;have TA:=HG.o.size;have lO:Hid (Below w.heap.size w wk):=ad (KB.o.grown HG.o KB.o.size λq e=>by injection e with e;omega);have I6:=lO.o.size;have iY:af wk w.heap.size #[.slice da ll.length dc,.slice ma ml.length mc,.int .u8 ln,.slice ea el.length ec] 27:=(HG.o.block _ aa (by intro e;injection e with e;omega)).trans K0.o;have x3:=(iY.cells 3).1;clear iY;by_cases hA:k<el.length/\k<4
  .obtain ⟨c1,c2⟩:=hA;have DV:(k:Int)<el.length:=aa;have Hs:(k:Int)<4:=aa;obtain ⟨⟨a',SD,he',hcl⟩,_,_⟩:=HR.o.ext.ext lO.o;injection he' with e1 _ e2
   subst e1;subst e2;rcases hcl with hcl|⟨b8,f8,rfl,hcl⟩
   .rw [hcl] at c1;simp at c1
   have z0:=hcl k c1;have vE:=CS.o _ (dz (d:=0) c1);have gZ:Hid (el.take (k+1)=el.take k ++ [el.getD k 0]):=ad (by rw [List.take_succ_eq_append_getElem c1,List.getD_eq_getElem?_getD,List.getElem?_eq_getElem c1];rfl);obtain ⟨y,hy⟩:∃ y,el.getD k 0=y:=⟨_,rfl⟩;rw [hy] at z0 vE gZ;clear hcl hy;obtain ⟨y1,y2⟩:=vE;obtain ⟨d,hd⟩:∃ d,y % 7=d:=⟨_,rfl⟩;obtain ⟨q,hq⟩:∃ q,y / 5760=q:=⟨_,rfl⟩;obtain ⟨m5,O7⟩:∃ m,y % 5760=m:=⟨_,rfl⟩;obtain ⟨fr,hfr⟩:∃ fr,15*m5-2880=fr:=⟨_,rfl⟩;have Jn:y.tmod 7=d:=by rw [Int.tmod_eq_emod_of_nonneg y1];exact hd
   have htq:y.tdiv 5760=q:=by rw [Int.tdiv_eq_ediv_of_nonneg y1];exact hq
   have jR:y.tmod 5760=m5:=by rw [Int.tmod_eq_emod_of_nonneg y1];exact O7
   have zQ:0<=d/\d<7:=aa;have ef:0<=q/\q<=11:=aa;have I_:0<=m5/\m5<5760:=aa;have hfb:-2880<=fr/\fr<=83505:=aa;obtain ⟨d1,d2⟩:=zQ;obtain ⟨q1,q2⟩:=ef;obtain ⟨m1,m2⟩:=I_;obtain ⟨fr1,fr2⟩:=hfb;have Hl:Hid (gN y=⟨d,fr,fr+15*(1+q*7)⟩):=ad (by unfold gN;rw [hd,hq,O7,hfr]);obtain ⟨XL,IQ⟩:∃ XL,du xl ⟨d,fr,fr+15*(1+q*7)⟩=XL:=⟨_,rfl⟩;have Hn:=ad IQ;have hlx:XL.length<=k+1:=by rw [<- IQ];have:=Ws (l:=xl) (x:=⟨d,fr,fr+15*(1+q*7)⟩);omega
   have dL:=ad (λW (hb:Below wk.heap.size wk W)=>ss_ (w.heap.size+4) (.slice xa xl.length xc) xl ⟨d,fr,fr+15*(1+q*7)⟩ W (HX.o.ext hb) ⟨by constructor <;> (show _<=_;simp only;omega),by constructor <;> (show _<=_;simp only;omega),by constructor <;> (show _<=_;simp only;omega)⟩ aa (by have:=hb.size;omega));rw [IQ] at dL;have o2:=(gH.o.cells 2).1;have HFR:=ad hfr;clear hd hq O7 IQ;go_upto_region 14 with (fail)
   refine oK (w0:=wk) [0,1,2,3,4,5,6,7,8,9,10,11,12,13,14,15,16,17,18,19,20,21,22,23,24,25] [26] (λv=>⟨#[.agg #[.slice da ll.length dc,.slice ma ml.length mc,Value.int IntKind.u8 ln,.slice (some ⟨b8,f8,none⟩) el.length ec],.pointer (some ⟨w.heap.size,0,none⟩),.pointer (some ⟨w.heap.size+1,0,none⟩),.pointer (some ⟨w.heap.size+1+1+1,0,none⟩),u4,u5,u6,.int .i64 ↑k,.int .i64 fr,.slice (some ⟨w.heap.size+1+1,0,none⟩) 8 8,.pointer (some ⟨w.heap.size,2,none⟩),Value.int IntKind.u8 ln,Value.int IntKind.u8 r,.pointer (some ⟨w.heap.size+1+1,r.toNat,none⟩),.int .i64 LN,.agg #[.slice none 0 0,.int .i64 LN,.slice none 0 0],u16,u17,u18,u19,u20,u21,u22,u23,u24,u25,u26,u27,u28,u29,u30,u31,u32,u33,u34,u35,u36,u37,u38,u39,u40,u41,u42,u43,u44,u45,u46,u47,u48,u49,u50,u51,u52,u53,u54,u55,u56,u57,u58,u59,u60,u61,u62,u63,u64,.int .i64 ↑k,.pointer (some ⟨w.heap.size,3,none⟩),.slice (some ⟨b8,f8,none⟩) el.length ec,.int .i64 ↑el.length,.bool true,.bool true,.int .i64 ↑k,.bool true,.bool true,u74,u75,.pointer (some ⟨w.heap.size,3,none⟩),.slice (some ⟨b8,f8,none⟩) el.length ec,.int .i64 ↑k,.pointer (some ⟨b8,f8+k,none⟩),Value.int IntKind.u16 y,Value.int IntKind.u16 m5,.int .i64 m5,.int .i64 (15*m5),.int .i64 fr,v 0,v 1,v 2,v 3,v 4,v 5,v 6,v 7,v 8,v 9,v 10,v 11,v 12,v 13,v 14,v 15,v 16,v 17,v 18,v 19,v 20,v 21,v 22,v 23,v 24,v 25,undef],[]⟩) [.pointer (some ⟨w.heap.size+1+1+1,2,none⟩),.slice xa xl.length xc,.pointer (some ⟨w.heap.size,3,none⟩),.slice (some ⟨b8,f8,none⟩) el.length ec,.int .i64 k,.pointer (some ⟨b8,f8+k,none⟩),.int .u16 y,.int .i64 y,.int .i64 d,.int .i64 fr,.int .i64 fr,.pointer (some ⟨w.heap.size,3,none⟩),.slice (some ⟨b8,f8,none⟩) el.length ec,.int .i64 k,.pointer (some ⟨b8,f8+k,none⟩),.int .u16 y,.int .i64 y,.int .i64 q,.int .i64 (q*7),.int .i64 (1+q*7),.int .i64 (15*(1+q*7)),.int .i64 (fr+15*(1+q*7)),.agg #[.int .i64 fr,.int .i64 (fr+15*(1+q*7))],.agg #[.int .i64 d,.int .i64 fr,.int .i64 (fr+15*(1+q*7))],undef,.pointer (some ⟨w.heap.size+1+1+1,2,none⟩)] [24] (λi v lo hi W=>match i with|24=>∃ a c,v 24=.slice a XL.length c/\b_ W (λb=>w.heap.size+4<=b) (v 24) XL|_=>True) (λW=>W.cell? ⟨w.heap.size+1+1+1,2,none⟩=some (.slice xa xl.length xc)/\W.cell? ⟨w.heap.size,3,none⟩=some (.slice (some ⟨b8,f8,none⟩) el.length ec)/\W.cell? ⟨b8,f8+k,none⟩=some (Value.int .u16 y)) (λW hb=>⟨al.cell hb o2,al.cell hb x3,al.cell hb z0⟩) ?stab14 ?loc14 ?steps14 ?fin14 (λj=>match j with|0=>u85|1=>u86|2=>u87|3=>u88|4=>u89|5=>u90|6=>u91|7=>u92|8=>u93|9=>u94|10=>u95|11=>u96|12=>u97|13=>u98|14=>u99|15=>u100|16=>u101|17=>u102|18=>u103|19=>u104|20=>u105|21=>u106|22=>u107|23=>u108|24=>u109|25=>u110|_=>undef)
   case stab14=>
    refine ⟨?_,trivial⟩;intro v lo hi W W' h hb;exact (let ⟨a,c,e,h⟩:=h;⟨a,c,e,h.ext hb⟩)
   case loc14=>
    refine ⟨?_,trivial⟩;intro v v' lo lo' hi hi' W aC h;have q:=aC 24 (.inl rfl)
    (try dsimp only at h ⊢)
    simp only [q.1,q.2.1,q.2.2] at h;exact h
   case steps14=>
    refine .c [] [] rfl ?_ (.c [0] [] rfl ?_ (.c [] [] rfl ?_ (.c [2] [] rfl ?_ (.c [] [] rfl ?_ (.c [3,4] [] rfl ?_ (.c [5] [] rfl ?_ (.c [6] [] rfl ?_ (.c [7] [] rfl ?_ (.c [] [] rfl ?_ (.c [] [] rfl ?_ (.c [] [] rfl ?_ (.c [11] [] rfl ?_ (.c [] [] rfl ?_ (.c [12,13] [] rfl ?_ (.c [14] [] rfl ?_ (.c [15] [] rfl ?_ (.c [16] [] rfl ?_ (.c [17] [] rfl ?_ (.c [18] [] rfl ?_ (.c [19] [] rfl ?_ (.c [10,20] [] rfl ?_ (.c [9,21] [] rfl ?_ (.c [8,22] [] rfl ?_ (.c [1,23] [] rfl ?_ (.c [] [] rfl ?_ (.n))))))))))))))))))))))))));all_goals try exact pj
    rintro v lo hi W hb ⟨g0,g1,g2⟩ _;refine .inl ⟨rfl,λK hK=>?_⟩;simp only [ov,aD,Nat.reduceBEq,cond_true,cond_false];go_wp2_with (go_at_call 43;(with_reducible refine (dL.o _ hb).mono ?_);rintro e w9 ⟨a9,c9,rfl,nk,bg⟩);exact aU (hK (.slice a9 XL.length c9) w9 bg ⟨a9,c9,rfl,nk⟩) (by simp [ov,aD,upd])
   case fin14=>
    rintro v lo hi W6 bD ⟨g0,g1,g2⟩ hf hap;show wpList _ _ _ [_] _ _;obtain ⟨-,-,-,a9,c9,M8,PH⟩:=hf 24 rfl;have SH:v 25=.pointer (some ⟨w.heap.size+1+1+1,2,none⟩):=(hf 25 rfl).2.2.2;clear hf hap;dsimp only;rw [M8,SH];rw [M8] at PH;have An:=gH.o.below bD;have o6:=An.cells 2;have Dq:=ad An;have Zv:=ad PH;have bO:=ad bD;have AM:=bD.size;clear g0 g1 g2 o2 x3 z0 bD An PH M8 SH;generalize v 0=z0,v 1=z1,v 2=z2,v 3=z3,v 4=z4,v 5=z5,v 6=z6,v 7=z7,v 8=z8,v 9=z9,v 10=xL,v 11=xM,v 12=z12,v 13=Ro,v 14=Rp,v 15=J6,v 16=Rq,v 17=Rr,v 18=Rs,v 19=Rt,v 20=z20,v 21=z21,v 22=z22,v 23=z23;go_wp2;go_roundw
    .have fP:World.grownBy W6 (W6.setCell ⟨w.heap.size+1+1+1,2,none⟩ (.slice a9 XL.length c9)) (some (w.heap.size+1+1+1)):=World.grownBy.set' ⟨rfl,rfl,rfl,Nat.le_refl _,λ_ _ _=>rfl⟩ _;exact ⟨k+1,.slice a9 XL.length c9,XL,aa,aa,by go_num,aa,ad (by rw [gZ.o,uj_,Hl.o,<- Hm.o,Hn.o]),ad (Zv.o.keep (aN.grown fP aa) fP.size),ad ((HV.o.below lY bO.o).low lY fP aa),ad (br 2 _ Dq.o),ad (World.grownBy.trans' (World.grownBy.trans' HG.o (World.grownBy.of_below bO.o _)) fP)⟩
    simp [intOf];omega
  have A5:Hid (xl=fY (el.take 4)):=ad (by
   rw [Hm.o];by_cases h4:k=4
   .rw [h4]
   rw [List.take_of_length_le (show el.length<=k by omega),List.take_of_length_le (show el.length<=4 by omega)])
  have dt:M.length=(eJ ll ml (min 3 (min ml.length ll.length))).length:=by rw [<- HM.o,List.length_map]
  have kz:=ad dt;have Hl:Hid (xl.length=(fY (el.take 4)).length):=ad (by rw [<- A5.o]);have hr1:af wk (w.heap.size+1) #[.slice none 0 0,.int .i64 0,.slice none 0 0] 43:=(HG.o.block _ aa (by intro e;injection e with e;omega)).trans K1.o;have py:=ad hr1;have j0:=hr1.cells 0;have j1:=hr1.cells 1;have j2:=hr1.cells 2;have t0:=(gH.o.cells 0).1;have t1:=(gH.o.cells 1).1;have t2:=(gH.o.cells 2).1;clear dt hr1;have J8:∀ (ts:Array Value),True:=λ_=>trivial;clear J8;by_cases c1:k<el.length
  .have DV:(k:Int)<el.length:=aa;have Hs:¬ (k:Int)<4:=aa;go_wp2_with fail;have aL:=wC (x':=.slice va M.length vc) (y':=.int .i64 LN) (z':=.slice xa xl.length xc) py.o;have s0:=(aL.cells 0).1;have s1:=(aL.cells 1).1;have s2:=(aL.cells 2).1;have jL:=lO.o;have fP:World.grownBy wk (((wk.setCell ⟨w.heap.size+1,0,none⟩ (.slice va M.length vc)).setCell ⟨w.heap.size+1,1,none⟩ (.int .i64 LN)).setCell ⟨w.heap.size+1,2,none⟩ (.slice xa xl.length xc)) (some (w.heap.size+1)):=World.grownBy.set' (World.grownBy.set' (World.grownBy.set' ⟨rfl,rfl,rfl,Nat.le_refl _,λ_ _ _=>rfl⟩ _) _) _;have hst:bq _ (λb=>w.heap.size<=b) (.slice va M.length vc) (.slice xa xl.length xc) (GN ll ml ln el):=⟨M,HM.o,(HV.o.low lY fP aa).clsL.mono λb h=>by have:=h.1;omega,by
    have h1:=(HX.o.keep (aN.grown fP aa) fP.size).mono (G:=λb=>w.heap.size<=b) λb h=>aa;rw [A5.o] at h1 ⊢;exact h1,by show aP (iH ln);rw [fD.o];exact ⟨aa,aa⟩⟩
   refine bodyPost_ret (v:=.agg #[.slice va M.length vc,.int .i64 LN,.slice xa xl.length xc]) (by simp [results,Tryz.results17,go_sem,s0,s1,s2]) rfl ?_;rw [kz.o,Hl.o] at hst ⊢;exact ⟨va,vc,xa,xc,by rw [<- fD.o];rfl,hst.lt,xE⟩
  have DV:¬ (k:Int)<el.length:=aa;go_wp2_with fail;have aL:=wC (x':=.slice va M.length vc) (y':=.int .i64 LN) (z':=.slice xa xl.length xc) py.o;have s0:=(aL.cells 0).1;have s1:=(aL.cells 1).1;have s2:=(aL.cells 2).1;have jL:=lO.o;have fP:World.grownBy wk (((wk.setCell ⟨w.heap.size+1,0,none⟩ (.slice va M.length vc)).setCell ⟨w.heap.size+1,1,none⟩ (.int .i64 LN)).setCell ⟨w.heap.size+1,2,none⟩ (.slice xa xl.length xc)) (some (w.heap.size+1)):=World.grownBy.set' (World.grownBy.set' (World.grownBy.set' ⟨rfl,rfl,rfl,Nat.le_refl _,λ_ _ _=>rfl⟩ _) _) _;have hst:bq _ (λb=>w.heap.size<=b) (.slice va M.length vc) (.slice xa xl.length xc) (GN ll ml ln el):=⟨M,HM.o,(HV.o.low lY fP aa).clsL.mono λb h=>by have:=h.1;omega,by
   have h1:=(HX.o.keep (aN.grown fP aa) fP.size).mono (G:=λb=>w.heap.size<=b) λb h=>aa;rw [A5.o] at h1 ⊢;exact h1,by show aP (iH ln);rw [fD.o];exact ⟨aa,aa⟩⟩
  refine bodyPost_ret (v:=.agg #[.slice va M.length vc,.int .i64 LN,.slice xa xl.length xc]) (by simp [results,Tryz.results17,go_sem,s0,s1,s2]) rfl ?_;rw [kz.o,Hl.o] at hst ⊢;exact ⟨va,vc,xa,xc,by rw [<- fD.o];rfl,hst.lt,xE⟩
end
end Go.Proofs.YtbmgmlbmgogeaaaGreat
namespace Kal
section
theorem fN.nil:fN [] f 0 ⟨0,0,0⟩ false:=.inr ⟨rfl,rfl,rfl,ag⟩
theorem fN.skip {L:IL} {x:ai} {j:Int} {s:aE} {y:ai} (h:fN L f i x b) (hn:df (gq s) f y false):fN (L ++ [(j,s)]) f i x b:=by
 have no:∀ z,¬ df (gq s) f z true:=λz hz=>by have:=(hn.unique hz).2;cases this
 rcases h with ⟨rfl,t,h1,h2,h3⟩|⟨rfl,rfl,rfl,h1⟩
 .refine .inl ⟨rfl,t,List.mem_append_left _ h1,h2,λk u z hk hz=>?_⟩;rcases List.mem_append.1 hk with hk|hk
  .exact h3 k u z hk hz
  obtain ⟨rfl,rfl⟩:k=j/\u=s:=by simpa using hk
  exact absurd hz (no z)
 refine .inr ⟨rfl,rfl,rfl,λk u z hk=>?_⟩;rcases List.mem_append.1 hk with hk|hk
 .exact h1 k u z hk
 obtain ⟨rfl,rfl⟩:k=j/\u=s:=by simpa using hk
 exact no z
theorem fN.take {L:IL} {x:ai} {j:Int} {s:aE} {y:ai} (h:fN L f i x b) (hn:df (gq s) f y true) (hb:b=false\/bK y x):fN (L ++ [(j,s)]) f j y true:=by
 refine .inl ⟨rfl,s,ag,hn,λk u z hk hz=>?_⟩;rcases List.mem_append.1 hk with hk|hk
 .rcases h with ⟨rfl,t,h1,h2,h3⟩|⟨rfl,rfl,rfl,h1⟩
  .rcases hb with hb|hb
   .cases hb
   have h4:=(h3 k u z hk hz).1;refine ⟨λh5=>h4 (h5.trans hb),λ_=>?_⟩;rcases bK.tri z x with h6|h6|h6
   .exact absurd h6 h4
   .subst h6;exact hb
   exact hb.trans h6
  exact absurd hz (h1 k u z hk)
 obtain ⟨rfl,rfl⟩:k=j/\u=s:=by simpa using hk
 obtain ⟨rfl,_⟩:=hn.unique hz;exact ⟨bK.irrefl,λh=>aa⟩
theorem fN.pass {L:IL} {x:ai} {j:Int} {s:aE} {y:ai} (h:fN L f i x b) (hn:df (gq s) f y true) (hb:b=true/\¬ bK y x) (hj:∀ k∈ids L,k<j):fN (L ++ [(j,s)]) f i x b:=by
 obtain ⟨rfl,hb⟩:=hb;rcases h with ⟨_,t,h1,h2,h3⟩|⟨h,_⟩
 .refine .inl ⟨rfl,t,List.mem_append_left _ h1,h2,λk u z hk hz=>?_⟩;rcases List.mem_append.1 hk with hk|hk
  .exact h3 k u z hk hz
  obtain ⟨rfl,rfl⟩:k=j/\u=s:=by simpa using hk
  obtain ⟨rfl,_⟩:=hn.unique hz;exact ⟨hb,λh=>by have:=hj i (List.mem_map.2 ⟨_,h1,rfl⟩);omega⟩
 cases h
theorem fN.pos {L:IL} {x:ai} (h:fN L f i x b) (hL:∀ k∈ids L,1<=k):(b=true->1<=i)/\(b=false->i=0):=by
 rcases h with ⟨rfl,t,h1,_⟩|⟨rfl,rfl,_⟩
 .exact ⟨λ_=>hL i (List.mem_map.2 ⟨_,h1,rfl⟩),λh=>by cases h⟩
 exact ⟨λh=>(by cases h),λ_=>rfl⟩
end
end Kal
namespace Go.Proofs.YtbmgmlbmgogeaaaGreat
section
open Go.RowKit Go.Maps Kal
def wa_ (L:IL) (f:Int) (w:World) (e:Ending) (w':World):Prop:=∃ i x b,e=.returned (.tuple #[.int .i64 i,bZ x,.bool b])/\fN L f i x b/\Below w.heap.size w w'
structure Sz (L:IL) (f:Int) (w:World) (k:Nat) (i:Int) (W:World):Prop where
 ex:∃ x b,fN (L.take k) f i x b/\af W (w.heap.size+1) #[.int .i64 x.day,.int .i64 x.frm,.int .i64 x.fin] 46
 rbx:af W w.heap.size #[.int .i64 0,.int .i64 0,.int .i64 0] 46
 below:Below w.heap.size w W
theorem cT.lookv {b:Nat} {E:List (Int × Value)} (h:cT w b n E) (hi:aP i) (hv:(i,v)∈E):(Instr.lookup 96 (.map (some b)) (.int .i64 i) false).run Tryz.prog w=.ok v w:=by
 rcases h.look hi with ⟨u,hu,_,hrun⟩|⟨hn,_⟩
 .obtain ⟨D,hown,hD⟩:=h;have e1:=hD.val i v hv .nil;rw [hD.val i u hu .nil] at e1;injection e1 with e1
  subst e1;exact hrun
 exact absurd (List.mem_map.2 ⟨_,hv,rfl⟩) hn
theorem UJ (u:bm) (W:World):(Instr.field 95 (.agg #[.slice u.a1 u.n1 u.c1,.int .i64 u.len,.slice u.a2 u.n2 u.c2,.bool (u.g 0),.bool (u.g 1),.bool (u.g 2),.bool (u.g 3),.bool (u.g 4),.bool (u.g 5),.bool (u.g 6)]) 0).run Tryz.prog W=.ok (.agg #[.slice u.a1 u.n1 u.c1,.int .i64 u.len,.slice u.a2 u.n2 u.c2]) W:=by
 first|kernel_rfl|rfl|simp [go_sem]
theorem Xd {q r:Nat} {x1 x2 x3 y1 y2 y3:Value} {c:Array Value} {t t':TypeId} (hx:af W q #[x1,x2,x3] t) (hr:af W r c t') (hne:r≠q) (ho:ak W (q+1) v l) (hb:Below B w W) (hB:B<=q) :
  af (((W.setCell ⟨q,0,none⟩ y1).setCell ⟨q,1,none⟩ y2).setCell ⟨q,2,none⟩ y3) q #[y1,y2,y3] t/\af (((W.setCell ⟨q,0,none⟩ y1).setCell ⟨q,1,none⟩ y2).setCell ⟨q,2,none⟩ y3) r c t'/\ak (((W.setCell ⟨q,0,none⟩ y1).setCell ⟨q,1,none⟩ y2).setCell ⟨q,2,none⟩ y3) (q+1) v l/\Below B w (((W.setCell ⟨q,0,none⟩ y1).setCell ⟨q,1,none⟩ y2).setCell ⟨q,2,none⟩ y3):=by
 have hg:World.grownBy W (((W.setCell ⟨q,0,none⟩ y1).setCell ⟨q,1,none⟩ y2).setCell ⟨q,2,none⟩ y3) (some q):=World.grownBy.set' (World.grownBy.set' (World.grownBy.set' ⟨rfl,rfl,rfl,Nat.le_refl _,λ_ _ _=>rfl⟩ _) _) _;refine ⟨wC hx,((hr.setNe _ hne).setNe _ hne).setNe _ hne,ho.kept hg ?_,hb.grown hg (by have:=hx.lt;omega) λk e=>by injection e with e;omega⟩;rcases hq:v.ownBlock with _|k
 .exact .inl rfl
 exact .inr λe=>by have:=(ho.lt k hq).1;injection e with e;omega
theorem QF {p b:Nat} {G:Nat->Prop} {E:List (Int × bm)} {L:IL} (h:fg W p b n G E L) (hk:k<E.length) :
  ∃ id u s,(E.map Prod.fst).getD k 0=id/\L.take (k+1)=L.take k ++ [(id,s)]/\sO W G u s/\aP id/\1<=id/\(∀ j∈ids (L.take k),j<id)/\(Instr.lookup 96 (.map (some b)) (.int .i64 id) false).run Tryz.prog W=.ok u.val W/\(id,u)∈E:=by
 obtain ⟨⟨id,u⟩,hx⟩:∃ x,E[k]? = some x:=⟨_,List.getElem?_eq_getElem hk⟩;have hmem:(id,u)∈E:=List.mem_of_getElem? hx;obtain ⟨h1,h2,s,h3,h4⟩:=h.ent id u hmem;have uH:E.length=L.length:=by have:=congrArg List.length h.ids;simpa [ids] using this
 have BZ:k<L.length:=aa;have e1:(E.map Prod.fst)[k]? = some id:=by rw [List.getElem?_map,hx];rfl
 have e2:(L[k]).1=id:=by
  rw [h.ids] at e1;unfold ids at e1;rw [List.getElem?_map,List.getElem?_eq_getElem BZ] at e1;simpa using e1
 have e3:L[k]=(id,s):=UW h.asc (List.getElem_mem BZ) h3 e2;refine ⟨id,u,s,by rw [List.getD_eq_getElem?_getD,e1];rfl,by rw [List.take_succ_eq_append_getElem BZ,e3],h4,h1,h2,?_,h.map.lookv h1 (List.mem_map.2 ⟨_,hmem,rfl⟩),hmem⟩;intro j hj;have hp:=h.asc;unfold ja at hp;have hsp:ids L=ids (L.take k) ++ ids (L.drop k):=by unfold ids;rw [<- List.map_append,List.take_append_drop]
 rw [hsp,List.pairwise_append] at hp;refine hp.2.2 j hj id ?_;have:L.drop k=L[k] :: L.drop (k+1):=List.drop_eq_getElem_cons BZ;rw [this,e3];simp [ids]
theorem It (p b n:Nat) (G:Nat->Prop) (E:List (Int × bm)) (L:IL) (f:Int) (w:World) (h:fg w p b n G E L) (hf:aP f) :
  Calls Tryz.prog 19 #[.pointer (some ⟨p,0,none⟩),.int .i64 f] w (wa_ L f w):=by
 have hpl:=h.box.lt;have hbl:=h.map.lt;have HI:=ad h;have HF:=ad hf;have qv:=ad (λW (hb:Below w.heap.size w W)=>Ib p b n (E.map dJ) W (h.ext hb).box (h.ext hb).map h.sorted h.num);have uH:E.length=L.length:=by have:=congrArg List.length h.ids;simpa [ids] using this
 have CQ:=ad uH;obtain ⟨f1,f2⟩:=hf;clear h uH
 go_in
 go_wp2_with (go_at_call 36;refine (qv.o _ xE).mono ?_;rintro e w1 ⟨a,c,rfl,ho,hb1⟩;have HO:=ad ho;have bo:=ad hb1;have hw1:=hb1.size;simp only [World.size_alloc] at hw1;clear ho hb1)
 have fk:Below w.heap.size w w1:=Et xE bo.o;have hz0:w.heap.size+1<w1.heap.size:=aa;have hB0:af w1 w.heap.size #[.int .i64 0,.int .i64 0,.int .i64 0] 46:=af.below ((af.at rfl).alloc _) bo.o;have hB1:af w1 (w.heap.size+1) #[.int .i64 0,.int .i64 0,.int .i64 0] 46:=af.below (af.at ag) bo.o;have sE:Hid (Sz L f w 0 0 w1):=ad ⟨⟨⟨0,0,0⟩,false,fN.nil,hB1⟩,hB0,fk⟩;have ij:=ad fk;have HOW:Hid (ak w1 (w.heap.size+1+1) (.slice a E.length c) (E.map Prod.fst)):=ad (by have:=HO.o.mono (base':=w.heap.size+1+1) ag;rw [wz,List.length_map] at this;exact this);clear hB0 hB1 fk;go_loopw [7,10,11,12,17] (λv7 _ _ _ vi wr=>∃ (k:Nat) (i:Int),k<=E.length/\vi=.int .i64 k/\v7=.int .i64 i/\Hid (Sz L f w k i wr)/\Hid (ak wr (w.heap.size+1+1) (.slice a E.length c) (E.map Prod.fst))) (λ_ _ _ _ vi _=>E.length-(intOf vi).toNat)
 .exact ⟨0,0,aa,rfl,rfl,sE,HOW⟩
 obtain ⟨k,i,hk,rfl,rfl,HS,bH⟩:=hrel;have PM:w.heap.size+1<wr.heap.size:=by obtain ⟨_,_,_,hq⟩:=HS.o.ex;exact hq.lt
 have hlen:E.length<=17592186044416:=by have:=bH.o.len;simpa using this
 by_cases hlt:k<E.length
 .have dh:(k:Int)<E.length:=aa;have hI:=HI.o.ext HS.o.below;obtain ⟨id,u,s,g1,g2,g3,g4,g5,g6,g7,-⟩:=QF hI hlt;have q0:=(hI.box.cells 0).1;obtain ⟨x,bb,cj,hxb⟩:=HS.o.ex;obtain ⟨⟨a',c',he,_,_,hcl⟩,_,_⟩:=bH.o.ints;injection he with e1 e2 e3
  rcases hcl with hcl|⟨b8,f8,wO,hcl⟩
  .exfalso;have:=congrArg List.length hcl;simp at this;rw [this] at hlt;simp at hlt
  have c0:wr.cell? ⟨b8,f8+k,none⟩=some (.int .i64 id):=by rw [hcl k (by simpa using hlt),g1]
  rw [wO] at e1;subst e1;obtain ⟨ua,un,uc,ul,va,vn,vc,ug⟩:=u;obtain ⟨gs,gl,gm,-⟩:=g3;dsimp only [bm.val] at gs gl g7;subst gl;have b6:=ad (show k+1<=E.length by omega);have hfl:=UJ ⟨ua,un,uc,s.len,va,vn,vc,ug⟩ wr;dsimp only at hfl;have dZ:=ad (λW (hb:Below wr.heap.size wr W)=>Iq G _ _ s f W (gs.ext hb) gm HF.o);have mr:=ad cj;have sH:=ad hxb;have gZ:=ad g2;have HJ:=ad g6;have tS:=ad (cj.pos λj hj=>by
   have:j∈ids L:=by unfold ids at *;exact List.mem_of_mem_take (by rw [List.map_take] at hj;exact hj)
   rw [<- HI.o.ids] at this;obtain ⟨⟨j',u'⟩,B_,rfl⟩:=List.mem_map.1 this;exact (HI.o.ent _ _ B_).2.1)
  have nG:=ad HS.o.rbx;clear e2 e3 wO hcl g1 g2 gs gm g6 cj hxb hI;by_cases hi0:i=0
  .subst hi0;have jL:bb=false:=by cases bb with|true=>have:=tS.o.1 rfl;omega|false=>rfl
   subst jL;go_wp2_with (go_at_call 30;(with_reducible refine (dZ.o _ (Below.refl _ _)).mono ?_);rintro e w4 ⟨y,cc,rfl,hN,hb4⟩;have HN:=ad hN;have cD:=ad hb4;have hk4:=hb4.size;have kD:=ad ((sH.o.below hb4).alloc (.cells #[.int .i64 y.day,.int .i64 y.frm,.int .i64 y.fin] 46));have z0:=(kD.o.cells 0).1;have z1:=(kD.o.cells 0).2;have z2:=(kD.o.cells 1).1;have z3:=(kD.o.cells 1).2;have z4:=(kD.o.cells 2).1;have z5:=(kD.o.cells 2).2;clear hN hb4;cases cc)
   .go_roundw
    .exact ⟨k+1,0,b6.o,by go_num,rfl,ad ⟨⟨x,false,by rw [gZ.o];exact mr.o.skip HN.o,kD.o⟩,(nG.o.below cD.o).alloc _,Ea (Et HS.o.below cD.o) _⟩,ad (bH.o.ext (Ea cD.o _))⟩
    have:=b6.o;simp [intOf];omega
   skip
   go_region
   all_goals
    go_wp2
    go_roundw
    .have dD:Below w.heap.size w (w4.alloc (.cells #[.int .i64 y.day,.int .i64 y.frm,.int .i64 y.fin] 46)):=Ea (Et HS.o.below cD.o) _;have fS:=kD.o;have hr4:=(nG.o.below cD.o).alloc (.cells #[.int .i64 y.day,.int .i64 y.frm,.int .i64 y.fin] 46);have Pb:=bH.o.ext (Ea cD.o (.cells #[.int .i64 y.day,.int .i64 y.frm,.int .i64 y.fin] 46));obtain ⟨Ca,vq,oY,hb5⟩:=Xd (y1:=.int .i64 y.day) (y2:=.int .i64 y.frm) (y3:=.int .i64 y.fin) fS hr4 aa Pb dD aa;exact ⟨k+1,id,b6.o,by go_num,rfl,ad ⟨⟨y,true,by rw [gZ.o];exact mr.o.take HN.o (.inl rfl),Ca⟩,vq,hb5.drew⟩,ad (oY.ext (Ed (Er _)))⟩
    have:=b6.o;simp [intOf];omega
  go_wp2_with (first|(go_at_call 30;(with_reducible refine (dZ.o _ (Below.refl _ _)).mono ?_);rintro e w4 ⟨y,cc,rfl,hN,hb4⟩;have HN:=ad hN;have cD:=ad hb4;have hk4:=hb4.size;have kD:=ad ((sH.o.below hb4).alloc (.cells #[.int .i64 y.day,.int .i64 y.frm,.int .i64 y.fin] 46));have z0:=(kD.o.cells 0).1;have z2:=(kD.o.cells 1).1;have z4:=(kD.o.cells 2).1;clear hN hb4;cases cc)|(go_at_call 46;(with_reducible refine (sm_ y x _).mono ?_);rintro e w6 ⟨B,rfl,hB,bD⟩;have fw:=ad hB;have bO:=ad bD;have tX:=ad (kD.o.below bD);clear z0 z2 z4 hB bD;have z0:=(tX.o.cells 0).1;have z1:=(tX.o.cells 0).2;have z2:=(tX.o.cells 1).1;have z3:=(tX.o.cells 1).2;have z4:=(tX.o.cells 2).1;have z5:=(tX.o.cells 2).2;have hyb:af (w4.alloc (.cells #[.int .i64 y.day,.int .i64 y.frm,.int .i64 y.fin] 46)) w4.heap.size #[.int .i64 y.day,.int .i64 y.frm,.int .i64 y.fin] 46:=af.at rfl;have y0:=((hyb.below bO.o).cells 0).1;have y1:=((hyb.below bO.o).cells 1).1;have y2:=((hyb.below bO.o).cells 2).1;clear hyb;cases B))
  .go_roundw
   .exact ⟨k+1,i,b6.o,by go_num,rfl,ad ⟨⟨x,bb,by rw [gZ.o];exact mr.o.skip HN.o,kD.o⟩,(nG.o.below cD.o).alloc _,Ea (Et HS.o.below cD.o) _⟩,ad (bH.o.ext (Ea cD.o _))⟩
   have:=b6.o;simp [intOf];omega
  .go_roundw
   .have uR:bb=true:=by cases bb with|true=>rfl|false=>exact absurd (tS.o.2 ag) hi0
    exact ⟨k+1,i,b6.o,by go_num,rfl,ad ⟨⟨x,bb,by rw [gZ.o];exact mr.o.pass HN.o ⟨uR,λh=>by have:=fw.o.2 h;simp at this⟩ HJ.o,tX.o⟩,nG.o.below (Et (Ea cD.o _) bO.o),Et HS.o.below (Et (Ea cD.o _) bO.o)⟩,ad (bH.o.ext (Et (Ea cD.o _) bO.o))⟩
   have:=b6.o;simp [intOf];omega
  skip
  go_region
  all_goals
   go_wp2
   go_roundw
   .have dD:Below w.heap.size w w6:=Et HS.o.below (Et (Ea cD.o _) bO.o);have fS:=sH.o.below (Et (Ea cD.o _) bO.o);have hr4:=nG.o.below (Et (Ea cD.o _) bO.o);have Pb:=bH.o.ext (Et (Ea cD.o _) bO.o);obtain ⟨Ca,vq,oY,hb5⟩:=Xd (y1:=.int .i64 y.day) (y2:=.int .i64 y.frm) (y3:=.int .i64 y.fin) fS hr4 aa Pb dD aa;exact ⟨k+1,id,b6.o,by go_num,rfl,ad ⟨⟨y,true,by rw [gZ.o];exact mr.o.take HN.o (.inr (fw.o.1 ag)),Ca⟩,vq,hb5.drew⟩,ad (oY.ext (Ed (Er _)))⟩
   have:=b6.o;simp [intOf];omega
 obtain rfl:k=E.length:=aa;have Hn:=HS.o.ex;obtain ⟨x,bb,cj,hxb⟩:=Hn;have dY:=HS.o.rbx;have sH:=ad hxb;have nG:=ad dY;have x0:=(hxb.cells 0).1;have x1:=(hxb.cells 1).1;have x2:=(hxb.cells 2).1;have y0:=(dY.cells 0).1;have y1:=(dY.cells 1).1;have y2:=(dY.cells 2).1;have j0:=(dY.cells 0).2;have j1:=(dY.cells 1).2;have j2:=(dY.cells 2).2;have dX:=cj.pos λj hj=>by
  have:j∈ids L:=by unfold ids at *;exact List.mem_of_mem_take (by rw [List.map_take] at hj;exact hj)
  rw [<- HI.o.ids] at this;obtain ⟨⟨j',u'⟩,B_,rfl⟩:=List.mem_map.1 this;exact (HI.o.ent _ _ B_).2.1
 have hdec:decide (0<i)=bb:=by
  cases bb with
  | true=>exact decide_eq_true (by have:=dX.1 rfl;omega)
  | false=>exact decide_eq_false (by have:=dX.2 rfl;omega)
 have Ko:=ad hdec;rw [List.take_of_length_le (by rw [CQ.o];exact Nat.le_refl _)] at cj;have mr:=ad cj;clear cj hxb dY dX hdec;have fM:¬ (E.length:Int)<E.length:=aa;go_wp2_with fail
 go_region
 all_goals
  go_wp2_with fail
  have c0:af _ _ _ 46:=br 0 (.int .i64 x.day) nG.o;have c1:af _ _ _ 46:=br 1 (.int .i64 x.frm) c0;have c2:af _ _ _ 46:=br 2 (.int .i64 x.fin) c1;have s0:=(c0.cells 0).1;have s1:=(c1.cells 1).1;have s2:=(c2.cells 2).1;have hb5:=HS.o.below;exact bodyPost_ret (v:=.tuple #[.int .i64 i,bZ x,.bool (decide (0<i))]) (by simp [results,Tryz.results19,go_sem,s0,s1,s2,bZ]) rfl ⟨i,x,_,rfl,by rw [Ko.o];exact mr.o,xE⟩
end
end Go.Proofs.YtbmgmlbmgogeaaaGreat
namespace Kal
section
theorem jq.snoc {s:aE} {L:IL} (h:jq s L l e) (he:e=0) {t:aE} (hb:nM t s b 0):jq s (L ++ [(i,t)]) (l ++ if b then [i] else []) 0:=by
 induction h with
 | nil=>
  cases b with
  | true=>exact .yes hb .nil
  | false=>exact .no hb .nil
 | yes h hl ih=>exact .yes h (ih rfl)
 | no h hl ih=>exact .no h (ih rfl)
 | bad h he'=>exact absurd he he'
 | late h hl he' ih=>exact absurd he he'
theorem jq.stop {s:aE} {L R:IL} (h:jq s L l e) (he:e=0) {t:aE} {k:Int} (hb:nM t s b k) (hk:k≠0):jq s (L ++ (i,t) :: R) [] k:=by
 induction h with
 | nil=>exact .bad hb hk
 | yes h hl ih=>exact .late h (ih rfl) hk
 | no h hl ih=>exact .late h (ih rfl) hk
 | bad h he'=>exact absurd he he'
 | late h hl he' ih=>exact absurd he he'
theorem sf_ {L:IL} {b:Int} {s:aE} {c:Bool} (hc:c=true↔gJ s a b):oQ (L ++ [(i,s)]) a b=oQ L a b ++ if c then [i] else []:=by
 unfold oQ ids;rw [List.filter_append,List.map_append]
 congr 1
 cases c with
 | true=>rw [List.filter_cons_of_pos (by simpa using hc.1 rfl)];rfl
 | false=>rw [List.filter_cons_of_neg (by simpa using λh=>by have:=hc.2 h;cases this)];rfl
end
end Kal
namespace Go.Proofs.YtbmgmlbmgogeaaaGreat
section
open Go.RowKit Go.Shelf Go.Maps Kal
attribute [local go_sem] Oper.semAt_some
def qF (s:aE) (t:Int):Prop:=∃ y,gq s y/\y.frm<=t/\t<y.fin
theorem si_ {s:aE} {t:Int} (h:bM s) (g:qF s t):-2251799813685248<=t/\t<=2251799813685248:=by
 obtain ⟨y,hy,h1,h2⟩:=g;have h3:=h.low hy;rcases hy with ⟨c,hc,ho,hf⟩|hy
 .omega
 have:=h.val.ins hy;unfold j9 at this;omega
theorem Wp {s:aE} {t:Int}:qF s t↔(∃ j,j<s.cls.length/\∃ d,gE s (s.cls.getD j default) t (t+1) d)\/∃ y∈s.ext,fI y.frm y.fin t (t+1):=by
 constructor
 .rintro ⟨y,⟨c,hc,⟨ho1,ho2⟩,hf⟩|hy,h1,h2⟩
  .obtain ⟨j,hj,rfl⟩:=wt (d:=default) hc;have e1:y.frm=y.day*1440+(s.cls.getD j default).min:=congrArg ai.frm ho2;have e2:y.fin=y.day*1440+(s.cls.getD j default).min+s.len:=congrArg ai.fin ho2;exact .inl ⟨j,hj,y.day,ho1,by unfold JN;omega,aa,aa⟩
  exact .inr ⟨y,hy,by unfold fI;omega⟩
 rintro (⟨j,hj,d,h1,h2,h3,h4⟩|⟨y,hy,h⟩)
 .refine ⟨nP s (s.cls.getD j default) d,.inl ⟨_,by rw [fG hj];exact List.getElem_mem hj,⟨h1,rfl⟩,h2⟩,?_,?_⟩
  .show d*1440+(s.cls.getD j default).min<=t;omega
  exact h3
 unfold fI at h;exact ⟨y,.inr hy,aa,h.2⟩
def yq_ (s:aE) (t:Int) (w:World) (e:Ending) (w':World):Prop:=∃ r:Bool,e=.returned (.bool r)/\(r=true↔qF s t)/\Below w.heap.size w w'
structure oI (w:World) (n:Nat) (sv:Array Value) (t:Int) (r:Bool) (W:World):Prop where
 below:Below w.heap.size w W
 b0:af W w.heap.size sv 43
 b1:af W (w.heap.size+1) #[.bool r] 4
 b2:af W n #[.int .i64 t,.int .i64 (t+1)] 29
theorem oI.grow {sv:Array Value} {t:Int} {r:Bool} (h:oI w n sv t r A) (hg:A.grownBy C row) (hr:∀ k,row=some k->w.heap.size<=k/\∃ o:Obj,A.heap[k]? = some o/\o.isCells=false):oI w n sv t r C:=by
 have key:∀ {b:Nat} {c:Array Value} {t:TypeId},af A b c t->af C b c t:=λ{b c t} hb=>hb.grown hg λe=>by
  obtain ⟨_,o,h1,h2⟩:=hr b e.symm;rw [hb] at h1;cases h1;cases h2
 exact ⟨h.below.grown hg h.below.size λk e=>(hr k e).1,key h.b0,key h.b1,key h.b2⟩
theorem oI.ext {sv:Array Value} {t:Int} {r:Bool} (h:oI w n sv t r A) (hb:Below A.heap.size A C):oI w n sv t r C:=
 ⟨Et h.below hb,h.b0.below hb,h.b1.below hb,h.b2.below hb⟩
theorem oI.setR {sv:Array Value} {t:Int} {r s:Bool} (h:oI w n sv t r A) (hn:n≠w.heap.size+1):oI w n sv t s (A.setCell ⟨w.heap.size+1,0,none⟩ (.bool s)):=
 ⟨h.below.setCell (p:=⟨w.heap.size+1,0,none⟩) ag _,h.b0.setNe _ aa,br 0 _ h.b1,h.b2.setNe _ hn⟩
theorem wx_ (F:Nat->Prop) (cv ev:Value) (s:aE) (t:Int) (w:World) (h:bq w F cv ev s) (gR:bM s) (ht:aP t) :
  Calls Tryz.prog 39 #[.agg #[cv,.int .i64 s.len,ev],.int .i64 t] w (yq_ s t w):=by
 obtain ⟨t1,t2⟩:=ht;have h:=h.lt;have HV:=λW (hb:Below w.heap.size w W)=>Bs _ cv ev s W (h.ext hb);rw [yV.2 gR.val] at HV;obtain ⟨L,h⟩:=h;have ni:s.cls.length=L.length:=by rw [<- h.eq];exact List.length_map _
 obtain ⟨a1,c1,rfl⟩:=h.cl.form;obtain ⟨a2,c2,rfl⟩:=h.ex.form;have fA:=h.cl.len;obtain ⟨Cf,Cg⟩:=gR.val.len;have HV:=ad HV;have oG:=ad h;have fU:=ad gR;have fD:=ad ni;clear h gR ni;refine callsIn_wide (n:=0).1 ?_;refine callsIn_of_wp_marks Tryz.func39 rfl trivial ?_ rfl;simp only [Tryz.ntmps39,List.size_toArray,List.length_cons,List.length_nil,Nat.reduceAdd,Nat.reduceSub,Array.replicate_succ,Array.replicate_zero,List.push_toArray,List.append_toArray,List.nil_append,List.cons_append];have hb0:af ((w.alloc (.cells #[.slice a1 L.length c1,.int .i64 s.len,.slice a2 s.ext.length c2] 43)).alloc (.cells #[.bool false] 4)) w.heap.size #[.slice a1 L.length c1,.int .i64 s.len,.slice a2 s.ext.length c2] 43:=(af.at rfl).alloc _;have hb1:af ((w.alloc (.cells #[.slice a1 L.length c1,.int .i64 s.len,.slice a2 s.ext.length c2] 43)).alloc (.cells #[.bool false] 4)) (w.heap.size+1) #[.bool false] 4:=af.at ag;have fk:Below w.heap.size w ((w.alloc (.cells #[.slice a1 L.length c1,.int .i64 s.len,.slice a2 s.ext.length c2] 43)).alloc (.cells #[.bool false] 4)):=by exact xE
 have ks:=ad hb0;have bo:=ad hb1;have ij:=ad fk;clear hb0 hb1 fk;by_cases hr:-2251799813685248<=t/\t<=2251799813685248
 .have dL:=λW=>y_ t (-2251799813685248) 2251799813685248 W;rw [decide_eq_true hr] at dL;obtain ⟨hr1,hr2⟩:=hr;have dL:=ad dL;gi_wp2_with (first
   | (refine ⟨trivial,rfl,?_⟩;gi_at_call 23;(with_reducible refine (callsIn_wide.2 (HV.o _ ij.o)).mono ?_);rintro e w1 ⟨rfl,h1⟩;have qD:=ad h1;have hw1:=h1.size;simp only [World.size_alloc] at hw1;have hz0:w.heap.size<w1.heap.size:=aa;have hz1:w.heap.size+1<w1.heap.size:=aa;have Zs:=ad (ks.o.below h1);have kY:=ad (bo.o.below h1);have x0:=((ks.o.below h1).cells 0).1;have x1:=((ks.o.below h1).cells 1).1;have x2:=((ks.o.below h1).cells 2).1;clear h1)
   | (refine ⟨trivial,rfl,?_⟩;gi_at_call 48;(with_reducible refine (callsIn_wide.2 (dL.o _)).mono ?_);rintro e w2 ⟨rfl,rfl⟩))
  have sE:Hid (oI w w1.heap.size #[.slice a1 L.length c1,.int .i64 s.len,.slice a2 s.ext.length c2] t false (w1.alloc (.cells #[.int .i64 t,.int .i64 (t+1)] 29))):=
   ad ⟨Ea (Et ij.o qD.o) _,Zs.o.alloc _,kY.o.alloc _,af.at rfl⟩
  clear x0 x1 x2;refine wpIn_loop (λa W=>∃ (k:Nat) (u7 u24 u25 u26 u27 u28 u29 u30 u31 u32:Value) (ds:List Deferred),a=⟨#[.agg #[.slice a1 L.length c1,.int .i64 s.len,.slice a2 s.ext.length c2],.int .i64 t,.pointer (some ⟨w.heap.size,0,none⟩),undef,.pointer (some ⟨w.heap.size+1,0,none⟩),.pointer (some ⟨w1.heap.size,0,none⟩),undef,u7,.agg #[.slice a1 L.length c1,.int .i64 s.len,.slice a2 s.ext.length c2],.bool true,.bool false,.bool false,.int .i64 t,.bool true,.bool false,.bool false,.int .i64 t,.int .i64 t,.int .i64 (t+1),.agg #[.int .i64 t,.int .i64 (t+1)],.pointer (some ⟨w.heap.size,0,none⟩),.slice a1 L.length c1,.int .i64 L.length,.int .i64 k,u24,u25,u26,u27,u28,u29,u30,u31,u32,undef,undef,undef,undef],ds⟩/\k<=L.length/\Hid (∀ j,j<k->¬ ∃ d,gE s (s.cls.getD j default) t (t+1) d)/\
   Hid (oI w w1.heap.size #[.slice a1 L.length c1,.int .i64 s.len,.slice a2 s.ext.length c2] t false W)/\Hid (cL w.heap.size ds W)) (λa _=>L.length-(intOf (a.tmps.getD 23 undef)).toNat) ?start ?round
  case start=>exact ⟨0,undef,undef,undef,undef,undef,undef,undef,undef,undef,undef,[],rfl,aa,ad (by intro j hj;omega),sE,ad (cL.nil _ _)⟩
  case round=>
   rintro _ W ⟨k,u7,u24,u25,u26,u27,u28,u29,u30,u31,u32,ds,rfl,hk,HN,HS,HM⟩;have xx:=HS.o.below.size;have hwl:=HS.o.b2.lt;have PM:w.heap.size<W.heap.size:=aa;have hzz1:w.heap.size+1<W.heap.size:=aa;by_cases hlt:k<L.length
   .have dh:(k:Int)<L.length:=aa;obtain ⟨b8,f8,xa,xc,m,mi,rfl,ee,e0,e1,hm,oe,hcl⟩:=(oG.o.below HS.o.below).cl.get hlt;rw [oG.o.eq] at hcl;have hcm:(⟨m,mi⟩:eA)∈s.cls:=by rw [<- hcl,fG (by rw [fD.o];exact hlt)];exact List.getElem_mem _
    obtain ⟨lz,nj⟩:-4320<=mi/\mi<=4320:=fU.o.min hcm;have je:=ad (fU.o.mv _ hcm);have dw:=ad hcl;have vU:=ad hm;have r0:=fy ((HS.o.b0.cells 0).1) (.cells #[.slice xa m.length xc,.int .i64 mi] 59);have r1:=fy ((HS.o.b0.cells 1).1) (.cells #[.slice xa m.length xc,.int .i64 mi] 59);have r2:=fy ((HS.o.b0.cells 2).1) (.cells #[.slice xa m.length xc,.int .i64 mi] 59);have r3:=fy ((HS.o.b2.cells 0).1) (.cells #[.slice xa m.length xc,.int .i64 mi] 59);have r4:=fy ((HS.o.b2.cells 1).1) (.cells #[.slice xa m.length xc,.int .i64 mi] 59);clear hcl hm hcm oe;gi_wp2_with (refine ⟨trivial,rfl,?_⟩;gi_at_call 65;(with_reducible refine (callsIn_wide.2 (wt_ (some ⟨b8,f8,none⟩) a2 xa L.length c1 s.ext.length c2 m.length xc s.len mi t (t+1) _)).mono ?_);rintro e w' ⟨rfl,rfl⟩);generalize hW0:(((W.alloc _).alloc _).alloc _).alloc _=W0;have hE:Below W.heap.size W W0:=by rw [<- hW0];exact xE
    have hsz:W0.heap.size=W.heap.size+1+1+1+1:=by rw [<- hW0];simp
    have AA:af W0 (W.heap.size+1) #[.slice (some ⟨b8,f8,none⟩) L.length c1,.int .i64 s.len,.slice a2 s.ext.length c2] 43:=by rw [<- hW0];exact ((af.at ag).alloc _).alloc _
    have hcb:af W0 (W.heap.size+1+1) #[.slice xa m.length xc,.int .i64 mi] 59:=by rw [<- hW0];exact (af.at ag).alloc _
    have pT:af W0 (W.heap.size+1+1+1) #[.int .i64 t,.int .i64 (t+1)] 29:=by rw [<- hW0];exact af.at ag
    have kV:=ad (HS.o.ext hE);have Da:=ad (KeepsOthers.of_below hE);have Y0:=ad (vU.o.ext hE);clear hW0 r0 r1 r2 r3 r4 e0 e1;refine If (α:=Int) (x:=none) (gf:=112) (lb:=#[.pointer (some ⟨W.heap.size+1+1+1,0,none⟩),.pointer (some ⟨W.heap.size+1,0,none⟩),.pointer (some ⟨W.heap.size+1+1,0,none⟩)]) rfl (enters_of Tryz.func112 (by kernel_rfl) rfl)
     (wu_ (λb=>F b/\b<w.heap.size) (λk=>k<W0.heap.size) (some ⟨b8,f8,none⟩) a2 xa L.length c1 s.ext.length c2 xc (W.heap.size+1) (W.heap.size+1+1) (W.heap.size+1+1+1) W0 s ⟨m,mi⟩ t (t+1) Y0.o je.o (λk h=>by have:=h.2;show k<_;omega) (λk h=>h) AA hcb pT AA.lt hcb.lt pT.lt Cf Cg lz nj aa aa aa aa)
     (λh k=>h.trans k) (λW1 l o o' hl ho hc=>cX.putObj (λk h=>h) W1 l o o' hl ho hc) (λW1 W2 hn hg k hk=>hg.block k (Nat.lt_of_lt_of_le hk hn) ag) (λy=>rfl)
     (λpre W'=>pre=[]/\oI w w1.heap.size #[.slice (some ⟨b8,f8,none⟩) L.length c1,.int .i64 s.len,.slice a2 s.ext.length c2] t false W'/\KeepsOthers W0 W')
     (λc' _ W'=>c'=.ret/\(∃ d,gE s ⟨m,mi⟩ t (t+1) d)/\oI w w1.heap.size #[.slice (some ⟨b8,f8,none⟩) L.length c1,.int .i64 s.len,.slice a2 s.ext.length c2] t true W'/\KeepsOthers W0 W')
     (λpre A' C row hI hg hr=>by
      have hr':∀ r,row=some r->W0.heap.size<=r/\∃ o:Obj,A'.heap[r]? = some o/\o.isCells=false:=λr e=>by
       rcases hr r e with ⟨h,_⟩|h
       .cases h
       exact h
      exact ⟨hI.1,hI.2.1.grow hg λr e=>⟨by have:=(hr' r e).1;omega,(hr' r e).2⟩,KeepsOthers.grow hI.2.2 hg λr e=>(hr' r e).1⟩)
     (λc' pre A' C row hI hg hr=>by
      have hr':∀ r,row=some r->W0.heap.size<=r/\∃ o:Obj,A'.heap[r]? = some o/\o.isCells=false:=λr e=>by
       rcases hr r e with ⟨h,_⟩|h
       .cases h
       exact h
      exact ⟨hI.1,hI.2.1,hI.2.2.1.grow hg λr e=>⟨by have:=(hr' r e).1;omega,(hr' r e).2⟩,KeepsOthers.grow hI.2.2.2 hg λr e=>(hr' r e).1⟩)
     (λ_ _ _ _ _ _ _ _ h=>h) (λ_ _ _ _ _ h=>h) ⟨rfl,kV.o,KeepsOthers.refl _⟩
     (λy a' _=>a'=⟨#[.agg #[.slice (some ⟨b8,f8,none⟩) L.length c1,.int .i64 s.len,.slice a2 s.ext.length c2],.int .i64 t,.pointer (some ⟨w.heap.size,0,none⟩),undef,.pointer (some ⟨w.heap.size+1,0,none⟩),.pointer (some ⟨w1.heap.size,0,none⟩),undef,.pointer (some ⟨W.heap.size,0,none⟩),.agg #[.slice (some ⟨b8,f8,none⟩) L.length c1,.int .i64 s.len,.slice a2 s.ext.length c2],.bool true,.bool false,.bool false,.int .i64 t,.bool true,.bool false,.bool false,.int .i64 t,.int .i64 t,.int .i64 (t+1),.agg #[.int .i64 t,.int .i64 (t+1)],.pointer (some ⟨w.heap.size,0,none⟩),.slice (some ⟨b8,f8,none⟩) L.length c1,.int .i64 L.length,.int .i64 k,.bool true,.pointer (some ⟨b8,f8+k*2,none⟩),.agg #[.slice xa m.length xc,.int .i64 mi],.agg #[.slice (some ⟨b8,f8,none⟩) L.length c1,.int .i64 s.len,.slice a2 s.ext.length c2],.agg #[.slice xa m.length xc,.int .i64 mi],.agg #[.int .i64 t,.int .i64 (t+1)],.func (.func 112) #[] #[.pointer (some ⟨W.heap.size+1+1+1,0,none⟩),.pointer (some ⟨W.heap.size+1,0,none⟩),.pointer (some ⟨W.heap.size+1+1,0,none⟩)],.int .i64 y,u32,undef,undef,undef,undef],[]⟩)
     (λ_ _ _ _ _ _ _ _ _ h=>h) ?assign ?body ?done ?stop
    case assign=>
     intro l pre y W' K _ _ _ hK
     gi_wp2
     exact hK _ _ (World.grownBy.of_below (Below.refl _ _) none) ag
    case body=>
     rintro l pre y _ W' ⟨rfl,hA,bR⟩ hy rfl;have hd:=hy.all y ag;have q1:=(hA.b1.cells 0).1;have q2:=(hA.b1.cells 0).2;have kr:=ad (hA.setR (s:=true) aa);have dS:=ad bR;have HY:=ad hd;clear hA bR hy hd;gi_wp2_with fail;exact ⟨(KeepsOthers.setCell W' _ _).from _,rfl,⟨y,HY.o⟩,kr.o,dS.o.trans (KeepsOthers.setCell W' _ _)⟩
    case done=>
     rintro D xs W' hD aL ⟨rfl,hA,bR⟩ aJ;have vh:¬ ∃ d,gE s ⟨m,mi⟩ t (t+1) d:=λ⟨y,hy⟩=>by have:=(aL.iff y).2 hy;simp at this
     have kr:=ad hA;have K7:=ad vh;have sy:=ad (cL.cons (D:=D) HM.o aa ((Da.o.trans bR).from _) aa aJ);clear aL hA bR aJ vh AA hcb pT;gi_wp2_with fail;refine ⟨⟨k+1,_,_,_,_,_,_,_,_,_,_,_,by push_cast;rfl,aa,ad λj hj=>?_,kr,sy⟩,by simp [intOf];omega⟩;by_cases e:j<k
     .exact HN.o j e
     obtain rfl:j=k:=aa;rw [dw.o];exact K7.o
    case stop=>
     rintro D c' pre W' hD ⟨rfl,hy,hA,bR⟩ aJ;have kr:=ad hA;have HY:=ad hy;have sy:=ad (cL.cons (D:=D) HM.o aa ((Da.o.trans bR).from _) aa aJ);clear hA bR aJ hy;gi_wp2_with fail;refine jY (B:=w.heap.size) _ _ sy.o λw' hs=>?_;have hc:=af.c0 (hs.cells _ _ kr.o.b1 rfl);exact ⟨.bool true,by simp [results,Tryz.results39,go_sem,hc],true,rfl,⟨λ_=>Wp.2 (.inl ⟨k,by rw [fD.o];exact hlt,by rw [dw.o];exact HY.o⟩),λ_=>rfl⟩,kr.o.below.trans hs.below⟩
   obtain rfl:k=L.length:=aa;have fM:¬ (L.length:Int)<L.length:=aa;have q1:=(HS.o.b0.cells 2).1;have q2:=(HS.o.b1.cells 0).1;have q3:=(HS.o.b1.cells 0).2;have l_:=Uk (λb=>F b/\b<w.heap.size) (.slice a2 s.ext.length c2) s.ext (λy=>decide (fI y.frm y.fin t (t+1))) 73 #[.pointer (some ⟨w1.heap.size,0,none⟩)] (enters_of Tryz.func73 (by kernel_rfl) rfl) W (oG.o.below HS.o.below).ex (λW2 y hb2 _=>(uf_ t (t+1) y w1.heap.size W2 (HS.o.b2.below hb2)).mono λe w' h=>⟨h.1,Et hb2 h.2⟩);have CH:=ad l_;obtain ⟨q,hq⟩:∃ q,s.ext.any (λy=>decide (fI y.frm y.fin t (t+1)))=q:=⟨_,rfl⟩;rw [hq] at l_;have CH:=ad l_;have HQ:=ad hq;clear l_ hq;gi_wp2_with (refine ⟨trivial,rfl,?_⟩;gi_at_call 72;(with_reducible refine (callsIn_wide.2 CH.o).mono ?_);rintro e w4 ⟨rfl,hb4⟩;have qc:=ad (HS.o.ext hb4);have cD:=ad hb4;have q4:=(qc.o.b1.cells 0).1;have q5:=(qc.o.b1.cells 0).2;clear hb4);have jH:=qc.o.setR (s:=q) aa;refine jY (B:=w.heap.size) _ _ (HM.o.keep (((KeepsOthers.of_below cD.o).trans (KeepsOthers.setCell w4 ⟨w.heap.size+1,0,none⟩ (.bool q))).from _)) λw' hs=>?_;have hc:=af.c0 (hs.cells _ _ jH.b1 rfl);refine ⟨.bool q,by simp [results,Tryz.results39,go_sem,hc],q,rfl,?_,jH.below.trans hs.below⟩;rw [Wp,<- HQ.o,List.any_eq_true];constructor
   .rintro ⟨y,hy,h⟩;exact .inr ⟨y,hy,of_decide_eq_true h⟩
   rintro (⟨j,hj,h⟩|⟨y,hy,h⟩)
   .exact absurd h (HN.o j (by rw [fD.o] at hj;exact hj))
   exact ⟨y,hy,decide_eq_true h⟩
 have dL:=λW=>y_ t (-2251799813685248) 2251799813685248 W;rw [decide_eq_false hr] at dL;have dL:=ad dL;have HR:=ad hr;clear hr;gi_wp2_with (first
  | (refine ⟨trivial,rfl,?_⟩;gi_at_call 23;(with_reducible refine (callsIn_wide.2 (HV.o _ ij.o)).mono ?_);rintro e w1 ⟨rfl,h1⟩;have qD:=ad h1;have hw1:=h1.size;simp only [World.size_alloc] at hw1;have kY:=ad (bo.o.below h1);have x0:=((bo.o.below h1).cells 0).1;have x1:=((bo.o.below h1).cells 0).2;clear h1)
  | (refine ⟨trivial,rfl,?_⟩;gi_at_call 48;(with_reducible refine (callsIn_wide.2 (dL.o _)).mono ?_);rintro e w2 ⟨rfl,rfl⟩))
 refine jY (B:=w.heap.size) _ _ (cL.nil _ _) λw' hs=>?_;have hc:=af.c0 (hs.cells _ _ (br 0 (.bool false) kY.o) rfl);refine ⟨.bool false,by simp [results,Tryz.results39,go_sem,hc],false,rfl,⟨λh=>(by cases h),λh=>absurd (si_ fU.o h) HR.o⟩,?_⟩;exact ((Et ij.o qD.o).setCell (p:=⟨w.heap.size+1,0,none⟩) ag _).trans hs.below
end
section
open Go.RowKit Kal
theorem zf_ {s:aE} {x:ai} (h:bM s) (hx:gq s x):x.frm<x.fin:=by
 have hl:=h.val.len;rcases hx with ⟨c,hc,⟨_,ho⟩,_⟩|hx
 .have e1:x.frm=x.day*1440+c.min:=congrArg ai.frm ho;have e2:x.fin=x.day*1440+c.min+s.len:=congrArg ai.fin ho;omega
 have:=h.val.ins hx;unfold j9 at this;omega
theorem zb_ {s:aE} {b:Int} (h:bM s) (hab:a<b) {y:ai} {c:Bool} (hN:df (gq s) a y c):gJ s a b↔qF s a\/(c=true/\y.frm<b):=by
 constructor
 .rintro ⟨_,x,hx,h1,h2⟩;by_cases e:x.frm<=a
  .exact .inl ⟨x,hx,e,h2⟩
  rcases hN with ⟨rfl,g1,g2,g3⟩|⟨rfl,rfl,g1⟩
  .have:=g3 x hx aa;unfold bK at this;exact .inr ⟨rfl,aa⟩
  exact absurd aa (g1 x hx)
 rintro (⟨x,hx,h1,h2⟩|⟨rfl,h1⟩)
 .exact ⟨hab,x,hx,aa,h2⟩
 rcases hN with ⟨_,g1,g2,g3⟩|⟨g,_⟩
 .have:=zf_ h g1;exact ⟨hab,y,g1,h1,aa⟩
 cases g
end
section
open Go.RowKit Go.Maps Kal
def gk {α:Type}:List (Int × α)->Int->α->List (Int × α)
 | [],i,s=>[(i,s)]
 | (j,t) :: r,i,s=>if i<j then (i,s) :: (j,t) :: r else (j,t) :: gk r i s
theorem VG {α β:Type} {L:List (Int × α)} {M:List (Int × β)} (h:L.map Prod.fst=M.map Prod.fst) (i:Int) (x:α) (y:β):(gk L i x).map Prod.fst=(gk M i y).map Prod.fst:=by
 induction L generalizing M with
 | nil=>
  cases M with
  | nil=>rfl
  | cons z M=>simp at h
 | cons z L ih=>
  cases M with
  | nil=>simp at h
  | cons u M=>
   obtain ⟨j,t⟩:=z;obtain ⟨k,v⟩:=u;simp only [List.map_cons,List.cons.injEq] at h;obtain ⟨h1,h2⟩:=h;have h1:j=k:=h1;subst h1;unfold gk
   split
   .simp [h2]
   simp [ih h2]
theorem VF (L:IL) (i:Int) (s:aE):gk L i s=di L i s:=by
 induction L with
 | nil=>rfl
 | cons z L ih=>obtain ⟨j,t⟩:=z;unfold gk di;rw [ih]
theorem Jt {α:Type} {L:List (Int × α)} {s:α} {x:Int × α}:x∈gk L i s↔x=(i,s)\/x∈L:=by
 induction L with
 | nil=>simp [gk]
 | cons y r ih=>
  obtain ⟨j,t⟩:=y;unfold gk
  split
  .simp
  rw [List.mem_cons,ih,List.mem_cons];constructor
  .rintro (h|h|h)
   .exact .inr (.inl h)
   .exact .inl h
   exact .inr (.inr h)
  rintro (h|h|h)
  .exact .inr (.inl h)
  .exact .inl h
  exact .inr (.inr h)
theorem u1_ {L:IL} (h:ja L):(ids L).Nodup:=List.Pairwise.imp (λh=>aa) h
theorem zc_ {p b:Nat} {G:Nat->Prop} {E:List (Int × bm)} {L:IL} {s:aE} {x:bm} (h:fg W p b n G E L) (hb:Below W.heap.size W W1) (hn:n<1000000) (pR:id ∉ ids L) (hI:aP id) (h1:1<=id)
  (hg:W1.grownBy W' (some b)) (hm:cT W' b (n+1) ((gk E id x).map dJ)) (hs:bq W1 (λk=>lo<=k/\k<hi) (.slice x.a1 x.n1 x.c1) (.slice x.a2 x.n2 x.c2) s) (hlo:W.heap.size<=lo) (hx:x.len=s.len) (gR:bM s) (hd:uq x.g s) :
  fg W' p b (n+1) (λk=>G k\/W.heap.size<=k) (gk E id x) (di L id s):=by
 have hbl:=h.map.lt;have hpl:=h.box.lt;refine ⟨(hg.block p (by have:=hb.size;omega) (by rintro ⟨⟩;exact h.apart.1 rfl)).trans (h.box.below hb),hm,aa,Qi h.asc pR,?_,λi y hy=>?_,h.apart.1,λhG=>hG.elim h.apart.2 λhl=>aa⟩
 .rw [VG (α:=bm) (β:=aE) (M:=L) h.ids id x s,VF];rfl
 rcases Jt.1 hy with e|hy
 .cases e;refine ⟨hI,h1,s,BC.2 (.inl rfl),⟨(hs.keep (aN.grown hg λhF=>aa) hg.size).mono λk hk=>.inr aa,hx,gR,hd⟩⟩
 obtain ⟨g1,g2,t,g3,g4⟩:=h.ent i y hy;refine ⟨g1,g2,t,BC.2 (.inr g3),⟨?_,g4.len,g4.ms,g4.days⟩⟩;exact ((g4.str.ext hb).keep (aN.grown hg h.apart.2) hg.size).mono λk hk=>.inl hk
theorem cT.look1 {b:Nat} {E:List (Int × Value)} (h:cT w b n E) (hi:aP i) (hv:(i,v)∈E):(Instr.lookup 96 (.map (some b)) (.int .i64 i) true).run Tryz.prog w=.ok (.tuple #[v,.bool true]) w:=by
 rcases h.look hi with ⟨u,hu,hrun,_⟩|⟨hn,_⟩
 .obtain ⟨D,hown,hD⟩:=h;have e1:=hD.val i v hv .nil;rw [hD.val i u hu .nil] at e1;injection e1 with e1
  subst e1;exact hrun
 exact absurd (List.mem_map.2 ⟨_,hv,rfl⟩) hn
theorem cT.look0 {b:Nat} {E:List (Int × Value)} (h:cT w b n E) (hi:aP i) (hn:i ∉ E.map Prod.fst):(Instr.lookup 96 (.map (some b)) (.int .i64 i) true).run Tryz.prog w=.ok (.tuple #[.agg #[.slice none 0 0,.int .i64 0,.slice none 0 0,.bool false,.bool false,.bool false,.bool false,.bool false,.bool false,.bool false],.bool false]) w:=by
 rcases h.look hi with ⟨u,hu,_⟩|⟨_,hrun⟩
 .exact absurd (List.mem_map.2 ⟨_,hu,rfl⟩) hn
 exact hrun
theorem Mo {g g':Nat->Bool} (h:Value.agg (fB g)=.agg (fB g')):∀ i,i<7->g i=g' i:=by
 injection h with h
 intro i hi;have e:=congrArg (λa:Array Value=>a[i]?) h;simp only [GG g hi,GG g' hi] at e;injection e with e
 injection e
theorem oh_ {g g':Nat->Bool} {s:aE} (h:Value.agg (fB g)=.agg (fB g')) (hd:uq g s):uq g' s:=λx hx=>by
 have h1:=hd x hx;rwa [Mo h _ aa] at h1
theorem xa_ {E:List (Int × bm)} {L:IL} {s:aE} {x:bm} {D:DataW Value} (FF:E.map Prod.fst=ids L) (Oe:ja L) (pR:id ∉ ids L) (hD:eZ D (E.map dJ)) (hm:IsMap D):eZ (D.put (.int .i64 id) (.held x.val)) ((gk E id x).map dJ):=by
 refine eZ.put hD hm (by rw [wz,FF];exact pR) (λy=>?_) ?_
 .rw [List.mem_map,List.mem_map];constructor
  .rintro ⟨z,hz,rfl⟩;rcases Jt.1 hz with rfl|hz
   .exact .inl rfl
   exact .inr ⟨z,hz,rfl⟩
  rintro (rfl|⟨z,hz,rfl⟩)
  .exact ⟨_,Jt.2 (.inl rfl),rfl⟩
  exact ⟨z,Jt.2 (.inr hz),rfl⟩
 rw [wz,VG (α:=bm) (β:=aE) (M:=L) FF id x s,VF];exact u1_ (Qi Oe pR)
def Xv (p b n:Nat) (G:Nat->Prop) (E:List (Int × bm)) (L:IL) (id:Int) (s:aE) (w:World) (e:Ending) (w':World):Prop:=
 ((id<1\/1099511627776<id)/\e=.returned (.int .i64 1)/\Below w.heap.size w w') \/
 ((
  1<=id/\id<=1099511627776)/\((id∈ids L/\e=.returned (.int .i64 5)/\Below w.heap.size w w') \/
  (id ∉ ids L/\e=.returned (.int .i64 0)/\w.grownBy w' (some b)/\∃ x:bm,fg w' p b (n+1) (λk=>G k\/w.heap.size<=k) (gk E id x) (di L id s))))
theorem Em (p b n:Nat) (G F:Nat->Prop) (E:List (Int × bm)) (L:IL) (id:Int) (cv ev:Value) (s:aE) (w:World) (h:fg w p b n G E L) (hn:n<4000) (hs:bq w F cv ev s) (gR:bM s) (hid:aP id) :
  Calls Tryz.prog 24 #[.pointer (some ⟨p,0,none⟩),.int .i64 id,.agg #[cv,.int .i64 s.len,ev]] w (Xv p b n G E L id s w):=by
 have hpl:=h.box.lt;have hbl:=h.map.lt;have HI:=ad h;have fU:=ad gR;have oD:=ad hid;obtain ⟨a1,c1,a2,c2,rfl,rfl⟩:=hs.form;have HV:=λW (hb:Below w.heap.size w W)=>Bs F _ _ s W (hs.ext hb);rw [yV.2 gR.val] at HV;have HV:=ad HV;have RI:=ad (λW (hb:Below w.heap.size w W)=>s7_ F _ _ s W (hs.ext hb) gR.val);have Za:=ad (λW (hb:Below w.heap.size w W)=>pg_ F _ _ s W (hs.ext hb) gR.val);have Al:∀ W,(binOp .eql 31 (.pointer (some ⟨p,0,none⟩)) (.pointer none)).run Tryz.prog W=.ok (.bool false) W:=λW=>by first|rfl|kernel_rfl|simp [go_sem]
 have nD:=ad (λW (hb:Below w.heap.size w W)=>(h.ext hb).map);have tu:=ad (λW (hb:Below w.heap.size w W)=>(h.ext hb).box);clear h gR hid hs;obtain ⟨id1,id2⟩:=oD.o;have hnp0:=Al w;by_cases hA:id<1
 .go_in
  go_wp2
  go_ret;exact .inl ⟨.inl hA,rfl,xE⟩
 by_cases hB:1099511627776<id
 .go_in
  go_wp2
  go_ret;exact .inl ⟨.inr hB,rfl,xE⟩
 have qA:=ad (show 1<=id/\id<=1099511627776 by omega);by_cases hm:id∈ids L
 .obtain ⟨⟨id',u⟩,hu,he⟩:=List.mem_map.1 (show id∈E.map Prod.fst by rw [HI.o.ids];exact hm);have he:id'=id:=he;subst he;have HM:=ad hm;have Dc:=ad (λW (hb:Below w.heap.size w W)=>(nD.o W hb).look1 oD.o (List.mem_map.2 ⟨_,hu,rfl⟩));dsimp only [dJ,bm.val] at Dc;clear hu hm
  go_in
  go_wp2_with (go_at_call 23;(with_reducible refine (HV.o _ (Ea (Er w) _)).mono ?_);rintro e w1 ⟨rfl,hb1⟩;have hb2:Below w.heap.size w w1:=Et (Ea (Er w) _) hb1;have hlk:=Dc.o _ hb2;have q0:=((tu.o _ hb2).cells 0).1;have bj:=ad hb2;clear hb1 hb2)
  go_ret;exact .inr ⟨qA.o,.inl ⟨HM.o,rfl,by have hb2:=bj.o;exact xE⟩⟩
 have HM:=ad hm;have KR:=ad (λW (hb:Below w.heap.size w W)=>(nD.o W hb).look0 oD.o (by rw [wz,HI.o.ids];exact hm));clear hm
 go_in
 go_upto_region 8 with (first|(go_at_call 23;(refine (HV.o _ (Ea (Er w) _)).mono ?_;rintro e w1 ⟨rfl,hb1⟩;have hb2:Below w.heap.size w w1:=Et (Ea (Er w) _) hb1;have hlk:=KR.o _ hb2;have hz1:=hb2.size;have Y3:=ad (nD.o _ (Ea hb2 (.cells #[.slice none 0 0,.int .i64 0,.slice none 0 0,.bool false,.bool false,.bool false,.bool false,.bool false,.bool false,.bool false] 95)));obtain ⟨D1,hown1,Z0⟩:=Y3.o;obtain ⟨z,hz⟩:∃ z,Maps.size D1=z:=⟨_,rfl⟩;have xC:z<=n:=(hz ▸ hown1.size_le);have q0:=((tu.o _ hb2).cells 0).1;have q1:=((tu.o _ (Ea hb2 (.cells #[.slice none 0 0,.int .i64 0,.slice none 0 0,.bool false,.bool false,.bool false,.bool false,.bool false,.bool false,.bool false] 95))).cells 0).1;have kY:=ad ((af.new w #[.slice a1 s.cls.length c1,.int .i64 s.len,.slice a2 s.ext.length c2] 43).below hb1);have bj:=ad hb2;have Dr:=ad hown1;have HZ:=ad hz;clear hb1 hb2 hown1 Z0 hz))|(at_len;(refine wpList_len_own _ rfl _ 96 rfl 3 95 Tryz.underlying96 _ b n D1 rfl Dr.o ?_);rw [HZ.o]))
 obtain ⟨bz,kc⟩:∃ bz,((z:Int) == 4096)=bz:=⟨_,rfl⟩;rw [kc];refine iR (F:=λU=>af U w.heap.size #[.slice a1 s.cls.length c1,.int .i64 s.len,.slice a2 s.ext.length c2] 43/\Below w.heap.size w U) ⟨kY.o.alloc _,Ea bj.o _⟩ ?_;rintro W0 ⟨mm,eo⟩;have x0:=(mm.cells 0).1;have x1:=(mm.cells 1).1;have x2:=(mm.cells 2).1;have q0:=((tu.o _ eo).cells 0).1;clear kc q1 mm hlk xC;refine oK (w0:=W0) [0,1,2,3,4,5,6,7,8,9] [10] (λv=>⟨#[.pointer (some ⟨p,0,none⟩),.int .i64 id,.agg #[.slice a1 s.cls.length c1,.int .i64 s.len,.slice a2 s.ext.length c2],undef,undef,.pointer (some ⟨w.heap.size,0,none⟩),.int .i64 0,.pointer (some ⟨w1.heap.size,0,none⟩),.bool false,.pointer (some ⟨p,0,none⟩),.bool false,.bool false,.int .i64 id,.bool false,.bool false,.bool false,.int .i64 id,.bool false,.bool false,.bool false,.agg #[.slice a1 s.cls.length c1,.int .i64 s.len,.slice a2 s.ext.length c2],.bool true,.bool false,.bool false,.tuple #[.agg #[.slice none 0 0,.int .i64 0,.slice none 0 0,.bool false,.bool false,.bool false,.bool false,.bool false,.bool false,.bool false],.bool false],.pointer (some ⟨p,0,none⟩),.pointer (some ⟨p,0,none⟩),.pointer (some ⟨p,0,none⟩),.map (some b),.int .i64 id,.tuple #[.agg #[.slice none 0 0,.int .i64 0,.slice none 0 0,.bool false,.bool false,.bool false,.bool false,.bool false,.bool false,.bool false],.bool false],.agg #[.slice none 0 0,.int .i64 0,.slice none 0 0,.bool false,.bool false,.bool false,.bool false,.bool false,.bool false,.bool false],.bool false,.bool false,.pointer (some ⟨p,0,none⟩),.pointer (some ⟨p,0,none⟩),.pointer (some ⟨p,0,none⟩),.map (some b),.int .i64 ↑z,.bool bz,v 0,v 1,v 2,v 3,v 4,v 5,v 6,v 7,v 8,v 9],[]⟩) [.pointer (some ⟨p,0,none⟩),.pointer (some ⟨p,0,none⟩),.pointer (some ⟨p,0,none⟩),.map (some b),.int .i64 id,.agg #[.slice a1 s.cls.length c1,.int .i64 s.len,.slice a2 s.ext.length c2],undef,.agg #[.slice a1 s.cls.length c1,.int .i64 s.len,.slice a2 s.ext.length c2],undef,undef] [6,8,9] (λi v lo hi W=>match i with|6=>∃ y1 z1 y2 z2,v 6=.agg #[.slice y1 s.cls.length z1,.int .i64 s.len,.slice y2 s.ext.length z2]/\bq W (λb=>lo 6<=b/\b<hi 6) (.slice y1 s.cls.length z1) (.slice y2 s.ext.length z2) s|8=>∃ g,v 8=.agg (fB g)/\uq g s|9=>∃ x:bm,v 9=x.val/\v 6=.agg #[.slice x.a1 x.n1 x.c1,.int .i64 x.len,.slice x.a2 x.n2 x.c2]/\v 8=.agg (fB x.g)|_=>True) (λW=>W.cell? ⟨p,0,none⟩=some (.map (some b))/\W.cell? ⟨w.heap.size,0,none⟩=some (.slice a1 s.cls.length c1)/\W.cell? ⟨w.heap.size,1,none⟩=some (.int .i64 s.len)/\W.cell? ⟨w.heap.size,2,none⟩=some (.slice a2 s.ext.length c2)) (λW hb=>⟨al.cell hb q0,al.cell hb x0,al.cell hb x1,al.cell hb x2⟩) ?stab ?loc ?steps ?fin
 case stab=>
  refine ⟨?_,?_,?_,trivial⟩
  .intro v lo hi W W' h hb;exact (let ⟨y1,z1,y2,z2,e,h⟩:=h;⟨y1,z1,y2,z2,e,h.ext hb⟩)
  .intro v lo hi W W' h hb;exact h
  intro v lo hi W W' h hb;exact h
 case loc=>
  refine ⟨?_,?_,?_,trivial⟩
  .intro v v' lo lo' hi hi' W aC h;have q:=aC 6 (.inl rfl)
   (try dsimp only at h ⊢)
   simp only [q.1,q.2.1,q.2.2] at h;exact h
  .intro v v' lo lo' hi hi' W aC h;have q:=aC 8 (.inl rfl)
   (try dsimp only at h ⊢)
   simp only [q.1,q.2.1,q.2.2] at h;exact h
  intro v v' lo lo' hi hi' W aC h;have q:=aC 9 (.inl rfl);have q6:=aC 6 (.inr (bI (by kernel_rfl)));have q8:=aC 8 (.inr (bI (by kernel_rfl)))
  (try dsimp only at h ⊢)
  simp only [q.1,q.2.1,q.2.2,q6.1,q6.2.1,q6.2.2,q8.1,q8.2.1,q8.2.2] at h;exact h
 case steps=>
  refine .c [] [] rfl ?_ (.c [0] [] rfl ?_ (.c [1] [] rfl ?_ (.c [2] [] rfl ?_ (.c [] [] rfl ?_ (.c [] [] rfl ?_ (.c [5] [] rfl ?_ (.c [] [] rfl ?_ (.c [7] [] rfl ?_ (.c [] [6,8] rfl ?_ (.n))))))))));all_goals try exact pj
  .rintro v lo hi W hb ⟨g0,g1,g2,g3⟩ _;refine .inl ⟨rfl,λK hK=>?_⟩;simp only [ov,aD,Nat.reduceBEq,cond_true,cond_false];go_wp2_with (go_at_call 51;(with_reducible refine (RI.o _ (Et eo hb)).mono ?_);rintro e w9 ⟨y1,z1,y2,z2,rfl,nk,bg⟩);exact aU (hK (.agg #[.slice y1 s.cls.length z1,.int .i64 s.len,.slice y2 s.ext.length z2]) w9 bg ⟨y1,z1,y2,z2,rfl,nk⟩) (by simp [ov,aD,upd])
  .rintro v lo hi W hb ⟨g0,g1,g2,g3⟩ _;refine .inl ⟨rfl,λK hK=>?_⟩;simp only [ov,aD,Nat.reduceBEq,cond_true,cond_false];go_wp2_with (go_at_call 52;(with_reducible refine (Za.o _ (Et eo hb)).mono ?_);rintro e w9 ⟨g9,rfl,IV,bg⟩);exact aU (hK (.agg (fB g9)) w9 bg ⟨g9,rfl,IV⟩) (by simp [ov,aD,upd])
  rintro v lo hi W hb ⟨g0,g1,g2,g3⟩ ⟨⟨la6,lb6,D6⟩,⟨la8,lb8,D8⟩,_⟩;refine .inl ⟨rfl,λK hK=>?_⟩;simp only [ov,aD,Nat.reduceBEq,cond_true,cond_false]
  (try dsimp only at D6 D8)
  obtain ⟨y1,z1,y2,z2,e6,_⟩:=D6;obtain ⟨g9,e8,_⟩:=D8
  (try simp only [e6,e8])
  go_wp2
  exact aU (hK (bm.val ⟨y1,s.cls.length,z1,s.len,y2,s.ext.length,z2,g9⟩) W (Below.refl _ _) ⟨⟨y1,s.cls.length,z1,s.len,y2,s.ext.length,z2,g9⟩,rfl,e6,e8⟩) (by simp [ov,aD,upd,e6,e8])
 case fin=>
  rintro v lo hi W5 hb5 ⟨g0,g1,g2,g3⟩ hf hap;show wpList _ _ _ [_] _ _;obtain ⟨l6,m6,h6,y1,z1,y2,z2,e6,Pm⟩:=hf 6 rfl;obtain ⟨-,-,-,g8,e8,Tr⟩:=hf 8 rfl;obtain ⟨-,-,-,x,e9,Hx,M9⟩:=hf 9 rfl;have e3:v 3=.map (some b):=(hf 3 rfl).2.2.2;have e4:v 4=.int .i64 id:=(hf 4 rfl).2.2.2;clear hf hap;rw [e6] at Hx;rw [e8] at M9;have IV:=oh_ M9 Tr;obtain ⟨pZ,vI,J5,xl,kR,AT,p_,xg⟩:=x;obtain ⟨rfl,rfl,rfl,rfl,rfl,rfl,rfl⟩:pZ=y1/\vI=s.cls.length/\J5=z1/\xl=s.len/\kR=y2/\AT=s.ext.length/\p_=z2:=by simp at Hx;simp [Hx]
  dsimp only;rw [e3,e4,e9];have cq:Below w.heap.size w W5:=Et eo hb5;have hz0:=eo.size;have nx:=cq.size;generalize lo 6=l6v at *;generalize hi 6=ZV at *;have kC:=ad Pm;have Yz:=ad IV;have bH:=ad cq;obtain ⟨D,hown,hD⟩:=nD.o _ cq;have aM:=ad hown;have HD:=ad hD;have tG:=ad (show w.heap.size<=l6v by omega);clear g0 g1 g2 g3 q0 x0 x1 x2 Pm Tr IV e6 e8 e9 Hx M9 e3 e4 hb5 eo cq hown hD l6 m6 h6;generalize v 0=y0,v 1=y1,v 2=y2,v 3=y3,v 4=y4,v 5=y5,v 6=y6,v 7=y7,v 8=y8,v 9=y9;dsimp only [bm.val];refine wpList_mapUpdate_own _ az _ _ _ 96 az 3 95 (int_keyed Tryz.underlying3) Tryz.underlying96 DS b n D az aM.o (by unfold maxLen;omega) (.int .i64 id) (bm.val ⟨pZ,s.cls.length,J5,s.len,kR,s.ext.length,p_,xg⟩) (.int .i64 id) az az (keyOf_int_mk Tryz.underlying3 (JU oD.o)) (.held (bm.val ⟨pZ,s.cls.length,J5,s.len,kR,s.ext.length,p_,xg⟩)) [] rfl ?_;intro w9 au aq;have ir:=ad au;have iN:=ad aq;clear au aq;go_wp2;go_ret;have hI:=HI.o;refine .inr ⟨qA.o,.inr ⟨HM.o,rfl,?_,⟨pZ,s.cls.length,J5,s.len,kR,s.ext.length,p_,xg⟩,zc_ hI bH.o aa HM.o oD.o qA.o.1 iN.o ⟨_,ir.o,xa_ (s:=s) hI.ids hI.asc HM.o HD.o aM.o.isMap⟩ kC.o tG.o rfl fU.o Yz.o⟩⟩;have h1:w.grownBy W5 (some b):=World.grownBy.of_below bH.o _;exact World.grownBy.trans' h1 iN.o
end
section
open Go.RowKit Kal
def Q0 (L:IL) (a b:Int) (l:List Int) (k:Int):Prop:=
 ((a < -2251799813685248\/2251799813685248<b\/b<a)/\l=[]/\k=1) \/
 (¬ (a < -2251799813685248\/2251799813685248<b\/b<a)/\((5760000<b-a/\l=[]/\k=2)\/(b-a<=5760000/\l=oQ L a b/\k=0)))
theorem Q0.unique {L:IL} {b:Int} {l':List Int} {k k':Int} (h:Q0 L a b l k) (g:Q0 L a b l' k'):l=l'/\k=k':=by
 rcases h with ⟨h0,rfl,rfl⟩|⟨h0,⟨h1,rfl,rfl⟩|⟨h1,rfl,rfl⟩⟩ <;> rcases g with ⟨g0,rfl,rfl⟩|⟨g0,⟨g1,rfl,rfl⟩|⟨g1,rfl,rfl⟩⟩
 .exact ⟨rfl,rfl⟩
 .exact absurd h0 g0
 .exact absurd h0 g0
 .exact absurd g0 h0
 .exact ⟨rfl,rfl⟩
 .omega
 .exact absurd g0 h0
 .omega
 exact ⟨rfl,rfl⟩
theorem Q0.ok {L:IL} {b:Int} {k:Int} (h:Q0 L a b l k) (h1:-2251799813685248<=a) (h2:b<=2251799813685248) (h3:a<=b) (h4:b-a<=5760000):l=oQ L a b/\k=0:=by
 rcases h with ⟨h0,_⟩|⟨h0,⟨h5,_⟩|⟨_,h6,h7⟩⟩
 .omega
 .omega
 exact ⟨h6,h7⟩
theorem a24_ (L:IL) (a b:Int):(oQ L a b).length<=L.length:=by
 unfold oQ ids;rw [List.length_map];exact List.length_filter_le _ _
theorem a1n_ {s:aE} {b c:Int} (h:bM s) (h1:a<=b) (h2:b<=c):gJ s a c↔gJ s a b\/gJ s b c:=by
 constructor
 .rintro ⟨h3,x,hx,h4,h5⟩;have hp:=zf_ h hx;by_cases e:x.frm<b/\a<b
  .exact .inl ⟨e.2,x,hx,e.1,h5⟩
  exact .inr ⟨aa,x,hx,h4,aa⟩
 rintro (⟨h3,x,hx,h4,h5⟩|⟨h3,x,hx,h4,h5⟩)
 .exact ⟨aa,x,hx,aa,h5⟩
 exact ⟨aa,x,hx,h4,aa⟩
theorem a25_ {L:IL} {b c:Int} (hL:∀ x∈L,bM x.2) (h1:a<=b) (h2:b<=c) (k:Int):k∈oQ L a c↔k∈oQ L a b\/k∈oQ L b c:=by
 rw [a1j_,a1j_,a1j_];constructor
 .rintro ⟨s,hs,h⟩;exact ((a1n_ (hL _ hs) h1 h2).1 h).imp (λh=>⟨s,hs,h⟩) (λh=>⟨s,hs,h⟩)
 rintro (⟨s,hs,h⟩|⟨s,hs,h⟩)
 .exact ⟨s,hs,(a1n_ (hL _ hs) h1 h2).2 (.inl h)⟩
 exact ⟨s,hs,(a1n_ (hL _ hs) h1 h2).2 (.inr h)⟩
theorem a2h_ {L:IL} {s:aE} (hL:ja L) (hi:i ∉ ids L):dF (di L i s) i=L:=by
 refine a1y_ (Wd (Qi hL hi)) hL λx=>?_;rw [We,BC];constructor
 .rintro ⟨rfl|h,h2⟩
  .exact absurd rfl h2
  exact h
 intro h;exact ⟨.inr h,λe=>hi (List.mem_map.2 ⟨x,h,e⟩)⟩
end
end Go.Proofs.YtbmgmlbmgogeaaaGreat
namespace Kal
section
theorem fN.low {L:IL} {x:ai} (h:fN L f i x b) {j:Int} {t:aE} {y:ai} (hj:(j,t)∈L) (hy:df (gq t) f y true):b=true/\x.frm<=y.frm:=by
 rcases h with ⟨rfl,s,h1,h2,h3⟩|⟨rfl,rfl,rfl,h1⟩
 .have:=(h3 j t y hj hy).1;unfold bK at this;exact ⟨rfl,aa⟩
 exact absurd hy (h1 j t y hj)
theorem fN.own {L:IL} {x:ai} (h:fN L f i x b):(b=true/\∃ t,(i,t)∈L/\df (gq t) f x true)\/(b=false/\∀ j t y,(j,t)∈L->¬ df (gq t) f y true):=by
 rcases h with ⟨rfl,s,h1,h2,h3⟩|⟨rfl,rfl,rfl,h1⟩
 .exact .inl ⟨rfl,s,h1,h2⟩
 exact .inr ⟨rfl,h1⟩
theorem df.ge {S:ai->Prop} {x:ai} (h:df S f x true):S x/\f<=x.frm:=by
 rcases h with ⟨_,h1,h2,_⟩|⟨h,_⟩
 .exact ⟨h1,h2⟩
 cases h
theorem jq.err {s:aE} {L:IL} (h:jq s L l e):e=0\/e=2:=by
 have key:∀ {t r k},nM t s r k->k≠0->k=2:=λh hk=>by
  rcases h with ⟨_,_,h⟩|⟨_,⟨_,_,h⟩|⟨_,h,_⟩⟩
  .exact absurd h hk
  .exact h
  exact absurd h hk
 induction h with
 | nil=>exact .inl rfl
 | yes h hl ih=>exact .inl rfl
 | no h hl ih=>exact .inl rfl
 | bad h he=>exact .inr (key h he)
 | late h hl he ih=>exact ih
theorem jq.sub {s:aE} {L:IL} (h:jq s L l e):∀ k∈l,k∈ids L:=by
 induction h with
 | nil=>simp
 | yes h hl ih=>
  intro k hk;rcases List.mem_cons.1 hk with rfl|hk
  .simp [ids]
  exact List.mem_cons_of_mem _ (ih k hk)
 | no h hl ih=>exact λk hk=>List.mem_cons_of_mem _ (ih k hk)
 | bad h he=>simp
 | late h hl he ih=>simp
theorem jq.all {s:aE} {L:IL} (h:jq s L l e) (he:e=0) (hL:ja L):∀ i t,(i,t)∈L->∃ b,nM t s b 0/\(b=true↔i∈l):=by
 have tail:∀ {i:Int} {t:aE} {L:IL},ja ((i,t) :: L)->ja L/\i ∉ ids L:=λh=>by
  unfold ja ids at h;rw [List.map_cons,List.pairwise_cons] at h;exact ⟨h.2,λhm=>by have:=h.1 _ hm;simp at this⟩
 induction h with
 | nil=>simp
 | @yes i t L l h hl ih=>
  obtain ⟨h1,h2⟩:=tail hL;intro j u hj;rcases List.mem_cons.1 hj with e|hj
  .cases e;exact ⟨true,h,ag⟩
  obtain ⟨b,g1,g2⟩:=ih rfl h1 j u hj;refine ⟨b,g1,g2.trans ?_⟩;have:j≠i:=λe=>h2 (by rw [<- e];exact List.mem_map.2 ⟨_,hj,rfl⟩);simp [this]
 | @no i t L l h hl ih=>
  obtain ⟨h1,h2⟩:=tail hL;intro j u hj;rcases List.mem_cons.1 hj with e|hj
  .cases e;exact ⟨false,h,by simp;exact λhm=>h2 (hl.sub _ hm)⟩
  exact ih rfl h1 j u hj
 | bad h he'=>exact absurd he he'
 | late h hl he' ih=>exact absurd he he'
end
end Kal
namespace Go.Proofs.YtbmgmlbmgogeaaaGreat
section
open Go.RowKit Kal
theorem mv_f (h:MV s m):∀ t∈m,pJ s t:=λt ht=>(h.vt t ht).f
theorem a2i_ (h:dK 0 p) (hx:9<=x) (hy:9<=y) (hd:(27720:Int)∣x-y) (hm:p.mem x):p.mem y:=by
 have hf:=h.frm;have h1:=(Per.mem_hi aa aa).1 hm;refine (Per.mem_hi aa aa).2 ?_;have e:(y-p.frm) % p.period=(x-p.frm) % p.period:=by
  refine (Int.emod_emod_of_dvd _ (Int.dvd_refl p.period)).symm.trans ?_;obtain ⟨k,hk⟩:=Int.dvd_trans h.dvd hd;rw [show x-p.frm=y-p.frm+p.period*k by omega,Int.add_mul_emod_self_left];exact Int.emod_emod_of_dvd _ (Int.dvd_refl p.period)
 rw [e];exact h1
theorem a2b_ (h:MV 0 m) {n:Int} (hn:aT m n):∃ d,0<=d/\d<=27729/\aT m d:=by
 have h0:=a1a_ (mv_f h) hn;by_cases e:n<=27729
 .exact ⟨n,h0,e,hn⟩
 obtain ⟨t,ht,hm⟩:=hn;have e0:=Int.emod_nonneg (n-9) (show (27720:Int)≠0 by decide);have e1:=Int.emod_lt_of_pos (n-9) (show (0:Int)<27720 by decide);have e2:=Int.emod_add_mul_ediv (n-9) 27720;refine ⟨9+(n-9) % 27720,aa,aa,t,ht,λp hp=>a2i_ ((h.vt t ht).fv p hp).fac aa aa ⟨(n-9) / 27720,aa⟩ (hm p hp)⟩
theorem a2a_ {s:aE} (h:bM s) {c:eA} (hc:c∈s.cls) {n:Int} (hn:aT c.days n):∃ x,gq s x:=by
 obtain ⟨d,h1,h2,h3⟩:=a2b_ (h.mv c hc) hn;refine ⟨nP s c d,.inl ⟨c,hc,⟨h3,rfl⟩,?_⟩⟩;have:=h.val.len;have:=(h.val.cl hc).2;show d*1440+c.min+s.len<=_;omega
theorem a28_ {s:aE} (h:bM s) (hm:nM s s b 0):b=true↔∃ x,gq s x:=by
 have hlen:=h.val.len;have zero:∀ c∈s.cls,(⟨c,c,0⟩:Pr)∈nN s s:=λc hc=>by
  rw [tb_];refine ⟨hc,hc,?_⟩;show tg c c s.len<=0/\0<=xD c c s.len;unfold tg xD;omega
 have comm:∀ p∈nN s s,∀ n,yZ p n->∃ x,gq s x:=λp hp n hn=>by
  obtain ⟨hc,hd,-⟩:=tb_.1 hp;have:=(a1o_ (mv_f (h.mv _ hc)) (mv_f (h.mv _ hd)) n).1 (a1p_.1 hn);exact a2a_ h hc this.2.1
 have alone:oO s s->∃ x,gq s x:=λ⟨x,hx,_⟩=>⟨x,.inr hx⟩;constructor
 .intro e;rcases hm with ⟨h1|h1|⟨p,hp,n,_,_,hn⟩,_⟩|⟨_,⟨_,h2,_⟩|⟨_,_,h2⟩⟩
  .exact alone h1
  .exact alone h1
  .exact comm p hp n hn
  .rw [h2] at e;cases e
  obtain ⟨p,hp,n,hn⟩:=h2.1 e;exact comm p hp n hn
 rintro ⟨x,hx⟩;have hA:oO s s\/oO s s\/Eb s s:=by
  have hp:=zf_ h hx;rcases hx with ⟨c,hc,⟨hd,ho⟩,ht⟩|hx
  .refine .inr (.inr ⟨_,zero c hc,x.day,a1a_ (mv_f (h.mv _ hc)) hd,?_,a1p_.2 ((a1o_ (mv_f (h.mv _ hc)) (mv_f (h.mv _ hc)) _).2 ⟨a1a_ (mv_f (h.mv _ hc)) hd,?_,?_⟩)⟩)
   .have e2:x.fin=x.day*1440+c.min+s.len:=congrArg ai.fin ho;have:=(h.val.cl hc).2;unfold cC;omega
   .show aT c.days (x.day+max 0 (-0));rw [show x.day+max 0 (-0)=x.day by omega];exact hd
   show aT c.days (x.day+max 0 (-0)+0);rw [show x.day+max 0 (-0)+0=x.day by omega];exact hd
  exact .inl ⟨x,hx,.inr ⟨x,hx,by unfold fI;omega⟩⟩
 rcases hm with ⟨_,h2,_⟩|⟨h1,_⟩
 .exact h2
 exact absurd hA h1
theorem a29_ {s:aE} (h:bM s) (hn:∀ x∈s.ext,-10000<=x.frm) {x:ai} (hx:df (gq s) (-10000) x b):b=true↔∃ x,gq s x:=by
 have low:∀ y,gq s y->-10000<=y.frm:=λy hy=>by
  rcases hy with ⟨c,hc,⟨hd,ho⟩,_⟩|hy
  .have e1:y.frm=y.day*1440+c.min:=congrArg ai.frm ho;have:=(h.val.cl hc).2;have:=a1a_ (mv_f (h.mv _ hc)) hd;omega
  exact hn y hy
 rcases hx with ⟨rfl,h1,_⟩|⟨rfl,_,h1⟩
 .exact ⟨λ_=>⟨_,h1⟩,λ_=>rfl⟩
 exact ⟨λh=>(by cases h),λ⟨y,hy⟩=>absurd (low y hy) (h1 y hy)⟩
end
section
open Go.RowKit Go.Maps Kal
theorem sO.mono {G G':Nat->Prop} {x:bm} {s:aE} (h:sO W G x s) (hG:∀ k,G k->G' k):sO W G' x s:=⟨h.str.mono hG,h.len,h.ms,h.days⟩
theorem fg.grown {p b:Nat} {G:Nat->Prop} {E:List (Int × bm)} {L:IL} (h:fg W p b n G E L) (hg:W.grownBy W' (some k)) (hp:p≠k) (hb:b≠k) (hG:¬ G k):fg W' p b n G E L:=
 ⟨h.box.grown hg (λe=>hp (Option.some.inj e)),h.map.kept hg (λe=>hb (Option.some.inj e)),h.num,h.asc,h.ids,λi x hx=>by
  obtain ⟨h1,h2,s,h3,h4⟩:=h.ent i x hx;exact ⟨h1,h2,s,h3,h4.keep (aN.grown hg hG) hg.size⟩,h.apart⟩
theorem fg.mono {p b:Nat} {G G':Nat->Prop} {E:List (Int × bm)} {L:IL} (h:fg W p b n G E L) (hG:∀ k,G k->G' k) (hb:¬ G' b):fg W p b n G' E L:=
 ⟨h.box,h.map,h.num,h.asc,h.ids,λi x hx=>by
  obtain ⟨h1,h2,s,h3,h4⟩:=h.ent i x hx;exact ⟨h1,h2,s,h3,h4.mono hG⟩,h.apart.1,hb⟩
theorem eI.mono {q:Nat} {G G':Nat->Prop} {M:List a_} {L:IL} (h:eI W q G v M L) (hG:∀ k,G k->G' k) (hq:¬ G' q):eI W q G' v M L:=
 ⟨h.box,h.row.mono hG,λx hx=>wu.mono (h.all x hx) hG,h.eq,h.asc,hq⟩
theorem Qd {L:IL} (h:i ∉ ids L):dF L i=L:=by
 unfold dF;refine List.filter_eq_self.2 λx hx=>?_;have:x.1≠i:=λe=>h (List.mem_map.2 ⟨x,hx,e⟩);simpa using this
theorem se_ (E:List (Int × bm)) (i:Int):(E.filter λx=>!(x.1 == i)).map Prod.fst=(E.map Prod.fst).filter λj=>!(j == i):=by
 rw [List.filter_map];rfl
theorem ww_ (L:IL) (i:Int):ids (dF L i)=(ids L).filter λj=>!(j == i):=by
 unfold ids dF;rw [List.filter_map];rfl
theorem XD {p b:Nat} {G:Nat->Prop} {E:List (Int × bm)} {L:IL} {e:Ending} (h:fg w p b n G E L) (hr:Vs b n E i w e w') :
  w.grownBy w' (some b)/\e=.returned (.int .i64 (if i∈ids L then 0 else 4))/\∃ E',fg w' p b n G E' (dF L i):=by
 obtain ⟨hg,hr⟩:=hr;have hb:af w' p #[.map (some b)] 98:=h.box.grown hg (λe=>h.apart.1 (Option.some.inj e));have hk:∀ {x s},sO w G x s->sO w' G x s:=λ{x s} h4=>h4.keep (aN.grown hg h.apart.2) hg.size;rcases hr with ⟨hm,rfl,hmap⟩|⟨hm,rfl,hmap⟩
 .rw [h.ids] at hm;refine ⟨hg,by rw [if_pos hm],_,hb,hmap,h.num,Wd h.asc,by rw [se_,h.ids,ww_],λj x hx=>?_,h.apart⟩;obtain ⟨hx,hne⟩:=List.mem_filter.1 hx;obtain ⟨h1,h2,s,h3,h4⟩:=h.ent j x hx;exact ⟨h1,h2,s,We.2 ⟨h3,by simpa using hne⟩,hk h4⟩
 rw [h.ids] at hm;refine ⟨hg,by rw [if_neg hm],E,hb,hmap,h.num,Wd h.asc,by rw [Qd hm,h.ids],λj x hx=>?_,h.apart⟩;obtain ⟨h1,h2,s,h3,h4⟩:=h.ent j x hx;exact ⟨h1,h2,s,by rw [Qd hm];exact h3,hk h4⟩
def oP (L:IL):Prop:=∀ x∈L,(1<=x.1/\x.1<=5)/\EA x.2
theorem oP.del {L:IL} (h:oP L) (i:Int):oP (dF L i):=λx hx=>h x (We.1 hx).1
theorem oP.ins {L:IL} (h:oP L) {s:aE} (h1:1<=i/\i<=5) (hs:EA s):oP (di L i s):=λx hx=>by
 rcases BC.1 hx with rfl|hx
 .exact ⟨h1,hs⟩
 exact h x hx
theorem oP.nil:oP []:=λx hx=>by simp at hx
structure JL (W:World) (B k:Nat) (L:IL):Prop where
 idx:∃ n E,n<=k/\fg W (B+1) B n (λb=>B+3<=b) E L
 ref:∃ v M,M.length<=k/\eI W (B+2) (λb=>B+3<=b) v M L
 made:oP L
theorem JL.size {L:IL} (h:JL W B k L):B+3<=W.heap.size:=by
 obtain ⟨v,M,_,h⟩:=h.ref;have:=h.box.lt;omega
theorem pB (hg:W.grownBy W' (some k)) (hk:B<=k) (hB:B<=W.heap.size):Below B W W':=
 ⟨hg.os,hg.tape,hg.output,hg.size,λb hb=>hg.block b aa (λe=>by have:=Option.some.inj e;omega)⟩
def fF (L:IL) (i:Int):Int:=if i<1 then 1 else if i∈ids L then 5 else 0
def fX (L:IL) (i:Int) (s:aE):IL:=if 1<=i/\i ∉ ids L then di L i s else L
theorem V6 {L:IL} (h:i<1):fF L i=1:=if_pos h
theorem Vt {L:IL} (h:1<=i) (hm:i∈ids L):fF L i=5:=by unfold fF;rw [if_neg aa,if_pos hm]
theorem WU {L:IL} (h:1<=i) (hm:i ∉ ids L):fF L i=0:=by unfold fF;rw [if_neg aa,if_neg hm]
theorem V7 {L:IL} {s:aE} (h:i<1):fX L i s=L:=if_neg aa
theorem Vu {L:IL} {s:aE} (hm:i∈ids L):fX L i s=L:=if_neg λh=>h.2 hm
theorem WV {L:IL} {s:aE} (h:1<=i) (hm:i ∉ ids L):fX L i s=di L i s:=if_pos ⟨h,hm⟩
theorem oP.add {L:IL} (h:oP L) {s:aE} (h1:i<=5) (hs:EA s):oP (fX L i s):=by
 unfold fX
 split
 .next e=>exact h.ins ⟨e.1,h1⟩ hs
 exact h
theorem EC {p b:Nat} {G:Nat->Prop} {E:List (Int × bm)} {L:IL} {s:aE} {e:Ending} (h:fg w p b n G E L) (hi:i<=1099511627776) (hr:Xv p b n G E L i s w e w') :
  e=.returned (.int .i64 (fF L i))/\w.grownBy w' (some b)/\∃ n' E',n'<=n+1/\fg w' p b n' (λk=>G k\/w.heap.size<=k) E' (fX L i s):=by
 have hbl:=h.map.lt;have Th:¬ (G b\/w.heap.size<=b):=λe=>e.elim h.apart.2 aa;rcases hr with ⟨h1,rfl,hb⟩|⟨h1,⟨hm,rfl,hb⟩|⟨hm,rfl,hg,x,hx⟩⟩
 .have h2:i<1:=aa;rw [V6 h2,V7 h2];exact ⟨rfl,World.grownBy.of_below hb _,n,E,aa,(h.ext hb).mono (λk hk=>.inl hk) Th⟩
 .rw [Vt h1.1 hm,Vu hm];exact ⟨rfl,World.grownBy.of_below hb _,n,E,aa,(h.ext hb).mono (λk hk=>.inl hk) Th⟩
 rw [WU h1.1 hm,WV h1.1 hm];exact ⟨rfl,hg,n+1,_,aa,hx⟩
theorem zz_ {q:Nat} {G F:Nat->Prop} {M:List a_} {L:IL} {s:aE} {e:Ending} (h:eI w q G v M L) (hF:¬ F q) (hi:i<=1099511627776) (hr:WS q G F M L i s w e w') :
  e=.returned (.int .i64 (fF L i))/\w.grownBy w' (some q)/\∃ v' M',M'.length<=M.length+1/\eI w' q (λk=>(G k\/F k)\/w.heap.size<=k) v' M' (fX L i s):=by
 have hbl:=h.box.lt;have TR:¬ ((G q\/F q)\/w.heap.size<=q):=λe=>e.elim (λe=>e.elim h.apart hF) aa;rcases hr with ⟨h1,rfl,hb⟩|⟨h1,⟨hm,rfl,hb⟩|⟨hm,rfl,hg,v',M',hx,hl⟩⟩
 .have h2:i<1:=aa;rw [V6 h2,V7 h2];exact ⟨rfl,World.grownBy.of_below hb _,v,M,aa,(h.ext hb).mono (λk hk=>.inl (.inl hk)) TR⟩
 .rw [Vt h1.1 hm,Vu hm];exact ⟨rfl,World.grownBy.of_below hb _,v,M,aa,(h.ext hb).mono (λk hk=>.inl (.inl hk)) TR⟩
 rw [WU h1.1 hm,WV h1.1 hm];exact ⟨rfl,hg,v',M',aa,hx⟩
theorem ME {q:Nat} {G:Nat->Prop} {M:List a_} {L:IL} {e:Ending} (h:eI w q G v M L) (hr:WT q G M L i w e w') :
  w.grownBy w' (some q)/\e=.returned (.int .i64 (if i∈ids L then 0 else 4))/\∃ v' M',M'.length<=M.length/\eI w' q (λk=>G k\/w.heap.size<=k) v' M' (dF L i):=by
 have hbl:=h.box.lt;rcases hr with ⟨hm,rfl,rfl⟩|⟨hm,rfl,hg,v',M',hx,hl⟩
 .rw [if_neg hm,Qd hm];exact ⟨World.grownBy.refl _ _,rfl,v,M,Nat.le_refl _,h.mono (λk hk=>.inl hk) λe=>e.elim h.apart aa⟩
 rw [if_pos hm];exact ⟨hg,rfl,v',M',hl,hx⟩
def a2g_ (w:World) (e:Ending) (w':World):Prop:=∃ a l,(-102999<=a/\a<=96999)/\(0<=l/\l<=21599)/\e=.returned (.agg #[.int .i64 a,.int .i64 (a+l)])/\Below w.heap.size w w'
theorem a1x_ (t n:Int) (w:World) (h1:-2147483648<=t) (h2:t<=2147483647) (h3:0<=n) (h4:n<=65535) :
  Calls Tryz.prog 32 #[.int .i32 t,.int .u16 n] w (a2g_ w):=by
 have e1:-99999<=Int.tmod t 100000/\Int.tmod t 100000<=99999:=by
  rcases Int.le_total 0 t with h|h
  .rw [Int.tmod_eq_emod_of_nonneg h];omega
  have h5:Int.tmod t 100000=-(Int.tmod (-t) 100000):=by rw [Int.neg_tmod,Int.neg_neg]
  rw [h5,Int.tmod_eq_emod_of_nonneg aa];omega
 have e2:0<=Int.tmod n 21600/\Int.tmod n 21600<=21599:=by rw [Int.tmod_eq_emod_of_nonneg h3];omega
 obtain ⟨a,ha⟩:∃ a,Int.tmod t 100000=a:=⟨_,rfl⟩;obtain ⟨l,hl⟩:∃ a,Int.tmod n 21600=a:=⟨_,rfl⟩;rw [ha] at e1;rw [hl] at e2;have HA:=ad ha;have HL:=ad hl;clear ha hl
 go_in
 go_upto_region 2 with fail
 rw [HA.o];go_wp2_with fail;have hw1:wrap64 (a-3000)=a-3000:=by first|(apply wrap64_of <;> omega)|(unfold wrap64;omega)
 rw [hw1];have e3:0<=n % 21600/\n % 21600<=21599:=aa;have hw2:wrap64 (a-3000+n % 21600)=a-3000+n % 21600:=by first|(apply wrap64_of <;> omega)|(unfold wrap64;omega)
 rw [hw2];have hb:=af.new w #[.int .i64 (a-3000),.int .i64 (a-3000+n % 21600)] 29;have s0:=(hb.cells 0).1;have s1:=(hb.cells 1).1;exact bodyPost_ret (v:=.agg #[.int .i64 (a-3000),.int .i64 (a-3000+n % 21600)]) (by simp [results,Tryz.results32,go_sem]) rfl ⟨a-3000,n % 21600,aa,e3,rfl,xE⟩
def cY (r m l:Int):aE:=⟨[⟨[[Kal.ev r 2]],m⟩],l,[]⟩
theorem PS {m l:Int} (h0:0<=r) (h1:r<2) (h2:-4320<=m) (h3:m<=4320) (h4:1<=l) (h5:l<=10080):bM (cY r m l):=by
 have l_:=uy (n:=2) h0 h1 ⟨13860,aF⟩;have nZ:FV 0 (Kal.ev r 2):=⟨l_.fac,by have:=l_.fac.frm;omega⟩;have Ai:MV 0 [[Kal.ev r 2]]:=by
  have ht:∀ t∈[[Kal.ev r 2]],kJ 0 t:=λt ht=>by
   rw [List.mem_singleton] at ht;subst ht;exact ⟨ag,λq hq=>by rw [List.mem_singleton] at hq;subst hq;exact nZ,ag⟩
  exact ⟨(yW ht).2 (ok_one ag),ht⟩
 refine ⟨⟨by simp [cY],⟨h4,h5⟩,by simp [cY],λi hi=>?_,λi hi=>by simp [cY] at hi⟩,λc hc=>?_⟩
 .have hi0:i=0:=by simp [cY] at hi;exact hi
  subst hi0;exact ⟨Ai.val,⟨h2,h3⟩,λj hj=>aa⟩
 have hc:c=⟨[[Kal.ev r 2]],m⟩:=by simpa [cY] using hc
 rw [hc];exact Ai
theorem PT (r m l:Int) (h0:0<=r) (h1:r<2) (hm:aP m) (hl:aP l) (w:World):Calls Tryz.prog 25 #[.int .i64 r,.int .i64 m,.int .i64 l] w (JG (cY r m l) w):=by
 have l_:=uy (n:=2) h0 h1 ⟨13860,aF⟩;have TK:ofM (Kal.ev r 2)=[[Kal.ev r 2]]:=by unfold ofM;rw [l_.canonC,show zl (Kal.ev r 2)=false from by simp [zl,ev]];rfl
 have nZ:FV 0 (Kal.ev r 2):=⟨l_.fac,by have:=l_.fac.frm;omega⟩;have HO:=λW b (h:af W b #[.int .i64 r] 3)=>zq_ 0 (.slice none 0 0) (.slice (some ⟨b,0,none⟩) 1 1) (Kal.ev r 2) W ⟨Ints.nil _,Ints.lit (l:=[r]) h ag (λx hx=>by rw [List.mem_singleton] at hx;subst hx;exact ⟨aa,aa⟩)⟩ nZ;rw [TK] at HO;change ∀ W b,_->Calls _ _ #[.agg #[.slice none 0 0,.int .i64 0,.int .i64 2,.slice (some ⟨b,0,none⟩) 1 1]] W _ at HO;clear l_ TK nZ;have HM:=ad hm;have HL:=ad hl;clear hm hl
 go_in
 go_wp2_with (go_at_call 53;(refine (HO _ _ xB).mono ?_;rintro e w1 ⟨a,c,rfl,hm,hb1⟩;have b0:af w1 w.heap.size #[.slice none 0 0,.int .i64 0,.slice none 0 0] 43:=af.below xB hb1;have b2:=b0.alloc (.cells #[.slice a 1 c,.int .i64 m] 59);have x0:=b2.cells 0;have x1:=b2.cells 1;have x2:=b2.cells 2;have hz1:=hb1.size))
 have aL:=wC (x':=.slice (some ⟨w1.heap.size,0,none⟩) 1 1) (y':=.int .i64 l) (z':=.slice none 0 0) b2;have s0:=(aL.cells 0).1;have s1:=(aL.cells 1).1;have s2:=(aL.cells 2).1;have hz:w.heap.size+2<=w1.heap.size:=by simpa using hz1
 have hm1:aA w1 (λb=>w.heap.size+1<=b) (.slice a 1 c) [[Kal.ev r 2]]:=hm.mono λb hb=>by simp at hb;omega
 have hr:=af.new w1 #[.slice a 1 c,.int .i64 m] 59;have hst:bq (w1.alloc (.cells #[.slice a 1 c,.int .i64 m] 59)) (λb=>w.heap.size+1<=b) (.slice (some ⟨w1.heap.size,0,none⟩) 1 1) (.slice none 0 0) (cY r m l):=
  ⟨[⟨.slice a 1 c,[[Kal.ev r 2]],m⟩],rfl,⟨⟨_,1,rfl,ag,aa,.inr ⟨w1.heap.size,0,rfl,aa,hr.lt,λi u hi=>by rw [Nat.zero_add,(hr.cells i).1,<- hi];simp [bl.enc]⟩⟩,ag,λx hx=>by
   rw [List.mem_singleton] at hx;subst hx;exact ⟨hm1.ext (Ea (Er _) _),HM.o⟩⟩,⟨⟨none,0,rfl,by simp [cY],aa,.inl rfl⟩,by simp [cY],λx hx=>by simp [cY] at hx⟩,HL.o⟩
 have fP:World.grownBy (w1.alloc (.cells #[.slice a 1 c,.int .i64 m] 59)) ((((w1.alloc (.cells #[.slice a 1 c,.int .i64 m] 59)).setCell ⟨w.heap.size,0,none⟩ (.slice (some ⟨w1.heap.size,0,none⟩) 1 1)).setCell ⟨w.heap.size,1,none⟩ (.int .i64 l)).setCell ⟨w.heap.size,2,none⟩ (.slice none 0 0)) (some w.heap.size):=World.grownBy.set' (World.grownBy.set' (World.grownBy.set' (World.grownBy.refl _ _) _) _) _;exact bodyPost_ret (v:=.agg #[.slice (some ⟨w1.heap.size,0,none⟩) 1 1,.int .i64 l,.slice none 0 0]) (by simp [results,Tryz.results25,go_sem,s0,s1,s2]) rfl ⟨_,1,none,0,rfl,((hst.keep (aN.grown fP aa) fP.size).mono λb hb=>aa).lt,(((Et (Ea (Ea (Er w) _) _) hb1).trans ((Ea (Er w1) _).mono aa)).setCell (p:=⟨w.heap.size,0,none⟩) (Nat.le_refl _) _ |>.setCell (p:=⟨w.heap.size,1,none⟩) (Nat.le_refl _) _ |>.setCell (p:=⟨w.heap.size,2,none⟩) (Nat.le_refl _) _)⟩
def cW:aE:=⟨[],1,[⟨1,1440,1500⟩]⟩
def cf:IL:=[(3,cY 0 0 60),(5,cW)]
theorem zm {x:ai}:gq cW x↔x=⟨1,1440,1500⟩:=by
 unfold gq cW;simp
theorem Ra {n:Int}:aT [[Kal.ev r 2]] n↔0<=n/\n % 2=r:=by
 unfold aT ba;simp [GD]
theorem ze {m l:Int} {x:ai}:gq (cY r m l) x↔(0<=x.day/\x.day % 2=r)/\x.frm=x.day*1440+m/\x.fin=x.day*1440+m+l/\x.fin<=2251799813685248:=by
 unfold gq cY;constructor
 .rintro (⟨c,hc,⟨h1,h2⟩,h3⟩|h)
  .rw [List.mem_singleton] at hc;subst hc;refine ⟨Ra.1 h1,?_,?_,h3⟩
   .rw [h2];rfl
   rw [h2];rfl
  simp at h
 rintro ⟨h1,h2,h3,h4⟩;exact .inl ⟨_,List.mem_singleton.2 rfl,⟨Ra.2 h1,ai.ext' rfl h2 h3⟩,h4⟩
theorem Mi:bM cW:=by
 refine ⟨⟨by simp [cW],⟨by simp [cW],by simp [cW]⟩,by simp [cW],λi hi=>by simp [cW] at hi,λi hi=>?_⟩,λc hc=>by simp [cW] at hc⟩;have hi0:i=0:=by simp [cW] at hi;exact hi
 subst hi0;refine ⟨?_,λj hj=>aa⟩;show j9 ⟨1,1440,1500⟩;unfold j9;simp
theorem Qf {b:Int} (h1:gJ (cY 0 0 60) a b↔3∈l) (h2:gJ cW a b↔5∈l) (hl:l=[3]\/l=[]\/l=[3,5]):oQ cf a b=l:=by
 unfold oQ cf ids;rcases hl with rfl|rfl|rfl <;> simp only [List.filter_cons,List.filter_nil] <;> simp only [h1,h2] <;> simp
theorem MG:oQ cf 0 60=[3]:=by
 refine Qf ⟨λ_=>by simp,λ_=>⟨aa,⟨0,0,60⟩,ze.2 ag,ag,ag⟩⟩ ⟨?_,ag⟩ (.inl rfl);rintro ⟨h0,x,hx,h1,h2⟩;rw [zm] at hx;subst hx;simp at h1
theorem MH:oQ cf 60 1440=[]:=by
 refine Qf ⟨?_,ag⟩ ⟨?_,ag⟩ (.inr (.inl rfl))
 .rintro ⟨h0,x,hx,h1,h2⟩;rw [ze] at hx;omega
 rintro ⟨h0,x,hx,h1,h2⟩;rw [zm] at hx;subst hx;simp at h1
theorem MI:oQ cf 1499 2881=[3,5]:=
 Qf ⟨λ_=>by simp,λ_=>⟨aa,⟨2,2880,2940⟩,ze.2 ag,ag,ag⟩⟩ ⟨λ_=>by simp,λ_=>⟨aa,⟨1,1440,1500⟩,zm.2 rfl,ag,ag⟩⟩ (.inr (.inr rfl))
theorem MM:fN cf 1 5 ⟨1,1440,1500⟩ true:=by
 refine .inl ⟨rfl,cW,by simp [cf],.inl ⟨rfl,zm.2 rfl,ag,λy hy _=>?_⟩,λj t y hj hy=>?_⟩
 .rw [zm.1 hy];exact bK.irrefl
 rcases hy with ⟨_,h1,h2,h3⟩|⟨h,_⟩
 .unfold cf at hj;simp only [List.mem_cons,List.not_mem_nil,or_false,Prod.mk.injEq] at hj;rcases hj with ⟨rfl,rfl⟩|⟨rfl,rfl⟩
  .rw [ze] at h1;unfold bK;dsimp only;omega
  rw [zm.1 h1];exact ⟨bK.irrefl,aa⟩
 cases h
theorem MN:fN cf 1441 3 ⟨2,2880,2940⟩ true:=by
 refine .inl ⟨rfl,cY 0 0 60,by simp [cf],.inl ⟨rfl,ze.2 ag,ag,λy hy hf=>?_⟩,λj t y hj hy=>?_⟩
 .rw [ze] at hy;unfold bK;dsimp only;omega
 rcases hy with ⟨_,h1,h2,h3⟩|⟨h,_⟩
 .unfold cf at hj;simp only [List.mem_cons,List.not_mem_nil,or_false,Prod.mk.injEq] at hj;rcases hj with ⟨rfl,rfl⟩|⟨rfl,rfl⟩
  .rw [ze] at h1;refine ⟨?_,aa⟩;unfold bK;dsimp only;omega
  rw [zm.1 h1] at h2;simp at h2
 cases h
theorem MK:nM (cY 0 0 60) (cY 1 30 10) false 0:=by
 have hp:∀ p∈nN (cY 0 0 60) (cY 1 30 10),p=⟨⟨[[Kal.ev 0 2]],0⟩,⟨[[Kal.ev 1 2]],30⟩,0⟩:=λp hp=>by
  obtain ⟨h1,h2,h3⟩:=tb_.1 hp;have h4:=(xv_ (a:=cY 0 0 60) (b:=cY 1 30 10)).1 h3;obtain ⟨c,d,k⟩:=p;obtain rfl:c=⟨[[Kal.ev 0 2]],0⟩:=by simpa [cY] using h1
  obtain rfl:d=⟨[[Kal.ev 1 2]],30⟩:=by simpa [cY] using h2
  unfold fI cY at h4;dsimp only at h4;obtain rfl:k=0:=aa;rfl
 have hn:∀ p∈nN (cY 0 0 60) (cY 1 30 10),∀ n,¬ yZ p n:=λp hm n h=>by
  rw [hp p hm] at h;have h2:aT (dO [[Kal.ev 0 2]] [[Kal.ev 1 2]]) n:=h;unfold aT ba dO at h2;simp [GD] at h2;omega
 have hb:¬ BG (cY 0 0 60) (cY 1 30 10):=by
  rintro ⟨p,hm,hbig⟩;rw [hp p hm] at hbig;refine hbig ?_;show zk (Cd (dO [[Kal.ev 0 2]] [[Kal.ev 1 2]]));have hf:∀ t∈dO [[Kal.ev 0 2]] [[Kal.ev 1 2]],pJ 0 t:=qf_ (λt ht=>by
   rw [List.mem_singleton] at ht;subst ht;exact ⟨ag,λq hq=>by rw [List.mem_singleton] at hq;subst hq;exact (uy aa aa ⟨13860,aF⟩).fac⟩) (λt ht=>by
   rw [List.mem_singleton] at ht;subst ht;exact ⟨ag,λq hq=>by rw [List.mem_singleton] at hq;subst hq;exact (uy aa aa ⟨13860,aF⟩).fac⟩)
  obtain ⟨_,_,h3,h4⟩:=(Qr (dO [[Kal.ev 0 2]] [[Kal.ev 1 2]])).ok hf;refine ⟨Nat.le_trans h3 (by simp [dO]),h4 4 aa λt ht=>?_⟩;have:t=[Kal.ev 0 2,Kal.ev 1 2]:=by simpa [dO] using ht
  rw [this];simp
 refine .inr ⟨?_,.inr ⟨hb,rfl,⟨λh=>(nomatch h),λ⟨p,hm,n,h⟩=>absurd h (hn p hm n)⟩⟩⟩;rintro (⟨x,hx,_⟩|⟨x,hx,_⟩|⟨p,hm,n,_,_,h⟩)
 .simp [cY] at hx
 .simp [cY] at hx
 exact hn p hm n h
theorem ML:nM cW (cY 1 30 10) true 0:=by
 refine .inl ⟨.inl ⟨⟨1,1440,1500⟩,by simp [cW],.inl ⟨⟨1,1470,1480⟩,⟨⟨[[Kal.ev 1 2]],30⟩,by simp [cY],Ra.2 ag,rfl⟩,?_⟩⟩,rfl,rfl⟩;unfold fI;simp
theorem y3_:jq (cY 1 30 10) cf [5] 0:=.no MK (.yes ML .nil)
end
section
open Go.RowKit Kal
theorem v9_ (A B:aE):∃ r k,nM A B r k:=by
 by_cases h:oO A B\/oO B A\/Eb A B
 .exact ⟨true,0,.inl ⟨h,rfl,rfl⟩⟩
 by_cases h2:BG A B
 .exact ⟨false,2,.inr ⟨h,.inl ⟨h2,rfl,rfl⟩⟩⟩
 by_cases h3:I3 A B
 .exact ⟨true,0,.inr ⟨h,.inr ⟨h2,rfl,λ_=>h3,λ_=>rfl⟩⟩⟩
 exact ⟨false,0,.inr ⟨h,.inr ⟨h2,rfl,λe=>(by cases e),λe=>absurd e h3⟩⟩⟩
theorem wy_ (F G:Nat->Prop) (pD pM pE pN:Value) (A B:aE) (r:Bool) (k:Int) (hr:nM A B r k) (w:World) (hA:bq w F pD pM A) (hB:bq w G pE pN B) (vA:bM A) (vB:bM B) :
  Calls Tryz.prog 28 #[.agg #[pD,.int .i64 A.len,pM],.agg #[pE,.int .i64 B.len,pN]] w λe w'=>e=.returned (.tuple #[.bool r,.int .i64 k])/\Below w.heap.size w w':=
 (ug_ F G pD pM pE pN A B w hA hB vA vB).mono λe w' ⟨r',k',he,hm,hb⟩=>by
  obtain ⟨rfl,rfl⟩:=hr.unique hm;exact ⟨he,hb⟩
end
section
open Go.RowKit Go.Maps Kal
def w9_ (s:aE) (L:IL) (w:World) (e:Ending) (w':World):Prop:=∃ l k a c,jq s L l k/\e=.returned (.tuple #[.slice a l.length c,.int .i64 k])/\ak w' w.heap.size (.slice a l.length c) l/\Below w.heap.size w w'
theorem p0_ (p b n:Nat) (G F:Nat->Prop) (E:List (Int × bm)) (L:IL) (cv ev:Value) (s:aE) (w:World) (h:fg w p b n G E L) (hs:bq w F cv ev s) (gR:bM s) :
  Calls Tryz.prog 16 #[.pointer (some ⟨p,0,none⟩),.agg #[cv,.int .i64 s.len,ev]] w (w9_ s L w):=by
 have hpl:=h.box.lt;have hbl:=h.map.lt;have HI:=ad h;have HV:=λW (hb:Below w.heap.size w W)=>Bs F cv ev s W (hs.ext hb);rw [yV.2 gR.val] at HV;have HV:=ad HV;have Zh:=ad hs;have fU:=ad gR;obtain ⟨a1,c1,a2,c2,rfl,rfl⟩:=hs.form;have qv:=ad (λW (hb:Below w.heap.size w W)=>Ib p b n (E.map dJ) W (h.ext hb).box (h.ext hb).map h.sorted h.num);have uH:E.length=L.length:=by have:=congrArg List.length h.ids;simpa [ids] using this
 have CQ:=ad uH;have hbx:=af.at (w:=w) (b:=w.heap.size) (c:=#[.slice a1 s.cls.length c1,.int .i64 s.len,.slice a2 s.ext.length c2]) (t:=43) rfl;have cw:=ad hbx;clear h uH hs gR hbx
 go_in
 go_wp2_with (first|(go_at_call 23;(with_reducible refine (HV.o _ (Ea (Er w) _)).mono ?_);rintro e w1 ⟨rfl,hb1⟩;have bo:=ad (Et (Ea (Er w) _) hb1);have kY:=ad (cw.o.below hb1);clear hb1)|(go_at_call 36;(with_reducible refine (qv.o _ bo.o).mono ?_);rintro e w2 ⟨a,c,rfl,ho,hb2⟩;have HO:=ad ho;have bj:=ad hb2;clear ho hb2))
 have HOW:Hid (ak w2 (w.heap.size+1) (.slice a E.length c) (E.map Prod.fst)):=ad (by have:=HO.o.mono (base':=w.heap.size+1) (by have:=kY.o.lt;omega);rw [wz,List.length_map] at this;exact this);have iQ:=ad (kY.o.below bj.o);have bH:=ad (Et bo.o bj.o);have hz2:w.heap.size<w2.heap.size:=iQ.o.lt;go_loopw [6,8,9,10,17] (λv6 _ _ _ vi wr=>∃ (k m:Nat) (o:Option Addr) (oc:Nat) (l:List Int),k<=E.length/\vi=.int .i64 k/\v6=.slice o m oc/\m=l.length/\l.length<=k/\Hid (jq s (L.take k) l 0)/\Hid (ak wr w2.heap.size (.slice o m oc) l)/\Hid (Below w2.heap.size w2 wr)) (λ_ _ _ _ vi _=>E.length-(intOf vi).toNat)
 .exact ⟨0,0,none,0,[],aa,rfl,rfl,rfl,ag,ad .nil,ad (ak.nil _ _),ad (Below.refl _ _)⟩
 obtain ⟨k,m,o,oc,l,hk,rfl,rfl,rfl,hlk,kz,jF,HB⟩:=hrel;have jA:=HB.o.size;have hlen:E.length<=17592186044416:=by have:=HOW.o.len;simpa using this
 by_cases hlt:k<E.length
 .have dh:(k:Int)<E.length:=aa;have hI:=HI.o.ext (Et bH.o HB.o);obtain ⟨id,u,t,g1,g2,g3,g4,g5,g6,g7,g8⟩:=QF hI hlt;obtain ⟨ua,un,uc,ul,va,vn,vc,ug⟩:=u;obtain ⟨gs,gl,gm,-⟩:=g3;dsimp only [bm.val] at gs gl g7;subst gl;obtain ⟨r,kk,sY⟩:=v9_ t s;have yq:=ad sY;have il:=ad (λW (hb:Below wr.heap.size wr W)=>wy_ G F _ _ _ _ t s r kk sY W (gs.ext hb) (Zh.o.ext (Et (Et bH.o HB.o) hb)) gm fU.o);have kt:=ad (λW=>UJ ⟨ua,un,uc,t.len,va,vn,vc,ug⟩ W);dsimp only at kt;have nD:=ad (λW (hb:Below wr.heap.size wr W)=>(hI.ext hb).map.lookv g4 (List.mem_map.2 ⟨_,g8,rfl⟩));dsimp only [dJ,bm.val] at nD;have q0:=(hI.box.cells 0).1;have kn:=(iQ.o.below HB.o);have x0:=(kn.cells 0).1;have x1:=(kn.cells 1).1;have x2:=(kn.cells 2).1;have vR:=ad hI;have gZ:=ad g2;obtain ⟨⟨a',c',he,_,_,hcl⟩,_,_⟩:=(HOW.o.ext HB.o).ints;injection he with e1 e2 e3
  rcases hcl with hcl|⟨b8,f8,wO,hcl⟩
  .exfalso;have:=congrArg List.length hcl;simp at this;rw [this] at hlt;simp at hlt
  have z0:wr.cell? ⟨b8,f8+k,none⟩=some (.int .i64 id):=by rw [hcl k (by simpa using hlt),g1]
  rw [wO] at e1;subst e1;clear e2 e3 wO hcl g1 g2 g5 g6 g7 g8 gs gm kn hI;go_upto_region 7 with (fail)
  refine jZ (w0:=wr) [0,1,2,3,4,5,6,7,8,9,10,11,12,13] [] (λv=>⟨#[.pointer (some ⟨p,0,none⟩),.agg #[.slice a1 s.cls.length c1,.int .i64 s.len,.slice a2 s.ext.length c2],undef,.pointer (some ⟨w.heap.size,0,none⟩),u4,u5,.slice o l.length oc,undef,.int .i64 id,v 12,v 13,.agg #[.slice a1 s.cls.length c1,.int .i64 s.len,.slice a2 s.ext.length c2],.bool true,.bool false,.pointer (some ⟨p,0,none⟩),.slice (some ⟨b8,f8,none⟩) E.length c,.int .i64 ↑E.length,.int .i64 ↑k,.bool true,.pointer (some ⟨b8,f8+k,none⟩),.int .i64 id,v 9,v 0,v 1,v 2,v 3,v 4,v 5,v 6,v 7,v 8,v 10,v 11,u33,u34,u35,u36,u37,u38,u39,u40,u41,undef],[]⟩) [.pointer (some ⟨p,0,none⟩),.pointer (some ⟨p,0,none⟩),.pointer (some ⟨p,0,none⟩),.map (some b),.int .i64 id,.agg #[.slice ua un uc,.int .i64 t.len,.slice va vn vc,.bool (ug 0),.bool (ug 1),.bool (ug 2),.bool (ug 3),.bool (ug 4),.bool (ug 5),.bool (ug 6)],.agg #[.slice ua un uc,.int .i64 t.len,.slice va vn vc],.agg #[.slice a1 s.cls.length c1,.int .i64 s.len,.slice a2 s.ext.length c2],.tuple #[.bool r,.int .i64 kk],.tuple #[.bool r,.int .i64 kk],.bool r,.int .i64 kk,.bool r,.int .i64 kk] (λW=>W.cell? ⟨p,0,none⟩=some (.map (some b))/\W.cell? ⟨w.heap.size,0,none⟩=some (.slice a1 s.cls.length c1)/\W.cell? ⟨w.heap.size,1,none⟩=some (.int .i64 s.len)/\W.cell? ⟨w.heap.size,2,none⟩=some (.slice a2 s.ext.length c2)/\Below wr.heap.size wr W) (λW hb=>⟨al.cell hb q0,al.cell hb x0,al.cell hb x1,al.cell hb x2,hb⟩) ?steps ?fin (λj=>match j with|0=>u22|1=>u23|2=>u24|3=>u25|4=>u26|5=>u27|6=>u28|7=>u29|8=>u30|9=>u21|10=>u31|11=>u32|12=>u9|13=>u10|_=>undef)
  case steps=>
   refine .c [] rfl ?_ (.c [0] rfl ?_ (.c [1] rfl ?_ (.c [2] rfl ?_ (.c [] rfl ?_ (.c [3,4] rfl ?_ (.c [5] rfl ?_ (.c [] rfl ?_ (.c [6,7] rfl ?_ (.c [8] rfl ?_ (.c [9] rfl ?_ (.c [9] rfl ?_ (.c [10] rfl ?_ (.c [11] rfl ?_ (.n))))))))))))));all_goals try exact kq
   all_goals
    rintro v W hb ⟨g0,g1,g2,g3,g4⟩;refine .inl ⟨rfl,λK hK=>?_⟩;simp only [ov,aD,Nat.reduceBEq,cond_true,cond_false]
    first
     | (have hq:=kt.o W;go_wp2_with fail;refine aU (hK W (Below.refl _ _)) ?_;simp [ov,aD];done)
     | (have hq:=nD.o W g4;go_wp2_with fail;refine aU (hK W (Below.refl _ _)) ?_;simp [ov,aD];done)
     | (go_wp2_with (go_at_call 28;(with_reducible refine (il.o _ g4).mono ?_);rintro e w9 ⟨rfl,bg⟩);exact aU (hK w9 bg) (by simp [ov,aD]))
  case fin=>
   rintro W3 hb3 ⟨g0,g1,g2,g3,-⟩;show wpList _ _ _ [] _ _;simp only [aD];have cm:=ad (HB.o.trans (hb3.mono jA));have Hb:=ad (jF.o.ext hb3);have Yw:=ad hb3.size;have GZ:=ad g4;have b6:=ad (show k+1<=E.length by omega);clear g0 g1 g2 g3 g4 hb3 z0 x0 x1 x2 q0;by_cases hkk:kk=0
   .subst hkk;cases r
    .have yC:=ad (kz.o.snoc rfl yq.o (i:=id));go_wp2;go_roundw
     .exact ⟨k+1,l.length,o,oc,l,b6.o,by go_num,rfl,rfl,aa,ad (by have:=yC.o;rw [gZ.o];simpa using this),Hb,cm⟩
     have:=b6.o;simp [intOf];omega
    have yC:=ad (kz.o.snoc rfl yq.o (i:=id));go_wp2_with (at_builtin;(refine pA az _ _ az w2.heap.size (.slice o l.length oc) l id az (Hb.o.ext (Ea (Er _) _)) W3.heap.size _ az ((af.at (w:=W3) (b:=W3.heap.size) (c:=#[.int .i64 id]) (t:=3) rfl).cells 0).1 GZ.o aa (by rw [World.size_alloc];have:=cm.o.size;omega) ?_);intro g cap w5 aw aH bU;have kT:=ad aw;have cr:=ad bU;clear aw aH bU);go_roundw
    .exact ⟨k+1,l.length+1,some ⟨g,0,none⟩,cap,l ++ [id],b6.o,by go_num,rfl,ag,aO,ad (by have:=yC.o;rw [gZ.o];simpa using this),kT,ad ((cm.o.alloc cm.o.size _).trans cr.o)⟩
    have:=b6.o;simp [intOf];omega
   have HKK:=ad hkk;have HST:=ad (kz.o.stop rfl yq.o (i:=id) (R:=L.drop (k+1)) hkk);have mE:Hid (L.take k ++ (id,t) :: L.drop (k+1)=L):=ad (by
    have h1:=List.take_append_drop (k+1) L;rw [gZ.o,List.append_assoc] at h1;exact h1)
   go_wp2
   go_ret2;exact ⟨[],kk,none,0,by rw [<- mE.o];exact HST.o,rfl,ak.nil _ _,bH.o.trans (cm.o.mono aa)⟩
 obtain rfl:k=E.length:=aa;have fM:¬ (E.length:Int)<E.length:=aa;have mz:=ad (show jq s L l 0 by have:=kz.o;rwa [List.take_of_length_le (by rw [CQ.o];exact Nat.le_refl _)] at this);go_wp2;go_ret2;exact ⟨l,0,o,oc,mz.o,rfl,jF.o.mono aa,(bH.o.trans (HB.o.mono aa))⟩
theorem zj_ {s:aE} (h:bM s):0<=iU s.len s.ext/\iU s.len s.ext<=10080:=by
 have key:∀ (l:List ai) (m:Int),0<=m->m<=10080->(∀ x∈l,x.fin-x.frm<=10080)->0<=iU m l/\iU m l<=10080:=by
  intro l;induction l with
  | nil=>exact λm h1 h2 _=>⟨h1,h2⟩
  | cons x l ih=>
   intro m h1 h2 h3;have h4:=h3 x ag;exact ih (max m (x.fin-x.frm)) aa aa λy hy=>h3 y (List.mem_cons_of_mem _ hy)
 have hl:=h.val.len;exact key _ _ aa hl.2 λx hx=>by
  have:=h.val.ins hx;unfold j9 at this;omega
theorem XY (P:Prop):∃ b:Bool,b=true↔P:=by
 by_cases h:P
 .exact ⟨true,by simp [h]⟩
 exact ⟨false,by simp [h]⟩
theorem V9 {P:Prop} {c:Bool} (h:b=true↔P) (g:c=true↔P):b=c:=by
 rw [Bool.eq_iff_iff,h,g]
def w8_ (L:IL) (a b:Int) (w:World) (e:Ending) (w':World):Prop:=∃ l k o c,Q0 L a b l k/\e=.returned (.tuple #[.slice o l.length c,.int .i64 k])/\ak w' w.heap.size (.slice o l.length c) l/\Below w.heap.size w w'
theorem PW (p b n:Nat) (G:Nat->Prop) (E:List (Int × bm)) (L:IL) (wa wb:Int) (w:World) (h:fg w p b n G E L) (ha:aP wa) (hb:aP wb) :
  Calls Tryz.prog 14 #[.pointer (some ⟨p,0,none⟩),.agg #[.int .i64 wa,.int .i64 wb]] w (w8_ L wa wb w):=by
 have hpl:=h.box.lt;have hbl:=h.map.lt;obtain ⟨a1,a2⟩:=ha;obtain ⟨b1,b2⟩:=hb;have HI:=ad h;have qv:=ad (λW (hb:Below w.heap.size w W)=>Ib p b n (E.map dJ) W (h.ext hb).box (h.ext hb).map h.sorted h.num);have uH:E.length=L.length:=by have:=congrArg List.length h.ids;simpa [ids] using this
 have CQ:=ad uH;clear h uH;by_cases c1:wa < -2251799813685248
 .go_in
  go_wp2
  go_ret2;exact ⟨[],1,none,0,.inl ⟨.inl c1,rfl,rfl⟩,rfl,ak.nil _ _,xE⟩
 by_cases c2:2251799813685248<wb
 .go_in
  go_wp2
  go_ret2;exact ⟨[],1,none,0,.inl ⟨.inr (.inl c2),rfl,rfl⟩,rfl,ak.nil _ _,xE⟩
 by_cases c3:wb<wa
 .go_in
  go_wp2
  go_ret2;exact ⟨[],1,none,0,.inl ⟨.inr (.inr c3),rfl,rfl⟩,rfl,ak.nil _ _,xE⟩
 have HC:=ad (show ¬ (wa < -2251799813685248\/2251799813685248<wb\/wb<wa) by omega);by_cases c4:5760000<wb-wa
 .go_in
  go_wp2
  go_ret2;exact ⟨[],2,none,0,.inr ⟨HC.o,.inl ⟨c4,rfl,rfl⟩⟩,rfl,ak.nil _ _,xE⟩
 have GT:=ad (show wb-wa<=5760000 by omega);have hbx:=af.at (w:=w) (b:=w.heap.size) (c:=#[.int .i64 wa,.int .i64 wb]) (t:=29) rfl;have cw:=ad hbx;clear hbx
 go_in
 go_wp2_with (go_at_call 36;(with_reducible refine (qv.o _ (Ea (Er w) _)).mono ?_);rintro e w2 ⟨a,c,rfl,ho,hb2⟩;have HO:=ad ho;have bj:=ad hb2;clear ho hb2)
 have HOW:Hid (ak w2 (w.heap.size+1) (.slice a E.length c) (E.map Prod.fst)):=ad (by have:=HO.o.mono (base':=w.heap.size+1) ag;rw [wz,List.length_map] at this;exact this);have iQ:=ad (cw.o.below bj.o);have bH:=ad (Et (Ea (Er w) (.cells #[.int .i64 wa,.int .i64 wb] 29)) bj.o);have hz2:w.heap.size<w2.heap.size:=iQ.o.lt;go_loopw [6,8,9,10,11,36] (λv6 _ _ _ _ vi wr=>∃ (k m:Nat) (o:Option Addr) (oc:Nat) (l:List Int),k<=E.length/\vi=.int .i64 k/\v6=.slice o m oc/\m=l.length/\l.length<=k/\Hid (l=oQ (L.take k) wa wb)/\Hid (ak wr w2.heap.size (.slice o m oc) l)/\Hid (Below w2.heap.size w2 wr)) (λ_ _ _ _ _ vi _=>E.length-(intOf vi).toNat)
 .exact ⟨0,0,none,0,[],aa,rfl,rfl,rfl,ag,ad (by simp [oQ,ids]),ad (ak.nil _ _),ad (Below.refl _ _)⟩
 obtain ⟨k,m,o,oc,l,hk,rfl,rfl,rfl,hlk,kt,jF,HB⟩:=hrel;have jA:=HB.o.size;have hlen:E.length<=17592186044416:=by have:=HOW.o.len;simpa using this
 by_cases hlt:k<E.length
 .have dh:(k:Int)<E.length:=aa;have hI:=HI.o.ext (Et bH.o HB.o);obtain ⟨id,u,t,g1,g2,g3,g4,g5,g6,g7,g8⟩:=QF hI hlt;obtain ⟨ua,un,uc,ul,va,vn,vc,ug⟩:=u;obtain ⟨gs,gl,gm,gd⟩:=g3;dsimp only [bm.val] at gs gl g7 gd;subst gl;have tU:=ad (λcc hcc=>sf_ (L:=L.take k) (a:=wa) (b:=wb) (i:=id) (s:=t) (c:=cc) hcc);have gZ:=ad g2;have ye:=ad gm;have Kx:=ad gd;have GZ:=ad g4;have b6:=ad (show k+1<=E.length by omega);have fQ:=zj_ gm;have R5:=ad (λW (hb:Below wr.heap.size wr W)=>q7_ G _ _ t W (gs.ext hb) gm);obtain ⟨lm,rK⟩:∃ lm,iU t.len t.ext=lm:=⟨_,rfl⟩;rw [rK] at R5 fQ;have qo:=ad rK;obtain ⟨lm1,lm2⟩:=fQ;obtain ⟨r,hr⟩:=XY (t_ ug ((wa-lm) / 1440) (wb / 1440));have Bg:=ad hr;have qt:=ad (λW=>(zk_ ug lm wa wb W aa aa aa aa aa aa).mono λe w' ⟨r',he,hr',hb'⟩=>show e=Ending.returned (Value.bool r)/\Below W.heap.size W w' from ⟨by rw [he,V9 hr' hr],hb'⟩);change Hid (∀ W,Calls _ _ #[.agg #[.bool (ug 0),.bool (ug 1),.bool (ug 2),.bool (ug 3),.bool (ug 4),.bool (ug 5),.bool (ug 6)],_,_] W _) at qt;have dZ:=ad (λW (hb:Below wr.heap.size wr W)=>Iq G _ _ t wa W (gs.ext hb) gm ⟨a1,a2⟩);obtain ⟨hv,OO⟩:=XY (qF t wa);have G1:=ad OO;have A7:=ad (λW (hb:Below wr.heap.size wr W)=>(wx_ G _ _ t wa W (gs.ext hb) gm ⟨a1,a2⟩).mono λe w' ⟨r',he,hr',hb'⟩=>show e=Ending.returned (Value.bool hv)/\Below W.heap.size W w' from ⟨by rw [he,V9 hr' OO],hb'⟩);have q0:=(hI.box.cells 0).1;have kn:=(iQ.o.below HB.o);have x0:=(kn.cells 0).1;have x1:=(kn.cells 1).1;have Hn:=ad kn;obtain ⟨⟨a',c',he,_,_,hcl⟩,_,_⟩:=(HOW.o.ext HB.o).ints;injection he with e1 e2 e3
  rcases hcl with hcl|⟨b8,f8,wO,hcl⟩
  .exfalso;have:=congrArg List.length hcl;simp at this;rw [this] at hlt;simp at hlt
  have z0:wr.cell? ⟨b8,f8+k,none⟩=some (.int .i64 id):=by rw [hcl k (by simpa using hlt),g1]
  rw [wO] at e1;subst e1;clear e2 e3 wO hcl g1 g2 g4 g5 g6 g8 gs gm gd kn hI rK hr OO;go_upto_region 10 with (fail)
  refine iR (F:=λU=>af U wr.heap.size #[.slice ua un uc,.int .i64 t.len,.slice va vn vc,.bool (ug 0),.bool (ug 1),.bool (ug 2),.bool (ug 3),.bool (ug 4),.bool (ug 5),.bool (ug 6)] 95/\Below wr.heap.size wr U) ⟨af.new _ _ _,Ea (Er _) _⟩ ?_;rintro W1 ⟨fk,eo⟩;have x0:=al.cell eo x0;have x1:=al.cell eo x1;have n0:=(fk.cells 0).1;have n1:=(fk.cells 1).1;have n2:=(fk.cells 2).1;have n3:=(fk.cells 3).1;have n4:=(fk.cells 4).1;have n5:=(fk.cells 5).1;have n6:=(fk.cells 6).1;have n7:=(fk.cells 7).1;have n8:=(fk.cells 8).1;have n9:=(fk.cells 9).1;have xR:=ad eo;have ij:=ad fk;have hzl:wr.heap.size<W1.heap.size:=fk.lt;clear fk;by_cases hT:wa=wb
  .have Z_:=ad (show (false=true↔gJ t wa wb) from ⟨λh=>(by cases h),λh=>by have:=h.1;omega⟩);subst hT;refine jZ (w0:=W1) [0,1,2,3,4,5,6,7,8,9,10,11,12,13,14] [] (λv=>⟨#[.pointer (some ⟨p,0,none⟩),.agg #[.int .i64 wa,.int .i64 wa],undef,.pointer (some ⟨w.heap.size,0,none⟩),.slice none 0 0,.int .i64 0,.slice o l.length oc,undef,.int .i64 id,.pointer (some ⟨wr.heap.size,0,none⟩),u10,u11,.pointer (some ⟨w.heap.size,0,none⟩),.int .i64 wa,.bool false,.bool false,.pointer (some ⟨w.heap.size,1,none⟩),.int .i64 wa,.bool false,.bool false,.bool false,.pointer (some ⟨w.heap.size,0,none⟩),.int .i64 wa,.pointer (some ⟨w.heap.size,1,none⟩),.int .i64 wa,.bool false,.bool false,.pointer (some ⟨w.heap.size,1,none⟩),.int .i64 wa,.pointer (some ⟨w.heap.size,0,none⟩),.int .i64 wa,.int .i64 (wa-wa),.bool false,.pointer (some ⟨p,0,none⟩),.slice (some ⟨b8,f8,none⟩) E.length c,.int .i64 ↑E.length,.int .i64 ↑k,.bool true,.pointer (some ⟨b8,f8+k,none⟩),.int .i64 id,.pointer (some ⟨p,0,none⟩),.pointer (some ⟨p,0,none⟩),.pointer (some ⟨p,0,none⟩),.map (some b),.int .i64 id,.agg #[.slice ua un uc,.int .i64 t.len,.slice va vn vc,.bool (ug 0),.bool (ug 1),.bool (ug 2),.bool (ug 3),.bool (ug 4),.bool (ug 5),.bool (ug 6)],v 0,v 1,v 2,v 3,v 4,v 5,v 6,v 7,v 8,v 9,v 10,v 11,v 12,v 13,v 14,u61,u62,u63,u64,u65,u66,u67,u68,u69,u70,u71,u72,u73,u74,u75,u76,u77,u78,u79,u80,u81,u82,u83,u84,u85,u86,u87,u88,u89,undef],[]⟩) [.pointer (some ⟨w.heap.size,0,none⟩),.int .i64 wa,.pointer (some ⟨w.heap.size,1,none⟩),.int .i64 wa,.bool true,.bool true,undef,undef,undef,undef,undef,undef,undef,undef,.bool true] (λW=>W.cell? ⟨w.heap.size,0,none⟩=some (Value.int .i64 wa)/\W.cell? ⟨w.heap.size,1,none⟩=some (Value.int .i64 wa)) (λW hb=>⟨al.cell hb x0,al.cell hb x1⟩) ?steps ?fin (λj=>match j with|0=>u46|1=>u47|2=>u48|3=>u49|4=>u50|5=>u51|6=>u52|7=>u53|8=>u54|9=>u55|10=>u56|11=>u57|12=>u58|13=>u59|14=>u60|_=>undef)
   case steps=>
    refine .c [] rfl ?_ (.c [0] rfl ?_ (.c [] rfl ?_ (.c [2] rfl ?_ (.c [1,3] rfl ?_ (.c [4] rfl ?_ (.c [5] rfl ?_ (.c [5,6] rfl ?_ (.c [5] rfl ?_ (.c [5,8] rfl ?_ (.c [5,9] rfl ?_ (.c [5] rfl ?_ (.c [5,7,10,11] rfl ?_ (.c [5,12] rfl ?_ (.c [5,13] rfl ?_ (.n)))))))))))))));all_goals try exact kq
   case fin=>
    rintro W3 hb3 ⟨g0,g1⟩;show wpList _ _ _ [] _ _;simp only [aD];have cm:=ad (Et xR.o hb3);clear n0 n1 n2 n3 n4 n5 n6 n7 n8 n9 g0 g1 hb3 x0 x1 eo;go_wp2;go_roundw
    .exact ⟨k+1,l.length,o,oc,l,b6.o,by go_num,rfl,rfl,aa,ad (by rw [gZ.o,tU.o false Z_.o,<- kt.o];simp),ad (jF.o.ext cm.o),ad (HB.o.trans (cm.o.mono jA))⟩
    have:=b6.o;simp [intOf];omega
  have zE:(wa == wb)=false:=by simp [hT]
  refine jZ (w0:=W1) [0,1,2,3,4,5,6,7,8,9,10,11,12,13,14] [] (λv=>⟨#[.pointer (some ⟨p,0,none⟩),.agg #[.int .i64 wa,.int .i64 wb],undef,.pointer (some ⟨w.heap.size,0,none⟩),.slice none 0 0,.int .i64 0,.slice o l.length oc,undef,.int .i64 id,.pointer (some ⟨wr.heap.size,0,none⟩),u10,u11,.pointer (some ⟨w.heap.size,0,none⟩),.int .i64 wa,.bool false,.bool false,.pointer (some ⟨w.heap.size,1,none⟩),.int .i64 wb,.bool false,.bool false,.bool false,.pointer (some ⟨w.heap.size,0,none⟩),.int .i64 wa,.pointer (some ⟨w.heap.size,1,none⟩),.int .i64 wb,.bool false,.bool false,.pointer (some ⟨w.heap.size,1,none⟩),.int .i64 wb,.pointer (some ⟨w.heap.size,0,none⟩),.int .i64 wa,.int .i64 (wb-wa),.bool false,.pointer (some ⟨p,0,none⟩),.slice (some ⟨b8,f8,none⟩) E.length c,.int .i64 ↑E.length,.int .i64 ↑k,.bool true,.pointer (some ⟨b8,f8+k,none⟩),.int .i64 id,.pointer (some ⟨p,0,none⟩),.pointer (some ⟨p,0,none⟩),.pointer (some ⟨p,0,none⟩),.map (some b),.int .i64 id,.agg #[.slice ua un uc,.int .i64 t.len,.slice va vn vc,.bool (ug 0),.bool (ug 1),.bool (ug 2),.bool (ug 3),.bool (ug 4),.bool (ug 5),.bool (ug 6)],v 0,v 1,v 2,v 3,v 4,v 5,v 6,v 7,v 8,v 9,v 10,v 11,v 12,v 13,v 14,u61,u62,u63,u64,u65,u66,u67,u68,u69,u70,u71,u72,u73,u74,u75,u76,u77,u78,u79,u80,u81,u82,u83,u84,u85,u86,u87,u88,u89,undef],[]⟩) [.pointer (some ⟨w.heap.size,0,none⟩),.int .i64 wa,.pointer (some ⟨w.heap.size,1,none⟩),.int .i64 wb,.bool false,.bool false,.pointer (some ⟨wr.heap.size,3,none⟩),.agg #[.bool (ug 0),.bool (ug 1),.bool (ug 2),.bool (ug 3),.bool (ug 4),.bool (ug 5),.bool (ug 6)],.pointer (some ⟨wr.heap.size,0,none⟩),.agg #[.slice ua un uc,.int .i64 t.len,.slice va vn vc],.int .i64 lm,.agg #[.int .i64 wa,.int .i64 wb],.bool r,.bool (!r),.bool (!r)] (λW=>W.cell? ⟨w.heap.size,0,none⟩=some (Value.int .i64 wa)/\W.cell? ⟨w.heap.size,1,none⟩=some (Value.int .i64 wb)/\W.cell? ⟨wr.heap.size,0,none⟩=some (.slice ua un uc)/\W.cell? ⟨wr.heap.size,1,none⟩=some (Value.int .i64 t.len)/\W.cell? ⟨wr.heap.size,2,none⟩=some (.slice va vn vc)/\W.cell? ⟨wr.heap.size,3,none⟩=some (.bool (ug 0))/\W.cell? ⟨wr.heap.size,4,none⟩=some (.bool (ug 1))/\W.cell? ⟨wr.heap.size,5,none⟩=some (.bool (ug 2))/\W.cell? ⟨wr.heap.size,6,none⟩=some (.bool (ug 3))/\W.cell? ⟨wr.heap.size,7,none⟩=some (.bool (ug 4))/\W.cell? ⟨wr.heap.size,8,none⟩=some (.bool (ug 5))/\W.cell? ⟨wr.heap.size,9,none⟩=some (.bool (ug 6))/\Below wr.heap.size wr W) (λW hb=>⟨al.cell hb x0,al.cell hb x1,al.cell hb n0,al.cell hb n1,al.cell hb n2,al.cell hb n3,al.cell hb n4,al.cell hb n5,al.cell hb n6,al.cell hb n7,al.cell hb n8,al.cell hb n9,Et eo hb⟩) ?steps ?fin (λj=>match j with|0=>u46|1=>u47|2=>u48|3=>u49|4=>u50|5=>u51|6=>u52|7=>u53|8=>u54|9=>u55|10=>u56|11=>u57|12=>u58|13=>u59|14=>u60|_=>undef)
  case steps=>
   refine .c [] rfl ?_ (.c [0] rfl ?_ (.c [] rfl ?_ (.c [2] rfl ?_ (.c [1,3] rfl ?_ (.c [4] rfl ?_ (.c [5] rfl ?_ (.c [5,6] rfl ?_ (.c [5] rfl ?_ (.c [5,8] rfl ?_ (.c [5,9] rfl ?_ (.c [5] rfl ?_ (.c [5,7,10,11] rfl ?_ (.c [5,12] rfl ?_ (.c [5,13] rfl ?_ (.n)))))))))))))));all_goals try exact kq
   all_goals
    rintro v W hb ⟨g0,g1,m0,m1,m2,m3,m4,m5,m6,m7,m8,m9,cq⟩;refine .inl ⟨rfl,λK hK=>?_⟩;simp only [ov,aD,Nat.reduceBEq,cond_true,cond_false];go_wp2_with (first|(go_at_call 38;(with_reducible refine (R5.o _ cq).mono ?_);rintro e w9 ⟨rfl,bg⟩)|(go_at_call 37;(with_reducible refine (qt.o _).mono ?_);rintro e w9 ⟨rfl,bg⟩));exact aU (hK w9 bg) (by simp [ov,aD])
  case fin=>
   rintro W3 hb3 hg3;show wpList _ _ _ [] _ _;simp only [aD];have cm:=ad (Et xR.o hb3);have hz3:=cm.o.size;have x0:=al.cell hb3 x0;have x1:=al.cell hb3 x1;have n0:=al.cell hb3 n0;have n1:=al.cell hb3 n1;have n2:=al.cell hb3 n2;clear n3 n4 n5 n6 n7 n8 n9 hg3 hb3 eo;cases r
   .have gX:=ad (show (false=true↔gJ t wa wb) from ⟨λh=>(by cases h),λh=>Bg.o.2 (by have:=zl_ Kx.o h;rw [qo.o] at this;exact this)⟩);clear n0 n1 n2 x0 x1;go_wp2;go_roundw
    .exact ⟨k+1,l.length,o,oc,l,b6.o,by go_num,rfl,rfl,aa,ad (by rw [gZ.o,tU.o false gX.o,<- kt.o];simp),ad (jF.o.ext cm.o),ad (HB.o.trans (cm.o.mono jA))⟩
    have:=b6.o;simp [intOf];omega
   have Zr:=ad (show wa<wb by have:=HC.o;omega);go_upto_region 12 with (go_at_call 30;(with_reducible refine (dZ.o _ cm.o).mono ?_);rintro e w4 ⟨y,cc,rfl,hN,hb4⟩;have HN:=ad hN;have cD:=ad hb4;have x0:=al.cell hb4 x0;have x1:=al.cell hb4 x1;have n0:=al.cell hb4 n0;have n1:=al.cell hb4 n1;have n2:=al.cell hb4 n2;clear hN hb4)
   have ku:=ad (zb_ ye.o Zr.o HN.o);refine iR (F:=λU=>af U w4.heap.size #[.int .i64 y.day,.int .i64 y.frm,.int .i64 y.fin] 46/\Below w4.heap.size w4 U) ⟨af.new _ _ _,Ea (Er _) _⟩ ?_;rintro W5 ⟨Fk,mY⟩;have eo:Below wr.heap.size wr W5:=Et (Et cm.o cD.o) mY;have cr:=ad eo;have x0:=al.cell mY x0;have x1:=al.cell mY x1;have n0:=al.cell mY n0;have n1:=al.cell mY n1;have n2:=al.cell mY n2;have k1:=(Fk.cells 1).1;clear Fk mY;cases hv
   .cases cc
    .skip
     have gX:=ad (show (false=true↔gJ t wa wb) from ⟨λh=>(by cases h),λh=>absurd (ku.o.1 h) (λh=>h.elim (λh=>absurd (G1.o.2 h) ag) (λh=>by cases h.1))⟩);go_wp2_with (go_at_call 39;(with_reducible refine (A7.o _ eo).mono ?_);rintro e W6 ⟨rfl,bD⟩;have x1:=al.cell bD x1;have k1:=al.cell bD k1;have bO:=ad (Et cr.o bD);clear bD);go_roundw
     .exact ⟨k+1,l.length,o,oc,l,b6.o,by go_num,rfl,rfl,aa,ad (by rw [gZ.o,tU.o false gX.o,<- kt.o];simp),ad (jF.o.ext bO.o),ad (HB.o.trans (bO.o.mono jA))⟩
     have:=b6.o;simp [intOf];omega
    by_cases hl:y.frm<wb
    .have pw:=ad hl;have yP:=ad (show (true=true↔gJ t wa wb) from ⟨λ_=>ku.o.2 (.inr ⟨rfl,pw.o⟩),λ_=>rfl⟩);go_wp2_with (first|(go_at_call 39;(with_reducible refine (A7.o _ eo).mono ?_);rintro e W6 ⟨rfl,bD⟩;have x1:=al.cell bD x1;have k1:=al.cell bD k1;have bO:=ad (Et cr.o bD);have Dq:=ad (jF.o.ext bO.o);have mo:=ad (HB.o.trans (bO.o.mono jA));have AM:=mo.o.size;clear bD)|(at_builtin;(refine pA az _ _ az w2.heap.size (.slice o l.length oc) l id az (Dq.o.ext (Ea (Er _) _)) W6.heap.size _ az ((af.at (w:=W6) (b:=W6.heap.size) (c:=#[.int .i64 id]) (t:=3) rfl).cells 0).1 GZ.o aa (by rw [World.size_alloc];omega) ?_);intro g cap w7 aw aH bU;have iq:=ad aw;have gF:=ad bU;clear aw aH bU));go_roundw
     .exact ⟨k+1,l.length+1,some ⟨g,0,none⟩,cap,l ++ [id],b6.o,by go_num,rfl,ag,aO,ad (by rw [gZ.o,tU.o true (by simpa using yP.o),<- kt.o];simp),iq,ad ((mo.o.alloc mo.o.size _).trans gF.o)⟩
     have:=b6.o;simp [intOf];omega
    have pw:=ad hl;have gX:=ad (show (false=true↔gJ t wa wb) from ⟨λh=>(by cases h),λh=>absurd (ku.o.1 h) (λh=>h.elim (λh=>absurd (G1.o.2 h) ag) (λh=>pw.o h.2))⟩);go_wp2_with (go_at_call 39;(with_reducible refine (A7.o _ eo).mono ?_);rintro e W6 ⟨rfl,bD⟩;have x1:=al.cell bD x1;have k1:=al.cell bD k1;have bO:=ad (Et cr.o bD);clear bD);go_roundw
    .exact ⟨k+1,l.length,o,oc,l,b6.o,by go_num,rfl,rfl,aa,ad (by rw [gZ.o,tU.o false gX.o,<- kt.o];simp),ad (jF.o.ext bO.o),ad (HB.o.trans (bO.o.mono jA))⟩
    have:=b6.o;simp [intOf];omega
   skip
   have yP:=ad (show (true=true↔gJ t wa wb) from ⟨λ_=>ku.o.2 (.inl (G1.o.1 rfl)),λ_=>rfl⟩);go_wp2_with (first|(go_at_call 39;(with_reducible refine (A7.o _ eo).mono ?_);rintro e W6 ⟨rfl,bD⟩;have x1:=al.cell bD x1;have k1:=al.cell bD k1;have bO:=ad (Et cr.o bD);have Dq:=ad (jF.o.ext bO.o);have mo:=ad (HB.o.trans (bO.o.mono jA));have AM:=mo.o.size;clear bD)|(at_builtin;(refine pA az _ _ az w2.heap.size (.slice o l.length oc) l id az (Dq.o.ext (Ea (Er _) _)) W6.heap.size _ az ((af.at (w:=W6) (b:=W6.heap.size) (c:=#[.int .i64 id]) (t:=3) rfl).cells 0).1 GZ.o aa (by rw [World.size_alloc];omega) ?_);intro g cap w7 aw aH bU;have iq:=ad aw;have gF:=ad bU;clear aw aH bU));go_roundw
   .exact ⟨k+1,l.length+1,some ⟨g,0,none⟩,cap,l ++ [id],b6.o,by go_num,rfl,ag,aO,ad (by rw [gZ.o,tU.o true (by simpa using yP.o),<- kt.o];simp),iq,ad ((mo.o.alloc mo.o.size _).trans gF.o)⟩
   have:=b6.o;simp [intOf];omega
 obtain rfl:k=E.length:=aa;have mz:=ad (show l=oQ L wa wb by have:=kt.o;rwa [List.take_of_length_le (by rw [CQ.o];exact Nat.le_refl _)] at this);have fM:¬ (E.length:Int)<E.length:=aa;go_wp2;go_ret2;exact ⟨l,0,o,oc,.inr ⟨HC.o,.inr ⟨GT.o,mz.o,rfl⟩⟩,rfl,jF.o.mono aa,(bH.o.trans (HB.o.mono aa))⟩
theorem Np (v1 v2:Value) (l1 l2:List Int) (w:World) (h1:Ints w v1 l1) (h2:Ints w v2 l2) :
  Calls Tryz.prog 21 #[v1,v2] w λe w'=>e=.returned (.bool (decide (l1=l2)))/\Below w.heap.size w w':=by
 have H1:=ad h1;have H2:=ad h2;obtain ⟨⟨a1,c1,rfl,_,_,_⟩,g4,_⟩:=h1;obtain ⟨⟨a2,c2,rfl,_,_,_⟩,k4,_⟩:=h2
 go_in
 by_cases hl:l1.length=l2.length
 .have dh:(l1.length:Int)=l2.length:=aa;have mE:=ad hl;have Ts:((l1.length:Int) != (l2.length:Int))=false:=by rw [dh];simp
  rw [dh] at Ts;clear hl;go_wp2;go_loopw [5] (λi wr=>∃ k:Nat,k<=l1.length/\i=.int .i64 k/\l1.take k=l2.take k/\Below w.heap.size w wr) (λi _=>l1.length-(intOf i).toNat)
  .exact ⟨0,aa,rfl,ag,xE⟩
  obtain ⟨k,hk,rfl,ht,hb⟩:=hrel;have HT:=ad ht;clear ht;by_cases hlt:k<l1.length
  .have hlt2:k<l2.length:=by have:=mE.o;omega
   obtain ⟨⟨ZA,c1',cI,_,_,g3⟩,_,_⟩:=H1.o.ext hb;obtain ⟨⟨a2',SB,eB,_,_,k3⟩,_,_⟩:=H2.o.ext hb;injection cI with e1 _ e2
   subst e1;subst e2;injection eB with e1 _ e2
   subst e1;subst e2;rcases g3 with h|⟨b1,o1,rfl,rp⟩
   .subst h;simp at hlt
   rcases k3 with h|⟨b2,o2,rfl,rq⟩
   .subst h;simp at hlt2
   have HB:=ad hb;have hc1:=rp k hlt;have hc2:=rq k hlt2;have HST:=ad (vw_ mE.o hlt HT.o);generalize hx:l1.getD k 0=x at *;generalize hy:l2.getD k 0=y at *;have HX:=ad hx;have HY:=ad hy;clear rp rq hx hy hb;by_cases hxy:x=y
   .have Su:=ad hxy;have hb:(x != y)=false:=by rw [Su.o];simp
    clear hxy;go_wp2_with fail;go_quiet (fail)
    go_wp2
    go_roundw
    .exact ⟨k+1,aa,by go_num,HST.o Su.o,by have hb:=HB.o;exact xE⟩
    simp [intOf];omega
   have hb:(x != y)=true:=by simp [hxy]
   have hne:l1≠l2:=λh=>hxy (by rw [<- HX.o,<- HY.o,h]);go_wp2_with fail;go_quiet (fail)
   go_wp2
   go_ret;exact ⟨bT (by simp [hne]),by have hb:=HB.o;exact xE⟩
  have heq:l1=l2:=by
   have h:=HT.o;rw [List.take_of_length_le aa,List.take_of_length_le (by have:=mE.o;omega)] at h;exact h
  go_wp2
  go_ret;exact ⟨bT (by simp [heq]),xE⟩
 have dh:¬ (l1.length:Int)=l2.length:=aa;have Ts:((l1.length:Int) != (l2.length:Int))=true:=by simp [dh]
 have hne:l1≠l2:=λh=>hl (by rw [h]);go_wp2;go_ret;exact ⟨bT (by simp [hne]),xE⟩
theorem a19_ (v:Value) (l:List Int) (x:Int) (w:World) (h:Ints w v l) :
  Calls Tryz.prog 29 #[v,.int .i64 x] w λe w'=>e=.returned (.bool (decide (x∈l)))/\w'=w:=by
 have H:=ad h;obtain ⟨⟨a,c,rfl,_,_,_⟩,g4,_⟩:=h
 go_in
 go_wp2
 go_loopw [5] (λi wr=>∃ k:Nat,k<=l.length/\i=.int .i64 k/\wr=w/\Hid (∀ y∈l.take k,y≠x)) (λi _=>l.length-(intOf i).toNat)
 .exact ⟨0,aa,rfl,rfl,ad ag⟩
 obtain ⟨k,hk,rfl,rfl,HN⟩:=hrel;by_cases hlt:k<l.length
 .have dh:(k:Int)<l.length:=aa;obtain ⟨b8,f8,rfl,-,Fq,Af,-⟩:=H.o.elem hlt;obtain ⟨y,hy⟩:∃ y,l.getD k 0=y:=⟨_,rfl⟩;rw [hy] at Fq Af;have HY:=ad hy;have HM:=ad Af;clear hy Af;by_cases hxy:y=x
  .have HX:=ad hxy;subst hxy;go_wp2;go_ret;exact ⟨bT (Eq.symm (decide_eq_true HM.o)),rfl⟩
  have HX:=ad hxy;go_wp2;go_roundw
  .exact ⟨k+1,aa,by go_num,trivial,ad (Us (P:=λy=>y≠x) hlt HN.o (by rw [HY.o];exact HX.o))⟩
  simp [intOf];omega
 obtain rfl:k=l.length:=aa;have hno:x ∉ l:=λhm=>by have:=HN.o x (by rw [List.take_length];exact hm);exact this rfl
 have gX:=ad hno;clear hno;go_wp2;go_ret;exact ⟨bT (Eq.symm (decide_eq_false gX.o)),rfl⟩
theorem a1k_ (h:l.Pairwise (· < ·)) {i:Nat} (hk:k<l.length) (hi:i<k):(l.take k).getD i 0<l.getD k 0:=by
 rw [List.getD_eq_getElem?_getD,List.getElem?_take_of_lt hi,List.getElem?_eq_getElem aa,List.getD_eq_getElem?_getD,List.getElem?_eq_getElem hk];exact (List.pairwise_iff_getElem.1 h) i k aa hk hi
theorem a1v_ (h:l.Pairwise (· < ·)) (hk:k<l.length):l.getD k 0 ∉ l.take k:=by
 intro hm;obtain ⟨i,hi,e⟩:=List.mem_iff_getElem.1 hm;have hik:i<k:=by rw [List.length_take] at hi;omega
 have:=a1k_ h hk hik;rw [List.getD_eq_getElem?_getD,List.getElem?_eq_getElem hi] at this;simp only [Option.getD_some] at this;omega
end
end Go.Proofs.YtbmgmlbmgogeaaaGreat
end
