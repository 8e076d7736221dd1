/- The statement IndexNextSaid: for every input the law returns true, and its arguments read as before. -/
import Derived.Test.YtbmgmlbmgogeaaaGreatB10
import Derived.Test.YtbmgmlbmgogeaaaGreatB7
import Derived.Test.YtbmgmlbmgogeaaaGreatB4
set_option linter.unusedVariables false
set_option linter.unusedSimpArgs false
set_option maxRecDepth 100000
set_option maxHeartbeats 4000000
section
variable {b:Bool}{f i:Int}{k:Nat}
namespace Go.Proofs.YtbmgmlbmgogeaaaGreat
section
open Go.RowKit Go.Maps Kal
def fW (L:IL) (i:Int) (b:Bool) (k:Nat):Prop:=b=true/\∃ j s,j<k/\L[j]? = some (i,s)
theorem fW.step {L:IL} {x:ai} (hn:fN L f i x b) (hL:ja L) {j:Int} {s:aE} (hk:L[k]? = some (j,s)) {y:ai} {c:Bool} (hy:df (gq s) f y c) :
  fW L i b (k+1)↔fW L i b k\/(j=i/\c=true/\y=x):=by
 have hm:=List.mem_of_getElem? hk;constructor
 .rintro ⟨hb,j2,t,hj,ht⟩;by_cases e:j2=k
  .subst e;rw [hk] at ht;injection ht with ht
   obtain ⟨rfl,rfl⟩:=Prod.mk.inj ht;refine .inr ⟨rfl,?_⟩;rcases hn.own with ⟨_,u,hu,hx⟩|⟨h0,_⟩
   .have:=UW hL hm hu rfl;obtain ⟨_,rfl⟩:=Prod.mk.inj this;obtain ⟨e1,e2⟩:=df.unique hy hx;exact ⟨e2,e1⟩
   rw [h0] at hb;cases hb
  exact .inl ⟨hb,j2,t,aa,ht⟩
 rintro (⟨hb,j2,t,hj,ht⟩|⟨rfl,rfl,rfl⟩)
 .exact ⟨hb,j2,t,aa,ht⟩
 exact ⟨(hn.low hm hy).1,k,s,aa,hk⟩
theorem fW.fin {L:IL} {x:ai} (hn:fN L f i x b):fW L i b L.length↔b=true:=by
 constructor
 .exact λh=>h.1
 intro hb;rcases hn.own with ⟨_,u,hu,_⟩|⟨h0,_⟩
 .obtain ⟨j,hj,e⟩:=List.mem_iff_getElem.1 hu;exact ⟨hb,j,u,hj,by rw [List.getElem?_eq_getElem hj,e]⟩
 rw [h0] at hb;cases hb
theorem fW.zero {L:IL}:¬ fW L i b 0:=λ⟨_,j,s,hj,_⟩=>aa
def Q2 (M:List a_) (L:IL) (i:Int) (b:Bool) (u:World) (ov iv:Value) (wr:World):Prop:=∃ (k:Nat) (own:Bool),k<=M.length/\iv=.int .i64 k/\ov=.bool own/\Hid (own=true↔fW L i b k)/\Hid (Below u.heap.size u wr)
theorem nf_ (v:Value) (A:List cB) (t:Int) (w:World) (h:wE w v A) (h1:-2147483648<=t) (h2:t<=2147483647) :
  Calls Tryz.prog 6 #[v,.int .i32 t] w λe w'=>e=.returned (.bool true)/\Below w.heap.size w w':=by
 have HS:=ad (th_ w);have HA:=ad h;have e1:-999999<=Int.tmod t 1000000/\Int.tmod t 1000000<=999999:=by
  rcases Int.le_total 0 t with h|h
  .rw [Int.tmod_eq_emod_of_nonneg h];omega
  have h5:Int.tmod t 1000000=-(Int.tmod (-t) 1000000):=by rw [Int.neg_tmod,Int.neg_neg]
  rw [h5,Int.tmod_eq_emod_of_nonneg aa];omega
 obtain ⟨a,ha⟩:∃ a,Int.tmod t 1000000=a:=⟨_,rfl⟩;rw [ha] at e1;have HT:=ad ha;clear h ha
 go_in
 go_upto_region 4 with (first|(go_at_call 12;(with_reducible refine HS.o.mono ?_);rintro e w1 ⟨rfl,hb1⟩;have bo:=ad hb1;clear hb1)|(go_at_call 13;(with_reducible refine (wn_ v A w1 (HA.o.below bo.o)).mono ?_);rintro e w2 ⟨L,rfl,iW,hb2⟩;have gH:=ad iW;have bj:=ad (Et bo.o hb2);clear iW hb2))
 rw [HT.o];obtain ⟨f,hf⟩:∃ f,wrap64 (a-5000)=f:=⟨_,rfl⟩;rw [hf];have hfb:-1004999<=f/\f<=994999:=by rw [<- hf,IntWalk.wrap64_in (a-5000) ⟨aa,aa⟩];omega
 clear hf;have qk:Hid (aP f):=ad ⟨aa,aa⟩;obtain ⟨⟨n,E,hn,hI⟩,⟨rv,M,hM,hR⟩,eV⟩:=gH.o;have HI:=ad hI;have HR:=ad hR;have kz:=ad eV;clear hI hR eV;go_upto_region 5 with (go_at_call 19;((with_reducible refine (It _ _ n _ E L f w2 HI.o qk.o).mono ?_);rintro e w3 ⟨i,x,b,rfl,hn,hb⟩;have mr:=ad hn;have cm:=ad hb;clear hn hb))
 refine iR (F:=λU=>af U w3.heap.size #[.int .i64 x.day,.int .i64 x.frm,.int .i64 x.fin] 46/\Below w2.heap.size w2 U) ⟨af.new w3 _ _,cm.o.trans ((Ea (Er w3) _).mono cm.o.size)⟩ ?_;rintro u ⟨hx,hu⟩;have HX:=ad hx;have sD:=ad (HR.o.ext hu);have xR:=ad (bj.o.trans (hu.mono bj.o.size));have x1:=(hx.cells 1).1;have gO:b=true->¬ x.frm<f:=λhb=>by
  rcases mr.o.own with ⟨_,s,_,hn⟩|⟨h0,_⟩
  .have:=hn.ge.2;omega
  rw [h0] at hb;cases hb
 clear hx hu e1;obtain ⟨ra,rc,rfl⟩:=HR.o.form;have nB:=ad gO;clear gO;have H0:Hid (Q2 M L i b u (.bool false) (.int .i64 0) u):=ad ⟨0,false,aa,rfl,rfl,ad ⟨λh=>(nomatch h),λh=>absurd h fW.zero⟩,ad (Below.refl _ _)⟩;cases b
 .clear nB;go_wp2_with fail;clear x1;go_loopw [13,14] (λov iv wr=>Q2 M L i false u ov iv wr) (λ_ iv _=>M.length-(intOf iv).toNat)
  .exact H0.o
  obtain ⟨k,own,hk,rfl,rfl,HO,HB⟩:=hrel;have x1:=al.cell HB.o (HX.o.cells 1).1;have q0:=((sD.o.ext HB.o).box.cells 0).1;by_cases hlt:k<M.length
  .have dh:(k:Int)<M.length:=aa;obtain ⟨rb,ro,m,Pj,hbl,hm,hl,hit,e0,e1,e2,e3⟩:=sD.o.get hlt;subst Pj;replace e0:=al.cell HB.o e0;replace e1:=al.cell HB.o e1;replace e2:=al.cell HB.o e2;replace e3:=al.cell HB.o e3;have HL:=ad hl;have dZ:=ad (Iq _ m.cv m.ev m.s f wr (hit.1.ext HB.o) (kz.o _ (List.mem_of_getElem? hl)).2.ms qk.o);have HQ:=ad (λW (hb:Below wr.heap.size wr W)=>And.intro ((sD.o.ext (Et HB.o hb)).box.cells 0).1 (And.intro (al.cell hb e0) (al.cell (Et HB.o hb) (HX.o.cells 1).1)));have L4:=ad (λW (hb:Below wr.heap.size wr W)=>And.intro (al.cell (Et HB.o hb) (HX.o.cells 0).1) (al.cell (Et HB.o hb) (HX.o.cells 2).1));clear hm hl hit;have r_:wr.heap.size<=wr.heap.size:=Nat.le_refl _;go_upto_region 12 with (go_at_call 30;((with_reducible refine dZ.o.mono ?_);rintro e w4 ⟨y,c,rfl,hn,hb⟩;have HN:=ad hn;have cD:=ad hb;clear hn hb))
   refine iR (F:=λU=>af U w4.heap.size #[.int .i64 y.day,.int .i64 y.frm,.int .i64 y.fin] 46/\Below wr.heap.size wr U) ⟨af.new w4 _ _,cD.o.trans ((Ea (Er w4) _).mono cD.o.size)⟩ ?_;rintro u5 ⟨vD,vC⟩;clear e0 e1 e2 e3 x1 q0;obtain ⟨q0,e0,x1⟩:=HQ.o _ vC;obtain ⟨x0,x2⟩:=L4.o _ vC;have y0:=(vD.cells 0).1;have y1:=(vD.cells 1).1;have y2:=(vD.cells 2).1;have qC:=ad (Et HB.o vC);have HST:=ad (fW.step mr.o sD.o.asc HL.o HN.o);have heq:=λW=>zj y x W;obtain ⟨Q,hQ⟩:∃ Q:Bool,decide (y=x)=Q:=⟨_,rfl⟩;rw [hQ] at heq;have oC:=ad hQ;clear vD vC hQ;cases c
   .cases own
    .by_cases hid:m.id=i
     .go_wp2
      go_roundw
      .exact ⟨k+1,false,aa,by go_num,rfl,ad ⟨λh=>(nomatch h),λh=>(HST.o.1 h).elim (λh=>HO.o.2 h) (λh=>(nomatch h.2.1))⟩,qC⟩
      simp [intOf];omega
     go_wp2
     go_roundw
     .exact ⟨k+1,false,aa,by go_num,rfl,ad ⟨λh=>(nomatch h),λh=>(HST.o.1 h).elim (λh=>HO.o.2 h) (λh=>absurd h.1 hid)⟩,qC⟩
     simp [intOf];omega
    go_wp2
    go_roundw
    .exact ⟨k+1,true,aa,by go_num,rfl,ad ⟨λ_=>HST.o.2 (.inl (HO.o.1 rfl)),λ_=>rfl⟩,qC⟩
    simp [intOf];omega
   obtain ⟨uR,hle⟩:=mr.o.low (List.mem_of_getElem? HL.o) HN.o;cases uR
  have B4:k=M.length:=aa;have hown:own=false:=by
   have h1:=HO.o;rw [B4,<- sD.o.len] at h1;have h2:=h1.trans (fW.fin mr.o);cases own <;> simp_all
  subst hown;go_wp2;go_ret;exact ⟨rfl,xR.o.trans (HB.o.mono xR.o.size)⟩
 have gO:=nB.o rfl;go_wp2_with fail;clear gO nB;clear x1;go_loopw [13,14] (λov iv wr=>Q2 M L i true u ov iv wr) (λ_ iv _=>M.length-(intOf iv).toNat)
 .exact H0.o
 obtain ⟨k,own,hk,rfl,rfl,HO,HB⟩:=hrel;have x1:=al.cell HB.o (HX.o.cells 1).1;have q0:=((sD.o.ext HB.o).box.cells 0).1;by_cases hlt:k<M.length
 .have dh:(k:Int)<M.length:=aa;obtain ⟨rb,ro,m,Pj,hbl,hm,hl,hit,e0,e1,e2,e3⟩:=sD.o.get hlt;subst Pj;replace e0:=al.cell HB.o e0;replace e1:=al.cell HB.o e1;replace e2:=al.cell HB.o e2;replace e3:=al.cell HB.o e3;have HL:=ad hl;have dZ:=ad (Iq _ m.cv m.ev m.s f wr (hit.1.ext HB.o) (kz.o _ (List.mem_of_getElem? hl)).2.ms qk.o);have HQ:=ad (λW (hb:Below wr.heap.size wr W)=>And.intro ((sD.o.ext (Et HB.o hb)).box.cells 0).1 (And.intro (al.cell hb e0) (al.cell (Et HB.o hb) (HX.o.cells 1).1)));have L4:=ad (λW (hb:Below wr.heap.size wr W)=>And.intro (al.cell (Et HB.o hb) (HX.o.cells 0).1) (al.cell (Et HB.o hb) (HX.o.cells 2).1));clear hm hl hit;have r_:wr.heap.size<=wr.heap.size:=Nat.le_refl _;go_upto_region 12 with (go_at_call 30;((with_reducible refine dZ.o.mono ?_);rintro e w4 ⟨y,c,rfl,hn,hb⟩;have HN:=ad hn;have cD:=ad hb;clear hn hb))
  refine iR (F:=λU=>af U w4.heap.size #[.int .i64 y.day,.int .i64 y.frm,.int .i64 y.fin] 46/\Below wr.heap.size wr U) ⟨af.new w4 _ _,cD.o.trans ((Ea (Er w4) _).mono cD.o.size)⟩ ?_;rintro u5 ⟨vD,vC⟩;clear e0 e1 e2 e3 x1 q0;obtain ⟨q0,e0,x1⟩:=HQ.o _ vC;obtain ⟨x0,x2⟩:=L4.o _ vC;have y0:=(vD.cells 0).1;have y1:=(vD.cells 1).1;have y2:=(vD.cells 2).1;have qC:=ad (Et HB.o vC);have HST:=ad (fW.step mr.o sD.o.asc HL.o HN.o);have heq:=λW=>zj y x W;obtain ⟨Q,hQ⟩:∃ Q:Bool,decide (y=x)=Q:=⟨_,rfl⟩;rw [hQ] at heq;have oC:=ad hQ;clear vD vC hQ;cases c
  .cases own
   .by_cases hid:m.id=i
    .go_wp2
     go_roundw
     .exact ⟨k+1,false,aa,by go_num,rfl,ad ⟨λh=>(nomatch h),λh=>(HST.o.1 h).elim (λh=>HO.o.2 h) (λh=>(nomatch h.2.1))⟩,qC⟩
     simp [intOf];omega
    go_wp2
    go_roundw
    .exact ⟨k+1,false,aa,by go_num,rfl,ad ⟨λh=>(nomatch h),λh=>(HST.o.1 h).elim (λh=>HO.o.2 h) (λh=>absurd h.1 hid)⟩,qC⟩
    simp [intOf];omega
   go_wp2
   go_roundw
   .exact ⟨k+1,true,aa,by go_num,rfl,ad ⟨λ_=>HST.o.2 (.inl (HO.o.1 rfl)),λ_=>rfl⟩,qC⟩
   simp [intOf];omega
  obtain ⟨uR,hle⟩:=mr.o.low (List.mem_of_getElem? HL.o) HN.o;have OY:¬ y.frm<x.frm:=aa;clear uR hle;cases own
  .by_cases hid:m.id=i
   .cases Q
    .go_wp2
     go_roundw
     .exact ⟨k+1,false,aa,by go_num,rfl,ad ⟨λh=>(nomatch h),λh=>(HST.o.1 h).elim (λh=>HO.o.2 h) (λh=>absurd h.2.2 (of_decide_eq_false oC.o))⟩,qC⟩
     simp [intOf];omega
    go_wp2
    go_roundw
    .exact ⟨k+1,true,aa,by go_num,rfl,ad ⟨λ_=>HST.o.2 (.inr ⟨hid,rfl,of_decide_eq_true oC.o⟩),λ_=>rfl⟩,qC⟩
    simp [intOf];omega
   go_wp2
   go_roundw
   .exact ⟨k+1,false,aa,by go_num,rfl,ad ⟨λh=>(nomatch h),λh=>(HST.o.1 h).elim (λh=>HO.o.2 h) (λh=>absurd h.1 hid)⟩,qC⟩
   simp [intOf];omega
  go_wp2
  go_roundw
  .exact ⟨k+1,true,aa,by go_num,rfl,ad ⟨λ_=>HST.o.2 (.inl (HO.o.1 rfl)),λ_=>rfl⟩,qC⟩
  simp [intOf];omega
 have B4:k=M.length:=aa;have hown:own=true:=by
  have h1:=HO.o;rw [B4,<- sD.o.len] at h1;have h2:=h1.trans (fW.fin mr.o);cases own <;> simp_all
 subst hown;go_wp2;go_ret;exact ⟨rfl,xR.o.trans (HB.o.mono xR.o.size)⟩
end
section
open Go.ChangeShapes Go.WideShapes Go.ChangeAt Go.RowKit Go.Joins Kal
theorem IndexNext_lifted (os:Os) (started:os.Started) (H:Type) (enc:TypeId × Value->H) :
  ReturnsInHanded {} Tryz.checked os 6 .any (Rows.indexNextSpec.pre6 enc Tryz.prog Tryz.f6 Rows.indexNextRow.domain false) (Rows.indexNextSpec.post enc Tryz.prog Tryz.f6 false true false false):=by
 refine returnsInHanded_of_change (C:=Tryz.checked) zi_ started (by kernel_rfl) Tryz.func6
  (ChangeSpec.witness6 (enc:=enc) (C:=Tryz.checked) false ⟨#[],#[.slice none 0 0,.int .i32 0],[]⟩ 8 (by kernel_rfl) (by kernel_rfl) (by kernel_rfl) (by kernel_rfl)) ?_
 intro W base args ds gs before xr hW hcnd _;have hval:∀ (j:Nat) t v,Tryz.f6.params[j]? = some t->args[j]? = some v->Value.okWide Tryz.prog W .any base t v:=xr;have Oa:=hW;obtain ⟨p,q,oS,hV,rfl,hfz,fR⟩:=hW;have hA:DataW.TrodAll enc Tryz.prog W 0 (λ_=>true) true Tryz.f6.params.toList args.toList ds p:=oS;rw [Tryz.params6] at hA hval;obtain ⟨v0,vs0,d0,ds0,p0,q0,Tg,rfl,rfl,h0,r0⟩:=trodAll_cons hA;obtain ⟨v1,vs1,d1,ds1,p1,q1,rfl,rfl,rfl,h1,r1⟩:=trodAll_cons r0;obtain ⟨rfl,rfl,rfl⟩:=trodAll_nil r1;obtain rfl:args=#[v0,v1]:=by cases args;simp_all
 obtain ⟨rfl,rfl⟩:=trodVars_none hV;have k0:=h0;have lt0:∀ x∈p0,x.block<W.heap.size:=by obtain ⟨m,hm⟩:=k0;exact DataW.trod_lt m _ _ _ hm
 obtain ⟨L0,w0⟩:=ve_ (hval 0 22 v0 rfl rfl) h0;obtain ⟨m1,rfl,rfl,rfl,w1⟩:=open_int Tryz.underlying21 (hval 1 21 v1 rfl rfl) h1;have b1:=bounds_i32 w1;clear oS xr;refine (nf_ v0 L0 m1 W w0 b1.1 b1.2).mono λe W' ⟨he,bel⟩=>?_;subst he;exact ⟨_,rfl,_,_,_,[],_,[],Oa,trodAll_mk1 (shut_bool Tryz.underlying4 _),(trodAll_cons_mk (Below.trod xk_ (by kernel_rfl) (of_decide_eq_true (by kernel_rfl)) k0 bel lt0) (trodAll_cons_mk (shut_int Tryz.underlying21 w1) trodAll_mk0)),rfl,bel.frame _,λh=>by cases h⟩
theorem IndexNext_said:Rows.IndexNextSaid:=
 OpenClaim.holds_of_wide 6 Tryz.f6 rfl rfl rfl rfl rfl rfl rfl ⟨rfl,rfl,rfl,rfl,rfl⟩ rfl rfl rfl rfl rfl (by kernel_rfl) Tryz.func6 (by kernel_rfl)
  (of_decide_eq_true (by kernel_rfl)) (by unfold Func.isWrapper;first|(rw [if_pos (by decide +kernel)];kernel_rfl)|(rw [if_neg (by decide +kernel)];exact ⟨rfl,rfl⟩))
  (λos started H enc _=>IndexNext_lifted os started H enc)
#print axioms IndexNext_said
end
end Go.Proofs.YtbmgmlbmgogeaaaGreat
end
