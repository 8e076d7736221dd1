/- The statement IndexCollisionsSaid: for every input the law returns true, and its arguments read as before. -/
import Derived.Test.YtbmgmlbmgogeaaaGreatB10
import Derived.Test.YtbmgmlbmgogeaaaGreatB9
import Derived.Test.YtbmgmlbmgogeaaaGreatB8
import Derived.Test.YtbmgmlbmgogeaaaGreatB7
import Derived.Test.YtbmgmlbmgogeaaaGreatB4
set_option linter.unusedVariables false
set_option linter.unusedSimpArgs false
set_option maxRecDepth 100000
set_option maxHeartbeats 4000000
section
variable {b:Bool}{id:Int}{l:List Int}
namespace Go.Proofs.YtbmgmlbmgogeaaaGreat
section
open Go.RowKit Go.Maps Kal
theorem a2k_ {S t:aE} {L:IL} (h:jq S L l 0) (hL:ja L) (hm:(id,t)∈L) {r:Bool} {kk:Int} (sY:nM t S r kk):kk=0/\decide (id∈l)=r:=by
 obtain ⟨b,hb,hl⟩:=h.all rfl hL id t hm;obtain ⟨rfl,rfl⟩:=sY.unique hb;refine ⟨rfl,?_⟩;rw [Bool.eq_iff_iff,hl];simp
theorem a21_ {t:aE} {L:IL} (h:jq t L l 0) (hL:ja L) (hm:(id,t)∈L) (ht:EA t) {y:ai} (hx:df (gq t) (-10000) y b):decide (id∈l)=b:=by
 obtain ⟨c,hc,hl⟩:=h.all rfl hL id t hm;rw [Bool.eq_iff_iff,a29_ ht.ms ht.near hx,<- a28_ ht.ms hc,hl];simp
def a2c_ (n:Nat) (u:World) (iv:Value) (wr:World):Prop:=∃ k:Nat,k<=n/\iv=.int .i64 k/\Hid (Below u.heap.size u wr)
theorem a1i_ (lv:Value) (A:List cB) (x:jh) (w:World) (h:wE w lv A) (hx:Ad w x) :
  Calls Tryz.prog 5 #[lv,x.val] w λe w'=>e=.returned (.bool true)/\Below w.heap.size w w':=by
 obtain ⟨ll,ml,el,hx⟩:=hx;obtain ⟨dv,mv,ln,ev⟩:=x;dsimp only [jh.val];have HS:=ad th_;have HA:=ad h;obtain ⟨S,hS⟩:∃ S,GN ll ml ln el=S:=⟨_,rfl⟩;have fU:Hid (EA S):=ad (hS ▸ sz_ hx.mins.rng hx.ext.rng);have A_:Hid (∀ W,Below w.heap.size w W->Calls Tryz.prog 17 #[.agg #[dv,mv,.int .u8 ln,ev]] W (JG S W)):=ad (λW hb=>hS ▸ sy_ ⟨dv,mv,ln,ev⟩ ll ml el W (hx.below hb));clear h hx hS
 go_in
 go_upto_region 1 with fail
 refine iR (F:=λU=>af U w.heap.size #[dv,mv,.int .u8 ln,ev] 27/\Below w.heap.size w U) ⟨af.new w _ _,Ea (Er w) _⟩ ?_;rintro u ⟨hb,hu⟩;have HB:=ad hb;have HU:=ad hu;have hul:=hb.lt;clear hb hu;go_upto_region 3 with (first|(go_at_call 12;((with_reducible refine (HS.o u).mono ?_);rintro e w1 ⟨rfl,hb1⟩;have bo:=ad hb1;have hz1:=hb1.size;clear hb1))|(go_at_call 13;((with_reducible refine (wn_ lv A w1 ((HA.o.below HU.o).below bo.o)).mono ?_);rintro e w2 ⟨L,rfl,iW,hb2⟩;have gH:=ad iW;have bj:=ad hb2;clear iW hb2)))
 have HB02:Hid (Below w.heap.size w w2):=ad (HU.o.trans ((bo.o.trans (bj.o.mono bo.o.size)).mono HU.o.size));have hbr:=(HB.o.below bo.o).upto bj.o aa;obtain ⟨rv,M,hM,hR⟩:=gH.o.ref;obtain ⟨ra,rc,rfl⟩:=hR.form;have iQ:=ad gH.o.x;have kB:=ad hR;have kz:=ad gH.o.made;have hzz:=gH.o.size;have x0:=(hbr.cells 0).1;have x1:=(hbr.cells 1).1;have x2:=(hbr.cells 2).1;have x3:=(hbr.cells 3).1;clear hR gH hbr;go_upto_region 4 with (go_at_call 17;((with_reducible refine (A_.o w2 HB02.o).mono ?_);rintro e w3 ⟨y1,z1,y2,z2,rfl,hs3,hb3⟩;have fx:=ad hs3;have cm:=ad hb3;clear hs3 hb3))
 refine iR (F:=λU=>af U w3.heap.size #[.slice y1 S.cls.length z1,.int .i64 S.len,.slice y2 S.ext.length z2] 43/\Below w3.heap.size w3 U) ⟨af.new w3 _ _,Ea (Er w3) _⟩ ?_;rintro w4 ⟨Jw,hb4⟩;clear x0 x1 x2 x3;have L_:=ad Jw;have cD:=ad (Et cm.o hb4);have kW:=ad (fx.o.ext hb4);have kD:=ad (iQ.o.ext cD.o);have Sh:=ad (kB.o.ext cD.o);have HBW4:=ad (HB02.o.trans (cD.o.mono HB02.o.size));have x0:=(Jw.cells 0).1;have x1:=(Jw.cells 1).1;have x2:=(Jw.cells 2).1;clear Jw hb4;go_upto_region 5 with (go_at_call 16;((with_reducible refine (a1c_ kD.o kW.o fU.o.ms).mono ?_);rintro e w5 ⟨l,ke,la,lc,hm,rfl,ho,hb⟩;have KY:=ad hm;have kT:=ad ho.ints;have cr:=ad hb;clear hm ho hb))
 clear x0 x1 x2;have YF:=ad KY.o.err;have H0:Hid (a2c_ M.length w5 (.int .i64 0) w5):=ad ⟨0,aa,rfl,ad (Below.refl _ _)⟩;go_wp2;go_loopw [12] (λiv wr=>a2c_ M.length w5 iv wr) (λiv _=>M.length-(intOf iv).toNat)
 .exact H0.o
 obtain ⟨k,hk,rfl,HB⟩:=hrel;obtain ⟨wk,r_⟩:∃ x,x=wr:=⟨_,rfl⟩;subst r_;have HBk:=ad (Et cr.o HB.o);have q0:=((Sh.o.ext HBk.o).box.cells 0).1;by_cases hlt:k<M.length
 .have dh:(k:Int)<M.length:=aa;obtain ⟨rb,ro,m,Pj,hbl,hm,hl,hit,e0,e1,e2,e3⟩:=(Sh.o.ext HBk.o).get hlt;subst Pj;have hmem:=List.mem_of_getElem? hl;obtain ⟨r,kk,sY⟩:=v9_ m.s S;have yq:=ad sY;have HT:=ad (kz.o _ hmem).2;have ku:=ad hit.1;have jT:=ad hmem;have il:=ad (λW (hb:Below wk.heap.size wk W)=>wy_ _ _ _ _ _ _ m.s S r kk sY W (hit.1.ext hb) (kW.o.ext (Et HBk.o hb)) HT.o.ms fU.o.ms);have hzk:=L_.o.below HBk.o;have x0:=(hzk.cells 0).1;have x1:=(hzk.cells 1).1;have x2:=(hzk.cells 2).1;clear hm hl hit sY hzk hmem;go_upto_region 10 with fail
  refine jZ (w0:=wk) [0,1,2,3,4,5,6,7,8,9,10,11,12,13,14] [] (λv=>⟨#[lv,.agg #[dv,mv,Value.int IntKind.u8 ln,ev],undef,.pointer (some ⟨w.heap.size,0,none⟩),u4,.bool true,.pointer (some ⟨w1.heap.size+1,0,none⟩),.pointer (some ⟨w1.heap.size+2,0,none⟩),.bool true,.pointer (some ⟨w3.heap.size,0,none⟩),.slice la l.length lc,.int .i64 ke,.int .i64 ↑k,v 13,v 14,u15,u16,u17,u18,.bool true,.tuple #[.pointer (some ⟨w1.heap.size+1,0,none⟩),.pointer (some ⟨w1.heap.size+2,0,none⟩),.bool true],lv,.tuple #[.pointer (some ⟨w1.heap.size+1,0,none⟩),.pointer (some ⟨w1.heap.size+2,0,none⟩),.bool true],.pointer (some ⟨w1.heap.size+1,0,none⟩),.pointer (some ⟨w1.heap.size+2,0,none⟩),.bool true,.agg #[dv,mv,Value.int IntKind.u8 ln,ev],.agg #[.slice y1 S.cls.length z1,.int .i64 S.len,.slice y2 S.ext.length z2],.tuple #[.slice la l.length lc,.int .i64 ke],.pointer (some ⟨w1.heap.size+1,0,none⟩),.agg #[.slice y1 S.cls.length z1,.int .i64 S.len,.slice y2 S.ext.length z2],.tuple #[.slice la l.length lc,.int .i64 ke],.slice la l.length lc,.int .i64 ke,.bool true,.bool false,.int .i64 ↑k,.pointer (some ⟨w1.heap.size+2,0,none⟩),.pointer (some ⟨w1.heap.size+2,0,none⟩),.pointer (some ⟨w1.heap.size+2,0,none⟩),.slice (some ⟨rb,ro,none⟩) M.length rc,.int .i64 ↑M.length,.bool true,u43,u44,v 10,v 0,v 1,v 2,v 3,v 4,v 5,v 6,v 7,v 8,v 9,v 11,v 12,u58,u59,u60,u61,u62,u63,u64,u65,u66,u67,u68,u69,u70,u71,u72,u73,u74,u75,u76,u77,u78,u79,u80,u81,u82,u83,u84,u85,u86,u87,u88,u89,u90,u91,u92,u93,u94,u95,u96,u97,u98,u99,u100,u101,u102,u103,u104,u105,u106,u107,u108,u109,u110,u111,u112,u113,u114,u115,u116,u117,u118,undef,undef,undef,undef,undef,undef,undef,undef,undef],[]⟩) [.pointer (some ⟨w1.heap.size+2,0,none⟩),.pointer (some ⟨w1.heap.size+2,0,none⟩),.pointer (some ⟨w1.heap.size+2,0,none⟩),.slice (some ⟨rb,ro,none⟩) M.length rc,.int .i64 (k:Int),.pointer (some ⟨rb,ro+k*4,none⟩),.pointer (some ⟨rb,ro+k*4+1,none⟩),.agg #[m.cv,.int .i64 m.s.len,m.ev],.agg #[.slice y1 S.cls.length z1,.int .i64 S.len,.slice y2 S.ext.length z2],.tuple #[.bool r,.int .i64 kk],.tuple #[.bool r,.int .i64 kk],.bool r,.int .i64 kk,.bool r,.int .i64 kk] (λW=>W.cell? ⟨w1.heap.size+2,0,none⟩=some (.slice (some ⟨rb,ro,none⟩) M.length rc)/\W.cell? ⟨rb,ro+k*4+1,none⟩=some m.cv/\W.cell? ⟨rb,ro+k*4+2,none⟩=some (.int .i64 m.s.len)/\W.cell? ⟨rb,ro+k*4+3,none⟩=some m.ev/\W.cell? ⟨w3.heap.size,0,none⟩=some (.slice y1 S.cls.length z1)/\W.cell? ⟨w3.heap.size,1,none⟩=some (.int .i64 S.len)/\W.cell? ⟨w3.heap.size,2,none⟩=some (.slice y2 S.ext.length z2)/\Below wk.heap.size wk W) (λW hb=>⟨al.cell hb q0,al.cell hb e1,al.cell hb e2,al.cell hb e3,al.cell hb x0,al.cell hb x1,al.cell hb x2,hb⟩) ?steps ?fin (λj=>match j with|0=>u46|1=>u47|2=>u48|3=>u49|4=>u50|5=>u51|6=>u52|7=>u53|8=>u54|9=>u55|10=>u45|11=>u56|12=>u57|13=>u13|14=>u14|_=>undef)
  case steps=>
   refine .c [] rfl ?_ (.c [0] rfl ?_ (.c [1] rfl ?_ (.c [2] rfl ?_ (.c [] rfl ?_ (.c [3,4] rfl ?_ (.c [5] rfl ?_ (.c [6] rfl ?_ (.c [] rfl ?_ (.c [7,8] rfl ?_ (.c [9] rfl ?_ (.c [10] rfl ?_ (.c [10] rfl ?_ (.c [11] rfl ?_ (.c [12] rfl ?_ (.n)))))))))))))));all_goals try exact kq
   all_goals
    rintro v W hb ⟨g0,g1,g2,g3,g4,g5,g6,g7⟩;refine .inl ⟨rfl,λK hK=>?_⟩;simp only [ov,aD,Nat.reduceBEq,cond_true,cond_false];go_wp2_with (go_at_call 28;(with_reducible refine (il.o _ g7).mono ?_);rintro e w9 ⟨rfl,bg⟩);exact aU (hK w9 bg) (by simp [ov,aD])
  case fin=>
   rintro W3 hb3 ⟨g0,g1,g2,g3,g4,g5,g6,-⟩;show wpList _ _ _ [] _ _;simp only [aD];have cm:=ad (Et HBk.o hb3);have vQ:=ad (Et HB.o hb3);have mB:=ad (ku.o.ext hb3);replace e0:=al.cell hb3 e0;clear x0 x1 x2 q0 e1 e2 e3 g4 g5 g6;obtain he|he:=YF.o
   .subst he;obtain ⟨hkk,hr⟩:=a2k_ KY.o kD.o.asc jT.o yq.o;subst hkk;have HHA:=ad (a19_ _ l m.id W3 (kT.o.ext (Et HB.o hb3)));rw [hr] at HHA;clear hr hb3;go_upto_region 13 with (go_at_call 29;(with_reducible refine HHA.o.mono ?_);rintro e W4 ⟨rfl,e4⟩;obtain rfl:W3=W4:=e4.symm)
    go_upto_region 14 with (go_at_call 16;((with_reducible refine (a1c_ (kD.o.ext cm.o) mB.o HT.o.ms).mono ?_);rintro e w6 ⟨l2,k2,a2,c2,ic,rfl,ho,hb⟩;have KV:=ad ic;have Dq:=ad ho.ints;have bO:=ad hb;clear ic ho hb))
    replace e0:=al.cell bO.o e0;replace g0:=al.cell bO.o g0;replace g1:=al.cell bO.o g1;replace g2:=al.cell bO.o g2;replace g3:=al.cell bO.o g3;go_upto_region 15 with (go_at_call 30;((with_reducible refine (Iq _ m.cv m.ev m.s (-10000) w6 (mB.o.ext bO.o) HT.o.ms (by unfold aP;omega)).mono ?_);rintro e w7 ⟨y,b,rfl,hn,hb⟩;have Y5:=ad hn;have gF:=ad hb;clear hn hb))
    refine iR (F:=λU=>Below w6.heap.size w6 U) (gF.o.trans ((Ea (Er w7) _).mono gF.o.size)) ?_;rintro w8 ee;replace e0:=al.cell ee e0;replace g0:=al.cell ee g0;clear g1 g2 g3;have gG:=ad (Et vQ.o (Et bO.o ee));obtain he|he:=KV.o.err
    .subst he;have hd:=a21_ KV.o kD.o.asc jT.o HT.o Y5.o;have YO:=ad (a19_ _ l2 m.id w8 (Dq.o.ext ee));rw [hd] at YO;clear hd ee;go_wp2_with (go_at_call 29;(with_reducible refine YO.o.mono ?_);rintro e W4 ⟨rfl,e4⟩;obtain rfl:w8=W4:=e4.symm);go_roundw
     .exact ⟨k+1,aa,by go_num,gG⟩
     simp [intOf];omega
    subst he;clear ee;go_wp2;go_roundw
    .exact ⟨k+1,aa,by go_num,gG⟩
    simp [intOf];omega
   subst he;clear hb3;go_upto_region 13 with fail
   go_upto_region 14 with (go_at_call 16;((with_reducible refine (a1c_ (kD.o.ext cm.o) mB.o HT.o.ms).mono ?_);rintro e w6 ⟨l2,k2,a2,c2,ic,rfl,ho,hb⟩;have KV:=ad ic;have Dq:=ad ho.ints;have bO:=ad hb;clear ic ho hb))
   replace e0:=al.cell bO.o e0;replace g0:=al.cell bO.o g0;replace g1:=al.cell bO.o g1;replace g2:=al.cell bO.o g2;replace g3:=al.cell bO.o g3;go_upto_region 15 with (go_at_call 30;((with_reducible refine (Iq _ m.cv m.ev m.s (-10000) w6 (mB.o.ext bO.o) HT.o.ms (by unfold aP;omega)).mono ?_);rintro e w7 ⟨y,b,rfl,hn,hb⟩;have Y5:=ad hn;have gF:=ad hb;clear hn hb))
   refine iR (F:=λU=>Below w6.heap.size w6 U) (gF.o.trans ((Ea (Er w7) _).mono gF.o.size)) ?_;rintro w8 ee;replace e0:=al.cell ee e0;replace g0:=al.cell ee g0;clear g1 g2 g3;have gG:=ad (Et vQ.o (Et bO.o ee));obtain he|he:=KV.o.err
   .subst he;have hd:=a21_ KV.o kD.o.asc jT.o HT.o Y5.o;have YO:=ad (a19_ _ l2 m.id w8 (Dq.o.ext ee));rw [hd] at YO;clear hd ee;go_wp2_with (go_at_call 29;(with_reducible refine YO.o.mono ?_);rintro e W4 ⟨rfl,e4⟩;obtain rfl:w8=W4:=e4.symm);go_roundw
    .exact ⟨k+1,aa,by go_num,gG⟩
    simp [intOf];omega
   subst he;clear ee;go_wp2;go_roundw
   .exact ⟨k+1,aa,by go_num,gG⟩
   simp [intOf];omega
 obtain rfl:k=M.length:=aa;obtain he|he:=YF.o
 .subst he;go_wp2;go_ret;exact ⟨rfl,HBW4.o.trans (HBk.o.mono HBW4.o.size)⟩
 subst he;go_wp2;go_ret;exact ⟨rfl,HBW4.o.trans (HBk.o.mono HBW4.o.size)⟩
end
section
open Go.ChangeShapes Go.WideShapes Go.ChangeAt Go.RowKit Go.Joins Kal
theorem IndexCollisions_lifted (os:Os) (started:os.Started) (H:Type) (enc:TypeId × Value->H) :
  ReturnsInHanded {} Tryz.checked os 5 .any (Rows.indexCollisionsSpec.pre6 enc Tryz.prog Tryz.f5 Rows.indexCollisionsRow.domain false) (Rows.indexCollisionsSpec.post enc Tryz.prog Tryz.f5 false true false false):=by
 refine returnsInHanded_of_change (C:=Tryz.checked) zi_ started (by kernel_rfl) Tryz.func5
  (ChangeSpec.witness6 (enc:=enc) (C:=Tryz.checked) false ⟨#[],#[.slice none 0 0,.agg #[.slice none 0 0,.slice none 0 0,.int .u8 0,.slice none 0 0]],[]⟩ 8 (by kernel_rfl) (by kernel_rfl) (by kernel_rfl) (by kernel_rfl)) ?_
 intro W base args ds gs before xr hW hcnd _;have hval:∀ (j:Nat) t v,Tryz.f5.params[j]? = some t->args[j]? = some v->Value.okWide Tryz.prog W .any base t v:=xr;have Oa:=hW;obtain ⟨p,q,oS,hV,rfl,hfz,fR⟩:=hW;have hA:DataW.TrodAll enc Tryz.prog W 0 (λ_=>true) true Tryz.f5.params.toList args.toList ds p:=oS;rw [Tryz.params5] at hA hval;obtain ⟨v0,vs0,d0,ds0,p0,q0,Tg,rfl,rfl,h0,r0⟩:=trodAll_cons hA;obtain ⟨v1,vs1,d1,ds1,p1,q1,rfl,rfl,rfl,h1,r1⟩:=trodAll_cons r0;obtain ⟨rfl,rfl,rfl⟩:=trodAll_nil r1;obtain rfl:args=#[v0,v1]:=by cases args;simp_all
 obtain ⟨rfl,rfl⟩:=trodVars_none hV;have k0:=h0;have lt0:∀ x∈p0,x.block<W.heap.size:=by obtain ⟨m,hm⟩:=k0;exact DataW.trod_lt m _ _ _ hm
 obtain ⟨L0,w0⟩:=ve_ (hval 0 22 v0 rfl rfl) h0;have k1:=h1;have lt1:∀ x∈p1,x.block<W.heap.size:=by obtain ⟨m,hm⟩:=k1;exact DataW.trod_lt m _ _ _ hm
 obtain ⟨x1,rfl,w1⟩:=a1h_ (hval 1 27 v1 rfl rfl) h1;clear oS xr;refine (a1i_ v0 L0 x1 W w0 w1).mono λe W' ⟨he,bel⟩=>?_;subst he;exact ⟨_,rfl,_,_,_,[],_,[],Oa,trodAll_mk1 (shut_bool Tryz.underlying4 _),(trodAll_cons_mk (Below.trod xk_ (by kernel_rfl) (of_decide_eq_true (by kernel_rfl)) k0 bel lt0) (trodAll_cons_mk (Below.trod xk_ (by kernel_rfl) (of_decide_eq_true (by kernel_rfl)) k1 bel lt1) trodAll_mk0)),rfl,bel.frame _,λh=>by cases h⟩
theorem IndexCollisions_said:Rows.IndexCollisionsSaid:=
 OpenClaim.holds_of_wide 5 Tryz.f5 rfl rfl rfl rfl rfl rfl rfl ⟨rfl,rfl,rfl,rfl,rfl⟩ rfl rfl rfl rfl rfl (by kernel_rfl) Tryz.func5 (by kernel_rfl)
  (of_decide_eq_true (by kernel_rfl)) (by unfold Func.isWrapper;first|(rw [if_pos (by decide +kernel)];kernel_rfl)|(rw [if_neg (by decide +kernel)];exact ⟨rfl,rfl⟩))
  (λos started H enc _=>IndexCollisions_lifted os started H enc)
#print axioms IndexCollisions_said
end
end Go.Proofs.YtbmgmlbmgogeaaaGreat
end
