/- The statement IndexWindowsSaid: for every input the law returns true, and its arguments read as before. -/
import Derived.Test.YtbmgmlbmgogeaaaGreatW10
import Derived.Test.YtbmgmlbmgogeaaaGreatW9
import Derived.Test.YtbmgmlbmgogeaaaGreatW4
import Derived.Test.YtbmgmlbmgogeaaaGreatW7
set_option linter.unusedVariables false
set_option linter.unusedSimpArgs false
set_option maxRecDepth 100000
set_option maxHeartbeats 4000000
section
variable {a:Int}
namespace Go.Proofs.YtbmgmlbmgogeaaaGreat
section
open Go.RowKit Go.Maps Kal
def zY (b:Bool) (n:Nat):Prop:=decide (0<n)=b
def q3o (b:Bool) (w:World) (e:Ending) (w':World):Prop:=∃ a n c,e=.returned (.tuple #[.slice a n c,.int .i64 0])/\zY b n/\Below w.heap.size w w'
theorem z6_ {s:aE} {b:Int}:eG s a b↔a<b/\∃ y,nz s a b y:=
 ⟨λ⟨h,x,h1,h2,h3⟩=>⟨h,x,h1,h2,h3⟩,λ⟨h,x,h1,h2,h3⟩=>⟨h,x,h1,h2,h3⟩⟩
theorem vy_ (F:Nat->Prop) (cv ev:Value) (s:aE) (a b:Int) (w:World) (h:bq w F cv ev s) (eC:Cx s) (ha:-2251799813685248<=a) (hb:b<=2251799813685248) (hab:a<=b) (hw:b-a<=21599) (q:Bool) (hq:q=true↔eG s a b) :
  Calls Tryz.prog 34 #[.agg #[cv,.int .i64 s.len,ev],.agg #[.int .i64 a,.int .i64 b]] w (q3o q w):=by
 refine (v5_ F cv ev s a b w h eC.ms ha hb hab ad).mono ?_;rintro e w' ⟨v,D,k,rfl,hbl,he,hm,hl,hr⟩;have h1:=KU hw;have h2:s.cls.length*NW a b<=3*30:=Nat.mul_le_mul eC.ncls ad;have h3:=eC.next;rcases hr with ⟨_,rfl,hx⟩|⟨h4,_⟩
 .obtain ⟨oa,oc,rfl⟩:=hx.form;refine ⟨oa,D.length,oc,rfl,?_,hbl⟩;unfold zY;rw [ML,QN,hq,z6_];rcases Int.lt_or_eq_of_le hab with h5|h5
  .constructor
   .intro h6;obtain ⟨y,hy⟩:=List.exists_mem_of_length_pos h6;exact ⟨h5,y,((hm h5).2 y).1 hy⟩
   rintro ⟨_,y,hy⟩;exact sD (((hm h5).2 y).2 hy)
  rw [he h5];simp;omega
 omega
theorem Np {L:IL} {k:Int} {s:aE} {b:Int} (hA:je L) (h:(k,s)∈L):k∈ka L a b↔eG s a b:=by
 rw [ve_];exact ⟨λ⟨t,ht,h2⟩=>by rw [(Prod.mk.inj (WM hA h ht rfl)).2];exact h2,λh2=>⟨s,h,h2⟩⟩
def Z7 (n:Nat) (u:World) (iv:Value) (wr:World):Prop:=∃ k:Nat,k<=n/\iv=.int .i64 k/\Hid (Below u.heap.size u wr)
theorem ke_ (lv:Value) (A:List cG) (t a:Int) (w:World) (h:xM w lv A) (h1:-2147483648<=t) (h2:t<=2147483647) (ha1:0<=a) (ha2:a<=65535) :
  Calls Tryz.prog 11 #[lv,.int .i32 t,.int .u16 a] w λe w'=>e=.returned (.bool true)/\Below w.heap.size w w':=by
 have HS:=af u7_;have HA:=af h;have HWN:=af (λW=>qr_ t a W h1 h2 ha1 ha2);clear h h1 h2
 go_in
 go_upto_region 3 with (first|(go_at_call 12;((with_reducible refine (HS.o w).mono ?_);rintro e w1 ⟨rfl,hb1⟩;have bm:=af hb1;have hz1:=hb1.size;clear hb1))|(go_at_call 13;((with_reducible refine (xi_ lv A w1 (HA.o.below bm.o)).mono ?_);rintro e w2 ⟨L,rfl,jn,hb2⟩;have gk:=af jn;have bl:=af hb2;clear jn hb2)))
 have Di:Hid (Below w.heap.size w w2):=af (bm.o.trans (bl.o.mono bm.o.size));obtain ⟨rv,M,hM,hR⟩:=gk.o.ref;obtain ⟨ra,rc,rfl⟩:=hR.form;have fX:=af gk.o.x;have jh:=af hR;have lF:=af gk.o.made;clear hR gk;go_upto_region 4 with (go_at_call 32;((with_reducible refine (HWN.o w2).mono ?_);rintro e w3 ⟨fa,fl,hfa,Qq,rfl,hb3⟩;have cq:=af hb3;clear hb3))
 obtain ⟨fb,hfb⟩:∃ fb,fa+fl=fb:=⟨_,rfl⟩;rw [hfb];refine j9 (F:=λU=>ag U w3.heap.size #[.int .i64 fa,.int .i64 fb] 29/\Below w3.heap.size w3 U) ⟨ag.new w3 _ _,Ea (Er w3) _⟩ ?_;rintro w5 ⟨J8,hb4⟩;have zC:=af J8;have Dk:=af (Et cq.o hb4);have y0:=(J8.cells 0).1;have y1:=(J8.cells 1).1;have hab:fa<=fb/\fb<=fa+21599:=ad;clear hfb Qq J8 hb4;have M3:=af (fX.o.ext Dk.o);have dq:Hid (aS fa/\aS fb):=af (by unfold aS;omega);go_upto_region 5 with (go_at_call 14;((with_reducible refine (wy_ fa fb M3.o dq.o.1 dq.o.2).mono ?_);rintro e w8 ⟨l6,k6,o6,c6,hf,rfl,ho,hb⟩;obtain ⟨rfl,rfl⟩:=hf.ok ad ad ad ad;have uI:=af ho.ints;have fV:=af hb;have TY:=af (zC.o.below hb);clear hf ho hb y0 y1))
 have Dl:=af (Et Dk.o fV.o);have tk:=af (jh.o.ext Dl.o);have Dt:=af (Di.o.trans (Dl.o.mono Di.o.size));have pB:(ka L fa fb).length<=M.length:=by have h3:=vd_ L fa fb;rw [<- jh.o.eq,U6] at h3;rw [<- jh.o.eq];exact h3
 have HAS:=af fX.o.asc;have iE:=af (λ(x:ba) (hx:(x.id,x.s)∈L)=>Np (a:=fa) (b:=fb) HAS.o hx);obtain ⟨lp,Vs⟩:∃ l,ka L fa fb=l:=⟨_,rfl⟩;rw [Vs] at uI pB iE ⊢;clear Vs ha1 ha2;have H0:Hid (Z7 M.length w8 (.int .i64 0) w8):=af ⟨0,ad,rfl,af (JV _ _)⟩;go_wp2;go_loopw [14] (λiv wr=>Z7 M.length w8 iv wr) (λiv _=>M.length-(intOf iv).toNat)
 .exact H0.o
 obtain ⟨k,hk,rfl,HB⟩:=hrel;obtain ⟨wk,nZ⟩:∃ x,x=wr:=⟨_,rfl⟩;subst nZ;have q0:=((tk.o.ext HB.o).box.cells 0).1;have y0:=((TY.o.below HB.o).cells 0).1;have y1:=((TY.o.below HB.o).cells 1).1;by_cases hlt:k<M.length
 .have cP:(k:Int)<M.length:=ad;have bU:=af hlt;obtain ⟨rb,ro,m,hra,hbl,hm,hl,hit,e0,e1,e2,e3⟩:=(tk.o.ext HB.o).get hlt;subst hra;have QU:(m.id,m.s)∈L:=LH hl;obtain ⟨bp,P6⟩:∃ bp,decide (m.id∈lp)=bp:=⟨_,rfl⟩;have TC:=af (λW (hb:Below wk.heap.size wk W)=>u3_ _ lp m.id W (uI.o.ext (Et HB.o hb)));have q7f:bp=true↔eG m.s fa fb:=by rw [<- P6,QN];exact iE.o m QU
  have j7:=af (λW (hb:Below wk.heap.size wk W)=>vy_ _ m.cv m.ev m.s fa fb W (hit.1.ext hb) (lF.o _ QU).2 ad ad hab.1 ad bp q7f);rw [P6] at TC;have Lu:=af e0;have HQ0:=af q0;clear P6 hm hl hit QU q7f hbl;go_upto_region 10 with fail
  refine oz (w0:=wk) [0,1,2,3,4,5,6,7,8,9,10,11,12,13,14] [] (λv=>⟨#[lv,Value.int IntKind.i32 t,Value.int IntKind.u16 a,undef,undef,undef,u6,.bool true,.pointer (some ⟨w1.heap.size+1,0,none⟩),.pointer (some ⟨w1.heap.size+2,0,none⟩),.bool true,.pointer (some ⟨w3.heap.size,0,none⟩),.slice o6 lp.length c6,.int .i64 0,.int .i64 ↑k,v 13,v 14,.bool true,.tuple #[.pointer (some ⟨w1.heap.size+1,0,none⟩),.pointer (some ⟨w1.heap.size+2,0,none⟩),.bool true],lv,.tuple #[.pointer (some ⟨w1.heap.size+1,0,none⟩),.pointer (some ⟨w1.heap.size+2,0,none⟩),.bool true],.pointer (some ⟨w1.heap.size+1,0,none⟩),.pointer (some ⟨w1.heap.size+2,0,none⟩),.bool true,Value.int IntKind.i32 t,Value.int IntKind.u16 a,.agg #[.int .i64 fa,.int .i64 fb],.tuple #[.slice o6 lp.length c6,.int .i64 0],.pointer (some ⟨w1.heap.size+1,0,none⟩),.agg #[.int .i64 fa,.int .i64 fb],.tuple #[.slice o6 lp.length c6,.int .i64 0],.slice o6 lp.length c6,.int .i64 0,.bool true,.bool false,.bool false,.int .i64 0,.bool false,.bool false,.int .i64 ↑k,.pointer (some ⟨w1.heap.size+2,0,none⟩),.pointer (some ⟨w1.heap.size+2,0,none⟩),.pointer (some ⟨w1.heap.size+2,0,none⟩),.slice (some ⟨rb,ro,none⟩) M.length rc,.int .i64 ↑M.length,.bool true,u46,u47,v 10,v 0,v 1,v 2,v 3,v 4,v 5,v 6,v 7,v 8,v 9,v 11,v 12,u61,u62,u63,u64,u65,u66,u67,u68,u69,u70,u71,u72,u73,u74,u75,u76,u77,u78,undef,undef,undef,undef,undef,undef,undef,undef,undef,undef,undef],[]⟩) [.pointer (some ⟨w1.heap.size+2,0,none⟩),.pointer (some ⟨w1.heap.size+2,0,none⟩),.pointer (some ⟨w1.heap.size+2,0,none⟩),.slice (some ⟨rb,ro,none⟩) M.length rc,.int .i64 (k:Int),.pointer (some ⟨rb,ro+k*4,none⟩),.pointer (some ⟨rb,ro+k*4+1,none⟩),.agg #[m.cv,.int .i64 m.s.len,m.ev],.agg #[.int .i64 fa,.int .i64 fb],undef,undef,undef,.int .i64 0,undef,.int .i64 0] [9,10,11,13] (λi v lo hi W=>match i with|9=>∃ a n c,v 9=.tuple #[.slice a n c,.int .i64 0]/\zY bp n|10=>∃ a n c,v 10=.tuple #[.slice a n c,.int .i64 0]/\zY bp n|11=>∃ a n c,v 11=.slice a n c/\zY bp n|13=>∃ a n c,v 13=.slice a n c/\zY bp n|_=>True) (λW=>W.cell? ⟨w1.heap.size+2,0,none⟩=some (.slice (some ⟨rb,ro,none⟩) M.length rc)/\W.cell? ⟨rb,ro+k*4+1,none⟩=some m.cv/\W.cell? ⟨rb,ro+k*4+2,none⟩=some (.int .i64 m.s.len)/\W.cell? ⟨rb,ro+k*4+3,none⟩=some m.ev/\W.cell? ⟨w3.heap.size,0,none⟩=some (.int .i64 fa)/\W.cell? ⟨w3.heap.size,1,none⟩=some (.int .i64 fb)/\Below wk.heap.size wk W) (λW hb=>⟨an.cell hb q0,an.cell hb e1,an.cell hb e2,an.cell hb e3,an.cell hb y0,an.cell hb y1,hb⟩) ?stab ?loc ?steps ?fin (λj=>match j with|0=>u49|1=>u50|2=>u51|3=>u52|4=>u53|5=>u54|6=>u55|7=>u56|8=>u57|9=>u58|10=>u48|11=>u59|12=>u60|13=>u15|14=>u16|_=>undef)
  case stab=>
   refine ⟨?_,?_,?_,?_,trivial⟩
   .intro v lo hi W W' h hb;exact h
   .intro v lo hi W W' h hb;exact h
   .intro v lo hi W W' h hb;exact h
   intro v lo hi W W' h hb;exact h
  case loc=>
   refine ⟨?_,?_,?_,?_,trivial⟩
   .intro v v' lo lo' hi hi' W aA h;have q:=aA 9 (.inl rfl)
    (try dsimp only at h ⊢)
    simp only [q.1,q.2.1,q.2.2] at h;exact h
   .intro v v' lo lo' hi hi' W aA h;have q:=aA 10 (.inl rfl)
    (try dsimp only at h ⊢)
    simp only [q.1,q.2.1,q.2.2] at h;exact h
   .intro v v' lo lo' hi hi' W aA h;have q:=aA 11 (.inl rfl)
    (try dsimp only at h ⊢)
    simp only [q.1,q.2.1,q.2.2] at h;exact h
   intro v v' lo lo' hi hi' W aA h;have q:=aA 13 (.inl rfl)
   (try dsimp only at h ⊢)
   simp only [q.1,q.2.1,q.2.2] at h;exact h
  case steps=>
   refine .c [] [] rfl ?_ (.c [0] [] rfl ?_ (.c [1] [] rfl ?_ (.c [2] [] rfl ?_ (.c [] [] rfl ?_ (.c [3,4] [] rfl ?_ (.c [5] [] rfl ?_ (.c [6] [] rfl ?_ (.c [] [] rfl ?_ (.c [7,8] [] rfl ?_ (.c [] [9] rfl ?_ (.c [] [10] rfl ?_ (.c [] [10] rfl ?_ (.c [] [11] rfl ?_ (.c [12] [] rfl ?_ (.n)))))))))))))));all_goals try exact oh
   .rintro v lo hi W hb ⟨g0,g1,g2,g3,g4,g5,gB⟩ _;refine .inl ⟨rfl,λK hK=>?_⟩;simp only [ov,aD,Nat.reduceBEq,cond_true,cond_false];go_wp2_with (go_at_call 34;(with_reducible refine (j7.o _ gB).mono ?_);rintro e w9 ⟨a9,n9,c9,rfl,yk,bg⟩);exact aQ (hK (.tuple #[.slice a9 n9 c9,.int .i64 0]) w9 bg ⟨a9,n9,c9,rfl,yk⟩) (by simp [ov,aD,upd])
   .rintro v lo hi W hb ⟨g0,g1,g2,g3,g4,g5,gB⟩ ⟨⟨WS,WV,D9⟩,_⟩;refine .inl ⟨rfl,λK hK=>?_⟩;simp only [ov,aD,Nat.reduceBEq,cond_true,cond_false]
    (try dsimp only at D9)
    obtain ⟨a9,n9,c9,e9,yk⟩:=D9
    (try simp only [e9])
    go_wp2
    exact aQ (hK (.tuple #[.slice a9 n9 c9,.int .i64 0]) W (JV _ _) ⟨a9,n9,c9,rfl,yk⟩) (by simp [ov,aD,upd,e9])
   .rintro v lo hi W hb ⟨g0,g1,g2,g3,g4,g5,gB⟩ ⟨⟨Ic,Ig,wR⟩,_⟩;refine .inl ⟨rfl,λK hK=>?_⟩;simp only [ov,aD,Nat.reduceBEq,cond_true,cond_false]
    (try dsimp only at wR)
    obtain ⟨a9,n9,c9,e9,yk⟩:=wR
    (try simp only [e9])
    go_wp2
    exact aQ (hK (.slice a9 n9 c9) W (JV _ _) ⟨a9,n9,c9,rfl,yk⟩) (by simp [ov,aD,upd,e9])
   .rintro v lo hi W hb ⟨g0,g1,g2,g3,g4,g5,gB⟩ ⟨⟨Ic,Ig,wR⟩,_⟩;refine .inl ⟨rfl,λK hK=>?_⟩;simp only [ov,aD,Nat.reduceBEq,cond_true,cond_false]
    (try dsimp only at wR)
    obtain ⟨a9,n9,c9,e9,yk⟩:=wR
    (try simp only [e9])
    go_wp2
    exact aQ (hK W (JV _ _)) (by simp [ov,aD,upd,e9])
   rintro v lo hi W hb ⟨g0,g1,g2,g3,g4,g5,gB⟩ ⟨⟨Ie,Ih,yR⟩,_⟩;refine .inl ⟨rfl,λK hK=>?_⟩;simp only [ov,aD,Nat.reduceBEq,cond_true,cond_false]
   (try dsimp only at yR)
   obtain ⟨a9,n9,c9,e9,yk⟩:=yR
   (try simp only [e9])
   go_wp2
   exact aQ (hK (.slice a9 n9 c9) W (JV _ _) ⟨a9,n9,c9,rfl,yk⟩) (by simp [ov,aD,upd,e9])
  case fin=>
   rintro v lo hi W2 hb2 ⟨g0,g1,g2,g3,g4,g5,gB⟩ hf hap;show wpList _ _ _ [] _ _;obtain ⟨-,-,-,oa,on,oc,lr,sr⟩:=hf 13 rfl;have lO:v 14=.int .i64 0:=(hf 14 rfl).2.2.2;have z0:=an.cell hb2 Lu.o;have HB2w:=af (Et HB.o hb2);have TD:=af (TC.o W2 hb2);dsimp only;rw [lr,lO];clear lr lO hf hap y0 y1 e0 e1 e2 e3 g1 g2 g3 g4 g5 gB hb2;generalize v 0=yv0,v 1=yv1,v 2=yv2,v 3=yv3,v 4=yv4,v 5=yv5,v 6=yv6,v 7=yv7,v 8=yv8,v 9=yv9,v 10=yv10,v 11=yv11,v 12=yv12;unfold zY at sr;cases bp with
   | true=>
    have hnN:=LX sr;have hn:(0:Int)<on:=ad;clear sr;go_wp2_with (go_at_call 29;(with_reducible refine TD.o.mono ?_);rintro e W4 ⟨rfl,e4⟩;obtain rfl:W2=W4:=e4.symm);go_roundw
    .exact ⟨k+1,ad,by go_num,HB2w⟩
    simp [intOf];omega
   | false=>
    have hn:¬ (0:Int)<on:=by have:=NH sr;omega
    clear sr;go_wp2_with (go_at_call 29;(with_reducible refine TD.o.mono ?_);rintro e W4 ⟨rfl,e4⟩;obtain rfl:W2=W4:=e4.symm);go_roundw
    .exact ⟨k+1,ad,by go_num,HB2w⟩
    simp [intOf];omega
 obtain rfl:k=M.length:=ad;have hlmI:(lp.length:Int)<=M.length:=ad;go_wp2;go_ret;exact ⟨rfl,Dt.o.trans (HB.o.mono Dt.o.size)⟩
end
section
open Go.ChangeShapes Go.WideShapes Go.ChangeAt Go.RowKit Go.Joins Kal
theorem IndexWindows_lifted (os:Os) (started:os.Started) (H:Type) (enc:TypeId × Value->H) :
  ReturnsInHanded {} Tryz.checked os 11 .any (Rows.indexWindowsSpec.pre6 enc Tryz.prog Tryz.f11 Rows.indexWindowsRow.domain false) (Rows.indexWindowsSpec.post enc Tryz.prog Tryz.f11 false true false false):=by
 refine returnsInHanded_of_change (C:=Tryz.checked) Ny started (by kernel_rfl) Tryz.func11
  (ChangeSpec.witness6 (enc:=enc) (C:=Tryz.checked) false ⟨#[],#[.slice none 0 0,.int .i32 0,.int .u16 0],[]⟩ 8 (by kernel_rfl) (by kernel_rfl) (by kernel_rfl) (by kernel_rfl)) ?_
 intro W base args ds gs before yD hW hcnd _;have hval:∀ (j:Nat) t v,Tryz.f11.params[j]? = some t->args[j]? = some v->Value.okWide Tryz.prog W .any base t v:=yD;have PT:=hW;obtain ⟨p,q,pr,hV,rfl,hfz,fT⟩:=hW;have hA:DataW.TrodAll enc Tryz.prog W 0 (λ_=>true) true Tryz.f11.params.toList args.toList ds p:=pr;rw [Tryz.params11] at hA hval;obtain ⟨v0,vs0,d0,ds0,p0,q0,q0o,rfl,rfl,h0,r0⟩:=trodAll_cons hA;obtain ⟨v1,vs1,d1,ds1,p1,q1,rfl,rfl,rfl,h1,r1⟩:=trodAll_cons r0;obtain ⟨v2,vs2,d2,ds2,p2,q2,rfl,rfl,rfl,h2,r2⟩:=trodAll_cons r1;obtain ⟨rfl,rfl,rfl⟩:=trodAll_nil r2;obtain rfl:args=#[v0,v1,v2]:=by cases args;simp_all
 obtain ⟨rfl,rfl⟩:=trodVars_none hV;have k0:=h0;have lt0:∀ x∈p0,x.block<W.heap.size:=by obtain ⟨m,hm⟩:=k0;exact DataW.trod_lt m _ _ _ hm
 obtain ⟨L0,w0⟩:=w7_ (hval 0 22 v0 rfl rfl) h0;obtain ⟨m1,rfl,rfl,rfl,w1⟩:=open_int Tryz.underlying21 (hval 1 21 v1 rfl rfl) h1;have b1:=bounds_i32 w1;obtain ⟨m2,rfl,rfl,rfl,w2⟩:=open_int Tryz.underlying74 (hval 2 74 v2 rfl rfl) h2;have b2:=bounds_u16 w2;clear pr yD;refine (ke_ v0 L0 m1 m2 W w0 b1.1 b1.2 b2.1 b2.2).mono λe W' ⟨he,bel⟩=>?_;subst he;exact ⟨_,rfl,_,_,_,[],_,[],PT,trodAll_mk1 (shut_bool Tryz.underlying4 _),(trodAll_cons_mk (Below.trod yd_ (by kernel_rfl) (LX (by kernel_rfl)) k0 bel lt0) (trodAll_cons_mk (shut_int Tryz.underlying21 w1) (trodAll_cons_mk (shut_int Tryz.underlying74 w2) trodAll_mk0))),rfl,bel.frame _,λh=>by cases h⟩
theorem IndexWindows_said:Rows.IndexWindowsSaid:=
 OpenClaim.holds_of_wide 11 Tryz.f11 rfl rfl rfl rfl rfl rfl rfl ⟨rfl,rfl,rfl,rfl,rfl⟩ rfl rfl rfl rfl rfl (by kernel_rfl) Tryz.func11 (by kernel_rfl)
  (LX (by kernel_rfl)) (by unfold Func.isWrapper;first|(rw [if_pos (by decide +kernel)];kernel_rfl)|(rw [if_neg (by decide +kernel)];exact ⟨rfl,rfl⟩))
  (λos started H enc _=>IndexWindows_lifted os started H enc)
#print axioms IndexWindows_said
end
end Go.Proofs.YtbmgmlbmgogeaaaGreat
end
