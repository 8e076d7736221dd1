/- Part 10 of the proof of the laws. -/
import Derived.Test.YtbmgmlbmgogeaaaGreatB9
import Derived.Test.YtbmgmlbmgogeaaaGreatB8
set_option linter.unusedVariables false
set_option linter.unusedSimpArgs false
set_option maxRecDepth 100000
set_option maxHeartbeats 4000000
section
variable {i r:Int}{B g k n:Nat}{cv ev:Go.Value}{W W' w w':Go.World}
namespace Go.Proofs.YtbmgmlbmgogeaaaGreat
section
open Go.RowKit Go.Maps Kal
theorem fg.new (hb:af w' (w.heap.size+1) #[.map (some w.heap.size)] 98) (hm:cT w' w.heap.size 0 []):fg w' (w.heap.size+1) w.heap.size 0 (λk=>w.heap.size+2<=k) [] []:=
 ⟨hb,hm,aa,.nil,rfl,λi x hx=>by simp at hx,aa,aa⟩
theorem MF {b:Nat} (h:af W b #[.int .i64 1,.int .i64 1440,.int .i64 1500] 46):bq W (λk=>b<=k) (.slice none 0 0) (.slice (some ⟨b,0,none⟩) 1 1) cW:=
 ⟨[],rfl,⟨⟨none,0,rfl,ag,aa,.inl rfl⟩,ag,λx hx=>by simp at hx⟩,⟨⟨_,1,rfl,by simp [cW],aa,.inr ⟨b,0,rfl,Nat.le_refl _,h.lt,λi u hi=>by rw [Nat.zero_add,(h.cells i).1,<- hi];simp [cW,cV]⟩⟩,by simp [cW],λx hx=>by
  have hx:x=⟨1,1440,1500⟩:=by simpa [cW] using hx
  subst hx;exact ⟨by unfold aP;simp,by unfold aP;simp,by unfold aP;simp⟩⟩,by unfold aP;simp [cW]⟩
theorem th_ (w:World):Calls Tryz.prog 12 #[] w λe w'=>e=.returned (.bool true)/\Below w.heap.size w w':=by
 have HN:=ad (Qh w);have HE:=ad (λW=>PT 0 0 60 aa aa ⟨aa,aa⟩ ⟨aa,aa⟩ W);have lQ:=ad (λW=>PT 1 30 10 aa aa ⟨aa,aa⟩ ⟨aa,aa⟩ W);have tx:=ad (λW=>PT 0 0 1 aa aa ⟨aa,aa⟩ ⟨aa,aa⟩ W);have fU:Hid (bM (cY 0 0 60)):=ad (PS aa aa aa aa aa aa)
 go_in
 go_upto_region 2 with (go_at_call 31;(with_reducible refine HN.o.mono ?_);rintro e w1 ⟨rfl,lq,lC,hb1,hz1⟩;have bo:=ad hb1;have YQ:=ad (fg.new lq lC);clear lq lC hb1)
 go_upto_region 3 with (first|(go_at_call 25;((with_reducible refine (HE.o w1).mono ?_);rintro e w2 ⟨y1,z1,y2,z2,rfl,hs2,hb2⟩;have dM:=ad hs2;have vR:=ad (YQ.o.ext hb2);have bj:=ad (bo.o.trans (hb2.mono bo.o.size));have hz2:=hb2.size;clear hs2 hb2))|(go_at_call 24;((with_reducible refine (Em _ _ 0 _ _ [] [] 3 _ _ (cY 0 0 60) w2 vR.o aa dM.o fU.o (by unfold aP;omega)).mono ?_);rintro e w3 hr;obtain ⟨rfl,hg3,n3,E3,Ja,gP⟩:=EC vR.o aa hr;rw [show fF [] 3=0 from rfl];have mB:=ad (gP.mono (G':=λk=>w.heap.size+2<=k) (λk hk=>by rcases hk with hk|hk <;> omega) aa);have cm:=ad (bj.o.trans (pB hg3 (Nat.le_refl _) aa));have qu:=ad Ja;have hz3:=hg3.size;clear hr hg3 gP Ja)))
 have Jw:w.heap.size+2<=w3.heap.size:=aa;have fx:=ad (MF (af.new w3 #[.int .i64 1,.int .i64 1440,.int .i64 1500] 46));go_upto_region 4 with (go_at_call 24;((refine (Em _ _ n3 _ _ E3 (fX [] 3 (cY 0 0 60)) 5 _ _ cW _ (mB.o.ext (Ea (Er w3) _)) (by have:=qu.o;omega) fx.o Mi (by unfold aP;omega)).mono ?_);rintro e w4 hr;obtain ⟨rfl,hg4,n4,E4,hn4,BX⟩:=EC (mB.o.ext (Ea (Er w3) _)) aa hr;rw [show fF (fX [] 3 (cY 0 0 60)) 5=0 from rfl];have tA:Hid (fg w4 (w.heap.size+1) w.heap.size n4 (λk=>w.heap.size+2<=k) E4 cf):=ad (BX.mono (G':=λk=>w.heap.size+2<=k) (λk hk=>by rw [World.size_alloc] at hk;rcases hk with hk|hk <;> omega) aa);have cD:=ad ((cm.o.trans ((Ea (Er w3) _).mono aa)).trans (pB hg4 (Nat.le_refl _) (by rw [World.size_alloc];omega)));have Sa:Hid (n4<=2):=ad (by have:=qu.o;omega);clear hr hg4 BX hn4))
 go_upto_region 5 with (go_at_call 14;((with_reducible refine (PW _ _ n4 _ E4 cf (0) (60) w4 tA.o (by unfold aP;omega) (by unfold aP;omega)).mono ?_);rintro e w5 ⟨l5,k5,o5,c5,hf,rfl,ho,hb⟩;obtain ⟨rfl,rfl⟩:=hf.ok aa aa aa aa;rw [MG] at *;have A8:=ad (tA.o.ext hb);have cr:=ad (cD.o.trans (hb.mono cD.o.size));have KM:=ad ho;have LU:=ad hb;clear hf ho hb))
 go_upto_region 6 with (go_at_call 14;((with_reducible refine (PW _ _ n4 _ E4 cf (60) (1440) w5 A8.o (by unfold aP;omega) (by unfold aP;omega)).mono ?_);rintro e w6 ⟨l6,k6,o6,c6,hf,rfl,ho,hb⟩;obtain ⟨rfl,rfl⟩:=hf.ok aa aa aa aa;rw [MH] at *;have G3:=ad (A8.o.ext hb);have bO:=ad (cr.o.trans (hb.mono cr.o.size));have tG:=ad ho;have Sq:=ad hb;clear hf ho hb))
 go_upto_region 7 with (go_at_call 14;((with_reducible refine (PW _ _ n4 _ E4 cf (1499) (2881) w6 G3.o (by unfold aP;omega) (by unfold aP;omega)).mono ?_);rintro e w7 ⟨l7,k7,o7,c7,hf,rfl,ho,hb⟩;obtain ⟨rfl,rfl⟩:=hf.ok aa aa aa aa;rw [MI] at *;have G4:=ad (G3.o.ext hb);have gF:=ad (bO.o.trans (hb.mono bO.o.size));have G8:=ad ho;have Hk:=ad hb;clear hf ho hb))
 go_upto_region 8 with (first|(go_at_call 25;((with_reducible refine (lQ.o w7).mono ?_);rintro e w8 ⟨y8,z8,x8,u8,rfl,Pn,ee⟩;have Ze:=ad Pn;have Bn:=ad ee;clear Pn ee))|(go_at_call 16;((with_reducible refine (p0_ _ _ n4 _ _ E4 cf _ _ (cY 1 30 10) w8 (G4.o.ext Bn.o) Ze.o (PS aa aa aa aa aa aa)).mono ?_);rintro e w9 ⟨l9,k9,o9,c9,hm,rfl,ho,hb⟩;obtain ⟨rfl,rfl⟩:=hm.unique y3_;have KN:=ad ho;have yM:=ad (Bn.o.trans (hb.mono Bn.o.size));clear hm ho hb)))
 have G5:=ad (G4.o.ext yM.o);go_upto_region 9 with (go_at_call 19;((with_reducible refine (It _ _ n4 _ E4 cf (1) w9 G5.o (by unfold aP;omega)).mono ?_);rintro e gW ⟨i10,po,b10,rfl,hn,hb⟩;obtain ⟨rfl,rfl,rfl⟩:=hn.unique MM;have Cw:=ad hb;clear hn hb))
 refine iR (F:=λU=>af U gW.heap.size #[.int .i64 1,.int .i64 1440,.int .i64 1500] 46/\Below w9.heap.size w9 U) ⟨af.new gW _ _,Cw.o.trans ((Ea (Er gW) _).mono Cw.o.size)⟩ ?_;rintro u10 ⟨Gk,AE⟩;have LV:=ad Gk;have CY:=ad (G5.o.ext AE);have DF:=ad AE;clear Gk AE;go_upto_region 10 with (go_at_call 19;((with_reducible refine (It _ _ n4 _ E4 cf (1441) u10 CY.o (by unfold aP;omega)).mono ?_);rintro e AS ⟨i11,pq,b11,rfl,hn,hb⟩;obtain ⟨rfl,rfl,rfl⟩:=hn.unique MN;have oz:=ad hb;clear hn hb))
 refine iR (F:=λU=>af U AS.heap.size #[.int .i64 2,.int .i64 2880,.int .i64 2940] 46/\Below u10.heap.size u10 U) ⟨af.new AS _ _,oz.o.trans ((Ea (Er AS) _).mono oz.o.size)⟩ ?_;rintro u11 ⟨Gl,Gg⟩;have LW:=ad Gl;have tW:=ad Gg;clear Gl Gg;have px:=ad (Qh u11);go_upto_region 11 with (go_at_call 31;(with_reducible refine px.o.mono ?_);rintro e Rf ⟨rfl,lq,lC,hb1,hz12⟩;have DG:=ad hb1;have C8:=ad (fg.new lq lC);clear lq lC hb1)
 go_upto_region 12 with (go_at_call 19;((with_reducible refine (It _ _ 0 _ [] [] (0) Rf C8.o (by unfold aP;omega)).mono ?_);rintro e tj ⟨T8,x13,b13,rfl,hn,hb⟩;obtain ⟨rfl,rfl,rfl⟩:=hn.unique fN.nil;have tt:=ad hb;clear hn hb))
 refine iR (F:=λU=>Below u11.heap.size u11 U/\fg U (u11.heap.size+1) u11.heap.size 0 (λk=>u11.heap.size+2<=k) [] []) ⟨DG.o.trans ((tt.o.trans ((Ea (Er tj) _).mono tt.o.size)).mono DG.o.size),C8.o.ext (tt.o.trans ((Ea (Er tj) _).mono tt.o.size))⟩ ?_;rintro z ⟨hz,hj⟩;have HZ:=ad hz;have HJ:=ad hj;have HI:=ad ((CY.o.ext tW.o).ext hz);have kY:=ad ((LV.o.below tW.o).below hz);have iQ:=ad (LW.o.below hz);have SP:Hid (Below w9.heap.size w9 z):=ad ((Et DF.o tW.o).trans (hz.mono (Et DF.o tW.o).size));have NA:Hid (Below w7.heap.size w7 z):=ad (yM.o.trans (SP.o.mono yM.o.size));have ZU:Hid (Below w5.heap.size w5 z):=ad ((Et Sq.o Hk.o).trans (NA.o.mono (Et Sq.o Hk.o).size));have HA:=ad (KM.o.ints.ext ZU.o);have HC:=ad (G8.o.ints.ext NA.o);have HD:=ad (KN.o.ints.ext SP.o);have Kj:=ad (gF.o.trans (NA.o.mono gF.o.size));clear hz hj;have YE:Hid ((((E4.map dJ).length:Nat):Int)=2):=ad (by have h:=congrArg List.length HI.o.ids;simp [ids,cf] at h;simp [h]);have Dk:Hid (bM (cY 0 0 1)):=ad (PS aa aa aa aa aa aa);have Lz:Hid (∀ U,Below z.heap.size z U->Calls Tryz.prog 21 #[.slice o5 1 c5,.slice (some ⟨U.heap.size,0,none⟩) 1 1] (U.alloc (.cells #[.int .i64 3] 3)) λe w'=>e=.returned (.bool true)/\Below (U.alloc (.cells #[.int .i64 3] 3)).heap.size (U.alloc (.cells #[.int .i64 3] 3)) w'):=
  ad (λU hU=>Np _ _ ([3]:List Int) [3] _ (HA.o.ext (Ea hU _)) (Ints.lit (l:=[3]) (af.new U #[.int .i64 3] 3) ag (by intro x hx;simp at hx;unfold aP;omega)))
 have LC:Hid (∀ U,Below z.heap.size z U->Calls Tryz.prog 21 #[.slice o7 2 c7,.slice (some ⟨U.heap.size,0,none⟩) 2 2] (U.alloc (.cells #[.int .i64 3,.int .i64 5] 3)) λe w'=>e=.returned (.bool true)/\Below (U.alloc (.cells #[.int .i64 3,.int .i64 5] 3)).heap.size (U.alloc (.cells #[.int .i64 3,.int .i64 5] 3)) w'):=
  ad (λU hU=>Np _ _ ([3,5]:List Int) [3,5] _ (HC.o.ext (Ea hU _)) (Ints.lit (l:=[3,5]) (af.new U #[.int .i64 3,.int .i64 5] 3) ag (by intro x hx;simp at hx;unfold aP;omega)))
 have LD:Hid (∀ U,Below z.heap.size z U->Calls Tryz.prog 21 #[.slice o9 1 c9,.slice (some ⟨U.heap.size,0,none⟩) 1 1] (U.alloc (.cells #[.int .i64 5] 3)) λe w'=>e=.returned (.bool true)/\Below (U.alloc (.cells #[.int .i64 5] 3)).heap.size (U.alloc (.cells #[.int .i64 5] 3)) w'):=
  ad (λU hU=>Np _ _ ([5]:List Int) [5] _ (HD.o.ext (Ea hU _)) (Ints.lit (l:=[5]) (af.new U #[.int .i64 5] 3) ag (by intro x hx;simp at hx;unfold aP;omega)))
 have KS:Hid (∀ U,Below z.heap.size z U->Calls Tryz.prog 22 #[.pointer (some ⟨u11.heap.size+1,0,none⟩)] U λe w'=>e=.returned (.int .i64 0)/\Below U.heap.size U w'):=
  ad (λU hU=>Wr _ _ 0 (([]:List (Int × bm)).map dJ) U (HJ.o.ext hU).box (HJ.o.ext hU).map .nil aa)
 go_wp2_with (first|(go_at_call 21;((with_reducible refine (Lz.o z (Er z)).mono ?_);rintro e z1 ⟨rfl,hb⟩;have Sw:=ad (Et (Ea (Er z) _) hb);clear hb))|(go_at_call 21;((with_reducible refine (LC.o z1 Sw.o).mono ?_);rintro e z2 ⟨rfl,hb⟩;have Sx:=ad (Et (Ea Sw.o _) hb);clear hb))|(go_at_call 21;((with_reducible refine (LD.o z2 Sx.o).mono ?_);rintro e z3 ⟨rfl,hb⟩;have tY:=ad (Et (Ea Sx.o _) hb);have pX:=((kY.o.below tY.o).cells 1).1;have nz:=((iQ.o.below tY.o).cells 1).1;clear hb))|(go_at_call 22;((with_reducible refine (KS.o z3 tY.o).mono ?_);rintro e z4 ⟨rfl,hb⟩;have L_:=ad (Et tY.o hb);clear hb))|(go_at_call 22;((with_reducible refine (Wr _ _ n4 (E4.map dJ) z4 (HI.o.ext L_.o).box (HI.o.ext L_.o).map HI.o.sorted HI.o.num).mono ?_);rintro e z5 ⟨rfl,hb⟩;rw [YE.o];have Zx:=ad (Et L_.o hb);clear hb))|(go_at_call 25;((with_reducible refine (tx.o z5).mono ?_);rintro e z6 ⟨ya,za,yb,zb,rfl,hs,hb⟩;have kC:=ad hs;have Hp:=ad (Et Zx.o hb);clear hs hb))|(go_at_call 24;((with_reducible refine (Em _ _ n4 _ _ E4 cf 3 _ _ (cY 0 0 1) z6 (HI.o.ext Hp.o) (by have:=Sa.o;omega) kC.o Dk.o (by unfold aP;omega)).mono ?_);rintro e z7 hr;obtain ⟨rfl,Ty,n7,E7,hn7,OR⟩:=EC (HI.o.ext Hp.o) aa hr;rw [show fF cf 3=5 by rfl];rw [show fX cf 3 (cY 0 0 1)=cf by rfl] at OR;have G4:=ad OR;have Hq:=ad ((Kj.o.trans (Hp.o.mono Kj.o.size)).trans (pB Ty (Nat.le_refl _) (by have:=Kj.o.size;have:=Hp.o.size;omega)));have Y5:Hid (n7<=3):=ad (by have:=Sa.o;omega);clear hr Ty OR hn7))|(go_at_call 25;((with_reducible refine (tx.o z7).mono ?_);rintro e z8 ⟨yc,zc,yd,zd,rfl,hs,hb⟩;have HS8b:=ad hs;have RY:=ad (G4.o.ext hb);have Sy:=ad (Hq.o.trans (hb.mono Hq.o.size));clear hs hb))|(go_at_call 24;((with_reducible refine (Em _ _ n7 _ _ E7 cf 0 _ _ (cY 0 0 1) z8 RY.o (by have:=Y5.o;omega) HS8b.o Dk.o (by unfold aP;omega)).mono ?_);rintro e z9 hr;obtain ⟨rfl,sV,n9,E9,FZ,gC⟩:=EC RY.o aa hr;rw [show fF cf 0=1 by rfl];rw [show fX cf 0 (cY 0 0 1)=cf by rfl] at gC;have HI9b:=ad gC;have Hr:=ad (Sy.o.trans (pB sV (Nat.le_refl _) Sy.o.size));clear hr sV gC FZ))|(go_at_call 26;((with_reducible refine (Vi _ _ n9 E9 4 z9 HI9b.o.box HI9b.o.map (by unfold aP;omega)).mono ?_);rintro e xL hr;obtain ⟨FB,rfl,E10,OQ⟩:=XD HI9b.o hr;rw [if_neg (show (4:Int) ∉ ids cf by unfold ids cf;simp)];have L7:=ad (Hr.o.trans (pB FB (Nat.le_refl _) Hr.o.size));clear hr FB OQ)))
 go_ret;exact ⟨rfl,L7.o⟩
def MR (w:World) (e:Ending) (w':World):Prop:=∃ L,e=.returned (.tuple #[.pointer (some ⟨w.heap.size+1,0,none⟩),.pointer (some ⟨w.heap.size+2,0,none⟩),.bool true])/\JL w' w.heap.size 8 L/\Below w.heap.size w w'
def WQ (w:World) (n:Nat) (iv:Value) (W:World):Prop:=∃ (k:Nat) (L:IL),k<=8/\k<=n/\iv=.int .i64 k/\Hid (JL W w.heap.size k L)/\Hid (Below w.heap.size w W)
theorem MY {x:Int} (h1:-128<=x) (h2:x<=127):-5<=Int.tmod x 6/\Int.tmod x 6<=5:=by
 rcases Int.le_total 0 x with h|h
 .rw [Int.tmod_eq_emod_of_nonneg h];omega
 have h3:Int.tmod x 6=-(Int.tmod (-x) 6):=by rw [Int.neg_tmod,Int.neg_neg]
 rw [h3,Int.tmod_eq_emod_of_nonneg aa];omega
theorem wn_ (v:Value) (A:List cB) (w:World) (h:wE w v A) :
  Calls Tryz.prog 13 #[v] w (MR w):=by
 obtain ⟨a,c,rfl⟩:∃ a c,v=.slice a A.length c:=by obtain ⟨a,c,e,_⟩:=h.row.is;exact ⟨a,c,e⟩
 have H:=ad h;have HN:=ad (Qh w);clear h
 go_in
 go_wp2_with (go_at_call 31;(with_reducible refine HN.o.mono ?_);rintro e w1 ⟨rfl,lq,lC,hb1,hz1⟩;have bo:=ad hb1;have Kh:=ad lq;have KZ:=ad lC;clear lq lC hb1)
 have h0:WQ w A.length (.int .i64 0) (w1.alloc (.cells #[.slice none 0 0] 53)):=⟨0,[],aa,aa,rfl,ad ⟨⟨0,[],aa,⟨Kh.o.alloc _,KZ.o.kept (World.grownBy.of_below (Ea (Er _) _) none) ag,aa,.nil,rfl,λi x hx=>by simp at hx,aa,aa⟩⟩,⟨.slice none 0 0,[],ag,⟨af.at aa,⟨none,0,rfl,ag,aa,.inl rfl⟩,λx hx=>by simp at hx,rfl,.nil,aa⟩⟩,oP.nil⟩,ad (bo.o.trans ((Ea (Er _) _).mono aa))⟩;have H0:=ad h0;clear h0 hz1;go_loopw [7] (λiv wr=>WQ w A.length iv wr) (λiv _=>8-(intOf iv).toNat)
 .exact H0.o
 obtain ⟨k,L,hk8,hkn,rfl,HB,bH⟩:=hrel;have jA:w.heap.size<=wr.heap.size:=by have:=HB.o.size;omega
 obtain ⟨wk,r_⟩:∃ x,x=wr:=⟨_,rfl⟩;subst r_;have hlen:(A.length:Int)<=9223372036854775807:=by obtain ⟨a',c',e,h1,h2,_⟩:=H.o.row.is;omega
 by_cases hlt:k<A.length
 .have dh:(k:Int)<A.length:=aa;by_cases h8:k<8
  .have h8I:(k:Int)<8:=aa;obtain ⟨ab,ao,x,rfl,hbl,hx,⟨ll,ml,el,Aw⟩,⟨od,zZ⟩,e0,e1,e2,e3,e4,e5⟩:=H.o.get hlt;have FX:=Aw.below bH.o;have yA:=ad Aw;have GU:=ad (λW (hb:Below w.heap.size wk W)=>And.intro (Below.cell' (bH.o.trans hb) e2 hbl) (And.intro (Below.cell' (bH.o.trans hb) e3 hbl) (And.intro (Below.cell' (bH.o.trans hb) e4 hbl) (Below.cell' (bH.o.trans hb) e5 hbl))));replace e0:=Below.cell' bH.o e0 hbl;replace e1:=Below.cell' bH.o e1 hbl;clear e2 e3 e4 e5 hx FX Aw;obtain ⟨id,hid⟩:∃ y,Int.tmod x.id 6=y:=⟨_,rfl⟩;have Aa:=MY od zZ;rw [hid] at Aa;have CZ:=ad hid;obtain ⟨b,hb⟩:∃ b,x.rm=b:=⟨_,rfl⟩;rw [hb] at e1;clear hid hb;obtain ⟨⟨n,E,hn,hI⟩,⟨rv,M,hM,hR⟩,eV⟩:=HB.o;have HI:=ad hI;have HR:=ad hR;have Dn:=ad (show n<=8 by omega);have sA:=ad (show M.length<=8 by omega);have kz:=ad eV;have oD:=ad (show aP id from ⟨aa,aa⟩);have eF:=ad (show id<=1099511627776 by omega);have KA:=ad Aa;have Dm:=ad hn;have Ba:=ad hM;clear hn hM hI hR eV Aa;cases b
   .obtain ⟨S,hS⟩:∃ S,GN ll ml x.s.ln el=S:=⟨_,rfl⟩;have fU:Hid (EA S):=ad (hS ▸ sz_ yA.o.mins.rng yA.o.ext.rng);have A_:Hid (∀ W,Below w.heap.size w W->Calls Tryz.prog 17 #[.agg #[x.s.dv,x.s.mv,.int .u8 x.s.ln,x.s.ev]] W (JG S W)):=ad (λW hb=>hS ▸ sy_ x.s ll ml el W (yA.o.below hb));clear hS;go_upto_region 10 with fail
    rw [CZ.o];have hk3:w.heap.size+3<=wk.heap.size:=HB.o.size;clear e0 e1 hlen;refine Ni (w0:=wk) (some w.heap.size) 8 [0,1,2,3,4,5,6,7,8,9,10,11,12,13,14,15,16] [17,18] (λv=>⟨#[.slice (some ⟨ab,ao,none⟩) A.length c,undef,u2,u3,u4,.pointer (some ⟨w.heap.size+1,0,none⟩),.pointer (some ⟨w.heap.size+2,0,none⟩),.int .i64 ↑k,.int .i64 id,.pointer (some ⟨w.heap.size+1,0,none⟩),.agg #[.slice none 0 0],.pointer (some ⟨w.heap.size+2,0,none⟩),.int .i64 ↑k,.slice (some ⟨ab,ao,none⟩) A.length c,.int .i64 ↑A.length,.bool true,.bool true,.int .i64 ↑k,.bool true,.bool true,u20,u21,.slice (some ⟨ab,ao,none⟩) A.length c,.int .i64 ↑k,.pointer (some ⟨ab,ao+k*6,none⟩),.pointer (some ⟨ab,ao+k*6,none⟩),Value.int IntKind.i8 x.id,.int .i64 x.id,.int .i64 id,.slice (some ⟨ab,ao,none⟩) A.length c,.int .i64 ↑k,.pointer (some ⟨ab,ao+k*6,none⟩),.pointer (some ⟨ab,ao+k*6+1,none⟩),.bool false,u34,u35,u36,u37,u38,u39,u40,u41,u42,v 0,v 1,v 2,v 3,v 4,v 5,v 6,v 7,v 8,v 9,v 10,v 11,v 12,v 13,v 14,v 15,v 16,u60,u61,u62,u63,undef,undef],[]⟩) (λj=>match j with|0=>u43|1=>u44|2=>u45|3=>u46|4=>u47|5=>u48|6=>u49|7=>u50|8=>u51|9=>u52|10=>u53|11=>u54|12=>u55|13=>u56|14=>u57|15=>u58|16=>u59|_=>undef)
     (λi v lo hi W=>match i with
      | 0=>v 0=.pointer (some ⟨w.heap.size+1,0,none⟩)
      | 1=>v 1=.int .i64 id
      | 2=>v 2=.slice (some ⟨ab,ao,none⟩) A.length c
      | 3=>v 3=.int .i64 k
      | 4=>v 4=.pointer (some ⟨ab,ao+k*6,none⟩)
      | 5=>v 5=.pointer (some ⟨ab,ao+k*6+2,none⟩)
      | 6=>v 6=.agg #[x.s.dv,x.s.mv,.int .u8 x.s.ln,x.s.ev]
      | 7=>∃ y1 z1 y2 z2,v 7=.agg #[.slice y1 S.cls.length z1,.int .i64 S.len,.slice y2 S.ext.length z2]/\bq W (λk=>w.heap.size+3<=k) (.slice y1 S.cls.length z1) (.slice y2 S.ext.length z2) S
      | 8=>v 8=.int .i64 (fF L id)/\∃ n' E',n'<=n+1/\fg W (w.heap.size+1) w.heap.size n' (λb=>w.heap.size+3<=b) E' (fX L id S)
      | 9=>v 9=.pointer (some ⟨w.heap.size+2,0,none⟩)
      | 10=>v 10=.int .i64 id
      | 11=>v 11=.slice (some ⟨ab,ao,none⟩) A.length c
      | 12=>v 12=.int .i64 k
      | 13=>v 13=.pointer (some ⟨ab,ao+k*6,none⟩)
      | 14=>v 14=.pointer (some ⟨ab,ao+k*6+2,none⟩)
      | 15=>v 15=.agg #[x.s.dv,x.s.mv,.int .u8 x.s.ln,x.s.ev]
      | 16=>∃ y1 z1 y2 z2,v 16=.agg #[.slice y1 S.cls.length z1,.int .i64 S.len,.slice y2 S.ext.length z2]/\bq W (λk=>w.heap.size+3<=k) (.slice y1 S.cls.length z1) (.slice y2 S.ext.length z2) S
      | _=>True)
     (λW=>W.cell? ⟨ab,ao+k*6+2,none⟩=some x.s.dv/\W.cell? ⟨ab,ao+k*6+3,none⟩=some x.s.mv/\W.cell? ⟨ab,ao+k*6+4,none⟩=some (.int .u8 x.s.ln)/\W.cell? ⟨ab,ao+k*6+5,none⟩=some x.s.ev) rfl (by kernel_rfl) aF rfl ?stab ?loc (λW hb=>GU.o W (pB hb (Nat.le_refl _) jA)) ?steps ?fin
    case stab=>
     rintro (_|_|_|_|_|_|_|_|_|_|_|_|_|_|_|_|_|i) v lo hi W W' h hb
     .exact h
     .exact h
     .exact h
     .exact h
     .exact h
     .exact h
     .exact h
     .rw [if_neg aF] at hb;exact (let ⟨y1,z1,y2,z2,e,h⟩:=h;⟨y1,z1,y2,z2,e,h.keep (aN.grown hb aa) hb.size⟩)
     .rw [if_pos rfl] at hb;exact (let ⟨e,n9,E9,FZ,gC⟩:=h;⟨e,n9,E9,FZ,gC.ext hb⟩)
     .exact h
     .exact h
     .exact h
     .exact h
     .exact h
     .exact h
     .exact h
     .rw [if_neg aF] at hb;exact (let ⟨y1,z1,y2,z2,e,h⟩:=h;⟨y1,z1,y2,z2,e,h.keep (aN.grown hb aa) hb.size⟩)
     trivial
    case loc=>
     rintro (_|_|_|_|_|_|_|_|_|_|_|_|_|_|_|_|_|i) v v' lo lo' hi hi' W aC h
     .exact (aC 0 (.inl rfl)).1 ▸ h
     .exact (aC 1 (.inl rfl)).1 ▸ h
     .exact (aC 2 (.inl rfl)).1 ▸ h
     .exact (aC 3 (.inl rfl)).1 ▸ h
     .exact (aC 4 (.inl rfl)).1 ▸ h
     .exact (aC 5 (.inl rfl)).1 ▸ h
     .exact (aC 6 (.inl rfl)).1 ▸ h
     .have q:=aC 7 (.inl rfl);have q6:=aC 6 (.inr (bI (by kernel_rfl)))
      (try dsimp only at h ⊢);(try simp only [q.1,q.2.1,q.2.2,q6.1,q6.2.1,q6.2.2] at h);exact h
     .have q:=aC 8 (.inl rfl);have q0:=aC 0 (.inr (bI (by kernel_rfl)));have q1:=aC 1 (.inr (bI (by kernel_rfl)));have q7:=aC 7 (.inr (bI (by kernel_rfl)))
      (try dsimp only at h ⊢);(try simp only [q.1,q.2.1,q.2.2,q0.1,q0.2.1,q0.2.2,q1.1,q1.2.1,q1.2.2,q7.1,q7.2.1,q7.2.2] at h);exact h
     .exact (aC 9 (.inl rfl)).1 ▸ h
     .exact (aC 10 (.inl rfl)).1 ▸ h
     .exact (aC 11 (.inl rfl)).1 ▸ h
     .exact (aC 12 (.inl rfl)).1 ▸ h
     .exact (aC 13 (.inl rfl)).1 ▸ h
     .exact (aC 14 (.inl rfl)).1 ▸ h
     .exact (aC 15 (.inl rfl)).1 ▸ h
     .have q:=aC 16 (.inl rfl);have q8:=aC 8 (.inr (bI (by kernel_rfl)));have AR:=aC 15 (.inr (bI (by kernel_rfl)))
      (try dsimp only at h ⊢);(try simp only [q.1,q.2.1,q.2.2,q8.1,q8.2.1,q8.2.2,AR.1,AR.2.1,AR.2.2] at h);exact h
     trivial
    case steps=>
     refine cg.cons rfl ?_ (cg.cons rfl ?_ (cg.cons rfl ?_ (cg.cons rfl ?_ (cg.cons rfl ?_ (cg.cons rfl ?_ (cg.cons rfl ?_ (cg.cons rfl ?_ (cg.cons rfl ?_ (cg.cons rfl ?_ (cg.cons rfl ?_ (cg.cons rfl ?_ (cg.cons rfl ?_ (cg.cons rfl ?_ (cg.cons rfl ?_ (cg.cons rfl ?_ (cg.cons rfl ?_ cg.nil))))))))))))))))
     .rintro v lo hi W hb aW ⟨g2,g3,g4,g5⟩ hd K hK;replace hK:=λx W' (h:Below W.heap.size W W')=>hK x W' (by rw [if_neg aF];exact h);clear aW;clear hd;dsimp only;go_wp2;exact aU (hK (.pointer (some ⟨w.heap.size+1,0,none⟩)) W (Below.refl _ _) rfl) ag
     .rintro v lo hi W hb aW ⟨g2,g3,g4,g5⟩ hd K hK;replace hK:=λx W' (h:Below W.heap.size W W')=>hK x W' (by rw [if_neg aF];exact h);clear aW;clear hd;dsimp only;go_wp2;exact aU (hK (.int .i64 id) W (Below.refl _ _) rfl) ag
     .rintro v lo hi W hb aW ⟨g2,g3,g4,g5⟩ hd K hK;replace hK:=λx W' (h:Below W.heap.size W W')=>hK x W' (by rw [if_neg aF];exact h);clear aW;clear hd;dsimp only;go_wp2;exact aU (hK (.slice (some ⟨ab,ao,none⟩) A.length c) W (Below.refl _ _) rfl) ag
     .rintro v lo hi W hb aW ⟨g2,g3,g4,g5⟩ hd K hK;replace hK:=λx W' (h:Below W.heap.size W W')=>hK x W' (by rw [if_neg aF];exact h);clear aW;clear hd;dsimp only;go_wp2;exact aU (hK (.int .i64 k) W (Below.refl _ _) rfl) ag
     .rintro v lo hi W hb aW ⟨g2,g3,g4,g5⟩ hd K hK;replace hK:=λx W' (h:Below W.heap.size W W')=>hK x W' (by rw [if_neg aF];exact h);clear aW;have e2:v 2=.slice (some ⟨ab,ao,none⟩) A.length c:=(hd 2 (bI (by kernel_rfl))).2.2;have e3:v 3=.int .i64 k:=(hd 3 (bI (by kernel_rfl))).2.2;clear hd;dsimp only
      (try simp only [e2,e3])
      go_wp2
      exact aU (hK (.pointer (some ⟨ab,ao+k*6,none⟩)) W (Below.refl _ _) rfl) (by simp [e2,e3])
     .rintro v lo hi W hb aW ⟨g2,g3,g4,g5⟩ hd K hK;replace hK:=λx W' (h:Below W.heap.size W W')=>hK x W' (by rw [if_neg aF];exact h);clear aW;have e4:v 4=.pointer (some ⟨ab,ao+k*6,none⟩):=(hd 4 (bI (by kernel_rfl))).2.2;clear hd;dsimp only
      (try simp only [e4])
      go_wp2
      exact aU (hK (.pointer (some ⟨ab,ao+k*6+2,none⟩)) W (Below.refl _ _) rfl) (by simp [e4])
     .rintro v lo hi W hb aW ⟨g2,g3,g4,g5⟩ hd K hK;replace hK:=λx W' (h:Below W.heap.size W W')=>hK x W' (by rw [if_neg aF];exact h);clear aW;have e5:v 5=.pointer (some ⟨ab,ao+k*6+2,none⟩):=(hd 5 (bI (by kernel_rfl))).2.2;clear hd;dsimp only
      (try simp only [e5])
      go_wp2
      exact aU (hK (.agg #[x.s.dv,x.s.mv,.int .u8 x.s.ln,x.s.ev]) W (Below.refl _ _) rfl) (by simp [e5])
     .rintro v lo hi W hb aW ⟨g2,g3,g4,g5⟩ hd K hK;replace hK:=λx W' (h:Below W.heap.size W W')=>hK x W' (by rw [if_neg aF];exact h);clear aW;have e6:v 6=.agg #[x.s.dv,x.s.mv,.int .u8 x.s.ln,x.s.ev]:=(hd 6 (bI (by kernel_rfl))).2.2;clear hd;dsimp only
      (try simp only [e6])
      go_wp2_with (go_at_call 17;(with_reducible refine (A_.o _ (bH.o.trans (pB hb (Nat.le_refl _) jA))).mono ?_);rintro e w9 ⟨y1,z1,y2,z2,rfl,nk,bg⟩)
      exact aU (hK (.agg #[.slice y1 S.cls.length z1,.int .i64 S.len,.slice y2 S.ext.length z2]) w9 bg ⟨y1,z1,y2,z2,rfl,nk.mono (λk hk=>by have h1:=hk.1;have h2:=hb.size;omega)⟩) (by simp [e6])
     .rintro v lo hi W hb aW ⟨g2,g3,g4,g5⟩ hd K hK;replace hK:=λx W' (h:W.grownBy W' (some w.heap.size))=>hK x W' (by rw [if_pos rfl];exact h);replace aW:=aW rfl;have e0:v 0=.pointer (some ⟨w.heap.size+1,0,none⟩):=(hd 0 (bI (by kernel_rfl))).2.2;have e1:v 1=.int .i64 id:=(hd 1 (bI (by kernel_rfl))).2.2;obtain ⟨la7,lb7,D7⟩:=hd 7 (bI (by kernel_rfl));clear hd;dsimp only
      (try simp only [e0,e1])
      obtain ⟨y1,z1,y2,z2,e7,Jl⟩:=D7
      (try simp only [e7])
      go_wp2_with (go_at_call 24;(with_reducible refine (Em _ _ n _ _ E L id _ _ S W (HI.o.ext aW) (by have:=Dn.o;omega) Jl fU.o.ms oD.o).mono ?_);rintro e w9 Pi;obtain ⟨rfl,sV,n9,E9,FZ,gC⟩:=EC (HI.o.ext aW) eF.o Pi)
      exact aU (hK (.int .i64 (fF L id)) w9 sV ⟨rfl,n9,E9,FZ,gC.mono (λk hk=>by have h2:=aW.size;rcases hk with hk|hk <;> omega) aa⟩) (by simp [e7,e0,e1])
     .rintro v lo hi W hb aW ⟨g2,g3,g4,g5⟩ hd K hK;replace hK:=λx W' (h:Below W.heap.size W W')=>hK x W' (by rw [if_neg aF];exact h);clear aW;clear hd;dsimp only;go_wp2;exact aU (hK (.pointer (some ⟨w.heap.size+2,0,none⟩)) W (Below.refl _ _) rfl) ag
     .rintro v lo hi W hb aW ⟨g2,g3,g4,g5⟩ hd K hK;replace hK:=λx W' (h:Below W.heap.size W W')=>hK x W' (by rw [if_neg aF];exact h);clear aW;clear hd;dsimp only;go_wp2;exact aU (hK (.int .i64 id) W (Below.refl _ _) rfl) ag
     .rintro v lo hi W hb aW ⟨g2,g3,g4,g5⟩ hd K hK;replace hK:=λx W' (h:Below W.heap.size W W')=>hK x W' (by rw [if_neg aF];exact h);clear aW;clear hd;dsimp only;go_wp2;exact aU (hK (.slice (some ⟨ab,ao,none⟩) A.length c) W (Below.refl _ _) rfl) ag
     .rintro v lo hi W hb aW ⟨g2,g3,g4,g5⟩ hd K hK;replace hK:=λx W' (h:Below W.heap.size W W')=>hK x W' (by rw [if_neg aF];exact h);clear aW;clear hd;dsimp only;go_wp2;exact aU (hK (.int .i64 k) W (Below.refl _ _) rfl) ag
     .rintro v lo hi W hb aW ⟨g2,g3,g4,g5⟩ hd K hK;replace hK:=λx W' (h:Below W.heap.size W W')=>hK x W' (by rw [if_neg aF];exact h);clear aW;have e11:v 11=.slice (some ⟨ab,ao,none⟩) A.length c:=(hd 11 (bI (by kernel_rfl))).2.2;have fL:v 12=.int .i64 k:=(hd 12 (bI (by kernel_rfl))).2.2;clear hd;dsimp only
      (try simp only [e11,fL])
      go_wp2
      exact aU (hK (.pointer (some ⟨ab,ao+k*6,none⟩)) W (Below.refl _ _) rfl) (by simp [e11,fL])
     .rintro v lo hi W hb aW ⟨g2,g3,g4,g5⟩ hd K hK;replace hK:=λx W' (h:Below W.heap.size W W')=>hK x W' (by rw [if_neg aF];exact h);clear aW;have mT:v 13=.pointer (some ⟨ab,ao+k*6,none⟩):=(hd 13 (bI (by kernel_rfl))).2.2;clear hd;dsimp only
      (try simp only [mT])
      go_wp2
      exact aU (hK (.pointer (some ⟨ab,ao+k*6+2,none⟩)) W (Below.refl _ _) rfl) (by simp [mT])
     .rintro v lo hi W hb aW ⟨g2,g3,g4,g5⟩ hd K hK;replace hK:=λx W' (h:Below W.heap.size W W')=>hK x W' (by rw [if_neg aF];exact h);clear aW;have nS:v 14=.pointer (some ⟨ab,ao+k*6+2,none⟩):=(hd 14 (bI (by kernel_rfl))).2.2;clear hd;dsimp only
      (try simp only [nS])
      go_wp2
      exact aU (hK (.agg #[x.s.dv,x.s.mv,.int .u8 x.s.ln,x.s.ev]) W (Below.refl _ _) rfl) (by simp [nS])
     rintro v lo hi W hb aW ⟨g2,g3,g4,g5⟩ hd K hK;replace hK:=λx W' (h:Below W.heap.size W W')=>hK x W' (by rw [if_neg aF];exact h);clear aW;have oR:v 15=.agg #[x.s.dv,x.s.mv,.int .u8 x.s.ln,x.s.ev]:=(hd 15 (bI (by kernel_rfl))).2.2;clear hd;dsimp only
     (try simp only [oR])
     go_wp2_with (go_at_call 17;(with_reducible refine (A_.o _ (bH.o.trans (pB hb (Nat.le_refl _) jA))).mono ?_);rintro e w9 ⟨y1,z1,y2,z2,rfl,nk,bg⟩)
     exact aU (hK (.agg #[.slice y1 S.cls.length z1,.int .i64 S.len,.slice y2 S.ext.length z2]) w9 bg ⟨y1,z1,y2,z2,rfl,nk.mono (λk hk=>by have h1:=hk.1;have h2:=hb.size;omega)⟩) (by simp [oR])
    case fin=>
     rintro v lo hi W5 n_ ⟨-,-,-,-⟩ hf hap;show wpList _ _ _ [_,_] _ _;obtain ⟨-,-,-,e8,n',E',hn',hi'⟩:=hf 8 rfl;obtain ⟨-,-,-,y1,z1,y2,z2,pL,F_⟩:=hf 16 rfl;have e9:v 9=.pointer (some ⟨w.heap.size+2,0,none⟩):=(hf 9 rfl).2.2.2;have h_:v 10=.int .i64 id:=(hf 10 rfl).2.2.2;clear hf hap;dsimp only;rw [e8,e9,h_,pL];have He:=ad (HR.o.grown n_ aa aa);have A8:=ad hi';have Lx:=ad F_;have cr:=ad (bH.o.trans (pB n_ (Nat.le_refl _) jA));have nx:=n_.size;clear e8 e9 h_ pL n_ hi' F_;obtain ⟨r,hr⟩:∃ r,fF L id=r:=⟨_,rfl⟩;have HE:=ad hr;rw [hr];clear hr;generalize v 0=y0,v 1=y1,v 2=y2,v 3=y3,v 4=y4,v 5=y5,v 6=y6,v 7=y7,v 8=y8,v 9=y9,v 10=sl,v 11=sm,v 12=tk,v 13=XQ,v 14=y14,v 15=y15,v 16=y16;go_wp2_with (go_at_call 27;((with_reducible refine (xy_ _ _ (λb=>w.heap.size+3<=b) _ M L id _ _ S W5 He.o (by have:=sA.o;omega) Lx.o fU.o.ms.val oD.o aa).mono ?_);rintro e w6 hr;obtain ⟨rfl,lu,v6,M6,I7,F7⟩:=zz_ He.o aa eF.o hr;rw [HE.o];have Lq:=ad (F7.mono (G':=λb=>w.heap.size+3<=b) (λb hb=>by rcases hb with (hb|hb)|hb <;> omega) aa);have G3:=ad (A8.o.grown lu aa aa aa);have tG:=ad I7;have bO:=ad (cr.o.trans (pB lu aa aa));clear hr lu F7 I7));go_roundw
     .exact ⟨k+1,fX L id S,aa,aa,by go_num,ad ⟨⟨n',E',by have:=Dm.o;omega,G3.o⟩,⟨v6,M6,by have:=tG.o;have:=Ba.o;omega,Lq.o⟩,kz.o.add KA.o.2 fU.o⟩,bO⟩
     simp [intOf];omega
   go_upto_region 8 with fail
   rw [CZ.o];clear e0 e1;go_wp2_with (first|(go_at_call 26;((with_reducible refine (Vi _ _ n E id wk HI.o.box HI.o.map oD.o).mono ?_);rintro e w4 hr;obtain ⟨hg4,rfl,E',BX⟩:=XD HI.o hr;have Sh:=ad (HR.o.grown hg4 aa aa);have tA:=ad BX;have cD:=ad (bH.o.trans (pB hg4 (Nat.le_refl _) jA));have Jw:=hg4.size;clear hr hg4 BX))|(go_at_call 35;((with_reducible refine (qk_ _ _ _ M L id w4 Sh.o (by have:=sA.o;omega)).mono ?_);rintro e w5 hr;obtain ⟨n_,rfl,v5,M5,TE,vq⟩:=ME Sh.o hr;have He:=ad (vq.mono (G':=λb=>w.heap.size+3<=b) (λb hb=>by have h3:=HB.o.size;rcases hb with hb|hb <;> omega) aa);have A8:=ad (tA.o.grown n_ aa aa aa);have KM:=ad TE;have cr:=ad (cD.o.trans (pB n_ aa aa));clear hr n_ vq TE)));go_roundw
   .exact ⟨k+1,dF L id,aa,aa,by go_num,ad ⟨⟨n,E',by have:=Dm.o;omega,A8.o⟩,⟨v5,M5,by have:=KM.o;have:=Ba.o;omega,He.o⟩,kz.o.del id⟩,cr⟩
   simp [intOf];omega
  obtain rfl:k=8:=aa;go_wp2;refine bodyPost_ret (v:=.tuple #[.pointer (some ⟨w.heap.size+1,0,none⟩),.pointer (some ⟨w.heap.size+2,0,none⟩),.bool true]) (by simp [results,Tryz.results13,go_sem]) rfl ?_;exact ⟨L,rfl,HB.o,bH.o⟩
 go_wp2
 refine bodyPost_ret (v:=.tuple #[.pointer (some ⟨w.heap.size+1,0,none⟩),.pointer (some ⟨w.heap.size+2,0,none⟩),.bool true]) (by simp [results,Tryz.results13,go_sem]) rfl ?_;obtain ⟨⟨n,E,hn,hI⟩,⟨rv,M,hM,hR⟩,eV⟩:=HB.o;exact ⟨L,rfl,⟨⟨n,E,aa,hI⟩,⟨rv,M,aa,hR⟩,eV⟩,bH.o⟩
theorem fg.len {p b:Nat} {G:Nat->Prop} {E:List (Int × bm)} {L:IL} (h:fg W p b n G E L):(E.map dJ).length=L.length:=by
 have:=congrArg List.length h.ids;simpa [Kal.ids] using this
theorem oP.no {L:IL} (h:oP L) {j:Int} (hj:6<=j):j ∉ ids L:=λhm=>by
 obtain ⟨x,hx,rfl⟩:=List.mem_map.1 hm;have:=(h x hx).1;omega
theorem a2j_ {L:IL} (hL:ja L) {s:aE} (h1:1<=i) (hi:i ∉ ids L):fF L i=0/\fF (fX L i s) i=5/\(i∈ids (fX L i s))/\fX (fX L i s) i s=fX L i s/\dF (fX L i s) i=L/\(fX L i s).length=L.length+1:=by
 have hm:i∈ids (di L i s):=x8_.2 (.inl rfl);rw [WV h1 hi];exact ⟨WU h1 hi,Vt h1 hm,hm,Vu hm,a2h_ hL hi,a1w_⟩
theorem a26_ {L:IL} (hL:ja L) {j:Int} {s z:aE} (hk:L[k]? = some (i,s)) (h1:1<=i) (h2:1<=j) (hj:j ∉ ids L) :
  fF (L.drop (k+1)) j=0/\fF (fX (L.drop (k+1)) j z) i=0/\j∈ids (fX (fX (L.drop (k+1)) j z) i s)/\dF (fX (fX (L.drop (k+1)) j z) i s) j=L.drop k:=by
 obtain ⟨hlt,e⟩:=List.getElem?_eq_some_iff.1 hk;have ed:L.drop k=(i,s) :: L.drop (k+1):=by rw [<- e];exact List.drop_eq_getElem_cons hlt
 have hmem:∀ x∈L.drop k,x∈L:=λx hx=>List.mem_of_mem_drop hx;have NW:ja (L.drop k):=by
  unfold ja ids at *;rw [List.map_drop];exact hL.sublist (List.drop_sublist _ _)
 have hno:∀ x∈L.drop k,x.1≠j:=λx hx e=>hj (List.mem_map.2 ⟨x,hmem x hx,e⟩);obtain ⟨D,hD⟩:∃ D,L.drop (k+1)=D:=⟨_,rfl⟩;rw [hD] at ed ⊢;rw [ed] at hno NW;have gD:i≠j:=hno (i,s) ag;have hA:ja D/\i ∉ ids D:=by
  unfold ja ids at NW;rw [List.map_cons,List.pairwise_cons] at NW;exact ⟨NW.2,λhm=>by have:=NW.1 _ hm;simp at this⟩
 have hjD:j ∉ ids D:=λhm=>by
  obtain ⟨x,hx,rfl⟩:=List.mem_map.1 hm;exact hno x (by simp [hx]) rfl
 have hiD:i ∉ ids (di D j z):=λhm=>(x8_.1 hm).elim gD hA.2;rw [WV h2 hjD,WV h1 hiD];refine ⟨WU h2 hjD,WU h1 hiD,x8_.2 (.inr (x8_.2 (.inl rfl))),?_⟩;rw [ed];refine a1y_ (Wd (Qi (Qi hA.1 hjD) hiD)) NW λx=>?_;rw [We,BC,BC,List.mem_cons];constructor
 .rintro ⟨rfl|rfl|h,h2⟩
  .exact .inl rfl
  .exact absurd rfl h2
  exact .inr h
 intro h;exact ⟨h.imp id .inr,hno x (by simpa using h)⟩
def XIs (W:World) (B g k:Nat) (L:IL):Prop:=(B+2<=g/\g<=W.heap.size)/\∃ n E,n<=k/\fg W (B+1) B n (λb=>g<=b) E L
theorem JL.x {L:IL} (h:JL W B k L):XIs W B (B+3) k L:=by
 have:=h.size;exact ⟨⟨aa,this⟩,h.idx⟩
theorem XIs.new (hb:af w' (w.heap.size+1) #[.map (some w.heap.size)] 98) (hm:cT w' w.heap.size 0 []):XIs w' w.heap.size (w.heap.size+2) 0 []:=
 ⟨⟨Nat.le_refl _,by have:=hb.lt;omega⟩,0,[],Nat.le_refl _,fg.new hb hm⟩
theorem XIs.ext {L:IL} (h:XIs W B g k L) (hb:Below W.heap.size W W'):XIs W' B g k L:=by
 obtain ⟨⟨h0,h1⟩,n,E,h2,h3⟩:=h;exact ⟨⟨h0,Nat.le_trans h1 hb.size⟩,n,E,h2,h3.ext hb⟩
theorem XIs.up {k':Nat} {L:IL} (h:XIs W B g k L) (hk:k<=k'):XIs W B g k' L:=by
 obtain ⟨h0,n,E,h2,h3⟩:=h;exact ⟨h0,n,E,aa,h3⟩
theorem a1g_ (v1 v2:Value) (l:List Int) (w:World) (h1:Ints w v1 l) (h2:Ints w v2 l):Calls Tryz.prog 21 #[v1,v2] w λe w'=>e=.returned (.bool true)/\Below w.heap.size w w':=by
 have h:=Np v1 v2 l l w h1 h2;rwa [decide_eq_true (rfl:l=l)] at h
theorem XIs.le {L:IL} (h:XIs W B g k L):B+2<=W.heap.size:=by have:=h.1;omega
theorem XIs.asc {L:IL} (h:XIs W B g k L):ja L:=by obtain ⟨_,n,E,_,h3⟩:=h;exact h3.asc
theorem a1f_ {L:IL} (h:XIs W B g k L):Calls Tryz.prog 22 #[.pointer (some ⟨B+1,0,none⟩)] W λe w'=>e=.returned (.int .i64 L.length)/\Below W.heap.size W w':=by
 obtain ⟨_,n,E,_,h3⟩:=h;have:=Wr _ _ n (E.map dJ) W h3.box h3.map h3.sorted h3.num;rwa [h3.len] at this
theorem a1b_ {L:IL} (a b:Int) (h:XIs W B g k L) (ha:aP a) (hb:aP b):Calls Tryz.prog 14 #[.pointer (some ⟨B+1,0,none⟩),.agg #[.int .i64 a,.int .i64 b]] W (w8_ L a b W):=by
 obtain ⟨_,n,E,_,h3⟩:=h;exact PW _ _ n _ E L a b W h3 ha hb
theorem a1c_ {L:IL} {F:Nat->Prop} {s:aE} (h:XIs W B g k L) (hs:bq W F cv ev s) (gR:bM s):Calls Tryz.prog 16 #[.pointer (some ⟨B+1,0,none⟩),.agg #[cv,.int .i64 s.len,ev]] W (w9_ s L W):=by
 obtain ⟨_,n,E,_,h3⟩:=h;exact p0_ _ _ n _ F E L cv ev s W h3 hs gR
theorem a1r_ {L:IL} (f:Int) (h:XIs W B g k L) (hf:aP f):Calls Tryz.prog 19 #[.pointer (some ⟨B+1,0,none⟩),.int .i64 f] W (wa_ L f W):=by
 obtain ⟨_,n,E,_,h3⟩:=h;exact It _ _ n _ E L f W h3 hf
def XRes (W:World) (B g k:Nat) (L:IL) (r:Int) (e:Ending) (w':World):Prop:=e=.returned (.int .i64 r)/\XIs w' B g k L/\W.grownBy w' (some B)
theorem XRes.below {L:IL} {e:Ending} (h:XRes W B g k L r e w') {N:Nat} (hN:N<=B) (hs:N<=W.heap.size):Below N W w':=pB h.2.2 hN hs
theorem a1e_ {L:IL} {F:Nat->Prop} {s:aE} (i:Int) (h:XIs W B g k L) (hk:k<4000) (hs:bq W F cv ev s) (gR:bM s) (hi:aP i) (hm:i<=1099511627776) :
  Calls Tryz.prog 24 #[.pointer (some ⟨B+1,0,none⟩),.int .i64 i,.agg #[cv,.int .i64 s.len,ev]] W (XRes W B g (k+1) (fX L i s) (fF L i)):=by
 obtain ⟨⟨h0,h1⟩,n,E,h2,h3⟩:=h;refine (Em _ _ n _ F E L i cv ev s W h3 aa hs gR hi).mono λe w' hr=>?_;obtain ⟨rfl,hg,n',E',hn',hi'⟩:=EC h3 hm hr;exact ⟨rfl,⟨⟨h0,Nat.le_trans h1 hg.size⟩,n',E',aa,hi'.mono (λb hb=>by rcases hb with hb|hb <;> omega) aa⟩,hg⟩
theorem a1q_ {L:IL} (i:Int) (h:XIs W B g k L) (hi:aP i) :
  Calls Tryz.prog 26 #[.pointer (some ⟨B+1,0,none⟩),.int .i64 i] W (XRes W B g k (dF L i) (if i∈ids L then 0 else 4)):=by
 obtain ⟨⟨h0,h1⟩,n,E,h2,h3⟩:=h;refine (Vi _ _ n E i W h3.box h3.map hi).mono λe w' hr=>?_;obtain ⟨hg,rfl,E',hi'⟩:=XD h3 hr;exact ⟨rfl,⟨⟨h0,Nat.le_trans h1 hg.size⟩,n,E',h2,hi'⟩,hg⟩
end
end Go.Proofs.YtbmgmlbmgogeaaaGreat
end
