/- The statement MixedMatchesReferenceSaid: for every input the law returns true, and its arguments read as before. -/
import Derived.Test.YthjnojbeimchdaaGreatQ9
import Derived.Test.YthjnojbeimchdaaGreatQ8
import Derived.Test.YthjnojbeimchdaaGreatQ6
import Derived.Test.YthjnojbeimchdaaGreatQ7
import Derived.Test.YthjnojbeimchdaaGreatQ4
set_option linter.unusedVariables false
set_option linter.unusedSimpArgs false
set_option maxRecDepth 100000
set_option maxHeartbeats 4000000
section
variable {b:Bool}{e:Go.Ending}{k' n s:Int}{T m m1 m2:List (List Kal.Per)}{l:List Int}{t:List Kal.Per}{p q:Kal.Per}{h v:Go.Value}{W W' w w':Go.World}
namespace Go.Proofs.YthjnojbeimchdaaGreat
open Go.RowKit Go.Maps Kal
theorem vi_ (h:∀ t∈m,aw_ s t) (ho:cv_ m):MV s m:=⟨(d8_ h).2 ho,h⟩
theorem xd_ (h:FV s p):aw_ s [p]:=⟨sq_,fun q hq=>by rw [List.mem_singleton] at hq;subst hq;exact h,sq_⟩
theorem h5_ (h:FV s p):MV s [[p]]:=vi_ (fun t ht=>by rw [List.mem_singleton] at ht;subst ht;exact xd_ h) (ok_one sq_)
theorem fd_ (h:CFac 0 p):FV 0 p:=⟨h.fac,by have:=h.fac.frm;omega⟩
theorem lg_:MV 0 [[ev 1 4,ev 3 6]]:=vi_ (fun t ht=>by
 rw [List.mem_singleton] at ht;subst ht;exact ⟨sq_,fun p hp=>by
  rcases List.mem_cons.1 hp with rfl|hp
  ·exact fd_ x1
  ·rw [List.mem_singleton] at hp;subst hp;exact fd_ x2,sq_⟩) (ok_one sq_)
theorem c8_.is {n:Nat} (h:c8_ s T w e w') (hm:bf_ T m) (ho:cv_ m) (hn:m.length=n) :
  ∃ a c,e=.returned (.tuple #[.agg #[.slice a n c],.int .i64 0])∧MixR w' (fun b=>w.heap.size≤b) (.slice a n c) m∧Below w.heap.size w w':=by
 obtain ⟨a,c,k,mk,rfl,h1,h2,⟨rfl,h3,h4⟩|⟨_,_,_,_,m',h3,h4⟩⟩:=h.num
 ·obtain rfl:=h3.unique hm;subst hn;exact ⟨a,c,rfl,h1,h2⟩
 ·obtain rfl:=h3.unique hm;exact absurd ho h4
theorem fk_.is {n:Nat} (h:fk_ s m1 m2 w e w') (hm:b4_ m1 m2 (some m)) (hn:m.length=n) :
  ∃ a c,e=.returned (.tuple #[.agg #[.slice a n c],.int .i64 0])∧MixR w' (fun b=>w.heap.size≤b) (.slice a n c) m∧Below w.heap.size w w':=by
 obtain ⟨v,r,h1,h2,⟨k,rfl,_,rfl,h5⟩|⟨rfl,_⟩⟩:=h
 ·have e:=h1.unique hm;injection e with e
  subst e;subst hn;obtain ⟨a,c,rfl⟩:=h5.form;exact ⟨a,c,rfl,h5,h2⟩
 ·have e:=h1.unique hm;cases e
def MixB (W:World) (b n:Nat) (m:List (List Per)):Prop:=∃ a c,Bxx W b #[.slice a n c] 28∧MixR W (fun _=>True) (.slice a n c) m
def bk_ (W:World) (L:List (Nat × Nat × List (List Per))):Prop:=∀ x∈L,MixB W x.1 x.2.1 x.2.2
theorem bk_.below {L:List (Nat × Nat × List (List Per))} (h:bk_ W L) (hb:Below W.heap.size W W'):bk_ W' L:=fun x hx=>by
 obtain ⟨a,c,h1,h2⟩:=h x hx;exact ⟨a,c,h1.below hb,h2.ext hb⟩
theorem bk_.nil (W:World):bk_ W []:=fun x hx=>nomatch hx
theorem bk_.cons {L:List (Nat × Nat × List (List Per))} {b n:Nat} (h1:MixB W b n m) (h:bk_ W L):bk_ W ((b,n,m) :: L):=fun x hx=>by
 rcases List.mem_cons.1 hx with rfl|hx
 ·exact h1
 ·exact h x hx
theorem bk_.at {L:List (Nat × Nat × List (List Per))} (h:bk_ W L) (i:Nat) {b n:Nat} (e:L[i]? = some (b,n,m)):MixB W b n m:=h (b,n,m) (List.mem_of_getElem? e)
theorem bz_ (n r:Int) (h0:0≤r) (h1:r<n) (hd:n∣27720) (w:World) :
  Calls Tryz.prog 53 #[.int .i64 n,.int .i64 r] w fun e w'=>∃ a c,e=.returned (.agg #[.slice a 1 c])∧MixR w' (fun b=>w.heap.size≤b) (.slice a 1 c) [[ev r n]]∧Below w.heap.size w w':=by
 have hn:n≤27720:=Int.le_of_dvd dq_ hd;have hcf:=h6_ h0 h1 hd;have hof:ofM (ev r n)=[[ev r n]]:=by unfold ofM;rw [hcf.canonC,show fe_ (ev r n)=false from by simp [fe_,ev]];rfl
 have HO:=fun W b (h:Bxx W b #[.int .i64 r] 3)=>qb_ 0 (.slice none 0 0) (.slice (some ⟨b,0,none⟩) 1 1) (ev r n) W ⟨Ints.nil _,Ints.lit (l:=[r]) h sq_ (fun x hx=>by rw [List.mem_singleton] at hx;subst hx;exact ⟨oq_,oq_⟩)⟩ (fd_ hcf);rw [hof] at HO;change ∀ W b,_->Calls _ _ #[.agg #[.slice none 0 0,.int .i64 0,.int .i64 n,.slice (some ⟨b,0,none⟩) 1 1]] W _ at HO;clear hcf hof hd
 go_enter Tryz.func53,Tryz.ntmps53
 go_wp2_with (go_at_call 54;(refine (HO _ _ xB).mono ?_;rintro e w1 ⟨a,c,rfl,hm,hb1⟩;have b0:Bxx w1 w.heap.size #[.slice none 0 0] 28:=Bxx.below xB hb1;have x0:=b0.cells 0))
 have hcc:=Bxx.c0 (a4_ 0 (.slice a 1 c) b0);exact bodyPost_ret (v:=.agg #[.slice a 1 c]) (by simp [results,Tryz.results53,go_sem,hcc]) rfl ⟨a,c,rfl,((hm.mono (G:=fun b=>w.heap.size+1≤b) fun b hb=>by simp at hb;omega).set oq_).mono fun b hb=>oq_,(Et (Ea (Ea (Er w) _) _) hb1).setCell (p:=⟨w.heap.size,0,none⟩) (Nat.le_refl _) _⟩
theorem MixR.first {F:Nat->Prop} (h:MixR W F v (t :: m)):∃ b o c ta tc,v=.slice (some ⟨b,o,none⟩) (m.length+1) c∧W.cell? ⟨b,o,none⟩=some (.slice ta t.length tc)∧ab_ W F (.slice ta t.length tc) t:=by
 obtain ⟨L,hL,hml⟩:=h;have hl:L.length=m.length+1:=by have:=congrArg List.length hL;simpa using this
 obtain ⟨b,o,c,ta,tn,tc,u,he,e0,htt,hmt⟩:=hml.at (show 0<L.length by omega);rw [hL] at hmt;obtain rfl:t=u:=by simpa using hmt
 obtain ⟨_,_,h1,_⟩:=htt.form;injection h1 with h1 h2 h3
 subst h2;exact ⟨b,o,c,ta,tc,by rw [he,hl],by simpa using e0,htt⟩
theorem Bxx.ints {b:Nat} {t:TypeId} (h:Bxx w b (l.map (Value.int .i64)).toArray t) (hl:decide (l.length≤10)=true) (hr:(l.all fun x=>decide (0≤x∧x≤1000))=true):Ints w (.slice (some ⟨b,0,none⟩) l.length l.length) l:=
 Ints.lit h (by have:=of_decide_eq_true hl;omega) fun x hx=>by
  have:=of_decide_eq_true (List.all_eq_true.1 hr x hx);unfold InI;omega
theorem of_ (F:Nat->Prop) (h c:Value) (p:Per) (n:Int) (l:List Int) (k b:Nat) (w:World) (hx:PVok w F ⟨h,c,p⟩) (hb:Bxx w b (l.map (Value.int .i64)).toArray 3) (he:p=⟨[],0,n,l⟩) (hk:l.length=k) (hn:InI n) (hl:decide (l.length≤10)=true) (hr:(l.all fun x=>decide (0≤x∧x≤1000))=true) :
  Calls Tryz.prog 44 #[.agg #[h,.int .i64 p.frm,.int .i64 p.period,c],.agg #[.slice none 0 0,.int .i64 0,.int .i64 n,.slice (some ⟨b,0,none⟩) k k]] w fun e w'=>e=.returned (.bool true)∧Below w.heap.size w w':=by
 subst hk;have h1:=f0_ F (fun _=>True) ⟨h,c,p⟩ ⟨.slice none 0 0,.slice (some ⟨b,0,none⟩) l.length l.length,⟨[],0,n,l⟩⟩ w hx ⟨⟨Ints.nil _,hb.ints hl hr⟩,show InI (0:Int) from ⟨dq_,dq_⟩,hn,fun h=>absurd rfl h,fun _ _ _=>trivial⟩;have h2:bi_ p ⟨[],0,n,l⟩=true:=by rw [he];unfold bi_;simp
 have h1:Calls _ _ #[.agg #[h,.int .i64 p.frm,.int .i64 p.period,c],.agg #[.slice none 0 0,.int .i64 0,.int .i64 n,.slice (some ⟨b,0,none⟩) l.length l.length]] w fun e w'=>e=.returned (.bool (bi_ p ⟨[],0,n,l⟩))∧_:=h1;rwa [h2] at h1
theorem vw_ (W:World):MixR W (fun _=>True) (.slice none 0 0) []:=⟨[],rfl,⟨none,0,rfl,sq_,oq_,.inl rfl⟩,sq_,sq_⟩
def dx_:Per:=⟨[],0,4,[0,1,2]⟩
def ed_:Per:=⟨[],0,6,[2,4]⟩
theorem vb_:bf_ ([[ev 0 2]] ++ [[ev 1 4]]) [[dx_]]:=w4_
theorem sc_:b4_ [[ev 0 2]] [[ev 0 6]] (some [[ed_]]):=uy_
theorem i0:InI 0:=⟨dq_,dq_⟩
theorem kc_.is {mk nk:List (List Per)} (h:kc_ m1 m2 w e w') (hm:b4_ m1 m2 (some mk)) (hn:b4_ m2 m1 (some nk)) (hx:ax_ FarI (mmem (mk ++ nk)) 0 n b) :
  e=.returned (.tuple #[.int .i64 n,.bool b,.int .i64 0])∧Below w.heap.size w w':=by
 obtain ⟨r,hB,hb,⟨mk',nk',n',b',rfl,hx',rfl⟩|⟨rfl,_⟩⟩:=h
 ·have e1:=hB.1.unique hm;have e2:=hB.2.unique hn;injection e1 with e1;injection e2 with e2
  subst e1;subst e2;obtain ⟨rfl,rfl⟩:=hx'.unique hx;exact ⟨rfl,hb⟩
 ·rcases hB with h|⟨_,h⟩
  ·have:=h.unique hm;cases this
  ·have:=h.unique hn;cases this
theorem x8_ (W:World) (b:Nat) (h:Bxx W b #[.int .i64 0,.int .i64 2,.int .i64 4] 3):Calls Tryz.prog 54 #[.agg #[.slice (some ⟨b,0,none⟩) 3 3,.int .i64 5,.int .i64 1,.slice none 0 0]] W
  fun e w'=>∃ a c,e=.returned (.agg #[.slice a 1 c])∧MixR w' (fun b=>W.heap.size≤b) (.slice a 1 c) [[tri]]∧Below W.heap.size W w':=by
 have h1:=qb_ 0 (.slice (some ⟨b,0,none⟩) 3 3) (.slice none 0 0) tri W ⟨Bxx.ints (l:=[0,2,4]) h dq_ dq_,Ints.nil _⟩ (fd_ kv_);rw [show ofM tri=[[tri]] from by unfold ofM;rw [kv_.canonC,show fe_ tri=false from by decide];rfl] at h1;exact h1
theorem MixB.first {b n k:Nat} (h:MixB W b n (t :: m)) (hk:t.length=k):∃ bb o c ta tc,Bxx W b #[.slice (some ⟨bb,o,none⟩) n c] 28∧W.cell? ⟨bb,o,none⟩=some (.slice ta k tc)∧ab_ W (fun _=>True) (.slice ta k tc) t:=by
 obtain ⟨a,c,h1,h2⟩:=h;obtain ⟨bb,o,c',ta,tc,he,h3,h4⟩:=h2.first;injection he with e1 e2 e3
 subst e1;subst e3;subst hk;exact ⟨bb,o,_,ta,tc,h1,h3,h4⟩
theorem ab_.one_p {F:Nat->Prop} {ta:Option Addr} {tc:Nat} (h:ab_ W F (.slice ta 1 tc) [p]):∃ b o a1 n1 c1 a2 n2 c2,ta=some ⟨b,o,none⟩∧PVok W F ⟨.slice a1 n1 c1,.slice a2 n2 c2,p⟩∧
  W.cell? ⟨b,o,none⟩=some (.slice a1 n1 c1)∧W.cell? ⟨b,o+1,none⟩=some (.int .i64 p.frm)∧W.cell? ⟨b,o+2,none⟩=some (.int .i64 p.period)∧W.cell? ⟨b,o+3,none⟩=some (.slice a2 n2 c2):=by
 obtain ⟨b,o,c,a1,n1,c1,a2,n2,c2,he,hx,h0,h1,h2,h3⟩:=h.single rfl;injection he with e1
 exact ⟨b,o,a1,n1,c1,a2,n2,c2,e1,hx,h0,h1,h2,h3⟩
theorem r2_ (w:World) :
  Calls Tryz.prog 13 #[] w fun e w'=>e=.returned (.bool true)∧Below w.heap.size w w':=by
 have v14:=h5_ (fd_ x1);have v36:=h5_ (fd_ x2);have v26:=h5_ (fd_ x3);have v02:=h5_ (fd_ x4);have v06:=h5_ (fd_ x5);have d2:(2:Int)∣27720:=⟨13860,dq_⟩;have d4:(4:Int)∣27720:=⟨6930,dq_⟩;have d6:(6:Int)∣27720:=⟨4620,dq_⟩;have hS:=bk_.nil w;have hE:=Er w
 go_enter Tryz.func13,Tryz.ntmps13
 go_upto_region 2 with (first|(go_at_call 53;(first|((with_reducible refine (bz_ 4 1 oq_ oq_ d4 _).mono ?_);rintro e uA2 ⟨aA2,cA2,rfl,mA,kA⟩)|((with_reducible refine (bz_ 6 3 oq_ oq_ d6 _).mono ?_);rintro e uB2 ⟨aB2,cB2,rfl,mB,kB⟩)))|(go_at_call 22;(refine (jx_ 0 _ _ (.slice aA2 1 cA2) (.slice aB2 1 cB2) _ _ _ (mA.ext kB) mB v14 v36).mono ?_;rintro e uR hR;obtain ⟨aR2,cR2,rfl,mR,kR⟩:=hR.is v1_ (ok_one sq_) rfl)))
 refine al_ (F:=fun U=>bk_ U ((uR.heap.size,1,[[ev 1 4,ev 3 6]]) :: [])∧Below w.heap.size w U) ⟨bk_.cons ⟨aR2,cR2,xB,(mR.mono fun _ _=>trivial).ext xE⟩ (hS.below xE),xE⟩ ?_;clear hS hE mA mB kA kB mR kR;generalize uR.heap.size=b2 at *;rintro W2 ⟨hS,hE⟩;go_upto_region 3 with (first|(go_at_call 53;(first|((with_reducible refine (bz_ 4 1 oq_ oq_ d4 _).mono ?_);rintro e uA3 ⟨aA3,cA3,rfl,mA,kA⟩)|((with_reducible refine (bz_ 6 2 oq_ oq_ d6 _).mono ?_);rintro e uB3 ⟨aB3,cB3,rfl,mB,kB⟩)))|(go_at_call 22;(refine (jx_ 0 _ _ (.slice aA3 1 cA3) (.slice aB3 1 cB3) _ _ _ (mA.ext kB) mB v14 v26).mono ?_;rintro e uR hR;obtain ⟨aR3,cR3,rfl,mR,kR⟩:=hR.is v3_ t1_ rfl)))
 refine al_ (F:=fun U=>bk_ U ((uR.heap.size,0,[]) :: [(b2,1,[[ev 1 4,ev 3 6]])])∧Below w.heap.size w U) ⟨bk_.cons ⟨aR3,cR3,xB,(mR.mono fun _ _=>trivial).ext xE⟩ (hS.below xE),xE⟩ ?_;clear hS hE mA mB kA kB mR kR;generalize uR.heap.size=b3 at *;rintro W3 ⟨hS,hE⟩;go_upto_region 4 with (first|(go_at_call 53;(first|((with_reducible refine (bz_ 2 0 oq_ oq_ d2 _).mono ?_);rintro e uA4 ⟨aA4,cA4,rfl,mA,kA⟩)|((with_reducible refine (bz_ 4 1 oq_ oq_ d4 _).mono ?_);rintro e uB4 ⟨aB4,cB4,rfl,mB,kB⟩)))|(go_at_call 21;(refine (ln_ 0 _ _ (.slice aA4 1 cA4) (.slice aB4 1 cB4) _ _ _ (mA.ext kB) mB v02 v14).mono ?_;rintro e uR hR;obtain ⟨aR4,cR4,rfl,mR,kR⟩:=hR.is vb_ (ok_one sq_) rfl)))
 refine al_ (F:=fun U=>bk_ U ((uR.heap.size,1,[[dx_]]) :: [(b3,0,[]),(b2,1,[[ev 1 4,ev 3 6]])])∧Below w.heap.size w U) ⟨bk_.cons ⟨aR4,cR4,xB,(mR.mono fun _ _=>trivial).ext xE⟩ (hS.below xE),xE⟩ ?_;clear hS hE mA mB kA kB mR kR;generalize uR.heap.size=b4 at *;rintro W4 ⟨hS,hE⟩;go_upto_region 5 with (first|(go_at_call 53;(first|((with_reducible refine (bz_ 4 1 oq_ oq_ d4 _).mono ?_);rintro e uA5 ⟨aA5,cA5,rfl,mA,kA⟩)|((with_reducible refine (bz_ 6 3 oq_ oq_ d6 _).mono ?_);rintro e uB5 ⟨aB5,cB5,rfl,mB,kB⟩)))|(go_at_call 21;(refine (ln_ 0 _ _ (.slice aA5 1 cA5) (.slice aB5 1 cB5) _ _ _ (mA.ext kB) mB v14 v36).mono ?_;rintro e uR hR;obtain ⟨aR5,cR5,rfl,mR,kR⟩:=hR.is w6_ (ok_two sq_ sq_) rfl)))
 refine al_ (F:=fun U=>bk_ U ((uR.heap.size,2,[[ev 1 4],[ev 3 6]]) :: [(b4,1,[[dx_]]),(b3,0,[]),(b2,1,[[ev 1 4,ev 3 6]])])∧Below w.heap.size w U) ⟨bk_.cons ⟨aR5,cR5,xB,(mR.mono fun _ _=>trivial).ext xE⟩ (hS.below xE),xE⟩ ?_;clear hS hE mA mB kA kB mR kR;generalize uR.heap.size=b5 at *;rintro W5 ⟨hS,hE⟩;go_upto_region 6 with (first|(go_at_call 53;(first|((with_reducible refine (bz_ 2 0 oq_ oq_ d2 _).mono ?_);rintro e uA6 ⟨aA6,cA6,rfl,mA,kA⟩)|((with_reducible refine (bz_ 6 0 oq_ oq_ d6 _).mono ?_);rintro e uB6 ⟨aB6,cB6,rfl,mB,kB⟩)))|(go_at_call 23;(refine (ft_ 0 _ _ (.slice aA6 1 cA6) (.slice aB6 1 cB6) _ _ _ (mA.ext kB) mB v02 v06).mono ?_;rintro e uR hR;obtain ⟨aR6,cR6,rfl,mR,kR⟩:=hR.is sc_ rfl)))
 refine al_ (F:=fun U=>bk_ U ((uR.heap.size,1,[[ed_]]) :: [(b5,2,[[ev 1 4],[ev 3 6]]),(b4,1,[[dx_]]),(b3,0,[]),(b2,1,[[ev 1 4,ev 3 6]])])∧Below w.heap.size w U) ⟨bk_.cons ⟨aR6,cR6,xB,(mR.mono fun _ _=>trivial).ext xE⟩ (hS.below xE),xE⟩ ?_;clear hS hE mA mB kA kB mR kR;generalize uR.heap.size=b6 at *;rintro W6 ⟨hS,hE⟩;obtain ⟨aL7,cL7,gB,gM⟩:=hS.at 4 rfl;have q0:=gB.c0;go_upto_region 7 with (go_at_call 24;(refine (i8_ 0 _ (.slice aL7 1 cL7) [[ev 1 4,ev 3 6]] _ gM lg_ oq_).mono ?_;rintro e uR hR;rw [ni_] at hR;obtain ⟨hJ,cJ,rfl,pJ,kR⟩:=hR;obtain ⟨xa,xn,xc,ya,yn,yc,rfl,rfl⟩:=pJ.sl))
 refine al_ (F:=fun U=>bk_ U [(b6,1,[[ed_]]),(b5,2,[[ev 1 4],[ev 3 6]]),(b4,1,[[dx_]]),(b3,0,[]),(b2,1,[[ev 1 4,ev 3 6]])]∧(Bxx U uR.heap.size #[.slice xa xn xc,.int .i64 (ev 9 12).frm,.int .i64 (ev 9 12).period,.slice ya yn yc] 39∧a8_ U (.slice xa xn xc) (.slice ya yn yc) (ev 9 12))∧Below w.heap.size w U) ⟨hS.below xE,⟨xB,pJ.ext xE⟩,xE⟩ ?_;clear hS hE gB gM q0 kR pJ;generalize uR.heap.size=b7 at *;rintro W7 ⟨hS,hP,hE⟩;obtain ⟨aL8,cL8,gB,gM⟩:=hS.at 4 rfl;have q0:=gB.c0;go_upto_region 8 with (go_at_call 15;(refine (qc_ 0 _ (.slice aL8 1 cL8) [[ev 1 4,ev 3 6]] 0 30 _ gM lg_ oq_ oq_ oq_ oq_).mono ?_;rintro e uR ⟨he,kR⟩;rw [ni_,show ay_ (ev 9 12) 30-ay_ (ev 9 12) 0=2 from by decide] at he;subst he))
 refine al_ (F:=fun U=>bk_ U [(b6,1,[[ed_]]),(b5,2,[[ev 1 4],[ev 3 6]]),(b4,1,[[dx_]]),(b3,0,[]),(b2,1,[[ev 1 4,ev 3 6]])]∧(Bxx U b7 #[.slice xa xn xc,.int .i64 (ev 9 12).frm,.int .i64 (ev 9 12).period,.slice ya yn yc] 39∧a8_ U (.slice xa xn xc) (.slice ya yn yc) (ev 9 12))∧Below w.heap.size w U) ⟨hS.below xE,⟨hP.1.below xE,hP.2.ext xE⟩,xE⟩ ?_;clear hS hP hE gB gM q0 kR;rintro W8 ⟨hS,hP,hE⟩;obtain ⟨aL9,cL9,gB,gM⟩:=hS.at 4 rfl;have q0:=gB.c0;go_upto_region 9 with (go_at_call 16;(refine (sa_ 0 _ (.slice aL9 1 cL9) [[ev 1 4,ev 3 6]] 0 _ gM lg_ i0).mono ?_;rintro e uR ⟨n9,f9,rfl,hn,kR⟩;obtain ⟨rfl,rfl⟩:=hn.unique (show ax_ FarI _ (max 0 0) 9 true from vc_)))
 refine al_ (F:=fun U=>bk_ U [(b6,1,[[ed_]]),(b5,2,[[ev 1 4],[ev 3 6]]),(b4,1,[[dx_]]),(b3,0,[]),(b2,1,[[ev 1 4,ev 3 6]])]∧(Bxx U b7 #[.slice xa xn xc,.int .i64 (ev 9 12).frm,.int .i64 (ev 9 12).period,.slice ya yn yc] 39∧a8_ U (.slice xa xn xc) (.slice ya yn yc) (ev 9 12))∧Below w.heap.size w U) ⟨hS.below xE,⟨hP.1.below xE,hP.2.ext xE⟩,xE⟩ ?_;clear hS hP hE gB gM q0 kR hn;rintro W9 ⟨hS,hP,hE⟩;go_upto_region 10 with (first|(go_at_call 53;first|((with_reducible refine (bz_ 4 1 oq_ oq_ d4 _).mono ?_);rintro e uA10 ⟨aA10,cA10,rfl,mA,kA⟩)|((with_reducible refine (bz_ 6 3 oq_ oq_ d6 _).mono ?_);rintro e uB10 ⟨aB10,cB10,rfl,mB,kB⟩))|(go_at_call 27;(refine (rf_ 0 _ _ (.slice aA10 1 cA10) (.slice aB10 1 cB10) _ _ 10 _ (mA.ext kB) mB v14 v36 ⟨dq_,dq_⟩).mono ?_;rintro e uR ⟨n9,f9,rfl,hn,kR⟩;obtain ⟨rfl,rfl⟩:=hn.unique (show ax_ FarI _ (max 10 0) 21 true from tj_))))
 refine al_ (F:=fun U=>bk_ U [(b6,1,[[ed_]]),(b5,2,[[ev 1 4],[ev 3 6]]),(b4,1,[[dx_]]),(b3,0,[]),(b2,1,[[ev 1 4,ev 3 6]])]∧(Bxx U b7 #[.slice xa xn xc,.int .i64 (ev 9 12).frm,.int .i64 (ev 9 12).period,.slice ya yn yc] 39∧a8_ U (.slice xa xn xc) (.slice ya yn yc) (ev 9 12))∧Below w.heap.size w U) ⟨hS.below xE,⟨hP.1.below xE,hP.2.ext xE⟩,xE⟩ ?_;clear hS hP hE mA mB kA kB kR hn;rintro W10 ⟨hS,hP,hE⟩;go_upto_region 11 with (first|(go_at_call 53;(with_reducible refine (bz_ 2 0 oq_ oq_ d2 _).mono ?_);rintro e uA11 ⟨aA11,cA11,rfl,mA,kA⟩)|(go_at_call 54;(refine (x8_ _ _ xB).mono ?_;rintro e uB11 ⟨aB11,cB11,rfl,mB,kB⟩))|(go_at_call 38;(refine (rb_ 0 _ _ (.slice aA11 1 cA11) (.slice aB11 1 cB11) _ _ _ (mA.ext xE) mB v02 (h5_ (fd_ kv_))).mono ?_;rintro e uR hR;obtain ⟨rfl,kR⟩:=hR.is ww_ x3_ tl_)))
 refine al_ (F:=fun U=>bk_ U [(b6,1,[[ed_]]),(b5,2,[[ev 1 4],[ev 3 6]]),(b4,1,[[dx_]]),(b3,0,[]),(b2,1,[[ev 1 4,ev 3 6]])]∧(Bxx U b7 #[.slice xa xn xc,.int .i64 (ev 9 12).frm,.int .i64 (ev 9 12).period,.slice ya yn yc] 39∧a8_ U (.slice xa xn xc) (.slice ya yn yc) (ev 9 12))∧Below w.heap.size w U) ⟨hS.below xE,⟨hP.1.below xE,hP.2.ext xE⟩,xE⟩ ?_;clear hS hP hE mA mB kA kB kR;rintro W11 ⟨hS,hP,hE⟩;obtain ⟨bb2,o2,c2,t2,tc2,B2,E2,-⟩:=(hS.at 4 rfl).first (k:=2) rfl;obtain ⟨a3,c3,B3,M3⟩:=hS.at 3 rfl;obtain ⟨bb4,o4,c4,t4,tc4,B4,E4,T4⟩:=(hS.at 2 rfl).first (k:=1) rfl;obtain ⟨a5,c5,B5,M5⟩:=hS.at 1 rfl;obtain ⟨bb6,o6,c6,t6,tc6,B6,E6,T6⟩:=(hS.at 0 rfl).first (k:=1) rfl;obtain ⟨f4,g4,a41,n41,c41,a42,n42,c42,rfl,P4,z0,z1,z2,z3⟩:=T4.one_p;obtain ⟨f6,g6,a61,n61,c61,a62,n62,c62,rfl,P6,y0,y1,y2,y3⟩:=T6.one_p;have q2:=B2.c0;have q3:=B3.c0;have q4:=B4.c0;have q5:=B5.c0;have q6:=B6.c0;have HP:=hq_ hP;have HS:=hq_ hS;have HE:=hq_ hE;have HM3:=hq_ M3;have HB6:=hq_ B6;have HSF4:=hq_ (fun W b (h:Below W11.heap.size W11 W) (hb:Bxx W b #[.int .i64 0,.int .i64 1,.int .i64 2] 3)=>of_ _ (.slice a41 n41 c41) (.slice a42 n42 c42) dx_ 4 [0,1,2] 3 b W (P4.keep (a5_.below h)) hb rfl rfl ⟨dq_,dq_⟩ dq_ dq_);have HSF6:=hq_ (fun W b (h:Below W11.heap.size W11 W) (hb:Bxx W b #[.int .i64 2,.int .i64 4] 3)=>of_ _ (.slice a61 n61 c61) (.slice a62 n62 c62) ed_ 6 [2,4] 2 b W (P6.keep (a5_.below h)) hb rfl rfl ⟨dq_,dq_⟩ dq_ dq_);clear hP hS hE M3 M5 T4 T6 P4 P6 B2 B3 B4 B5 B6 v14 v36 v26 v02 v06 d2 d4 d6;go_upto_region 13 with (fail)
 go_upto_region 14 with (go_at_call 44;(first
  | ((with_reducible refine (HSF4.out _ _ (Ea (Er _) _) (Bxx.new _ _ _)).mono ?_);rintro e u1 ⟨rfl,k1⟩;have hb1:Below W11.heap.size W11 u1:=Et (Ea (Er _) _) k1;have r6:=(HB6.out.below hb1).c0;have G6:=Ext.cell hb1 E6;have x0:=Ext.cell hb1 y0;have x1:=Ext.cell hb1 y1;have x2:=Ext.cell hb1 y2;have x3:=Ext.cell hb1 y3)
  | ((with_reducible refine (HSF6.out _ _ (Ea hb1 _) (Bxx.new _ _ _)).mono ?_);rintro e u2 ⟨rfl,k2⟩)))
 have hb2:Below W11.heap.size W11 u2:=Et (Ea hb1 _) k2;have HB2:=hq_ hb2;have hP2:=HP.out.1.below hb2;have p0:=(hP2.cells 0).1;have p1:=(hP2.cells 1).1;have p2:=(hP2.cells 2).1;have p3:=(hP2.cells 3).1;have HS2:=hq_ (HS.out.below hb2);have HSF9:=hq_ (fun W b (h:Below u2.heap.size u2 W) (hb:Bxx W b #[.int .i64 9] 3)=>of_ (fun _=>True) (.slice xa xn xc) (.slice ya yn yc) (ev 9 12) 12 [9] 1 b W ⟨(HP.out.2.ext hb2).ext h,show InI (0:Int) from i0,show InI (12:Int) from ⟨dq_,dq_⟩,fun _ _ _=>trivial,fun _ _ _=>trivial⟩ hb rfl rfl ⟨dq_,dq_⟩ dq_ dq_);clear hP2 hb1 hb2 k1 k2 q2 q3 q4 q5 q6 E2 E4 E6 z0 z1 z2 z3 y0 y1 y2 y3 r6 G6 x0 x1 x2 x3;go_upto_region 15 with (fail)
 obtain ⟨a3',c3',N3,M3'⟩:=HS2.out.at 3 rfl;obtain ⟨a2',c2',N2,M2'⟩:=HS2.out.at 4 rfl;have HN3:=hq_ N3;have HN2:=hq_ N2;have HM3':=hq_ M3';have HM2':=hq_ M2';clear N3 N2 M3' M2';go_wp2_with (first|(go_at_call 44;((with_reducible refine (HSF9.out _ _ (Ea (Er _) _) (Bxx.new _ _ _)).mono ?_);rintro e u3 ⟨rfl,k3⟩;have hb3:Below u2.heap.size u2 u3:=Et (Ea (Er _) _) k3;have s3:=(HN3.out.below hb3).c0;have HB3:=hq_ hb3;clear hb3 k3))|(go_at_call 25;(first
   | ((with_reducible refine (ko_ _ (.slice a3' 0 c3') [] _ (HM3'.out.ext HB3.out)).mono ?_);rintro e u4 ⟨b4',rfl,hb4,k4⟩;obtain rfl:b4'=true:=hb4.2 ⟨dq_,sq_⟩;have HB4:=hq_ (Et HB3.out k4);clear k4 hb4)
   | ((with_reducible refine (ko_ (fun _=>True) (.slice none 0 0) [] _ (vw_ _)).mono ?_);rintro e u5 ⟨b5',rfl,hb5,k5⟩;obtain rfl:b5'=true:=hb5.2 ⟨dq_,sq_⟩;have hbb:=Et HB4.out k5;have s2:=(HN2.out.below hbb).c0;have HB5:=hq_ hbb;clear k5 hbb hb5)))|(go_at_call 26;((with_reducible refine (pl_ _ (.slice a2' 1 c2') [[ev 1 4,ev 3 6]] _ (HM2'.out.ext HB5.out)).mono ?_);rintro e u6 ⟨b6',rfl,hb6,k6⟩;obtain rfl:b6'=false:=(by cases b6';rfl;exact absurd up_ ((hb6.1 rfl).2 _ sq_)))))
 go_ret;exact ⟨rfl,(HE.out.trans (HB2.out.mono HE.out.size)).trans ((Et HB5.out k6).mono (HE.out.trans (HB2.out.mono HE.out.size)).size)⟩
def hl_ (T:List (List Per)) (k:Int) (mk:List (List Per)):Prop:=(k=0∧bf_ T mk∧cv_ mk)∨(k=2∧mk=[]∧∃ m,bf_ T m∧¬ cv_ m)
theorem hl_.unique {k:Int} {m':List (List Per)} (h:hl_ T k m) (g:hl_ T k' m'):k'=k∧m'=m:=by
 rcases h with ⟨rfl,h1,h2⟩|⟨rfl,rfl,x,h1,h2⟩ <;> rcases g with ⟨rfl,g1,g2⟩|⟨rfl,rfl,y,g1,g2⟩
 ·exact ⟨rfl,g1.unique h1⟩
 ·exact absurd (h1.unique g1 ▸ h2) g2
 ·exact absurd (h1.unique g1 ▸ g2) h2
 ·exact ⟨rfl,rfl⟩
theorem hl_.num {k:Int} (h:hl_ T k m):k=0∨k=1∨k=2:=by
 rcases h with ⟨h,_⟩|⟨h,_⟩
 ·exact .inl h
 ·exact .inr (.inr h)
def SetK (R:Int->List (List Per)->Prop) (w:World) (e:Ending) (w':World):Prop:=
 ∃ (a:Option Addr) (c:Nat) (k:Int) (mk:List (List Per)),e=.returned (.tuple #[.agg #[.slice a mk.length c],.int .i64 k])∧MixR w' (fun b=>w.heap.size≤b) (.slice a mk.length c) mk∧Below w.heap.size w w'∧R k mk
theorem c8_.k (h:c8_ s T w e w'):SetK (hl_ T) w e w':=by
 obtain ⟨a,c,k,mk,he,hm,hb,h⟩:=h.num;refine ⟨a,c,k,mk,he,hm,hb,h.imp (fun h=>⟨h.1,h.2.1,(d8_ h.2.2.vt).1 h.2.2.val⟩) fun h=>⟨h.1,h.2.2.2.1,h.2.2.2.2⟩⟩
def MinK (m1 m2:List (List Per)) (k:Int) (mk:List (List Per)):Prop:=(k=0∧b4_ m1 m2 (some mk))∨(k=2∧mk=[]∧b4_ m1 m2 none)
theorem MinK.unique {k:Int} {m':List (List Per)} (h:MinK m1 m2 k m) (g:MinK m1 m2 k' m'):k'=k∧m'=m:=by
 rcases h with ⟨rfl,h1⟩|⟨rfl,rfl,h1⟩ <;> rcases g with ⟨rfl,g1⟩|⟨rfl,rfl,g1⟩
 ·have:=g1.unique h1;injection this with this;exact ⟨rfl,this⟩
 ·exact absurd (g1.unique h1) sq_
 ·exact absurd (g1.unique h1) sq_
 ·exact ⟨rfl,rfl⟩
theorem MinK.num {k:Int} (h:MinK m1 m2 k m):k=0∨k=1∨k=2:=by
 rcases h with ⟨h,_⟩|⟨h,_⟩
 ·exact .inl h
 ·exact .inr (.inr h)
theorem fk_.k (h:fk_ s m1 m2 w e w'):SetK (MinK m1 m2) w e w':=by
 obtain ⟨a,c,k,mk,he,hm,hb,h⟩:=h.num;exact ⟨a,c,k,mk,he,hm,hb,h.imp (fun h=>⟨h.1,h.2.1⟩) fun h=>⟨h.1,h.2.2.2.1,h.2.2.2.2⟩⟩
def ShK (b:Int) (m:List (List Per)) (k:Int) (mk:List (List Per)):Prop:=((∀ t∈m,∀ p∈t,shE p b=0)∧hl_ (shL m b) k mk)∨(mk=[]∧k≠0∧∃ t∈m,∃ p∈t,shE p b=k)
theorem wl_ {b k:Int} (h:shE p b=k) (g:shE q b=k') (hk:k≠0) (gk:k'≠0):k'=k:=by
 unfold shE at h g
 by_cases hr:b < -1099511627776∨1099511627776<b
 ·rw [if_pos hr] at h g;omega
 ·rw [if_neg hr] at h g
  split at h <;> split at g <;> omega
theorem ShK.unique {b:Int} {k:Int} {x y:List (List Per)} (h:ShK b m k x) (g:ShK b m k' y):k'=k∧y=x:=by
 rcases h with ⟨h0,h1⟩|⟨rfl,h1,t,ht,p,hp,he⟩ <;> rcases g with ⟨g0,g1⟩|⟨rfl,g1,u,hu,q,hq,hf⟩
 ·exact h1.unique g1
 ·exact absurd (hf.symm.trans (h0 u hu q hq)) g1
 ·exact absurd (he.symm.trans (g0 t ht p hp)) h1
 ·exact ⟨wl_ he hf h1 g1,rfl⟩
theorem ShK.num {b:Int} {k:Int} {x:List (List Per)} (h:ShK b m k x):k=0∨k=1∨k=2:=by
 rcases h with ⟨_,h⟩|⟨_,_,t,_,p,_,he⟩
 ·exact h.num
 ·have:=lt_ p b;omega
theorem n4_.k {b:Int} (h:n4_ s b m w e w'):SetK (ShK b m) w e w':=by
 rcases h with ⟨h0,h⟩|⟨k,hx,hk,rfl,hb⟩
 ·obtain ⟨a,c,k,mk,he,hm,hb,h⟩:=h.k;exact ⟨a,c,k,mk,he,hm,hb,.inl ⟨h0,h⟩⟩
 ·exact ⟨none,0,k,[],rfl,⟨[],rfl,⟨none,0,rfl,sq_,oq_,.inl rfl⟩,sq_,sq_⟩,hb,.inr ⟨rfl,hk,hx⟩⟩
theorem vt_ {c:Value} (hp:a8_ W h c q) (hv:FV s q):PVok W (fun _=>True) ⟨h,c,q⟩:=by
 have v1:=hv.valid;have v2:=v1.wf.frm;have v3:q.frm≤1099511627776:=v1.frm;have v4:=v1.wf.per;have v5:q.period≤1099511627776:=v1.per;exact ⟨hp,⟨by show _≤q.frm;omega,by show q.frm≤_;omega⟩,⟨by show _≤q.period;omega,by show q.period≤_;omega⟩,fun _ _ _=>trivial,fun _ _ _=>trivial⟩
theorem box4 {b:Nat} {x y z u:Value} {t:TypeId} (h:Bxx W b #[x,y,z,u] t):W.cell? ⟨b,0,none⟩=some x∧W.cell? ⟨b,1,none⟩=some y∧W.cell? ⟨b,2,none⟩=some z∧W.cell? ⟨b,3,none⟩=some u:=⟨(h.cells 0).1,(h.cells 1).1,(h.cells 2).1,(h.cells 3).1⟩
theorem fx_ (v0:Value) (n0:Nat) (v1:Value) (n1:Nat) (bb:Int) (w:World) (h0:e8_ w v0 n0) (h1:e8_ w v1 n1) (hb0:-9223372036854775808≤bb) (hb1:bb≤9223372036854775807) :
  Calls Tryz.prog 11 #[v0,v1,.int .i64 bb] w fun e w'=>e=.returned (.bool true)∧Below w.heap.size w w':=by
 have H0:=hq_ h0;have H1:=hq_ h1;clear h0 h1
 go_enter Tryz.func11,Tryz.ntmps11
 go_upto_region 4 with (first|(go_at_call 13;refine (r2_ _).mono ?_;rintro e u1 ⟨rfl,k1⟩)|(go_at_call 14;first|((with_reducible refine (n6_ v0 n0 _ (H0.out.ext xE)).mono ?_);rintro e u2 ⟨mA,aA,cA,rfl,yA,dA,k2⟩)|((with_reducible refine (n6_ v1 n1 _ (H1.out.ext xE)).mono ?_);rintro e u3 ⟨mB,aB,cB,rfl,yB,dB,k3⟩)))
 refine al_ (F:=fun U=>bk_ U [(u3.heap.size,mB.length,mB),(u2.heap.size,mA.length,mA)]∧Below w.heap.size w U) ⟨bk_.cons ⟨aB,cB,xB,(yB.mono fun _ _=>trivial).ext xE⟩ (bk_.cons ⟨aA,cA,((Bxx.new u2 _ _).below k3).alloc _,(yA.mono fun _ _=>trivial).ext xE⟩ (bk_.nil _)),xE⟩ ?_;clear k1 k2 k3 yA yB;have HA:=hq_ dA;have HB:=hq_ dB;clear dA dB;generalize u2.heap.size=b8 at *;generalize u3.heap.size=b9 at *;rintro W3 ⟨hS,hE0⟩;obtain ⟨aA8,cA8,gA,yA⟩:=hS.at 1 rfl;obtain ⟨aB8,cB8,gB,yB⟩:=hS.at 0 rfl;have HQ8:=hq_ gA.c0;have HQ9:=hq_ gB.c0;have hb8:=gA.lt;have hb9:=gB.lt;have HE0:=hq_ hE0;have HOr1:=hq_ (fun W (h:Below W3.heap.size W3 W)=>(ln_ 0 _ _ (.slice aA8 mA.length cA8) (.slice aB8 mB.length cB8) mA mB W (yA.ext h) (yB.ext h) HA.out.mv HB.out.mv).mono fun _ _ h=>h.k);have HOr2:=hq_ (fun W (h:Below W3.heap.size W3 W)=>(wh_ 0 _ _ (.slice aA8 mA.length cA8) (.slice aB8 mB.length cB8) mA mB W (yA.ext h) (yB.ext h) HA.out.mv HB.out.mv).mono fun _ _ h=>h.k);have HAnd1:=hq_ (fun W (h:Below W3.heap.size W3 W)=>(jx_ 0 _ _ (.slice aA8 mA.length cA8) (.slice aB8 mB.length cB8) mA mB W (yA.ext h) (yB.ext h) HA.out.mv HB.out.mv).mono fun _ _ h=>h.k);have HAnd2:=hq_ (fun W (h:Below W3.heap.size W3 W)=>(v5_ 0 _ _ (.slice aA8 mA.length cA8) (.slice aB8 mB.length cB8) mA mB W (yA.ext h) (yB.ext h) HA.out.mv HB.out.mv).mono fun _ _ h=>h.k);have HMin1:=hq_ (fun W (h:Below W3.heap.size W3 W)=>(ft_ 0 _ _ (.slice aA8 mA.length cA8) (.slice aB8 mB.length cB8) mA mB W (yA.ext h) (yB.ext h) HA.out.mv HB.out.mv).mono fun _ _ h=>h.k);have HMin2:=hq_ (fun W (h:Below W3.heap.size W3 W)=>(r7_ 0 _ _ (.slice aA8 mA.length cA8) (.slice aB8 mB.length cB8) mA mB W (yA.ext h) (yB.ext h) HA.out.mv HB.out.mv).mono fun _ _ h=>h.k);have HSh1:=hq_ (fun W (h:Below W3.heap.size W3 W)=>(ru_ 0 bb _ (.slice aA8 mA.length cA8) mA W (yA.ext h) HA.out.mv ⟨hb0,hb1⟩).mono fun _ _ h=>h.k);have HSh2:=hq_ (fun W (h:Below W3.heap.size W3 W)=>(p8_ 0 bb _ (.slice aA8 mA.length cA8) mA W (yA.ext h) HA.out.mv ⟨hb0,hb1⟩).mono fun _ _ h=>h.k);have HJo1:=hq_ (fun W (h:Below W3.heap.size W3 W)=>i8_ 0 _ (.slice aA8 mA.length cA8) mA W (yA.ext h) HA.out.mv (Int.le_refl 0));have HJo2:=hq_ (fun W (h:Below W3.heap.size W3 W)=>tc_ 0 _ (.slice aA8 mA.length cA8) mA W (yA.ext h) HA.out.mv (Int.le_refl 0));have HFQ:Hid (FV 0 (aq_ perE mA)):=hq_ (kb_ (j6_ (Int.le_refl 0)) HA.out.vt);clear hS hE0 gA gB yA yB;have q8:=HQ8.out;have q9:=HQ9.out;go_upto_region 6 with (first|(go_at_call 21;(with_reducible refine (HOr1.out _ (Er _)).mono ?_);rintro e u4 ⟨a4,c4,k4,m4,rfl,x4,z4,r4⟩;have s8:=ag_ (Ext.cell z4 q8) (.cells #[.slice a4 m4.length c4] 28);have s9:=ag_ (Ext.cell z4 q9) (.cells #[.slice a4 m4.length c4] 28))|(go_at_call 46;(with_reducible refine (HOr2.out _ (Ea z4 _)).mono ?_);rintro e u5 ⟨a5,c5,k5,m5,rfl,x5,z5,r5⟩))
 obtain ⟨rfl,rfl⟩:=r5.unique r4;have hkn:=r4.num;refine al_ (F:=fun U=>Bxx U u4.heap.size #[.slice a4 m4.length c4] 28∧Bxx U u5.heap.size #[.slice a5 m4.length c5] 28∧MixR U (fun _=>True) (.slice a4 m4.length c4) m4∧MixR U (fun _=>True) (.slice a5 m4.length c5) m4∧Below W3.heap.size W3 U) ⟨((Bxx.new u4 _ _).below z5).alloc _,xB,(x4.mono fun _ _=>trivial).ext xE,(x5.mono fun _ _=>trivial).ext xE,xE⟩ ?_;have h10:W3.heap.size≤u4.heap.size:=z4.size;have h12:u4.heap.size<u5.heap.size:=by have:=z5.size;simp at this;omega
 clear x4 x5 z4 z5 r4 r5 q8 q9 s8 s9;generalize u4.heap.size=b10 at *;generalize u5.heap.size=b12 at *;rintro W6 ⟨g10,g12,y4,y5,hE⟩;have q10:=g10.c0;have q12:=g12.c0;have HSS:=hq_ (fb_ _ _ (.slice a4 m4.length c4) (.slice a5 m4.length c5) m4 m4 W6 y4 y5);rw [eh_ rfl] at HSS;have hkk:(k4 != k4)=false:=by simp
 go_upto_region 8 with (go_at_call 47;(with_reducible refine HSS.out.mono ?_);rintro e u6 ⟨rfl,z6⟩)
 refine al_ (F:=fun U=>(∃ x,Bxx U b10 #[x] 28)∧(∃ x,Bxx U b12 #[x] 28)∧Below W3.heap.size W3 U) ⟨⟨_,g10.below z6⟩,⟨_,g12.below z6⟩,Et hE z6⟩ ?_;clear g10 g12 y4 y5 hE q10 q12 HSS z6 hkk hkn;rintro W8 hS;obtain ⟨⟨x10,g10⟩,⟨x12,g12⟩,hE⟩:=hS;have q8:=Ext.cell hE HQ8.out;have q9:=Ext.cell hE HQ9.out;have hl10:=g10.lt;have hl12:=g12.lt;go_upto_region 10 with (first|(go_at_call 22;(with_reducible refine (HAnd1.out _ hE).mono ?_);rintro e u4 ⟨a4,c4,k4,m4,rfl,x4,z4,r4⟩;have s8:=bd_ (Ext.cell z4 q8) (b:=⟨b10,0,none⟩) (by show b8≠b10;omega) (.slice a4 m4.length c4);have s9:=bd_ (Ext.cell z4 q9) (b:=⟨b10,0,none⟩) (by show b9≠b10;omega) (.slice a4 m4.length c4);have t10:=((g10.below z4).cells 0).1;have t11:=((g10.below z4).cells 0).2;have hE4:Below W3.heap.size W3 (u4.setCell ⟨b10,0,none⟩ (.slice a4 m4.length c4)):=Es (Et hE z4) (by show _≤b10;omega) _;have g10':Bxx (u4.setCell ⟨b10,0,none⟩ (.slice a4 m4.length c4)) b10 #[.slice a4 m4.length c4] 28:=a4_ 0 _ (g10.below z4);have g12':=Bxx.setNe (g12.below z4) (i:=0) (.slice a4 m4.length c4) (show b12≠b10 by omega);have x4':=(x4.set (u:=.slice a4 m4.length c4) (i:=0) hl10);have hz4:=z4.size)|(go_at_call 48;(with_reducible refine (HAnd2.out _ hE4).mono ?_);rintro e u5 ⟨a5,c5,k5,m5,rfl,x5,z5,r5⟩;have t12:=((g12'.below z5).cells 0).1;have t13:=((g12'.below z5).cells 0).2))
 obtain ⟨rfl,rfl⟩:=r5.unique r4;have hkn:=r4.num;have hu4:=World.size_setCell u4 ⟨b10,0,none⟩ (.slice a4 m4.length c4);refine al_ (F:=fun U=>Bxx U b10 #[.slice a4 m4.length c4] 28∧Bxx U b12 #[.slice a5 m4.length c5] 28∧MixR U (fun _=>True) (.slice a4 m4.length c4) m4∧MixR U (fun _=>True) (.slice a5 m4.length c5) m4∧Below W3.heap.size W3 U) ⟨Bxx.setNe (g10'.below z5) _ oq_,a4_ 0 _ (g12'.below z5),((x4'.ext z5).set hl12).mono fun _ _=>trivial,(x5.set oq_).mono fun _ _=>trivial,Es (Et hE4 z5) (by show _≤b12;omega) _⟩ ?_;clear hE hE4 g10 g12 g10' g12' x4 x4' x5 z4 z5 r4 r5 q8 q9 s8 s9 t10 t11 t12 t13 hl10 hl12 hu4 hz4;rintro W6 ⟨g10,g12,y4,y5,hE⟩;have q10:=g10.c0;have q12:=g12.c0;have HSS:=hq_ (fb_ _ _ (.slice a4 m4.length c4) (.slice a5 m4.length c5) m4 m4 W6 y4 y5);rw [eh_ rfl] at HSS;have hkk:(k4 != k4)=false:=by simp
 go_upto_region 12 with (go_at_call 47;(with_reducible refine HSS.out.mono ?_);rintro e u6 ⟨rfl,z6⟩)
 refine al_ (F:=fun U=>(∃ x,Bxx U b10 #[x] 28)∧(∃ x,Bxx U b12 #[x] 28)∧Below W3.heap.size W3 U) ⟨⟨_,g10.below z6⟩,⟨_,g12.below z6⟩,Et hE z6⟩ ?_;clear g10 g12 y4 y5 hE q10 q12 HSS z6 hkk hkn;rintro W12 hS;obtain ⟨⟨x10,g10⟩,⟨x12,g12⟩,hE⟩:=hS;have q8:=Ext.cell hE HQ8.out;have q9:=Ext.cell hE HQ9.out;have hl10:=g10.lt;have hl12:=g12.lt;go_upto_region 14 with (first|(go_at_call 23;(with_reducible refine (HMin1.out _ hE).mono ?_);rintro e u4 ⟨a4,c4,k4,m4,rfl,x4,z4,r4⟩;have s8:=bd_ (Ext.cell z4 q8) (b:=⟨b10,0,none⟩) (by show b8≠b10;omega) (.slice a4 m4.length c4);have s9:=bd_ (Ext.cell z4 q9) (b:=⟨b10,0,none⟩) (by show b9≠b10;omega) (.slice a4 m4.length c4);have t10:=((g10.below z4).cells 0).1;have t11:=((g10.below z4).cells 0).2;have hE4:Below W3.heap.size W3 (u4.setCell ⟨b10,0,none⟩ (.slice a4 m4.length c4)):=Es (Et hE z4) (by show _≤b10;omega) _;have g10':Bxx (u4.setCell ⟨b10,0,none⟩ (.slice a4 m4.length c4)) b10 #[.slice a4 m4.length c4] 28:=a4_ 0 _ (g10.below z4);have g12':=Bxx.setNe (g12.below z4) (i:=0) (.slice a4 m4.length c4) (show b12≠b10 by omega);have x4':=(x4.set (u:=.slice a4 m4.length c4) (i:=0) hl10);have hz4:=z4.size)|(go_at_call 49;(with_reducible refine (HMin2.out _ hE4).mono ?_);rintro e u5 ⟨a5,c5,k5,m5,rfl,x5,z5,r5⟩;have t12:=((g12'.below z5).cells 0).1;have t13:=((g12'.below z5).cells 0).2))
 obtain ⟨rfl,rfl⟩:=r5.unique r4;have hkn:=r4.num;have hu4:=World.size_setCell u4 ⟨b10,0,none⟩ (.slice a4 m4.length c4);refine al_ (F:=fun U=>Bxx U b10 #[.slice a4 m4.length c4] 28∧Bxx U b12 #[.slice a5 m4.length c5] 28∧MixR U (fun _=>True) (.slice a4 m4.length c4) m4∧MixR U (fun _=>True) (.slice a5 m4.length c5) m4∧Below W3.heap.size W3 U) ⟨Bxx.setNe (g10'.below z5) _ oq_,a4_ 0 _ (g12'.below z5),((x4'.ext z5).set hl12).mono fun _ _=>trivial,(x5.set oq_).mono fun _ _=>trivial,Es (Et hE4 z5) (by show _≤b12;omega) _⟩ ?_;clear hE hE4 g10 g12 g10' g12' x4 x4' x5 z4 z5 r4 r5 q8 q9 s8 s9 t10 t11 t12 t13 hl10 hl12 hu4 hz4;rintro W6 ⟨g10,g12,y4,y5,hE⟩;have q10:=g10.c0;have q12:=g12.c0;have HSS:=hq_ (fb_ _ _ (.slice a4 m4.length c4) (.slice a5 m4.length c5) m4 m4 W6 y4 y5);rw [eh_ rfl] at HSS;have hkk:(k4 != k4)=false:=by simp
 go_upto_region 16 with (go_at_call 47;(with_reducible refine HSS.out.mono ?_);rintro e u6 ⟨rfl,z6⟩)
 refine al_ (F:=fun U=>(∃ x,Bxx U b10 #[x] 28)∧(∃ x,Bxx U b12 #[x] 28)∧Below W3.heap.size W3 U) ⟨⟨_,g10.below z6⟩,⟨_,g12.below z6⟩,Et hE z6⟩ ?_;clear g10 g12 y4 y5 hE q10 q12 HSS z6 hkk hkn;rintro W16 hS;obtain ⟨⟨x10,g10⟩,⟨x12,g12⟩,hE⟩:=hS;have q8:=Ext.cell hE HQ8.out;have q9:=Ext.cell hE HQ9.out;have hl10:=g10.lt;have hl12:=g12.lt;go_upto_region 18 with (first|(go_at_call 50;(with_reducible refine (HSh1.out _ hE).mono ?_);rintro e u4 ⟨a4,c4,k4,m4,rfl,x4,z4,r4⟩;have s8:=bd_ (Ext.cell z4 q8) (b:=⟨b10,0,none⟩) (by show b8≠b10;omega) (.slice a4 m4.length c4);have s9:=bd_ (Ext.cell z4 q9) (b:=⟨b10,0,none⟩) (by show b9≠b10;omega) (.slice a4 m4.length c4);have t10:=((g10.below z4).cells 0).1;have t11:=((g10.below z4).cells 0).2;have hE4:Below W3.heap.size W3 (u4.setCell ⟨b10,0,none⟩ (.slice a4 m4.length c4)):=Es (Et hE z4) (by show _≤b10;omega) _;have g10':Bxx (u4.setCell ⟨b10,0,none⟩ (.slice a4 m4.length c4)) b10 #[.slice a4 m4.length c4] 28:=a4_ 0 _ (g10.below z4);have g12':=Bxx.setNe (g12.below z4) (i:=0) (.slice a4 m4.length c4) (show b12≠b10 by omega);have x4':=(x4.set (u:=.slice a4 m4.length c4) (i:=0) hl10);have hz4:=z4.size)|(go_at_call 51;(with_reducible refine (HSh2.out _ hE4).mono ?_);rintro e u5 ⟨a5,c5,k5,m5,rfl,x5,z5,r5⟩;have t12:=((g12'.below z5).cells 0).1;have t13:=((g12'.below z5).cells 0).2))
 obtain ⟨rfl,rfl⟩:=r5.unique r4;have hkn:=r4.num;have hu4:=World.size_setCell u4 ⟨b10,0,none⟩ (.slice a4 m4.length c4);refine al_ (F:=fun U=>Bxx U b10 #[.slice a4 m4.length c4] 28∧Bxx U b12 #[.slice a5 m4.length c5] 28∧MixR U (fun _=>True) (.slice a4 m4.length c4) m4∧MixR U (fun _=>True) (.slice a5 m4.length c5) m4∧Below W3.heap.size W3 U) ⟨Bxx.setNe (g10'.below z5) _ oq_,a4_ 0 _ (g12'.below z5),((x4'.ext z5).set hl12).mono fun _ _=>trivial,(x5.set oq_).mono fun _ _=>trivial,Es (Et hE4 z5) (by show _≤b12;omega) _⟩ ?_;clear hE hE4 g10 g12 g10' g12' x4 x4' x5 z4 z5 r4 r5 q8 q9 s8 s9 t10 t11 t12 t13 hl10 hl12 hu4 hz4;rintro W18 ⟨g10,g12,y4,y5,hE⟩;have q8:=Ext.cell hE HQ8.out;generalize aq_ perE mA=q at *;go_upto_region 20 with (first|(go_at_call 24;(with_reducible refine (HJo1.out _ hE).mono ?_);rintro e u7 hJ;obtain ⟨h7,c7,rfl,p7,z7⟩:=hJ;obtain ⟨xa,xn,xc,ya,yn,yc,rfl,rfl⟩:=p7.sl;have s8:=ag_ (Ext.cell z7 q8) (.cells #[.slice xa xn xc,.int .i64 q.frm,.int .i64 q.period,.slice ya yn yc] 39))|(go_at_call 52;(with_reducible refine (HJo2.out _ (Et hE (Ea z7 _))).mono ?_);rintro e u8 hJ2;obtain ⟨h8,c8,rfl,p8,z8⟩:=hJ2;obtain ⟨za,zn,zc,ta,tn,tc,rfl,rfl⟩:=p8.sl))
 refine al_ (F:=fun U=>Bxx U b10 #[.slice a4 m4.length c4] 28∧Bxx U b12 #[.slice a5 m4.length c5] 28∧MixR U (fun _=>True) (.slice a4 m4.length c4) m4∧MixR U (fun _=>True) (.slice a5 m4.length c5) m4∧Bxx U u7.heap.size #[.slice xa xn xc,.int .i64 q.frm,.int .i64 q.period,.slice ya yn yc] 39∧a8_ U (.slice xa xn xc) (.slice ya yn yc) q∧Bxx U u8.heap.size #[.slice za zn zc,.int .i64 q.frm,.int .i64 q.period,.slice ta tn tc] 39∧a8_ U (.slice za zn zc) (.slice ta tn tc) q∧Below W3.heap.size W3 U)
  ⟨((((g10.below z7).alloc _).below z8).alloc _),((((g12.below z7).alloc _).below z8).alloc _),(((y4.ext z7).ext (Ea (Er u7) _)).ext z8).ext (Ea (Er u8) _),(((y5.ext z7).ext (Ea (Er u7) _)).ext z8).ext (Ea (Er u8) _),((Bxx.new u7 _ _).below z8).alloc _,((p7.ext (Ea (Er u7) _)).ext z8).ext (Ea (Er u8) _),Bxx.new u8 _ _,p8.ext (Ea (Er u8) _),Ea (Et (Ea (Et hE z7) _) z8) _⟩ ?_
 clear g10 g12 y4 y5 hE q8 s8 p7 p8 z7 z8;generalize u7.heap.size=b14 at *;generalize u8.heap.size=b16 at *;rintro W20 ⟨g10,g12,y4,y5,g14,p7,g16,p8,hE⟩;have q10:=g10.c0;have q12:=g12.c0;have HSS:=hq_ (fb_ _ _ (.slice a4 m4.length c4) (.slice a5 m4.length c5) m4 m4 W20 y4 y5);rw [eh_ rfl] at HSS;have HSF:=hq_ (fun W (h:Below W20.heap.size W20 W)=>show Calls _ _ #[.agg #[.slice xa xn xc,.int .i64 q.frm,.int .i64 q.period,.slice ya yn yc],.agg #[.slice za zn zc,.int .i64 q.frm,.int .i64 q.period,.slice ta tn tc]] W (fun e w'=>e=.returned (.bool true)∧Below W.heap.size W w') from by
  have h:=f0_ _ _ ⟨.slice xa xn xc,.slice ya yn yc,q⟩ ⟨.slice za zn zc,.slice ta tn tc,q⟩ W (vt_ (p7.ext h) HFQ.out) (vt_ (p8.ext h) HFQ.out);rw [show bi_ q q=true by simp [bi_]] at h;exact h)
 have hkk:(k4 == k4)=true:=by simp
 have HE:=hq_ hE;have HG14:=hq_ g14;have HG16:=hq_ g16;clear y4 y5 p7 p8 hE g14 g16;go_wp2_with (first|(go_at_call 47;(with_reducible refine HSS.out.mono ?_);rintro e u9 ⟨rfl,z9⟩;obtain ⟨r0,r1,r2,r3⟩:=box4 (HG14.out.below z9);obtain ⟨t0,t1,t2,t3⟩:=box4 (HG16.out.below z9);have HZ9:=hq_ z9)|(go_at_call 44;(with_reducible refine (HSF.out _ HZ9.out).mono ?_);rintro e u10 ⟨rfl,z10⟩))
 go_ret;exact ⟨rfl,Et HE0.out (Et HE.out (Et HZ9.out z10))⟩
end Go.Proofs.YthjnojbeimchdaaGreat
namespace Go.Proofs.YthjnojbeimchdaaGreat
open Go.ChangeShapes Go.WideShapes Go.ChangeAt Go.RowKit Go.Joins Kal
theorem MixedMatchesReference_lifted (os:Os) (started:os.Started) (H:Type) (enc:TypeId × Value->H) :
  ReturnsInHanded {} Tryz.checked os 11 .any (Rows.mixedMatchesReferenceSpec.pre6 enc Tryz.prog Tryz.f11 Rows.mixedMatchesReferenceRow.domain false) (Rows.mixedMatchesReferenceSpec.post enc Tryz.prog Tryz.f11 false true false false):=by
 refine returnsInHanded_of_change (C:=Tryz.checked) wt_ started (by kernel_rfl) Tryz.func11
  (ChangeSpec.witness6 (enc:=enc) (C:=Tryz.checked) false ⟨#[],#[.slice none 0 0,.slice none 0 0,.int .i64 0],[]⟩ 8 (by kernel_rfl) (by kernel_rfl) (by kernel_rfl) (by kernel_rfl)) ?_
 intro W base args ds gs before hval0 hW hcnd _;have hval:∀ (j:Nat) t v,Tryz.f11.params[j]? = some t->args[j]? = some v->Value.okWide Tryz.prog W .any base t v:=hval0;have hW':=hW;obtain ⟨p,q,hA0,hV,rfl,hfz,hnd⟩:=hW;have hA:DataW.TrodAll enc Tryz.prog W 0 (fun _=>true) true Tryz.f11.params.toList args.toList ds p:=hA0;rw [Tryz.params11] at hA hval;obtain ⟨v0,vs0,d0,ds0,p0,q0,hargs,rfl,rfl,h0,r0⟩:=trodAll_cons hA;obtain ⟨v1,vs1,d1,ds1,p1,q1,rfl,rfl,rfl,h1,r1⟩:=trodAll_cons r0;obtain ⟨v2,vs2,d2,ds2,p2,q2,rfl,rfl,rfl,h2,r2⟩:=trodAll_cons r1;obtain ⟨rfl,rfl,rfl⟩:=trodAll_nil r2;obtain rfl:args=#[v0,v1,v2]:=by cases args;simp_all
 obtain ⟨rfl,rfl⟩:=trodVars_none hV;have k0:=h0;have lt0:∀ x∈p0,x.block<W.heap.size:=by obtain ⟨m,hm⟩:=k0;exact DataW.trod_lt m _ _ _ hm
 obtain ⟨n0,w0⟩:=ma_ (hval 0 22 v0 rfl rfl) h0;have k1:=h1;have lt1:∀ x∈p1,x.block<W.heap.size:=by obtain ⟨m,hm⟩:=k1;exact DataW.trod_lt m _ _ _ hm
 obtain ⟨n1,w1⟩:=ma_ (hval 1 22 v1 rfl rfl) h1;obtain ⟨m2,rfl,rfl,rfl,w2⟩:=open_int Tryz.underlying3 (hval 2 3 v2 rfl rfl) h2;have b2:=bounds_i64 w2;clear hA0 hval0;refine (fx_ v0 n0 v1 n1 m2 W w0 w1 b2.1 b2.2).mono fun e W' ⟨he,bel⟩=>?_;subst he;exact ⟨_,rfl,_,_,_,[],_,[],hW',trodAll_mk1 (shut_bool Tryz.underlying4 _),(trodAll_cons_mk (Below.trod o4_ (by kernel_rfl) (of_decide_eq_true (by kernel_rfl)) k0 bel lt0) (trodAll_cons_mk (Below.trod o4_ (by kernel_rfl) (of_decide_eq_true (by kernel_rfl)) k1 bel lt1) (trodAll_cons_mk (shut_int Tryz.underlying3 w2) trodAll_mk0))),rfl,bel.frame _,fun h=>by cases h⟩
theorem MixedMatchesReference_said:Rows.MixedMatchesReferenceSaid:=
 OpenClaim.holds_of_wide 11 Tryz.f11 rfl rfl rfl rfl rfl rfl rfl ⟨rfl,rfl,rfl,rfl,rfl⟩ rfl rfl rfl rfl rfl (by kernel_rfl) Tryz.func11 (by kernel_rfl)
  (of_decide_eq_true (by kernel_rfl)) (by unfold Func.isWrapper;first|(rw [if_pos (by decide +kernel)];kernel_rfl)|(rw [if_neg (by decide +kernel)];exact ⟨rfl,rfl⟩))
  (fun os started H enc _=>MixedMatchesReference_lifted os started H enc)
#print axioms MixedMatchesReference_said
end Go.Proofs.YthjnojbeimchdaaGreat
end
