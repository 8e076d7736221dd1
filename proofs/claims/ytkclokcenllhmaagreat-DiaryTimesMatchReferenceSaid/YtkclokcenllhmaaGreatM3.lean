/- Part 3 of the proof of the laws. -/
import Derived.Test.YtkclokcenllhmaaGreatM1
import Derived.Test.YtkclokcenllhmaaGreatM2
import Derived.Laws.EntriesVeiled
import Derived.Deep.Slices
import Derived.Deep.Strs
import Derived.ChangeSame
import Derived.Deep.Cut
import Derived.Deep.CutBlock
import Derived.Deep.DeepCutAuto
set_option linter.unusedVariables false
set_option linter.unusedSimpArgs false
set_option maxRecDepth 100000
set_option maxHeartbeats 4000000
section
variable {F d f s x:Int}{m:List (List Kal.Per)}{l ml:List Int}{t:List Kal.Per}{B c i k n:Nat}{row:Option Nat}{cv v:Go.Value}{A C W W' w:Go.World}
namespace Go.Proofs.YtkclokcenllhmaaGreat
open Go.RowKit Go.Maps Kal
theorem ur_ (a m:Int) (w:World) (ha:0≤a) (ha1:a≤9007199254740992) (h2:2≤m) (hm:m≤4294967295) (hg:Int.gcd a m=1) :
  Calls Tryz.prog 276 #[.int .i64 a,.int .i64 m] w fun e w'=>∃ r,e=.returned (.int .i64 r)∧xq_ a m r∧∃ n,w'=w.drewN n:=by
 have HS:=hq_ (InvS.start ha h2 hg);have r0:=Int.emod_nonneg a (show m≠0 by omega);have r1:=Int.emod_lt_of_pos a (show 0<m by omega);clear hg
 go_enter Tryz.func276,Tryz.ntmps276
 go_wp2_with fail
 repeat (go_quiet (fail);go_wp2_with fail)
 go_loopw [5,6,7,8] (fun vx vy vu vv wr=>∃ x y u v U V:Int,vx=.int .i64 x∧vy=.int .i64 y∧vu=.int .i64 u∧vv=.int .i64 v∧InvS a m x y u v U V∧∃ n,wr=w.drewN n) (fun vx _ _ _ _=>(intOf vx).toNat)
 case atStart=>exact ⟨_,_,_,_,_,_,rfl,rfl,rfl,rfl,HS.out,0,rfl⟩
 case round=>
  obtain ⟨x,y,u,v,U,V,rfl,rfl,rfl,rfl,hE,n,rfl⟩:=hrel;have x1:=hE.x1;have xy:=hE.xy;have ym:=hE.ym;by_cases hz:1<x
  ·obtain ⟨hE2,h1,h2',h3,h4,h5,h6,h7,h8⟩:=hE.step hz;have y1:=hE2.x1;have y2:=hE2.xy;have HE:=hq_ hE2;clear hE hE2;go_wp2_with fail
   repeat (go_quiet (fail);go_wp2_with fail)
   go_roundw
   case rel=>exact ⟨_,_,_,_,_,_,rfl,rfl,rfl,rfl,HE.out,_,rfl⟩
   case measure=>simp [intOf];omega
  ·obtain ⟨h1,h2',h3,h4,h5,h6⟩:=hE.fin hz h2;have u0:=Int.emod_nonneg u (show m≠0 by omega);have u1:=Int.emod_lt_of_pos u (show 0<m by omega);have H3:=hq_ h3;have H6:=hq_ h6;clear h3 h6 hE;go_wp2_with fail
   repeat (go_quiet (fail);go_wp2_with fail)
   go_ret;exact ⟨_,rfl,⟨by rw [H3.out];exact u0,by rw [H3.out];exact u1,by rw [H3.out];exact H6.out⟩,n,rfl⟩
theorem ra_ (at_ step r P:Int) (w:World) (h0:0≤at_) (h1:at_<step) (r0:0≤r) (r1:r<P) (hs:step≤27720) (hp:P≤27720) :
  Calls Tryz.prog 247 #[.agg #[.int .i64 at_,.int .i64 step],.int .i64 r,.int .i64 P] w fun e w'=>∃ a s b,e=.returned (.tuple #[.agg #[.int .i64 a,.int .i64 s],.bool b])∧bn_ at_ step r P a s b∧Below w.heap.size w w':=by
 have s1:1≤step:=oq_;have p1:1≤P:=oq_;have hg:=d4_ (b:=P) s1;have hg2:=ed_ (a:=step) p1;have HG:=fun W=>op_ step P W s1 oq_ p1 oq_;have HNO:=fun h=>hq_ (os_ (at_:=at_) (step:=step) (r:=r) (P:=P) h);have HALL:=fun h hn=>hq_ (un_ (at_:=at_) (step:=step) (r:=r) (P:=P) s1 h0 h1 p1 h hn);have HONE:=fun inv h hi=>hq_ (uo_ (at_:=at_) (step:=step) (r:=r) (P:=P) (inv:=inv) s1 h0 h1 p1 rfl rfl h hi);have hcop:=wi_ (a:=step) (b:=P) s1;have hdl:((Int.gcd step P:Nat):Int)∣step:=Int.gcd_dvd_left ..;have hdr:((Int.gcd step P:Nat):Int)∣P:=Int.gcd_dvd_right ..;generalize ((Int.gcd step P:Nat):Int)=g at *;have htm:(r-at_).tmod g=0↔(r-at_) % g=0:=by
  constructor
  ·exact fun h=>Int.emod_eq_zero_of_dvd (Int.dvd_of_tmod_eq_zero h)
  ·exact fun h=>Int.tmod_eq_zero_of_dvd (Int.dvd_of_emod_eq_zero h)
 by_cases hd:(r-at_) % g=0
 ·have hT:=htm.2 hd;have hn1:1≤P / g:=(Int.le_ediv_iff_mul_le oq_).2 oq_;have hn2:P / g≤P:=Int.ediv_le_self _ oq_;have htn:P.tdiv g=P / g:=Int.tdiv_eq_ediv_of_dvd hdr;by_cases hn:P / g=1
  ·have HA:=HALL hd hn;rw [hn] at htn;clear HNO HALL HONE hd hn hn1 hn2 hcop htm hdl hdr
   go_enter Tryz.func247,Tryz.ntmps247
   go_wp2_with (go_at_call 244;(refine (HG _).mono ?_;rintro e w1 ⟨rfl,nq,rfl⟩))
   exact bodyPost_ret (v:=.tuple #[.agg #[.int .i64 at_,.int .i64 step],.bool true]) (by simp [results,Tryz.results247,go_sem]) rfl ⟨_,_,_,rfl,HA.out,xE⟩
  ·have HO:=fun inv hi=>HONE inv hd hi;have htd:(r-at_).tdiv g=(r-at_) / g:=Int.tdiv_eq_ediv_of_dvd (Int.dvd_of_emod_eq_zero hd);have hqb:=pi_ (x:=r-at_) (B:=27720) hg.1 oq_ oq_ oq_;have hsg:step.tdiv g=step / g:=Int.tdiv_eq_ediv_of_dvd hdl;have hs1:1≤step / g:=(Int.le_ediv_iff_mul_le oq_).2 oq_;have hs2:step / g≤step:=Int.ediv_le_self _ oq_;generalize P / g=n at *;generalize step / g=sg at *;generalize (r-at_) / g=q0 at *;have hn3:2≤n:=oq_;have t1:=Int.tmod_lt_of_pos q0 (show 0<n by omega);have t2:=Int.lt_tmod_of_pos q0 (show 0<n by omega);have t3:q0.tmod n % n=q0 % n:=ay_ ⟨-(q0.tdiv n),by have:=Int.mul_tdiv_add_tmod q0 n;rw [Int.mul_neg];omega⟩;have t4:=Int.emod_nonneg q0 (show n≠0 by omega);have t5:=Int.emod_lt_of_pos q0 (show 0<n by omega);have HINV:=fun W=>ur_ sg n W oq_ oq_ hn3 oq_ hcop;obtain ⟨t0,ht0⟩:∃ t0,q0.tmod n=t0:=⟨_,rfl⟩;rw [ht0] at t1 t2 t3;generalize q0 % n=wn at *;have hbn:-27720≤t0+n:=oq_;have hlb:0≤step*n∧step*n≤768398400:=⟨Int.mul_nonneg oq_ oq_,Int.mul_le_mul (show step≤27720 from hs) (show n≤27720 by omega) oq_ oq_⟩;clear HNO HALL HONE hd hn hn1 hcop htm hdl hdr
   go_enter Tryz.func247,Tryz.ntmps247
   go_wp2_with (first|(go_at_call 244;(refine (HG _).mono ?_;rintro e w1 ⟨rfl,nq,rfl⟩))|(go_at_call 276;(refine (HINV _).mono ?_;rintro e w2 ⟨inv,rfl,hinv,nq2,rfl⟩;have i0:=hinv.1;have i1:=hinv.2.1;have HI:=hq_ (HO inv hinv.2.2);have hp:0≤wn*inv∧wn*inv≤768398400:=⟨Int.mul_nonneg oq_ oq_,Int.mul_le_mul (show wn≤27720 by omega) (show inv≤27720 by omega) oq_ oq_⟩;have hk0:=Int.emod_nonneg (wn*inv) (show n≠0 by omega);have hk1:=Int.emod_lt_of_pos (wn*inv) (show 0<n by omega);have hq:0≤(wn*inv % n)*step∧(wn*inv % n)*step≤768398400:=⟨Int.mul_nonneg oq_ oq_,Int.mul_le_mul (show wn*inv % n≤27720 by omega) (show step≤27720 from hs) oq_ oq_⟩;clear hinv))|(go_at_call 275;first
     | ((with_reducible refine (f5_ wn inv _ oq_ oq_ oq_ oq_).mono ?_);rintro e w3 ⟨rfl,rfl⟩)
     | ((with_reducible refine (f5_ (wn*inv % n) step _ oq_ oq_ oq_ oq_).mono ?_);rintro e w3 ⟨rfl,rfl⟩)
     | ((with_reducible refine (f5_ step n _ oq_ oq_ oq_ oq_).mono ?_);rintro e w3 ⟨rfl,rfl⟩))|(go_at_call 277;(refine (nt_ _ _ _ hp.1 oq_ oq_ oq_).mono ?_;rintro e w4 ⟨rfl,nq3,rfl⟩)))
   exact bodyPost_ret (v:=.tuple #[.agg #[.int .i64 (at_+wn*inv % n*step),.int .i64 (step*n)],.bool true]) (by simp [results,Tryz.results247,go_sem]) rfl ⟨_,_,_,rfl,HI.out.1,xE⟩
 ·have hT:¬ (r-at_).tmod g=0:=fun h=>hd (htm.1 h);have HN:=HNO hd;clear HNO HALL HONE hd hcop htm hdl hdr
  go_enter Tryz.func247,Tryz.ntmps247
  go_wp2_with (go_at_call 244;(refine (HG _).mono ?_;rintro e w1 ⟨rfl,nq,rfl⟩))
  exact bodyPost_ret (v:=.tuple #[.agg #[.int .i64 0,.int .i64 0],.bool false]) (by simp [results,Tryz.results247,go_sem]) rfl ⟨_,_,_,rfl,HN.out,xE⟩
theorem u2_ (at_ step r P:Int) (h0:0≤at_) (h1:at_<step) (r0:0≤r) (r1:r<P) (hs:step≤27720) (hp:P≤27720):∃ a s b,bn_ at_ step r P a s b∧∀ w,
  Calls Tryz.prog 247 #[.agg #[.int .i64 at_,.int .i64 step],.int .i64 r,.int .i64 P] w fun e w'=>e=.returned (.tuple #[.agg #[.int .i64 a,.int .i64 s],.bool b])∧Below w.heap.size w w':=by
 obtain ⟨a,s,b,hm⟩:=sc_ (at_:=at_) (r:=r) (show 1≤step by omega) (show 1≤P by omega);refine ⟨a,s,b,hm,fun w=>(ra_ at_ step r P w h0 h1 r0 r1 hs hp).mono ?_⟩;rintro e w' ⟨a',s',b',rfl,hm',hb⟩;obtain ⟨rfl,rfl,rfl⟩:=hm.unique oq_ oq_ hm';exact ⟨rfl,hb⟩
end Go.Proofs.YtkclokcenllhmaaGreat
end
namespace Go.Proofs.YtkclokcenllhmaaGreat
open Go.RowKit Go.Maps Kal
structure LB (w0:World) (b1 b2 b3 b4 b5:Nat):Prop where
 h4:w0.heap.size≤b4
 h5:w0.heap.size≤b5
 n14:b1≠b4
 n15:b1≠b5
 n24:b2≠b4
 n25:b2≠b5
 n34:b3≠b4
 n35:b3≠b5
 n45:b4≠b5
structure LS (w0:World) (b1 b2 b3 b4 b5:Nat) (v:Value) (f l:Int) (fb:Bool) (W:World):Prop where
 below:Below w0.heap.size w0 W
 c1:Bxx W b1 #[v] 158
 c2:Bxx W b2 #[.func (.func 246) #[] #[.pointer (some ⟨b1,0,none⟩),.pointer (some ⟨b2,0,none⟩),.pointer (some ⟨b3,0,none⟩),.pointer (some ⟨b4,0,none⟩),.pointer (some ⟨b5,0,none⟩)]] 279
 c3:Bxx W b3 #[.int .i64 f] 3
 c4:Bxx W b4 #[.int .i64 l] 3
 c5:Bxx W b5 #[.bool fb] 4
section
variable {w0 W W':World} {b1 b2 b3 b4 b5:Nat} {v:Value} {f l l':Int} {fb:Bool}
theorem LS.ext (h:LS w0 b1 b2 b3 b4 b5 v f l fb W) (hb:Below W.heap.size W W'):LS w0 b1 b2 b3 b4 b5 v f l fb W':=
 ⟨Et h.below hb,h.c1.below hb,h.c2.below hb,h.c3.below hb,h.c4.below hb,h.c5.below hb⟩
theorem LS.put (h:LS w0 b1 b2 b3 b4 b5 v f l fb W) (hb:LB w0 b1 b2 b3 b4 b5):LS w0 b1 b2 b3 b4 b5 v f l' true ((W.setCell ⟨b4,0,none⟩ (.int .i64 l')).setCell ⟨b5,0,none⟩ (.bool true)):=
 ⟨(
  h.below.setCell (p:=⟨b4,0,none⟩) hb.h4 _).setCell (p:=⟨b5,0,none⟩) hb.h5 _,
  (h.c1.setNe _ hb.n14).setNe _ hb.n15,(h.c2.setNe _ hb.n24).setNe _ hb.n25,(h.c3.setNe _ hb.n34).setNe _ hb.n35,
  Bxx.setNe (a0_ 0 _ h.c4) _ hb.n45,a0_ 0 _ (h.c5.setNe _ hb.n45.symm)⟩
end
theorem kc_ {W:World} {b:Nat} {x y x' y':Value} {t:TypeId} (h:Bxx W b #[x,y] t):Bxx ((W.setCell ⟨b,0,none⟩ x').setCell ⟨b,1,none⟩ y') b #[x',y'] t:=by
 have h1:=a0_ 1 y' (a0_ 0 x' h);simpa [Bxx] using h1
theorem gs_ {B b:Nat} {w W:World} (hb:Below B w W) (h:B≤b) (x y:Value):Below B w ((W.setCell ⟨b,0,none⟩ x).setCell ⟨b,1,none⟩ y):=
 (hb.setCell (p:=⟨b,0,none⟩) h _).setCell (p:=⟨b,1,none⟩) h _
def LRes (w0:World) (b1 b2 b3 b4 b5:Nat) (v:Value) (f:Int) (S:Int->Prop) (w:World) (e:Ending) (w':World):Prop:=
 ∃ l fb,e=.returned (.tuple #[])∧LS w0 b1 b2 b3 b4 b5 v f l fb w'∧a3_ (fun b=>b≠b4∧b≠b5) w w'∧w.heap.size≤w'.heap.size∧bj_ FarI S f l fb
theorem mf_ {W W':World} {b4 b5:Nat} (v4 v5:Value) (hb:Below W.heap.size W W'):a3_ (fun b=>b≠b4∧b≠b5) W ((W'.setCell ⟨b4,0,none⟩ v4).setCell ⟨b5,0,none⟩ v5):=fun b h hl=>
 ((Below.heap_setCell _ ⟨b5,0,none⟩ v5 b h.2).trans (Below.heap_setCell _ ⟨b4,0,none⟩ v4 b h.1)).trans (hb.block b hl)
theorem nl_ (s:Int) (w0:World) (b1 b2 b3 b4 b5:Nat) (hB:LB w0 b1 b2 b3 b4 b5) (v:Value) (L:List PV) (hL:b9_ w0 (fun b=>b<w0.heap.size) v L) (hv:∀ p∈L.map PV.p,FV s p) (f:Int) (f0:0≤f) (f1:f≤1152921504606846976) :
  ∀ (n i:Nat) (at_ step l:Int) (fb:Bool) (S:Int->Prop) (w:World),i+n=L.length->0≤at_->at_<step->step∣27720->LS w0 b1 b2 b3 b4 b5 v f l fb w->bj_ FarI S f l fb->
   Calls Tryz.prog 246 #[.int .i64 i,.agg #[.int .i64 at_,.int .i64 step],.pointer (some ⟨b1,0,none⟩),.pointer (some ⟨b2,0,none⟩),.pointer (some ⟨b3,0,none⟩),.pointer (some ⟨b4,0,none⟩),.pointer (some ⟨b5,0,none⟩)] w
    (LRes w0 b1 b2 b3 b4 b5 v f (fun x=>S x∨ClsS ((L.map PV.p).drop i) at_ step x) w):=by
 intro n;induction n with
 | zero=>
  intro i at_ step l fb S w hi h0 h1 hd hs hbest;have hl1:=hL.len;obtain rfl:i=L.length:=oq_;obtain ⟨a1,c1,rfl,hx1,hx2,_⟩:=hL.row.is;have s1:step≤27720:=Int.le_of_dvd dq_ hd;have s0:0<step:=oq_;have q1:=(hs.c1.alloc (.cells #[.int .i64 at_,.int .i64 step] 281)).c0;have q3:=(hs.c3.alloc (.cells #[.int .i64 at_,.int .i64 step] 281)).c0;have q4:=((hs.c4.alloc (.cells #[.int .i64 at_,.int .i64 step] 281)).cells 0);have q5:=((hs.c5.alloc (.cells #[.int .i64 at_,.int .i64 step] 281)).cells 0);have q6:=((Bxx.setNe (i:=0) (hs.c5.alloc (.cells #[.int .i64 at_,.int .i64 step] 281)) (.int .i64 at_) hB.n45.symm).cells 0);have hle:l≤1152921504606846976:=hbest.le;have hl0:-9223372036854775808≤l:=by
   rcases hbest with ⟨_,h,_⟩|⟨_,h,_⟩
   ·omega
   ·rw [h];decide
  have HLF:=hq_ (hbest.leaf (at_:=at_) (show 1≤step by omega) h0 h1 f0);have HS:=hq_ hs;have HBS:=hq_ hbest;clear hs hbest hi;by_cases hlt:at_<f
  ·have T0:0≤f-at_+step-1:=oq_;have hup:upTo f at_ step=at_+(f-at_+step-1) / step*step:=if_pos hlt;have e:=Int.emod_add_mul_ediv (f-at_+step-1) step;have e0:=Int.emod_nonneg (f-at_+step-1) (show step≠0 by omega);have e1:=Int.emod_lt_of_pos (f-at_+step-1) s0;rw [Int.mul_comm step] at e;have q0:0≤(f-at_+step-1) / step:=Int.ediv_nonneg T0 oq_;have q9:(f-at_+step-1) / step≤f-at_+step-1:=Int.ediv_le_self _ T0;have htd:(f-at_+step-1).tdiv step=(f-at_+step-1) / step:=Int.tdiv_eq_ediv_of_nonneg T0;generalize (f-at_+step-1) / step=q at *;have q3':=(HS.out.c3.alloc (.cells #[.int .i64 (at_+q*step),.int .i64 step] 281)).c0;have q4':=((HS.out.c4.alloc (.cells #[.int .i64 (at_+q*step),.int .i64 step] 281)).cells 0);have q5':=((HS.out.c5.alloc (.cells #[.int .i64 (at_+q*step),.int .i64 step] 281)).cells 0);have q6':=((Bxx.setNe (i:=0) (HS.out.c5.alloc (.cells #[.int .i64 (at_+q*step),.int .i64 step] 281)) (.int .i64 (at_+q*step)) hB.n45.symm).cells 0);rw [hup] at HLF;have hmu:0≤q*step∧q*step≤f-at_+step-1:=⟨Int.mul_nonneg q0 oq_,oq_⟩
   go_enter Tryz.func246,Tryz.ntmps246
   go_wp2_with fail
   go_region
   all_goals go_wp2_with fail
   ·refine ⟨rfl,.tuple #[],by simp [results,Tryz.results246,go_sem],at_+q*step,true,rfl,((HS.out.ext (Ea (Er _) _)).put hB).ext (Ed (Er _)),mf_ _ _ (Ea (Er w) _),sq_,?_⟩;refine (HLF.out.1 (by assumption)).congr fun x hx=>?_;rw [List.drop_of_length_le sq_,fx_]
   ·refine ⟨rfl,.tuple #[],by simp [results,Tryz.results246,go_sem],l,fb,rfl,(HS.out.ext (Ea (Er _) _)).ext (Ed (Er _)),a3_.below (Ed (Ea (Er w) _)),sq_,?_⟩;refine (HLF.out.2 oq_).congr fun x hx=>?_;rw [List.drop_of_length_le sq_,fx_]
  ·have hup:upTo f at_ step=at_:=if_neg hlt;rw [hup] at HLF
   go_enter Tryz.func246,Tryz.ntmps246
   go_wp2_with fail
   ·refine ⟨rfl,.tuple #[],by simp [results,Tryz.results246,go_sem],at_,true,rfl,(HS.out.ext (Ea (Er _) _)).put hB,mf_ _ _ (Ea (Er w) _),sq_,?_⟩;refine (HLF.out.1 (by assumption)).congr fun x hx=>?_;rw [List.drop_of_length_le sq_,fx_]
   ·refine ⟨rfl,.tuple #[],by simp [results,Tryz.results246,go_sem],l,fb,rfl,HS.out.ext (Ea (Er _) _),a3_.below (Ea (Er w) _),sq_,?_⟩;refine (HLF.out.2 oq_).congr fun x hx=>?_;rw [List.drop_of_length_le sq_,fx_]
 | succ n ih=>
  intro ii at_ step l fb S w hi h0 h1 hd hs hbest;have IH:=hq_ ih;clear ih;have hl1:=hL.len;have hli:ii<L.length:=oq_;have hiI:(ii:Int)<L.length:=oq_;have s1:step≤27720:=Int.le_of_dvd dq_ hd;obtain ⟨a1,c1,rfl,hx1,hx2,_⟩:=hL.row.is;obtain ⟨tb,o1,x,ha,hx,hxp,hbt,e0,e1,e2,e3⟩:=hL.get hli;subst ha;have hfv:FV s x.p:=hv _ (by rw [hxp];exact ac_ (by simpa using hli));have hdr:(L.map PV.p).drop ii=x.p :: (L.map PV.p).drop (ii+1):=by
   rw [List.drop_eq_getElem_cons (by simpa using hli),hxp,List.getD_eq_getElem?_getD,List.getElem?_eq_getElem (by simpa using hli)];rfl
  obtain ⟨xh,xc,xp⟩:=x;obtain ⟨ax1,nx1,cx1,ax2,nx2,cx2,rfl,rfl⟩:=hx.form;dsimp only at e0 e1 e2 e3 hfv hdr;have hxi:=hx.is.cy;dsimp only at hxi;obtain ⟨⟨ah,ch,he,_,_,hcl⟩,hln,hrg⟩:=hxi;injection he with he1 he2 he3
  subst he1;subst he2;subst he3;have hw:=hfv.fac.wf;have f0':=hw.frm;have f1':=hfv.far;have p0:=hw.per;have p1:=hfv.fac.per;have HD:Hid (step∣27720):=hq_ hd;have HFV:=hq_ hfv;have HDR:=hq_ hdr;have HCY:=hq_ hw.cyc;have HWF:=hq_ hw;have HHI:=hq_ hi;have HX:=hq_ hx;have HHL:=hq_ hL;have HHV:=hq_ hv;have HCL:=hq_ hcl;have hbel:=hq_ hs.below;have q1:=(hs.c1.alloc (.cells #[.int .i64 at_,.int .i64 step] 281)).c0;have E0:=a2_ (Ext.cell hs.below e0) (.cells #[.int .i64 at_,.int .i64 step] 281);have E1:=a2_ (Ext.cell hs.below e1) (.cells #[.int .i64 at_,.int .i64 step] 281);have E2:=a2_ (Ext.cell hs.below e2) (.cells #[.int .i64 at_,.int .i64 step] 281);have E3:=a2_ (Ext.cell hs.below e3) (.cells #[.int .i64 at_,.int .i64 step] 281);have EE0:=hq_ e0;have EE1:=hq_ e1;have EE2:=hq_ e2;have EE3:=hq_ e3;have HS:=hq_ hs;have HBS:=hq_ hbest;have hl45:Hid (w.heap.size≠b4∧w.heap.size≠b5):=hq_ ⟨by have:=hs.c4.lt;omega,by have:=hs.c5.lt;omega⟩;clear hs hbest hi e0 e1 e2 e3 hcl hrg hx hfv hdr hL hv hw hxp
  go_enter Tryz.func246,Tryz.ntmps246
  go_wp2_with fail
  obtain ⟨bw,hbw⟩:∃ bw,bw=w.heap.size:=⟨_,rfl⟩;rw [<- hbw];have HBW:=hq_ hbw;have HN:Hid (bw≠b4∧bw≠b5):=hq_ (by rw [hbw];exact hl45.out);clear q1 E0 E1 E2 E3 hbw hl45;go_loopw [10,11,12,23] (fun _ _ _ idx wr=>∃ (j:Nat) (l':Int) (fb':Bool),j≤xp.cycle.length∧idx=.int .i64 j∧Hid (LS w0 b1 b2 b3 b4 b5 (.slice (some ⟨tb,o1,none⟩) L.length c1) f l' fb' wr)∧Hid (Bxx wr bw #[.int .i64 at_,.int .i64 step] 281)∧Hid (a3_ (fun b=>b≠b4∧b≠b5) w wr)∧Hid (w.heap.size≤wr.heap.size)∧Hid (bj_ FarI (ef_ S xp ((L.map PV.p).drop (ii+1)) at_ step j) f l' fb')) (fun _ _ _ idx _=>xp.cycle.length-(intOf idx).toNat)
  case atStart=>exact ⟨0,l,fb,oq_,rfl,hq_ (HS.out.ext (Ea (Er _) _)),hq_ (Bxx.at HBW.out),hq_ (a3_.below (Ea (Er w) _)),hq_ sq_,hq_ (HBS.out.congr fun x _=>q3_)⟩
  case round=>
   obtain ⟨j,l',fb',hj,rfl,HLS,HBX,HKE,HSZ,HBE⟩:=hrel;by_cases hjl:j<xp.cycle.length
   ·have hjI:(j:Int)<xp.cycle.length:=oq_;rcases HCL.out with h9|⟨bc,oc,rfl,hcc⟩
    ·rw [h9] at hjl;simp at hjl
    have c0:=Ext.cell HLS.out.below (hcc j hjl);have hcr:=HCY.out.2 _ (ac_ (d:=0) hjl);have HSU:=fun a2 s2 bb x (h:bn_ at_ step (resP xp (xp.cycle.getD j 0)) xp.period a2 s2 bb)=>q2_ (S:=S) (t:=(L.map PV.p).drop (ii+1)) (x:=x) HWF.out hjl oq_ h0 h1 h;generalize xp.cycle.getD j 0=c at *;have hr:=hr_ HWF.out c;obtain ⟨a2,s2,bb,hM,HME⟩:=u2_ at_ step (resP xp c) xp.period h0 h1 hr.1 hr.2 s1 p1;have HRES:=fun W=>h3_ (.slice ax1 nx1 cx1) (.slice (some ⟨bc,oc,none⟩) xp.cycle.length cx2) xp c W f0' oq_ p0 oq_ hcr.1 oq_;have HSUC:=hq_ (fun x=>HSU a2 s2 bb x hM);have HM:=hq_ hM;have q1:=HLS.out.c1.c0;have q2:=HLS.out.c2.c0;have m0:wr.cell? ⟨bw,0,none⟩=some (.int .i64 at_):=(HBX.out.cells 0).1;have m1:wr.cell? ⟨bw,1,none⟩=some (.int .i64 step):=(HBX.out.cells 1).1;have E0:=Ext.cell HLS.out.below EE0.out;have E1:=Ext.cell HLS.out.below EE1.out;have E2:=Ext.cell HLS.out.below EE2.out;have E3:=Ext.cell HLS.out.below EE3.out;generalize resP xp c=r at *;clear hcc HSU hM;go_wp2_with fail
    have HLB:=hq_ q2;clear q2;refine Code.wp_mono (Q:=fun e a' W'=>e=.normal∧(∃ (nb:Nat) (z27 z28 z29 z30 z31 z32 z33 z34 z35 z36 z37 z38 z39 z40 z41 z42:Value),a'=⟨#[.int .i64 ↑ii,.agg #[.int .i64 at_,.int .i64 step],.pointer (some ⟨b1,0,none⟩),.pointer (some ⟨b2,0,none⟩),.pointer (some ⟨b3,0,none⟩),.pointer (some ⟨b4,0,none⟩),.pointer (some ⟨b5,0,none⟩),undef,.pointer (some ⟨bw,0,none⟩),undef,.int .i64 c,.pointer (some ⟨nb,0,none⟩),.bool bb,.int .i64 ↑ii,.slice (some ⟨tb,o1,none⟩) L.length c1,.int .i64 ↑L.length,.bool true,.slice (some ⟨tb,o1,none⟩) L.length c1,.int .i64 ↑ii,.pointer (some ⟨tb,o1+ii*4,none⟩),.pointer (some ⟨tb,o1+ii*4+3,none⟩),.slice (some ⟨bc,oc,none⟩) xp.cycle.length cx2,.int .i64 ↑xp.cycle.length,.int .i64 ↑j,.bool true,.pointer (some ⟨bc,oc+j,none⟩),.int .i64 c,z27,z28,z29,z30,z31,z32,z33,z34,z35,z36,z37,z38,z39,z40,z41,z42,u43,u44,u45,u46,u47,u48,u49,undef,undef,undef,undef,undef,undef,undef,undef,undef,undef,undef,undef,undef,undef,undef,undef,undef,undef,undef,undef,undef,undef,undef,undef,undef,undef,undef,undef,undef,undef,undef,undef,undef,undef,undef,undef,undef,undef,undef],[]⟩∧Bxx W' nb #[.int .i64 a2,.int .i64 s2] 281)∧Below wr.heap.size wr W') ?imp ?reg
    case reg=>
     refine o7_ (w0:=wr) [0,1,2,3,4,5,6,7,8,9,10,11,12,13,14,15,16] 15 17 [18] [28,29,30,31,32,33,34,35,36,37,38,39,40,27,41,42,11] [.agg #[.int .i64 at_,.int .i64 step],.slice (some ⟨tb,o1,none⟩) L.length c1,.int .i64 ii,.pointer (some ⟨tb,o1+ii*4,none⟩),perV (.slice ax1 nx1 cx1) (.slice (some ⟨bc,oc,none⟩) xp.cycle.length cx2) xp.frm xp.period,.int .i64 c,.int .i64 r,.slice (some ⟨tb,o1,none⟩) L.length c1,.int .i64 ii,.pointer (some ⟨tb,o1+ii*4,none⟩),.pointer (some ⟨tb,o1+ii*4+2,none⟩),.int .i64 xp.period,.tuple #[.agg #[.int .i64 a2,.int .i64 s2],.bool bb],.tuple #[.agg #[.int .i64 a2,.int .i64 s2],.bool bb],.agg #[.int .i64 a2,.int .i64 s2],.bool bb,undef] [[],[],[],[1,2],[3],[],[4,5],[],[],[7,8],[9],[10],[0,6,11],[12],[13],[13],[]] [[],[],[],[],[],[],[],[],[],[],[],[],[],[],[],[],[]] [16] (fun i v lo hi W=>match i with|16=>v 16=.pointer (some ⟨lo 16,0,none⟩)∧lo 16<hi 16∧Bxx W (lo 16) #[.int .i64 0,.int .i64 0] 281|_=>True) (fun W=>(W.cell? ⟨bw,0,none⟩=some (.int .i64 at_)∧W.cell? ⟨bw,1,none⟩=some (.int .i64 step))∧W.cell? ⟨b1,0,none⟩=some (.slice (some ⟨tb,o1,none⟩) L.length c1)∧W.cell? ⟨tb,o1+ii*4,none⟩=some (.slice ax1 nx1 cx1)∧W.cell? ⟨tb,o1+ii*4+1,none⟩=some (.int .i64 xp.frm)∧W.cell? ⟨tb,o1+ii*4+2,none⟩=some (.int .i64 xp.period)∧W.cell? ⟨tb,o1+ii*4+3,none⟩=some (.slice (some ⟨bc,oc,none⟩) xp.cycle.length cx2)) (fun W hb=>⟨⟨cux m0 hb,cux m1 hb⟩,cux q1 hb,cux E0 hb,cux E1 hb,cux E2 hb,cux E3 hb⟩) ?steps ?fin ?fin2 (stab:=?stab)
     case stab=>
      refine ⟨?_,trivial⟩
      ·intro v lo hi W W' h hb;exact ⟨h.1,h.2.1,h.2.2.below hb⟩
     case steps=>
      clear m0 m1 q1 E0 E1 E2 E3
      repeat' first|exact .n|refine .c ?_ ?_|fail
      all_goals try exact stl
      ·rintro v lo hi W hb ⟨⟨n0,n1⟩,nv,g0,g1,g2,g3⟩ _;refine ⟨rfl,fun K hK=>?_⟩;simp only [ov,vat,Nat.reduceBEq,cond_true,cond_false];go_wp2_with (go_at_call 243;refine (HRES _).mono ?_;rintro e w9 ⟨rfl,hb9⟩)
       exact acx (hK w9 hb9) (by simp [ov,vat,upd])
      ·rintro v lo hi W hb ⟨⟨n0,n1⟩,nv,g0,g1,g2,g3⟩ _;refine ⟨rfl,fun K hK=>?_⟩;simp only [ov,vat,Nat.reduceBEq,cond_true,cond_false];go_wp2_with (go_at_call 247;refine (HME _).mono ?_;rintro e w9 ⟨rfl,hb9⟩)
       exact acx (hK w9 hb9) (by simp [ov,vat,upd])
      ·rintro v lo hi W hb ⟨⟨n0,n1⟩,nv,g0,g1,g2,g3⟩ _;refine ⟨rfl,fun K hK=>?_⟩;simp only [ov,vat,Nat.reduceBEq,cond_true,cond_false];go_wp2_with fail
       exact hK (.pointer (some ⟨W.heap.size,0,none⟩)) _ (Ea (Er _) _) ⟨rfl,sq_,Bxx.new _ _ _⟩
     case fin=>
      rintro v lo hi9 W2 hb ⟨⟨n0,n1⟩,nv,g0,g1,g2,g3⟩ hf hap;show wpList _ _ _ [_,_] _ _;obtain ⟨l16,-,h16,e16,lt16,hbox⟩:=hf 16 rfl;have e14:v 14=.agg #[.int .i64 a2,.int .i64 s2]:=(hf 14 rfl).2.2.2;have e15:v 15=.bool bb:=(hf 15 rfl).2.2.2;clear hf hap;dsimp only;rw [e14,e15,e16];clear e14 e15 e16;generalize lo 16=nb at *;have b0:=hbox.cells 0;have b1':=hbox.cells 1;have HBO:=hq_ hbox;have HBB:=hq_ hb;clear n0 n1 nv g0 g1 g2 g3 hbox hb;generalize v 0=y0,v 1=y1,v 2=y2,v 3=y3,v 4=y4,v 5=y5,v 6=y6,v 7=y7,v 8=y8,v 9=y9,v 10=y10,v 11=y11,v 12=y12,v 13=y13;go_wp2_with fail
      exact ⟨kc_ HBO.out,gs_ HBB.out l16 _ _⟩
     case fin2=>
      rintro v lo hi9 W2 hb ⟨⟨n0,n1⟩,nv,g0,g1,g2,g3⟩ hf hap;obtain ⟨l16,-,h16,e16,lt16,hbox⟩:=hf 16 rfl dq_;have e14:v 14=.agg #[.int .i64 a2,.int .i64 s2]:=(hf 14 rfl dq_).2.2.2;have e13:v 13=.tuple #[.agg #[.int .i64 a2,.int .i64 s2],.bool bb]:=(hf 13 rfl dq_).2.2.2;clear hf hap;dsimp only;rw [e13,e14,e16];clear e13 e14 e16;generalize lo 16=nb at *;have b0:=hbox.cells 0;have b1':=hbox.cells 1;have HBO:=hq_ hbox;have HBB:=hq_ hb;clear n0 n1 nv g0 g1 g2 g3 hbox hb;generalize v 0=y0,v 1=y1,v 2=y2,v 3=y3,v 4=y4,v 5=y5,v 6=y6,v 7=y7,v 8=y8,v 9=y9,v 10=y10,v 11=y11,v 12=y12,v 15=y15;constructor
      ·show wpList _ _ _ [_,_,_] _ _;go_wp2_with fail
       exact ⟨kc_ HBO.out,gs_ HBB.out l16 _ _⟩
      ·show wpList _ _ _ [_,_,_] _ _;go_wp2_with fail
       exact ⟨kc_ HBO.out,gs_ HBB.out l16 _ _⟩
    case imp=>
     rintro e a' W6 ⟨rfl,⟨nb,z27,z28,z29,z30,z31,z32,z33,z34,z35,z36,z37,z38,z39,z40,z41,z42,rfl,hbox⟩,hb6⟩;have HM6:=hq_ (HLS.out.ext hb6);have q2:=HM6.out.c2.c0;have n0:=(hbox.cells 0).1;have n1:=(hbox.cells 1).1;have HB6:=hq_ hb6;clear hb6 hbox;cases bb
     ·go_wp2_with fail
      go_roundw
      case rel=>exact ⟨j+1,l',fb',oq_,by go_num,HM6,hq_ (HBX.out.below HB6.out),hq_ (HKE.out.trans (a3_.below HB6.out) HSZ.out),hq_ (Nat.le_trans HSZ.out HB6.out.size),hq_ (HBE.out.congr fun x _=>by rw [HSUC.out];simp)⟩
      case measure=>simp [intOf];omega
     ·obtain ⟨t0,t1,t2⟩:=HM.out.bounds oq_ p0 HD.out HFV.out.fac.dvd;have T2:=hq_ t2;clear t2;have HIH:=IH.out (ii+1) a2 s2 l' fb' (ef_ S xp ((L.map PV.p).drop (ii+1)) at_ step j) W6 (by have:=HHI.out;omega) t0 t1 T2.out HM6.out HBE.out;rw [show ((ii+1:Nat):Int)=(ii:Int)+1 from by omega] at HIH;go_wp2_with (go_at_call 246;(refine HIH.mono ?_;rintro e w7 ⟨l2,fb2,rfl,hs7,hk7,hz7,hbest7⟩;have HS7:=hq_ hs7;have HK7:=hq_ hk7;have HZ7:=hq_ hz7;have HBE7:=hq_ hbest7;clear hs7 hk7 hz7 hbest7 HIH))
      go_roundw
      case rel=>
       have hk67:a3_ (fun b=>b≠b4∧b≠b5) w w7:=(HKE.out.trans (a3_.below HB6.out) HSZ.out).trans HK7.out (Nat.le_trans HSZ.out HB6.out.size);have hw4:=hB.h4;have hw5:=hB.h5;have hbwz:=HBX.out.lt;have hs6:=HB6.out.size;refine ⟨j+1,l2,fb2,oq_,by go_num,HS7,hq_ ?_,hq_ hk67,hq_ (Nat.le_trans (Nat.le_trans HSZ.out HB6.out.size) HZ7.out),hq_ (HBE7.out.congr fun x _=>by rw [HSUC.out];simp)⟩;exact (HK7.out bw ⟨HN.out.1,HN.out.2⟩ oq_).trans (HBX.out.below HB6.out)
      case measure=>simp [intOf];omega
   ·obtain rfl:j=xp.cycle.length:=oq_;go_wp2_with fail
    refine ⟨rfl,.tuple #[],by simp [results,Tryz.results246,go_sem],l',fb',rfl,HLS.out,HKE.out,HSZ.out,?_⟩;refine HBE.out.congr fun x hx=>?_;rw [s6_,HDR.out]
end Go.Proofs.YtkclokcenllhmaaGreat
section
variable {F d f s x:Int}{m:List (List Kal.Per)}{l ml:List Int}{t:List Kal.Per}{B c i k n:Nat}{row:Option Nat}{cv v:Go.Value}{A C W W' w:Go.World}
namespace Go.Proofs.YtkclokcenllhmaaGreat
open Go.RowKit Go.Maps Kal
theorem uj_ (s:Int) (F:Nat->Prop) (v:Value) (t:List Per) (f:Int) (w:World) (ht:ag_ w F v t) (hv:∀ p∈t,FV s p) (f0:0≤f) (f1:f≤1152921504606846976) :
  Calls Tryz.prog 209 #[v,.int .i64 f] w fun e w'=>∃ n b,e=.returned (.tuple #[.int .i64 n,.bool b])∧ap_ FarI (tmem t) (max f (as_ t)) n b∧Below w.heap.size w w':=by
 have HST:=fun W (h:Below w.heap.size w W)=>t4_ F v t W (ht.ext h);obtain ⟨L,rfl,hL⟩:=ht;obtain ⟨a1,c1,rfl,hx1,hx2,_⟩:=hL.row.is;have hs0:=(e5_ (t:=L.map PV.p)).1;have hs1:as_ (L.map PV.p)≤1099511627776:=l2_ dq_ fun p hp=>(hv p hp).far;have HLN:=hq_ (fun l b (h:bj_ FarI (fun x=>False∨ClsS (L.map PV.p) 0 1 x) (max f (as_ (L.map PV.p))) l b)=>s7_ (F:=FarI) (fun p hp=>(hv p hp).fac.wf) (show as_ (L.map PV.p)≤max f (as_ (L.map PV.p)) by omega) h);have HCH:=hq_ (fun w0 b1 b2 b3 b4 b5 hB hLL f f0 f1=>nl_ s w0 b1 b2 b3 b4 b5 hB (.slice a1 L.length c1) L hLL hv f f0 f1);have hl1:=hL.len;have HTL:=hq_ (hL.lt.mono fun b hb=>hb.2);clear hL hv;generalize as_ (L.map PV.p)=st at *
 go_enter Tryz.func209,Tryz.ntmps209
 go_wp2_with fail
 refine Code.wp_mono (Q:=fun e a' W'=>e=.normal∧(∃ z9 z10 z11 z12:Value,a'=⟨#[.slice a1 L.length c1,.int .i64 f,.pointer (some ⟨w.heap.size,0,none⟩),.pointer (some ⟨w.heap.size+1,0,none⟩),.int .i64 0,.bool false,undef,undef,undef,z9,z10,z11,z12,undef,undef,undef,undef,undef,undef,undef],[]⟩)∧Bxx W' w.heap.size #[.slice a1 L.length c1] 158∧Bxx W' (w.heap.size+1) #[.int .i64 (max f st)] 3∧Below w.heap.size w W') ?imp ?reg
 case reg=>
  have HB0:Hid (Bxx ((w.alloc (.cells #[.slice a1 L.length c1] 158)).alloc (.cells #[.int .i64 f] 3)) w.heap.size #[.slice a1 L.length c1] 158):=hq_ ((Bxx.new w _ _).alloc _);have HB1:Hid (Bxx ((w.alloc (.cells #[.slice a1 L.length c1] 158)).alloc (.cells #[.int .i64 f] 3)) (w.heap.size+1) #[.int .i64 f] 3):=hq_ (Bxx.at sq_);have key:f<st∨st≤f:=Int.lt_or_le f st;rcases key with hlt|hgt
  all_goals
   go_region_with (go_at_call 245;(refine (HST _ xE).mono ?_;rintro e w1 ⟨rfl,hb1⟩;have b0:Bxx w1 w.heap.size #[.slice a1 L.length c1] 158:=HB0.out.drewB.below hb1;have b1:Bxx w1 (w.heap.size+1) #[.int .i64 f] 3:=HB1.out.drewB.below hb1;have x0:=b0.c0;have x1:=b1.cells 0;have hW1:Below w.heap.size w w1:=Et (Ed (Ea (Ea (Er w) _) _)) hb1))
   all_goals exact ⟨rfl,⟨_,_,_,_,rfl⟩,b0.setNe _ oq_,a0_ 0 _ b1,hW1.setCell (p:=⟨w.heap.size+1,0,none⟩) (by show w.heap.size≤w.heap.size+1;omega) _⟩
 case imp=>
  rintro e a' W2 ⟨rfl,⟨z9,z10,z11,z12,rfl⟩,h0,h1,h2⟩;have hl1':=h1.lt;have hLB:LB w w.heap.size (W2.heap.size+1+1) (w.heap.size+1) W2.heap.size (W2.heap.size+1):=⟨oq_,oq_,oq_,oq_,oq_,oq_,oq_,oq_,oq_⟩;go_wp2_with (go_at_call 246;(refine (HCH.out w w.heap.size (W2.heap.size+1+1) (w.heap.size+1) W2.heap.size (W2.heap.size+1) hLB HTL.out (max f st) oq_ oq_ L.length 0 0 1 1152921504606846976 false (fun _=>False) _ oq_ oq_ oq_ ⟨27720,dq_⟩ ⟨Ea (Ea (Ea h2 _) _) _,((h0.alloc _).alloc _).alloc _,xB,((h1.alloc _).alloc _).alloc _,xB,by exact xB⟩ bj_.start).mono ?_;rintro e w7 ⟨l,fb,rfl,hs,-,hz,hbest⟩;have q4:=hs.c4.c0;have q5:=hs.c5.c0;have HN:=hq_ (HLN.out l fb hbest);have hbel:=hs.below;cases fb))
  ·go_ret2;exact ⟨_,_,rfl,HN.out,hbel⟩
  ·go_ret2;exact ⟨_,_,rfl,HN.out,hbel⟩
end Go.Proofs.YtkclokcenllhmaaGreat
namespace Go.Proofs.YtkclokcenllhmaaGreat
open Go.RowKit Go.Shelf Go.Maps Kal
attribute [local go_sem] Oper.semAt_some
structure LZ (B:Nat) (w:World) (f n:Int) (b:Bool) (W:World):Prop where
 below:Below B w W
 c3:Bxx W B #[.int .i64 f] 3
 c6:Bxx W (B+1) #[.int .i64 n] 3
 c7:Bxx W (B+1+1) #[.bool b] 4
theorem LZ.grow {n:Int} {b:Bool} (h:LZ B w f n b W) (hB:B≤w.heap.size) (hg:W.grownBy W' row) (hr:∀ r,row=some r->B≤r∧∃ o:Obj,W.heap[r]? = some o∧o.isCells=false):LZ B w f n b W':=by
 have key:∀ {b:Nat} {c:Array Value} {t:TypeId},Bxx W b c t->Bxx W' b c t:=fun {b c t} hx=>by
  refine (hg.block b hx.lt fun e=>?_).trans hx;obtain ⟨_,o,ho,hc⟩:=hr b e.symm;rw [show W.heap[b]? = _ from hx] at ho;cases ho;cases hc
 exact ⟨h.below.grown hg (Nat.le_trans hB h.below.size) (fun k e=>(hr k e).1),key h.c3,key h.c6,key h.c7⟩
theorem LZ.ext {n:Int} {b:Bool} (h:LZ B w f n b W) (hB:B≤w.heap.size) (hb:Below W.heap.size W W'):LZ B w f n b W':=
 ⟨h.below.trans (hb.mono (Nat.le_trans hB h.below.size)),h.c3.below hb,h.c6.below hb,h.c7.below hb⟩
theorem LZ.put {n n':Int} {b:Bool} (h:LZ B w f n b W):LZ B w f n' true ((W.setCell ⟨B+1,0,none⟩ (.int .i64 n')).setCell ⟨B+1+1,0,none⟩ (.bool true)):=
 ⟨(h.below.setCell (p:=⟨B+1,0,none⟩) (Nat.le_succ _) _).setCell (p:=⟨B+1+1,0,none⟩) (by show B≤B+1+1;omega) _,Bxx.setNe (h.c3.setNe _ oq_) _ oq_,Bxx.setNe (a0_ 0 _ h.c6) _ oq_,a0_ 0 _ (h.c7.setNe _ oq_)⟩
theorem xk_ {n m:Int} {S T:Int->Prop} {b:Bool} (h:ap_ F S f n b) (g:ap_ F T f m true) (hc:b=false∨m<n):ap_ F (fun x=>S x∨T x) f m true:=by
 have:=jf_ h g;rw [if_pos ⟨rfl,hc⟩,Bool.or_true] at this;exact this
theorem ww_ {n m:Int} {S T:Int->Prop} {b c:Bool} (h:ap_ F S f n b) (g:ap_ F T f m c) (hc:c=false∨(b=true∧¬ m<n)):ap_ F (fun x=>S x∨T x) f n b:=by
 have:=jf_ h g;rcases hc with rfl|⟨rfl,hc⟩
 ·rw [if_neg (fun e=>by cases e.1),Bool.or_false] at this;exact this
 ·rw [if_neg (fun e=>by rcases e.2 with e|e;cases e;exact hc e)] at this;exact this
theorem ot_ {n:Int} {L:List (List Per)} {b:Bool} (h:ap_ F (fun x=>mmem L x∨tmem t x) f n b):ap_ F (mmem (L ++ [t])) f n b:=h.congr fun x _ _=>sd_
theorem c4_ {W0 W1:World} {n:Int} {b c:Bool} {pre:List (Value × List Per)} {y:Value × List Per} {a:Act} (hw:w.heap.size≤W'.heap.size) (hl:LZ w.heap.size w f n b W') (h:ap_ FarI (mmem (pre.map Prod.snd)) f n b) (hb:Below W'.heap.size W' W1) (g:ap_ FarI (tmem y.2) f d c) (hc:c=false∨(b=true∧¬ d<n)) :
  lr_ W0.heap.size (KpB fun k=>k<w.heap.size) (fun W'=>∃ n b,ap_ FarI (mmem ((pre ++ [y]).map Prod.snd)) f n b∧LZ w.heap.size w f n b W') W' .normal a W1:=
 ⟨(KeepsOthers.of_below hb).from _,fun k hk=>hb.block k oq_,n,b,by rw [List.map_append];exact ot_ (ww_ h g hc),hl.ext (Nat.le_refl _) hb⟩
theorem g3_ {W0 W1:World} {n:Int} {b:Bool} {pre:List (Value × List Per)} {y:Value × List Per} {a:Act} (hw:w.heap.size≤W'.heap.size) (hl:LZ w.heap.size w f n b W') (h:ap_ FarI (mmem (pre.map Prod.snd)) f n b) (hb:Below W'.heap.size W' W1) (g:ap_ FarI (tmem y.2) f d true) (hc:b=false∨d<n) :
  lr_ W0.heap.size (KpB fun k=>k<w.heap.size) (fun W'=>∃ n b,ap_ FarI (mmem ((pre ++ [y]).map Prod.snd)) f n b∧LZ w.heap.size w f n b W') W' .normal a ((W1.setCell ⟨w.heap.size+1,0,none⟩ (.int .i64 d)).setCell ⟨w.heap.size+1+1,0,none⟩ (.bool true)):=
 ⟨(((KeepsOthers.of_below hb).trans (KeepsOthers.setCell W1 _ _)).trans (KeepsOthers.setCell _ _ _)).from _,fun k hk=>((Below.heap_setCell _ ⟨w.heap.size+1+1,0,none⟩ _ k (by show k≠w.heap.size+1+1;omega)).trans (Below.heap_setCell _ ⟨w.heap.size+1,0,none⟩ _ k (by show k≠w.heap.size+1;omega))).trans (hb.block k oq_),d,true,by rw [List.map_append];exact ot_ (xk_ h g hc),(hl.ext (Nat.le_refl _) hb).put⟩
theorem s8_ (s:Int) (g:Nat) (lb:Array Value) (T:List (List Per)) (f:Int) (w:World) (hit:vs_ g lb T w) (hT:∀ t∈T,fp_ s t) (f0:0≤f) (f1:f≤9223372036854775807) :
  Calls Tryz.prog 167 #[.func (.func g) #[] lb,.int .i64 f] w fun e w'=>∃ n b,e=.returned (.tuple #[.int .i64 n,.bool b])∧ap_ FarI (mmem T) f n b∧Below w.heap.size w w':=by
 refine callsIn_wide (n:=0).1 ?_;refine callsIn_of_wp_marks Tryz.func167 rfl trivial ?_ rfl;simp only [Tryz.ntmps167,List.size_toArray,List.length_cons,List.length_nil,Nat.reduceAdd,Nat.reduceSub,Array.replicate_succ,Array.replicate_zero,List.push_toArray,List.append_toArray,List.nil_append,List.cons_append];gi_wp2_with fail
 generalize hW0:((w.alloc _).alloc _).alloc _=W0;have hE:Below w.heap.size w W0:=by rw [<- hW0];exact xE
 have hsz:W0.heap.size=w.heap.size+3:=by rw [<- hW0];simp
 have hb3:Bxx W0 w.heap.size #[.int .i64 f] 3:=by rw [<- hW0];exact ((Bxx.at rfl).alloc _).alloc _
 have hb6:Bxx W0 (w.heap.size+1) #[.int .i64 0] 3:=by rw [<- hW0];exact (Bxx.at sq_).alloc _
 have hb7:Bxx W0 (w.heap.size+1+1) #[.bool false] 4:=by rw [<- hW0];exact Bxx.at sq_
 have HIT:=hq_ hit;have HST:Hid (LZ w.heap.size w f 0 false W0):=hq_ ⟨hE,hb3,hb6,hb7⟩;have HT:=hq_ hT;clear hW0 hb3 hb6 hb7 hit hT;refine o6_ (α:=Value × List Per) (x:=none) (gf:=g) (lb:=lb) rfl HIT.out.1 (HIT.out.2 W0 hE) (fun h k=>h.trans k) (KpB.putObj (by intro k hk;omega)) (fun y=>rfl)
  (fun pre W'=>∃ n b,ap_ FarI (mmem (pre.map Prod.snd)) f n b∧LZ w.heap.size w f n b W')
  (by
   rintro pre A C row ⟨n,b,h1,h2⟩ hg hr;refine ⟨n,b,h1,h2.grow (Nat.le_refl _) hg fun r e=>?_⟩;rcases hr r e with ⟨h,_⟩|⟨h,h'⟩
   ·cases h
   ·exact ⟨oq_,h'⟩)
  EyT.put (by exact ⟨0,false,sg_,HST.out⟩)
  (fun y=>⟨#[.func (Fn.func g) #[] lb,.int .i64 f,undef,.pointer (some ⟨w.heap.size,0,none⟩),.int .i64 0,.bool false,.pointer (some ⟨w.heap.size+1,0,none⟩),.pointer (some ⟨w.heap.size+1+1,0,none⟩),y.1,undef,undef,.func (Fn.func g) #[] lb,y.1,undef,undef,undef,undef,undef,undef,undef,undef,undef,undef,undef,undef,undef,undef,undef,undef,undef,undef,undef,undef,undef,undef,undef,undef,undef,undef,undef,undef,undef,undef,undef,undef,undef,undef,undef],[]⟩) ?assign ?body ?done
 case assign=>
  intro l y W' K hK;unfold tenc
  gi_wp2
  exact hK
 case body=>
  rintro l pre y W' ⟨n,b,hN,hLI⟩ ⟨⟨r,hTr⟩,F,hyt⟩;obtain ⟨yv,yt⟩:=y;dsimp only at hTr hyt;have hvt:=HT.out yt (by rw [hTr];simp);obtain ⟨ya,yc,rfl,_⟩:=hyt.form;have hTV:TV yt:=fun p hp=>(hvt.fv p hp).validB;have hwf:∀ p∈yt,p.WF:=fun p hp=>(hvt.fv p hp).fac.wf;have hs1:as_ yt≤FarI:=l2_ dq_ fun p hp=>Int.le_trans (hvt.fv p hp).far dq_;have HTM:=hq_ (fun d ok h=>t9_ hvt.ne hwf hs1 (pg_ (f:=f) (n:=d) (b:=ok) hvt.ne hwf h));have HEA:=hq_ (fun W (h:Below W'.heap.size W' W)=>rd_ F _ yt f W (hyt.ext h) hTV ⟨oq_,oq_⟩);have HRE:=hq_ (fun W (h:Below W'.heap.size W' W)=>qd_ F _ yt W (hyt.ext h) hTV);have HLA:=hq_ (fun W (h:Below W'.heap.size W' W) (h1:f≤1152921504606846976)=>uj_ s F _ yt f W (hyt.ext h) hvt.fv f0 h1);have q3:=hLI.c3.c0;have hwz:=hLI.c7.lt;have HLI:=hq_ hLI;have HN:=hq_ hN;clear hN hLI hTr hyt hvt hTV hwf hs1;have hwz2:w.heap.size≤W'.heap.size:=oq_;generalize hQ9:lr_ W0.heap.size _ _ W'=Q9;have HQ9:=hq_ hQ9;clear hQ9;by_cases hff:f≤1152921504606846976;all_goals
   (try have HFF:Hid (FarI<f):=hq_ (Int.not_le.1 hff))
   cases b
   ·
    gi_wp2_with (first
     | (refine ⟨trivial,rfl,?_⟩;gi_at_call 207;refine (CallsIn.inRound l (callsIn_wide.2 (HEA.out W' (Er _)))).mono ?_;rintro e w1 ⟨d,ok,rfl,hbe,hb1⟩;have HB1:=hq_ hb1;have HBW:=hq_ hb1;have hL1:=HLI.out.ext (Nat.le_refl _) hb1;have r3:=hL1.c3.c0;have r6:=hL1.c6.cells 0;have r7:=hL1.c7.cells 0;have HTN:=hq_ (HTM.out d ok hbe);clear hb1 hL1 hbe;cases ok;rotate_left;(have HNX:=hq_ (HTN.out.1 sq_));rotate_left)
     | (refine ⟨trivial,rfl,?_⟩;gi_at_call 208;refine (CallsIn.inRound l (callsIn_wide.2 (HRE.out _ HB1.out))).mono ?_;rintro e w2 ⟨b2,rfl,hrec,hb2⟩;have HB2:=hq_ hb2;have HBW:=hq_ (Et HB1.out hb2);have hL2:=HLI.out.ext (Nat.le_refl _) (Et HB1.out hb2);have s3:=hL2.c3.c0;have s6:=hL2.c6.cells 0;have s7:=hL2.c7.cells 0;have HNR:=hq_ (show b2=false->¬ recT yt from fun h0 h=>by have h1:=hrec.2 h;rw [h0] at h1;cases h1);clear hb2 hL2 hrec;cases b2)
     | (refine ⟨trivial,rfl,?_⟩;gi_at_call 209;(refine (CallsIn.inRound l (callsIn_wide.2 (HLA.out _ (Et HB1.out HB2.out) (by assumption)))).mono ?_);rintro e w3 ⟨m3,c3,rfl,hnx,hb3⟩;have HBW:=hq_ (Et (Et HB1.out HB2.out) hb3);have hL3:=HLI.out.ext (Nat.le_refl _) (Et (Et HB1.out HB2.out) hb3);have u3:=hL3.c3.c0;have u6:=hL3.c6.cells 0;have u7:=hL3.c7.cells 0;have HNX:=hq_ (HTN.out.2.2 sq_ m3 c3 hnx);clear hb3 hL3 hnx;cases c3)
     | (refine ⟨trivial,?_⟩;apply_assumption))
    all_goals rw [<- HQ9.out]
    all_goals first
     | exact c4_ (y:=(.slice ya yt.length yc,yt)) hwz2 HLI.out HN.out HBW.out HNX.out (.inl rfl)
     | exact g3_ (y:=(.slice ya yt.length yc,yt)) hwz2 HLI.out HN.out HBW.out HNX.out (.inl rfl)
     | exact c4_ (y:=(.slice ya yt.length yc,yt)) hwz2 HLI.out HN.out HBW.out HNX.out (.inr ⟨rfl,Int.not_lt.2 (by assumption)⟩)
     | exact g3_ (y:=(.slice ya yt.length yc,yt)) hwz2 HLI.out HN.out HBW.out HNX.out (.inr (by assumption))
     | exact c4_ (y:=(.slice ya yt.length yc,yt)) hwz2 HLI.out HN.out HBW.out (HTN.out.2.1 sq_ (.inr (HNR.out sq_))) (.inl rfl)
     | exact c4_ (y:=(.slice ya yt.length yc,yt)) hwz2 HLI.out HN.out HBW.out (HTN.out.2.1 sq_ (.inl HFF.out)) (.inl rfl)
   ·
    gi_wp2_with (first
     | (refine ⟨trivial,rfl,?_⟩;gi_at_call 207;refine (CallsIn.inRound l (callsIn_wide.2 (HEA.out W' (Er _)))).mono ?_;rintro e w1 ⟨d,ok,rfl,hbe,hb1⟩;have HB1:=hq_ hb1;have HBW:=hq_ hb1;have hL1:=HLI.out.ext (Nat.le_refl _) hb1;have r3:=hL1.c3.c0;have r6:=hL1.c6.cells 0;have r7:=hL1.c7.cells 0;have HTN:=hq_ (HTM.out d ok hbe);clear hb1 hL1 hbe;cases ok;rotate_left;(have HNX:=hq_ (HTN.out.1 sq_));rotate_left)
     | (refine ⟨trivial,rfl,?_⟩;gi_at_call 208;refine (CallsIn.inRound l (callsIn_wide.2 (HRE.out _ HB1.out))).mono ?_;rintro e w2 ⟨b2,rfl,hrec,hb2⟩;have HB2:=hq_ hb2;have HBW:=hq_ (Et HB1.out hb2);have hL2:=HLI.out.ext (Nat.le_refl _) (Et HB1.out hb2);have s3:=hL2.c3.c0;have s6:=hL2.c6.cells 0;have s7:=hL2.c7.cells 0;have HNR:=hq_ (show b2=false->¬ recT yt from fun h0 h=>by have h1:=hrec.2 h;rw [h0] at h1;cases h1);clear hb2 hL2 hrec;cases b2)
     | (refine ⟨trivial,rfl,?_⟩;gi_at_call 209;(refine (CallsIn.inRound l (callsIn_wide.2 (HLA.out _ (Et HB1.out HB2.out) (by assumption)))).mono ?_);rintro e w3 ⟨m3,c3,rfl,hnx,hb3⟩;have HBW:=hq_ (Et (Et HB1.out HB2.out) hb3);have hL3:=HLI.out.ext (Nat.le_refl _) (Et (Et HB1.out HB2.out) hb3);have u3:=hL3.c3.c0;have u6:=hL3.c6.cells 0;have u7:=hL3.c7.cells 0;have HNX:=hq_ (HTN.out.2.2 sq_ m3 c3 hnx);clear hb3 hL3 hnx;cases c3)
     | (refine ⟨trivial,?_⟩;apply_assumption))
    all_goals rw [<- HQ9.out]
    all_goals first
     | exact c4_ (y:=(.slice ya yt.length yc,yt)) hwz2 HLI.out HN.out HBW.out HNX.out (.inl rfl)
     | exact g3_ (y:=(.slice ya yt.length yc,yt)) hwz2 HLI.out HN.out HBW.out HNX.out (.inl rfl)
     | exact c4_ (y:=(.slice ya yt.length yc,yt)) hwz2 HLI.out HN.out HBW.out HNX.out (.inr ⟨rfl,Int.not_lt.2 (by assumption)⟩)
     | exact g3_ (y:=(.slice ya yt.length yc,yt)) hwz2 HLI.out HN.out HBW.out HNX.out (.inr (by assumption))
     | exact c4_ (y:=(.slice ya yt.length yc,yt)) hwz2 HLI.out HN.out HBW.out (HTN.out.2.1 sq_ (.inr (HNR.out sq_))) (.inl rfl)
     | exact c4_ (y:=(.slice ya yt.length yc,yt)) hwz2 HLI.out HN.out HBW.out (HTN.out.2.1 sq_ (.inl HFF.out)) (.inl rfl)
 case done=>
  rintro D xs W' hD hfin ⟨n,b,hN,hLI⟩ hdef;rw [show xs.map Prod.snd=T from hfin] at hN;have q6:=hLI.c6.c0;have q7:=hLI.c7.c0;have hM:aj_ w.heap.size [{ target:=.collected D,args:=#[] }] W':=bt_ oq_ hdef;have HM:=hq_ hM;have HN:=hq_ hN;have HLI:=hq_ hLI;clear hfin hN hLI hdef hM;gi_wp2_with fail
  refine wpIn_wide.2 ?_;go_quiet (fail)
  go_wp2_with fail
  gi_wp2_with fail
  refine ah_ (B:=w.heap.size) _ _ HM.out fun w' hs=>⟨.tuple #[.int .i64 n,.bool b],by simp [results,Tryz.results167,go_sem],n,b,rfl,HN.out,(En HLI.out.below _).trans hs.below⟩
end Go.Proofs.YtkclokcenllhmaaGreat
namespace Go.Proofs.YtkclokcenllhmaaGreat
open Go.RowKit Go.Maps Kal
def tn_ (S:Int->Prop) (f:Int) (w:World) (e:Ending) (w':World):Prop:=∃ n b,e=.returned (.tuple #[.int .i64 n,.bool b])∧ap_ FarI S f n b∧Below w.heap.size w w'
theorem se_ (s:Int) (F:Nat->Prop) (v:Value) (m:List (List Per)) (f:Int) (w:World) (h1:MixR w F v m) (k1:MV s m) (hf:InI f) :
  Calls Tryz.prog 128 #[.agg #[v],.int .i64 f] w (tn_ (mmem m) (max f 0) w):=by
 have HV1:=fun W (h:Below w.heap.size w W)=>g9_ F v m W (h1.ext h);rw [k1.val] at HV1;obtain ⟨a1,c1,rfl⟩:=h1.form;have HLE:=hq_ (fun W (h:Below w.heap.size w W) b1 hb1=>s8_ s _ _ m (max f 0) W (qu_ F (.slice a1 m.length c1) m b1 W (h1.ext h) hb1) k1.vt oq_ (by have:=hf.2;omega));clear h1 k1;have key:f<0∨0≤f:=Int.lt_or_le f 0;rcases key with hf0|hf0
 all_goals
  go_enter Tryz.func128,Tryz.ntmps128
  go_wp2_with (first|(go_at_call 126;refine (HV1 _ (Ea (Er w) _)).mono ?_;rintro e w1 ⟨rfl,hb1⟩;have b0:Bxx w1 w.heap.size #[.slice a1 m.length c1] 128:=Bxx.below xB hb1;have x0:=b0.c0;have hW1:Below w.heap.size w w1:=Et (Ea (Er w) _) hb1)|(go_at_call 180;refine (qt_ _ _ ⟨_,_,_,rfl⟩).mono ?_;rintro e w4 ⟨rfl,rfl⟩)|(go_at_call 167;((with_reducible refine (HLE.out _ (Ea hW1 _) w1.heap.size (Bxx.new w1 #[.slice a1 m.length c1] 126).c0).mono ?_);rintro e w5 ⟨n,b,rfl,hn,hb5⟩)))
  go_ret2;exact ⟨n,b,rfl,hn,Et (Ea hW1 _) hb5⟩
end Go.Proofs.YtkclokcenllhmaaGreat
namespace Kal
structure Inst where
 day:Int
 frm:Int
 fin:Int
instance:Inhabited Inst:=⟨⟨0,0,0⟩⟩
structure Cls where
 days:List (List Per)
 min:Int
instance:Inhabited Cls:=⟨⟨[],0⟩⟩
structure Str where
 cls:List Cls
 len:Int
 ext:List Inst
instance:Inhabited Str:=⟨⟨[],0,[]⟩⟩
theorem Inst.ext' {x y:Inst} (h1:x.day=y.day) (h2:x.frm=y.frm) (h3:x.fin=y.fin):x=y:=by
 cases x;cases y;simp_all
def LtI (x y:Inst):Prop:=x.frm<y.frm∨(x.frm=y.frm∧(x.day<y.day∨(x.day=y.day∧x.fin<y.fin)))
theorem LtI.irrefl {x:Inst}:¬ LtI x x:=by unfold LtI;omega
theorem LtI.trans {x y z:Inst} (h:LtI x y) (g:LtI y z):LtI x z:=by unfold LtI at *;omega
theorem LtI.tri (x y:Inst):LtI x y∨x=y∨LtI y x:=by
 by_cases h:x.frm=y.frm∧x.day=y.day∧x.fin=y.fin
 ·exact .inr (.inl (Inst.ext' h.2.1 h.1 h.2.2))
 ·unfold LtI;omega
theorem LtI.eq_of {x y:Inst} (h:¬ LtI x y) (g:¬ LtI y x):x=y:=by
 rcases LtI.tri x y with h1|h1|h1
 ·exact absurd h1 h
 ·exact h1
 ·exact absurd h1 g
noncomputable def ordI (x y:Inst):Int:=if x.frm<y.frm then -1 else if y.frm<x.frm then 1 else if x.day<y.day then -1 else if y.day<x.day then 1 else if x.fin<y.fin then -1 else if y.fin<x.fin then 1 else 0
theorem ep_ {x y:Inst}:ordI x y<0↔LtI x y:=by unfold ordI LtI;repeat' split <;> omega
theorem i1_ {x y:Inst}:ordI x y ≥ 0↔¬ LtI x y:=by rw [<- ep_];omega
theorem ow_ {x y:Inst}:ordI x y=0↔x=y:=by
 constructor
 ·intro h;refine LtI.eq_of (fun h1=>?_) (fun h1=>?_)
  ·have:=ep_.2 h1;omega
  ·unfold ordI at h;unfold LtI at h1
   repeat' split at h <;> omega
 ·rintro rfl;unfold ordI;repeat' split <;> omega
def ae_ (a b c d:Int):Prop:=a<d∧c<b
instance (a b c d:Int):Decidable (ae_ a b c d):=inferInstanceAs (Decidable (_∧_))
def br_ (x:Inst):Prop:=(0≤x.day∧x.day≤1099511627776)∧(-2251799813685248≤x.frm∧x.frm≤1583296743997439)∧(x.frm+1≤x.fin∧x.fin≤x.frm+10080)
def iz_ (val:List (List Per)->Bool) (l:List Cls) (i:Nat):Prop:=val (l.getD i default).days=true∧(-4320≤(l.getD i default).min∧(l.getD i default).min≤4320)∧∀ j,i=j+1->(l.getD j default).min<(l.getD i default).min
def p1_ (l:List Inst) (i:Nat):Prop:=br_ (l.getD i default)∧∀ j,i=j+1->LtI (l.getD j default) (l.getD i default)
structure bi_ (val:List (List Per)->Bool) (s:Str):Prop where
 ncls:s.cls.length≤64
 len:1≤s.len∧s.len≤10080
 next:s.ext.length≤4096
 cls:∀ i,i<s.cls.length->iz_ val s.cls i
 ext:∀ i,i<s.ext.length->p1_ s.ext i
open Classical in
noncomputable def et_ (val:List (List Per)->Bool) (s:Str):Bool:=decide (bi_ val s)
theorem ca_ {val:List (List Per)->Bool} {s:Str}:et_ val s=true↔bi_ val s:=by simp [et_]
theorem c5_ {val:List (List Per)->Bool} {s:Str} (h:¬ bi_ val s):et_ val s=false:=by simp [et_,h]
theorem a6_ {α:Type} {l:List α} {d:α} (h:i<l.length):l.getD i d=l[i]:=by
 rw [List.getD_eq_getElem?_getD,List.getElem?_eq_getElem h];rfl
theorem b6_ {α:Type} {l:List α} {d x:α} (h:x∈l):∃ i,i<l.length∧l.getD i d=x:=by
 obtain ⟨i,hi,rfl⟩:=List.mem_iff_getElem.1 h;exact ⟨i,hi,a6_ hi⟩
theorem bi_.ins {val:List (List Per)->Bool} {s:Str} (h:bi_ val s) {x:Inst} (hx:x∈s.ext):br_ x:=by
 obtain ⟨i,hi,rfl⟩:=b6_ (d:=default) hx;exact (h.ext i hi).1
theorem bi_.cl {val:List (List Per)->Bool} {s:Str} (h:bi_ val s) {c:Cls} (hc:c∈s.cls):val c.days=true∧-4320≤c.min∧c.min≤4320:=by
 obtain ⟨i,hi,rfl⟩:=b6_ (d:=default) hc;exact ⟨(h.cls i hi).1,(h.cls i hi).2.1⟩
def dk_ (s:Str) (c:Cls) (d:Int):Inst:=⟨d,d*1440+c.min,d*1440+c.min+s.len⟩
def j5_ (s:Str) (c:Cls) (d:Int):Prop:=d*1440+c.min+s.len≤2251799813685248
def OfC (s:Str) (c:Cls) (x:Inst):Prop:=mmem c.days x.day∧x=dk_ s c x.day
def dc_ (s:Str) (x:Inst):Prop:=∃ c∈s.cls,OfC s c x
def IsI (s:Str) (x:Inst):Prop:=(∃ c∈s.cls,OfC s c x∧x.fin≤2251799813685248)∨x∈s.ext
theorem e0_ (hne:∀ t∈m,t≠[]) {n:Int} (h:mmem m n):0≤n:=by
 obtain ⟨t,ht,h⟩:=h;obtain ⟨p,hp⟩:=List.exists_mem_of_ne_nil t (hne t ht);exact (h p hp).1
def DayS (s:Str) (c:Cls) (a b:Int) (d:Int):Prop:=mmem c.days d∧j5_ s c d∧a<d*1440+c.min+s.len∧d*1440+c.min<b
structure ev_ (S:Int->Prop) (l:List Int):Prop where
 rise:l.Pairwise (· < ·)
 all:∀ d∈l,S d
 low:∀ d e,S d->e∈l->d≤e->d∈l
structure vq_ (S:Int->Prop) (l:List Int):Prop where
 rise:l.Pairwise (· < ·)
 iff:∀ d,d∈l↔S d
theorem ev_.nil {S:Int->Prop}:ev_ S []:=⟨.nil,sq_,sq_⟩
theorem ev_.snoc {S:Int->Prop} (h:ev_ S l) (hl:∀ e∈l,e<f) (hs:∀ x,S x->x<f->x∈l) (hf:f≤d) (hd:S d) (hn:∀ x,f≤x->x<d->¬ S x):ev_ S (l ++ [d]):=by
 refine ⟨List.pairwise_append.2 ⟨h.rise,List.pairwise_singleton _ _,fun a ha b hb=>?_⟩,fun x hx=>?_,fun x e hx he hle=>?_⟩
 ·obtain rfl:b=d:=by simpa using hb
  have:=hl a ha;omega
 ·rcases List.mem_append.1 hx with hx|hx
  ·exact h.all x hx
  ·obtain rfl:x=d:=by simpa using hx
   exact hd
 ·rcases Int.lt_trichotomy x d with h1|h1|h1
  ·by_cases h2:x<f
   ·exact List.mem_append_left _ (hs x hx h2)
   ·exact absurd hx (hn x oq_ h1)
  ·subst h1;simp
  ·rcases List.mem_append.1 he with he|he
   ·have:=hl e he;omega
   ·obtain rfl:e=d:=by simpa using he
    omega
end Kal
namespace Go.Proofs.YtkclokcenllhmaaGreat
open Go.RowKit Kal
theorem a7_ {α:Type} {f:α->List Value} (hf:∀ x,(f x).length=n) (d:α) {L:List α}:∀ {j i:Nat} {u:Value},j<L.length->(f (L.getD j d))[i]? = some u->(L.flatMap f)[j*n+i]? = some u:=by
 induction L with
 | nil=>intro j i u h;simp at h
 | cons x L ih=>
  intro j i u hj hi;rw [List.flatMap_cons];cases j with
  | zero=>
   have h4:i<(f x).length:=(List.getElem?_eq_some_iff.1 hi).1;rw [List.getElem?_append_left (by simpa using h4)];simpa using hi
  | succ j=>
   rw [List.getElem?_append_right (by rw [hf,Nat.succ_mul];omega),hf,show (j+1)*n+i-n=j*n+i by rw [Nat.succ_mul];omega];exact ih (by simpa using hj) (by simpa using hi)
theorem bg_ {α:Type} {f:α->List Value} (hf:∀ x,(f x).length=n) (L:List α):(L.flatMap f).length=L.length*n:=by
 induction L with
 | nil=>simp
 | cons x L ih=>rw [List.flatMap_cons,List.length_append,hf,ih,List.length_cons,Nat.succ_mul,Nat.add_comm]
def ienc (x:Inst):List Value:=[.int .i64 x.day,.int .i64 x.frm,.int .i64 x.fin]
abbrev ival (x:Inst):Value:=.agg #[.int .i64 x.day,.int .i64 x.frm,.int .i64 x.fin]
theorem c8_ (x:Inst):(ienc x).length=3:=rfl
structure InIn (x:Inst):Prop where
 day:InI x.day
 frm:InI x.frm
 fin:InI x.fin
structure ClsV where
 v:Value
 m:List (List Per)
 min:Int
instance:Inhabited ClsV:=⟨⟨.slice none 0 0,[],0⟩⟩
def ClsV.enc (x:ClsV):List Value:=[x.v,.int .i64 x.min]
def ClsV.cls (x:ClsV):Cls:=⟨x.m,x.min⟩
theorem ClsV.enc_len (x:ClsV):x.enc.length=2:=rfl
structure ClsL (W:World) (F:Nat->Prop) (v:Value) (L:List ClsV):Prop where
 row:RowR W F v L.length (L.flatMap ClsV.enc)
 len:L.length≤17592186044416
 all:∀ x∈L,MixR W F x.v x.m∧InI x.min
structure ExtL (W:World) (F:Nat->Prop) (v:Value) (l:List Inst):Prop where
 row:RowR W F v l.length (l.flatMap ienc)
 len:l.length≤17592186044416
 all:∀ x∈l,InIn x
structure StrL (W:World) (F:Nat->Prop) (cv ev:Value) (L:List ClsV) (s:Str):Prop where
 eq:L.map ClsV.cls=s.cls
 cl:ClsL W F cv L
 ex:ExtL W F ev s.ext
 len:InI s.len
def StrR (W:World) (F:Nat->Prop) (cv ev:Value) (s:Str):Prop:=∃ L,StrL W F cv ev L s
theorem ClsL.keep {F:Nat->Prop} {L:List ClsV} (h:ClsL W F v L) (hk:a3_ F W W') (hs:W.heap.size≤W'.heap.size):ClsL W' F v L:=⟨h.row.keep hk hs,h.len,fun x hx=>⟨(h.all x hx).1.keep hk hs,(h.all x hx).2⟩⟩
theorem ClsL.mono {F G:Nat->Prop} {L:List ClsV} (h:ClsL W F v L) (hF:∀ b,F b->G b):ClsL W G v L:=⟨h.row.mono hF,h.len,fun x hx=>⟨(h.all x hx).1.mono hF,(h.all x hx).2⟩⟩
theorem ExtL.keep {F:Nat->Prop} {l:List Inst} (h:ExtL W F v l) (hk:a3_ F W W') (hs:W.heap.size≤W'.heap.size):ExtL W' F v l:=⟨h.row.keep hk hs,h.len,h.all⟩
theorem ExtL.mono {F G:Nat->Prop} {l:List Inst} (h:ExtL W F v l) (hF:∀ b,F b->G b):ExtL W G v l:=⟨h.row.mono hF,h.len,h.all⟩
theorem ExtL.ext {F:Nat->Prop} {l:List Inst} (h:ExtL W F v l) (hb:Below W.heap.size W W'):ExtL W' F v l:=h.keep (a3_.below hb) hb.size
theorem StrL.keep {F:Nat->Prop} {ev:Value} {L:List ClsV} {s:Str} (h:StrL W F cv ev L s) (hk:a3_ F W W') (hs:W.heap.size≤W'.heap.size):StrL W' F cv ev L s:=⟨h.eq,h.cl.keep hk hs,h.ex.keep hk hs,h.len⟩
theorem StrL.mono {F G:Nat->Prop} {ev:Value} {L:List ClsV} {s:Str} (h:StrL W F cv ev L s) (hF:∀ b,F b->G b):StrL W G cv ev L s:=⟨h.eq,h.cl.mono hF,h.ex.mono hF,h.len⟩
theorem StrL.below {F:Nat->Prop} {ev:Value} {L:List ClsV} {s:Str} (h:StrL W F cv ev L s) (hb:Below W.heap.size W W'):StrL W' F cv ev L s:=h.keep (a3_.below hb) hb.size
theorem StrR.keep {F:Nat->Prop} {ev:Value} {s:Str} (h:StrR W F cv ev s) (hk:a3_ F W W') (hs:W.heap.size≤W'.heap.size):StrR W' F cv ev s:=by obtain ⟨L,h⟩:=h;exact ⟨L,h.keep hk hs⟩
theorem StrR.mono {F G:Nat->Prop} {ev:Value} {s:Str} (h:StrR W F cv ev s) (hF:∀ b,F b->G b):StrR W G cv ev s:=by obtain ⟨L,h⟩:=h;exact ⟨L,h.mono hF⟩
theorem StrR.ext {F:Nat->Prop} {ev:Value} {s:Str} (h:StrR W F cv ev s) (hb:Below W.heap.size W W'):StrR W' F cv ev s:=h.keep (a3_.below hb) hb.size
theorem MixR.keep2 {F:Nat->Prop} (h:MixR W F v m) (hk:a3_ F W W'):MixR W' F v m:=by obtain ⟨L,e,g⟩:=h;exact ⟨L,e,g.keep2 hk⟩
theorem ClsL.keep2 {F:Nat->Prop} {L:List ClsV} (h:ClsL W F v L) (hk:a3_ F W W'):ClsL W' F v L:=⟨h.row.keep2 hk,h.len,fun x hx=>⟨(h.all x hx).1.keep2 hk,(h.all x hx).2⟩⟩
theorem ExtL.keep2 {F:Nat->Prop} {l:List Inst} (h:ExtL W F v l) (hk:a3_ F W W'):ExtL W' F v l:=⟨h.row.keep2 hk,h.len,h.all⟩
theorem StrL.keep2 {F:Nat->Prop} {ev:Value} {L:List ClsV} {s:Str} (h:StrL W F cv ev L s) (hk:a3_ F W W'):StrL W' F cv ev L s:=⟨h.eq,h.cl.keep2 hk,h.ex.keep2 hk,h.len⟩
theorem StrR.keep2 {F:Nat->Prop} {ev:Value} {s:Str} (h:StrR W F cv ev s) (hk:a3_ F W W'):StrR W' F cv ev s:=by obtain ⟨L,h⟩:=h;exact ⟨L,h.keep2 hk⟩
theorem ClsL.lt {F:Nat->Prop} {L:List ClsV} (h:ClsL W F v L):ClsL W (fun b=>F b∧b<W.heap.size) v L:=⟨h.row.lt,h.len,fun x hx=>⟨(h.all x hx).1.lt,(h.all x hx).2⟩⟩
theorem ExtL.lt {F:Nat->Prop} {l:List Inst} (h:ExtL W F v l):ExtL W (fun b=>F b∧b<W.heap.size) v l:=⟨h.row.lt,h.len,h.all⟩
theorem StrL.lt {F:Nat->Prop} {ev:Value} {L:List ClsV} {s:Str} (h:StrL W F cv ev L s):StrL W (fun b=>F b∧b<W.heap.size) cv ev L s:=⟨h.eq,h.cl.lt,h.ex.lt,h.len⟩
theorem StrR.lt {F:Nat->Prop} {ev:Value} {s:Str} (h:StrR W F cv ev s):StrR W (fun b=>F b∧b<W.heap.size) cv ev s:=by obtain ⟨L,h⟩:=h;exact ⟨L,h.lt⟩
theorem ClsL.form {F:Nat->Prop} {L:List ClsV} (h:ClsL W F v L):∃ a c,v=.slice a L.length c:=by
 obtain ⟨a,c,rfl,_⟩:=h.row.is;exact ⟨a,c,rfl⟩
theorem ExtL.form {F:Nat->Prop} {l:List Inst} (h:ExtL W F v l):∃ a c,v=.slice a l.length c:=by
 obtain ⟨a,c,rfl,_⟩:=h.row.is;exact ⟨a,c,rfl⟩
theorem StrR.form {F:Nat->Prop} {ev:Value} {s:Str} (h:StrR W F cv ev s):∃ a c a' c',cv=.slice a s.cls.length c∧ev=.slice a' s.ext.length c':=by
 obtain ⟨L,h⟩:=h;obtain ⟨a,c,rfl⟩:=h.cl.form;obtain ⟨a',c',rfl⟩:=h.ex.form;exact ⟨a,c,a',c',by rw [<- h.eq,List.length_map],rfl⟩
theorem ClsL.get {F:Nat->Prop} {a:Option Addr} {L:List ClsV} (h:ClsL W F (.slice a n c) L) (hk:k<L.length) :
  ∃ b o a1 c1,∃ m mi,a=some ⟨b,o,none⟩∧b<W.heap.size∧W.cell? ⟨b,o+k*2,none⟩=some (.slice a1 m.length c1)∧W.cell? ⟨b,o+k*2+1,none⟩=some (.int .i64 mi)∧MixR W F (.slice a1 m.length c1) m∧InI mi∧(L.map ClsV.cls).getD k default=⟨m,mi⟩:=by
 obtain ⟨a',c',he,h1,h2,h3⟩:=h.row.is;injection he with e1 _ e2
 subst e1;subst e2;rcases h3 with h3|⟨b,o,rfl,hF,hl,hc⟩
 ·omega
 ·have hx:=h.all _ (ac_ (d:=default) hk);obtain ⟨a1,c1,e⟩:=hx.1.form;refine ⟨b,o,a1,c1,(L.getD k default).m,(L.getD k default).min,rfl,hl,?_,hc (k*2+1) _ (a7_ ClsV.enc_len default hk rfl),?_,hx.2,?_⟩
  ·rw [<- e];exact hc (k*2+0) _ (a7_ ClsV.enc_len default hk rfl)
  ·rw [<- e];exact hx.1
  ·simp [List.getD_eq_getElem?_getD,hk];rfl
theorem ExtL.get {F:Nat->Prop} {a:Option Addr} {l:List Inst} (h:ExtL W F (.slice a n c) l) (hk:k<l.length) :
  ∃ b o x,a=some ⟨b,o,none⟩∧b<W.heap.size∧l.getD k default=x∧InIn x∧W.cell? ⟨b,o+k*3,none⟩=some (.int .i64 x.day)∧W.cell? ⟨b,o+k*3+1,none⟩=some (.int .i64 x.frm)∧W.cell? ⟨b,o+k*3+2,none⟩=some (.int .i64 x.fin):=by
 obtain ⟨a',c',he,h1,h2,h3⟩:=h.row.is;injection he with e1 _ e2
 subst e1;subst e2;rcases h3 with h3|⟨b,o,rfl,hF,hl,hc⟩
 ·omega
 ·exact ⟨b,o,l.getD k default,rfl,hl,rfl,h.all _ (ac_ hk),hc (k*3+0) _ (a7_ c8_ default hk rfl),hc (k*3+1) _ (a7_ c8_ default hk rfl),hc (k*3+2) _ (a7_ c8_ default hk rfl)⟩
end Go.Proofs.YtkclokcenllhmaaGreat
namespace Go.Proofs.YtkclokcenllhmaaGreat
open Go.RowKit Go.Maps Kal
structure U16s (w:World) (v:Value) (l:List Int):Prop where
 is:∃ a c,v=.slice a l.length c∧(l=[]∨∃ b o,a=some ⟨b,o,none⟩∧∀ i,i<l.length->w.cell? ⟨b,o+i,none⟩=some (.int .u16 (l.getD i 0)))
 len:l.length≤9223372036854775807
 rng:∀ x∈l,0≤x∧x≤65535
theorem U16s.ext (h:U16s w v l) (hb:Below w.heap.size w W):U16s W v l:=by
 obtain ⟨⟨a,c,rfl,h3⟩,h4,h5⟩:=h;refine ⟨⟨a,c,rfl,h3.imp id ?_⟩,h4,h5⟩;rintro ⟨b,o,rfl,hc⟩;exact ⟨b,o,rfl,fun i hi=>Ext.cell hb (hc i hi)⟩
structure RawV where
 dv:Value
 mv:Value
 ln:Int
 ev:Value
instance:Inhabited RawV:=⟨⟨.slice none 0 0,.slice none 0 0,0,.slice none 0 0⟩⟩
structure RawR (w:World) (x:RawV) (ll:List (List Int)) (ml el:List Int):Prop where
 days:c3_ w x.dv ll
 cap:∃ a c,x.dv=.slice a ll.length c∧ll.length≤c∧c≤9223372036854775807
 mins:cw_ w x.mv ml
 l0:0≤x.ln
 l1:x.ln≤255
 ext:U16s w x.ev el
theorem RawR.below {x:RawV} {ll:List (List Int)} {el:List Int} (h:RawR w x ll ml el) (hb:Below w.heap.size w W):RawR W x ll ml el:=⟨h.days.ext hb,h.cap,h.mins.ext hb,h.l0,h.l1,h.ext.ext hb⟩
def j2_ (w:World) (x:RawV):Prop:=∃ ll ml el,RawR w x ll ml el
theorem j2_.below {x:RawV} (h:j2_ w x) (hb:Below w.heap.size w W):j2_ W x:=by obtain ⟨ll,ml,el,h⟩:=h;exact ⟨ll,ml,el,h.below hb⟩
abbrev RawV.val (x:RawV):Value:=.agg #[x.dv,x.mv,.int .u8 x.ln,x.ev]
structure ActV where
 id:Int
 rm:Bool
 s:RawV
instance:Inhabited ActV:=⟨⟨0,false,default⟩⟩
end Go.Proofs.YtkclokcenllhmaaGreat
namespace Kal
theorem ko_ {P:Nat->Prop} (h:∃ n,P n):∃ n,P n∧∀ m,m<n->¬ P m:=by
 have key:∀ n,P n->∃ n,P n∧∀ m,m<n->¬ P m:=by
  intro n;induction n using Nat.strongRecOn with
  | _ n ih=>
   intro hn;by_cases h:∃ m,m<n∧P m
   ·obtain ⟨m,h1,h2⟩:=h;exact ih m h1 h2
   ·exact ⟨n,hn,fun m hm hp=>h ⟨m,hm,hp⟩⟩
 obtain ⟨n,hn⟩:=h;exact key n hn
theorem gx_ (P:Nat->Nat->Prop) (n:Nat):lt_ P n∨∃ i j,gl_ P n i j:=by
 by_cases h:∃ i,∃ j,i<j∧j<n∧P i j
 ·obtain ⟨i,⟨j0,hj0⟩,hi⟩:=ko_ h;obtain ⟨j,⟨h1,h2,h3⟩,hj⟩:=ko_ (P:=fun j=>i<j∧j<n∧P i j) ⟨j0,hj0⟩;exact .inr ⟨i,j,h1,h2,h3,fun i' j' a b c d=>hi i' a ⟨j',b,c,d⟩,fun j' a b c=>hj j' b ⟨a,oq_,c⟩⟩
 ·exact .inl fun i j a b c=>h ⟨i,j,a,b,c⟩
theorem q8_:∀ (k:Nat) (t:List Per),t.length≤k->∃ u,fb_ t u:=by
 intro k;induction k with
 | zero=>intro t ht;exact ⟨t,.done fun i j a b=>oq_⟩
 | succ k ih=>
  intro t ht;rcases gx_ (pf_ t) t.length with h|⟨i,j,h⟩
  ·exact ⟨t,.done h⟩
  ·have h2:=h.lt;have h3:=h.lim;obtain ⟨u,hu⟩:=ih (ho_ t i j) (by rw [k7_ h.lim];omega);exact ⟨u,.step h hu⟩
theorem s4_:∀ (k:Nat) (l:List (List Per)),l.length≤k->∃ m,gm_ l m:=by
 intro k;induction k with
 | zero=>intro l hl;exact ⟨l,.done fun i j a b=>oq_⟩
 | succ k ih=>
  intro l hl;rcases gx_ (im_ l) l.length with h|⟨i,j,h⟩
  ·exact ⟨l,.done h⟩
  ·have h2:=h.lt;have h3:=h.lim;obtain ⟨m,hm⟩:=ih (me_ l i j) (by unfold me_;rw [List.length_eraseIdx,List.length_set,if_pos h.lim];omega);exact ⟨m,.step h hm⟩
theorem i0_:∀ L:List (List Per),∃ l,cy_ L l
 | []=>⟨[],.nil⟩
 | t :: L=>by
  obtain ⟨l,hl⟩:=i0_ L;obtain ⟨u,hu⟩:=q8_ _ (t.map fun p=>gt_ p.mem) (Nat.le_refl _);by_cases hb:k1_ u
  ·exact ⟨l,.skip hu hb hl⟩
  ·exact ⟨u :: l,.keep hu hb hl⟩
theorem wv_ (L:List (List Per)):∃ m,xe_ L m:=by
 obtain ⟨l,hl⟩:=i0_ L;obtain ⟨k,hk⟩:=s4_ _ l (Nat.le_refl _);exact ⟨_,l,k,hl,hk,rfl⟩
noncomputable def w2_ (L:List (List Per)):List (List Per):=Classical.choose (wv_ L)
structure Pr where
 c:Cls
 d:Cls
 k:Int
instance:Inhabited Pr:=⟨⟨default,default,0⟩⟩
def kLo (c d:Cls) (lb:Int):Int:=(c.min-d.min-lb) / 1440+1
def kHi (c d:Cls) (la:Int):Int:=(c.min-d.min+la-1) / 1440
def ksL (lo hi:Int):List Int:=(List.range (hi+1-lo).toNat).map fun i=>lo+((i:Nat):Int)
theorem wp_ {lo hi k:Int}:k∈ksL lo hi↔lo≤k∧k≤hi:=by
 unfold ksL;rw [List.mem_map];constructor
 ·rintro ⟨i,hi,rfl⟩;rw [List.mem_range] at hi;omega
 ·rintro ⟨h1,h2⟩;exact ⟨(k-lo).toNat,by rw [List.mem_range];omega,oq_⟩
def prs1 (la lb:Int) (c d:Cls):List Pr:=(ksL (kLo c d lb) (kHi c d la)).map fun k=>⟨c,d,k⟩
def bq_ (a b:Str):List Pr:=a.cls.flatMap fun c=>b.cls.flatMap fun d=>prs1 a.len b.len c d
theorem jk_ {a b:Str} {p:Pr}:p∈bq_ a b↔p.c∈a.cls∧p.d∈b.cls∧kLo p.c p.d b.len≤p.k∧p.k≤kHi p.c p.d a.len:=by
 unfold bq_ prs1;simp only [List.mem_flatMap,List.mem_map,wp_];constructor
 ·rintro ⟨c,hc,d,hd,k,hk,rfl⟩;exact ⟨hc,hd,hk⟩
 ·rintro ⟨hc,hd,hk⟩;exact ⟨p.c,hc,p.d,hd,p.k,hk,rfl⟩
theorem uz_ {a b:Str} {c d:Cls} {k:Int}:(kLo c d b.len≤k∧k≤kHi c d a.len)↔ae_ c.min (c.min+a.len) (k*1440+d.min) (k*1440+d.min+b.len):=by
 unfold kLo kHi ae_;omega
noncomputable def shF (m:List (List Per)) (b:Int):List (List Per):=w2_ (shL m b)
noncomputable def pxS (p:Pr):List (List Per):=if p.k<0 then shF p.c.days p.k else p.c.days
noncomputable def pyS (p:Pr):List (List Per):=if 0<p.k then shF p.d.days (-p.k) else p.d.days
def he_ (p:Pr) (n:Int):Prop:=mmem (sn_ (pxS p) (pyS p)) n
def bigP (p:Pr):Prop:=¬ lu_ (w2_ (sn_ (pxS p) (pyS p)))
def bl_ (a b:Str):Prop:=∃ x∈a.ext,(∃ y,dc_ b y∧ae_ x.frm x.fin y.frm y.fin)∨∃ y∈b.ext,ae_ x.frm x.fin y.frm y.fin
def e1_ (a b:Str):Prop:=∃ p∈bq_ a b,∃ n,0≤n∧n≤FarI∧he_ p n
def fc_ (a b:Str):Prop:=∃ p∈bq_ a b,bigP p
def fn_ (a b:Str):Prop:=∃ p∈bq_ a b,∃ n,he_ p n
def db_ (a b:Str) (r:Bool) (e:Int):Prop:=
 ((bl_ a b∨bl_ b a∨e1_ a b)∧r=true∧e=0) ∨
 (¬ (bl_ a b∨bl_ b a∨e1_ a b)∧((fc_ a b∧r=false∧e=2)∨(¬ fc_ a b∧e=0∧(r=true↔fn_ a b))))
theorem db_.unique {a b:Str} {r r':Bool} {e e':Int} (h:db_ a b r e) (g:db_ a b r' e'):r=r'∧e=e':=by
 rcases h with ⟨h0,rfl,rfl⟩|⟨h0,⟨h1,rfl,rfl⟩|⟨h1,rfl,h2⟩⟩ <;> rcases g with ⟨g0,rfl,rfl⟩|⟨g0,⟨g1,rfl,rfl⟩|⟨g1,rfl,g2⟩⟩
 ·exact ⟨rfl,rfl⟩
 ·exact absurd h0 g0
 ·exact absurd h0 g0
 ·exact absurd g0 h0
 ·exact ⟨rfl,rfl⟩
 ·exact absurd h1 g1
 ·exact absurd g0 h0
 ·exact absurd g1 h1
 ·exact ⟨by rw [Bool.eq_iff_iff,h2,g2],rfl⟩
instance (x y:Inst):Decidable (LtI x y):=by unfold LtI;infer_instance
instance:DecidableEq Inst:=fun x y=>decidable_of_iff (x.day=y.day∧x.frm=y.frm∧x.fin=y.fin) ⟨fun h=>Inst.ext' h.1 h.2.1 h.2.2,fun h=>by subst h;exact ⟨rfl,rfl,rfl⟩⟩
def putI:List Inst->Inst->List Inst
 | [],x=>[x]
 | y :: l,x=>if LtI x y then x :: y :: l else y :: putI l x
theorem mr_ {a:List Inst} {x:Inst} (h:∀ y∈a,¬ LtI x y) (b:List Inst):putI (a ++ b) x=a ++ putI b x:=by
 induction a with
 | nil=>rfl
 | cons y a ih=>
  rw [List.cons_append,putI,if_neg (h y sq_),ih (fun z hz=>h z (by simp [hz]))];rfl
theorem sp_ {a:List Inst} {x y:Inst} (h:∃ z∈a,LtI x z):putI (a ++ [y]) x=putI a x ++ [y]:=by
 induction a with
 | nil=>obtain ⟨z,hz,_⟩:=h;simp at hz
 | cons u a ih=>
  rw [List.cons_append,putI,putI];by_cases e:LtI x u
  ·rw [if_pos e,if_pos e];rfl
  ·rw [if_neg e,if_neg e];obtain ⟨z,hz,hl⟩:=h;rcases List.mem_cons.1 hz with rfl|hz
   ·exact absurd hl e
   ·rw [ih ⟨z,hz,hl⟩];rfl
structure PutP (l:List Inst) (x:Inst) (k:Nat) (done:Bool) (out:List Inst):Prop where
 no:x ∉ l.take k
 oeq:out=if done then putI (l.take k) x else l.take k
 iff:done=true↔∃ z∈l.take k,LtI x z
theorem PutP.start (l:List Inst) (x:Inst):PutP l x 0 false []:=⟨sq_,sq_,sq_⟩
theorem PutP.here {l:List Inst} {x:Inst} {out:List Inst} (h:PutP l x k false out) (hk:k<l.length) (hne:l.getD k default≠x) (hlt:LtI x (l.getD k default)):PutP l x (k+1) true (out ++ [x] ++ [l.getD k default]):=by
 have e:l.take (k+1)=l.take k ++ [l.getD k default]:=by rw [List.take_succ_eq_append_getElem hk,a6_ hk]
 have hn:∀ y∈l.take k,¬ LtI x y:=fun y hy hl=>by have:=h.iff.2 ⟨y,hy,hl⟩;cases this
 refine ⟨?_,?_,?_⟩
 ·rw [e];intro hm;rcases List.mem_append.1 hm with hm|hm
  ·exact h.no hm
  ·exact hne (List.mem_singleton.1 hm).symm
 ·have h1:=h.oeq;rw [if_neg sq_] at h1;rw [if_pos rfl,e,mr_ hn,h1,putI,if_pos hlt,List.append_assoc];rfl
 ·rw [e];exact ⟨fun _=>⟨_,sq_,hlt⟩,fun _=>rfl⟩
theorem PutP.next {l:List Inst} {x:Inst} {done:Bool} {out:List Inst} (h:PutP l x k done out) (hk:k<l.length) (hne:l.getD k default≠x) (hlt:done=true∨¬ LtI x (l.getD k default)):PutP l x (k+1) done (out ++ [l.getD k default]):=by
 have e:l.take (k+1)=l.take k ++ [l.getD k default]:=by rw [List.take_succ_eq_append_getElem hk,a6_ hk]
 refine ⟨?_,?_,?_⟩
 ·rw [e];intro hm;rcases List.mem_append.1 hm with hm|hm
  ·exact h.no hm
  ·exact hne (List.mem_singleton.1 hm).symm
 ·cases done with
  | true=>
   have h1:=h.oeq;rw [if_pos rfl] at h1;rw [if_pos rfl,e,sp_ (h.iff.1 rfl),h1]
  | false=>
   have h1:=h.oeq;rw [if_neg sq_] at h1;rw [if_neg sq_,e,h1]
 ·rw [e,h.iff];constructor
  ·rintro ⟨z,hz,hl⟩;exact ⟨z,by simp [hz],hl⟩
  ·rintro ⟨z,hz,hl⟩;rcases List.mem_append.1 hz with hz|hz
   ·exact ⟨z,hz,hl⟩
   ·obtain rfl:z=_:=by simpa using hz
    rcases hlt with h1|h1
    ·exact h.iff.1 h1
    ·exact absurd hl h1
theorem PutP.done {l:List Inst} {x:Inst} {done:Bool} {out:List Inst} (h:PutP l x l.length done out):x ∉ l∧putI l x=if done then out else out ++ [x]:=by
 obtain ⟨h1,h2,h3⟩:=h;rw [List.take_length] at h1 h2 h3;refine ⟨h1,?_⟩;cases done with
 | true=>rw [if_pos rfl] at h2 ⊢;exact h2.symm
 | false=>
  rw [if_neg sq_] at h2 ⊢;rw [h2];have:=mr_ (a:=l) (x:=x) (fun y hy hl=>by have:=h3.2 ⟨y,hy,hl⟩;cases this) [];rw [List.append_nil] at this;rw [this];rfl
def insI (l:List Inst) (x:Inst):List Inst:=if x∈l then l else putI l x
theorem ms_ {l:List Inst} {x y:Inst}:y∈putI l x↔y=x∨y∈l:=by
 induction l with
 | nil=>simp [putI]
 | cons u l ih=>
  unfold putI
  split
  ·simp
  ·rw [List.mem_cons,ih,List.mem_cons];constructor
   ·rintro (h|h|h)
    ·exact .inr (.inl h)
    ·exact .inl h
    ·exact .inr (.inr h)
   ·rintro (h|h|h)
    ·exact .inr (.inl h)
    ·exact .inl h
    ·exact .inr (.inr h)
theorem ik_ {l:List Inst} {x y:Inst}:y∈insI l x↔y=x∨y∈l:=by
 unfold insI
 split
 ·rename_i h;exact ⟨.inr,fun h1=>h1.elim (fun e=>e ▸ h) id⟩
 ·exact ms_
theorem v3_ {l:List Inst} {x:Inst}:(putI l x).length=l.length+1:=by
 induction l with
 | nil=>rfl
 | cons u l ih=>
  unfold putI
  split
  ·rfl
  ·rw [List.length_cons,ih,List.length_cons]
theorem g0_ {l:List Inst} {x:Inst}:(insI l x).length≤l.length+1:=by
 unfold insI
 split
 ·omega
 ·rw [v3_];omega
def AscI (l:List Inst):Prop:=l.Pairwise LtI
theorem v2_ {l:List Inst} {x:Inst} (h:AscI l) (hx:x ∉ l):AscI (putI l x):=by
 induction l with
 | nil=>exact List.pairwise_singleton _ _
 | cons u l ih=>
  unfold AscI at h;rw [List.pairwise_cons] at h;unfold putI
  split
  ·rename_i hl;refine List.pairwise_cons.2 ⟨fun y hy=>?_,List.pairwise_cons.2 h⟩;rcases List.mem_cons.1 hy with rfl|hy
   ·exact hl
   ·exact hl.trans (h.1 y hy)
  ·rename_i hl;refine List.pairwise_cons.2 ⟨fun y hy=>?_,ih h.2 (fun hm=>hx (by simp [hm]))⟩;rcases ms_.1 hy with rfl|hy
   ·rcases LtI.tri u y with e|e|e
    ·exact e
    ·exact absurd (by simp [e]) hx
    ·exact absurd e hl
   ·exact h.1 y hy
theorem ij_ {l:List Inst} {x:Inst} (h:AscI l):AscI (insI l x):=by
 unfold insI
 split
 ·exact h
 ·rename_i hx;exact v2_ h hx
theorem AscI.good {l:List Inst} (h:AscI l) (hg:∀ x∈l,br_ x):∀ i,i<l.length->p1_ l i:=fun i hi=>by
 refine ⟨hg _ (by rw [a6_ hi];exact List.getElem_mem hi),fun j e=>?_⟩;subst e;unfold AscI at h;rw [a6_ hi,a6_ oq_];exact (List.pairwise_iff_getElem.1 h) j (j+1) oq_ hi oq_
structure AscC (val:List (List Per)->Bool) (l:List Cls) (m:Int):Prop where
 good:∀ i,i<l.length->iz_ val l i
 last:∀ i,i<l.length->(l.getD i default).min≤m
theorem AscC.nil {val:List (List Per)->Bool} {m:Int}:AscC val [] m:=⟨fun i h=>by simp at h,fun i h=>by simp at h⟩
theorem AscC.le {val:List (List Per)->Bool} {l:List Cls} {m m':Int} (h:AscC val l m) (hm:m≤m'):AscC val l m':=⟨h.good,fun i hi=>Int.le_trans (h.last i hi) hm⟩
theorem AscC.snoc {val:List (List Per)->Bool} {l:List Cls} {m m':Int} {d:List (List Per)} (h:AscC val l m) (hm:m<m') (hd:val d=true) (h1:-4320≤m') (h2:m'≤4320):AscC val (l ++ [⟨d,m'⟩]) m':=by
 have e1:∀ i,i<l.length->(l ++ [(⟨d,m'⟩:Cls)]).getD i default=l.getD i default:=fun i hi=>by
  rw [List.getD_eq_getElem?_getD,List.getD_eq_getElem?_getD,List.getElem?_append_left hi]
 have e2:(l ++ [(⟨d,m'⟩:Cls)]).getD l.length default=⟨d,m'⟩:=by
  rw [List.getD_eq_getElem?_getD,List.getElem?_append_right (Nat.le_refl _)];simp
 refine ⟨fun i hi=>?_,fun i hi=>?_⟩
 ·rw [List.length_append,List.length_singleton] at hi;by_cases hl:i<l.length
  ·obtain ⟨g1,g2,g3⟩:=h.good i hl;unfold iz_;rw [e1 i hl];exact ⟨g1,g2,fun j e=>by rw [e1 j oq_];exact g3 j e⟩
  ·obtain rfl:i=l.length:=oq_;unfold iz_;rw [e2];exact ⟨hd,⟨h1,h2⟩,fun j e=>by rw [e1 j oq_];have:=h.last j oq_;exact Int.lt_of_le_of_lt this hm⟩
 ·rw [List.length_append,List.length_singleton] at hi;by_cases hl:i<l.length
  ·rw [e1 i hl];have:=h.last i hl;omega
  ·obtain rfl:i=l.length:=oq_;rw [e2];exact Int.le_refl _
end Kal
namespace Go.Proofs.YtkclokcenllhmaaGreat
open Go.RowKit Go.Maps Kal
theorem vf_ (n:Int):(n.tmod 1440<0->n.tdiv 1440-1=n / 1440)∧(0≤n.tmod 1440->n.tdiv 1440=n / 1440):=by
 have hq:=Int.mul_tdiv_add_tmod n 1440;have hr:=(vg_ n 1440 dq_).2.2;generalize n.tdiv 1440=q at *;generalize n.tmod 1440=r at *;omega
theorem u9_ (n:Int) (w:World) (hn:InI n) :
  Calls Tryz.prog 173 #[.int .i64 n,.int .i64 1440] w fun e w'=>e=.returned (.tuple #[.int .i64 (n / 1440),.int .i64 0])∧w=w':=by
 obtain ⟨k1,k2⟩:=hn;obtain ⟨h1,h2⟩:=vf_ n;have H1:=hq_ h1;have H2:=hq_ h2;have b1:-9223372036854775807≤n.tdiv 1440∧n.tdiv 1440≤9223372036854775807:=by
  by_cases h:n.tmod 1440<0
  ·have:=h1 h;omega
  ·have:=h2 oq_;omega
 obtain ⟨b2,b3⟩:=b1;clear h1 h2
 go_enter Tryz.func173,Tryz.ntmps173
 go_wp2
 ·go_ret2;exact ⟨by rw [H1.out (by assumption)];rfl,rfl⟩
 ·go_ret2;exact ⟨by rw [H2.out (by assumption)];rfl,rfl⟩
theorem fh_ (x lo hi:Int) (w:World) :
  Calls Tryz.prog 82 #[.int .i64 x,.int .i64 lo,.int .i64 hi] w fun e w'=>e=.returned (.bool (decide (lo≤x∧x≤hi)))∧w=w':=by
 by_cases h1:lo≤x
 ·by_cases h2:x≤hi
  ·go_enter Tryz.func82,Tryz.ntmps82
   go_wp2;go_ret;exact ⟨a1_ (by simp [h1,h2]),rfl⟩
  ·go_enter Tryz.func82,Tryz.ntmps82
   go_wp2;go_ret;exact ⟨a1_ (by simp [h1,h2]),rfl⟩
 ·go_enter Tryz.func82,Tryz.ntmps82
  go_wp2;go_ret;exact ⟨a1_ tq_,rfl⟩
theorem j9_ (n:Int) (w:World) (hn:InI n) :
  Calls Tryz.prog 122 #[.int .i64 n] w fun e w'=>e=.returned (.int .i64 (n / 1440))∧w=w':=by
 have H:=fun W=>u9_ n W hn;obtain ⟨k1,k2⟩:=hn;generalize n / 1440=q at *
 go_enter Tryz.func122,Tryz.ntmps122
 go_wp2_with (go_at_call 173;refine (H _).mono ?_;rintro e w1 ⟨rfl,rfl⟩)
 go_ret;exact ⟨rfl,rfl⟩
theorem qq_ (a1 a2 a3:Option Addr) (n1 c1 n2 c2 n3 c3:Nat) (len mi d:Int) (w:World) (h1:1≤len) (h2:len≤10080) (h3:-4320≤mi) (h4:mi≤4320) (hd:InI d) :
  Calls Tryz.prog 123 #[.agg #[.slice a1 n1 c1,.int .i64 len,.slice a2 n2 c2],.agg #[.slice a3 n3 c3,.int .i64 mi],.int .i64 d] w fun e w'=>e=.returned (.bool (decide (d*1440+mi+len≤2251799813685248)))∧Below w.heap.size w w':=by
 obtain ⟨k1,k2⟩:=hd;have e:decide (d*1440+mi+len≤2251799813685248)=decide (d≤(2251799813685248-mi-len) / 1440):=by
  rw [decide_eq_decide];omega
 rw [e];clear e;have g0:0≤2251799813685248-mi-len:=oq_
 go_enter Tryz.func123,Tryz.ntmps123
 go_wp2;go_ret;exact ⟨rfl,xE⟩
theorem h0_ (a1 a2 a3:Option Addr) (n1 c1 n2 c2 n3 c3:Nat) (len mi d:Int) (w:World) (h1:1≤len) (h2:len≤10080) (h3:-4320≤mi) (h4:mi≤4320) (h5:-4503599627370496≤d) (h6:d≤4503599627370496) :
  Calls Tryz.prog 77 #[.agg #[.slice a1 n1 c1,.int .i64 len,.slice a2 n2 c2],.agg #[.slice a3 n3 c3,.int .i64 mi],.int .i64 d] w fun e w'=>e=.returned (.agg #[.int .i64 d,.int .i64 (d*1440+mi),.int .i64 (d*1440+mi+len)])∧Below w.heap.size w w':=by
 go_enter Tryz.func77,Tryz.ntmps77
 go_wp2;exact bodyPost_ret (v:=.agg #[.int .i64 d,.int .i64 (d*1440+mi),.int .i64 (d*1440+mi+len)]) (by simp [results,Tryz.results77,go_sem]) rfl ⟨rfl,xE⟩
theorem hy_ (a b c d:Int) (w:World) :
  Calls Tryz.prog 78 #[.agg #[.int .i64 a,.int .i64 b],.agg #[.int .i64 c,.int .i64 d]] w fun e w'=>e=.returned (.bool (decide (ae_ a b c d)))∧Below w.heap.size w w':=by
 by_cases h1:a<d
 ·by_cases h2:c<b
  ·go_enter Tryz.func78,Tryz.ntmps78
   go_wp2;go_ret;exact ⟨a1_ (by simp [ae_,h1,h2]),xE⟩
  ·go_enter Tryz.func78,Tryz.ntmps78
   go_wp2;go_ret;exact ⟨a1_ (by simp [ae_,h1,h2]),xE⟩
 ·go_enter Tryz.func78,Tryz.ntmps78
  go_wp2;go_ret;exact ⟨a1_ (decide_eq_false (by unfold ae_;omega)).symm,xE⟩
def cmpI (x y:Int):Int:=if x<y then -1 else if y<x then 1 else 0
theorem i8_ (x:Int) (w:World) :
  Calls Tryz.prog 102 #[.int .i64 x] w fun e w'=>e=.returned (.bool false)∧w=w':=by
 go_enter Tryz.func102,Tryz.ntmps102
 go_wp2;go_ret;exact ⟨a1_ sq_,rfl⟩
theorem av_ (x y:Int) (w:World) :
  Calls Tryz.prog 59 #[.int .i64 x,.int .i64 y] w fun e w'=>e=.returned (.int .i64 (cmpI x y))∧w=w':=by
 by_cases h1:x<y
 ·have e:cmpI x y=-1:=by unfold cmpI;rw [if_pos h1]
  rw [e];clear e
  go_enter Tryz.func59,Tryz.ntmps59
  go_wp2_with (go_at_call 102;refine (i8_ _ _).mono ?_;rintro e w1 ⟨rfl,rfl⟩)
  go_ret;exact ⟨rfl,rfl⟩
 ·by_cases h2:y<x
  ·have e:cmpI x y=1:=by unfold cmpI;rw [if_neg h1,if_pos h2]
   rw [e];clear e
   go_enter Tryz.func59,Tryz.ntmps59
   go_wp2_with (go_at_call 102;refine (i8_ _ _).mono ?_;rintro e w1 ⟨rfl,rfl⟩)
   go_ret;exact ⟨rfl,rfl⟩
  ·have e:cmpI x y=0:=by unfold cmpI;rw [if_neg h1,if_neg h2]
   rw [e];clear e
   go_enter Tryz.func59,Tryz.ntmps59
   go_wp2_with (go_at_call 102;refine (i8_ _ _).mono ?_;rintro e w1 ⟨rfl,rfl⟩)
   go_ret;exact ⟨rfl,rfl⟩
def orI (x y z:Int):Int:=if x≠0 then x else if y≠0 then y else z
theorem ov_ (x y:Inst):orI (cmpI x.frm y.frm) (cmpI x.day y.day) (cmpI x.fin y.fin)=ordI x y:=by
 unfold orI cmpI ordI
 repeat' split
 all_goals omega
theorem sk_ (b c:Nat) (x y z:Int) (w:World) (hb:Bxx' w b #[.int .i64 x,.int .i64 y,.int .i64 z]) :
  Calls Tryz.prog 58 #[.slice (some ⟨b,0,none⟩) 3 c] w fun e w'=>e=.returned (.int .i64 (orI x y z))∧Below w.heap.size w w':=by
 have c0:w.cell? ⟨b,0,none⟩=some (.int .i64 x):=hb 0;have c1:w.cell? ⟨b,0+1,none⟩=some (.int .i64 y):=hb 1;have c2:w.cell? ⟨b,0+2,none⟩=some (.int .i64 z):=hb 2;clear hb
 go_enter Tryz.func58,Tryz.ntmps58
 go_wp2_with fail
 go_loopw [8] (fun i wr=>∃ k:Nat,k≤3∧i=.int .i64 k∧Hid ((0<k->x=0)∧(1<k->y=0)∧(2<k->z=0))∧Below w.heap.size w wr) (fun i _=>3-(intOf i).toNat)
 case atStart=>exact ⟨0,oq_,rfl,hq_ ⟨oq_,oq_,oq_⟩,xE⟩
 case round=>
  obtain ⟨k,hk,rfl,HK,hb⟩:=hrel;have c0:=Ext.cell hb c0;have c1:=Ext.cell hb c1;have c2:=Ext.cell hb c2;by_cases hlt:k<3
  ·have hlI:(k:Int)<3:=oq_;obtain ⟨u,hu,hcell⟩:∃ u,Hid ((k=0->u=x)∧(k=1->u=y)∧(k=2->u=z))∧wr.cell? ⟨b,0+k,none⟩=some (.int .i64 u):=by
    match k,hlt with
    | 0,_=>exact ⟨x,hq_ ⟨fun _=>rfl,oq_,oq_⟩,c0⟩
    | 1,_=>exact ⟨y,hq_ ⟨oq_,fun _=>rfl,oq_⟩,c1⟩
    | 2,_=>exact ⟨z,hq_ ⟨oq_,oq_,fun _=>rfl⟩,c2⟩
   simp only [Nat.zero_add] at hcell;clear c0 c1 c2;by_cases h0:u=0
   ·have e0:(u == 0)=true:=by simpa using h0
    have e1:(u != 0)=false:=by simp [h0]
    have H0:=hq_ h0;clear h0;go_wp2_with fail
    go_roundw
    case rel=>
     refine ⟨k+1,oq_,by go_num,hq_ ?_,xE⟩;obtain ⟨g1,g2,g3⟩:=hu.out;obtain ⟨f1,f2,f3⟩:=HK.out;have:=H0.out;refine ⟨fun h=>?_,fun h=>?_,fun h=>?_⟩
     ·by_cases e:k=0
      ·rw [<- g1 e];exact this
      ·exact f1 oq_
     ·by_cases e:k=1
      ·rw [<- g2 e];exact this
      ·exact f2 oq_
     ·by_cases e:k=2
      ·rw [<- g3 e];exact this
      ·exact f3 oq_
    case measure=>simp [intOf];omega
   ·have e0:(u == 0)=false:=by simpa using h0
    have e1:(u != 0)=true:=by simp [h0]
    have H0:=hq_ h0;clear h0;go_wp2_with fail
    go_ret;refine ⟨dw_ ?_,xE⟩;obtain ⟨g1,g2,g3⟩:=hu.out;obtain ⟨f1,f2,f3⟩:=HK.out;have h0:=H0.out;unfold orI
    match k,hlt with
    | 0,_=>rw [<- g1 rfl,if_pos h0]
    | 1,_=>rw [if_neg (by have:=f1 oq_;omega),<- g2 rfl,if_pos h0]
    | 2,_=>rw [if_neg (by have:=f1 oq_;omega),if_neg (by have:=f2 oq_;omega),g3 rfl]
  ·obtain rfl:k=3:=oq_;go_wp2_with fail
   go_ret;refine ⟨dw_ ?_,xE⟩;obtain ⟨f1,f2,f3⟩:=HK.out;unfold orI;rw [if_neg (by have:=f1 oq_;omega),if_neg (by have:=f2 oq_;omega),f3 oq_]
theorem h5_ (x y:Inst) (w:World) :
  Calls Tryz.prog 80 #[ival x,ival y] w fun e w'=>e=.returned (.int .i64 (ordI x y))∧Below w.heap.size w w':=by
 rw [<- ov_];obtain ⟨xd,xf,xt⟩:=x;obtain ⟨yd,yf,yt⟩:=y;have H1:=hq_ (fun W=>av_ xf yf W);have H2:=hq_ (fun W=>av_ xd yd W);have H3:=hq_ (fun W=>av_ xt yt W);have HO:=hq_ (fun b c p q r W h=>sk_ b c p q r W h);show Calls _ _ #[.agg #[.int .i64 xd,.int .i64 xf,.int .i64 xt],.agg #[.int .i64 yd,.int .i64 yf,.int .i64 yt]] _ fun e w'=>e=.returned (.int .i64 (orI (cmpI xf yf) (cmpI xd yd) (cmpI xt yt)))∧_;generalize cmpI xf yf=p at *;generalize cmpI xd yd=q at *;generalize cmpI xt yt=r at *
 go_enter Tryz.func80,Tryz.ntmps80
 go_upto_region 1 with (fail)
 generalize hW:(w.alloc _).alloc _=w2;have hE:Below w.heap.size w w2:=by rw [<- hW];exact xE
 have hbx:Bxx w2 w.heap.size #[.int .i64 xd,.int .i64 xf,.int .i64 xt] 77:=by rw [<- hW];exact (Bxx.at rfl).alloc _
 have hby:Bxx w2 (w.heap.size+1) #[.int .i64 yd,.int .i64 yf,.int .i64 yt] 77:=by rw [<- hW];exact Bxx.at sq_
 have x0:=(hbx.cells 0).1;have x1:=(hbx.cells 1).1;have x2:=(hbx.cells 2).1;have y0:=(hby.cells 0).1;have y1:=(hby.cells 1).1;have y2:=(hby.cells 2).1;have HE:=hq_ hE;clear hW hbx hby hE;refine a9_ (w0:=w2) [0,1,2,3,4,5,6,7,8,9,10,11,12,13,14,15,16,17,18] [19,20,21] [5,6,7,8,9,10,11,12,13,14,15,16,17,18,19,20,21,22,23] [.pointer (some ⟨w.heap.size,1,none⟩),.pointer (some ⟨w.heap.size,1,none⟩),.int .i64 xf,.pointer (some ⟨w.heap.size+1,1,none⟩),.pointer (some ⟨w.heap.size+1,1,none⟩),.int .i64 yf,.int .i64 p,.pointer (some ⟨w.heap.size,0,none⟩),.int .i64 xd,.pointer (some ⟨w.heap.size+1,0,none⟩),.int .i64 yd,.int .i64 q,.pointer (some ⟨w.heap.size,1,none⟩),.pointer (some ⟨w.heap.size,2,none⟩),.int .i64 xt,.pointer (some ⟨w.heap.size+1,1,none⟩),.pointer (some ⟨w.heap.size+1,2,none⟩),.int .i64 yt,.int .i64 r] [[],[0],[1],[],[3],[4],[2,5],[],[7],[],[9],[8,10],[],[12],[13],[],[15],[16],[14,17]] (.a x0 (.a x1 (.a x2 (.a y0 (.a y1 (.z y2)))))) ?steps ?fin
 case steps=>
  repeat' first|exact .n|refine .c ?_ ?_|fail
  all_goals try exact stp
  all_goals
   rintro v W hb ⟨g0,g1,g2,g3,g4,g5⟩;refine .inl ⟨rfl,fun K hK=>?_⟩;simp only [ov,vat,Nat.reduceBEq,cond_true,cond_false];go_wp2_with (first|(go_at_call 59;(with_reducible refine (H1.out _).mono ?_);rintro e w9 ⟨rfl,h9⟩;have hb9:Below W.heap.size W w9:=h9 ▸ Below.refl _ _;clear h9)|(go_at_call 59;(with_reducible refine (H2.out _).mono ?_);rintro e w9 ⟨rfl,h9⟩;have hb9:Below W.heap.size W w9:=h9 ▸ Below.refl _ _;clear h9)|(go_at_call 59;(with_reducible refine (H3.out _).mono ?_);rintro e w9 ⟨rfl,h9⟩;have hb9:Below W.heap.size W w9:=h9 ▸ Below.refl _ _;clear h9))
   exact acx (hK w9 hb9) (by simp [ov,vat])
 case fin=>
  rintro W2 hb2 g0;show wpList _ _ _ [_,_,_] _ _;simp only [vat];go_wp2_with (go_at_call 58;(refine (HO.out _ _ _ _ _ _ (fun i=>((Bxx.new _ _ _).cells i).1)).mono ?_);rintro e w5 ⟨rfl,hb5⟩)
  go_ret;exact ⟨rfl,Et HE.out xE⟩
end Go.Proofs.YtkclokcenllhmaaGreat
end
namespace Go
open Go.RowKit
variable {P:Program}
def SeqZ {α:Type} (P:Program) (g:Nat) (lb:Array Value) (encs:α->Array Value) (Kp:World->World->Prop) (x:Option Nat) (Ey:List α->α->World->Prop) (Fin:List α->Prop) (w:World):Prop:=
 ∀ (l:Nat) (J Jx:List α->World->Prop) (W:World),Below w.heap.size w W->jv_ x J->jv_ x Jx->
  (∀ pre y W1,J pre W1->Ey pre y W1->YieldAt Fence.wide 0 P l (encs y) W1 fun e W'=>
   (e=.returned (.bool true)∧J (pre ++ [y]) W'∧Kp W1 W')∨(e=.returned (.bool false)∧Jx (pre ++ [y]) W'))->
  J [] W->
  CallsIn Fence.wide 0 P g (#[.func (.yield l) #[] #[]] ++ lb) W fun e W'=>(∃ v,e=.returned v)∧((∃ xs,Fin xs∧J xs W')∨(∃ pre,Jx pre W'))
theorem bf_ {α:Type} {g:Operand} {ps:Array Tmp} {assign body:Code} {Q:Exit->Act->World->Prop} {a:Act} {w:World}
  {gf:Nat} {lb:Array Value} (hg:a.eval g=.func (.func gf) #[] lb) (eg:∀ args w,(callFunc gf args).run P w=.ok (.enter gf args) w)
  {encs:α->Array Value} {Kp:World->World->Prop} {x:Option Nat} {Ey:List α->α->World->Prop} {Fin:List α->Prop} (hseq:SeqZ P gf lb encs Kp x Ey Fin w)
  (hKt:∀ {A B C:World},Kp A B->Kp B C->Kp A C) (hKb:∀ (W:World) (l:Nat) (o o':Obj),w.heap.size≤l->W.heap[l]? = some o->o.isCells=false->Kp W (W.putObj l o')) (hKg:∀ (W W':World),w.heap.size≤W.heap.size->W.grownBy W' none->Kp W W') (hps:∀ y,(encs y).size=ps.size)
  (I:List α->World->Prop) (Ix:Code->List α->World->Prop) (hI:OwnX w.heap.size x I) (hIx:∀ c,OwnX w.heap.size x (Ix c))
  (hEy:∀ pre y (W:World) (l:Nat) (o o':Obj),W.heap[l]? = some o->o.isCells=false->Ey pre y W->Ey pre y (W.putObj l o')) (hEg:∀ pre y (W W':World),W.grownBy W' none->Ey pre y W->Ey pre y W') (h0:I [] w)
  (Ax:α->Act->World->Prop) (hAx:∀ y a' (W:World) (l:Nat) (o o':Obj),w.heap.size≤l->W.heap[l]? = some o->o.isCells=false->Ax y a' W->Ax y a' (W.putObj l o'))
  (hassign:∀ (l:Nat) (pre:List α) (y:α) (W:World) (K:Act->World->Prop),w.heap.size≤W.heap.size->I pre W->Ey pre y W->(∀ a' W',W.grownBy W' none->Ax y a' W'->K a' W')->
   assign.wpIn (Fence.wide.inRound l) 0 P (Exit.then K (fun _ _ _=>False)) { tmps:=(ps.zip (encs y)).foldl (fun t (p,v)=>t.setIfInBounds p v) a.tmps,defers:=[] } W)
  (hbody:∀ (l:Nat) (pre:List α) (y:α) (a':Act) (W:World),I pre W->Ey pre y W->Ax y a' W->body.wpIn (Fence.wide.inRound l) 0 P (ownPostG w.heap.size Kp I Ix (pre ++ [y]) W) a' W)
  (hdone:∀ (D:Nat) (xs:List α) (W:World),w.heap.size≤D->Fin xs->I xs W->W.heap[D]? = some (.deferred (some []))->Q .normal { a with defers:={ target:=.collected D,args:=#[] } :: a.defers } W)
  (hstop:∀ (D:Nat) (c:Code) (pre:List α) (W:World),w.heap.size≤D->Ix c pre W->W.heap[D]? = some (.deferred (some []))->c.wpIn Fence.wide 0 P Q { a with defers:={ target:=.collected D,args:=#[] } :: a.defers } W) :
  (Code.rangeFunc g ps assign body).wpIn Fence.wide 0 P Q a w:=by
 refine wpIn_rangeFunc ?_;intro fn hfn;obtain ⟨rec,hrec⟩:∃ rec:LoopState->Option Code->Loop,rec=fun st pe=>{ state:=st,pending:=pe,fn,tmps:=a.tmps,params:=ps,assign,body,defers:=w.heap.size }:=⟨_,rfl⟩;obtain ⟨W1,hW1⟩:∃ W1,(w.alloc (.deferred (some []))).alloc (.loop (rec .ready none))=W1:=⟨_,rfl⟩;have hL1:W1.heap[w.heap.size+1]? = some (.loop (rec .ready none)):=by
  rw [<- hW1];have:=World.alloc_heap_new (w.alloc (.deferred (some []))) (.loop (rec .ready none));rwa [World.size_alloc] at this
 have hK1:W1.heap[w.heap.size]? = some (.deferred (some [])):=by
  rw [<- hW1];exact (Below.heap_alloc _ _ _ sq_).trans (World.alloc_heap_new w _)
 have hI1:I [] W1:=by rw [<- hW1];exact hI.alloc _ (hI.alloc _ h0)
 have hb1:Below w.heap.size w W1:=by
  rw [<- hW1];exact (((Below.refl _ w).alloc (Nat.le_refl _) _).alloc sq_ _)
 refine ⟨w.heap.size+1,[{ target:=.collected w.heap.size,args:=#[] }],W1,{ target:=.fn (.func gf) lb,args:=#[.func (.yield (w.heap.size+1)) #[] #[]] },W1,gf,
  #[.func (.yield (w.heap.size+1)) #[] #[]] ++ lb,W1,?_,?_,?_,?_,(fun h=>by cases h),?_⟩
 ·rw [<- hW1,hrec];exact run_enterLoop_outer _ _ _ _ _
 ·simp only [resolve,hg];simp [go_sem]
 ·intro f' _;trivial
 ·simp [invoke,go_sem,eg]
 ·have hkeep:∀ {A B:World} {row:Option Nat} {l:Nat} {o:Obj},A.grownBy B row->(∀ r,row=some r->x=some r∧∃ o:Obj,A.heap[r]? = some o∧o.isCells=true)->A.heap[l]? = some o->o.isCells=false->B.heap[l]? = some o:=
   fun {A B row l o} hg' hr hl ho=>by
    refine (hg'.block l (Array.getElem?_eq_some_iff.1 hl).1 fun e=>?_).trans hl;obtain ⟨_,o2,ho2,hc⟩:=hr l e.symm;rw [hl] at ho2;cases ho2;rw [ho] at hc;cases hc
  refine (hseq (w.heap.size+1)
   (fun pre W=>I pre W∧W.heap[w.heap.size+1]? = some (.loop (rec .ready none))∧W.heap[w.heap.size]? = some (.deferred (some [])))
   (fun pre W=>∃ c,Ix c pre W∧W.heap[w.heap.size+1]? = some (.loop (rec .done (some c)))∧W.heap[w.heap.size]? = some (.deferred (some [])))
   W1 hb1
   (fun s A B row hs hg' hr=>⟨hI s A B row hs.1 hg' (fun r e=>.inl (hr r e)),hkeep hg' hr hs.2.1 rfl,hkeep hg' hr hs.2.2 rfl⟩)
   (fun s A B row hs hg' hr=>by
    obtain ⟨c,hc,hl,hk⟩:=hs;exact ⟨c,hIx c s A B row hc hg' (fun r e=>.inl (hr r e)),hkeep hg' hr hl rfl,hkeep hg' hr hk rfl⟩)
   ?_ ⟨hI1,hL1,hK1⟩).mono ?_
  ·rintro pre y W ⟨hi,hl,hk⟩ hlen;have hlt:w.heap.size+1<W.heap.size:=(Array.getElem?_eq_some_iff.1 hl).1;have hy:=run_yield (P:=P) (args:=encs y) hl (by rw [hrec];exact hps y);rw [hrec] at hy;refine ⟨fn,_,assign,body,hy,roundIn_of_wpIn hfn (hassign _ pre y W _ oq_ hi hlen ?_)⟩;clear hy;intro a' Wa hga hax;have hka:Kp W Wa:=hKg W Wa oq_ hga;have hia:=hI pre W Wa none hi hga (fun r e=>by cases e);have hela:=hEg pre y W Wa hga hlen;have hla:Wa.heap[w.heap.size+1]? = some (.loop (rec .ready none)):=(hga.block _ hlt sq_).trans hl;have hkka:Wa.heap[w.heap.size]? = some (.deferred (some [])):=(hga.block _ oq_ sq_).trans hk;have hlta:w.heap.size+1<Wa.heap.size:=(Array.getElem?_eq_some_iff.1 hla).1;clear hi hl hk hlen hlt;refine ⟨_,run_beginRound hla (by rw [hrec]),?_⟩;have hl2:(Wa.putObj (w.heap.size+1) (.loop { rec .ready none with state:=.busy })).heap[w.heap.size+1]? = some (.loop { rec .ready none with state:=.busy }):=World.putObj_heap_same hlta;have hk2:(Wa.putObj (w.heap.size+1) (.loop { rec .ready none with state:=.busy })).heap[w.heap.size]? = some (.deferred (some [])):=(World.putObj_heap_other oq_).trans hkka;have hw2:Kp W (Wa.putObj (w.heap.size+1) (.loop { rec .ready none with state:=.busy })):=hKt hka (hKb _ _ _ _ oq_ hla rfl);refine wpIn_mono (hbody _ pre y a' _ (hI.putObj _ hia oq_ hla rfl) (hEy _ _ _ _ _ _ hla rfl hela) (hAx _ _ _ _ _ _ oq_ hla rfl hax)) ?_;have fin:∀ (jump:Option Code) (W3:World),KeepsFrom w.heap.size (Wa.putObj (w.heap.size+1) (.loop { rec .ready none with state:=.busy })) W3->
     (Instr.endRound (w.heap.size+1) jump).run P W3=.ok (.bool jump.isNone) (W3.putObj (w.heap.size+1) (.loop (rec (if jump.isNone then .ready else .done) jump)))∧
     W3.heap[w.heap.size+1]? = some (.loop { rec .ready none with state:=.busy })∧
     (W3.putObj (w.heap.size+1) (.loop (rec (if jump.isNone then .ready else .done) jump))).heap[w.heap.size+1]? = some (.loop (rec (if jump.isNone then .ready else .done) jump))∧
     (W3.putObj (w.heap.size+1) (.loop (rec (if jump.isNone then .ready else .done) jump))).heap[w.heap.size]? = some (.deferred (some [])):=fun jump W3 hk3=>by
    have hl3:=hk3.same _ _ oq_ hl2 rfl;have:=run_endRound (P:=P) jump hl3;rw [hrec] at this ⊢;exact ⟨this,by rw [hrec] at hl3;exact hl3,World.putObj_heap_same (Array.getElem?_eq_some_iff.1 hl3).1,(World.putObj_heap_other oq_).trans (hk3.same _ _ (Nat.le_refl _) hk2 rfl)⟩
   rintro e a3 W3 hp;cases e with
   | normal=>
    obtain ⟨hk3,hkp3,hi3⟩:=hp;obtain ⟨hr,hl3,hl4,hk4⟩:=fin none W3 hk3;exact ⟨_,_,hr,.inl ⟨rfl,⟨hI.putObj _ hi3 oq_ hl3 rfl,hl4,hk4⟩,hKt (hKt hw2 hkp3) (hKb _ _ _ _ oq_ hl3 rfl)⟩⟩
   | ret=>
    obtain ⟨hk3,hi3⟩:=hp;obtain ⟨hr,hl3,hl4,hk4⟩:=fin (some .ret) W3 hk3;exact ⟨_,_,hr,.inr ⟨rfl,.ret,(hIx _).putObj _ hi3 oq_ hl3 rfl,hl4,hk4⟩⟩
   | exit id=>
    obtain ⟨hk3,hi3⟩:=hp;obtain ⟨hr,hl3,hl4,hk4⟩:=fin (some (.exit id)) W3 hk3;exact ⟨_,_,hr,.inr ⟨rfl,.exit id,(hIx _).putObj _ hi3 oq_ hl3 rfl,hl4,hk4⟩⟩
   | goto t=>
    obtain ⟨hk3,hi3⟩:=hp;obtain ⟨hr,hl3,hl4,hk4⟩:=fin (some (.goto t)) W3 hk3;exact ⟨_,_,hr,.inr ⟨rfl,.goto t,(hIx _).putObj _ hi3 oq_ hl3 rfl,hl4,hk4⟩⟩
   | panic ch=>exact hp.elim
   | outgrown=>exact hp.elim
  ·rintro e W2 ⟨⟨v,rfl⟩,(⟨xs,hS,hi,hl,hk⟩|⟨pre,c,hi,hl,hk⟩)⟩
   ·exact ⟨none,_,by have:=run_endLoop (P:=P) hl (by rw [hrec];simp);rw [hrec] at this;exact this,hdone _ xs _ (Nat.le_refl _) hS (hI.putObj _ hi oq_ hl rfl) ((World.putObj_heap_other oq_).trans hk)⟩
   ·exact ⟨some c,_,by have:=run_endLoop (P:=P) hl (by rw [hrec];simp);rw [hrec] at this;exact this,hstop _ c pre _ (Nat.le_refl _) ((hIx c).putObj _ hi oq_ hl rfl) ((World.putObj_heap_other oq_).trans hk)⟩
end Go
section
variable {F d f s x:Int}{m:List (List Kal.Per)}{l ml:List Int}{t:List Kal.Per}{B c i k n:Nat}{row:Option Nat}{cv v:Go.Value}{A C W W' w:Go.World}
namespace Go.Proofs.YtkclokcenllhmaaGreat
open Go.RowKit Go.Shelf Go.Maps Kal
attribute [local go_sem] Oper.semAt_some
theorem u3_ (a1 a2 a3:Option Addr) (n1 c1 n2 c2 n3 c3:Nat) (len mi a b:Int) (w:World) :
  Calls Tryz.prog 76 #[.agg #[.slice a1 n1 c1,.int .i64 len,.slice a2 n2 c2],.agg #[.slice a3 n3 c3,.int .i64 mi],.agg #[.int .i64 a,.int .i64 b]] w fun e w'=>
   e=.returned (.func (.func 127) #[] #[.pointer (some ⟨w.heap.size+2,0,none⟩),.pointer (some ⟨w.heap.size,0,none⟩),.pointer (some ⟨w.heap.size+1,0,none⟩)])∧
   w'=((w.alloc (.cells #[.slice a1 n1 c1,.int .i64 len,.slice a2 n2 c2] 55)).alloc (.cells #[.slice a3 n3 c3,.int .i64 mi] 130)).alloc (.cells #[.int .i64 a,.int .i64 b] 28):=by
 go_enter Tryz.func76,Tryz.ntmps76
 go_wp2;go_ret;exact ⟨rfl,rfl⟩
theorem us_ (s:Int) (F:Nat->Prop) (v:Value) (m:List (List Per)) (f d:Int) (ok:Bool) (w:World) (h1:MixR w F v m) (k1:MV s m) (hf:InI f) (h0:0≤f) (hN:ap_ FarI (mmem m) f d ok) :
  Calls Tryz.prog 128 #[.agg #[v],.int .i64 f] w fun e w'=>e=.returned (.tuple #[.int .i64 d,.bool ok])∧Below w.heap.size w w':=
 (se_ s F v m f w h1 k1 hf).mono fun e w' ⟨n,b,he,hn,hb⟩=>by
  rw [show max f 0=f by omega] at hn;obtain ⟨rfl,rfl⟩:=hn.unique hN;exact ⟨he,hb⟩
theorem MixR.kp {pb F:Nat->Prop} {B:World} (h:MixR A F v m) (hF:∀ k,F k->pb k) (hk:KpB pb A B):MixR B F v m:=h.keep2 (fun b hb _=>hk b (hF b hb))
structure e8_ (S:Int->Prop) (t:Int) (pre:List Int):Prop where
 en:ev_ S pre
 lt:∀ e∈pre,e<t
 all:∀ x,S x->x<t->x∈pre
theorem e8_.start {S:Int->Prop} {t:Int} (h:∀ x,S x->t≤x):e8_ S t []:=⟨ev_.nil,sq_,fun x hx hlt=>by have:=h x hx;omega⟩
theorem e8_.next {S:Int->Prop} {t:Int} {pre:List Int} (h:e8_ S t pre) (hd:S d) (ht:t≤d) (hn:∀ x,t≤x->x<d->¬ S x):e8_ S (d+1) (pre ++ [d]):=by
 refine ⟨h.en.snoc h.lt h.all ht hd hn,fun e he=>?_,fun x hx hlt=>?_⟩
 ·rcases List.mem_append.1 he with he|he
  ·have:=h.lt e he;omega
  ·obtain rfl:e=d:=by simpa using he
   omega
 ·by_cases h1:x<t
  ·exact List.mem_append_left _ (h.all x hx h1)
  ·rcases Int.lt_trichotomy x d with h2|h2|h2
   ·exact absurd hx (hn x oq_ h2)
   ·subst h2;simp
   ·omega
theorem e8_.done {S:Int->Prop} {t:Int} {pre:List Int} (h:e8_ S t pre) (hn:∀ x,t≤x->¬ S x):vq_ S pre:=
 ⟨h.en.rise,fun d=>⟨h.en.all d,fun hd=>by
  by_cases h1:d<t
  ·exact h.all d hd h1
  ·exact absurd hd (hn d oq_)⟩⟩
theorem u4_ (F pb:Nat->Prop) (a1 a2 a3:Option Addr) (n1 c1 n2 c2 c3 sb cb wb:Nat) (w:World) (s:Str) (c:Cls) (a b:Int)
  (hm:MixR w F (.slice a3 c.days.length c3) c.days) (km:MV 0 c.days) (hF:∀ k,F k->pb k) (hpb:∀ k,pb k->k<w.heap.size)
  (hs:Bxx w sb #[.slice a1 n1 c1,.int .i64 s.len,.slice a2 n2 c2] 55) (hc:Bxx w cb #[.slice a3 c.days.length c3,.int .i64 c.min] 130) (hw:Bxx w wb #[.int .i64 a,.int .i64 b] 28)
  (g1:pb sb) (g2:pb cb) (g3:pb wb) (hl1:1≤s.len) (hl2:s.len≤10080) (hm1:-4320≤c.min) (hm2:c.min≤4320) (ha1:-2251799813700000≤a) (ha2:a≤2251799813700000) (hb1:-2251799813700000≤b) (hb2:b≤2251799813700000) :
  SeqZ Tryz.prog 127 #[.pointer (some ⟨wb,0,none⟩),.pointer (some ⟨sb,0,none⟩),.pointer (some ⟨cb,0,none⟩)] (fun d:Int=>#[.int .i64 d]) (KpB pb) none (fun pre d _=>ev_ (DayS s c a b) (pre ++ [d])) (vq_ (DayS s c a b)) w:=by
 intro l' J Jx W hW hJ hJx hY hJ0;have hsW:Bxx W sb _ _:=hs.below hW;have hcW:Bxx W cb _ _:=hc.below hW;have hwW:Bxx W wb _ _:=hw.below hW;have hmW:MixR W F (.slice a3 c.days.length c3) c.days:=hm.ext hW;clear hs hc hw hm;have HPB:=hq_ (fun k (h:pb k)=>Nat.lt_of_lt_of_le (hpb k h) hW.size);have hne:∀ t∈c.days,t≠[]:=fun t ht=>(km.vt t ht).ne;have HJ:=hq_ hJ;have HY:=hq_ hY;have HM:=hq_ hmW;have HKM:=hq_ km;have HNE:=hq_ hne;have HF:=hq_ hF;have HS:=hq_ hsW;have HC:=hq_ hcW;have HW:=hq_ hwW;have s1:=(hsW.cells 1).1;have w0:=(hwW.cells 0).1;have m1:=(hcW.cells 1).1;obtain ⟨f0,hf0⟩:∃ f0,f0=max 0 ((a-s.len-c.min) / 1440+1):=⟨_,rfl⟩;have hfb:0≤f0∧f0≤4398046511104:=oq_;have HST:=hq_ (e8_.start (S:=DayS s c a b) (t:=f0) (fun x hx=>by
  have h0:=e0_ hne hx.1;have h1:=hx.2.2.1;rw [hf0];omega))
 have HF0:=hq_ hf0;have HFI:=hq_ (show InI (a-s.len-c.min) from ⟨oq_,oq_⟩);clear hJ hY hmW km hne hF hsW hcW hwW hJx hf0 hpb hW;obtain ⟨hf1,hf2⟩:=hfb;refine callsIn_of_wp Tryz.func127 rfl trivial ?_ rfl;simp only [Tryz.ntmps127,List.size_toArray,List.length_cons,List.length_nil,Nat.reduceAdd,Nat.reduceSub,Array.replicate_succ,Array.replicate_zero,List.push_toArray,List.append_toArray,List.nil_append,List.cons_append];gi_wp2_with (refine ⟨trivial,rfl,?_⟩;gi_at_call 122;refine (callsIn_wide.2 (j9_ _ _ HFI.out)).mono ?_;rintro e w' ⟨rfl,rfl⟩)
 rw [<- HF0.out];gi_loopw [5] (fun vf wr=>∃ (t:Int) (pre:List Int),vf=.int .i64 t∧0≤t∧t≤4398046511104∧f0≤t∧Hid (e8_ (DayS s c a b) t pre)∧J pre wr∧KpB pb W wr) (fun vf _=>(4398046511104-intOf vf).toNat)
 case atStart=>exact ⟨f0,[],rfl,hf1,hf2,Int.le_refl _,HST,hJ0,fun _ _=>rfl⟩
 case round=>
  obtain ⟨t,pre,rfl,ht1,ht2,ht3,HD,hJw,hK⟩:=hrel;have HK:=hq_ hK;have HPR:=hq_ (fun k (h:pb k)=>show k<wr.heap.size from by
   have h1:=hK k h;rw [Array.getElem?_eq_getElem (HPB.out k h)] at h1;exact (Array.getElem?_eq_some_iff.1 h1).1)
  have HJW:=hq_ hJw;have r0:=hK.cell (a:=⟨wb,0,none⟩) g3 w0;have r1:=hK.cell (a:=⟨wb,1,none⟩) g3 (HW.out.cells 1).1;have r2:=hK.cell (a:=⟨sb,0,none⟩) g1 (HS.out.cells 0).1;have r3:=hK.cell (a:=⟨sb,1,none⟩) g1 s1;have r4:=hK.cell (a:=⟨sb,2,none⟩) g1 (HS.out.cells 2).1;have r5:=hK.cell (a:=⟨cb,0,none⟩) g2 (HC.out.cells 0).1;have r6:=hK.cell (a:=⟨cb,1,none⟩) g2 m1;have hmr:=HM.out.kp HF.out hK;obtain ⟨d,ok,hN⟩:=ut_ FarI t (mmem c.days);have HNX:=hq_ (us_ 0 F _ _ t d ok wr hmr HKM.out ⟨oq_,oq_⟩ ht1 hN);have HN:=hq_ hN;clear hK hJw hmr hN s1 w0 m1;have hJE:=fun w1 (hb:Below wr.heap.size wr w1)=>HJ.out pre wr w1 none HJW.out (World.grownBy.of_below hb none) (fun r e=>by cases e);have HJE:=hq_ hJE;clear hJE;cases ok with
  | false=>
   have hno:∀ x,t≤x->¬ DayS s c a b x:=fun x hx hS=>by
    rcases HN.out with ⟨h,_⟩|⟨_,_,h⟩
    ·cases h
    ·have h1:=hS.2.1;unfold j5_ at h1;exact h x hx (by unfold FarI;omega) hS.1
   have HNO:=hq_ hno;clear hno;gi_wp2_with (first|(refine ⟨trivial,rfl,?_⟩;gi_at_call 128;refine (callsIn_wide.2 HNX.out).mono ?_;rintro e w1 ⟨rfl,hb1⟩;have HB1:=hq_ hb1;have q0:=Ext.cell hb1 r0;have q1:=Ext.cell hb1 r1;have q2:=Ext.cell hb1 r2;have q3:=Ext.cell hb1 r3;have q4:=Ext.cell hb1 r4;have q5:=Ext.cell hb1 r5;have q6:=Ext.cell hb1 r6;clear hb1)|(refine ⟨trivial,?_⟩;apply_assumption))
   refine ⟨fun _ h=>(by cases h),?_⟩
   apply_assumption
   gi_wp2_with fail
   refine bodyPost_ret (results_none rfl _ _ _) rfl ?_;exact ⟨⟨_,rfl⟩,.inl ⟨pre,HD.out.done HNO.out,HJE.out _ HB1.out⟩⟩
  | true=>
   have hn:=HN.out;rcases hn with ⟨_,hd1,hd2,hd3,hd4⟩|⟨h,_⟩
   rotate_left
   ·cases h
   have hd2':d≤1152921504606846976:=hd2;have HMM:=hq_ hd3;have HLO:=hq_ hd4;have hdI:InI d:=⟨oq_,oq_⟩;have hta:a<d*1440+c.min+s.len:=by have:=HF0.out;omega
   have HT0:=hq_ (fun W=>qq_ a1 a2 a3 n1 c1 n2 c2 c.days.length c3 s.len c.min d W hl1 hl2 hm1 hm2 hdI);clear hd2 hd3 hd4 hdI;by_cases hT:d*1440+c.min+s.len≤2251799813685248
   ·have HT:=HT0.out;rw [decide_eq_true hT] at HT;have HT:=hq_ HT;clear HT0;by_cases hB:d*1440+c.min<b
    ·have hS:DayS s c a b d:=⟨HMM.out,hT,hta,hB⟩;have hnx:=HD.out.next hS hd1 fun x h1 h2 h3=>HLO.out x h1 h2 h3.1;have HNX2:=hq_ hnx;have HEN:=hq_ hnx.en;clear hnx hS;gi_wp2_with (first|(refine ⟨trivial,rfl,?_⟩;gi_at_call 128;refine (callsIn_wide.2 HNX.out).mono ?_;rintro e w1 ⟨rfl,hb1⟩;have HB1:=hq_ hb1;have q0:=Ext.cell hb1 r0;have q1:=Ext.cell hb1 r1;have q2:=Ext.cell hb1 r2;have q3:=Ext.cell hb1 r3;have q4:=Ext.cell hb1 r4;have q5:=Ext.cell hb1 r5;have q6:=Ext.cell hb1 r6;clear hb1)|(refine ⟨trivial,rfl,?_⟩;gi_at_call 123;refine (callsIn_wide.2 (HT.out _)).mono ?_;rintro e w2 ⟨rfl,hb2⟩;have HB2:=hq_ (Et HB1.out hb2);have p0:=Ext.cell hb2 q0;have p1:=Ext.cell hb2 q1;have p2:=Ext.cell hb2 q2;have p3:=Ext.cell hb2 q3;have p4:=Ext.cell hb2 q4;have p5:=Ext.cell hb2 q5;have p6:=Ext.cell hb2 q6;have hJ2:=HJE.out w2 HB2.out;obtain ⟨fn,tmps,assign,body,hyy,hR⟩:=HY.out pre d w2 hJ2 HEN.out;have HR:=hq_ hR;clear hR hJ2;clear hb2))
     refine ⟨rfl,HR.out.mono ?_⟩;rintro e W' (⟨rfl,hJ',hk'⟩|⟨rfl,hJx'⟩)
     ·have HJ2:=hq_ hJ';have HK2:=hq_ hk';clear hJ' hk'
      gi_wp2
      go_roundw
      case rel=>exact ⟨d+1,pre ++ [d],rfl,oq_,oq_,oq_,HNX2,HJ2.out,(HK.out.trans (fun k h=>HB2.out.block k (HPR.out k h))).trans HK2.out⟩
      case measure=>simp [intOf];omega
     ·gi_wp2
      refine bodyPost_ret (results_none rfl _ _ _) rfl ?_;exact ⟨⟨_,rfl⟩,.inr ⟨_,hJx'⟩⟩
    ·have hno:∀ x,t≤x->¬ DayS s c a b x:=fun x hx hS=>by
      by_cases hxd:x<d
      ·exact HLO.out x hx hxd hS.1
      ·have:=hS.2.2.2;omega
     have HNO:=hq_ hno;clear hno;gi_wp2_with (first|(refine ⟨trivial,rfl,?_⟩;gi_at_call 128;refine (callsIn_wide.2 HNX.out).mono ?_;rintro e w1 ⟨rfl,hb1⟩;have HB1:=hq_ hb1;have q0:=Ext.cell hb1 r0;have q1:=Ext.cell hb1 r1;have q2:=Ext.cell hb1 r2;have q3:=Ext.cell hb1 r3;have q4:=Ext.cell hb1 r4;have q5:=Ext.cell hb1 r5;have q6:=Ext.cell hb1 r6;clear hb1)|(refine ⟨trivial,rfl,?_⟩;gi_at_call 123;refine (callsIn_wide.2 (HT.out _)).mono ?_;rintro e w2 ⟨rfl,hb2⟩;have HB2:=hq_ (Et HB1.out hb2);have p0:=Ext.cell hb2 q0;have p1:=Ext.cell hb2 q1;have p2:=Ext.cell hb2 q2;have p3:=Ext.cell hb2 q3;have p4:=Ext.cell hb2 q4;have p5:=Ext.cell hb2 q5;have p6:=Ext.cell hb2 q6;clear hb2)|(refine ⟨trivial,?_⟩;apply_assumption))
     refine ⟨fun _ h=>(by cases h),?_⟩
     apply_assumption
     gi_wp2_with fail
     refine bodyPost_ret (results_none rfl _ _ _) rfl ?_;exact ⟨⟨_,rfl⟩,.inl ⟨pre,HD.out.done HNO.out,HJE.out _ HB2.out⟩⟩
   ·have HT:=HT0.out;rw [decide_eq_false hT] at HT;have HT:=hq_ HT;have hno:∀ x,t≤x->¬ DayS s c a b x:=fun x hx hS=>by
     by_cases hxd:x<d
     ·exact HLO.out x hx hxd hS.1
     ·have h1:=hS.2.1;unfold j5_ at h1;omega
    have HNO:=hq_ hno;clear hno HT0;gi_wp2_with (first|(refine ⟨trivial,rfl,?_⟩;gi_at_call 128;refine (callsIn_wide.2 HNX.out).mono ?_;rintro e w1 ⟨rfl,hb1⟩;have HB1:=hq_ hb1;have q0:=Ext.cell hb1 r0;have q1:=Ext.cell hb1 r1;have q2:=Ext.cell hb1 r2;have q3:=Ext.cell hb1 r3;have q4:=Ext.cell hb1 r4;have q5:=Ext.cell hb1 r5;have q6:=Ext.cell hb1 r6;clear hb1)|(refine ⟨trivial,rfl,?_⟩;gi_at_call 123;refine (callsIn_wide.2 (HT.out _)).mono ?_;rintro e w2 ⟨rfl,hb2⟩;have HB2:=hq_ (Et HB1.out hb2);have p0:=Ext.cell hb2 q0;have p1:=Ext.cell hb2 q1;have p2:=Ext.cell hb2 q2;have p3:=Ext.cell hb2 q3;have p4:=Ext.cell hb2 q4;have p5:=Ext.cell hb2 q5;have p6:=Ext.cell hb2 q6;clear hb2)|(refine ⟨trivial,?_⟩;apply_assumption))
    refine ⟨fun _ h=>(by cases h),?_⟩
    apply_assumption
    gi_wp2_with fail
    refine bodyPost_ret (results_none rfl _ _ _) rfl ?_;exact ⟨⟨_,rfl⟩,.inl ⟨pre,HD.out.done HNO.out,HJE.out _ HB2.out⟩⟩
end Go.Proofs.YtkclokcenllhmaaGreat
namespace Go.Proofs.YtkclokcenllhmaaGreat
open Go.RowKit Go.Shelf Go.Maps Kal
attribute [local go_sem] Oper.semAt_some
structure KpO (pb:Nat->Prop) (n:Nat) (A B:World):Prop where
 pb:KpB pb A B
 own:∀ (k:Nat) (o:Obj),n≤k->A.heap[k]? = some o->o.isCells=true->B.heap[k]? = some o
 size:A.heap.size≤B.heap.size
theorem KpO.refl {pb:Nat->Prop}:KpO pb n A A:=⟨KpB.refl _ _,fun _ _ _ h _=>h,Nat.le_refl _⟩
theorem KpO.trans {pb:Nat->Prop} {B:World} (h:KpO pb n A B) (g:KpO pb n B C):KpO pb n A C:=⟨h.pb.trans g.pb,fun k o hk ho hc=>g.own k o hk (h.own k o hk ho hc) hc,Nat.le_trans h.size g.size⟩
theorem KpO.below {pb:Nat->Prop} {B:World} (h:Below A.heap.size A B) (hp:∀ k,pb k->k<A.heap.size):KpO pb n A B:=
 ⟨fun k hk=>h.block k (hp k hk),fun k o hk ho hc=>(h.block k (Array.getElem?_eq_some_iff.1 ho).1).trans ho,h.size⟩
theorem KpO.putObj {pb:Nat->Prop} (hpb:∀ k,pb k->k<n) (W:World) (l:Nat) (o o':Obj) (hl:n≤l) (ho:W.heap[l]? = some o) (hc:o.isCells=false):KpO pb n W (W.putObj l o'):=
 ⟨KpB.putObj hpb W l o o' hl ho hc,fun k o2 hk ho2 hc2=>by
  have hne:k≠l:=fun e=>by subst e;rw [ho] at ho2;cases ho2;rw [hc] at hc2;cases hc2
  exact (World.putObj_heap_other hne).trans ho2,by simp [World.putObj]⟩
theorem KpO.grown {pb:Nat->Prop} (hpb:∀ k,pb k->k<n) (W W':World) (hn:n≤W.heap.size) (hg:W.grownBy W' none):KpO pb n W W':=
 ⟨fun k hk=>hg.block k (by have:=hpb k hk;omega) sq_,fun k o hk ho hc=>(hg.block k (Array.getElem?_eq_some_iff.1 ho).1 sq_).trans ho,hg.size⟩
theorem KpO.box {pb:Nat->Prop} {b:Nat} {B:World} {c:Array Value} {t:TypeId} (h:KpO pb n A B) (hb:n≤b) (hx:Bxx A b c t):Bxx B b c t:=h.own b _ hb hx rfl
theorem KpO.boxP {pb:Nat->Prop} {b:Nat} {B:World} {c:Array Value} {t:TypeId} (h:KpO pb n A B) (hb:pb b) (hx:Bxx A b c t):Bxx B b c t:=(h.pb b hb).trans hx
theorem gf_ (a1 a2:Option Addr) (n1 c1 n2 c2:Nat) (len:Int) (x:Inst) (w:World) :
  Calls Tryz.prog 124 #[.agg #[.slice a1 n1 c1,.int .i64 len,.slice a2 n2 c2],ival x] w fun e w'=>
   e=.returned (.func (.func 174) #[] #[.pointer (some ⟨w.heap.size,0,none⟩),.pointer (some ⟨w.heap.size+1,0,none⟩)])∧
   w'=(w.alloc (.cells #[.slice a1 n1 c1,.int .i64 len,.slice a2 n2 c2] 55)).alloc (.cells #[.int .i64 x.day,.int .i64 x.frm,.int .i64 x.fin] 77):=by
 go_enter Tryz.func124,Tryz.ntmps124
 go_wp2;go_ret;exact ⟨rfl,rfl⟩
def ce_ (s:Str) (x y:Inst):Prop:=dc_ s y∧ae_ x.frm x.fin y.frm y.fin
structure b0_ (s:Str) (x:Inst) (k:Nat) (t:Int) (pre:List Inst):Prop where
 is:∀ y∈pre,ce_ s x y
 all:∀ j y,j<k->j<s.cls.length->OfC s (s.cls.getD j default) y->ae_ x.frm x.fin y.frm y.fin->y∈pre
 row:∀ y,OfC s (s.cls.getD k default) y->ae_ x.frm x.fin y.frm y.fin->y.day<t->y∈pre
theorem b0_.start {s:Str} {x:Inst} {t:Int} (ht:∀ y,OfC s (s.cls.getD 0 default) y->ae_ x.frm x.fin y.frm y.fin->t≤y.day):b0_ s x 0 t []:=
 ⟨sq_,fun j y h=>oq_,fun y h1 h2 h3=>by have:=ht y h1 h2;omega⟩
theorem b0_.skip {s:Str} {x:Inst} {t:Int} {pre:List Inst} (h:b0_ s x k t pre) (hn:¬ mmem (s.cls.getD k default).days t):b0_ s x k (t+1) pre:=
 ⟨h.is,h.all,fun y h1 h2 h3=>by
  by_cases e:y.day=t
  ·exact absurd (e ▸ h1.1) hn
  ·exact h.row y h1 h2 oq_⟩
theorem b0_.take {s:Str} {x:Inst} {t:Int} {pre:List Inst} (h:b0_ s x k t pre) (hk:k<s.cls.length) (hm:mmem (s.cls.getD k default).days t) (hc:ae_ x.frm x.fin (t*1440+(s.cls.getD k default).min) (t*1440+(s.cls.getD k default).min+s.len)) :
  ce_ s x (dk_ s (s.cls.getD k default) t)∧b0_ s x k (t+1) (pre ++ [dk_ s (s.cls.getD k default) t]):=by
 have h0:ce_ s x (dk_ s (s.cls.getD k default) t):=⟨⟨_,by rw [a6_ hk];exact List.getElem_mem hk,hm,rfl⟩,hc⟩;refine ⟨h0,fun y hy=>?_,fun j y h1 h2 h3 h4=>List.mem_append_left _ (h.all j y h1 h2 h3 h4),fun y h1 h2 h3=>?_⟩
 ·rcases List.mem_append.1 hy with hy|hy
  ·exact h.is y hy
  ·obtain rfl:y=_:=by simpa using hy
   exact h0
 ·by_cases e:y.day=t
  ·refine List.mem_append_right _ ?_;have:=h1.2;rw [e] at this;simp [this]
  ·exact List.mem_append_left _ (h.row y h1 h2 oq_)
theorem b0_.round {s:Str} {x:Inst} {t t':Int} {pre:List Inst} (h:b0_ s x k t pre) (hd:∀ y,OfC s (s.cls.getD k default) y->ae_ x.frm x.fin y.frm y.fin->y.day<t) (ht:∀ y,OfC s (s.cls.getD (k+1) default) y->ae_ x.frm x.fin y.frm y.fin->t'≤y.day):b0_ s x (k+1) t' pre:=
 ⟨h.is,fun j y h1 h2 h3 h4=>by
  by_cases e:j=k
  ·subst e;exact h.row y h3 h4 (hd y h3 h4)
  ·exact h.all j y oq_ h2 h3 h4,fun y h1 h2 h3=>by have:=ht y h1 h2;omega⟩
theorem b0_.done {s:Str} {x:Inst} {t:Int} {pre:List Inst} (h:b0_ s x s.cls.length t pre):∀ y,y∈pre↔ce_ s x y:=fun y=>by
 refine ⟨h.is y,fun ⟨⟨c,hc,ho⟩,hcl⟩=>?_⟩;obtain ⟨j,hj,rfl⟩:=b6_ (d:=default) hc;exact h.all j y hj hj ho hcl
theorem mc_ (h:MV s m) (n:Int):hasM m n=true↔mmem m n:=by
 have hv:=h.val;unfold hasM;rw [hv,Bool.true_and,List.any_eq_true];constructor
 ·rintro ⟨t,ht,h1⟩;exact ⟨t,ht,(ek_ fun p hp=>((h.vt t ht).fv p hp).validB).1 h1⟩
 ·rintro ⟨t,ht,h1⟩;exact ⟨t,ht,(ek_ fun p hp=>((h.vt t ht).fv p hp).validB).2 h1⟩
def lowS (s:Str) (x:Inst) (k:Nat):Int:=max 0 ((x.frm-s.len-(s.cls.getD k default).min) / 1440+1)
structure MStr (s:Str):Prop where
 val:bi_ ak_ s
 mv:∀ c∈s.cls,MV 0 c.days
theorem MStr.min {s:Str} (h:MStr s) {c:Cls} (hc:c∈s.cls):-4320≤c.min∧c.min≤4320:=(h.val.cl hc).2
theorem MStr.ne {s:Str} (h:MStr s) {c:Cls} (hc:c∈s.cls):∀ t∈c.days,t≠[]:=fun t ht=>((h.mv c hc).vt t ht).ne
theorem MStr.lows {s:Str} (h:MStr s) (x:Inst) (k:Nat):∀ y,OfC s (s.cls.getD k default) y->ae_ x.frm x.fin y.frm y.fin->lowS s x k≤y.day:=by
 intro y hy hc;by_cases hk:k<s.cls.length
 ·have h0:=e0_ (h.ne (c:=s.cls.getD k default) (by rw [a6_ hk];exact List.getElem_mem hk)) hy.1;have h1:=hc.1;rw [hy.2] at h1;have:x.frm<y.day*1440+(s.cls.getD k default).min+s.len:=h1;unfold lowS;omega
 ·have:s.cls.getD k default=default:=by rw [List.getD_eq_getElem?_getD,List.getElem?_eq_none oq_];rfl
  rw [this] at hy;exact absurd hy.1 mn_
theorem gg_ (F pb:Nat->Prop) (a1 a2:Option Addr) (c1 n2 c2 sb xb n:Nat) (L:List ClsV) (w:World) (s:Str) (x:Inst)
  (hS:StrL w F (.slice a1 L.length c1) (.slice a2 n2 c2) L s) (hv:MStr s) (hF:∀ k,F k->pb k) (hpb:∀ k,pb k->k<n) (hn:n≤w.heap.size)
  (hs:Bxx w sb #[.slice a1 L.length c1,.int .i64 s.len,.slice a2 n2 c2] 55) (hx:Bxx w xb #[.int .i64 x.day,.int .i64 x.frm,.int .i64 x.fin] 77)
  (g1:pb sb) (g2:pb xb) (ha1:-2251799813700000≤x.frm) (ha2:x.frm≤2251799813700000) (hb1:-2251799813700000≤x.fin) (hb2:x.fin≤2251799813700000) :
  SeqZ Tryz.prog 174 #[.pointer (some ⟨sb,0,none⟩),.pointer (some ⟨xb,0,none⟩)] (fun y:Inst=>#[ival y]) (KpO pb n) none (fun pre y _=>ce_ s x y∧∀ z∈pre,ce_ s x z) (fun xs=>∀ y,y∈xs↔ce_ s x y) w:=by
 intro l' J Jx W hW hJ hJx hY hJ0;have hl1:=hv.val.len.1;have hl2:=hv.val.len.2;have hSW:=hS.below hW;have hsW:Bxx W sb _ _:=hs.below hW;have hxW:Bxx W xb _ _:=hx.below hW;have hnW:n≤W.heap.size:=Nat.le_trans hn hW.size;have hlen:s.cls.length=L.length:=by rw [<- hS.eq];exact List.length_map _
 have hll:=hS.cl.len;have HJ:=hq_ hJ;have HY:=hq_ hY;have HST:=hq_ hSW;have HV:=hq_ hv;have HF:=hq_ hF;have HPB:=hq_ hpb;have HS:=hq_ hsW;have HX:=hq_ hxW;have HLN:=hq_ hlen;have HLOW:=hq_ (hv.lows x);have s0:=(hsW.cells 0).1;have HKS:=hq_ (b0_.start (s:=s) (x:=x) (hv.lows x 0));clear hJ hY hJx hS hSW hv hF hpb hs hx hsW hxW hlen hW hn;refine callsIn_of_wp Tryz.func174 rfl trivial ?_ rfl;simp only [Tryz.ntmps174,List.size_toArray,List.length_cons,List.length_nil,Nat.reduceAdd,Nat.reduceSub,Array.replicate_succ,Array.replicate_zero,List.push_toArray,List.append_toArray,List.nil_append,List.cons_append];gi_wp2_with fail
 clear s0;gi_loopw [5,6,10] (fun _ _ vi wr=>∃ (k:Nat) (pre:List Inst),k≤L.length∧vi=.int .i64 k∧Hid (b0_ s x k (lowS s x k) pre)∧J pre wr∧KpO pb n W wr) (fun _ _ vi _=>L.length-(intOf vi).toNat)
 case atStart=>exact ⟨0,[],oq_,rfl,HKS,hJ0,KpO.refl⟩
 case round=>
  obtain ⟨k,pre,hk,rfl,HK,hJw,hKO⟩:=hrel;have HKO:=hq_ hKO;have HJW:=hq_ hJw;by_cases hlt:k<L.length
  ·have hlI:(k:Int)<L.length:=oq_;obtain ⟨b,o,a3,c3,m,mi,rfl,hbb,e0,e1,hm,him,hcl⟩:=(HST.out.cl.keep2 (W':=wr) (fun b hb _=>hKO.pb b (HF.out b hb))).get hlt;rw [HST.out.eq] at hcl;have hcm:(⟨m,mi⟩:Cls)∈s.cls:=by rw [<- hcl,a6_ (by rw [HLN.out];exact hlt)];exact List.getElem_mem _
   obtain ⟨hmi1,hmi2⟩:-4320≤mi∧mi≤4320:=HV.out.min hcm;have HMV:=hq_ (HV.out.mv _ hcm);have HCL:=hq_ hcl;have HLK:=hq_ (show lowS s x k=max 0 ((x.frm-s.len-mi) / 1440+1) by unfold lowS;rw [hcl]);have HFI:=hq_ (show InI (x.frm-s.len-mi) from ⟨oq_,oq_⟩);have HM:=hq_ hm;have r1:=(hKO.boxP g1 HS.out).cells 1;have r2:=(hKO.boxP g2 HX.out).cells 1;have r1:=r1.1;have r2:=r2.1;have r1:=a2_ r1 (.cells #[.slice a3 m.length c3,.int .i64 mi] 130);have r2:=a2_ r2 (.cells #[.slice a3 m.length c3,.int .i64 mi] 130);have hnr:n≤wr.heap.size:=Nat.le_trans hnW hKO.size;clear hm hcm hcl him hKO hJw;gi_wp2_with (refine ⟨trivial,rfl,?_⟩;gi_at_call 122;refine (callsIn_wide.2 (j9_ _ _ HFI.out)).mono ?_;rintro e w' ⟨rfl,rfl⟩)
   rw [<- HLK.out];obtain ⟨t0,ht0⟩:∃ t0,t0=lowS s x k:=⟨_,rfl⟩;have htb:0≤t0∧t0≤4398046511104:=by rw [ht0,HLK.out];omega
   rw [<- ht0] at HK ⊢;have HT0:=hq_ (ht0.trans HLK.out);obtain ⟨htb1,htb2⟩:=htb;have hJ1:=HJ.out pre wr (wr.alloc (.cells #[.slice a3 m.length c3,.int .i64 mi] 130)) none HJW.out (World.grownBy_alloc _ _ _) (fun r e=>by cases e);have hbx:Bxx (wr.alloc (.cells #[.slice a3 m.length c3,.int .i64 mi] 130)) wr.heap.size #[.slice a3 m.length c3,.int .i64 mi] 130:=Bxx.at rfl;have HBX:=hq_ hbx;have HKA:Hid (KpO pb n W (wr.alloc (.cells #[.slice a3 m.length c3,.int .i64 mi] 130))):=hq_ (HKO.out.trans (KpO.below (Ea (Er wr) _) (fun k hk=>by have:=HPB.out k hk;omega)));have HMW:=hq_ (fun (W':World) (h:KpB pb wr W')=>HM.out.kp HF.out h);clear hbx e0 e1 r1 r2 ht0;obtain ⟨wo,rfl⟩:∃ wo:World,wo=wr:=⟨_,rfl⟩;gi_loopw [6] (fun vt wr=>∃ (t:Int) (pre:List Inst),vt=.int .i64 t∧t0≤t∧t≤4398046511104∧Hid (b0_ s x k t pre)∧J pre wr∧Hid (KpO pb n wo wr)∧Hid (Bxx wr wo.heap.size #[.slice a3 m.length c3,.int .i64 mi] 130)) (fun vt _=>(4398046511104-intOf vt).toNat)
   case atStart=>exact ⟨t0,pre,rfl,Int.le_refl _,htb2,HK,hJ1,hq_ (KpO.below (Ea (Er wo) _) (fun k hk=>by have:=HPB.out k hk;omega)),HBX⟩
   case round=>
    obtain ⟨t,pre,rfl,ht1,ht2,HK2,hJw,HKB,HB⟩:=hrel;have HKB2:=HKB;have HJW2:=hq_ hJw;have hKO3:=HKB.out;have p0:=((hKO3.boxP g1 (HKO.out.boxP g1 HS.out)).cells 0).1;have p1:=((hKO3.boxP g1 (HKO.out.boxP g1 HS.out)).cells 1).1;have p2:=((hKO3.boxP g1 (HKO.out.boxP g1 HS.out)).cells 2).1;have p3:=((hKO3.boxP g2 (HKO.out.boxP g2 HX.out)).cells 0).1;have p4:=((hKO3.boxP g2 (HKO.out.boxP g2 HX.out)).cells 1).1;have p5:=((hKO3.boxP g2 (HKO.out.boxP g2 HX.out)).cells 2).1;have p6:=(HB.out.cells 0).1;have p7:=(HB.out.cells 1).1;have hmr:=HMW.out wr hKO3.pb;have HPR:=hq_ (fun k (h:pb k)=>show k<wr.heap.size from by have:=HPB.out k h;have:=hKO3.size;omega);have hJE:=fun w1 (hb:Below wr.heap.size wr w1)=>HJ.out pre wr w1 none HJW2.out (World.grownBy.of_below hb none) (fun r e=>by cases e);have HJE:=hq_ hJE;clear hJE hKO3 hJw HKB;by_cases hf:t*1440+mi<x.fin
    ·have hH:=uq_ F (.slice a3 m.length c3) m t wr hmr ⟨oq_,oq_⟩;have hin:hasM m t=true↔mmem m t:=mc_ HMV.out t;obtain ⟨bh,hbh⟩:∃ bh,hasM m t=bh:=⟨_,rfl⟩;rw [hbh] at hH hin;have HH:=hq_ hH;have HIN2:=hq_ hin;clear hH hin hbh hmr;cases bh
     ·have hsk:=HK2.out.skip (by rw [HCL.out];exact fun h=>absurd (HIN2.out.2 h) dq_);have HSK:=hq_ hsk;clear hsk;gi_wp2_with (first|(refine ⟨trivial,rfl,?_⟩;gi_at_call 175;refine (callsIn_wide.2 HH.out).mono ?_;rintro e w1 ⟨rfl,hb1⟩;have HB1:=hq_ hb1;have q0:=Ext.cell hb1 p0;have q1:=Ext.cell hb1 p1;have q2:=Ext.cell hb1 p2;have q3:=Ext.cell hb1 p3;have q4:=Ext.cell hb1 p4;have q5:=Ext.cell hb1 p5;have q6:=Ext.cell hb1 p6;have q7:=Ext.cell hb1 p7;clear hb1)|(refine ⟨trivial,?_⟩;apply_assumption))
      refine ⟨fun _ h=>(by cases h),?_⟩
      apply_assumption
      gi_wp2_with fail
      go_roundw
      case rel=>exact ⟨t+1,pre,rfl,oq_,oq_,HSK,HJE.out _ HB1.out,hq_ (HKB2.out.trans (KpO.below HB1.out HPR.out)),hq_ (HB.out.below HB1.out)⟩
      case measure=>simp [intOf];omega
     ·have htk:=HK2.out.take (by rw [HLN.out];exact hlt) (by rw [HCL.out];exact HIN2.out.1 rfl) (by rw [HCL.out];exact ⟨by have:=HT0.out;show x.frm<t*1440+mi+s.len;omega,hf⟩);rw [HCL.out] at htk;have HTK:=hq_ htk;have HIN:=hq_ (fun W=>h0_ (some ⟨b,o,none⟩) a2 a3 L.length c1 n2 c2 m.length c3 s.len mi t W hl1 hl2 hmi1 hmi2 oq_ oq_);clear htk;gi_wp2_with (first|(refine ⟨trivial,rfl,?_⟩;gi_at_call 175;refine (callsIn_wide.2 HH.out).mono ?_;rintro e w1 ⟨rfl,hb1⟩;have HB1:=hq_ hb1;have q0:=Ext.cell hb1 p0;have q1:=Ext.cell hb1 p1;have q2:=Ext.cell hb1 p2;have q3:=Ext.cell hb1 p3;have q4:=Ext.cell hb1 p4;have q5:=Ext.cell hb1 p5;have q6:=Ext.cell hb1 p6;have q7:=Ext.cell hb1 p7;clear hb1)|(refine ⟨trivial,rfl,?_⟩;gi_at_call 77;refine (callsIn_wide.2 (HIN.out _)).mono ?_;rintro e w2 ⟨rfl,hb2⟩;have HB2:=hq_ (Et HB1.out hb2);have hJ2:=HJE.out w2 HB2.out;obtain ⟨fn,tmps,assign,body,hyy,hR⟩:=HY.out pre (dk_ s ⟨m,mi⟩ t) w2 hJ2 ⟨HTK.out.1,HK2.out.is⟩;have HR:=hq_ hR;unfold dk_ at hyy;clear hb2 hJ2 hR))
      refine ⟨rfl,HR.out.mono ?_⟩;rintro e W' (⟨rfl,hJ',hk'⟩|⟨rfl,hJx'⟩)
      ·have HJ2:=hq_ hJ';have HK3:=hq_ hk';clear hJ' hk'
       gi_wp2
       go_roundw
       case rel=>exact ⟨t+1,pre ++ [dk_ s ⟨m,mi⟩ t],rfl,oq_,oq_,hq_ HTK.out.2,HJ2.out,hq_ ((HKB2.out.trans (KpO.below HB2.out HPR.out)).trans HK3.out),hq_ (HK3.out.box hnr (HB.out.below HB2.out))⟩
       case measure=>simp [intOf];omega
      ·gi_wp2
       refine bodyPost_ret (results_none rfl _ _ _) rfl ?_;exact ⟨⟨_,rfl⟩,.inr ⟨_,hJx'⟩⟩
    ·have hrd:=HK2.out.round (t':=lowS s x (k+1)) (fun y hy hc=>by
      rw [HCL.out] at hy;have h1:=hc.2;rw [hy.2] at h1;have:y.day*1440+mi<x.fin:=h1;omega) (HLOW.out (k+1))
     have HRD:=hq_ hrd;clear hrd hmr;gi_wp2_with fail
     go_roundw
     case rel=>exact ⟨k+1,pre,oq_,by go_num,HRD,HJW2.out,HKO.out.trans HKB2.out⟩
     case measure=>simp [intOf];omega
  ·obtain rfl:k=L.length:=oq_;have hd:=HK.out;have hkI:¬ (L.length:Int)<L.length:=oq_;gi_wp2_with fail
   refine bodyPost_end (results_none rfl _ _ _) rfl ?_;refine ⟨⟨_,rfl⟩,.inl ⟨pre,?_,HJW.out⟩⟩;rw [<- HLN.out] at hd;exact hd.done
end Go.Proofs.YtkclokcenllhmaaGreat
namespace Go.Proofs.YtkclokcenllhmaaGreat
open Go.RowKit Go.Maps Kal
def lenF (x:Int):Int:=([30,60,90,600,1440,1500,3000,10080]:List Int).getD (x % 8).toNat 0
def minF (ml:List Int):Nat->Int
 | 0=>-1500
 | k+1=>minF ml k+1+15*ml.getD k 0
def clsF (ll:List (List Int)) (ml:List Int):Nat->List Cls
 | 0=>[]
 | k+1=>clsF ll ml k ++ if minF ml (k+1)≤4320 then [⟨dy_ ((ll.drop k).take 2),minF ml (k+1)⟩] else []
def extI (x:Int):Inst:=⟨x % 7,15*(x % 5760)-2880,15*(x % 5760)-2880+15*(1+x / 5760*7)⟩
def extF (el:List Int):List Inst:=el.foldl (fun a x=>insI a (extI x)) []
def jh_ (ll:List (List Int)) (ml:List Int) (x:Int) (el:List Int):Str:=⟨clsF ll ml (min 3 (min ml.length ll.length)),lenF x,extF (el.take 4)⟩
theorem s9_ (x:Int):30≤lenF x∧lenF x≤10080:=by
 have h:(x % 8).toNat<8:=oq_;unfold lenF;generalize (x % 8).toNat=k at *
 match k,h with
 | 0,_=>decide
 | 1,_=>decide
 | 2,_=>decide
 | 3,_=>decide
 | 4,_=>decide
 | 5,_=>decide
 | 6,_=>decide
 | 7,_=>decide
theorem mm_ (h:∀ x∈ml,0≤x∧x≤255):∀ k:Nat,-1500≤minF ml k∧minF ml k≤-1500+3826*k∧minF ml k<minF ml (k+1):=by
 have e:∀ k,0≤ml.getD k 0∧ml.getD k 0≤255:=fun k=>by
  by_cases hk:k<ml.length
  ·exact h _ (ac_ (d:=0) hk)
  ·rw [List.getD_eq_getElem?_getD,List.getElem?_eq_none oq_];decide
 intro k;induction k with
 | zero=>have:=e 0;refine ⟨Int.le_refl _,by show (-1500:Int)≤-1500+3826*((0:Nat):Int);omega,?_⟩;show minF ml 0<minF ml 0+1+15*ml.getD 0 0;omega
 | succ k ih=>
  have h1:=e k;have h2:=e (k+1);have e1:minF ml (k+1)=minF ml k+1+15*ml.getD k 0:=rfl;have e2:minF ml (k+1+1)=minF ml (k+1)+1+15*ml.getD (k+1) 0:=rfl;refine ⟨oq_,oq_,oq_⟩
theorem u0_ (ll:List (List Int)) (ml:List Int):∀ k,(clsF ll ml k).length≤k:=by
 intro k;induction k with
 | zero=>exact Nat.le_refl _
 | succ k ih=>
  unfold clsF;rw [List.length_append]
  split
  ·rw [List.length_singleton];omega
  ·rw [List.length_nil];omega
theorem we_ {ll:List (List Int)}:∀ k,∀ c∈clsF ll ml k,MV 0 c.days:=by
 intro k;induction k with
 | zero=>intro c hc;simp [clsF] at hc
 | succ k ih=>
  intro c hc;unfold clsF at hc;rcases List.mem_append.1 hc with hc|hc
  ·exact ih c hc
  ·split at hc
   ·rw [List.mem_singleton] at hc;subst hc;exact (g6_ _).mv
   ·simp at hc
theorem tz_ {ll:List (List Int)} (h:∀ x∈ml,0≤x∧x≤255):∀ k,AscC ak_ (clsF ll ml k) (minF ml k):=by
 intro k;induction k with
 | zero=>exact AscC.nil
 | succ k ih=>
  have h1:=mm_ h k;have h2:=mm_ h (k+1);unfold clsF
  split
  ·rename_i h3;exact ih.snoc h1.2.2 ((g6_ _).mv.val) oq_ h3
  ·rw [List.append_nil];exact ih.le oq_
theorem rm_ (h:0≤x∧x≤65535):br_ (extI x)∧-10000≤(extI x).frm:=by
 unfold br_ extI;simp only;omega
theorem rk_ {el:List Int} (h:∀ x∈el,0≤x∧x≤65535):AscI (extF el)∧(extF el).length≤el.length∧∀ y∈extF el,br_ y∧-10000≤y.frm:=by
 have key:∀ (l:List Int) (a:List Inst),(∀ x∈l,0≤x∧x≤65535)->AscI a->(∀ y∈a,br_ y∧-10000≤y.frm)->AscI (l.foldl (fun a x=>insI a (extI x)) a)∧(l.foldl (fun a x=>insI a (extI x)) a).length≤a.length+l.length∧∀ y∈l.foldl (fun a x=>insI a (extI x)) a,br_ y∧-10000≤y.frm:=by
  intro l;induction l with
  | nil=>exact fun a _ h2 h3=>⟨h2,sq_,h3⟩
  | cons x l ih=>
   intro a h1 h2 h3;obtain ⟨k1,k2,k3⟩:=ih (insI a (extI x)) (fun y hy=>h1 y (List.mem_cons_of_mem _ hy)) (ij_ h2) (fun y hy=>by
    rcases ik_.1 hy with rfl|hy
    ·exact rm_ (h1 x sq_)
    ·exact h3 y hy)
   have:=g0_ (l:=a) (x:=extI x);exact ⟨k1,by rw [List.foldl_cons,List.length_cons];omega,k3⟩
 have:=key el [] h .nil sq_;simpa [extF] using this
theorem rl_ (el:List Int) (x:Int):extF (el ++ [x])=insI (extF el) (extI x):=by unfold extF;rw [List.foldl_append];rfl
structure hf_ (s:Str):Prop where
 ms:MStr s
 near:∀ x∈s.ext,-10000≤x.frm
 ncls:s.cls.length≤3
 next:s.ext.length≤4
theorem q6_ {ll:List (List Int)} {el:List Int} (hm:∀ y∈ml,0≤y∧y≤255) (he:∀ y∈el,0≤y∧y≤65535):hf_ (jh_ ll ml x el):=by
 have hl:=s9_ x;obtain ⟨g1,g2,g3⟩:=rk_ (el:=el.take 4) fun y hy=>he y (List.mem_of_mem_take hy);have g4:(extF (el.take 4)).length≤4:=by rw [List.length_take] at g2;omega
 have hk:=u0_ ll ml (min 3 (min ml.length ll.length));refine ⟨⟨⟨?_,?_,?_,?_,?_⟩,we_ _⟩,fun y hy=>(g3 y hy).2,?_,g4⟩
 ·show (clsF ll ml _).length≤64;omega
 ·show 1≤lenF x∧lenF x≤10080;omega
 ·show (extF (el.take 4)).length≤4096;omega
 ·exact (tz_ hm _).good
 ·exact g1.good fun y hy=>(g3 y hy).1
 ·show (clsF ll ml _).length≤3;omega
structure RwV where
 mt:Int
 rk:Int
 fm:Bool
 s:RawV
instance:Inhabited RwV:=⟨⟨0,0,false,default⟩⟩
def RwV.enc (x:RwV):List Value:=[.int .u8 x.mt,.int .u8 x.rk,.bool x.fm,x.s.dv,x.s.mv,.int .u8 x.s.ln,x.s.ev]
theorem RwV.enc_len (x:RwV):x.enc.length=7:=rfl
abbrev RwV.val (x:RwV):Value:=.agg #[.int .u8 x.mt,.int .u8 x.rk,.bool x.fm,x.s.dv,x.s.mv,.int .u8 x.s.ln,x.s.ev]
structure RwOk (w:World) (x:RwV):Prop where
 s:j2_ w x.s
 m0:0≤x.mt
 m1:x.mt≤255
 r0:0≤x.rk
 r1:x.rk≤255
theorem RwOk.below {x:RwV} (h:RwOk w x) (hb:Below w.heap.size w W):RwOk W x:=⟨h.s.below hb,h.m0,h.m1,h.r0,h.r1⟩
structure RwsR (w:World) (v:Value) (L:List RwV):Prop where
 row:RowR w (fun _=>True) v L.length (L.flatMap RwV.enc)
 all:∀ x∈L,RwOk w x
theorem RwsR.below {L:List RwV} (h:RwsR w v L) (hb:Below w.heap.size w W):RwsR W v L:=⟨h.row.keep (a3_.below hb) hb.size,fun x hx=>(h.all x hx).below hb⟩
theorem RwsR.get {a:Option Addr} {L:List RwV} (h:RwsR w (.slice a n c) L) (hk:k<L.length) :
  ∃ b o x,a=some ⟨b,o,none⟩∧b<w.heap.size∧x=L.getD k default∧RwOk w x∧w.cell? ⟨b,o+k*7,none⟩=some (.int .u8 x.mt)∧w.cell? ⟨b,o+k*7+1,none⟩=some (.int .u8 x.rk)∧w.cell? ⟨b,o+k*7+2,none⟩=some (.bool x.fm)∧w.cell? ⟨b,o+k*7+3,none⟩=some x.s.dv∧w.cell? ⟨b,o+k*7+4,none⟩=some x.s.mv∧w.cell? ⟨b,o+k*7+5,none⟩=some (.int .u8 x.s.ln)∧w.cell? ⟨b,o+k*7+6,none⟩=some x.s.ev:=by
 obtain ⟨a',c',he,h1,h2,h3⟩:=h.row.is;injection he with e1 _ e2
 subst e1;subst e2;rcases h3 with h3|⟨b,o,rfl,hF,hl,hc⟩
 ·omega
 ·have hx:=h.all _ (ac_ (d:=default) hk);exact ⟨b,o,L.getD k default,rfl,hl,rfl,hx,hc (k*7+0) _ (a7_ RwV.enc_len default hk rfl),hc (k*7+1) _ (a7_ RwV.enc_len default hk rfl),hc (k*7+2) _ (a7_ RwV.enc_len default hk rfl),hc (k*7+3) _ (a7_ RwV.enc_len default hk rfl),hc (k*7+4) _ (a7_ RwV.enc_len default hk rfl),hc (k*7+5) _ (a7_ RwV.enc_len default hk rfl),hc (k*7+6) _ (a7_ RwV.enc_len default hk rfl)⟩
end Go.Proofs.YtkclokcenllhmaaGreat
end
namespace Go.Proofs.YtkclokcenllhmaaGreat
open Go.ChangeShapes Go.WideShapes Go.ChangeAt Go.RowKit Go.Joins Kal
theorem fq_ {b o n:Nat}:((⟨b,o,none⟩:Addr).add n)=⟨b,o+n,none⟩:=by
 rcases Nat.eq_zero_or_pos n with h|h
 ·subst h;simp [Addr.add]
 ·simp [Addr.add];omega
theorem x0_ {α:Type} [Inhabited α] {w:World} {f:α->List Value} {n:Nat} (hf:∀ x,(f x).length=n) (hn:0<n) {a:Addr} {len cap:Nat} (hl:len≤cap) (hm:cap≤9223372036854775807) {P:α->Prop}
  (each:∀ i,i<len->∃ x,P x∧∀ j u,(f x)[j]? = some u->w.cell? ((a.add (i*n)).add j)=some u):∃ L:List α,RowR w (fun _=>True) (.slice (some a) len cap) L.length (L.flatMap f)∧L.length=len∧∀ x∈L,P x:=by
 have hch:∃ X:Nat->α,∀ i,i<len->P (X i)∧∀ j u,(f (X i))[j]? = some u->w.cell? ((a.add (i*n)).add j)=some u:=by
  refine ⟨fun i=>if hi:i<len then (each i hi).choose else default,fun i hi=>?_⟩;simp only [dif_pos hi];exact (each i hi).choose_spec
 obtain ⟨X,hX⟩:=hch;have hlenX:((List.range len).map X).length=len:=by simp
 refine ⟨(List.range len).map X,⟨some a,cap,by rw [hlenX],by rw [hlenX];exact hl,hm,?_⟩,hlenX,fun x hx'=>?_⟩
 ·rw [hlenX];by_cases h0:len=0
  ·exact .inl h0
  ·refine .inr ?_;obtain ⟨b,off,spot⟩:=a;have h00:(f (X 0))[0]? = some ((f (X 0))[0]'(by rw [hf];exact hn)):=List.getElem?_eq_getElem _;have hc:=(hX 0 oq_).2 0 _ h00;have hspot:spot=none:=by simpa [Addr.add] using World.cell?_spot hc
   subst hspot;refine ⟨b,off,rfl,trivial,?_,fun i u hu=>?_⟩
   ·have:=World.block_lt_of_cell? w _ hc;simpa [Addr.add] using this
   ·have hi:i<len*n:=by
     have:=(List.getElem?_eq_some_iff.1 hu).1;rw [bg_ hf,hlenX] at this;exact this
    have hq:i / n<len:=Nat.div_lt_of_lt_mul (by rw [Nat.mul_comm];exact hi);have e:i=i / n*n+i % n:=by rw [Nat.mul_comm];exact (Nat.div_add_mod i n).symm
    have hr:i % n<n:=Nat.mod_lt _ hn;have hu2:(f (X (i / n)))[i % n]? = some u:=by
     obtain ⟨u',hu'⟩:∃ u',(f (X (i / n)))[i % n]? = some u':=⟨_,List.getElem?_eq_getElem (by rw [hf];exact hr)⟩;have:=a7_ hf default (L:=(List.range len).map X) (j:=i / n) (i:=i % n) (u:=u') (by rw [hlenX];exact hq) (by rw [List.getD_eq_getElem?_getD];simpa [hq] using hu');rw [<- e,hu] at this;rw [hu',<- this]
    have:=(hX _ hq).2 _ u hu2;rw [fq_,fq_] at this;rw [e,<- Nat.add_assoc];exact this
 ·obtain ⟨i,hi,rfl⟩:=List.mem_map.1 hx';exact (hX i (by simpa using hi)).1
section
variable {H:Type} {enc:TypeId × Value->H} {w:World} {base:Nat} {spare:Nat->Bool} {held:Bool}
theorem x9_ {n:Nat} {v:Value} {y:DataW H × List MemPlace} (h:DataW.trod enc Tryz.prog w base spare held n 47 [v]=some y):∃ l,U16s w v l:=by
 rcases open_ints Tryz.underlying47 Tryz.underlying30 (by kernel_rfl) h with ⟨hcs,_⟩|⟨a,len,cap,zs,hcs,_,hl,hm,hz,_,hcell,hwz⟩
 ·simp at hcs;subst hcs;exact ⟨[],⟨none,0,rfl,.inl rfl⟩,sq_,sq_⟩
 ·simp at hcs;subst hcs;have hlz:len≤zs.length:=by rw [hz];split <;> omega
  have hlen:(zs.take len).length=len:=by rw [List.length_take];omega
  refine ⟨zs.take len,⟨some a,cap,by rw [hlen],?_⟩,?_,?_⟩
  ·by_cases h0:len=0
   ·exact .inl (by rw [h0];rfl)
   ·refine .inr ?_;obtain ⟨b,off,spot⟩:=a;have hc:=hcell 0 oq_;have hspot:spot=none:=by simpa [Addr.add] using World.cell?_spot hc
    subst hspot;refine ⟨b,off,rfl,fun i hi=>?_⟩;rw [hlen] at hi;have h9:=hcell i oq_;have e:(zs.take len).getD i 0=zs.getD i 0:=by
     rw [List.getD_eq_getElem?_getD,List.getD_eq_getElem?_getD,List.getElem?_take_of_lt hi]
    rw [e];rwa [fq_] at h9
  ·rw [hlen];unfold maxLen at hm;omega
  ·intro x hx;exact bounds_u16 (hwz x (List.mem_of_mem_take hx))
theorem x1_ {n:Nat} {v:Value} {y:DataW H × List MemPlace} (h:DataW.trod enc Tryz.prog w base spare held n 45 [v]=some y):∃ n,i5_ w v n∧∃ a c,v=.slice a n c∧n≤c∧c≤9223372036854775807:=by
 rcases Go.Deep.open_slice1 Tryz.underlying45 (by kernel_rfl) h with ⟨hcs,_⟩|⟨a',len',cap',m,n,V,D,Pl,hcs,_,hl,hm,hmm,_,hx⟩
 ·simp only [List.cons.injEq,and_true] at hcs;subst hcs;exact ⟨0,⟨⟨none,0,rfl,.inl rfl⟩,oq_⟩,none,0,rfl,oq_,oq_⟩
 ·simp only [List.cons.injEq,and_true] at hcs;subst hcs;have hlm:len'≤m:=by rw [hmm];split <;> omega
  refine ⟨len',⟨⟨some a',cap',rfl,?_⟩,by unfold maxLen at hm;omega⟩,_,_,rfl,hl,by unfold maxLen at hm;omega⟩;by_cases h0:len'=0
  ·exact .inl h0
  ·refine .inr ?_;obtain ⟨b,off,spot⟩:=a';have hc:=(hx 0 oq_).1;have hspot:spot=none:=by simpa [Addr.add] using World.cell?_spot hc
   subst hspot;refine ⟨b,off,rfl,fun i hi=>?_⟩;obtain ⟨h1,h2⟩:=hx i oq_;obtain ⟨l,hb⟩:=lz_ h2;rw [fq_] at h1;exact ⟨V i,l,h1,hb⟩
theorem tw_ {n:Nat} {v:Value} {y:DataW H × List MemPlace} (h:DataW.trod enc Tryz.prog w base spare held n 4 [v]=some y):∃ b,v=.bool b:=by
 obtain ⟨b,hcs,_⟩:=DataW.trod_bool Tryz.underlying4 h;simp at hcs;exact ⟨b,hcs⟩
theorem v4_ {n:Nat} {u0 u1 u2 u3:Value} {y:DataW H × List MemPlace} (h:DataW.trod enc Tryz.prog w base spare held n 49 [u0,u1,u2,u3]=some y):∃ x:RawV,x.val=.agg #[u0,u1,u2,u3]∧j2_ w x:=by
 obtain ⟨y0,y1,y2,y3,k,_,_,g0,g1,g2,g3⟩:=trod_struct4 Tryz.underlying49 h;obtain ⟨n0,h0',c0'⟩:=x1_ (show DataW.trod enc Tryz.prog w base spare held k 45 [u0]=some y0 from g0);obtain ⟨ll,hll,h0⟩:=h0'.rows;have c0:=c0';rw [<- hll] at c0;obtain ⟨l1,h1⟩:=lz_ (show DataW.trod enc Tryz.prog w base spare held k 46 [u1]=some y1 from g1);obtain ⟨f,rfl,wf⟩:=md_ Tryz.underlying5 (show DataW.trod enc Tryz.prog w base spare held k 5 [u2]=some y2 from g2);obtain ⟨l3,h3⟩:=x9_ (show DataW.trod enc Tryz.prog w base spare held k 47 [u3]=some y3 from g3);have:=bounds_u8 wf;exact ⟨⟨u0,u1,f,u3⟩,rfl,ll,l1,l3,h0,c0,h1,by show 0≤f;omega,by show f≤255;omega,h3⟩
theorem v5_ {n:Nat} {u0 u1 u2 u3 u4 u5 u6:Value} {y:DataW H × List MemPlace} (h:DataW.trod enc Tryz.prog w base spare held n 51 [u0,u1,u2,u3,u4,u5,u6]=some y):∃ x:RwV,x.enc=[u0,u1,u2,u3,u4,u5,u6]∧RwOk w x:=by
 obtain ⟨y0,y1,y2,y3,k,_,_,g0,g1,g2,g3⟩:=trod_struct4 Tryz.underlying51 h;obtain ⟨m,rfl,wm⟩:=md_ Tryz.underlying5 (show DataW.trod enc Tryz.prog w base spare held k 5 [u0]=some y0 from g0);obtain ⟨r,rfl,wr⟩:=md_ Tryz.underlying5 (show DataW.trod enc Tryz.prog w base spare held k 5 [u1]=some y1 from g1);obtain ⟨b,hb⟩:=tw_ (show DataW.trod enc Tryz.prog w base spare held k 4 [u2]=some y2 from g2);obtain ⟨x,hx,ho⟩:=v4_ (show DataW.trod enc Tryz.prog w base spare held k 49 [u3,u4,u5,u6]=some y3 from g3);subst hb;obtain ⟨x0,x1,x2,x3⟩:=x;injection hx with hx
 have e0:x0=u3:=congrArg (fun a:Array Value=>a.getD 0 default) hx;have e1:x1=u4:=congrArg (fun a:Array Value=>a.getD 1 default) hx;have e2:Value.int .u8 x2=u5:=congrArg (fun a:Array Value=>a.getD 2 default) hx;have e3:x3=u6:=congrArg (fun a:Array Value=>a.getD 3 default) hx;subst e0;subst e1;subst e2;subst e3;have b1:=bounds_u8 wm;have b2:=bounds_u8 wr;exact ⟨⟨m,r,b,⟨x0,x1,x2,x3⟩⟩,rfl,ho,b1.1,by show m≤255;omega,b2.1,by show r≤255;omega⟩
theorem np_ {r:Reach} {b0:Nat} {v:Value} {d:DataW H} {p:List MemPlace} (hv:Value.okWide Tryz.prog w r b0 22 v) (h:DataW.Trod enc Tryz.prog w base spare held 22 v d p):∃ L,RwsR w v L:=by
 obtain ⟨a,len,cap,rfl⟩:=okWide_slice Tryz.underlying22 hv;obtain ⟨fuel,hf⟩:=h;have hf:DataW.trod enc Tryz.prog w base spare held fuel 22 [.slice a len cap]=some (d,p):=hf;rcases Go.Deep.open_slice Tryz.underlying22 hf with ⟨hcs,_⟩|⟨a',len',cap',m,n,D,Pl,hcs,_,hl,hm,hmm,_,hx⟩
 ·simp only [List.cons.injEq,Value.slice.injEq,and_true] at hcs;obtain ⟨rfl,rfl,rfl⟩:=hcs;exact ⟨[],⟨none,0,rfl,sq_,oq_,.inl rfl⟩,sq_⟩
 ·simp only [List.cons.injEq,Value.slice.injEq,and_true] at hcs;obtain ⟨rfl,rfl,rfl⟩:=hcs;have hlm:len≤m:=by rw [hmm];split <;> omega
  have h6:Tryz.prog.cellsOf 51=7:=by kernel_rfl
  have each:∀ i,i<len->∃ x:RwV,RwOk w x∧∀ j u,x.enc[j]? = some u->w.cell? ((a'.add (i*7)).add j)=some u:=fun i hi=>by
   obtain ⟨cs',h1,h2⟩:=hx i oq_;rw [h6] at h1;obtain ⟨_,hlen,hcell⟩:=World.cells?_some h1
   match cs',hlen with
   | [u0,u1,u2,u3,u4,u5,u6],_=>
    obtain ⟨x,hx,ho⟩:=v5_ h2;refine ⟨x,ho,fun j u hj=>?_⟩;rw [hx] at hj;obtain ⟨hj7,h8⟩:=List.getElem?_eq_some_iff.1 hj;exact (hcell j hj7).trans hj
  obtain ⟨L,hL,hlen,hall⟩:=x0_ (f:=RwV.enc) RwV.enc_len oq_ hl (by unfold maxLen at hm;omega) each;exact ⟨L,by rw [<- hlen] at hL ⊢;exact hL,hall⟩
end
end Go.Proofs.YtkclokcenllhmaaGreat
section
variable {F d f s x:Int}{m:List (List Kal.Per)}{l ml:List Int}{t:List Kal.Per}{B c i k n:Nat}{row:Option Nat}{cv v:Go.Value}{A C W W' w:Go.World}
namespace Go.Proofs.YtkclokcenllhmaaGreat
open Go.RowKit Go.Maps Kal
theorem rv_ {x y:Inst} (h:LtI x y):decide (ordI x y ≥ 0)=false:=decide_eq_false fun g=>i1_.1 g h
theorem rw_ {x y:Inst} (h:¬ LtI x y):decide (ordI x y ≥ 0)=true:=decide_eq_true (i1_.2 h)
theorem cq_ (F:Nat->Prop) (cv ev:Value) (s:Str) (w:World) (h:StrR w F cv ev s) :
  Calls Tryz.prog 75 #[.agg #[cv,.int .i64 s.len,ev]] w fun e w'=>e=.returned (.bool (et_ ak_ s))∧Below w.heap.size w w':=by
 obtain ⟨L,h⟩:=h;have hEQ:=h.eq;have hln:s.cls.length=L.length:=by rw [<- hEQ];exact List.length_map _
 obtain ⟨ac,cc,rfl⟩:=h.cl.form;obtain ⟨ae,ce,rfl⟩:=h.ex.form;have hl1:=h.cl.len;have hl2:=h.ex.len;obtain ⟨hi1,hi2⟩:=h.len;have HC:=hq_ h.cl;have HX:=hq_ h.ex;have HEQ:=hq_ hEQ;have HLN:=hq_ hln;have HIN:=fun x lo hi W=>fh_ x lo hi W;clear h hEQ hln;by_cases n1:L.length≤64
 rotate_left
 ·have n1I:¬ (L.length:Int)≤64:=oq_;have n2I:(64:Int)<L.length:=oq_
  go_enter Tryz.func75,Tryz.ntmps75
  go_wp2_with (go_at_call 82;refine (HIN _ _ _ _).mono ?_;rintro e w1 ⟨rfl,rfl⟩)
  go_ret;exact ⟨a1_ (c5_ fun g=>n1 (by have:=g.ncls;have:=HLN.out;omega)).symm,xE⟩
 by_cases n2:1≤s.len∧s.len≤10080
 rotate_left
 ·have n1I:(L.length:Int)≤64:=oq_;have n2I:¬ (64:Int)<L.length:=oq_;have n3:decide (1≤s.len∧s.len≤10080)=false:=decide_eq_false n2
  go_enter Tryz.func75,Tryz.ntmps75
  go_wp2_with (go_at_call 82;refine (HIN _ _ _ _).mono ?_;rw [n3];rintro e w1 ⟨rfl,rfl⟩)
  go_ret;exact ⟨a1_ (c5_ fun g=>n2 g.len).symm,xE⟩
 by_cases n4:s.ext.length≤4096
 rotate_left
 ·have n1I:(L.length:Int)≤64:=oq_;have n2I:¬ (64:Int)<L.length:=oq_;have n3:decide (1≤s.len∧s.len≤10080)=true:=decide_eq_true n2;have n4I:(4096:Int)<s.ext.length:=oq_
  go_enter Tryz.func75,Tryz.ntmps75
  go_wp2_with (go_at_call 82;refine (HIN _ _ _ _).mono ?_;rw [n3];rintro e w1 ⟨rfl,rfl⟩)
  go_ret;exact ⟨a1_ (c5_ fun g=>n4 g.next).symm,xE⟩
 have n2I:¬ (64:Int)<L.length:=oq_;have n3:decide (1≤s.len∧s.len≤10080)=true:=decide_eq_true n2;have n4I:¬ (4096:Int)<s.ext.length:=oq_;have n5I:decide ((4096:Int)<(s.ext.length:Int))=false:=decide_eq_false n4I;have HN2:=hq_ n2;clear n2
 go_enter Tryz.func75,Tryz.ntmps75
 go_wp2_with (go_at_call 82;refine (HIN _ _ _ _).mono ?_;rw [n3];rintro e w1 ⟨rfl,rfl⟩)
 clear n3 n5I;have hb0:Bxx (w.alloc (.cells #[.slice ac L.length cc,.int .i64 s.len,.slice ae s.ext.length ce] 55)) w.heap.size #[.slice ac L.length cc,.int .i64 s.len,.slice ae s.ext.length ce] 55:=Bxx.at rfl;have HBX:=hq_ hb0;clear hb0;go_loopw [3,4,27] (fun _ _ i wr=>∃ k:Nat,k≤L.length∧i=.int .i64 k∧Hid (∀ j,j<k->iz_ ak_ s.cls j)∧Below w.heap.size w wr∧Hid (Bxx wr w.heap.size #[.slice ac L.length cc,.int .i64 s.len,.slice ae s.ext.length ce] 55)) (fun _ _ i _=>L.length-(intOf i).toNat)
 case atStart=>exact ⟨0,oq_,rfl,hq_ (by intro j hj;omega),by exact xE,HBX⟩
 case round=>
  obtain ⟨k,hk,rfl,HK,hb,HB⟩:=hrel;have hws:=hb.size;by_cases hlt:k<L.length
  ·have hlI:(k:Int)<L.length:=oq_;obtain ⟨b,o,a1,c1,m,mi,rfl,hbb,e0,e1,hm,him,hcl⟩:=(HC.out.keep (a3_.below hb) hb.size).get hlt;rw [HEQ.out] at hcl;have HCL:=hq_ hcl;have HPM:Hid (∀ j,k=j+1->∃ pm,wr.cell? ⟨b,o+j*2+1,none⟩=some (.int .i64 pm)∧(s.cls.getD j default).min=pm):=hq_ fun j hj=>by
    obtain ⟨b',o',_,_,m',pm,hbo,_,_,g1,_,_,g2⟩:=(HC.out.keep (a3_.below hb) hb.size).get (show j<L.length by omega);injection hbo with hbo
    injection hbo with q1 q2
    subst q1 q2;exact ⟨pm,g1,by rw [<- HEQ.out,g2]⟩
   have HBB:=hq_ hb;have q0:=(HB.out.cells 0).1;obtain ⟨mi1,mi2⟩:=him;have HIM:=hq_ (And.intro mi1 mi2);go_upto_region 6 with (fail)
   generalize hW:wr.alloc _=w2;have hE2:Below wr.heap.size wr w2:=by rw [<- hW];exact xE
   have hE:Below w.heap.size w w2:=Et hb hE2;have hbx:Bxx w2 wr.heap.size #[.slice a1 m.length c1,.int .i64 mi] 130:=by rw [<- hW];exact Bxx.at rfl
   have x0:=(hbx.cells 0).1;have x1:=(hbx.cells 1).1;have s0:=((HB.out.below hE2).cells 0).1;have HV:=hq_ (fun W (g:Below w2.heap.size w2 W)=>g9_ _ (.slice a1 m.length c1) m W ((hm.ext hE2).ext g));have HE:=hq_ hE;have HIN:=hq_ (fun W=>fh_ mi (-4320) 4320 W);have HBX2:=hq_ (HB.out.below hE2);have HE2:=hq_ hE2;clear hW hbx hE hm HB hb q0 e0 e1 hE2;cases hvm:ak_ m with
   | false=>
    rw [hvm] at HV;have HVM:=hq_ hvm;clear hvm;refine a9_ (w0:=w2) [0,1,2,3,4,5,6,7,8,9,10,11,12,13,14,15,16,17,18,19,20,21,22,23,24,25] [] [32,33,34,35,36,37,38,39,40,41,42,43,44,45,46,47,48,49,50,51,52,53,54,55,56,57] [.pointer (some ⟨wr.heap.size,0,none⟩),.agg #[.slice a1 m.length c1],.bool false,.bool true,.bool true,undef,undef,undef,undef,.bool true,.bool true,undef,undef,undef,undef,undef,undef,undef,undef,undef,undef,undef,undef,undef,undef,.bool true] [[],[0],[1],[2],[3],[4],[4,5],[4,6],[4,7],[4,8],[9],[10],[10,11],[10,12],[13],[13,14],[13],[13,16],[13,15,17],[13,18],[13,19],[13],[13,21],[13,20,22],[10,13,23],[10,24]] (.a x0 (.a x1 (.b))) ?steps ?fin
    case steps=>
     repeat' first|exact .n|refine .c ?_ ?_|fail
     all_goals try exact stp
     all_goals
      rintro v W hb ⟨g0,g1,g2⟩;refine .inl ⟨rfl,fun K hK=>?_⟩;simp only [ov,vat,Nat.reduceBEq,cond_true,cond_false];go_wp2_with (go_at_call 126;(with_reducible refine (HV.out _ g2).mono ?_);rintro e w9 ⟨rfl,hb9⟩)
      exact acx (hK w9 hb9) (by simp [ov,vat])
    case fin=>
     rintro W3 hb3 ⟨g0,g1,g2⟩;show wpList _ _ _ [] _ _;simp only [vat];go_wp2_with fail
     go_ret;refine ⟨a1_ (c5_ fun g=>?_).symm,Et HE.out hb3⟩;have g3:=(g.cls k (by have:=HLN.out;omega)).1;rw [HCL.out] at g3;rw [HVM.out] at g3;exact absurd g3 dq_
   | true=>
    rw [hvm] at HV;have HVM:=hq_ hvm;clear hvm;by_cases hmi:-4320≤mi∧mi≤4320
    rotate_left
    ·have hd:decide (-4320≤mi∧mi≤4320)=false:=decide_eq_false hmi;rw [hd] at HIN;have HMI:=hq_ hmi;clear hd hmi;refine a9_ (w0:=w2) [0,1,2,3,4,5,6,7,8,9,10,11,12,13,14,15,16,17,18,19,20,21,22,23,24,25] [] [32,33,34,35,36,37,38,39,40,41,42,43,44,45,46,47,48,49,50,51,52,53,54,55,56,57] [.pointer (some ⟨wr.heap.size,0,none⟩),.agg #[.slice a1 m.length c1],.bool true,.bool false,.bool false,.pointer (some ⟨wr.heap.size,1,none⟩),.int .i64 mi,.bool false,.bool true,.bool true,.bool true,undef,undef,undef,undef,undef,undef,undef,undef,undef,undef,undef,undef,undef,undef,.bool true] [[],[0],[1],[2],[3],[4],[4,5],[4,6],[4,7],[4,8],[9],[10],[10,11],[10,12],[13],[13,14],[13],[13,16],[13,15,17],[13,18],[13,19],[13],[13,21],[13,20,22],[10,13,23],[10,24]] (.a x0 (.a x1 (.b))) ?steps ?fin
     case steps=>
      repeat' first|exact .n|refine .c ?_ ?_|fail
      all_goals try exact stp
      all_goals
       rintro v W hb ⟨g0,g1,g2⟩;refine .inl ⟨rfl,fun K hK=>?_⟩;simp only [ov,vat,Nat.reduceBEq,cond_true,cond_false];go_wp2_with (first|(go_at_call 126;(with_reducible refine (HV.out _ g2).mono ?_);rintro e w9 ⟨rfl,hb9⟩)|(go_at_call 82;(with_reducible refine (HIN.out _).mono ?_);rintro e w9 ⟨rfl,h9⟩;have hb9:Below W.heap.size W w9:=h9 ▸ Below.refl _ _;clear h9))
       exact acx (hK w9 hb9) (by simp [ov,vat])
     case fin=>
      rintro W3 hb3 ⟨g0,g1,g2⟩;show wpList _ _ _ [] _ _;simp only [vat];go_wp2_with fail
      go_ret;refine ⟨a1_ (c5_ fun g=>?_).symm,Et HE.out hb3⟩;have g3:=(g.cls k (by have:=HLN.out;omega)).2.1;rw [HCL.out] at g3;exact HMI.out g3
    have hd:decide (-4320≤mi∧mi≤4320)=true:=decide_eq_true hmi;rw [hd] at HIN;have HMI:=hq_ hmi;clear hd hmi;rcases Nat.eq_zero_or_pos k with rfl|hpos
    ·clear s0;refine a9_ (w0:=w2) [0,1,2,3,4,5,6,7,8,9,10,11,12,13,14,15,16,17,18,19,20,21,22,23,24,25] [] [32,33,34,35,36,37,38,39,40,41,42,43,44,45,46,47,48,49,50,51,52,53,54,55,56,57] [.pointer (some ⟨wr.heap.size,0,none⟩),.agg #[.slice a1 m.length c1],.bool true,.bool false,.bool false,.pointer (some ⟨wr.heap.size,1,none⟩),.int .i64 mi,.bool true,.bool false,.bool false,.bool false,.int .i64 0,.bool false,.bool false,undef,undef,undef,undef,undef,undef,undef,undef,undef,undef,.bool false,.bool false] [[],[0],[1],[2],[3],[4],[4,5],[4,6],[4,7],[4,8],[9],[10],[10,11],[10,12],[13],[13,14],[13],[13,16],[13,15,17],[13,18],[13,19],[13],[13,21],[13,20,22],[10,13,23],[10,24]] (.a x0 (.a x1 (.b))) ?steps ?fin
     case steps=>
      repeat' first|exact .n|refine .c ?_ ?_|fail
      all_goals try exact stp
      all_goals
       rintro v W hb ⟨g0,g1,g2⟩;refine .inl ⟨rfl,fun K hK=>?_⟩;simp only [ov,vat,Nat.reduceBEq,cond_true,cond_false];go_wp2_with (first|(go_at_call 126;(with_reducible refine (HV.out _ g2).mono ?_);rintro e w9 ⟨rfl,hb9⟩)|(go_at_call 82;(with_reducible refine (HIN.out _).mono ?_);rintro e w9 ⟨rfl,h9⟩;have hb9:Below W.heap.size W w9:=h9 ▸ Below.refl _ _;clear h9))
       exact acx (hK w9 hb9) (by simp [ov,vat])
     case fin=>
      rintro W3 hb3 ⟨g0,g1,g2⟩;show wpList _ _ _ [] _ _;simp only [vat];go_wp2_with fail
      go_roundw
      case rel=>
       refine ⟨1,oq_,by go_num,hq_ fun j hj=>?_,Et HE.out hb3,hq_ (HBX2.out.below hb3)⟩;obtain rfl:j=0:=oq_;refine ⟨?_,?_,fun j e=>oq_⟩
       ·rw [HCL.out];exact HVM.out
       ·rw [HCL.out];exact HMI.out
      case measure=>simp [intOf];omega
    ·obtain ⟨j,rfl⟩:∃ j,k=j+1:=⟨k-1,oq_⟩;obtain ⟨pm,p1,hpm⟩:=HPM.out j rfl;have p1:=Ext.cell HE2.out p1;have HPM2:=hq_ hpm;clear hpm;obtain ⟨bd,hbd⟩:∃ bd,decide (mi≤pm)=bd:=⟨_,rfl⟩;rw [show (((j+1:Nat)):Int)=(j:Int)+1 from rfl];refine a9_ (w0:=w2) [0,1,2,3,4,5,6,7,8,9,10,11,12,13,14,15,16,17,18,19,20,21,22,23,24,25] [] [32,33,34,35,36,37,38,39,40,41,42,43,44,45,46,47,48,49,50,51,52,53,54,55,56,57] [.pointer (some ⟨wr.heap.size,0,none⟩),.agg #[.slice a1 m.length c1],.bool true,.bool false,.bool false,.pointer (some ⟨wr.heap.size,1,none⟩),.int .i64 mi,.bool true,.bool false,.bool false,.bool false,.int .i64 ((j:Int)+1),.bool true,.bool true,.pointer (some ⟨w.heap.size,0,none⟩),.slice (some ⟨b,o,none⟩) L.length cc,.int .i64 ((j:Int)+1),.int .i64 (j:Int),.pointer (some ⟨b,o+j*2,none⟩),.pointer (some ⟨b,o+j*2+1,none⟩),.int .i64 pm,.pointer (some ⟨wr.heap.size,1,none⟩),.int .i64 mi,.bool bd,.bool bd,.bool bd] [[],[0],[1],[2],[3],[4],[4,5],[4,6],[4,7],[4,8],[9],[10],[10,11],[10,12],[13],[13,14],[13],[13,16],[13,15,17],[13,18],[13,19],[13],[13,21],[13,20,22],[10,13,23],[10,24]] (.a s0 (.a p1 (.a x0 (.a x1 (.b))))) ?steps ?fin
     case steps=>
      repeat' first|exact .n|refine .c ?_ ?_|fail
      all_goals try exact stp
      all_goals
       rintro v W hb ⟨g3,g4,g0,g1,g2⟩;refine .inl ⟨rfl,fun K hK=>?_⟩;simp only [ov,vat,Nat.reduceBEq,cond_true,cond_false];go_wp2_with (first|(go_at_call 126;(with_reducible refine (HV.out _ g2).mono ?_);rintro e w9 ⟨rfl,hb9⟩)|(go_at_call 82;(with_reducible refine (HIN.out _).mono ?_);rintro e w9 ⟨rfl,h9⟩;have hb9:Below W.heap.size W w9:=h9 ▸ Below.refl _ _;clear h9))
       exact acx (hK w9 hb9) (by simp [ov,vat])
     case fin=>
      rintro W3 hb3 ⟨g3,g4,g0,g1,g2⟩;show wpList _ _ _ [] _ _;simp only [vat];have HBD:=hq_ hbd;clear hbd;cases bd
      ·go_wp2_with fail
       go_roundw
       case rel=>
        refine ⟨j+1+1,oq_,by go_num,hq_ fun i hi=>?_,Et HE.out hb3,hq_ (HBX2.out.below hb3)⟩;by_cases hij:i<j+1
        ·exact HK.out i hij
        ·obtain rfl:i=j+1:=oq_;refine ⟨?_,?_,fun j' e=>?_⟩
         ·rw [HCL.out];exact HVM.out
         ·rw [HCL.out];exact HMI.out
         ·obtain rfl:j'=j:=oq_;rw [HCL.out,HPM2.out];have:=of_decide_eq_false HBD.out;show pm<mi;omega
       case measure=>simp [intOf];omega
      ·go_wp2_with fail
       go_ret;refine ⟨a1_ (c5_ fun g=>?_).symm,Et HE.out hb3⟩;have g3:=(g.cls (j+1) (by have:=HLN.out;omega)).2.2 j rfl;rw [HCL.out,HPM2.out] at g3;have:=of_decide_eq_true HBD.out;have:pm<mi:=g3;omega
  ·obtain rfl:k=L.length:=oq_;have hkI:¬ (L.length:Int)<L.length:=oq_;have q2:=(HB.out.cells 2).1;have HKC:=HK;go_wp2_with fail
   clear hkI q2;go_loopw [5,6,7,62] (fun _ _ _ i wr=>∃ k:Nat,k≤s.ext.length∧i=.int .i64 k∧Hid (∀ j,j<k->p1_ s.ext j)∧Below w.heap.size w wr∧Hid (Bxx wr w.heap.size #[.slice ac L.length cc,.int .i64 s.len,.slice ae s.ext.length ce] 55)) (fun _ _ _ i _=>s.ext.length-(intOf i).toNat)
   case atStart=>exact ⟨0,oq_,rfl,hq_ (by intro j hj;omega),by exact xE,by first|exact HB|exact hq_ (HB.out.below xE)⟩
   case round=>
    obtain ⟨k,hk,rfl,HXS,hb,HB⟩:=hrel;have hws:=hb.size;by_cases hlt:k<s.ext.length
    ·have hlI:(k:Int)<s.ext.length:=oq_;obtain ⟨b,o,y,rfl,hbb,hy,hyi,e0,e1,e2⟩:=(HX.out.keep (a3_.below hb) hb.size).get hlt;have HY:=hq_ hy;have HPM:Hid (∀ j,k=j+1->∃ x,s.ext.getD j default=x∧wr.cell? ⟨b,o+j*3,none⟩=some (.int .i64 x.day)∧wr.cell? ⟨b,o+j*3+1,none⟩=some (.int .i64 x.frm)∧wr.cell? ⟨b,o+j*3+2,none⟩=some (.int .i64 x.fin)):=hq_ fun j hj=>by
      obtain ⟨b',o',x,hbo,_,hx,_,g0,g1,g2⟩:=(HX.out.keep (a3_.below hb) hb.size).get (show j<s.ext.length by omega);injection hbo with hbo
      injection hbo with q1 q2
      subst q1 q2;exact ⟨x,hx,g0,g1,g2⟩
     obtain ⟨⟨y1,y2⟩,⟨y3,y4⟩,y5,y6⟩:=hyi;obtain ⟨b1,hb1⟩:∃ b1,decide (0≤y.day∧y.day≤1099511627776)=b1:=⟨_,rfl⟩;obtain ⟨b2,hb2⟩:∃ b2,decide (-2251799813685248≤y.frm∧y.frm≤1583296743997439)=b2:=⟨_,rfl⟩;obtain ⟨b3,hb3⟩:∃ b3,decide (y.frm+1≤y.fin∧y.fin≤y.frm+10080)=b3:=⟨_,rfl⟩;have C1:=fun W=>fh_ y.day 0 1099511627776 W;have C2:=fun W=>fh_ y.frm (-2251799813685248) 1583296743997439 W;have C3:=fun W=>fh_ y.fin (y.frm+1) (y.frm+10080) W;rw [hb1] at C1;rw [hb2] at C2;rw [hb3] at C3;have C1:=hq_ C1;have C2:=hq_ C2;have C3:=hq_ C3;have hfb:b2=true->-2251799813685248≤y.frm∧y.frm≤1583296743997439:=fun h=>of_decide_eq_true (hb2.trans h);have HFB:=hq_ hfb;have HB1:=hq_ hb1;have HB2:=hq_ hb2;have HB3:=hq_ hb3;have q2:=(HB.out.cells 2).1;have HBW:=hq_ hb;clear hb1 hb2 hb3 hfb hy hb;have hg:Hid ((b1=true∧b2=true∧b3=true)->br_ y):=hq_ fun ⟨g1,g2,g3⟩=>⟨of_decide_eq_true (HB1.out.trans g1),of_decide_eq_true (HB2.out.trans g2),of_decide_eq_true (HB3.out.trans g3)⟩;have hgn:Hid ((b1=false∨b2=false∨b3=false)->¬ br_ y):=hq_ fun g h=>by
      rcases g with g|g|g
      ·exact absurd h.1 (of_decide_eq_false (HB1.out.trans g))
      ·exact absurd h.2.1 (of_decide_eq_false (HB2.out.trans g))
      ·exact absurd h.2.2 (of_decide_eq_false (HB3.out.trans g))
     have HGB:Hid ((b1 && b2 && b3)=true↔br_ y):=hq_ (by
      constructor
      ·intro h;rw [Bool.and_eq_true,Bool.and_eq_true] at h;exact hg.out ⟨h.1.1,h.1.2,h.2⟩
      ·intro h;cases b1 <;> cases b2 <;> cases b3 <;> first|rfl|exact absurd h (hgn.out sq_))
     clear hg hgn;go_upto_region 12 with (fail)
     generalize hW:wr.alloc _=w2;have hE2:Below wr.heap.size wr w2:=by rw [<- hW];exact xE
     have hbx:Bxx w2 wr.heap.size #[.int .i64 y.day,.int .i64 y.frm,.int .i64 y.fin] 77:=by rw [<- hW];exact Bxx.at rfl
     have x0:=(hbx.cells 0).1;have x1:=(hbx.cells 1).1;have x2:=(hbx.cells 2).1;have HE:=hq_ (Et HBW.out hE2);have HBX2:=hq_ (HB.out.below hE2);have HPM2:Hid (∀ j,k=j+1->∃ x,s.ext.getD j default=x∧w2.cell? ⟨b,o+j*3,none⟩=some (.int .i64 x.day)∧w2.cell? ⟨b,o+j*3+1,none⟩=some (.int .i64 x.frm)∧w2.cell? ⟨b,o+j*3+2,none⟩=some (.int .i64 x.fin)):=hq_ fun j hj=>by
      obtain ⟨x,h1,h2,h3,h4⟩:=HPM.out j hj;exact ⟨x,h1,Ext.cell hE2 h2,Ext.cell hE2 h3,Ext.cell hE2 h4⟩
     clear hW hbx hE2 e0 e1 e2 HB q2 HPM
     go_cut [7] (fun v7 wx=>v7=.bool (b1 && b2 && b3)∧w2=wx)
     case first=>
      cases b1
      ·go_wp2_with (go_at_call 82;(first|((with_reducible refine (C1.out _).mono ?_);rintro e w1 ⟨rfl,rfl⟩)|((with_reducible refine (C2.out _).mono ?_);rintro e w1 ⟨rfl,rfl⟩)|((with_reducible refine (C3.out _).mono ?_);rintro e w1 ⟨rfl,rfl⟩)))
       go_meet
       exact ⟨rfl,rfl⟩
      ·cases b2
       ·go_wp2_with (go_at_call 82;(first|((with_reducible refine (C1.out _).mono ?_);rintro e w1 ⟨rfl,rfl⟩)|((with_reducible refine (C2.out _).mono ?_);rintro e w1 ⟨rfl,rfl⟩)|((with_reducible refine (C3.out _).mono ?_);rintro e w1 ⟨rfl,rfl⟩)))
        go_meet
        exact ⟨rfl,rfl⟩
       ·obtain ⟨f1,f2⟩:=HFB.out rfl;go_wp2_with (go_at_call 82;(first|((with_reducible refine (C1.out _).mono ?_);rintro e w1 ⟨rfl,rfl⟩)|((with_reducible refine (C2.out _).mono ?_);rintro e w1 ⟨rfl,rfl⟩)|((with_reducible refine (C3.out _).mono ?_);rintro e w1 ⟨rfl,rfl⟩)))
        go_meet
        exact ⟨rfl,rfl⟩
     case rest=>
      obtain ⟨rfl,rfl⟩:=hcut;obtain ⟨gb,hgb⟩:∃ gb,(b1 && b2 && b3)=gb:=⟨_,rfl⟩;rw [hgb] at HGB ⊢;clear hgb C1 C2 C3 HB1 HB2 HB3 HFB;cases gb
      ·have HBAD:Hid (¬ br_ y):=hq_ (fun h=>absurd (HGB.out.2 h) dq_);go_upto_region 13 with (fail)
       refine a9_ (w0:=w2) [0,1,2,3,4,5,6,7,8,9,10,11,12,13,14,15,16] [] [90,91,92,93,94,95,96,97,98,99,100,101,102,103,104,105,106] [.bool false,.bool true,.bool true,undef,undef,undef,undef,undef,undef,undef,undef,undef,undef,undef,undef,undef,.bool true] [[],[0],[1],[2],[2,3],[2,4],[5],[5,6],[5],[5,8],[5,7,9],[5,10],[5],[5,11,12],[5,13],[2,5,14],[2,15]] (.a x0 (.a x1 (.z x2))) ?steps ?fin
       case steps=>
        repeat' first|exact .n|refine .c ?_ ?_|fail
        all_goals try exact stp
       case fin=>
        rintro W3 hb3 ⟨g0,g1,g2⟩;show wpList _ _ _ [] _ _;simp only [vat];go_wp2_with fail
        go_ret;refine ⟨a1_ (c5_ fun g=>?_).symm,Et HE.out hb3⟩;have g3:=(g.ext k hlt).1;rw [HY.out] at g3;exact HBAD.out g3
      have HGI:=hq_ (HGB.out.1 rfl);rcases Nat.eq_zero_or_pos k with rfl|hpos
      ·go_upto_region 13 with (fail)
       refine a9_ (w0:=w2) [0,1,2,3,4,5,6,7,8,9,10,11,12,13,14,15,16] [] [90,91,92,93,94,95,96,97,98,99,100,101,102,103,104,105,106] [.bool true,.bool false,.bool false,.int .i64 0,.bool false,.bool false,undef,undef,undef,undef,undef,undef,undef,undef,undef,.bool false,.bool false] [[],[0],[1],[2],[2,3],[2,4],[5],[5,6],[5],[5,8],[5,7,9],[5,10],[5],[5,11,12],[5,13],[2,5,14],[2,15]] (.a x0 (.a x1 (.z x2))) ?steps ?fin
       case steps=>
        repeat' first|exact .n|refine .c ?_ ?_|fail
        all_goals try exact stp
       case fin=>
        rintro W3 hb3 ⟨g0,g1,g2⟩;show wpList _ _ _ [] _ _;simp only [vat];go_wp2_with fail
        go_roundw
        case rel=>
         refine ⟨1,oq_,by go_num,hq_ fun j hj=>?_,Et HE.out hb3,hq_ (HBX2.out.below hb3)⟩;obtain rfl:j=0:=oq_;exact ⟨by rw [HY.out];exact HGI.out,fun j e=>oq_⟩
        case measure=>simp [intOf];omega
      ·obtain ⟨j,rfl⟩:∃ j,k=j+1:=⟨k-1,oq_⟩;obtain ⟨x,hx,p0,p1,p2⟩:=HPM2.out j rfl;have HPX:=hq_ hx;have HOR:=hq_ (fun W=>h5_ x y W);obtain ⟨bd,hbd⟩:∃ bd,decide (ordI x y ≥ 0)=bd:=⟨_,rfl⟩;have hbd2:decide (0≤ordI x y)=bd:=hbd;have HBD:=hq_ hbd;have s0:=(HBX2.out.cells 2).1;clear hx hbd;rw [show (((j+1:Nat)):Int)=(j:Int)+1 from rfl];go_upto_region 13 with (fail)
       refine a9_ (w0:=w2) [0,1,2,3,4,5,6,7,8,9,10,11,12,13,14,15,16] [] [90,91,92,93,94,95,96,97,98,99,100,101,102,103,104,105,106] [.bool true,.bool false,.bool false,.int .i64 ((j:Int)+1),.bool true,.bool true,.pointer (some ⟨w.heap.size,2,none⟩),.slice (some ⟨b,o,none⟩) s.ext.length ce,.int .i64 ((j:Int)+1),.int .i64 (j:Int),.pointer (some ⟨b,o+j*3,none⟩),ival x,ival y,.int .i64 (ordI x y),.bool bd,.bool bd,.bool bd] [[],[0],[1],[2],[2,3],[2,4],[5],[5,6],[5],[5,8],[5,7,9],[5,10],[5],[5,11,12],[5,13],[2,5,14],[2,15]] (.a s0 (.a p0 (.a p1 (.a p2 (.a x0 (.a x1 (.z x2))))))) ?steps ?fin
       case steps=>
        repeat' first|exact .n|refine .c ?_ ?_|fail
        all_goals try exact stp
        all_goals
         rintro v W hb ⟨g3,g4,g5,g6,g0,g1,g2⟩;refine .inl ⟨rfl,fun K hK=>?_⟩;simp only [ov,vat,Nat.reduceBEq,cond_true,cond_false];go_wp2_with (go_at_call 80;(with_reducible refine (HOR.out _).mono ?_);rintro e w9 ⟨rfl,hb9⟩)
         exact acx (hK w9 hb9) (by simp [ov,vat])
       case fin=>
        rintro W3 hb3 ⟨g3,g4,g5,g6,g0,g1,g2⟩;show wpList _ _ _ [] _ _;simp only [vat];clear hbd2;cases bd
        ·go_wp2_with fail
         go_roundw
         case rel=>
          refine ⟨j+1+1,oq_,by go_num,hq_ fun i hi=>?_,Et HE.out hb3,hq_ (HBX2.out.below hb3)⟩;by_cases hij:i<j+1
          ·exact HXS.out i hij
          ·obtain rfl:i=j+1:=oq_;refine ⟨by rw [HY.out];exact HGI.out,fun j' e=>?_⟩;obtain rfl:j'=j:=oq_;rw [HY.out,HPX.out];refine Classical.byContradiction fun h=>?_;have:=rw_ h;rw [HBD.out] at this;exact absurd this dq_
         case measure=>simp [intOf];omega
        ·go_wp2_with fail
         go_ret;refine ⟨a1_ (c5_ fun g=>?_).symm,Et HE.out hb3⟩;have g3:=(g.ext (j+1) hlt).2 j rfl;rw [HY.out,HPX.out] at g3;have:=rv_ g3;rw [HBD.out] at this;exact absurd this dq_
    ·obtain rfl:k=s.ext.length:=oq_;go_wp2_with fail
     go_ret;refine ⟨a1_ (ca_.2 ⟨by have:=HLN.out;omega,HN2.out,oq_,fun i hi=>HKC.out i (by have:=HLN.out;omega),HXS.out⟩).symm,xE⟩
theorem oz_ {b:Nat} {x y z x' y' z':Value} {t:TypeId} (h:Bxx W b #[x,y,z] t):Bxx (((W.setCell ⟨b,0,none⟩ x').setCell ⟨b,1,none⟩ y').setCell ⟨b,2,none⟩ z') b #[x',y',z'] t:=by
 have h1:=a0_ 2 z' (a0_ 1 y' (a0_ 0 x' h));simpa [Bxx] using h1
theorem MStr.low {s:Str} (h:MStr s) {y:Inst} (hy:IsI s y):-2251799813685248≤y.frm∧y.frm<2251799813685248:=by
 rcases hy with ⟨c,hc,ho,hf⟩|hy
 ·have h0:=e0_ (h.ne hc) ho.1;have h1:=h.min hc;have h2:=h.val.len;have e1:y.frm=y.day*1440+c.min:=congrArg Inst.frm ho.2;have e2:y.fin=y.day*1440+c.min+s.len:=congrArg Inst.fin ho.2;omega
 ·have:=h.val.ins hy;unfold br_ at this;omega
def vt_ (g:Nat) (lb:Array Value) (l:List Inst) (p:Inst->Bool) (w:World):Prop:=
 ∀ (W:World) (x:Inst),Below w.heap.size w W->x∈l->Calls Tryz.prog g (#[ival x] ++ lb) W fun e w'=>e=.returned (.bool (p x))∧Below w.heap.size w w'
theorem pw_ (F:Nat->Prop) (v:Value) (l:List Inst) (p:Inst->Bool) (g:Nat) (lb:Array Value) (eg:∀ args w,(callFunc g args).run Tryz.prog w=.ok (.enter g args) w) (w:World) (hv:ExtL w F v l) (hp:vt_ g lb l p w) :
  Calls Tryz.prog 130 #[v,.func (.func g) #[] lb] w fun e w'=>∃ i:Int,e=.returned (.int .i64 i)∧decide (0≤i)=l.any p∧Below w.heap.size w w':=by
 have HPP:=hq_ hp;obtain ⟨a1,c1,rfl⟩:=hv.form;have hlen:=hv.len;have HC:=hq_ hv;clear hp hv
 go_enter Tryz.func130,Tryz.ntmps130
 go_wp2_with fail
 go_loopw [5,8] (fun _ i wr=>∃ k:Nat,k≤l.length∧i=.int .i64 k∧(l.take k).any p=false∧Below w.heap.size w wr) (fun _ i _=>l.length-(intOf i).toNat)
 case atStart=>exact ⟨0,oq_,rfl,rfl,Below.refl _ _⟩
 case round=>
  obtain ⟨k,hk,rfl,hpre,hb⟩:=hrel;have HB:=hq_ hb;have HPRE:=hq_ hpre;clear hpre;by_cases hlt:k<l.length
  ·have hlI:(k:Int)<l.length:=oq_;obtain ⟨b8,f8,y,rfl,hb8,hy,_,e0,e1,e2⟩:=(HC.out.ext hb).get hlt;have hcall:=HPP.out wr y hb (hy ▸ ac_ hlt);have HSU:Hid ((l.take (k+1)).any p=((l.take k).any p || p y)):=hq_ (hy ▸ fs_ hlt);have HMEM:Hid (y∈l):=hq_ (hy ▸ ac_ hlt);clear hb hy;cases hq:p y with
   | true=>
    rw [hq] at hcall;have HQ:=hq_ hq;clear hq;go_wp2_with (go_at_fn g;refine hcall.mono ?_;rintro e w' ⟨rfl,hb'⟩)
    go_ret;refine ⟨_,rfl,?_,hb'⟩;rw [decide_eq_true oq_];exact (List.any_eq_true.2 ⟨y,HMEM.out,HQ.out⟩).symm
   | false=>
    rw [hq] at hcall;have HQ:=hq_ hq;clear hq;go_wp2_with (go_at_fn g;refine hcall.mono ?_;rintro e w' ⟨rfl,hb'⟩)
    go_roundw
    case rel=>exact ⟨k+1,oq_,by go_num,by rw [HSU.out,HPRE.out,HQ.out];rfl,hb'⟩
    case measure=>simp [intOf];omega
  ·obtain rfl:k=l.length:=oq_;go_wp2_with fail
   go_ret;refine ⟨_,rfl,?_,HB.out⟩;have:=HPRE.out;rw [List.take_length] at this;rw [this];rfl
theorem l7_ (F:Nat->Prop) (v:Value) (l:List Inst) (p:Inst->Bool) (g:Nat) (lb:Array Value) (eg:∀ args w,(callFunc g args).run Tryz.prog w=.ok (.enter g args) w) (w:World) (hv:ExtL w F v l) (hp:vt_ g lb l p w) :
  Calls Tryz.prog 83 #[v,.func (.func g) #[] lb] w fun e w'=>e=.returned (.bool (l.any p))∧Below w.heap.size w w':=by
 have HV:=hq_ hv;have HPP:=hq_ hp;clear hp hv
 go_enter Tryz.func83,Tryz.ntmps83
 go_wp2_with (go_at_call 130;refine (pw_ F v l p g lb eg _ HV.out HPP.out).mono ?_;rintro e w1 ⟨i,rfl,hi,hb1⟩;have HI:=hq_ hi;clear hi)
 go_ret;exact ⟨a1_ HI.out,hb1⟩
theorem p8_ (x y:Inst) (xb:Nat) (w:World) (hx:Bxx w xb #[.int .i64 x.day,.int .i64 x.frm,.int .i64 x.fin] 77) :
  Calls Tryz.prog 164 #[ival y,.pointer (some ⟨xb,0,none⟩)] w fun e w'=>e=.returned (.bool (decide (ae_ x.frm x.fin y.frm y.fin)))∧Below w.heap.size w w':=by
 have hl:=hx.lt;have x1:=(hx.cells 1).1;have x2:=(hx.cells 2).1;obtain ⟨xd,xf,xt⟩:=x;obtain ⟨yd,yf,yt⟩:=y;have HC:=fun W=>hy_ xf xt yf yt W;have HC:=hq_ HC;clear hx;show Calls _ _ #[.agg #[.int .i64 yd,.int .i64 yf,.int .i64 yt],_] _ _
 go_enter Tryz.func164,Tryz.ntmps164
 go_wp2_with (go_at_call 78;refine (HC.out _).mono ?_;rintro e w1 ⟨rfl,hb1⟩)
 go_ret;exact ⟨rfl,xE⟩
end Go.Proofs.YtkclokcenllhmaaGreat
end
