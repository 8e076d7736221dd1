/- Part 10 of the proof of the laws. -/
import Derived.Test.YtbmgmlbmgogeaaaGreatW9
import Derived.Test.YtbmgmlbmgogeaaaGreatW8
import Derived.Shelf.SlGeneric
import Derived.Shelf.SlSortCmp.NoneTotal
import Derived.Ground.SlsfProg
import Derived.Test.YtbmgmlbmgogeaaaGreatProg
import Derived.Test.YtbmgmlbmgogeaaaGreatW7
import Derived.Sort.Grow
import Derived.Test.YtbmgmlbmgogeaaaGreatW5
import Derived.OrdersIn
set_option linter.unusedVariables false
set_option linter.unusedSimpArgs false
set_option maxRecDepth 100000
set_option maxHeartbeats 4000000
section
variable {sv:Array Go.Value}{a:Int}{B g j k n:Nat}{row:Option Nat}{lv v v':Go.Value}{A C W W' w w':Go.World}
namespace Go.Proofs.YtbmgmlbmgogeaaaGreat
section
open Go.RowKit Go.Maps Kal
def zZ (W:World) (B g k:Nat) (L:IL):Prop:=(B+2<=g/\g<=W.heap.size)/\∃ n E,n<=k/\fy W (B+1) B n (λb=>g<=b) E L
theorem CM.x {L:IL} (h:CM W B k L):zZ W B (B+3) k L:=by
 have:=h.size;exact ⟨⟨ad,this⟩,h.idx⟩
theorem zZ.ext {L:IL} (h:zZ W B g k L) (hb:Below W.heap.size W W'):zZ W' B g k L:=by
 obtain ⟨⟨h0,h1⟩,n,E,h2,h3⟩:=h;exact ⟨⟨h0,NN h1 hb.size⟩,n,E,h2,h3.ext hb⟩
theorem zZ.asc {L:IL} (h:zZ W B g k L):je L:=by obtain ⟨_,n,E,_,h3⟩:=h;exact h3.asc
theorem wy_ {L:IL} (a b:Int) (h:zZ W B g k L) (ha:aS a) (hb:aS b):Calls Tryz.prog 14 #[.pointer (some ⟨B+1,0,none⟩),.agg #[.int .i64 a,.int .i64 b]] W (Yc L a b W):=by
 obtain ⟨_,n,E,_,h3⟩:=h;exact Jt _ _ n _ E L a b W h3 ha hb
end
end Go.Proofs.YtbmgmlbmgogeaaaGreat
namespace Go.Proofs
section
open Go.Shelf
def Tryz.sortI_ren:Go.Shelf.Ren:=⟨fun|6=>67|15=>114|14=>113|28=>156|29=>157|20=>148|21=>149|22=>150|23=>151|24=>152|25=>153|26=>154|27=>155|46=>192|47=>193|48=>194|49=>195|50=>196|57=>231|n=>n,fun|22=>41|24=>46|25=>107|3=>3|39=>171|0=>0|53=>198|55=>200|4=>4|46=>192|45=>191|50=>119|5=>5|9=>9|66=>231|70=>235|76=>258|77=>259|n=>n,fun|n=>n⟩
theorem Tryz.sortI:Go.Proofs.SlLaysF0.n6 Tryz.prog Tryz.sortI_ren:={
 mixed:=by kernel_rfl
 f6:=⟨Tryz.f67.name,aG,Tryz.func67.trans (congrArg some (by kernel_rfl))⟩
 f14:=⟨Tryz.f113.name,aG,Tryz.func113.trans (congrArg some (by kernel_rfl))⟩
 f15:=Tryz.func114.trans (congrArg some (by kernel_rfl))
 f20:=⟨Tryz.f148.name,aG,Tryz.func148.trans (congrArg some (by kernel_rfl))⟩
 f21:=⟨Tryz.f149.name,aG,Tryz.func149.trans (congrArg some (by kernel_rfl))⟩
 f22:=⟨Tryz.f150.name,aG,Tryz.func150.trans (congrArg some (by kernel_rfl))⟩
 f23:=⟨Tryz.f151.name,aG,Tryz.func151.trans (congrArg some (by kernel_rfl))⟩
 f24:=⟨Tryz.f152.name,aG,Tryz.func152.trans (congrArg some (by kernel_rfl))⟩
 f25:=⟨Tryz.f153.name,aG,Tryz.func153.trans (congrArg some (by kernel_rfl))⟩
 f26:=⟨Tryz.f154.name,aG,Tryz.func154.trans (congrArg some (by kernel_rfl))⟩
 f27:=⟨Tryz.f155.name,aG,Tryz.func155.trans (congrArg some (by kernel_rfl))⟩
 f28:=Tryz.func156.trans (congrArg some (by kernel_rfl))
 f29:=Tryz.func157.trans (congrArg some (by kernel_rfl))
 f46:=⟨Tryz.f192.name,aG,Tryz.func192.trans (congrArg some (by kernel_rfl))⟩
 f47:=Tryz.func193.trans (congrArg some (by kernel_rfl))
 f48:=Tryz.func194.trans (congrArg some (by kernel_rfl))
 f49:=⟨Tryz.f195.name,aG,Tryz.func195.trans (congrArg some (by kernel_rfl))⟩
 f50:=⟨Tryz.f196.name,aG,Tryz.func196.trans (congrArg some (by kernel_rfl))⟩
 f57:=⟨Tryz.f231.name,aG,Tryz.func231.trans (congrArg some (by kernel_rfl))⟩
 t0:=Tryz.underlying0
 a0:=Tryz.isAgg0
 z0:=Tryz.sizeOf0
 v0:=Tryz.zeroValue0
 t3:=Tryz.underlying3
 a3:=Tryz.isAgg3
 z3:=Tryz.sizeOf3
 v3:=Tryz.zeroValue3
 t4:=Tryz.underlying4
 a4:=Tryz.isAgg4
 z4:=Tryz.sizeOf4
 v4:=Tryz.zeroValue4
 t5:=Tryz.underlying5
 a5:=Tryz.isAgg5
 z5:=Tryz.sizeOf5
 v5:=Tryz.zeroValue5
 t9:=Tryz.underlying9
 a9:=Tryz.isAgg9
 z9:=Tryz.sizeOf9
 v9:=Tryz.zeroValue9
 t22:=Tryz.underlying41
 a22:=Tryz.isAgg41
 z22:=Tryz.sizeOf41
 v22:=Tryz.zeroValue41
 t25:=Tryz.underlying107
 a25:=Tryz.isAgg107
 z25:=Tryz.sizeOf107
 v25:=Tryz.zeroValue107
 t39:=Tryz.underlying171
 a39:=Tryz.isAgg171
 z39:=Tryz.sizeOf171
 v39:=Tryz.zeroValue171
 t45:=Tryz.underlying191
 a45:=Tryz.isAgg191
 z45:=Tryz.sizeOf191
 v45:=Tryz.zeroValue191
 t46:=Tryz.underlying192
 a46:=Tryz.isAgg192
 z46:=Tryz.sizeOf192
 v46:=Tryz.zeroValue192
 t50:=Tryz.underlying119
 a50:=Tryz.isAgg119
 z50:=Tryz.sizeOf119
 v50:=Tryz.zeroValue119
 t53:=Tryz.underlying198
 a53:=Tryz.isAgg198
 z53:=Tryz.sizeOf198
 v53:=Tryz.zeroValue198
 t55:=Tryz.underlying200
 a55:=Tryz.isAgg200
 z55:=Tryz.sizeOf200
 v55:=Tryz.zeroValue200
 t66:=Tryz.underlying231
 a66:=Tryz.isAgg231
 z66:=Tryz.sizeOf231
 v66:=Tryz.zeroValue231
 t70:=Tryz.underlying235
 a70:=Tryz.isAgg235
 z70:=Tryz.sizeOf235
 v70:=Tryz.zeroValue235
 t76:=Tryz.underlying258
 a76:=Tryz.isAgg258
 z76:=Tryz.sizeOf258
 v76:=Tryz.zeroValue258
 t77:=Tryz.underlying259
 a77:=Tryz.isAgg259
 z77:=Tryz.sizeOf259
 v77:=Tryz.zeroValue259 }
end
end Go.Proofs
namespace Go.Proofs.YtbmgmlbmgogeaaaGreat
section
open Go.RowKit Go.Maps Kal Go.Sort
def jw (w w':World):Prop:=∃ n os,w'=grow (w.drewN n) os
theorem jw.refl (w:World):jw w w:=⟨0,#[],by rw [grow_empty];rfl⟩
theorem jw.drew (h:jw w w'):jw w w'.drew:=by obtain ⟨n,os,rfl⟩:=h;exact ⟨n+1,os,rfl⟩
theorem jw.alloc (h:jw w w') (o:Obj):jw w (w'.alloc o):=by obtain ⟨n,os,rfl⟩:=h;exact ⟨n,os ++ #[o],by rw [alloc_eq_grow,grow_grow]⟩
theorem jw.trans {a b c:World} (h:jw a b) (g:jw b c):jw a c:=by
 obtain ⟨n,os,rfl⟩:=h;obtain ⟨m,os',rfl⟩:=g;exact ⟨n+m,os ++ os',by show grow (grow ((a.drewN n).drewN m) os) os'=_;rw [grow_grow,NP]⟩
theorem q0t (b c:Nat) (x y z:Int) (w:World) (hb:qK w b #[.int .i64 x,.int .i64 y,.int .i64 z]) :
  Calls Tryz.prog 93 #[.slice (some ⟨b,0,none⟩) 3 c] w λe w'=>e=.returned (.int .i64 (tX x y z))/\w'=w:=by
 have c0:w.cell? ⟨b,0,none⟩=some (.int .i64 x):=hb 0;have c1:w.cell? ⟨b,0+1,none⟩=some (.int .i64 y):=hb 1;have c2:w.cell? ⟨b,0+2,none⟩=some (.int .i64 z):=hb 2;clear hb
 go_in
 go_wp2
 go_loopw [8] (λi wr=>∃ k:Nat,k<=3/\i=.int .i64 k/\Hid ((0<k->x=0)/\(1<k->y=0)/\(2<k->z=0))/\wr=w) (λi _=>3-(intOf i).toNat)
 .exact ⟨0,ad,rfl,af ⟨ad,ad,ad⟩,rfl⟩
 obtain ⟨k,hk,rfl,HK,rfl⟩:=hrel;by_cases hlt:k<3
 .have cP:(k:Int)<3:=ad;obtain ⟨u,hu,hcell⟩:∃ u,Hid ((k=0->u=x)/\(k=1->u=y)/\(k=2->u=z))/\wr.cell? ⟨b,0+k,none⟩=some (.int .i64 u):=by
   match k,hlt with
   | 0,_=>exact ⟨x,af ⟨λ_=>rfl,ad,ad⟩,c0⟩
   | 1,_=>exact ⟨y,af ⟨ad,λ_=>rfl,ad⟩,c1⟩
   | 2,_=>exact ⟨z,af ⟨ad,ad,λ_=>rfl⟩,c2⟩
  simp only [S1] at hcell;clear c0 c1 c2;by_cases h0:u=0
  .have e0:(u == 0)=true:=by simpa using h0
   have e1:(u != 0)=false:=by simp [h0]
   have H0:=af h0;clear h0;go_wp2;go_roundw
   .refine ⟨k+1,ad,by go_num,af ?_,by first|rfl|trivial⟩;obtain ⟨g1,g2,g3⟩:=hu.o;obtain ⟨f1,f2,f3⟩:=HK.o;have:=H0.o;refine ⟨λh=>?_,λh=>?_,λh=>?_⟩
    .by_cases e:k=0
     .rw [<- g1 e];exact this
     exact f1 ad
    .by_cases e:k=1
     .rw [<- g2 e];exact this
     exact f2 ad
    by_cases e:k=2
    .rw [<- g3 e];exact this
    exact f3 ad
   simp [intOf];omega
  have e0:(u == 0)=false:=by simpa using h0
  have e1:(u != 0)=true:=by simp [h0]
  have H0:=af h0;clear h0;go_wp2;go_ret;refine ⟨qg ?_,rfl⟩;obtain ⟨g1,g2,g3⟩:=hu.o;obtain ⟨f1,f2,f3⟩:=HK.o;have h0:=H0.o;unfold tX
  match k,hlt with
  | 0,_=>rw [<- g1 rfl,if_pos h0]
  | 1,_=>rw [if_neg (by have:=f1 ad;omega),<- g2 rfl,if_pos h0]
  | 2,_=>rw [if_neg (by have:=f1 ad;omega),if_neg (by have:=f2 ad;omega),g3 rfl]
 obtain rfl:k=3:=ad;go_wp2;go_ret;refine ⟨qg ?_,rfl⟩;obtain ⟨f1,f2,f3⟩:=HK.o;unfold tX;rw [if_neg (by have:=f1 ad;omega),if_neg (by have:=f2 ad;omega),f3 ad]
theorem ty_ (x y:ai) (w:World) :
  Calls Tryz.prog 50 #[bQ x,bQ y] w λe w'=>e=.returned (.int .i64 (dH x y))/\∃ q os',w'=grow (w.drewN q) os':=by
 rw [<- Zk];obtain ⟨xd,xf,xt⟩:=x;obtain ⟨yd,yf,yt⟩:=y;have H1:=af (λW=>Cj xf yf W);have H2:=af (λW=>Cj xd yd W);have H3:=af (λW=>Cj xt yt W);have HO:=af (λb c p q r W h=>q0t b c p q r W h);show Calls _ _ #[.agg #[.int .i64 xd,.int .i64 xf,.int .i64 xt],.agg #[.int .i64 yd,.int .i64 yf,.int .i64 yt]] _ λe w'=>e=.returned (.int .i64 (tX (cV xf yf) (cV xd yd) (cV xt yt)))/\_;generalize cV xf yf=p at *;generalize cV xd yd=q at *;generalize cV xt yt=r at *
 go_in
 go_upto_region 1 with (fail)
 generalize hW:(w.alloc _).alloc _=w2;have hbx:ag w2 w.heap.size #[.int .i64 xd,.int .i64 xf,.int .i64 xt] 46:=by rw [<- hW];exact (ag.at rfl).alloc _
 have hby:ag w2 (w.heap.size+1) #[.int .i64 yd,.int .i64 yf,.int .i64 yt] 46:=by rw [<- hW];exact ag.at aj
 have x0:w2.cell? ⟨w.heap.size,0,none⟩=some (.int .i64 xd):=(hbx.cells 0).1;have x1:w2.cell? ⟨w.heap.size,1,none⟩=some (.int .i64 xf):=(hbx.cells 1).1;have x2:w2.cell? ⟨w.heap.size,2,none⟩=some (.int .i64 xt):=(hbx.cells 2).1;have y0:w2.cell? ⟨w.heap.size+1,0,none⟩=some (.int .i64 yd):=(hby.cells 0).1;have y1:w2.cell? ⟨w.heap.size+1,1,none⟩=some (.int .i64 yf):=(hby.cells 1).1;have y2:w2.cell? ⟨w.heap.size+1,2,none⟩=some (.int .i64 yt):=(hby.cells 2).1;have HW:=af hW;clear hW hbx hby;go_region_held3 (λw'=>jw w2 w'/\w'.cell? ⟨w.heap.size,0,none⟩=some (.int .i64 xd)/\w'.cell? ⟨w.heap.size,1,none⟩=some (.int .i64 xf)/\w'.cell? ⟨w.heap.size,2,none⟩=some (.int .i64 xt)/\w'.cell? ⟨w.heap.size+1,0,none⟩=some (.int .i64 yd)/\w'.cell? ⟨w.heap.size+1,1,none⟩=some (.int .i64 yf)/\w'.cell? ⟨w.heap.size+1,2,none⟩=some (.int .i64 yt))
  ((go_split_ands;repeat' (with_reducible first|assumption|exact jw.refl _|refine jw.drew ?_|refine jw.alloc ?_ _|refine Ac ?_|refine dW ?_ _|apply And.intro)))
  (first|(go_at_call 93;(refine (HO.o _ _ _ _ _ _ (λi=>((ag.drewB (ag.new _ _ _)).cells i).1)).mono ?_);rintro e w5 ⟨rfl,rfl⟩)|(go_at_call 94;(with_reducible refine (H1.o _).mono ?_);rintro e w3 ⟨rfl,rfl⟩)|(go_at_call 94;(with_reducible refine (H2.o _).mono ?_);rintro e w3 ⟨rfl,rfl⟩)|(go_at_call 94;(with_reducible refine (H3.o _).mono ?_);rintro e w3 ⟨rfl,rfl⟩))
 go_wp2
 go_ret;have h2:jw w w2:=by rw [<- HW.o];exact ((jw.refl w).alloc _).alloc _
 refine ⟨rfl,h2.trans ?_⟩
 repeat' (with_reducible first|assumption|exact jw.refl _|refine jw.drew ?_|refine jw.alloc ?_ _)
end
section
open Go.RowKit Go.Maps Kal
def b_ (W:World) (g:Nat) (D:List ai):Prop:=∀ i,i<D.length->(W.cell? ⟨g,i*3,none⟩=some (.int .i64 (D.getD i default).day)/\W.frozen? ⟨g,i*3,none⟩=false)/\(W.cell? ⟨g,i*3+1,none⟩=some (.int .i64 (D.getD i default).frm)/\W.frozen? ⟨g,i*3+1,none⟩=false)/\(W.cell? ⟨g,i*3+2,none⟩=some (.int .i64 (D.getD i default).fin)/\W.frozen? ⟨g,i*3+2,none⟩=false)
theorem b_.ext {D:List ai} (h:b_ W g D) (hb:Below W.heap.size W W'):b_ W' g D:=λi hi=>by
 obtain ⟨⟨a,b⟩,⟨c,d⟩,e,f⟩:=h i hi;exact ⟨⟨an.cell hb a,(an.frozen hb a).trans b⟩,⟨an.cell hb c,(an.frozen hb c).trans d⟩,an.cell hb e,(an.frozen hb e).trans f⟩
theorem b_.set {D:List ai} (h:b_ W g D) (hk:k<D.length) (x:ai) :
  b_ (((W.setCell ⟨g,k*3,none⟩ (.int .i64 x.day)).setCell ⟨g,k*3+1,none⟩ (.int .i64 x.frm)).setCell ⟨g,k*3+2,none⟩ (.int .i64 x.fin)) g (D.set k x):=λi hi=>by
 rw [OF] at hi;obtain ⟨⟨a,b⟩,⟨c,d⟩,e,f⟩:=h i hi;simp only [World.frozen?_setCell];by_cases hik:i=k
 .subst hik;have e1:(D.set i x).getD i default=x:=by rw [VS,List.getElem?_set_self hi];rfl
  rw [e1];exact ⟨⟨mK (mK (World.cell?_setCell_same _ _ _ a) ad _) ad _,b⟩,⟨mK (World.cell?_setCell_same _ _ _ (mK c ad _)) ad _,d⟩,World.cell?_setCell_same _ _ _ (mK (mK e ad _) ad _),f⟩
 have e1:(D.set k x).getD i default=D.getD i default:=by rw [VS,List.getElem?_set_ne (λe=>hik e.symm),<- VS]
 rw [e1];exact ⟨⟨mK (mK (mK a ad _) ad _) ad _,b⟩,⟨mK (mK (mK c ad _) ad _) ad _,d⟩,mK (mK (mK e ad _) ad _) ad _,f⟩
theorem b_.take {D:List ai} (h:b_ W g D) (k:Nat):b_ W g (D.take k):=λi hi=>by
 rw [MO] at hi;have e1:(D.take k).getD i default=D.getD i default:=by rw [VS,VS,LJ ad]
 rw [e1];exact h i ad
def ry (D:List ai):Prop:=D.Pairwise λx y=>x=y\/bo x y
theorem rC {D:List ai} (h:k<D.length):D.take (k+1)=D.take k ++ [D.getD k default]:=by
 rw [LF h,VS,U2 h];rfl
theorem ry.le {D:List ai} (h:ry D) {i:Nat} (gq:i<j) (hj:j<D.length):D.getD i default=D.getD j default\/bo (D.getD i default) (D.getD j default):=by
 rw [VS,VS,U2 ad,U2 hj];exact yJ.1 h i j ad hj gq
structure gy (D D1:List ai) (j k m:Nat):Prop where
 len:D1.length=D.length
 hk:j+1<=k/\k<=m
 hm:m<D.length
 asc:(D1.take k).Pairwise bo
 mem:∀ x,x∈D1.take k↔x∈D.take (m+1)
 rest:∀ i,m<=i->D1.getD i default=D.getD i default
 last:∃ l,D1.take k=l ++ [D.getD m default]
theorem gy.start {D:List ai} (hj:j+1<D.length) (ha:(D.take (j+1)).Pairwise bo) (he:D.getD (j+1) default=D.getD j default):gy D D j (j+1) (j+1):=
 ⟨rfl,⟨ad,ad⟩,hj,ha,λx=>by
  rw [rC hj,VJ,N2,he];refine ⟨.inl,λh=>h.elim id λh=>?_⟩;rw [h,rC ad];simp,λi _=>rfl,⟨D.take j,by rw [he];exact rC ad⟩⟩
theorem gy.same {D D1:List ai} {m:Nat} (h:gy D D1 j k m) (hm:m+1<D.length) (he:D.getD (m+1) default=D.getD m default):gy D D1 j k (m+1):=
 ⟨h.len,⟨h.hk.1,by have:=h.hk.2;omega⟩,hm,h.asc,λx=>by
  rw [h.mem,rC hm,VJ,N2,he];refine ⟨.inl,λg=>g.elim id λg=>?_⟩;rw [g,rC ad];simp,λi hi=>h.rest i ad,by rw [he];exact h.last⟩
theorem gy.step {D D1:List ai} {m:Nat} (hD:ry D) (h:gy D D1 j k m) (hm:m+1<D.length) (he:D.getD (m+1) default≠D.getD m default):gy D (D1.set k (D.getD (m+1) default)) j (k+1) (m+1):=by
 have lu:k<D1.length:=by have:=h.hk.2;have:=h.len;omega
 have e1:(D1.set k (D.getD (m+1) default)).take (k+1)=D1.take k ++ [D.getD (m+1) default]:=by
  rw [rC (by rw [OF];exact lu),List.take_set_of_le (TZ _),VS,List.getElem?_set_self lu];rfl
 have hlt:bo (D.getD m default) (D.getD (m+1) default):=(hD.le (Nat.lt_succ_self m) hm).resolve_left λe=>he e.symm;refine ⟨by rw [OF];exact h.len,⟨by have:=h.hk.1;omega,by have:=h.hk.2;omega⟩,hm,?_,λx=>?_,λi hi=>?_,⟨_,e1⟩⟩
 .rw [e1,N9];refine ⟨h.asc,aj,λx hx y hy=>?_⟩;rw [N2] at hy;subst hy;obtain ⟨l,hl⟩:=h.last;have hp:=h.asc;rw [hl,N9] at hp;rw [hl] at hx;rcases VJ.1 hx with hx|hx
  .exact (hp.2.2 x hx _ aj).trans hlt
  rw [N2] at hx;rw [hx];exact hlt
 .rw [e1,VJ,h.mem,rC hm,VJ]
 rw [VS,List.getElem?_set_ne (by have:=h.hk.2;omega),<- VS];exact h.rest i ad
theorem gy.fin {D D1:List ai} {m:Nat} (h:gy D D1 j k m) (hm:m+1=D.length):(D1.take k).Pairwise bo/\(∀ x,x∈D1.take k↔x∈D)/\(D1.take k).length=k:=
 ⟨h.asc,λx=>by rw [h.mem,hm,OC],by rw [MO];have:=h.hk.2;have:=h.hm;have:=h.len;omega⟩
theorem Vj:∀ (vs:List Value) (o:Nat) (B:World),A.grownBy B (some g)->A.grownBy (B.setCells g o vs) (some g)
 | [],_,_,h=>h
 | v :: r,o,B,h=>Vj r (o+1) _ (World.grownBy.set' h v)
theorem b_.cut {D:List ai} (h:b_ W g D) (hk:D.length<=k) (vs:List Value):b_ (W.setCells g (k*3) vs) g D:=λi hi=>by
 obtain ⟨⟨a,b⟩,⟨c,d⟩,e,f⟩:=h i hi;simp only [World.frozen?_setCells];exact ⟨⟨(World.cell?_setCells_out g _ _ _ _ (λ_ _=>.inl (by show i*3<k*3;omega))).trans a,b⟩,⟨(World.cell?_setCells_out g _ _ _ _ (λ_ _=>.inl (by show i*3+1<k*3;omega))).trans c,d⟩,(World.cell?_setCells_out g _ _ _ _ (λ_ _=>.inl (by show i*3+2<k*3;omega))).trans e,f⟩
theorem wz_ {q:Nat} (hv:v∈(Builtin.zeroCells (bQ ⟨0,0,0⟩).cells q).toList):v.oneCell'=true:=by
 simp [Builtin.zeroCells,Value.cells] at hv;obtain ⟨a,_,rfl⟩:=hv;have h3:a % 3=0\/a % 3=1\/a % 3=2:=ad;rcases h3 with h|h|h <;> rw [h] <;> rfl
theorem b_.flat {D:List ai} (h:b_ W g D) (hj:j<D.length*3):(W.cell? ⟨g,j,none⟩).isSome=true/\W.frozen? ⟨g,j,none⟩=false:=by
 obtain ⟨⟨a,b⟩,⟨c,d⟩,e,f⟩:=h (j / 3) ad;have h3:j=j / 3*3\/j=j / 3*3+1\/j=j / 3*3+2:=ad;rcases h3 with h3|h3|h3 <;> rw [h3]
 .exact ⟨by rw [a];rfl,b⟩
 .exact ⟨by rw [c];rfl,d⟩
 exact ⟨by rw [e];rfl,f⟩
theorem r5_ {P:Program} (w:World) (t e ty:TypeId) (z:Value) (ht:P.underlying t=some (.slice e)) (hv:∀ w,(zeroValue e).run P w=.ok z w) (m:Nat) (h1:∀ v∈(Builtin.zeroCells z.cells (m+1)).toList,v.oneCell'=true) (b o c:Nat)
  (hc:∀ j,j<(Builtin.zeroCells z.cells (m+1)).size->(w.cell? ⟨b,o+j,none⟩).isSome=true/\w.frozen? ⟨b,o+j,none⟩=false) :
  (Builtin.clear_ #[t] ty #[.slice (some ⟨b,o,none⟩) (m+1) c]).run P w=.ok (.tuple #[]) (w.setCells b o (Builtin.zeroCells z.cells (m+1)).toList):=by
 have hst:=run_storeCells_cells (P:=P) b o (Builtin.zeroCells z.cells (m+1)).toList 0 w (λj hj=>(hc j (by simpa using hj)).1) (λj hj=>(hc j (by simpa using hj)).2) h1;simp only [Nat.add_zero] at hst;simp [Builtin.clear_,run_underlying ht,hv,hst]
def q0v (D:List ai) (w:World) (g jj n:Nat) (kv mv:Value) (wr:World):Prop:=∃ (k p:Nat) (D1:List ai),kv=.int .i64 k/\mv=.int .i64 ((p:Int)+1)/\k<=n/\jj+1+(p+1)<=n/\Hid (gy D D1 jj k (jj+1+p))/\Hid (b_ wr g D1)/\Hid (w.grownBy wr (some g))
def s5_ (g cap:Nat) (D:List ai) (w:World) (e:Ending) (w':World):Prop:=∃ D',e=.returned (.slice (some ⟨g,0,none⟩) D'.length cap)/\D'.Pairwise bo/\(∀ x,x∈D'↔x∈D)/\D'.length<=D.length/\b_ w' g D'/\w.grownBy w' (some g)
theorem Sw (x y:ai) (W:World):(binOp .neq 46 (bQ x) (bQ y)).run Tryz.prog W=.ok (.bool (!decide (x=y))) W:=by
 have e:decide (x=y)=(decide (x.day=y.day) && (decide (x.frm=y.frm) && decide (x.fin=y.fin))):=by
  rw [ML];simp only [NU,OB];exact ⟨λh=>by subst h;exact ⟨rfl,rfl,rfl⟩,λh=>ai.ext' h.1 h.2.1 h.2.2⟩
 rw [e];simp [go_sem];by_cases h1:x.day=y.day <;> by_cases h2:x.frm=y.frm <;> by_cases h3:x.fin=y.fin <;> simp [h1,h2,h3]
theorem Vh (a:Option Addr) (n c:Nat) (w:World) (h:n<2):Calls Tryz.prog 68 #[.slice a n c] w λe w'=>e=.returned (.slice a n c)/\w'=w:=by
 have hI:(n:Int)<2:=ad
 go_in
 go_wp2
 go_ret;exact ⟨rfl,rfl⟩
theorem ot_ (g cap:Nat) (D:List ai) (w:World) (hD:ry D) (hn:D.length<=1000000) (h2:2<=D.length) (hc:D.length<=cap) (hc2:cap<=9223372036854775807) (h:b_ w g D) (hg:g<w.heap.size) :
  Calls Tryz.prog 68 #[.slice (some ⟨g,0,none⟩) D.length cap] w (s5_ g cap D w):=by
 have HD:=af hD;have H:=af h;obtain ⟨n,hn'⟩:∃ n,D.length=n:=⟨_,rfl⟩;rw [hn'] at hn h2 hc ⊢;have HL:=af hn';have Fv:¬ (n:Int)<2:=ad;clear hD h hn'
 go_in
 go_wp2_with fail
 clear Fv;go_loopw [3] (λkv wr=>∃ jj:Nat,jj<n/\kv=.int .i64 ((jj:Int)+1)/\Hid ((D.take (jj+1)).Pairwise bo)/\Hid (Below w.heap.size w wr)) (λkv _=>n-(intOf kv).toNat)
 .exact ⟨0,ad,rfl,af (by rw [rC (by rw [HL.o];omega)];simp),af (JV _ _)⟩
 obtain ⟨jj,hj,rfl,HA,HB⟩:=hrel;obtain ⟨wk,nZ⟩:∃ x,x=wr:=⟨_,rfl⟩;subst nZ;by_cases hlt:jj+1<n
 .have cP:(jj:Int)+1<n:=ad;obtain ⟨⟨x0,-⟩,⟨x1,-⟩,x2,-⟩:=(H.o.ext HB.o) (jj+1) (by rw [HL.o];omega);obtain ⟨⟨y0,-⟩,⟨y1,-⟩,y2,-⟩:=(H.o.ext HB.o) jj (by rw [HL.o];omega);obtain ⟨x,hx⟩:∃ x,D.getD (jj+1) default=x:=⟨_,rfl⟩;obtain ⟨y,hy⟩:∃ y,D.getD jj default=y:=⟨_,rfl⟩;rw [hx] at x0 x1 x2;rw [hy] at y0 y1 y2;have HX:=af hx;have HY:=af hy;obtain ⟨q,hq⟩:∃ q,decide (x=y)=q:=⟨_,rfl⟩;have HQ:=af hq;have heq:=λW=>Fc x y W;rw [hq] at heq;clear hx hy hq;go_upto_region 6 with fail
  refine jE (w0:=wk) [0,1,2,3,4,5,6,7,8,9] [] (λv=>⟨#[.slice (some ⟨g,0,none⟩) n cap,undef,u2,.int .i64 (↑jj+1),u4,u5,.slice (some ⟨g,0,none⟩) n cap,.int .i64 ↑n,.bool false,undef,.int .i64 (↑jj+1),.slice (some ⟨g,0,none⟩) n cap,.int .i64 ↑n,.bool true,u14,u15,v 0,v 1,v 2,v 3,v 4,v 5,v 6,v 7,v 8,v 9,u26,u27,u28,u29,u30,u31,u32,u33,u34,u35,u36,u37,u38,u39,u40,u41,u42,u43,u44,u45,u46,u47,u48,u49,u50,u51,u52,u53,u54,u55,u56,u57,u58,u59,undef],[]⟩) [.slice (some ⟨g,0,none⟩) n cap,.int .i64 ((jj:Int)+1),.pointer (some ⟨g,(jj+1)*3,none⟩),.agg #[.int .i64 x.day,.int .i64 x.frm,.int .i64 x.fin],.slice (some ⟨g,0,none⟩) n cap,.int .i64 ((jj:Int)+1),.int .i64 (jj:Int),.pointer (some ⟨g,jj*3,none⟩),.agg #[.int .i64 y.day,.int .i64 y.frm,.int .i64 y.fin],.bool q] (λW=>W.cell? ⟨g,(jj+1)*3,none⟩=some (.int .i64 x.day)/\W.cell? ⟨g,(jj+1)*3+1,none⟩=some (.int .i64 x.frm)/\W.cell? ⟨g,(jj+1)*3+2,none⟩=some (.int .i64 x.fin)/\W.cell? ⟨g,jj*3,none⟩=some (.int .i64 y.day)/\W.cell? ⟨g,jj*3+1,none⟩=some (.int .i64 y.frm)/\W.cell? ⟨g,jj*3+2,none⟩=some (.int .i64 y.fin)) (λW hb=>⟨an.cell hb x0,an.cell hb x1,an.cell hb x2,an.cell hb y0,an.cell hb y1,an.cell hb y2⟩) ?steps ?fin (λj=>match j with|0=>u16|1=>u17|2=>u18|3=>u19|4=>u20|5=>u21|6=>u22|7=>u23|8=>u24|9=>u25|_=>undef)
  case steps=>
   refine .c [] rfl ?_ (.c [] rfl ?_ (.c [0,1] rfl ?_ (.c [2] rfl ?_ (.c [] rfl ?_ (.c [] rfl ?_ (.c [5] rfl ?_ (.c [4,6] rfl ?_ (.c [7] rfl ?_ (.c [3,8] rfl ?_ (.n))))))))));all_goals try exact jX
  case fin=>
   rintro W3 hb3 ⟨g0,g1,g2,g3,g4,g5⟩;show wpList _ _ _ [] _ _;simp only [aD];have cq:=af (Et HB.o hb3);clear g0 g1 g2 g3 g4 g5 x0 x1 x2 y0 y1 y2 hb3 heq;cases q
   .have jg:Hid ((D.take (jj+1+1)).Pairwise bo):=af (by
     have hne:x≠y:=NH HQ.o;have hlt2:bo y x:=by
      have h1:=HD.o.le (Nat.lt_succ_self jj) (by rw [HL.o];exact hlt);rw [HY.o,HX.o] at h1;exact h1.resolve_left λe=>hne e.symm
     have h1:=HA.o;rw [rC (by rw [HL.o];omega),HY.o] at h1;rw [rC (by rw [HL.o];omega),HX.o,rC (by rw [HL.o];omega),HY.o,N9];refine ⟨h1,aj,λz hz u hu=>?_⟩;rw [N2] at hu;subst hu;rw [N9] at h1;rcases VJ.1 hz with hz|hz
     .exact (h1.2.2 z hz _ aj).trans hlt2
     rw [N2] at hz;rw [hz];exact hlt2)
    go_wp2
    go_roundw
    .exact ⟨jj+1,hlt,by go_num,jg,cq⟩
    simp [intOf];omega
   have Lj:Hid (gy D D jj (jj+1) (jj+1)):=af (gy.start (by rw [HL.o];exact hlt) HA.o (by rw [HX.o,HY.o];exact LX HQ.o));clear cP;have mR:jj+1<=cap:=ad;go_wp2_with fail;obtain ⟨r,hr⟩:∃ r,n-(jj+1)=r:=⟨_,rfl⟩;obtain ⟨rc,q6u⟩:∃ r,cap-(jj+1)=r:=⟨_,rfl⟩;rw [hr,q6u];have ME:Hid (n=jj+1+r):=af ad;have hr1:0<r:=ad;have Iy:=af (World.grownBy.of_below cq.o (some g));have HU3:=af (H.o.ext cq.o);clear hr q6u mR;go_loopw [3,5] (λkv mv wr=>q0v D w g jj n kv mv wr) (λ_ mv _=>r-(intOf mv).toNat)
   .exact ⟨jj+1,0,D,by go_num,by go_num,ad,ad,Lj,HU3,Iy⟩
   obtain ⟨k,p,D1,rfl,rfl,hkn,hpn,HC,HU,HG⟩:=hrel;obtain ⟨wq,Bz⟩:∃ x,x=wr:=⟨_,rfl⟩;subst Bz;by_cases GV:p+1<r
   .have Vx:(p:Int)+1<r:=ad;have pF:=ME.o;have tF:=HC.o.len;have GX:=HC.o.rest (jj+1+p+1) ad;have GY:=HC.o.rest (jj+1+p) ad;obtain ⟨⟨x0,-⟩,⟨x1,-⟩,S4,-⟩:=HU.o (jj+1+p+1) (by rw [tF,HL.o];omega);obtain ⟨⟨y0,-⟩,⟨y1,-⟩,S9,-⟩:=HU.o (jj+1+p) (by rw [tF,HL.o];omega);obtain ⟨x2,hx⟩:∃ x,D.getD (jj+1+p+1) default=x:=⟨_,rfl⟩;obtain ⟨y2,hy⟩:∃ y,D.getD (jj+1+p) default=y:=⟨_,rfl⟩;rw [GX,hx,show (jj+1+p+1)*3=(jj+1)*3+(p+1)*3 from by omega] at x0 x1 S4;rw [GY,hy,show (jj+1+p)*3=(jj+1)*3+p*3 from by omega] at y0 y1 S9;have fX:=af hx;have Ug:=af hy;obtain ⟨nq,QY⟩:∃ q,(!decide (x2=y2))=q:=⟨_,rfl⟩;have TW:=af QY;have GP:=λW=>Sw x2 y2 W;rw [QY] at GP;clear hx hy QY GX GY tF pF;go_upto_region 11 with fail
    refine jE (w0:=wq) [0,1,2,3,4,5,6,7,8,9] [] (λv=>⟨#[.slice (some ⟨g,0,none⟩) n cap,undef,u2,.int .i64 ↑k,.slice (some ⟨g,(jj+1)*3,none⟩) r rc,.int .i64 (↑p+1),.slice (some ⟨g,0,none⟩) n cap,.int .i64 ↑n,.bool false,undef,.int .i64 (↑jj+1),.slice (some ⟨g,0,none⟩) n cap,.int .i64 ↑n,.bool true,u14,u15,.slice (some ⟨g,0,none⟩) n cap,.int .i64 (↑jj+1),.pointer (some ⟨g,(jj+1)*3,none⟩),.agg #[.int .i64 x.day,.int .i64 x.frm,.int .i64 x.fin],.slice (some ⟨g,0,none⟩) n cap,.int .i64 (↑jj+1),.int .i64 ↑jj,.pointer (some ⟨g,jj*3,none⟩),.agg #[.int .i64 y.day,.int .i64 y.frm,.int .i64 y.fin],.bool true,.slice (some ⟨g,0,none⟩) n cap,.int .i64 (↑jj+1),.slice (some ⟨g,(jj+1)*3,none⟩) r rc,.int .i64 (↑p+1),.slice (some ⟨g,(jj+1)*3,none⟩) r rc,.int .i64 ↑r,.bool true,u33,u34,v 0,v 1,v 2,v 3,v 4,v 5,v 6,v 7,v 8,v 9,u45,u46,u47,u48,u49,u50,u51,u52,u53,u54,u55,u56,u57,u58,u59,undef],[]⟩) [.slice (some ⟨g,(jj+1)*3,none⟩) r rc,.int .i64 ((p:Int)+1),.pointer (some ⟨g,(jj+1)*3+(p+1)*3,none⟩),.agg #[.int .i64 x2.day,.int .i64 x2.frm,.int .i64 x2.fin],.slice (some ⟨g,(jj+1)*3,none⟩) r rc,.int .i64 ((p:Int)+1),.int .i64 (p:Int),.pointer (some ⟨g,(jj+1)*3+p*3,none⟩),.agg #[.int .i64 y2.day,.int .i64 y2.frm,.int .i64 y2.fin],.bool nq] (λW=>W.cell? ⟨g,(jj+1)*3+(p+1)*3,none⟩=some (.int .i64 x2.day)/\W.cell? ⟨g,(jj+1)*3+(p+1)*3+1,none⟩=some (.int .i64 x2.frm)/\W.cell? ⟨g,(jj+1)*3+(p+1)*3+2,none⟩=some (.int .i64 x2.fin)/\W.cell? ⟨g,(jj+1)*3+p*3,none⟩=some (.int .i64 y2.day)/\W.cell? ⟨g,(jj+1)*3+p*3+1,none⟩=some (.int .i64 y2.frm)/\W.cell? ⟨g,(jj+1)*3+p*3+2,none⟩=some (.int .i64 y2.fin)) (λW hb=>⟨an.cell hb x0,an.cell hb x1,an.cell hb S4,an.cell hb y0,an.cell hb y1,an.cell hb S9⟩) ?steps11 ?fin11 (λj=>match j with|0=>u35|1=>u36|2=>u37|3=>u38|4=>u39|5=>u40|6=>u41|7=>u42|8=>u43|9=>u44|_=>undef)
    case steps11=>
     refine .c [] rfl ?_ (.c [] rfl ?_ (.c [0,1] rfl ?_ (.c [2] rfl ?_ (.c [] rfl ?_ (.c [] rfl ?_ (.c [5] rfl ?_ (.c [4,6] rfl ?_ (.c [7] rfl ?_ (.c [3,8] rfl ?_ (.n))))))))));all_goals try exact jX
    case fin11=>
     rintro W4 hb4 ⟨g0,g1,g2,g3,g4,g5⟩;show wpList _ _ _ [] _ _;simp only [aD];have cR:=af hb4;have MU:=af (HU.o.ext hb4);have zl:=af (World.grownBy.trans' HG.o (World.grownBy.of_below hb4 _));have JZ:=HC.o.hk;have pF:=ME.o;clear x0 x1 S4 y0 y1 S9 hb4 GP g3 g4 g5;cases nq
     .have ie:=af (HC.o.same (by rw [HL.o];omega) (by rw [fX.o,Ug.o];exact LX (by simpa using TW.o)));have hle:jj+1+(p+1+1)<=n:=ad;clear pF g0 g1 g2;go_wp2;go_roundw
      .exact ⟨k,p+1,D1,rfl,by go_num,hkn,hle,ie,MU,zl⟩
      simp [intOf];omega
     have ie:=af (HC.o.step HD.o (by rw [HL.o];omega) (by rw [fX.o,Ug.o];exact NH (by simpa using TW.o)));have hle:jj+1+(p+1+1)<=n:=ad;have sq:k+1<=n:=ad;have QF:k<D1.length:=by rw [HC.o.len,HL.o];omega
     obtain ⟨⟨u0,v0⟩,⟨u1,v1⟩,u2',v2⟩:=MU.o k QF;rw [fX.o] at ie;have HUS:=af (MU.o.set QF x2);have fg:(k:Int)<n:=ad;clear pF QF;go_wp2;go_roundw
     .exact ⟨k+1,p+1,D1.set k x2,by go_num,by go_num,sq,hle,ie,HUS,af (World.grownBy.set' (World.grownBy.set' (World.grownBy.set' zl.o _) _) _)⟩
     simp [intOf];omega
   have pF:=ME.o;obtain rfl:p+1=r:=ad;have Vx:¬ (p:Int)+1<((p+1:Nat):Int):=ad;obtain ⟨f1,f2,f3⟩:=HC.o.fin (by rw [HL.o];omega);have CZ:n-k=n-k:=rfl;have sq:=HC.o.hk;have tF:=HC.o.len;obtain ⟨q,hq⟩:∃ q,n-k=q+1:=⟨n-k-1,ad⟩;obtain ⟨iI,i1,i2,i3,i4⟩:=KC;have hcl:∀ ty,(Builtin.clear_ #[41] ty #[.slice (some ⟨g,k*3,none⟩) (n-k) (cap-k)]).run Tryz.prog wq=.ok (.tuple #[]) (wq.setCells g (k*3) (Builtin.zeroCells (bQ ⟨0,0,0⟩).cells (q+1)).toList):=λty=>by
    rw [hq];refine r5_ wq _ _ ty _ rfl (RO i1 i2) q ?_ g (k*3) (cap-k) λj hj=>?_
    .intro v hv;exact wz_ hv
    have CR:j<(q+1)*3:=by simpa [Builtin.zeroCells,Value.cells] using hj
    exact HU.o.flat (by rw [tF,HL.o];omega)
   have HF:=af (And.intro f1 (And.intro f2 f3));have hkn2:k<n:=ad;clear f1 f2 f3 i1 i2 i3 i4 pF hq CZ sq tF;go_wp2;refine VN (v:=.slice (some ⟨g,0,none⟩) k cap) (by simp [results,Tryz.results68,go_sem]) rfl ?_;exact ⟨D1.take k,by rw [HF.o.2.2],HF.o.1,HF.o.2.1,by rw [HF.o.2.2,HL.o];omega,(HU.o.take k).cut (by rw [HF.o.2.2];exact TZ _) _,Vj _ _ _ HG.o⟩
 obtain rfl:jj+1=n:=ad;have cP:¬ (jj:Int)+1<((jj+1:Nat):Int):=ad;go_wp2;refine VN (v:=.slice (some ⟨g,0,none⟩) (jj+1) cap) (by simp [results,Tryz.results68,go_sem]) rfl ?_;exact ⟨D,by rw [HL.o],by have:=HA.o;rwa [PM (by rw [HL.o];exact TZ _)] at this,λ_=>MT,TZ _,H.o.ext HB.o,World.grownBy.of_below HB.o _⟩
end
section
open Go.RowKit Go.Maps Kal Go.Sort Go.Shelf
theorem Af (x y:ai):ltOf dH x y=decide (bo x y):=by
 unfold ltOf;rw [ML,QN,QN,Ku]
theorem q1x:SWO (ltOf dH) where
 irrefl x:=by rw [Af];exact P9 bo.irrefl
 trans x y z h1 h2:=by
  rw [Af] at *;exact PH ((LX h1).trans (LX h2))
 ntrans x y z h1 h2:=by
  rw [Af] at *;have h1:=NH h1;have h2:=NH h2;refine P9 ?_;unfold bo at *;omega
theorem q0q (x y:ai) (h1:ltOf dH x y=false) (h2:ltOf dH y x=false):x=y:=by
 rw [Af] at h1 h2;exact bo.eq_of (NH h1) (NH h2)
noncomputable def jW (D:List ai):List ai:=D.mergeSort λx y=>!(ltOf dH y x)
theorem X4 (D:List ai):(jW D).Perm D:=List.mergeSort_perm _ _
theorem YU (D:List ai):ry (jW D):=by
 have h:(jW D).Pairwise (λx y=>(!(ltOf dH y x))=true):=List.pairwise_mergeSort (λx y z h1 h2=>by
  simp only [Af,Bool.not_eq_true',YW] at *;unfold bo at *;omega) (λx y=>by
  simp only [Af,V6,Bool.not_eq_true',YW];unfold bo;omega) D
 refine h.imp λ{x y} oR=>?_;simp only [Af,Bool.not_eq_true',YW] at oR;rcases bo.tri x y with h1|h1|h1
 .exact .inr h1
 .exact .inl h1
 exact absurd h1 oR
theorem Xe {D:List ai} (h:b_ W g D):HoldsK bH 3 W g 0 D.toArray:=λj hj=>by
 rw [size_flatK] at hj;have hj':j<D.length*3:=by simpa using hj
 obtain ⟨⟨a,b⟩,⟨c,d⟩,e,f⟩:=h (j / 3) ad;have hg:D.toArray[j / 3]! = D.getD (j / 3) default:=by simp [VS,List.getElem!_eq_getElem?_getD]
 rw [get_flatK _ _ _ _ hj,hg,S1];have h3:j % 3=0\/j % 3=1\/j % 3=2:=ad;rcases h3 with h3|h3|h3 <;> rw [h3]
 .have e1:j=j / 3*3:=ad;exact ⟨(congrArg (λo=>W.cell? ⟨g,o,none⟩) e1).trans a,(congrArg (λo=>W.frozen? ⟨g,o,none⟩) e1).trans b⟩
 .have e1:j=j / 3*3+1:=ad;exact ⟨(congrArg (λo=>W.cell? ⟨g,o,none⟩) e1).trans c,(congrArg (λo=>W.frozen? ⟨g,o,none⟩) e1).trans d⟩
 have e1:j=j / 3*3+2:=ad;exact ⟨(congrArg (λo=>W.cell? ⟨g,o,none⟩) e1).trans e,(congrArg (λo=>W.frozen? ⟨g,o,none⟩) e1).trans f⟩
theorem t8_ {D:List ai} (h:HoldsK bH 3 W g 0 D.toArray):b_ W g D:=λi hi=>by
 have hi':i<D.toArray.size:=by simpa using hi
 have hg:D.toArray[i]! = D.getD i default:=by simp [VS,List.getElem!_eq_getElem?_getD]
 have h0:=h.cell hi' (c:=0) ad;have h1:=h.cell hi' (c:=1) ad;have h2:=h.cell hi' (c:=2) ad;rw [hg,S1] at h0 h1 h2;exact ⟨h0,h1,h2⟩
theorem m2_ (w:World) (g n:Nat) (d:Array ai) (os:Array Obj):w.grownBy (sortWorldK bH 3 w g 0 n d os) (some g):=by
 unfold sortWorldK putRowK;refine ⟨rfl,rfl,rfl,by simp only [Go.Sort.grow,putRow,mapBlock,ahead,Array.size_append,Array.size_modify];exact Nat.le_add_right _ _,λk hk hne=>?_⟩;have hkg:k≠g:=λe=>hne (by rw [e]);simp only [Go.Sort.grow,putRow,mapBlock,ahead];rw [Array.getElem?_append_left (by simpa using hk),Array.getElem?_modify,if_neg (λe=>hkg e.symm)];rfl
theorem wk_ (g cap:Nat) (D:List ai) (w:World) (h:b_ w g D) (hg:g<w.heap.size) (hn:D.length<4611686018427387904) :
  Calls Tryz.prog 67 #[.slice (some ⟨g,0,none⟩) D.length cap,.func (.func 50) #[] #[]] w λe w'=>e=.returned (.tuple #[])/\b_ w' g (jW D)/\w.grownBy w' (some g):=by
 have eg:∀ args w,(callFunc 50 args).run Tryz.prog w=.ok (.enter 50 args) w:=enters_of Tryz.func50 (by kernel_rfl) rfl;have hcon:=AnyQ.slices_SortFunc_total Tryz.sortI 3 Tryz.isAgg46 Tryz.sizeOf46 bH (λ_=>rfl) (λx v hv=>by simp [bH] at hv;rcases hv with rfl|rfl|rfl <;> rfl) dH q1x 50 #[] g 0 cap D.toArray w eg (λm os dk _ x y=>ty_ x y _) (Xe h) hg (by simpa using hn) q0q;rw [NG] at hcon;change Calls Tryz.prog 67 _ _ _ at hcon;refine hcon.mono λe w' ⟨he,n,os,hw⟩=>⟨he,?_,hw ▸ m2_ w g n _ os⟩;rw [hw];exact t8_ (holdsK_sortWorldK bH 3 w g 0 n D.toArray _ os hg (Xe h) (by simp [List.length_mergeSort]))
end
end Go.Proofs.YtbmgmlbmgogeaaaGreat
end
namespace Go
section
open Go.RowKit
variable {P:Program} {ops:Array Oper} {md:Region.Mode} {Q:Exit->Act->World->Prop} {w0:World} {l:Nat}
theorem uponIn_round {o:Oper} {a:Act} {K:Act->World->Prop} {r:Result Next} (h:o.upon P a K Q r):o.uponIn (Fence.wide.inRound l) 0 P a K Q r:=by
 cases r with
 | ok x w'=>
  cases x with
  | enter f args=>exact ⟨λh=>(by cases h),LM l ((VL (n:=0)).2 h)⟩
  | row row args=>exact ⟨λh=>(by cases h),λc cs _=>(h c cs).elim λv h=>h.elim λw h=>⟨v,w,h.1,stepsIn_wide.2 h.2⟩⟩
  | _=>first|exact h|exact h.elim
 | halt c w'=>cases c <;> first|exact h|exact h.elim
theorem q9_ (hd:∀ o∈ops,∀ c,o.op≠.defer c) (hQ:¬ LetsOut Q) {i:Nat} {K K':Act->World->Prop} {a:Act} {w:World} (hK:∀ a w,K a w->K' a w) (h:wpOp P ops Q i K a w):wpOpIn (Fence.wide.inRound l) 0 P ops Q i K' a w:=by
 refine wpOpIn_mono hK ?_;unfold wpOp at h;unfold wpOpIn;cases ho:ops[i]? with
 | none=>simp only [ho] at h;exact h
 | some o=>
  simp only [ho] at h ⊢
  split
  .rename_i hw;rw [if_pos hw] at h;rcases h with h|h
   .refine ⟨λ_ _=>trivial,?_⟩;rw [Oper.semAt_eq _ _ _ (hd o (Array.mem_of_getElem? ho))];exact uponIn_round h
   exact absurd h.2 hQ
  rename_i hw;rw [if_neg hw] at h;exact ⟨λ_ _=>trivial,h⟩
theorem Wg (hd:∀ o∈ops,∀ c,o.op≠.defer c) (hQ:¬ LetsOut Q):∀ (fuel:Nat) (li:Array Bool) (a:Act) (w:World),wpAny P md ops Q fuel li a w->wpAnyIn (Fence.wide.inRound l) 0 P md ops Q fuel li a w
 | 0,li,a,w,h=>h
 | n+1,li,a,w,h=>⟨h.1,λi hi=>q9_ hd hQ (λa w=>Wg hd hQ n _ a w) (h.2 i hi)⟩
theorem o3_ {id:Nat} {a:Act} (ph tl:List Nat) (fr:(Nat->Value)->Act) (x:List Value) (cs:List Nat) (G:qL) (S:World->Prop)
  (hS:∀ W,Below w0.heap.size w0 W->S W)
  (stab:gD (λk=>∀ v lo hi W W',G k v lo hi W->Below W.heap.size W W'->G k v lo hi W') cs)
  (loc:gD (λk=>∀ v v' lo lo' hi hi' W,(∀ j,j=k\/j∈Region.deps .any ops k->v j=v' j/\lo j=lo' j/\hi j=hi' j)->G k v lo hi W->G k v' lo' hi' W) cs)
  (steps:rF P .any ops Q w0 fr x cs G S ph)
  (fin:∀ (v:Nat->Value) (lo hi:Nat->Nat) (W:World),Below w0.heap.size w0 W->S W->(∀ i,ph.contains i=true->w0.heap.size<=lo i/\lo i<=hi i/\hi i<=W.heap.size/\iS x cs G i v lo hi W)->
   (∀ i j,ph.contains i=true->ph.contains j=true->i≠j->hi i<=lo j\/hi j<=lo i)->wpList P ops Q (tl.filterMap λi=>ops[i]?) (fr v) W)
  (v0:Nat->Value:=λ_=>undef) (ha:a=fr v0:=by rfl) (gH:P.follows .mixedOrders=true:=by rfl) (hc:Region.chkH .any ops ph tl=true:=by kernel_rfl) (fT:ph.Nodup:=by decide)
  (hd:∀ o∈ops,∀ c,o.op≠.defer c:=by simp) (hQ:¬ LetsOut Q:=by rintro ⟨_,_,h⟩;exact h):(Code.region id ops true).wpIn (Fence.wide.inRound l) 0 P Q a w0:=by
 refine wpIn_region_any gH (Wg hd hQ _ _ _ _ ?_);refine Wp (w0:=w0) (F:=iS x cs G) hc fT (λi v lo hi W W' h hb=>by
   unfold iS at h ⊢;cases e:cs.contains i with
   | true=>rw [e] at h;exact stab.get i e v lo hi W W' h hb
   | false=>rw [e] at h;exact h) (λi v v' lo lo' hi hi' W aA h=>by
   unfold iS at h ⊢;cases e:cs.contains i with
   | true=>rw [e] at h;exact loc.get i e v v' lo lo' hi hi' W aA h
   | false=>rw [e] at h;exact (aA i (.inl rfl)).1 ▸ h) hS steps.to fin ops.size _ [] v0 (λ_=>0) (λ_=>0) a _ ⟨aj,λi=>?_,.nil,aj,λi hi'=>?_,ha,(JV _ _).drew,aj,aj⟩ aj
 .simp [Array.getD]
 exfalso;revert hi';simp [Array.getD]
end
end Go
namespace Go.Proofs.YtbmgmlbmgogeaaaGreat
section
open Go.RowKit Go.Maps Kal Go.Shelf
theorem cells_of_cell {W:World} {p:Addr} {v:Value} (h:W.cell? p=some v):∃ o:Obj,W.heap[p.block]? = some o/\o.isCells=true:=by
 unfold World.cell? at h
 split at h
 .rename_i c t f ho;exact ⟨_,ho,rfl⟩
 cases h
section
variable {α:Type} {e:TypeId} {sz:Nat} {enc:α->List Value} {R:World->(Nat->Prop)->α->Prop} {B:Nat} {A:Nat->Prop} {W W':World} {v:Value} {L:List α}
theorem aN.cells (h:aN e sz enc R B A W v L):∀ r,v.ownBlock=some r->∃ o:Obj,W.heap[r]? = some o/\o.isCells=true:=by
 intro r hr;obtain ⟨_,⟨rfl,_⟩|⟨g,cap,cur,rfl,_,hh,_⟩⟩:=h.row
 .cases hr
 obtain rfl:g=r:=by simpa [Value.ownBlock] using hr
 exact ⟨_,hh,rfl⟩
end
theorem u4_ {B:Nat} {A:Nat->Prop} {W W':World} {v:Value} {D:List ai} {row:Option Nat} (h:dO B A W v D) (hg:W.grownBy W' row) (hr:∀ k,row=some k->v.ownBlock≠some k):dO B A W' v D:=
 ⟨h.row.kept hg (by
  cases row with
  | none=>cases v.ownBlock <;> simp
  | some k=>exact .inr (hr k rfl)),h.all,h.ne,h.len⟩
theorem aN.insU {B g:Nat} {A:Nat->Prop} {W:World} {n cap:Nat} {D:List ai} (h:dO B A W (.slice (some ⟨g,0,none⟩) n cap) D):b_ W g D/\n=D.length/\D.length<=cap/\cap<=9223372036854775807/\B<=g/\g<W.heap.size:=by
 have hlt:=h.row.lt g rfl;obtain ⟨hl,⟨he,_⟩|⟨g',cap',cur,he,hb,hh,h3,h4,h5,h6⟩⟩:=h.row
 .cases he
 cases he;refine ⟨λi hi=>?_,rfl,h3,h4,hlt.1,hlt.2⟩;have hf:∀ o,W.frozen? ⟨g,o,none⟩=false:=λo=>by simp [World.frozen?,hh]
 have hc:∀ j u,j<3->(bH (D.getD i default))[j]? = some u->W.cell? ⟨g,i*3+j,none⟩=some u:=λj u hj hu=>by
  have h7:=k_ (f:=bH) xG default hi hu;have h8:=h.row.cellAt (i*3+j) ad;exact h8.trans h7
 exact ⟨⟨hc 0 _ ad rfl,hf _⟩,⟨hc 1 _ ad rfl,hf _⟩,hc 2 _ ad rfl,hf _⟩
theorem b_.extL {W:World} {g cap:Nat} {D:List ai} (h:b_ W g D) (F:Nat->Prop) (hF:F g) (hg:g<W.heap.size) (h1:D.length<=cap) (h2:cap<=9223372036854775807) (hn:D.length<=4398046511104) (hI:∀ x∈D,jB x):bZ W F (.slice (some ⟨g,0,none⟩) D.length cap) D:=
 ⟨⟨_,cap,rfl,h1,h2,.inr ⟨g,0,rfl,hF,hg,λi u hi=>by
  have hi':=(GD.1 hi).1;rw [Co xG] at hi';obtain ⟨⟨a,_⟩,⟨c,_⟩,e,_⟩:=h (i / 3) ad;have hx:∃ u',(bH (D.getD (i / 3) default))[i % 3]? = some u':=⟨_,U2 (by rw [xG];omega)⟩;obtain ⟨u',tT⟩:=hx;have h7:=k_ (f:=bH) xG default (by omega:i / 3<D.length) tT;have e3:i / 3*3+i % 3=i:=ad;rw [e3,hi] at h7;cases h7;rw [S1];have h3:i % 3=0\/i % 3=1\/i % 3=2:=ad;rcases h3 with h3|h3|h3 <;> rw [h3] at tT <;> cases tT
  .have e0:i=i / 3*3:=ad;exact (congrArg (λo=>W.cell? ⟨g,o,none⟩) e0).trans a
  .have e0:i=i / 3*3+1:=ad;exact (congrArg (λo=>W.cell? ⟨g,o,none⟩) e0).trans c
  have e0:i=i / 3*3+2:=ad;exact (congrArg (λo=>W.cell? ⟨g,o,none⟩) e0).trans e⟩⟩,ad,hI⟩
theorem b_.at_ {W W':World} {g:Nat} {D:List ai} (h:b_ W g D) (e:W'.heap[g]? = W.heap[g]?):b_ W' g D:=λi hi=>by
 obtain ⟨⟨a,b⟩,⟨c,d⟩,f,k⟩:=h i hi;exact ⟨⟨(QM e).trans a,(World.frozen?_of_block e).trans b⟩,⟨(QM e).trans c,(World.frozen?_of_block e).trans d⟩,(QM e).trans f,(World.frozen?_of_block e).trans k⟩
theorem b_.isCells {W:World} {g:Nat} {D:List ai} (h:b_ W g D) (hD:0<D.length):∃ o:Obj,W.heap[g]? = some o/\o.isCells=true:=cells_of_cell (h 0 hD).1.1
theorem b_.extF {W W':World} {g cap:Nat} {D:List ai} (h:b_ W g D) (hs:∀ o,W.heap[g]? = some o->o.isCells=true->W'.heap[g]? = some o) (h1:D.length<=cap) (h2:cap<=9223372036854775807) (hn:D.length<=1000000) (hI:∀ x∈D,jB x) {B:Nat} (hB:B<=g):bZ W' (λb=>B<=b) (.slice (some ⟨g,0,none⟩) D.length cap) D:=by
 rcases NR D.length with h0|h0
 .exact ⟨⟨_,cap,rfl,h1,h2,.inl h0⟩,ad,hI⟩
 obtain ⟨o,g1,g2⟩:=h.isCells h0;have g3:=hs o g1 g2;exact (h.at_ (g3.trans g1.symm)).extL _ hB (Q0.1 g3).1 h1 h2 ad hI
theorem YT:∀ (l:List Int) (lo hi:Int),l.Pairwise (· < ·)->(∀ x∈l,lo<=x/\x<=hi)->lo<=hi+1->(l.length:Int)<=hi+1-lo
 | [],lo,hi,_,_,h=>by simp;omega
 | x :: l,lo,hi,hp,hb,h=>by
  rw [N4] at hp;have hx:=hb x aj;have:=YT l (x+1) hi hp.2 (λy hy=>⟨by have:=hp.1 y hy;omega,(hb y (by simp [hy])).2⟩) ad;rw [MH];omega
def NW (a b:Int):Nat:=((b-a+10080) / 1440+2).toNat
theorem KU {a b k:Int} (h:b-a<=k):(NW a b:Int)<=max 0 ((k+10080) / 1440+2):=by unfold NW;omega
theorem Ym {s:aE} {c:ey} {a b:Int} {l:List Int} (hp:l.Pairwise (· < ·)) (ha:∀ d∈l,fD s c a b d) (h1:1<=s.len) (h2:s.len<=10080) (hab:a<=b):l.length<=NW a b:=by
 unfold NW;have:=YT l ((a-s.len-c.min) / 1440+1) ((b-c.min-1) / 1440) hp (λd hd=>by
  obtain ⟨-,-,h3,h4⟩:=ha d hd;omega) ad
 omega
def nz (s:aE) (a b:Int) (y:ai):Prop:=iN s y/\eH y.frm y.fin a b
def dA (s:aE) (a b:Int) (k:Nat) (y:ai):Prop:=∃ j,j<k/\∃ d,fD s (s.cls.getD j default) a b d/\y=lM s (s.cls.getD j default) d
theorem z7_ {s:aE} {a b:Int} {y:ai}:nz s a b y↔dA s a b s.cls.length y\/(y∈s.ext/\eH y.frm y.fin a b):=by
 constructor
 .rintro ⟨⟨c,hc,⟨ho1,ho2⟩,hf⟩|hy,h1,h2⟩
  .obtain ⟨j,hj,rfl⟩:=tu (d:=default) hc;have e1:y.frm=y.day*1440+(s.cls.getD j default).min:=congrArg ai.frm ho2;have e2:y.fin=y.day*1440+(s.cls.getD j default).min+s.len:=congrArg ai.fin ho2;exact .inl ⟨j,hj,y.day,⟨ho1,by unfold Hy;omega,ad,ad⟩,ho2⟩
  exact .inr ⟨hy,h1,h2⟩
 rintro (⟨j,hj,d,⟨h1,h2,h3,h4⟩,rfl⟩|⟨hy,h⟩)
 .exact ⟨.inl ⟨_,by rw [fx hj];exact NS hj,⟨h1,rfl⟩,h2⟩,h4,h3⟩
 exact ⟨.inr hy,h⟩
structure eS (s:aE) (a b:Int) (k:Nat) (pre:List Int) (D:List ai):Prop where
 mem:∀ y,y∈D↔dA s a b k y\/∃ d∈pre,y=lM s (s.cls.getD k default) d
 len:D.length<=k*NW a b+pre.length
theorem eS.start {s:aE} {a b:Int}:eS s a b 0 [] []:=⟨λy=>⟨λh=>(by simp at h),λh=>by
 rcases h with ⟨j,hj,_⟩|⟨d,hd,_⟩
 .omega
 simp at hd⟩,aj⟩
theorem eS.push {s:aE} {a b:Int} {k:Nat} {pre:List Int} {D:List ai} (h:eS s a b k pre D) (d:Int):eS s a b k (pre ++ [d]) (D ++ [lM s (s.cls.getD k default) d]):=
 ⟨λy=>by
  rw [VJ,h.mem,N2];constructor
  .rintro ((h|⟨d',pz,e⟩)|e)
   .exact .inl h
   .exact .inr ⟨d',by simp [pz],e⟩
   exact .inr ⟨d,aj,e⟩
  rintro (h|⟨d',pz,e⟩)
  .exact .inl (.inl h)
  rcases VJ.1 pz with pz|pz
  .exact .inl (.inr ⟨d',pz,e⟩)
  rw [N2] at pz;subst pz;exact .inr e,by have:=h.len;simp;omega⟩
theorem eS.done {s:aE} {a b:Int} {k:Nat} {pre:List Int} {D:List ai} (h:eS s a b k pre D) (hf:∀ d,d∈pre↔fD s (s.cls.getD k default) a b d) (hl:pre.length<=NW a b):eS s a b (k+1) [] D:=
 ⟨λy=>by
  rw [h.mem];constructor
  .rintro (⟨j,hj,h⟩|⟨d,hd,e⟩)
   .exact .inl ⟨j,ad,h⟩
   exact .inl ⟨k,ad,d,(hf d).1 hd,e⟩
  rintro (⟨j,hj,d,hd,e⟩|⟨d,hd,e⟩)
  .by_cases hjk:j<k
   .exact .inl ⟨j,hjk,d,hd,e⟩
   obtain rfl:j=k:=ad;exact .inr ⟨d,(hf d).2 hd,e⟩
  simp at hd,by have:=h.len;rw [Q_,M4];omega⟩
structure gz (s:aE) (a b:Int) (k:Nat) (D:List ai):Prop where
 mem:∀ y,y∈D↔dA s a b s.cls.length y\/∃ j,j<k/\y=s.ext.getD j default/\eH y.frm y.fin a b
 len:D.length<=s.cls.length*NW a b+k
theorem eS.ext {s:aE} {a b:Int} {D:List ai} (h:eS s a b s.cls.length [] D):gz s a b 0 D:=⟨λy=>by
 rw [h.mem];constructor
 .rintro (h|⟨d,hd,_⟩)
  .exact .inl h
  simp at hd
 rintro (h|⟨j,hj,_⟩)
 .exact .inl h
 omega,by have:=h.len;rw [M4] at this;exact this⟩
theorem gz.push {s:aE} {a b:Int} {k:Nat} {D:List ai} (h:gz s a b k D) (hc:eH (s.ext.getD k default).frm (s.ext.getD k default).fin a b):gz s a b (k+1) (D ++ [s.ext.getD k default]):=
 ⟨λy=>by
  rw [VJ,h.mem,N2];constructor
  .rintro ((h|⟨j,hj,e⟩)|e)
   .exact .inl h
   .exact .inr ⟨j,ad,e⟩
   exact .inr ⟨k,ad,e,by rw [e];exact hc⟩
  rintro (h|⟨j,hj,e,g⟩)
  .exact .inl (.inl h)
  by_cases hjk:j<k
  .exact .inl (.inr ⟨j,hjk,e,g⟩)
  obtain rfl:j=k:=ad;exact .inr e,by have:=h.len;simp;omega⟩
theorem gz.skip {s:aE} {a b:Int} {k:Nat} {D:List ai} (h:gz s a b k D) (hc:¬ eH (s.ext.getD k default).frm (s.ext.getD k default).fin a b):gz s a b (k+1) D:=
 ⟨λy=>by
  rw [h.mem];constructor
  .rintro (h|⟨j,hj,e⟩)
   .exact .inl h
   exact .inr ⟨j,ad,e⟩
  rintro (h|⟨j,hj,e,g⟩)
  .exact .inl h
  by_cases hjk:j<k
  .exact .inr ⟨j,hjk,e,g⟩
  obtain rfl:j=k:=ad;rw [e] at g;exact absurd g hc,by have:=h.len;omega⟩
theorem eS.le {s:aE} {a b:Int} {k:Nat} {pre:List Int} {D:List ai} (h:eS s a b k pre D) (hk:k<=64) (hw:b-a<=5760000):D.length<=256640+pre.length:=by
 have h1:=h.len;have h2:=KU hw;have h3:k*NW a b<=64*4010:=Nat.mul_le_mul hk ad;omega
theorem gz.le {s:aE} {a b:Int} {k:Nat} {D:List ai} (h:gz s a b k D) (hk:s.cls.length<=64) (hw:b-a<=5760000):D.length<=256640+k:=by
 have h1:=h.len;have h2:=KU hw;have h3:s.cls.length*NW a b<=64*4010:=Nat.mul_le_mul hk ad;omega
theorem gz.fin {s:aE} {a b:Int} {D:List ai} (h:gz s a b s.ext.length D) (y:ai):y∈D↔nz s a b y:=by
 rw [h.mem,z7_];constructor
 .rintro (h|⟨j,hj,e,g⟩)
  .exact .inl h
  exact .inr ⟨by rw [e,fx hj];exact NS hj,g⟩
 rintro (h|⟨hy,g⟩)
 .exact .inl h
 obtain ⟨j,hj,e⟩:=tu (d:=default) hy;exact .inr ⟨j,hj,e.symm,g⟩
theorem nz.inn {s:aE} {a b:Int} {y:ai} (hm:bO s) (h:nz s a b y):jB y:=by
 obtain ⟨h1,h2⟩:=h;have h3:=hm.low h1;have hl:=hm.val.len;rcases h1 with ⟨c,hc,⟨ho1,ho2⟩,hf⟩|hy
 .have qA:=hm.min hc;have e1:y.frm=y.day*1440+c.min:=congrArg ai.frm ho2;have e2:y.fin=y.day*1440+c.min+s.len:=congrArg ai.fin ho2;have h0:=E5 (hm.ne hc) ho1;exact ⟨⟨ad,ad⟩,⟨ad,ad⟩,⟨ad,ad⟩⟩
 have:=hm.val.ins hy;unfold j_ at this;exact ⟨⟨ad,ad⟩,⟨ad,ad⟩,⟨ad,ad⟩⟩
end
end Go.Proofs.YtbmgmlbmgogeaaaGreat
section
variable {sv:Array Go.Value}{a:Int}{B g j k n:Nat}{row:Option Nat}{lv v v':Go.Value}{A C W W' w w':Go.World}
namespace Go.Proofs.YtbmgmlbmgogeaaaGreat
section
open Go.RowKit Go.Shelf Go.Maps Kal
attribute [local go_sem] GC
def zq_ (s:aE) (a b:Int) (w:World) (e:Ending) (w':World):Prop:=
 ∃ (v:Value) (D:List ai) (k:Int),e=.returned (.tuple #[v,.int .i64 k])/\Below w.heap.size w w'/\(a=b->D=[])/\(a<b->D.Pairwise bo/\∀ y,y∈D↔nz s a b y)/\D.length<=s.cls.length*NW a b+s.ext.length/\
  ((D.length<=4096/\k=0/\bZ w' (λb=>w.heap.size<=b) v D)\/(4096<D.length/\k=2/\v=.slice none 0 0))
structure mH (w:World) (n:Nat) (sv:Array Value) (a b:Int) (E:Nat->Prop) (lv:Value) (D:List ai) (W:World):Prop where
 below:Below w.heap.size w W
 b0:ag W w.heap.size sv 43
 b1:ag W (w.heap.size+1) #[.int .i64 a,.int .i64 b] 29
 b6:ag W n #[lv] 41
 row:dO w.heap.size (λk=>k=w.heap.size\/k=w.heap.size+1\/k=n\/E k) W lv D
theorem mH.grow {b:Int} {E:Nat->Prop} {D:List ai} (h:mH w n sv a b E lv D A) (hg:A.grownBy C row) (hr:∀ k,row=some k->w.heap.size<=k/\∃ o:Obj,A.heap[k]? = some o/\o.isCells=false):mH w n sv a b E lv D C:=by
 have key:∀ {b:Nat} {c:Array Value} {t:TypeId},ag A b c t->ag C b c t:=λ{b c t} hb=>hb.grown hg λe=>by
  obtain ⟨_,o,h1,h2⟩:=hr b e.symm;rw [hb] at h1;cases h1;cases h2
 refine ⟨h.below.grown hg h.below.size λk e=>(hr k e).1,key h.b0,key h.b1,key h.b6,u4_ h.row hg λk e e'=>?_⟩;obtain ⟨_,o,h1,h2⟩:=hr k e;obtain ⟨o',h3,h4⟩:=h.row.cells k e';rw [h1] at h3;cases h3;rw [h2] at h4;cases h4
theorem mH.ext {b:Int} {E:Nat->Prop} {D:List ai} (h:mH w n sv a b E lv D A) (hb:Below A.heap.size A C):mH w n sv a b E lv D C:=
 ⟨Et h.below hb,h.b0.below hb,h.b1.below hb,h.b6.below hb,h.row.below iQ hb⟩
theorem mH.mono {b:Int} {E E':Nat->Prop} {D:List ai} (h:mH w n sv a b E lv D A) (hE:∀ k,E' k->E k\/A.heap.size<=k):mH w n sv a b E' lv D A:=
 ⟨h.below,h.b0,h.b1,h.b6,h.row.mono iQ λk hk=>by
  rcases hk with hk|hk|hk|hk
  .exact .inl (.inl hk)
  .exact .inl (.inr (.inl hk))
  .exact .inl (.inr (.inr (.inl hk)))
  exact (hE k hk).imp (λh=>.inr (.inr (.inr h))) id⟩
theorem mH.push {b:Int} {E:Nat->Prop} {D:List ai} (h:mH w n sv a b E lv D A) (hn:w.heap.size+1<n) {y:ai} (hy:jB y)
  (hown:C.ownsRow w.heap.size 46 3 v' (D.length+1) (D.flatMap bH ++ bH y)) (hg:A.grownBy C lv.ownBlock) (hloc:v'.ownBlock=lv.ownBlock\/v'.ownBlock=some A.heap.size) (hA:¬ E A.heap.size) (hl:D.length<1000000) :
  mH w n sv a b E v' (D ++ [y]) (C.setCell ⟨n,0,none⟩ v'):=by
 have hs:=h.below.size;have yo:=h.b6.lt;have hl0:=h.b0.lt;have fA:=h.b1.lt;have hr:=aN.push iQ h.row (y:=y) hy hown hg hloc (λe=>by
  rcases e with e|e|e|e
  .omega
  .omega
  .omega
  exact hA e) hl
 refine ⟨(h.below.grown hg h.below.size λk e=>(h.row.row.lt k e).1).setCell (p:=⟨n,0,none⟩) (by show w.heap.size<=n;omega) _,(h.b0.grown hg λe=>h.row.ne _ e.symm (.inl rfl)).setNe _ ad,(h.b1.grown hg λe=>h.row.ne _ e.symm (.inr (.inl rfl))).setNe _ ad,bE 0 _ (h.b6.grown hg λe=>h.row.ne _ e.symm (.inr (.inr (.inl rfl)))),?_⟩;exact hr.box iQ (World.grownBy.set' ⟨rfl,rfl,rfl,TZ _,λ_ _ _=>rfl⟩ _) (.inr (.inr (.inl rfl)))
theorem v5_ (F:Nat->Prop) (cv ev:Value) (s:aE) (a b:Int) (w:World) (h:bq w F cv ev s) (eC:bO s) (ha:-2251799813685248<=a) (hb:b<=2251799813685248) (hab:a<=b) (hw:b-a<=5760000) :
  Calls Tryz.prog 34 #[.agg #[cv,.int .i64 s.len,ev],.agg #[.int .i64 a,.int .i64 b]] w (zq_ s a b w):=by
 have h:=h.lt;have HV:=λW (hb:Below w.heap.size w W)=>Ab _ cv ev s W (h.ext hb);rw [xx.2 eC.val] at HV;obtain ⟨L,h⟩:=h;have lx:s.cls.length=L.length:=by rw [<- h.eq];exact U6 _
 obtain ⟨a1,c1,rfl⟩:=h.cl.form;obtain ⟨a2,c2,rfl⟩:=h.ex.form;have fA:=h.cl.len;have GO:=eC.val.ncls;have iy:=eC.val.next;obtain ⟨sS,sT⟩:=eC.val.len;have HV:=af HV;have lI:=af h;have eN:=af eC;have eU:=af lx;clear h eC;have ha2:a<=2251799813685248:=ad;have hb2:-2251799813685248<=b:=ad;have t1:¬ a < -2251799813685248:=ad;have t2:¬ b > 2251799813685248:=ad;have t3:¬ a > b:=ad;have t4:¬ b-a > 5760000:=ad;obtain ⟨iI,tJ,lX,tI,gp⟩:=KC;have wX:=af (⟨tJ,lX,tI,gp⟩:Tryz.prog.info? 46=some iI/\iI.zero=some (.agg #[.int .i64 0,.int .i64 0,.int .i64 0])/\iI.size=3/\iI.bytes=24);clear tJ lX tI gp;refine VL (n:=0).1 ?_;refine NT Tryz.func34 rfl trivial ?_ rfl;simp only [Tryz.ntmps34,NG,MH,M4,Nat.reduceAdd,Nat.reduceSub,N0,K7,Q3,QG,L4,S5];have hb0:ag ((w.alloc (.cells #[.slice a1 L.length c1,.int .i64 s.len,.slice a2 s.ext.length c2] 43)).alloc (.cells #[.int .i64 a,.int .i64 b] 29)) w.heap.size #[.slice a1 L.length c1,.int .i64 s.len,.slice a2 s.ext.length c2] 43:=(ag.at rfl).alloc _;have hb1:ag ((w.alloc (.cells #[.slice a1 L.length c1,.int .i64 s.len,.slice a2 s.ext.length c2] 43)).alloc (.cells #[.int .i64 a,.int .i64 b] 29)) (w.heap.size+1) #[.int .i64 a,.int .i64 b] 29:=ag.at aj;have eO:Below w.heap.size w ((w.alloc (.cells #[.slice a1 L.length c1,.int .i64 s.len,.slice a2 s.ext.length c2] 43)).alloc (.cells #[.int .i64 a,.int .i64 b] 29)):=by exact xE
 have iB:=af hb0;have bm:=af hb1;have gj:=af eO;clear hb0 hb1 eO lx;by_cases hab2:a=b
 .subst hab2;gi_wp2_with (refine ⟨trivial,rfl,?_⟩;gi_at_call 23;(with_reducible refine (VL.2 (HV.o _ gj.o)).mono ?_);rintro e w1 ⟨rfl,h1⟩;have nx:=af h1;have hw1:=h1.size;simp only [U7] at hw1;have hz0:w.heap.size<w1.heap.size:=ad;have hz1:w.heap.size+1<w1.heap.size:=ad;have x0:=((bm.o.below h1).cells 0).1;have x1:=((bm.o.below h1).cells 1).1;clear h1);refine ik (B:=w.heap.size) _ _ (cJ.nil _ _) λw' hs=>?_;exact ⟨.tuple #[.slice none 0 0,.int .i64 0],by simp [results,Tryz.results34,go_sem],.slice none 0 0,[],0,rfl,(Ea (Et gj.o nx.o) _).trans hs.below,λ_=>rfl,λh=>absurd h ad,aj,.inl ⟨aj,rfl,⟨⟨none,0,rfl,aj,ad,.inl rfl⟩,aj,aj⟩⟩⟩
 gi_wp2_with (refine ⟨trivial,rfl,?_⟩;gi_at_call 23;(with_reducible refine (VL.2 (HV.o _ gj.o)).mono ?_);rintro e w1 ⟨rfl,h1⟩;have nx:=af h1;have hw1:=h1.size;simp only [U7] at hw1;have hz0:w.heap.size<w1.heap.size:=ad;have hz1:w.heap.size+1<w1.heap.size:=ad;have MZ:=af (iB.o.below h1);have kA:=af (bm.o.below h1);have x0:=((bm.o.below h1).cells 0).1;have x1:=((bm.o.below h1).cells 1).1;have y0:=((iB.o.below h1).cells 0).1;have y1:=((iB.o.below h1).cells 1).1;have y2:=((iB.o.below h1).cells 2).1;clear h1)
 have vS:mH w w1.heap.size #[.slice a1 L.length c1,.int .i64 s.len,.slice a2 s.ext.length c2] a b (λ_=>False) (.slice none 0 0) [] (w1.alloc (.cells #[.slice none 0 0] 41)):=
  ⟨Ea (Et gj.o nx.o) _,MZ.o.alloc _,kA.o.alloc _,ag.at rfl,aN.nil⟩
 have pY:=af vS;clear x0 x1 y0 y1 y2 vS;refine wpIn_loop (λaa W=>∃ (k:Nat) (u8 u9 u12 u13 u14 u15 u16 u17 u18 u19 u20 u21 u22 u23 u24 u25 u26 u27 u28 u29 u30 u31 u32 u33 u34 u35 u36 u37 u38 u39 u40 u41 u42 u47 u48 u49 u50 u51 u52 u53 u54 u55 u56 u57 u58 u59 u60 u61 u62:Value) (lv:Value) (D:List ai) (ds:List Deferred),aa=⟨#[.agg #[.slice a1 L.length c1,.int .i64 s.len,.slice a2 s.ext.length c2],.agg #[.int .i64 a,.int .i64 b],.pointer (some ⟨w.heap.size,0,none⟩),.pointer (some ⟨w.heap.size+1,0,none⟩),.slice none 0 0,.int .i64 0,.pointer (some ⟨w1.heap.size,0,none⟩),undef,u8,u9,undef,undef,u12,u13,u14,u15,u16,u17,u18,u19,u20,u21,u22,u23,u24,u25,u26,u27,u28,u29,u30,u31,u32,u33,u34,u35,u36,u37,u38,u39,u40,u41,u42,.pointer (some ⟨w.heap.size,0,none⟩),.slice a1 L.length c1,.int .i64 L.length,.int .i64 k,u47,u48,u49,u50,u51,u52,u53,u54,u55,u56,u57,u58,u59,u60,u61,u62,undef,undef,undef,undef,undef,undef,undef,undef,undef,undef,undef,undef,undef,undef,undef,undef,undef,undef,undef,undef,undef,undef,undef,undef],ds⟩/\k<=L.length/\Hid (eS s a b k [] D)/\
  Hid (mH w w1.heap.size #[.slice a1 L.length c1,.int .i64 s.len,.slice a2 s.ext.length c2] a b (λ_=>False) lv D W)/\Hid (cJ w.heap.size ds W)) (λaa _=>L.length-(intOf (aa.tmps.getD 46 undef)).toNat) ?start ?round
 case start=>exact ⟨0,_,_,_,_,_,_,_,_,_,_,_,_,_,_,_,_,_,_,_,_,_,_,_,_,_,_,_,_,_,_,_,_,_,_,_,_,_,_,_,_,_,_,_,_,_,_,_,_,_,_,_,[],rfl,ad,af eS.start,pY,af (cJ.nil _ _)⟩
 case round=>
  rintro _ wr ⟨k,u8,u9,u12,u13,u14,u15,u16,u17,u18,u19,u20,u21,u22,u23,u24,u25,u26,u27,u28,u29,u30,u31,u32,u33,u34,u35,u36,u37,u38,u39,u40,u41,u42,u47,u48,u49,u50,u51,u52,u53,u54,u55,u56,u57,u58,u59,u60,u61,u62,lv,D,ds,rfl,hk,HC,HS,HM⟩;have wG:=HS.o.below.size;have hwl:=HS.o.b6.lt;have Ho:w.heap.size<wr.heap.size:=ad;have Rv:w.heap.size+1<wr.heap.size:=ad;by_cases hlt:k<L.length
  .have cP:(k:Int)<L.length:=ad;obtain ⟨b8,f8,xa,xc,m,mi,rfl,eo,e0,e1,hm,mQ,hcl⟩:=(lI.o.below HS.o.below).cl.get hlt;rw [lI.o.eq] at hcl;have hcm:(⟨m,mi⟩:ey)∈s.cls:=by rw [<- hcl,fx (by rw [eU.o];exact hlt)];exact NS _
   obtain ⟨iZ,jS⟩:-4320<=mi/\mi<=4320:=eN.o.min hcm;have iG:=af (eN.o.mv _ hcm);have cS:=af hcl;have th:=af hm;have r0:=dW ((HS.o.b0.cells 0).1) (.cells #[.slice xa m.length xc,.int .i64 mi] 59);have r1:=dW ((HS.o.b0.cells 1).1) (.cells #[.slice xa m.length xc,.int .i64 mi] 59);have r2:=dW ((HS.o.b0.cells 2).1) (.cells #[.slice xa m.length xc,.int .i64 mi] 59);have r3:=dW ((HS.o.b1.cells 0).1) (.cells #[.slice xa m.length xc,.int .i64 mi] 59);have r4:=dW ((HS.o.b1.cells 1).1) (.cells #[.slice xa m.length xc,.int .i64 mi] 59);clear hcl hm hcm mQ;gi_wp2_with (refine ⟨trivial,rfl,?_⟩;gi_at_call 65;(with_reducible refine (VL.2 (Yl (some ⟨b8,f8,none⟩) a2 xa L.length c1 s.ext.length c2 m.length xc s.len mi a b _)).mono ?_);rintro e w' ⟨rfl,rfl⟩);generalize hW0:(((wr.alloc _).alloc _).alloc _).alloc _=W0;have hE:Below wr.heap.size wr W0:=by rw [<- hW0];exact xE
   have hsz:W0.heap.size=wr.heap.size+1+1+1+1:=by rw [<- hW0];simp
   have hkb:ag W0 wr.heap.size #[.slice xa m.length xc,.int .i64 mi] 59:=by rw [<- hW0];exact (((ag.at rfl).alloc _).alloc _).alloc _
   have tR:ag W0 (wr.heap.size+1) #[.slice (some ⟨b8,f8,none⟩) L.length c1,.int .i64 s.len,.slice a2 s.ext.length c2] 43:=by rw [<- hW0];exact ((ag.at aj).alloc _).alloc _
   have hcb:ag W0 (wr.heap.size+1+1) #[.slice xa m.length xc,.int .i64 mi] 59:=by rw [<- hW0];exact (ag.at aj).alloc _
   have nY:ag W0 (wr.heap.size+1+1+1) #[.int .i64 a,.int .i64 b] 29:=by rw [<- hW0];exact ag.at aj
   have kz:=af ((HS.o.mono (E':=(λq=>wr.heap.size<=q/\q<wr.heap.size+4)) λq hq=>.inr hq.1).ext hE);have zr:=af (KeepsOthers.of_below hE);have L6:=af (th.o.ext hE);have DV:=af hkb;clear hW0 r0 r1 r2 r3 r4 e0 e1 hkb;refine E6 (α:=Int) (x:=none) (gf:=112) (lb:=#[.pointer (some ⟨wr.heap.size+1+1+1,0,none⟩),.pointer (some ⟨wr.heap.size+1,0,none⟩),.pointer (some ⟨wr.heap.size+1+1,0,none⟩)]) rfl (enters_of Tryz.func112 (by kernel_rfl) rfl)
    (Yn (λb=>F b/\b<w.heap.size) (λq=>q<w.heap.size\/(wr.heap.size<=q/\q<wr.heap.size+4)) (some ⟨b8,f8,none⟩) a2 xa L.length c1 s.ext.length c2 xc (wr.heap.size+1) (wr.heap.size+1+1) (wr.heap.size+1+1+1) W0 s ⟨m,mi⟩ a b L6.o iG.o (λq h=>.inl h.2) (λq h=>ad) tR hcb nY (.inr ⟨ad,ad⟩) (.inr ⟨ad,ad⟩) (.inr ⟨ad,ad⟩) sS sT iZ jS ad ad ad ad)
    (λh k=>h.trans k) (λW1 l o o' hl ho hc=>de.putObj (λq h=>ad) W1 l o o' hl ho hc) (λW1 W2 hn hg q hq=>hg.block q ad aj) (λy=>rfl)
    (λpre W'=>∃ lv D,eS s a b k pre D/\mH w w1.heap.size #[.slice (some ⟨b8,f8,none⟩) L.length c1,.int .i64 s.len,.slice a2 s.ext.length c2] a b (λq=>wr.heap.size<=q/\q<wr.heap.size+4) lv D W'/\ag W' wr.heap.size #[.slice xa m.length xc,.int .i64 mi] 59/\KeepsOthers W0 W')
    (λ_ _ _=>False)
    (λpre A' C row hI hg hr=>by
     have hr':∀ r,row=some r->W0.heap.size<=r/\∃ o:Obj,A'.heap[r]? = some o/\o.isCells=false:=λr e=>by
      rcases hr r e with ⟨h,_⟩|h
      .cases h
      exact h
     obtain ⟨lv,D,h1,h2,h3,h4⟩:=hI;refine ⟨lv,D,h1,h2.grow hg λr e=>⟨by have:=(hr' r e).1;omega,(hr' r e).2⟩,h3.grown hg λe=>?_,KeepsOthers.grow h4 hg λr e=>(hr' r e).1⟩;obtain ⟨_,o,g1,g2⟩:=hr' _ e.symm;rw [h3] at g1;cases g1;cases g2)
    (λc' pre A' C row hI hg hr=>hI)
    (λ_ _ _ _ _ _ _ _ h=>h) (λ_ _ _ _ _ h=>h) ⟨lv,D,HC.o,kz.o,DV.o,P8 _⟩
    (λy a' _=>a'=⟨#[.agg #[.slice (some ⟨b8,f8,none⟩) L.length c1,.int .i64 s.len,.slice a2 s.ext.length c2],.agg #[.int .i64 a,.int .i64 b],.pointer (some ⟨w.heap.size,0,none⟩),.pointer (some ⟨w.heap.size+1,0,none⟩),.slice none 0 0,.int .i64 0,.pointer (some ⟨w1.heap.size,0,none⟩),undef,.pointer (some ⟨wr.heap.size,0,none⟩),.int .i64 y,undef,undef,u12,u13,u14,u15,u16,u17,u18,u19,u20,u21,u22,u23,u24,u25,u26,u27,u28,u29,u30,u31,u32,u33,u34,u35,u36,u37,u38,u39,u40,u41,u42,.pointer (some ⟨w.heap.size,0,none⟩),.slice (some ⟨b8,f8,none⟩) L.length c1,.int .i64 L.length,.int .i64 k,.bool true,.pointer (some ⟨b8,f8+k*2,none⟩),.agg #[.slice xa m.length xc,.int .i64 mi],.agg #[.slice (some ⟨b8,f8,none⟩) L.length c1,.int .i64 s.len,.slice a2 s.ext.length c2],.agg #[.slice xa m.length xc,.int .i64 mi],.agg #[.int .i64 a,.int .i64 b],.func (.func 112) #[] #[.pointer (some ⟨wr.heap.size+1+1+1,0,none⟩),.pointer (some ⟨wr.heap.size+1,0,none⟩),.pointer (some ⟨wr.heap.size+1+1,0,none⟩)],.int .i64 y,u55,u56,u57,u58,u59,u60,u61,u62,undef,undef,undef,undef,undef,undef,undef,undef,undef,undef,undef,undef,undef,undef,undef,undef,undef,undef,undef,undef,undef,undef,undef,undef],[]⟩)
    (λ_ _ _ _ _ _ _ _ _ h=>h) ?assign ?body ?done ?stop
   case assign=>
    intro l pre y W' K _ _ _ hK
    gi_wp2
    exact hK _ _ (World.grownBy.of_below (JV _ _) none) aj
   case body=>
    rintro lp pre y _ wq ⟨Xk,D2,hC,hA,CC,bP⟩ hy rfl;have hd:=hy.all y aj;have hlen:=NN (Ym hy.rise hy.all sS sT hab) (by have:=KU hw;omega:NW a b<=4010);obtain ⟨oa,oc,rfl,-⟩:=hA.row.form;obtain ⟨e_,ki,qx,Gj⟩:=hd;obtain ⟨hy1,hy2⟩:-1563749990000<=y/\y<=1563749990000:=by dsimp only at qx Gj;exact ⟨ad,ad⟩
    have q0:=(hA.b6.cells 0).1;have q1:=(hA.b0.cells 0).1;have q2:=(hA.b0.cells 1).1;have q3:=(hA.b0.cells 2).1;have q4:=(CC.cells 0).1;have q5:=(CC.cells 1).1;have Bz:=bP.size;have hin:=λU=>O3 (some ⟨b8,f8,none⟩) a2 xa L.length c1 s.ext.length c2 m.length xc s.len mi y U sS sT iZ jS ad ad;have dq:=af hin;have HA:=af hA;have fV:=af CC;have wV:=af hC;have dM:=af bP;have eF:=af hlen;clear hC hA CC bP hy e_ ki qx Gj hin hlen
    gi_upto_region 13 with (fail)
    dsimp only;refine o3_ (w0:=wq) [0,1,2,3,4,5] [6,7] (λv=>⟨#[.agg #[.slice (some ⟨b8,f8,none⟩) L.length c1,.int .i64 s.len,.slice a2 s.ext.length c2],.agg #[.int .i64 a,.int .i64 b],.pointer (some ⟨w.heap.size,0,none⟩),.pointer (some ⟨w.heap.size+1,0,none⟩),.slice none 0 0,.int .i64 0,.pointer (some ⟨w1.heap.size,0,none⟩),undef,.pointer (some ⟨wr.heap.size,0,none⟩),.int .i64 y,undef,undef,u12,u13,u14,u15,u16,u17,u18,u19,u20,u21,u22,u23,u24,u25,u26,u27,u28,u29,u30,u31,u32,u33,u34,u35,u36,u37,u38,u39,u40,u41,u42,.pointer (some ⟨w.heap.size,0,none⟩),.slice (some ⟨b8,f8,none⟩) L.length c1,.int .i64 ↑L.length,.int .i64 ↑k,.bool true,.pointer (some ⟨b8,f8+k*2,none⟩),.agg #[.slice xa m.length xc,.int .i64 mi],.agg #[.slice (some ⟨b8,f8,none⟩) L.length c1,.int .i64 s.len,.slice a2 s.ext.length c2],.agg #[.slice xa m.length xc,.int .i64 mi],.agg #[.int .i64 a,.int .i64 b],.func (Fn.func 112) #[] #[.pointer (some ⟨wr.heap.size+1+1+1,0,none⟩),.pointer (some ⟨wr.heap.size+1,0,none⟩),.pointer (some ⟨wr.heap.size+1+1,0,none⟩)],.int .i64 y,v 0,v 1,v 2,v 3,v 4,v 5,u61,u62,undef,undef,undef,undef,undef,undef,undef,undef,undef,undef,undef,undef,undef,undef,undef,undef,undef,undef,undef,undef,undef,undef,undef,undef],[]⟩) [.slice oa D2.length oc,.agg #[.slice (some ⟨b8,f8,none⟩) L.length c1,.int .i64 s.len,.slice a2 s.ext.length c2],.agg #[.slice xa m.length xc,.int .i64 mi],.int .i64 y,.agg #[.int .i64 y,.int .i64 (y*1440+mi),.int .i64 (y*1440+mi+s.len)],undef] [5] (λi v lo hi W=>match i with|5=>v 5=.slice (some ⟨lo 5,0,none⟩) 1 1/\lo 5<hi 5/\ag W (lo 5) #[.int .i64 y,.int .i64 (y*1440+mi),.int .i64 (y*1440+mi+s.len)] 46|_=>True) (λW=>W.cell? ⟨w1.heap.size,0,none⟩=some (.slice oa D2.length oc)/\W.cell? ⟨w.heap.size,0,none⟩=some (.slice (some ⟨b8,f8,none⟩) L.length c1)/\W.cell? ⟨w.heap.size,1,none⟩=some (.int .i64 s.len)/\W.cell? ⟨w.heap.size,2,none⟩=some (.slice a2 s.ext.length c2)/\W.cell? ⟨wr.heap.size,0,none⟩=some (.slice xa m.length xc)/\W.cell? ⟨wr.heap.size,1,none⟩=some (.int .i64 mi)) (λW hb=>⟨an.cell hb q0,an.cell hb q1,an.cell hb q2,an.cell hb q3,an.cell hb q4,an.cell hb q5⟩) ?stab ?loc ?steps ?fin (λj=>match j with|0=>u55|1=>u56|2=>u57|3=>u58|4=>u59|5=>u60|_=>undef)
    case stab=>
     refine ⟨?_,trivial⟩;intro v lo hi W W' h hb;exact ⟨h.1,h.2.1,h.2.2.below hb⟩
    case loc=>
     refine ⟨?_,trivial⟩;intro v v' lo lo' hi hi' W aA h;have q:=aA 5 (.inl rfl)
     (try dsimp only at h ⊢)
     simp only [q.1,q.2.1,q.2.2] at h;exact h
    case steps=>
     refine .c [] [] rfl ?_ (.c [] [] rfl ?_ (.c [] [] rfl ?_ (.c [] [] rfl ?_ (.c [1,2,3] [] rfl ?_ (.c [4] [] rfl ?_ (.n))))));all_goals try exact oh
     .rintro v lo hi W hb ⟨g0,g1,g2,g3,g4,g5⟩ _;refine .inl ⟨rfl,λK hK=>?_⟩;simp only [ov,aD,Nat.reduceBEq,cond_true,cond_false];go_wp2_with (go_at_call 64;(with_reducible refine (dq.o _).mono ?_);rintro e w9 ⟨rfl,bg⟩);exact aQ (hK w9 bg) (by simp [ov,aD,upd])
     rintro v lo hi W hb ⟨g0,g1,g2,g3,g4,g5⟩ _;refine .inl ⟨rfl,λK hK=>?_⟩;simp only [ov,aD,Nat.reduceBEq,cond_true,cond_false];go_wp2;exact aQ (hK (.slice (some ⟨W.heap.size,0,none⟩) 1 1) _ (Ea (Er _) _) ⟨rfl,aj,ag.new _ _ _⟩) (by simp [ov,aD,upd])
    case fin=>
     rintro v lo hi W2 hb2 ⟨g0,g1,g2,g3,g4,g5⟩ hf hap;show wpList _ _ _ [_,_] _ _;obtain ⟨-,-,-,e5,-,hb5⟩:=hf 5 rfl;have e0:v 0=.slice oa D2.length oc:=(hf 0 rfl).2.2.2;have wF:=hb2.size;have qM:=af (HA.o.ext hb2);have JD:D2.length+1<=1000000:=by
      have h3:=eU.o;have h1:=wV.o.le ad hw;have h2:=eF.o;rw [MB] at h2;omega
     have mA:=af JD;have bl:=af hb2;dsimp only;rw [e5,e0];clear JD hb2 e5 e0 hf hap g1 g2 g3 g4 g5;generalize v 1=yv1,v 2=yv2,v 3=yv3,v 4=yv4;refine mL aC _ _ _ _ aC iI _ 3 24 Tryz.underlying41 wX.o.1 wX.o.2.1 wX.o.2.2.1 wX.o.2.2.2 rfl aG aG w.heap.size (.slice oa D2.length oc) D2.length (D2.flatMap bH) (bH ⟨y,y*1440+mi,y*1440+mi+s.len⟩) rfl aC qM.o.row.row (lo 5) 1 aC (Ah hb5) (by simp [bH,Value.oneCell']) mA.o ad ?_;intro v' w9 au aq aI;obtain ⟨na,nc,rfl⟩:=kF au;have d2:=(qM.o.b6.grown aq λe=>qM.o.row.ne _ e.symm (.inr (.inr (.inl rfl)))).cells 0;have d3:=d2.1;have d4:=d2.2;have jz:=af au;have fF:=af aq;have zt:=af aI;clear au aq aI d2 hb5 g0;go_wp2_with fail;have HP:=qM.o.push (y:=⟨y,y*1440+mi,y*1440+mi+s.len⟩) ad (by refine ⟨⟨?_,?_⟩,⟨?_,?_⟩,?_,?_⟩ <;> dsimp only <;> omega) jz.o fF.o zt.o ad (by have:=mA.o;omega);have hne:=qM.o.row.ne;have A6:=qM.o.row.row.lt;refine ⟨((KeepsOthers.grown_cells (KeepsOthers.of_below bl.o) fF.o qM.o.row.cells).trans (K8 w9 _ _)).from _,λq hq=>?_,_,_,wV.o.push y,(by rw [cS.o];exact HP),?_,dM.o.trans ((KeepsOthers.grown_cells (KeepsOthers.of_below bl.o) fF.o qM.o.row.cells).trans (K8 w9 _ _))⟩
     .have qD:q<wq.heap.size:=ad;refine (DO _ ⟨w1.heap.size,0,none⟩ _ q (by show q≠w1.heap.size;omega)).trans ((fF.o.block q ad λe=>?_).trans (bl.o.block q qD));rcases hq with hq|hq
      .have:=(A6 q e.symm).1;omega
      exact hne q e.symm (.inr (.inr (.inr hq)))
     exact ag.setNe ((fV.o.below bl.o).grown fF.o λe=>hne _ e.symm (.inr (.inr (.inr ⟨ad,ad⟩)))) _ ad
   case done=>
    rintro D' xs W' vI aM ⟨Xk,D2,hC,hA,CC,bP⟩ aL;have ie:=af (hC.done (by rw [cS.o];exact aM.iff) (Ym aM.rise (λd hd=>(aM.iff d).1 hd) sS sT hab));have jY:=af (hA.mono (E':=λ_=>False) λq hq=>hq.elim);have pV:=af (cJ.cons (D:=D') HM.o ad ((zr.o.trans bP).from _) ad aL);clear aM hA bP aL tR hcb nY hC CC;gi_wp2_with fail;exact ⟨⟨k+1,_,_,_,_,_,_,_,_,_,_,_,_,_,_,_,_,_,_,_,_,_,_,_,_,_,_,_,_,_,_,_,_,_,_,_,_,_,_,_,_,_,_,_,_,_,_,_,_,_,_,_,_,by push_cast;rfl,ad,ie,jY,pV⟩,by simp [intOf];omega⟩
   case stop=>
    intro D' c' pre W' vI h;exact h.elim
  obtain rfl:k=L.length:=ad;have fg:¬ (L.length:Int)<L.length:=ad;have q1:=(HS.o.b0.cells 2).1;gi_wp2_with fail;refine wpIn_wide.2 ?_;have Lj:Hid (gz s a b 0 D):=af (eS.ext (by rw [eU.o];exact HC.o));have uE:=eN;clear q1 fg;go_loopw [66] (λkv wr=>∃ (q:Nat) (lv:Value) (D:List ai),kv=.int .i64 q/\q<=s.ext.length/\Hid (gz s a b q D)/\Hid (mH w w1.heap.size #[.slice a1 L.length c1,.int .i64 s.len,.slice a2 s.ext.length c2] a b (λ_=>False) lv D wr)/\Hid (cJ w.heap.size ds wr)) (λkv _=>s.ext.length-(intOf kv).toNat)
  .exact ⟨0,lv,D,rfl,ad,Lj,HS,HM⟩
  obtain ⟨q,Xk,D2,rfl,hq,HX,HA,HK⟩:=hrel;obtain ⟨wk,nZ⟩:∃ x,x=wr:=⟨_,rfl⟩;subst nZ;have hws2:=HA.o.below.size;have hwl2:=HA.o.b6.lt;by_cases hlt:q<s.ext.length
  .have cP:(q:Int)<s.ext.length:=ad;have bU:=af (show q+1<=s.ext.length by omega);obtain ⟨b9,f9,x,rfl,bg,hx,mV,x0,x1,x2⟩:=(lI.o.below HA.o.below).ex.get hlt;have xo:=af hx;have IX:=af mV;obtain ⟨xd,xf,xt⟩:=x;dsimp only at x0 x1 x2;have r3:=dW ((HA.o.b1.cells 0).1) (.cells #[.int .i64 xd,.int .i64 xf,.int .i64 xt] 46);have r4:=dW ((HA.o.b1.cells 1).1) (.cells #[.int .i64 xd,.int .i64 xf,.int .i64 xt] 46);have py:=λU=>Pb xf xt a b U;by_cases hc:eH xf xt a b
   .rw [PH hc] at py;have BR:=af py;have cS:=af hc;clear py hc hx mV hlt;go_wp2_with (first|(go_at_call 66;(with_reducible refine (BR.o _).mono ?_);rintro e w5 ⟨rfl,hb5⟩;obtain ⟨oa,oc,rfl,-⟩:=HA.o.row.form;have Tl:=af (HA.o.ext (Et (Ea (Er wk) (.cells #[.int .i64 xd,.int .i64 xf,.int .i64 xt] 46)) hb5));have q6:=(Tl.o.b6.cells 0).1;have hbx:=(ag.new wk #[.int .i64 xd,.int .i64 xf,.int .i64 xt] 46).below hb5;have q7:=(hbx.cells 0).1;have q8:=(hbx.cells 1).1;have q9:=(hbx.cells 2).1;have BO:=af (Tl.o.ext (Ea (Er w5) (.cells #[.int .i64 xd,.int .i64 xf,.int .i64 xt] 46)));have bW:=af (Et (Ea (Er wk) (.cells #[.int .i64 xd,.int .i64 xf,.int .i64 xt] 46)) hb5);clear hb5 hbx)|(at_builtin;(refine mL aC _ _ _ _ aC iI _ 3 24 Tryz.underlying41 wX.o.1 wX.o.2.1 wX.o.2.2.1 wX.o.2.2.2 rfl aG aG w.heap.size (.slice oa D2.length oc) D2.length (D2.flatMap bH) (bH ⟨xd,xf,xt⟩) rfl aC BO.o.row.row w5.heap.size 1 aC (Ah (ag.new w5 #[.int .i64 xd,.int .i64 xf,.int .i64 xt] 46)) (by simp [bH,Value.oneCell']) (by have:=HX.o.le ad hw;have:=bU.o;omega) (by have:=BO.o.below.size;exact this) ?_);intro v' w9 au aq aI;obtain ⟨na,nc,rfl⟩:=kF au;have d2:=(BO.o.b6.grown aq λe=>BO.o.row.ne _ e.symm (.inr (.inr (.inl rfl)))).cells 0;have d3:=d2.1;have d4:=d2.2;have jz:=af au;have fF:=af aq;have zt:=af aI;clear au aq aI d2));go_roundw
    .have HP:=BO.o.push (y:=⟨xd,xf,xt⟩) ad IX.o jz.o fF.o zt.o (λh=>h) (by have:=HX.o.le ad hw;have:=bU.o;omega);exact ⟨q+1,_,_,by go_num,bU.o,af (by have h:=HX.o.push (by rw [xo.o];exact cS.o);rw [xo.o] at h;exact h),af HP,af (HK.o.keep (((KeepsOthers.grown_cells (KeepsOthers.of_below (Ea bW.o _)) fF.o BO.o.row.cells).trans (K8 w9 _ _)).from _))⟩
    have:=bU.o;simp [intOf];omega
   rw [P9 hc] at py;have BR:=af py;have cS:=af hc;clear py hc hx mV hlt;go_wp2_with (go_at_call 66;(with_reducible refine (BR.o _).mono ?_);rintro e w5 ⟨rfl,hb5⟩;have bW:=af (Et (Ea (Er wk) (.cells #[.int .i64 xd,.int .i64 xf,.int .i64 xt] 46)) hb5);clear hb5);go_roundw
   .exact ⟨q+1,_,_,by go_num,bU.o,af (HX.o.skip (by rw [xo.o];exact cS.o)),af (HA.o.ext bW.o),af (HK.o.keep ((KeepsOthers.of_below bW.o).from _))⟩
   have:=bU.o;simp [intOf];omega
  obtain rfl:q=s.ext.length:=ad;have fg:¬ (s.ext.length:Int)<s.ext.length:=ad;obtain ⟨oa,oc,rfl,q6s,wv,hnil⟩:=HA.o.row.form;have tF:D2.length<=1000000:=HA.o.row.len;have UC:∀ x∈D2,jB x:=λx hx=>((HX.o.fin x).1 hx).inn eN.o;have q6:=(HA.o.b6.cells 0).1;have q7:=(HA.o.b6.cells 0).2;have Lt:=af UC;have ue:=af hab2;have uG:=af q6s;clear UC hab2 q6s hlt;go_wp2_with fail;refine wpIn_wide.2 ?_;by_cases h0:D2.length=0
  .rw [h0] at q6;have HD0:=af (List.length_eq_zero_iff.1 h0);have G5:∀ U,Calls Tryz.prog 67 #[.slice oa 0 oc,.func (.func 50) #[] #[]] U λe w'=>e=.returned (.tuple #[])/\w'=U:=λU=>AnyF.slices_SortFunc_none Tryz.sortI oa oc _ U;have pZ:=af G5;have pT:=af (λU=>Vh oa 0 oc U ad);clear h0 G5 hnil;go_wp2_with (first|(go_at_call 67;(with_reducible refine (pZ.o _).mono ?_);rintro e w5 ⟨rfl,qE⟩;obtain rfl:wk=w5:=qE.symm)|(go_at_call 68;(with_reducible refine (pT.o _).mono ?_);rintro e w5 ⟨rfl,qE⟩;obtain rfl:wk=w5:=qE.symm));refine ik (B:=w.heap.size) _ _ (HK.o.keep ((K8 wk _ _).from _)) λw' hs=>?_;refine ⟨.tuple #[.slice oa 0 oc,.int .i64 0],by simp [results,Tryz.results34,go_sem],.slice oa 0 oc,[],0,rfl,(HA.o.below.setCell (p:=⟨w1.heap.size,0,none⟩) (by show w.heap.size<=w1.heap.size;omega) _).trans hs.below,λ_=>rfl,λ_=>⟨.nil,λy=>?_⟩,aj,.inl ⟨aj,rfl,⟨⟨oa,oc,rfl,aj,wv,.inl rfl⟩,aj,aj⟩⟩⟩;have:=HX.o.fin y;rwa [HD0.o] at this
  obtain ⟨g,rfl⟩:=hnil.resolve_left h0;obtain ⟨hu,-,-,-,hg1,hg2⟩:=HA.o.row.insU;have hgn:=HA.o.row.ne g rfl;have iX:g≠w1.heap.size:=λe=>hgn (.inr (.inr (.inl e)));have G5:=wk_ g oc D2 wk hu hg2 ad;have hlen:(jW D2).length=D2.length:=(X4 D2).length_eq;have hmm:∀ y,y∈jW D2↔nz s a b y:=λy=>(X4 D2).mem_iff.trans (HX.o.fin y);have hcs:∀ r,some g=some r->∃ o:Obj,wk.heap[r]? = some o/\o.isCells=true:=λr e=>HA.o.row.cells r e;have pZ:=af G5;have mD:=af hmm;have Ir:=af hcs;have ur:=af iX;clear hu hgn G5 hmm hcs;by_cases h2:D2.length<2
  .have pT:=af (λU=>Vh (some ⟨g,0,none⟩) D2.length oc U h2);have eF:=af hlen;have hbI:¬ (4096:Int)<D2.length:=ad;have fG:=af h2;clear hlen h2;go_wp2_with (first|(go_at_call 67;(with_reducible refine pZ.o.mono ?_);rintro e w5 ⟨rfl,Hb,iW⟩;have bW:=af (HA.o.b6.grown iW λe=>ur.o (by injection e with e;exact e.symm));have ED:=af Hb;have uq:=af iW;have q8:=(bW.o.cells 0).1;have q9:=(bW.o.cells 0).2;clear Hb iW)|(go_at_call 68;(with_reducible refine (pT.o _).mono ?_);rintro e w6 ⟨rfl,hw6⟩;obtain rfl:w5=w6:=hw6.symm));refine ik (B:=w.heap.size) _ _ (HK.o.keep (((KeepsOthers.grown_cells (P8 wk) uq.o Ir.o).trans (K8 w5 _ _)).from _)) λw' hs=>?_;have C4:=ED.o.at_ (DO w5 ⟨w1.heap.size,0,none⟩ (.slice (some ⟨g,0,none⟩) D2.length oc) g (by show g≠w1.heap.size;exact ur.o));have hex:=C4.extF (W':=w') (cap:=oc) (λo h1 h2=>hs.cells _ _ h1 h2) (by rw [eF.o];exact uG.o) wv (by rw [eF.o];exact tF) (λx hx=>((mD.o x).1 hx).inn eN.o) hg1;rw [eF.o] at hex;refine ⟨.tuple #[.slice (some ⟨g,0,none⟩) D2.length oc,.int .i64 0],by simp [results,Tryz.results34,go_sem],_,jW D2,0,rfl,((HA.o.below.grown uq.o HA.o.below.size λk e=>by cases e;exact hg1).setCell (p:=⟨w1.heap.size,0,none⟩) (by show w.heap.size<=w1.heap.size;omega) _).trans hs.below,λe=>absurd e ue.o,λ_=>⟨?_,mD.o⟩,by rw [eF.o];exact HX.o.len,.inl ⟨by have:=fG.o;rw [eF.o];omega,rfl,hex⟩⟩;have h3:=YU D2;rcases hsr:jW D2 with _|⟨x,_|⟨y,r⟩⟩
   .exact .nil
   .simp
   have h4:=eF.o;have h5:=fG.o;rw [hsr] at h4;simp at h4;omega
  have x_:=λU (hU:b_ U g (jW D2)) (fS:g<U.heap.size)=>ot_ g oc (jW D2) U (YU D2) (by rw [hlen];omega) (by rw [hlen];omega) (by rw [hlen];exact uG.o) wv hU fS;simp only [hlen] at x_;have pT:=af x_;have eF:=af hlen;have fG:=af h2;clear x_ hlen h2;go_wp2_with (first|(go_at_call 67;(with_reducible refine pZ.o.mono ?_);rintro e w5 ⟨rfl,Hb,iW⟩;have bW:=af (HA.o.b6.grown iW λe=>ur.o (by injection e with e;exact e.symm));have ED:=af Hb;have uq:=af iW;have EL:=af (N6 hg2 iW.size);have q8:=(bW.o.cells 0).1;have q9:=(bW.o.cells 0).2;clear Hb iW)|(go_at_call 68;(with_reducible refine (pT.o _ ED.o EL.o).mono ?_);rintro e w6 ⟨D',rfl,FY,QT,yo,C4,iX⟩;have bR:=af (bW.o.grown iX λe=>ur.o (by injection e with e;exact e.symm));have HU6:=af C4;have zQ:=af iX;have HAS:=af FY;have gN:=af QT;have oZ:=af yo;have pM:=(bR.o.cells 0).1;have mX:=(bR.o.cells 0).2;clear C4 iX FY QT yo;by_cases hbI:(4096:Int)<D'.length))
  .have P2:4096<D'.length:=ad;refine ik (B:=w.heap.size) _ _ (HK.o.keep (((KeepsOthers.grown_cells (KeepsOthers.grown_cells (P8 wk) uq.o Ir.o) zQ.o (λr e=>by cases e;exact ED.o.isCells (by rw [eF.o];omega))).trans (K8 w6 _ _)).from _)) λw' hs=>?_;exact ⟨.tuple #[.slice none 0 0,.int .i64 2],by simp [results,Tryz.results34,go_sem],_,D',2,rfl,(((HA.o.below.grown uq.o HA.o.below.size λk e=>by cases e;exact hg1).grown zQ.o (by have:=EL.o;omega) λk e=>by cases e;exact hg1).setCell (p:=⟨w1.heap.size,0,none⟩) (by show w.heap.size<=w1.heap.size;omega) _).trans hs.below,λe=>absurd e ue.o,λ_=>⟨HAS.o,λy=>(gN.o y).trans (mD.o y)⟩,by have h1:=oZ.o;rw [eF.o] at h1;exact NN h1 HX.o.len,.inr ⟨P2,rfl,rfl⟩⟩
  have P2:D'.length<=4096:=ad;refine ik (B:=w.heap.size) _ _ (HK.o.keep (((KeepsOthers.grown_cells (KeepsOthers.grown_cells (P8 wk) uq.o Ir.o) zQ.o (λr e=>by cases e;exact ED.o.isCells (by rw [eF.o];omega))).trans (K8 w6 _ _)).from _)) λw' hs=>?_;have C4:=HU6.o.at_ (DO w6 ⟨w1.heap.size,0,none⟩ (.slice (some ⟨g,0,none⟩) D'.length oc) g (by show g≠w1.heap.size;exact ur.o));have hle:=oZ.o;rw [eF.o] at hle;have hex:=C4.extF (W':=w') (cap:=oc) (λo h1 h2=>hs.cells _ _ h1 h2) (by have:=uG.o;omega) wv ad (λx hx=>((mD.o x).1 ((gN.o x).1 hx)).inn eN.o) hg1;exact ⟨.tuple #[.slice (some ⟨g,0,none⟩) D'.length oc,.int .i64 0],by simp [results,Tryz.results34,go_sem],_,D',0,rfl,(((HA.o.below.grown uq.o HA.o.below.size λk e=>by cases e;exact hg1).grown zQ.o (by have:=EL.o;omega) λk e=>by cases e;exact hg1).setCell (p:=⟨w1.heap.size,0,none⟩) (by show w.heap.size<=w1.heap.size;omega) _).trans hs.below,λe=>absurd e ue.o,λ_=>⟨HAS.o,λy=>(gN.o y).trans (mD.o y)⟩,by have h1:=oZ.o;rw [eF.o] at h1;exact NN h1 HX.o.len,.inl ⟨P2,rfl,hex⟩⟩
end
section
open Go.RowKit Go.Maps Kal
def q2q (w:World) (e:Ending) (w':World):Prop:=∃ L,e=.returned (.tuple #[.pointer (some ⟨w.heap.size+1,0,none⟩),.pointer (some ⟨w.heap.size+2,0,none⟩),.bool true])/\CM w' w.heap.size 8 L/\Below w.heap.size w w'
def YY (w:World) (n:Nat) (iv:Value) (W:World):Prop:=∃ (k:Nat) (L:IL),k<=8/\k<=n/\iv=.int .i64 k/\Hid (CM W w.heap.size k L)/\Hid (Below w.heap.size w W)
theorem q5d {x:Int} (h1:-128<=x) (h2:x<=127):-5<=Int.tmod x 6/\Int.tmod x 6<=5:=by
 rcases Int.le_total 0 x with h|h
 .rw [NY h];omega
 have h3:Int.tmod x 6=-(Int.tmod (-x) 6):=by rw [Int.neg_tmod,Int.neg_neg]
 rw [h3,NY ad];omega
theorem xi_ (v:Value) (A:List cG) (w:World) (h:xM w v A) :
  Calls Tryz.prog 13 #[v] w (q2q w):=by
 obtain ⟨a,c,rfl⟩:∃ a c,v=.slice a A.length c:=by obtain ⟨a,c,e,_⟩:=h.row.is;exact ⟨a,c,e⟩
 have H:=af h;have HN:=af (R2 w);clear h
 go_in
 go_wp2_with (go_at_call 31;(with_reducible refine HN.o.mono ?_);rintro e w1 ⟨rfl,lT,lY,hb1,hz1⟩;have bm:=af hb1;have Lg:=af lT;have Mb:=af lY;clear lT lY hb1)
 have h0:YY w A.length (.int .i64 0) (w1.alloc (.cells #[.slice none 0 0] 53)):=⟨0,[],ad,ad,rfl,af ⟨⟨0,[],ad,⟨Lg.o.alloc _,Mb.o.kept (World.grownBy.of_below (Ea (Er _) _) none) aj,ad,.nil,rfl,λi x hx=>by simp at hx,ad,ad⟩⟩,⟨.slice none 0 0,[],aj,⟨ag.at ad,⟨none,0,rfl,aj,ad,.inl rfl⟩,λx hx=>by simp at hx,rfl,.nil,ad⟩⟩,po.nil⟩,af (bm.o.trans ((Ea (Er _) _).mono ad))⟩;have H0:=af h0;clear h0 hz1;go_loopw [7] (λiv wr=>YY w A.length iv wr) (λiv _=>8-(intOf iv).toNat)
 .exact H0.o
 obtain ⟨k,L,hk8,hkn,rfl,HB,bL⟩:=hrel;have jV:w.heap.size<=wr.heap.size:=by have:=HB.o.size;omega
 obtain ⟨wk,nZ⟩:∃ x,x=wr:=⟨_,rfl⟩;subst nZ;have hlen:(A.length:Int)<=9223372036854775807:=by obtain ⟨a',c',e,h1,h2,_⟩:=H.o.row.is;omega
 by_cases hlt:k<A.length
 .have cP:(k:Int)<A.length:=ad;by_cases h8:k<8
  .have h8I:(k:Int)<8:=ad;obtain ⟨ab,ao,x,rfl,hbl,hx,⟨ll,ml,el,Bn⟩,⟨lX,tI⟩,e0,e1,e2,e3,e4,e5⟩:=H.o.get hlt;have GL:=Bn.below bL.o;have zF:=af Bn;have Is:=af (λW (hb:Below w.heap.size wk W)=>And.intro (Below.cell' (bL.o.trans hb) e2 hbl) (And.intro (Below.cell' (bL.o.trans hb) e3 hbl) (And.intro (Below.cell' (bL.o.trans hb) e4 hbl) (Below.cell' (bL.o.trans hb) e5 hbl))));replace e0:=Below.cell' bL.o e0 hbl;replace e1:=Below.cell' bL.o e1 hbl;clear e2 e3 e4 e5 hx GL Bn;obtain ⟨id,hid⟩:∃ y,Int.tmod x.id 6=y:=⟨_,rfl⟩;have A4:=q5d lX tI;rw [hid] at A4;have DM:=af hid;obtain ⟨b,hb⟩:∃ b,x.rm=b:=⟨_,rfl⟩;rw [hb] at e1;clear hid hb;obtain ⟨⟨n,E,hn,hI⟩,⟨rv,M,hM,hR⟩,iY⟩:=HB.o;have HI:=af hI;have HR:=af hR;have Ei:=af (show n<=8 by omega);have mD:=af (show M.length<=8 by omega);have lF:=af iY;have oY:=af (show aS id from ⟨ad,ad⟩);have eT:=af (show id<=1099511627776 by omega);have q0w:=af A4;have Eh:=af hn;have B5:=af hM;clear hn hM hI hR iY A4;cases b
   .obtain ⟨S,hS⟩:∃ S,Ik ll ml x.s.ln el=S:=⟨_,rfl⟩;have eN:Hid (Cx S):=af (hS ▸ tl_ zF.o.mins.rng zF.o.ext.rng);have B4:Hid (∀ W,Below w.heap.size w W->Calls Tryz.prog 17 #[.agg #[x.s.dv,x.s.mv,.int .u8 x.s.ln,x.s.ev]] W (Kz S W)):=af (λW hb=>hS ▸ tk_ x.s ll ml el W (zF.o.below hb));clear hS;go_upto_region 10 with fail
    rw [DM.o];have hk3:w.heap.size+3<=wk.heap.size:=HB.o.size;clear e0 e1 hlen;refine O0 (w0:=wk) (some w.heap.size) 8 [0,1,2,3,4,5,6,7,8,9,10,11,12,13,14,15,16] [17,18] (λv=>⟨#[.slice (some ⟨ab,ao,none⟩) A.length c,undef,u2,u3,u4,.pointer (some ⟨w.heap.size+1,0,none⟩),.pointer (some ⟨w.heap.size+2,0,none⟩),.int .i64 ↑k,.int .i64 id,.pointer (some ⟨w.heap.size+1,0,none⟩),.agg #[.slice none 0 0],.pointer (some ⟨w.heap.size+2,0,none⟩),.int .i64 ↑k,.slice (some ⟨ab,ao,none⟩) A.length c,.int .i64 ↑A.length,.bool true,.bool true,.int .i64 ↑k,.bool true,.bool true,u20,u21,.slice (some ⟨ab,ao,none⟩) A.length c,.int .i64 ↑k,.pointer (some ⟨ab,ao+k*6,none⟩),.pointer (some ⟨ab,ao+k*6,none⟩),Value.int IntKind.i8 x.id,.int .i64 x.id,.int .i64 id,.slice (some ⟨ab,ao,none⟩) A.length c,.int .i64 ↑k,.pointer (some ⟨ab,ao+k*6,none⟩),.pointer (some ⟨ab,ao+k*6+1,none⟩),.bool false,u34,u35,u36,u37,u38,u39,u40,u41,u42,v 0,v 1,v 2,v 3,v 4,v 5,v 6,v 7,v 8,v 9,v 10,v 11,v 12,v 13,v 14,v 15,v 16,u60,u61,u62,u63,undef,undef],[]⟩) (λj=>match j with|0=>u43|1=>u44|2=>u45|3=>u46|4=>u47|5=>u48|6=>u49|7=>u50|8=>u51|9=>u52|10=>u53|11=>u54|12=>u55|13=>u56|14=>u57|15=>u58|16=>u59|_=>undef)
     (λi v lo hi W=>match i with
      | 0=>v 0=.pointer (some ⟨w.heap.size+1,0,none⟩)
      | 1=>v 1=.int .i64 id
      | 2=>v 2=.slice (some ⟨ab,ao,none⟩) A.length c
      | 3=>v 3=.int .i64 k
      | 4=>v 4=.pointer (some ⟨ab,ao+k*6,none⟩)
      | 5=>v 5=.pointer (some ⟨ab,ao+k*6+2,none⟩)
      | 6=>v 6=.agg #[x.s.dv,x.s.mv,.int .u8 x.s.ln,x.s.ev]
      | 7=>∃ y1 z1 y2 z2,v 7=.agg #[.slice y1 S.cls.length z1,.int .i64 S.len,.slice y2 S.ext.length z2]/\bq W (λk=>w.heap.size+3<=k) (.slice y1 S.cls.length z1) (.slice y2 S.ext.length z2) S
      | 8=>v 8=.int .i64 (fY L id)/\∃ n' E',n'<=n+1/\fy W (w.heap.size+1) w.heap.size n' (λb=>w.heap.size+3<=b) E' (gC L id S)
      | 9=>v 9=.pointer (some ⟨w.heap.size+2,0,none⟩)
      | 10=>v 10=.int .i64 id
      | 11=>v 11=.slice (some ⟨ab,ao,none⟩) A.length c
      | 12=>v 12=.int .i64 k
      | 13=>v 13=.pointer (some ⟨ab,ao+k*6,none⟩)
      | 14=>v 14=.pointer (some ⟨ab,ao+k*6+2,none⟩)
      | 15=>v 15=.agg #[x.s.dv,x.s.mv,.int .u8 x.s.ln,x.s.ev]
      | 16=>∃ y1 z1 y2 z2,v 16=.agg #[.slice y1 S.cls.length z1,.int .i64 S.len,.slice y2 S.ext.length z2]/\bq W (λk=>w.heap.size+3<=k) (.slice y1 S.cls.length z1) (.slice y2 S.ext.length z2) S
      | _=>True)
     (λW=>W.cell? ⟨ab,ao+k*6+2,none⟩=some x.s.dv/\W.cell? ⟨ab,ao+k*6+3,none⟩=some x.s.mv/\W.cell? ⟨ab,ao+k*6+4,none⟩=some (.int .u8 x.s.ln)/\W.cell? ⟨ab,ao+k*6+5,none⟩=some x.s.ev) rfl (by kernel_rfl) aG rfl ?stab ?loc (λW hb=>Is.o W (qd hb (TZ _) jV)) ?steps ?fin
    case stab=>
     rintro (_|_|_|_|_|_|_|_|_|_|_|_|_|_|_|_|_|i) v lo hi W W' h hb
     .exact h
     .exact h
     .exact h
     .exact h
     .exact h
     .exact h
     .exact h
     .rw [if_neg aG] at hb;exact (let ⟨y1,z1,y2,z2,e,h⟩:=h;⟨y1,z1,y2,z2,e,h.keep (aP.grown hb ad) hb.size⟩)
     .rw [if_pos rfl] at hb;exact (let ⟨e,n9,E9,GN,gU⟩:=h;⟨e,n9,E9,GN,gU.ext hb⟩)
     .exact h
     .exact h
     .exact h
     .exact h
     .exact h
     .exact h
     .exact h
     .rw [if_neg aG] at hb;exact (let ⟨y1,z1,y2,z2,e,h⟩:=h;⟨y1,z1,y2,z2,e,h.keep (aP.grown hb ad) hb.size⟩)
     trivial
    case loc=>
     rintro (_|_|_|_|_|_|_|_|_|_|_|_|_|_|_|_|_|i) v v' lo lo' hi hi' W aA h
     .exact (aA 0 (.inl rfl)).1 ▸ h
     .exact (aA 1 (.inl rfl)).1 ▸ h
     .exact (aA 2 (.inl rfl)).1 ▸ h
     .exact (aA 3 (.inl rfl)).1 ▸ h
     .exact (aA 4 (.inl rfl)).1 ▸ h
     .exact (aA 5 (.inl rfl)).1 ▸ h
     .exact (aA 6 (.inl rfl)).1 ▸ h
     .have q:=aA 7 (.inl rfl);have q6:=aA 6 (.inr (bM (by kernel_rfl)))
      (try dsimp only at h ⊢);(try simp only [q.1,q.2.1,q.2.2,q6.1,q6.2.1,q6.2.2] at h);exact h
     .have q:=aA 8 (.inl rfl);have q0:=aA 0 (.inr (bM (by kernel_rfl)));have q1:=aA 1 (.inr (bM (by kernel_rfl)));have q7:=aA 7 (.inr (bM (by kernel_rfl)))
      (try dsimp only at h ⊢);(try simp only [q.1,q.2.1,q.2.2,q0.1,q0.2.1,q0.2.2,q1.1,q1.2.1,q1.2.2,q7.1,q7.2.1,q7.2.2] at h);exact h
     .exact (aA 9 (.inl rfl)).1 ▸ h
     .exact (aA 10 (.inl rfl)).1 ▸ h
     .exact (aA 11 (.inl rfl)).1 ▸ h
     .exact (aA 12 (.inl rfl)).1 ▸ h
     .exact (aA 13 (.inl rfl)).1 ▸ h
     .exact (aA 14 (.inl rfl)).1 ▸ h
     .exact (aA 15 (.inl rfl)).1 ▸ h
     .have q:=aA 16 (.inl rfl);have q8:=aA 8 (.inr (bM (by kernel_rfl)));have BJ:=aA 15 (.inr (bM (by kernel_rfl)))
      (try dsimp only at h ⊢);(try simp only [q.1,q.2.1,q.2.2,q8.1,q8.2.1,q8.2.2,BJ.1,BJ.2.1,BJ.2.2] at h);exact h
     trivial
    case steps=>
     refine cw.cons rfl ?_ (cw.cons rfl ?_ (cw.cons rfl ?_ (cw.cons rfl ?_ (cw.cons rfl ?_ (cw.cons rfl ?_ (cw.cons rfl ?_ (cw.cons rfl ?_ (cw.cons rfl ?_ (cw.cons rfl ?_ (cw.cons rfl ?_ (cw.cons rfl ?_ (cw.cons rfl ?_ (cw.cons rfl ?_ (cw.cons rfl ?_ (cw.cons rfl ?_ (cw.cons rfl ?_ cw.nil))))))))))))))))
     .rintro v lo hi W hb aX ⟨g2,g3,g4,g5⟩ hd K hK;replace hK:=λx W' (h:Below W.heap.size W W')=>hK x W' (by rw [if_neg aG];exact h);clear aX;clear hd;dsimp only;go_wp2;exact aQ (hK (.pointer (some ⟨w.heap.size+1,0,none⟩)) W (JV _ _) rfl) aj
     .rintro v lo hi W hb aX ⟨g2,g3,g4,g5⟩ hd K hK;replace hK:=λx W' (h:Below W.heap.size W W')=>hK x W' (by rw [if_neg aG];exact h);clear aX;clear hd;dsimp only;go_wp2;exact aQ (hK (.int .i64 id) W (JV _ _) rfl) aj
     .rintro v lo hi W hb aX ⟨g2,g3,g4,g5⟩ hd K hK;replace hK:=λx W' (h:Below W.heap.size W W')=>hK x W' (by rw [if_neg aG];exact h);clear aX;clear hd;dsimp only;go_wp2;exact aQ (hK (.slice (some ⟨ab,ao,none⟩) A.length c) W (JV _ _) rfl) aj
     .rintro v lo hi W hb aX ⟨g2,g3,g4,g5⟩ hd K hK;replace hK:=λx W' (h:Below W.heap.size W W')=>hK x W' (by rw [if_neg aG];exact h);clear aX;clear hd;dsimp only;go_wp2;exact aQ (hK (.int .i64 k) W (JV _ _) rfl) aj
     .rintro v lo hi W hb aX ⟨g2,g3,g4,g5⟩ hd K hK;replace hK:=λx W' (h:Below W.heap.size W W')=>hK x W' (by rw [if_neg aG];exact h);clear aX;have e2:v 2=.slice (some ⟨ab,ao,none⟩) A.length c:=(hd 2 (bM (by kernel_rfl))).2.2;have e3:v 3=.int .i64 k:=(hd 3 (bM (by kernel_rfl))).2.2;clear hd;dsimp only
      (try simp only [e2,e3])
      go_wp2
      exact aQ (hK (.pointer (some ⟨ab,ao+k*6,none⟩)) W (JV _ _) rfl) (by simp [e2,e3])
     .rintro v lo hi W hb aX ⟨g2,g3,g4,g5⟩ hd K hK;replace hK:=λx W' (h:Below W.heap.size W W')=>hK x W' (by rw [if_neg aG];exact h);clear aX;have e4:v 4=.pointer (some ⟨ab,ao+k*6,none⟩):=(hd 4 (bM (by kernel_rfl))).2.2;clear hd;dsimp only
      (try simp only [e4])
      go_wp2
      exact aQ (hK (.pointer (some ⟨ab,ao+k*6+2,none⟩)) W (JV _ _) rfl) (by simp [e4])
     .rintro v lo hi W hb aX ⟨g2,g3,g4,g5⟩ hd K hK;replace hK:=λx W' (h:Below W.heap.size W W')=>hK x W' (by rw [if_neg aG];exact h);clear aX;have e5:v 5=.pointer (some ⟨ab,ao+k*6+2,none⟩):=(hd 5 (bM (by kernel_rfl))).2.2;clear hd;dsimp only
      (try simp only [e5])
      go_wp2
      exact aQ (hK (.agg #[x.s.dv,x.s.mv,.int .u8 x.s.ln,x.s.ev]) W (JV _ _) rfl) (by simp [e5])
     .rintro v lo hi W hb aX ⟨g2,g3,g4,g5⟩ hd K hK;replace hK:=λx W' (h:Below W.heap.size W W')=>hK x W' (by rw [if_neg aG];exact h);clear aX;have e6:v 6=.agg #[x.s.dv,x.s.mv,.int .u8 x.s.ln,x.s.ev]:=(hd 6 (bM (by kernel_rfl))).2.2;clear hd;dsimp only
      (try simp only [e6])
      go_wp2_with (go_at_call 17;(with_reducible refine (B4.o _ (bL.o.trans (qd hb (TZ _) jV))).mono ?_);rintro e w9 ⟨y1,z1,y2,z2,rfl,nT,bg⟩)
      exact aQ (hK (.agg #[.slice y1 S.cls.length z1,.int .i64 S.len,.slice y2 S.ext.length z2]) w9 bg ⟨y1,z1,y2,z2,rfl,nT.mono (λk hk=>by have h1:=hk.1;have h2:=hb.size;omega)⟩) (by simp [e6])
     .rintro v lo hi W hb aX ⟨g2,g3,g4,g5⟩ hd K hK;replace hK:=λx W' (h:W.grownBy W' (some w.heap.size))=>hK x W' (by rw [if_pos rfl];exact h);replace aX:=aX rfl;have e0:v 0=.pointer (some ⟨w.heap.size+1,0,none⟩):=(hd 0 (bM (by kernel_rfl))).2.2;have e1:v 1=.int .i64 id:=(hd 1 (bM (by kernel_rfl))).2.2;obtain ⟨la7,lb7,D7⟩:=hd 7 (bM (by kernel_rfl));clear hd;dsimp only
      (try simp only [e0,e1])
      obtain ⟨y1,z1,y2,z2,e7,Kb⟩:=D7
      (try simp only [e7])
      go_wp2_with (go_at_call 24;(with_reducible refine (Fo _ _ n _ _ E L id _ _ S W (HI.o.ext aX) (by have:=Ei.o;omega) Kb eN.o.ms oY.o).mono ?_);rintro e w9 Q5;obtain ⟨rfl,tH,n9,E9,GN,gU⟩:=Gr (HI.o.ext aX) eT.o Q5)
      exact aQ (hK (.int .i64 (fY L id)) w9 tH ⟨rfl,n9,E9,GN,gU.mono (λk hk=>by have h2:=aX.size;rcases hk with hk|hk <;> omega) ad⟩) (by simp [e7,e0,e1])
     .rintro v lo hi W hb aX ⟨g2,g3,g4,g5⟩ hd K hK;replace hK:=λx W' (h:Below W.heap.size W W')=>hK x W' (by rw [if_neg aG];exact h);clear aX;clear hd;dsimp only;go_wp2;exact aQ (hK (.pointer (some ⟨w.heap.size+2,0,none⟩)) W (JV _ _) rfl) aj
     .rintro v lo hi W hb aX ⟨g2,g3,g4,g5⟩ hd K hK;replace hK:=λx W' (h:Below W.heap.size W W')=>hK x W' (by rw [if_neg aG];exact h);clear aX;clear hd;dsimp only;go_wp2;exact aQ (hK (.int .i64 id) W (JV _ _) rfl) aj
     .rintro v lo hi W hb aX ⟨g2,g3,g4,g5⟩ hd K hK;replace hK:=λx W' (h:Below W.heap.size W W')=>hK x W' (by rw [if_neg aG];exact h);clear aX;clear hd;dsimp only;go_wp2;exact aQ (hK (.slice (some ⟨ab,ao,none⟩) A.length c) W (JV _ _) rfl) aj
     .rintro v lo hi W hb aX ⟨g2,g3,g4,g5⟩ hd K hK;replace hK:=λx W' (h:Below W.heap.size W W')=>hK x W' (by rw [if_neg aG];exact h);clear aX;clear hd;dsimp only;go_wp2;exact aQ (hK (.int .i64 k) W (JV _ _) rfl) aj
     .rintro v lo hi W hb aX ⟨g2,g3,g4,g5⟩ hd K hK;replace hK:=λx W' (h:Below W.heap.size W W')=>hK x W' (by rw [if_neg aG];exact h);clear aX;have e11:v 11=.slice (some ⟨ab,ao,none⟩) A.length c:=(hd 11 (bM (by kernel_rfl))).2.2;have gi:v 12=.int .i64 k:=(hd 12 (bM (by kernel_rfl))).2.2;clear hd;dsimp only
      (try simp only [e11,gi])
      go_wp2
      exact aQ (hK (.pointer (some ⟨ab,ao+k*6,none⟩)) W (JV _ _) rfl) (by simp [e11,gi])
     .rintro v lo hi W hb aX ⟨g2,g3,g4,g5⟩ hd K hK;replace hK:=λx W' (h:Below W.heap.size W W')=>hK x W' (by rw [if_neg aG];exact h);clear aX;have lr:v 13=.pointer (some ⟨ab,ao+k*6,none⟩):=(hd 13 (bM (by kernel_rfl))).2.2;clear hd;dsimp only
      (try simp only [lr])
      go_wp2
      exact aQ (hK (.pointer (some ⟨ab,ao+k*6+2,none⟩)) W (JV _ _) rfl) (by simp [lr])
     .rintro v lo hi W hb aX ⟨g2,g3,g4,g5⟩ hd K hK;replace hK:=λx W' (h:Below W.heap.size W W')=>hK x W' (by rw [if_neg aG];exact h);clear aX;have lO:v 14=.pointer (some ⟨ab,ao+k*6+2,none⟩):=(hd 14 (bM (by kernel_rfl))).2.2;clear hd;dsimp only
      (try simp only [lO])
      go_wp2
      exact aQ (hK (.agg #[x.s.dv,x.s.mv,.int .u8 x.s.ln,x.s.ev]) W (JV _ _) rfl) (by simp [lO])
     rintro v lo hi W hb aX ⟨g2,g3,g4,g5⟩ hd K hK;replace hK:=λx W' (h:Below W.heap.size W W')=>hK x W' (by rw [if_neg aG];exact h);clear aX;have pq:v 15=.agg #[x.s.dv,x.s.mv,.int .u8 x.s.ln,x.s.ev]:=(hd 15 (bM (by kernel_rfl))).2.2;clear hd;dsimp only
     (try simp only [pq])
     go_wp2_with (go_at_call 17;(with_reducible refine (B4.o _ (bL.o.trans (qd hb (TZ _) jV))).mono ?_);rintro e w9 ⟨y1,z1,y2,z2,rfl,nT,bg⟩)
     exact aQ (hK (.agg #[.slice y1 S.cls.length z1,.int .i64 S.len,.slice y2 S.ext.length z2]) w9 bg ⟨y1,z1,y2,z2,rfl,nT.mono (λk hk=>by have h1:=hk.1;have h2:=hb.size;omega)⟩) (by simp [pq])
    case fin=>
     rintro v lo hi W5 iW ⟨-,-,-,-⟩ hf hap;show wpList _ _ _ [_,_] _ _;obtain ⟨-,-,-,e8,n',E',hn',hi'⟩:=hf 8 rfl;obtain ⟨-,-,-,y1,z1,y2,z2,qs,G3⟩:=hf 16 rfl;have e9:v 9=.pointer (some ⟨w.heap.size+2,0,none⟩):=(hf 9 rfl).2.2.2;have ir:v 10=.int .i64 id:=(hf 10 rfl).2.2.2;clear hf hap;dsimp only;rw [e8,e9,ir,qs];have IQ:=af (HR.o.grown iW ad ad);have BY:=af hi';have q1d:=af G3;have bW:=af (bL.o.trans (qd iW (TZ _) jV));have od:=iW.size;clear e8 e9 ir qs iW hi' G3;obtain ⟨r,hr⟩:∃ r,fY L id=r:=⟨_,rfl⟩;have HE:=af hr;rw [hr];clear hr;generalize v 0=y0,v 1=y1,v 2=y2,v 3=y3,v 4=y4,v 5=y5,v 6=y6,v 7=y7,v 8=y8,v 9=y9,v 10=sY,v 11=sZ,v 12=ub,v 13=ZM,v 14=y14,v 15=y15,v 16=y16;go_wp2_with (go_at_call 27;((with_reducible refine (yr_ _ _ (λb=>w.heap.size+3<=b) _ M L id _ _ S W5 IQ.o (by have:=mD.o;omega) q1d.o eN.o.ms.val oY.o ad).mono ?_);rintro e w6 hr;obtain ⟨rfl,iX,v6,M6,yo,GZ⟩:=q0z IQ.o ad eT.o hr;rw [HE.o];have Mz:=af (GZ.mono (G':=λb=>w.heap.size+3<=b) (λb hb=>by rcases hb with (hb|hb)|hb <;> omega) ad);have IB:=af (BY.o.grown iX ad ad ad);have oZ:=af yo;have bR:=af (bW.o.trans (qd iX ad ad));clear hr iX GZ yo));go_roundw
     .exact ⟨k+1,gC L id S,ad,ad,by go_num,af ⟨⟨n',E',by have:=Eh.o;omega,IB.o⟩,⟨v6,M6,by have:=oZ.o;have:=B5.o;omega,Mz.o⟩,lF.o.add q0w.o.2 eN.o⟩,bR⟩
     simp [intOf];omega
   go_upto_region 8 with fail
   rw [DM.o];clear e0 e1;go_wp2_with (first|(go_at_call 26;((with_reducible refine (Xo _ _ n E id wk HI.o.box HI.o.map oY.o).mono ?_);rintro e w4 hr;obtain ⟨hg4,rfl,E',CQ⟩:=ZF HI.o hr;have q7k:=af (HR.o.grown hg4 ad ad);have uv:=af CQ;have cR:=af (bL.o.trans (qd hg4 (TZ _) jV));have Kj:=hg4.size;clear hr hg4 CQ))|(go_at_call 35;((with_reducible refine (r4_ _ _ _ M L id w4 q7k.o (by have:=mD.o;omega)).mono ?_);rintro e w5 hr;obtain ⟨iW,rfl,v5,M5,Vp,wB⟩:=Ol q7k.o hr;have IQ:=af (wB.mono (G':=λb=>w.heap.size+3<=b) (λb hb=>by have h3:=HB.o.size;rcases hb with hb|hb <;> omega) ad);have BY:=af (uv.o.grown iW ad ad ad);have LU:=af Vp;have bW:=af (cR.o.trans (qd iW ad ad));clear hr iW wB Vp)));go_roundw
   .exact ⟨k+1,dP L id,ad,ad,by go_num,af ⟨⟨n,E',by have:=Eh.o;omega,BY.o⟩,⟨v5,M5,by have:=LU.o;have:=B5.o;omega,IQ.o⟩,lF.o.del id⟩,bW⟩
   simp [intOf];omega
  obtain rfl:k=8:=ad;go_wp2;refine VN (v:=.tuple #[.pointer (some ⟨w.heap.size+1,0,none⟩),.pointer (some ⟨w.heap.size+2,0,none⟩),.bool true]) (by simp [results,Tryz.results13,go_sem]) rfl ?_;exact ⟨L,rfl,HB.o,bL.o⟩
 go_wp2
 refine VN (v:=.tuple #[.pointer (some ⟨w.heap.size+1,0,none⟩),.pointer (some ⟨w.heap.size+2,0,none⟩),.bool true]) (by simp [results,Tryz.results13,go_sem]) rfl ?_;obtain ⟨⟨n,E,hn,hI⟩,⟨rv,M,hM,hR⟩,iY⟩:=HB.o;exact ⟨L,rfl,⟨⟨n,E,ad,hI⟩,⟨rv,M,ad,hR⟩,iY⟩,bL.o⟩
end
end Go.Proofs.YtbmgmlbmgogeaaaGreat
end
