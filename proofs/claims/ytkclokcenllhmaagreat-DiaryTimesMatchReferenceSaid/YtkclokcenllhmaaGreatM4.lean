/- Part 4 of the proof of the laws. -/
import Derived.Test.YtkclokcenllhmaaGreatM3
import Derived.Test.YtkclokcenllhmaaGreatM2
import Derived.Shelf.SlGeneric
import Derived.Shelf.SlSortCmp.NoneTotal
import Derived.Ground.SlsfProg
import Derived.Test.YtkclokcenllhmaaGreatProg
import Derived.Sort.Grow
import Derived.Maps.AppendAt
import Derived.OrdersIn
set_option linter.unusedVariables false
set_option linter.unusedSimpArgs false
set_option maxRecDepth 100000
set_option maxHeartbeats 4000000
section
variable {av bv:Array Go.Value}{ok:Bool}{a b f x:Int}{m:List (List Kal.Per)}{L:List Go.Proofs.YtkclokcenllhmaaGreat.PV}{B ab g i j k n nb xb yb:Nat}{o':Go.Obj}{o:Go.Oper}{row:Option Nat}{v:Go.Value}{A C W W' w w':Go.World}
namespace Go.Proofs.YtkclokcenllhmaaGreat
open Go.RowKit Go.Shelf Go.Maps Kal
attribute [local go_sem] Oper.semAt_some
def HitA (b:Str) (x:Inst):Prop:=(∃ y,ce_ b x y)∨∃ y∈b.ext,ae_ x.frm x.fin y.frm y.fin
theorem p9_ {a b:Str}:bl_ a b↔∃ x∈a.ext,HitA b x:=Iff.rfl
theorem gq_ {a b:Str}:bl_ a b↔∃ j,j<a.ext.length∧HitA b (a.ext.getD j default):=by
 rw [p9_];constructor
 ·rintro ⟨x,hx,h⟩;obtain ⟨j,hj,rfl⟩:=b6_ (d:=default) hx;exact ⟨j,hj,h⟩
 ·rintro ⟨j,hj,h⟩;exact ⟨_,by rw [a6_ hj];exact List.getElem_mem hj,h⟩
def ti_ (A B:Str) (w:World) (e:Ending) (w':World):Prop:=∃ r:Bool,e=.returned (.bool r)∧(r=true↔bl_ A B)∧Below w.heap.size w w'
structure AlW (w:World) (av bv:Array Value) (r:Bool) (W:World):Prop where
 below:Below w.heap.size w W
 b0:Bxx W w.heap.size av 55
 b1:Bxx W (w.heap.size+1) bv 55
 b2:Bxx W (w.heap.size+1+1) #[.bool r] 4
theorem AlW.grow {r:Bool} (h:AlW w av bv r A) (hg:A.grownBy C row) (hr:∀ k,row=some k->w.heap.size≤k∧∃ o:Obj,A.heap[k]? = some o∧o.isCells=false):AlW w av bv r C:=by
 have key:∀ {b:Nat} {c:Array Value} {t:TypeId},Bxx A b c t->Bxx C b c t:=fun {b c t} hb=>hb.grown hg fun e=>by
  obtain ⟨_,o,h1,h2⟩:=hr b e.symm;rw [hb] at h1;cases h1;cases h2
 exact ⟨h.below.grown hg h.below.size fun k e=>(hr k e).1,key h.b0,key h.b1,key h.b2⟩
theorem AlW.ext {r:Bool} (h:AlW w av bv r A) (hb:Below A.heap.size A C):AlW w av bv r C:=
 ⟨Et h.below hb,h.b0.below hb,h.b1.below hb,h.b2.below hb⟩
theorem AlW.setR {r s:Bool} (h:AlW w av bv r A):AlW w av bv s (A.setCell ⟨w.heap.size+1+1,0,none⟩ (.bool s)):=
 ⟨h.below.setCell (p:=⟨w.heap.size+1+1,0,none⟩) tq_ _,h.b0.setNe _ oq_,h.b1.setNe _ oq_,a0_ 0 _ h.b2⟩
theorem j8_ (F G:Nat->Prop) (cva eva cvb evb:Value) (A B:Str) (w:World) (hA:StrR w F cva eva A) (hB:StrR w G cvb evb B) (vA:MStr A) (vB:MStr B) :
  Calls Tryz.prog 116 #[.agg #[cva,.int .i64 A.len,eva],.agg #[cvb,.int .i64 B.len,evb]] w (ti_ A B w):=by
 obtain ⟨LA,hA⟩:=hA;obtain ⟨LB,hB⟩:=hB;have hA:=hA.lt;have hB:=hB.lt;obtain ⟨a1,c1,rfl⟩:=hA.cl.form;obtain ⟨a2,c2,rfl⟩:=hA.ex.form;obtain ⟨a3,c3,rfl⟩:=hB.cl.form;obtain ⟨a4,c4,rfl⟩:=hB.ex.form;have hl:=hA.ex.len;have HA:=hq_ hA;have HB:=hq_ hB;have VA:=hq_ vA;have VB:=hq_ vB;clear hA hB vA vB;refine callsIn_wide (n:=0).1 ?_;refine callsIn_of_wp_marks Tryz.func116 rfl trivial ?_ rfl;simp only [Tryz.ntmps116,List.size_toArray,List.length_cons,List.length_nil,Nat.reduceAdd,Nat.reduceSub,Array.replicate_succ,Array.replicate_zero,List.push_toArray,List.append_toArray,List.nil_append,List.cons_append];gi_wp2_with fail
 have HS0:Hid (AlW w #[.slice a1 LA.length c1,.int .i64 A.len,.slice a2 A.ext.length c2] #[.slice a3 LB.length c3,.int .i64 B.len,.slice a4 B.ext.length c4] false (((w.alloc (.cells #[.slice a1 LA.length c1,.int .i64 A.len,.slice a2 A.ext.length c2] 55)).alloc (.cells #[.slice a3 LB.length c3,.int .i64 B.len,.slice a4 B.ext.length c4] 55)).alloc (.cells #[.bool false] 4))):=
  hq_ ⟨by exact xE,((Bxx.at rfl).alloc _).alloc _,(Bxx.at sq_).alloc _,Bxx.at sq_⟩
 refine wpIn_loop (fun a W=>∃ (k:Nat) (u6 u11 u12 u13 u14 u15 u16 u17 u18 u19 u20 u21 u22:Value) (ds:List Deferred),a=⟨#[.agg #[.slice a1 LA.length c1,.int .i64 A.len,.slice a2 A.ext.length c2],.agg #[.slice a3 LB.length c3,.int .i64 B.len,.slice a4 B.ext.length c4],.pointer (some ⟨w.heap.size,0,none⟩),.pointer (some ⟨w.heap.size+1,0,none⟩),.pointer (some ⟨w.heap.size+1+1,0,none⟩),undef,u6,.pointer (some ⟨w.heap.size,2,none⟩),.slice a2 A.ext.length c2,.int .i64 A.ext.length,.int .i64 k,u11,u12,u13,u14,u15,u16,u17,u18,u19,u20,u21,u22],ds⟩∧k≤A.ext.length∧Hid (∀ j,j<k->¬ HitA B (A.ext.getD j default))∧
   Hid (AlW w #[.slice a1 LA.length c1,.int .i64 A.len,.slice a2 A.ext.length c2] #[.slice a3 LB.length c3,.int .i64 B.len,.slice a4 B.ext.length c4] false W)∧Hid (aj_ w.heap.size ds W)) (fun a _=>A.ext.length-(intOf (a.tmps.getD 10 undef)).toNat) ?start ?round
 case start=>exact ⟨0,undef,undef,undef,undef,undef,undef,undef,undef,undef,undef,undef,undef,undef,[],rfl,oq_,hq_ (by intro j hj;omega),HS0,hq_ (aj_.nil _ _)⟩
 case round=>
  rintro _ W ⟨k,u6,u11,u12,u13,u14,u15,u16,u17,u18,u19,u20,u21,u22,ds,rfl,hk,HN,HS,HM⟩;have hws:=HS.out.below.size;have hwl:=HS.out.b2.lt;by_cases hlt:k<A.ext.length
  ·have hlI:(k:Int)<A.ext.length:=oq_;obtain ⟨b8,f8,x,rfl,hb8,hx,_,e0,e1,e2⟩:=(HA.out.below HS.out.below).ex.get hlt;have HX:=hq_ hx;have hgx:=VA.out.val.ins (x:=x) (by rw [<- hx,a6_ hlt];exact List.getElem_mem hlt);obtain ⟨_,⟨gx1,gx2⟩,gx3,gx4⟩:=hgx;have r0:=a2_ ((HS.out.b1.cells 0).1) (.cells #[.int .i64 x.day,.int .i64 x.frm,.int .i64 x.fin] 77);have r1:=a2_ ((HS.out.b1.cells 1).1) (.cells #[.int .i64 x.day,.int .i64 x.frm,.int .i64 x.fin] 77);have r2:=a2_ ((HS.out.b1.cells 2).1) (.cells #[.int .i64 x.day,.int .i64 x.frm,.int .i64 x.fin] 77);clear hx;gi_wp2_with (refine ⟨trivial,rfl,?_⟩;gi_at_call 124;refine (callsIn_wide.2 (gf_ a3 a4 LB.length c3 B.ext.length c4 B.len x _)).mono ?_;rintro e w' ⟨rfl,rfl⟩)
   generalize hW0:((W.alloc _).alloc _).alloc _=W0;have hE:Below W.heap.size W W0:=by rw [<- hW0];exact xE
   have hsz:W0.heap.size=W.heap.size+1+1+1:=by rw [<- hW0];simp
   have hxb:Bxx W0 W.heap.size #[.int .i64 x.day,.int .i64 x.frm,.int .i64 x.fin] 77:=by rw [<- hW0];exact ((Bxx.at rfl).alloc _).alloc _
   have hsb:Bxx W0 (W.heap.size+1) #[.slice a3 LB.length c3,.int .i64 B.len,.slice a4 B.ext.length c4] 55:=by rw [<- hW0];exact (Bxx.at sq_).alloc _
   have hxb2:Bxx W0 (W.heap.size+1+1) #[.int .i64 x.day,.int .i64 x.frm,.int .i64 x.fin] 77:=by rw [<- hW0];exact Bxx.at sq_
   have HS1:=hq_ (HS.out.ext hE);have HXB:=hq_ hxb;have HKW:=hq_ (KeepsOthers.of_below hE);clear hW0 hxb r0 r1 r2 e0 e1 e2;refine bf_ (α:=Inst) (x:=none) (gf:=174) (lb:=#[.pointer (some ⟨W.heap.size+1,0,none⟩),.pointer (some ⟨W.heap.size+1+1,0,none⟩)]) rfl (enters_of Tryz.func174 (by kernel_rfl) rfl)
    (gg_ (fun b=>G b∧b<w.heap.size) (fun k=>k<W0.heap.size) a3 a4 c3 B.ext.length c4 (W.heap.size+1) (W.heap.size+1+1) W0.heap.size LB W0 B x (HB.out.below HS1.out.below) VB.out (fun k h=>by have:=HS1.out.below.size;have:=h.2;show k<_;omega) (fun k h=>h) (Nat.le_refl _) hsb hxb2 hsb.lt hxb2.lt oq_ oq_ oq_ oq_)
    (fun h k=>h.trans k) (fun W1 l o o' hl ho hc=>KpO.putObj (fun k h=>h) W1 l o o' hl ho hc) (fun W1 W2 hn hg=>KpO.grown (fun k h=>h) W1 W2 hn hg) (fun y=>rfl)
    (fun pre W'=>pre=[]∧AlW w #[.slice a1 LA.length c1,.int .i64 A.len,.slice (some ⟨b8,f8,none⟩) A.ext.length c2] #[.slice a3 LB.length c3,.int .i64 B.len,.slice a4 B.ext.length c4] false W'∧KeepsOthers W0 W'∧Bxx W' W.heap.size #[.int .i64 x.day,.int .i64 x.frm,.int .i64 x.fin] 77)
    (fun c' _ W'=>c'=.ret∧(∃ y,ce_ B x y)∧AlW w #[.slice a1 LA.length c1,.int .i64 A.len,.slice (some ⟨b8,f8,none⟩) A.ext.length c2] #[.slice a3 LB.length c3,.int .i64 B.len,.slice a4 B.ext.length c4] true W'∧KeepsOthers W0 W')
    (fun pre A' C row hI hg hr=>by
     have hr':∀ r,row=some r->W0.heap.size≤r∧∃ o:Obj,A'.heap[r]? = some o∧o.isCells=false:=fun r e=>by
      rcases hr r e with ⟨h,_⟩|h
      ·cases h
      ·exact h
     exact ⟨hI.1,hI.2.1.grow hg fun r e=>⟨by have:=(hr' r e).1;omega,(hr' r e).2⟩,KeepsOthers.grow hI.2.2.1 hg fun r e=>(hr' r e).1,hI.2.2.2.grown hg fun e=>by
      obtain ⟨h,_⟩:=hr' _ e.symm;omega⟩)
    (fun c' pre A' C row hI hg hr=>by
     have hr':∀ r,row=some r->W0.heap.size≤r∧∃ o:Obj,A'.heap[r]? = some o∧o.isCells=false:=fun r e=>by
      rcases hr r e with ⟨h,_⟩|h
      ·cases h
      ·exact h
     exact ⟨hI.1,hI.2.1,hI.2.2.1.grow hg fun r e=>⟨by have:=(hr' r e).1;omega,(hr' r e).2⟩,KeepsOthers.grow hI.2.2.2 hg fun r e=>(hr' r e).1⟩)
    (fun _ _ _ _ _ _ _ _ h=>h) (fun _ _ _ _ _ h=>h) ⟨rfl,HS1.out,KeepsOthers.refl _,HXB.out⟩
    (fun y a' _=>a'=⟨#[.agg #[.slice a1 LA.length c1,.int .i64 A.len,.slice (some ⟨b8,f8,none⟩) A.ext.length c2],.agg #[.slice a3 LB.length c3,.int .i64 B.len,.slice a4 B.ext.length c4],.pointer (some ⟨w.heap.size,0,none⟩),.pointer (some ⟨w.heap.size+1,0,none⟩),.pointer (some ⟨w.heap.size+1+1,0,none⟩),undef,.pointer (some ⟨W.heap.size,0,none⟩),.pointer (some ⟨w.heap.size,2,none⟩),.slice (some ⟨b8,f8,none⟩) A.ext.length c2,.int .i64 A.ext.length,.int .i64 k,.bool true,.pointer (some ⟨b8,f8+k*3,none⟩),ival x,.agg #[.slice a3 LB.length c3,.int .i64 B.len,.slice a4 B.ext.length c4],ival x,.func (.func 174) #[] #[.pointer (some ⟨W.heap.size+1,0,none⟩),.pointer (some ⟨W.heap.size+1+1,0,none⟩)],ival y,u18,u19,u20,u21,u22],[]⟩)
    (fun _ _ _ _ _ _ _ _ _ h=>h) ?assign ?body ?done ?stop
   case assign=>
    intro l pre y W' K _ _ _ hK
    gi_wp2
    exact hK _ _ (World.grownBy.of_below (Below.refl _ _) none) sq_
   case body=>
    rintro l pre y _ W' ⟨rfl,hA,hKO,-⟩ ⟨hy,-⟩ rfl;have q1:=(hA.b2.cells 0).1;have q2:=(hA.b2.cells 0).2;have HA1:=hq_ (hA.setR (s:=true));have HKO:=hq_ hKO;have HY:=hq_ hy;clear hA hKO hy;gi_wp2_with fail
    exact ⟨(KeepsOthers.setCell W' _ _).from _,rfl,⟨y,HY.out⟩,HA1.out,HKO.out.trans (KeepsOthers.setCell W' _ _)⟩
   case done=>
    rintro D xs W' hD hfin ⟨rfl,hA,hKO,hx1⟩ hdef;have hns:¬ ∃ y,ce_ B x y:=fun ⟨y,hy⟩=>by have:=(hfin y).2 hy;simp at this
    have hwz:=hA.b1.lt;have q3:=(hA.b1.cells 2).1;have q4:=(hA.b2.cells 0).1;have q5:=(hA.b2.cells 0).2;have HA1:=hq_ hA;have HKO:=hq_ hKO;have HDEF:=hq_ hdef;have HNS:=hq_ hns;have HX1:=hq_ hx1;have hM:aj_ w.heap.size ({ target:=.collected D,args:=#[] } :: ds) W':=aj_.cons HM.out oq_ ((HKW.out.trans hKO).from _) oq_ hdef;have HM1:=hq_ hM;have hcf:=fun W1 (hb:Below W'.heap.size W' W1)=>l7_ (fun b=>G b∧b<w.heap.size) (.slice a4 B.ext.length c4) B.ext (fun y=>decide (ae_ x.frm x.fin y.frm y.fin)) 164 #[.pointer (some ⟨W.heap.size,0,none⟩)] (enters_of Tryz.func164 (by kernel_rfl) rfl) W1 ((HB.out.below HA1.out.below).below hb).ex (fun W2 y hb2 _=>(p8_ x y W.heap.size W2 ((hx1.below hb).below hb2)).mono fun e w' h=>⟨h.1,Et hb2 h.2⟩);obtain ⟨q,hq⟩:∃ q,B.ext.any (fun y=>decide (ae_ x.frm x.fin y.frm y.fin))=q:=⟨_,rfl⟩;rw [hq] at hcf;have HCF:=hq_ hcf;have HQ:=hq_ hq;clear hfin hA hKO hdef hns hx1 hM hcf hq hsb hxb2;cases q with
    | true=>
     gi_wp2_with (refine ⟨trivial,rfl,?_⟩;gi_at_call 83;refine (callsIn_wide.2 (HCF.out _ xE)).mono ?_;rintro e w4 ⟨rfl,hb4⟩;have HA4:=hq_ (HA1.out.ext hb4);have q4:=(HA4.out.b2.cells 0).1;have q5:=(HA4.out.b2.cells 0).2;have HB4:=hq_ hb4;clear hb4)
     have hA5:=HA4.out.setR (s:=true);refine ah_ (B:=w.heap.size) _ _ (HM1.out.keep (((KeepsOthers.of_below HB4.out).trans (KeepsOthers.setCell w4 ⟨w.heap.size+1+1,0,none⟩ (.bool true))).from _)) fun w' hs=>?_;have hc:=Bxx.c0 (hs.cells _ _ hA5.b2 rfl);refine ⟨.bool true,by simp [results,Tryz.results116,go_sem,hc],true,rfl,⟨fun _=>gq_.2 ⟨k,hlt,?_⟩,fun _=>rfl⟩,hA5.below.trans hs.below⟩;rw [HX.out];obtain ⟨y,hy,h⟩:=List.any_eq_true.1 HQ.out;exact .inr ⟨y,hy,of_decide_eq_true h⟩
    | false=>
     gi_wp2_with (refine ⟨trivial,rfl,?_⟩;gi_at_call 83;refine (callsIn_wide.2 (HCF.out _ xE)).mono ?_;rintro e w4 ⟨rfl,hb4⟩;have HA4:=hq_ (HA1.out.ext hb4);have HB4:=hq_ hb4;clear hb4)
     refine ⟨⟨k+1,_,_,_,_,_,_,_,_,_,_,_,_,_,_,by push_cast;rfl,oq_,hq_ fun j hj=>?_,HA4,hq_ (HM1.out.keep ((KeepsOthers.of_below HB4.out).from _))⟩,by simp [intOf];omega⟩;by_cases e:j<k
     ·exact HN.out j e
     ·obtain rfl:j=k:=oq_;rw [HX.out];rintro (h|⟨y,hy,h⟩)
      ·exact HNS.out h
      ·have:=HQ.out;rw [List.any_eq_false] at this;exact this y hy (decide_eq_true h)
   case stop=>
    rintro D c' pre W' hD ⟨rfl,hy,hA,hKO⟩ hdef;have HA1:=hq_ hA;have HY:=hq_ hy;have HM1:=hq_ (aj_.cons (D:=D) HM.out oq_ ((HKW.out.trans hKO).from _) oq_ hdef);clear hA hKO hdef hy;gi_wp2_with fail
    refine ah_ (B:=w.heap.size) _ _ HM1.out fun w' hs=>?_;have hc:=Bxx.c0 (hs.cells _ _ HA1.out.b2 rfl);exact ⟨.bool true,by simp [results,Tryz.results116,go_sem,hc],true,rfl,⟨fun _=>gq_.2 ⟨k,hlt,by rw [HX.out];exact .inl HY.out⟩,fun _=>rfl⟩,HA1.out.below.trans hs.below⟩
  ·obtain rfl:k=A.ext.length:=oq_;have hkI:¬ (A.ext.length:Int)<A.ext.length:=oq_;have q4:=(HS.out.b2.cells 0).1;have q5:=(HS.out.b2.cells 0).2;gi_wp2_with fail
   have hA5:=HS.out.setR (s:=false);refine ah_ (B:=w.heap.size) _ _ (HM.out.keep ((KeepsOthers.setCell W ⟨w.heap.size+1+1,0,none⟩ (.bool false)).from _)) fun w' hs=>?_;have hc:=Bxx.c0 (hs.cells _ _ hA5.b2 rfl);exact ⟨.bool false,by simp [results,Tryz.results116,go_sem,hc],false,rfl,⟨fun h=>(by cases h),fun h=>by obtain ⟨j,hj,h⟩:=gq_.1 h;exact absurd h (HN.out j hj)⟩,hA5.below.trans hs.below⟩
end Go.Proofs.YtkclokcenllhmaaGreat
namespace Go.Proofs.YtkclokcenllhmaaGreat
open Go.RowKit Go.Maps Kal
structure SS (s b:Int) (m:List (List Per)) (w:World) (j:Nat) (lv:Value) (Lk:List (Value × List Per)) (W:World):Prop where
 below:Below w.heap.size w W
 rbx:Bxx W (w.heap.size+1) #[.slice none 0 0] 128
 row:RowT w.heap.size (fun k=>k=w.heap.size∨k=w.heap.size+1) W lv Lk
 own:∀ g,lv.ownBlock=some g->w.heap.size+2≤g
 eq:Lk.map Prod.snd=shL (m.take j) b
 ok:∀ t∈m.take j,∀ p∈t,shE p b=0
end Go.Proofs.YtkclokcenllhmaaGreat
namespace Go.Proofs.YtkclokcenllhmaaGreat
open Go.RowKit Go.Shelf Go.Maps Kal
attribute [local go_sem] Oper.semAt_some
theorem MixL.cellB {F:Nat->Prop} {L:List (Value × List Per)} (h:MixL W F v L):MixL W (dx_ W) v L:=by
 refine ⟨?_,h.len,fun x hx=>?_⟩
 ·obtain ⟨a,c,rfl,h1,h2,h3⟩:=h.row;refine ⟨a,c,rfl,h1,h2,?_⟩;by_cases hL:L.length=0
  ·exact .inl hL
  ·rcases h3 with h3|⟨b,o,rfl,hb,hl,hc⟩
   ·exact .inl h3
   ·refine .inr ⟨b,o,rfl,fw_ (hc 0 (L.getD 0 default).1 ?_),hl,hc⟩;rw [List.getElem?_map,List.getD_eq_getElem?_getD,List.getElem?_eq_getElem oq_];rfl
 ·obtain ⟨T,e,g⟩:=h.all x hx;exact ⟨T,e,g.cellB⟩
theorem MixR.put {F:Nat->Prop} {l:Nat} {o:Obj} (h:MixR W F v m) (hl:W.heap[l]? = some o) (ho:o.isCells=false):MixR (W.putObj l o') (fun _=>True) v m:=by
 obtain ⟨L,e,g⟩:=h;refine MixR.mono ⟨L,e,g.cellB.keep2 fun b hb _=>World.putObj_heap_other ?_⟩ fun _ _=>trivial;obtain ⟨x,hx,hc⟩:=hb;rintro rfl;rw [hl] at hx;cases hx;rw [ho] at hc;cases hc
theorem MixR.grown {F:Nat->Prop} (h:MixR W F v m) (hg:W.grownBy W' none):MixR W' F v m:=h.keep2 fun b _ hl=>hg.block b hl sq_
structure PrV where
 p:Pr
 vc:Value
 vd:Value
 vx:Value
 vy:Value
abbrev PrV.val (y:PrV):Value:=.agg #[y.vc,.int .i64 y.p.c.min,y.vd,.int .i64 y.p.d.min,.int .i64 y.p.k,y.vx,y.vy,.int .i64 (max 0 (-y.p.k))]
def EyP (T:List Pr) (pre:List PrV) (y:PrV) (W:World):Prop:=(∃ r,T=pre.map PrV.p ++ y.p :: r)∧MixR W (fun _=>True) y.vx (pxS y.p)∧MixR W (fun _=>True) y.vy (pyS y.p)∧(∃ a n c,y.vc=.slice a n c)∧(∃ a n c,y.vd=.slice a n c)∧MV 0 (pxS y.p)∧MV 0 (pyS y.p)
theorem EyP.put {T:List Pr} (pre:List PrV) (y:PrV) (W:World) (l:Nat) (o o':Obj) (hl:W.heap[l]? = some o) (ho:o.isCells=false) (h:EyP T pre y W):EyP T pre y (W.putObj l o'):=⟨h.1,h.2.1.put hl ho,h.2.2.1.put hl ho,h.2.2.2⟩
theorem EyP.grown {T:List Pr} (pre:List PrV) (y:PrV) (W W':World) (hg:W.grownBy W' none) (h:EyP T pre y W):EyP T pre y W':=⟨h.1,h.2.1.grown hg,h.2.2.1.grown hg,h.2.2.2⟩
theorem ga_ (a1 a2 a3 a4:Option Addr) (n1 c1 n2 c2 n3 c3 n4 c4:Nat) (la lb:Int) (w:World) :
  Calls Tryz.prog 117 #[.agg #[.slice a1 n1 c1,.int .i64 la,.slice a2 n2 c2],.agg #[.slice a3 n3 c3,.int .i64 lb,.slice a4 n4 c4]] w fun e w'=>
   e=.returned (.func (.func 165) #[] #[.pointer (some ⟨w.heap.size,0,none⟩),.pointer (some ⟨w.heap.size+1,0,none⟩)])∧
   w'=(w.alloc (.cells #[.slice a1 n1 c1,.int .i64 la,.slice a2 n2 c2] 55)).alloc (.cells #[.slice a3 n3 c3,.int .i64 lb,.slice a4 n4 c4] 55):=by
 go_enter Tryz.func117,Tryz.ntmps117
 go_wp2;go_ret;exact ⟨rfl,rfl⟩
end Go.Proofs.YtkclokcenllhmaaGreat
namespace Go.Proofs.YtkclokcenllhmaaGreat
open Go.RowKit Go.Shelf Go.Maps Kal
attribute [local go_sem] Oper.semAt_some
def tl_ (A B:Str) (w:World) (e:Ending) (w':World):Prop:=∃ r k,e=.returned (.tuple #[.bool r,.int .i64 k])∧db_ A B r k∧Below w.heap.size w w'
structure MtW (w:World) (av bv:Array Value) (r:Bool) (k:Int) (W:World):Prop where
 below:Below w.heap.size w W
 b0:Bxx W w.heap.size av 55
 b1:Bxx W (w.heap.size+1) bv 55
 b2:Bxx W (w.heap.size+1+1) #[.bool r] 4
 b3:Bxx W (w.heap.size+1+1+1) #[.int .i64 k] 32
theorem MtW.grow {r:Bool} {e:Int} (h:MtW w av bv r e A) (hg:A.grownBy C row) (hr:∀ k,row=some k->w.heap.size≤k∧∃ o:Obj,A.heap[k]? = some o∧o.isCells=false):MtW w av bv r e C:=by
 have key:∀ {b:Nat} {c:Array Value} {t:TypeId},Bxx A b c t->Bxx C b c t:=fun {b c t} hb=>hb.grown hg fun e=>by
  obtain ⟨_,o,h1,h2⟩:=hr b e.symm;rw [hb] at h1;cases h1;cases h2
 exact ⟨h.below.grown hg h.below.size fun k e=>(hr k e).1,key h.b0,key h.b1,key h.b2,key h.b3⟩
theorem MtW.ext {r:Bool} {e:Int} (h:MtW w av bv r e A) (hb:Below A.heap.size A C):MtW w av bv r e C:=
 ⟨Et h.below hb,h.b0.below hb,h.b1.below hb,h.b2.below hb,h.b3.below hb⟩
theorem MtW.setR {r s:Bool} {k l:Int} (h:MtW w av bv r k A):MtW w av bv s l ((A.setCell ⟨w.heap.size+1+1,0,none⟩ (.bool s)).setCell ⟨w.heap.size+1+1+1,0,none⟩ (.int .i64 l)):=
 ⟨(h.below.setCell (p:=⟨w.heap.size+1+1,0,none⟩) tq_ _).setCell (p:=⟨w.heap.size+1+1+1,0,none⟩) tq_ _,(h.b0.setNe _ (by show _≠_;omega)).setNe _ (by show _≠_;omega),(h.b1.setNe _ (by show _≠_;omega)).setNe _ (by show _≠_;omega),Bxx.setNe (t:=4) (c:=#[.bool s]) (a0_ 0 (.bool s) h.b2) _ sq_,a0_ 0 _ (h.b3.setNe _ sq_)⟩
def LtQ (lb:Nat) (pre:List PrV) (W:World):Prop:=∃ lt:Bool,Bxx W lb #[.bool lt] 4∧(lt=true↔∃ y∈pre,∃ n,he_ y.p n)
def hh_ (n b:Nat) (y:PrV) (W:World):Prop:=n≤b∧Bxx W b #[y.vc,.int .i64 y.p.c.min,y.vd,.int .i64 y.p.d.min,.int .i64 y.p.k,y.vx,y.vy,.int .i64 (max 0 (-y.p.k))] 168
theorem hh_.put {b:Nat} {y:PrV} {l:Nat} {o:Obj} (h:hh_ n b y W) (hl:W.heap[l]? = some o) (ho:o.isCells=false):hh_ n b y (W.putObj l o'):=
 ⟨h.1,(World.putObj_heap_other (fun e=>by subst e;rw [h.2] at hl;cases hl;cases ho)).trans h.2⟩
end Go.Proofs.YtkclokcenllhmaaGreat
namespace Go.Proofs.YtkclokcenllhmaaGreat
open Go.RowKit Go.Shelf Go.Maps Kal
attribute [local go_sem] Oper.semAt_some
theorem dv_ {A B:Str} (h:A.cls=[]) {l r:List Pr} {p:Pr} (e:bq_ A B=l ++ p :: r):False:=by
 have h0:bq_ A B=[]:=by unfold bq_;rw [h];rfl
 rw [h0] at e;simp at e
theorem fz_ (F G pb:Nat->Prop) (a1 a2 a3 a4:Option Addr) (c1 n2 c2 c3 n4 c4 ab bb n:Nat) (L M:List ClsV) (w:World) (A B:Str)
  (hA:StrL w F (.slice a1 L.length c1) (.slice a2 n2 c2) L A) (hB:StrL w G (.slice a3 M.length c3) (.slice a4 n4 c4) M B) (vA:MStr A) (vB:MStr B) (hF:∀ k,F k->pb k) (hG:∀ k,G k->pb k) (hpb:∀ k,pb k->k<n) (hn:n≤w.heap.size)
  (hab:Bxx w ab #[.slice a1 L.length c1,.int .i64 A.len,.slice a2 n2 c2] 55) (hbb:Bxx w bb #[.slice a3 M.length c3,.int .i64 B.len,.slice a4 n4 c4] 55) (g1:pb ab) (g2:pb bb) (hno:A.cls=[]) :
  SeqZ Tryz.prog 165 #[.pointer (some ⟨ab,0,none⟩),.pointer (some ⟨bb,0,none⟩)] (fun y:PrV=>#[y.val]) (KpO pb n) none (EyP (bq_ A B)) (fun xs=>xs.map PrV.p=bq_ A B) w:=by
 intro l' J Jx W hW hJ hJx hY hJ0;have haW:Bxx W ab _ _:=hab.below hW;have hlA:L.length=0:=by rw [<- List.length_map ClsV.cls,hA.eq,hno];rfl
 have hpn:bq_ A B=[]:=by unfold bq_;rw [hno];rfl
 have s0:=(haW.cells 0).1;rw [hlA] at s0;have HJW:=hq_ hJ0;have HPN:=hq_ hpn;clear hJ hY hJx hA hB vA vB hF hG hpb hab hbb haW hW hn hlA hpn hJ0 hno;refine callsIn_of_wp Tryz.func165 rfl trivial ?_ rfl;simp only [Tryz.ntmps165,List.size_toArray,List.length_cons,List.length_nil,Nat.reduceAdd,Nat.reduceSub,Array.replicate_succ,Array.replicate_zero,List.push_toArray,List.append_toArray,List.nil_append,List.cons_append];gi_wp2_with fail
 clear s0;gi_loopw [15] (fun vi wr=>vi=.int .i64 0∧Hid (J [] wr)) (fun _ _=>0)
 case atStart=>exact ⟨rfl,HJW⟩
 case round=>
  obtain ⟨rfl,HJ⟩:=hrel;have hkI:¬ (0:Int)<0:=oq_;gi_wp2_with fail
  refine bodyPost_end (results_none rfl _ _ _) rfl ?_;exact ⟨⟨_,rfl⟩,.inl ⟨[],by rw [HPN.out];rfl,HJ.out⟩⟩
theorem re_ (F G:Nat->Prop) (cva eva cvb evb:Value) (A B:Str) (w:World) (hA:StrR w F cva eva A) (hB:StrR w G cvb evb B) (vA:MStr A) (vB:MStr B) (hno:A.cls=[]) :
  Calls Tryz.prog 70 #[.agg #[cva,.int .i64 A.len,eva],.agg #[cvb,.int .i64 B.len,evb]] w (tl_ A B w):=by
 have hA:=hA.lt;have hB:=hB.lt;have HVA:=fun W (hb:Below w.heap.size w W)=>cq_ _ cva eva A W (hA.ext hb);have HVB:=fun W (hb:Below w.heap.size w W)=>cq_ _ cvb evb B W (hB.ext hb);rw [ca_.2 vA.val] at HVA;rw [ca_.2 vB.val] at HVB;have HAB:=fun W (hb:Below w.heap.size w W)=>j8_ _ _ cva eva cvb evb A B W (hA.ext hb) (hB.ext hb) vA vB;have HBA:=fun W (hb:Below w.heap.size w W)=>j8_ _ _ cvb evb cva eva B A W (hB.ext hb) (hA.ext hb) vB vA;obtain ⟨LA,hA⟩:=hA;obtain ⟨LB,hB⟩:=hB;obtain ⟨a1,c1,rfl⟩:=hA.cl.form;obtain ⟨a2,c2,rfl⟩:=hA.ex.form;obtain ⟨a3,c3,rfl⟩:=hB.cl.form;obtain ⟨a4,c4,rfl⟩:=hB.ex.form;have HA:=hq_ hA;have HB:=hq_ hB;have VA:=hq_ vA;have HNO:=hq_ hno;have VB:=hq_ vB;have HVA:=hq_ HVA;have HVB:=hq_ HVB;have HAB:=hq_ HAB;have HBA:=hq_ HBA;clear hA hB vA vB hno;refine callsIn_wide (n:=0).1 ?_;refine callsIn_of_wp_marks Tryz.func70 rfl trivial ?_ rfl;simp only [Tryz.ntmps70,List.size_toArray,List.length_cons,List.length_nil,Nat.reduceAdd,Nat.reduceSub,Array.replicate_succ,Array.replicate_zero,List.push_toArray,List.append_toArray,List.nil_append,List.cons_append];have HS0:Hid (MtW w #[.slice a1 LA.length c1,.int .i64 A.len,.slice a2 A.ext.length c2] #[.slice a3 LB.length c3,.int .i64 B.len,.slice a4 B.ext.length c4] false 0 ((((w.alloc (.cells #[.slice a1 LA.length c1,.int .i64 A.len,.slice a2 A.ext.length c2] 55)).alloc (.cells #[.slice a3 LB.length c3,.int .i64 B.len,.slice a4 B.ext.length c4] 55)).alloc (.cells #[.bool false] 4)).alloc (.cells #[.int .i64 0] 32))):=
  hq_ ⟨by exact xE,(((Bxx.at rfl).alloc _).alloc _).alloc _,((Bxx.at sq_).alloc _).alloc _,(Bxx.at sq_).alloc _,Bxx.at sq_⟩
 gi_wp2_with (first
  | (refine ⟨trivial,rfl,?_⟩;gi_at_call 75;(with_reducible refine (callsIn_wide.2 (HVA.out _ HS0.out.below)).mono ?_);rintro e w1 ⟨rfl,hb1⟩;have HS1:=hq_ (HS0.out.ext hb1);have x0:=(HS1.out.b0.cells 0).1;have x1:=(HS1.out.b0.cells 1).1;have x2:=(HS1.out.b0.cells 2).1;have y0:=(HS1.out.b1.cells 0).1;have y1:=(HS1.out.b1.cells 1).1;have y2:=(HS1.out.b1.cells 2).1;clear hb1)
  | (refine ⟨trivial,rfl,?_⟩;gi_at_call 75;(with_reducible refine (callsIn_wide.2 (HVB.out _ HS1.out.below)).mono ?_);rintro e w2 ⟨rfl,hb2⟩;have HS2:=hq_ (HS1.out.ext hb2);clear x0 x1 x2 y0 y1 y2;have x0:=(HS2.out.b0.cells 0).1;have x1:=(HS2.out.b0.cells 1).1;have x2:=(HS2.out.b0.cells 2).1;have y0:=(HS2.out.b1.cells 0).1;have y1:=(HS2.out.b1.cells 1).1;have y2:=(HS2.out.b1.cells 2).1;clear hb2)
  | (refine ⟨trivial,rfl,?_⟩;gi_at_call 116;(with_reducible refine (callsIn_wide.2 (HAB.out _ HS2.out.below)).mono ?_);rintro e w3 ⟨r1,rfl,hr1,hb3⟩;have HS3:=hq_ (HS2.out.ext hb3);have HR1:=hq_ hr1;clear hb3 hr1 x0 x1 x2 y0 y1 y2;have x0:=(HS3.out.b0.cells 0).1;have x1:=(HS3.out.b0.cells 1).1;have x2:=(HS3.out.b0.cells 2).1;have y0:=(HS3.out.b1.cells 0).1;have y1:=(HS3.out.b1.cells 1).1;have y2:=(HS3.out.b1.cells 2).1;have z0:=(HS3.out.b2.cells 0).1;have z1:=(HS3.out.b2.cells 0).2;have z2:=(HS3.out.b3.cells 0).1;have z3:=(HS3.out.b3.cells 0).2;cases r1)
  | (refine ⟨trivial,rfl,?_⟩;gi_at_call 116;(with_reducible refine (callsIn_wide.2 (HBA.out _ HS3.out.below)).mono ?_);rintro e w4 ⟨r2,rfl,hr2,hb4⟩;have HS4:=hq_ (HS3.out.ext hb4);have HR2:=hq_ hr2;clear hb4 hr2 x0 x1 x2 y0 y1 y2 z0 z1 z2 z3;have x0:=(HS4.out.b0.cells 0).1;have x1:=(HS4.out.b0.cells 1).1;have x2:=(HS4.out.b0.cells 2).1;have y0:=(HS4.out.b1.cells 0).1;have y1:=(HS4.out.b1.cells 1).1;have y2:=(HS4.out.b1.cells 2).1;have z0:=(HS4.out.b2.cells 0).1;have z1:=(HS4.out.b2.cells 0).2;have z2:=(HS4.out.b3.cells 0).1;have z3:=(HS4.out.b3.cells 0).2;cases r2)
  | (refine ⟨trivial,?_⟩;apply_assumption))
 ·refine ⟨trivial,rfl,?_⟩
  gi_at_call 117
  refine (callsIn_wide.2 (ga_ a1 a2 a3 a4 LA.length c1 A.ext.length c2 LB.length c3 B.ext.length c4 A.len B.len w4)).mono ?_;rintro e w5 ⟨rfl,hw5⟩;obtain ⟨W0,rfl⟩:∃ W0,W0=w5:=⟨_,rfl⟩;have hE:Below w4.heap.size w4 W0:=by rw [hw5];exact xE
  have hsz:W0.heap.size=w4.heap.size+1+1:=by rw [hw5];simp
  have HAX:Hid (Bxx W0 w4.heap.size #[.slice a1 LA.length c1,.int .i64 A.len,.slice a2 A.ext.length c2] 55):=hq_ (by rw [hw5];exact (Bxx.at rfl).alloc _);have HBX:Hid (Bxx W0 (w4.heap.size+1) #[.slice a3 LB.length c3,.int .i64 B.len,.slice a4 B.ext.length c4] 55):=hq_ (by rw [hw5];exact Bxx.at sq_);have HS5:=hq_ (HS4.out.ext hE);have HB0:=hq_ HS5.out.below;have hww:=HS5.out.below.size;have hwl:=HS4.out.b3.lt;have HPF:Hid (∀ k,(F k∧k<w.heap.size)->k<W0.heap.size):=hq_ (fun k h=>oq_);have HPG:Hid (∀ k,(G k∧k<w.heap.size)->k<W0.heap.size):=hq_ (fun k h=>oq_);have HPB:Hid (∀ k,k<W0.heap.size->k<W0.heap.size):=hq_ (fun k h=>h);have HP1:Hid (w4.heap.size<W0.heap.size):=hq_ oq_;have HP2:Hid (w4.heap.size+1<W0.heap.size):=hq_ oq_;have HNA:Hid (¬ (bl_ A B∨bl_ B A)):=hq_ (fun h=>h.elim (fun h=>by simpa using HR1.out.2 h) (fun h=>by simpa using HR2.out.2 h));clear hw5 hE x0 x1 x2 y0 y1 y2 z0 z1 z2 z3;gi_wp2_with fail
  refine bf_ (α:=PrV) (x:=none) (gf:=165) (lb:=#[.pointer (some ⟨w4.heap.size,0,none⟩),.pointer (some ⟨w4.heap.size+1,0,none⟩)]) rfl (enters_of Tryz.func165 (by kernel_rfl) rfl)
   (fz_ (fun b=>F b∧b<w.heap.size) (fun b=>G b∧b<w.heap.size) (fun k=>k<W0.heap.size) a1 a2 a3 a4 c1 A.ext.length c2 c3 B.ext.length c4 (w4.heap.size) (w4.heap.size+1) W0.heap.size LA LB W0 A B (HA.out.below HB0.out) (HB.out.below HB0.out) VA.out VB.out HPF.out HPG.out HPB.out (Nat.le_refl _) HAX.out HBX.out HP1.out HP2.out HNO.out)
   (fun h k=>h.trans k) (fun W1 l o o' hl ho hc=>KpO.putObj HPB.out W1 l o o' hl ho hc) (fun W1 W2 hn hg=>KpO.grown HPB.out W1 W2 hn hg) (fun y=>rfl)
   (fun pre W'=>(∀ y∈pre,∀ n,0≤n->n≤FarI->¬ he_ y.p n)∧MtW w #[.slice a1 LA.length c1,.int .i64 A.len,.slice a2 A.ext.length c2] #[.slice a3 LB.length c3,.int .i64 B.len,.slice a4 B.ext.length c4] false 0 W'∧KeepsOthers W0 W')
   (fun c' _ W'=>c'=.ret∧e1_ A B∧MtW w #[.slice a1 LA.length c1,.int .i64 A.len,.slice a2 A.ext.length c2] #[.slice a3 LB.length c3,.int .i64 B.len,.slice a4 B.ext.length c4] true 0 W'∧KeepsOthers W0 W')
   (fun pre A' C row hI hg hr=>by
     have hr':∀ r,row=some r->W0.heap.size≤r∧∃ o:Obj,A'.heap[r]? = some o∧o.isCells=false:=fun r e=>by
      rcases hr r e with ⟨h,_⟩|h
      ·cases h
      ·exact h
     exact ⟨hI.1,hI.2.1.grow hg fun r e=>⟨by have:=(hr' r e).1;omega,(hr' r e).2⟩,KeepsOthers.grow hI.2.2 hg fun r e=>(hr' r e).1⟩)
   (fun c' pre A' C row hI hg hr=>by
     have hr':∀ r,row=some r->W0.heap.size≤r∧∃ o:Obj,A'.heap[r]? = some o∧o.isCells=false:=fun r e=>by
      rcases hr r e with ⟨h,_⟩|h
      ·cases h
      ·exact h
     exact ⟨hI.1,hI.2.1,hI.2.2.1.grow hg fun r e=>⟨by have:=(hr' r e).1;omega,(hr' r e).2⟩,KeepsOthers.grow hI.2.2.2 hg fun r e=>(hr' r e).1⟩)
   (fun pre y W1 l o o' hl ho h=>EyP.put pre y W1 l o o' hl ho h) (fun pre y W1 W2 hg h=>EyP.grown pre y W1 W2 hg h) ⟨sq_,HS5.out,KeepsOthers.refl _⟩
   (fun y a' W1=>∃ b,a'=⟨#[.agg #[.slice a1 LA.length c1,.int .i64 A.len,.slice a2 A.ext.length c2],.agg #[.slice a3 LB.length c3,.int .i64 B.len,.slice a4 B.ext.length c4],.pointer (some ⟨w.heap.size,0,none⟩),.pointer (some ⟨w.heap.size+1,0,none⟩),.pointer (some ⟨w.heap.size+1+1,0,none⟩),.pointer (some ⟨w.heap.size+1+1+1,0,none⟩),.pointer (some ⟨b,0,none⟩),undef,undef,undef,undef,undef,undef,.agg #[.slice a1 LA.length c1,.int .i64 A.len,.slice a2 A.ext.length c2],.bool true,.bool false,.bool false,.agg #[.slice a3 LB.length c3,.int .i64 B.len,.slice a4 B.ext.length c4],.bool true,.bool false,.bool false,.agg #[.slice a1 LA.length c1,.int .i64 A.len,.slice a2 A.ext.length c2],.agg #[.slice a3 LB.length c3,.int .i64 B.len,.slice a4 B.ext.length c4],.bool false,.bool false,.agg #[.slice a3 LB.length c3,.int .i64 B.len,.slice a4 B.ext.length c4],.agg #[.slice a1 LA.length c1,.int .i64 A.len,.slice a2 A.ext.length c2],.bool false,.bool false,.agg #[.slice a1 LA.length c1,.int .i64 A.len,.slice a2 A.ext.length c2],.agg #[.slice a3 LB.length c3,.int .i64 B.len,.slice a4 B.ext.length c4],.func (.func 165) #[] #[.pointer (some ⟨w4.heap.size,0,none⟩),.pointer (some ⟨w4.heap.size+1,0,none⟩)],y.val,undef,undef,undef,undef,undef,undef,undef,undef,undef,undef,undef,undef,undef,undef,undef,undef,undef,undef,undef,undef,undef,undef,undef,undef,undef,undef,undef,undef,undef,undef],[]⟩∧hh_ W0.heap.size b y W1)
   (fun y a' W1 l o o' _ hl ho h=>⟨h.choose,h.choose_spec.1,h.choose_spec.2.put hl ho⟩) ?assign ?body ?done ?stop
  case assign=>
   rintro l pre y W' K - - ⟨⟨r,hr⟩,-⟩ -
   exact (dv_ HNO.out hr).elim
  case body=>
   rintro l pre y _ W' - ⟨⟨r,hr⟩,-⟩ -
   exact (dv_ HNO.out hr).elim
  case done=>
   rintro D xs W' hD hfin ⟨hall,hMT,hKO⟩ hdef;have hNE:¬ (bl_ A B∨bl_ B A∨e1_ A B):=fun h=>by
    rcases h with h|h|⟨q,hq,n,h0,h1,h2⟩
    ·exact HNA.out (.inl h)
    ·exact HNA.out (.inr h)
    ·rw [<- hfin] at hq;obtain ⟨y,hy,rfl⟩:=List.mem_map.1 hq;exact hall y hy n h0 h1 h2
   have HNE:=hq_ hNE;have HMT:=hq_ hMT;have HDEF:=hq_ hdef;have hDl:=(Array.getElem?_eq_some_iff.1 hdef).1;have hMs:=hMT.below.size;have hML:=hMT.b3.lt;have HMA:=hq_ (hMT.ext (Ea (Er W') (.cells #[.bool false] 4)));have x0:=(HMA.out.b0.cells 0).1;have x1:=(HMA.out.b0.cells 1).1;have x2:=(HMA.out.b0.cells 2).1;have y0:=(HMA.out.b1.cells 0).1;have y1:=(HMA.out.b1.cells 1).1;have y2:=(HMA.out.b1.cells 2).1;clear hfin hall hMT hKO hdef hNE;gi_wp2_with (refine ⟨trivial,rfl,?_⟩;gi_at_call 117;refine (callsIn_wide.2 (ga_ a1 a2 a3 a4 LA.length c1 A.ext.length c2 LB.length c3 B.ext.length c4 A.len B.len _)).mono ?_;rintro e w' ⟨rfl,rfl⟩)
   generalize hW1:((W'.alloc _).alloc _).alloc _=W1;have hE:Below W'.heap.size W' W1:=by rw [<- hW1];exact xE
   have hsz:W1.heap.size=W'.heap.size+1+1+1:=by rw [<- hW1];simp
   have HLB:Hid (Bxx W1 W'.heap.size #[.bool false] 4):=hq_ (by rw [<- hW1];exact ((Bxx.at rfl).alloc _).alloc _);have HAX:Hid (Bxx W1 (W'.heap.size+1) #[.slice a1 LA.length c1,.int .i64 A.len,.slice a2 A.ext.length c2] 55):=hq_ (by rw [<- hW1];exact (Bxx.at sq_).alloc _);have HBX:Hid (Bxx W1 (W'.heap.size+1+1) #[.slice a3 LB.length c3,.int .i64 B.len,.slice a4 B.ext.length c4] 55):=hq_ (by rw [<- hW1];exact Bxx.at sq_);have HS5:=hq_ (HMT.out.ext hE);have HB0:=hq_ HS5.out.below;have HD1:=hq_ ((hE.block D hDl).trans HDEF.out);have HPF:Hid (∀ k,(F k∧k<w.heap.size)->k<W1.heap.size∧k≠W'.heap.size):=hq_ (fun k h=>oq_);have HPG:Hid (∀ k,(G k∧k<w.heap.size)->k<W1.heap.size∧k≠W'.heap.size):=hq_ (fun k h=>oq_);have HPB:Hid (∀ k,(k<W1.heap.size∧k≠W'.heap.size)->k<W1.heap.size):=hq_ (fun k h=>h.1);have HP1:Hid (W'.heap.size+1<W1.heap.size∧W'.heap.size+1≠W'.heap.size):=hq_ oq_;have HP2:Hid (W'.heap.size+1+1<W1.heap.size∧W'.heap.size+1+1≠W'.heap.size):=hq_ oq_;clear hW1 hE x0 x1 x2 y0 y1 y2;refine bf_ (α:=PrV) (x:=none) (gf:=165) (lb:=#[.pointer (some ⟨W'.heap.size+1,0,none⟩),.pointer (some ⟨W'.heap.size+1+1,0,none⟩)]) rfl (enters_of Tryz.func165 (by kernel_rfl) rfl)
    (fz_ (fun b=>F b∧b<w.heap.size) (fun b=>G b∧b<w.heap.size) (fun k=>k<W1.heap.size∧k≠W'.heap.size) a1 a2 a3 a4 c1 A.ext.length c2 c3 B.ext.length c4 (W'.heap.size+1) (W'.heap.size+1+1) W1.heap.size LA LB W1 A B (HA.out.below HB0.out) (HB.out.below HB0.out) VA.out VB.out HPF.out HPG.out HPB.out (Nat.le_refl _) HAX.out HBX.out HP1.out HP2.out HNO.out)
    (fun h k=>h.trans k) (fun W2 l o o' hl ho hc=>KpO.putObj HPB.out W2 l o o' hl ho hc) (fun W2 W3 hn hg=>KpO.grown HPB.out W2 W3 hn hg) (fun y=>rfl)
    (fun pre W2=>(∀ y∈pre,¬ bigP y.p)∧LtQ W'.heap.size pre W2∧MtW w #[.slice a1 LA.length c1,.int .i64 A.len,.slice a2 A.ext.length c2] #[.slice a3 LB.length c3,.int .i64 B.len,.slice a4 B.ext.length c4] false 0 W2∧KeepsOthers W1 W2)
    (fun c' _ W2=>c'=.ret∧fc_ A B∧MtW w #[.slice a1 LA.length c1,.int .i64 A.len,.slice a2 A.ext.length c2] #[.slice a3 LB.length c3,.int .i64 B.len,.slice a4 B.ext.length c4] false 2 W2∧KeepsOthers W1 W2)
    (fun pre A' C row hI hg hr=>by
      have hr':∀ r,row=some r->W1.heap.size≤r∧∃ o:Obj,A'.heap[r]? = some o∧o.isCells=false:=fun r e=>by
       rcases hr r e with ⟨h,_⟩|h
       ·cases h
       ·exact h
      obtain ⟨h1,⟨lt,h2,h3⟩,h4,h5⟩:=hI;exact ⟨h1,⟨lt,h2.grown hg (fun e=>by have:=(hr' _ e.symm).1;omega),h3⟩,h4.grow hg fun r e=>⟨by have:=(hr' r e).1;omega,(hr' r e).2⟩,KeepsOthers.grow h5 hg fun r e=>(hr' r e).1⟩)
    (fun c' pre A' C row hI hg hr=>by
      have hr':∀ r,row=some r->W1.heap.size≤r∧∃ o:Obj,A'.heap[r]? = some o∧o.isCells=false:=fun r e=>by
       rcases hr r e with ⟨h,_⟩|h
       ·cases h
       ·exact h
      exact ⟨hI.1,hI.2.1,hI.2.2.1.grow hg fun r e=>⟨by have:=(hr' r e).1;omega,(hr' r e).2⟩,KeepsOthers.grow hI.2.2.2 hg fun r e=>(hr' r e).1⟩)
    (fun pre y W2 l o o' hl ho h=>EyP.put pre y W2 l o o' hl ho h) (fun pre y W2 W3 hg h=>EyP.grown pre y W2 W3 hg h) ⟨sq_,⟨false,HLB.out,sq_⟩,HS5.out,KeepsOthers.refl _⟩
    (fun y a' W2=>∃ b,a'=⟨#[.agg #[.slice a1 LA.length c1,.int .i64 A.len,.slice a2 A.ext.length c2],.agg #[.slice a3 LB.length c3,.int .i64 B.len,.slice a4 B.ext.length c4],.pointer (some ⟨w.heap.size,0,none⟩),.pointer (some ⟨w.heap.size+1,0,none⟩),.pointer (some ⟨w.heap.size+1+1,0,none⟩),.pointer (some ⟨w.heap.size+1+1+1,0,none⟩),undef,undef,undef,.pointer (some ⟨W'.heap.size,0,none⟩),.pointer (some ⟨b,0,none⟩),undef,undef,.agg #[.slice a1 LA.length c1,.int .i64 A.len,.slice a2 A.ext.length c2],.bool true,.bool false,.bool false,.agg #[.slice a3 LB.length c3,.int .i64 B.len,.slice a4 B.ext.length c4],.bool true,.bool false,.bool false,.agg #[.slice a1 LA.length c1,.int .i64 A.len,.slice a2 A.ext.length c2],.agg #[.slice a3 LB.length c3,.int .i64 B.len,.slice a4 B.ext.length c4],.bool false,.bool false,.agg #[.slice a3 LB.length c3,.int .i64 B.len,.slice a4 B.ext.length c4],.agg #[.slice a1 LA.length c1,.int .i64 A.len,.slice a2 A.ext.length c2],.bool false,.bool false,.agg #[.slice a1 LA.length c1,.int .i64 A.len,.slice a2 A.ext.length c2],.agg #[.slice a3 LB.length c3,.int .i64 B.len,.slice a4 B.ext.length c4],.func (.func 165) #[] #[.pointer (some ⟨w4.heap.size,0,none⟩),.pointer (some ⟨w4.heap.size+1,0,none⟩)],undef,undef,undef,undef,undef,undef,undef,undef,undef,undef,.agg #[.slice a1 LA.length c1,.int .i64 A.len,.slice a2 A.ext.length c2],.agg #[.slice a3 LB.length c3,.int .i64 B.len,.slice a4 B.ext.length c4],.func (.func 165) #[] #[.pointer (some ⟨W'.heap.size+1,0,none⟩),.pointer (some ⟨W'.heap.size+1+1,0,none⟩)],y.val,undef,undef,undef,undef,undef,undef,undef,undef,undef,undef,undef,undef,undef,undef,undef,undef,undef],[]⟩∧hh_ W1.heap.size b y W2)
    (fun y a' W2 l o o' _ hl ho h=>⟨h.choose,h.choose_spec.1,h.choose_spec.2.put hl ho⟩) ?assign2 ?body2 ?done2 ?stop2
   case assign2=>
    rintro l pre y W' K - - ⟨⟨r,hr⟩,-⟩ -
    exact (dv_ HNO.out hr).elim
   case body2=>
    rintro l pre y _ W' - ⟨⟨r,hr⟩,-⟩ -
    exact (dv_ HNO.out hr).elim
   case done2=>
    rintro D2 xs W2 hD2 hfin ⟨hpre,⟨lt,hlb,hlt⟩,hMT,hKO⟩ hdef;have hSB:¬ fc_ A B:=fun ⟨q,hq,hb⟩=>by
     rw [<- hfin] at hq;obtain ⟨y,hy,rfl⟩:=List.mem_map.1 hq;exact hpre y hy hb
    have hLM:lt=true↔fn_ A B:=by
     rw [hlt];unfold fn_;rw [<- hfin];exact ⟨fun ⟨y,hy,h⟩=>⟨y.p,List.mem_map.2 ⟨y,hy,rfl⟩,h⟩,fun ⟨q,hq,h⟩=>by obtain ⟨y,hy,rfl⟩:=List.mem_map.1 hq;exact ⟨y,hy,h⟩⟩
    have HSB:=hq_ hSB;have HLM:=hq_ hLM;have hd1:=hKO.same D _ HD1.out rfl;have hM:aj_ w.heap.size [{ target:=.collected D2,args:=#[] },{ target:=.collected D,args:=#[] }] W2:=aj_.cons (bt_ oq_ HD1.out) oq_ (hKO.from _) oq_ hdef;have HM:=hq_ hM;have HMT2:=hq_ hMT;have q0:=(hlb.cells 0).1;have z0:=(hMT.b2.cells 0).1;have z1:=(hMT.b2.cells 0).2;have z2:=(hMT.b3.cells 0).1;have z3:=(hMT.b3.cells 0).2;clear hSB hLM hd1 hM hMT hKO hdef hfin hpre hlb hlt;gi_wp2_with fail
    have hA5:=HMT2.out.setR (s:=lt) (l:=0);refine ah_ (B:=w.heap.size) _ _ (HM.out.keep (((KeepsOthers.setCell W2 ⟨w.heap.size+1+1,0,none⟩ (.bool lt)).trans (KeepsOthers.setCell _ ⟨w.heap.size+1+1+1,0,none⟩ (.int .i64 0))).from _)) fun w' hs=>?_;have hc1:=Bxx.c0 (hs.cells _ _ hA5.b2 rfl);have hc2:=Bxx.c0 (hs.cells _ _ hA5.b3 rfl);exact ⟨.tuple #[.bool lt,.int .i64 0],by simp [results,Tryz.results70,go_sem,hc1,hc2],lt,0,rfl,.inr ⟨HNE.out,.inr ⟨HSB.out,rfl,HLM.out⟩⟩,hA5.below.trans hs.below⟩
   case stop2=>
    rintro D2 c' pre W2 hD2 ⟨rfl,hSB,hMT,hKO⟩ hdef;have HSB:=hq_ hSB;have hM:aj_ w.heap.size [{ target:=.collected D2,args:=#[] },{ target:=.collected D,args:=#[] }] W2:=aj_.cons (bt_ oq_ HD1.out) oq_ (hKO.from _) oq_ hdef;have HM:=hq_ hM;have HMT2:=hq_ hMT;clear hMT hdef hM hKO hSB;gi_wp2_with fail
    refine ah_ (B:=w.heap.size) _ _ HM.out fun w' hs=>?_;have hc1:=Bxx.c0 (hs.cells _ _ HMT2.out.b2 rfl);have hc2:=Bxx.c0 (hs.cells _ _ HMT2.out.b3 rfl);exact ⟨.tuple #[.bool false,.int .i64 2],by simp [results,Tryz.results70,go_sem,hc1,hc2],false,2,rfl,.inr ⟨HNE.out,.inl ⟨HSB.out,rfl,rfl⟩⟩,HMT2.out.below.trans hs.below⟩
  case stop=>
   rintro D c' pre W' hD ⟨rfl,hEM,hMT,hKO⟩ hdef;have hM:aj_ w.heap.size [{ target:=.collected D,args:=#[] }] W':=bt_ oq_ hdef;have HMT:=hq_ hMT;have HEM:=hq_ hEM;have HM:=hq_ hM;clear hMT hEM hdef hM hKO;gi_wp2_with fail
   refine ah_ (B:=w.heap.size) _ _ HM.out fun w' hs=>?_;have hc1:=Bxx.c0 (hs.cells _ _ HMT.out.b2 rfl);have hc2:=Bxx.c0 (hs.cells _ _ HMT.out.b3 rfl);exact ⟨.tuple #[.bool true,.int .i64 0],by simp [results,Tryz.results70,go_sem,hc1,hc2],true,0,rfl,.inl ⟨.inr (.inr HEM.out),rfl,rfl⟩,HMT.out.below.trans hs.below⟩
 ·have hA5:=HS4.out.setR (s:=true) (l:=0);refine ah_ (B:=w.heap.size) _ _ (aj_.nil _ _) fun w' hs=>?_;have hc1:=Bxx.c0 (hs.cells _ _ hA5.b2 rfl);have hc2:=Bxx.c0 (hs.cells _ _ hA5.b3 rfl);exact ⟨.tuple #[.bool true,.int .i64 0],by simp [results,Tryz.results70,go_sem,hc1,hc2],true,0,rfl,.inl ⟨.inr (.inl (HR2.out.1 sq_)),rfl,rfl⟩,hA5.below.trans hs.below⟩
 ·have hA5:=HS3.out.setR (s:=true) (l:=0);refine ah_ (B:=w.heap.size) _ _ (aj_.nil _ _) fun w' hs=>?_;have hc1:=Bxx.c0 (hs.cells _ _ hA5.b2 rfl);have hc2:=Bxx.c0 (hs.cells _ _ hA5.b3 rfl);exact ⟨.tuple #[.bool true,.int .i64 0],by simp [results,Tryz.results70,go_sem,hc1,hc2],true,0,rfl,.inl ⟨.inl (HR1.out.1 sq_),rfl,rfl⟩,hA5.below.trans hs.below⟩
end Go.Proofs.YtkclokcenllhmaaGreat
end
namespace Kal
def atF (f:Int) (x y:Inst):Int:=max (max x.frm y.frm) f
def InT (f:Int) (x y:Inst):Prop:=x.fin≤2251799813685248∧y.fin≤2251799813685248∧atF f x y<min x.fin y.fin
def LtH (f:Int) (x y x' y':Inst):Prop:=atF f x y<atF f x' y'∨(atF f x y=atF f x' y'∧(LtI x x'∨(x=x'∧LtI y y')))
theorem LtH.irrefl {f:Int} {x y:Inst}:¬ LtH f x y x y:=by
 rintro (h|⟨_,h|⟨_,h⟩⟩)
 ·omega
 ·exact LtI.irrefl h
 ·exact LtI.irrefl h
theorem LtH.trans {f:Int} {x y x' y' x2 y2:Inst} (h:LtH f x y x' y') (g:LtH f x' y' x2 y2):LtH f x y x2 y2:=by
 rcases h with h|⟨h,h2⟩ <;> rcases g with g|⟨g,g2⟩
 ·exact .inl oq_
 ·exact .inl oq_
 ·exact .inl oq_
 ·refine .inr ⟨oq_,?_⟩;rcases h2 with h2|⟨rfl,h2⟩ <;> rcases g2 with g2|⟨rfl,g2⟩
  ·exact .inl (h2.trans g2)
  ·exact .inl h2
  ·exact .inl g2
  ·exact .inr ⟨rfl,h2.trans g2⟩
def bm_ (S:Inst->Inst->Prop) (f:Int) (x y:Inst) (b:Bool):Prop:=
 (b=true∧S x y∧∀ x' y',S x' y'->¬ LtH f x' y' x y)∨(b=false∧x=⟨0,0,0⟩∧y=⟨0,0,0⟩∧∀ x' y',¬ S x' y')
theorem bm_.congr {S T:Inst->Inst->Prop} {f:Int} {x y:Inst} {b:Bool} (h:bm_ S f x y b) (hs:∀ x y,T x y↔S x y):bm_ T f x y b:=by
 rcases h with ⟨rfl,h1,h2⟩|⟨rfl,rfl,rfl,h1⟩
 ·exact .inl ⟨rfl,(hs _ _).2 h1,fun x' y' k=>h2 x' y' ((hs _ _).1 k)⟩
 ·exact .inr ⟨rfl,rfl,rfl,fun x' y' k=>h1 x' y' ((hs _ _).1 k)⟩
theorem bm_.start {f:Int}:bm_ (fun _ _=>False) f ⟨0,0,0⟩ ⟨0,0,0⟩ false:=.inr ⟨rfl,rfl,rfl,fun _ _ h=>h⟩
def w0_ (f:Int) (x y bx by':Inst) (b:Bool) (cx cy:Inst) (c:Bool):Prop:=
 (InT f x y∧(b=false∨LtH f x y bx by')∧cx=x∧cy=y∧c=true)∨(¬ (InT f x y∧(b=false∨LtH f x y bx by'))∧cx=bx∧cy=by'∧c=b)
theorem bm_.take {S:Inst->Inst->Prop} {f:Int} {x y bx by' cx cy:Inst} {b c:Bool} (h:bm_ S f bx by' b) (g:w0_ f x y bx by' b cx cy c):bm_ (fun x' y'=>S x' y'∨(x'=x∧y'=y∧InT f x y)) f cx cy c:=by
 rcases g with ⟨g1,g2,rfl,rfl,rfl⟩|⟨g1,rfl,rfl,rfl⟩
 ·refine .inl ⟨rfl,.inr ⟨rfl,rfl,g1⟩,?_⟩;rintro x' y' (k|⟨rfl,rfl,_⟩)
  ·rcases h with ⟨rfl,h1,h2⟩|⟨rfl,_,_,h1⟩
   ·rcases g2 with g2|g2
    ·cases g2
    ·exact fun k2=>h2 x' y' k (k2.trans g2)
   ·exact absurd k (h1 x' y')
  ·exact LtH.irrefl
 ·by_cases hi:InT f x y
  ·have g2:¬ (c=false∨LtH f x y cx cy):=fun k=>g1 ⟨hi,k⟩;rcases h with ⟨rfl,h1,h2⟩|⟨rfl,_⟩
   ·refine .inl ⟨rfl,.inl h1,?_⟩;rintro x' y' (k|⟨rfl,rfl,_⟩)
    ·exact h2 x' y' k
    ·exact fun k=>g2 (.inr k)
   ·exact absurd (.inl rfl) g2
  ·exact h.congr fun x' y'=>⟨fun k=>k.elim id fun k=>absurd k.2.2 hi,.inl⟩
def ColS (A B:Str) (f:Int) (x y:Inst):Prop:=IsI A x∧IsI B y∧InT f x y
def PrS (A B:Str) (f:Int) (p:Pr) (x y:Inst):Prop:=OfC A p.c x∧OfC B p.d y∧y.day=x.day+p.k∧InT f x y
section
variable {A B:Str} {f n:Int} {p:Pr} {ok:Bool} {x y:Inst}
def ExA (A B:Str) (f:Int) (k:Nat) (x y:Inst):Prop:=(∃ p∈bq_ A B,PrS A B f p x y)∨∃ j,j<k∧x=A.ext.getD j default∧((dc_ B y∨y∈B.ext)∧InT f x y)
def ExB (A B:Str) (f:Int) (k:Nat) (x y:Inst):Prop:=ExA A B f A.ext.length x y∨∃ j,j<k∧y=B.ext.getD j default∧(dc_ A x∧InT f x y)
theorem InT.clash (h:InT f x y):ae_ x.frm x.fin y.frm y.fin:=by obtain ⟨_,_,h⟩:=h;unfold atF at h;unfold ae_;omega
theorem wj_ (hA:bi_ (fun _=>true) A∨True):(∀ x y,ExB A B f B.ext.length x y↔ColS A B f x y):=by
 intro x y;constructor
 ·rintro ((⟨p,hp,h⟩|⟨j,hj,e,h,hi⟩)|⟨j,hj,e,h,hi⟩)
  ·obtain ⟨h1,h2,_,_⟩:=jk_.1 hp;exact ⟨.inl ⟨_,h1,h.1,h.2.2.2.1⟩,.inl ⟨_,h2,h.2.1,h.2.2.2.2.1⟩,h.2.2.2⟩
  ·refine ⟨.inr (by rw [e,a6_ hj];exact List.getElem_mem hj),?_,hi⟩;rcases h with ⟨c,hc,h⟩|h
   ·exact .inl ⟨c,hc,h,hi.2.1⟩
   ·exact .inr h
  ·refine ⟨?_,.inr (by rw [e,a6_ hj];exact List.getElem_mem hj),hi⟩;obtain ⟨c,hc,h⟩:=h;exact .inl ⟨c,hc,h,hi.1⟩
 ·rintro ⟨h1,h2,hi⟩;rcases h1 with ⟨c,hc,h1,_⟩|h1
  ·rcases h2 with ⟨d,hd,h2,_⟩|h2
   ·refine .inl (.inl ⟨⟨c,d,y.day-x.day⟩,jk_.2 ⟨hc,hd,uz_.2 ?_⟩,h1,h2,by dsimp only;omega,hi⟩);have e1:x.frm=x.day*1440+c.min:=congrArg Inst.frm h1.2;have e2:x.fin=x.day*1440+c.min+A.len:=congrArg Inst.fin h1.2;have e3:y.frm=y.day*1440+d.min:=congrArg Inst.frm h2.2;have e4:y.fin=y.day*1440+d.min+B.len:=congrArg Inst.fin h2.2;have:=hi.clash;unfold ae_ at *;dsimp only;omega
   ·obtain ⟨j,hj,e⟩:=b6_ (d:=default) h2;exact .inr ⟨j,hj,e.symm,⟨c,hc,h1⟩,hi⟩
  ·obtain ⟨j,hj,e⟩:=b6_ (d:=default) h1;refine .inl (.inr ⟨j,hj,e.symm,?_,hi⟩);rcases h2 with ⟨d,hd,h2,_⟩|h2
   ·exact .inl ⟨d,hd,h2⟩
   ·exact .inr h2
end
end Kal
section
variable {av bv:Array Go.Value}{ok:Bool}{a b f x:Int}{m:List (List Kal.Per)}{L:List Go.Proofs.YtkclokcenllhmaaGreat.PV}{B ab g i j k n nb xb yb:Nat}{o':Go.Obj}{o:Go.Oper}{row:Option Nat}{v:Go.Value}{A C W W' w w':Go.World}
namespace Go
theorem e4_ {P:Program} {ops:Array Oper} {rest:List Oper} {a:Act} {Q:Exit->Act->World->Prop} (hgd:o.guard=none) (x y z:Operand) (t:TypeId) (ho:o.op=.call { callee:=.builtin .max,args:=#[x,y,z],argTypes:=#[t,t,t] }) (p q r:Int) (hx:a.eval x=.int .i64 p) (hy:a.eval y=.int .i64 q) (hz:a.eval z=.int .i64 r)
  (h:wpList P ops Q rest (a.put o.dst (.int .i64 (max (max p q) r))) w):wpList P ops Q (o :: rest) a w:=by
 refine wpList_plain hgd fun K hK=>?_;have e:(if r > (if q > p then q else p) then r else (if q > p then q else p))=max (max p q) r:=by repeat' split <;> omega
 unfold Oper.wp execOp;simp only [ho,resolve,invoke,builtin,Sem.run_bind,Sem.run_pure,Result.andThen_ok,List.map_toArray,List.map_cons,List.map_nil,hx,hy,hz,run_max_int3,e];exact hK _ _ h
end Go
namespace Go.Proofs.YtkclokcenllhmaaGreat
open Go.RowKit Go.Maps Kal
theorem wy_ {x y bx by':Inst}:orI (cmpI (atF f x y) (atF f bx by')) (ordI x bx) (ordI y by')<0↔LtH f x y bx by':=by
 unfold orI;have h1:cmpI (atF f x y) (atF f bx by')≠0↔atF f x y≠atF f bx by':=by unfold cmpI;split <;> (try split) <;> omega
 have h2:cmpI (atF f x y) (atF f bx by')<0↔atF f x y<atF f bx by':=by unfold cmpI;split <;> (try split) <;> omega
 by_cases e:atF f x y=atF f bx by'
 ·rw [if_neg (fun h=>(h1.1 h) e)];by_cases e2:ordI x bx=0
  ·rw [if_neg (fun h=>h e2),ep_];have e3:=ow_.1 e2;exact ⟨fun h=>.inr ⟨e,.inr ⟨e3,h⟩⟩,fun h=>by
    rcases h with h|⟨_,h|⟨_,h⟩⟩
    ·omega
    ·rw [e3] at h;exact absurd h LtI.irrefl
    ·exact h⟩
  ·rw [if_pos e2,ep_];exact ⟨fun h=>.inr ⟨e,.inl h⟩,fun h=>by
    rcases h with h|⟨_,h|⟨h,_⟩⟩
    ·omega
    ·exact h
    ·exact absurd (ow_.2 h) e2⟩
 ·rw [if_pos (h1.2 e),h2];exact ⟨fun h=>.inl h,fun h=>by
   rcases h with h|⟨h,_⟩
   ·exact h
   ·exact absurd h e⟩
structure FsB (W:World) (nb ab xb yb:Nat) (c:Bool) (cb:Int) (cx cy:Inst):Prop where
 n:Bxx W nb #[.bool c] 4
 a:Bxx W ab #[.int .i64 cb] 3
 x:Bxx W xb #[.int .i64 cx.day,.int .i64 cx.frm,.int .i64 cx.fin] 77
 y:Bxx W yb #[.int .i64 cy.day,.int .i64 cy.frm,.int .i64 cy.fin] 77
theorem FsB.below {c:Bool} {cb:Int} {cx cy:Inst} (h:FsB W nb ab xb yb c cb cx cy) (hb:Below W.heap.size W W'):FsB W' nb ab xb yb c cb cx cy:=⟨h.n.below hb,h.a.below hb,h.x.below hb,h.y.below hb⟩
structure Ne4 (nb ab xb yb:Nat):Prop where
 na:nb≠ab
 nx:nb≠xb
 ny:nb≠yb
 ax:ab≠xb
 ay:ab≠yb
 xy:xb≠yb
structure Chg (S:Nat->Prop) (w w':World):Prop where
 keep:a3_ (fun k=>¬ S k) w w'
 size:w.heap.size≤w'.heap.size
 os:w'.os=w.os
 tape:w'.tape=w.tape
 output:w'.output=w.output
theorem Chg.of {S:Nat->Prop} (hb:Below w.heap.size w w'):Chg S w w':=⟨fun k _ hl=>hb.block k hl,hb.size,hb.os,hb.tape,hb.output⟩
theorem Chg.set {S:Nat->Prop} {q:Nat} (h:Chg S w w') (v:Value) (hq:S q):Chg S w (w'.setCell ⟨q,i,none⟩ v):=
 ⟨fun k hk hl=>(Below.heap_setCell w' ⟨q,i,none⟩ v k (by rintro rfl;exact hk hq)).trans (h.keep k hk hl),by rw [World.size_setCell];exact h.size,h.os,h.tape,h.output⟩
abbrev Blk4 (nb ab xb yb:Nat) (k:Nat):Prop:=k=nb∨k=ab∨k=xb∨k=yb
def do_ (nb ab xb yb:Nat) (f:Int) (x y bx by':Inst) (b:Bool) (w:World) (e:Ending) (w':World):Prop:=
 e=.returned (.tuple #[])∧∃ cx cy c cb,w0_ f x y bx by' b cx cy c∧(c=true->cb=atF f cx cy)∧FsB w' nb ab xb yb c cb cx cy∧Chg (Blk4 nb ab xb yb) w w'
theorem do_.drew {x y bx by':Inst} {b:Bool} {e:Ending} (h:do_ nb ab xb yb f x y bx by' b w e w'):do_ nb ab xb yb f x y bx by' b w e w'.drew:=by
 obtain ⟨h1,cx,cy,c,cb,h2,h3,h4,h5⟩:=h;exact ⟨h1,cx,cy,c,cb,h2,h3,⟨h4.n,h4.a,h4.x,h4.y⟩,⟨h5.keep,h5.size,h5.os,h5.tape,h5.output⟩⟩
theorem di_ {best:Int} {x y bx by':Inst} {b:Bool} (h:FsB w nb ab xb yb b best bx by') (hbest:b=true->best=atF f bx by') (hb:Below w.heap.size w w') (hn:¬ (InT f x y∧(b=false∨LtH f x y bx by'))):do_ nb ab xb yb f x y bx by' b w (.returned (.tuple #[])) w':=
 ⟨rfl,bx,by',b,best,.inr ⟨hn,rfl,rfl,rfl⟩,hbest,h.below hb,Chg.of hb⟩
theorem ru_ (fb nb ab xb yb:Nat) (f best:Int) (x y bx by':Inst) (b:Bool) (w:World) (hne:Ne4 nb ab xb yb) (hf:Bxx w fb #[.int .i64 f] 3) (h:FsB w nb ab xb yb b best bx by') (hbest:b=true->best=atF f bx by') :
  Calls Tryz.prog 121 #[ival x,ival y,.pointer (some ⟨fb,0,none⟩),.pointer (some ⟨nb,0,none⟩),.pointer (some ⟨ab,0,none⟩),.pointer (some ⟨xb,0,none⟩),.pointer (some ⟨yb,0,none⟩)] w (do_ nb ab xb yb f x y bx by' b w):=by
 obtain ⟨xd,xf,xt⟩:=x;obtain ⟨yd,yf,yt⟩:=y;obtain ⟨at0,hat⟩:∃ a,a=atF f ⟨xd,xf,xt⟩ ⟨yd,yf,yt⟩:=⟨_,rfl⟩;have HAT:Hid (max (max xf yf) f=at0):=hq_ hat.symm;have hIT:InT f ⟨xd,xf,xt⟩ ⟨yd,yf,yt⟩↔xt≤2251799813685248∧yt≤2251799813685248∧at0<min xt yt:=by rw [hat];rfl
 have HIT:=hq_ hIT;have HB:=hq_ h;have HBE:=hq_ hbest;have f0:=a2_ (a2_ (hf.cells 0).1 (.cells #[.int .i64 xd,.int .i64 xf,.int .i64 xt] 77)) (.cells #[.int .i64 yd,.int .i64 yf,.int .i64 yt] 77);clear hIT h hbest hat;obtain ⟨bxd,bxf,bxt⟩:=bx;obtain ⟨byd,byf,byt⟩:=by'
 show Calls _ _ #[.agg #[.int .i64 xd,.int .i64 xf,.int .i64 xt],.agg #[.int .i64 yd,.int .i64 yf,.int .i64 yt],_,_,_,_,_] _ _;by_cases h1:2251799813685248<xt
 ·go_enter Tryz.func121,Tryz.ntmps121
  go_wp2_with (refine e4_ rq_ _ _ _ _ rq_ xf yf f rq_ rq_ rq_ ?_;rw [HAT.out])
  go_end0
  exact di_ HB.out HBE.out xE fun g=>by have:=(HIT.out.1 g.1).1;omega
 by_cases h2:2251799813685248<yt
 ·go_enter Tryz.func121,Tryz.ntmps121
  go_wp2_with (refine e4_ rq_ _ _ _ _ rq_ xf yf f rq_ rq_ rq_ ?_;rw [HAT.out])
  go_end0
  exact di_ HB.out HBE.out xE fun g=>by have:=(HIT.out.1 g.1).2.1;omega
 by_cases h3:min xt yt≤at0
 ·by_cases h4:xt≤yt
  ·have h5:xt≤at0:=oq_
   go_enter Tryz.func121,Tryz.ntmps121
   go_wp2_with (refine e4_ rq_ _ _ _ _ rq_ xf yf f rq_ rq_ rq_ ?_;rw [HAT.out])
   go_end0
   exact di_ HB.out HBE.out xE fun g=>by have:=(HIT.out.1 g.1).2.2;omega
  ·have h5:yt≤at0:=oq_
   go_enter Tryz.func121,Tryz.ntmps121
   go_wp2_with (refine e4_ rq_ _ _ _ _ rq_ xf yf f rq_ rq_ rq_ ?_;rw [HAT.out])
   go_end0
   exact di_ HB.out HBE.out xE fun g=>by have:=(HIT.out.1 g.1).2.2;omega
 have HIN:Hid (InT f ⟨xd,xf,xt⟩ ⟨yd,yf,yt⟩):=hq_ (HIT.out.2 ⟨oq_,oq_,oq_⟩);have HM:Hid (at0<xt∧at0<yt):=hq_ ⟨oq_,oq_⟩;have HNE:=hq_ hne;have HATF:Hid (at0=atF f ⟨xd,xf,xt⟩ ⟨yd,yf,yt⟩):=hq_ (by rw [<- HAT.out];rfl);clear hne;have hput:∀ (w4:World),Below w.heap.size w w4->(b=false∨LtH f ⟨xd,xf,xt⟩ ⟨yd,yf,yt⟩ ⟨bxd,bxf,bxt⟩ ⟨byd,byf,byt⟩)->
   do_ nb ab xb yb f ⟨xd,xf,xt⟩ ⟨yd,yf,yt⟩ ⟨bxd,bxf,bxt⟩ ⟨byd,byf,byt⟩ b w (.returned (.tuple #[])) ((((((((w4.setCell ⟨ab,0,none⟩ (.int .i64 at0)).setCell ⟨xb,0,none⟩ (.int .i64 xd)).setCell ⟨xb,1,none⟩ (.int .i64 xf)).setCell ⟨xb,2,none⟩ (.int .i64 xt)).setCell ⟨yb,0,none⟩ (.int .i64 yd)).setCell ⟨yb,1,none⟩ (.int .i64 yf)).setCell ⟨yb,2,none⟩ (.int .i64 yt)).setCell ⟨nb,0,none⟩ (.bool true)):=by
  intro w4 hb4 hlt;have hB:=HB.out.below hb4;have hne:=HNE.out;refine ⟨rfl,_,_,true,at0,.inl ⟨HIN.out,hlt,rfl,rfl,rfl⟩,fun _=>HATF.out,⟨?_,?_,?_,?_⟩,?_⟩
  ·have h1:=a0_ 0 (.bool true) (((((((hB.n.setNe (k:=ab) (i:=0) (.int .i64 at0) hne.na).setNe (k:=xb) (i:=0) (.int .i64 xd) hne.nx).setNe (k:=xb) (i:=1) (.int .i64 xf) hne.nx).setNe (k:=xb) (i:=2) (.int .i64 xt) hne.nx).setNe (k:=yb) (i:=0) (.int .i64 yd) hne.ny).setNe (k:=yb) (i:=1) (.int .i64 yf) hne.ny).setNe (k:=yb) (i:=2) (.int .i64 yt) hne.ny);simpa [Bxx] using h1
  ·have h0:Bxx (w4.setCell ⟨ab,0,none⟩ (.int .i64 at0)) ab #[.int .i64 at0] 3:=by simpa [Bxx] using a0_ 0 (.int .i64 at0) hB.a
   exact ((((((h0.setNe (k:=xb) (i:=0) (.int .i64 xd) hne.ax).setNe (k:=xb) (i:=1) (.int .i64 xf) hne.ax).setNe (k:=xb) (i:=2) (.int .i64 xt) hne.ax).setNe (k:=yb) (i:=0) (.int .i64 yd) hne.ay).setNe (k:=yb) (i:=1) (.int .i64 yf) hne.ay).setNe (k:=yb) (i:=2) (.int .i64 yt) hne.ay).setNe (k:=nb) (i:=0) (.bool true) hne.na.symm
  ·have h0:Bxx ((((w4.setCell ⟨ab,0,none⟩ (.int .i64 at0)).setCell ⟨xb,0,none⟩ (.int .i64 xd)).setCell ⟨xb,1,none⟩ (.int .i64 xf)).setCell ⟨xb,2,none⟩ (.int .i64 xt)) xb #[.int .i64 xd,.int .i64 xf,.int .i64 xt] 77:=by
    have h1:=a0_ 2 (.int .i64 xt) (a0_ 1 (.int .i64 xf) (a0_ 0 (.int .i64 xd) (hB.x.setNe (k:=ab) (i:=0) (.int .i64 at0) hne.ax.symm)));simpa [Bxx] using h1
   exact (((h0.setNe (k:=yb) (i:=0) (.int .i64 yd) hne.xy).setNe (k:=yb) (i:=1) (.int .i64 yf) hne.xy).setNe (k:=yb) (i:=2) (.int .i64 yt) hne.xy).setNe (k:=nb) (i:=0) (.bool true) hne.nx.symm
  ·have h0:Bxx (((((((w4.setCell ⟨ab,0,none⟩ (.int .i64 at0)).setCell ⟨xb,0,none⟩ (.int .i64 xd)).setCell ⟨xb,1,none⟩ (.int .i64 xf)).setCell ⟨xb,2,none⟩ (.int .i64 xt)).setCell ⟨yb,0,none⟩ (.int .i64 yd)).setCell ⟨yb,1,none⟩ (.int .i64 yf)).setCell ⟨yb,2,none⟩ (.int .i64 yt)) yb #[.int .i64 yd,.int .i64 yf,.int .i64 yt] 77:=by
    have h1:=a0_ 2 (.int .i64 yt) (a0_ 1 (.int .i64 yf) (a0_ 0 (.int .i64 yd) ((((hB.y.setNe (k:=ab) (i:=0) (.int .i64 at0) hne.ay.symm).setNe (k:=xb) (i:=0) (.int .i64 xd) hne.xy.symm).setNe (k:=xb) (i:=1) (.int .i64 xf) hne.xy.symm).setNe (k:=xb) (i:=2) (.int .i64 xt) hne.xy.symm)));simpa [Bxx] using h1
   exact h0.setNe (k:=nb) (i:=0) (.bool true) hne.ny.symm
  ·exact ((((((((Chg.of hb4).set _ (.inr (.inl rfl))).set _ (.inr (.inr (.inl rfl)))).set _ (.inr (.inr (.inl rfl)))).set _ (.inr (.inr (.inl rfl)))).set _ (.inr (.inr (.inr rfl)))).set _ (.inr (.inr (.inr rfl)))).set _ (.inr (.inr (.inr rfl)))).set _ (.inl rfl)
 have HPUT:=hq_ hput;clear hput
 go_enter Tryz.func121,Tryz.ntmps121
 have hmin:(if yt<xt then yt else xt)=min xt yt:=by split <;> omega
 go_upto_region 3 with (first|(rw [hmin])|(refine e4_ rq_ _ _ _ _ rq_ xf yf f rq_ rq_ rq_ ?_;rw [HAT.out]))
 clear hmin h3;generalize hW:(w.alloc _).alloc _=w2;have hE:Below w.heap.size w w2:=by rw [<- hW];exact xE
 have hbx:Bxx w2 w.heap.size #[.int .i64 xd,.int .i64 xf,.int .i64 xt] 77:=by rw [<- hW];exact (Bxx.at rfl).alloc _
 have hby:Bxx w2 (w.heap.size+1) #[.int .i64 yd,.int .i64 yf,.int .i64 yt] 77:=by rw [<- hW];exact Bxx.at sq_
 have x0:=(hbx.cells 0).1;have x1:=(hbx.cells 1).1;have x2:=(hbx.cells 2).1;have y0:=(hby.cells 0).1;have y1:=(hby.cells 1).1;have y2:=(hby.cells 2).1;have hB2:=HB.out.below hE;have n0:=(hB2.n.cells 0).1;have a0:=(hB2.a.cells 0).1;have u0:=(hB2.x.cells 0).1;have u1:=(hB2.x.cells 1).1;have u2:=(hB2.x.cells 2).1;have v0:=(hB2.y.cells 0).1;have v1:=(hB2.y.cells 1).1;have v2:=(hB2.y.cells 2).1;have HE:=hq_ hE;clear hW hbx hby hE f0 hB2;cases b with
 | false=>
  refine a9_ (w0:=w2) [0,1,2,3,4,5,6,7,8,9,10,11,12,13,14,15] [] [39,40,41,42,43,44,45,46,47,48,49,50,51,52,53,54] [.bool false,.bool true,.bool true,undef,undef,undef,undef,undef,undef,undef,undef,undef,undef,undef,undef,.bool true] [[],[0],[1],[2],[2],[2,3,4],[2],[2],[2,6,7],[2],[2],[2,9,10],[2,5,8,11],[2,12],[2,13],[2,14]] (.a x0 (.a x1 (.a x2 (.a y0 (.a y1 (.a y2 (.a n0 (.a a0 (.a u0 (.a u1 (.a u2 (.a v0 (.a v1 (.a v2 (.b))))))))))))))) ?steps3 ?fin3
  case steps3=>
   repeat' first|exact .n|refine .c ?_ ?_|fail
   all_goals try exact stp
  case fin3=>
   rintro W3 hb3 ⟨g0,g1,g2,g3,g4,g5,g6,g7,g8,g9,g10,g11,g12,g13,g14⟩;show wpList _ _ _ [] _ _;simp only [vat];have HE3:=hq_ (Et HE.out g14);clear n0 a0 u0 u1 u2 v0 v1 v2 x0 x1 x2 y0 y1 y2 g6 g7 g8 g9 g10 g11 g12 g13 g14 hb3;obtain ⟨w3,rfl⟩:∃ x,x=W3:=⟨_,rfl⟩;have x0:=g0;have x1:=g1;have x2:=g2;have y0:=g3;have y1:=g4;have y2:=g5;clear g0 g1 g2 g3 g4 g5;go_upto_region 4 with (fail)
   have hb5:Below w.heap.size w w3:=HE3.out;have hB4:=HB.out.below hb5;have k0:=(hB4.n.cells 0).1;have k1:=(hB4.a.cells 0).1;have k2:=(hB4.x.cells 0).1;have k3:=(hB4.x.cells 1).1;have k4:=(hB4.x.cells 2).1;have k5:=(hB4.y.cells 0).1;have k6:=(hB4.y.cells 1).1;have k7:=(hB4.y.cells 2).1;have j0:=(hB4.n.cells 0).2;have j1:=(hB4.a.cells 0).2;have j2:=(hB4.x.cells 0).2;have j3:=(hB4.x.cells 1).2;have j4:=(hB4.x.cells 2).2;have j5:=(hB4.y.cells 0).2;have j6:=(hB4.y.cells 1).2;have j7:=(hB4.y.cells 2).2;have l0:=HB.out.n.lt;have l1:=HB.out.a.lt;have l2:=HB.out.x.lt;have l3:=HB.out.y.lt;have HB5:=hq_ hb5;clear hb5 hB4;have q0:¬ nb=ab:=HNE.out.na;have q1:¬ ab=nb:=HNE.out.na.symm;have q2:¬ nb=xb:=HNE.out.nx;have q3:¬ xb=nb:=HNE.out.nx.symm;have q4:¬ nb=yb:=HNE.out.ny;have q5:¬ yb=nb:=HNE.out.ny.symm;have q6:¬ ab=xb:=HNE.out.ax;have q7:¬ xb=ab:=HNE.out.ax.symm;have q8:¬ ab=yb:=HNE.out.ay;have q9:¬ yb=ab:=HNE.out.ay.symm;have q10:¬ xb=yb:=HNE.out.xy;have q11:¬ yb=xb:=HNE.out.xy.symm;have m0:¬ w.heap.size=nb:=oq_;have m1:¬ w.heap.size=ab:=oq_;have m2:¬ w.heap.size=xb:=oq_;have m3:¬ w.heap.size=yb:=oq_;have m4:¬ w.heap.size+1=nb:=oq_;have m5:¬ w.heap.size+1=ab:=oq_;have m6:¬ w.heap.size+1=xb:=oq_;have m7:¬ w.heap.size+1=yb:=oq_;have m8:¬ nb=w.heap.size:=oq_;have m9:¬ ab=w.heap.size:=oq_;have m10:¬ xb=w.heap.size:=oq_;have m11:¬ yb=w.heap.size:=oq_;have m12:¬ nb=w.heap.size+1:=oq_;have m13:¬ ab=w.heap.size+1:=oq_;have m14:¬ xb=w.heap.size+1:=oq_;have m15:¬ yb=w.heap.size+1:=oq_
   go_region
   all_goals
    go_wp2_with fail
    go_end0
    exact (HPUT.out w3 HB5.out (.inl trivial)).drew
 | true=>
  have H1:=hq_ (fun W=>av_ at0 best W);have H2:=hq_ (fun W=>h5_ ⟨xd,xf,xt⟩ ⟨bxd,bxf,bxt⟩ W);have H3:=hq_ (fun W=>h5_ ⟨yd,yf,yt⟩ ⟨byd,byf,byt⟩ W);have HO:=hq_ (fun b c p q r W h=>sk_ b c p q r W h);have HL:Hid (orI (cmpI at0 best) (ordI ⟨xd,xf,xt⟩ ⟨bxd,bxf,bxt⟩) (ordI ⟨yd,yf,yt⟩ ⟨byd,byf,byt⟩)<0↔LtH f ⟨xd,xf,xt⟩ ⟨yd,yf,yt⟩ ⟨bxd,bxf,bxt⟩ ⟨byd,byf,byt⟩):=hq_ (by rw [HBE.out rfl,HATF.out];exact wy_);generalize cmpI at0 best=p at *;generalize ordI ⟨xd,xf,xt⟩ ⟨bxd,bxf,bxt⟩=q at *;generalize ordI ⟨yd,yf,yt⟩ ⟨byd,byf,byt⟩=r at *;refine a9_ (w0:=w2) [0,1,2,3,4,5,6,7,8,9,10,11] [12,13,14,15] [39,40,41,42,43,44,45,46,47,48,49,50] [.bool true,.bool false,.bool false,.int .i64 at0,.int .i64 best,.int .i64 p,.agg #[.int .i64 xd,.int .i64 xf,.int .i64 xt],.agg #[.int .i64 bxd,.int .i64 bxf,.int .i64 bxt],.int .i64 q,.agg #[.int .i64 yd,.int .i64 yf,.int .i64 yt],.agg #[.int .i64 byd,.int .i64 byf,.int .i64 byt],.int .i64 r] [[],[0],[1],[2],[2],[2,3,4],[2],[2],[2,6,7],[2],[2],[2,9,10]] (.a x0 (.a x1 (.a x2 (.a y0 (.a y1 (.a y2 (.a n0 (.a a0 (.a u0 (.a u1 (.a u2 (.a v0 (.a v1 (.a v2 (.b))))))))))))))) ?steps ?fin
  case steps=>
   repeat' first|exact .n|refine .c ?_ ?_|fail
   all_goals try exact stp
   all_goals
    rintro v W hb ⟨g0,g1,g2,g3,g4,g5,g6,g7,g8,g9,g10,g11,g12,g13,g14⟩;refine .inl ⟨rfl,fun K hK=>?_⟩;simp only [ov,vat,Nat.reduceBEq,cond_true,cond_false];go_wp2_with (first|(go_at_call 59;(with_reducible refine (H1.out _).mono ?_);rintro e w9 ⟨rfl,h9⟩;have hb9:Below W.heap.size W w9:=h9 ▸ Below.refl _ _;clear h9)|(go_at_call 80;(with_reducible refine (H2.out _).mono ?_);rintro e w9 ⟨rfl,hb9⟩)|(go_at_call 80;(with_reducible refine (H3.out _).mono ?_);rintro e w9 ⟨rfl,hb9⟩))
    exact acx (hK w9 hb9) (by simp [ov,vat])
  case fin=>
   rintro W3 hb3 ⟨g0,g1,g2,g3,g4,g5,g6,g7,g8,g9,g10,g11,g12,g13,g14⟩;show wpList _ _ _ [_,_,_,_] _ _;simp only [vat];have HE3:=hq_ (Et HE.out g14);clear n0 a0 u0 u1 u2 v0 v1 v2 x0 x1 x2 y0 y1 y2;by_cases hlt:orI p q r<0
   ·have HLT:=hq_ (HL.out.1 hlt);go_upto_region 4 with (go_at_call 58;(refine (HO.out _ _ _ _ _ _ (fun i=>((Bxx.new _ _ _).cells i).1)).mono ?_);rintro e w5 ⟨rfl,hb5⟩)
    generalize hw3:w5=w3 at *;have hb3:Below W3.heap.size W3 w3:=Et (Ea (Er _) _) hb5;have x0:=Ext.cell hb3 g0;have x1:=Ext.cell hb3 g1;have x2:=Ext.cell hb3 g2;have y0:=Ext.cell hb3 g3;have y1:=Ext.cell hb3 g4;have y2:=Ext.cell hb3 g5;have HE4:=hq_ (Et HE3.out hb3);clear hb5 hb3 g0 g1 g2 g3 g4 g5 g6 g7 g8 g9 g10 g11 g12 g13 g14 hlt;have hb5:Below w.heap.size w w3:=HE4.out;have hB4:=HB.out.below hb5;have k0:=(hB4.n.cells 0).1;have k1:=(hB4.a.cells 0).1;have k2:=(hB4.x.cells 0).1;have k3:=(hB4.x.cells 1).1;have k4:=(hB4.x.cells 2).1;have k5:=(hB4.y.cells 0).1;have k6:=(hB4.y.cells 1).1;have k7:=(hB4.y.cells 2).1;have j0:=(hB4.n.cells 0).2;have j1:=(hB4.a.cells 0).2;have j2:=(hB4.x.cells 0).2;have j3:=(hB4.x.cells 1).2;have j4:=(hB4.x.cells 2).2;have j5:=(hB4.y.cells 0).2;have j6:=(hB4.y.cells 1).2;have j7:=(hB4.y.cells 2).2;have l0:=HB.out.n.lt;have l1:=HB.out.a.lt;have l2:=HB.out.x.lt;have l3:=HB.out.y.lt;have HB5:=hq_ hb5;clear hb5 hB4;have q0:¬ nb=ab:=HNE.out.na;have q1:¬ ab=nb:=HNE.out.na.symm;have q2:¬ nb=xb:=HNE.out.nx;have q3:¬ xb=nb:=HNE.out.nx.symm;have q4:¬ nb=yb:=HNE.out.ny;have q5:¬ yb=nb:=HNE.out.ny.symm;have q6:¬ ab=xb:=HNE.out.ax;have q7:¬ xb=ab:=HNE.out.ax.symm;have q8:¬ ab=yb:=HNE.out.ay;have q9:¬ yb=ab:=HNE.out.ay.symm;have q10:¬ xb=yb:=HNE.out.xy;have q11:¬ yb=xb:=HNE.out.xy.symm;have m0:¬ w.heap.size=nb:=oq_;have m1:¬ w.heap.size=ab:=oq_;have m2:¬ w.heap.size=xb:=oq_;have m3:¬ w.heap.size=yb:=oq_;have m4:¬ w.heap.size+1=nb:=oq_;have m5:¬ w.heap.size+1=ab:=oq_;have m6:¬ w.heap.size+1=xb:=oq_;have m7:¬ w.heap.size+1=yb:=oq_;have m8:¬ nb=w.heap.size:=oq_;have m9:¬ ab=w.heap.size:=oq_;have m10:¬ xb=w.heap.size:=oq_;have m11:¬ yb=w.heap.size:=oq_;have m12:¬ nb=w.heap.size+1:=oq_;have m13:¬ ab=w.heap.size+1:=oq_;have m14:¬ xb=w.heap.size+1:=oq_;have m15:¬ yb=w.heap.size+1:=oq_
    go_region
    all_goals
     go_wp2_with fail
     go_end0
     exact (HPUT.out w3 HB5.out (.inr HLT.out)).drew
   ·have HLT:=hq_ (fun h=>hlt (HL.out.2 h));go_wp2_with (go_at_call 58;(refine (HO.out _ _ _ _ _ _ (fun i=>((Bxx.new _ _ _).cells i).1)).mono ?_);rintro e w5 ⟨rfl,hb5⟩)
    go_end0
    exact di_ HB.out (fun _=>HBE.out trivial) (Et HE3.out (Et (Ea (Er _) _) hb5)) fun g=>by
     rcases g.2 with g|g
     ·cases g
     ·exact HLT.out g
end Go.Proofs.YtkclokcenllhmaaGreat
namespace Kal
structure Ent where
 id:Int
 firm:Bool
 rank:Int
 s:Str
instance:Inhabited Ent:=⟨⟨0,false,0,default⟩⟩
def AscD (l:List Ent):Prop:=l.Pairwise fun x y=>x.id<y.id
noncomputable def putD (l:List Ent) (e:Ent):List Ent:=l.filter (fun x=>decide (x.id<e.id)) ++ e :: l.filter (fun x=>decide (e.id<x.id))
theorem AscD.inj {l:List Ent} (h:AscD l) {x y:Ent} (hx:x∈l) (hy:y∈l) (e:x.id=y.id):x=y:=by
 induction l with
 | nil=>cases hx
 | cons z l ih=>
  have h1:=List.pairwise_cons.1 h;rcases List.mem_cons.1 hx with e1|h2 <;> rcases List.mem_cons.1 hy with e3|h4
  ·rw [e1,e3]
  ·subst e1;have:=h1.1 y h4;omega
  ·subst e3;have:=h1.1 x h2;omega
  ·exact ih h1.2 h2 h4
theorem up_ {l:List Ent} {e x:Ent}:x∈putD l e↔x=e∨(x∈l∧x.id≠e.id):=by
 unfold putD;simp only [List.mem_append,List.mem_cons,List.mem_filter,decide_eq_true_eq];constructor
 ·rintro (⟨h1,h2⟩|h|⟨h1,h2⟩)
  ·exact .inr ⟨h1,oq_⟩
  ·exact .inl h
  ·exact .inr ⟨h1,oq_⟩
 ·rintro (h|⟨h1,h2⟩)
  ·exact .inr (.inl h)
  ·rcases Int.lt_or_gt_of_ne h2 with g|g
   ·exact .inl ⟨h1,g⟩
   ·exact .inr (.inr ⟨h1,g⟩)
theorem AscD.put {l:List Ent} (h:AscD l) (e:Ent):AscD (putD l e):=by
 unfold putD AscD;rw [List.pairwise_append,List.pairwise_cons];refine ⟨h.filter _,⟨fun y hy=>?_,h.filter _⟩,fun x hx y hy=>?_⟩
 ·simpa using (List.mem_filter.1 hy).2
 ·have h1:x.id<e.id:=by simpa using (List.mem_filter.1 hx).2
  rcases List.mem_cons.1 hy with rfl|hy
  ·exact h1
  ·have:e.id<y.id:=by simpa using (List.mem_filter.1 hy).2
   omega
abbrev Spn:=Int × Int
def SpM (l:List Spn) (t:Int):Prop:=∃ s∈l,s.1≤t∧t<s.2
structure NS (l:List Spn):Prop where
 pos:∀ s∈l,s.1<s.2
 gap:l.Pairwise fun x y=>x.2<y.1
theorem SpM.nil (t:Int):¬ SpM [] t:=fun ⟨_,h,_⟩=>by cases h
theorem SpM.cons {x:Spn} {l:List Spn} {t:Int}:SpM (x :: l) t↔(x.1≤t∧t<x.2)∨SpM l t:=by
 constructor
 ·rintro ⟨s,hs,h⟩;rcases List.mem_cons.1 hs with rfl|hs
  ·exact .inl h
  ·exact .inr ⟨s,hs,h⟩
 ·rintro (h|⟨s,hs,h⟩)
  ·exact ⟨x,sq_,h⟩
  ·exact ⟨s,by simp [hs],h⟩
theorem SpM.app {a b:List Spn} {t:Int}:SpM (a ++ b) t↔SpM a t∨SpM b t:=by
 constructor
 ·rintro ⟨s,hs,h⟩;rcases List.mem_append.1 hs with hs|hs
  ·exact .inl ⟨s,hs,h⟩
  ·exact .inr ⟨s,hs,h⟩
 ·rintro (⟨s,hs,h⟩|⟨s,hs,h⟩)
  ·exact ⟨s,by simp [hs],h⟩
  ·exact ⟨s,by simp [hs],h⟩
theorem NS.nil:NS []:=⟨sq_,.nil⟩
theorem NS.tail {x:Spn} {l:List Spn} (h:NS (x :: l)):NS l:=⟨fun s hs=>h.pos s (by simp [hs]),(List.pairwise_cons.1 h.gap).2⟩
theorem NS.low {x:Spn} {l:List Spn} {t:Int} (h:NS (x :: l)) (ht:SpM l t):x.2<t:=by
 obtain ⟨s,hs,h1,_⟩:=ht;have:=(List.pairwise_cons.1 h.gap).1 s hs;omega
theorem NS.least {x:Spn} {l:List Spn} {t:Int} (h:NS (x :: l)) (ht:SpM (x :: l) t):x.1≤t:=by
 have h1:=h.pos x sq_;rcases SpM.cons.1 ht with ht|ht
 ·exact ht.1
 ·have:=h.low ht;omega
theorem NS.unique:∀ {a b:List Spn},NS a->NS b->(∀ t,SpM a t↔SpM b t)->a=b
 | [],[],_,_,_=>rfl
 | [],y :: b,_,hb,h=>by
  have h1:=hb.pos y sq_;exact absurd ((h y.1).2 (SpM.cons.2 (.inl ⟨oq_,h1⟩))) (SpM.nil _)
 | x :: a,[],ha,_,h=>by
  have h1:=ha.pos x sq_;exact absurd ((h x.1).1 (SpM.cons.2 (.inl ⟨oq_,h1⟩))) (SpM.nil _)
 | x :: a,y :: b,ha,hb,h=>by
  have hx:=ha.pos x sq_;have hy:=hb.pos y sq_;have e1:x.1=y.1:=by
   have h1:=hb.least ((h x.1).1 (SpM.cons.2 (.inl ⟨oq_,hx⟩)));have h2:=ha.least ((h y.1).2 (SpM.cons.2 (.inl ⟨oq_,hy⟩)));omega
  have e2:x.2=y.2:=by
   rcases Int.lt_trichotomy x.2 y.2 with g|g|g
   ·have h1:=(h x.2).2 (SpM.cons.2 (.inl ⟨oq_,g⟩));rcases SpM.cons.1 h1 with h2|h2
    ·omega
    ·have:=ha.low h2;omega
   ·exact g
   ·have h1:=(h y.2).1 (SpM.cons.2 (.inl ⟨oq_,g⟩));rcases SpM.cons.1 h1 with h2|h2
    ·omega
    ·have:=hb.low h2;omega
  have e:x=y:=Prod.ext e1 e2;subst e
  congr 1
  refine NS.unique ha.tail hb.tail fun t=>⟨fun ht=>?_,fun ht=>?_⟩
  ·rcases SpM.cons.1 ((h t).1 (SpM.cons.2 (.inr ht))) with h2|h2
   ·have:=ha.low ht;omega
   ·exact h2
  ·rcases SpM.cons.1 ((h t).2 (SpM.cons.2 (.inr ht))) with h2|h2
   ·have:=hb.low ht;omega
   ·exact h2
theorem NS.push {l:List Spn} {s:Spn} (h:NS l) (hs:s.1<s.2) (hg:∀ x∈l,x.2<s.1):NS (l ++ [s]):=
 ⟨fun x hx=>by
  rcases List.mem_append.1 hx with hx|hx
  ·exact h.pos x hx
  ·obtain rfl:x=s:=by simpa using hx
   exact hs,List.pairwise_append.2 ⟨h.gap,sq_,fun x hx y hy=>by
  obtain rfl:y=s:=by simpa using hy
  exact hg x hx⟩⟩
theorem NS.grow {l:List Spn} {t u:Int} (h:NS (l ++ [(f,t)])) (hu:t≤u):NS (l ++ [(f,u)]):=by
 have h1:=List.pairwise_append.1 h.gap;have h2:=h.pos (f,t) sq_;exact NS.push ⟨fun x hx=>h.pos x (by simp [hx]),h1.1⟩ (by show f<u;dsimp only at h2;omega) fun x hx=>h1.2.2 x hx (f,t) sq_
end Kal
end
namespace Kal
structure Bnd where
 p:Int
 k:Int
 d:Int
def cov:List Bnd->Int->Int->Int
 | [],_,_=>0
 | b :: l,k,t=>(if b.p≤t∧b.k=k then b.d else 0)+cov l k t
def opn:List Bnd->Int->Int
 | [],_=>0
 | b :: l,k=>(if b.k=k then b.d else 0)+opn l k
theorem m3_ {l m:List Bnd} (h:l.Perm m) (k t:Int):cov l k t=cov m k t:=by
 induction h with
 | nil=>rfl
 | cons x _ ih=>simp only [cov,ih]
 | swap x y l=>simp only [cov];omega
 | trans _ _ ih1 ih2=>exact ih1.trans ih2
theorem fg_ (l m:List Bnd) (k t:Int):cov (l ++ m) k t=cov l k t+cov m k t:=by
 induction l with
 | nil=>simp [cov]
 | cons x l ih=>simp only [List.cons_append,cov,ih];omega
theorem k8_ (l m:List Bnd) (k:Int):opn (l ++ m) k=opn l k+opn m k:=by
 induction l with
 | nil=>simp [opn]
 | cons x l ih=>simp only [List.cons_append,opn,ih];omega
theorem i9_ {l:List Bnd} {k t:Int} (h:∀ b∈l,t<b.p):cov l k t=0:=by
 induction l with
 | nil=>rfl
 | cons x l ih=>
  have h1:=h x sq_;rw [cov,ih fun b hb=>h b (by simp [hb]),if_neg oq_];rfl
theorem k3_ {l:List Bnd} {k t:Int} (h:∀ b∈l,b.p≤t):cov l k t=opn l k:=by
 induction l with
 | nil=>rfl
 | cons x l ih=>
  have h1:=h x sq_;rw [cov,opn,ih fun b hb=>h b (by simp [hb])];by_cases e:x.k=k
  ·rw [if_pos ⟨h1,e⟩,if_pos e]
  ·rw [if_neg (fun h=>e h.2),if_neg e]
theorem rb_ {A B:List Bnd} {k t:Int} (hA:∀ b∈A,b.p≤t) (hB:∀ b∈B,t<b.p):cov (A ++ B) k t=opn A k:=by
 rw [fg_,k3_ hA,i9_ hB,Int.add_zero]
def bndL (k:Int) (l:List Spn):List Bnd:=l.flatMap fun s=>if s.1<s.2 then [⟨s.1,k,1⟩,⟨s.2,k,-1⟩] else []
theorem k4_ (k:Int):∀ (l:List Spn) (t:Int),0≤cov (bndL k l) k t∧(0<cov (bndL k l) k t↔SpM l t)
 | [],t=>⟨by simp [bndL,cov],by simp [bndL,cov,SpM]⟩
 | s :: l,t=>by
  obtain ⟨h1,h2⟩:=k4_ k l t;have e:bndL k (s :: l)=(if s.1<s.2 then [⟨s.1,k,1⟩,⟨s.2,k,-1⟩] else []) ++ bndL k l:=rfl;rw [e,fg_,SpM.cons,<- h2];by_cases hs:s.1<s.2
  ·rw [if_pos hs];simp only [cov,eq_self,and_true];have a1:(s.1≤t∧(if s.1≤t then (1:Int) else 0)=1)∨(t<s.1∧(if s.1≤t then (1:Int) else 0)=0):=by split <;> omega
   have a2:(s.2≤t∧(if s.2≤t then (-1:Int) else 0)=-1)∨(t<s.2∧(if s.2≤t then (-1:Int) else 0)=0):=by split <;> omega
   generalize (if s.1≤t then (1:Int) else 0)=u at a1 ⊢;generalize (if s.2≤t then (-1:Int) else 0)=r at a2 ⊢;omega
  ·rw [if_neg hs];simp only [cov];omega
theorem gu_ {k j:Int} (h:j≠k):∀ (l:List Spn) (t:Int),cov (bndL j l) k t=0
 | [],t=>rfl
 | s :: l,t=>by
  have e:bndL j (s :: l)=(if s.1<s.2 then [⟨s.1,j,1⟩,⟨s.2,j,-1⟩] else []) ++ bndL j l:=rfl;rw [e,fg_,gu_ h l t];by_cases hs:s.1<s.2
  ·rw [if_pos hs];simp [cov,h]
  ·rw [if_neg hs];rfl
def SrtB (l:List Bnd):Prop:=l.Pairwise fun x y=>x.p≤y.p
theorem SrtB.pre {l:List Bnd} {i:Nat} {p q:Bnd} (h:SrtB l) (hp:l[i]? = some p) (hq:l[i+1]? = some q) {t:Int} (h1:p.p≤t) (h2:t<q.p) (k:Int):cov l k t=opn (l.take (i+1)) k:=by
 conv=>lhs;rw [<- List.take_append_drop (i+1) l]
 obtain ⟨hi,ei⟩:=List.getElem?_eq_some_iff.1 hp;obtain ⟨hj,ej⟩:=List.getElem?_eq_some_iff.1 hq;refine rb_ (fun b hb=>?_) fun b hb=>?_
 ·obtain ⟨n,hn,e⟩:=List.mem_iff_getElem.1 hb;rw [List.getElem_take] at e;rw [List.length_take] at hn;rcases Nat.lt_or_ge n i with g|g
  ·have:=List.pairwise_iff_getElem.1 h n i oq_ hi g;rw [e,ei] at this;omega
  ·obtain rfl:n=i:=oq_;rw [ei] at e;rw [<- e];exact h1
 ·obtain ⟨n,hn,e⟩:=List.mem_iff_getElem.1 hb;rw [List.getElem_drop] at e;rw [List.length_drop] at hn;rcases Nat.eq_zero_or_pos n with g|g
  ·subst g;have e2:l[i+1]=b:=e;rw [ej] at e2;rw [<- e2];exact h2
  ·have:=List.pairwise_iff_getElem.1 h (i+1) (i+1+n) hj oq_ oq_;rw [e,ej] at this;omega
def ea_ (keep:Bool->Bool->Bool) (l:List Bnd) (t:Int):Prop:=keep (decide (0<cov l 0 t)) (decide (0<cov l 1 t))=true
structure SwI (keep:Bool->Bool->Bool) (l:List Bnd) (i:Nat) (o:List Spn):Prop where
 ns:NS o
 iff:∀ t,SpM o t↔ea_ keep l t∧∀ c,l[i]? = some c->t<c.p
variable {keep:Bool->Bool->Bool} {l:List Bnd} {i:Nat} {o:List Spn} {p q:Bnd}
theorem SwI.start (hk:keep false false=false) (h:SrtB l) (hz:l≠[]∨True):SwI keep l 0 []:=⟨NS.nil,fun t=>⟨fun h=>absurd h (SpM.nil t),fun ⟨h1,h2⟩=>by
 have h3:∀ b∈l,t<b.p:=fun b hb=>by
  cases l with
  | nil=>cases hb
  | cons x r=>
   have:=h2 x rfl;rcases List.mem_cons.1 hb with rfl|hb
   ·exact this
   ·have:=(List.pairwise_cons.1 h).1 b hb;omega
 unfold ea_ at h1;rw [i9_ h3,i9_ h3] at h1;simp [hk] at h1⟩⟩
theorem SwI.same (h:SwI keep l i o) (hp:l[i]? = some p) (hq:l[i+1]? = some q) (e:q.p=p.p):SwI keep l (i+1) o:=⟨h.ns,fun t=>by
 rw [h.iff,hp,hq];simp [e]⟩
theorem SwI.skip (h:SwI keep l i o) (hs:SrtB l) (hp:l[i]? = some p) (hq:l[i+1]? = some q) (e:p.p≤q.p) (hk:keep (decide (0<opn (l.take (i+1)) 0)) (decide (0<opn (l.take (i+1)) 1))=false):SwI keep l (i+1) o:=⟨h.ns,fun t=>by
 rw [h.iff,hp,hq];simp only [Option.some.injEq,forall_eq'];refine ⟨fun ⟨h1,h2⟩=>⟨h1,oq_⟩,fun ⟨h1,h2⟩=>⟨h1,?_⟩⟩;rcases Int.lt_or_le t p.p with g|g
 ·exact g
 ·unfold ea_ at h1;rw [hs.pre hp hq g h2,hs.pre hp hq g h2,hk] at h1;cases h1⟩
theorem SwI.keepIff (h:SwI keep l i o) (hs:SrtB l) (hp:l[i]? = some p) (hq:l[i+1]? = some q) (e:p.p<q.p) (hk:keep (decide (0<opn (l.take (i+1)) 0)) (decide (0<opn (l.take (i+1)) 1))=true) (t:Int) :
  (SpM o t∨(p.p≤t∧t<q.p))↔ea_ keep l t∧∀ c,l[i+1]? = some c->t<c.p:=by
 rw [h.iff,hp,hq];simp only [Option.some.injEq,forall_eq'];constructor
 ·rintro (⟨h1,h2⟩|⟨h1,h2⟩)
  ·exact ⟨h1,oq_⟩
  ·refine ⟨?_,h2⟩;unfold ea_;rw [hs.pre hp hq h1 h2,hs.pre hp hq h1 h2,hk]
 ·rintro ⟨h1,h2⟩;rcases Int.lt_or_le t p.p with g|g
  ·exact .inl ⟨h1,g⟩
  ·exact .inr ⟨g,h2⟩
theorem SwI.before (h:SwI keep l i o) (hp:l[i]? = some p) {x:Spn} (hx:x∈o):x.2≤p.p:=by
 have h1:=h.ns.pos x hx;have h2:=((h.iff (x.2-1)).1 ⟨x,hx,oq_,oq_⟩).2 p hp;omega
theorem SwI.push (h:SwI keep l i o) (hs:SrtB l) (hp:l[i]? = some p) (hq:l[i+1]? = some q) (e:p.p<q.p) (hk:keep (decide (0<opn (l.take (i+1)) 0)) (decide (0<opn (l.take (i+1)) 1))=true) (hl:∀ f,∀ r,o≠r ++ [(f,p.p)]):SwI keep l (i+1) (o ++ [(p.p,q.p)]):=by
 refine ⟨NS.push h.ns e fun x hx=>?_,fun t=>?_⟩
 ·have h1:=h.before hp hx;rcases Int.lt_or_eq_of_le h1 with g|g
  ·exact g
  ·exfalso;obtain ⟨a,b,rfl⟩:=List.append_of_mem hx;cases b with
   | nil=>exact hl x.1 a (by rw [<- g])
   | cons y b=>
    have h2:=List.pairwise_append.1 h.ns.gap;have h3:=(List.pairwise_cons.1 h2.2.1).1 y sq_;have h4:=h.before hp (x:=y) sq_;have h5:=h.ns.pos y sq_;omega
 ·rw [SpM.app,<- h.keepIff hs hp hq e hk t,SpM.cons];simp [SpM.nil]
theorem SwI.grow {f:Int} (h:SwI keep l i (o ++ [(f,p.p)])) (hs:SrtB l) (hp:l[i]? = some p) (hq:l[i+1]? = some q) (e:p.p<q.p) (hk:keep (decide (0<opn (l.take (i+1)) 0)) (decide (0<opn (l.take (i+1)) 1))=true):SwI keep l (i+1) (o ++ [(f,q.p)]):=by
 refine ⟨NS.grow h.ns oq_,fun t=>?_⟩;rw [<- h.keepIff hs hp hq e hk t,SpM.app,SpM.app,SpM.cons,SpM.cons];have:=h.ns.pos (f,p.p) sq_;simp only [SpM.nil,or_false] at this ⊢;constructor
 ·rintro (g|⟨g1,g2⟩)
  ·exact .inl (.inl g)
  ·rcases Int.lt_or_le t p.p with g|g
   ·exact .inl (.inr ⟨g1,g⟩)
   ·exact .inr ⟨g,g2⟩
 ·rintro ((g|⟨g1,g2⟩)|⟨g1,g2⟩)
  ·exact .inl g
  ·exact .inr ⟨g1,oq_⟩
  ·exact .inr ⟨oq_,g2⟩
theorem uv_ {l m:List Bnd} (h:l.Perm m) (k:Int):opn l k=opn m k:=by
 induction h with
 | nil=>rfl
 | cons x _ ih=>simp only [opn,ih]
 | swap x y l=>simp only [opn];omega
 | trans _ _ ih1 ih2=>exact ih1.trans ih2
theorem k9_ (j k:Int):∀ l:List Spn,opn (bndL j l) k=0
 | []=>rfl
 | s :: l=>by
  have e:bndL j (s :: l)=(if s.1<s.2 then [⟨s.1,j,1⟩,⟨s.2,j,-1⟩] else []) ++ bndL j l:=rfl;rw [e,k8_,k9_ j k l];by_cases hs:s.1<s.2
  ·rw [if_pos hs];simp only [opn];by_cases g:j=k
   ·simp [g]
   ·simp [g]
  ·rw [if_neg hs];rfl
theorem wd_ {a b:List Spn} {l:List Bnd} (h:l.Perm (bndL 0 a ++ bndL 1 b)) (t:Int):(0<cov l 0 t↔SpM a t)∧(0<cov l 1 t↔SpM b t):=by
 rw [m3_ h,m3_ h,fg_,fg_,gu_ (by decide:(1:Int)≠0),gu_ (by decide:(0:Int)≠1),Int.add_zero,Int.zero_add];exact ⟨(k4_ 0 a t).2,(k4_ 1 b t).2⟩
theorem wx_ {a b:List Spn} {l:List Bnd} (h:l.Perm (bndL 0 a ++ bndL 1 b)) (k:Int):opn l k=0:=by
 rw [uv_ h,k8_,k9_,k9_];rfl
theorem SwI.done (h:SwI keep l i o) (hs:SrtB l) (hi:l.length≤i+1) (hz:∀ k,opn l k=0) (hk:keep false false=false) (t:Int):SpM o t↔ea_ keep l t:=by
 rw [h.iff];refine ⟨fun h=>h.1,fun h1=>⟨h1,fun c hc=>?_⟩⟩;rcases Int.lt_or_le t c.p with g|g
 ·exact g
 ·exfalso;obtain ⟨hlt,e⟩:=List.getElem?_eq_some_iff.1 hc;have ha:∀ b∈l,b.p≤t:=fun b hb=>by
   obtain ⟨n,hn,en⟩:=List.mem_iff_getElem.1 hb;rcases Nat.lt_or_ge n i with g2|g2
   ·have:=List.pairwise_iff_getElem.1 hs n i hn hlt g2;rw [en,e] at this;omega
   ·obtain rfl:n=i:=oq_;rw [e] at en;rw [<- en];exact g
  unfold ea_ at h1;rw [k3_ ha,k3_ ha,hz,hz] at h1;simp [hk] at h1
open Classical in
theorem s5_ {a b:List Spn} (h:l.Perm (bndL 0 a ++ bndL 1 b)) (t:Int):ea_ keep l t↔keep (decide (SpM a t)) (decide (SpM b t))=true:=by
 obtain ⟨h1,h2⟩:=wd_ h t;unfold ea_;rw [decide_eq_decide.2 h1,decide_eq_decide.2 h2]
end Kal
section
variable {av bv:Array Go.Value}{ok:Bool}{a b f x:Int}{m:List (List Kal.Per)}{L:List Go.Proofs.YtkclokcenllhmaaGreat.PV}{B ab g i j k n nb xb yb:Nat}{o':Go.Obj}{o:Go.Oper}{row:Option Nat}{v:Go.Value}{A C W W' w w':Go.World}
namespace Kal
def by_ (P:Int->Prop) (n f:Int):Prop:=∀ t,f≤t->t<f+n->¬ P t
def GapK (P:Int->Prop) (n a b f:Int) (ok:Bool):Prop:=
 (ok=true∧a≤f∧f+n≤b∧by_ P n f∧∀ g,a≤g->g<f->¬ by_ P n g)∨(ok=false∧f=0∧∀ g,a≤g->g+n≤b->¬ by_ P n g)
theorem GapK.congr {P Q:Int->Prop} {n:Int} (h:GapK P n a b f ok) (hs:∀ t,P t↔Q t):GapK Q n a b f ok:=by
 have e:P=Q:=funext fun t=>propext (hs t);exact e ▸ h
theorem GapK.unique {P:Int->Prop} {n g:Int} {u v:Bool} (h:GapK P n a b f u) (k:GapK P n a b g v):u=v∧(u=true->f=g):=by
 rcases h with ⟨rfl,h1,h2,h3,h4⟩|⟨rfl,-,h1⟩ <;> rcases k with ⟨rfl,k1,k2,k3,k4⟩|⟨rfl,-,k1⟩
 ·refine ⟨rfl,fun _=>?_⟩;rcases Int.lt_trichotomy f g with e|e|e
  ·exact absurd h3 (k4 f h1 e)
  ·exact e
  ·exact absurd k3 (h4 g k1 e)
 ·exact absurd h3 (k1 f h1 h2)
 ·exact absurd k3 (h1 g k1 k2)
 ·exact ⟨rfl,fun e=>by cases e⟩
structure GapI (P:Int->Prop) (n a x:Int):Prop where
 le:a≤x
 no:∀ g,a≤g->g<x->¬ by_ P n g
theorem GapI.start {P:Int->Prop} {n:Int}:GapI P n a a:=⟨Int.le_refl _,fun g h1 h2=>oq_⟩
theorem GapI.step {l:List Spn} {n:Int} {s:Spn} (h:GapI (SpM l) n a x) (hn:1≤n) (hs:s∈l) (h1:s.1<x+n) (h2:x<s.2) (hp:s.1<s.2):GapI (SpM l) n a s.2:=
 ⟨by have:=h.le;omega,fun g g1 g2 hf=>by
  rcases Int.lt_or_le g x with g3|g3
  ·exact h.no g g1 g3 hf
  ·exact hf (max g s.1) oq_ oq_ ⟨s,hs,oq_,oq_⟩⟩
theorem GapI.found {l:List Spn} {n:Int} (h:GapI (SpM l) n a x) (hb:x+n≤b) (hf:∀ s∈l,¬ (s.1<x+n∧x<s.2)):GapK (SpM l) n a b x true:=
 .inl ⟨rfl,h.le,hb,fun t t1 t2 ⟨s,hs,s1,s2⟩=>hf s hs ⟨oq_,oq_⟩,h.no⟩
theorem GapI.none {P:Int->Prop} {n:Int} (h:GapI P n a x) (hb:b<x+n):GapK P n a b 0 false:=
 .inr ⟨rfl,rfl,fun g g1 g2=>h.no g g1 oq_⟩
theorem GapK.uniq {P:Int->Prop} {n g:Int} {u v:Bool} (h:GapK P n a b f u) (k:GapK P n a b g v):u=v∧f=g:=by
 obtain ⟨rfl,e⟩:=h.unique k;refine ⟨rfl,?_⟩;rcases h with ⟨rfl,_⟩|⟨rfl,rfl,_⟩
 ·exact e rfl
 ·rcases k with ⟨h,_⟩|⟨_,rfl,_⟩
  ·cases h
  ·rfl
theorem h2_ (a b:Str):∃ r e,db_ a b r e:=by
 by_cases h:bl_ a b∨bl_ b a∨e1_ a b
 ·exact ⟨true,0,.inl ⟨h,rfl,rfl⟩⟩
 ·by_cases g:fc_ a b
  ·exact ⟨false,2,.inr ⟨h,.inl ⟨g,rfl,rfl⟩⟩⟩
  ·by_cases l:fn_ a b
   ·exact ⟨true,0,.inr ⟨h,.inr ⟨g,rfl,by simp [l]⟩⟩⟩
   ·exact ⟨false,0,.inr ⟨h,.inr ⟨g,rfl,by simp [l]⟩⟩⟩
noncomputable def mYes (a b:Str):Bool:=Classical.choose (h2_ a b)
noncomputable def mErr (a b:Str):Int:=Classical.choose (Classical.choose_spec (h2_ a b))
theorem mTo (a b:Str):db_ a b (mYes a b) (mErr a b):=Classical.choose_spec (Classical.choose_spec (h2_ a b))
theorem db_.eqs {a b:Str} {r:Bool} {e:Int} (h:db_ a b r e):r=mYes a b∧e=mErr a b:=h.unique (mTo a b)
theorem jg_ (a b:Str):mErr a b=0∨(mErr a b=2∧mYes a b=false):=by
 rcases mTo a b with ⟨_,_,h⟩|⟨_,⟨_,h1,h2⟩|⟨_,h,_⟩⟩
 ·exact .inl h
 ·exact .inr ⟨h2,h1⟩
 ·exact .inl h
def errL:List Int->Int
 | []=>0
 | e :: r=>if e=0 then errL r else e
theorem m7_ {a b:List Int} (h:errL a=0):errL (a ++ b)=errL b:=by
 induction a with
 | nil=>rfl
 | cons x a ih=>
  unfold errL at h;by_cases e:x=0
  ·rw [if_pos e] at h;show (if x=0 then errL (a ++ b) else x)=_;rw [if_pos e,ih h]
  ·rw [if_neg e] at h;exact absurd h e
def ec_ (d:List Ent):List Ent:=d.filter (·.firm)
def e3_ (d:List Ent) (a:Ent):List Ent:=d.filter fun e=>e.firm && decide (e.id > a.id)
def cu_ (d:List Ent):List (Ent × Ent):=(ec_ d).flatMap fun a=>(e3_ d a).map fun b=>(a,b)
noncomputable def errD (l:List (Ent × Ent)):Int:=errL (l.map fun q=>mErr q.1.s q.2.s)
noncomputable def ee_ (l:List (Ent × Ent)):List (Ent × Ent):=l.filter fun q=>mYes q.1.s q.2.s
structure bk_ where
 a:Int
 b:Int
 x:Inst
 y:Inst
instance:Inhabited bk_:=⟨⟨0,0,default,default⟩⟩
abbrev lq_:Int:=-2251799813685248
def j1_ (q:Ent × Ent) (p:bk_):Prop:=p.a=q.1.id∧p.b=q.2.id∧∃ f,bm_ (ColS q.1.s q.2.s lq_) lq_ p.x p.y f
inductive d3_:List (Ent × Ent)->List bk_->Prop
 | nil:d3_ [] []
 | cons {q:Ent × Ent} {p:bk_} {l:List (Ent × Ent)} {r:List bk_} (h:j1_ q p) (hr:d3_ l r):d3_ (q :: l) (p :: r)
theorem d3_.snoc {l:List (Ent × Ent)} {r:List bk_} {q:Ent × Ent} {p:bk_} (h:d3_ l r) (g:j1_ q p):d3_ (l ++ [q]) (r ++ [p]):=by
 induction h with
 | nil=>exact .cons g .nil
 | cons h _ ih=>exact .cons h ih
def ej_ (d:List Ent) (r:List bk_) (k:Int):Prop:=k=errD (cu_ d)∧((k=0∧d3_ (ee_ (cu_ d)) r)∨(k≠0∧r=[]))
def ba_ (d:List Ent) (e:Ent):List Ent:=d.filter fun x=>x.firm && decide (x.id≠e.id)
noncomputable def c2_ (l:List Ent) (e:Ent):List Ent:=l.filter fun x=>mYes e.s x.s
noncomputable def errA (l:List Ent) (e:Ent):Int:=errL (l.map fun x=>mErr e.s x.s)
noncomputable def cs_ (l:List Ent) (e:Ent):Bool:=(c2_ l e).any fun x=>decide (x.rank ≥ e.rank)
noncomputable def admK (d:List Ent) (e:Ent):Int:=if errA (ba_ d e) e≠0 then errA (ba_ d e) e else if cs_ (ba_ d e) e=true then 15 else 0
noncomputable def admL (d:List Ent) (e:Ent):List Int:=if admK d e=0 then (c2_ (ba_ d e) e).map (·.id) else []
structure StB (s:Str):Prop where
 val:∃ v,bi_ v s
 ft:∀ c∈s.cls,∀ t∈c.days,vr_ 0 t
end Kal
end
namespace Kal
section
variable {A B:Str} {f n:Int} {p:Pr} {ok:Bool} {pre:List Pr} {cx cy:Inst} {c:Bool}
def ExAY (A B:Str) (f:Int) (k:Nat) (Y:Inst->Prop) (x y:Inst):Prop:=ExA A B f k x y∨(x=A.ext.getD k default∧Y y∧InT f x y)
def ExBY (A B:Str) (f:Int) (k:Nat) (X:Inst->Prop) (x y:Inst):Prop:=ExB A B f k x y∨(y=B.ext.getD k default∧X x∧InT f x y)
variable {k:Nat} {Y:Inst->Prop} {z x y:Inst}
theorem u7_:ExA A B f 0 x y↔∃ p∈bq_ A B,PrS A B f p x y:=by
 unfold ExA;exact ⟨fun h=>h.elim id fun ⟨j,hj,_⟩=>oq_,.inl⟩
theorem pk_ (hY:∀ z,¬ Y z):ExAY A B f k Y x y↔ExA A B f k x y:=⟨fun h=>h.elim id fun h=>absurd h.2.1 (hY y),.inl⟩
theorem rh_ (hx:A.ext.getD k default=z) {t:Inst}:ExAY A B f k (fun y=>Y y∨y=t) x y↔ExAY A B f k Y x y∨(x=z∧y=t∧InT f z t):=by
 unfold ExAY;rw [hx];constructor
 ·rintro (h|⟨rfl,h|rfl,hi⟩)
  ·exact .inl (.inl h)
  ·exact .inl (.inr ⟨rfl,h,hi⟩)
  ·exact .inr ⟨rfl,rfl,hi⟩
 ·rintro ((h|⟨rfl,h,hi⟩)|⟨rfl,rfl,hi⟩)
  ·exact .inl h
  ·exact .inr ⟨rfl,.inl h,hi⟩
  ·exact .inr ⟨rfl,.inr rfl,hi⟩
theorem rg_ (hY:∀ y,InT f (A.ext.getD k default) y->(Y y↔dc_ B y∨y∈B.ext)):ExAY A B f k Y x y↔ExA A B f (k+1) x y:=by
 unfold ExAY ExA;constructor
 ·rintro ((h|⟨j,hj,h⟩)|⟨rfl,h,hi⟩)
  ·exact .inl h
  ·exact .inr ⟨j,oq_,h⟩
  ·exact .inr ⟨k,oq_,rfl,(hY y hi).1 h,hi⟩
 ·rintro (h|⟨j,hj,rfl,h,hi⟩)
  ·exact .inl (.inl h)
  ·by_cases e:j=k
   ·subst e;exact .inr ⟨rfl,(hY y hi).2 h,hi⟩
   ·exact .inl (.inr ⟨j,oq_,rfl,h,hi⟩)
theorem u8_:ExB A B f 0 x y↔ExA A B f A.ext.length x y:=by
 unfold ExB;exact ⟨fun h=>h.elim id fun ⟨j,hj,_⟩=>oq_,.inl⟩
theorem pl_ (hY:∀ z,¬ Y z):ExBY A B f k Y x y↔ExB A B f k x y:=⟨fun h=>h.elim id fun h=>absurd h.2.1 (hY x),.inl⟩
theorem rj_ (hx:B.ext.getD k default=z) {t:Inst}:ExBY A B f k (fun y=>Y y∨y=t) x y↔ExBY A B f k Y x y∨(x=t∧y=z∧InT f t z):=by
 unfold ExBY;rw [hx];constructor
 ·rintro (h|⟨rfl,h|rfl,hi⟩)
  ·exact .inl (.inl h)
  ·exact .inl (.inr ⟨rfl,h,hi⟩)
  ·exact .inr ⟨rfl,rfl,hi⟩
 ·rintro ((h|⟨rfl,h,hi⟩)|⟨rfl,rfl,hi⟩)
  ·exact .inl h
  ·exact .inr ⟨rfl,.inl h,hi⟩
  ·exact .inr ⟨rfl,.inr rfl,hi⟩
theorem ri_ (hY:∀ x,InT f x (B.ext.getD k default)->(Y x↔dc_ A x)):ExBY A B f k Y x y↔ExB A B f (k+1) x y:=by
 unfold ExBY ExB;constructor
 ·rintro ((h|⟨j,hj,h⟩)|⟨rfl,h,hi⟩)
  ·exact .inl h
  ·exact .inr ⟨j,oq_,h⟩
  ·exact .inr ⟨k,oq_,rfl,(hY x hi).1 h,hi⟩
 ·rintro (h|⟨j,hj,rfl,h,hi⟩)
  ·exact .inl (.inl h)
  ·by_cases e:j=k
   ·subst e;exact .inr ⟨rfl,(hY x hi).2 h,hi⟩
   ·exact .inl (.inr ⟨j,oq_,rfl,h,hi⟩)
end
end Kal
namespace Go.Proofs.YtkclokcenllhmaaGreat
open Go.RowKit Go.Maps Kal
theorem KpO.chg {pb S:Nat->Prop} {n:Nat} {A C:World} (h:Chg S A C) (hS:∀ k,S k->¬ pb k∧k<n) (hp:∀ k,pb k->k<A.heap.size):KpO pb n A C:=
 ⟨fun k hk=>h.keep k (fun e=>(hS k e).1 hk) (hp k hk),fun k o hk ho _=>(h.keep k (fun e=>by have:=(hS k e).2;omega) (Array.getElem?_eq_some_iff.1 ho).1).trans ho,h.size⟩
theorem KeepsOthers.chg {S:Nat->Prop} {A C:World} (h:Chg S A C) (hS:∀ k,S k->∃ o:Obj,A.heap[k]? = some o∧o.isCells=true):KeepsOthers A C:=
 ⟨h.size,fun k o hk ho=>(h.keep k (fun e=>by obtain ⟨o2,h1,h2⟩:=hS k e;rw [hk] at h1;cases h1;rw [ho] at h2;cases h2) (Array.getElem?_eq_some_iff.1 hk).1).trans hk⟩
structure FiN (w:World) (nb ab xb yb tb:Nat):Prop where
 ne:Ne4 nb ab xb yb
 n:w.heap.size+5≤nb
 a:w.heap.size+5≤ab
 x:w.heap.size+5≤xb
 y:w.heap.size+5≤yb
 t:¬ Blk4 nb ab xb yb tb
structure FjW (w:World) (av bv:Array Value) (f:Int) (W:World):Prop where
 below:Below w.heap.size w W
 b0:Bxx W w.heap.size av 55
 b1:Bxx W (w.heap.size+1) bv 55
 bf:Bxx W (w.heap.size+1+1) #[.int .i64 f] 3
 r6:Bxx W (w.heap.size+1+1+1) #[.int .i64 0,.int .i64 0,.int .i64 0] 77
 r7:Bxx W (w.heap.size+1+1+1+1) #[.int .i64 0,.int .i64 0,.int .i64 0] 77
abbrev fiV (w:World) (nb ab xb yb:Nat):Value:=.func (.func 121) #[] #[.pointer (some ⟨w.heap.size+1+1,0,none⟩),.pointer (some ⟨nb,0,none⟩),.pointer (some ⟨ab,0,none⟩),.pointer (some ⟨xb,0,none⟩),.pointer (some ⟨yb,0,none⟩)]
structure FiW (w:World) (av bv:Array Value) (nb ab xb yb tb:Nat) (f:Int) (S:Inst->Inst->Prop) (W:World):Prop where
 j:FjW w av bv f W
 tk:Bxx W tb #[fiV w nb ab xb yb] 173
 st:∃ x y c cb,bm_ S f x y c∧(c=true->cb=atF f x y)∧FsB W nb ab xb yb c cb x y
abbrev FiX (w w2:World) (av bv:Array Value) (f:Int) (S:Inst->Inst->Prop) (W:World):Prop:=FiW w av bv (w2.heap.size+1+1+1) (w2.heap.size+1+1) w2.heap.size (w2.heap.size+1) (w2.heap.size+1+1+1+1) f S W
section
variable {w A C:World} {av bv:Array Value} {nb ab xb yb tb:Nat} {f:Int} {S T:Inst->Inst->Prop}
theorem FjW.ext (h:FjW w av bv f A) (hb:Below A.heap.size A C):FjW w av bv f C:=⟨Et h.below hb,h.b0.below hb,h.b1.below hb,h.bf.below hb,h.r6.below hb,h.r7.below hb⟩
theorem FiW.ext (h:FiW w av bv nb ab xb yb tb f S A) (hb:Below A.heap.size A C):FiW w av bv nb ab xb yb tb f S C:=
 ⟨h.j.ext hb,h.tk.below hb,by obtain ⟨x,y,c,cb,h1,h2,h3⟩:=h.st;exact ⟨x,y,c,cb,h1,h2,h3.below hb⟩⟩
theorem FiW.mono (h:FiW w av bv nb ab xb yb tb f S A) (hT:∀ x y c,bm_ S f x y c->bm_ T f x y c):FiW w av bv nb ab xb yb tb f T A:=
 ⟨h.j,h.tk,by obtain ⟨x,y,c,cb,h1,h2,h3⟩:=h.st;exact ⟨x,y,c,cb,hT _ _ _ h1,h2,h3⟩⟩
theorem FiW.grow {row:Option Nat} (h:FiW w av bv nb ab xb yb tb f S A) (hg:A.grownBy C row) (hr:∀ k,row=some k->w.heap.size≤k∧∃ o:Obj,A.heap[k]? = some o∧o.isCells=false):FiW w av bv nb ab xb yb tb f S C:=by
 have key:∀ {b:Nat} {c:Array Value} {t:TypeId},Bxx A b c t->Bxx C b c t:=fun {b c t} hb=>hb.grown hg fun e=>by
  obtain ⟨_,o,h1,h2⟩:=hr b e.symm;rw [hb] at h1;cases h1;cases h2
 obtain ⟨x,y,c,cb,h1,h2,h3⟩:=h.st;exact ⟨⟨h.j.below.grown hg h.j.below.size fun k e=>(hr k e).1,key h.j.b0,key h.j.b1,key h.j.bf,key h.j.r6,key h.j.r7⟩,key h.tk,x,y,c,cb,h1,h2,key h3.n,key h3.a,key h3.x,key h3.y⟩
theorem Chg.box {Z:Nat->Prop} {b:Nat} {c:Array Value} {t:TypeId} (h:Chg Z A C) (hb:Bxx A b c t) (hz:¬ Z b):Bxx C b c t:=(h.keep b hz hb.lt).trans hb
theorem FiW.cells (h:FiW w av bv nb ab xb yb tb f S A):∀ k,Blk4 nb ab xb yb k->∃ o:Obj,A.heap[k]? = some o∧o.isCells=true:=fun k hk=>by
 obtain ⟨x,y,c,cb,h1,h2,h3⟩:=h.st;rcases hk with rfl|rfl|rfl|rfl
 ·exact ⟨_,h3.n,rfl⟩
 ·exact ⟨_,h3.a,rfl⟩
 ·exact ⟨_,h3.x,rfl⟩
 ·exact ⟨_,h3.y,rfl⟩
theorem FiN.ge (hn:FiN w nb ab xb yb tb) {k:Nat} (hk:Blk4 nb ab xb yb k):w.heap.size+5≤k:=by
 rcases hk with rfl|rfl|rfl|rfl
 ·exact hn.n
 ·exact hn.a
 ·exact hn.x
 ·exact hn.y
theorem FiW.call (h:FiW w av bv nb ab xb yb tb f S A) (hn:FiN w nb ab xb yb tb) (x y:Inst) :
  Calls Tryz.prog 121 #[ival x,ival y,.pointer (some ⟨w.heap.size+1+1,0,none⟩),.pointer (some ⟨nb,0,none⟩),.pointer (some ⟨ab,0,none⟩),.pointer (some ⟨xb,0,none⟩),.pointer (some ⟨yb,0,none⟩)] A fun e C=>e=.returned (.tuple #[])∧Chg (Blk4 nb ab xb yb) A C∧FiW w av bv nb ab xb yb tb f (fun x' y'=>S x' y'∨(x'=x∧y'=y∧InT f x y)) C:=by
 obtain ⟨bx,by',b,best,h1,h2,h3⟩:=h.st;refine (ru_ (w.heap.size+1+1) nb ab xb yb f best x y bx by' b A hn.ne h.j.bf h3 h2).mono ?_;rintro e C ⟨rfl,cx,cy,c,cb,k1,k2,k3,k4⟩;have hs:=h.j.below.size;have key:∀ {b:Nat} {c:Array Value} {t:TypeId},Bxx A b c t->b<w.heap.size+5->Bxx C b c t:=fun {b c t} hb hl=>k4.box hb fun e=>by have:=hn.ge e;omega
 exact ⟨rfl,k4,⟨⟨k4.os.trans h.j.below.os,k4.tape.trans h.j.below.tape,k4.output.trans h.j.below.output,Nat.le_trans hs k4.size,fun k hk=>(k4.keep k (fun e=>by have:=hn.ge e;omega) oq_).trans (h.j.below.block k hk)⟩,key h.j.b0 oq_,key h.j.b1 oq_,key h.j.bf oq_,key h.j.r6 oq_,key h.j.r7 oq_⟩,k4.box h.tk hn.t,cx,cy,c,cb,h1.take k1,k2,k3⟩
end
def kd_ (A B:Str) (f:Int) (w:World) (e:Ending) (w':World):Prop:=∃ x y b,e=.returned (.tuple #[ival x,ival y,.bool b])∧bm_ (ColS A B f) f x y b∧Below w.heap.size w w'
end Go.Proofs.YtkclokcenllhmaaGreat
section
variable {av bv:Array Go.Value}{ok:Bool}{a b f x:Int}{m:List (List Kal.Per)}{L:List Go.Proofs.YtkclokcenllhmaaGreat.PV}{B ab g i j k n nb xb yb:Nat}{o':Go.Obj}{o:Go.Oper}{row:Option Nat}{v:Go.Value}{A C W W' w w':Go.World}
namespace Go.Proofs
open Go.Shelf
def Tryz.sortI_ren:Go.Shelf.Ren:=⟨fun|6=>79|15=>101|14=>129|28=>159|29=>160|20=>181|21=>182|22=>183|23=>184|24=>185|25=>186|26=>187|27=>188|46=>227|47=>201|48=>202|49=>228|50=>229|57=>257|n=>n,fun|22=>53|24=>77|25=>137|3=>3|39=>149|0=>0|53=>207|55=>209|4=>4|46=>201|45=>200|50=>115|5=>5|9=>9|66=>242|70=>246|76=>272|77=>273|n=>n,fun|n=>n⟩
theorem Tryz.sortI:Go.Proofs.SlLaysF0.n6 Tryz.prog Tryz.sortI_ren:={
 mixed:=by kernel_rfl
 f6:=⟨Tryz.f79.name,dq_,Tryz.func79.trans (congrArg some (by kernel_rfl))⟩
 f14:=⟨Tryz.f129.name,dq_,Tryz.func129.trans (congrArg some (by kernel_rfl))⟩
 f15:=Tryz.func101.trans (congrArg some (by kernel_rfl))
 f20:=⟨Tryz.f181.name,dq_,Tryz.func181.trans (congrArg some (by kernel_rfl))⟩
 f21:=⟨Tryz.f182.name,dq_,Tryz.func182.trans (congrArg some (by kernel_rfl))⟩
 f22:=⟨Tryz.f183.name,dq_,Tryz.func183.trans (congrArg some (by kernel_rfl))⟩
 f23:=⟨Tryz.f184.name,dq_,Tryz.func184.trans (congrArg some (by kernel_rfl))⟩
 f24:=⟨Tryz.f185.name,dq_,Tryz.func185.trans (congrArg some (by kernel_rfl))⟩
 f25:=⟨Tryz.f186.name,dq_,Tryz.func186.trans (congrArg some (by kernel_rfl))⟩
 f26:=⟨Tryz.f187.name,dq_,Tryz.func187.trans (congrArg some (by kernel_rfl))⟩
 f27:=⟨Tryz.f188.name,dq_,Tryz.func188.trans (congrArg some (by kernel_rfl))⟩
 f28:=Tryz.func159.trans (congrArg some (by kernel_rfl))
 f29:=Tryz.func160.trans (congrArg some (by kernel_rfl))
 f46:=⟨Tryz.f227.name,dq_,Tryz.func227.trans (congrArg some (by kernel_rfl))⟩
 f47:=Tryz.func201.trans (congrArg some (by kernel_rfl))
 f48:=Tryz.func202.trans (congrArg some (by kernel_rfl))
 f49:=⟨Tryz.f228.name,dq_,Tryz.func228.trans (congrArg some (by kernel_rfl))⟩
 f50:=⟨Tryz.f229.name,dq_,Tryz.func229.trans (congrArg some (by kernel_rfl))⟩
 f57:=⟨Tryz.f257.name,dq_,Tryz.func257.trans (congrArg some (by kernel_rfl))⟩
 t0:=Tryz.underlying0
 a0:=Tryz.isAgg0
 z0:=Tryz.sizeOf0
 v0:=Tryz.zeroValue0
 t3:=Tryz.underlying3
 a3:=Tryz.isAgg3
 z3:=Tryz.sizeOf3
 v3:=Tryz.zeroValue3
 t4:=Tryz.underlying4
 a4:=Tryz.isAgg4
 z4:=Tryz.sizeOf4
 v4:=Tryz.zeroValue4
 t5:=Tryz.underlying5
 a5:=Tryz.isAgg5
 z5:=Tryz.sizeOf5
 v5:=Tryz.zeroValue5
 t9:=Tryz.underlying9
 a9:=Tryz.isAgg9
 z9:=Tryz.sizeOf9
 v9:=Tryz.zeroValue9
 t22:=Tryz.underlying53
 a22:=Tryz.isAgg53
 z22:=Tryz.sizeOf53
 v22:=Tryz.zeroValue53
 t25:=Tryz.underlying137
 a25:=Tryz.isAgg137
 z25:=Tryz.sizeOf137
 v25:=Tryz.zeroValue137
 t39:=Tryz.underlying149
 a39:=Tryz.isAgg149
 z39:=Tryz.sizeOf149
 v39:=Tryz.zeroValue149
 t45:=Tryz.underlying200
 a45:=Tryz.isAgg200
 z45:=Tryz.sizeOf200
 v45:=Tryz.zeroValue200
 t46:=Tryz.underlying201
 a46:=Tryz.isAgg201
 z46:=Tryz.sizeOf201
 v46:=Tryz.zeroValue201
 t50:=Tryz.underlying115
 a50:=Tryz.isAgg115
 z50:=Tryz.sizeOf115
 v50:=Tryz.zeroValue115
 t53:=Tryz.underlying207
 a53:=Tryz.isAgg207
 z53:=Tryz.sizeOf207
 v53:=Tryz.zeroValue207
 t55:=Tryz.underlying209
 a55:=Tryz.isAgg209
 z55:=Tryz.sizeOf209
 v55:=Tryz.zeroValue209
 t66:=Tryz.underlying242
 a66:=Tryz.isAgg242
 z66:=Tryz.sizeOf242
 v66:=Tryz.zeroValue242
 t70:=Tryz.underlying246
 a70:=Tryz.isAgg246
 z70:=Tryz.sizeOf246
 v70:=Tryz.zeroValue246
 t76:=Tryz.underlying272
 a76:=Tryz.isAgg272
 z76:=Tryz.sizeOf272
 v76:=Tryz.zeroValue272
 t77:=Tryz.underlying273
 a77:=Tryz.isAgg273
 z77:=Tryz.sizeOf273
 v77:=Tryz.zeroValue273 }
end Go.Proofs
namespace Go.Proofs.YtkclokcenllhmaaGreat
open Go.RowKit Go.Maps Kal Go.Sort
def GrN (w w':World):Prop:=∃ n os,w'=grow (w.drewN n) os
theorem GrN.refl (w:World):GrN w w:=⟨0,#[],by rw [grow_empty];rfl⟩
theorem GrN.drew (h:GrN w w'):GrN w w'.drew:=by obtain ⟨n,os,rfl⟩:=h;exact ⟨n+1,os,rfl⟩
theorem GrN.alloc (h:GrN w w') (o:Obj):GrN w (w'.alloc o):=by obtain ⟨n,os,rfl⟩:=h;exact ⟨n,os ++ #[o],by rw [alloc_eq_grow,grow_grow]⟩
theorem GrN.trans {a b c:World} (h:GrN a b) (g:GrN b c):GrN a c:=by
 obtain ⟨n,os,rfl⟩:=h;obtain ⟨m,os',rfl⟩:=g;exact ⟨n+m,os ++ os',by show grow (grow ((a.drewN n).drewN m) os) os'=_;rw [grow_grow,World.drewN_drewN]⟩
theorem wz_ (b c:Nat) (x y z:Int) (w:World) (hb:Bxx' w b #[.int .i64 x,.int .i64 y,.int .i64 z]) :
  Calls Tryz.prog 58 #[.slice (some ⟨b,0,none⟩) 3 c] w fun e w'=>e=.returned (.int .i64 (orI x y z))∧w'=w:=by
 have c0:w.cell? ⟨b,0,none⟩=some (.int .i64 x):=hb 0;have c1:w.cell? ⟨b,0+1,none⟩=some (.int .i64 y):=hb 1;have c2:w.cell? ⟨b,0+2,none⟩=some (.int .i64 z):=hb 2;clear hb
 go_enter Tryz.func58,Tryz.ntmps58
 go_wp2_with fail
 go_loopw [8] (fun i wr=>∃ k:Nat,k≤3∧i=.int .i64 k∧Hid ((0<k->x=0)∧(1<k->y=0)∧(2<k->z=0))∧wr=w) (fun i _=>3-(intOf i).toNat)
 case atStart=>exact ⟨0,oq_,rfl,hq_ ⟨oq_,oq_,oq_⟩,rfl⟩
 case round=>
  obtain ⟨k,hk,rfl,HK,rfl⟩:=hrel;by_cases hlt:k<3
  ·have hlI:(k:Int)<3:=oq_;obtain ⟨u,hu,hcell⟩:∃ u,Hid ((k=0->u=x)∧(k=1->u=y)∧(k=2->u=z))∧wr.cell? ⟨b,0+k,none⟩=some (.int .i64 u):=by
    match k,hlt with
    | 0,_=>exact ⟨x,hq_ ⟨fun _=>rfl,oq_,oq_⟩,c0⟩
    | 1,_=>exact ⟨y,hq_ ⟨oq_,fun _=>rfl,oq_⟩,c1⟩
    | 2,_=>exact ⟨z,hq_ ⟨oq_,oq_,fun _=>rfl⟩,c2⟩
   simp only [Nat.zero_add] at hcell;clear c0 c1 c2;by_cases h0:u=0
   ·have e0:(u == 0)=true:=by simpa using h0
    have e1:(u != 0)=false:=by simp [h0]
    have H0:=hq_ h0;clear h0;go_wp2_with fail
    go_roundw
    case rel=>
     refine ⟨k+1,oq_,by go_num,hq_ ?_,by first|rfl|trivial⟩;obtain ⟨g1,g2,g3⟩:=hu.out;obtain ⟨f1,f2,f3⟩:=HK.out;have:=H0.out;refine ⟨fun h=>?_,fun h=>?_,fun h=>?_⟩
     ·by_cases e:k=0
      ·rw [<- g1 e];exact this
      ·exact f1 oq_
     ·by_cases e:k=1
      ·rw [<- g2 e];exact this
      ·exact f2 oq_
     ·by_cases e:k=2
      ·rw [<- g3 e];exact this
      ·exact f3 oq_
    case measure=>simp [intOf];omega
   ·have e0:(u == 0)=false:=by simpa using h0
    have e1:(u != 0)=true:=by simp [h0]
    have H0:=hq_ h0;clear h0;go_wp2_with fail
    go_ret;refine ⟨dw_ ?_,rfl⟩;obtain ⟨g1,g2,g3⟩:=hu.out;obtain ⟨f1,f2,f3⟩:=HK.out;have h0:=H0.out;unfold orI
    match k,hlt with
    | 0,_=>rw [<- g1 rfl,if_pos h0]
    | 1,_=>rw [if_neg (by have:=f1 oq_;omega),<- g2 rfl,if_pos h0]
    | 2,_=>rw [if_neg (by have:=f1 oq_;omega),if_neg (by have:=f2 oq_;omega),g3 rfl]
  ·obtain rfl:k=3:=oq_;go_wp2_with fail
   go_ret;refine ⟨dw_ ?_,rfl⟩;obtain ⟨f1,f2,f3⟩:=HK.out;unfold orI;rw [if_neg (by have:=f1 oq_;omega),if_neg (by have:=f2 oq_;omega),f3 oq_]
theorem q9_ (x y:Inst) (w:World) :
  Calls Tryz.prog 80 #[ival x,ival y] w fun e w'=>e=.returned (.int .i64 (ordI x y))∧∃ q os',w'=grow (w.drewN q) os':=by
 rw [<- ov_];obtain ⟨xd,xf,xt⟩:=x;obtain ⟨yd,yf,yt⟩:=y;have H1:=hq_ (fun W=>av_ xf yf W);have H2:=hq_ (fun W=>av_ xd yd W);have H3:=hq_ (fun W=>av_ xt yt W);have HO:=hq_ (fun b c p q r W h=>wz_ b c p q r W h);show Calls _ _ #[.agg #[.int .i64 xd,.int .i64 xf,.int .i64 xt],.agg #[.int .i64 yd,.int .i64 yf,.int .i64 yt]] _ fun e w'=>e=.returned (.int .i64 (orI (cmpI xf yf) (cmpI xd yd) (cmpI xt yt)))∧_;generalize cmpI xf yf=p at *;generalize cmpI xd yd=q at *;generalize cmpI xt yt=r at *
 go_enter Tryz.func80,Tryz.ntmps80
 go_upto_region 1 with (fail)
 generalize hW:(w.alloc _).alloc _=w2;have hbx:Bxx w2 w.heap.size #[.int .i64 xd,.int .i64 xf,.int .i64 xt] 77:=by rw [<- hW];exact (Bxx.at rfl).alloc _
 have hby:Bxx w2 (w.heap.size+1) #[.int .i64 yd,.int .i64 yf,.int .i64 yt] 77:=by rw [<- hW];exact Bxx.at sq_
 have x0:w2.cell? ⟨w.heap.size,0,none⟩=some (.int .i64 xd):=(hbx.cells 0).1;have x1:w2.cell? ⟨w.heap.size,1,none⟩=some (.int .i64 xf):=(hbx.cells 1).1;have x2:w2.cell? ⟨w.heap.size,2,none⟩=some (.int .i64 xt):=(hbx.cells 2).1;have y0:w2.cell? ⟨w.heap.size+1,0,none⟩=some (.int .i64 yd):=(hby.cells 0).1;have y1:w2.cell? ⟨w.heap.size+1,1,none⟩=some (.int .i64 yf):=(hby.cells 1).1;have y2:w2.cell? ⟨w.heap.size+1,2,none⟩=some (.int .i64 yt):=(hby.cells 2).1;have HW:=hq_ hW;clear hW hbx hby;go_region_held3 (fun w'=>GrN w2 w'∧w'.cell? ⟨w.heap.size,0,none⟩=some (.int .i64 xd)∧w'.cell? ⟨w.heap.size,1,none⟩=some (.int .i64 xf)∧w'.cell? ⟨w.heap.size,2,none⟩=some (.int .i64 xt)∧w'.cell? ⟨w.heap.size+1,0,none⟩=some (.int .i64 yd)∧w'.cell? ⟨w.heap.size+1,1,none⟩=some (.int .i64 yf)∧w'.cell? ⟨w.heap.size+1,2,none⟩=some (.int .i64 yt))
  ((go_split_ands;repeat' (with_reducible first|assumption|exact GrN.refl _|refine GrN.drew ?_|refine GrN.alloc ?_ _|refine kh_ ?_|refine a2_ ?_ _|apply And.intro)))
  (first|(go_at_call 58;(refine (HO.out _ _ _ _ _ _ (fun i=>((Bxx.drewB (Bxx.new _ _ _)).cells i).1)).mono ?_);rintro e w5 ⟨rfl,rfl⟩)|(go_at_call 59;(with_reducible refine (H1.out _).mono ?_);rintro e w3 ⟨rfl,rfl⟩)|(go_at_call 59;(with_reducible refine (H2.out _).mono ?_);rintro e w3 ⟨rfl,rfl⟩)|(go_at_call 59;(with_reducible refine (H3.out _).mono ?_);rintro e w3 ⟨rfl,rfl⟩))
 go_wp2_with fail
 go_ret;have h2:GrN w w2:=by rw [<- HW.out];exact ((GrN.refl w).alloc _).alloc _
 refine ⟨rfl,h2.trans ?_⟩
 repeat' (with_reducible first|assumption|exact GrN.refl _|refine GrN.drew ?_|refine GrN.alloc ?_ _)
end Go.Proofs.YtkclokcenllhmaaGreat
end
namespace Go.Proofs.YtkclokcenllhmaaGreat
open Go.RowKit Go.Maps Kal
structure bd_ {α:Type} (R:World->(Nat->Prop)->α->Prop):Prop where
 keep:∀ {W W':World} {F:Nat->Prop} {x:α},R W F x->a3_ F W W'->W.heap.size≤W'.heap.size->R W' F x
 lt:∀ {W:World} {F:Nat->Prop} {x:α},R W F x->R W (fun b=>F b∧b<W.heap.size) x
 mono:∀ {W:World} {F G:Nat->Prop} {x:α},R W F x->(∀ b,F b->G b)->R W G x
structure OwnG {α:Type} (e:TypeId) (sz:Nat) (enc:α->List Value) (R:World->(Nat->Prop)->α->Prop) (B:Nat) (A:Nat->Prop) (W:World) (v:Value) (L:List α):Prop where
 row:W.ownsRow B e sz v L.length (L.flatMap enc)
 all:∀ x∈L,R W (RowF B A v) x
 ne:∀ g,v.ownBlock=some g->¬ A g
 len:L.length≤1000000
section
variable {α:Type} {e:TypeId} {sz:Nat} {enc:α->List Value} {R:World->(Nat->Prop)->α->Prop} {B:Nat} {A:Nat->Prop} {W W':World} {v v':Value} {L:List α}
theorem OwnG.nil:OwnG e sz enc R B A W (.slice none 0 0) []:=⟨World.ownsRow_nil W B e sz,sq_,by simp [Value.ownBlock],sq_⟩
theorem OwnG.form (h:OwnG e sz enc R B A W v L):∃ a c,v=.slice a L.length c∧L.length≤c∧c≤9223372036854775807∧(L.length=0∨∃ g,a=some ⟨g,0,none⟩):=by
 obtain ⟨_,⟨rfl,h2⟩|⟨g,cap,cur,rfl,_,_,h3,h4,_⟩⟩:=h.row
 ·exact ⟨none,0,by rw [h2],oq_,oq_,.inl h2⟩
 ·exact ⟨_,cap,rfl,h3,h4,.inr ⟨g,rfl⟩⟩
theorem OwnG.below (hR:bd_ R) (h:OwnG e sz enc R B A W v L) (hb:Below W.heap.size W W'):OwnG e sz enc R B A W' v L:=
 ⟨h.row.kept (row:=none) (World.grownBy.of_below hb _) (by cases v.ownBlock <;> simp),fun x hx=>hR.keep (h.all x hx) (a3_.below hb) hb.size,h.ne,h.len⟩
theorem OwnG.box (hR:bd_ R) {k:Nat} (h:OwnG e sz enc R B A W v L) (hg:W.grownBy W' (some k)) (hA:A k):OwnG e sz enc R B A W' v L:=
 ⟨h.row.kept hg (.inr fun e=>h.ne k e hA),fun x hx=>hR.keep (h.all x hx) (a3_.grown hg fun hf=>hf.2.1 hA) hg.size,h.ne,h.len⟩
theorem OwnG.mono (hR:bd_ R) {A':Nat->Prop} (h:OwnG e sz enc R B A W v L) (hs:∀ k,A' k->A k∨W.heap.size≤k):OwnG e sz enc R B A' W v L:=
 ⟨h.row,fun x hx=>hR.mono (hR.lt (h.all x hx)) fun b hb=>⟨hb.1.1,fun ha=>(hs b ha).elim hb.1.2.1 fun hl=>by have:=hb.2;omega,hb.1.2.2⟩,fun g hg ha=>(hs g ha).elim (h.ne g hg) fun hl=>by have:=(h.row.lt g hg).2;omega,h.len⟩
theorem OwnG.base (hR:bd_ R) {C:Nat} (h:OwnG e sz enc R B A W v L) (hC:C≤B):OwnG e sz enc R C A W v L:=by
 refine ⟨⟨h.row.1,?_⟩,fun x hx=>hR.mono (h.all x hx) fun b hb=>⟨Nat.le_trans hC hb.1,hb.2⟩,h.ne,h.len⟩;rcases h.row.2 with h2|⟨g,cap,cur,e,hb,rest⟩
 ·exact .inl h2
 ·exact .inr ⟨g,cap,cur,e,Nat.le_trans hC hb,rest⟩
theorem OwnG.push (hR:bd_ R) {y:α} (h:OwnG e sz enc R B A W v L) (hy:R W (RowF B A v) y) (hr:W'.ownsRow B e sz v' (L.length+1) (L.flatMap enc ++ enc y)) (hg:W.grownBy W' v.ownBlock)
  (hb:v'.ownBlock=v.ownBlock∨v'.ownBlock=some W.heap.size) (hA:¬ A W.heap.size) (hl:L.length<1000000):OwnG e sz enc R B A W' v' (L ++ [y]):=by
 have key:∀ {z:α},R W (RowF B A v) z->R W' (RowF B A v') z:=fun ht=>by
  refine hR.mono (hR.keep (hR.lt ht) (fun b hb hl=>hg.block b hl fun e=>hb.1.2.2 e.symm) hg.size) fun b hb'=>⟨hb'.1.1,hb'.1.2.1,?_⟩;rcases hb with e|e
  ·rw [e];exact hb'.1.2.2
  ·rw [e];rintro ⟨⟩;have:=hb'.2;omega
 refine ⟨by rw [List.length_append,List.flatMap_append,List.flatMap_singleton];exact hr,fun x hx=>?_,fun g hg'=>?_,tq_⟩
 ·rcases List.mem_append.1 hx with hx|hx
  ·exact key (h.all x hx)
  ·obtain rfl:x=y:=by simpa using hx
   exact key hy
 ·rcases hb with e|e
  ·exact h.ne g (e ▸ hg')
  ·rw [e] at hg';cases hg';exact hA
theorem OwnG.rowR (h:OwnG e sz enc R B A W v L):RowR W (fun b=>B≤b∧¬ A b) v L.length (L.flatMap enc):=by
 obtain ⟨hl,⟨rfl,h2⟩|⟨g,cap,cur,rfl,hb,hg,h3,h4,h5,h6⟩⟩:=h.row
 ·rw [h2];exact ⟨none,0,rfl,oq_,oq_,.inl rfl⟩
 ·refine ⟨_,cap,rfl,h3,h4,.inr ⟨g,0,rfl,⟨hb,h.ne g rfl⟩,(h.row.lt g rfl).2,fun i u hi=>?_⟩⟩;rw [Nat.zero_add];have:=(List.getElem?_eq_some_iff.1 hi).1;exact (h.row.cellAt i (by rw [<- hl];exact this)).trans hi
end
theorem ab_ {w:World} {ops:Array Oper} {rest:List Oper} {o:Oper} {a:Act} {Q:Exit->Act->World->Prop} (hgd:o.guard=none) (s x:Operand) (t e:TypeId)
  (ho:o.op=.call { callee:=.builtin .append,args:=#[s,x],argTypes:=#[t,t] }) (i:TypeInfo) (z:Value) (sz bytes:Nat) (ht:Tryz.prog.underlying t=some (.slice e)) (hi:Tryz.prog.info? e=some i) (h1:i.zero=some z) (h2:i.size=sz) (h3:i.bytes=bytes) (hzs:z.cells.size=sz) (hsz:0<sz) (hby:bytes≤1000)
  (base:Nat) (v:Value) (n:Nat) (xs:List Value) (ys:List Value) (hys:ys.length=sz) (hs:a.eval s=v) (hown:w.ownsRow base e sz v n xs)
  (blk c:Nat) (hx:a.eval x=.slice (some ⟨blk,0,none⟩) 1 c) (hnew:∀ j u,ys[j]? = some u->w.cell? ⟨blk,j,none⟩=some u) (h1c:∀ u∈ys,u.oneCell'=true) (hlen:n+1≤1000000) (hbase:base≤w.heap.size)
  (h:∀ v' w',w'.ownsRow base e sz v' (n+1) (xs ++ ys)->w.grownBy w' v.ownBlock->(v'.ownBlock=v.ownBlock∨v'.ownBlock=some w.heap.size)->wpList Tryz.prog ops Q rest (a.put o.dst v') w') :
  wpList Tryz.prog ops Q (o :: rest) a w:=by
 refine wpList_plain hgd fun K hK=>?_;obtain ⟨v',w',hrun,k2,k3,_,k5⟩:=run_append_own_at (P:=Tryz.prog) w base t o.type e i z sz bytes ht hi h1 h2 h3 hzs hsz v n xs hown ⟨blk,0,none⟩ 1 c ys (by rw [hys,Nat.one_mul])
  (fun j u hu=>by rw [show (⟨blk,0,none⟩:Addr).add j=⟨blk,j,none⟩ from by
   rcases Nat.eq_zero_or_pos j with h0|h0
   ·subst h0;simp [Addr.add]
   ·simp [Addr.add];omega];exact hnew j u hu) h1c (by unfold maxLen;omega) (by
    have:(n+1)*bytes≤1000000*1000:=Nat.mul_le_mul hlen hby;omega) hbase
 unfold Oper.wp execOp;simp only [ho,resolve,invoke,builtin,Sem.run_bind,Sem.run_pure,Result.andThen_ok,List.map_toArray,List.map_cons,List.map_nil,hs,hx,hrun];exact hK _ _ (h v' w' k2 k3 k5)
theorem b3_ {w:World} {ops:Array Oper} {rest:List Oper} {o:Oper} {a:Act} {Q:Exit->Act->World->Prop} (hgd:o.guard=none) (s x:Operand) (t e:TypeId)
  (ho:o.op=.call { callee:=.builtin .append,args:=#[s,x],argTypes:=#[t,t] }) (i:TypeInfo) (z:Value) (sz bytes:Nat) (ht:Tryz.prog.underlying t=some (.slice e)) (hi:Tryz.prog.info? e=some i) (h1:i.zero=some z) (h2:i.size=sz) (h3:i.bytes=bytes) (hzs:z.cells.size=sz) (hsz:0<sz) (hby:bytes≤1000)
  (base:Nat) (v xv:Value) (n m:Nat) (xs ys:List Value) (F:Nat->Prop) (hs:a.eval s=v) (hown:w.ownsRow base e sz v n xs)
  (hx:a.eval x=xv) (hxs:RowR w F xv m ys) (hyl:ys.length=m*sz) (h1c:∀ u∈ys,u.oneCell'=true) (hlen:n+m≤1000000) (hbase:base≤w.heap.size)
  (h:∀ v' w',w'.ownsRow base e sz v' (n+m) (xs ++ ys)->w.grownBy w' v.ownBlock->(v'.ownBlock=v.ownBlock∨v'.ownBlock=some w.heap.size)->wpList Tryz.prog ops Q rest (a.put o.dst v') w') :
  wpList Tryz.prog ops Q (o :: rest) a w:=by
 obtain ⟨xa,xc,rfl,g1,g2,g3⟩:=hxs;refine wpList_plain hgd fun K hK=>?_;rcases g3 with rfl|⟨b,off,rfl,_,_,hcell⟩
 ·have hy0:ys=[]:=List.eq_nil_of_length_eq_zero oq_;subst hy0;have hrun:(Builtin.append_ #[t,t] o.type #[v,.slice xa 0 xc]).run Tryz.prog w=.ok v w:=by
   obtain ⟨r1,r2⟩:=hown;rcases r2 with ⟨rfl,r0⟩|⟨g,cap,cur,rfl,r5,r6,r7,r8,r9,r10⟩
   ·cases xa <;> simp [Builtin.append_,run_underlying ht,sizeOf,typeInfo,hi,Builtin.lenOf,Builtin.firstCells,loadCells,loadCellsFrom,storeCells]
   ·cases xa <;> simp [Builtin.append_,run_underlying ht,sizeOf,typeInfo,hi,Builtin.lenOf,Builtin.firstCells,r7,loadCells,loadCellsFrom,storeCells]
  unfold Oper.wp execOp;simp only [ho,resolve,invoke,builtin,Sem.run_bind,Sem.run_pure,Result.andThen_ok,List.map_toArray,List.map_cons,List.map_nil,hs,hx,hrun];exact hK _ _ (h v w (by simpa using hown) (World.grownBy.refl w _) (.inl rfl))
 ·obtain ⟨v',w',hrun,k2,k3,_,k5⟩:=run_append_own_at (P:=Tryz.prog) w base t o.type e i z sz bytes ht hi h1 h2 h3 hzs hsz v n xs hown ⟨b,off,none⟩ m xc ys hyl
   (fun j u hu=>by rw [show (⟨b,off,none⟩:Addr).add j=⟨b,off+j,none⟩ from by simp [Addr.add]];exact hcell j u hu) h1c (by unfold maxLen;omega) (by
    have:(n+m)*bytes≤1000000*1000:=Nat.mul_le_mul hlen hby;omega) hbase
  unfold Oper.wp execOp;simp only [ho,resolve,invoke,builtin,Sem.run_bind,Sem.run_pure,Result.andThen_ok,List.map_toArray,List.map_cons,List.map_nil,hs,hx,hrun];exact hK _ _ (h v' w' k2 k3 k5)
theorem a5_ {w:World} {base:Nat} {e:TypeId} {sz:Nat} {v:Value} {n:Nat} {xs:List Value} (h:w.ownsRow base e sz v n xs):∃ a c,v=.slice a n c:=by
 rcases h.2 with ⟨rfl,h0⟩|⟨g,cap,cur,rfl,_⟩
 ·exact ⟨none,0,by rw [h0]⟩
 ·exact ⟨_,cap,rfl⟩
end Go.Proofs.YtkclokcenllhmaaGreat
section
variable {av bv:Array Go.Value}{ok:Bool}{a b f x:Int}{m:List (List Kal.Per)}{L:List Go.Proofs.YtkclokcenllhmaaGreat.PV}{B ab g i j k n nb xb yb:Nat}{o':Go.Obj}{o:Go.Oper}{row:Option Nat}{v:Go.Value}{A C W W' w w':Go.World}
namespace Go.Proofs.YtkclokcenllhmaaGreat
open Go.RowKit Go.Maps Kal
def RCls (W:World) (F:Nat->Prop) (x:ClsV):Prop:=MixR W F x.v x.m∧InI x.min
theorem ar_:bd_ RCls:=⟨fun h hk hs=>⟨h.1.keep hk hs,h.2⟩,fun h=>⟨h.1.lt,h.2⟩,fun h hF=>⟨h.1.mono hF,h.2⟩⟩
def RIns (W:World) (F:Nat->Prop) (x:Inst):Prop:=InIn x
theorem am_:bd_ RIns:=⟨fun h _ _=>h,fun h=>h,fun h _=>h⟩
structure ItV where
 id:Int
 cv:Value
 ev:Value
 s:Str
instance:Inhabited ItV:=⟨⟨0,.slice none 0 0,.slice none 0 0,default⟩⟩
theorem d6_:bd_ PVok:=⟨fun h hk _=>h.keep hk,fun h=>h.lt,fun h hF=>h.mono hF⟩
def RTrm (W:World) (F:Nat->Prop) (x:Value × List Per):Prop:=ag_ W F x.1 x.2
theorem d7_:bd_ RTrm:=⟨fun h hk hs=>ag_.keep h hk hs,fun h=>ag_.lt h,fun h hF=>ag_.mono h hF⟩
theorem ol_:∃ i,Tryz.prog.info? 130=some i∧i.zero=some (.agg #[.slice none 0 0,.int .i64 0])∧i.size=2∧i.bytes=32:=by
 have h:(Tryz.prog.info? 130).map (fun i=>(i.zero,i.size,i.bytes))=some (some (.agg #[.slice none 0 0,.int .i64 0]),2,32):=by kernel_rfl
 obtain ⟨i,hi,h1,h2,h3⟩:=info_parts h;exact ⟨i,hi,h1,h2,h3⟩
theorem fk_:∃ i,Tryz.prog.info? 77=some i∧i.zero=some (.agg #[.int .i64 0,.int .i64 0,.int .i64 0])∧i.size=3∧i.bytes=24:=by
 have h:(Tryz.prog.info? 77).map (fun i=>(i.zero,i.size,i.bytes))=some (some (.agg #[.int .i64 0,.int .i64 0,.int .i64 0]),3,24):=by kernel_rfl
 obtain ⟨i,hi,h1,h2,h3⟩:=info_parts h;exact ⟨i,hi,h1,h2,h3⟩
abbrev OwnC:=OwnG 130 2 ClsV.enc RCls
abbrev OwnX:=OwnG 77 3 ienc RIns
abbrev OwnP:=OwnG 160 4 PV.enc PVok
theorem ub_ (L:List (Value × List Per)):L.flatMap (fun x=>[x.1])=L.map Prod.fst:=by
 induction L with
 | nil=>rfl
 | cons x L ih=>rw [List.flatMap_cons,ih];rfl
abbrev OwnZ:=OwnG 158 1 (fun x:Value × List Per=>[x.1]) RTrm
theorem OwnG.clsL {A:Nat->Prop} {L:List ClsV} (h:OwnC B A W v L):ClsL W (fun b=>B≤b∧¬ A b) v L:=
 ⟨h.rowR,by have:=h.len;omega,fun x hx=>⟨(h.all x hx).1.mono fun b hb=>⟨hb.1,hb.2.1⟩,(h.all x hx).2⟩⟩
theorem OwnG.extL {A:Nat->Prop} {L:List Inst} (h:OwnX B A W v L):ExtL W (fun b=>B≤b∧¬ A b) v L:=
 ⟨h.rowR,by have:=h.len;omega,fun x hx=>h.all x hx⟩
theorem OwnG.termL {A:Nat->Prop} (h:OwnP B A W v L):b9_ W (fun b=>B≤b∧¬ A b) v L:=
 ⟨h.rowR,by have:=h.len;omega,fun x hx=>(h.all x hx).mono fun b hb=>⟨hb.1,hb.2.1⟩⟩
theorem OwnG.mixL {A:Nat->Prop} {L:List (Value × List Per)} (h:OwnZ B A W v L):MixL W (fun b=>B≤b∧¬ A b) v L:=
 ⟨by have:=h.rowR;rw [ub_] at this;exact this,by have:=h.len;omega,fun x hx=>ag_.mono (h.all x hx) fun b hb=>⟨hb.1,hb.2.1⟩⟩
theorem h6_ (x y:Inst) (w:World) :
  Calls Tryz.prog 143 #[ival x,ival y] w fun e w'=>e=.returned (.bool (decide (LtI x y)))∧Below w.heap.size w w':=by
 obtain ⟨xd,xf,xt⟩:=x;obtain ⟨yd,yf,yt⟩:=y;show Calls _ _ #[.agg #[.int .i64 xd,.int .i64 xf,.int .i64 xt],.agg #[.int .i64 yd,.int .i64 yf,.int .i64 yt]] _ _;obtain ⟨B,hB⟩:∃ B:Bool,decide (LtI ⟨xd,xf,xt⟩ ⟨yd,yf,yt⟩)=B:=⟨_,rfl⟩;rw [hB];have hB':B=true↔(xf<yf∨(xf=yf∧(xd<yd∨(xd=yd∧xt<yt)))):=by rw [<- hB,decide_eq_true_iff];rfl
 have HB:=hq_ hB';clear hB hB';by_cases h1:xf=yf
 ·by_cases h2:xd=yd
  ·go_enter Tryz.func143,Tryz.ntmps143
   go_wp2;go_ret;exact ⟨a1_ (by rw [Bool.eq_iff_iff,HB.out,decide_eq_true_iff];omega),xE⟩
  ·go_enter Tryz.func143,Tryz.ntmps143
   go_wp2;go_ret;exact ⟨a1_ (by rw [Bool.eq_iff_iff,HB.out,decide_eq_true_iff];omega),xE⟩
 ·go_enter Tryz.func143,Tryz.ntmps143
  go_wp2;go_ret;exact ⟨a1_ (by rw [Bool.eq_iff_iff,HB.out,decide_eq_true_iff];omega),xE⟩
theorem eqlI (x y:Inst) (W:World):(binOp .eql 77 (ival x) (ival y)).run Tryz.prog W=.ok (.bool (decide (x=y))) W:=by
 have e:decide (x=y)=(decide (x.day=y.day) && (decide (x.frm=y.frm) && decide (x.fin=y.fin))):=by
  rw [Bool.eq_iff_iff];simp only [Bool.and_eq_true,decide_eq_true_eq];exact ⟨fun h=>by subst h;exact ⟨rfl,rfl,rfl⟩,fun h=>Inst.ext' h.1 h.2.1 h.2.2⟩
 rw [e];simp [go_sem];by_cases h1:x.day=y.day <;> by_cases h2:x.frm=y.frm <;> by_cases h3:x.fin=y.fin <;> simp [h1,h2,h3]
def ke_ (lv:Value) (l:List Inst) (x:Inst) (w:World) (e:Ending) (w':World):Prop:=
 Below w.heap.size w w'∧∃ v',e=.returned v'∧((x∈l∧v'=lv)∨(x ∉ l∧OwnX w.heap.size (fun _=>False) w' v' (putI l x)))
theorem cm_ {b:Nat} {c:Array Value} {t:TypeId} (h:Bxx W b c t):∀ j u,c.toList[j]? = some u->W.cell? ⟨b,j,none⟩=some u:=fun j u hu=>by
 rw [(h.cells j).1,<- hu];simp
def w4_ (lv:Value) (l:List Inst) (x:Inst) (w:World) (e:Ending) (w':World):Prop:=ke_ lv l x w e w'
theorem g1_ (F:Nat->Prop) (lv:Value) (l:List Inst) (x:Inst) (w:World) (h:ExtL w F lv l) (hx:InIn x) (hl:l.length≤1000) :
  Calls Tryz.prog 109 #[lv,ival x] w (w4_ lv l x w):=by
 obtain ⟨a1,c1,rfl⟩:=h.form;have HE:=hq_ h;have HXI:=hq_ hx;obtain ⟨iI,iI1,iI2,iI3,iI4⟩:=fk_;have HI:=hq_ (And.intro iI1 (And.intro iI2 (And.intro iI3 iI4)));clear h hx iI1 iI2 iI3 iI4;have HLS:=hq_ (fun y W=>h6_ x y W);obtain ⟨xd,xf,xt⟩:=x;show Calls _ _ #[_,.agg #[.int .i64 xd,.int .i64 xf,.int .i64 xt]] _ _
 go_enter Tryz.func109,Tryz.ntmps109
 go_wp2_with fail
 have hbx0:Bxx (w.alloc (.cells #[.int .i64 xd,.int .i64 xf,.int .i64 xt] 77)) w.heap.size #[.int .i64 xd,.int .i64 xf,.int .i64 xt] 77:=Bxx.new _ _ _;have HBX:=hq_ hbx0;have hown0:OwnX (w.heap.size+1) (fun _=>False) ((w.alloc (.cells #[.int .i64 xd,.int .i64 xf,.int .i64 xt] 77)).alloc (.cells #[] 77)) (.slice (some ⟨w.heap.size+1,0,none⟩) 0 0) []:=
  ⟨⟨rfl,.inr ⟨w.heap.size+1,0,#[],rfl,Nat.le_refl _,by rw [show w.heap.size+1=(w.alloc (.cells #[.int .i64 xd,.int .i64 xf,.int .i64 xt] 77)).heap.size by simp];exact World.alloc_heap_new _ _,Nat.le_refl _,by simp [maxLen],rfl,rfl⟩⟩,sq_,fun _ _ h=>h,sq_⟩
 have HO0:=hq_ hown0;clear hbx0 hown0;go_loopw [5,6,7] (fun ov dv iv wr=>∃ (k:Nat) (done:Bool) (out:List Inst),k≤l.length∧iv=.int .i64 k∧dv=.bool done∧out.length≤k+1∧Hid (PutP l ⟨xd,xf,xt⟩ k done out)∧Hid (OwnX (w.heap.size+1) (fun _=>False) wr ov out)∧Hid (Below (w.heap.size+1) (w.alloc (.cells #[.int .i64 xd,.int .i64 xf,.int .i64 xt] 77)) wr)) (fun _ _ iv _=>l.length-(intOf iv).toNat)
 case atStart=>exact ⟨0,false,[],oq_,rfl,rfl,sq_,hq_ (PutP.start _ _),HO0,hq_ ((Ea (Er _) _).mono sq_)⟩
 case round=>
  obtain ⟨k,done,out,hk,rfl,rfl,hol,HP,HO,HB⟩:=hrel;obtain ⟨oa,oc,rfl,-⟩:=HO.out.form;have hxb:Bxx wr w.heap.size #[.int .i64 xd,.int .i64 xf,.int .i64 xt] 77:=HBX.out.upto HB.out oq_;have x0:=(hxb.cells 0).1;have x1:=(hxb.cells 1).1;have x2:=(hxb.cells 2).1;have HXB:=hq_ hxb;have HBW:Hid (Below w.heap.size w wr):=hq_ ((Ea (Er w) _).trans (HB.out.mono oq_));have hwr:=hxb.lt;clear hxb;by_cases hlt:k<l.length
  ·have hlI:(k:Int)<l.length:=oq_;obtain ⟨b,o,y,rfl,hbl,hy,hyi,e0,e1,e2⟩:=HE.out.get hlt;have HY:=hq_ hy;have HYI:=hq_ hyi;obtain ⟨yd,yf,yt⟩:=y;dsimp only at e0 e1 e2;have HCE:=hq_ (fun W (hb:Below w.heap.size w W)=>And.intro (Ext.cell hb e0) (And.intro (Ext.cell hb e1) (Ext.cell hb e2)));clear e0 e1 e2;obtain ⟨e0,e1,e2⟩:=HCE.out _ HBW.out;obtain ⟨E,hE⟩:∃ E:Bool,decide ((⟨yd,yf,yt⟩:Inst)=⟨xd,xf,xt⟩)=E:=⟨_,rfl⟩;have HEQ:=hq_ hE;have heq:=fun W=>eqlI ⟨yd,yf,yt⟩ ⟨xd,xf,xt⟩ W;rw [hE] at heq;clear hE hy hyi;go_upto_region 6 with (fail)
   refine a9_ (w0:=wr) [0,1,2,3,4,5] [] [15,16,17,18,19,20] [.slice (some ⟨b,o,none⟩) l.length c1,.int .i64 k,.pointer (some ⟨b,o+k*3,none⟩),.agg #[.int .i64 yd,.int .i64 yf,.int .i64 yt],.agg #[.int .i64 xd,.int .i64 xf,.int .i64 xt],.bool E] [[],[],[0,1],[2],[],[3,4]] (.a e0 (.a e1 (.a e2 (.a x0 (.a x1 (.z x2)))))) ?steps ?fin
   case steps=>
    repeat' first|exact .n|refine .c ?_ ?_|fail
    all_goals try exact stp
   case fin=>
    rintro W6 hb6 ⟨g0,g1,g2,g3,g4,g5⟩;show wpList _ _ _ [] _ _;simp only [vat];have HB6:=hq_ hb6;clear hb6 e0 e1 e2 x0 x1 x2;cases E
    ·have hne:l.getD k default≠⟨xd,xf,xt⟩:=by rw [HY.out];exact of_decide_eq_false HEQ.out
     have HNE:=hq_ hne;clear hne;cases done
     ·obtain ⟨E2,hE2⟩:∃ E:Bool,decide (LtI ⟨xd,xf,xt⟩ ⟨yd,yf,yt⟩)=E:=⟨_,rfl⟩;have HE2:=hq_ hE2;have HLS2:=hq_ (fun W=>HLS.out ⟨yd,yf,yt⟩ W);rw [hE2] at HLS2;have e0:=g0;have e1:=g1;have e2:=g2;have x0:=g3;have x1:=g4;have x2:=g5;clear g0 g1 g2 g3 g4 g5 hE2;go_upto_region 8 with (fail)
      refine a9_ (w0:=W6) [0,1,2,3,4,5,6,7,8,9] [] [22,23,24,25,26,27,28,29,30,31] [.bool false,.bool true,.bool true,.agg #[.int .i64 xd,.int .i64 xf,.int .i64 xt],.slice (some ⟨b,o,none⟩) l.length c1,.int .i64 k,.pointer (some ⟨b,o+k*3,none⟩),.agg #[.int .i64 yd,.int .i64 yf,.int .i64 yt],.bool E2,.bool E2] [[],[0],[1],[2],[2],[2],[2,4,5],[2,6],[2,3,7],[2,8]] (.a e0 (.a e1 (.a e2 (.a x0 (.a x1 (.z x2)))))) ?stepsB ?finB
      case stepsB=>
       repeat' first|exact .n|refine .c ?_ ?_|fail
       all_goals try exact stp
       all_goals
        rintro v W hb ⟨g0,g1,g2,g3,g4,g5⟩;refine .inl ⟨rfl,fun K hK=>?_⟩;simp only [ov,vat,Nat.reduceBEq,cond_true,cond_false];go_wp2_with (go_at_call 143;(with_reducible refine (HLS2.out _).mono ?_);rintro e w9 ⟨rfl,hb9⟩)
        exact acx (hK w9 hb9) (by simp [ov,vat])
      case finB=>
       rintro W7 hb7 ⟨g0,g1,g2,g3,g4,g5⟩;show wpList _ _ _ [] _ _;simp only [vat];have HB7:=hq_ (HB.out.trans ((Et HB6.out hb7).mono oq_));have HO7:=hq_ (OwnG.below am_ HO.out (Et HB6.out hb7));have HLT:=hq_ (show k+1≤l.length by omega);clear hb7 hlt;cases E2
       ·have HPN:=hq_ (HP.out.next (by have:=HLT.out;omega) HNE.out (.inr (by rw [HY.out];exact of_decide_eq_false HE2.out)));rw [HY.out] at HPN;clear g3 g4 g5;go_wp2_with (at_builtin;(refine ab_ rq_ _ _ _ _ rq_ iI _ 3 24 Tryz.underlying53 HI.out.1 HI.out.2.1 HI.out.2.2.1 HI.out.2.2.2 rfl dq_ dq_ (w.heap.size+1) (.slice oa out.length oc) (out.length) ((out).flatMap ienc) (ienc (⟨yd,yf,yt⟩:Inst)) rfl rq_ (OwnG.below am_ HO7.out (Ea (Er _) _)).row W7.heap.size 1 rq_ (cm_ (Bxx.new W7 #[.int .i64 yd,.int .i64 yf,.int .i64 yt] 77)) (by simp [ienc,Value.oneCell']) oq_ (by rw [World.size_alloc];have:=HB7.out.size;simp at this;omega) ?_);intro v' w9 hown9 hgrow9 hloc9;obtain ⟨na,nc,rfl⟩:=a5_ hown9;have HO9:=hq_ (OwnG.push (y:=(⟨yd,yf,yt⟩:Inst)) am_ (OwnG.below am_ HO7.out (Ea (Er _) _)) HYI.out hown9 hgrow9 hloc9 (fun h=>h) oq_);have HB9:=hq_ ((HB7.out.alloc (by have:=HB7.out.size;simp at this;omega) _).grown hgrow9 (by rw [World.size_alloc];have:=HB7.out.size;simp at this;omega) fun q e=>(HO7.out.row.lt q e).1);clear hown9 hgrow9 hloc9)
        go_roundw
        case rel=>exact ⟨k+1,false,out ++ [⟨yd,yf,yt⟩],HLT.out,by go_num,rfl,tq_,HPN,HO9,HB9⟩
        case measure=>have:=HLT.out;simp [intOf];omega
       ·have HPN:=hq_ (HP.out.here (by have:=HLT.out;omega) HNE.out (by rw [HY.out];exact of_decide_eq_true HE2.out));rw [HY.out] at HPN;go_upto_region 11 with (at_builtin;(refine ab_ rq_ _ _ _ _ rq_ iI _ 3 24 Tryz.underlying53 HI.out.1 HI.out.2.1 HI.out.2.2.1 HI.out.2.2.2 rfl dq_ dq_ (w.heap.size+1) (.slice oa out.length oc) (out.length) ((out).flatMap ienc) (ienc (⟨xd,xf,xt⟩:Inst)) rfl rq_ (OwnG.below am_ HO7.out (Ea (Er _) _)).row W7.heap.size 1 rq_ (cm_ (Bxx.new W7 #[.int .i64 xd,.int .i64 xf,.int .i64 xt] 77)) (by simp [ienc,Value.oneCell']) oq_ (by rw [World.size_alloc];have:=HB7.out.size;simp at this;omega) ?_);intro v' W8 hown9 hgrow9 hloc9;obtain ⟨na,nc,rfl⟩:=a5_ hown9;have HO8:=hq_ (OwnG.push (y:=(⟨xd,xf,xt⟩:Inst)) am_ (OwnG.below am_ HO7.out (Ea (Er _) _)) HXI.out hown9 hgrow9 hloc9 (fun h=>h) oq_);have HB8:=hq_ ((HB7.out.alloc (by have:=HB7.out.size;simp at this;omega) _).grown hgrow9 (by rw [World.size_alloc];have:=HB7.out.size;simp at this;omega) fun q e=>(HO7.out.row.lt q e).1);clear hown9 hgrow9 hloc9)
        have hbl8:Below w.heap.size w W8:=(Ea (Er w) _).trans (HB8.out.mono oq_);obtain ⟨e0,e1,e2⟩:=HCE.out _ hbl8;clear g0 g1 g2 g3 g4 g5 hbl8;go_wp2_with (at_builtin;(refine ab_ rq_ _ _ _ _ rq_ iI _ 3 24 Tryz.underlying53 HI.out.1 HI.out.2.1 HI.out.2.2.1 HI.out.2.2.2 rfl dq_ dq_ (w.heap.size+1) (.slice na (out.length+1) nc) ((out ++ [(⟨xd,xf,xt⟩:Inst)]).length) ((out ++ [(⟨xd,xf,xt⟩:Inst)]).flatMap ienc) (ienc (⟨yd,yf,yt⟩:Inst)) rfl rq_ (OwnG.below am_ HO8.out (Ea (Er _) _)).row W8.heap.size 1 rq_ (cm_ (Bxx.new W8 #[.int .i64 yd,.int .i64 yf,.int .i64 yt] 77)) (by simp [ienc,Value.oneCell']) tq_ (by rw [World.size_alloc];have:=HB8.out.size;simp at this;omega) ?_);intro v' w9 hown9 hgrow9 hloc9;obtain ⟨na2,nc2,rfl⟩:=a5_ hown9;have HO9:=hq_ (OwnG.push (y:=(⟨yd,yf,yt⟩:Inst)) am_ (OwnG.below am_ HO8.out (Ea (Er _) _)) HYI.out hown9 hgrow9 hloc9 (fun h=>h) tq_);have HB9:=hq_ ((HB8.out.alloc (by have:=HB8.out.size;simp at this;omega) _).grown hgrow9 (by rw [World.size_alloc];have:=HB8.out.size;simp at this;omega) fun q e=>(HO8.out.row.lt q e).1);clear hown9 hgrow9 hloc9)
        go_roundw
        case rel=>
         have hok:out.length≤k:=by have h1:=HP.out.oeq;rw [if_neg sq_] at h1;rw [h1,List.length_take];omega
         exact ⟨k+1,true,out ++ [⟨xd,xf,xt⟩] ++ [⟨yd,yf,yt⟩],HLT.out,by go_num,rfl,tq_,HPN,hq_ (by have h2:=HO9.out;rw [List.length_append,List.length_singleton] at h2;exact h2),HB9⟩
        case measure=>have:=HLT.out;simp [intOf];omega
     ·have e0:=g0;have e1:=g1;have e2:=g2;have x0:=g3;have x1:=g4;have x2:=g5;clear g0 g1 g2 g3 g4 g5;go_upto_region 8 with (fail)
      refine a9_ (w0:=W6) [0,1,2,3,4,5,6,7,8,9] [] [22,23,24,25,26,27,28,29,30,31] [.bool true,.bool false,.bool false,undef,undef,undef,undef,undef,undef,.bool false] [[],[0],[1],[2],[2],[2],[2,4,5],[2,6],[2,3,7],[2,8]] (.a e0 (.a e1 (.a e2 (.a x0 (.a x1 (.z x2)))))) ?stepsA ?finA
      case stepsA=>
       repeat' first|exact .n|refine .c ?_ ?_|fail
       all_goals try exact stp
      case finA=>
       rintro W7 hb7 ⟨g0,g1,g2,g3,g4,g5⟩;show wpList _ _ _ [] _ _;simp only [vat];have HB7:=hq_ (HB.out.trans ((Et HB6.out hb7).mono oq_));have HO7:=hq_ (OwnG.below am_ HO.out (Et HB6.out hb7));have HLT:=hq_ (show k+1≤l.length by omega);clear hb7 hlt g3 g4 g5;have HPN:=hq_ (HP.out.next (by have:=HLT.out;omega) HNE.out (.inl rfl));rw [HY.out] at HPN;go_wp2_with (at_builtin;(refine ab_ rq_ _ _ _ _ rq_ iI _ 3 24 Tryz.underlying53 HI.out.1 HI.out.2.1 HI.out.2.2.1 HI.out.2.2.2 rfl dq_ dq_ (w.heap.size+1) (.slice oa out.length oc) (out.length) ((out).flatMap ienc) (ienc (⟨yd,yf,yt⟩:Inst)) rfl rq_ (OwnG.below am_ HO7.out (Ea (Er _) _)).row W7.heap.size 1 rq_ (cm_ (Bxx.new W7 #[.int .i64 yd,.int .i64 yf,.int .i64 yt] 77)) (by simp [ienc,Value.oneCell']) oq_ (by rw [World.size_alloc];have:=HB7.out.size;simp at this;omega) ?_);intro v' w9 hown9 hgrow9 hloc9;obtain ⟨na,nc,rfl⟩:=a5_ hown9;have HO9:=hq_ (OwnG.push (y:=(⟨yd,yf,yt⟩:Inst)) am_ (OwnG.below am_ HO7.out (Ea (Er _) _)) HYI.out hown9 hgrow9 hloc9 (fun h=>h) oq_);have HB9:=hq_ ((HB7.out.alloc (by have:=HB7.out.size;simp at this;omega) _).grown hgrow9 (by rw [World.size_alloc];have:=HB7.out.size;simp at this;omega) fun q e=>(HO7.out.row.lt q e).1);clear hown9 hgrow9 hloc9)
       go_roundw
       case rel=>exact ⟨k+1,true,out ++ [⟨yd,yf,yt⟩],HLT.out,by go_num,rfl,tq_,HPN,HO9,HB9⟩
       case measure=>have:=HLT.out;simp [intOf];omega
    ·have HMEM:Hid ((⟨xd,xf,xt⟩:Inst)∈l):=hq_ (by
      have h1:l.getD k default=⟨xd,xf,xt⟩:=by rw [HY.out];exact of_decide_eq_true HEQ.out
      rw [<- h1,a6_ hlt];exact List.getElem_mem hlt)
     have HBF:=hq_ (Et HBW.out HB6.out);clear g0 g1 g2 g3 g4 g5;go_wp2_with fail
     go_ret;exact ⟨HBF.out,_,rfl,.inl ⟨HMEM.out,rfl⟩⟩
  ·obtain rfl:k=l.length:=oq_;obtain ⟨hd1,hd2⟩:=HP.out.done;have HD1:=hq_ hd1;have HD2:=hq_ hd2;clear hd1 hd2;cases done
   ·go_wp2_with (at_builtin;(refine ab_ rq_ _ _ _ _ rq_ iI _ 3 24 Tryz.underlying53 HI.out.1 HI.out.2.1 HI.out.2.2.1 HI.out.2.2.2 rfl dq_ dq_ (w.heap.size+1) (.slice oa out.length oc) (out.length) ((out).flatMap ienc) (ienc (⟨xd,xf,xt⟩:Inst)) rfl rq_ (OwnG.below am_ HO.out (Ea (Er _) _)).row wr.heap.size 1 rq_ (cm_ (Bxx.new wr #[.int .i64 xd,.int .i64 xf,.int .i64 xt] 77)) (by simp [ienc,Value.oneCell']) oq_ (by rw [World.size_alloc];have:=HB.out.size;simp at this;omega) ?_);intro v' w9 hown9 hgrow9 hloc9;obtain ⟨na,nc,rfl⟩:=a5_ hown9;have HO9:=hq_ (OwnG.push (y:=(⟨xd,xf,xt⟩:Inst)) am_ (OwnG.below am_ HO.out (Ea (Er _) _)) HXI.out hown9 hgrow9 hloc9 (fun h=>h) oq_);have HB9:=hq_ ((HB.out.alloc (by have:=HB.out.size;simp at this;omega) _).grown hgrow9 (by rw [World.size_alloc];have:=HB.out.size;simp at this;omega) fun q e=>(HO.out.row.lt q e).1);clear hown9 hgrow9 hloc9)
    go_ret;refine ⟨(Ea (Er w) _).trans (HB9.out.mono oq_),_,rfl,.inr ⟨HD1.out,?_⟩⟩;rw [HD2.out];exact HO9.out.base am_ oq_
   ·go_wp2_with fail
    go_ret;refine ⟨HBW.out,_,rfl,.inr ⟨HD1.out,?_⟩⟩;rw [HD2.out];exact HO.out.base am_ oq_
def InsU (W:World) (g:Nat) (D:List Inst):Prop:=∀ i,i<D.length->(W.cell? ⟨g,i*3,none⟩=some (.int .i64 (D.getD i default).day)∧W.frozen? ⟨g,i*3,none⟩=false)∧(W.cell? ⟨g,i*3+1,none⟩=some (.int .i64 (D.getD i default).frm)∧W.frozen? ⟨g,i*3+1,none⟩=false)∧(W.cell? ⟨g,i*3+2,none⟩=some (.int .i64 (D.getD i default).fin)∧W.frozen? ⟨g,i*3+2,none⟩=false)
theorem InsU.ext {D:List Inst} (h:InsU W g D) (hb:Below W.heap.size W W'):InsU W' g D:=fun i hi=>by
 obtain ⟨⟨a,b⟩,⟨c,d⟩,e,f⟩:=h i hi;exact ⟨⟨Ext.cell hb a,(Ext.frozen hb a).trans b⟩,⟨Ext.cell hb c,(Ext.frozen hb c).trans d⟩,Ext.cell hb e,(Ext.frozen hb e).trans f⟩
theorem InsU.set {D:List Inst} (h:InsU W g D) (hk:k<D.length) (x:Inst) :
  InsU (((W.setCell ⟨g,k*3,none⟩ (.int .i64 x.day)).setCell ⟨g,k*3+1,none⟩ (.int .i64 x.frm)).setCell ⟨g,k*3+2,none⟩ (.int .i64 x.fin)) g (D.set k x):=fun i hi=>by
 rw [List.length_set] at hi;obtain ⟨⟨a,b⟩,⟨c,d⟩,e,f⟩:=h i hi;simp only [World.frozen?_setCell];by_cases hik:i=k
 ·subst hik;have e1:(D.set i x).getD i default=x:=by rw [List.getD_eq_getElem?_getD,List.getElem?_set_self hi];rfl
  rw [e1];exact ⟨⟨an_ (an_ (World.cell?_setCell_same _ _ _ a) oq_ _) oq_ _,b⟩,⟨an_ (World.cell?_setCell_same _ _ _ (an_ c oq_ _)) oq_ _,d⟩,World.cell?_setCell_same _ _ _ (an_ (an_ e oq_ _) oq_ _),f⟩
 ·have e1:(D.set k x).getD i default=D.getD i default:=by rw [List.getD_eq_getElem?_getD,List.getElem?_set_ne (fun e=>hik e.symm),<- List.getD_eq_getElem?_getD]
  rw [e1];exact ⟨⟨an_ (an_ (an_ a oq_ _) oq_ _) oq_ _,b⟩,⟨an_ (an_ (an_ c oq_ _) oq_ _) oq_ _,d⟩,an_ (an_ (an_ e oq_ _) oq_ _) oq_ _,f⟩
theorem InsU.take {D:List Inst} (h:InsU W g D) (k:Nat):InsU W g (D.take k):=fun i hi=>by
 rw [List.length_take] at hi;have e1:(D.take k).getD i default=D.getD i default:=by rw [List.getD_eq_getElem?_getD,List.getD_eq_getElem?_getD,List.getElem?_take_of_lt oq_]
 rw [e1];exact h i oq_
def SrtX (D:List Inst):Prop:=D.Pairwise fun x y=>x=y∨LtI x y
theorem b5_ {D:List Inst} (h:k<D.length):D.take (k+1)=D.take k ++ [D.getD k default]:=by
 rw [List.take_succ_eq_append_getElem h,List.getD_eq_getElem?_getD,List.getElem?_eq_getElem h];rfl
theorem SrtX.le {D:List Inst} (h:SrtX D) (hij:i<j) (hj:j<D.length):D.getD i default=D.getD j default∨LtI (D.getD i default) (D.getD j default):=by
 rw [List.getD_eq_getElem?_getD,List.getD_eq_getElem?_getD,List.getElem?_eq_getElem oq_,List.getElem?_eq_getElem hj];exact List.pairwise_iff_getElem.1 h i j oq_ hj hij
structure CmpI (D D1:List Inst) (j k m:Nat):Prop where
 len:D1.length=D.length
 hk:j+1≤k∧k≤m
 hm:m<D.length
 asc:(D1.take k).Pairwise LtI
 mem:∀ x,x∈D1.take k↔x∈D.take (m+1)
 rest:∀ i,m≤i->D1.getD i default=D.getD i default
 last:∃ l,D1.take k=l ++ [D.getD m default]
theorem CmpI.start {D:List Inst} (hj:j+1<D.length) (ha:(D.take (j+1)).Pairwise LtI) (he:D.getD (j+1) default=D.getD j default):CmpI D D j (j+1) (j+1):=
 ⟨rfl,⟨oq_,oq_⟩,hj,ha,fun x=>by
  rw [b5_ hj,List.mem_append,List.mem_singleton,he];refine ⟨.inl,fun h=>h.elim id fun h=>?_⟩;rw [h,b5_ oq_];simp,fun i _=>rfl,⟨D.take j,by rw [he];exact b5_ oq_⟩⟩
theorem CmpI.same {D D1:List Inst} {m:Nat} (h:CmpI D D1 j k m) (hm:m+1<D.length) (he:D.getD (m+1) default=D.getD m default):CmpI D D1 j k (m+1):=
 ⟨h.len,⟨h.hk.1,by have:=h.hk.2;omega⟩,hm,h.asc,fun x=>by
  rw [h.mem,b5_ hm,List.mem_append,List.mem_singleton,he];refine ⟨.inl,fun g=>g.elim id fun g=>?_⟩;rw [g,b5_ oq_];simp,fun i hi=>h.rest i oq_,by rw [he];exact h.last⟩
theorem CmpI.step {D D1:List Inst} {m:Nat} (hD:SrtX D) (h:CmpI D D1 j k m) (hm:m+1<D.length) (he:D.getD (m+1) default≠D.getD m default):CmpI D (D1.set k (D.getD (m+1) default)) j (k+1) (m+1):=by
 have hkl:k<D1.length:=by have:=h.hk.2;have:=h.len;omega
 have e1:(D1.set k (D.getD (m+1) default)).take (k+1)=D1.take k ++ [D.getD (m+1) default]:=by
  rw [b5_ (by rw [List.length_set];exact hkl),List.take_set_of_le (Nat.le_refl _),List.getD_eq_getElem?_getD,List.getElem?_set_self hkl];rfl
 have hlt:LtI (D.getD m default) (D.getD (m+1) default):=(hD.le (Nat.lt_succ_self m) hm).resolve_left fun e=>he e.symm;refine ⟨by rw [List.length_set];exact h.len,⟨by have:=h.hk.1;omega,by have:=h.hk.2;omega⟩,hm,?_,fun x=>?_,fun i hi=>?_,⟨_,e1⟩⟩
 ·rw [e1,List.pairwise_append];refine ⟨h.asc,sq_,fun x hx y hy=>?_⟩;rw [List.mem_singleton] at hy;subst hy;obtain ⟨l,hl⟩:=h.last;have hp:=h.asc;rw [hl,List.pairwise_append] at hp;rw [hl] at hx;rcases List.mem_append.1 hx with hx|hx
  ·exact (hp.2.2 x hx _ sq_).trans hlt
  ·rw [List.mem_singleton] at hx;rw [hx];exact hlt
 ·rw [e1,List.mem_append,h.mem,b5_ hm,List.mem_append]
 ·rw [List.getD_eq_getElem?_getD,List.getElem?_set_ne (by have:=h.hk.2;omega),<- List.getD_eq_getElem?_getD];exact h.rest i oq_
theorem CmpI.fin {D D1:List Inst} {m:Nat} (h:CmpI D D1 j k m) (hm:m+1=D.length):(D1.take k).Pairwise LtI∧(∀ x,x∈D1.take k↔x∈D)∧(D1.take k).length=k:=
 ⟨h.asc,fun x=>by rw [h.mem,hm,List.take_length],by rw [List.length_take];have:=h.hk.2;have:=h.hm;have:=h.len;omega⟩
theorem fj_:∀ (vs:List Value) (o:Nat) (B:World),A.grownBy B (some g)->A.grownBy (B.setCells g o vs) (some g)
 | [],_,_,h=>h
 | v :: r,o,B,h=>fj_ r (o+1) _ (World.grownBy.set' h v)
theorem InsU.cut {D:List Inst} (h:InsU W g D) (hk:D.length≤k) (vs:List Value):InsU (W.setCells g (k*3) vs) g D:=fun i hi=>by
 obtain ⟨⟨a,b⟩,⟨c,d⟩,e,f⟩:=h i hi;simp only [World.frozen?_setCells];exact ⟨⟨(World.cell?_setCells_out g _ _ _ _ (fun _ _=>.inl (by show i*3<k*3;omega))).trans a,b⟩,⟨(World.cell?_setCells_out g _ _ _ _ (fun _ _=>.inl (by show i*3+1<k*3;omega))).trans c,d⟩,(World.cell?_setCells_out g _ _ _ _ (fun _ _=>.inl (by show i*3+2<k*3;omega))).trans e,f⟩
theorem th_ {q:Nat} (hv:v∈(Builtin.zeroCells (ival ⟨0,0,0⟩).cells q).toList):v.oneCell'=true:=by
 simp [Builtin.zeroCells,Value.cells] at hv;obtain ⟨a,_,rfl⟩:=hv;have h3:a % 3=0∨a % 3=1∨a % 3=2:=oq_;rcases h3 with h|h|h <;> rw [h] <;> rfl
theorem InsU.flat {D:List Inst} (h:InsU W g D) (hj:j<D.length*3):(W.cell? ⟨g,j,none⟩).isSome=true∧W.frozen? ⟨g,j,none⟩=false:=by
 obtain ⟨⟨a,b⟩,⟨c,d⟩,e,f⟩:=h (j / 3) oq_;have h3:j=j / 3*3∨j=j / 3*3+1∨j=j / 3*3+2:=oq_;rcases h3 with h3|h3|h3 <;> rw [h3]
 ·exact ⟨by rw [a];rfl,b⟩
 ·exact ⟨by rw [c];rfl,d⟩
 ·exact ⟨by rw [e];rfl,f⟩
theorem ny_ {P:Program} (w:World) (t e ty:TypeId) (z:Value) (ht:P.underlying t=some (.slice e)) (hv:∀ w,(zeroValue e).run P w=.ok z w) (m:Nat) (h1:∀ v∈(Builtin.zeroCells z.cells (m+1)).toList,v.oneCell'=true) (b o c:Nat)
  (hc:∀ j,j<(Builtin.zeroCells z.cells (m+1)).size->(w.cell? ⟨b,o+j,none⟩).isSome=true∧w.frozen? ⟨b,o+j,none⟩=false) :
  (Builtin.clear_ #[t] ty #[.slice (some ⟨b,o,none⟩) (m+1) c]).run P w=.ok (.tuple #[]) (w.setCells b o (Builtin.zeroCells z.cells (m+1)).toList):=by
 have hst:=run_storeCells_cells (P:=P) b o (Builtin.zeroCells z.cells (m+1)).toList 0 w (fun j hj=>(hc j (by simpa using hj)).1) (fun j hj=>(hc j (by simpa using hj)).2) h1;simp only [Nat.add_zero] at hst;simp [Builtin.clear_,run_underlying ht,hv,hst]
def xp_ (D:List Inst) (w:World) (g jj n:Nat) (kv mv:Value) (wr:World):Prop:=∃ (k p:Nat) (D1:List Inst),kv=.int .i64 k∧mv=.int .i64 ((p:Int)+1)∧k≤n∧jj+1+(p+1)≤n∧Hid (CmpI D D1 jj k (jj+1+p))∧Hid (InsU wr g D1)∧Hid (w.grownBy wr (some g))
def p0_ (g cap:Nat) (D:List Inst) (w:World) (e:Ending) (w':World):Prop:=∃ D',e=.returned (.slice (some ⟨g,0,none⟩) D'.length cap)∧D'.Pairwise LtI∧(∀ x,x∈D'↔x∈D)∧D'.length≤D.length∧InsU w' g D'∧w.grownBy w' (some g)
theorem neqI (x y:Inst) (W:World):(binOp .neq 77 (ival x) (ival y)).run Tryz.prog W=.ok (.bool (!decide (x=y))) W:=by
 have e:decide (x=y)=(decide (x.day=y.day) && (decide (x.frm=y.frm) && decide (x.fin=y.fin))):=by
  rw [Bool.eq_iff_iff];simp only [Bool.and_eq_true,decide_eq_true_eq];exact ⟨fun h=>by subst h;exact ⟨rfl,rfl,rfl⟩,fun h=>Inst.ext' h.1 h.2.1 h.2.2⟩
 rw [e];simp [go_sem];by_cases h1:x.day=y.day <;> by_cases h2:x.frm=y.frm <;> by_cases h3:x.fin=y.fin <;> simp [h1,h2,h3]
theorem ff_ (a:Option Addr) (n c:Nat) (w:World) (h:n<2):Calls Tryz.prog 81 #[.slice a n c] w fun e w'=>e=.returned (.slice a n c)∧w'=w:=by
 have hI:(n:Int)<2:=oq_
 go_enter Tryz.func81,Tryz.ntmps81
 go_wp2_with fail
 go_ret;exact ⟨rfl,rfl⟩
theorem m2_ (g cap:Nat) (D:List Inst) (w:World) (hD:SrtX D) (hn:D.length≤1000000) (h2:2≤D.length) (hc:D.length≤cap) (hc2:cap≤9223372036854775807) (h:InsU w g D) (hg:g<w.heap.size) :
  Calls Tryz.prog 81 #[.slice (some ⟨g,0,none⟩) D.length cap] w (p0_ g cap D w):=by
 have HD:=hq_ hD;have H:=hq_ h;obtain ⟨n,hn'⟩:∃ n,D.length=n:=⟨_,rfl⟩;rw [hn'] at hn h2 hc ⊢;have HL:=hq_ hn';have h2I:¬ (n:Int)<2:=oq_;clear hD h hn'
 go_enter Tryz.func81,Tryz.ntmps81
 go_wp2_with fail
 clear h2I;go_loopw [3] (fun kv wr=>∃ jj:Nat,jj<n∧kv=.int .i64 ((jj:Int)+1)∧Hid ((D.take (jj+1)).Pairwise LtI)∧Hid (Below w.heap.size w wr)) (fun kv _=>n-(intOf kv).toNat)
 case atStart=>exact ⟨0,oq_,rfl,hq_ (by rw [b5_ (by rw [HL.out];omega)];simp),hq_ (Below.refl _ _)⟩
 case round=>
  obtain ⟨jj,hj,rfl,HA,HB⟩:=hrel;obtain ⟨wk,hwk⟩:∃ x,x=wr:=⟨_,rfl⟩;subst hwk;by_cases hlt:jj+1<n
  ·have hlI:(jj:Int)+1<n:=oq_;obtain ⟨⟨x0,-⟩,⟨x1,-⟩,x2,-⟩:=(H.out.ext HB.out) (jj+1) (by rw [HL.out];omega);obtain ⟨⟨y0,-⟩,⟨y1,-⟩,y2,-⟩:=(H.out.ext HB.out) jj (by rw [HL.out];omega);obtain ⟨x,hx⟩:∃ x,D.getD (jj+1) default=x:=⟨_,rfl⟩;obtain ⟨y,hy⟩:∃ y,D.getD jj default=y:=⟨_,rfl⟩;rw [hx] at x0 x1 x2;rw [hy] at y0 y1 y2;have HX:=hq_ hx;have HY:=hq_ hy;obtain ⟨q,hq⟩:∃ q,decide (x=y)=q:=⟨_,rfl⟩;have HQ:=hq_ hq;have heq:=fun W=>eqlI x y W;rw [hq] at heq;clear hx hy hq;go_upto_region 6 with fail
   refine a9_ (w0:=wk) [0,1,2,3,4,5,6,7,8,9] [] [16,17,18,19,20,21,22,23,24,25] [.slice (some ⟨g,0,none⟩) n cap,.int .i64 ((jj:Int)+1),.pointer (some ⟨g,(jj+1)*3,none⟩),.agg #[.int .i64 x.day,.int .i64 x.frm,.int .i64 x.fin],.slice (some ⟨g,0,none⟩) n cap,.int .i64 ((jj:Int)+1),.int .i64 (jj:Int),.pointer (some ⟨g,jj*3,none⟩),.agg #[.int .i64 y.day,.int .i64 y.frm,.int .i64 y.fin],.bool q] [[],[],[0,1],[2],[],[],[5],[4,6],[7],[3,8]] (.a x0 (.a x1 (.a x2 (.a y0 (.a y1 (.z y2)))))) ?steps ?fin
   case steps=>
    repeat' first|exact .n|refine .c ?_ ?_|fail
    all_goals try exact stp
   case fin=>
    rintro W3 hb3 ⟨g0,g1,g2,g3,g4,g5⟩;show wpList _ _ _ [] _ _;simp only [vat];have HB3:=hq_ (Et HB.out hb3);clear g0 g1 g2 g3 g4 g5 x0 x1 x2 y0 y1 y2 hb3 heq;cases q
    ·have HNE:Hid ((D.take (jj+1+1)).Pairwise LtI):=hq_ (by
      have hne:x≠y:=of_decide_eq_false HQ.out;have hlt2:LtI y x:=by
       have h1:=HD.out.le (Nat.lt_succ_self jj) (by rw [HL.out];exact hlt);rw [HY.out,HX.out] at h1;exact h1.resolve_left fun e=>hne e.symm
      have h1:=HA.out;rw [b5_ (by rw [HL.out];omega),HY.out] at h1;rw [b5_ (by rw [HL.out];omega),HX.out,b5_ (by rw [HL.out];omega),HY.out,List.pairwise_append];refine ⟨h1,sq_,fun z hz u hu=>?_⟩;rw [List.mem_singleton] at hu;subst hu;rw [List.pairwise_append] at h1;rcases List.mem_append.1 hz with hz|hz
      ·exact (h1.2.2 z hz _ sq_).trans hlt2
      ·rw [List.mem_singleton] at hz;rw [hz];exact hlt2)
     go_wp2_with fail
     go_roundw
     case rel=>exact ⟨jj+1,hlt,by go_num,HNE,HB3⟩
     case measure=>simp [intOf];omega
    ·have HC0:Hid (CmpI D D jj (jj+1) (jj+1)):=hq_ (CmpI.start (by rw [HL.out];exact hlt) HA.out (by rw [HX.out,HY.out];exact of_decide_eq_true HQ.out));clear hlI;have hkc:jj+1≤cap:=oq_;go_wp2_with fail
     obtain ⟨r,hr⟩:∃ r,n-(jj+1)=r:=⟨_,rfl⟩;obtain ⟨rc,hrc⟩:∃ r,cap-(jj+1)=r:=⟨_,rfl⟩;rw [hr,hrc];have HRN:Hid (n=jj+1+r):=hq_ oq_;have hr1:0<r:=oq_;have HG3:=hq_ (World.grownBy.of_below HB3.out (some g));have HU3:=hq_ (H.out.ext HB3.out);clear hr hrc hkc;go_loopw [3,5] (fun kv mv wr=>xp_ D w g jj n kv mv wr) (fun _ mv _=>r-(intOf mv).toNat)
     case atStart=>exact ⟨jj+1,0,D,by go_num,by go_num,oq_,oq_,HC0,HU3,HG3⟩
     case round=>
      obtain ⟨k,p,D1,rfl,rfl,hkn,hpn,HC,HU,HG⟩:=hrel;obtain ⟨wq,hwq⟩:∃ x,x=wr:=⟨_,rfl⟩;subst hwq;by_cases hpr:p+1<r
      ·have hpI:(p:Int)+1<r:=oq_;have hrn:=HRN.out;have hD1:=HC.out.len;have hr1':=HC.out.rest (jj+1+p+1) oq_;have hr2':=HC.out.rest (jj+1+p) oq_;obtain ⟨⟨x0,-⟩,⟨x1,-⟩,x2c,-⟩:=HU.out (jj+1+p+1) (by rw [hD1,HL.out];omega);obtain ⟨⟨y0,-⟩,⟨y1,-⟩,y2c,-⟩:=HU.out (jj+1+p) (by rw [hD1,HL.out];omega);obtain ⟨x2,hx⟩:∃ x,D.getD (jj+1+p+1) default=x:=⟨_,rfl⟩;obtain ⟨y2,hy⟩:∃ y,D.getD (jj+1+p) default=y:=⟨_,rfl⟩;rw [hr1',hx,show (jj+1+p+1)*3=(jj+1)*3+(p+1)*3 from by omega] at x0 x1 x2c;rw [hr2',hy,show (jj+1+p)*3=(jj+1)*3+p*3 from by omega] at y0 y1 y2c;have HX2:=hq_ hx;have HY2:=hq_ hy;obtain ⟨nq,hnq⟩:∃ q,(!decide (x2=y2))=q:=⟨_,rfl⟩;have HNQ:=hq_ hnq;have hneq:=fun W=>neqI x2 y2 W;rw [hnq] at hneq;clear hx hy hnq hr1' hr2' hD1 hrn;go_upto_region 11 with fail
       refine a9_ (w0:=wq) [0,1,2,3,4,5,6,7,8,9] [] [35,36,37,38,39,40,41,42,43,44] [.slice (some ⟨g,(jj+1)*3,none⟩) r rc,.int .i64 ((p:Int)+1),.pointer (some ⟨g,(jj+1)*3+(p+1)*3,none⟩),.agg #[.int .i64 x2.day,.int .i64 x2.frm,.int .i64 x2.fin],.slice (some ⟨g,(jj+1)*3,none⟩) r rc,.int .i64 ((p:Int)+1),.int .i64 (p:Int),.pointer (some ⟨g,(jj+1)*3+p*3,none⟩),.agg #[.int .i64 y2.day,.int .i64 y2.frm,.int .i64 y2.fin],.bool nq] [[],[],[0,1],[2],[],[],[5],[4,6],[7],[3,8]] (.a x0 (.a x1 (.a x2c (.a y0 (.a y1 (.z y2c)))))) ?steps11 ?fin11
       case steps11=>
        repeat' first|exact .n|refine .c ?_ ?_|fail
        all_goals try exact stp
       case fin11=>
        rintro W4 hb4 ⟨g0,g1,g2,g3,g4,g5⟩;show wpList _ _ _ [] _ _;simp only [vat];have HB4:=hq_ hb4;have HU4:=hq_ (HU.out.ext hb4);have HG4:=hq_ (World.grownBy.trans' HG.out (World.grownBy.of_below hb4 _));have hkk:=HC.out.hk;have hrn:=HRN.out;clear x0 x1 x2c y0 y1 y2c hb4 hneq g3 g4 g5;cases nq
        ·have HC2:=hq_ (HC.out.same (by rw [HL.out];omega) (by rw [HX2.out,HY2.out];exact of_decide_eq_true (by simpa using HNQ.out)));have hle:jj+1+(p+1+1)≤n:=oq_;clear hrn g0 g1 g2;go_wp2_with fail
         go_roundw
         case rel=>exact ⟨k,p+1,D1,rfl,by go_num,hkn,hle,HC2,HU4,HG4⟩
         case measure=>simp [intOf];omega
        ·have HC2:=hq_ (HC.out.step HD.out (by rw [HL.out];omega) (by rw [HX2.out,HY2.out];exact of_decide_eq_false (by simpa using HNQ.out)));have hle:jj+1+(p+1+1)≤n:=oq_;have hk1:k+1≤n:=oq_;have hkD:k<D1.length:=by rw [HC.out.len,HL.out];omega
         obtain ⟨⟨u0,v0⟩,⟨u1,v1⟩,u2',v2⟩:=HU4.out k hkD;rw [HX2.out] at HC2;have HUS:=hq_ (HU4.out.set hkD x2);have hkI:(k:Int)<n:=oq_;clear hrn hkD;go_wp2_with fail
         go_roundw
         case rel=>exact ⟨k+1,p+1,D1.set k x2,by go_num,by go_num,hk1,hle,HC2,HUS,hq_ (World.grownBy.set' (World.grownBy.set' (World.grownBy.set' HG4.out _) _) _)⟩
         case measure=>simp [intOf];omega
      ·have hrn:=HRN.out;obtain rfl:p+1=r:=oq_;have hpI:¬ (p:Int)+1<((p+1:Nat):Int):=oq_;obtain ⟨f1,f2,f3⟩:=HC.out.fin (by rw [HL.out];omega);have hnk:n-k=n-k:=rfl;have hk1:=HC.out.hk;have hD1:=HC.out.len;obtain ⟨q,hq⟩:∃ q,n-k=q+1:=⟨n-k-1,oq_⟩;obtain ⟨iI,i1,i2,i3,i4⟩:=fk_;have hcl:∀ ty,(Builtin.clear_ #[53] ty #[.slice (some ⟨g,k*3,none⟩) (n-k) (cap-k)]).run Tryz.prog wq=.ok (.tuple #[]) (wq.setCells g (k*3) (Builtin.zeroCells (ival ⟨0,0,0⟩).cells (q+1)).toList):=fun ty=>by
        rw [hq];refine ny_ wq _ _ ty _ rfl (su_ i1 i2) q ?_ g (k*3) (cap-k) fun j hj=>?_
        ·intro v hv;exact th_ hv
        ·have hj2:j<(q+1)*3:=by simpa [Builtin.zeroCells,Value.cells] using hj
         exact HU.out.flat (by rw [hD1,HL.out];omega)
       have HF:=hq_ (And.intro f1 (And.intro f2 f3));have hkn2:k<n:=oq_;clear f1 f2 f3 i1 i2 i3 i4 hrn hq hnk hk1 hD1;go_wp2_with fail
       refine bodyPost_ret (v:=.slice (some ⟨g,0,none⟩) k cap) (by simp [results,Tryz.results81,go_sem]) rfl ?_;exact ⟨D1.take k,by rw [HF.out.2.2],HF.out.1,HF.out.2.1,by rw [HF.out.2.2,HL.out];omega,(HU.out.take k).cut (by rw [HF.out.2.2];exact Nat.le_refl _) _,fj_ _ _ _ HG.out⟩
  ·obtain rfl:jj+1=n:=oq_;have hlI:¬ (jj:Int)+1<((jj+1:Nat):Int):=oq_;go_wp2_with fail
   refine bodyPost_ret (v:=.slice (some ⟨g,0,none⟩) (jj+1) cap) (by simp [results,Tryz.results81,go_sem]) rfl ?_;exact ⟨D,by rw [HL.out],by have:=HA.out;rwa [List.take_of_length_le (by rw [HL.out];exact Nat.le_refl _)] at this,fun _=>Iff.rfl,Nat.le_refl _,H.out.ext HB.out,World.grownBy.of_below HB.out _⟩
end Go.Proofs.YtkclokcenllhmaaGreat
namespace Go.Proofs.YtkclokcenllhmaaGreat
open Go.RowKit Go.Maps Kal Go.Sort Go.Shelf
theorem d1_ (x y:Inst):ltOf ordI x y=decide (LtI x y):=by
 unfold ltOf;rw [Bool.eq_iff_iff,decide_eq_true_iff,decide_eq_true_iff,ep_]
theorem x7_:SWO (ltOf ordI) where
 irrefl x:=by rw [d1_];exact decide_eq_false LtI.irrefl
 trans x y z h1 h2:=by
  rw [d1_] at *;exact decide_eq_true ((of_decide_eq_true h1).trans (of_decide_eq_true h2))
 ntrans x y z h1 h2:=by
  rw [d1_] at *;have h1:=of_decide_eq_false h1;have h2:=of_decide_eq_false h2;refine decide_eq_false ?_;unfold LtI at *;omega
theorem x8_ (x y:Inst) (h1:ltOf ordI x y=false) (h2:ltOf ordI y x=false):x=y:=by
 rw [d1_] at h1 h2;exact LtI.eq_of (of_decide_eq_false h1) (of_decide_eq_false h2)
noncomputable def srtX (D:List Inst):List Inst:=D.mergeSort fun x y=>!(ltOf ordI y x)
theorem l0_ (D:List Inst):(srtX D).Perm D:=List.mergeSort_perm _ _
theorem n1_ (D:List Inst):SrtX (srtX D):=by
 have h:(srtX D).Pairwise (fun x y=>(!(ltOf ordI y x))=true):=List.pairwise_mergeSort (fun x y z h1 h2=>by
  simp only [d1_,Bool.not_eq_true',decide_eq_false_iff_not] at *;unfold LtI at *;omega) (fun x y=>by
  simp only [d1_,Bool.or_eq_true,Bool.not_eq_true',decide_eq_false_iff_not];unfold LtI;omega) D
 refine h.imp fun {x y} hxy=>?_;simp only [d1_,Bool.not_eq_true',decide_eq_false_iff_not] at hxy;rcases LtI.tri x y with h1|h1|h1
 ·exact .inr h1
 ·exact .inl h1
 ·exact absurd h1 hxy
theorem je_ {D:List Inst} (h:InsU W g D):HoldsK ienc 3 W g 0 D.toArray:=fun j hj=>by
 rw [size_flatK] at hj;have hj':j<D.length*3:=by simpa using hj
 obtain ⟨⟨a,b⟩,⟨c,d⟩,e,f⟩:=h (j / 3) oq_;have hg:D.toArray[j / 3]! = D.getD (j / 3) default:=by simp [List.getD_eq_getElem?_getD,List.getElem!_eq_getElem?_getD]
 rw [get_flatK _ _ _ _ hj,hg,Nat.zero_add];have h3:j % 3=0∨j % 3=1∨j % 3=2:=oq_;rcases h3 with h3|h3|h3 <;> rw [h3]
 ·have e1:j=j / 3*3:=oq_;exact ⟨(congrArg (fun o=>W.cell? ⟨g,o,none⟩) e1).trans a,(congrArg (fun o=>W.frozen? ⟨g,o,none⟩) e1).trans b⟩
 ·have e1:j=j / 3*3+1:=oq_;exact ⟨(congrArg (fun o=>W.cell? ⟨g,o,none⟩) e1).trans c,(congrArg (fun o=>W.frozen? ⟨g,o,none⟩) e1).trans d⟩
 ·have e1:j=j / 3*3+2:=oq_;exact ⟨(congrArg (fun o=>W.cell? ⟨g,o,none⟩) e1).trans e,(congrArg (fun o=>W.frozen? ⟨g,o,none⟩) e1).trans f⟩
theorem ps_ {D:List Inst} (h:HoldsK ienc 3 W g 0 D.toArray):InsU W g D:=fun i hi=>by
 have hi':i<D.toArray.size:=by simpa using hi
 have hg:D.toArray[i]! = D.getD i default:=by simp [List.getD_eq_getElem?_getD,List.getElem!_eq_getElem?_getD]
 have h0:=h.cell hi' (c:=0) oq_;have h1:=h.cell hi' (c:=1) oq_;have h2:=h.cell hi' (c:=2) oq_;rw [hg,Nat.zero_add] at h0 h1 h2;exact ⟨h0,h1,h2⟩
theorem ju_ (w:World) (g n:Nat) (d:Array Inst) (os:Array Obj):w.grownBy (sortWorldK ienc 3 w g 0 n d os) (some g):=by
 unfold sortWorldK putRowK;refine ⟨rfl,rfl,rfl,by simp only [Go.Sort.grow,putRow,mapBlock,ahead,Array.size_append,Array.size_modify];exact Nat.le_add_right _ _,fun k hk hne=>?_⟩;have hkg:k≠g:=fun e=>hne (by rw [e]);simp only [Go.Sort.grow,putRow,mapBlock,ahead];rw [Array.getElem?_append_left (by simpa using hk),Array.getElem?_modify,if_neg (fun e=>hkg e.symm)];rfl
theorem t2_ (g cap:Nat) (D:List Inst) (w:World) (h:InsU w g D) (hg:g<w.heap.size) (hn:D.length<4611686018427387904) :
  Calls Tryz.prog 79 #[.slice (some ⟨g,0,none⟩) D.length cap,.func (.func 80) #[] #[]] w fun e w'=>e=.returned (.tuple #[])∧InsU w' g (srtX D)∧w.grownBy w' (some g):=by
 have eg:∀ args w,(callFunc 80 args).run Tryz.prog w=.ok (.enter 80 args) w:=enters_of Tryz.func80 (by kernel_rfl) rfl;have hcon:=AnyQ.slices_SortFunc_total Tryz.sortI 3 Tryz.isAgg77 Tryz.sizeOf77 ienc (fun _=>rfl) (fun x v hv=>by simp [ienc] at hv;rcases hv with rfl|rfl|rfl <;> rfl) ordI x7_ 80 #[] g 0 cap D.toArray w eg (fun m os dk _ x y=>q9_ x y _) (je_ h) hg (by simpa using hn) x8_;rw [List.size_toArray] at hcon;change Calls Tryz.prog 79 _ _ _ at hcon;refine hcon.mono fun e w' ⟨he,n,os,hw⟩=>⟨he,?_,hw ▸ ju_ w g n _ os⟩;rw [hw];exact ps_ (holdsK_sortWorldK ienc 3 w g 0 n D.toArray _ os hg (je_ h) (by simp [List.length_mergeSort]))
end Go.Proofs.YtkclokcenllhmaaGreat
end
namespace Go
open Go.RowKit
variable {P:Program} {ops:Array Oper} {md:Region.Mode} {Q:Exit->Act->World->Prop} {w0:World} {l:Nat}
theorem uponIn_round {o:Oper} {a:Act} {K:Act->World->Prop} {r:Result Next} (h:o.upon P a K Q r):o.uponIn (Fence.wide.inRound l) 0 P a K Q r:=by
 cases r with
 | ok x w'=>
  cases x with
  | enter f args=>exact ⟨fun h=>(by cases h),CallsIn.inRound l ((callsIn_wide (n:=0)).2 h)⟩
  | row row args=>exact ⟨fun h=>(by cases h),fun c cs _=>(h c cs).elim fun v h=>h.elim fun w h=>⟨v,w,h.1,stepsIn_wide.2 h.2⟩⟩
  | _=>first|exact h|exact h.elim
 | halt c w'=>cases c <;> first|exact h|exact h.elim
theorem n8_ (hd:∀ o∈ops,∀ c,o.op≠.defer c) (hQ:¬ LetsOut Q) {i:Nat} {K K':Act->World->Prop} {a:Act} {w:World} (hK:∀ a w,K a w->K' a w) (h:wpOp P ops Q i K a w):wpOpIn (Fence.wide.inRound l) 0 P ops Q i K' a w:=by
 refine wpOpIn_mono hK ?_;unfold wpOp at h;unfold wpOpIn;cases ho:ops[i]? with
 | none=>simp only [ho] at h;exact h
 | some o=>
  simp only [ho] at h ⊢
  split
  ·rename_i hw;rw [if_pos hw] at h;rcases h with h|h
   ·refine ⟨fun _ _=>trivial,?_⟩;rw [Oper.semAt_eq _ _ _ (hd o (Array.mem_of_getElem? ho))];exact uponIn_round h
   ·exact absurd h.2 hQ
  ·rename_i hw;rw [if_neg hw] at h;exact ⟨fun _ _=>trivial,h⟩
theorem gj_ (hd:∀ o∈ops,∀ c,o.op≠.defer c) (hQ:¬ LetsOut Q):∀ (fuel:Nat) (li:Array Bool) (a:Act) (w:World),wpAny P md ops Q fuel li a w->wpAnyIn (Fence.wide.inRound l) 0 P md ops Q fuel li a w
 | 0,li,a,w,h=>h
 | n+1,li,a,w,h=>⟨h.1,fun i hi=>n8_ hd hQ (fun a w=>gj_ hd hQ n _ a w) (h.2 i hi)⟩
theorem lh_ {id:Nat} {a:Act} (ph tl:List Nat) (fr:(Nat->Value)->Act) (x:List Value) (cs:List Nat) (G:FnG) (S:World->Prop)
  (hS:∀ W,Below w0.heap.size w0 W->S W)
  (stab:allC (fun k=>∀ v lo hi W W',G k v lo hi W->Below W.heap.size W W'->G k v lo hi W') cs)
  (loc:allC (fun k=>∀ v v' lo lo' hi hi' W,(∀ j,j=k∨j∈Region.deps .any ops k->v j=v' j∧lo j=lo' j∧hi j=hi' j)->G k v lo hi W->G k v' lo' hi' W) cs)
  (steps:el_ P .any ops Q w0 fr x cs G S ph)
  (fin:∀ (v:Nat->Value) (lo hi:Nat->Nat) (W:World),Below w0.heap.size w0 W->S W->(∀ i,ph.contains i=true->w0.heap.size≤lo i∧lo i≤hi i∧hi i≤W.heap.size∧fcW x cs G i v lo hi W)->
   (∀ i j,ph.contains i=true->ph.contains j=true->i≠j->hi i≤lo j∨hi j≤lo i)->wpList P ops Q (tl.filterMap fun i=>ops[i]?) (fr v) W)
  (v0:Nat->Value:=fun _=>undef) (ha:a=fr v0:=by rfl) (hmix:P.follows .mixedOrders=true:=by rfl) (hc:Region.chkH .any ops ph tl=true:=by kernel_rfl) (hnd:ph.Nodup:=by decide)
  (hd:∀ o∈ops,∀ c,o.op≠.defer c:=by simp) (hQ:¬ LetsOut Q:=by rintro ⟨_,_,h⟩;exact h):(Code.region id ops true).wpIn (Fence.wide.inRound l) 0 P Q a w0:=by
 refine wpIn_region_any hmix (gj_ hd hQ _ _ _ _ ?_);refine hc_ (w0:=w0) (F:=fcW x cs G) hc hnd (fun i v lo hi W W' h hb=>by
   unfold fcW at h ⊢;cases e:cs.contains i with
   | true=>rw [e] at h;exact stab.get i e v lo hi W W' h hb
   | false=>rw [e] at h;exact h) (fun i v v' lo lo' hi hi' W hag h=>by
   unfold fcW at h ⊢;cases e:cs.contains i with
   | true=>rw [e] at h;exact loc.get i e v v' lo lo' hi hi' W hag h
   | false=>rw [e] at h;exact (hag i (.inl rfl)).1 ▸ h) hS steps.to fin ops.size _ [] v0 (fun _=>0) (fun _=>0) a _ ⟨sq_,fun i=>?_,.nil,sq_,fun i hi'=>?_,ha,(Below.refl _ _).drew,sq_,sq_⟩ sq_
 ·simp [Array.getD]
 ·exfalso;revert hi';simp [Array.getD]
theorem lg_ {id:Nat} {t:List Value} {df:List Deferred} {fr:(Nat->Value)->Act} {S:World->Prop} (ph tl ds:List Nat) (x:List Value) (DS CS:List (List Nat)) (cs:List Nat) (G:FnG)
  (hS:SS w0 S)
  (steps:bs_ P .any ops Q w0 fr x cs G S ph DS CS)
  (fin:∀ (v:Nat->Value) (lo hi:Nat->Nat) (W:World),Below w0.heap.size w0 W->S W->(∀ i,ph.contains i=true->w0.heap.size≤lo i∧lo i≤hi i∧hi i≤W.heap.size∧fcW x cs G i v lo hi W)->
   (∀ i j,ph.contains i=true->ph.contains j=true->i≠j->hi i≤lo j∨hi j≤lo i)->wpList P ops Q (tl.filterMap fun i=>ops[i]?) (fr v) W)
  (hfr:(fun v=>(⟨(puts ds ph v t).toArray,df⟩:Act))=fr:=by (simp only [puts,List.set_cons_zero,List.set_cons_succ];rfl))
  (stab:allC (fun k=>∀ v lo hi W W',G k v lo hi W->Below W.heap.size W W'->G k v lo hi W') cs:=by
   first
    | (
     repeat' apply And.intro
     all_goals first|trivial|(intro v lo hi W W' h hb;exact h.ext hb)
     done)
    | fail)
  (loc:allC (fun k=>∀ v v' lo lo' hi hi' W,(∀ j,j=k∨j∈Region.deps .any ops k->v j=v' j∧lo j=lo' j∧hi j=hi' j)->G k v lo hi W->G k v' lo' hi' W) cs:=by
   first
    | (
     repeat' apply And.intro
     all_goals first
      | trivial
      | (
        intro v v' lo lo' hi hi' W hag h;have q:=hag _ (.inl rfl)
        (try dsimp only at h ⊢)
        simp only [q.1,q.2.1,q.2.2] at h;exact h)
     done)
    | fail)
  (hmix:P.follows .mixedOrders=true:=by rfl) (hc:Region.chkH .any ops ph tl=true:=by kernel_rfl) (hnd:ph.Nodup:=by decide)
  (hd:∀ o∈ops,∀ c,o.op≠.defer c:=by simp) (hQ:¬ LetsOut Q:=by rintro ⟨_,_,h⟩;exact h):(Code.region id ops true).wpIn (Fence.wide.inRound l) 0 P Q ⟨t.toArray,df⟩ w0:=by
 subst hfr;exact lh_ ph tl _ x cs G S hS stab loc steps.to fin (fun k=>t.getD (bu_ ds ph k) undef) (by
  show Act.mk _ _=Act.mk _ _;rw [d8_ fun p hp=>by show t.getD (bu_ ds ph p.2) undef=_;rw [cr_ hnd p hp]]) hmix hc hnd hd hQ
end Go
namespace Go.Proofs.YtkclokcenllhmaaGreat
open Go.RowKit Go.Maps Kal Go.Shelf
theorem cells_of_cell {W:World} {p:Addr} {v:Value} (h:W.cell? p=some v):∃ o:Obj,W.heap[p.block]? = some o∧o.isCells=true:=by
 unfold World.cell? at h
 split at h
 ·rename_i c t f ho;exact ⟨_,ho,rfl⟩
 ·cases h
section
variable {α:Type} {e:TypeId} {sz:Nat} {enc:α->List Value} {R:World->(Nat->Prop)->α->Prop} {B:Nat} {A:Nat->Prop} {W W':World} {v:Value} {L:List α}
theorem OwnG.cells (h:OwnG e sz enc R B A W v L):∀ r,v.ownBlock=some r->∃ o:Obj,W.heap[r]? = some o∧o.isCells=true:=by
 intro r hr;obtain ⟨_,⟨rfl,_⟩|⟨g,cap,cur,rfl,_,hh,_⟩⟩:=h.row
 ·cases hr
 ·obtain rfl:g=r:=by simpa [Value.ownBlock] using hr
  exact ⟨_,hh,rfl⟩
end
theorem qf_ {B:Nat} {A:Nat->Prop} {W W':World} {v:Value} {D:List Inst} {row:Option Nat} (h:OwnX B A W v D) (hg:W.grownBy W' row) (hr:∀ k,row=some k->v.ownBlock≠some k):OwnX B A W' v D:=
 ⟨h.row.kept hg (by
  cases row with
  | none=>cases v.ownBlock <;> simp
  | some k=>exact .inr (hr k rfl)),h.all,h.ne,h.len⟩
theorem OwnG.insU {B g:Nat} {A:Nat->Prop} {W:World} {n cap:Nat} {D:List Inst} (h:OwnX B A W (.slice (some ⟨g,0,none⟩) n cap) D):InsU W g D∧n=D.length∧D.length≤cap∧cap≤9223372036854775807∧B≤g∧g<W.heap.size:=by
 have hlt:=h.row.lt g rfl;obtain ⟨hl,⟨he,_⟩|⟨g',cap',cur,he,hb,hh,h3,h4,h5,h6⟩⟩:=h.row
 ·cases he
 ·cases he;refine ⟨fun i hi=>?_,rfl,h3,h4,hlt.1,hlt.2⟩;have hf:∀ o,W.frozen? ⟨g,o,none⟩=false:=fun o=>by simp [World.frozen?,hh]
  have hc:∀ j u,j<3->(ienc (D.getD i default))[j]? = some u->W.cell? ⟨g,i*3+j,none⟩=some u:=fun j u hj hu=>by
   have h7:=a7_ (f:=ienc) c8_ default hi hu;have h8:=h.row.cellAt (i*3+j) oq_;exact h8.trans h7
  exact ⟨⟨hc 0 _ oq_ rfl,hf _⟩,⟨hc 1 _ oq_ rfl,hf _⟩,hc 2 _ oq_ rfl,hf _⟩
theorem InsU.extL {W:World} {g cap:Nat} {D:List Inst} (h:InsU W g D) (F:Nat->Prop) (hF:F g) (hg:g<W.heap.size) (h1:D.length≤cap) (h2:cap≤9223372036854775807) (hn:D.length≤4398046511104) (hI:∀ x∈D,InIn x):ExtL W F (.slice (some ⟨g,0,none⟩) D.length cap) D:=
 ⟨⟨_,cap,rfl,h1,h2,.inr ⟨g,0,rfl,hF,hg,fun i u hi=>by
  have hi':=(List.getElem?_eq_some_iff.1 hi).1;rw [bg_ c8_] at hi';obtain ⟨⟨a,_⟩,⟨c,_⟩,e,_⟩:=h (i / 3) oq_;have hx:∃ u',(ienc (D.getD (i / 3) default))[i % 3]? = some u':=⟨_,List.getElem?_eq_getElem (by rw [c8_];omega)⟩;obtain ⟨u',hu'⟩:=hx;have h7:=a7_ (f:=ienc) c8_ default (by omega:i / 3<D.length) hu';have e3:i / 3*3+i % 3=i:=oq_;rw [e3,hi] at h7;cases h7;rw [Nat.zero_add];have h3:i % 3=0∨i % 3=1∨i % 3=2:=oq_;rcases h3 with h3|h3|h3 <;> rw [h3] at hu' <;> cases hu'
  ·have e0:i=i / 3*3:=oq_;exact (congrArg (fun o=>W.cell? ⟨g,o,none⟩) e0).trans a
  ·have e0:i=i / 3*3+1:=oq_;exact (congrArg (fun o=>W.cell? ⟨g,o,none⟩) e0).trans c
  ·have e0:i=i / 3*3+2:=oq_;exact (congrArg (fun o=>W.cell? ⟨g,o,none⟩) e0).trans e⟩⟩,oq_,hI⟩
theorem InsU.at_ {W W':World} {g:Nat} {D:List Inst} (h:InsU W g D) (e:W'.heap[g]? = W.heap[g]?):InsU W' g D:=fun i hi=>by
 obtain ⟨⟨a,b⟩,⟨c,d⟩,f,k⟩:=h i hi;exact ⟨⟨(World.cell?_of_block e).trans a,(World.frozen?_of_block e).trans b⟩,⟨(World.cell?_of_block e).trans c,(World.frozen?_of_block e).trans d⟩,(World.cell?_of_block e).trans f,(World.frozen?_of_block e).trans k⟩
theorem InsU.isCells {W:World} {g:Nat} {D:List Inst} (h:InsU W g D) (hD:0<D.length):∃ o:Obj,W.heap[g]? = some o∧o.isCells=true:=cells_of_cell (h 0 hD).1.1
theorem InsU.extF {W W':World} {g cap:Nat} {D:List Inst} (h:InsU W g D) (hs:∀ o,W.heap[g]? = some o->o.isCells=true->W'.heap[g]? = some o) (h1:D.length≤cap) (h2:cap≤9223372036854775807) (hn:D.length≤1000000) (hI:∀ x∈D,InIn x) {B:Nat} (hB:B≤g):ExtL W' (fun b=>B≤b) (.slice (some ⟨g,0,none⟩) D.length cap) D:=by
 rcases Nat.eq_zero_or_pos D.length with h0|h0
 ·exact ⟨⟨_,cap,rfl,h1,h2,.inl h0⟩,oq_,hI⟩
 ·obtain ⟨o,g1,g2⟩:=h.isCells h0;have g3:=hs o g1 g2;exact (h.at_ (g3.trans g1.symm)).extL _ hB (Array.getElem?_eq_some_iff.1 g3).1 h1 h2 oq_ hI
theorem mv_:∀ (l:List Int) (lo hi:Int),l.Pairwise (· < ·)->(∀ x∈l,lo≤x∧x≤hi)->lo≤hi+1->(l.length:Int)≤hi+1-lo
 | [],lo,hi,_,_,h=>by simp;omega
 | x :: l,lo,hi,hp,hb,h=>by
  rw [List.pairwise_cons] at hp;have hx:=hb x sq_;have:=mv_ l (x+1) hi hp.2 (fun y hy=>⟨by have:=hp.1 y hy;omega,(hb y (by simp [hy])).2⟩) oq_;rw [List.length_cons];omega
def NW (a b:Int):Nat:=((b-a+10080) / 1440+2).toNat
theorem ln_ {a b k:Int} (h:b-a≤k):(NW a b:Int)≤max 0 ((k+10080) / 1440+2):=by unfold NW;omega
theorem m5_ {s:Str} {c:Cls} {a b:Int} {l:List Int} (hp:l.Pairwise (· < ·)) (ha:∀ d∈l,DayS s c a b d) (h1:1≤s.len) (h2:s.len≤10080) (hab:a≤b):l.length≤NW a b:=by
 unfold NW;have:=mv_ l ((a-s.len-c.min) / 1440+1) ((b-c.min-1) / 1440) hp (fun d hd=>by
  obtain ⟨-,-,h3,h4⟩:=ha d hd;omega) oq_
 omega
def WinS (s:Str) (a b:Int) (y:Inst):Prop:=IsI s y∧ae_ y.frm y.fin a b
def ClsS (s:Str) (a b:Int) (k:Nat) (y:Inst):Prop:=∃ j,j<k∧∃ d,DayS s (s.cls.getD j default) a b d∧y=dk_ s (s.cls.getD j default) d
theorem vk_ {s:Str} {a b:Int} {y:Inst}:WinS s a b y↔ClsS s a b s.cls.length y∨(y∈s.ext∧ae_ y.frm y.fin a b):=by
 constructor
 ·rintro ⟨⟨c,hc,⟨ho1,ho2⟩,hf⟩|hy,h1,h2⟩
  ·obtain ⟨j,hj,rfl⟩:=b6_ (d:=default) hc;have e1:y.frm=y.day*1440+(s.cls.getD j default).min:=congrArg Inst.frm ho2;have e2:y.fin=y.day*1440+(s.cls.getD j default).min+s.len:=congrArg Inst.fin ho2;exact .inl ⟨j,hj,y.day,⟨ho1,by unfold j5_;omega,oq_,oq_⟩,ho2⟩
  ·exact .inr ⟨hy,h1,h2⟩
 ·rintro (⟨j,hj,d,⟨h1,h2,h3,h4⟩,rfl⟩|⟨hy,h⟩)
  ·exact ⟨.inl ⟨_,by rw [a6_ hj];exact List.getElem_mem hj,⟨h1,rfl⟩,h2⟩,h4,h3⟩
  ·exact ⟨.inr hy,h⟩
structure ColI (s:Str) (a b:Int) (k:Nat) (pre:List Int) (D:List Inst):Prop where
 mem:∀ y,y∈D↔ClsS s a b k y∨∃ d∈pre,y=dk_ s (s.cls.getD k default) d
 len:D.length≤k*NW a b+pre.length
theorem ColI.start {s:Str} {a b:Int}:ColI s a b 0 [] []:=⟨fun y=>⟨fun h=>(by simp at h),fun h=>by
 rcases h with ⟨j,hj,_⟩|⟨d,hd,_⟩
 ·omega
 ·simp at hd⟩,sq_⟩
theorem ColI.push {s:Str} {a b:Int} {k:Nat} {pre:List Int} {D:List Inst} (h:ColI s a b k pre D) (d:Int):ColI s a b k (pre ++ [d]) (D ++ [dk_ s (s.cls.getD k default) d]):=
 ⟨fun y=>by
  rw [List.mem_append,h.mem,List.mem_singleton];constructor
  ·rintro ((h|⟨d',hd',e⟩)|e)
   ·exact .inl h
   ·exact .inr ⟨d',by simp [hd'],e⟩
   ·exact .inr ⟨d,sq_,e⟩
  ·rintro (h|⟨d',hd',e⟩)
   ·exact .inl (.inl h)
   ·rcases List.mem_append.1 hd' with hd'|hd'
    ·exact .inl (.inr ⟨d',hd',e⟩)
    ·rw [List.mem_singleton] at hd';subst hd';exact .inr e,by have:=h.len;simp;omega⟩
theorem ColI.done {s:Str} {a b:Int} {k:Nat} {pre:List Int} {D:List Inst} (h:ColI s a b k pre D) (hf:∀ d,d∈pre↔DayS s (s.cls.getD k default) a b d) (hl:pre.length≤NW a b):ColI s a b (k+1) [] D:=
 ⟨fun y=>by
  rw [h.mem];constructor
  ·rintro (⟨j,hj,h⟩|⟨d,hd,e⟩)
   ·exact .inl ⟨j,oq_,h⟩
   ·exact .inl ⟨k,oq_,d,(hf d).1 hd,e⟩
  ·rintro (⟨j,hj,d,hd,e⟩|⟨d,hd,e⟩)
   ·by_cases hjk:j<k
    ·exact .inl ⟨j,hjk,d,hd,e⟩
    ·obtain rfl:j=k:=oq_;exact .inr ⟨d,(hf d).2 hd,e⟩
   ·simp at hd,by have:=h.len;rw [Nat.succ_mul,List.length_nil];omega⟩
structure ColX (s:Str) (a b:Int) (k:Nat) (D:List Inst):Prop where
 mem:∀ y,y∈D↔ClsS s a b s.cls.length y∨∃ j,j<k∧y=s.ext.getD j default∧ae_ y.frm y.fin a b
 len:D.length≤s.cls.length*NW a b+k
theorem ColI.ext {s:Str} {a b:Int} {D:List Inst} (h:ColI s a b s.cls.length [] D):ColX s a b 0 D:=⟨fun y=>by
 rw [h.mem];constructor
 ·rintro (h|⟨d,hd,_⟩)
  ·exact .inl h
  ·simp at hd
 ·rintro (h|⟨j,hj,_⟩)
  ·exact .inl h
  ·omega,by have:=h.len;rw [List.length_nil] at this;exact this⟩
theorem ColX.push {s:Str} {a b:Int} {k:Nat} {D:List Inst} (h:ColX s a b k D) (hc:ae_ (s.ext.getD k default).frm (s.ext.getD k default).fin a b):ColX s a b (k+1) (D ++ [s.ext.getD k default]):=
 ⟨fun y=>by
  rw [List.mem_append,h.mem,List.mem_singleton];constructor
  ·rintro ((h|⟨j,hj,e⟩)|e)
   ·exact .inl h
   ·exact .inr ⟨j,oq_,e⟩
   ·exact .inr ⟨k,oq_,e,by rw [e];exact hc⟩
  ·rintro (h|⟨j,hj,e,g⟩)
   ·exact .inl (.inl h)
   ·by_cases hjk:j<k
    ·exact .inl (.inr ⟨j,hjk,e,g⟩)
    ·obtain rfl:j=k:=oq_;exact .inr e,by have:=h.len;simp;omega⟩
theorem ColX.skip {s:Str} {a b:Int} {k:Nat} {D:List Inst} (h:ColX s a b k D) (hc:¬ ae_ (s.ext.getD k default).frm (s.ext.getD k default).fin a b):ColX s a b (k+1) D:=
 ⟨fun y=>by
  rw [h.mem];constructor
  ·rintro (h|⟨j,hj,e⟩)
   ·exact .inl h
   ·exact .inr ⟨j,oq_,e⟩
  ·rintro (h|⟨j,hj,e,g⟩)
   ·exact .inl h
   ·by_cases hjk:j<k
    ·exact .inr ⟨j,hjk,e,g⟩
    ·obtain rfl:j=k:=oq_;rw [e] at g;exact absurd g hc,by have:=h.len;omega⟩
theorem ColI.le {s:Str} {a b:Int} {k:Nat} {pre:List Int} {D:List Inst} (h:ColI s a b k pre D) (hk:k≤64) (hw:b-a≤5760000):D.length≤256640+pre.length:=by
 have h1:=h.len;have h2:=ln_ hw;have h3:k*NW a b≤64*4010:=Nat.mul_le_mul hk oq_;omega
theorem ColX.le {s:Str} {a b:Int} {k:Nat} {D:List Inst} (h:ColX s a b k D) (hk:s.cls.length≤64) (hw:b-a≤5760000):D.length≤256640+k:=by
 have h1:=h.len;have h2:=ln_ hw;have h3:s.cls.length*NW a b≤64*4010:=Nat.mul_le_mul hk oq_;omega
theorem ColX.fin {s:Str} {a b:Int} {D:List Inst} (h:ColX s a b s.ext.length D) (y:Inst):y∈D↔WinS s a b y:=by
 rw [h.mem,vk_];constructor
 ·rintro (h|⟨j,hj,e,g⟩)
  ·exact .inl h
  ·exact .inr ⟨by rw [e,a6_ hj];exact List.getElem_mem hj,g⟩
 ·rintro (h|⟨hy,g⟩)
  ·exact .inl h
  ·obtain ⟨j,hj,e⟩:=b6_ (d:=default) hy;exact .inr ⟨j,hj,e.symm,g⟩
theorem WinS.inn {s:Str} {a b:Int} {y:Inst} (hm:MStr s) (h:WinS s a b y):InIn y:=by
 obtain ⟨h1,h2⟩:=h;have h3:=hm.low h1;have hl:=hm.val.len;rcases h1 with ⟨c,hc,⟨ho1,ho2⟩,hf⟩|hy
 ·have hmi:=hm.min hc;have e1:y.frm=y.day*1440+c.min:=congrArg Inst.frm ho2;have e2:y.fin=y.day*1440+c.min+s.len:=congrArg Inst.fin ho2;have h0:=e0_ (hm.ne hc) ho1;exact ⟨⟨oq_,oq_⟩,⟨oq_,oq_⟩,⟨oq_,oq_⟩⟩
 ·have:=hm.val.ins hy;unfold br_ at this;exact ⟨⟨oq_,oq_⟩,⟨oq_,oq_⟩,⟨oq_,oq_⟩⟩
end Go.Proofs.YtkclokcenllhmaaGreat
