/- Part 5 of the proof of the laws. -/
import Derived.Test.YtkclokcenllhmaaGreatM4
import Derived.Test.YtkclokcenllhmaaGreatM2
import Derived.Test.YtkclokcenllhmaaGreatM3
import Derived.Shelf.SlSortCmp.NoneTotal
set_option linter.unusedVariables false
set_option linter.unusedSimpArgs false
set_option maxRecDepth 100000
set_option maxHeartbeats 4000000
section
variable {av bv sv:Array Go.Value}{ok:Bool}{a b f:Int}{m:List (List Kal.Per)}{l:List Int}{B ab c k n nb xb yb:Nat}{o':Go.Obj}{row:Option Nat}{e:Go.TypeId}{lv v v':Go.Value}{A C W W' w:Go.World}
namespace Go.Proofs.YtkclokcenllhmaaGreat
open Go.RowKit Go.Shelf Go.Maps Kal
attribute [local go_sem] Oper.semAt_some
theorem FjW.setF (h:FjW w av bv f A):FjW w av bv f (A.setCell ⟨w.heap.size+1+1,0,none⟩ (.int .i64 f)):=
 ⟨h.below.setCell (p:=⟨w.heap.size+1+1,0,none⟩) tq_ _,h.b0.setNe _ oq_,h.b1.setNe _ oq_,a0_ 0 (.int .i64 f) h.bf,h.r6.setNe _ oq_,h.r7.setNe _ oq_⟩
def j0_ (n b:Nat) (y:Inst) (W:World):Prop:=n≤b∧Bxx W b #[.int .i64 y.day,.int .i64 y.frm,.int .i64 y.fin] 77
theorem j0_.put {b:Nat} {y:Inst} {l:Nat} {o:Obj} (h:j0_ n b y W) (hl:W.heap[l]? = some o) (ho:o.isCells=false):j0_ n b y (W.putObj l o'):=
 ⟨h.1,(World.putObj_heap_other (fun e=>by subst e;rw [h.2] at hl;cases hl;cases ho)).trans h.2⟩
theorem wb_ {Z:Inst->Prop} {L:List Inst} {m:Nat} {y:Inst} (hy:L.getD m default=y) (z:Inst):(Z z∨∃ j,j<m+1∧z=L.getD j default)↔(Z z∨∃ j,j<m∧z=L.getD j default)∨z=y:=by
 subst hy;constructor
 ·rintro (h|⟨j,hj,rfl⟩)
  ·exact .inl (.inl h)
  ·by_cases e:j=m
   ·subst e;exact .inr rfl
   ·exact .inl (.inr ⟨j,oq_,rfl⟩)
 ·rintro ((h|⟨j,hj,rfl⟩)|rfl)
  ·exact .inl h
  ·exact .inr ⟨j,oq_,rfl⟩
  ·exact .inr ⟨m,oq_,rfl⟩
theorem yAll {B:Str} {x:Inst} {xs:List Inst} (h:∀ y,y∈xs↔ce_ B x y) (y:Inst) (hi:InT f x y):(y∈xs∨∃ j,j<B.ext.length∧y=B.ext.getD j default)↔dc_ B y∨y∈B.ext:=by
 rw [h y];constructor
 ·rintro (h|⟨j,hj,rfl⟩)
  ·exact .inl h.1
  ·exact .inr (by rw [a6_ hj];exact List.getElem_mem hj)
 ·rintro (h|h)
  ·exact .inl ⟨h,hi.clash⟩
  ·obtain ⟨j,hj,rfl⟩:=b6_ (d:=default) h;exact .inr ⟨j,hj,rfl⟩
theorem xAll {A:Str} {y:Inst} {xs:List Inst} (h:∀ x,x∈xs↔ce_ A y x) (x:Inst) (hi:InT f x y):x∈xs↔dc_ A x:=by
 rw [h x];have:=hi.clash;exact ⟨fun h=>h.1,fun h=>⟨h,by unfold ae_ at *;omega⟩⟩
theorem KeepsOthers.drewK (h:KeepsOthers A C):KeepsOthers A C.drew:=⟨h.size,h.same⟩
def endR (W:World) (n:Nat) (x y:Inst):World:=(((((W.setCell ⟨n,0,none⟩ (.int .i64 x.day)).setCell ⟨n,1,none⟩ (.int .i64 x.frm)).setCell ⟨n,2,none⟩ (.int .i64 x.fin)).setCell ⟨n+1,0,none⟩ (.int .i64 y.day)).setCell ⟨n+1,1,none⟩ (.int .i64 y.frm)).setCell ⟨n+1,2,none⟩ (.int .i64 y.fin)
theorem FjW.endR (h:FjW w av bv f W) (x y:Inst):Below w.heap.size w (endR W (w.heap.size+1+1+1) x y)∧Bxx (Proofs.YtkclokcenllhmaaGreat.endR W (w.heap.size+1+1+1) x y) (w.heap.size+1+1+1) #[.int .i64 x.day,.int .i64 x.frm,.int .i64 x.fin] 77∧Bxx (Proofs.YtkclokcenllhmaaGreat.endR W (w.heap.size+1+1+1) x y) (w.heap.size+1+1+1+1) #[.int .i64 y.day,.int .i64 y.frm,.int .i64 y.fin] 77∧KeepsOthers W (Proofs.YtkclokcenllhmaaGreat.endR W (w.heap.size+1+1+1) x y):=by
 unfold Proofs.YtkclokcenllhmaaGreat.endR;have k1:Bxx (((W.setCell ⟨w.heap.size+1+1+1,0,none⟩ (.int .i64 x.day)).setCell ⟨w.heap.size+1+1+1,1,none⟩ (.int .i64 x.frm)).setCell ⟨w.heap.size+1+1+1,2,none⟩ (.int .i64 x.fin)) (w.heap.size+1+1+1) #[.int .i64 x.day,.int .i64 x.frm,.int .i64 x.fin] 77:=by
  simpa [Bxx] using a0_ 2 (.int .i64 x.fin) (a0_ 1 (.int .i64 x.frm) (a0_ 0 (.int .i64 x.day) h.r6))
 have k2:=((h.r7.setNe (k:=w.heap.size+1+1+1) (i:=0) (.int .i64 x.day) oq_).setNe (k:=w.heap.size+1+1+1) (i:=1) (.int .i64 x.frm) oq_).setNe (k:=w.heap.size+1+1+1) (i:=2) (.int .i64 x.fin) oq_;refine ⟨?_,((k1.setNe (k:=w.heap.size+1+1+1+1) (i:=0) _ oq_).setNe (k:=w.heap.size+1+1+1+1) (i:=1) _ oq_).setNe (k:=w.heap.size+1+1+1+1) (i:=2) _ oq_,?_,(((((KeepsOthers.setCell W _ _).trans (KeepsOthers.setCell _ _ _)).trans (KeepsOthers.setCell _ _ _)).trans (KeepsOthers.setCell _ _ _)).trans (KeepsOthers.setCell _ _ _)).trans (KeepsOthers.setCell _ _ _)⟩
 ·exact (((((h.below.setCell (p:=⟨w.heap.size+1+1+1,0,none⟩) (by show _≤w.heap.size+1+1+1;omega) _).setCell (p:=⟨w.heap.size+1+1+1,1,none⟩) (by show _≤w.heap.size+1+1+1;omega) _).setCell (p:=⟨w.heap.size+1+1+1,2,none⟩) (by show _≤w.heap.size+1+1+1;omega) _).setCell (p:=⟨w.heap.size+1+1+1+1,0,none⟩) (by show _≤w.heap.size+1+1+1+1;omega) _).setCell (p:=⟨w.heap.size+1+1+1+1,1,none⟩) (by show _≤w.heap.size+1+1+1+1;omega) _).setCell (p:=⟨w.heap.size+1+1+1+1,2,none⟩) (by show _≤w.heap.size+1+1+1+1;omega) _
 ·simpa [Bxx] using a0_ 2 (.int .i64 y.fin) (a0_ 1 (.int .i64 y.frm) (a0_ 0 (.int .i64 y.day) k2))
theorem FiW.exAY {tb:Nat} {A B:Str} {x y:Inst} {Y Y':Inst->Prop} (h:FiW w av bv nb ab xb yb tb f (fun x' y'=>ExAY A B f k Y x' y'∨(x'=x∧y'=y∧InT f x y)) C) (hx:A.ext.getD k default=x) (hY:∀ z,Y' z↔Y z∨z=y):FiW w av bv nb ab xb yb tb f (ExAY A B f k Y') C:=
 h.mono fun _ _ _ g=>g.congr fun x' y'=>by rw [(funext fun z=>propext (hY z):Y'=fun z=>Y z∨z=y)];exact rh_ hx
theorem FiW.exBY {tb:Nat} {A B:Str} {x y:Inst} {Y Y':Inst->Prop} (h:FiW w av bv nb ab xb yb tb f (fun x' y'=>ExBY A B f k Y x' y'∨(x'=x∧y'=y∧InT f x y)) C) (hy:B.ext.getD k default=y) (hY:∀ z,Y' z↔Y z∨z=x):FiW w av bv nb ab xb yb tb f (ExBY A B f k Y') C:=
 h.mono fun _ _ _ g=>g.congr fun x' y'=>by rw [(funext fun z=>propext (hY z):Y'=fun z=>Y z∨z=x)];exact rj_ hy
def efFr (sA sB:Value) (f:Int) (w w2 W0:World) (v14 v20 v21 v23 v25 v26 v47:Value) (L:List Value) (n:Nat) (ds:List Deferred):Act:=⟨(sA :: sB :: Value.int IntKind.i64 f :: Value.pointer (some { block:=w.heap.size,off:=0 }) :: Value.pointer (some { block:=w.heap.size+1,off:=0 }) :: Value.pointer (some { block:=w.heap.size+1+1,off:=0 }) :: Value.pointer (some { block:=w.heap.size+1+1+1,off:=0 }) :: Value.pointer (some { block:=w.heap.size+1+1+1+1,off:=0 }) :: Value.bool false :: Value.pointer (some { block:=w2.heap.size,off:=0 }) :: Value.pointer (some { block:=w2.heap.size+1,off:=0 }) :: Value.pointer (some { block:=w2.heap.size+1+1,off:=0 }) :: Value.pointer (some { block:=w2.heap.size+1+1+1,off:=0 }) :: Value.pointer (some { block:=w2.heap.size+1+1+1+1,off:=0 }) :: v14 :: undef :: undef :: undef :: undef :: undef :: v20 :: v21 :: undef :: v23 :: undef :: v25 :: v26 :: sA :: Value.bool true :: Value.bool false :: Value.bool false :: sB :: Value.bool true :: Value.bool false :: Value.bool false :: Value.bool false :: Value.int IntKind.i64 f :: Value.bool false :: Value.bool false :: undef :: undef :: Value.int IntKind.i64 f :: Value.int IntKind.i64 f :: Value.func (Fn.func 121) #[] #[Value.pointer (some { block:=w.heap.size+1+1,off:=0 }),Value.pointer (some { block:=w2.heap.size+1+1+1,off:=0 }),Value.pointer (some { block:=w2.heap.size+1+1,off:=0 }),Value.pointer (some { block:=w2.heap.size,off:=0 }),Value.pointer (some { block:=w2.heap.size+1,off:=0 })] :: sA :: sB :: Value.func (Fn.func 165) #[] #[Value.pointer (some { block:=W0.heap.size,off:=0 }),Value.pointer (some { block:=W0.heap.size+1,off:=0 })] :: v47 :: undef :: undef :: undef :: undef :: undef :: undef :: undef :: undef :: undef :: undef :: undef :: undef :: undef :: undef :: undef :: undef :: undef :: undef :: undef :: undef :: undef :: undef :: undef :: undef :: undef :: undef :: undef :: undef :: undef :: undef :: undef :: undef :: undef :: undef :: undef :: undef :: undef :: undef :: undef :: undef :: undef :: undef :: undef :: undef :: undef :: undef :: undef :: undef :: undef :: undef :: undef :: undef :: undef :: undef :: undef :: undef :: undef :: undef :: undef :: undef :: undef :: undef :: undef :: undef :: undef :: undef :: undef :: undef :: undef :: undef :: undef :: undef :: undef :: undef :: undef :: undef :: undef :: undef :: undef :: undef :: (L ++ List.replicate n undef)).toArray,ds⟩
end Go.Proofs.YtkclokcenllhmaaGreat
namespace Go.Proofs.YtkclokcenllhmaaGreat
open Go.RowKit Go.Shelf Go.Maps Kal
attribute [local go_sem] Oper.semAt_some
theorem pj_ (F G:Nat->Prop) (cva eva cvb evb:Value) (A B:Str) (f:Int) (w:World) (hA:StrR w F cva eva A) (hB:StrR w G cvb evb B) (vA:MStr A) (vB:MStr B) (hf1:-2251799813685248≤f) (hf2:f≤2251799813685248) (hno:A.cls=[]) :
  Calls Tryz.prog 71 #[.agg #[cva,.int .i64 A.len,eva],.agg #[cvb,.int .i64 B.len,evb],.int .i64 f] w (kd_ A B f w):=by
 have hA:=hA.lt;have hB:=hB.lt;have HVA:=fun W (hb:Below w.heap.size w W)=>cq_ _ cva eva A W (hA.ext hb);have HVB:=fun W (hb:Below w.heap.size w W)=>cq_ _ cvb evb B W (hB.ext hb);rw [ca_.2 vA.val] at HVA;rw [ca_.2 vB.val] at HVB;obtain ⟨LA,hA⟩:=hA;obtain ⟨LB,hB⟩:=hB;obtain ⟨a1,c1,rfl⟩:=hA.cl.form;obtain ⟨a2,c2,rfl⟩:=hA.ex.form;obtain ⟨a3,c3,rfl⟩:=hB.cl.form;obtain ⟨a4,c4,rfl⟩:=hB.ex.form;have hxa:=hA.ex.len;have hxb:=hB.ex.len;have HA:=hq_ hA;have HB:=hq_ hB;have VA:=hq_ vA;have HNO:=hq_ hno;have VB:=hq_ vB;have HVA:=hq_ HVA;have HVB:=hq_ HVB;clear hA hB vA vB hno;have hf3:¬ f > 2251799813685248:=oq_;have hf4:decide (2251799813685248<f)=false:=decide_eq_false oq_;have hmx:max f (-2251799813685248)=f:=oq_;have hmx2:(if -2251799813685248 > f then -2251799813685248 else f)=f:=by split <;> omega
 have hmx3:¬ f < -2251799813685248:=oq_;refine callsIn_wide (n:=0).1 ?_;refine callsIn_of_wp_marks Tryz.func71 rfl trivial ?_ rfl;simp only [Tryz.ntmps71,List.size_toArray,List.length_cons,List.length_nil,Nat.reduceAdd,Nat.reduceSub,Array.replicate_succ,Array.replicate_zero,List.push_toArray,List.append_toArray,List.nil_append,List.cons_append];have HS0:Hid (FjW w #[.slice a1 LA.length c1,.int .i64 A.len,.slice a2 A.ext.length c2] #[.slice a3 LB.length c3,.int .i64 B.len,.slice a4 B.ext.length c4] f (((((w.alloc (.cells #[.slice a1 LA.length c1,.int .i64 A.len,.slice a2 A.ext.length c2] 55)).alloc (.cells #[.slice a3 LB.length c3,.int .i64 B.len,.slice a4 B.ext.length c4] 55)).alloc (.cells #[.int .i64 f] 3)).alloc (.cells #[.int .i64 0,.int .i64 0,.int .i64 0] 77)).alloc (.cells #[.int .i64 0,.int .i64 0,.int .i64 0] 77))):=
  hq_ ⟨by exact xE,((((Bxx.at rfl).alloc _).alloc _).alloc _).alloc _,(((Bxx.at sq_).alloc _).alloc _).alloc _,((Bxx.at sq_).alloc _).alloc _,(Bxx.at sq_).alloc _,Bxx.at sq_⟩
 gi_upto_region 7 with (first
  | (refine ⟨trivial,rfl,?_⟩;gi_at_call 75;(with_reducible refine (callsIn_wide.2 (HVA.out _ HS0.out.below)).mono ?_);rintro e w1 ⟨rfl,hb1⟩;have HS1:=hq_ (HS0.out.ext hb1);have y0:=(HS1.out.b1.cells 0).1;have y1:=(HS1.out.b1.cells 1).1;have y2:=(HS1.out.b1.cells 2).1;clear hb1)
  | (refine ⟨trivial,rfl,?_⟩;gi_at_call 75;(with_reducible refine (callsIn_wide.2 (HVB.out _ HS1.out.below)).mono ?_);rintro e w2 ⟨rfl,hb2⟩;have HS2:=hq_ (HS1.out.ext hb2);clear y0 y1 y2;have HS3:=hq_ HS2.out.setF;have x0:=(HS3.out.b0.cells 0).1;have x1:=(HS3.out.b0.cells 1).1;have x2:=(HS3.out.b0.cells 2).1;have y0:=(HS3.out.b1.cells 0).1;have y1:=(HS3.out.b1.cells 1).1;have y2:=(HS3.out.b1.cells 2).1;have u0:=(HS2.out.b0.cells 0).1;have u1:=(HS2.out.b0.cells 1).1;have u2:=(HS2.out.b0.cells 2).1;have v0:=(HS2.out.b1.cells 0).1;have v1:=(HS2.out.b1.cells 1).1;have v2:=(HS2.out.b1.cells 2).1;have z0:=(HS2.out.bf.cells 0).1;have z1:=(HS2.out.bf.cells 0).2;have hz2:=HS2.out.r7.lt;have hzz0:w.heap.size<w2.heap.size:=oq_;have hzz1:w.heap.size+1<w2.heap.size:=oq_;have hzz2:w.heap.size+1+1<w2.heap.size:=oq_;clear hb2)
  | (refine ⟨trivial,?_⟩;apply_assumption)
  | rw [hmx2]|rw [hmx])
 have hFN:FiN w (w2.heap.size+1+1+1) (w2.heap.size+1+1) w2.heap.size (w2.heap.size+1) (w2.heap.size+1+1+1+1):=⟨⟨oq_,oq_,oq_,oq_,oq_,oq_⟩,oq_,oq_,oq_,oq_,by rintro (h|h|h|h) <;> omega⟩;generalize hW0:(((((w2.setCell _ _).alloc _).alloc _).alloc _).alloc _).alloc _=W0;have hE:Below (w2.setCell ⟨w.heap.size+1+1,0,none⟩ (.int .i64 f)).heap.size (w2.setCell ⟨w.heap.size+1+1,0,none⟩ (.int .i64 f)) W0:=by rw [<- hW0];exact xE
 have hsz:W0.heap.size=w2.heap.size+5:=by rw [<- hW0];simp
 have hF0:FiX w w2 #[.slice a1 LA.length c1,.int .i64 A.len,.slice a2 A.ext.length c2] #[.slice a3 LB.length c3,.int .i64 B.len,.slice a4 B.ext.length c4] f (fun x y=>∃ q∈([]:List PrV).map PrV.p,PrS A B f q x y) W0:=by
  refine ⟨HS3.out.ext hE,by rw [<- hW0];exact Bxx.at sq_,⟨0,0,0⟩,⟨0,0,0⟩,false,0,bm_.start.congr sq_,fun h=>(by cases h),⟨?_,?_,?_,?_⟩⟩
  ·rw [<- hW0];exact (Bxx.at sq_).alloc _
  ·rw [<- hW0];exact ((Bxx.at sq_).alloc _).alloc _
  ·rw [<- hW0];exact ((((Bxx.at sq_).alloc _).alloc _).alloc _).alloc _
  ·rw [<- hW0];exact (((Bxx.at sq_).alloc _).alloc _).alloc _
 have HF0:=hq_ hF0;have HFN:=hq_ hFN;have HSZ:=hq_ hsz;clear x0 x1 x2 y0 y1 y2 u0 u1 u2 v0 v1 v2 z0 z1 hE hF0 hFN hW0 hsz;have x0:=(HF0.out.j.b0.cells 0).1;have x1:=(HF0.out.j.b0.cells 1).1;have x2:=(HF0.out.j.b0.cells 2).1;have y0:=(HF0.out.j.b1.cells 0).1;have y1:=(HF0.out.j.b1.cells 1).1;have y2:=(HF0.out.j.b1.cells 2).1;gi_wp2_with (refine ⟨trivial,rfl,?_⟩;gi_at_call 117;refine (callsIn_wide.2 (ga_ a1 a2 a3 a4 LA.length c1 A.ext.length c2 LB.length c3 B.ext.length c4 A.len B.len W0)).mono ?_;rintro e w5 ⟨rfl,hw5⟩;obtain ⟨W1,rfl⟩:∃ W1,W1=w5:=⟨_,rfl⟩;have HW5:=hq_ hw5;clear hw5)
 have hw5:=HW5.out;have hE:Below W0.heap.size W0 W1:=by rw [hw5];exact xE
 have hsz1:W1.heap.size=W0.heap.size+1+1:=by rw [hw5];simp
 have HAX:Hid (Bxx W1 W0.heap.size #[.slice a1 LA.length c1,.int .i64 A.len,.slice a2 A.ext.length c2] 55):=hq_ (by rw [hw5];exact (Bxx.at rfl).alloc _);have HBX:Hid (Bxx W1 (W0.heap.size+1) #[.slice a3 LB.length c3,.int .i64 B.len,.slice a4 B.ext.length c4] 55):=hq_ (by rw [hw5];exact Bxx.at sq_);have HF1:=hq_ (HF0.out.ext hE);have HB0:=hq_ HF1.out.j.below;have HSZ1:=hq_ hsz1;have hgeB:∀ k,Blk4 (w2.heap.size+1+1+1) (w2.heap.size+1+1) w2.heap.size (w2.heap.size+1) k->w.heap.size+5≤k∧k<W0.heap.size:=fun k hk=>⟨HFN.out.ge hk,by have:=HSZ.out;rcases hk with h|h|h|h <;> omega⟩;have HGE:=hq_ hgeB;have HPF:Hid (∀ k,(F k∧k<w.heap.size)->k<W1.heap.size∧¬ Blk4 (w2.heap.size+1+1+1) (w2.heap.size+1+1) w2.heap.size (w2.heap.size+1) k):=hq_ (fun k h=>⟨by have:=HB0.out.size;omega,fun h4=>by have:=(HGE.out k h4).1;omega⟩);have HPG:Hid (∀ k,(G k∧k<w.heap.size)->k<W1.heap.size∧¬ Blk4 (w2.heap.size+1+1+1) (w2.heap.size+1+1) w2.heap.size (w2.heap.size+1) k):=hq_ (fun k h=>⟨by have:=HB0.out.size;omega,fun h4=>by have:=(HGE.out k h4).1;omega⟩);have HPB:Hid (∀ k,(k<W1.heap.size∧¬ Blk4 (w2.heap.size+1+1+1) (w2.heap.size+1+1) w2.heap.size (w2.heap.size+1) k)->k<W1.heap.size):=hq_ (fun k h=>h.1);have HP1:Hid (W0.heap.size<W1.heap.size∧¬ Blk4 (w2.heap.size+1+1+1) (w2.heap.size+1+1) w2.heap.size (w2.heap.size+1) W0.heap.size):=hq_ ⟨oq_,fun h4=>by have:=(HGE.out _ h4).2;omega⟩;have HP2:Hid (W0.heap.size+1<W1.heap.size∧¬ Blk4 (w2.heap.size+1+1+1) (w2.heap.size+1+1) w2.heap.size (w2.heap.size+1) (W0.heap.size+1)):=hq_ ⟨oq_,fun h4=>by have:=(HGE.out _ h4).2;omega⟩;have HSTA:Hid (StB A):=hq_ ⟨⟨_,VA.out.val⟩,fun c hc t ht=>((VA.out.mv c hc).vt t ht).f⟩;have HSTB:Hid (StB B):=hq_ ⟨⟨_,VB.out.val⟩,fun c hc t ht=>((VB.out.mv c hc).vt t ht).f⟩;clear hw5 hE x0 x1 x2 y0 y1 y2 hsz1 hgeB;refine bf_ (α:=PrV) (x:=none) (gf:=165) (lb:=#[.pointer (some ⟨W0.heap.size,0,none⟩),.pointer (some ⟨W0.heap.size+1,0,none⟩)]) rfl (enters_of Tryz.func165 (by kernel_rfl) rfl)
  (fz_ (fun b=>F b∧b<w.heap.size) (fun b=>G b∧b<w.heap.size) (fun k=>k<W1.heap.size∧¬ Blk4 (w2.heap.size+1+1+1) (w2.heap.size+1+1) w2.heap.size (w2.heap.size+1) k) a1 a2 a3 a4 c1 A.ext.length c2 c3 B.ext.length c4 (W0.heap.size) (W0.heap.size+1) W1.heap.size LA LB W1 A B (HA.out.below HB0.out) (HB.out.below HB0.out) VA.out VB.out HPF.out HPG.out HPB.out (Nat.le_refl _) HAX.out HBX.out HP1.out HP2.out HNO.out)
  (fun h k=>h.trans k) (fun W2 l o o' hl ho hc=>KpO.putObj HPB.out W2 l o o' hl ho hc) (fun W2 W3 hn hg=>KpO.grown HPB.out W2 W3 hn hg) (fun y=>rfl)
  (fun pre W'=>FiX w w2 #[.slice a1 LA.length c1,.int .i64 A.len,.slice a2 A.ext.length c2] #[.slice a3 LB.length c3,.int .i64 B.len,.slice a4 B.ext.length c4] f (fun x y=>∃ q∈pre.map PrV.p,PrS A B f q x y) W'∧KeepsOthers W1 W')
  (fun _ _ _=>False)
  (fun pre A' C row hI hg hr=>by
    have hr':∀ r,row=some r->W1.heap.size≤r∧∃ o:Obj,A'.heap[r]? = some o∧o.isCells=false:=fun r e=>by
     rcases hr r e with ⟨h,_⟩|h
     ·cases h
     ·exact h
    exact ⟨hI.1.grow hg fun r e=>⟨by have:=(hr' r e).1;have:=HB0.out.size;omega,(hr' r e).2⟩,KeepsOthers.grow hI.2 hg fun r e=>(hr' r e).1⟩)
  (fun c' pre A' C row hI hg hr=>hI)
  (fun pre y W2 l o o' hl ho h=>EyP.put pre y W2 l o o' hl ho h) (fun pre y W2 W3 hg h=>EyP.grown pre y W2 W3 hg h) ⟨HF1.out,KeepsOthers.refl _⟩
  (fun y a' W2=>∃ b,a'=(efFr (Value.agg #[Value.slice a1 LA.length c1,Value.int IntKind.i64 A.len,Value.slice a2 A.ext.length c2]) (Value.agg #[Value.slice a3 LB.length c3,Value.int IntKind.i64 B.len,Value.slice a4 B.ext.length c4]) f w w2 W0 (.pointer (some ⟨b,0,none⟩)) undef undef undef undef undef y.val [] 47 [])∧hh_ W1.heap.size b y W2)
  (fun y a' W2 l o o' _ hl ho h=>⟨h.choose,h.choose_spec.1,h.choose_spec.2.put hl ho⟩) ?assign ?body ?done ?stop
 case assign=>
  rintro l pre y W' K - - ⟨⟨r,hr⟩,-⟩ -
  exact (dv_ HNO.out hr).elim
 case body=>
  rintro l pre y _ W' - ⟨⟨r,hr⟩,-⟩ -
  exact (dv_ HNO.out hr).elim
 case done=>
  rintro D0 xs W4 hD0 hfin ⟨hF,hKO⟩ hdef;have hF4:FiX w w2 #[.slice a1 LA.length c1,.int .i64 A.len,.slice a2 A.ext.length c2] #[.slice a3 LB.length c3,.int .i64 B.len,.slice a4 B.ext.length c4] f (ExA A B f 0) W4:=hF.mono fun x y c h=>h.congr fun x y=>by rw [u7_,hfin]
  have HF4:=hq_ hF4;have HM4:Hid (aj_ w.heap.size [{ target:=.collected D0,args:=#[] }] W4):=hq_ (aj_.cons (aj_.nil w.heap.size W1) (by have:=HB0.out.size;omega) (hKO.from _) (by have:=HB0.out.size;have:=HSZ1.out;omega) hdef);clear hF hKO hfin hdef hF4;have x0:=(HF4.out.j.b0.cells 2).1;gi_wp2_with fail
  clear x0;refine wpIn_loop (fun a W=>∃ (k:Nat) (u20 u21 u23 u132 u133 u134 u135 u136 u137 u138 u139 u140 u141 u142 u143 u144 u145 u146 u147 u148 u149 u150 u151 u152 u153 u154 u155:Value) (ds:List Deferred),a=(efFr (Value.agg #[Value.slice a1 LA.length c1,Value.int IntKind.i64 A.len,Value.slice a2 A.ext.length c2]) (Value.agg #[Value.slice a3 LB.length c3,Value.int IntKind.i64 B.len,Value.slice a4 B.ext.length c4]) f w w2 W0 undef u20 u21 u23 undef undef undef [.pointer (some ⟨w.heap.size,2,none⟩),.slice a2 A.ext.length c2,.int .i64 A.ext.length,.int .i64 k,u132,u133,u134,u135,u136,u137,u138,u139,u140,u141,u142,u143,u144,u145,u146,u147,u148,u149,u150,u151,u152,u153,u154,u155] 19 ds)∧k≤A.ext.length∧Hid (FiX w w2 #[.slice a1 LA.length c1,.int .i64 A.len,.slice a2 A.ext.length c2] #[.slice a3 LB.length c3,.int .i64 B.len,.slice a4 B.ext.length c4] f (ExA A B f k) W)∧Hid (aj_ w.heap.size ds W)) (fun a _=>A.ext.length-(intOf (a.tmps.getD 131 undef)).toNat) ?start1 ?round1
  case start1=>exact ⟨0,_,_,_,_,_,_,_,_,_,_,_,_,_,_,_,_,_,_,_,_,_,_,_,_,_,_,_,_,rfl,oq_,HF4,HM4⟩
  case round1=>
   clear HF4 HM4 HAX HBX HF1 HF0;rintro _ W ⟨k,u20,u21,u23,u132,u133,u134,u135,u136,u137,u138,u139,u140,u141,u142,u143,u144,u145,u146,u147,u148,u149,u150,u151,u152,u153,u154,u155,ds,rfl,hk,HS,HM⟩;dsimp only [efFr,List.cons_append,List.nil_append,List.replicate];have hws:=HS.out.j.below.size;have hwl:=HS.out.tk.lt;by_cases hlt:k<A.ext.length
   ·have hlI:(k:Int)<A.ext.length:=oq_;obtain ⟨b8,f8,x,rfl,hb8,hx,_,e0,e1,e2⟩:=(HA.out.below HS.out.j.below).ex.get hlt;have HX:=hq_ hx;have hgx:=VA.out.val.ins (x:=x) (by rw [<- hx,a6_ hlt];exact List.getElem_mem hlt);obtain ⟨_,⟨gx1,gx2⟩,gx3,gx4⟩:=hgx;have r0:=a2_ ((HS.out.j.b1.cells 0).1) (.cells #[.int .i64 x.day,.int .i64 x.frm,.int .i64 x.fin] 77);have r1:=a2_ ((HS.out.j.b1.cells 1).1) (.cells #[.int .i64 x.day,.int .i64 x.frm,.int .i64 x.fin] 77);have r2:=a2_ ((HS.out.j.b1.cells 2).1) (.cells #[.int .i64 x.day,.int .i64 x.frm,.int .i64 x.fin] 77);clear hx;gi_wp2_with (refine ⟨trivial,rfl,?_⟩;gi_at_call 124;refine (callsIn_wide.2 (gf_ a3 a4 LB.length c3 B.ext.length c4 B.len x _)).mono ?_;rintro e w' ⟨rfl,rfl⟩)
    generalize hW5:((W.alloc _).alloc _).alloc _=W5;have hE:Below W.heap.size W W5:=by rw [<- hW5];exact xE
    have hsz:W5.heap.size=W.heap.size+1+1+1:=by rw [<- hW5];simp
    have hxb:Bxx W5 W.heap.size #[.int .i64 x.day,.int .i64 x.frm,.int .i64 x.fin] 77:=by rw [<- hW5];exact ((Bxx.at rfl).alloc _).alloc _
    have hsb:Bxx W5 (W.heap.size+1) #[.slice a3 LB.length c3,.int .i64 B.len,.slice a4 B.ext.length c4] 55:=by rw [<- hW5];exact (Bxx.at sq_).alloc _
    have hxb2:Bxx W5 (W.heap.size+1+1) #[.int .i64 x.day,.int .i64 x.frm,.int .i64 x.fin] 77:=by rw [<- hW5];exact Bxx.at sq_
    have HS1:=hq_ (HS.out.ext hE);have HXB:=hq_ hxb;have HKW:=hq_ (KeepsOthers.of_below hE);have hN4:∀ q,Blk4 (w2.heap.size+1+1+1) (w2.heap.size+1+1) w2.heap.size (w2.heap.size+1) q->w.heap.size+5≤q∧q<W.heap.size:=fun q hq=>⟨HFN.out.ge hq,by rcases hq with h|h|h|h <;> omega⟩;have HN4:=hq_ hN4;have HSW:=hq_ hsz;clear hW5 hxb r0 r1 r2 e0 e1 e2 hN4;refine bf_ (α:=Inst) (x:=none) (gf:=174) (lb:=#[.pointer (some ⟨W.heap.size+1,0,none⟩),.pointer (some ⟨W.heap.size+1+1,0,none⟩)]) rfl (enters_of Tryz.func174 (by kernel_rfl) rfl)
     (gg_ (fun b=>G b∧b<w.heap.size) (fun q=>q<W5.heap.size∧¬ Blk4 (w2.heap.size+1+1+1) (w2.heap.size+1+1) w2.heap.size (w2.heap.size+1) q) a3 a4 c3 B.ext.length c4 (W.heap.size+1) (W.heap.size+1+1) W5.heap.size LB W5 B x (HB.out.below HS1.out.j.below) VB.out (fun q h=>⟨by have:=HS1.out.j.below.size;have:=h.2;omega,fun h4=>by have:=(HN4.out q h4).1;have:=h.2;omega⟩) (fun q h=>h.1) (Nat.le_refl _) hsb hxb2 ⟨hsb.lt,fun h4=>by have:=(HN4.out _ h4).2;omega⟩ ⟨hxb2.lt,fun h4=>by have:=(HN4.out _ h4).2;omega⟩ oq_ oq_ oq_ oq_)
     (fun h k=>h.trans k) (fun W1 l o o' hl ho hc=>KpO.putObj (fun q h=>h.1) W1 l o o' hl ho hc) (fun W1 W2 hn hg=>KpO.grown (fun q h=>h.1) W1 W2 hn hg) (fun y=>rfl)
     (fun pre W'=>FiX w w2 #[.slice a1 LA.length c1,.int .i64 A.len,.slice (some ⟨b8,f8,none⟩) A.ext.length c2] #[.slice a3 LB.length c3,.int .i64 B.len,.slice a4 B.ext.length c4] f (ExAY A B f k (fun y=>y∈pre)) W'∧KeepsOthers W5 W'∧Bxx W' W.heap.size #[.int .i64 x.day,.int .i64 x.frm,.int .i64 x.fin] 77)
     (fun _ _ _=>False)
     (fun pre A' C row hI hg hr=>by
      have hr':∀ r,row=some r->W5.heap.size≤r∧∃ o:Obj,A'.heap[r]? = some o∧o.isCells=false:=fun r e=>by
       rcases hr r e with ⟨h,_⟩|h
       ·cases h
       ·exact h
      exact ⟨hI.1.grow hg fun r e=>⟨by have:=(hr' r e).1;omega,(hr' r e).2⟩,KeepsOthers.grow hI.2.1 hg fun r e=>(hr' r e).1,hI.2.2.grown hg fun e=>by
       obtain ⟨h,_⟩:=hr' _ e.symm;omega⟩)
     (fun c' pre A' C row hI hg hr=>hI)
     (fun _ _ _ _ _ _ _ _ h=>h) (fun _ _ _ _ _ h=>h) ⟨HS1.out.mono fun x' y' c h=>h.congr fun x' y'=>pk_ sq_,KeepsOthers.refl _,HXB.out⟩
     (fun y a' W2=>∃ b,a'=(efFr (.agg #[.slice a1 LA.length c1,.int .i64 A.len,.slice (some ⟨b8,f8,none⟩) A.ext.length c2]) (Value.agg #[Value.slice a3 LB.length c3,Value.int IntKind.i64 B.len,Value.slice a4 B.ext.length c4]) f w w2 W0 undef (.pointer (some ⟨W.heap.size,0,none⟩)) (.pointer (some ⟨b,0,none⟩)) u23 undef undef undef [.pointer (some ⟨w.heap.size,2,none⟩),.slice (some ⟨b8,f8,none⟩) A.ext.length c2,.int .i64 A.ext.length,.int .i64 k,.bool true,.pointer (some ⟨b8,f8+k*3,none⟩),ival x,.agg #[.slice a3 LB.length c3,.int .i64 B.len,.slice a4 B.ext.length c4],ival x,.func (.func 174) #[] #[.pointer (some ⟨W.heap.size+1,0,none⟩),.pointer (some ⟨W.heap.size+1+1,0,none⟩)],ival y,u139,u140,u141,u142,u143,u144,u145,u146,u147,u148,u149,u150,u151,u152,u153,u154,u155] 19 [])∧j0_ W5.heap.size b y W2)
     (fun y a' W2 l o o' _ hl ho h=>⟨h.choose,h.choose_spec.1,h.choose_spec.2.put hl ho⟩) ?assign1 ?body1 ?done1 ?stop1
    case assign1=>
     intro l pre y W' K hW' _ _ hK
     gi_wp2
     exact hK _ _ (World.grownBy_alloc _ _ _) ⟨W'.heap.size,rfl,hW',Bxx.at rfl⟩
    case body1=>
     rintro l pre y _ W' ⟨hF,hKO,hXB⟩ ⟨hy,-⟩ ⟨b,rfl,hnb,hbx⟩;dsimp only [efFr,List.cons_append,List.nil_append,List.replicate];have d0:=(hF.tk.cells 0).1;have d1:=(hXB.cells 0).1;have d2:=(hXB.cells 1).1;have d3:=(hXB.cells 2).1;have d4:=(hbx.cells 0).1;have d5:=(hbx.cells 1).1;have d6:=(hbx.cells 2).1;have HF:=hq_ hF;have HKO:=hq_ hKO;have HXB1:=hq_ hXB;have HY:=hq_ hy;clear hF hKO hXB hy hbx;gi_wp2_with (refine ⟨trivial,rfl,?_⟩;gi_at_call 121;refine (CallsIn.inRound l (callsIn_wide.2 (FiW.call HF.out HFN.out x y))).mono ?_;rintro e C ⟨rfl,hch,hfc⟩;have HCH:=hq_ hch;have HFC:=hq_ hfc;clear hch hfc)
     have HK3:=KeepsOthers.chg HCH.out HF.out.cells;exact ⟨HK3.from _,KpO.chg HCH.out (fun q hq=>⟨fun h=>h.2 hq,by have:=(HN4.out q hq).2;have:=HSW.out;omega⟩) (fun q hq=>Nat.lt_of_lt_of_le hq.1 HKO.out.size),HFC.out.exAY HX.out (by simp [or_comm]),HKO.out.trans HK3,HCH.out.box HXB1.out fun h=>by have:=(HN4.out _ h).2;omega⟩
    case done1=>
     rintro D xs W6 hD hfin ⟨hF,hKO,hXB⟩ hdef;have hF6:FiX w w2 #[.slice a1 LA.length c1,.int .i64 A.len,.slice (some ⟨b8,f8,none⟩) A.ext.length c2] #[.slice a3 LB.length c3,.int .i64 B.len,.slice a4 B.ext.length c4] f (ExAY A B f k (fun y=>y∈xs∨∃ j,j<0∧y=B.ext.getD j default)) W6:=hF.mono fun x' y' c h=>h.congr fun x' y'=>by simp
     have HF6:=hq_ hF6;have HXB6:=hq_ hXB;have HFI:=hq_ hfin;have HM6:=hq_ (aj_.cons (D:=D) HM.out oq_ ((HKW.out.trans hKO).from _) oq_ hdef);have x0:=(hF.j.b1.cells 2).1;clear hF hKO hXB hfin hdef hF6 hsb hxb2;gi_wp2_with fail
     clear x0;refine wpIn_loop (fun a W7=>∃ (m:Nat) (v23 v147 v148 v149 v150 v151 v152 v153 v154:Value),a=(efFr (.agg #[.slice a1 LA.length c1,.int .i64 A.len,.slice (some ⟨b8,f8,none⟩) A.ext.length c2]) (Value.agg #[Value.slice a3 LB.length c3,Value.int IntKind.i64 B.len,Value.slice a4 B.ext.length c4]) f w w2 W0 undef (.pointer (some ⟨W.heap.size,0,none⟩)) u21 v23 undef undef undef [.pointer (some ⟨w.heap.size,2,none⟩),.slice (some ⟨b8,f8,none⟩) A.ext.length c2,.int .i64 A.ext.length,.int .i64 k,.bool true,.pointer (some ⟨b8,f8+k*3,none⟩),ival x,.agg #[.slice a3 LB.length c3,.int .i64 B.len,.slice a4 B.ext.length c4],ival x,.func (.func 174) #[] #[.pointer (some ⟨W.heap.size+1,0,none⟩),.pointer (some ⟨W.heap.size+1+1,0,none⟩)],u138,u139,u140,u141,u142,.pointer (some ⟨w.heap.size+1,2,none⟩),.slice a4 B.ext.length c4,.int .i64 B.ext.length,.int .i64 m,v147,v148,v149,v150,v151,v152,v153,v154,u155] 19 ({ target:=.collected D,args:=#[] } :: ds))∧m≤B.ext.length∧Hid (FiX w w2 #[.slice a1 LA.length c1,.int .i64 A.len,.slice (some ⟨b8,f8,none⟩) A.ext.length c2] #[.slice a3 LB.length c3,.int .i64 B.len,.slice a4 B.ext.length c4] f (ExAY A B f k (fun y=>y∈xs∨∃ j,j<m∧y=B.ext.getD j default)) W7)∧Hid (KeepsOthers W6 W7)∧Hid (Bxx W7 W.heap.size #[.int .i64 x.day,.int .i64 x.frm,.int .i64 x.fin] 77)) (fun a _=>B.ext.length-(intOf (a.tmps.getD 146 undef)).toNat) ?start2 ?round2
     case start2=>exact ⟨0,_,_,_,_,_,_,_,_,_,rfl,oq_,HF6,hq_ (KeepsOthers.refl _),HXB6⟩
     case round2=>
      rintro _ wr ⟨m,v23,v147,v148,v149,v150,v151,v152,v153,v154,rfl,hm,HG,HKO,HXR⟩;dsimp only [efFr,List.cons_append,List.nil_append,List.replicate];have hgs:=HG.out.j.below.size;by_cases hlt2:m<B.ext.length
      ·have hlJ:(m:Int)<B.ext.length:=oq_;obtain ⟨b9,f9,y,rfl,hb9,hy,_,e0,e1,e2⟩:=(HB.out.below HG.out.j.below).ex.get hlt2;have HY:=hq_ hy;have r0:=a2_ ((HG.out.tk.cells 0).1) (.cells #[.int .i64 y.day,.int .i64 y.frm,.int .i64 y.fin] 77);have r1:=a2_ ((HXR.out.cells 0).1) (.cells #[.int .i64 y.day,.int .i64 y.frm,.int .i64 y.fin] 77);have r2:=a2_ ((HXR.out.cells 1).1) (.cells #[.int .i64 y.day,.int .i64 y.frm,.int .i64 y.fin] 77);have r3:=a2_ ((HXR.out.cells 2).1) (.cells #[.int .i64 y.day,.int .i64 y.frm,.int .i64 y.fin] 77);have HG1:=hq_ (HG.out.ext (Ea (Er wr) (.cells #[.int .i64 y.day,.int .i64 y.frm,.int .i64 y.fin] 77)));have HX1:=hq_ (HXR.out.alloc (.cells #[.int .i64 y.day,.int .i64 y.frm,.int .i64 y.fin] 77));clear hy;gi_wp2_with (refine ⟨trivial,rfl,?_⟩;gi_at_call 121;refine (callsIn_wide.2 (FiW.call HG1.out HFN.out x y)).mono ?_;rintro e C ⟨rfl,hch,hfc⟩;have HCH:=hq_ hch;have HFC:=hq_ hfc;clear hch hfc)
       exact ⟨⟨m+1,_,_,_,_,_,_,_,_,_,by push_cast;(repeat (first|exact rfl|refine ⟨?_,rfl⟩|refine ⟨rfl,?_⟩)),oq_,hq_ (HFC.out.exAY HX.out (wb_ HY.out)),hq_ (HKO.out.trans ((KeepsOthers.of_below (Ea (Er wr) _)).trans (KeepsOthers.chg HCH.out HG1.out.cells))),hq_ (HCH.out.box HX1.out fun h=>by have:=(HN4.out _ h).2;omega)⟩,by simp [intOf];omega⟩
      ·obtain rfl:m=B.ext.length:=oq_;have hkI:¬ (B.ext.length:Int)<B.ext.length:=oq_;gi_wp2_with fail
       exact ⟨⟨k+1,_,_,_,_,_,_,_,_,_,_,_,_,_,_,_,_,_,_,_,_,_,_,_,_,_,_,_,_,by push_cast;(repeat (first|exact rfl|refine ⟨?_,rfl⟩|refine ⟨rfl,?_⟩)),oq_,hq_ (HG.out.mono fun x' y' c h=>h.congr fun x' y'=>(rg_ (by rw [HX.out];exact yAll HFI.out)).symm),hq_ (HM6.out.keep (HKO.out.from _))⟩,by simp [intOf];omega⟩
    case stop1=>
     intro D' c' pre W' hD' h;exact h.elim
   ·obtain rfl:k=A.ext.length:=oq_;have hkI:¬ (A.ext.length:Int)<A.ext.length:=oq_;have HT0:Hid (FiX w w2 #[.slice a1 LA.length c1,.int .i64 A.len,.slice a2 A.ext.length c2] #[.slice a3 LB.length c3,.int .i64 B.len,.slice a4 B.ext.length c4] f (ExB A B f 0) W):=hq_ (HS.out.mono fun x' y' c h=>h.congr fun x' y'=>u8_);have x0:=(HS.out.j.b1.cells 2).1;gi_wp2_with fail
    clear x0 hkI;refine wpIn_loop (fun a W=>∃ (m:Nat) (v25 v26 v160 v161 v162 v163 v164 v165 v166 v167 v168 v169 v170 v171:Value) (ds:List Deferred),a=(efFr (Value.agg #[Value.slice a1 LA.length c1,Value.int IntKind.i64 A.len,Value.slice a2 A.ext.length c2]) (Value.agg #[Value.slice a3 LB.length c3,Value.int IntKind.i64 B.len,Value.slice a4 B.ext.length c4]) f w w2 W0 undef u20 u21 u23 v25 v26 undef [.pointer (some ⟨w.heap.size,2,none⟩),.slice a2 A.ext.length c2,.int .i64 A.ext.length,.int .i64 A.ext.length,.bool false,u133,u134,u135,u136,u137,u138,u139,u140,u141,u142,u143,u144,u145,u146,u147,u148,u149,u150,u151,u152,u153,u154,u155,.pointer (some ⟨w.heap.size+1,2,none⟩),.slice a4 B.ext.length c4,.int .i64 B.ext.length,.int .i64 m,v160,v161,v162,v163,v164,v165,v166,v167,v168,v169,v170,v171] 3 ds)∧m≤B.ext.length∧Hid (FiX w w2 #[.slice a1 LA.length c1,.int .i64 A.len,.slice a2 A.ext.length c2] #[.slice a3 LB.length c3,.int .i64 B.len,.slice a4 B.ext.length c4] f (ExB A B f m) W)∧Hid (aj_ w.heap.size ds W)) (fun a _=>B.ext.length-(intOf (a.tmps.getD 159 undef)).toNat) ?start3 ?round3
    case start3=>exact ⟨0,_,_,_,_,_,_,_,_,_,_,_,_,_,_,_,rfl,oq_,HT0,HM⟩
    case round3=>
     clear HT0 HS HM hws hwl hk hlt;rintro _ W ⟨m,v25,v26,v160,v161,v162,v163,v164,v165,v166,v167,v168,v169,v170,v171,ds,rfl,hm,HS,HM⟩;dsimp only [efFr,List.cons_append,List.nil_append,List.replicate];have hws:=HS.out.j.below.size;have hwl:=HS.out.tk.lt;by_cases hlt:m<B.ext.length
     ·have hlI:(m:Int)<B.ext.length:=oq_;obtain ⟨b9,f9,y,rfl,hb9,hy,_,e0,e1,e2⟩:=(HB.out.below HS.out.j.below).ex.get hlt;have HY:=hq_ hy;have hgy:=VB.out.val.ins (x:=y) (by rw [<- hy,a6_ hlt];exact List.getElem_mem hlt);obtain ⟨_,⟨gx1,gx2⟩,gx3,gx4⟩:=hgy;have r0:=a2_ ((HS.out.j.b0.cells 0).1) (.cells #[.int .i64 y.day,.int .i64 y.frm,.int .i64 y.fin] 77);have r1:=a2_ ((HS.out.j.b0.cells 1).1) (.cells #[.int .i64 y.day,.int .i64 y.frm,.int .i64 y.fin] 77);have r2:=a2_ ((HS.out.j.b0.cells 2).1) (.cells #[.int .i64 y.day,.int .i64 y.frm,.int .i64 y.fin] 77);clear hy;gi_wp2_with (refine ⟨trivial,rfl,?_⟩;gi_at_call 124;refine (callsIn_wide.2 (gf_ a1 a2 LA.length c1 A.ext.length c2 A.len y _)).mono ?_;rintro e w' ⟨rfl,rfl⟩)
      generalize hW5:((W.alloc _).alloc _).alloc _=W5;have hE:Below W.heap.size W W5:=by rw [<- hW5];exact xE
      have hsz:W5.heap.size=W.heap.size+1+1+1:=by rw [<- hW5];simp
      have hxb:Bxx W5 W.heap.size #[.int .i64 y.day,.int .i64 y.frm,.int .i64 y.fin] 77:=by rw [<- hW5];exact ((Bxx.at rfl).alloc _).alloc _
      have hsb:Bxx W5 (W.heap.size+1) #[.slice a1 LA.length c1,.int .i64 A.len,.slice a2 A.ext.length c2] 55:=by rw [<- hW5];exact (Bxx.at sq_).alloc _
      have hxb2:Bxx W5 (W.heap.size+1+1) #[.int .i64 y.day,.int .i64 y.frm,.int .i64 y.fin] 77:=by rw [<- hW5];exact Bxx.at sq_
      have HS1:=hq_ (HS.out.ext hE);have HXB:=hq_ hxb;have HKW:=hq_ (KeepsOthers.of_below hE);have hN4:∀ q,Blk4 (w2.heap.size+1+1+1) (w2.heap.size+1+1) w2.heap.size (w2.heap.size+1) q->w.heap.size+5≤q∧q<W.heap.size:=fun q hq=>⟨HFN.out.ge hq,by rcases hq with h|h|h|h <;> omega⟩;have HN4:=hq_ hN4;have HSW:=hq_ hsz;clear hW5 hxb r0 r1 r2 e0 e1 e2 hN4;refine bf_ (α:=Inst) (x:=none) (gf:=174) (lb:=#[.pointer (some ⟨W.heap.size+1,0,none⟩),.pointer (some ⟨W.heap.size+1+1,0,none⟩)]) rfl (enters_of Tryz.func174 (by kernel_rfl) rfl)
       (gg_ (fun b=>F b∧b<w.heap.size) (fun q=>q<W5.heap.size∧¬ Blk4 (w2.heap.size+1+1+1) (w2.heap.size+1+1) w2.heap.size (w2.heap.size+1) q) a1 a2 c1 A.ext.length c2 (W.heap.size+1) (W.heap.size+1+1) W5.heap.size LA W5 A y (HA.out.below HS1.out.j.below) VA.out (fun q h=>⟨by have:=HS1.out.j.below.size;have:=h.2;omega,fun h4=>by have:=(HN4.out q h4).1;have:=h.2;omega⟩) (fun q h=>h.1) (Nat.le_refl _) hsb hxb2 ⟨hsb.lt,fun h4=>by have:=(HN4.out _ h4).2;omega⟩ ⟨hxb2.lt,fun h4=>by have:=(HN4.out _ h4).2;omega⟩ oq_ oq_ oq_ oq_)
       (fun h k=>h.trans k) (fun W1 l o o' hl ho hc=>KpO.putObj (fun q h=>h.1) W1 l o o' hl ho hc) (fun W1 W2 hn hg=>KpO.grown (fun q h=>h.1) W1 W2 hn hg) (fun y=>rfl)
       (fun pre W'=>FiX w w2 #[.slice a1 LA.length c1,.int .i64 A.len,.slice a2 A.ext.length c2] #[.slice a3 LB.length c3,.int .i64 B.len,.slice (some ⟨b9,f9,none⟩) B.ext.length c4] f (ExBY A B f m (fun x=>x∈pre)) W'∧KeepsOthers W5 W'∧Bxx W' W.heap.size #[.int .i64 y.day,.int .i64 y.frm,.int .i64 y.fin] 77)
       (fun _ _ _=>False)
       (fun pre A' C row hI hg hr=>by
        have hr':∀ r,row=some r->W5.heap.size≤r∧∃ o:Obj,A'.heap[r]? = some o∧o.isCells=false:=fun r e=>by
         rcases hr r e with ⟨h,_⟩|h
         ·cases h
         ·exact h
        exact ⟨hI.1.grow hg fun r e=>⟨by have:=(hr' r e).1;omega,(hr' r e).2⟩,KeepsOthers.grow hI.2.1 hg fun r e=>(hr' r e).1,hI.2.2.grown hg fun e=>by
         obtain ⟨h,_⟩:=hr' _ e.symm;omega⟩)
       (fun c' pre A' C row hI hg hr=>hI)
       (fun _ _ _ _ _ _ _ _ h=>h) (fun _ _ _ _ _ h=>h) ⟨HS1.out.mono fun x' y' c h=>h.congr fun x' y'=>pl_ sq_,KeepsOthers.refl _,HXB.out⟩
       (fun x a' W2=>∃ b,a'=(efFr (Value.agg #[Value.slice a1 LA.length c1,Value.int IntKind.i64 A.len,Value.slice a2 A.ext.length c2]) (.agg #[.slice a3 LB.length c3,.int .i64 B.len,.slice (some ⟨b9,f9,none⟩) B.ext.length c4]) f w w2 W0 undef u20 u21 u23 (.pointer (some ⟨W.heap.size,0,none⟩)) (.pointer (some ⟨b,0,none⟩)) undef [.pointer (some ⟨w.heap.size,2,none⟩),.slice a2 A.ext.length c2,.int .i64 A.ext.length,.int .i64 A.ext.length,.bool false,u133,u134,u135,u136,u137,u138,u139,u140,u141,u142,u143,u144,u145,u146,u147,u148,u149,u150,u151,u152,u153,u154,u155,.pointer (some ⟨w.heap.size+1,2,none⟩),.slice (some ⟨b9,f9,none⟩) B.ext.length c4,.int .i64 B.ext.length,.int .i64 m,.bool true,.pointer (some ⟨b9,f9+m*3,none⟩),ival y,.agg #[.slice a1 LA.length c1,.int .i64 A.len,.slice a2 A.ext.length c2],ival y,.func (.func 174) #[] #[.pointer (some ⟨W.heap.size+1,0,none⟩),.pointer (some ⟨W.heap.size+1+1,0,none⟩)],ival x,v167,v168,v169,v170,v171] 3 [])∧j0_ W5.heap.size b x W2)
       (fun y a' W2 l o o' _ hl ho h=>⟨h.choose,h.choose_spec.1,h.choose_spec.2.put hl ho⟩) ?assign3 ?body3 ?done3 ?stop3
      case assign3=>
       intro l pre y W' K hW' _ _ hK
       gi_wp2
       exact hK _ _ (World.grownBy_alloc _ _ _) ⟨W'.heap.size,rfl,hW',Bxx.at rfl⟩
      case body3=>
       rintro l pre x _ W' ⟨hF,hKO,hXB⟩ ⟨hy,-⟩ ⟨b,rfl,hnb,hbx⟩;dsimp only [efFr,List.cons_append,List.nil_append,List.replicate];have d0:=(hF.tk.cells 0).1;have d1:=(hXB.cells 0).1;have d2:=(hXB.cells 1).1;have d3:=(hXB.cells 2).1;have d4:=(hbx.cells 0).1;have d5:=(hbx.cells 1).1;have d6:=(hbx.cells 2).1;have HF:=hq_ hF;have HKO:=hq_ hKO;have HXB1:=hq_ hXB;clear hF hKO hXB hy hbx;gi_wp2_with (refine ⟨trivial,rfl,?_⟩;gi_at_call 121;refine (CallsIn.inRound l (callsIn_wide.2 (FiW.call HF.out HFN.out x y))).mono ?_;rintro e C ⟨rfl,hch,hfc⟩;have HCH:=hq_ hch;have HFC:=hq_ hfc;clear hch hfc)
       have HK3:=KeepsOthers.chg HCH.out HF.out.cells;exact ⟨HK3.from _,KpO.chg HCH.out (fun q hq=>⟨fun h=>h.2 hq,by have:=(HN4.out q hq).2;have:=HSW.out;omega⟩) (fun q hq=>Nat.lt_of_lt_of_le hq.1 HKO.out.size),HFC.out.exBY HY.out (by simp [or_comm]),HKO.out.trans HK3,HCH.out.box HXB1.out fun h=>by have:=(HN4.out _ h).2;omega⟩
      case done3=>
       rintro D xs W6 hD hfin ⟨hF,hKO,hXB⟩ hdef;have HF6:=hq_ (hF.mono fun x' y' c h=>h.congr fun x' y'=>(ri_ (by rw [HY.out];exact xAll hfin)).symm);have HM6:=hq_ (aj_.cons (D:=D) HM.out oq_ ((HKW.out.trans hKO).from _) oq_ hdef);clear hF hKO hXB hfin hdef hsb hxb2;gi_wp2_with fail
       exact ⟨⟨m+1,_,_,_,_,_,_,_,_,_,_,_,_,_,_,_,by push_cast;(repeat (first|exact rfl|refine ⟨?_,rfl⟩|refine ⟨rfl,?_⟩)),oq_,HF6,HM6⟩,by simp [intOf];omega⟩
      case stop3=>
       intro D' c' pre W' hD' h;exact h.elim
     ·obtain rfl:m=B.ext.length:=oq_;have hkI:¬ (B.ext.length:Int)<B.ext.length:=oq_;obtain ⟨x,y,c,cb,hI,hC,hB⟩:=HS.out.st;have hn:=HFN.out.x;have n0:=(hB.n.cells 0).1;have u0:=(hB.x.cells 0).1;have u1:=(hB.x.cells 1).1;have u2:=(hB.x.cells 2).1;have v0:=(hB.y.cells 0).1;have v1:=(hB.y.cells 1).1;have v2:=(hB.y.cells 2).1;have a0:=(HS.out.j.r6.cells 0).1;have a1':=(HS.out.j.r6.cells 1).1;have a2':=(HS.out.j.r6.cells 2).1;have a3':=(HS.out.j.r6.cells 0).2;have a4':=(HS.out.j.r6.cells 1).2;have a5':=(HS.out.j.r6.cells 2).2;have c0':=(HS.out.j.r7.cells 0).1;have c1':=(HS.out.j.r7.cells 1).1;have c2':=(HS.out.j.r7.cells 2).1;have c3':=(HS.out.j.r7.cells 0).2;have c4':=(HS.out.j.r7.cells 1).2;have c5':=(HS.out.j.r7.cells 2).2;have m0:¬ w.heap.size+1+1+1=w2.heap.size:=oq_;have m1:¬ w.heap.size+1+1+1=w2.heap.size+1:=oq_;have m2:¬ w.heap.size+1+1+1=w2.heap.size+1+1+1:=oq_;have m3:¬ w.heap.size+1+1+1+1=w2.heap.size:=oq_;have m4:¬ w.heap.size+1+1+1+1=w2.heap.size+1:=oq_;have m5:¬ w.heap.size+1+1+1+1=w2.heap.size+1+1+1:=oq_;have m6:¬ w2.heap.size=w.heap.size+1+1+1:=oq_;have m7:¬ w2.heap.size+1=w.heap.size+1+1+1:=oq_;have m8:¬ w2.heap.size+1+1+1=w.heap.size+1+1+1:=oq_;have m9:¬ w2.heap.size=w.heap.size+1+1+1+1:=oq_;have m10:¬ w2.heap.size+1=w.heap.size+1+1+1+1:=oq_;have m11:¬ w2.heap.size+1+1+1=w.heap.size+1+1+1+1:=oq_;have HEND:=hq_ (HS.out.j.endR x y);have HII:=hq_ (hI.congr fun x' y'=>(wj_ (.inr trivial) x' y').symm);clear hI hC hB
      gi_upto_region 33 with (fail)
      gi_region
      all_goals
       gi_wp2_with fail
       have hend:=HEND.out;simp only [Proofs.YtkclokcenllhmaaGreat.endR] at hend;generalize (((((W.setCell _ _).setCell _ _).setCell _ _).setCell _ _).setCell _ _).setCell _ _=WE at hend ⊢;obtain ⟨h1,h2,h3,h4⟩:=hend;refine ah_ (B:=w.heap.size) _ _ (HM.out.keep (KeepsOthers.from (Proofs.YtkclokcenllhmaaGreat.KeepsOthers.drewK h4) _)) fun w' hs=>?_;have k6:Bxx w' (w.heap.size+1+1+1) _ _:=hs.cells _ _ h2.drewB rfl;have k7:Bxx w' (w.heap.size+1+1+1+1) _ _:=hs.cells _ _ h3.drewB rfl;have z0:=(k6.cells 0).1;have z1:=(k6.cells 1).1;have z2:=(k6.cells 2).1;have z3:=(k7.cells 0).1;have z4:=(k7.cells 1).1;have z5:=(k7.cells 2).1;exact ⟨.tuple #[ival x,ival y,.bool c],by simp [results,Tryz.results71,go_sem,z0,z1,z2,z3,z4,z5],x,y,c,rfl,HII.out,(Ed h1).trans hs.below⟩
 case stop=>
  intro D' c' pre W' hD' h;exact h.elim
end Go.Proofs.YtkclokcenllhmaaGreat
namespace Go.Proofs.YtkclokcenllhmaaGreat
open Go.RowKit Go.Maps Kal
theorem Ints.elem {a:Option Addr} (h:Ints W (.slice a n c) l) (hk:k<l.length):∃ b o,a=some ⟨b,o,none⟩∧n=l.length∧W.cell? ⟨b,o+k,none⟩=some (.int .i64 (l.getD k 0))∧l.getD k 0∈l∧b<W.heap.size:=by
 obtain ⟨⟨a',c',he,_,_,h3⟩,_,_⟩:=h;injection he with e1 e2 e3
 rcases h3 with h3|⟨b,o,e4,hc⟩
 ·rw [h3] at hk;simp at hk
 ·refine ⟨b,o,e1.trans e4,e2,hc k hk,?_,World.block_lt_of_cell? W _ (hc k hk)⟩;rw [List.getD_eq_getElem?_getD,List.getElem?_eq_getElem hk];exact List.getElem_mem hk
theorem lb_ {l:List Inst}:∀ u∈l.flatMap ienc,u.oneCell'=true:=fun u hu=>by
 obtain ⟨x,_,hx⟩:=List.mem_flatMap.1 hu;unfold ienc at hx;simp at hx;rcases hx with rfl|rfl|rfl <;> rfl
theorem pd_ (F:Nat->Prop) (v:Value) (l:List Inst) (w:World) (h:ExtL w F v l) (hl:l.length≤1000000) :
  Calls Tryz.prog 113 #[v] w fun e w'=>∃ a c,e=.returned (.slice a l.length c)∧ExtL w' (fun b=>w.heap.size≤b∧b<w'.heap.size) (.slice a l.length c) l∧Below w.heap.size w w':=by
 obtain ⟨a1,c1,rfl⟩:=h.form;obtain ⟨i,hi,h1,h2,h3⟩:=fk_;have HI:=hq_ (And.intro hi (And.intro h1 (And.intro h2 h3)));have HX:=hq_ (fun W (hb:Below w.heap.size w W)=>(h.ext hb).row);have HA:=hq_ h.all;have hllen:=h.len;obtain ⟨a',c',he,g1,g2,g3⟩:=h.row;injection he with e1 _ e2
 subst e1;subst e2;clear h hi h1 h2 h3;cases a1 with
 | none=>
  have hl0:l=[]:=by
   rcases g3 with g3|⟨b,o,e,_⟩
   ·exact List.eq_nil_of_length_eq_zero g3
   ·cases e
  subst hl0;have hnil:(binOp .eql 53 (.slice none 0 c1) (.slice none 0 0)).run Tryz.prog w=.ok (.bool true) w:=Lib.run_eql_slice_nil w 53 77 none 0 c1 0 0 rfl;simp only [List.length_nil]
  go_enter Tryz.func113,Tryz.ntmps113
  go_wp2;go_ret;exact ⟨none,0,rfl,⟨⟨none,0,rfl,sq_,oq_,.inl rfl⟩,sq_,sq_⟩,Below.refl _ _⟩
 | some a0=>
  have hnil:(binOp .eql 53 (.slice (some a0) l.length c1) (.slice none 0 0)).run Tryz.prog w=.ok (.bool false) w:=Lib.run_eql_slice_nil w 53 77 (some a0) l.length c1 0 0 rfl;clear g3
  go_enter Tryz.func113,Tryz.ntmps113
  go_wp2_with (at_builtin;(refine b3_ rq_ _ _ _ _ rq_ i _ 3 24 Tryz.underlying53 HI.out.1 HI.out.2.1 HI.out.2.2.1 HI.out.2.2.2 rfl dq_ dq_ w.heap.size (.slice (some ⟨w.heap.size,0,none⟩) 0 0) (.slice (some a0) l.length c1) 0 l.length [] (l.flatMap ienc) F rq_ ⟨rfl,.inr ⟨w.heap.size,0,#[],rfl,Nat.le_refl _,World.alloc_heap_new w _,Nat.le_refl _,by simp [maxLen],rfl,rfl⟩⟩ rq_ (HX.out _ (Ea (Er w) _)) (bg_ c8_ l) lb_ oq_ sq_ ?_);intro v5 w5 hown5 hgrow5 hloc5;rw [Nat.zero_add,List.nil_append] at hown5;obtain ⟨na5,nc5,rfl⟩:=a5_ hown5)
  go_ret;have hb5:Below w.heap.size w w5:=(Ea (Er w) _).trans (Below.grown (Below.refl _ _) hgrow5 sq_ (fun k e=>by simp [Value.ownBlock] at e;omega));refine ⟨na5,nc5,rfl,⟨?_,hllen,fun x hx=>HA.out x hx⟩,hb5⟩;have hR:OwnX w.heap.size (fun _=>False) w5 (.slice na5 l.length nc5) l:=⟨hown5,fun x hx=>HA.out x hx,fun _ _ h=>h,hl⟩;obtain ⟨a9,c9,e9,k1,k2,k3⟩:=hR.rowR;refine ⟨a9,c9,e9,k1,k2,k3.imp id ?_⟩;rintro ⟨b,o,e,hF,hl',hc⟩;exact ⟨b,o,e,⟨hF.1,hl'⟩,hl',hc⟩
theorem OwnG.low {α:Type} {sz:Nat} {enc:α->List Value} {R:World->(Nat->Prop)->α->Prop} {A:Nat->Prop} {L:List α} (hR:bd_ R) (h:OwnG e sz enc R B A W v L) (hg:W.grownBy W' (some k)) (hk:k<B):OwnG e sz enc R B A W' v L:=
 ⟨h.row.kept hg (.inr fun e=>by have:=(h.row.lt k e).1;omega),fun x hx=>hR.keep (h.all x hx) (a3_.grown hg fun hf=>by have:=hf.1;omega) hg.size,h.ne,h.len⟩
theorem al_ {b:Nat} {c:Array Value} {t:TypeId} (h:Bxx W b c t):∀ j u,c.toList[j]? = some u->W.cell? ⟨b,j,none⟩=some u:=fun j u hu=>by
 rw [(h.cells j).1,<- hu];simp
def od_ (s:Str) (w:World) (e:Ending) (w':World):Prop:=∃ a1 c1 a2 c2,e=.returned (.agg #[.slice a1 s.cls.length c1,.int .i64 s.len,.slice a2 s.ext.length c2])∧StrR w' (fun b=>w.heap.size≤b∧b<w'.heap.size) (.slice a1 s.cls.length c1) (.slice a2 s.ext.length c2) s∧Below w.heap.size w w'
end Go.Proofs.YtkclokcenllhmaaGreat
end
namespace Go.Proofs.YtkclokcenllhmaaGreat
open Go.RowKit Go.Maps Kal
theorem RowR.cellB {W:World} {F:Nat->Prop} {v:Value} {n:Nat} {cs:List Value} (h:RowR W F v n cs) (hn:n=0∨0<cs.length):RowR W (dx_ W) v n cs:=by
 obtain ⟨a,c,rfl,h1,h2,h3⟩:=h;refine ⟨a,c,rfl,h1,h2,?_⟩;rcases hn with hn|hn
 ·exact .inl hn
 ·rcases h3 with h3|⟨b,o,rfl,hb,hl,hc⟩
  ·exact .inl h3
  ·exact .inr ⟨b,o,rfl,fw_ (hc 0 _ (List.getElem?_eq_getElem hn)),hl,hc⟩
theorem ClsL.cellB {W:World} {F:Nat->Prop} {v:Value} {L:List ClsV} (h:ClsL W F v L):ClsL W (dx_ W) v L:=
 ⟨h.row.cellB (by rw [bg_ ClsV.enc_len];omega),h.len,fun x hx=>⟨by obtain ⟨M,e,g⟩:=(h.all x hx).1;exact ⟨M,e,g.cellB⟩,(h.all x hx).2⟩⟩
theorem ExtL.cellB {W:World} {F:Nat->Prop} {v:Value} {l:List Inst} (h:ExtL W F v l):ExtL W (dx_ W) v l:=
 ⟨h.row.cellB (by rw [bg_ c8_];omega),h.len,h.all⟩
theorem StrR.cellB {W:World} {F:Nat->Prop} {cv ev:Value} {s:Str} (h:StrR W F cv ev s):StrR W (dx_ W) cv ev s:=by
 obtain ⟨L,h⟩:=h;exact ⟨L,h.eq,h.cl.cellB,h.ex.cellB,h.len⟩
theorem StrR.put {W:World} {F:Nat->Prop} {cv ev:Value} {s:Str} {l:Nat} {o o':Obj} (h:StrR W F cv ev s) (hl:W.heap[l]? = some o) (ho:o.isCells=false):StrR (W.putObj l o') (fun _=>True) cv ev s:=by
 refine StrR.mono (h.cellB.keep2 fun b hb _=>World.putObj_heap_other ?_) fun _ _=>trivial;obtain ⟨x,hx,hc⟩:=hb;rintro rfl;rw [hl] at hx;cases hx;rw [ho] at hc;cases hc
theorem StrR.grown {W W':World} {F:Nat->Prop} {cv ev:Value} {s:Str} (h:StrR W F cv ev s) (hg:W.grownBy W' none):StrR W' F cv ev s:=h.keep2 fun b _ hl=>hg.block b hl sq_
structure EntV where
 id:Int
 firm:Bool
 rank:Int
 cv:Value
 ev:Value
 s:Str
instance:Inhabited EntV:=⟨⟨0,false,0,.slice none 0 0,.slice none 0 0,default⟩⟩
def EntV.enc (x:EntV):List Value:=[.int .i64 x.id,.bool x.firm,.int .i64 x.rank,x.cv,.int .i64 x.s.len,x.ev]
abbrev EntV.val (x:EntV):Value:=.agg #[.int .i64 x.id,.bool x.firm,.int .i64 x.rank,x.cv,.int .i64 x.s.len,x.ev]
def EntV.ent (x:EntV):Ent:=⟨x.id,x.firm,x.rank,x.s⟩
theorem EntV.enc_len (x:EntV):x.enc.length=6:=rfl
def REnt (W:World) (F:Nat->Prop) (x:EntV):Prop:=StrR W F x.cv x.ev x.s∧InI x.id∧InI x.rank
theorem ad_:bd_ REnt:=⟨fun h hk hs=>⟨h.1.keep hk hs,h.2⟩,fun h=>⟨h.1.lt,h.2⟩,fun h hF=>⟨h.1.mono hF,h.2⟩⟩
theorem REnt.keep2 {W W':World} {F:Nat->Prop} {x:EntV} (h:REnt W F x) (hk:a3_ F W W'):REnt W' F x:=⟨h.1.keep2 hk,h.2⟩
theorem REnt.ext {W W':World} {F:Nat->Prop} {x:EntV} (h:REnt W F x) (hb:Below W.heap.size W W'):REnt W' F x:=⟨h.1.ext hb,h.2⟩
theorem REnt.one {W:World} {F:Nat->Prop} {x:EntV} (h:REnt W F x):∀ u∈x.enc,u.oneCell'=true:=fun u hu=>by
 obtain ⟨a,c,a',c',e1,e2⟩:=h.1.form;unfold EntV.enc at hu;rw [e1,e2] at hu;simp at hu;rcases hu with rfl|rfl|rfl|rfl|rfl|rfl <;> rfl
theorem k5_:∃ i,Tryz.prog.info? 57=some i∧i.zero=some (.agg #[.int .i64 0,.bool false,.int .i64 0,.slice none 0 0,.int .i64 0,.slice none 0 0])∧i.size=6∧i.bytes=80:=by
 have h:(Tryz.prog.info? 57).map (fun i=>(i.zero,i.size,i.bytes))=some (some (.agg #[.int .i64 0,.bool false,.int .i64 0,.slice none 0 0,.int .i64 0,.slice none 0 0]),6,80):=by kernel_rfl
 obtain ⟨i,hi,h1,h2,h3⟩:=info_parts h;exact ⟨i,hi,h1,h2,h3⟩
abbrev OwnE:=OwnG 57 6 EntV.enc REnt
structure DiaL (W:World) (F:Nat->Prop) (v:Value) (L:List EntV):Prop where
 row:RowR W F v L.length (L.flatMap EntV.enc)
 len:L.length≤17592186044416
 all:∀ x∈L,REnt W F x
section
variable {W W':World} {F G:Nat->Prop} {v:Value} {L:List EntV} {d:List Ent}
theorem DiaL.keep (h:DiaL W F v L) (hk:a3_ F W W') (hs:W.heap.size≤W'.heap.size):DiaL W' F v L:=⟨h.row.keep hk hs,h.len,fun x hx=>ad_.keep (h.all x hx) hk hs⟩
theorem DiaL.keep2 (h:DiaL W F v L) (hk:a3_ F W W'):DiaL W' F v L:=⟨h.row.keep2 hk,h.len,fun x hx=>(h.all x hx).keep2 hk⟩
theorem DiaL.mono (h:DiaL W F v L) (hF:∀ b,F b->G b):DiaL W G v L:=⟨h.row.mono hF,h.len,fun x hx=>ad_.mono (h.all x hx) hF⟩
theorem DiaL.lt (h:DiaL W F v L):DiaL W (fun b=>F b∧b<W.heap.size) v L:=⟨h.row.lt,h.len,fun x hx=>ad_.lt (h.all x hx)⟩
theorem DiaL.ext (h:DiaL W F v L) (hb:Below W.heap.size W W'):DiaL W' F v L:=h.keep (a3_.below hb) hb.size
theorem DiaL.form (h:DiaL W F v L):∃ a c,v=.slice a L.length c:=by obtain ⟨a,c,rfl,_⟩:=h.row.is;exact ⟨a,c,rfl⟩
theorem OwnG.diaL {B:Nat} {A:Nat->Prop} (h:OwnE B A W v L):DiaL W (fun b=>B≤b∧¬ A b) v L:=
 ⟨h.rowR,by have:=h.len;omega,fun x hx=>ad_.mono (h.all x hx) fun b hb=>⟨hb.1,hb.2.1⟩⟩
theorem DiaL.get {a:Option Addr} {n c:Nat} (h:DiaL W F (.slice a n c) L) {k:Nat} (hk:k<L.length) :
  ∃ b o x a1 c1 a2 c2,a=some ⟨b,o,none⟩∧b<W.heap.size∧L.getD k default=x∧x∈L∧REnt W F x∧x.cv=.slice a1 x.s.cls.length c1∧x.ev=.slice a2 x.s.ext.length c2∧
   W.cell? ⟨b,o+k*6,none⟩=some (.int .i64 x.id)∧W.cell? ⟨b,o+k*6+1,none⟩=some (.bool x.firm)∧W.cell? ⟨b,o+k*6+2,none⟩=some (.int .i64 x.rank)∧
   W.cell? ⟨b,o+k*6+3,none⟩=some (.slice a1 x.s.cls.length c1)∧W.cell? ⟨b,o+k*6+4,none⟩=some (.int .i64 x.s.len)∧W.cell? ⟨b,o+k*6+5,none⟩=some (.slice a2 x.s.ext.length c2):=by
 obtain ⟨a',c',he,h1,h2,h3⟩:=h.row.is;injection he with e1 _ e2
 subst e1;subst e2;rcases h3 with h3|⟨b,o,rfl,hF,hl,hc⟩
 ·omega
 ·have hm:L.getD k default∈L:=ac_ hk;have hx:=h.all _ hm;obtain ⟨a1,c1,a2,c2,f1,f2⟩:=hx.1.form;refine ⟨b,o,L.getD k default,a1,c1,a2,c2,rfl,hl,rfl,hm,hx,f1,f2,hc (k*6+0) _ (a7_ EntV.enc_len default hk rfl),hc (k*6+1) _ (a7_ EntV.enc_len default hk rfl),hc (k*6+2) _ (a7_ EntV.enc_len default hk rfl),?_,hc (k*6+4) _ (a7_ EntV.enc_len default hk rfl),?_⟩
  ·rw [<- f1];exact hc (k*6+3) _ (a7_ EntV.enc_len default hk rfl)
  ·rw [<- f2];exact hc (k*6+5) _ (a7_ EntV.enc_len default hk rfl)
end
structure SmS (s:Str):Prop where
 ms:MStr s
 nc:s.cls.length≤3
 nx:s.ext.length≤4
structure e9_ (val:List (List Per)->Bool) (e:Ent):Prop where
 id:1≤e.id∧e.id≤1099511627776
 rank:0≤e.rank∧e.rank≤100
 s:bi_ val e.s
structure SmD (d:List Ent):Prop where
 asc:AscD d
 good:∀ e∈d,e9_ ak_ e∧SmS e.s
 len:d.length≤1000
end Go.Proofs.YtkclokcenllhmaaGreat
namespace Go.Proofs.YtkclokcenllhmaaGreat
open Go.RowKit Go.Maps Kal Go.Sort Go.Shelf
section
variable {α:Type} {enc:α->List Value} {sz:Nat} {W w:World} {g n cap B:Nat} {e:TypeId} {D:List α} {F:Nat->Prop}
theorem lv_ [Inhabited α] {D:List α} {i:Nat} (hi:i<D.length):D.toArray[i]! = D.getD i default:=by
 simp [List.getD_eq_getElem?_getD,List.getElem!_eq_getElem?_getD]
theorem qa_ [Inhabited α] (hk:∀ x,(enc x).length=sz) (h0:0<sz) (h:W.ownsRow B e sz (.slice (some ⟨g,0,none⟩) n cap) D.length (D.flatMap enc)):HoldsK enc sz W g 0 D.toArray:=fun j hj=>by
 rw [size_flatK] at hj;have hj':j<D.length*sz:=by simpa using hj
 have hd:j / sz<D.length:=Nat.div_lt_of_lt_mul (by rw [Nat.mul_comm];exact hj');have hm:j % sz<sz:=Nat.mod_lt _ h0;rw [get_flatK _ _ _ _ hj,lv_ hd,Nat.zero_add];obtain ⟨hl,⟨he,_⟩|⟨g',cap',cur,he,hb,hh,h3,h4,h5,h6⟩⟩:=h
 ·cases he
 ·cases he;refine ⟨?_,by simp [id,World.frozen?,hh]⟩;have hx:∃ u',(enc (D.getD (j / sz) default))[j % sz]? = some u':=⟨_,List.getElem?_eq_getElem (by rw [hk];exact hm)⟩;obtain ⟨u',hu'⟩:=hx;have h7:=a7_ (f:=enc) hk default hd hu';rw [Nat.mul_comm,Nat.div_add_mod] at h7;have h8:W.ownsRow B e sz (.slice (some ⟨g,0,none⟩) D.length cap) D.length (D.flatMap enc):=⟨hl,.inr ⟨g,cap,cur,rfl,hb,hh,h3,h4,h5,h6⟩⟩;rw [h8.cellAt j (by rw [bg_ hk] at *;exact hj'),h7,List.getElem!_eq_getElem?_getD,hu'];rfl
theorem pt_ [Inhabited α] (hk:∀ x,(enc x).length=sz) (h0:0<sz) (h:HoldsK enc sz W g 0 D.toArray) (hF:F g) (hg:g<W.heap.size) (h1:D.length≤cap) (h2:cap≤9223372036854775807):RowR W F (.slice (some ⟨g,0,none⟩) D.length cap) D.length (D.flatMap enc):=
 ⟨_,cap,rfl,h1,h2,.inr ⟨g,0,rfl,hF,hg,fun i u hi=>by
  have hi':=(List.getElem?_eq_some_iff.1 hi).1;rw [bg_ hk] at hi';have hd:i / sz<D.length:=Nat.div_lt_of_lt_mul (by rw [Nat.mul_comm];exact hi');have hm:i % sz<sz:=Nat.mod_lt _ h0;obtain ⟨h3,_⟩:=h i (by rw [size_flatK];simpa using hi');rw [get_flatK _ _ _ _ (by simpa using hi'),lv_ hd] at h3;obtain ⟨u',hu'⟩:∃ u',(enc (D.getD (i / sz) default))[i % sz]? = some u':=⟨_,List.getElem?_eq_getElem (by rw [hk];exact hm)⟩;have h7:=a7_ (f:=enc) hk default hd hu';rw [Nat.mul_comm,Nat.div_add_mod,hi] at h7;cases h7;rw [h3,List.getElem!_eq_getElem?_getD,hu'];rfl⟩⟩
theorem es_ [Inhabited α] (w:World) (g n:Nat) (d:Array α) (os:Array Obj):w.grownBy (sortWorldK enc sz w g 0 n d os) (some g):=by
 unfold sortWorldK putRowK;refine ⟨rfl,rfl,rfl,by simp only [Go.Sort.grow,putRow,mapBlock,ahead,Array.size_append,Array.size_modify];exact Nat.le_add_right _ _,fun k hk hne=>?_⟩;have hkg:k≠g:=fun e=>hne (by rw [e]);simp only [Go.Sort.grow,putRow,mapBlock,ahead];rw [Array.getElem?_append_left (by simpa using hk),Array.getElem?_modify,if_neg (fun e=>hkg e.symm)];rfl
theorem permIn_all [Inhabited α] {d d':Array α} (h:PermIn 0 d.size d d'):d'.toList.Perm d.toList∧d'.size=d.size:=by
 obtain ⟨h1,_,h2⟩:=h;refine ⟨?_,h1⟩;have e1:d'.extract 0 d.size=d':=by rw [<- h1];simp
 have e2:d.extract 0 d.size=d:=by simp
 rw [e1,e2] at h2;exact h2
theorem mz_ [Inhabited α] {lt:α->α->Bool} {d:Array α} (h:SortedIn lt 0 d.size d):d.toList.Pairwise fun x y=>lt y x=false:=by
 rw [List.pairwise_iff_getElem];intro i j hi hj hij;have:=h i j (Nat.zero_le _) hij (by simpa using hj);rwa [getElem!_pos d j (by simpa using hj),getElem!_pos d i (by simpa using hi)] at this
theorem OwnG.pushL {R:World->(Nat->Prop)->α->Prop} {A:Nat->Prop} {W':World} {v v':Value} {L ys:List α} (hR:bd_ R) (h:OwnG e sz enc R B A W v L) (hy:∀ y∈ys,R W (RowF B A v) y) (hr:W'.ownsRow B e sz v' (L.length+ys.length) (L.flatMap enc ++ ys.flatMap enc)) (hg:W.grownBy W' v.ownBlock)
  (hb:v'.ownBlock=v.ownBlock∨v'.ownBlock=some W.heap.size) (hA:¬ A W.heap.size) (hl:L.length+ys.length≤1000000):OwnG e sz enc R B A W' v' (L ++ ys):=by
 have key:∀ {z:α},R W (RowF B A v) z->R W' (RowF B A v') z:=fun ht=>by
  refine hR.mono (hR.keep (hR.lt ht) (fun b hb hl=>hg.block b hl fun e=>hb.1.2.2 e.symm) hg.size) fun b hb'=>⟨hb'.1.1,hb'.1.2.1,?_⟩;rcases hb with e|e
  ·rw [e];exact hb'.1.2.2
  ·rw [e];rintro ⟨⟩;have:=hb'.2;omega
 refine ⟨by rw [List.length_append,List.flatMap_append];exact hr,fun x hx=>?_,fun g hg'=>?_,by rw [List.length_append];exact hl⟩
 ·rcases List.mem_append.1 hx with hx|hx
  ·exact key (h.all x hx)
  ·exact key (hy x hx)
 ·rcases hb with e|e
  ·exact h.ne g (e ▸ hg')
  ·rw [e] at hg';cases hg';exact hA
theorem hs_ {b n cap:Nat} {c:Array Value} {t:TypeId} (h:Bxx W b c t) (h1:n≤cap) (h2:cap≤9223372036854775807) (hF:F b):RowR W F (.slice (some ⟨b,0,none⟩) n cap) n c.toList:=
 ⟨_,cap,rfl,h1,h2,.inr ⟨b,0,rfl,hF,h.lt,fun i u hi=>by
  rw [Nat.zero_add,(h.cells i).1,<- hi];simp⟩⟩
theorem kx_ [Inhabited α] {ρ:Ren} (L:SlLaysF0.n6 Tryz.prog ρ) (aE:∀ w,(isAgg (ρ.t 24)).run Tryz.prog w=.ok true w) (zE:∀ w,(Go.sizeOf (ρ.t 24)).run Tryz.prog w=.ok sz w) (hk:∀ x,(enc x).length=sz) (h0:0<sz) (h1:∀ x,∀ u∈enc x,u.oneCell'=true)
  (cf:α->α->Int) (hO:SWO (ltOf cf)) (fn:Nat) (cb:Array Value) (eg:∀ args w,(callFunc fn args).run Tryz.prog w=.ok (.enter fn args) w) (v:Value) (h:w.ownsRow B e sz v D.length (D.flatMap enc)) (hn:D.length≤1000000)
  (hcmp:∀ (U:World) (x y:α),w.grownBy U v.ownBlock->Calls Tryz.prog fn (#[.agg (enc x).toArray,.agg (enc y).toArray] ++ cb) U fun e w'=>e=.returned (.int .i64 (cf x y))∧GrN U w') :
  Calls Tryz.prog (ρ.f 6) #[v,.func (.func fn) #[] cb] w fun e w'=>e=.returned (.tuple #[])∧∃ D':List α,D'.Perm D∧(D'.Pairwise fun x y=>ltOf cf y x=false)∧RowR w' (fun b=>B≤b∧v.ownBlock=some b) v D.length (D'.flatMap enc)∧w.grownBy w' v.ownBlock:=by
 have hrow:=h;obtain ⟨hl,⟨rfl,hz⟩|⟨g,cap,cur,rfl,hb,hh,h3,h4,h5,h6⟩⟩:=h
 ·obtain rfl:D=[]:=List.eq_nil_of_length_eq_zero hz;refine (AnyF.slices_SortFunc_none L none 0 _ w).mono fun e w' ⟨he,hw⟩=>⟨he,[],.nil,.nil,⟨none,0,rfl,sq_,oq_,.inl rfl⟩,hw ▸ World.grownBy.refl w _⟩
 ·have hg:g<w.heap.size:=(Array.getElem?_eq_some_iff.1 hh).1;have hH:=qa_ hk h0 hrow;have hcon:=AnyQ.slices_SortFunc L sz aE zE enc hk h1 cf hO fn cb g 0 cap D.toArray w eg (fun m os dk _ x y=>(hcmp _ x y (es_ w g m dk os)).mono fun e w' h=>h) hH hg tq_;rw [List.size_toArray] at hcon;refine hcon.mono fun e w' ⟨he,d',n,os,hp,hs,hw⟩=>⟨he,d'.toList,?_,?_,?_,hw ▸ es_ w g n d' os⟩
  ·exact (permIn_all (d:=D.toArray) (by rw [List.size_toArray];exact hp)).1
  ·have hsz:d'.size=D.length:=by have:=(permIn_all (d:=D.toArray) (by rw [List.size_toArray];exact hp)).2;simpa using this
   exact mz_ (by rw [hsz];exact hs)
  ·have hsz:d'.size=D.length:=by have:=(permIn_all (d:=D.toArray) (by rw [List.size_toArray];exact hp)).2;simpa using this
   have hH2:HoldsK enc sz w' g 0 d'.toList.toArray:=by
    rw [hw];exact holdsK_sortWorldK enc sz w g 0 n D.toArray _ os hg hH (by simp [hsz])
   have hlen:d'.toList.length=D.length:=by simpa using hsz
   have:=pt_ (F:=fun b=>B≤b∧(Value.slice (some ⟨g,0,none⟩) D.length cap).ownBlock=some b) hk h0 hH2 (cap:=cap) ⟨hb,rfl⟩ (by rw [hw];exact lt_sortWorldK enc sz w g 0 n _ os hg) oq_ h4;rw [hlen] at this;exact this
end
end Go.Proofs.YtkclokcenllhmaaGreat
section
variable {av bv sv:Array Go.Value}{ok:Bool}{a b f:Int}{m:List (List Kal.Per)}{l:List Int}{B ab c k n nb xb yb:Nat}{o':Go.Obj}{row:Option Nat}{e:Go.TypeId}{lv v v':Go.Value}{A C W W' w:Go.World}
namespace Go.Proofs.YtkclokcenllhmaaGreat
open Go.RowKit Go.Maps Kal
theorem o4_ (h:ak_ m=true):m.length≤64∧∀ t∈m,t.length≤4∧∀ p∈t,Valid p:=by
 unfold ak_ at h;rw [Bool.and_eq_true,decide_eq_true_iff,List.all_eq_true] at h;refine ⟨h.1,fun t ht=>?_⟩;have h2:=h.2 t ht;unfold az_ at h2;rw [Bool.and_eq_true,Bool.and_eq_true,decide_eq_true_iff,decide_eq_true_iff,List.all_eq_true] at h2;exact ⟨h2.1.2,fun p hp=>(be_ p).1 (h2.2 p hp)⟩
theorem x4_ {b:Nat} {t:TypeId} {a0 a1 a2 a3 a4 a5 b0 b1 b2 b3 b4 b5:Value} (h:Bxx W b #[a0,a1,a2,a3,a4,a5] t) :
  Bxx ((((((W.setCell ⟨b,0,none⟩ b0).setCell ⟨b,1,none⟩ b1).setCell ⟨b,2,none⟩ b2).setCell ⟨b,3,none⟩ b3).setCell ⟨b,4,none⟩ b4).setCell ⟨b,5,none⟩ b5) b #[b0,b1,b2,b3,b4,b5] t:=by
 have h1:=a0_ 5 b5 (a0_ 4 b4 (a0_ 3 b3 (a0_ 2 b2 (a0_ 1 b1 (a0_ 0 b0 h)))));simpa [Bxx] using h1
def xo_ (x:EntV) (w:World) (e:Ending) (w':World):Prop:=∃ y:EntV,e=.returned y.val∧y.ent=x.ent∧REnt w' (fun b=>w.heap.size≤b∧b<w'.heap.size) y∧Below w.heap.size w w'
theorem f4_ (F:Nat->Prop) (x:EntV) (w:World) (h:REnt w F x) (hv:bi_ ak_ x.s) :
  Calls Tryz.prog 67 #[x.val] w (xo_ x w):=by
 obtain ⟨⟨L,hS⟩,hid,hrk⟩:=h;obtain ⟨id,fm,rank,cv,ev,s⟩:=x;dsimp only at hS hid hrk hv;obtain ⟨a1,c1,rfl⟩:=hS.cl.form;obtain ⟨a2,c2,rfl⟩:=hS.ex.form;have hLl:=hS.cl.len;have hEl:=hv.next;have hlc:s.cls.length=L.length:=by rw [<- hS.eq,List.length_map]
 have hnc:=hv.ncls;have HS:=hq_ hS;have HV:=hq_ hv;have HLC:=hq_ hlc;have HIR:=hq_ (And.intro hid hrk);have HCL:=hq_ (fun W (hb:Below w.heap.size w W)=>pd_ F _ s.ext W (hS.ex.ext hb) oq_);clear hS hv hlc hid hrk;show Calls _ _ #[.agg #[.int .i64 id,.bool fm,.int .i64 rank,.slice a1 L.length c1,.int .i64 s.len,.slice a2 s.ext.length c2]] _ _
 go_enter Tryz.func67,Tryz.ntmps67
 go_wp2_with fail
 refine bh_ (F:=fun U=>Bxx U w.heap.size #[.int .i64 id,.bool fm,.int .i64 rank,.slice a1 L.length c1,.int .i64 s.len,.slice a2 s.ext.length c2] 57∧Bxx U (w.heap.size+1) #[.int .i64 0,.bool false,.int .i64 0,.slice none 0 0,.int .i64 0,.slice none 0 0] 57∧Below w.heap.size w U) ⟨xB,xB,xE⟩ ?_;rintro W1 ⟨hx0,hx1,hbu⟩;have K0:=hq_ hx0;have K1:=hq_ hx1;have KB:=hq_ hbu;have hw1:=hx1.lt;clear hx0 hx1 hbu;go_loopw [3,5,6,8,9,11,16] (fun lv _ _ _ _ _ vi wr=>∃ (k:Nat) (M:List ClsV),k≤L.length∧vi=.int .i64 k∧M.length=k∧Hid (M.map ClsV.cls=s.cls.take k)∧Hid (OwnC W1.heap.size (fun _=>False) wr lv M)∧Hid (Below W1.heap.size W1 wr)) (fun _ _ _ _ _ _ vi _=>L.length-(intOf vi).toNat)
 case atStart=>exact ⟨0,[],oq_,rfl,rfl,hq_ sq_,hq_ OwnG.nil,hq_ (Below.refl _ _)⟩
 case round=>
   obtain ⟨k,M,hk,rfl,hMk,HM,HV2,HB⟩:=hrel;obtain ⟨wk,hwk⟩:∃ x,x=wr:=⟨_,rfl⟩;subst hwk;obtain ⟨va,vc,rfl,-⟩:=HV2.out.form;have HMK:=hq_ hMk;clear hMk;have hgz:=HB.out.size;have HBK:Hid (Below w.heap.size w wk):=hq_ (Et KB.out HB.out);have hkz:=HBK.out.size;by_cases hlt:k<L.length
   ·have hlI:(k:Int)<L.length:=oq_;obtain ⟨b,o,av,cv,m,mi,rfl,hbl,e0,e1,hm,hmi,hD⟩:=HS.out.cl.get hlt;have e0:=Ext.cell HBK.out e0;have e1:=Ext.cell HBK.out e1;have hkc:k<s.cls.length:=by rw [HLC.out];exact hlt
    have hcl:s.cls.getD k default=⟨m,mi⟩:=by rw [<- HS.out.eq];exact hD
    have hmem:(⟨m,mi⟩:Cls)∈s.cls:=by rw [<- hcl,a6_ hkc];exact List.getElem_mem hkc
    have HTC:Hid (s.cls.take (k+1)=s.cls.take k ++ [⟨m,mi⟩]):=hq_ (by rw [List.take_succ_eq_append_getElem hkc,<- a6_ (d:=default) hkc,hcl]);obtain ⟨hvm,hb1,hb2⟩:=HV.out.cl hmem;obtain ⟨hml,hvt⟩:=o4_ hvm;have hml:m.length≤64:=hml;obtain ⟨L2,hL2,hMM⟩:=hm;have hl2:m.length=L2.length:=by rw [<- hL2,List.length_map]
    have HMM:=hq_ hMM;have HL2:=hq_ hL2;have HLL2:=hq_ hl2;have HVT:=hq_ hvt;have HMI:=hq_ hmi;have hMl:=HV2.out.len;clear hMM hL2 hl2 hvt hmem hvm hcl hkc hD hmi hb1 hb2;go_upto_region 7 with (fail)
    refine bh_ (F:=fun U=>Bxx U wk.heap.size #[.slice av m.length cv,.int .i64 mi] 130∧Bxx U (wk.heap.size+1) #[.slice none 0 0] 128∧U.heap.size=wk.heap.size+2∧Below wk.heap.size wk U) ⟨(Bxx.new _ _ _).alloc _,Bxx.at sq_,sq_,Ea (Ea (Er _) _) _⟩ ?_;rintro W2 ⟨hcb,hdb,hs2,hbk2⟩;have HCB:=hq_ hcb;have HDB:=hq_ hdb;have HS2:=hq_ hs2;have HBK2:=hq_ hbk2;clear hcb hdb hs2 hbk2 e0 e1;go_loopw [8,9,11,24] (fun _ _ _ vi wq=>∃ (i:Nat) (tv:Value) (N:List (Value × List Per)),i≤m.length∧vi=.int .i64 i∧N.length=i∧Hid (N.map Prod.snd=m.take i)∧Hid (OwnZ W2.heap.size (fun _=>False) wq tv N)∧Hid (Bxx wq (wk.heap.size+1) #[tv] 128)∧Hid (W2.grownBy wq (some (wk.heap.size+1)))) (fun _ _ _ vi _=>m.length-(intOf vi).toNat)
    case atStart=>exact ⟨0,.slice none 0 0,[],oq_,rfl,rfl,hq_ sq_,hq_ OwnG.nil,HDB,hq_ ⟨rfl,rfl,rfl,Nat.le_refl _,fun _ _ _=>rfl⟩⟩
    case round=>
     obtain ⟨i,tv,N,hi,rfl,hNi,HN,HZ,HBD,HG2⟩:=hrel;obtain ⟨wq,hwq⟩:∃ x,x=wr:=⟨_,rfl⟩;subst hwq;obtain ⟨ta,tc,rfl,-⟩:=HZ.out.form;have HNI:=hq_ hNi;clear hNi;have hqz:=HG2.out.size;have hqs:wk.heap.size+2≤wq.heap.size:=by have:=HS2.out;omega
     have HKQ:Hid (Below wk.heap.size wk wq):=hq_ (HBK2.out.grown HG2.out (by have:=HS2.out;omega) fun q e=>by injection e with e;omega);have HBQ:Hid (Below w.heap.size w wq):=hq_ (Et HBK.out HKQ.out);have hNl:=HZ.out.len;by_cases hlt2:i<m.length
     ·have hlI2:(i:Int)<m.length:=oq_;obtain ⟨b2,o2,c2',at_,nt,ct,t,hve,et,htr,hti⟩:=HMM.out.at (k:=i) (by rw [<- HLL2.out];exact hlt2);injection hve with hv1 hv2 hv3
      subst hv1;have et:=Ext.cell HBQ.out et;rw [HL2.out] at hti;have htm:t∈m:=List.mem_of_getElem? hti;obtain ⟨htl,hvp⟩:=HVT.out t htm;obtain ⟨at2,ct2,hte,_⟩:=htr.form;injection hte with ht1 ht2 ht3
      subst ht2;obtain ⟨L3,hL3,hT3⟩:=htr;have hl3:t.length=L3.length:=by rw [<- hL3,List.length_map]
      have HT3:=hq_ hT3;have HL3:=hq_ hL3;have HLL3:=hq_ hl3;have HTT:Hid (m.take (i+1)=m.take i ++ [t]):=hq_ (by rw [List.take_succ_eq_append_getElem hlt2];rw [List.getElem?_eq_getElem hlt2] at hti;rw [Option.some.inj hti]);clear hT3 hL3 hl3 hvp hti htm hv2 hv3 ht1 ht3;go_wp2_with fail
      go_loopw [9,11,30] (fun fv _ vi w3=>∃ (j:Nat) (Lp:List PV),j≤t.length∧vi=.int .i64 j∧Lp.length=j∧Hid (Lp.map PV.p=t.take j)∧Hid (OwnP wq.heap.size (fun _=>False) w3 fv Lp)∧Hid (Below wq.heap.size wq w3)) (fun _ _ vi _=>t.length-(intOf vi).toNat)
      case atStart=>exact ⟨0,[],oq_,rfl,rfl,hq_ sq_,hq_ OwnG.nil,hq_ (Below.refl _ _)⟩
      case round=>
       obtain ⟨j,Lp,hj,rfl,hLj,HLP,HP,HB3⟩:=hrel;obtain ⟨w3,hw3⟩:∃ x,x=wr:=⟨_,rfl⟩;subst hw3;obtain ⟨fa,fc,rfl,-⟩:=HP.out.form;have HLJ:=hq_ hLj;clear hLj;have hq3:=HB3.out.size;have hbu3:Below w.heap.size w w3:=Et HBQ.out HB3.out;have HBU3:=hq_ hbu3;by_cases hlt3:j<t.length
       ·have hlI3:(j:Int)<t.length:=oq_;obtain ⟨b3,o3,x,hve3,hx,hxp,hb3,y0,y1,y2,y3⟩:=HT3.out.get (k:=j) (by rw [<- HLL3.out];exact hlt3);subst hve3;rw [HL3.out] at hxp;obtain ⟨xh,xc,xp⟩:=x;obtain ⟨ax1,nx1,cx1,ax2,nx2,cx2,rfl,rfl⟩:=hx.form;dsimp only at y0 y1 y2 y3 hxp;have y0:=Ext.cell hbu3 y0;have y1:=Ext.cell hbu3 y1;have y2:=Ext.cell hbu3 y2;have y3:=Ext.cell hbu3 y3;have HC1:=hq_ (fun W (hb:Below w.heap.size w W)=>kj_ (.slice ax1 nx1 cx1) xp.head W (hx.is.hd.ext hb));have HC2:=hq_ (fun W (hb:Below w.heap.size w W)=>kj_ (.slice ax2 nx2 cx2) xp.cycle W (hx.is.cy.ext hb));have HXB:=hq_ (And.intro hx.fr hx.pe);have HXP:Hid (t.take (j+1)=t.take j ++ [xp]):=hq_ (by rw [List.take_succ_eq_append_getElem hlt3,hxp,a6_ hlt3]);clear hxp hx hb3;go_upto_region 13 with (fail)
        refine bh_ (F:=fun U=>Bxx U w3.heap.size #[.slice ax1 nx1 cx1,.int .i64 xp.frm,.int .i64 xp.period,.slice ax2 nx2 cx2] 160∧Below w3.heap.size w3 U) ⟨Bxx.new _ _ _,Ea (Er _) _⟩ ?_;rintro W4 ⟨hpb,hb34⟩;have k0:=(hpb.cells 0).1;have k1:=(hpb.cells 1).1;have k2:=(hpb.cells 2).1;have k3:=(hpb.cells 3).1;have hbu:Below w.heap.size w W4:=Et hbu3 hb34;have HB34:=hq_ hb34;clear hb34 hbu3 y0 y1 y2 y3;refine aw_ (w0:=W4) [0,1,2,3,4,5,6] [7,8,9] [34,35,36,37,38,39,40] [.pointer (some ⟨w3.heap.size,0,none⟩),.slice ax1 nx1 cx1,undef,.pointer (some ⟨w3.heap.size,3,none⟩),.slice ax2 nx2 cx2,undef,.pointer (some ⟨w3.heap.size,0,none⟩)] [[],[0],[1],[],[3],[4],[]] [] [2,5] (fun i v lo hi W=>match i with|2=>(∃ a c,v 2=.slice a xp.head.length c)∧hg_ W (lo 2) (hi 2) (v 2) xp.head|5=>(∃ a c,v 5=.slice a xp.cycle.length c)∧hg_ W (lo 5) (hi 5) (v 5) xp.cycle|_=>True) (.a k0 (.a k1 (.a k2 (.a k3 (.g (fun W=>Bxx W w3.heap.size #[.slice ax1 nx1 cx1,.int .i64 xp.frm,.int .i64 xp.period,.slice ax2 nx2 cx2] 160) (fun W hb=>hpb.below hb)))))) ?steps13 ?fin13 (stab:=?stab13)
        case stab13=>
         refine ⟨?_,?_,trivial⟩
         ·intro v lo hi W W' h hb;exact ⟨h.1,h.2.below hb⟩
         ·intro v lo hi W W' h hb;exact ⟨h.1,h.2.below hb⟩
        case steps13=>
         repeat' first|exact .n|refine .d ?_ ?_|fail
         all_goals try exact stw
         ·rintro v lo hi W hb ⟨g0,g1,g2,g3,g4⟩ _;refine .inl ⟨rfl,fun K hK=>?_⟩;simp only [ov,vat,Nat.reduceBEq,cond_true,cond_false];go_wp2_with (go_at_call 112;(with_reducible refine (HC1.out _ (Et hbu hb)).mono ?_);rintro e w9 ⟨x,rfl,ho9,hb9⟩)
          exact acx (hK x w9 hb9 ⟨ho9.form,ho9.at⟩) (by simp [ov,vat,upd])
         ·rintro v lo hi W hb ⟨g0,g1,g2,g3,g4⟩ _;refine .inl ⟨rfl,fun K hK=>?_⟩;simp only [ov,vat,Nat.reduceBEq,cond_true,cond_false];go_wp2_with (go_at_call 112;(with_reducible refine (HC2.out _ (Et hbu hb)).mono ?_);rintro e w9 ⟨x,rfl,ho9,hb9⟩)
          exact acx (hK x w9 hb9 ⟨ho9.form,ho9.at⟩) (by simp [ov,vat,upd])
        case fin13=>
         rintro v lo hi W6 hb6 ⟨g0,g1,g2,g3,g4⟩ hf hap;show wpList _ _ _ [_,_,_] _ _;obtain ⟨l2,-,h2,⟨y3,z3,e3⟩,ho3⟩:=hf 2 rfl;obtain ⟨l5,-,h5,⟨y4,z4,e10⟩,ho10⟩:=hf 5 rfl;have e6:v 6=.pointer (some ⟨w3.heap.size,0,none⟩):=(hf 6 rfl).2.2.2;clear hf hap;rw [e3] at ho3;rw [e10] at ho10;have hz4:w3.heap.size+1≤W4.heap.size:=by have:=hpb.lt;omega
         have hpv:PVok W6 (fun b=>w3.heap.size<b∧b<W6.heap.size) ⟨.slice y3 xp.head.length z3,.slice y4 xp.cycle.length z4,xp⟩:=⟨⟨ho3.1.own.ints,ho10.1.own.ints⟩,HXB.out.1,HXB.out.2,fun _ q hq=>by have h1:=(ho3.1.own.lt q hq);omega,fun _ q hq=>by have h1:=(ho10.1.own.lt q hq);omega⟩
         (try dsimp only)
         rw [e3,e10,e6];clear e3 e10 e6 ho3 ho10;generalize hv0:v 0=u0;generalize hv1:v 1=u1;generalize hv3:v 3=u3;generalize hv4:v 4=u4;clear hv0 hv1 hv3 hv4 g0 g1 g2 g3 k0 k1 k2 k3 hpb;have HPV0:=hq_ hpv;have HB60:=hq_ (Et HB34.out hb6);have G4:=hq_ g4;have hLl2:=HP.out.len;obtain ⟨iP,iP1,iP2,iP3,iP4⟩:=ox_;have HIP:=hq_ (And.intro iP1 (And.intro iP2 (And.intro iP3 iP4)));clear iP1 iP2 iP3 iP4 hpv hb6;have HLT3:=hq_ hlt3;have c0:=g4.cells 0;have c3:=g4.cells 3;clear g4;go_upto_region 14 with (fail)
         have hg8:World.grownBy W6 ((W6.setCell ⟨w3.heap.size,0,none⟩ (.slice y3 xp.head.length z3)).setCell ⟨w3.heap.size,3,none⟩ (.slice y4 xp.cycle.length z4)) (some w3.heap.size):=World.grownBy.set' (World.grownBy.set' ⟨rfl,rfl,rfl,Nat.le_refl _,fun _ _ _=>rfl⟩ _) _;have hx8:Bxx ((W6.setCell ⟨w3.heap.size,0,none⟩ (.slice y3 xp.head.length z3)).setCell ⟨w3.heap.size,3,none⟩ (.slice y4 xp.cycle.length z4)) w3.heap.size #[.slice y3 xp.head.length z3,.int .i64 xp.frm,.int .i64 xp.period,.slice y4 xp.cycle.length z4] 160:=by
          have h1:=a0_ 3 (.slice y4 xp.cycle.length z4) (a0_ 0 (.slice y3 xp.head.length z3) G4.out);simpa [Bxx] using h1
         clear c0 c3;generalize ((W6.setCell ⟨w3.heap.size,0,none⟩ (.slice y3 xp.head.length z3)).setCell ⟨w3.heap.size,3,none⟩ (.slice y4 xp.cycle.length z4))=W8 at *;have c0:=(hx8.cells 0).1;have c1:=(hx8.cells 1).1;have c2:=(hx8.cells 2).1;have c3:=(hx8.cells 3).1;have hb8:Below w3.heap.size w3 W8:=HB60.out.grown hg8 HB60.out.size fun q e=>by cases e;exact Nat.le_refl _
         have hpv8:=d6_.keep HPV0.out (a3_.grown hg8 fun hf=>by have:=hf.1;omega) hg8.size;have hz68:=hg8.size;have HB6:=hq_ (Et hb8 (Ea (Er W8) (.cells #[.slice y3 xp.head.length z3,.int .i64 xp.frm,.int .i64 xp.period,.slice y4 xp.cycle.length z4] 160)));have HPV:=hq_ (d6_.keep hpv8 (a3_.below (Ea (Er W8) (.cells #[.slice y3 xp.head.length z3,.int .i64 xp.frm,.int .i64 xp.period,.slice y4 xp.cycle.length z4] 160))) sq_);have HB36:=hq_ (Et HB3.out HB6.out);have hz6:=HB36.out.size;have hz8:=hb8.size;clear hpv8 hb8 hx8 hg8;go_wp2_with (at_builtin;(refine ab_ rq_ _ _ _ _ rq_ iP _ 4 64 Tryz.underlying158 HIP.out.1 HIP.out.2.1 HIP.out.2.2.1 HIP.out.2.2.2 rfl dq_ dq_ wq.heap.size (.slice fa Lp.length fc) Lp.length (Lp.flatMap PV.enc) (PV.enc ⟨.slice y3 xp.head.length z3,.slice y4 xp.cycle.length z4,xp⟩) rfl rq_ (HP.out.below d6_ HB6.out).row W8.heap.size 1 rq_ (al_ (Bxx.new W8 #[.slice y3 xp.head.length z3,.int .i64 xp.frm,.int .i64 xp.period,.slice y4 xp.cycle.length z4] 160)) HPV.out.one (by have:=HLJ.out;omega) tq_ ?_);intro v' w9 hown9 hgrow9 hloc9;have HP9:=hq_ (OwnG.push d6_ (HP.out.below d6_ HB6.out) (HPV.out.mono fun q hq=>⟨oq_,fun h=>h,fun e=>by have:=(HP.out.row.lt q e).2;omega⟩) hown9 hgrow9 hloc9 (fun h=>h) (by have:=HLJ.out;omega));have HB9:=hq_ (HB36.out.grown hgrow9 hz6 fun q e=>((HP.out.below d6_ HB6.out).row.lt q e).1);clear hown9 hgrow9 hloc9)
         go_roundw
         case rel=>exact ⟨j+1,Lp ++ [⟨.slice y3 xp.head.length z3,.slice y4 xp.cycle.length z4,xp⟩],HLT3.out,by go_num,by rw [List.length_append,HLJ.out];rfl,hq_ (by rw [List.map_append,HLP.out,HXP.out];rfl),HP9,HB9⟩
         case measure=>have:=HLT3.out;simp [intOf];omega
       ·obtain rfl:j=t.length:=oq_;have HFT:Hid (ag_ w3 (fun b=>wq.heap.size≤b) (.slice fa Lp.length fc) t):=hq_ ⟨Lp,by rw [HLP.out,List.take_length],HP.out.termL.mono fun q hq=>hq.1⟩;have d0:=(((HBD.out.below HB3.out).alloc (.cells #[.slice fa Lp.length fc] 158)).cells 0);have d1:=((HBD.out.below HB3.out).cells 0);obtain ⟨iT,iT1,iT2,iT3,iT4⟩:=n2_;have HIT:=hq_ (And.intro iT1 (And.intro iT2 (And.intro iT3 iT4)));clear iT1 iT2 iT3 iT4;have HLT2:=hq_ hlt2;go_wp2_with (at_builtin;(refine ab_ rq_ _ _ _ _ rq_ iT _ 1 24 Tryz.underlying126 HIT.out.1 HIT.out.2.1 HIT.out.2.2.1 HIT.out.2.2.2 rfl dq_ dq_ W2.heap.size (.slice ta N.length tc) N.length (N.flatMap fun x=>[x.1]) [.slice fa Lp.length fc] rfl rq_ ((HZ.out.below d7_ HB3.out).below d7_ (Ea (Er _) _)).row w3.heap.size 1 rq_ (al_ (Bxx.new w3 #[.slice fa Lp.length fc] 158)) (by simp [Value.oneCell']) (by have:=HNI.out;omega) tq_ ?_);intro v' w9 hown9 hgrow9 hloc9;obtain ⟨na,nc,rfl⟩:=a5_ hown9;have hne9:∀ q,(Value.slice ta N.length tc).ownBlock=some q->W2.heap.size≤q:=fun q e=>(HZ.out.row.lt q e).1;have hs22:=HS2.out;have d2:=(((HBD.out.below HB3.out).alloc (.cells #[.slice fa Lp.length fc] 158)).grown hgrow9 (fun e=>by have:=hne9 _ e.symm;omega));have g2:=d2.cells 0;have HD2:=hq_ d2;have HZ9:=hq_ (OwnG.push (y:=(.slice fa Lp.length fc,t)) d7_ ((HZ.out.below d7_ HB3.out).below d7_ (Ea (Er _) _)) ((ag_.ext HFT.out (Ea (Er _) _)).mono fun q hq=>⟨oq_,fun h=>h,fun e=>by have:=(HZ.out.row.lt q e).2;omega⟩) hown9 hgrow9 hloc9 (fun h=>h) (by have:=HNI.out;omega));have HG9:=hq_ hgrow9;have HNE:=hq_ hne9;clear hown9 hgrow9 hloc9 d2 hne9 hs22)
        go_roundw
        case rel=>
         have hs22:=HS2.out;have hgs:World.grownBy w9 (w9.setCell ⟨wk.heap.size+1,0,none⟩ (.slice na (N.length+1) nc)) (some (wk.heap.size+1)):=World.grownBy.set' ⟨rfl,rfl,rfl,Nat.le_refl _,fun _ _ _=>rfl⟩ _;have hgall:W2.grownBy w9 (some (wk.heap.size+1)):=by
          have h1:W2.grownBy (w3.alloc (.cells #[.slice fa Lp.length fc] 158)) (some (wk.heap.size+1)):=World.grownBy.trans' HG2.out (World.grownBy.of_below (Ea HB3.out _) _);exact ⟨HG9.out.os.trans h1.os,HG9.out.tape.trans h1.tape,HG9.out.output.trans h1.output,Nat.le_trans h1.size HG9.out.size,fun q hq hne=>(HG9.out.block q (Nat.lt_of_lt_of_le hq h1.size) (fun e=>by have:=HNE.out q e.symm;omega)).trans (h1.block q hq hne)⟩
         refine ⟨i+1,.slice na (N.length+1) nc,N ++ [(.slice fa Lp.length fc,t)],HLT2.out,by go_num,by rw [List.length_append,HNI.out];rfl,hq_ (by rw [List.map_append,HN.out,HTT.out];rfl),hq_ (HZ9.out.low d7_ hgs oq_),hq_ (a0_ 0 _ HD2.out),hq_ (World.grownBy.trans' hgall hgs)⟩
        case measure=>have:=HLT2.out;simp [intOf];omega
     ·obtain rfl:i=m.length:=oq_;have HFM:Hid (MixR wq (fun b=>W2.heap.size≤b) (.slice ta N.length tc) m):=hq_ ⟨N,by rw [HN.out,List.take_length],HZ.out.mixL.mono fun q hq=>hq.1⟩;have hs22:=HS2.out;have hcq:Bxx wq wk.heap.size #[.slice av m.length cv,.int .i64 mi] 130:=(HG2.out.block wk.heap.size oq_ (by intro e;injection e with e;omega)).trans HCB.out;have k1:=(hcq.cells 1).1;have k0:=(HBD.out.cells 0).1;obtain ⟨iC,iC1,iC2,iC3,iC4⟩:=ol_;have HIC:=hq_ (And.intro iC1 (And.intro iC2 (And.intro iC3 iC4)));have HLT1:=hq_ hlt;clear iC1 iC2 iC3 iC4 hcq;go_wp2_with (at_builtin;(refine ab_ rq_ _ _ _ _ rq_ iC _ 2 32 Tryz.underlying52 HIC.out.1 HIC.out.2.1 HIC.out.2.2.1 HIC.out.2.2.2 rfl dq_ dq_ W1.heap.size (.slice va M.length vc) M.length (M.flatMap ClsV.enc) (ClsV.enc ⟨.slice ta N.length tc,m,mi⟩) rfl rq_ ((HV2.out.below ar_ HKQ.out).below ar_ (Ea (Er _) _)).row wq.heap.size 1 rq_ (al_ (Bxx.new wq #[.slice ta N.length tc,.int .i64 mi] 130)) (by simp [ClsV.enc,Value.oneCell']) (by have:=HMK.out;have:=HLC.out;omega) tq_ ?_);intro v' w9 hown9 hgrow9 hloc9;obtain ⟨na,nc,rfl⟩:=a5_ hown9;have hne9:∀ q,(Value.slice va M.length vc).ownBlock=some q->W1.heap.size≤q:=fun q e=>(HV2.out.row.lt q e).1;have HV9:=hq_ (OwnG.push (y:=⟨.slice ta N.length tc,m,mi⟩) ar_ ((HV2.out.below ar_ HKQ.out).below ar_ (Ea (Er _) _)) ⟨(HFM.out.ext (Ea (Er _) _)).mono fun q hq=>⟨oq_,fun h=>h,fun e=>by have:=(HV2.out.row.lt q e).2;omega⟩,HMI.out⟩ hown9 hgrow9 hloc9 (fun h=>h) (by have:=HMK.out;have:=HLC.out;omega));have HB9:=hq_ (((HB.out.trans (HKQ.out.mono oq_)).alloc oq_ (.cells #[.slice ta N.length tc,.int .i64 mi] 130)).grown hgrow9 tq_ hne9);clear hown9 hgrow9 hloc9 hne9)
      go_roundw
      case rel=>exact ⟨k+1,M ++ [⟨.slice ta N.length tc,m,mi⟩],HLT1.out,by go_num,by rw [List.length_append,HMK.out];rfl,hq_ (by rw [List.map_append,HM.out,HTC.out];rfl),by have h:=HV9;rw [show M.length+1=(M ++ [(⟨.slice ta N.length tc,m,mi⟩:ClsV)]).length by simp] at h;first|exact h|exact HV9,HB9⟩
      case measure=>have:=HLT1.out;simp [intOf];omega
   ·obtain rfl:k=L.length:=oq_;have hkI:¬ (L.length:Int)<L.length:=oq_;have hmc:M.map ClsV.cls=s.cls:=by have:=HM.out;rwa [List.take_of_length_le (by rw [HLC.out];exact Nat.le_refl _)] at this
    have HMC:=hq_ hmc;have hml:M.length=s.cls.length:=by rw [<- hmc,List.length_map]
    have HML:=hq_ hml;have y0:=((K0.out.below HB.out).cells 5).1;clear hmc hml;go_wp2_with (go_at_call 113;(with_reducible refine (HCL.out _ HBK.out).mono ?_);(rintro e w5 ⟨a4,c4,rfl,hx4,hb5⟩;have HX4:=hq_ hx4;have HB5:=hq_ hb5;have hz5:=hb5.size;have HE5:=hq_ ((K0.out.below HB.out).below hb5);have HR5:=hq_ ((K1.out.below HB.out).below hb5);have z3:=HE5.out.cells 3;have z5:=HE5.out.cells 5;have hE6:Bxx ((w5.setCell ⟨w.heap.size,3,none⟩ (.slice va M.length vc)).setCell ⟨w.heap.size,5,none⟩ (.slice a4 s.ext.length c4)) w.heap.size #[.int .i64 id,.bool fm,.int .i64 rank,.slice va M.length vc,.int .i64 s.len,.slice a4 s.ext.length c4] 57:=(by simpa [Bxx] using a0_ 5 (.slice a4 s.ext.length c4) (a0_ 3 (.slice va M.length vc) HE5.out));have hR6:=(HR5.out.setNe (k:=w.heap.size) (i:=3) (.slice va M.length vc) oq_).setNe (k:=w.heap.size) (i:=5) (.slice a4 s.ext.length c4) oq_;have HR6:=hq_ hR6;have p0:=(hE6.cells 0).1;have p1:=(hE6.cells 1).1;have p2:=(hE6.cells 2).1;have p3:=(hE6.cells 3).1;have p4:=(hE6.cells 4).1;have p5:=(hE6.cells 5).1;have u0:=hR6.cells 0;have u1:=hR6.cells 1;have u2:=hR6.cells 2;have u3:=hR6.cells 3;have u4:=hR6.cells 4;have u5:=hR6.cells 5;clear hx4 hb5 hE6 hR6))
    have hfin:=x4_ (b0:=.int .i64 id) (b1:=.bool fm) (b2:=.int .i64 rank) (b3:=.slice va M.length vc) (b4:=.int .i64 s.len) (b5:=.slice a4 s.ext.length c4) HR6.out;have s0:=(hfin.cells 0).1;have s1:=(hfin.cells 1).1;have s2:=(hfin.cells 2).1;have s3:=(hfin.cells 3).1;have s4:=(hfin.cells 4).1;have s5:=(hfin.cells 5).1;have hg1:World.grownBy w5 ((w5.setCell ⟨w.heap.size,3,none⟩ (.slice va M.length vc)).setCell ⟨w.heap.size,5,none⟩ (.slice a4 s.ext.length c4)) (some w.heap.size):=World.grownBy.set' (World.grownBy.set' ⟨rfl,rfl,rfl,Nat.le_refl _,fun _ _ _=>rfl⟩ _) _;generalize hW6:(w5.setCell ⟨w.heap.size,3,none⟩ (.slice va M.length vc)).setCell ⟨w.heap.size,5,none⟩ (.slice a4 s.ext.length c4)=W6 at *;have hg2:World.grownBy W6 ((((((W6.setCell ⟨w.heap.size+1,0,none⟩ (.int .i64 id)).setCell ⟨w.heap.size+1,1,none⟩ (.bool fm)).setCell ⟨w.heap.size+1,2,none⟩ (.int .i64 rank)).setCell ⟨w.heap.size+1,3,none⟩ (.slice va M.length vc)).setCell ⟨w.heap.size+1,4,none⟩ (.int .i64 s.len)).setCell ⟨w.heap.size+1,5,none⟩ (.slice a4 s.ext.length c4)) (some (w.heap.size+1)):=World.grownBy.set' (World.grownBy.set' (World.grownBy.set' (World.grownBy.set' (World.grownBy.set' (World.grownBy.set' ⟨rfl,rfl,rfl,Nat.le_refl _,fun _ _ _=>rfl⟩ _) _) _) _) _) _;have hV9:=(((HV2.out.below ar_ HB5.out).low ar_ hg1 oq_).low ar_ hg2 oq_).clsL;have hX9:=(HX4.out.keep (a3_.grown hg1 oq_) hg1.size).keep (a3_.grown hg2 oq_) hg2.size;have hst:StrR _ (fun b=>w.heap.size≤b) (.slice va M.length vc) (.slice a4 s.ext.length c4) s:=⟨M,HMC.out,hV9.mono fun b h=>by have:=h.1;omega,hX9.mono fun b h=>oq_,HS.out.len⟩;have hbf:=((HBK.out.trans (HB5.out.mono oq_)).grown hg1 oq_ fun q e=>by cases e;omega).grown hg2 (by have:=hg1.size;omega) fun q e=>by cases e;omega
    refine bodyPost_ret (v:=.agg #[.int .i64 id,.bool fm,.int .i64 rank,.slice va M.length vc,.int .i64 s.len,.slice a4 s.ext.length c4]) (by simp [results,Tryz.results67,go_sem,s0,s1,s2,s3,s4,s5]) rfl ?_;exact ⟨⟨id,fm,rank,.slice va M.length vc,.slice a4 s.ext.length c4,s⟩,rfl,rfl,⟨hst.lt,HIR.out⟩,hbf⟩
end Go.Proofs.YtkclokcenllhmaaGreat
namespace Kal
def oneS (f t:Int):Str:=⟨[],1,[⟨0,f,t⟩]⟩
theorem g2_ {t:Int} {x:Inst}:IsI (oneS f t) x↔x=⟨0,f,t⟩:=by
 unfold IsI oneS;simp
theorem kq_ (a b c d:Int):db_ (oneS a b) (oneS c d) (decide (ae_ a b c d)) 0:=by
 have h0:∀ a b c d:Int,bq_ (oneS a b) (oneS c d)=[]:=fun a b c d=>rfl;have h1:∀ a b c d:Int,bl_ (oneS a b) (oneS c d)↔ae_ a b c d:=fun a b c d=>by
  unfold bl_ dc_ oneS;simp
 by_cases h:ae_ a b c d
 ·exact .inl ⟨.inl ((h1 a b c d).2 h),by simp [h],rfl⟩
 ·refine .inr ⟨?_,.inr ⟨?_,rfl,?_⟩⟩
  ·rintro (g|g|⟨p,hp,_⟩)
   ·exact h ((h1 a b c d).1 g)
   ·have:=(h1 c d a b).1 g;unfold ae_ at *;omega
   ·rw [h0] at hp;cases hp
  ·rintro ⟨p,hp,_⟩;rw [h0] at hp;cases hp
  ·simp only [h,decide_false,Bool.false_eq_true,false_iff];rintro ⟨p,hp,_⟩;rw [h0] at hp;cases hp
theorem cb_ (a b c d:Int):mYes (oneS a b) (oneS c d)=decide (ae_ a b c d):=(kq_ a b c d).eqs.1.symm
theorem dp_ (a b c d:Int):mErr (oneS a b) (oneS c d)=0:=(kq_ a b c d).eqs.2.symm
def ent3:Ent:=⟨3,true,5,oneS 0 60⟩
def ent4:Ent:=⟨4,true,1,oneS 90 120⟩
def ent7 (b:Bool):Ent:=⟨7,b,0,oneS 30 100⟩
def dia0:List Ent:=[ent3,ent4,ent7 false]
theorem x3_:putD dia0 (ent7 true)=[ent3,ent4,ent7 true]:=by
 simp [putD,dia0,ent3,ent4,ent7]
theorem x2_:AscD dia0:=by simp [AscD,dia0,ent3,ent4,ent7]
theorem qi_ {r:List bk_} {k:Int} (h:ej_ dia0 r k):r=[]∧k=0:=by
 have hp:cu_ dia0=[(ent3,ent4)]:=by simp [cu_,ec_,e3_,dia0,ent3,ent4,ent7]
 obtain ⟨h1,h2⟩:=h;rw [hp] at h1 h2;have he:errD [(ent3,ent4)]=0:=by simp [errD,errL,ent3,ent4,dp_]
 have hh:ee_ [(ent3,ent4)]=[]:=by simp [ee_,ent3,ent4,cb_,ae_]
 rw [he] at h1;subst h1;rw [hh] at h2;rcases h2 with ⟨_,h2⟩|⟨h2,_⟩
 ·cases h2;exact ⟨rfl,rfl⟩
 ·exact absurd rfl h2
theorem qj_ {r:List bk_} {k:Int} (h:ej_ [ent3,ent4,ent7 true] r k):k=0∧∃ p q,r=[p,q]∧p.a=3∧p.b=7∧q.a=4∧q.b=7:=by
 have hp:cu_ [ent3,ent4,ent7 true]=[(ent3,ent4),(ent3,ent7 true),(ent4,ent7 true)]:=by simp [cu_,ec_,e3_,ent3,ent4,ent7]
 obtain ⟨h1,h2⟩:=h;rw [hp] at h1 h2;have he:errD [(ent3,ent4),(ent3,ent7 true),(ent4,ent7 true)]=0:=by simp [errD,errL,ent3,ent4,ent7,dp_]
 have hh:ee_ [(ent3,ent4),(ent3,ent7 true),(ent4,ent7 true)]=[(ent3,ent7 true),(ent4,ent7 true)]:=by simp [ee_,ent3,ent4,ent7,cb_,ae_]
 rw [he] at h1;subst h1;rw [hh] at h2;rcases h2 with ⟨_,h2⟩|⟨h2,_⟩
 ·cases h2 with
  | cons g1 h2=>cases h2 with
   | cons g2 h2=>cases h2;exact ⟨rfl,_,_,rfl,g1.1,g1.2.1,g2.1,g2.2.1⟩
 ·exact absurd rfl h2
theorem it_:admK dia0 ⟨8,true,5,oneS 100 130⟩=0∧admL dia0 ⟨8,true,5,oneS 100 130⟩=[4]:=by
 have h:admK dia0 ⟨8,true,5,oneS 100 130⟩=0:=by simp [admK,errA,ba_,dia0,ent3,ent4,ent7,errL,dp_,cs_,c2_,cb_,ae_]
 refine ⟨h,?_⟩;unfold admL;rw [if_pos h];simp [ba_,dia0,ent3,ent4,ent7,c2_,cb_,ae_]
theorem v8_:admK dia0 ⟨8,true,1,oneS 100 130⟩=15:=by simp [admK,errA,ba_,dia0,ent3,ent4,ent7,errL,dp_,cs_,c2_,cb_,ae_]
theorem iu_:admK dia0 ⟨8,true,9,oneS 0 200⟩=0∧admL dia0 ⟨8,true,9,oneS 0 200⟩=[3,4]:=by
 have h:admK dia0 ⟨8,true,9,oneS 0 200⟩=0:=by simp [admK,errA,ba_,dia0,ent3,ent4,ent7,errL,dp_,cs_,c2_,cb_,ae_]
 refine ⟨h,?_⟩;unfold admL;rw [if_pos h];simp [ba_,dia0,ent3,ent4,ent7,c2_,cb_,ae_]
theorem iv_:admK dia0 ⟨3,true,9,oneS 0 200⟩=0∧admL dia0 ⟨3,true,9,oneS 0 200⟩=[4]:=by
 have h:admK dia0 ⟨3,true,9,oneS 0 200⟩=0:=by simp [admK,errA,ba_,dia0,ent3,ent4,ent7,errL,dp_,cs_,c2_,cb_,ae_]
 refine ⟨h,?_⟩;unfold admL;rw [if_pos h];simp [ba_,dia0,ent3,ent4,ent7,c2_,cb_,ae_]
structure au_ (s:Str) (a b:Int) (D:List Inst):Prop where
 asc:D.Pairwise LtI
 mem:∀ y,y∈D↔IsI s y∧ae_ y.frm y.fin a b
theorem lw_:∀ {a b:List Inst},a.Pairwise LtI->b.Pairwise LtI->(∀ x,x∈a↔x∈b)->a=b
 | [],[],_,_,_=>rfl
 | [],y :: b,_,_,h=>by have:=(h y).2 sq_;cases this
 | x :: a,[],_,_,h=>by have:=(h x).1 sq_;cases this
 | x :: a,y :: b,ha,hb,h=>by
  have a1:=List.pairwise_cons.1 ha;have b1:=List.pairwise_cons.1 hb;have e:x=y:=by
   rcases List.mem_cons.1 ((h x).1 sq_) with e|e
   ·exact e
   ·rcases List.mem_cons.1 ((h y).2 sq_) with g|g
    ·exact g.symm
    ·exact absurd ((a1.1 y g).trans (b1.1 x e)) LtI.irrefl
  subst e
  congr 1
  refine lw_ a1.2 b1.2 fun z=>⟨fun hz=>?_,fun hz=>?_⟩
  ·rcases List.mem_cons.1 ((h z).1 (by simp [hz])) with e|e
   ·subst e;exact absurd (a1.1 z hz) LtI.irrefl
   ·exact e
  ·rcases List.mem_cons.1 ((h z).2 (by simp [hz])) with e|e
   ·subst e;exact absurd (b1.1 z hz) LtI.irrefl
   ·exact e
theorem au_.unique {s:Str} {D E:List Inst} (h:au_ s a b D) (g:au_ s a b E):D=E:=lw_ h.asc g.asc fun y=>(h.mem y).trans (g.mem y).symm
open Classical in
noncomputable def winL (s:Str) (a b:Int):List Inst:=if h:∃ D,au_ s a b D then Classical.choose h else []
theorem au_.eq {s:Str} {D:List Inst} (h:au_ s a b D):winL s a b=D:=by
 unfold winL;rw [dif_pos ⟨D,h⟩];exact (Classical.choose_spec (⟨D,h⟩:∃ D,au_ s a b D)).unique h
structure a4_ where
 frm:Int
 fin:Int
 kind:Int
 id:Int
 day:Int
instance:Inhabited a4_:=⟨⟨0,0,0,0,0⟩⟩
def ai_ (e:Ent) (y:Inst):a4_:=⟨y.frm,y.fin,if e.firm then 2 else 1,e.id,y.day⟩
noncomputable def ct_ (d:List Ent) (a b:Int):List a4_:=d.flatMap fun e=>(winL e.s a b).map (ai_ e)
theorem nm_ {d:List Ent} {e:Ent}:ct_ (d ++ [e]) a b=ct_ d a b ++ (winL e.s a b).map (ai_ e):=by
 unfold ct_;rw [List.flatMap_append];simp
theorem g7_ {d:List Ent} (hw:∀ e∈d,∃ D,au_ e.s a b D) {l:a4_}:l∈ct_ d a b↔∃ e∈d,∃ y,IsI e.s y∧ae_ y.frm y.fin a b∧l=ai_ e y:=by
 unfold ct_;simp only [List.mem_flatMap,List.mem_map];constructor
 ·rintro ⟨e,he,y,hy,rfl⟩;obtain ⟨D,hD⟩:=hw e he;rw [hD.eq] at hy;exact ⟨e,he,y,((hD.mem y).1 hy).1,((hD.mem y).1 hy).2,rfl⟩
 ·rintro ⟨e,he,y,h1,h2,rfl⟩;obtain ⟨D,hD⟩:=hw e he;exact ⟨e,he,y,by rw [hD.eq];exact (hD.mem y).2 ⟨h1,h2⟩,rfl⟩
def b2_ (a b:Int) (l:a4_):Spn:=(max l.frm a,min l.fin b)
def bx_ (d:List Ent) (t:Int):Prop:=∃ e∈d,∃ y,IsI e.s y∧y.frm≤t∧t<y.fin
theorem r6_ {d:List Ent} (hw:∀ e∈d,∃ D,au_ e.s a b D) (t:Int):SpM ((ct_ d a b).map (b2_ a b)) t↔a≤t∧t<b∧bx_ d t:=by
 constructor
 ·rintro ⟨s,hs,h1,h2⟩;obtain ⟨l,hl,rfl⟩:=List.mem_map.1 hs;obtain ⟨e,he,y,hy,hc,rfl⟩:=(g7_ hw).1 hl;unfold b2_ ai_ at h1 h2;dsimp only at h1 h2;exact ⟨oq_,oq_,e,he,y,hy,oq_,oq_⟩
 ·rintro ⟨h1,h2,e,he,y,hy,h3,h4⟩;refine ⟨b2_ a b (ai_ e y),List.mem_map.2 ⟨_,(g7_ hw).2 ⟨e,he,y,hy,⟨oq_,oq_⟩,rfl⟩,rfl⟩,?_,?_⟩
  ·unfold b2_ ai_;dsimp only;omega
  ·unfold b2_ ai_;dsimp only;omega
def LtL (x y:a4_):Prop:=x.frm<y.frm∨(x.frm=y.frm∧(x.fin<y.fin∨(x.fin=y.fin∧(x.id<y.id∨(x.id=y.id∧x.day<y.day)))))
def AgTo (d:List Ent) (a b:Int) (L:List a4_):Prop:=L.Perm (ct_ d a b)∧L.Pairwise fun x y=>¬ LtL y x
def selD (only:Bool) (d:List Ent):List Ent:=d.filter fun e=>e.firm || !only
theorem qk_ (d:List Ent):selD false d=d:=by unfold selD;simp
theorem t0_ (d:List Ent):selD true d=ec_ d:=by unfold selD ec_;simp
def BusyTo (d:List Ent) (a b:Int) (N:List Spn):Prop:=NS N∧∀ t,SpM N t↔a≤t∧t<b∧bx_ d t
theorem BusyTo.unique {d:List Ent} {N M:List Spn} (h:BusyTo d a b N) (g:BusyTo d a b M):N=M:=NS.unique h.1 g.1 fun t=>(h.2 t).trans (g.2 t).symm
theorem po_ {P Q:Int->Prop} {n:Int} (hn:1≤n) (h:GapK P n a b f ok) (hs:∀ t,a≤t->t<b->(P t↔Q t)):GapK Q n a b f ok:=by
 have key:∀ g,a≤g->g+n≤b->(by_ P n g↔by_ Q n g):=fun g h1 h2=>⟨fun h t t1 t2 hq=>h t t1 t2 ((hs t oq_ oq_).2 hq),fun h t t1 t2 hq=>h t t1 t2 ((hs t oq_ oq_).1 hq)⟩;rcases h with ⟨rfl,h1,h2,h3,h4⟩|⟨rfl,h0,h1⟩
 ·exact .inl ⟨rfl,h1,h2,(key f h1 h2).1 h3,fun g g1 g2 hf=>h4 g g1 g2 ((key g g1 oq_).2 hf)⟩
 ·exact .inr ⟨rfl,h0,fun g g1 g2 hf=>h1 g g1 g2 ((key g g1 g2).2 hf)⟩
theorem vl_ {t:Int}:winL (oneS f t) a b=if ae_ f t a b then [⟨0,f,t⟩] else []:=by
 by_cases h:ae_ f t a b
 ·rw [if_pos h];refine au_.eq ⟨sq_,fun y=>?_⟩;rw [g2_,List.mem_singleton];exact ⟨fun e=>⟨e,by rw [e];exact h⟩,fun e=>e.1⟩
 ·rw [if_neg h];refine au_.eq ⟨.nil,fun y=>?_⟩;rw [g2_];exact ⟨fun e=>(by cases e),fun e=>absurd (by have:=e.2;rw [e.1] at this;exact this) h⟩
theorem r5_ (t:Int):bx_ dia0 t↔(0≤t∧t<60)∨(90≤t∧t<120)∨(30≤t∧t<100):=by
 unfold bx_ dia0 ent3 ent4 ent7;simp [g2_]
theorem c6_ (t:Int):bx_ (selD true dia0) t↔(0≤t∧t<60)∨(90≤t∧t<120):=by
 have e:selD true dia0=[ent3,ent4]:=by simp [selD,dia0,ent3,ent4,ent7]
 rw [e];unfold bx_ ent3 ent4;simp [g2_]
theorem sv_ {N:List Spn} (h:BusyTo (selD false dia0) 0 200 N):N=[(0,120)]:=by
 rw [qk_] at h;refine h.unique ⟨⟨sq_,sq_⟩,fun t=>?_⟩;rw [r5_,SpM.cons];simp only [SpM.nil,or_false];omega
theorem sw_ {N:List Spn} (h:BusyTo (selD true dia0) 0 200 N):N=[(0,60),(90,120)]:=by
 refine h.unique ⟨⟨sq_,sq_⟩,fun t=>?_⟩;rw [c6_,SpM.cons,SpM.cons];simp only [SpM.nil,or_false];omega
theorem sx_ (h:GapK (bx_ (selD true dia0)) 30 0 200 f ok):ok=true∧f=60:=by
 have g:GapK (bx_ (selD true dia0)) 30 0 200 60 true:=by
  refine .inl ⟨rfl,oq_,oq_,fun t t1 t2 hb=>?_,fun g g1 g2 hf=>?_⟩
  ·rw [c6_] at hb;omega
  ·exact hf g oq_ oq_ ((c6_ g).2 oq_)
 obtain ⟨h1,h2⟩:=h.unique g;exact ⟨h1,h2 h1⟩
theorem sy_ (h:GapK (bx_ (selD true dia0)) 31 0 200 f ok):ok=true∧f=120:=by
 have g:GapK (bx_ (selD true dia0)) 31 0 200 120 true:=by
  refine .inl ⟨rfl,oq_,oq_,fun t t1 t2 hb=>?_,fun g g1 g2 hf=>?_⟩
  ·rw [c6_] at hb;omega
  ·by_cases h1:g<60
   ·exact hf g oq_ oq_ ((c6_ g).2 oq_)
   ·by_cases h2:g<90
    ·exact hf 90 oq_ oq_ ((c6_ 90).2 oq_)
    ·exact hf g oq_ oq_ ((c6_ g).2 oq_)
 obtain ⟨h1,h2⟩:=h.unique g;exact ⟨h1,h2 h1⟩
theorem qh_ {L:List a4_} (h:AgTo dia0 50 95 L):L=[⟨0,60,2,3,0⟩,⟨30,100,1,7,0⟩,⟨90,120,2,4,0⟩]:=by
 have e:ct_ dia0 50 95=[⟨0,60,2,3,0⟩,⟨90,120,2,4,0⟩,⟨30,100,1,7,0⟩]:=by
  simp [ct_,dia0,ent3,ent4,ent7,vl_,ae_,ai_]
 obtain ⟨h1,h2⟩:=h;rw [e] at h1;have hl:L.length=3:=h1.length_eq;have hs:∀ x y:a4_,¬ LtL y x->x.frm≤y.frm:=fun x y h=>by unfold LtL at h;omega
 have hm:∀ x∈L,x=⟨0,60,2,3,0⟩∨x=⟨90,120,2,4,0⟩∨x=⟨30,100,1,7,0⟩:=fun x hx=>by
  have:=h1.mem_iff.1 hx;simpa using this
 have m1:=h1.mem_iff.2 (show (⟨0,60,2,3,0⟩:a4_)∈_ by simp);have m2:=h1.mem_iff.2 (show (⟨90,120,2,4,0⟩:a4_)∈_ by simp);have m3:=h1.mem_iff.2 (show (⟨30,100,1,7,0⟩:a4_)∈_ by simp)
 match L,hl with
 | [x,y,z],_=>
  simp only [List.pairwise_cons,List.mem_cons,List.not_mem_nil,or_false,forall_eq_or_imp,forall_eq] at h2 hm m1 m2 m3;obtain ⟨⟨g1,g2⟩,g3,_⟩:=h2;have k1:=hs _ _ g1;have k2:=hs _ _ g2;have k3:=hs _ _ g3;obtain ⟨n1,n2,n3⟩:=hm;rcases n1 with rfl|rfl|rfl <;> rcases n2 with rfl|rfl|rfl <;> rcases n3 with rfl|rfl|rfl <;> simp_all
end Kal
namespace Go.Proofs.YtkclokcenllhmaaGreat
open Go.RowKit Go.Maps Kal
def NewE (x:Ent) (w:World) (e:Ending) (w':World):Prop:=∃ y:EntV,e=.returned y.val∧y.ent=x∧REnt w' (fun b=>w.heap.size≤b∧b<w'.heap.size) y∧Below w.heap.size w w'
theorem ck_ (m r a b:Int) (w:World) (hm:InI m) (hr:InI r) (ha:InI a) (hb:InI b) :
  Calls Tryz.prog 48 #[.int .i64 m,.int .i64 r,.agg #[.int .i64 a,.int .i64 b]] w (NewE ⟨m,true,r,oneS a b⟩ w):=by
 have HI:=hq_ (And.intro (And.intro hm hr) (And.intro ha hb));clear hm hr ha hb
 go_enter Tryz.func48,Tryz.ntmps48
 go_wp2_with fail
 generalize hW2:((w.alloc (.cells #[.int .i64 a,.int .i64 b] 28)).alloc (.cells #[.int .i64 m,.bool true,.int .i64 r,.slice none 0 0,.int .i64 1,.slice (some ⟨w.heap.size+1+1,0,none⟩) 1 1] 57)).alloc (.cells #[.int .i64 0,.int .i64 a,.int .i64 b] 77)=W2;have hz:W2.heap.size=w.heap.size+3:=by rw [<- hW2];simp
 have hE:Below w.heap.size w W2:=by rw [<- hW2];exact xE
 have hfin:Bxx W2 (w.heap.size+1) #[.int .i64 m,.bool true,.int .i64 r,.slice none 0 0,.int .i64 1,.slice (some ⟨w.heap.size+1+1,0,none⟩) 1 1] 57:=by rw [<- hW2];exact (Bxx.at sq_).alloc _
 have hi:Bxx W2 (w.heap.size+1+1) #[.int .i64 0,.int .i64 a,.int .i64 b] 77:=by rw [<- hW2];exact Bxx.at sq_
 have s0:=(hfin.cells 0).1;have s1:=(hfin.cells 1).1;have s2:=(hfin.cells 2).1;have s3:=(hfin.cells 3).1;have s4:=(hfin.cells 4).1;have s5:=(hfin.cells 5).1;clear hW2;have hrow:RowR W2 (fun k=>w.heap.size≤k) (.slice (some ⟨w.heap.size+1+1,0,none⟩) 1 1) 1 (([⟨0,a,b⟩]:List Inst).flatMap ienc):=hs_ hi oq_ oq_ oq_;have hex:ExtL W2 (fun k=>w.heap.size≤k) (.slice (some ⟨w.heap.size+1+1,0,none⟩) 1 1) [⟨0,a,b⟩]:=⟨hrow,sq_,by intro x hx;simp at hx;subst hx;exact ⟨⟨by show (-9223372036854775808:Int)≤0;omega,by show (0:Int)≤9223372036854775807;omega⟩,HI.out.2.1,HI.out.2.2⟩⟩;have hst:StrR W2 (fun k=>w.heap.size≤k) (.slice none 0 0) (.slice (some ⟨w.heap.size+1+1,0,none⟩) 1 1) (oneS a b):=⟨[],rfl,⟨⟨none,0,rfl,sq_,oq_,.inl rfl⟩,sq_,sq_⟩,hex,by show InI 1;exact ⟨oq_,oq_⟩⟩;refine bodyPost_ret (v:=.agg #[.int .i64 m,.bool true,.int .i64 r,.slice none 0 0,.int .i64 1,.slice (some ⟨w.heap.size+1+1,0,none⟩) 1 1]) (by simp [results,Tryz.results48,go_sem,s0,s1,s2,s3,s4,s5]) rfl ?_;exact ⟨⟨m,true,r,.slice none 0 0,.slice (some ⟨w.heap.size+1+1,0,none⟩) 1 1,oneS a b⟩,rfl,rfl,⟨hst.lt,HI.out.1⟩,hE⟩
def w5_ (w:World) (e:Ending) (w':World):Prop:=∃ a l,(-202999≤a∧a≤196999)∧(0≤l∧l≤28799)∧e=.returned (.agg #[.int .i64 a,.int .i64 (a+l)])∧Below w.heap.size w w'
theorem nn_ (t n:Int) (w:World) (h1:-2147483648≤t) (h2:t≤2147483647) (h3:0≤n) (h4:n≤65535) :
  Calls Tryz.prog 15 #[.int .i32 t,.int .u16 n] w (w5_ w):=by
 have e1:-199999≤Int.tmod t 200000∧Int.tmod t 200000≤199999:=by
  rcases Int.le_total 0 t with h|h
  ·rw [Int.tmod_eq_emod_of_nonneg h];omega
  ·have h5:Int.tmod t 200000=-(Int.tmod (-t) 200000):=by rw [Int.neg_tmod,Int.neg_neg]
   rw [h5,Int.tmod_eq_emod_of_nonneg oq_];omega
 have e2:0≤Int.tmod n 28800∧Int.tmod n 28800≤28799:=by rw [Int.tmod_eq_emod_of_nonneg h3];omega
 obtain ⟨a,ha⟩:∃ a,Int.tmod t 200000=a:=⟨_,rfl⟩;obtain ⟨l,hl⟩:∃ a,Int.tmod n 28800=a:=⟨_,rfl⟩;rw [ha] at e1;rw [hl] at e2;have HA:=hq_ ha;have HL:=hq_ hl;clear ha hl
 go_enter Tryz.func15,Tryz.ntmps15
 go_upto_region 2 with fail
 rw [HA.out];go_wp2_with fail
 have hw1:wrap64 (a-3000)=a-3000:=by first|(apply wrap64_of <;> omega)|(unfold wrap64;omega)
 rw [hw1];have e3:0≤n % 28800∧n % 28800≤28799:=oq_;have hw2:wrap64 (a-3000+n % 28800)=a-3000+n % 28800:=by first|(apply wrap64_of <;> omega)|(unfold wrap64;omega)
 rw [hw2];have hb:=Bxx.new w #[.int .i64 (a-3000),.int .i64 (a-3000+n % 28800)] 28;have s0:=(hb.cells 0).1;have s1:=(hb.cells 1).1;exact bodyPost_ret (v:=.agg #[.int .i64 (a-3000),.int .i64 (a-3000+n % 28800)]) (by simp [results,Tryz.results15,go_sem]) rfl ⟨a-3000,n % 28800,oq_,e3,rfl,xE⟩
theorem nf_ (w:World) :
  Calls Tryz.prog 47 #[] w fun e w'=>∃ v L,e=.returned v∧L.map EntV.ent=dia0∧DiaL w' (fun k=>w.heap.size≤k) v L∧Below w.heap.size w w':=by
 have hI:∀ x:Int,0≤x∧x≤1000->InI x:=fun x h=>⟨oq_,oq_⟩;have H1:=hq_ (fun W=>ck_ 3 5 0 60 W (hI _ oq_) (hI _ oq_) (hI _ oq_) (hI _ oq_));have H2:=hq_ (fun W=>ck_ 4 1 90 120 W (hI _ oq_) (hI _ oq_) (hI _ oq_) (hI _ oq_));have H3:=hq_ (fun W=>ck_ 7 0 30 100 W (hI _ oq_) (hI _ oq_) (hI _ oq_) (hI _ oq_));clear hI
 go_enter Tryz.func47,Tryz.ntmps47
 go_wp2_with (go_at_call 48;first
  | ((with_reducible refine (H1.out _).mono ?_);rintro e w1 ⟨y,rfl,hye,hyr,hb1⟩;obtain ⟨x1,n1,y1,g1,hc,hv⟩:=hyr.1.form;obtain ⟨i1,f1,r1,cv,ev,s1⟩:=y;dsimp only at hc hv;subst hc;subst hv;dsimp only [EntV.val];have Y1:=hq_ hye;have R1:=hq_ hyr;have HB1:=hq_ hb1;clear hye hyr hb1)
  | ((with_reducible refine (H2.out _).mono ?_);rintro e w2 ⟨y,rfl,hye,hyr,hb2⟩;obtain ⟨x2,n2,y2,g2,hc,hv⟩:=hyr.1.form;obtain ⟨i2,f2,r2,cv,ev,s2⟩:=y;dsimp only at hc hv;subst hc;subst hv;dsimp only [EntV.val];have Y2:=hq_ hye;have R2:=hq_ hyr;have HB2:=hq_ hb2;clear hye hyr hb2)
  | ((with_reducible refine (H3.out _).mono ?_);rintro e w3 ⟨y,rfl,hye,hyr,hb3⟩;obtain ⟨x3,n3,y3,g3,hc,hv⟩:=hyr.1.form;obtain ⟨i3,f3,r3,cv,ev,s3⟩:=y;dsimp only at hc hv;subst hc;subst hv;dsimp only [EntV.val];have Y3:=hq_ hye;have R3:=hq_ hyr;have HB3:=hq_ hb3;clear hye hyr hb3))
 go_ret;have q1:=HB1.out.size;have q2:=HB2.out.size;have q3:=HB3.out.size;generalize hC:#[Value.int IntKind.i64 i1,Value.bool f1,Value.int IntKind.i64 r1,Value.slice x1 s1.cls.length n1,Value.int IntKind.i64 s1.len,Value.slice y1 s1.ext.length g1,Value.int IntKind.i64 i2,Value.bool f2,Value.int IntKind.i64 r2,Value.slice x2 s2.cls.length n2,Value.int IntKind.i64 s2.len,Value.slice y2 s2.ext.length g2,Value.int IntKind.i64 i3,Value.bool false,Value.int IntKind.i64 r3,Value.slice x3 s3.cls.length n3,Value.int IntKind.i64 s3.len,Value.slice y3 s3.ext.length g3]=C;have hb4:Below w3.heap.size w3 (w3.alloc (.cells C 57)):=Ea (Er _) _;have e12:Below w1.heap.size w1 w3:=Et HB2.out HB3.out;have k1:REnt (w3.alloc (.cells C 57)) (fun k=>w.heap.size≤k) ⟨i1,f1,r1,.slice x1 s1.cls.length n1,.slice y1 s1.ext.length g1,s1⟩:=((ad_.mono R1.out fun k hk=>hk.1).ext e12).ext hb4;have k2:REnt (w3.alloc (.cells C 57)) (fun k=>w.heap.size≤k) ⟨i2,f2,r2,.slice x2 s2.cls.length n2,.slice y2 s2.ext.length g2,s2⟩:=((ad_.mono R2.out fun k hk=>by have:=hk.1;omega).ext HB3.out).ext hb4;have k3:REnt (w3.alloc (.cells C 57)) (fun k=>w.heap.size≤k) ⟨i3,f3,r3,.slice x3 s3.cls.length n3,.slice y3 s3.ext.length g3,s3⟩:=(ad_.mono R3.out fun k hk=>by have:=hk.1;omega).ext hb4;have hrow:RowR (w3.alloc (.cells C 57)) (fun k=>w.heap.size≤k) (.slice (some ⟨w3.heap.size,0,none⟩) 3 3) 3 C.toList:=hs_ (Bxx.new _ _ _) oq_ oq_ oq_;refine ⟨_,[⟨i1,f1,r1,.slice x1 s1.cls.length n1,.slice y1 s1.ext.length g1,s1⟩,⟨i2,f2,r2,.slice x2 s2.cls.length n2,.slice y2 s2.ext.length g2,s2⟩,⟨i3,false,r3,.slice x3 s3.cls.length n3,.slice y3 s3.ext.length g3,s3⟩],rfl,?_,⟨?_,sq_,?_⟩,Et HB1.out (Et e12 hb4)⟩
 ·have a1:=Y1.out;have a2:=Y2.out;have a3:=Y3.out;unfold EntV.ent at a1 a2 a3;dsimp only at a1 a2 a3;injection a1 with a4 a5 a6 a7
  injection a2 with b4 b5 b6 b7
  injection a3 with c4 c5 c6 c7
  simp only [List.map_cons,List.map_nil,EntV.ent,dia0,ent3,ent4,ent7,a4,a5,a6,a7,b4,b5,b6,b7,c4,c6,c7]
 ·rw [<- hC] at hrow;rw [<- hC];exact hrow
 ·intro x hx;simp only [List.mem_cons,List.not_mem_nil,or_false] at hx;rcases hx with rfl|rfl|rfl
  ·exact k1
  ·exact k2
  ·exact ⟨k3.1,k3.2⟩
end Go.Proofs.YtkclokcenllhmaaGreat
end
namespace Go.Proofs.YtkclokcenllhmaaGreat
open Go.RowKit Go.Maps Kal
structure AccW {α:Type} (e:TypeId) (sz:Nat) (enc:α->List Value) (R:World->(Nat->Prop)->α->Prop) (w:World) (bs:List (Nat × Array Value × TypeId)) (ob:Nat) (ot:TypeId) (E:Nat->Prop) (lv:Value) (D:List α) (W:World):Prop where
 below:Below w.heap.size w W
 bx:∀ t∈bs,Bxx W t.1 t.2.1 t.2.2
 b6:Bxx W ob #[lv] ot
 ge:w.heap.size≤ob
 ne:∀ t∈bs,t.1≠ob
 row:OwnG e sz enc R w.heap.size (fun k=>(∃ t∈bs,k=t.1)∨k=ob∨E k) W lv D
section
variable {α:Type} {e:TypeId} {sz:Nat} {enc:α->List Value} {R:World->(Nat->Prop)->α->Prop} {w:World} {bs:List (Nat × Array Value × TypeId)} {ob:Nat} {ot:TypeId} {E E':Nat->Prop} {lv v':Value} {D:List α} {A C:World}
theorem AccW.ext (hR:bd_ R) (h:AccW e sz enc R w bs ob ot E lv D A) (hb:Below A.heap.size A C):AccW e sz enc R w bs ob ot E lv D C:=
 ⟨Et h.below hb,fun t ht=>(h.bx t ht).below hb,h.b6.below hb,h.ge,h.ne,h.row.below hR hb⟩
theorem AccW.mono (hR:bd_ R) (h:AccW e sz enc R w bs ob ot E lv D A) (hE:∀ k,E' k->E k∨A.heap.size≤k):AccW e sz enc R w bs ob ot E' lv D A:=
 ⟨h.below,h.bx,h.b6,h.ge,h.ne,h.row.mono hR fun k hk=>by
  rcases hk with hk|hk|hk
  ·exact .inl (.inl hk)
  ·exact .inl (.inr (.inl hk))
  ·exact (hE k hk).imp (fun h=>.inr (.inr h)) id⟩
theorem AccW.push (hR:bd_ R) (h:AccW e sz enc R w bs ob ot E lv D A) {y:α} (hy:R A (RowF w.heap.size (fun k=>(∃ t∈bs,k=t.1)∨k=ob∨E k) lv) y)
  (hown:C.ownsRow w.heap.size e sz v' (D.length+1) (D.flatMap enc ++ enc y)) (hg:A.grownBy C lv.ownBlock) (hloc:v'.ownBlock=lv.ownBlock∨v'.ownBlock=some A.heap.size) (hA:¬ E A.heap.size) (hl:D.length<1000000) :
  AccW e sz enc R w bs ob ot E v' (D ++ [y]) (C.setCell ⟨ob,0,none⟩ v'):=by
 have hl6:=h.b6.lt;have hr:=OwnG.push hR h.row (y:=y) hy hown hg hloc (fun q=>by
  rcases q with ⟨t,ht,q⟩|q|q
  ·have:=(h.bx t ht).lt;omega
  ·omega
  ·exact hA q) hl
 refine ⟨(h.below.grown hg h.below.size fun k q=>(h.row.row.lt k q).1).setCell (p:=⟨ob,0,none⟩) h.ge _,fun t ht=>((h.bx t ht).grown hg fun q=>h.row.ne _ q.symm (.inl ⟨t,ht,rfl⟩)).setNe _ (h.ne t ht),a0_ 0 _ (h.b6.grown hg fun q=>h.row.ne _ q.symm (.inr (.inl rfl))),h.ge,h.ne,?_⟩;exact hr.box hR (World.grownBy.set' ⟨rfl,rfl,rfl,Nat.le_refl _,fun _ _ _=>rfl⟩ _) (.inr (.inl rfl))
theorem AccW.grow {p:α->Prop} (h:AccW e sz enc (fun _ _ x=>p x) w bs ob ot E lv D A) {row:Option Nat} (hg:A.grownBy C row) (hr:∀ k,row=some k->w.heap.size≤k∧∃ o:Obj,A.heap[k]? = some o∧o.isCells=false):AccW e sz enc (fun _ _ x=>p x) w bs ob ot E lv D C:=by
 have key:∀ {b:Nat} {c:Array Value} {t:TypeId},Bxx A b c t->Bxx C b c t:=fun {b c t} hb=>hb.grown hg fun q=>by
  obtain ⟨_,o,h1,h2⟩:=hr b q.symm;rw [hb] at h1;cases h1;cases h2
 refine ⟨h.below.grown hg h.below.size fun k q=>(hr k q).1,fun t ht=>key (h.bx t ht),key h.b6,h.ge,h.ne,⟨h.row.row.kept hg ?_,h.row.all,h.row.ne,h.row.len⟩⟩;cases row with
 | none=>cases lv.ownBlock <;> simp
 | some k=>
  refine .inr fun q=>?_;obtain ⟨_,o,h1,h2⟩:=hr k rfl;obtain ⟨o',h3,h4⟩:=h.row.cells k q;rw [h1] at h3;cases h3;rw [h2] at h4;cases h4
theorem AccW.kept (h:AccW e sz enc R w bs ob ot E lv D A) (hg:A.grownBy C lv.ownBlock) {k:Nat} (hk:k<A.heap.size) (h1:k<w.heap.size∨(∃ t∈bs,k=t.1)∨E k) (h2:k≠ob):(C.setCell ⟨ob,0,none⟩ v').heap[k]? = A.heap[k]?:=
 (Below.heap_setCell _ ⟨ob,0,none⟩ _ k h2).trans (hg.block k hk fun q=>by
  rcases h1 with h1|h1|h1
  ·have:=(h.row.row.lt k q.symm).1;omega
  ·exact h.row.ne k q.symm (.inl h1)
  ·exact h.row.ne k q.symm (.inr (.inr h1)))
end
def lenc (x:a4_):List Value:=[.int .i64 x.frm,.int .i64 x.fin,.int .i64 x.kind,.int .i64 x.id,.int .i64 x.day]
theorem bp_ (x:a4_):(lenc x).length=5:=rfl
theorem cj_ (x:a4_):∀ u∈lenc x,u.oneCell'=true:=fun u hu=>by
 unfold lenc at hu;simp at hu;rcases hu with rfl|rfl|rfl|rfl|rfl <;> rfl
structure LnI (x:a4_):Prop where
 frm:InI x.frm
 fin:InI x.fin
 kind:InI x.kind
 id:InI x.id
 day:InI x.day
theorem b1_:bd_ (fun (_:World) (_:Nat->Prop) (x:a4_)=>LnI x):=⟨fun h _ _=>h,fun h=>h,fun h _=>h⟩
theorem wt_:∃ i,Tryz.prog.info? 106=some i∧i.zero=some (.agg #[.int .i64 0,.int .i64 0,.int .i64 0,.int .i64 0,.int .i64 0])∧i.size=5∧i.bytes=40:=by
 have h:(Tryz.prog.info? 106).map (fun i=>(i.zero,i.size,i.bytes))=some (some (.agg #[.int .i64 0,.int .i64 0,.int .i64 0,.int .i64 0,.int .i64 0]),5,40):=by kernel_rfl
 obtain ⟨i,hi,h1,h2,h3⟩:=info_parts h;exact ⟨i,hi,h1,h2,h3⟩
end Go.Proofs.YtkclokcenllhmaaGreat
namespace Go
open Go.RowKit
variable {P:Program}
theorem n6_ {α:Type} {g:Operand} {ps:Array Tmp} {assign body:Code} {Q:Exit->Act->World->Prop} {a:Act} {w:World}
  {gf:Nat} {lb:Array Value} (hg:a.eval g=.func (.func gf) #[] lb) (eg:∀ args w,(callFunc gf args).run P w=.ok (.enter gf args) w)
  {encs:α->Array Value} {Kp:World->World->Prop} {x:Option Nat} {Ey:List α->α->World->Prop} {Fin:List α->Prop} (hseq:SeqZ P gf lb encs Kp x Ey Fin w)
  (hKt:∀ {A B C:World},Kp A B->Kp B C->Kp A C) (hKb:∀ (W:World) (l:Nat) (o o':Obj),w.heap.size≤l->W.heap[l]? = some o->o.isCells=false->Kp W (W.putObj l o')) (hKg:∀ (W W':World),w.heap.size≤W.heap.size->W.grownBy W' none->Kp W W') (hps:∀ y,(encs y).size=ps.size)
  (I:List α->World->Prop) (Ix:Code->List α->World->Prop) (hI:OwnX w.heap.size x I) (hIx:∀ c,OwnX w.heap.size x (Ix c))
  (hEy:∀ pre y (W:World) (l:Nat) (o o':Obj),W.heap[l]? = some o->o.isCells=false->Ey pre y W->Ey pre y (W.putObj l o')) (hEg:∀ pre y (W W':World),W.grownBy W' none->Ey pre y W->Ey pre y W') (h0:I [] w)
  (Ax:α->Act->World->Prop) (hAx:∀ y a' (W:World) (l:Nat) (o o':Obj),w.heap.size≤l->W.heap[l]? = some o->o.isCells=false->Ax y a' W->Ax y a' (W.putObj l o'))
  (hassign:∀ (l:Nat) (pre:List α) (y:α) (W:World) (K:Act->World->Prop),w.heap.size≤W.heap.size->I pre W->Ey pre y W->(∀ a' W',W.grownBy W' none->Ax y a' W'->K a' W')->
   assign.wpIn (Fence.wide.inRound l) 0 P (Exit.then K (fun _ _ _=>False)) { tmps:=(ps.zip (encs y)).foldl (fun t (p,v)=>t.setIfInBounds p v) a.tmps,defers:=[] } W)
  (hbody:∀ (l:Nat) (pre:List α) (y:α) (a':Act) (W:World),w.heap.size≤l->(∃ r,W.heap[l]? = some (.loop r))->I pre W->Ey pre y W->Ax y a' W->body.wpIn (Fence.wide.inRound l) 0 P (ownPostG w.heap.size Kp I Ix (pre ++ [y]) W) a' W)
  (hdone:∀ (D:Nat) (xs:List α) (W:World),w.heap.size≤D->Fin xs->I xs W->W.heap[D]? = some (.deferred (some []))->Q .normal { a with defers:={ target:=.collected D,args:=#[] } :: a.defers } W)
  (hstop:∀ (D:Nat) (c:Code) (pre:List α) (W:World),w.heap.size≤D->Ix c pre W->W.heap[D]? = some (.deferred (some []))->c.wpIn Fence.wide 0 P Q { a with defers:={ target:=.collected D,args:=#[] } :: a.defers } W) :
  (Code.rangeFunc g ps assign body).wpIn Fence.wide 0 P Q a w:=by
 refine wpIn_rangeFunc ?_;intro fn hfn;obtain ⟨rec,hrec⟩:∃ rec:LoopState->Option Code->Loop,rec=fun st pe=>{ state:=st,pending:=pe,fn,tmps:=a.tmps,params:=ps,assign,body,defers:=w.heap.size }:=⟨_,rfl⟩;obtain ⟨W1,hW1⟩:∃ W1,(w.alloc (.deferred (some []))).alloc (.loop (rec .ready none))=W1:=⟨_,rfl⟩;have hL1:W1.heap[w.heap.size+1]? = some (.loop (rec .ready none)):=by
  rw [<- hW1];have:=World.alloc_heap_new (w.alloc (.deferred (some []))) (.loop (rec .ready none));rwa [World.size_alloc] at this
 have hK1:W1.heap[w.heap.size]? = some (.deferred (some [])):=by
  rw [<- hW1];exact (Below.heap_alloc _ _ _ sq_).trans (World.alloc_heap_new w _)
 have hI1:I [] W1:=by rw [<- hW1];exact hI.alloc _ (hI.alloc _ h0)
 have hb1:Below w.heap.size w W1:=by
  rw [<- hW1];exact (((Below.refl _ w).alloc (Nat.le_refl _) _).alloc sq_ _)
 refine ⟨w.heap.size+1,[{ target:=.collected w.heap.size,args:=#[] }],W1,{ target:=.fn (.func gf) lb,args:=#[.func (.yield (w.heap.size+1)) #[] #[]] },W1,gf,
  #[.func (.yield (w.heap.size+1)) #[] #[]] ++ lb,W1,?_,?_,?_,?_,(fun h=>by cases h),?_⟩
 ·rw [<- hW1,hrec];exact run_enterLoop_outer _ _ _ _ _
 ·simp only [resolve,hg];simp [go_sem]
 ·intro f' _;trivial
 ·simp [invoke,go_sem,eg]
 ·have hkeep:∀ {A B:World} {row:Option Nat} {l:Nat} {o:Obj},A.grownBy B row->(∀ r,row=some r->x=some r∧∃ o:Obj,A.heap[r]? = some o∧o.isCells=true)->A.heap[l]? = some o->o.isCells=false->B.heap[l]? = some o:=
   fun {A B row l o} hg' hr hl ho=>by
    refine (hg'.block l (Array.getElem?_eq_some_iff.1 hl).1 fun e=>?_).trans hl;obtain ⟨_,o2,ho2,hc⟩:=hr l e.symm;rw [hl] at ho2;cases ho2;rw [ho] at hc;cases hc
  refine (hseq (w.heap.size+1)
   (fun pre W=>I pre W∧W.heap[w.heap.size+1]? = some (.loop (rec .ready none))∧W.heap[w.heap.size]? = some (.deferred (some [])))
   (fun pre W=>∃ c,Ix c pre W∧W.heap[w.heap.size+1]? = some (.loop (rec .done (some c)))∧W.heap[w.heap.size]? = some (.deferred (some [])))
   W1 hb1
   (fun s A B row hs hg' hr=>⟨hI s A B row hs.1 hg' (fun r e=>.inl (hr r e)),hkeep hg' hr hs.2.1 rfl,hkeep hg' hr hs.2.2 rfl⟩)
   (fun s A B row hs hg' hr=>by
    obtain ⟨c,hc,hl,hk⟩:=hs;exact ⟨c,hIx c s A B row hc hg' (fun r e=>.inl (hr r e)),hkeep hg' hr hl rfl,hkeep hg' hr hk rfl⟩)
   ?_ ⟨hI1,hL1,hK1⟩).mono ?_
  ·rintro pre y W ⟨hi,hl,hk⟩ hlen;have hlt:w.heap.size+1<W.heap.size:=(Array.getElem?_eq_some_iff.1 hl).1;have hy:=run_yield (P:=P) (args:=encs y) hl (by rw [hrec];exact hps y);rw [hrec] at hy;refine ⟨fn,_,assign,body,hy,roundIn_of_wpIn hfn (hassign _ pre y W _ oq_ hi hlen ?_)⟩;clear hy;intro a' Wa hga hax;have hka:Kp W Wa:=hKg W Wa oq_ hga;have hia:=hI pre W Wa none hi hga (fun r e=>by cases e);have hela:=hEg pre y W Wa hga hlen;have hla:Wa.heap[w.heap.size+1]? = some (.loop (rec .ready none)):=(hga.block _ hlt sq_).trans hl;have hkka:Wa.heap[w.heap.size]? = some (.deferred (some [])):=(hga.block _ oq_ sq_).trans hk;have hlta:w.heap.size+1<Wa.heap.size:=(Array.getElem?_eq_some_iff.1 hla).1;clear hi hl hk hlen hlt;refine ⟨_,run_beginRound hla (by rw [hrec]),?_⟩;have hl2:(Wa.putObj (w.heap.size+1) (.loop { rec .ready none with state:=.busy })).heap[w.heap.size+1]? = some (.loop { rec .ready none with state:=.busy }):=World.putObj_heap_same hlta;have hk2:(Wa.putObj (w.heap.size+1) (.loop { rec .ready none with state:=.busy })).heap[w.heap.size]? = some (.deferred (some [])):=(World.putObj_heap_other oq_).trans hkka;have hw2:Kp W (Wa.putObj (w.heap.size+1) (.loop { rec .ready none with state:=.busy })):=hKt hka (hKb _ _ _ _ oq_ hla rfl);refine wpIn_mono (hbody _ pre y a' _ oq_ ⟨_,hl2⟩ (hI.putObj _ hia oq_ hla rfl) (hEy _ _ _ _ _ _ hla rfl hela) (hAx _ _ _ _ _ _ oq_ hla rfl hax)) ?_;have fin:∀ (jump:Option Code) (W3:World),KeepsFrom w.heap.size (Wa.putObj (w.heap.size+1) (.loop { rec .ready none with state:=.busy })) W3->
     (Instr.endRound (w.heap.size+1) jump).run P W3=.ok (.bool jump.isNone) (W3.putObj (w.heap.size+1) (.loop (rec (if jump.isNone then .ready else .done) jump)))∧
     W3.heap[w.heap.size+1]? = some (.loop { rec .ready none with state:=.busy })∧
     (W3.putObj (w.heap.size+1) (.loop (rec (if jump.isNone then .ready else .done) jump))).heap[w.heap.size+1]? = some (.loop (rec (if jump.isNone then .ready else .done) jump))∧
     (W3.putObj (w.heap.size+1) (.loop (rec (if jump.isNone then .ready else .done) jump))).heap[w.heap.size]? = some (.deferred (some [])):=fun jump W3 hk3=>by
    have hl3:=hk3.same _ _ oq_ hl2 rfl;have:=run_endRound (P:=P) jump hl3;rw [hrec] at this ⊢;exact ⟨this,by rw [hrec] at hl3;exact hl3,World.putObj_heap_same (Array.getElem?_eq_some_iff.1 hl3).1,(World.putObj_heap_other oq_).trans (hk3.same _ _ (Nat.le_refl _) hk2 rfl)⟩
   rintro e a3 W3 hp;cases e with
   | normal=>
    obtain ⟨hk3,hkp3,hi3⟩:=hp;obtain ⟨hr,hl3,hl4,hk4⟩:=fin none W3 hk3;exact ⟨_,_,hr,.inl ⟨rfl,⟨hI.putObj _ hi3 oq_ hl3 rfl,hl4,hk4⟩,hKt (hKt hw2 hkp3) (hKb _ _ _ _ oq_ hl3 rfl)⟩⟩
   | ret=>
    obtain ⟨hk3,hi3⟩:=hp;obtain ⟨hr,hl3,hl4,hk4⟩:=fin (some .ret) W3 hk3;exact ⟨_,_,hr,.inr ⟨rfl,.ret,(hIx _).putObj _ hi3 oq_ hl3 rfl,hl4,hk4⟩⟩
   | exit id=>
    obtain ⟨hk3,hi3⟩:=hp;obtain ⟨hr,hl3,hl4,hk4⟩:=fin (some (.exit id)) W3 hk3;exact ⟨_,_,hr,.inr ⟨rfl,.exit id,(hIx _).putObj _ hi3 oq_ hl3 rfl,hl4,hk4⟩⟩
   | goto t=>
    obtain ⟨hk3,hi3⟩:=hp;obtain ⟨hr,hl3,hl4,hk4⟩:=fin (some (.goto t)) W3 hk3;exact ⟨_,_,hr,.inr ⟨rfl,.goto t,(hIx _).putObj _ hi3 oq_ hl3 rfl,hl4,hk4⟩⟩
   | panic ch=>exact hp.elim
   | outgrown=>exact hp.elim
  ·rintro e W2 ⟨⟨v,rfl⟩,(⟨xs,hS,hi,hl,hk⟩|⟨pre,c,hi,hl,hk⟩)⟩
   ·exact ⟨none,_,by have:=run_endLoop (P:=P) hl (by rw [hrec];simp);rw [hrec] at this;exact this,hdone _ xs _ (Nat.le_refl _) hS (hI.putObj _ hi oq_ hl rfl) ((World.putObj_heap_other oq_).trans hk)⟩
   ·exact ⟨some c,_,by have:=run_endLoop (P:=P) hl (by rw [hrec];simp);rw [hrec] at this;exact this,hstop _ c pre _ (Nat.le_refl _) ((hIx c).putObj _ hi oq_ hl rfl) ((World.putObj_heap_other oq_).trans hk)⟩
theorem n7_ {l₀:Nat} {r₀:Loop} {α:Type} {g:Operand} {ps:Array Tmp} {assign body:Code} {Q:Exit->Act->World->Prop} {a:Act} {w:World}
  (hl₀:w.heap[l₀]? = some (.loop r₀)) {gf:Nat} {lb:Array Value} (hg:a.eval g=.func (.func gf) #[] lb) (eg:∀ args w,(callFunc gf args).run P w=.ok (.enter gf args) w)
  {encs:α->Array Value} {Kp:World->World->Prop} {x:Option Nat} {Ey:List α->α->World->Prop} {Fin:List α->Prop} (hseq:SeqZ P gf lb encs Kp x Ey Fin w)
  (hKt:∀ {A B C:World},Kp A B->Kp B C->Kp A C) (hKb:∀ (W:World) (l:Nat) (o o':Obj),w.heap.size≤l->W.heap[l]? = some o->o.isCells=false->Kp W (W.putObj l o')) (hKg:∀ (W W':World),w.heap.size≤W.heap.size->W.grownBy W' none->Kp W W') (hps:∀ y,(encs y).size=ps.size)
  (I:List α->World->Prop) (Ix:Code->List α->World->Prop) (hI:OwnX w.heap.size x I) (hIx:∀ c,OwnX w.heap.size x (Ix c))
  (hEy:∀ pre y (W:World) (l:Nat) (o o':Obj),W.heap[l]? = some o->o.isCells=false->Ey pre y W->Ey pre y (W.putObj l o')) (hEg:∀ pre y (W W':World),W.grownBy W' none->Ey pre y W->Ey pre y W') (h0:I [] w)
  (Ax:α->Act->World->Prop) (hAx:∀ y a' (W:World) (l:Nat) (o o':Obj),w.heap.size≤l->W.heap[l]? = some o->o.isCells=false->Ax y a' W->Ax y a' (W.putObj l o'))
  (hassign:∀ (l:Nat) (pre:List α) (y:α) (W:World) (K:Act->World->Prop),w.heap.size≤W.heap.size->I pre W->Ey pre y W->(∀ a' W',W.grownBy W' none->Ax y a' W'->K a' W')->
   assign.wpIn (Fence.wide.inRound l) 0 P (Exit.then K (fun _ _ _=>False)) { tmps:=(ps.zip (encs y)).foldl (fun t (p,v)=>t.setIfInBounds p v) a.tmps,defers:=[] } W)
  (hbody:∀ (l:Nat) (pre:List α) (y:α) (a':Act) (W:World),w.heap.size≤l->(∃ r,W.heap[l]? = some (.loop r))->I pre W->Ey pre y W->Ax y a' W->body.wpIn (Fence.wide.inRound l) 0 P (ownPostG w.heap.size Kp I Ix (pre ++ [y]) W) a' W)
  (hdone:∀ (xs:List α) (W:World),Fin xs->I xs W->Q .normal a W)
  (hstop:∀ (c:Code) (pre:List α) (W:World),Ix c pre W->c.wpIn (Fence.wide.inRound l₀) 0 P Q a W) :
  (Code.rangeFunc g ps assign body).wpIn (Fence.wide.inRound l₀) 0 P Q a w:=by
 refine wpIn_rangeFunc ?_;intro fn hfn;obtain ⟨rec,hrec⟩:∃ rec:LoopState->Option Code->Loop,rec=fun st pe=>{ state:=st,pending:=pe,fn,tmps:=a.tmps,params:=ps,assign,body,defers:=r₀.defers }:=⟨_,rfl⟩;obtain ⟨W1,hW1⟩:∃ W1,w.alloc (.loop (rec .ready none))=W1:=⟨_,rfl⟩;have hL1:W1.heap[w.heap.size]? = some (.loop (rec .ready none)):=by rw [<- hW1];exact World.alloc_heap_new w _
 have hI1:I [] W1:=by rw [<- hW1];exact hI.alloc _ h0
 have hb1:Below w.heap.size w W1:=by rw [<- hW1];exact (Below.refl _ w).alloc (Nat.le_refl _) _
 refine ⟨w.heap.size,[],W1,{ target:=.fn (.func gf) lb,args:=#[.func (.yield w.heap.size) #[] #[]] },W1,gf,
  #[.func (.yield w.heap.size) #[] #[]] ++ lb,W1,?_,?_,?_,?_,(fun h=>by cases h),?_⟩
 ·rw [<- hW1,hrec];exact run_enterLoop_inner hl₀ _ _ _ _ _
 ·simp only [resolve,hg];simp [go_sem]
 ·intro f' _;trivial
 ·simp [invoke,go_sem,eg]
 ·have hkeep:∀ {A B:World} {row:Option Nat} {l:Nat} {o:Obj},A.grownBy B row->(∀ r,row=some r->x=some r∧∃ o:Obj,A.heap[r]? = some o∧o.isCells=true)->A.heap[l]? = some o->o.isCells=false->B.heap[l]? = some o:=
   fun {A B row l o} hg' hr hl ho=>by
    refine (hg'.block l (Array.getElem?_eq_some_iff.1 hl).1 fun e=>?_).trans hl;obtain ⟨_,o2,ho2,hc⟩:=hr l e.symm;rw [hl] at ho2;cases ho2;rw [ho] at hc;cases hc
  refine CallsIn.inRound l₀ ?_;refine (hseq w.heap.size
   (fun pre W=>I pre W∧W.heap[w.heap.size]? = some (.loop (rec .ready none)))
   (fun pre W=>∃ c,Ix c pre W∧W.heap[w.heap.size]? = some (.loop (rec .done (some c))))
   W1 hb1
   (fun s A B row hs hg' hr=>⟨hI s A B row hs.1 hg' (fun r e=>.inl (hr r e)),hkeep hg' hr hs.2 rfl⟩)
   (fun s A B row hs hg' hr=>by
    obtain ⟨c,hc,hl⟩:=hs;exact ⟨c,hIx c s A B row hc hg' (fun r e=>.inl (hr r e)),hkeep hg' hr hl rfl⟩)
   ?_ ⟨hI1,hL1⟩).mono ?_
  ·rintro pre y W ⟨hi,hl⟩ hlen;have hlt:w.heap.size<W.heap.size:=(Array.getElem?_eq_some_iff.1 hl).1;have hy:=run_yield (P:=P) (args:=encs y) hl (by rw [hrec];exact hps y);rw [hrec] at hy;refine ⟨fn,_,assign,body,hy,roundIn_of_wpIn hfn (hassign _ pre y W _ oq_ hi hlen ?_)⟩;clear hy;intro a' Wa hga hax;have hka:Kp W Wa:=hKg W Wa oq_ hga;have hia:=hI pre W Wa none hi hga (fun r e=>by cases e);have hela:=hEg pre y W Wa hga hlen;have hla:Wa.heap[w.heap.size]? = some (.loop (rec .ready none)):=(hga.block _ hlt sq_).trans hl;have hlta:w.heap.size<Wa.heap.size:=(Array.getElem?_eq_some_iff.1 hla).1;clear hi hl hlen hlt;refine ⟨_,run_beginRound hla (by rw [hrec]),?_⟩;have hl2:(Wa.putObj w.heap.size (.loop { rec .ready none with state:=.busy })).heap[w.heap.size]? = some (.loop { rec .ready none with state:=.busy }):=World.putObj_heap_same hlta;have hw2:Kp W (Wa.putObj w.heap.size (.loop { rec .ready none with state:=.busy })):=hKt hka (hKb _ _ _ _ (Nat.le_refl _) hla rfl);refine wpIn_mono (hbody _ pre y a' _ (Nat.le_refl _) ⟨_,hl2⟩ (hI.putObj _ hia (Nat.le_refl _) hla rfl) (hEy _ _ _ _ _ _ hla rfl hela) (hAx _ _ _ _ _ _ (Nat.le_refl _) hla rfl hax)) ?_;have fin:∀ (jump:Option Code) (W3:World),KeepsFrom w.heap.size (Wa.putObj w.heap.size (.loop { rec .ready none with state:=.busy })) W3->
     (Instr.endRound w.heap.size jump).run P W3=.ok (.bool jump.isNone) (W3.putObj w.heap.size (.loop (rec (if jump.isNone then .ready else .done) jump)))∧
     W3.heap[w.heap.size]? = some (.loop { rec .ready none with state:=.busy })∧
     (W3.putObj w.heap.size (.loop (rec (if jump.isNone then .ready else .done) jump))).heap[w.heap.size]? = some (.loop (rec (if jump.isNone then .ready else .done) jump)):=fun jump W3 hk3=>by
    have hl3:=hk3.same _ _ (Nat.le_refl _) hl2 rfl;have:=run_endRound (P:=P) jump hl3;rw [hrec] at this ⊢;exact ⟨this,by rw [hrec] at hl3;exact hl3,World.putObj_heap_same (Array.getElem?_eq_some_iff.1 hl3).1⟩
   rintro e a3 W3 hp;cases e with
   | normal=>
    obtain ⟨hk3,hkp3,hi3⟩:=hp;obtain ⟨hr,hl3,hl4⟩:=fin none W3 hk3;exact ⟨_,_,hr,.inl ⟨rfl,⟨hI.putObj _ hi3 (Nat.le_refl _) hl3 rfl,hl4⟩,hKt (hKt hw2 hkp3) (hKb _ _ _ _ (Nat.le_refl _) hl3 rfl)⟩⟩
   | ret=>
    obtain ⟨hk3,hi3⟩:=hp;obtain ⟨hr,hl3,hl4⟩:=fin (some .ret) W3 hk3;exact ⟨_,_,hr,.inr ⟨rfl,.ret,(hIx _).putObj _ hi3 (Nat.le_refl _) hl3 rfl,hl4⟩⟩
   | exit id=>
    obtain ⟨hk3,hi3⟩:=hp;obtain ⟨hr,hl3,hl4⟩:=fin (some (.exit id)) W3 hk3;exact ⟨_,_,hr,.inr ⟨rfl,.exit id,(hIx _).putObj _ hi3 (Nat.le_refl _) hl3 rfl,hl4⟩⟩
   | goto t=>
    obtain ⟨hk3,hi3⟩:=hp;obtain ⟨hr,hl3,hl4⟩:=fin (some (.goto t)) W3 hk3;exact ⟨_,_,hr,.inr ⟨rfl,.goto t,(hIx _).putObj _ hi3 (Nat.le_refl _) hl3 rfl,hl4⟩⟩
   | panic ch=>exact hp.elim
   | outgrown=>exact hp.elim
  ·rintro e W2 ⟨⟨v,rfl⟩,(⟨xs,hS,hi,hl⟩|⟨pre,c,hi,hl⟩)⟩
   ·exact ⟨none,_,by have:=run_endLoop (P:=P) hl (by rw [hrec];simp);rw [hrec] at this;exact this,hdone xs _ hS (hI.putObj _ hi (Nat.le_refl _) hl rfl)⟩
   ·exact ⟨some c,_,by have:=run_endLoop (P:=P) hl (by rw [hrec];simp);rw [hrec] at this;exact this,hstop c pre _ ((hIx c).putObj _ hi (Nat.le_refl _) hl rfl)⟩
end Go
section
variable {av bv sv:Array Go.Value}{ok:Bool}{a b f:Int}{m:List (List Kal.Per)}{l:List Int}{B ab c k n nb xb yb:Nat}{o':Go.Obj}{row:Option Nat}{e:Go.TypeId}{lv v v':Go.Value}{A C W W' w:Go.World}
namespace Go.Proofs.YtkclokcenllhmaaGreat
open Go.RowKit Go.Shelf Go.Maps Kal
attribute [local go_sem] Oper.semAt_some
theorem kk_ (a1 a2:Option Addr) (n1 c1 n2 c2:Nat) (id rank len:Int) (fm:Bool) (w:World) :
  Calls Tryz.prog 61 #[.agg #[.int .i64 id,.bool fm,.int .i64 rank,.slice a1 n1 c1,.int .i64 len,.slice a2 n2 c2]] w fun e w'=>e=.returned (.bool fm)∧Below w.heap.size w w':=by
 go_enter Tryz.func61,Tryz.ntmps61
 go_wp2;go_ret;exact ⟨rfl,xE⟩
theorem m1_ (a1 a2:Option Addr) (n1 c1 n2 c2:Nat) (id rank len:Int) (fm:Bool) (ab:Nat) (i:Int) (w:World) (h:w.cell? ⟨ab,0,none⟩=some (.int .i64 i)) :
  Calls Tryz.prog 69 #[.agg #[.int .i64 id,.bool fm,.int .i64 rank,.slice a1 n1 c1,.int .i64 len,.slice a2 n2 c2],.pointer (some ⟨ab,0,none⟩)] w fun e w'=>e=.returned (.bool (fm && decide (id > i)))∧Below w.heap.size w w':=by
 have h:=a2_ h (.cells #[.int .i64 id,.bool fm,.int .i64 rank,.slice a1 n1 c1,.int .i64 len,.slice a2 n2 c2] 57);cases fm
 ·go_enter Tryz.func69,Tryz.ntmps69
  go_wp2;go_ret;exact ⟨a1_ sq_,xE⟩
 ·go_enter Tryz.func69,Tryz.ntmps69
  go_wp2;go_ret;exact ⟨a1_ sq_,xE⟩
theorem p7_ (a1 a2:Option Addr) (n1 c1 n2 c2:Nat) (id rank len:Int) (fm:Bool) (ab:Nat) (i:Int) (w:World) (h:w.cell? ⟨ab,0,none⟩=some (.int .i64 i)) :
  Calls Tryz.prog 72 #[.agg #[.int .i64 id,.bool fm,.int .i64 rank,.slice a1 n1 c1,.int .i64 len,.slice a2 n2 c2],.pointer (some ⟨ab,0,none⟩)] w fun e w'=>e=.returned (.bool (fm && decide (id≠i)))∧Below w.heap.size w w':=by
 have h:=a2_ h (.cells #[.int .i64 id,.bool fm,.int .i64 rank,.slice a1 n1 c1,.int .i64 len,.slice a2 n2 c2] 57);cases fm
 ·go_enter Tryz.func72,Tryz.ntmps72
  go_wp2;go_ret;exact ⟨a1_ sq_,xE⟩
 ·go_enter Tryz.func72,Tryz.ntmps72
  go_wp2;go_ret;exact ⟨a1_ (by by_cases q:id=i <;> simp [q,bne]),xE⟩
theorem r4_ (a1 a2:Option Addr) (n1 c1 n2 c2:Nat) (id rank len:Int) (fm:Bool) (ob:Nat) (only:Bool) (w:World) (h:w.cell? ⟨ob,0,none⟩=some (.bool only)) :
  Calls Tryz.prog 51 #[.agg #[.int .i64 id,.bool fm,.int .i64 rank,.slice a1 n1 c1,.int .i64 len,.slice a2 n2 c2],.pointer (some ⟨ob,0,none⟩)] w fun e w'=>e=.returned (.bool (fm || !only))∧Below w.heap.size w w':=by
 have h:=a2_ h (.cells #[.int .i64 id,.bool fm,.int .i64 rank,.slice a1 n1 c1,.int .i64 len,.slice a2 n2 c2] 57);cases fm
 ·go_enter Tryz.func51,Tryz.ntmps51
  go_wp2;go_ret;exact ⟨a1_ sq_,xE⟩
 ·go_enter Tryz.func51,Tryz.ntmps51
  go_wp2;go_ret;exact ⟨a1_ sq_,xE⟩
theorem cn_ (a:Option Addr) (n c:Nat) (g:Nat) (lb:Array Value) (w:World) :
  Calls Tryz.prog 50 #[.slice a n c,.func (.func g) #[] lb] w fun e w'=>e=.returned (.func (.func 94) #[] #[.pointer (some ⟨w.heap.size,0,none⟩),.pointer (some ⟨w.heap.size+1,0,none⟩)])∧w'=(w.alloc (.cells #[.slice a n c] 25)).alloc (.cells #[.func (.func g) #[] lb] 88):=by
 go_enter Tryz.func50,Tryz.ntmps50
 go_wp2;go_ret;exact ⟨rfl,rfl⟩
def EyE (S:List EntV) (pre:List EntV) (y:EntV) (W:World):Prop:=(∃ r,S=pre ++ y :: r)∧REnt W (fun _=>True) y
theorem EyE.put {S:List EntV} (pre:List EntV) (y:EntV) (W:World) (l:Nat) (o o':Obj) (hl:W.heap[l]? = some o) (ho:o.isCells=false) (h:EyE S pre y W):EyE S pre y (W.putObj l o'):=⟨h.1,h.2.1.put hl ho,h.2.2⟩
theorem EyE.grown {S:List EntV} (pre:List EntV) (y:EntV) (W W':World) (hg:W.grownBy W' none) (h:EyE S pre y W):EyE S pre y W':=⟨h.1,h.2.1.grown hg,h.2.2⟩
def d9_ (pb:Nat->Prop) (g:Nat) (lb:Array Value) (S:List EntV) (w:World):Prop:=
 SeqZ Tryz.prog g lb (fun y:EntV=>#[y.val]) (KpB pb) none (EyE S) (fun xs=>xs=S) w
def xs_ (pb:Nat->Prop) (g:Nat) (lb:Array Value) (L:List EntV) (p:EntV->Bool) (w:World):Prop:=
 ∀ (W:World) (x:EntV),KpB pb w W->x∈L->Calls Tryz.prog g (#[x.val] ++ lb) W fun e w'=>e=.returned (.bool (p x))∧Below W.heap.size W w'
theorem ng_ {α:Type} {l:List α} {d:α} {p:α->Bool} (hk:k<l.length):(l.take (k+1)).filter p=(l.take k).filter p ++ (if p (l.getD k d) then [l.getD k d] else [])∧(p (l.getD k d)=true->∃ r,l.filter p=(l.take k).filter p ++ l.getD k d :: r):=by
 rw [a6_ hk];refine ⟨?_,fun hp=>⟨(l.drop (k+1)).filter p,?_⟩⟩
 ·rw [List.take_succ_eq_append_getElem hk,List.filter_append,List.filter_cons,List.filter_nil]
 ·conv=>lhs;rw [<- List.take_append_drop k l,List.drop_eq_getElem_cons hk]
  rw [List.filter_append,List.filter_cons,if_pos hp]
theorem dm_ (F pb:Nat->Prop) (a:Option Addr) (c db ob:Nat) (L:List EntV) (g:Nat) (lb:Array Value) (p:EntV->Bool) (w:World)
  (hD:DiaL w F (.slice a L.length c) L) (hF:∀ k,F k->pb k) (hpb:∀ k,pb k->k<w.heap.size) (hdb:Bxx w db #[.slice a L.length c] 25) (hob:Bxx w ob #[.func (.func g) #[] lb] 88) (g1:pb db) (g2:pb ob)
  (eg:∀ args w,(callFunc g args).run Tryz.prog w=.ok (.enter g args) w) (hp:xs_ pb g lb L p w) :
  d9_ pb 94 #[.pointer (some ⟨db,0,none⟩),.pointer (some ⟨ob,0,none⟩)] (L.filter p) w:=by
 intro l' J Jx W hW hJ hJx hY hJ0;have hll:=hD.len;have HJ:=hq_ hJ;have HY:=hq_ hY;have HDL:=hq_ (hD.ext hW);have HF:=hq_ hF;have HPB:=hq_ (fun k (h:pb k)=>Nat.lt_of_lt_of_le (hpb k h) hW.size);have hdW:Bxx W db _ _:=hdb.below hW;have hoW:Bxx W ob _ _:=hob.below hW;have HD:=hq_ hdW;have HO:=hq_ hoW;have s0:=(hdW.cells 0).1;have HPR:=hq_ (fun (U:World) (x:EntV) (h:KpB pb W U) (hx:x∈L)=>hp U x (KpB.trans (fun k hk=>hW.block k (hpb k hk)) h) hx);have EG:=hq_ eg;clear hJ hY hJx hD hF hpb hdb hob hdW hoW hp hW eg;refine callsIn_of_wp Tryz.func94 rfl trivial ?_ rfl;simp only [Tryz.ntmps94,List.size_toArray,List.length_cons,List.length_nil,Nat.reduceAdd,Nat.reduceSub,Array.replicate_succ,Array.replicate_zero,List.push_toArray,List.append_toArray,List.nil_append,List.cons_append];gi_wp2_with fail
 clear s0;gi_loopw [5,8] (fun _ vi wr=>∃ (k:Nat),k≤L.length∧vi=.int .i64 k∧J ((L.take k).filter p) wr∧Hid (KpB pb W wr)) (fun _ vi _=>L.length-(intOf vi).toNat)
 case atStart=>exact ⟨0,oq_,rfl,hJ0,hq_ (KpB.refl _ _)⟩
 case round=>
  obtain ⟨k,hk,rfl,hJw,HKO⟩:=hrel;have HJW:=hq_ hJw;by_cases hlt:k<L.length
  ·have hlI:(k:Int)<L.length:=oq_;have hKO:=HKO.out;obtain ⟨b8,f8,x,x1,d1,x2,d2,rfl,hb8,hx,hxm,hxr,hcv,hev,e0,e1,e2,e3,e4,e5⟩:=(HDL.out.keep2 (W':=wr) (fun b hb _=>hKO b (HF.out b hb))).get hlt;obtain ⟨t1,t2⟩:=ng_ (d:=default) (p:=p) hlt;rw [hx] at t1 t2;have hpr:∀ k,pb k->k<wr.heap.size:=fun k h=>by
    have h1:=hKO k h;rw [Array.getElem?_eq_getElem (HPB.out k h)] at h1;exact (Array.getElem?_eq_some_iff.1 h1).1
   have hcall:=HPR.out (wr.alloc (.cells #[.int .i64 x.id,.bool x.firm,.int .i64 x.rank,.slice x1 x.s.cls.length d1,.int .i64 x.s.len,.slice x2 x.s.ext.length d2] 57)) x (hKO.trans (fun k hk=>(Ea (Er wr) _).block k (hpr k hk))) hxm;have hval:x.val=.agg #[.int .i64 x.id,.bool x.firm,.int .i64 x.rank,.slice x1 x.s.cls.length d1,.int .i64 x.s.len,.slice x2 x.s.ext.length d2]:=by rw [EntV.val,hcv,hev]
   rw [hval] at hcall;have o0:=a2_ (hKO.cell (a:=⟨ob,0,none⟩) g2 (HO.out.cells 0).1) (.cells #[.int .i64 x.id,.bool x.firm,.int .i64 x.rank,.slice x1 x.s.cls.length d1,.int .i64 x.s.len,.slice x2 x.s.ext.length d2] 57);have HPRR:=hq_ hpr;have HJE:=hq_ (fun w1 (hb:Below wr.heap.size wr w1)=>HJ.out _ wr w1 none HJW.out (World.grownBy.of_below hb none) (fun r e=>by cases e));have HVAL:=hq_ hval;have HXR:=hq_ hxr;have T1:=hq_ t1;have T2:=hq_ t2;have HLT:=hq_ (show k+1≤L.length by omega);cases hq:p x with
   | false=>
    rw [hq] at hcall;have HC:=hq_ hcall;have HQ:=hq_ hq;clear hcall hq hKO hpr hJw hx hxm hxr hcv hev t1 t2 hval hlt;gi_wp2_with (first|(refine ⟨trivial,?_⟩;rw [EG.out];refine ⟨fun h=>(by cases h),?_⟩;refine (callsIn_wide.2 HC.out).mono ?_;rintro e w1 ⟨rfl,hb1⟩;have HB1:=hq_ (Et (Ea (Er wr) _) hb1);clear hb1)|(refine ⟨trivial,?_⟩;apply_assumption))
    refine ⟨fun _ h=>(by cases h),?_⟩
    apply_assumption
    gi_wp2_with fail
    go_roundw
    case rel=>exact ⟨k+1,HLT.out,by go_num,by rw [T1.out,HQ.out];simp only [Bool.false_eq_true,if_false,List.append_nil];exact HJE.out _ HB1.out,hq_ (HKO.out.trans (fun k hk=>HB1.out.block k (HPRR.out k hk)))⟩
    case measure=>have:=HLT.out;simp [intOf];omega
   | true=>
    rw [hq] at hcall;have HC:=hq_ hcall;have HQ:=hq_ hq;clear hcall hq hKO hpr hJw hx hxm hxr hcv hev t1 t2 hval hlt;gi_wp2_with (first|(refine ⟨trivial,?_⟩;rw [EG.out];refine ⟨fun h=>(by cases h),?_⟩;refine (callsIn_wide.2 HC.out).mono ?_;rintro e w1 ⟨rfl,hb1⟩;have hbx:=(Bxx.new wr #[.int .i64 x.id,.bool x.firm,.int .i64 x.rank,.slice x1 x.s.cls.length d1,.int .i64 x.s.len,.slice x2 x.s.ext.length d2] 57).below hb1;have q0:=(hbx.cells 0).1;have q1:=(hbx.cells 1).1;have q2:=(hbx.cells 2).1;have q3:=(hbx.cells 3).1;have q4:=(hbx.cells 4).1;have q5:=(hbx.cells 5).1;have HB1:=hq_ (Et (Ea (Er wr) _) hb1);clear hb1 hbx;have hJ2:=HJE.out w1 HB1.out;obtain ⟨fn,tmps,assign,body,hyy,hR⟩:=HY.out _ x w1 hJ2 ⟨T2.out HQ.out,ad_.mono (HXR.out.ext HB1.out) fun _ _=>trivial⟩;rw [HVAL.out] at hyy;have HR:=hq_ hR;clear hJ2 hR))
    refine ⟨rfl,HR.out.mono ?_⟩;rintro e W' (⟨rfl,hJ',hk'⟩|⟨rfl,hJx'⟩)
    ·have HJ2:=hq_ hJ';have HK3:=hq_ hk';clear hJ' hk'
     gi_wp2
     go_roundw
     case rel=>exact ⟨k+1,HLT.out,by go_num,by rw [T1.out,HQ.out];exact HJ2.out,hq_ ((HKO.out.trans (fun k hk=>HB1.out.block k (HPRR.out k hk))).trans HK3.out)⟩
     case measure=>have:=HLT.out;simp [intOf];omega
    ·gi_wp2
     refine bodyPost_ret (results_none rfl _ _ _) rfl ?_;exact ⟨⟨_,rfl⟩,.inr ⟨_,hJx'⟩⟩
  ·obtain rfl:k=L.length:=oq_;have hkI:¬ (L.length:Int)<L.length:=oq_;gi_wp2_with fail
   refine bodyPost_end (results_none rfl _ _ _) rfl ?_;exact ⟨⟨_,rfl⟩,.inl (by have h:=HJW.out;rw [List.take_length] at h;exact h)⟩
end Go.Proofs.YtkclokcenllhmaaGreat
namespace Go.Proofs.YtkclokcenllhmaaGreat
open Go.RowKit Go.Maps Kal
theorem ve_ {α:Type} {l:List α} {d:α} (hk:k<l.length):l.take (k+1)=l.take k ++ [l.getD k d]∧∃ r,l=l.take k ++ l.getD k d :: r:=by
 rw [a6_ hk];refine ⟨List.take_succ_eq_append_getElem hk,l.drop (k+1),?_⟩
 conv=>lhs;rw [<- List.take_append_drop k l,List.drop_eq_getElem_cons hk]
theorem ne_ (F pb:Nat->Prop) (a:Option Addr) (c db:Nat) (L:List EntV) (w:World)
  (hD:DiaL w F (.slice a L.length c) L) (hF:∀ k,F k->pb k) (hpb:∀ k,pb k->k<w.heap.size) (hdb:Bxx w db #[.slice a L.length c] 25) (g1:pb db) :
  d9_ pb 99 #[.pointer (some ⟨db,0,none⟩)] L w:=by
 intro l' J Jx W hW hJ hJx hY hJ0;have hll:=hD.len;have HJ:=hq_ hJ;have HY:=hq_ hY;have HDL:=hq_ (hD.ext hW);have HF:=hq_ hF;have HPB:=hq_ (fun k (h:pb k)=>Nat.lt_of_lt_of_le (hpb k h) hW.size);have hdW:Bxx W db _ _:=hdb.below hW;have s0:=(hdW.cells 0).1;clear hJ hY hJx hD hF hpb hdb hdW hW;refine callsIn_of_wp Tryz.func99 rfl trivial ?_ rfl;simp only [Tryz.ntmps99,List.size_toArray,List.length_cons,List.length_nil,Nat.reduceAdd,Nat.reduceSub,Array.replicate_succ,Array.replicate_zero,List.push_toArray,List.append_toArray,List.nil_append,List.cons_append];gi_wp2_with fail
 clear s0;gi_loopw [4,7] (fun _ vi wr=>∃ (k:Nat),k≤L.length∧vi=.int .i64 k∧J (L.take k) wr∧Hid (KpB pb W wr)) (fun _ vi _=>L.length-(intOf vi).toNat)
 case atStart=>exact ⟨0,oq_,rfl,hJ0,hq_ (KpB.refl _ _)⟩
 case round=>
  obtain ⟨k,hk,rfl,hJw,HKO⟩:=hrel;have HJW:=hq_ hJw;by_cases hlt:k<L.length
  ·have hlI:(k:Int)<L.length:=oq_;have hKO:=HKO.out;obtain ⟨b8,f8,x,x1,d1,x2,d2,rfl,hb8,hx,hxm,hxr,hcv,hev,e0,e1,e2,e3,e4,e5⟩:=(HDL.out.keep2 (W':=wr) (fun b hb _=>hKO b (HF.out b hb))).get hlt;obtain ⟨t1,t2⟩:=ve_ (d:=default) hlt;rw [hx] at t1 t2;have hpr:∀ k,pb k->k<wr.heap.size:=fun k h=>by
    have h1:=hKO k h;rw [Array.getElem?_eq_getElem (HPB.out k h)] at h1;exact (Array.getElem?_eq_some_iff.1 h1).1
   have hval:x.val=.agg #[.int .i64 x.id,.bool x.firm,.int .i64 x.rank,.slice x1 x.s.cls.length d1,.int .i64 x.s.len,.slice x2 x.s.ext.length d2]:=by rw [EntV.val,hcv,hev]
   have hb1:Below wr.heap.size wr (wr.alloc (.cells #[.int .i64 x.id,.bool x.firm,.int .i64 x.rank,.slice x1 x.s.cls.length d1,.int .i64 x.s.len,.slice x2 x.s.ext.length d2] 57)):=Ea (Er _) _;have hJ2:=HJ.out _ wr _ none HJW.out (World.grownBy.of_below hb1 none) (fun r e=>by cases e);obtain ⟨fn,tmps,assign,body,hyy,hR⟩:=HY.out _ x _ hJ2 ⟨t2,ad_.mono (hxr.ext hb1) fun _ _=>trivial⟩;rw [hval] at hyy;have HR:=hq_ hR;have HPRR:=hq_ hpr;have HB1:=hq_ hb1;have T1:=hq_ t1;have HLT:=hq_ (show k+1≤L.length by omega);clear hR hJ2 hb1 hKO hpr hJw hx hxm hxr hcv hev t1 t2 hval hlt;gi_wp2_with fail
   refine ⟨rfl,HR.out.mono ?_⟩;rintro e W' (⟨rfl,hJ',hk'⟩|⟨rfl,hJx'⟩)
   ·have HJ2:=hq_ hJ';have HK3:=hq_ hk';clear hJ' hk'
    gi_wp2
    go_roundw
    case rel=>exact ⟨k+1,HLT.out,by go_num,by rw [T1.out];exact HJ2.out,hq_ ((HKO.out.trans (fun k hk=>HB1.out.block k (HPRR.out k hk))).trans HK3.out)⟩
    case measure=>have:=HLT.out;simp [intOf];omega
   ·gi_wp2
    refine bodyPost_ret (results_none rfl _ _ _) rfl ?_;exact ⟨⟨_,rfl⟩,.inr ⟨_,hJx'⟩⟩
  ·obtain rfl:k=L.length:=oq_;have hkI:¬ (L.length:Int)<L.length:=oq_;gi_wp2_with fail
   refine bodyPost_end (results_none rfl _ _ _) rfl ?_;exact ⟨⟨_,rfl⟩,.inl (by have h:=HJW.out;rw [List.take_length] at h;exact h)⟩
theorem nd_ (a:Option Addr) (n c:Nat) (w:World) :
  Calls Tryz.prog 55 #[.slice a n c] w fun e w'=>e=.returned (.func (.func 99) #[] #[.pointer (some ⟨w.heap.size,0,none⟩)])∧w'=w.alloc (.cells #[.slice a n c] 25):=by
 go_enter Tryz.func55,Tryz.ntmps55
 go_wp2;go_ret;exact ⟨rfl,rfl⟩
end Go.Proofs.YtkclokcenllhmaaGreat
namespace Go.Proofs.YtkclokcenllhmaaGreat
open Go.RowKit Go.Shelf Go.Maps Kal
attribute [local go_sem] Oper.semAt_some
def w6_ (s:Str) (a b:Int) (w:World) (e:Ending) (w':World):Prop:=
 ∃ (v:Value) (D:List Inst) (k:Int),e=.returned (.tuple #[v,.int .i64 k])∧Below w.heap.size w w'∧(a=b->D=[])∧(a<b->D.Pairwise LtI∧∀ y,y∈D↔WinS s a b y)∧D.length≤s.cls.length*NW a b+s.ext.length∧
  ((D.length≤4096∧k=0∧ExtL w' (fun b=>w.heap.size≤b) v D)∨(4096<D.length∧k=2∧v=.slice none 0 0))
structure LsW (w:World) (n:Nat) (sv:Array Value) (a b:Int) (E:Nat->Prop) (lv:Value) (D:List Inst) (W:World):Prop where
 below:Below w.heap.size w W
 b0:Bxx W w.heap.size sv 55
 b1:Bxx W (w.heap.size+1) #[.int .i64 a,.int .i64 b] 28
 b6:Bxx W n #[lv] 53
 row:OwnX w.heap.size (fun k=>k=w.heap.size∨k=w.heap.size+1∨k=n∨E k) W lv D
theorem LsW.grow {E:Nat->Prop} {D:List Inst} (h:LsW w n sv a b E lv D A) (hg:A.grownBy C row) (hr:∀ k,row=some k->w.heap.size≤k∧∃ o:Obj,A.heap[k]? = some o∧o.isCells=false):LsW w n sv a b E lv D C:=by
 have key:∀ {b:Nat} {c:Array Value} {t:TypeId},Bxx A b c t->Bxx C b c t:=fun {b c t} hb=>hb.grown hg fun e=>by
  obtain ⟨_,o,h1,h2⟩:=hr b e.symm;rw [hb] at h1;cases h1;cases h2
 refine ⟨h.below.grown hg h.below.size fun k e=>(hr k e).1,key h.b0,key h.b1,key h.b6,qf_ h.row hg fun k e e'=>?_⟩;obtain ⟨_,o,h1,h2⟩:=hr k e;obtain ⟨o',h3,h4⟩:=h.row.cells k e';rw [h1] at h3;cases h3;rw [h2] at h4;cases h4
theorem LsW.ext {E:Nat->Prop} {D:List Inst} (h:LsW w n sv a b E lv D A) (hb:Below A.heap.size A C):LsW w n sv a b E lv D C:=
 ⟨Et h.below hb,h.b0.below hb,h.b1.below hb,h.b6.below hb,h.row.below am_ hb⟩
theorem LsW.mono {E E':Nat->Prop} {D:List Inst} (h:LsW w n sv a b E lv D A) (hE:∀ k,E' k->E k∨A.heap.size≤k):LsW w n sv a b E' lv D A:=
 ⟨h.below,h.b0,h.b1,h.b6,h.row.mono am_ fun k hk=>by
  rcases hk with hk|hk|hk|hk
  ·exact .inl (.inl hk)
  ·exact .inl (.inr (.inl hk))
  ·exact .inl (.inr (.inr (.inl hk)))
  ·exact (hE k hk).imp (fun h=>.inr (.inr (.inr h))) id⟩
theorem LsW.push {E:Nat->Prop} {D:List Inst} (h:LsW w n sv a b E lv D A) (hn:w.heap.size+1<n) {y:Inst} (hy:InIn y)
  (hown:C.ownsRow w.heap.size 77 3 v' (D.length+1) (D.flatMap ienc ++ ienc y)) (hg:A.grownBy C lv.ownBlock) (hloc:v'.ownBlock=lv.ownBlock∨v'.ownBlock=some A.heap.size) (hA:¬ E A.heap.size) (hl:D.length<1000000) :
  LsW w n sv a b E v' (D ++ [y]) (C.setCell ⟨n,0,none⟩ v'):=by
 have hs:=h.below.size;have hl6:=h.b6.lt;have hl0:=h.b0.lt;have hl1:=h.b1.lt;have hr:=OwnG.push am_ h.row (y:=y) hy hown hg hloc (fun e=>by
  rcases e with e|e|e|e
  ·omega
  ·omega
  ·omega
  ·exact hA e) hl
 refine ⟨(h.below.grown hg h.below.size fun k e=>(h.row.row.lt k e).1).setCell (p:=⟨n,0,none⟩) (by show w.heap.size≤n;omega) _,(h.b0.grown hg fun e=>h.row.ne _ e.symm (.inl rfl)).setNe _ oq_,(h.b1.grown hg fun e=>h.row.ne _ e.symm (.inr (.inl rfl))).setNe _ oq_,a0_ 0 _ (h.b6.grown hg fun e=>h.row.ne _ e.symm (.inr (.inr (.inl rfl)))),?_⟩;exact hr.box am_ (World.grownBy.set' ⟨rfl,rfl,rfl,Nat.le_refl _,fun _ _ _=>rfl⟩ _) (.inr (.inr (.inl rfl)))
theorem kl_ (F:Nat->Prop) (cv ev:Value) (s:Str) (a b:Int) (w:World) (h:StrR w F cv ev s) (hms:MStr s) (ha:-2251799813685248≤a) (hb:b≤2251799813685248) (hab:a≤b) (hw:b-a≤5760000) :
  Calls Tryz.prog 31 #[.agg #[cv,.int .i64 s.len,ev],.agg #[.int .i64 a,.int .i64 b]] w (w6_ s a b w):=by
 have h:=h.lt;have HV:=fun W (hb:Below w.heap.size w W)=>cq_ _ cv ev s W (h.ext hb);rw [ca_.2 hms.val] at HV;obtain ⟨L,h⟩:=h;have hln:s.cls.length=L.length:=by rw [<- h.eq];exact List.length_map _
 obtain ⟨a1,c1,rfl⟩:=h.cl.form;obtain ⟨a2,c2,rfl⟩:=h.ex.form;have hl1:=h.cl.len;have hnc:=hms.val.ncls;have hnx:=hms.val.next;obtain ⟨ln1,ln2⟩:=hms.val.len;have HV:=hq_ HV;have HSL:=hq_ h;have HMS:=hq_ hms;have HLN:=hq_ hln;clear h hms;have ha2:a≤2251799813685248:=oq_;have hb2:-2251799813685248≤b:=oq_;have t1:¬ a < -2251799813685248:=oq_;have t2:¬ b > 2251799813685248:=oq_;have t3:¬ a > b:=oq_;have t4:¬ b-a > 5760000:=oq_;obtain ⟨iI,hiI,hi1,hi2,hi3⟩:=fk_;have HII:=hq_ (⟨hiI,hi1,hi2,hi3⟩:Tryz.prog.info? 77=some iI∧iI.zero=some (.agg #[.int .i64 0,.int .i64 0,.int .i64 0])∧iI.size=3∧iI.bytes=24);clear hiI hi1 hi2 hi3;refine callsIn_wide (n:=0).1 ?_;refine callsIn_of_wp_marks Tryz.func31 rfl trivial ?_ rfl;simp only [Tryz.ntmps31,List.size_toArray,List.length_cons,List.length_nil,Nat.reduceAdd,Nat.reduceSub,Array.replicate_succ,Array.replicate_zero,List.push_toArray,List.append_toArray,List.nil_append,List.cons_append];have hb0:Bxx ((w.alloc (.cells #[.slice a1 L.length c1,.int .i64 s.len,.slice a2 s.ext.length c2] 55)).alloc (.cells #[.int .i64 a,.int .i64 b] 28)) w.heap.size #[.slice a1 L.length c1,.int .i64 s.len,.slice a2 s.ext.length c2] 55:=(Bxx.at rfl).alloc _;have hb1:Bxx ((w.alloc (.cells #[.slice a1 L.length c1,.int .i64 s.len,.slice a2 s.ext.length c2] 55)).alloc (.cells #[.int .i64 a,.int .i64 b] 28)) (w.heap.size+1) #[.int .i64 a,.int .i64 b] 28:=Bxx.at sq_;have hbe:Below w.heap.size w ((w.alloc (.cells #[.slice a1 L.length c1,.int .i64 s.len,.slice a2 s.ext.length c2] 55)).alloc (.cells #[.int .i64 a,.int .i64 b] 28)):=by exact xE
 have HB0:=hq_ hb0;have HB1:=hq_ hb1;have HBE:=hq_ hbe;clear hb0 hb1 hbe hln;by_cases hab2:a=b
 ·subst hab2;gi_wp2_with (refine ⟨trivial,rfl,?_⟩;gi_at_call 75;(with_reducible refine (callsIn_wide.2 (HV.out _ HBE.out)).mono ?_);rintro e w1 ⟨rfl,h1⟩;have HW1:=hq_ h1;have hw1:=h1.size;simp only [World.size_alloc] at hw1;have hz0:w.heap.size<w1.heap.size:=oq_;have hz1:w.heap.size+1<w1.heap.size:=oq_;have x0:=((HB1.out.below h1).cells 0).1;have x1:=((HB1.out.below h1).cells 1).1;clear h1)
  refine ah_ (B:=w.heap.size) _ _ (aj_.nil _ _) fun w' hs=>?_;exact ⟨.tuple #[.slice none 0 0,.int .i64 0],by simp [results,Tryz.results31,go_sem],.slice none 0 0,[],0,rfl,(Ea (Et HBE.out HW1.out) _).trans hs.below,fun _=>rfl,fun h=>absurd h oq_,sq_,.inl ⟨sq_,rfl,⟨⟨none,0,rfl,sq_,oq_,.inl rfl⟩,sq_,sq_⟩⟩⟩
 ·gi_wp2_with (refine ⟨trivial,rfl,?_⟩;gi_at_call 75;(with_reducible refine (callsIn_wide.2 (HV.out _ HBE.out)).mono ?_);rintro e w1 ⟨rfl,h1⟩;have HW1:=hq_ h1;have hw1:=h1.size;simp only [World.size_alloc] at hw1;have hz0:w.heap.size<w1.heap.size:=oq_;have hz1:w.heap.size+1<w1.heap.size:=oq_;have HX0:=hq_ (HB0.out.below h1);have HX1:=hq_ (HB1.out.below h1);have x0:=((HB1.out.below h1).cells 0).1;have x1:=((HB1.out.below h1).cells 1).1;have y0:=((HB0.out.below h1).cells 0).1;have y1:=((HB0.out.below h1).cells 1).1;have y2:=((HB0.out.below h1).cells 2).1;clear h1)
  have hS0:LsW w w1.heap.size #[.slice a1 L.length c1,.int .i64 s.len,.slice a2 s.ext.length c2] a b (fun _=>False) (.slice none 0 0) [] (w1.alloc (.cells #[.slice none 0 0] 53)):=
   ⟨Ea (Et HBE.out HW1.out) _,HX0.out.alloc _,HX1.out.alloc _,Bxx.at rfl,OwnG.nil⟩
  have HS0:=hq_ hS0;clear x0 x1 y0 y1 y2 hS0;refine wpIn_loop (fun aa W=>∃ (k:Nat) (u8 u9 u12 u13 u14 u15 u16 u17 u18 u19 u20 u21 u22 u23 u24 u25 u26 u27 u28 u29 u30 u31 u32 u33 u34 u35 u36 u37 u38 u39 u40 u41 u42 u47 u48 u49 u50 u51 u52 u53 u54 u55 u56 u57 u58 u59 u60 u61 u62:Value) (lv:Value) (D:List Inst) (ds:List Deferred),aa=⟨#[.agg #[.slice a1 L.length c1,.int .i64 s.len,.slice a2 s.ext.length c2],.agg #[.int .i64 a,.int .i64 b],.pointer (some ⟨w.heap.size,0,none⟩),.pointer (some ⟨w.heap.size+1,0,none⟩),.slice none 0 0,.int .i64 0,.pointer (some ⟨w1.heap.size,0,none⟩),undef,u8,u9,undef,undef,u12,u13,u14,u15,u16,u17,u18,u19,u20,u21,u22,u23,u24,u25,u26,u27,u28,u29,u30,u31,u32,u33,u34,u35,u36,u37,u38,u39,u40,u41,u42,.pointer (some ⟨w.heap.size,0,none⟩),.slice a1 L.length c1,.int .i64 L.length,.int .i64 k,u47,u48,u49,u50,u51,u52,u53,u54,u55,u56,u57,u58,u59,u60,u61,u62,undef,undef,undef,undef,undef,undef,undef,undef,undef,undef,undef,undef,undef,undef,undef,undef,undef,undef,undef,undef,undef,undef,undef,undef],ds⟩∧k≤L.length∧Hid (ColI s a b k [] D)∧
   Hid (LsW w w1.heap.size #[.slice a1 L.length c1,.int .i64 s.len,.slice a2 s.ext.length c2] a b (fun _=>False) lv D W)∧Hid (aj_ w.heap.size ds W)) (fun aa _=>L.length-(intOf (aa.tmps.getD 46 undef)).toNat) ?start ?round
  case start=>exact ⟨0,_,_,_,_,_,_,_,_,_,_,_,_,_,_,_,_,_,_,_,_,_,_,_,_,_,_,_,_,_,_,_,_,_,_,_,_,_,_,_,_,_,_,_,_,_,_,_,_,_,_,_,[],rfl,oq_,hq_ ColI.start,HS0,hq_ (aj_.nil _ _)⟩
  case round=>
   rintro _ wr ⟨k,u8,u9,u12,u13,u14,u15,u16,u17,u18,u19,u20,u21,u22,u23,u24,u25,u26,u27,u28,u29,u30,u31,u32,u33,u34,u35,u36,u37,u38,u39,u40,u41,u42,u47,u48,u49,u50,u51,u52,u53,u54,u55,u56,u57,u58,u59,u60,u61,u62,lv,D,ds,rfl,hk,HC,HS,HM⟩;have hws:=HS.out.below.size;have hwl:=HS.out.b6.lt;have hzz0:w.heap.size<wr.heap.size:=oq_;have hzz1:w.heap.size+1<wr.heap.size:=oq_;by_cases hlt:k<L.length
   ·have hlI:(k:Int)<L.length:=oq_;obtain ⟨b8,f8,xa,xc,m,mi,rfl,hb8,e0,e1,hm,him,hcl⟩:=(HSL.out.below HS.out.below).cl.get hlt;rw [HSL.out.eq] at hcl;have hcm:(⟨m,mi⟩:Cls)∈s.cls:=by rw [<- hcl,a6_ (by rw [HLN.out];exact hlt)];exact List.getElem_mem _
    obtain ⟨hmi1,hmi2⟩:-4320≤mi∧mi≤4320:=HMS.out.min hcm;have HMV:=hq_ (HMS.out.mv _ hcm);have HCL:=hq_ hcl;have HMR:=hq_ hm;have r0:=a2_ ((HS.out.b0.cells 0).1) (.cells #[.slice xa m.length xc,.int .i64 mi] 130);have r1:=a2_ ((HS.out.b0.cells 1).1) (.cells #[.slice xa m.length xc,.int .i64 mi] 130);have r2:=a2_ ((HS.out.b0.cells 2).1) (.cells #[.slice xa m.length xc,.int .i64 mi] 130);have r3:=a2_ ((HS.out.b1.cells 0).1) (.cells #[.slice xa m.length xc,.int .i64 mi] 130);have r4:=a2_ ((HS.out.b1.cells 1).1) (.cells #[.slice xa m.length xc,.int .i64 mi] 130);clear hcl hm hcm him;gi_wp2_with (refine ⟨trivial,rfl,?_⟩;gi_at_call 76;(with_reducible refine (callsIn_wide.2 (u3_ (some ⟨b8,f8,none⟩) a2 xa L.length c1 s.ext.length c2 m.length xc s.len mi a b _)).mono ?_);rintro e w' ⟨rfl,rfl⟩)
    generalize hW0:(((wr.alloc _).alloc _).alloc _).alloc _=W0;have hE:Below wr.heap.size wr W0:=by rw [<- hW0];exact xE
    have hsz:W0.heap.size=wr.heap.size+1+1+1+1:=by rw [<- hW0];simp
    have hkb:Bxx W0 wr.heap.size #[.slice xa m.length xc,.int .i64 mi] 130:=by rw [<- hW0];exact (((Bxx.at rfl).alloc _).alloc _).alloc _
    have hsb:Bxx W0 (wr.heap.size+1) #[.slice (some ⟨b8,f8,none⟩) L.length c1,.int .i64 s.len,.slice a2 s.ext.length c2] 55:=by rw [<- hW0];exact ((Bxx.at sq_).alloc _).alloc _
    have hcb:Bxx W0 (wr.heap.size+1+1) #[.slice xa m.length xc,.int .i64 mi] 130:=by rw [<- hW0];exact (Bxx.at sq_).alloc _
    have hwb:Bxx W0 (wr.heap.size+1+1+1) #[.int .i64 a,.int .i64 b] 28:=by rw [<- hW0];exact Bxx.at sq_
    have HS1:=hq_ ((HS.out.mono (E':=(fun q=>wr.heap.size≤q∧q<wr.heap.size+4)) fun q hq=>.inr hq.1).ext hE);have HKW:=hq_ (KeepsOthers.of_below hE);have HM0:=hq_ (HMR.out.ext hE);have HKB:=hq_ hkb;clear hW0 r0 r1 r2 r3 r4 e0 e1 hkb;refine bf_ (α:=Int) (x:=none) (gf:=127) (lb:=#[.pointer (some ⟨wr.heap.size+1+1+1,0,none⟩),.pointer (some ⟨wr.heap.size+1,0,none⟩),.pointer (some ⟨wr.heap.size+1+1,0,none⟩)]) rfl (enters_of Tryz.func127 (by kernel_rfl) rfl)
     (u4_ (fun b=>F b∧b<w.heap.size) (fun q=>q<w.heap.size∨(wr.heap.size≤q∧q<wr.heap.size+4)) (some ⟨b8,f8,none⟩) a2 xa L.length c1 s.ext.length c2 xc (wr.heap.size+1) (wr.heap.size+1+1) (wr.heap.size+1+1+1) W0 s ⟨m,mi⟩ a b HM0.out HMV.out (fun q h=>.inl h.2) (fun q h=>oq_) hsb hcb hwb (.inr ⟨oq_,oq_⟩) (.inr ⟨oq_,oq_⟩) (.inr ⟨oq_,oq_⟩) ln1 ln2 hmi1 hmi2 oq_ oq_ oq_ oq_)
     (fun h k=>h.trans k) (fun W1 l o o' hl ho hc=>KpB.putObj (fun q h=>oq_) W1 l o o' hl ho hc) (fun W1 W2 hn hg q hq=>hg.block q oq_ sq_) (fun y=>rfl)
     (fun pre W'=>∃ lv D,ColI s a b k pre D∧LsW w w1.heap.size #[.slice (some ⟨b8,f8,none⟩) L.length c1,.int .i64 s.len,.slice a2 s.ext.length c2] a b (fun q=>wr.heap.size≤q∧q<wr.heap.size+4) lv D W'∧Bxx W' wr.heap.size #[.slice xa m.length xc,.int .i64 mi] 130∧KeepsOthers W0 W')
     (fun _ _ _=>False)
     (fun pre A' C row hI hg hr=>by
      have hr':∀ r,row=some r->W0.heap.size≤r∧∃ o:Obj,A'.heap[r]? = some o∧o.isCells=false:=fun r e=>by
       rcases hr r e with ⟨h,_⟩|h
       ·cases h
       ·exact h
      obtain ⟨lv,D,h1,h2,h3,h4⟩:=hI;refine ⟨lv,D,h1,h2.grow hg fun r e=>⟨by have:=(hr' r e).1;omega,(hr' r e).2⟩,h3.grown hg fun e=>?_,KeepsOthers.grow h4 hg fun r e=>(hr' r e).1⟩;obtain ⟨_,o,g1,g2⟩:=hr' _ e.symm;rw [h3] at g1;cases g1;cases g2)
     (fun c' pre A' C row hI hg hr=>hI)
     (fun _ _ _ _ _ _ _ _ h=>h) (fun _ _ _ _ _ h=>h) ⟨lv,D,HC.out,HS1.out,HKB.out,KeepsOthers.refl _⟩
     (fun y a' _=>a'=⟨#[.agg #[.slice (some ⟨b8,f8,none⟩) L.length c1,.int .i64 s.len,.slice a2 s.ext.length c2],.agg #[.int .i64 a,.int .i64 b],.pointer (some ⟨w.heap.size,0,none⟩),.pointer (some ⟨w.heap.size+1,0,none⟩),.slice none 0 0,.int .i64 0,.pointer (some ⟨w1.heap.size,0,none⟩),undef,.pointer (some ⟨wr.heap.size,0,none⟩),.int .i64 y,undef,undef,u12,u13,u14,u15,u16,u17,u18,u19,u20,u21,u22,u23,u24,u25,u26,u27,u28,u29,u30,u31,u32,u33,u34,u35,u36,u37,u38,u39,u40,u41,u42,.pointer (some ⟨w.heap.size,0,none⟩),.slice (some ⟨b8,f8,none⟩) L.length c1,.int .i64 L.length,.int .i64 k,.bool true,.pointer (some ⟨b8,f8+k*2,none⟩),.agg #[.slice xa m.length xc,.int .i64 mi],.agg #[.slice (some ⟨b8,f8,none⟩) L.length c1,.int .i64 s.len,.slice a2 s.ext.length c2],.agg #[.slice xa m.length xc,.int .i64 mi],.agg #[.int .i64 a,.int .i64 b],.func (.func 127) #[] #[.pointer (some ⟨wr.heap.size+1+1+1,0,none⟩),.pointer (some ⟨wr.heap.size+1,0,none⟩),.pointer (some ⟨wr.heap.size+1+1,0,none⟩)],.int .i64 y,u55,u56,u57,u58,u59,u60,u61,u62,undef,undef,undef,undef,undef,undef,undef,undef,undef,undef,undef,undef,undef,undef,undef,undef,undef,undef,undef,undef,undef,undef,undef,undef],[]⟩)
     (fun _ _ _ _ _ _ _ _ _ h=>h) ?assign ?body ?done ?stop
    case assign=>
     intro l pre y W' K _ _ _ hK
     gi_wp2
     exact hK _ _ (World.grownBy.of_below (Below.refl _ _) none) sq_
    case body=>
     rintro lp pre y _ wq ⟨lv2,D2,hC,hA,hB8,hKO⟩ hy rfl;have hd:=hy.all y sq_;have hlen:=Nat.le_trans (m5_ hy.rise hy.all ln1 ln2 hab) (by have:=ln_ hw;omega:NW a b≤4010);obtain ⟨oa,oc,rfl,-⟩:=hA.row.form;obtain ⟨hd1,hd2,hd3,hd4⟩:=hd;obtain ⟨hy1,hy2⟩:-1563749990000≤y∧y≤1563749990000:=by dsimp only at hd3 hd4;exact ⟨oq_,oq_⟩
     have q0:=(hA.b6.cells 0).1;have q1:=(hA.b0.cells 0).1;have q2:=(hA.b0.cells 1).1;have q3:=(hA.b0.cells 2).1;have q4:=(hB8.cells 0).1;have q5:=(hB8.cells 1).1;have hwq:=hKO.size;have hin:=fun U=>h0_ (some ⟨b8,f8,none⟩) a2 xa L.length c1 s.ext.length c2 m.length xc s.len mi y U ln1 ln2 hmi1 hmi2 oq_ oq_;have HIN:=hq_ hin;have HA:=hq_ hA;have HB8:=hq_ hB8;have HCC:=hq_ hC;have HKO:=hq_ hKO;have HLE:=hq_ hlen;clear hC hA hB8 hKO hy hd1 hd2 hd3 hd4 hin hlen
     gi_upto_region 13 with (fail)
     dsimp only;refine lg_ (w0:=wq) [0,1,2,3,4,5] [6,7] [55,56,57,58,59,60] [.slice oa D2.length oc,.agg #[.slice (some ⟨b8,f8,none⟩) L.length c1,.int .i64 s.len,.slice a2 s.ext.length c2],.agg #[.slice xa m.length xc,.int .i64 mi],.int .i64 y,.agg #[.int .i64 y,.int .i64 (y*1440+mi),.int .i64 (y*1440+mi+s.len)],undef] [[],[],[],[],[1,2,3],[4]] [] [5] (fun i v lo hi W=>match i with|5=>v 5=.slice (some ⟨lo 5,0,none⟩) 1 1∧lo 5<hi 5∧Bxx W (lo 5) #[.int .i64 y,.int .i64 (y*1440+mi),.int .i64 (y*1440+mi+s.len)] 77|_=>True) (.a q0 (.a q1 (.a q2 (.a q3 (.a q4 (.z q5)))))) ?steps ?fin (stab:=?stab)
     case stab=>
      refine ⟨?_,trivial⟩
      ·intro v lo hi W W' h hb;exact ⟨h.1,h.2.1,h.2.2.below hb⟩
     case steps=>
      repeat' first|exact .n|refine .d ?_ ?_|fail
      all_goals try exact stw
      ·rintro v lo hi W hb ⟨g0,g1,g2,g3,g4,g5⟩ _;refine .inl ⟨rfl,fun K hK=>?_⟩;simp only [ov,vat,Nat.reduceBEq,cond_true,cond_false];go_wp2_with (go_at_call 77;(with_reducible refine (HIN.out _).mono ?_);rintro e w9 ⟨rfl,hb9⟩)
       exact acx (hK w9 hb9) (by simp [ov,vat,upd])
      ·rintro v lo hi W hb ⟨g0,g1,g2,g3,g4,g5⟩ _;refine .inl ⟨rfl,fun K hK=>?_⟩;simp only [ov,vat,Nat.reduceBEq,cond_true,cond_false];go_wp2_with fail
       exact acx (hK (.slice (some ⟨W.heap.size,0,none⟩) 1 1) _ (Ea (Er _) _) ⟨rfl,sq_,Bxx.new _ _ _⟩) (by simp [ov,vat,upd])
     case fin=>
      rintro v lo hi W2 hb2 ⟨g0,g1,g2,g3,g4,g5⟩ hf hap;show wpList _ _ _ [_,_] _ _;obtain ⟨-,-,-,e5,-,hb5⟩:=hf 5 rfl;have e0:v 0=.slice oa D2.length oc:=(hf 0 rfl).2.2.2;have hsz2:=hb2.size;have HA2:=hq_ (HA.out.ext hb2);have hD2:D2.length+1≤1000000:=by
       have h3:=HLN.out;have h1:=HCC.out.le oq_ hw;have h2:=HLE.out;rw [List.length_append] at h2;omega
      have HD2:=hq_ hD2;have HB2:=hq_ hb2
      (try dsimp only)
      rw [e5,e0];clear hD2 hb2 e5 e0 hf hap g1 g2 g3 g4 g5;generalize v 1=yv1,v 2=yv2,v 3=yv3,v 4=yv4;refine ab_ rq_ _ _ _ _ rq_ iI _ 3 24 Tryz.underlying53 HII.out.1 HII.out.2.1 HII.out.2.2.1 HII.out.2.2.2 rfl dq_ dq_ w.heap.size (.slice oa D2.length oc) D2.length (D2.flatMap ienc) (ienc ⟨y,y*1440+mi,y*1440+mi+s.len⟩) rfl rq_ HA2.out.row.row (lo 5) 1 rq_ (cm_ hb5) (by simp [ienc,Value.oneCell']) HD2.out oq_ ?_;intro v' w9 hown9 hgrow9 hloc9;obtain ⟨na,nc,rfl⟩:=a5_ hown9;have d2:=(HA2.out.b6.grown hgrow9 fun e=>HA2.out.row.ne _ e.symm (.inr (.inr (.inl rfl)))).cells 0;have d3:=d2.1;have d4:=d2.2;have HO9:=hq_ hown9;have HG9:=hq_ hgrow9;have HL9:=hq_ hloc9;clear hown9 hgrow9 hloc9 d2 hb5 g0;go_wp2_with fail
      have HP:=HA2.out.push (y:=⟨y,y*1440+mi,y*1440+mi+s.len⟩) oq_ (by refine ⟨⟨?_,?_⟩,⟨?_,?_⟩,?_,?_⟩ <;> dsimp only <;> omega) HO9.out HG9.out HL9.out oq_ (by have:=HD2.out;omega);have hne:=HA2.out.row.ne;have hlt9:=HA2.out.row.row.lt;refine ⟨((KeepsOthers.grown_cells (KeepsOthers.of_below HB2.out) HG9.out HA2.out.row.cells).trans (KeepsOthers.setCell w9 _ _)).from _,fun q hq=>?_,_,_,HCC.out.push y,(by rw [HCL.out];exact HP),?_,HKO.out.trans ((KeepsOthers.grown_cells (KeepsOthers.of_below HB2.out) HG9.out HA2.out.row.cells).trans (KeepsOthers.setCell w9 _ _))⟩
      ·have hq1:q<wq.heap.size:=oq_;refine (Below.heap_setCell _ ⟨w1.heap.size,0,none⟩ _ q (by show q≠w1.heap.size;omega)).trans ((HG9.out.block q oq_ fun e=>?_).trans (HB2.out.block q hq1));rcases hq with hq|hq
       ·have:=(hlt9 q e.symm).1;omega
       ·exact hne q e.symm (.inr (.inr (.inr hq)))
      ·exact Bxx.setNe ((HB8.out.below HB2.out).grown HG9.out fun e=>hne _ e.symm (.inr (.inr (.inr ⟨oq_,oq_⟩)))) _ oq_
    case done=>
     rintro D' xs W' hD' hfin ⟨lv2,D2,hC,hA,hB8,hKO⟩ hdef;have HC2:=hq_ (hC.done (by rw [HCL.out];exact hfin.iff) (m5_ hfin.rise (fun d hd=>(hfin.iff d).1 hd) ln1 ln2 hab));have HA1:=hq_ (hA.mono (E':=fun _=>False) fun q hq=>hq.elim);have HM1:=hq_ (aj_.cons (D:=D') HM.out oq_ ((HKW.out.trans hKO).from _) oq_ hdef);clear hfin hA hKO hdef hsb hcb hwb hC hB8;gi_wp2_with fail
     exact ⟨⟨k+1,_,_,_,_,_,_,_,_,_,_,_,_,_,_,_,_,_,_,_,_,_,_,_,_,_,_,_,_,_,_,_,_,_,_,_,_,_,_,_,_,_,_,_,_,_,_,_,_,_,_,_,_,by push_cast;rfl,oq_,HC2,HA1,HM1⟩,by simp [intOf];omega⟩
    case stop=>
     intro D' c' pre W' hD' h;exact h.elim
   ·obtain rfl:k=L.length:=oq_;have hkI:¬ (L.length:Int)<L.length:=oq_;have q1:=(HS.out.b0.cells 2).1;gi_wp2_with fail
    refine wpIn_wide.2 ?_;have HC0:Hid (ColX s a b 0 D):=hq_ (ColI.ext (by rw [HLN.out];exact HC.out));have HMI:=HMS;clear q1 hkI;go_loopw [66] (fun kv wr=>∃ (q:Nat) (lv:Value) (D:List Inst),kv=.int .i64 q∧q≤s.ext.length∧Hid (ColX s a b q D)∧Hid (LsW w w1.heap.size #[.slice a1 L.length c1,.int .i64 s.len,.slice a2 s.ext.length c2] a b (fun _=>False) lv D wr)∧Hid (aj_ w.heap.size ds wr)) (fun kv _=>s.ext.length-(intOf kv).toNat)
    case atStart=>exact ⟨0,lv,D,rfl,oq_,HC0,HS,HM⟩
    case round=>
     obtain ⟨q,lv2,D2,rfl,hq,HX,HA,HK⟩:=hrel;obtain ⟨wk,hwk⟩:∃ x,x=wr:=⟨_,rfl⟩;subst hwk;have hws2:=HA.out.below.size;have hwl2:=HA.out.b6.lt;by_cases hlt:q<s.ext.length
     ·have hlI:(q:Int)<s.ext.length:=oq_;have HLT:=hq_ (show q+1≤s.ext.length by omega);obtain ⟨b9,f9,x,rfl,hb9,hx,hxi,x0,x1,x2⟩:=(HSL.out.below HA.out.below).ex.get hlt;have HXE:=hq_ hx;have HXI:=hq_ hxi;obtain ⟨xd,xf,xt⟩:=x;dsimp only at x0 x1 x2;have r3:=a2_ ((HA.out.b1.cells 0).1) (.cells #[.int .i64 xd,.int .i64 xf,.int .i64 xt] 77);have r4:=a2_ ((HA.out.b1.cells 1).1) (.cells #[.int .i64 xd,.int .i64 xf,.int .i64 xt] 77);have hco:=fun U=>hy_ xf xt a b U;by_cases hc:ae_ xf xt a b
      ·rw [decide_eq_true hc] at hco;have HCO:=hq_ hco;have HCL:=hq_ hc;clear hco hc hx hxi hlt;go_wp2_with (first|(go_at_call 78;(with_reducible refine (HCO.out _).mono ?_);rintro e w5 ⟨rfl,hb5⟩;obtain ⟨oa,oc,rfl,-⟩:=HA.out.row.form;have HA5:=hq_ (HA.out.ext (Et (Ea (Er wk) (.cells #[.int .i64 xd,.int .i64 xf,.int .i64 xt] 77)) hb5));have q6:=(HA5.out.b6.cells 0).1;have hbx:=(Bxx.new wk #[.int .i64 xd,.int .i64 xf,.int .i64 xt] 77).below hb5;have q7:=(hbx.cells 0).1;have q8:=(hbx.cells 1).1;have q9:=(hbx.cells 2).1;have HA6:=hq_ (HA5.out.ext (Ea (Er w5) (.cells #[.int .i64 xd,.int .i64 xf,.int .i64 xt] 77)));have HB5:=hq_ (Et (Ea (Er wk) (.cells #[.int .i64 xd,.int .i64 xf,.int .i64 xt] 77)) hb5);clear hb5 hbx)|(at_builtin;(refine ab_ rq_ _ _ _ _ rq_ iI _ 3 24 Tryz.underlying53 HII.out.1 HII.out.2.1 HII.out.2.2.1 HII.out.2.2.2 rfl dq_ dq_ w.heap.size (.slice oa D2.length oc) D2.length (D2.flatMap ienc) (ienc ⟨xd,xf,xt⟩) rfl rq_ HA6.out.row.row w5.heap.size 1 rq_ (cm_ (Bxx.new w5 #[.int .i64 xd,.int .i64 xf,.int .i64 xt] 77)) (by simp [ienc,Value.oneCell']) (by have:=HX.out.le oq_ hw;have:=HLT.out;omega) (by have:=HA6.out.below.size;exact this) ?_);intro v' w9 hown9 hgrow9 hloc9;obtain ⟨na,nc,rfl⟩:=a5_ hown9;have d2:=(HA6.out.b6.grown hgrow9 fun e=>HA6.out.row.ne _ e.symm (.inr (.inr (.inl rfl)))).cells 0;have d3:=d2.1;have d4:=d2.2;have HO9:=hq_ hown9;have HG9:=hq_ hgrow9;have HL9:=hq_ hloc9;clear hown9 hgrow9 hloc9 d2))
       go_roundw
       case rel=>
        have HP:=HA6.out.push (y:=⟨xd,xf,xt⟩) oq_ HXI.out HO9.out HG9.out HL9.out (fun h=>h) (by have:=HX.out.le oq_ hw;have:=HLT.out;omega);exact ⟨q+1,_,_,by go_num,HLT.out,hq_ (by have h:=HX.out.push (by rw [HXE.out];exact HCL.out);rw [HXE.out] at h;exact h),hq_ HP,hq_ (HK.out.keep (((KeepsOthers.grown_cells (KeepsOthers.of_below (Ea HB5.out _)) HG9.out HA6.out.row.cells).trans (KeepsOthers.setCell w9 _ _)).from _))⟩
       case measure=>have:=HLT.out;simp [intOf];omega
      ·rw [decide_eq_false hc] at hco;have HCO:=hq_ hco;have HCL:=hq_ hc;clear hco hc hx hxi hlt;go_wp2_with (go_at_call 78;(with_reducible refine (HCO.out _).mono ?_);rintro e w5 ⟨rfl,hb5⟩;have HB5:=hq_ (Et (Ea (Er wk) (.cells #[.int .i64 xd,.int .i64 xf,.int .i64 xt] 77)) hb5);clear hb5)
       go_roundw
       case rel=>exact ⟨q+1,_,_,by go_num,HLT.out,hq_ (HX.out.skip (by rw [HXE.out];exact HCL.out)),hq_ (HA.out.ext HB5.out),hq_ (HK.out.keep ((KeepsOthers.of_below HB5.out).from _))⟩
       case measure=>have:=HLT.out;simp [intOf];omega
     ·obtain rfl:q=s.ext.length:=oq_;have hkI:¬ (s.ext.length:Int)<s.ext.length:=oq_;obtain ⟨oa,oc,rfl,hoc1,hoc2,hnil⟩:=HA.out.row.form;have hD1:D2.length≤1000000:=HA.out.row.len;have hDX:∀ x∈D2,InIn x:=fun x hx=>((HX.out.fin x).1 hx).inn HMS.out;have q6:=(HA.out.b6.cells 0).1;have q7:=(HA.out.b6.cells 0).2;have HDX:=hq_ hDX;have HAB:=hq_ hab2;have HO1:=hq_ hoc1;clear hDX hab2 hoc1 hlt;go_wp2_with fail
      refine wpIn_wide.2 ?_;by_cases h0:D2.length=0
      ·rw [h0] at q6;have HD0:=hq_ (List.length_eq_zero_iff.1 h0);have hso:∀ U,Calls Tryz.prog 79 #[.slice oa 0 oc,.func (.func 80) #[] #[]] U fun e w'=>e=.returned (.tuple #[])∧w'=U:=fun U=>AnyF.slices_SortFunc_none Tryz.sortI oa oc _ U;have HSO:=hq_ hso;have HCP:=hq_ (fun U=>ff_ oa 0 oc U oq_);clear h0 hso hnil;go_wp2_with (first|(go_at_call 79;(with_reducible refine (HSO.out _).mono ?_);rintro e w5 ⟨rfl,hw5⟩;obtain rfl:wk=w5:=hw5.symm)|(go_at_call 81;(with_reducible refine (HCP.out _).mono ?_);rintro e w5 ⟨rfl,hw5⟩;obtain rfl:wk=w5:=hw5.symm))
       refine ah_ (B:=w.heap.size) _ _ (HK.out.keep ((KeepsOthers.setCell wk _ _).from _)) fun w' hs=>?_;refine ⟨.tuple #[.slice oa 0 oc,.int .i64 0],by simp [results,Tryz.results31,go_sem],.slice oa 0 oc,[],0,rfl,(HA.out.below.setCell (p:=⟨w1.heap.size,0,none⟩) (by show w.heap.size≤w1.heap.size;omega) _).trans hs.below,fun _=>rfl,fun _=>⟨.nil,fun y=>?_⟩,sq_,.inl ⟨sq_,rfl,⟨⟨oa,oc,rfl,sq_,hoc2,.inl rfl⟩,sq_,sq_⟩⟩⟩;have:=HX.out.fin y;rwa [HD0.out] at this
      ·obtain ⟨g,rfl⟩:=hnil.resolve_left h0;obtain ⟨hu,-,-,-,hg1,hg2⟩:=HA.out.row.insU;have hgn:=HA.out.row.ne g rfl;have hg6:g≠w1.heap.size:=fun e=>hgn (.inr (.inr (.inl e)));have hso:=t2_ g oc D2 wk hu hg2 oq_;have hlen:(srtX D2).length=D2.length:=(l0_ D2).length_eq;have hmm:∀ y,y∈srtX D2↔WinS s a b y:=fun y=>(l0_ D2).mem_iff.trans (HX.out.fin y);have hcs:∀ r,some g=some r->∃ o:Obj,wk.heap[r]? = some o∧o.isCells=true:=fun r e=>HA.out.row.cells r e;have HSO:=hq_ hso;have HMM:=hq_ hmm;have HCS:=hq_ hcs;have HG6:=hq_ hg6;clear hu hgn hso hmm hcs;by_cases h2:D2.length<2
       ·have HCP:=hq_ (fun U=>ff_ (some ⟨g,0,none⟩) D2.length oc U h2);have HLE:=hq_ hlen;have hbI:¬ (4096:Int)<D2.length:=oq_;have HL2:=hq_ h2;clear hlen h2;go_wp2_with (first|(go_at_call 79;(with_reducible refine HSO.out.mono ?_);rintro e w5 ⟨rfl,hu5,hg5⟩;have HB5:=hq_ (HA.out.b6.grown hg5 fun e=>HG6.out (by injection e with e;exact e.symm));have HU5:=hq_ hu5;have HG5:=hq_ hg5;have q8:=(HB5.out.cells 0).1;have q9:=(HB5.out.cells 0).2;clear hu5 hg5)|(go_at_call 81;(with_reducible refine (HCP.out _).mono ?_);rintro e w6 ⟨rfl,hw6⟩;obtain rfl:w5=w6:=hw6.symm))
        refine ah_ (B:=w.heap.size) _ _ (HK.out.keep (((KeepsOthers.grown_cells (KeepsOthers.refl wk) HG5.out HCS.out).trans (KeepsOthers.setCell w5 _ _)).from _)) fun w' hs=>?_;have hu6:=HU5.out.at_ (Below.heap_setCell w5 ⟨w1.heap.size,0,none⟩ (.slice (some ⟨g,0,none⟩) D2.length oc) g (by show g≠w1.heap.size;exact HG6.out));have hex:=hu6.extF (W':=w') (cap:=oc) (fun o h1 h2=>hs.cells _ _ h1 h2) (by rw [HLE.out];exact HO1.out) hoc2 (by rw [HLE.out];exact hD1) (fun x hx=>((HMM.out x).1 hx).inn HMS.out) hg1;rw [HLE.out] at hex;refine ⟨.tuple #[.slice (some ⟨g,0,none⟩) D2.length oc,.int .i64 0],by simp [results,Tryz.results31,go_sem],_,srtX D2,0,rfl,((HA.out.below.grown HG5.out HA.out.below.size fun k e=>by cases e;exact hg1).setCell (p:=⟨w1.heap.size,0,none⟩) (by show w.heap.size≤w1.heap.size;omega) _).trans hs.below,fun e=>absurd e HAB.out,fun _=>⟨?_,HMM.out⟩,by rw [HLE.out];exact HX.out.len,.inl ⟨by have:=HL2.out;rw [HLE.out];omega,rfl,hex⟩⟩;have h3:=n1_ D2;rcases hsr:srtX D2 with _|⟨x,_|⟨y,r⟩⟩
        ·exact .nil
        ·simp
        ·have h4:=HLE.out;have h5:=HL2.out;rw [hsr] at h4;simp at h4;omega
       ·have hcp:=fun U (hU:InsU U g (srtX D2)) (hgs:g<U.heap.size)=>m2_ g oc (srtX D2) U (n1_ D2) (by rw [hlen];omega) (by rw [hlen];omega) (by rw [hlen];exact HO1.out) hoc2 hU hgs;simp only [hlen] at hcp;have HCP:=hq_ hcp;have HLE:=hq_ hlen;have HL2:=hq_ h2;clear hcp hlen h2;go_wp2_with (first|(go_at_call 79;(with_reducible refine HSO.out.mono ?_);rintro e w5 ⟨rfl,hu5,hg5⟩;have HB5:=hq_ (HA.out.b6.grown hg5 fun e=>HG6.out (by injection e with e;exact e.symm));have HU5:=hq_ hu5;have HG5:=hq_ hg5;have HZ5:=hq_ (Nat.lt_of_lt_of_le hg2 hg5.size);have q8:=(HB5.out.cells 0).1;have q9:=(HB5.out.cells 0).2;clear hu5 hg5)|(go_at_call 81;(with_reducible refine (HCP.out _ HU5.out HZ5.out).mono ?_);rintro e w6 ⟨D',rfl,has6,hm6,hl6,hu6,hg6⟩;have HB6:=hq_ (HB5.out.grown hg6 fun e=>HG6.out (by injection e with e;exact e.symm));have HU6:=hq_ hu6;have HW6:=hq_ hg6;have HAS:=hq_ has6;have HM6:=hq_ hm6;have HL6:=hq_ hl6;have q10:=(HB6.out.cells 0).1;have q11:=(HB6.out.cells 0).2;clear hu6 hg6 has6 hm6 hl6;by_cases hbI:(4096:Int)<D'.length))
        ·have hbN:4096<D'.length:=oq_;refine ah_ (B:=w.heap.size) _ _ (HK.out.keep (((KeepsOthers.grown_cells (KeepsOthers.grown_cells (KeepsOthers.refl wk) HG5.out HCS.out) HW6.out (fun r e=>by cases e;exact HU5.out.isCells (by rw [HLE.out];omega))).trans (KeepsOthers.setCell w6 _ _)).from _)) fun w' hs=>?_;exact ⟨.tuple #[.slice none 0 0,.int .i64 2],by simp [results,Tryz.results31,go_sem],_,D',2,rfl,(((HA.out.below.grown HG5.out HA.out.below.size fun k e=>by cases e;exact hg1).grown HW6.out (by have:=HZ5.out;omega) fun k e=>by cases e;exact hg1).setCell (p:=⟨w1.heap.size,0,none⟩) (by show w.heap.size≤w1.heap.size;omega) _).trans hs.below,fun e=>absurd e HAB.out,fun _=>⟨HAS.out,fun y=>(HM6.out y).trans (HMM.out y)⟩,by have h1:=HL6.out;rw [HLE.out] at h1;exact Nat.le_trans h1 HX.out.len,.inr ⟨hbN,rfl,rfl⟩⟩
        ·have hbN:D'.length≤4096:=oq_;refine ah_ (B:=w.heap.size) _ _ (HK.out.keep (((KeepsOthers.grown_cells (KeepsOthers.grown_cells (KeepsOthers.refl wk) HG5.out HCS.out) HW6.out (fun r e=>by cases e;exact HU5.out.isCells (by rw [HLE.out];omega))).trans (KeepsOthers.setCell w6 _ _)).from _)) fun w' hs=>?_;have hu6:=HU6.out.at_ (Below.heap_setCell w6 ⟨w1.heap.size,0,none⟩ (.slice (some ⟨g,0,none⟩) D'.length oc) g (by show g≠w1.heap.size;exact HG6.out));have hle:=HL6.out;rw [HLE.out] at hle;have hex:=hu6.extF (W':=w') (cap:=oc) (fun o h1 h2=>hs.cells _ _ h1 h2) (by have:=HO1.out;omega) hoc2 oq_ (fun x hx=>((HMM.out x).1 ((HM6.out x).1 hx)).inn HMS.out) hg1;exact ⟨.tuple #[.slice (some ⟨g,0,none⟩) D'.length oc,.int .i64 0],by simp [results,Tryz.results31,go_sem],_,D',0,rfl,(((HA.out.below.grown HG5.out HA.out.below.size fun k e=>by cases e;exact hg1).grown HW6.out (by have:=HZ5.out;omega) fun k e=>by cases e;exact hg1).setCell (p:=⟨w1.heap.size,0,none⟩) (by show w.heap.size≤w1.heap.size;omega) _).trans hs.below,fun e=>absurd e HAB.out,fun _=>⟨HAS.out,fun y=>(HM6.out y).trans (HMM.out y)⟩,by have h1:=HL6.out;rw [HLE.out] at h1;exact Nat.le_trans h1 HX.out.len,.inl ⟨hbN,rfl,hex⟩⟩
end Go.Proofs.YtkclokcenllhmaaGreat
end
