/- Part 8 of the proof of MixedMatchesReference_said. -/
import Derived.Test.YthjnojbeimchdaaGreatQ7
import Derived.Test.YthjnojbeimchdaaGreatQ5
import Derived.Test.YthjnojbeimchdaaGreatQ6
import Derived.Test.YthjnojbeimchdaaGreatQ4
set_option linter.unusedVariables false
set_option linter.unusedSimpArgs false
set_option maxRecDepth 100000
set_option maxHeartbeats 4000000
section
variable {ops:Array Go.Oper}{e:Go.Ending}{P f r s st:Int}{l:List Int}{rest:List Go.Oper}{L:List Go.Proofs.YthjnojbeimchdaaGreat.PV}{t:List Kal.Per}{cs xs:List Go.Value}{B base c hi i j ob:Nat}{o:Go.Oper}{q qa qb:Kal.Per}{hv v:Go.Value}{W W' W1 W2 w w':Go.World}
namespace Go.Proofs.YthjnojbeimchdaaGreat
open Go.RowKit Go.Maps Kal
theorem mu_ (v1 v2:Value) (l m:List Int) (op:Int) (w:World) (h1:Ints w v1 l) (h2:Ints w v2 m) (hlen:l.length+m.length≤8796093022208) :
  Calls Tryz.prog 174 #[v1,v2,.int .i64 op] w (ib_ (b9_ op l m) w):=by
 have HV1:=hq_ h1;have HV2:=hq_ h2;obtain ⟨⟨a1,c1,rfl,_,_,_⟩,_,_⟩:=h1;obtain ⟨⟨a2,c2,rfl,_,_,_⟩,_,_⟩:=h2
 go_enter Tryz.func174,Tryz.ntmps174
 go_upto_region 2 with (fail)
 refine al_ (F:=fun U=>OwnI U w.heap.size (.slice (some ⟨w.heap.size,0,none⟩) 0 0) []∧Below w.heap.size w U) ⟨OwnI.empty (Nat.le_refl _),xE⟩ ?_;rintro W2 ⟨hown0,hE2⟩;go_wp2_with fail
 go_loopw [7,8,9] (fun o iv kv wr=>∃ (i k:Nat) (X:List Int),i≤l.length∧k≤m.length∧iv=.int .i64 i∧kv=.int .i64 k∧X.length≤i+k∧OwnI wr w.heap.size o X∧X ++ b9_ op (l.drop i) (m.drop k)=b9_ op l m∧Below w.heap.size w wr) (fun _ iv kv _=>l.length+m.length-((intOf iv).toNat+(intOf kv).toNat))
 case atStart=>exact ⟨0,0,[],oq_,oq_,rfl,rfl,sq_,hown0,rfl,hE2⟩
 case round=>
  obtain ⟨i,k,X,hi,hk,rfl,rfl,hX,hown,hC,hb⟩:=hrel;have HB:=hq_ hb;have HC:=hq_ hC;have hszr:=hb.size;obtain ⟨oa,oc,rfl⟩:=hown.form;have HOWN:=hq_ hown;clear hown hC
  by_cases hil:i<l.length
  ·have hiI:(i:Int)<l.length:=oq_;have hie:((i:Int) == (l.length:Int))=false:=by rw [beq_eq_false_iff_ne];omega
   obtain ⟨⟨a',c',he,_,_,h38⟩,_,hrg⟩:=HV1.out.ext hb;injection he with e1 _ e2
   subst e1;subst e2;rcases h38 with h38|⟨xb,xo,rfl,hcell⟩
   ·rw [h38] at hil;simp at hil
   have xc:=hcell i hil;have xI:=hrg _ (ah_ hil);unfold InI at xI;clear hcell hrg
   by_cases hkm:k<m.length
   ·have hkI:(k:Int)<m.length:=oq_;have hke:((k:Int) == (m.length:Int))=false:=by rw [beq_eq_false_iff_ne];omega
    obtain ⟨⟨a',c',he,_,_,h38⟩,_,hrg⟩:=HV2.out.ext hb;injection he with e1 _ e2
    subst e1;subst e2;rcases h38 with h38|⟨yb,yo,rfl,hcell⟩
    ·rw [h38] at hkm;simp at hkm
    have yc:=hcell k hkm;have yI:=hrg _ (ah_ hkm);unfold InI at yI;clear hcell hrg;rcases Int.lt_trichotomy (l.getD i 0) (m.getD k 0) with hlt|heq|hgt
    ·have hst:=m3_ (op:=op) hil (fun _=>hlt);generalize l.getD i 0=x at *;generalize m.getD k 0=y at *;have d1:decide (x<y)=true:=by simp [hlt]
     by_cases hcd:op≠0
     ·have hc:op≠0:=hcd;have dc:(op != 0)=true:=by first|(simp at hc;simp [hc];done)|(simp [hc];done)
      have HST:=hq_ (hst.trans (if_pos hc));clear hst hcd hc hb;go_wp2_with fail
      go_quiet (fail)
      go_wp2_with (at_builtin;refine aj_ rq_ _ _ rq_ w.heap.size (.slice oa X.length oc) X x rq_ (HOWN.out.ext xE) _ _ rq_ (by first|(simp;done)|exact ((Bxx.new _ #[.int .i64 x] _).cells 0).1) ⟨oq_,oq_⟩ oq_ tq_ ?_;intro gg cap w6 hown6 hgrow6 hbel6)
      go_roundw
      case rel=>
       refine ⟨i+1,k,X ++ [x],oq_,oq_,by first|rfl|go_num,by first|rfl|go_num,tq_,hown6,?_,by have hb:=HB.out;refine Below.trans ?_ hbel6;exact xE⟩;rw [<- HC.out,HST.out,List.append_assoc];rfl
      case measure=>simp [intOf];omega
     ·have hc:¬ (op≠0):=hcd;have dc:(op != 0)=false:=by first|(simp at hc;simp [hc];done)|(simp [hc];done)
      have HST:=hq_ (hst.trans (if_neg hc));clear hst hcd hc hb;go_wp2_with fail
      go_quiet (fail)
      go_wp2_with fail
      go_roundw
      case rel=>
       refine ⟨i+1,k,X,oq_,oq_,by first|rfl|go_num,by first|rfl|go_num,oq_,HOWN.out.ext xE,?_,by have hb:=HB.out;exact xE⟩;rw [<- HC.out,HST.out]
      case measure=>simp [intOf];omega
    ·have hst:=qh_ (op:=op) hil hkm heq;rw [<- heq] at yc yI;clear heq;generalize l.getD i 0=x at *;have d1:decide (x<x)=false:=by simp
     by_cases hcd:op≠2
     ·have hc:op≠2:=hcd;have dc:(op != 2)=true:=by first|(simp at hc;simp [hc];done)|(simp [hc];done)
      have HST:=hq_ (hst.trans (if_pos hc));clear hst hcd hc hb;go_wp2_with fail
      go_quiet (fail)
      go_wp2_with fail
      go_quiet (fail)
      go_wp2_with (at_builtin;refine aj_ rq_ _ _ rq_ w.heap.size (.slice oa X.length oc) X x rq_ (HOWN.out.ext xE) _ _ rq_ (by first|(simp;done)|exact ((Bxx.new _ #[.int .i64 x] _).cells 0).1) ⟨oq_,oq_⟩ oq_ tq_ ?_;intro gg cap w6 hown6 hgrow6 hbel6)
      go_roundw
      case rel=>
       refine ⟨i+1,k+1,X ++ [x],oq_,oq_,by first|rfl|go_num,by first|rfl|go_num,tq_,hown6,?_,by have hb:=HB.out;refine Below.trans ?_ hbel6;exact xE⟩;rw [<- HC.out,HST.out,List.append_assoc];rfl
      case measure=>simp [intOf];omega
     ·have hc:¬ (op≠2):=hcd;have dc:(op != 2)=false:=by first|(simp at hc;simp [hc];done)|(simp [hc];done)
      have HST:=hq_ (hst.trans (if_neg hc));clear hst hcd hc hb;go_wp2_with fail
      go_quiet (fail)
      go_wp2_with fail
      go_quiet (fail)
      go_wp2_with fail
      go_roundw
      case rel=>
       refine ⟨i+1,k+1,X,oq_,oq_,by first|rfl|go_num,by first|rfl|go_num,oq_,HOWN.out.ext xE,?_,by have hb:=HB.out;exact xE⟩;rw [<- HC.out,HST.out]
      case measure=>simp [intOf];omega
    ·have hst:=me_ (op:=op) (l:=l) (i:=i) hkm (fun _=>hgt);generalize l.getD i 0=x at *;generalize m.getD k 0=y at *;have d1:decide (x<y)=false:=by simp;omega
     have d2:decide (y<x)=true:=by simp [hgt]
     by_cases hcd:op=1
     ·have hc:op=1:=hcd;have dc:(op == 1)=true:=by first|(simp at hc;simp [hc];done)|(simp [hc];done)
      have HST:=hq_ (hst.trans (if_pos hc));clear hst hcd hc hb;go_wp2_with fail
      go_quiet (fail)
      go_wp2_with fail
      go_quiet (fail)
      go_wp2_with (at_builtin;refine aj_ rq_ _ _ rq_ w.heap.size (.slice oa X.length oc) X y rq_ (HOWN.out.ext xE) _ _ rq_ (by first|(simp;done)|exact ((Bxx.new _ #[.int .i64 y] _).cells 0).1) ⟨oq_,oq_⟩ oq_ tq_ ?_;intro gg cap w6 hown6 hgrow6 hbel6)
      go_roundw
      case rel=>
       refine ⟨i,k+1,X ++ [y],oq_,oq_,by first|rfl|go_num,by first|rfl|go_num,tq_,hown6,?_,by have hb:=HB.out;refine Below.trans ?_ hbel6;exact xE⟩;rw [<- HC.out,HST.out,List.append_assoc];rfl
      case measure=>simp [intOf];omega
     ·have hc:¬ (op=1):=hcd;have dc:(op == 1)=false:=by first|(simp at hc;simp [hc];done)|(simp [hc];done)
      have HST:=hq_ (hst.trans (if_neg hc));clear hst hcd hc hb;go_wp2_with fail
      go_quiet (fail)
      go_wp2_with fail
      go_quiet (fail)
      go_wp2_with fail
      go_roundw
      case rel=>
       refine ⟨i,k+1,X,oq_,oq_,by first|rfl|go_num,by first|rfl|go_num,oq_,HOWN.out.ext xE,?_,by have hb:=HB.out;exact xE⟩;rw [<- HC.out,HST.out]
      case measure=>simp [intOf];omega
   ·obtain rfl:k=m.length:=oq_;have hst:=m3_ (op:=op) (m:=m) (k:=m.length) hil (fun h=>absurd h hkm);generalize l.getD i 0=x at *
    by_cases hcd:op≠0
    ·have hc:op≠0:=hcd;have dc:(op != 0)=true:=by first|(simp at hc;simp [hc];done)|(simp [hc];done)
     have HST:=hq_ (hst.trans (if_pos hc));clear hst hcd hc hb;go_wp2_with fail
     go_quiet (fail)
     go_wp2_with (at_builtin;refine aj_ rq_ _ _ rq_ w.heap.size (.slice oa X.length oc) X x rq_ (HOWN.out.ext xE) _ _ rq_ (by first|(simp;done)|exact ((Bxx.new _ #[.int .i64 x] _).cells 0).1) ⟨oq_,oq_⟩ oq_ tq_ ?_;intro gg cap w6 hown6 hgrow6 hbel6)
     go_roundw
     case rel=>
      refine ⟨i+1,m.length,X ++ [x],oq_,oq_,by first|rfl|go_num,by first|rfl|go_num,tq_,hown6,?_,by have hb:=HB.out;refine Below.trans ?_ hbel6;exact xE⟩;rw [<- HC.out,HST.out,List.append_assoc];rfl
     case measure=>simp [intOf];omega
    ·have hc:¬ (op≠0):=hcd;have dc:(op != 0)=false:=by first|(simp at hc;simp [hc];done)|(simp [hc];done)
     have HST:=hq_ (hst.trans (if_neg hc));clear hst hcd hc hb;go_wp2_with fail
     go_quiet (fail)
     go_wp2_with fail
     go_roundw
     case rel=>
      refine ⟨i+1,m.length,X,oq_,oq_,by first|rfl|go_num,by first|rfl|go_num,oq_,HOWN.out.ext xE,?_,by have hb:=HB.out;exact xE⟩;rw [<- HC.out,HST.out]
     case measure=>simp [intOf];omega
  ·obtain rfl:i=l.length:=oq_
   by_cases hkm:k<m.length
   ·have hkI:(k:Int)<m.length:=oq_;have hke:((k:Int) == (m.length:Int))=false:=by rw [beq_eq_false_iff_ne];omega
    obtain ⟨⟨a',c',he,_,_,h38⟩,_,hrg⟩:=HV2.out.ext hb;injection he with e1 _ e2
    subst e1;subst e2;rcases h38 with h38|⟨yb,yo,rfl,hcell⟩
    ·rw [h38] at hkm;simp at hkm
    have yc:=hcell k hkm;have yI:=hrg _ (ah_ hkm);unfold InI at yI;clear hcell hrg;have hst:=me_ (op:=op) (l:=l) (i:=l.length) hkm (fun h=>absurd h hil);generalize m.getD k 0=y at *
    by_cases hcd:op=1
    ·have hc:op=1:=hcd;have dc:(op == 1)=true:=by first|(simp at hc;simp [hc];done)|(simp [hc];done)
     have HST:=hq_ (hst.trans (if_pos hc));clear hst hcd hc hb;go_wp2_with fail
     go_quiet (fail)
     go_wp2_with fail
     go_quiet (fail)
     go_wp2_with (at_builtin;refine aj_ rq_ _ _ rq_ w.heap.size (.slice oa X.length oc) X y rq_ (HOWN.out.ext xE) _ _ rq_ (by first|(simp;done)|exact ((Bxx.new _ #[.int .i64 y] _).cells 0).1) ⟨oq_,oq_⟩ oq_ tq_ ?_;intro gg cap w6 hown6 hgrow6 hbel6)
     go_roundw
     case rel=>
      refine ⟨l.length,k+1,X ++ [y],oq_,oq_,by first|rfl|go_num,by first|rfl|go_num,tq_,hown6,?_,by have hb:=HB.out;refine Below.trans ?_ hbel6;exact xE⟩;rw [<- HC.out,HST.out,List.append_assoc];rfl
     case measure=>simp [intOf];omega
    ·have hc:¬ (op=1):=hcd;have dc:(op == 1)=false:=by first|(simp at hc;simp [hc];done)|(simp [hc];done)
     have HST:=hq_ (hst.trans (if_neg hc));clear hst hcd hc hb;go_wp2_with fail
     go_quiet (fail)
     go_wp2_with fail
     go_quiet (fail)
     go_wp2_with fail
     go_roundw
     case rel=>
      refine ⟨l.length,k+1,X,oq_,oq_,by first|rfl|go_num,by first|rfl|go_num,oq_,HOWN.out.ext xE,?_,by have hb:=HB.out;exact xE⟩;rw [<- HC.out,HST.out]
     case measure=>simp [intOf];omega
   ·obtain rfl:k=m.length:=oq_;have hfin:X=b9_ op l m:=by have h:=HC.out;rw [List.drop_length,List.drop_length,ij_,List.append_nil] at h;exact h
    rw [hfin] at HOWN;have HF:=hq_ hfin;clear hfin hb;go_wp2_with fail
    go_ret;exact ⟨_,rfl,by rw [HF.out];exact HOWN.out,HB.out⟩
theorem wx_ (ha:qa.WF) (hb:qb.WF) (op:Int):am_ (opS op qa.mem qb.mem) (max qa.frm qb.frm) (lcmI qa.period qb.period):=by
 have a1:=ha.per;have b1:=hb.per;have hl:=c7_ a1 b1;exact ((ha.pfrom.mono (show qa.frm≤max qa.frm qb.frm by omega)).of_dvd a1 hl cr_).op ((hb.pfrom.mono (show qb.frm≤max qa.frm qb.frm by omega)).of_dvd b1 hl cz_) (fun a b=>if op=0 then a∧b else if op=1 then a∨b else a∧¬ b) (fun n _=>Iff.rfl) oq_
theorem nd_ (l:List Int) (f:Int->Bool):(l.filter f).length+(l.filter (fun x=>!f x)).length=l.length:=by
 induction l with
 | nil=>rfl
 | cons x l ih=>
  cases h:f x <;> simp [List.filter_cons,h] <;> omega
theorem ig_ {a:Act} {Q:Exit->Act->World->Prop} (hgd:o.guard=none) (s x:Operand)
  (ho:o.op=.call { callee:=.builtin .append,args:=#[s,x],argTypes:=#[37,37] }) (base:Nat) (v:Value) (l:List Int) (y:Int) (hs:a.eval s=v) (hown:OwnI w base v l)
  (blk c:Nat) (hx:a.eval x=.slice (some ⟨blk,0,none⟩) 1 c) (hnew:w.cell? ⟨blk,0,none⟩=some (.int .i64 y)) (hy:InI y) (hlen:l.length+1≤17592186044416) (hbase:base≤w.heap.size)
  (h:∀ g cap w',OwnI w' base (.slice (some ⟨g,0,none⟩) (l.length+1) cap) (l ++ [y])->w.grownBy w' v.ownBlock->Below base w w'->(v.ownBlock=some g∨g=w.heap.size)->wpList Tryz.prog ops Q rest (a.put o.dst (.slice (some ⟨g,0,none⟩) (l.length+1) cap)) w') :
  wpList Tryz.prog ops Q (o :: rest) a w:=by
 obtain ⟨i,hi,h1,h2,h3⟩:=dt_;refine wpList_append_lies w hgd s x 37 ho base 3 i (.int .i64 0) 1 8 Tryz.underlying37 hi h1 h2 h3 rfl oq_ v l.length (l.map (Value.int .i64)) hs hown.row ⟨blk,0,none⟩ 1 c [.int .i64 y] hx rfl ?_ (by simp [Value.oneCell']) oq_ (by unfold maxLen;omega) oq_ hbase _ rfl ?_
 ·intro j u hu
  match j,hu with
  | 0,hu=>simp at hu;subst hu;exact hnew
 ·intro g cap w' hown' hgrow hg9 _;exact h g cap w' (OwnI.appended hown.rng hy hlen hown') hgrow (hown.below_grown (W0:=w) (.inr trivial) hbase hgrow) hg9
structure OL (w:World) (ob base:Nat) (st L:Int) (hv cv:Value) (hl cl:List Int) (W:World):Prop where
 below:Below w.heap.size w W
 rb:Bxx W (w.heap.size+1+1) #[.slice none 0 0,.int .i64 0,.int .i64 0,.slice none 0 0] 39
 obx:Bxx W ob #[hv,.int .i64 st,.int .i64 L,cv] 39
 hd:OwnI W base hv hl
 cy:OwnI W base cv cl
 sep:∀ k,hv.ownBlock=some k->cv.ownBlock=some k->False
 o1:w.heap.size+1+1<ob
 o2:ob<base
 o3:base≤W.heap.size
theorem OL.stepH {L:Int} {cv:Value} {hl cl:List Int} (h:OL w ob base st L hv cv hl cl W) {hv':Value} {hl':List Int} (hb:Below W.heap.size W W1)
  (ho:OwnI W2 base hv' hl') (hg:W1.grownBy W2 hv.ownBlock) (hg2:Below base W1 W2) (hp:∀ k,hv'.ownBlock=some k->hv.ownBlock=some k∨k=W1.heap.size):OL w ob base st L hv' cv hl' cl (W2.setCell ⟨ob,0,none⟩ hv'):=by
 have o1:=h.o1;have o2:=h.o2;have o3:=h.o3;have hz:=hb.size;have hz2:=hg2.size;have hbb:Below base W W2:=(hb.mono o3).trans hg2;have hcy:OwnI W2 base cv cl:=(h.cy.ext hb).kept hg (by
  cases e:cv.ownBlock with
  | none=>exact .inl rfl
  | some k=>exact .inr fun e2=>h.sep k e2.symm e)
 refine ⟨(h.below.trans (hbb.mono oq_)).setCell (p:=⟨ob,0,none⟩) tq_ _,(h.rb.upto hbb oq_).setNe _ oq_,j2_ (h.obx.upto hbb oq_),
  ho.above ((a7_.refl base W2).setCell tq_ _),hcy.above ((a7_.refl base W2).setCell tq_ _),fun k e1 e2=>?_,o1,o2,tq_⟩
 rcases hp k e1 with e3|e3
 ·exact h.sep k e3 e2
 ·have:=(h.cy.lt k e2).2;omega
theorem OL.stepC {L:Int} {cv:Value} {hl cl:List Int} (h:OL w ob base st L hv cv hl cl W) {cv':Value} {cl':List Int} (hb:Below W.heap.size W W1)
  (ho:OwnI W2 base cv' cl') (hg:W1.grownBy W2 cv.ownBlock) (hg2:Below base W1 W2) (hp:∀ k,cv'.ownBlock=some k->cv.ownBlock=some k∨k=W1.heap.size):OL w ob base st L hv cv' hl cl' (W2.setCell ⟨ob,3,none⟩ cv'):=by
 have o1:=h.o1;have o2:=h.o2;have o3:=h.o3;have hz:=hb.size;have hz2:=hg2.size;have hbb:Below base W W2:=(hb.mono o3).trans hg2;have hhd:OwnI W2 base hv hl:=(h.hd.ext hb).kept hg (by
  cases e:hv.ownBlock with
  | none=>exact .inl rfl
  | some k=>exact .inr fun e2=>h.sep k e e2.symm)
 refine ⟨(h.below.trans (hbb.mono oq_)).setCell (p:=⟨ob,3,none⟩) tq_ _,(h.rb.upto hbb oq_).setNe _ oq_,set4 (h.obx.upto hbb oq_),
  hhd.above ((a7_.refl base W2).setCell tq_ _),ho.above ((a7_.refl base W2).setCell tq_ _),fun k e1 e2=>?_,o1,o2,tq_⟩
 rcases hp k e2 with e3|e3
 ·exact h.sep k e1 e3
 ·have:=(h.hd.lt k e1).2;omega
theorem gz_ (h1 c1 h2 c2:Value) (p1 p2 qa qb q:Per) (kd:Int) (w:World) (hp1:a8_ w h1 c1 p1) (hp2:a8_ w h2 c2 p2) (hv1:Valid p1) (hv2:Valid p2) (hqa:a6_ qa p1.mem) (hqb:a6_ qb p2.mem) (hlc:lcmI qa.period qb.period≤1099511627776)
  (hkd:kd=0∨kd=1∨kd=2) (hq:a6_ q (opS kd p1.mem p2.mem)) (hcn:(sel (opS kd qa.mem qb.mem) 0 (max qa.frm qb.frm+lcmI qa.period qb.period)).length≤1048576) :
  Calls Tryz.prog 139 #[perV h1 c1 p1.frm p1.period,perV h2 c2 p2.frm p2.period,.int .i64 kd] w (b6_ q w):=by
 have hpf:=wx_ hqa.wf hqb.wf kd;have hU:∀ n,opS kd qa.mem qb.mem n↔opS kd p1.mem p2.mem n:=fun n=>by
  rcases hkd with rfl|rfl|rfl
  ·simp only [dr_,hqa.mem n,hqb.mem n]
  ·simp only [fl_,hqa.mem n,hqb.mem n]
  ·simp only [d5_,hqa.mem n,hqb.mem n]
 have hU0:∀ n,opS kd qa.mem qb.mem n->0≤n:=fun n hn=>by
  rcases hkd with rfl|rfl|rfl
  ·rw [dr_] at hn;exact hn.1.1
  ·rw [fl_] at hn;exact hn.elim (fun h=>h.1) (fun h=>h.1)
  ·rw [d5_] at hn;exact hn.1.1
 have HU:=hq_ hU;have HU0:=hq_ hU0;have HQ:=hq_ hq;have HKD:=hq_ hkd;have hkI:InI kd:=⟨oq_,oq_⟩;clear hU hU0 hq hkd;obtain ⟨a1,m1,a2,m2,rfl,rfl⟩:=hp1.inn.form;obtain ⟨a3,m3,a4,m4,rfl,rfl⟩:=hp2.inn.form;have hl1:∀ W,Below w.heap.size w W->a8_ W (.slice a1 p1.head.length m1) (.slice a2 p1.cycle.length m2) p1:=fun W hb=>hp1.ext hb;have hl2:∀ W,Below w.heap.size w W->a8_ W (.slice a3 p2.head.length m3) (.slice a4 p2.cycle.length m4) p2:=fun W hb=>hp2.ext hb;have HV1:=hq_ hv1;have HV2:=hq_ hv2;have HQA:=hq_ hqa;have HQB:=hq_ hqb;obtain ⟨b1,b2,_,b4,b5⟩:=hqa.smaller hv1.wf;obtain ⟨d1,d2,_,d4,d5⟩:=hqb.smaller hv2.wf;have za0:=hqa.wf.frm;have zb0:=hqb.wf.frm;have za1:=hqa.wf.per;have zb1:=hqb.wf.per;have e1:=hv1.frm;have e2:=hv1.per;have e3:=hv2.frm;have e4:=hv2.per;have HVA:Hid (∀ W,Below w.heap.size w W->Calls Tryz.prog 62 #[.agg #[.slice a1 p1.head.length m1,.int .i64 p1.frm,.int .i64 p1.period,.slice a2 p1.cycle.length m2]] W fun e w'=>e=.returned (.bool true)∧Below W.heap.size W w'):=hq_ (fun W hb=>by
  have h:=ca_ _ _ p1 W (hl1 W hb) ⟨by have:=hv1.wf.frm;omega,oq_⟩ ⟨by have:=hv1.wf.per;omega,oq_⟩;rw [(as_ p1).2 hv1] at h;exact h)
 have HVB:Hid (∀ W,Below w.heap.size w W->Calls Tryz.prog 62 #[.agg #[.slice a3 p2.head.length m3,.int .i64 p2.frm,.int .i64 p2.period,.slice a4 p2.cycle.length m4]] W fun e w'=>e=.returned (.bool true)∧Below W.heap.size W w'):=hq_ (fun W hb=>by
  have h:=ca_ _ _ p2 W (hl2 W hb) ⟨by have:=hv2.wf.frm;omega,oq_⟩ ⟨by have:=hv2.wf.per;omega,oq_⟩;rw [(as_ p2).2 hv2] at h;exact h)
 obtain ⟨st,hst⟩:∃ st,st=max qa.frm qb.frm:=⟨_,rfl⟩;obtain ⟨L,hL⟩:∃ L,L=lcmI qa.period qb.period:=⟨_,rfl⟩;have hL0:1≤L:=by rw [hL];exact c7_ za1 zb1
 have hst0:0≤st:=oq_;have hst1:st≤1099511627776:=oq_;have HCO:Hid (∀ W,Below w.heap.size w W->Calls Tryz.prog 173 #[.agg #[.slice a1 p1.head.length m1,.int .i64 p1.frm,.int .i64 p1.period,.slice a2 p1.cycle.length m2],.agg #[.slice a3 p2.head.length m3,.int .i64 p2.frm,.int .i64 p2.period,.slice a4 p2.cycle.length m4]] W
   fun e w'=>∃ x1 x2 x3 x4:Value,e=.returned (.tuple #[perV x1 x2 qa.frm qa.period,perV x3 x4 qb.frm qb.period,.int .i64 st,.int .i64 L])∧POx w' W.heap.size x1 x2 qa∧POx w' W.heap.size x3 x4 qb∧Below W.heap.size W w'):=hq_ (fun W hb=>by
  have h:=rp_ _ _ _ _ p1 p2 qa qb W (hl1 W hb) (hl2 W hb) hv1 hv2 hqa hqb hlc;rw [hst,hL];exact h)
 have hlL:L≤1099511627776:=by rw [hL];exact hlc
 have HST:=hq_ hst;have HLL:=hq_ hL;have hqfa:qa.frm≤1125899906842624:=oq_;have hqfb:qb.frm≤1125899906842624:=oq_;have hqpa:qa.period≤1125899906842624:=oq_;have hqpb:qb.period≤1125899906842624:=oq_;clear hp1 hp2 hv1 hv2 hqa hqb hst hL hlc;rw [<- HST.out,<- HLL.out] at hpf hcn;obtain ⟨X,hX⟩:∃ X,X=sel (opS kd qa.mem qb.mem) 0 (st+L):=⟨_,rfl⟩;rw [<- hX] at hcn;have HX:Hid (b9_ kd (sel qa.mem 0 (st+L)) (sel qb.mem 0 (st+L))=X):=hq_ (by rw [hX];exact u5_ HKD.out (Int.le_refl 0));have HXR:Hid (Rise 0 (st+L) X):=hq_ (by rw [hX];exact ad_ (Int.le_refl 0));have hA9:(sel qa.mem 0 (st+L)).length+(sel qb.mem 0 (st+L)).length≤8796093022208:=by
  have h1:=(ad_ (S:=qa.mem) (lo:=0) (hi:=st+L) (Int.le_refl _)).length_le oq_;have h2:=(ad_ (S:=qb.mem) (lo:=0) (hi:=st+L) (Int.le_refl _)).length_le oq_;omega
 have HA9:=hq_ hA9;obtain ⟨R,hR⟩:∃ R,R=qo_ X st L:=⟨_,rfl⟩;have hRf:R.frm=st:=by rw [hR];rfl
 have hRp:R.period=L:=by rw [hR];rfl
 have hRh:R.head=X.filter (fun x=>decide (x<st)):=by rw [hR];rfl
 have hRc:R.cycle=(X.filter (fun x=>!decide (x<st))).map (· - st):=by rw [hR];rfl
 have hRo:=vg_ hst0 hL0 hpf HU0.out;rw [<- hX,<- hR] at hRo;have hRl:R.head.length+R.cycle.length=X.length:=by
  rw [hRh,hRc,List.length_map];exact nd_ X _
 have HRV:Hid (Valid R):=hq_ ⟨hRo.1,by rw [hRf];omega,by rw [hRp];omega,by rw [hRl];exact hcn⟩;have HRQ:Hid (a6_ q R.mem):=hq_ (HQ.out.congr fun n=>((hRo.2 n).trans (HU.out n)).symm);have HRF:=hq_ hRf;have HRP:=hq_ hRp;have HRH:=hq_ hRh;have HRC:=hq_ hRc;have dL:(L == 0)=false:=by rw [beq_eq_false_iff_ne];omega
 have dX:¬ (1048576:Int)<(X.length:Int):=oq_;have dX2:decide ((1048576:Int)<(X.length:Int))=false:=by simp;omega
 clear hpf hX hA9 hR hRf hRp hRh hRc hRo hRl
 go_enter Tryz.func139,Tryz.ntmps139
 go_upto_region 3 with (go_at_call 62;first|((with_reducible refine (HVA.out _ xE).mono ?_);rintro e w1 ⟨rfl,hb1⟩;obtain ⟨hx1,hf1⟩:=au_ hb1;(try simp only [World.size_alloc,World.size_drew,af_,World.size_setCell] at hx1 hf1);have hz1:w.heap.size+2<w1.heap.size:=(by have h7:=hb1.size;simp at h7;omega))|((with_reducible refine (HVB.out _ xE).mono ?_);rintro e w2 ⟨rfl,hb2⟩;obtain ⟨hx2,hf2⟩:=au_ hb2;(try simp only [World.size_alloc,World.size_drew,af_,World.size_setCell] at hx2 hf2);have hz2:w.heap.size+2<w2.heap.size:=(by have h7:=hb2.size;omega)))
 have hA:Bxx w2 w.heap.size #[.slice a1 p1.head.length m1,.int .i64 p1.frm,.int .i64 p1.period,.slice a2 p1.cycle.length m2] 39:=((((Bxx.at rfl).alloc _).alloc _).upto hb1 tq_).upto hb2 oq_;have hB:Bxx w2 (w.heap.size+1) #[.slice a3 p2.head.length m3,.int .i64 p2.frm,.int .i64 p2.period,.slice a4 p2.cycle.length m4] 39:=(((Bxx.at sq_).alloc _).upto hb1 sq_).upto hb2 oq_;have hE2:Below w.heap.size w w2:=by exact xE
 have hRB:Bxx w2 (w.heap.size+1+1) #[.slice none 0 0,.int .i64 0,.int .i64 0,.slice none 0 0] 39:=((Bxx.at sq_).upto hb1 sq_).upto hb2 oq_;clear hb1 hb2 hx1 hf1 hx2 hf2 hz1;have A0:w2.cell? ⟨w.heap.size,0,none⟩=some (.slice a1 p1.head.length m1):=(hA.cells 0).1;have A1:w2.cell? ⟨w.heap.size,1,none⟩=some (.int .i64 p1.frm):=(hA.cells 1).1;have A2:w2.cell? ⟨w.heap.size,2,none⟩=some (.int .i64 p1.period):=(hA.cells 2).1;have A3:w2.cell? ⟨w.heap.size,3,none⟩=some (.slice a2 p1.cycle.length m2):=(hA.cells 3).1;have B0:w2.cell? ⟨w.heap.size+1,0,none⟩=some (.slice a3 p2.head.length m3):=(hB.cells 0).1;have B1:w2.cell? ⟨w.heap.size+1,1,none⟩=some (.int .i64 p2.frm):=(hB.cells 1).1;have B2:w2.cell? ⟨w.heap.size+1,2,none⟩=some (.int .i64 p2.period):=(hB.cells 2).1;have B3:w2.cell? ⟨w.heap.size+1,3,none⟩=some (.slice a4 p2.cycle.length m4):=(hB.cells 3).1;go_upto_region 4 with (go_at_call 173;(with_reducible refine (HCO.out _ xE).mono ?_);rintro e w3 ⟨x1,x2,x3,x4,rfl,ho1,ho2,hb3⟩;obtain ⟨a5,m5,a6,m6,rfl,rfl⟩:=ho1.form;obtain ⟨a7,m7,a8,m8,rfl,rfl⟩:=ho2.form)
 have hz2a:w.heap.size+2<w2.heap.size:=hz2;have hzz3:=hb3.size;generalize hbA:w3.heap.size=bA at *;refine al_ (F:=fun U=>Bxx U bA #[.slice a5 qa.head.length m5,.int .i64 qa.frm,.int .i64 qa.period,.slice a6 qa.cycle.length m6] 39∧Bxx U (bA+1) #[.slice a7 qb.head.length m7,.int .i64 qb.frm,.int .i64 qb.period,.slice a8 qb.cycle.length m8] 39∧a8_ U (.slice a5 qa.head.length m5) (.slice a6 qa.cycle.length m6) qa∧a8_ U (.slice a7 qb.head.length m7) (.slice a8 qb.cycle.length m8) qb∧Bxx U (w.heap.size+1+1) #[.slice none 0 0,.int .i64 0,.int .i64 0,.slice none 0 0] 39∧Below w.heap.size w U)
  ⟨(Bxx.at hbA.symm).alloc _,Bxx.at (by simp [hbA]),ho1.is.ext xE,ho2.is.ext xE,((hRB.below hb3).alloc _).alloc _,xE⟩ ?_
 clear hA hB A0 A1 A2 A3 B0 B1 B2 B3 ho1 ho2 hb3 hbA hE2 hRB;rintro W4 ⟨hqA,hqB,hpa,hpb,hRB,hE4⟩;have HPA:=hq_ hpa;have HPB:=hq_ hpb;have HE4:=hq_ hE4;have A0:W4.cell? ⟨bA,0,none⟩=some (.slice a5 qa.head.length m5):=(hqA.cells 0).1;have A1:W4.cell? ⟨bA,1,none⟩=some (.int .i64 qa.frm):=(hqA.cells 1).1;have A2:W4.cell? ⟨bA,2,none⟩=some (.int .i64 qa.period):=(hqA.cells 2).1;have A3:W4.cell? ⟨bA,3,none⟩=some (.slice a6 qa.cycle.length m6):=(hqA.cells 3).1;have B0:W4.cell? ⟨bA+1,0,none⟩=some (.slice a7 qb.head.length m7):=(hqB.cells 0).1;have B1:W4.cell? ⟨bA+1,1,none⟩=some (.int .i64 qb.frm):=(hqB.cells 1).1;have B2:W4.cell? ⟨bA+1,2,none⟩=some (.int .i64 qb.period):=(hqB.cells 2).1;have B3:W4.cell? ⟨bA+1,3,none⟩=some (.slice a8 qb.cycle.length m8):=(hqB.cells 3).1;have hlA:=hqA.lt;have hlB:=hqB.lt;clear hqA hqB hpa hpb hE4;have HRB:=hq_ hRB;have hlR:=hRB.lt;clear hRB;go_upto_region 6 with (fail)
 refine ai_ (w0:=W4) [0,1,2,3,4,5,6,7,8,9,10,11] [12] (fun v=>⟨#[perV (.slice a1 p1.head.length m1) (.slice a2 p1.cycle.length m2) p1.frm p1.period,perV (.slice a3 p2.head.length m3) (.slice a4 p2.cycle.length m4) p2.frm p2.period,.int .i64 kd,.pointer (some ⟨w.heap.size,0,none⟩),.pointer (some ⟨w.heap.size+1,0,none⟩),undef,.pointer (some ⟨w.heap.size+1+1,0,none⟩),.int .i64 0,.pointer (some ⟨bA,0,none⟩),.pointer (some ⟨bA+1,0,none⟩),.int .i64 st,.int .i64 L,undef,undef,undef,.agg #[.slice a1 p1.head.length m1,.int .i64 p1.frm,.int .i64 p1.period,.slice a2 p1.cycle.length m2],.bool true,.bool false,.bool false,.agg #[.slice a3 p2.head.length m3,.int .i64 p2.frm,.int .i64 p2.period,.slice a4 p2.cycle.length m4],.bool true,.bool false,.bool false,undef,.tuple #[perV (.slice a5 qa.head.length m5) (.slice a6 qa.cycle.length m6) qa.frm qa.period,perV (.slice a7 qb.head.length m7) (.slice a8 qb.cycle.length m8) qb.frm qb.period,.int .i64 st,.int .i64 L],.agg #[.slice a1 p1.head.length m1,.int .i64 p1.frm,.int .i64 p1.period,.slice a2 p1.cycle.length m2],.agg #[.slice a3 p2.head.length m3,.int .i64 p2.frm,.int .i64 p2.period,.slice a4 p2.cycle.length m4],.tuple #[perV (.slice a5 qa.head.length m5) (.slice a6 qa.cycle.length m6) qa.frm qa.period,perV (.slice a7 qb.head.length m7) (.slice a8 qb.cycle.length m8) qb.frm qb.period,.int .i64 st,.int .i64 L],perV (.slice a5 qa.head.length m5) (.slice a6 qa.cycle.length m6) qa.frm qa.period,perV (.slice a7 qb.head.length m7) (.slice a8 qb.cycle.length m8) qb.frm qb.period,.int .i64 st,.int .i64 L,.int .i64 L,.bool false,undef,v 0,v 1,v 2,v 3,v 4,v 5,v 6,v 7,v 8,v 9,v 10,v 11,undef,undef,undef,undef,undef,undef,undef,undef,undef,undef,undef,undef,undef,undef,undef,undef,undef,undef,undef,undef,undef,undef,undef,undef,undef,undef,undef,undef,undef,undef,undef,undef,undef,undef,undef,undef,undef,undef,undef,undef,undef,undef,undef],[]⟩) [.agg #[.slice a5 qa.head.length m5,.int .i64 qa.frm,.int .i64 qa.period,.slice a6 qa.cycle.length m6],.int .i64 st,.int .i64 L,.int .i64 (st+L),undef,.agg #[.slice a7 qb.head.length m7,.int .i64 qb.frm,.int .i64 qb.period,.slice a8 qb.cycle.length m8],.int .i64 st,.int .i64 L,.int .i64 (st+L),undef,.int .i64 kd,undef] [4,9,11] (fun i v lo hi W=>match i with|4=>Ints W (v 4) (sel qa.mem 0 (st+L))|9=>Ints W (v 9) (sel qb.mem 0 (st+L))|11=>Ints W (v 11) X|_=>True) (fun W=>(W.cell? ⟨bA,0,none⟩=some (.slice a5 qa.head.length m5)∧W.cell? ⟨bA,1,none⟩=some (.int .i64 qa.frm)∧W.cell? ⟨bA,2,none⟩=some (.int .i64 qa.period)∧W.cell? ⟨bA,3,none⟩=some (.slice a6 qa.cycle.length m6))∧(W.cell? ⟨bA+1,0,none⟩=some (.slice a7 qb.head.length m7)∧W.cell? ⟨bA+1,1,none⟩=some (.int .i64 qb.frm)∧W.cell? ⟨bA+1,2,none⟩=some (.int .i64 qb.period)∧W.cell? ⟨bA+1,3,none⟩=some (.slice a8 qb.cycle.length m8))∧a8_ W (.slice a5 qa.head.length m5) (.slice a6 qa.cycle.length m6) qa∧a8_ W (.slice a7 qb.head.length m7) (.slice a8 qb.cycle.length m8) qb) (fun W hb=>⟨⟨cux A0 hb,cux A1 hb,cux A2 hb,cux A3 hb⟩,⟨cux B0 hb,cux B1 hb,cux B2 hb,cux B3 hb⟩,HPA.out.ext hb,HPB.out.ext hb⟩) ?stab ?loc ?steps ?fin
 case stab=>
  refine ⟨?_,?_,?_,trivial⟩
  ·intro v lo hi W W' h hb;exact h.ext hb
  ·intro v lo hi W W' h hb;exact h.ext hb
  ·intro v lo hi W W' h hb;exact h.ext hb
 case loc=>
  refine ⟨?_,?_,?_,trivial⟩
  ·intro v v' lo lo' hi hi' W hag h;have q:=hag 4 (.inl rfl)
   (try dsimp only at h ⊢)
   simp only [q.1,q.2.1,q.2.2] at h;exact h
  ·intro v v' lo lo' hi hi' W hag h;have q:=hag 9 (.inl rfl)
   (try dsimp only at h ⊢)
   simp only [q.1,q.2.1,q.2.2] at h;exact h
  ·intro v v' lo lo' hi hi' W hag h;have q:=hag 11 (.inl rfl)
   (try dsimp only at h ⊢)
   simp only [q.1,q.2.1,q.2.2] at h;exact h
 case steps=>
  refine .c [] [] rfl ?_ (.c [] [] rfl ?_ (.c [] [] rfl ?_ (.c [1,2] [] rfl ?_ (.c [0,3] [] rfl ?_ (.c [] [] rfl ?_ (.c [] [] rfl ?_ (.c [] [] rfl ?_ (.c [6,7] [] rfl ?_ (.c [5,8] [] rfl ?_ (.c [] [] rfl ?_ (.c [10] [4,9] rfl ?_ (.n))))))))))))
  all_goals try exact stw
  ·rintro v lo hi W hb ⟨⟨g0,g1,g2,g3⟩,⟨k0,k1,k2,k3⟩,hPa,hPb⟩ _;refine .inl ⟨rfl,fun K hK=>?_⟩;simp only [ov,vat,Nat.reduceBEq,cond_true,cond_false];go_wp2_with (go_at_call 168;refine (g7_ _ _ qa 0 (st+L) _ (hPa.ext xE) HQA.out.wf oq_ oq_ oq_ oq_ oq_ oq_).mono ?_;rintro e w9 ⟨mv,rfl,ho9,hb9⟩)
   exact acx (hK mv w9 hb9 ho9.ints) (by simp [ov,vat,upd])
  ·rintro v lo hi W hb ⟨⟨g0,g1,g2,g3⟩,⟨k0,k1,k2,k3⟩,hPa,hPb⟩ _;refine .inl ⟨rfl,fun K hK=>?_⟩;simp only [ov,vat,Nat.reduceBEq,cond_true,cond_false];go_wp2_with (go_at_call 168;refine (g7_ _ _ qb 0 (st+L) _ (hPb.ext xE) HQB.out.wf oq_ oq_ oq_ oq_ oq_ oq_).mono ?_;rintro e w9 ⟨mv,rfl,ho9,hb9⟩)
   exact acx (hK mv w9 hb9 ho9.ints) (by simp [ov,vat,upd])
  ·rintro v lo hi W hb ⟨⟨g0,g1,g2,g3⟩,⟨k0,k1,k2,k3⟩,hPa,hPb⟩ ⟨⟨la4,lb4,D4⟩,⟨la9,lb9,D9⟩,_⟩;refine .inl ⟨rfl,fun K hK=>?_⟩;simp only [ov,vat,Nat.reduceBEq,cond_true,cond_false]
   (try dsimp only at D4 D9)
   go_wp2_with (go_at_call 174;refine (mu_ (v 4) (v 9) _ _ kd _ D4 D9 HA9.out).mono ?_;rintro e w9 ⟨mv,rfl,ho9,hb9⟩;rw [HX.out] at ho9)
   exact acx (hK mv w9 hb9 ho9.ints) (by simp [ov,vat,upd])
 case fin=>
  rintro v lo hi W5 hb5 _ hf hap;show wpList _ _ _ [_] _ _;have hi9:Ints W5 (v 11) X:=(hf 11 rfl).2.2.2;clear hf hap
  (try dsimp only)
  have HE5:Hid (Below w.heap.size w W5):=hq_ (by have hE4:=HE4.out;exact xE);have HRB5:=hq_ (HRB.out.below hb5);have hlR5:=HRB5.out.lt;generalize v 0=y0,v 1=y1,v 2=y2,v 3=y3,v 4=y4,v 5=y5,v 6=y6,v 7=y7,v 8=y8,v 9=y9,v 10=y10;have HI9:=hq_ hi9;obtain ⟨⟨a9,c9,e9,_⟩,_,_⟩:=hi9;rw [e9];rw [e9] at HI9;clear e9 hb5 HRB HE4 HPA HPB A0 A1 A2 A3 B0 B1 B2 B3;go_upto_region 10 with (fail)
  obtain ⟨ob,hob⟩:∃ ob,ob=W5.heap.size:=⟨_,rfl⟩;have hOL:OL w ob (ob+1) st L (.slice none 0 0) (.slice none 0 0) [] [] (W5.alloc (.cells #[.slice none 0 0,.int .i64 st,.int .i64 L,.slice none 0 0] 39)):=
   ⟨by have hE:=HE5.out;exact xE,HRB5.out.alloc _,Bxx.at hob,OwnI.nil _ _,OwnI.nil _ _,fun k e=>by simp [Value.ownBlock] at e,oq_,oq_,tq_⟩
  refine al_ (F:=fun U=>OL w ob (ob+1) st L (.slice none 0 0) (.slice none 0 0) [] [] U∧IntsIn U 0 ob (.slice a9 X.length c9) X) ⟨hOL,by rw [hob];exact (HI9.out.inn).alloc _ (Nat.le_refl _)⟩ ?_;rw [<- hob];clear hOL hob HI9 HRB5 HE5 hlR5;rintro W6 ⟨hL6,hi6⟩;have HL6:=hq_ hL6;have HI6:=hq_ hi6;clear hL6 hi6;go_wp2_with fail
  go_loopw [14] (fun i wr=>∃ (k:Nat) (hv cv:Value),k≤X.length∧i=.int .i64 k∧OL w ob (ob+1) st L hv cv ((X.take k).filter (fun x=>decide (x<st))) (((X.take k).filter (fun x=>!decide (x<st))).map (· - st)) wr∧IntsIn wr 0 ob (.slice a9 X.length c9) X) (fun i _=>X.length-(intOf i).toNat)
  case atStart=>exact ⟨0,_,_,oq_,rfl,HL6.out,HI6.out⟩
  case round=>
   obtain ⟨k,hv,cv,hk,rfl,hst,hb⟩:=hrel;have HST:=hq_ hst;have HB:=hq_ hb;have o0:=(hst.obx.cells 0).1;have o1:=(hst.obx.cells 1).1;have o2:=(hst.obx.cells 2).1;have o3:=(hst.obx.cells 3).1;have oz0:=(hst.obx.cells 0).2;have oz3:=(hst.obx.cells 3).2;have hs2:=hst.o2;have hs3:=hst.o3;have hs1:=hst.o1
   by_cases hlt:k<X.length
   ·have hlI:(k:Int)<X.length:=oq_;obtain ⟨⟨a',c',he,_,_,h38⟩,hlen8,hrg⟩:=hb.ints;injection he with e1 _ e2
    subst e1;subst e2;rcases h38 with h38|⟨b8,f8,rfl,hcell⟩
    ·rw [h38] at hlt;simp at hlt
    have hcl:=hcell k hlt;have hyb:=HXR.out.2 _ (ah_ hlt);have HT:Hid (X.take (k+1)=X.take k ++ [X.getD k 0]):=hq_ (by
     rw [List.take_succ_eq_append_getElem hlt,List.getD_eq_getElem?_getD,List.getElem?_eq_getElem hlt];rfl)
    have hk2:(X.take k).length≤1048576:=by rw [List.length_take];omega
    have hH1:((X.take k).filter (fun x=>decide (x<st))).length≤1048576:=Nat.le_trans (List.length_filter_le _ _) hk2;have hH2:(((X.take k).filter (fun x=>!decide (x<st))).map (· - st)).length≤1048576:=by rw [List.length_map];exact Nat.le_trans (List.length_filter_le _ _) hk2
    have hown:=hst.hd;have howc:=hst.cy;generalize X.getD k 0=y at *
    by_cases hys:y<st
    ·have dys:decide (y<st)=true:=by simp [hys]
     have HFH:Hid ((X.take (k+1)).filter (fun x=>decide (x<st))=(X.take k).filter (fun x=>decide (x<st)) ++ [y]):=hq_ (by rw [HT.out,List.filter_append];simp [hys]);have HFC:Hid (((X.take (k+1)).filter (fun x=>!decide (x<st))).map (· - st)=((X.take k).filter (fun x=>!decide (x<st))).map (· - st)):=hq_ (by rw [HT.out,List.filter_append];simp [hys]);generalize (X.take k).filter (fun x=>decide (x<st))=HLs at *;generalize ((X.take k).filter (fun x=>!decide (x<st))).map (· - st)=CLs at *;clear hcell hrg hst hk2 howc;go_upto_region 14 with (fail)
     refine ai_ (w0:=wr) [0,1,2,3,4,5,6] [7,8,9] (fun v=>⟨#[perV (.slice a1 p1.head.length m1) (.slice a2 p1.cycle.length m2) p1.frm p1.period,perV (.slice a3 p2.head.length m3) (.slice a4 p2.cycle.length m4) p2.frm p2.period,.int .i64 kd,.pointer (some ⟨w.heap.size,0,none⟩),.pointer (some ⟨w.heap.size+1,0,none⟩),undef,.pointer (some ⟨w.heap.size+1+1,0,none⟩),.int .i64 0,.pointer (some ⟨bA,0,none⟩),.pointer (some ⟨bA+1,0,none⟩),.int .i64 st,.int .i64 L,.slice (some ⟨b8,f8,none⟩) X.length c9,.pointer (some ⟨ob,0,none⟩),.int .i64 ↑k,.agg #[.slice a1 p1.head.length m1,.int .i64 p1.frm,.int .i64 p1.period,.slice a2 p1.cycle.length m2],.bool true,.bool false,.bool false,.agg #[.slice a3 p2.head.length m3,.int .i64 p2.frm,.int .i64 p2.period,.slice a4 p2.cycle.length m4],.bool true,.bool false,.bool false,undef,.tuple #[perV (.slice a5 qa.head.length m5) (.slice a6 qa.cycle.length m6) qa.frm qa.period,perV (.slice a7 qb.head.length m7) (.slice a8 qb.cycle.length m8) qb.frm qb.period,.int .i64 st,.int .i64 L],.agg #[.slice a1 p1.head.length m1,.int .i64 p1.frm,.int .i64 p1.period,.slice a2 p1.cycle.length m2],.agg #[.slice a3 p2.head.length m3,.int .i64 p2.frm,.int .i64 p2.period,.slice a4 p2.cycle.length m4],.tuple #[perV (.slice a5 qa.head.length m5) (.slice a6 qa.cycle.length m6) qa.frm qa.period,perV (.slice a7 qb.head.length m7) (.slice a8 qb.cycle.length m8) qb.frm qb.period,.int .i64 st,.int .i64 L],perV (.slice a5 qa.head.length m5) (.slice a6 qa.cycle.length m6) qa.frm qa.period,perV (.slice a7 qb.head.length m7) (.slice a8 qb.cycle.length m8) qb.frm qb.period,.int .i64 st,.int .i64 L,.int .i64 L,.bool false,undef,y0,y1,y2,y3,y4,y5,y6,y7,y8,y9,y10,.slice (some ⟨b8,f8,none⟩) X.length c9,.slice (some ⟨b8,f8,none⟩) X.length c9,.int .i64 ↑X.length,.bool false,undef,.int .i64 st,.int .i64 L,.agg #[.slice none 0 0,.int .i64 st,.int .i64 L,.slice none 0 0],.int .i64 ↑k,.slice (some ⟨b8,f8,none⟩) X.length c9,.int .i64 ↑X.length,.bool true,u58,u59,.slice (some ⟨b8,f8,none⟩) X.length c9,.int .i64 ↑k,.pointer (some ⟨b8,f8+k,none⟩),.int .i64 y,.int .i64 st,.bool true,v 0,v 1,v 2,v 3,v 4,v 5,v 6,u73,u74,u75,u76,u77,u78,u79,u80,u81,u82,u83,u84,u85,undef,undef,undef,undef],[]⟩) [.pointer (some ⟨ob,0,none⟩),hv,.slice (some ⟨b8,f8,none⟩) X.length c9,.int .i64 k,.pointer (some ⟨b8,f8+k,none⟩),.int .i64 y,undef] [6] (fun i v lo hi W=>match i with|6=>v 6=.slice (some ⟨lo 6,0,none⟩) 1 1∧lo 6<hi 6∧Bxx W (lo 6) #[.int .i64 (y)] 3|_=>True) (fun W=>W.cell? ⟨ob,0,none⟩=some hv∧W.cell? ⟨b8,f8+k,none⟩=some (.int .i64 y)∧True) (fun W9 hb=>⟨cux o0 hb,cux hcl hb,trivial⟩) ?stab ?loc ?steps ?fin (fun j=>match j with|0=>u66|1=>u67|2=>u68|3=>u69|4=>u70|5=>u71|6=>u72|_=>undef)
     case stab=>
      refine ⟨?_,trivial⟩
      ·intro v lo hi W W' h hb;exact ⟨h.1,h.2.1,h.2.2.below hb⟩
     case loc=>
      refine ⟨?_,trivial⟩
      ·intro v v' lo lo' hi hi' W hag h;have q:=hag 6 (.inl rfl)
       (try dsimp only at h ⊢)
       simp only [q.1,q.2.1,q.2.2] at h;exact h
     case steps=>
      refine .c [] [] rfl ?_ (.c [0] [] rfl ?_ (.c [] [] rfl ?_ (.c [] [] rfl ?_ (.c [2,3] [] rfl ?_ (.c [4] [] rfl ?_ (.c [5] [] rfl ?_ (.n)))))))
      all_goals try exact stw
      ·rintro v lo hi W hb ⟨g0,g1,g2⟩ _;refine .inl ⟨rfl,fun K hK=>?_⟩;simp only [ov,vat,Nat.reduceBEq,cond_true,cond_false];go_wp2_with fail
       exact acx (hK (.slice (some ⟨W.heap.size,0,none⟩) 1 1) _ (Ea (Er _) _) ⟨rfl,sq_,Bxx.new _ _ _⟩) (by simp [ov,vat,upd])
     case fin=>
      rintro v lo hi W2 hb2 ⟨g0,g1,g2⟩ hf hap;show wpList _ _ _ [_,_,_] _ _;have e1:v 1=hv:=(hf 1 rfl).2.2.2;obtain ⟨l7,m7,n7,e7,lt7,hb7⟩:=hf 6 rfl;have hown1:=hown.ext hb2;have hz2:=hb2.size;have hnew:W2.cell? ⟨lo 6,0,none⟩=some (.int .i64 y):=(hb7.cells 0).1;clear hf hap g0 g1 g2
      (try dsimp only)
      rw [e1,e7];generalize lo 6=bn at *;refine ig_ rq_ _ _ rq_ (ob+1) hv _ y rq_ hown1 _ _ rq_ hnew ⟨oq_,oq_⟩ oq_ oq_ ?_;intro g cap W3 hown2 hgrow hbel hpl;have hbel':Below (ob+1) wr W3:=(hb2.mono hs3).trans hbel;have hqf2:W3.frozen? ⟨ob,0,none⟩=false:=(Below.frozen hbel' (p:=⟨ob,0,none⟩) hs2).trans oz0;have hqc2:W3.cell? ⟨ob,0,none⟩=some hv:=Below.cell' hbel' o0 hs2;go_wp2_with fail
      go_roundw
      case rel=>
       refine ⟨k+1,.slice (some ⟨g,0,none⟩) (HLs.length+1) cap,cv,oq_,by go_num,?_,?_⟩
       ·rw [HFH.out,HFC.out];exact HST.out.stepH hb2 hown2 hgrow hbel (fun j ej=>by
         have:g=j:=by simpa [Value.ownBlock] using ej
         rw [<- this];exact hpl)
       ·exact (HB.out.below hbel' oq_).set _ oq_
      case measure=>simp [intOf];omega
    ·have dys:decide (y<st)=false:=by simp;omega
     have HFH:Hid ((X.take (k+1)).filter (fun x=>decide (x<st))=(X.take k).filter (fun x=>decide (x<st))):=hq_ (by rw [HT.out,List.filter_append];simp [hys]);have HFC:Hid (((X.take (k+1)).filter (fun x=>!decide (x<st))).map (· - st)=((X.take k).filter (fun x=>!decide (x<st))).map (· - st) ++ [y-st]):=hq_ (by rw [HT.out,List.filter_append];simp [hys]);generalize (X.take k).filter (fun x=>decide (x<st))=HLs at *;generalize ((X.take k).filter (fun x=>!decide (x<st))).map (· - st)=CLs at *;clear hcell hrg hst hk2 hown;go_upto_region 15 with (fail)
     refine ai_ (w0:=wr) [0,1,2,3,4,5,6,7,8] [9,10,11] (fun v=>⟨#[perV (.slice a1 p1.head.length m1) (.slice a2 p1.cycle.length m2) p1.frm p1.period,perV (.slice a3 p2.head.length m3) (.slice a4 p2.cycle.length m4) p2.frm p2.period,.int .i64 kd,.pointer (some ⟨w.heap.size,0,none⟩),.pointer (some ⟨w.heap.size+1,0,none⟩),undef,.pointer (some ⟨w.heap.size+1+1,0,none⟩),.int .i64 0,.pointer (some ⟨bA,0,none⟩),.pointer (some ⟨bA+1,0,none⟩),.int .i64 st,.int .i64 L,.slice (some ⟨b8,f8,none⟩) X.length c9,.pointer (some ⟨ob,0,none⟩),.int .i64 ↑k,.agg #[.slice a1 p1.head.length m1,.int .i64 p1.frm,.int .i64 p1.period,.slice a2 p1.cycle.length m2],.bool true,.bool false,.bool false,.agg #[.slice a3 p2.head.length m3,.int .i64 p2.frm,.int .i64 p2.period,.slice a4 p2.cycle.length m4],.bool true,.bool false,.bool false,undef,.tuple #[perV (.slice a5 qa.head.length m5) (.slice a6 qa.cycle.length m6) qa.frm qa.period,perV (.slice a7 qb.head.length m7) (.slice a8 qb.cycle.length m8) qb.frm qb.period,.int .i64 st,.int .i64 L],.agg #[.slice a1 p1.head.length m1,.int .i64 p1.frm,.int .i64 p1.period,.slice a2 p1.cycle.length m2],.agg #[.slice a3 p2.head.length m3,.int .i64 p2.frm,.int .i64 p2.period,.slice a4 p2.cycle.length m4],.tuple #[perV (.slice a5 qa.head.length m5) (.slice a6 qa.cycle.length m6) qa.frm qa.period,perV (.slice a7 qb.head.length m7) (.slice a8 qb.cycle.length m8) qb.frm qb.period,.int .i64 st,.int .i64 L],perV (.slice a5 qa.head.length m5) (.slice a6 qa.cycle.length m6) qa.frm qa.period,perV (.slice a7 qb.head.length m7) (.slice a8 qb.cycle.length m8) qb.frm qb.period,.int .i64 st,.int .i64 L,.int .i64 L,.bool false,undef,y0,y1,y2,y3,y4,y5,y6,y7,y8,y9,y10,.slice (some ⟨b8,f8,none⟩) X.length c9,.slice (some ⟨b8,f8,none⟩) X.length c9,.int .i64 ↑X.length,.bool false,undef,.int .i64 st,.int .i64 L,.agg #[.slice none 0 0,.int .i64 st,.int .i64 L,.slice none 0 0],.int .i64 ↑k,.slice (some ⟨b8,f8,none⟩) X.length c9,.int .i64 ↑X.length,.bool true,u58,u59,.slice (some ⟨b8,f8,none⟩) X.length c9,.int .i64 ↑k,.pointer (some ⟨b8,f8+k,none⟩),.int .i64 y,.int .i64 st,.bool false,u66,u67,u68,u69,u70,u71,u72,u73,u74,v 0,v 1,v 2,v 3,v 4,v 5,v 6,v 7,v 8,u84,u85,undef,undef,undef,undef],[]⟩) [.pointer (some ⟨ob,3,none⟩),cv,.slice (some ⟨b8,f8,none⟩) X.length c9,.int .i64 k,.pointer (some ⟨b8,f8+k,none⟩),.int .i64 y,.int .i64 st,.int .i64 (y-st),undef] [8] (fun i v lo hi W=>match i with|8=>v 8=.slice (some ⟨lo 8,0,none⟩) 1 1∧lo 8<hi 8∧Bxx W (lo 8) #[.int .i64 (y-st)] 3|_=>True) (fun W=>W.cell? ⟨ob,3,none⟩=some cv∧W.cell? ⟨b8,f8+k,none⟩=some (.int .i64 y)∧True) (fun W9 hb=>⟨cux o3 hb,cux hcl hb,trivial⟩) ?stab ?loc ?steps ?fin (fun j=>match j with|0=>u75|1=>u76|2=>u77|3=>u78|4=>u79|5=>u80|6=>u81|7=>u82|8=>u83|_=>undef)
     case stab=>
      refine ⟨?_,trivial⟩
      ·intro v lo hi W W' h hb;exact ⟨h.1,h.2.1,h.2.2.below hb⟩
     case loc=>
      refine ⟨?_,trivial⟩
      ·intro v v' lo lo' hi hi' W hag h;have q:=hag 8 (.inl rfl)
       (try dsimp only at h ⊢)
       simp only [q.1,q.2.1,q.2.2] at h;exact h
     case steps=>
      refine .c [] [] rfl ?_ (.c [0] [] rfl ?_ (.c [] [] rfl ?_ (.c [] [] rfl ?_ (.c [2,3] [] rfl ?_ (.c [4] [] rfl ?_ (.c [] [] rfl ?_ (.c [5,6] [] rfl ?_ (.c [7] [] rfl ?_ (.n)))))))))
      all_goals try exact stw
      ·rintro v lo hi W hb ⟨g0,g1,g2⟩ _;refine .inl ⟨rfl,fun K hK=>?_⟩;simp only [ov,vat,Nat.reduceBEq,cond_true,cond_false];go_wp2_with fail
       exact acx (hK (.slice (some ⟨W.heap.size,0,none⟩) 1 1) _ (Ea (Er _) _) ⟨rfl,sq_,Bxx.new _ _ _⟩) (by simp [ov,vat,upd])
     case fin=>
      rintro v lo hi W2 hb2 ⟨g0,g1,g2⟩ hf hap;show wpList _ _ _ [_,_,_] _ _;have e1:v 1=cv:=(hf 1 rfl).2.2.2;obtain ⟨l7,m7,n7,e7,lt7,hb7⟩:=hf 8 rfl;have hown1:=howc.ext hb2;have hz2:=hb2.size;have hnew:W2.cell? ⟨lo 8,0,none⟩=some (.int .i64 (y-st)):=(hb7.cells 0).1;clear hf hap g0 g1 g2
      (try dsimp only)
      rw [e1,e7];generalize lo 8=bn at *;refine ig_ rq_ _ _ rq_ (ob+1) cv _ (y-st) rq_ hown1 _ _ rq_ hnew ⟨oq_,oq_⟩ oq_ oq_ ?_;intro g cap W3 hown2 hgrow hbel hpl;have hbel':Below (ob+1) wr W3:=(hb2.mono hs3).trans hbel;have hqf2:W3.frozen? ⟨ob,3,none⟩=false:=(Below.frozen hbel' (p:=⟨ob,3,none⟩) hs2).trans oz3;have hqc2:W3.cell? ⟨ob,3,none⟩=some cv:=Below.cell' hbel' o3 hs2;go_wp2_with fail
      go_roundw
      case rel=>
       refine ⟨k+1,hv,.slice (some ⟨g,0,none⟩) (CLs.length+1) cap,oq_,by go_num,?_,?_⟩
       ·rw [HFH.out,HFC.out];exact HST.out.stepC hb2 hown2 hgrow hbel (fun j ej=>by
         have:g=j:=by simpa [Value.ownBlock] using ej
         rw [<- this];exact hpl)
       ·exact (HB.out.below hbel' oq_).set _ oq_
      case measure=>simp [intOf];omega
   ·obtain rfl:k=X.length:=oq_;have hhd:=hst.hd;have hcy:=hst.cy;have hRB:=hst.rb;have hbw:=hst.below;rw [List.take_length] at hhd hcy;rw [<- HRH.out] at hhd;rw [<- HRC.out] at hcy;obtain ⟨ha1,hc1,rfl⟩:=hhd.form;obtain ⟨ca1,cc1,rfl⟩:=hcy.form;have HPR:Hid (a8_ wr (.slice ha1 R.head.length hc1) (.slice ca1 R.cycle.length cc1) R):=hq_ ⟨hhd.ints,hcy.ints⟩;have HCAN:Hid (Calls Tryz.prog 164 #[.agg #[.slice ha1 R.head.length hc1,.int .i64 st,.int .i64 L,.slice ca1 R.cycle.length cc1]] wr (b6_ q wr)):=hq_ (by
     have h:=gm_ _ _ R q wr HPR.out HRV.out HRQ.out;rw [HRF.out,HRP.out] at h;exact h)
    have r0:=hRB.cells 0;have HRBx:=hq_ hRB;have hltr:=hRB.lt;clear hst HST hhd hcy hRB r0;go_wp2_with (go_at_call 164;refine HCAN.out.mono ?_;rintro e w7 ⟨y1,y2,rfl,ho7,hb7⟩;obtain ⟨a5',m5',a6',m6',rfl,rfl⟩:=ho7.form;have hR7:=HRBx.out.below hb7;have r0:=hR7.cells 0;have r1:=hR7.cells 1;have r2:=hR7.cells 2;have r3:=hR7.cells 3;have hlt7:=hR7.lt;clear hR7)
    exact bodyPost_ret (v:=.tuple #[perV (.slice a5' q.head.length m5') (.slice a6' q.cycle.length m6') q.frm q.period,.int .i64 0]) (by simp [results,Tryz.results139,go_sem, *]) rfl
     ⟨_,_,rfl,(ho7.above (by (repeat' (with_reducible first|exact a7_.refl _ _|refine a7_.alloc ?_ _|refine a7_.drew ?_|refine a7_.drewN ?_ _|refine a7_.setCell ?_ (by first|(simp;done)|(simp;omega)|omega) _)))).mono oq_,xE⟩
theorem r1_ (h c:Value) (p:Per) (b:Int) (w:World) (hp:a8_ w h c p) (hf:InI p.frm) (ht:InI p.period) (hbad:(validB p && decide (-1099511627776≤b) && decide (b≤1099511627776))=false) :
  Calls Tryz.prog 94 #[perV h c p.frm p.period,.int .i64 b] w (gl_ 1 w):=by
 have hl:∀ W,Below w.heap.size w W->a8_ W h c p:=fun W hb=>hp.ext hb;have HB:=hq_ hbad;have HI1:=hq_ hf;have HI2:=hq_ ht;clear hp hbad hf ht
 go_enter Tryz.func94,Tryz.ntmps94
 go_wp2_with (go_at_call 62;refine (ca_ h c p _ (hl _ xE) HI1.out HI2.out).mono ?_;rintro e w1 ⟨rfl,hb1⟩;obtain ⟨hc1,hf1⟩:=au_ hb1;(try simp only [World.size_alloc,World.size_drew,af_,World.size_setCell] at hc1 hf1);have hz1:=hb1.size;(try simp only [World.size_alloc,World.size_drew,af_,World.size_setCell] at hz1);have hz1':w.heap.size+1<w1.heap.size:=oq_)
 all_goals first
  | (exfalso;have hB:=HB.out;simp only [Bool.and_eq_false_iff,decide_eq_false_iff_not] at hB;rcases hB with ((hB|hB)|hB) <;> first|omega|(simp_all;done))
  | (refine bodyPost_ret (v:=.tuple #[perV (.slice none 0 0) (.slice none 0 0) 0 0,.int .i64 1]) ?_ rfl ⟨rfl,xE⟩;simp [results,Tryz.results94,go_sem, *];done)
structure LT (w:World) (ob xb:Nat) (X:Per) (hv cv:Value) (lo hi:Nat) (f:Int) (base:Nat) (ov:Value) (l:List Int) (W:World):Prop where
 below:Below w.heap.size w W
 rb:Bxx W (w.heap.size+1) #[.slice none 0 0,.int .i64 0,.int .i64 0,.slice none 0 0] 39
 xbx:Bxx W xb #[hv,.int .i64 X.frm,.int .i64 X.period,cv] 39
 obx:Bxx W ob #[ov,.int .i64 f,.int .i64 X.period,cv] 39
 hd:bo_ W lo hi hv X.head
 cy:bo_ W lo hi cv X.cycle
 own:OwnI W base ov l
 o1:w.heap.size+1<lo
 o2:hi≤xb
 o3:xb<ob
 o4:ob<base
 o5:base≤W.heap.size
 o6:lo≤hi
theorem LT.step {xb:Nat} {X:Per} {cv:Value} {lo:Nat} {ov:Value} (h:LT w ob xb X hv cv lo hi f base ov l W)
  {W1:World} {v':Value} {l':List Int} (hb:Below base W W1) (ho:OwnI W1 base v' l'):LT w ob xb X hv cv lo hi f base v' l' (W1.setCell ⟨ob,0,none⟩ v'):=by
 have o1:=h.o1;have o2:=h.o2;have o3:=h.o3;have o4:=h.o4;have o5:=h.o5;have o6:=h.o6;have hz:=hb.size;exact ⟨(h.below.trans (hb.mono oq_)).setCell (p:=⟨ob,0,none⟩) tq_ _,(h.rb.upto hb oq_).setNe _ oq_,(h.xbx.upto hb oq_).setNe _ oq_,j2_ (h.obx.upto hb oq_),
  (h.hd.below hb oq_).set v' oq_,(h.cy.below hb oq_).set v' oq_,ho.above ((a7_.refl base W1).setCell tq_ _),o1,o2,o3,o4,tq_,o6⟩
theorem tt_ (h c:Value) (p q:Per) (b:Int) (w:World) (hp:a8_ w h c p) (hv:Valid p) (h0:-1099511627776≤b) (h1:b≤1099511627776) (hq:a6_ q (en_ p b)) :
  Calls Tryz.prog 94 #[perV h c p.frm p.period,.int .i64 b] w (nu_ q w):=by
 have hl:∀ W,Below w.heap.size w W->a8_ W h c p:=fun W hb=>hp.ext hb;have HVB:=hq_ ((as_ p).2 hv);have f1:p.frm≤1125899906842624:=by have:=hv.frm;omega
 have f2:p.period≤1125899906842624:=by have:=hv.per;omega
 have HI1:Hid (InI p.frm):=by have:=hv.frm;have:=hv.wf.frm;exact hq_ ⟨oq_,oq_⟩
 have HI2:Hid (InI p.period):=by have:=hv.per;have:=hv.wf.per;exact hq_ ⟨oq_,oq_⟩
 have HV:=hq_ hv;have g1:=hv.frm;have g2:=hv.per;have hk:=m8_ hv.wf b;have HL:=hq_ hk;have HQ:Hid (a6_ q (bw_ p b).mem):=hq_ (hq.congr fun n=>(hk.2 n).symm);obtain ⟨dy,hdy⟩:∃ dy,dy=max (-b) 0:=⟨_,rfl⟩;have hd0:0≤dy:=oq_;have hd1:dy≤1099511627776:=oq_;have hdx:max (-b) 0=dy:=hdy.symm;have HDX:=hq_ hdx;obtain ⟨X,hX⟩:∃ X,X=a9_ p dy:=⟨_,rfl⟩;have HX:=hq_ hX;have hXf:X.frm=max p.frm dy:=by rw [hX];rfl
 have hXp:X.period=p.period:=by rw [hX];rfl
 have hR0:0≤X.frm+b:=oq_;have hR1:X.frm≤1099511627776:=oq_;have hXw:X.WF:=by rw [hX];exact (ec_ hv.wf hd0).1
 have HXW:=hq_ hXw;have HSP:Hid (bw_ p b=⟨X.head.map (·+b),X.frm+b,X.period,X.cycle⟩):=hq_ (by rw [hX];unfold bw_;rw [hdx];rfl);have hXp2:X.period≤1099511627776:=oq_;have hXp1:1≤X.period:=hXw.per;clear hp hq hv hk hdy hX hXf hXp hXw hdx;have d1:decide (b < -1099511627776)=false:=by simp;omega
 have d2:decide (1099511627776<b)=false:=by simp;omega
 go_enter Tryz.func94,Tryz.ntmps94
 go_upto_region 3 with (go_at_call 62;refine (ca_ h c p _ (hl _ xE) HI1.out HI2.out).mono ?_;rintro e w1 ⟨he,hb1⟩;rw [HVB.out] at he;subst he;obtain ⟨hc1,hf1⟩:=au_ hb1;(try simp only [World.size_alloc,World.size_drew,af_,World.size_setCell] at hc1 hf1);have hz1:=hb1.size;(try simp only [World.size_alloc,World.size_drew,af_,World.size_setCell] at hz1);have hz1':w.heap.size+1<w1.heap.size:=oq_)
 have hdx:=HDX.out;go_upto_region 4 with (go_at_call 137;first|rw [HDX.out]|skip;refine (qd_ h c p dy _ (hl _ xE) HV.out.wf oq_ oq_ hd0 oq_).mono ?_;rintro e w2 ⟨x1,x2,rfl,ho2,hb2⟩;rw [<- HX.out] at ho2 ⊢;obtain ⟨xa1,xn1,xa2,xn2,rfl,rfl⟩:=ho2.form)
 have hrb:Bxx w2 (w.heap.size+1) #[.slice none 0 0,.int .i64 0,.int .i64 0,.slice none 0 0] 39:=((Bxx.at sq_).upto hb1 sq_).upto hb2 oq_;have hW2:Below w.heap.size w w2:=by exact xE
 have hsz2:=hb2.size;have hw1z:w.heap.size+1<w1.heap.size:=hz1';clear hc1 hf1 hb1 hb2;go_upto_region 5 with (fail)
 obtain ⟨xb,hxb⟩:∃ xb,xb=w2.heap.size:=⟨_,rfl⟩;obtain ⟨W4,hW4⟩:∃ W4,W4=(w2.alloc (.cells #[.slice xa1 X.head.length xn1,.int .i64 X.frm,.int .i64 X.period,.slice xa2 X.cycle.length xn2] 39)).alloc (.cells #[.slice none 0 0,.int .i64 (X.frm+b),.int .i64 X.period,.slice xa2 X.cycle.length xn2] 39):=⟨_,rfl⟩;have hLT:LT w (xb+1) xb X (.slice xa1 X.head.length xn1) (.slice xa2 X.cycle.length xn2) w1.heap.size xb (X.frm+b) W4.heap.size (.slice none 0 0) [] W4:=by
  subst hxb hW4;exact ⟨by exact xE,(hrb.alloc _).alloc _,(Bxx.at rfl).alloc _,Bxx.at sq_,((ho2.hd.oin).alloc _ (Nat.le_refl _)).alloc _ sq_,((ho2.cy.oin).alloc _ (Nat.le_refl _)).alloc _ sq_,OwnI.nil _ _,oq_,Nat.le_refl _,oq_,sq_,Nat.le_refl _,oq_⟩
 refine al_ (F:=fun U=>LT w (xb+1) xb X (.slice xa1 X.head.length xn1) (.slice xa2 X.cycle.length xn2) w1.heap.size xb (X.frm+b) W4.heap.size (.slice none 0 0) [] U) (by rw [<- hW4];exact hLT) ?_;rw [<- hxb];obtain ⟨base,hbase⟩:∃ base,base=W4.heap.size:=⟨_,rfl⟩;rw [<- hbase];obtain ⟨lo1,hlo1⟩:∃ lo1,lo1=w1.heap.size:=⟨_,rfl⟩;rw [<- hlo1];clear hLT hW4 hxb hbase hlo1 hrb ho2 hW2 hsz2 hw1z hz1 hz1' W4;rintro W5 hL5;have HL5:=hq_ hL5;clear hL5;go_wp2_with fail
 go_loopw [8] (fun i wr=>∃ (k:Nat) (hv:Value),k≤X.head.length∧i=.int .i64 k∧LT w (xb+1) xb X (.slice xa1 X.head.length xn1) (.slice xa2 X.cycle.length xn2) lo1 xb (X.frm+b) base hv ((X.head.take k).map (·+b)) wr) (fun i _=>X.head.length-(intOf i).toNat)
 case atStart=>exact ⟨0,_,oq_,rfl,HL5.out⟩
 case round=>
  obtain ⟨k,hv,hk,rfl,hst⟩:=hrel;have HST:=hq_ hst;have hown:=hst.own;have q0:=(hst.xbx.cells 0).1;have o0:=(hst.obx.cells 0).1;have o1:=(hst.obx.cells 1).1;have o2:=(hst.obx.cells 2).1;have o3:=(hst.obx.cells 3).1;have oz:=(hst.obx.cells 0).2;have hs2:=hst.o4;have hs3:=hst.o5;have hs4:=hst.o3
  by_cases hlt:k<X.head.length
  ·have hlI:(k:Int)<X.head.length:=oq_;obtain ⟨⟨a',c',he,_,_,h38⟩,hlen8,hrg⟩:=hst.hd.own.ints;injection he with e1 _ e2
   subst e1;subst e2;rcases h38 with h38|⟨b8,f8,rfl,hcell⟩
   ·rw [h38] at hlt;simp at hlt
   have hcl:=hcell k hlt;have hyb:=HXW.out.head.2 _ (ah_ hlt);have HSU:Hid ((X.head.take (k+1)).map (·+b)=(X.head.take k).map (·+b) ++ [X.head.getD k 0+b]):=hq_ (by
    rw [List.take_succ_eq_append_getElem hlt,List.map_append,List.getD_eq_getElem?_getD,List.getElem?_eq_getElem hlt];rfl)
   generalize X.head.getD k 0=y at *;have HLK:Hid (((X.head.take k).map (·+b)).length=k):=hq_ tq_;generalize (X.head.take k).map (·+b)=ML at *;clear hcell hrg hst;go_upto_region 8 with (fail)
   refine ai_ (w0:=wr) [0,1,2,3,4,5,6,7,8,9] [10,11,12] (fun v=>⟨#[perV h c p.frm p.period,.int .i64 b,.pointer (some ⟨w.heap.size,0,none⟩),undef,.pointer (some ⟨w.heap.size+1,0,none⟩),.int .i64 0,.pointer (some ⟨xb,0,none⟩),.pointer (some ⟨xb+1,0,none⟩),.int .i64 ↑k,undef,.agg #[h,.int .i64 p.frm,.int .i64 p.period,c],.bool true,.bool false,.bool false,.int .i64 b,.bool false,.bool false,.bool false,.int .i64 b,.bool false,.bool false,undef,.agg #[h,.int .i64 p.frm,.int .i64 p.period,c],.int .i64 b,.int .i64 (-b),.int .i64 dy,perV (.slice (some ⟨b8,f8,none⟩) X.head.length xn1) (.slice xa2 X.cycle.length xn2) X.frm X.period,.pointer (some ⟨xb,1,none⟩),.int .i64 X.frm,.int .i64 b,.int .i64 (X.frm+b),.pointer (some ⟨xb,2,none⟩),.int .i64 X.period,.pointer (some ⟨xb,3,none⟩),.slice xa2 X.cycle.length xn2,.agg #[.slice none 0 0,.int .i64 (X.frm+b),.int .i64 X.period,.slice xa2 X.cycle.length xn2],.int .i64 ↑k,.pointer (some ⟨xb,0,none⟩),.slice (some ⟨b8,f8,none⟩) X.head.length xn1,.int .i64 ↑X.head.length,.bool true,u41,u42,v 0,v 1,v 2,v 3,v 4,v 5,v 6,v 7,v 8,v 9,u53,u54,undef,undef,undef,undef,undef,undef,undef],[]⟩) [.pointer (some ⟨xb+1,0,none⟩),hv,.pointer (some ⟨xb,0,none⟩),.slice (some ⟨b8,f8,none⟩) X.head.length xn1,.int .i64 k,.pointer (some ⟨b8,f8+k,none⟩),.int .i64 y,.int .i64 b,.int .i64 (y+b),undef] [9] (fun i v lo hi W=>match i with|9=>v 9=.slice (some ⟨lo 9,0,none⟩) 1 1∧lo 9<hi 9∧Bxx W (lo 9) #[.int .i64 (y+b)] 3|_=>True) (fun W=>W.cell? ⟨xb,0,none⟩=some (.slice (some ⟨b8,f8,none⟩) X.head.length xn1)∧W.cell? ⟨b8,f8+k,none⟩=some (.int .i64 y)∧W.cell? ⟨xb+1,0,none⟩=some hv) (fun W9 hb=>⟨cux q0 hb,cux hcl hb,cux o0 hb⟩) ?stab ?loc ?steps ?fin (fun j=>match j with|0=>u43|1=>u44|2=>u45|3=>u46|4=>u47|5=>u48|6=>u49|7=>u50|8=>u51|9=>u52|_=>undef)
   case stab=>
    refine ⟨?_,trivial⟩
    ·intro v lo hi W W' h hb;exact ⟨h.1,h.2.1,h.2.2.below hb⟩
   case loc=>
    refine ⟨?_,trivial⟩
    ·intro v v' lo lo' hi hi' W hag h;have q:=hag 9 (.inl rfl)
     (try dsimp only at h ⊢)
     simp only [q.1,q.2.1,q.2.2] at h;exact h
   case steps=>
    refine .c [] [] rfl ?_ (.c [0] [] rfl ?_ (.c [] [] rfl ?_ (.c [2] [] rfl ?_ (.c [] [] rfl ?_ (.c [3,4] [] rfl ?_ (.c [5] [] rfl ?_ (.c [] [] rfl ?_ (.c [6,7] [] rfl ?_ (.c [8] [] rfl ?_ (.n))))))))))
    all_goals try exact stw
    ·rintro v lo hi W hb ⟨g0,g1,g2⟩ _;refine .inl ⟨rfl,fun K hK=>?_⟩;simp only [ov,vat,Nat.reduceBEq,cond_true,cond_false];go_wp2_with fail
     exact acx (hK (.slice (some ⟨W.heap.size,0,none⟩) 1 1) _ (Ea (Er _) _) ⟨rfl,sq_,Bxx.new _ _ _⟩) (by simp [ov,vat,upd])
   case fin=>
    rintro v lo hi W2 hb ⟨g0,g1,g2⟩ hf hap;show wpList _ _ _ [_,_,_] _ _;have e1:v 1=hv:=(hf 1 rfl).2.2.2;obtain ⟨l7,m7,n7,e7,lt7,hb7⟩:=hf 9 rfl;have hown1:=hown.ext hb;have hz2:=hb.size;have hnew:W2.cell? ⟨lo 9,0,none⟩=some (.int .i64 (y+b)):=(hb7.cells 0).1;clear hf hap g0 g1 g2
    (try dsimp only)
    rw [e1,e7];generalize lo 9=bn at *;refine aj_ rq_ _ _ rq_ base hv _ (y+b) rq_ hown1 _ _ rq_ hnew ⟨oq_,oq_⟩ (by have:=HLK.out;omega) oq_ ?_;intro g cap W3 hown2 hgrow hbel;have hbel':Below base wr W3:=(hb.mono hs3).trans hbel;have hqf2:W3.frozen? ⟨xb+1,0,none⟩=false:=(Below.frozen hbel' (p:=⟨xb+1,0,none⟩) hs2).trans oz;have hqc2:W3.cell? ⟨xb+1,0,none⟩=some hv:=Below.cell' hbel' o0 hs2;go_wp2_with fail
    go_roundw
    case rel=>
     refine ⟨k+1,.slice (some ⟨g,0,none⟩) (ML.length+1) cap,oq_,by go_num,?_⟩;rw [HSU.out];exact HST.out.step hbel' hown2
    case measure=>simp [intOf];omega
  ·obtain rfl:k=X.head.length:=oq_;obtain ⟨ML,hML⟩:∃ ML,ML=(X.head.take X.head.length).map (·+b):=⟨_,rfl⟩;rw [<- hML] at hown;have hML2:ML=X.head.map (·+b):=by rw [hML,List.take_length]
   obtain ⟨hva,hvc,rfl⟩:=hown.form;have hcy:=hst.cy.own.ints;have hPP:a8_ wr (.slice hva ML.length hvc) (.slice xa2 X.cycle.length xn2) (bw_ p b):=by
    rw [HSP.out];refine ⟨?_,hcy⟩;show Ints wr _ (X.head.map (·+b));rw [<- hML2];exact hown.ints
   have HPP:=hq_ hPP;have hrb:=hst.rb;have hbel:=hst.below;have hs1:=hst.o1;have hs5:=hst.o6;have HCAN:Hid (Calls Tryz.prog 138 #[.agg #[.slice hva ML.length hvc,.int .i64 (X.frm+b),.int .i64 X.period,.slice xa2 X.cycle.length xn2]] wr (in_ q wr)):=hq_ (by
    have h5:(bw_ p b).frm≤1125899906842624:=by rw [HSP.out];show X.frm+b≤_;omega
    have h6:(bw_ p b).period≤1125899906842624:=by rw [HSP.out];show X.period≤_;omega
    have h7:=l1_ _ _ (bw_ p b) q wr HPP.out HL.out.1 h5 h6 HQ.out;have e1:(bw_ p b).frm=X.frm+b:=by rw [HSP.out]
    have e2:(bw_ p b).period=X.period:=by rw [HSP.out]
    rw [e1,e2] at h7;exact h7)
   clear hst HST HPP hPP hcy hown hML hML2;go_upto_region 10 with (go_at_call 138;refine HCAN.out.mono ?_;rintro e w3 ⟨y1,y2,rfl,ho3,hb3⟩;obtain ⟨a1,n1,a2,n2,rfl,rfl⟩:=ho3.form)
   have hz3:=hb3.size;have hzz:w.heap.size≤wr.heap.size:=hbel.size;refine al_ (F:=fun U=>Bxx U w3.heap.size #[.slice a1 q.head.length n1,.int .i64 q.frm,.int .i64 q.period,.slice a2 q.cycle.length n2] 39∧Bxx U (w.heap.size+1) #[.slice none 0 0,.int .i64 0,.int .i64 0,.slice none 0 0] 39∧POx U wr.heap.size (.slice a1 q.head.length n1) (.slice a2 q.cycle.length n2) q∧Below w.heap.size w U)
    ⟨Bxx.at rfl,(hrb.below hb3).alloc _,ho3.above ((a7_.refl _ _).alloc _),xE⟩ ?_
   clear hb3 ho3 hrb hbel;rintro W6 ⟨hY,hR,hO,hE⟩;have HO:=hq_ hO;have y0:=(hY.cells 0).1;have y1:=(hY.cells 1).1;have y2:=(hY.cells 2).1;have y3:=(hY.cells 3).1;have r0:=hR.cells 0;have r1:=hR.cells 1;have r2:=hR.cells 2;have r3:=hR.cells 3;clear hO;have hne1:w.heap.size+1≠w3.heap.size:=oq_;have hne2:w3.heap.size≠w.heap.size+1:=oq_
   by_cases hbig:q.frm≤1099511627776
   ·go_wp2_with fail
    exact bodyPost_ret (v:=.tuple #[perV (.slice a1 q.head.length n1) (.slice a2 q.cycle.length n2) q.frm q.period,.int .i64 0]) (by simp [results,Tryz.results94,go_sem, *]) rfl ⟨fun _=>⟨_,_,rfl,(HO.out.above (by (repeat' (with_reducible first|exact a7_.refl _ _|refine a7_.alloc ?_ _|refine a7_.drew ?_|refine a7_.drewN ?_ _|refine a7_.setCell ?_ (by first|(simp;done)|(simp;omega)|omega) _)))).mono oq_,xE⟩,fun h=>absurd hbig oq_⟩
   ·have hbig':1099511627776<q.frm:=oq_;go_wp2_with fail
    exact bodyPost_ret (v:=.tuple #[perV (.slice none 0 0) (.slice none 0 0) 0 0,.int .i64 2]) (by simp [results,Tryz.results94,go_sem, *]) rfl ⟨fun h=>absurd h oq_,fun _=>⟨rfl,xE⟩⟩
theorem t2_ (s:Int) (h c:Value) (p:Per) (w:World) (hp:a8_ w h c p) (hv:FV s p):Calls Tryz.prog 164 #[perV h c p.frm p.period] w (b6_ (canonC p.mem) w):=
 gm_ h c p _ w hp hv.valid hv.canon.1
theorem pw_ (s:Int) (h1 c1 h2 c2:Value) (p1 p2:Per) (w:World) (hp1:a8_ w h1 c1 p1) (hp2:a8_ w h2 c2 p2) (v1:FV s p1) (v2:FV s p2) :
  Calls Tryz.prog 95 #[perV h1 c1 p1.frm p1.period,perV h2 c2 p2.frm p2.period] w (b6_ (andP p1 p2) w):=by
 have h:=v1.op v2 And (fun n=>Iff.rfl) (fun n h=>v1.fac.low n h.1) (fun n h=>h.1.1);have HOP:∀ W,Below w.heap.size w W->Calls Tryz.prog 139 #[perV h1 c1 p1.frm p1.period,perV h2 c2 p2.frm p2.period,.int .i64 0] W (b6_ (andP p1 p2) W):=fun W hb=>by
  have hq:a6_ (andP p1 p2) (opS 0 p1.mem p2.mem):=by rw [dr_];exact h.1
  have a0:=v1.canon.2.fac.wf.frm;have hl:=h.2.2.1;have hl1:=c7_ v1.canon.2.fac.wf.per v2.canon.2.fac.wf.per;refine gz_ h1 c1 h2 c2 p1 p2 _ _ _ 0 W (hp1.ext hb) (hp2.ext hb) v1.valid v2.valid v1.canon.1 v2.canon.1 oq_ oq_ hq ?_;have hc:=h.2.2.2;rw [<- lq_,Int.toNat_of_nonneg oq_] at hc;have e:sel (opS 0 (canonC p1.mem).mem (canonC p2.mem).mem) 0 (max (canonC p1.mem).frm (canonC p2.mem).frm+lcmI (canonC p1.mem).period (canonC p2.mem).period)=sel (fun n=>p1.mem n∧p2.mem n) 0 (max (canonC p1.mem).frm (canonC p2.mem).frm+lcmI (canonC p1.mem).period (canonC p2.mem).period):=eb_ (Int.le_refl _) fun n=>by
   rw [dr_];show _↔_;simp only [v1.canon.1.mem n,v2.canon.1.mem n]
  rw [e];omega
 clear hp1 hp2 v1 v2 h
 go_enter Tryz.func95,Tryz.ntmps95
 go_wp2_with (go_at_call 139;refine (HOP _ xE).mono ?_;rintro e w2 ⟨h',c',rfl,hp2,hb2⟩;obtain ⟨a1,c1,a2,c2,rfl,rfl⟩:=hp2.form;obtain ⟨hc2,hf2⟩:=au_ hb2;have HP2:=hq_ hp2;clear hp2)
 exact bodyPost_ret (v:=.tuple #[perV (.slice a1 (andP p1 p2).head.length c1) (.slice a2 (andP p1 p2).cycle.length c2) (andP p1 p2).frm (andP p1 p2).period,.int .i64 0]) (by simp [results,Tryz.results95,go_sem, *]) rfl ⟨_,_,rfl,(HP2.out.above (by (repeat' (with_reducible first|exact a7_.refl _ _|refine a7_.alloc ?_ _|refine a7_.drew ?_|refine a7_.drewN ?_ _|refine a7_.setCell ?_ (by first|(simp;done)|(simp;omega)|omega) _)))).mono tq_,xE⟩
theorem t3_ (s:Int) (h1 c1 h2 c2:Value) (p1 p2:Per) (w:World) (hp1:a8_ w h1 c1 p1) (hp2:a8_ w h2 c2 p2) (v1:FV s p1) (v2:FV s p2) :
  Calls Tryz.prog 96 #[perV h1 c1 p1.frm p1.period,perV h2 c2 p2.frm p2.period] w (b6_ (orP p1 p2) w):=by
 have h:=v1.op v2 Or (fun n=>Iff.rfl) (fun n h=>h.elim (v1.fac.low n) (v2.fac.low n)) (fun n h=>h.elim (fun h=>h.1) (fun h=>h.1));have HOP:∀ W,Below w.heap.size w W->Calls Tryz.prog 139 #[perV h1 c1 p1.frm p1.period,perV h2 c2 p2.frm p2.period,.int .i64 1] W (b6_ (orP p1 p2) W):=fun W hb=>by
  have hq:a6_ (orP p1 p2) (opS 1 p1.mem p2.mem):=by rw [fl_];exact h.1
  have a0:=v1.canon.2.fac.wf.frm;have hl:=h.2.2.1;have hl1:=c7_ v1.canon.2.fac.wf.per v2.canon.2.fac.wf.per;refine gz_ h1 c1 h2 c2 p1 p2 _ _ _ 1 W (hp1.ext hb) (hp2.ext hb) v1.valid v2.valid v1.canon.1 v2.canon.1 oq_ oq_ hq ?_;have hc:=h.2.2.2;rw [<- lq_,Int.toNat_of_nonneg oq_] at hc;have e:sel (opS 1 (canonC p1.mem).mem (canonC p2.mem).mem) 0 (max (canonC p1.mem).frm (canonC p2.mem).frm+lcmI (canonC p1.mem).period (canonC p2.mem).period)=sel (fun n=>p1.mem n∨p2.mem n) 0 (max (canonC p1.mem).frm (canonC p2.mem).frm+lcmI (canonC p1.mem).period (canonC p2.mem).period):=eb_ (Int.le_refl _) fun n=>by
   rw [fl_];show _↔_;simp only [v1.canon.1.mem n,v2.canon.1.mem n]
  rw [e];omega
 clear hp1 hp2 v1 v2 h
 go_enter Tryz.func96,Tryz.ntmps96
 go_wp2_with (go_at_call 139;refine (HOP _ xE).mono ?_;rintro e w2 ⟨h',c',rfl,hp2,hb2⟩;obtain ⟨a1,c1,a2,c2,rfl,rfl⟩:=hp2.form;obtain ⟨hc2,hf2⟩:=au_ hb2;have HP2:=hq_ hp2;clear hp2)
 exact bodyPost_ret (v:=.tuple #[perV (.slice a1 (orP p1 p2).head.length c1) (.slice a2 (orP p1 p2).cycle.length c2) (orP p1 p2).frm (orP p1 p2).period,.int .i64 0]) (by simp [results,Tryz.results96,go_sem, *]) rfl ⟨_,_,rfl,(HP2.out.above (by (repeat' (with_reducible first|exact a7_.refl _ _|refine a7_.alloc ?_ _|refine a7_.drew ?_|refine a7_.drewN ?_ _|refine a7_.setCell ?_ (by first|(simp;done)|(simp;omega)|omega) _)))).mono tq_,xE⟩
theorem tg_ (s:Int) (h1 c1 h2 c2:Value) (p1 p2:Per) (w:World) (hp1:a8_ w h1 c1 p1) (hp2:a8_ w h2 c2 p2) (v1:FV s p1) (v2:FV s p2) :
  Calls Tryz.prog 135 #[perV h1 c1 p1.frm p1.period,perV h2 c2 p2.frm p2.period] w (b6_ (bu_ p1 p2) w):=by
 have h:=v1.op v2 (fun a b=>a∧¬ b) (fun n=>Iff.rfl) (fun n h=>v1.fac.low n h.1) (fun n h=>h.1.1);have HOP:∀ W,Below w.heap.size w W->Calls Tryz.prog 139 #[perV h1 c1 p1.frm p1.period,perV h2 c2 p2.frm p2.period,.int .i64 2] W (b6_ (bu_ p1 p2) W):=fun W hb=>by
  have hq:a6_ (bu_ p1 p2) (opS 2 p1.mem p2.mem):=by rw [d5_];exact h.1
  have a0:=v1.canon.2.fac.wf.frm;have hl:=h.2.2.1;have hl1:=c7_ v1.canon.2.fac.wf.per v2.canon.2.fac.wf.per;refine gz_ h1 c1 h2 c2 p1 p2 _ _ _ 2 W (hp1.ext hb) (hp2.ext hb) v1.valid v2.valid v1.canon.1 v2.canon.1 oq_ oq_ hq ?_;have hc:=h.2.2.2;rw [<- lq_,Int.toNat_of_nonneg oq_] at hc;have e:sel (opS 2 (canonC p1.mem).mem (canonC p2.mem).mem) 0 (max (canonC p1.mem).frm (canonC p2.mem).frm+lcmI (canonC p1.mem).period (canonC p2.mem).period)=sel (fun n=>p1.mem n∧¬ p2.mem n) 0 (max (canonC p1.mem).frm (canonC p2.mem).frm+lcmI (canonC p1.mem).period (canonC p2.mem).period):=eb_ (Int.le_refl _) fun n=>by
   rw [d5_];show _↔_;simp only [v1.canon.1.mem n,v2.canon.1.mem n]
  rw [e];omega
 clear hp1 hp2 v1 v2 h
 go_enter Tryz.func135,Tryz.ntmps135
 go_wp2_with (go_at_call 139;refine (HOP _ xE).mono ?_;rintro e w2 ⟨h',c',rfl,hp2,hb2⟩;obtain ⟨a1,c1,a2,c2,rfl,rfl⟩:=hp2.form;obtain ⟨hc2,hf2⟩:=au_ hb2;have HP2:=hq_ hp2;clear hp2)
 exact bodyPost_ret (v:=.tuple #[perV (.slice a1 (bu_ p1 p2).head.length c1) (.slice a2 (bu_ p1 p2).cycle.length c2) (bu_ p1 p2).frm (bu_ p1 p2).period,.int .i64 0]) (by simp [results,Tryz.results135,go_sem, *]) rfl ⟨_,_,rfl,(HP2.out.above (by (repeat' (with_reducible first|exact a7_.refl _ _|refine a7_.alloc ?_ _|refine a7_.drew ?_|refine a7_.drewN ?_ _|refine a7_.setCell ?_ (by first|(simp;done)|(simp;omega)|omega) _)))).mono tq_,xE⟩
theorem iw_ (x y:PV) (w:World) (hx:1≤x.p.period) (hx1:x.p.period≤1099511627776) (hy:1≤y.p.period) (hy1:y.p.period≤1099511627776) :
  Calls Tryz.prog 166 #[x.val,y.val] w fun e w'=>e=.returned (.bool (divB x.p y.p))∧Below w.heap.size w w':=by
 have n1:x.p.period≠0:=oq_;have n2:y.p.period≠0:=oq_;have b1:=Int.emod_nonneg x.p.period n2;have b2:=Int.emod_lt_of_pos x.p.period (show 0<y.p.period by omega);have b3:=Int.emod_nonneg y.p.period n1;have b4:=Int.emod_lt_of_pos y.p.period (show 0<x.p.period by omega)
 go_enter Tryz.func166,Tryz.ntmps166
 go_wp2_with fail
 all_goals
  go_ret;refine ⟨ac_ ?_,xE⟩;unfold divB
  first|rfl|(simp_all;done)
theorem RowR.part {F:Nat->Prop} {b o n:Nat} (h:RowR W F (.slice (some ⟨b,o,none⟩) n c) n (L.flatMap PV.enc)) (hn:L.length=n) (h0:0<n) (i m c':Nat) (him:i+m≤n) (hm:m≤c') (hc:c'≤9223372036854775807) :
  RowR W F (.slice (some ⟨b,o+i*4,none⟩) m c') m (((L.drop i).take m).flatMap PV.enc):=by
 obtain ⟨a',c2,he,h1,h2,h3⟩:=h.is;injection he with e1 _ _
 rcases h3 with h3|⟨b',o',e2,hF,hl,hcell⟩
 ·omega
 ·rw [e2] at e1;injection e1 with e1
  injection e1 with e3 e4
  subst e3;subst e4;refine ⟨_,c',rfl,hm,hc,.inr ⟨_,_,rfl,hF,hl,fun k u hu=>?_⟩⟩;have hk:k<m*4:=by
   have:=(List.getElem?_eq_some_iff.1 hu).1;rw [c3_,List.length_take,List.length_drop] at this;have:min m (L.length-i)≤m:=Nat.min_le_left _ _;omega
  rw [<- io_,<- ik_,List.getElem?_take_of_lt hk,List.getElem?_drop] at hu;have:=hcell _ u hu;rw [Nat.add_assoc];exact this
def x1_ (L:List PV) (j:Nat) (w:World) (e:Ending) (w':World):Prop:=
 ∃ (v:Value),e=.returned v∧w'.ownsRow w.heap.size 39 4 v (L.length-1) ((L.eraseIdx j).flatMap PV.enc)∧Below w.heap.size w w'
theorem pj_ (F:Nat->Prop) (v:Value) (L:List PV) (j:Nat) (w:World) (hL:be_ w F v L) (hj:j<L.length) (hl:L.length≤1000000) :
  Calls Tryz.prog 194 #[v,.int .i64 (j:Int)] w (x1_ L j w):=by
 obtain ⟨a,c,rfl,hlc,hc9,h3⟩:=hL.row;rcases h3 with h3|⟨b,o,rfl,hF,hlt,hcell⟩
 ·omega
 have hr1:RowR w F (.slice (some ⟨b,o,none⟩) j c) j ((L.take j).flatMap PV.enc):=by
  have:=hL.row.part rfl oq_ 0 j c oq_ oq_ hc9;simpa using this
 have hr2:RowR w F (.slice (some ⟨b,o+(j+1)*4,none⟩) (L.length-(j+1)) (c-(j+1))) (L.length-(j+1)) ((L.drop (j+1)).flatMap PV.enc):=by
  have:=hL.row.part rfl oq_ (j+1) (L.length-(j+1)) (c-(j+1)) oq_ oq_ oq_;rwa [List.take_of_length_le (by rw [List.length_drop];omega)] at this
 have ho1:∀ u∈(L.take j).flatMap PV.enc,u.oneCell'=true:=fun u hu=>by
  obtain ⟨x,hx,hu⟩:=List.mem_flatMap.1 hu;exact (hL.all x (List.mem_of_mem_take hx)).one u hu
 have ho2:∀ u∈(L.drop (j+1)).flatMap PV.enc,u.oneCell'=true:=fun u hu=>by
  obtain ⟨x,hx,hu⟩:=List.mem_flatMap.1 hu;exact (hL.all x (List.mem_of_mem_drop hx)).one u hu
 have hf1:((L.take j).flatMap PV.enc).length=j*4:=by rw [c3_,List.length_take];omega
 have hf2:((L.drop (j+1)).flatMap PV.enc).length=(L.length-(j+1))*4:=by rw [c3_,List.length_drop]
 have hee:(L.take j).flatMap PV.enc ++ (L.drop (j+1)).flatMap PV.enc=(L.eraseIdx j).flatMap PV.enc:=by rw [<- io_,<- ik_,l5_]
 have H1:=hq_ (fun W (h:Below w.heap.size w W)=>hr1.keep (a5_.below h) h.size);have H2:=hq_ (fun W (h:Below w.heap.size w W)=>hr2.keep (a5_.below h) h.size);have HO1:=hq_ ho1;have HO2:=hq_ ho2;have HF1:=hq_ hf1;have HF2:=hq_ hf2;have HEE:=hq_ hee;clear hr1 hr2 ho1 ho2 hf1 hf2 hee hcell hL;have hjI:(j:Int)<L.length:=oq_
 go_enter Tryz.func194,Tryz.ntmps194
 have hown0:=World.ownsRow_lit (base:=w.heap.size) (e:=39) (size:=4) w #[] 0 (Nat.le_refl _) (by unfold maxLen;omega) rfl;have hz:w.heap.size≤(w.alloc (.cells #[] 39)).heap.size:=by simp
 by_cases hcz:c=j+1
 ·subst hcz;have hlz:L.length-(j+1)=0:=oq_;have hdz:(L.drop (j+1)).flatMap PV.enc=[]:=by rw [List.drop_eq_nil_of_le oq_];rfl
  have H2:Hid (∀ W,RowR W F (.slice (some ⟨b,o,none⟩) 0 0) 0 []):=hq_ fun W=>⟨some ⟨b,o,none⟩,0,rfl,Nat.le_refl _,oq_,.inl rfl⟩;have HEE2:Hid ((L.take j).flatMap PV.enc=(L.eraseIdx j).flatMap PV.enc):=hq_ (by rw [<- HEE.out,hdz,List.append_nil]);have HLZ:=hq_ hlz;clear hdz hlz;go_wp2_with (first|(at_builtin;refine by_ rq_ _ _ rq_ w.heap.size (.slice (some ⟨w.heap.size,0,none⟩) 0 0) (.slice (some ⟨b,o,none⟩) j (j+1)) 0 j [] _ F rq_ hown0 rq_ (H1.out _ (Ea (Er w) _)) HF1.out HO1.out oq_ hz ?_;intro v5 w5 hown5 hgrow5;rw [Nat.zero_add,List.nil_append] at hown5;have hE5:=(Ea (Er w) (.cells #[] 39)).grown hgrow5 hz (fun k e=>(hown0.lt k e).1);have hz5:=hE5.size;obtain ⟨na5,nc5,rfl⟩:=bm_ hown5;have HOWN5:=hq_ hown5;have HE5:=hq_ hE5;clear hown5 hgrow5 hE5)|(at_builtin;refine by_ rq_ _ _ rq_ w.heap.size (.slice na5 j nc5) (.slice (some ⟨b,o,none⟩) 0 0) j 0 _ [] F rq_ HOWN5.out rq_ (H2.out _) rq_ sq_ oq_ hz5 ?_;intro v6 w6 hown6 hgrow6;rw [List.append_nil] at hown6;have hE6:=HE5.out.grown hgrow6 HE5.out.size (fun k e=>(HOWN5.out.lt k e).1);obtain ⟨na6,nc6,rfl⟩:=bm_ hown6;have HOWN6:=hq_ hown6;have HE6:=hq_ hE6;clear hown6 hgrow6 hE6))
  go_ret;refine ⟨_,rfl,?_,HE6.out⟩;have h:=HOWN6.out;have h1:=HLZ.out;rw [HEE2.out] at h;rw [show L.length-1=j+0 by omega];exact h
 ·have hcp:0<c-(j+1):=oq_;have hlz:j+(L.length-(j+1))=L.length-1:=oq_;go_wp2_with (first|(at_builtin;refine by_ rq_ _ _ rq_ w.heap.size (.slice (some ⟨w.heap.size,0,none⟩) 0 0) (.slice (some ⟨b,o,none⟩) j c) 0 j [] _ F rq_ hown0 rq_ (H1.out _ (Ea (Er w) _)) HF1.out HO1.out oq_ hz ?_;intro v5 w5 hown5 hgrow5;rw [Nat.zero_add,List.nil_append] at hown5;have hE5:=(Ea (Er w) (.cells #[] 39)).grown hgrow5 hz (fun k e=>(hown0.lt k e).1);have hz5:=hE5.size;obtain ⟨na5,nc5,rfl⟩:=bm_ hown5;have HOWN5:=hq_ hown5;have HE5:=hq_ hE5;clear hown5 hgrow5 hE5)|(at_builtin;refine by_ rq_ _ _ rq_ w.heap.size (.slice na5 j nc5) (.slice (some ⟨b,o+(j+1)*4,none⟩) (L.length-(j+1)) (c-(j+1))) j (L.length-(j+1)) _ _ F rq_ HOWN5.out rq_ (H2.out _ HE5.out) HF2.out HO2.out oq_ hz5 ?_;intro v6 w6 hown6 hgrow6;have hE6:=HE5.out.grown hgrow6 HE5.out.size (fun k e=>(HOWN5.out.lt k e).1);obtain ⟨na6,nc6,rfl⟩:=bm_ hown6;have HOWN6:=hq_ hown6;have HE6:=hq_ hE6;clear hown6 hgrow6 hE6))
  go_ret;refine ⟨_,rfl,?_,HE6.out⟩;have h:=HOWN6.out;rw [HEE.out,hlz] at h;rw [<- hlz];rw [hlz];exact h
theorem gf_ {F:Nat->Prop} (h:W.ownsRow B 39 4 v L.length (L.flatMap PV.enc)) (hF:∀ b,B≤b->F b) (hl:L.length≤1000000) (ha:∀ x∈L,PVok W F x):be_ W F v L:=by
 have h0:=gw_ h hl fun x hx=>⟨_,ha x hx⟩;refine ⟨?_,h0.len,ha⟩;obtain ⟨a,c,rfl,h1,h2,h3⟩:=h0.row;refine ⟨a,c,rfl,h1,h2,h3.imp id ?_⟩;rintro ⟨b,o,rfl,-,hl,hc⟩;exact ⟨b,o,rfl,hF b (h.lt b rfl).1,hl,hc⟩
def li_ (F:Nat->Prop) (L:List PV) (v:Value) (w:World) (e:Ending) (w':World):Prop:=
 Below w.heap.size w w'∧((cj_ (ch_ (L.map PV.p)) L.length∧e=.returned (.tuple #[v,.bool false])) ∨
  ∃ (i j:Nat) (v':Value),cf_ (ch_ (L.map PV.p)) L.length i j∧e=.returned (.tuple #[v',.bool true])∧ab_ w' (fun b=>F b∨w.heap.size≤b) v' (ci_ (L.map PV.p) i j))
theorem ua_ (s:Int) (F:Nat->Prop) (v:Value) (L:List PV) (w:World) (hL:be_ w F v L) (hv:∀ x∈L,FV s x.p) (hl:L.length≤1000) :
  Calls Tryz.prog 165 #[v] w (li_ F L v w):=by
 obtain ⟨a,c,rfl,hlc,hc9,_⟩:=hL.row.is;have HL:=hq_ hL;have HV:=hq_ hv;clear hL hv
 go_enter Tryz.func165,Tryz.ntmps165
 go_wp2_with fail
 go_loopw [4,5,6,7,8] (fun i _ _ _ _ wr=>∃ k:Nat,k≤L.length∧i=.int .i64 k∧Hid (∀ i' j',i'<k->i'<j'->j'<L.length->¬ ch_ (L.map PV.p) i' j')∧Hid (Below w.heap.size w wr)) (fun i _ _ _ _ _=>L.length-(intOf i).toNat)
 case atStart=>exact ⟨0,oq_,rfl,hq_ (by intro i' j' h;omega),hq_ xE⟩
 case round=>
  obtain ⟨k,hk,rfl,HNO,HBL⟩:=hrel;have hbk:=HBL.out
  by_cases hlt:k<L.length
  ·have hlI:(k:Int)<L.length:=oq_;go_wp2_with fail
   go_loopw [5,6,7,8] (fun i _ _ _ wq=>∃ jj:Nat,k<jj∧jj≤L.length∧i=.int .i64 jj∧Hid (∀ j',k<j'->j'<jj->¬ ch_ (L.map PV.p) k j')∧Hid (Below w.heap.size w wq)) (fun i _ _ _ _=>L.length-(intOf i).toNat)
   case atStart=>exact ⟨k+1,oq_,oq_,by go_num,hq_ (by intro j' h1 h2;omega),HBL⟩
   case round=>
    obtain ⟨jj,hkj,hjl,rfl,HNR,HB2⟩:=hrel;have hb:=HB2.out
    by_cases hlt2:jj<L.length
    ·have hlI2:(jj:Int)<L.length:=oq_;obtain ⟨b,o,x,ha,hx,hxp,hb1,e0,e1,e2,e3⟩:=(HL.out.keep (a5_.below hb) hb.size).get hlt;subst ha;obtain ⟨b',o',y,ha,hy,hyp,_,g0,g1,g2,g3⟩:=(HL.out.keep (a5_.below hb) hb.size).get hlt2;injection ha with ha
     injection ha with ha1 ha2
     subst ha1;subst ha2;have hfx:FV s x.p:=by
      rw [hxp];obtain ⟨z,hz,e⟩:=List.mem_map.1 (aa_ (d:=default) (show k<(L.map PV.p).length by rw [List.length_map];exact hlt));rw [<- e];exact HV.out z hz
     have hfy:FV s y.p:=by
      rw [hyp];obtain ⟨z,hz,e⟩:=List.mem_map.1 (aa_ (d:=default) (show jj<(L.map PV.p).length by rw [List.length_map];exact hlt2));rw [<- e];exact HV.out z hz
     have HDA:Hid (ch_ (L.map PV.p) k jj↔divB x.p y.p=true):=hq_ (by unfold ch_;rw [hxp,hyp]);have hdv:=fun W=>iw_ x y W hfx.valid.wf.per hfx.valid.per hfy.valid.wf.per hfy.valid.per;have HXP:=hq_ hxp;have HYP:=hq_ hyp;have HX:=hq_ hx;have HY:=hq_ hy;have HFX:=hq_ hfx;have HFY:=hq_ hfy;obtain ⟨xh,xc,xp⟩:=x;obtain ⟨yh,yc,yp⟩:=y;obtain ⟨ax1,nx1,cx1,ax2,nx2,cx2,rfl,rfl⟩:=hx.form;obtain ⟨ay1,ny1,cy1,ay2,ny2,cy2,rfl,rfl⟩:=hy.form;change ∀ W,Calls _ _ #[.agg #[.slice ax1 nx1 cx1,.int .i64 xp.frm,.int .i64 xp.period,.slice ax2 nx2 cx2],.agg #[.slice ay1 ny1 cy1,.int .i64 yp.frm,.int .i64 yp.period,.slice ay2 ny2 cy2]] W (fun e w'=>e=.returned (.bool (divB xp yp))∧Below W.heap.size W w') at hdv;dsimp only at e0 e1 e2 e3 g0 g1 g2 g3;have HDV:=hq_ hdv;clear hxp hyp hx hy hfx hfy hdv;change Hid (_↔divB xp yp=true) at HDA;generalize divB xp yp=dd at *;go_upto_region 7 with (fail)
     cases dd
     all_goals
      go_region_held3 (fun w'=>w'.cell? ⟨b,o+k*4,none⟩=some (.slice ax1 nx1 cx1)∧w'.cell? ⟨b,o+k*4+1,none⟩=some (.int .i64 xp.frm)∧w'.cell? ⟨b,o+k*4+2,none⟩=some (.int .i64 xp.period)∧w'.cell? ⟨b,o+k*4+3,none⟩=some (.slice ax2 nx2 cx2)∧w'.cell? ⟨b,o+jj*4,none⟩=some (.slice ay1 ny1 cy1)∧w'.cell? ⟨b,o+jj*4+1,none⟩=some (.int .i64 yp.frm)∧w'.cell? ⟨b,o+jj*4+2,none⟩=some (.int .i64 yp.period)∧w'.cell? ⟨b,o+jj*4+3,none⟩=some (.slice ay2 ny2 cy2)∧Below wr.heap.size wr w') ((go_split_ands;refine ⟨?_,?_,?_,?_,?_,?_,?_,?_,xE⟩ <;> first|assumption|(refine Ext.cell (w:=wr) xE (by assumption))))
       (first|(go_at_call 166;(with_reducible refine (HDV.out _).mono ?_);rintro e u9 ⟨rfl,kz⟩))
     ·go_wp2_with fail
      go_roundw
      case rel=>exact ⟨jj+1,oq_,oq_,by go_num,hq_ (fun j' h1 h2=>by
       by_cases h3:j'<jj
       ·exact HNR.out j' h1 h3
       ·obtain rfl:j'=jj:=oq_;rw [HDA.out];decide),hq_ (Et HB2.out (by go_split_ands;exact xE))⟩
      case measure=>simp [intOf];omega
     ·have hbu:Below wr.heap.size wr u9:=by go_split_ands;exact xE
      obtain ⟨q,hq⟩:∃ q,q=andP xp yp:=⟨_,rfl⟩;have HQ:=hq_ hq;have HFQ:Hid (FV s q):=hq_ (by rw [hq];exact HFX.out.and HFY.out);have HAND:=hq_ (fun W (h:Below wr.heap.size wr W)=>show Calls _ _ #[.agg #[.slice ax1 nx1 cx1,.int .i64 xp.frm,.int .i64 xp.period,.slice ax2 nx2 cx2],.agg #[.slice ay1 ny1 cy1,.int .i64 yp.frm,.int .i64 yp.period,.slice ay2 ny2 cy2]] W (b6_ q W) from by rw [hq];exact pw_ s (.slice ax1 nx1 cx1) (.slice ax2 nx2 cx2) (.slice ay1 ny1 cy1) (.slice ay2 ny2 cy2) xp yp W (HX.out.is.ext h) (HY.out.is.ext h) HFX.out HFY.out);have hz0:0<u9.heap.size:=by have:=hbu.size;have:=World.block_lt_of_cell? wr _ e0;omega
      clear hq;go_split_ands;go_upto_region 8 with (fail)
      refine Code.wp_mono (Q:=fun e a' W'=>e=.normal∧(∃ (nb:Nat) (hv cv:Value) (z23 z24 z25 z26 z27 z28 z29 z30 z32 z33 z34 z35 z36 z37 z38 z39 z40 z41 z42 z43:Value),a'=⟨#[.slice (some ⟨b,o,none⟩) L.length c,undef,u2,u3,.int .i64 ↑k,.int .i64 ↑jj,.pointer (some ⟨nb,0,none⟩),.int .i64 0,u8,.int .i64 ↑k,.slice (some ⟨b,o,none⟩) L.length c,.int .i64 ↑L.length,.bool true,u13,u14,.int .i64 ↑k,.int .i64 (↑k+1),.int .i64 ↑jj,.slice (some ⟨b,o,none⟩) L.length c,.int .i64 ↑L.length,.bool true,u21,u22,z23,z24,z25,z26,z27,z28,z29,z30,.bool true,z32,z33,z34,z35,z36,z37,z38,z39,z40,z41,z42,z43,u44,u45,u46,u47,u48,u49,u50,u51,u52,u53,u54,u55,undef],[]⟩∧Hid (MgP (u9.heap.size-1) q nb hv cv W'))∧Hid (Below u9.heap.size u9 W')) ?imp ?reg
      case reg=>
       refine cx_ (w0:=u9) [0,1,2,3,4,5,6,7,8,9,10,11,12] 11 13 [14] (fun v=>⟨#[.slice (some ⟨b,o,none⟩) L.length c,undef,u2,u3,.int .i64 ↑k,.int .i64 ↑jj,v 12,u7,u8,.int .i64 ↑k,.slice (some ⟨b,o,none⟩) L.length c,.int .i64 ↑L.length,.bool true,u13,u14,.int .i64 ↑k,.int .i64 (↑k+1),.int .i64 ↑jj,.slice (some ⟨b,o,none⟩) L.length c,.int .i64 ↑L.length,.bool true,u21,u22,.slice (some ⟨b,o,none⟩) L.length c,.int .i64 ↑k,.pointer (some ⟨b,o+k*4,none⟩),.agg #[.slice ax1 nx1 cx1,.int .i64 xp.frm,.int .i64 xp.period,.slice ax2 nx2 cx2],.slice (some ⟨b,o,none⟩) L.length c,.int .i64 ↑jj,.pointer (some ⟨b,o+jj*4,none⟩),.agg #[.slice ay1 ny1 cy1,.int .i64 yp.frm,.int .i64 yp.period,.slice ay2 ny2 cy2],.bool true,v 9,v 0,v 1,v 2,v 3,v 4,v 5,v 6,v 7,v 8,v 10,v 11,u44,u45,u46,u47,u48,u49,u50,u51,u52,u53,u54,u55,undef],[]⟩) [.slice (some ⟨b,o,none⟩) L.length c,.int .i64 k,.pointer (some ⟨b,o+k*4,none⟩),.agg #[.slice ax1 nx1 cx1,.int .i64 xp.frm,.int .i64 xp.period,.slice ax2 nx2 cx2],.slice (some ⟨b,o,none⟩) L.length c,.int .i64 jj,.pointer (some ⟨b,o+jj*4,none⟩),.agg #[.slice ay1 ny1 cy1,.int .i64 yp.frm,.int .i64 yp.period,.slice ay2 ny2 cy2],undef,undef,undef,.int .i64 0,undef] [8,9,10,12] (fun i v lo hi W=>match i with|8=>∃ h c,v 8=.tuple #[perV h c q.frm q.period,.int .i64 0]∧e4_ W (lo 8) (hi 8) h c q|9=>v 9=v 8∧∃ h c,v 9=.tuple #[perV h c q.frm q.period,.int .i64 0]|10=>∃ h c,v 9=.tuple #[perV h c q.frm q.period,.int .i64 0]∧v 10=perV h c q.frm q.period|12=>v 12=.pointer (some ⟨lo 12,0,none⟩)∧lo 12<hi 12∧Bxx W (lo 12) #[.slice none 0 0,.int .i64 0,.int .i64 0,.slice none 0 0] 39|_=>True) (fun W=>W.cell? ⟨b,o+k*4,none⟩=some (.slice ax1 nx1 cx1)∧W.cell? ⟨b,o+k*4+1,none⟩=some (.int .i64 xp.frm)∧W.cell? ⟨b,o+k*4+2,none⟩=some (.int .i64 xp.period)∧W.cell? ⟨b,o+k*4+3,none⟩=some (.slice ax2 nx2 cx2)∧W.cell? ⟨b,o+jj*4,none⟩=some (.slice ay1 ny1 cy1)∧W.cell? ⟨b,o+jj*4+1,none⟩=some (.int .i64 yp.frm)∧W.cell? ⟨b,o+jj*4+2,none⟩=some (.int .i64 yp.period)∧W.cell? ⟨b,o+jj*4+3,none⟩=some (.slice ay2 ny2 cy2)) (fun W hb=>⟨Ext.cell (Et hbu hb) e0,Ext.cell (Et hbu hb) e1,Ext.cell (Et hbu hb) e2,Ext.cell (Et hbu hb) e3,Ext.cell (Et hbu hb) g0,Ext.cell (Et hbu hb) g1,Ext.cell (Et hbu hb) g2,Ext.cell (Et hbu hb) g3⟩) ?stab ?loc ?steps ?fin ?fin2 (fun j=>match j with|0=>u33|1=>u34|2=>u35|3=>u36|4=>u37|5=>u38|6=>u39|7=>u40|8=>u41|9=>u32|10=>u42|11=>u43|12=>u6|_=>undef)
       case stab=>
        refine ⟨?_,?_,?_,?_,trivial⟩
        ·intro v lo hi W W' h hb;exact (let ⟨x1,x2,e,hp⟩:=h;⟨x1,x2,e,hp.below hb⟩)
        ·intro v lo hi W W' h hb;exact h
        ·intro v lo hi W W' h hb;exact h
        ·intro v lo hi W W' h hb;exact ⟨h.1,h.2.1,h.2.2.below hb⟩
       case loc=>
        refine ⟨?_,?_,?_,?_,trivial⟩
        ·intro v v' lo lo' hi hi' W hag h;have q:=hag 8 (.inl rfl)
         (try dsimp only at h ⊢)
         simp only [q.1,q.2.1,q.2.2] at h;exact h
        ·intro v v' lo lo' hi hi' W hag h;have q:=hag 9 (.inl rfl);have q8:=hag 8 (.inr (Rdp (by kernel_rfl)))
         (try dsimp only at h ⊢)
         simp only [q.1,q.2.1,q.2.2,q8.1,q8.2.1,q8.2.2] at h;exact h
        ·intro v v' lo lo' hi hi' W hag h;have q:=hag 10 (.inl rfl);have q9:=hag 9 (.inr (Rdp (by kernel_rfl)))
         (try dsimp only at h ⊢)
         simp only [q.1,q.2.1,q.2.2,q9.1,q9.2.1,q9.2.2] at h;exact h
        ·intro v v' lo lo' hi hi' W hag h;have q:=hag 12 (.inl rfl)
         (try dsimp only at h ⊢)
         simp only [q.1,q.2.1,q.2.2] at h;exact h
       case steps=>
        refine .c [] [] rfl ?_ (.c [] [] rfl ?_ (.c [0,1] [] rfl ?_ (.c [2] [] rfl ?_ (.c [] [] rfl ?_ (.c [] [] rfl ?_ (.c [4,5] [] rfl ?_ (.c [6] [] rfl ?_ (.c [3,7] [] rfl ?_ (.c [] [8] rfl ?_ (.c [] [9] rfl ?_ (.c [] [9] rfl ?_ (.c [] [] rfl ?_ (.n)))))))))))))
        all_goals try exact stl
        ·rintro v lo hi W hb ⟨s0,s1,s2,s3,t0,t1,t2,t3⟩ _;refine ⟨rfl,fun K hK=>?_⟩;simp only [ov,vat,Nat.reduceBEq,cond_true,cond_false];go_wp2_with (go_at_call 95;(with_reducible refine (HAND.out _ (Et hbu hb)).mono ?_);rintro e w9 ⟨h',c',rfl,ho,hb9⟩)
         exact acx (hK (.tuple #[perV h' c' q.frm q.period,.int .i64 0]) w9 hb9 ⟨h',c',rfl,ho.at⟩) (by simp [ov,vat,upd])
        ·rintro v lo hi W hb ⟨s0,s1,s2,s3,t0,t1,t2,t3⟩ ⟨⟨la8,lb8,D8⟩,_⟩;refine ⟨rfl,fun K hK=>?_⟩;simp only [ov,vat,Nat.reduceBEq,cond_true,cond_false]
         (try dsimp only at D8)
         obtain ⟨h8,c8,e8,_⟩:=D8;go_wp2_with fail
         exact acx (hK (v 8) W (Below.refl _ _) ⟨rfl,h8,c8,e8⟩) (by simp [ov,vat,upd,e8])
        ·rintro v lo hi W hb ⟨s0,s1,s2,s3,t0,t1,t2,t3⟩ ⟨⟨la9,lb9,D9⟩,_⟩;refine ⟨rfl,fun K hK=>?_⟩;simp only [ov,vat,Nat.reduceBEq,cond_true,cond_false]
         (try dsimp only at D9)
         obtain ⟨-,h9,c9,e9⟩:=D9;simp only [e9];go_wp2_with fail
         exact acx (hK (perV h9 c9 q.frm q.period) W (Below.refl _ _) ⟨h9,c9,e9,rfl⟩) (by simp [ov,vat,upd,e9])
        ·rintro v lo hi W hb ⟨s0,s1,s2,s3,t0,t1,t2,t3⟩ ⟨⟨la9,lb9,D9⟩,_⟩;refine ⟨rfl,fun K hK=>?_⟩;simp only [ov,vat,Nat.reduceBEq,cond_true,cond_false]
         (try dsimp only at D9)
         obtain ⟨-,h9,c9,e9⟩:=D9;simp only [e9];go_wp2_with fail
         exact acx (hK W (Below.refl _ _)) (by simp [ov,vat,upd,e9])
        ·rintro v lo hi W hb ⟨s0,s1,s2,s3,t0,t1,t2,t3⟩ _;refine ⟨rfl,fun K hK=>?_⟩;simp only [ov,vat,Nat.reduceBEq,cond_true,cond_false];go_wp2_with fail
         exact hK (.pointer (some ⟨W.heap.size,0,none⟩)) _ (Ea (Er _) _) ⟨rfl,sq_,Bxx.new _ _ _⟩
       case fin=>
        rintro v lo hi9 W5 hb5-hf hap;show wpList _ _ _ [_,_] _ _;obtain ⟨l8,-,h8,h,c,e8,hp8⟩:=hf 8 rfl;obtain ⟨-,-,-,e9,-⟩:=hf 9 rfl;obtain ⟨-,-,-,h',c',e9',e10⟩:=hf 10 rfl;have e11:v 11=.int .i64 0:=(hf 11 rfl).2.2.2;obtain ⟨l12,-,h12,e12,lt12,hbox⟩:=hf 12 rfl;have hd:=hap 8 12 rfl rfl dq_;clear hf hap;rw [e9,e8] at e9';obtain ⟨rfl,rfl⟩:h=h'∧c=c':=by simpa [perV] using e9'
        dsimp only;rw [e10,e11,e12];clear e10 e11 e12 e9 e9' e8;obtain ⟨nb,hnb⟩:∃ nb,nb=lo 12:=⟨_,rfl⟩;rw [<- hnb] at hd hbox l12 lt12 ⊢;have hpi:=hp8.inn;generalize lo 8=l8v at *;generalize hi9 8=h8v at *;generalize hi9 12=h12v at *;clear hnb hp8;obtain ⟨a5,m5,a6,m6,rfl,rfl⟩:=hpi.form;have r0:=hbox.cells 0;have r1:=hbox.cells 1;have r2:=hbox.cells 2;have r3:=hbox.cells 3;have HMG:=hq_ (MgP.of (B:=u9.heap.size-1) hpi HFQ.out oq_ hbox oq_ oq_);have HB5:=hq_ hb5;clear hbox hpi hd;generalize v 0=z0,v 1=z1,v 2=z2,v 3=z3,v 4=z4,v 5=z5,v 6=z6,v 7=z7,v 8=z8,v 9=z9;go_wp2_with fail
        exact ⟨⟨_,_,HMG⟩,hq_ (by have hb5:=HB5.out;exact xE)⟩
       case fin2=>
        rintro v lo hi9 W5 hb5-hf hap;obtain ⟨l8,-,h8,h,c,e8,hp8⟩:=hf 8 rfl dq_;obtain ⟨-,-,-,e9,-⟩:=hf 9 rfl dq_;obtain ⟨-,-,-,h',c',e9',e10⟩:=hf 10 rfl dq_;obtain ⟨l12,-,h12,e12,lt12,hbox⟩:=hf 12 rfl dq_;have hd:=hap 8 12 rfl rfl dq_ dq_ dq_;clear hf hap;rw [e9,e8] at e9';obtain ⟨rfl,rfl⟩:h=h'∧c=c':=by simpa [perV] using e9'
        have e99:=e9.trans e8;dsimp only;rw [e10,e12,e99];clear e10 e12 e9 e9' e8 e99;obtain ⟨nb,hnb⟩:∃ nb,nb=lo 12:=⟨_,rfl⟩;rw [<- hnb] at hd hbox l12 lt12 ⊢;have hpi:=hp8.inn;generalize lo 8=l8v at *;generalize hi9 8=h8v at *;generalize hi9 12=h12v at *;clear hnb hp8;obtain ⟨a5,m5,a6,m6,rfl,rfl⟩:=hpi.form;have r0:=hbox.cells 0;have r1:=hbox.cells 1;have r2:=hbox.cells 2;have r3:=hbox.cells 3;have HMG:=hq_ (MgP.of (B:=u9.heap.size-1) hpi HFQ.out oq_ hbox oq_ oq_);have HB5:=hq_ hb5;clear hbox hpi hd;generalize v 0=z0,v 1=z1,v 2=z2,v 3=z3,v 4=z4,v 5=z5,v 6=z6,v 7=z7,v 8=z8,v 11=z11;constructor
        ·show wpList _ _ _ [_,_,_] _ _;go_wp2_with fail
         exact ⟨⟨_,_,HMG⟩,hq_ (by have hb5:=HB5.out;exact xE)⟩
        ·show wpList _ _ _ [_,_,_] _ _;go_wp2_with fail
         exact ⟨⟨_,_,HMG⟩,hq_ (by have hb5:=HB5.out;exact xE)⟩
      case imp=>
       rintro e a' W6 ⟨rfl,⟨nb,hv9,cv9,z23,z24,z25,z26,z27,z28,z29,z30,z32,z33,z34,z35,z36,z37,z38,z39,z40,z41,z42,z43,rfl,HP⟩,HB6⟩;obtain ⟨a5,n5,m5,a6,n6,m6,rfl,rfl⟩:=HP.out.ok.form;have p0:=HP.out.c0;have p1:=HP.out.c1;have p2:=HP.out.c2;have p3:=HP.out.c3;have hzu:w.heap.size≤u9.heap.size:=by have:=HB2.out.size;have:=hbu.size;omega
       have hE6:Below w.heap.size w W6:=Et HB2.out (Et hbu HB6.out);have HE6:=hq_ hE6;have hz6:W6.heap.size≤(W6.alloc (.cells #[] 39)).heap.size:=by simp
       have hown0:=World.ownsRow_lit (base:=W6.heap.size) (e:=39) (size:=4) W6 #[] 0 (Nat.le_refl _) (by unfold maxLen;omega) rfl;have HROW:=hq_ ((HL.out.row.keep (a5_.below hE6) hE6.size).keep (a5_.below (Ea (Er W6) (.cells #[] 39))) hz6);have HONE:=hq_ HL.out.cells_one;clear hE6 hbu;go_wp2_with (first|(at_builtin;refine by_ rq_ _ _ rq_ W6.heap.size (.slice (some ⟨W6.heap.size,0,none⟩) 0 0) (.slice (some ⟨b,o,none⟩) L.length c) 0 L.length [] (L.flatMap PV.enc) F rq_ hown0 rq_ HROW.out c3_ HONE.out oq_ hz6 ?_;intro v7 w7 hown7 hgrow7;rw [Nat.zero_add,List.nil_append] at hown7;have hb7:=(Ea (Er W6) (.cells #[] 39)).grown hgrow7 hz6 (fun k e=>(hown0.lt k e).1);obtain ⟨hl7,⟨he,h0⟩|⟨g,cap,cur,he,hg1,hg,h6,h7,h8,h9⟩⟩:=hown7;(exfalso;omega);cases he;(have s0:=Ext.cell hb7 p0);(have s1:=Ext.cell hb7 p1);(have s2:=Ext.cell hb7 p2);(have s3:=Ext.cell hb7 p3);(have hr5:Row5 (fun b=>(F b∨w.heap.size≤b)∧b<W6.heap.size) g cap w7 L:=⟨⟨hl7,.inr ⟨g,cap,cur,rfl,Nat.zero_le _,hg,h6,h7,h8,h9⟩⟩,fun x hx=>(((HL.out.lt.all x hx).keep (a5_.below HE6.out)).keep (a5_.below hb7)).mono fun q' hq'=>⟨⟨.inl hq'.1,by have:=hq'.2;have:=HE6.out.size;omega⟩,by have:=hq'.2;have:=HE6.out.size;omega⟩,oq_⟩);(have hpv:PVok w7 (fun b'=>((F b'∨w.heap.size≤b')∧b'<W6.heap.size)∧b'≠g) ⟨.slice a5 n5 m5,.slice a6 n6 m6,q⟩:=(HP.out.ok.lt.keep (a5_.below hb7)).mono fun b' hb'=>⟨⟨.inr (by have:=hb'.1;omega),hb'.2⟩,by have:=hb'.2;omega⟩);(have hset:=hr5.set (j:=k) (x:=⟨.slice a5 n5 m5,.slice a6 n6 m6,q⟩) hlt hpv);(have hterm:=hset.term);(have hrem:=pj_ _ _ _ jj _ hterm (by rw [List.length_set];exact hlt2) (by rw [List.length_set];omega));(rw [List.length_set] at hrem);(have HREM:=hq_ hrem);(have HSET:=hq_ hset);(have k0:=(hr5.row.cellAt (k*4) oq_).trans (by simpa using av_ (j:=k) (i:=0) hlt rfl));(have k1:=(hr5.row.cellAt (k*4+1) oq_).trans (av_ (j:=k) (i:=1) hlt rfl));(have k2:=(hr5.row.cellAt (k*4+2) oq_).trans (av_ (j:=k) (i:=2) hlt rfl));(have k3:=(hr5.row.cellAt (k*4+3) oq_).trans (av_ (j:=k) (i:=3) hlt rfl));(have l0:=hr5.row.frozenAt (k*4));(have l1:=hr5.row.frozenAt (k*4+1));(have l2:=hr5.row.frozenAt (k*4+2));(have l3:=hr5.row.frozenAt (k*4+3));(have HB7:=hq_ hb7);(have hgz:W6.heap.size≤g:=hg1);clear hr5 hpv hset hterm hrem hb7 hgrow7 hl7 hg1 hg h6 h7 h8 h9)|(go_at_call 194;(refine HREM.out.mono ?_;rintro e w9 ⟨v9,rfl,hown9,hb9⟩)))
       go_ret2;have hB7:Below W6.heap.size W6 w7:=HB7.out;have hb8:=hB7.trans (ei_ w7 (i:=k*4) hgz (.slice a5 n5 m5) (.int .i64 q.frm) (.int .i64 q.period) (.slice a6 n6 m6));have hbw:=Et (Et HE6.out hb8) hb9;refine ⟨hbw,.inr ⟨k,jj,v9,⟨hkj,hlt2,by have h:=HDA.out;simpa using h,HNO.out,HNR.out⟩,rfl,(L.set k ⟨.slice a5 n5 m5,.slice a6 n6 m6,q⟩).eraseIdx jj,map_merge hlt hlt2 (by rw [HQ.out,<- HXP.out,<- HYP.out]),?_⟩⟩;have hle:((L.set k ⟨.slice a5 n5 m5,.slice a6 n6 m6,q⟩).eraseIdx jj).length=(L.set k ⟨.slice a5 n5 m5,.slice a6 n6 m6,q⟩).length-1:=List.length_eraseIdx_of_lt (by rw [List.length_set];exact hlt2);rw [<- hle] at hown9;exact gf_ hown9 (fun b hb=>.inr (Nat.le_trans (Et HE6.out hb8).size hb)) (by rw [hle,List.length_set];omega) fun z hz=>((HSET.out.all z (List.mem_of_mem_eraseIdx hz)).keep (a5_.below hb9)).mono fun b hb=>hb.1.1
    ·obtain rfl:jj=L.length:=oq_;go_wp2_with fail
     go_roundw
     case rel=>exact ⟨k+1,oq_,by go_num,hq_ (fun i' j' h1 h2 h3=>by
      by_cases h4:i'<k
      ·exact HNO.out i' j' h4 h2 h3
      ·obtain rfl:i'=k:=oq_;exact HNR.out j' h2 h3),HB2⟩
     case measure=>simp [intOf];omega
  ·obtain rfl:k=L.length:=oq_;go_wp2_with fail
   go_ret2;exact ⟨HBL.out,.inl ⟨fun i j h1 h2=>HNO.out i j oq_ h1 h2,rfl⟩⟩
theorem l7_ {a:Act} {Q:Exit->Act->World->Prop} (hgd:o.guard=none) (s x:Operand)
  (ho:o.op=.call { callee:=.builtin .append,args:=#[s,x],argTypes:=#[36,36] }) (base:Nat) (v:Value) (n:Nat) (xs:List Value) (y:PV) (hs:a.eval s=v) (hown:w.ownsRow base 39 4 v n xs)
  (blk c:Nat) (hx:a.eval x=.slice (some ⟨blk,0,none⟩) 1 c) (hnew:∀ j u,y.enc[j]? = some u->w.cell? ⟨blk,j,none⟩=some u) (h1c:∀ u∈y.enc,u.oneCell'=true) (hlen:n+1≤1000000) (hbase:base≤w.heap.size)
  (h:∀ v' w',w'.ownsRow base 39 4 v' (n+1) (xs ++ y.enc)->w.grownBy w' v.ownBlock->(v'.ownBlock=v.ownBlock∨v'.ownBlock=some w.heap.size)->wpList Tryz.prog ops Q rest (a.put o.dst v') w') :
  wpList Tryz.prog ops Q (o :: rest) a w:=by
 obtain ⟨i,hi,h1,h2,h3⟩:=f1_;refine wpList_plain hgd fun K hK=>?_;obtain ⟨v',w',hrun,k2,k3,_,k5⟩:=run_append_own_at (P:=Tryz.prog) w base 36 o.type 39 i (.agg #[.slice none 0 0,.int .i64 0,.int .i64 0,.slice none 0 0]) 4 64 Tryz.underlying36 hi h1 h2 h3 rfl oq_ v n xs hown ⟨blk,0,none⟩ 1 c y.enc rfl
  (fun j u hu=>by rw [show (⟨blk,0,none⟩:Addr).add j=⟨blk,j,none⟩ from by
   rcases Nat.eq_zero_or_pos j with h0|h0
   ·subst h0;simp [Addr.add]
   ·simp [Addr.add];omega];exact hnew j u hu) h1c (by unfold maxLen;omega) oq_ hbase
 unfold Oper.wp execOp;simp only [ho,resolve,invoke,builtin,Sem.run_bind,Sem.run_pure,Result.andThen_ok,List.map_toArray,List.map_cons,List.map_nil,hs,hx,hrun];exact hK _ _ (h v' w' k2 k3 k5)
structure RowP (B:Nat) (W:World) (v:Value) (L:List PV):Prop where
 row:W.ownsRow B 39 4 v L.length (L.flatMap PV.enc)
 all:∀ x∈L,PVok W (fun b=>B≤b∧v.ownBlock≠some b) x
 lim:L.length≤1000000
theorem RowP.below (h:RowP B W v L) (hb:Below W.heap.size W W'):RowP B W' v L:=
 ⟨h.row.kept (row:=none) (World.grownBy.of_below hb _) (by
  cases e:v.ownBlock with
  | none=>exact .inl rfl
  | some k=>exact .inr sq_),fun x hx=>(h.all x hx).keep (a5_.below hb),h.lim⟩
theorem RowP.push {v':Value} {y:PV} (h:RowP B W v L) (hy:PVok W (fun b=>B≤b∧v.ownBlock≠some b) y) (hr:W'.ownsRow B 39 4 v' (L.length+1) (L.flatMap PV.enc ++ y.enc)) (hg:W.grownBy W' v.ownBlock)
  (hb:v'.ownBlock=v.ownBlock∨v'.ownBlock=some W.heap.size) (hl:L.length<1000000):RowP B W' v' (L ++ [y]):=by
 have key:∀ {z:PV},PVok W (fun b=>B≤b∧v.ownBlock≠some b) z->PVok W' (fun b=>B≤b∧v'.ownBlock≠some b) z:=fun hz=>by
  refine (hz.lt.keep (fun b hb' hl'=>hg.block b hl' fun e=>hb'.1.2 e.symm)).mono fun b hb'=>⟨hb'.1.1,?_⟩;rcases hb with e|e
  ·rw [e];exact hb'.1.2
  ·rw [e];intro e2;have:=hb'.2;injection e2 with e2
   omega
 refine ⟨by simpa using hr,fun z hz=>?_,tq_⟩;rcases List.mem_append.1 hz with hz|hz
 ·exact key (h.all z hz)
 ·rw [List.mem_singleton] at hz;subst hz;exact key hy
theorem RowP.term (h:RowP B W v L):be_ W (fun b=>B≤b) v L:=gf_ h.row (fun _ h=>h) h.lim fun x hx=>(h.all x hx).mono fun _ h=>h.1
theorem rs_ (hi:i<t.length) (hj:j<t.length) (h:∀ p∈t,FV s p):∀ p∈ci_ t i j,FV s p:=fun p hp=>by
 have h1:=List.mem_of_mem_eraseIdx hp;rcases List.mem_or_eq_of_mem_set h1 with h2|rfl
 ·exact h p h2
 ·exact (h _ (aa_ hi)).and (h _ (aa_ hj))
theorem j8_ (hj:j<t.length):(ci_ t i j).length=t.length-1:=by
 unfold ci_;rw [List.length_eraseIdx_of_lt (by rw [List.length_set];exact hj),List.length_set]
theorem ki_ {b:Nat} {y:PV} {t:TypeId} (h:Bxx W b #[y.h,.int .i64 y.p.frm,.int .i64 y.p.period,y.c] t):∀ j u,y.enc[j]? = some u->W.cell? ⟨b,j,none⟩=some u:=fun j u hu=>by
 have hj:j<4:=(List.getElem?_eq_some_iff.1 hu).1
 match j,hj with
 | 0,_=>simp [PV.enc] at hu;subst hu;exact (h.cells 0).1
 | 1,_=>simp [PV.enc] at hu;subst hu;exact (h.cells 1).1
 | 2,_=>simp [PV.enc] at hu;subst hu;exact (h.cells 2).1
 | 3,_=>simp [PV.enc] at hu;subst hu;exact (h.cells 3).1
theorem ab_.len_of {F:Nat->Prop} (h:ab_ W F v t):lenV v=t.length:=by
 obtain ⟨a,c,rfl,_⟩:=h.form;rfl
theorem li_.form {F:Nat->Prop} (h:li_ F L v w e w'):Below w.heap.size w w'∧∃ (v':Value) (b:Bool),e=.returned (.tuple #[v',.bool b])∧((b=false∧v'=v∧cj_ (ch_ (L.map PV.p)) L.length)∨(b=true∧∃ i j,cf_ (ch_ (L.map PV.p)) L.length i j∧ab_ w' (fun b=>F b∨w.heap.size≤b) v' (ci_ (L.map PV.p) i j))):=by
 obtain ⟨h1,⟨h2,rfl⟩|⟨i,j,v',h2,rfl,h3⟩⟩:=h
 ·exact ⟨h1,v,false,rfl,.inl ⟨rfl,rfl,h2⟩⟩
 ·exact ⟨h1,v',true,rfl,.inr ⟨rfl,i,j,h2,h3⟩⟩
theorem p2_ (s:Int) (F:Nat->Prop) (v:Value) (t:List Per) (w:World) (ht:ab_ w F v t) (hv:∀ p∈t,FV s p) (hl:t.length≤1000) :
  Calls Tryz.prog 133 #[v] w fun e w'=>∃ v' u,e=.returned v'∧b8_ t u∧(∀ p∈u,FV s p)∧ab_ w' (fun b=>w.heap.size≤b) v' u∧Below w.heap.size w w':=by
 obtain ⟨L,hLt,hL⟩:=ht;obtain ⟨a,c,rfl,hlc,hc9,_⟩:=hL.row.is;have htl:t.length=L.length:=by rw [<- hLt,List.length_map]
 have HL:=hq_ hL;have HV:=hq_ hv;have HLT:=hq_ hLt;have HTL:=hq_ htl;have hll:L.length≤1000:=oq_;clear hL hv hLt htl hl;have hown0:=World.ownsRow_lit (base:=w.heap.size) (e:=39) (size:=4) w #[] 0 (Nat.le_refl _) (by unfold maxLen;omega) rfl;have HR0:Hid (RowP w.heap.size (w.alloc (.cells #[] 39)) (.slice (some ⟨w.heap.size,0,none⟩) 0 0) []):=hq_ ⟨hown0,sq_,sq_⟩;clear hown0
 go_enter Tryz.func133,Tryz.ntmps133
 go_wp2_with fail
 go_loopw [3,4,5,6] (fun ov i _ _ wr=>∃ (k:Nat) (M:List PV),k≤L.length∧i=.int .i64 k∧M.length=k∧Hid (M.map PV.p=(t.take k).map fun p=>canonC p.mem)∧Hid (RowP w.heap.size wr ov M)∧Hid (Below w.heap.size w wr)) (fun _ i _ _ _=>L.length-(intOf i).toNat)
 case atStart=>exact ⟨0,[],oq_,rfl,rfl,hq_ rfl,HR0,hq_ xE⟩
 case round=>
  obtain ⟨k,M,hk,rfl,hmk,HM,HR,HBL⟩:=hrel;subst hmk;have hb:=HBL.out
  by_cases hlt:M.length<L.length
  ·have hlI:(M.length:Int)<L.length:=oq_;obtain ⟨b,o,x,rfl,hx,hxp,hb1,e0,e1,e2,e3⟩:=(HL.out.keep (a5_.below hb) hb.size).get hlt;rw [HLT.out] at hxp;have hkt:M.length<t.length:=by have:=HTL.out;omega
   have hfx:FV s x.p:=by rw [hxp];exact HV.out _ (aa_ hkt)
   have HNX:Hid ((t.take (M.length+1)).map (fun p=>canonC p.mem)=(t.take M.length).map (fun p=>canonC p.mem) ++ [canonC x.p.mem]):=hq_ (by rw [List.take_succ_eq_append_getElem hkt,List.map_append,hxp,List.getD_eq_getElem?_getD,List.getElem?_eq_getElem hkt];rfl);obtain ⟨xh,xc,xp⟩:=x;obtain ⟨ax1,nx1,cx1,ax2,nx2,cx2,rfl,rfl⟩:=hx.form;dsimp only at e0 e1 e2 e3;have HFC:Hid (FV s (canonC xp.mem)):=hq_ hfx.canon.2;have HCA:=hq_ (fun W (h:Below wr.heap.size wr W)=>show Calls _ _ #[.agg #[.slice ax1 nx1 cx1,.int .i64 xp.frm,.int .i64 xp.period,.slice ax2 nx2 cx2]] W (b6_ (canonC xp.mem) W) from t2_ s (.slice ax1 nx1 cx1) (.slice ax2 nx2 cx2) xp W (hx.is.ext h) hfx);clear hxp hx hfx;change Hid (_=_ ++ [canonC xp.mem]) at HNX;generalize canonC xp.mem=q at *;have hz:=hb.size;obtain ⟨oa,oc,rfl⟩:=bm_ HR.out.row;go_wp2_with (first|(go_at_call 164;(with_reducible refine (HCA.out _ (Er _)).mono ?_);rintro e w1 ⟨h',c',rfl,ho,hb1⟩;obtain ⟨a5,m5,a6,m6,rfl,rfl⟩:=ho.form;have HPV:=hq_ (ho.pv HFC.out);have HB1:=hq_ hb1;have hz1:=hb1.size;clear ho hb1)|(at_builtin;refine l7_ rq_ _ _ rq_ w.heap.size (.slice oa M.length oc) M.length (M.flatMap PV.enc) ⟨.slice a5 q.head.length m5,.slice a6 q.cycle.length m6,q⟩ rq_ (HR.out.below (Ea (Ea HB1.out (.cells #[.slice a5 q.head.length m5,.int .i64 q.frm,.int .i64 q.period,.slice a6 q.cycle.length m6] 39)) (.cells #[.slice a5 q.head.length m5,.int .i64 q.frm,.int .i64 q.period,.slice a6 q.cycle.length m6] 39))).row (w1.heap.size+1) 1 rq_ (fun j u hu=>(ki_ (Bxx.at (w:=w1.alloc (.cells #[.slice a5 q.head.length m5,.int .i64 q.frm,.int .i64 q.period,.slice a6 q.cycle.length m6] 39)) sq_)) j u hu) HPV.out.one oq_ tq_ ?_;intro v5 w5 hown5 hgrow5 hloc5;have hR5:=(HR.out.below (Ea (Ea HB1.out (.cells #[.slice a5 q.head.length m5,.int .i64 q.frm,.int .i64 q.period,.slice a6 q.cycle.length m6] 39)) (.cells #[.slice a5 q.head.length m5,.int .i64 q.frm,.int .i64 q.period,.slice a6 q.cycle.length m6] 39))).push ((HPV.out.keep (a5_.below (Ea (Ea (Er w1) (.cells #[.slice a5 q.head.length m5,.int .i64 q.frm,.int .i64 q.period,.slice a6 q.cycle.length m6] 39)) (.cells #[.slice a5 q.head.length m5,.int .i64 q.frm,.int .i64 q.period,.slice a6 q.cycle.length m6] 39)))).mono fun b' hb'=>⟨oq_,fun e=>by have:=((HR.out.row).lt _ e).2;omega⟩) hown5 hgrow5 hloc5 oq_;have hb5:Below w.heap.size w w5:=(Et HBL.out (Ea (Ea HB1.out (.cells #[.slice a5 q.head.length m5,.int .i64 q.frm,.int .i64 q.period,.slice a6 q.cycle.length m6] 39)) (.cells #[.slice a5 q.head.length m5,.int .i64 q.frm,.int .i64 q.period,.slice a6 q.cycle.length m6] 39))).grown hgrow5 tq_ (fun k' e=>((HR.out.below (Ea (Ea HB1.out (.cells #[.slice a5 q.head.length m5,.int .i64 q.frm,.int .i64 q.period,.slice a6 q.cycle.length m6] 39)) (.cells #[.slice a5 q.head.length m5,.int .i64 q.frm,.int .i64 q.period,.slice a6 q.cycle.length m6] 39))).row.lt k' e).1);have HR5:=hq_ hR5;have HB5:=hq_ hb5;clear hR5 hb5 hown5 hgrow5 hloc5))
   go_roundw
   case rel=>exact ⟨M.length+1,M ++ [⟨.slice a5 q.head.length m5,.slice a6 q.cycle.length m6,q⟩],oq_,by go_num,sq_,hq_ (by rw [List.map_append,HM.out,HNX.out];rfl),HR5,HB5⟩
   case measure=>simp [intOf];omega
  ·have HKL:Hid (M.length=L.length):=hq_ oq_;obtain ⟨oa,oc,rfl⟩:=bm_ HR.out.row;have HCUR:Hid (ab_ wr (fun b=>w.heap.size≤b) (.slice oa M.length oc) (t.map fun p=>canonC p.mem)):=hq_ ⟨M,by rw [HM.out,List.take_of_length_le (by have:=HTL.out;have:=HKL.out;omega)],HR.out.term⟩;have HCF:Hid (∀ p∈t.map (fun p=>canonC p.mem),FV s p):=hq_ fun p hp=>by
    obtain ⟨r,hr,rfl⟩:=List.mem_map.1 hp;exact (HV.out r hr).canon.2
   have hcl:(t.map fun p=>canonC p.mem).length≤1000:=by rw [List.length_map];have:=HTL.out;omega
   have HGO:Hid (∀ u,c4_ (t.map fun p=>canonC p.mem) u->b8_ t u):=hq_ fun u h=>h;clear HM HR;go_wp2_with fail
   go_loopw [3,7] (fun ov mo wq=>∃ (bm:Bool) (cur:List Per),mo=.bool bm∧Hid (ab_ wq (fun b=>w.heap.size≤b) ov cur)∧Hid (∀ p∈cur,FV s p)∧cur.length≤1000∧Hid (∀ u,c4_ cur u->b8_ t u)∧Hid (bm=true∨cj_ (ch_ cur) cur.length)∧Hid (Below w.heap.size w wq)) (fun ov mo _=>lenV ov+(match mo with|.bool true=>1|_=>0))
   case atStart=>exact ⟨true,_,rfl,HCUR,HCF,hcl,HGO,hq_ (.inl rfl),HBL⟩
   case round=>
    obtain ⟨bm,cur,rfl,HC,HF,hcl2,HG,HN,HB2⟩:=hrel;obtain ⟨Lc,hLc,hTc⟩:=HC.out;obtain ⟨ca,cc,rfl,_⟩:=hTc.row.is;have hcn:cur.length=Lc.length:=by rw [<- hLc,List.length_map]
    cases bm
    ·go_wp2_with fail
     go_ret;exact ⟨_,cur,rfl,HG.out _ (.done (HN.out.resolve_left sq_)),HF.out,HC.out,HB2.out⟩
    ·have HONC:=hq_ (ua_ s (fun b=>w.heap.size≤b) (.slice ca Lc.length cc) Lc wr hTc (fun x hx=>HF.out _ (by rw [<- hLc];exact List.mem_map_of_mem hx)) oq_);have HLC:=hq_ hLc;have HCN:=hq_ hcn;clear hLc hTc hcn;go_wp2_with (go_at_call 165;refine HONC.out.mono ?_;intro e w5 hr;obtain ⟨hb5,v',bb,rfl,hst⟩:=hr.form;have HST:=hq_ hst;have HB5:=hq_ hb5;clear hr hst hb5)
     go_roundw
     case rel=>
      rcases HST.out with ⟨rfl,rfl,hno⟩|⟨rfl,i,j,hfp,ht'⟩
      ·exact ⟨false,cur,rfl,hq_ (HC.out.ext HB5.out),HF,hcl2,HG,hq_ (.inr (by rw [HLC.out] at hno;rw [HCN.out];exact hno)),hq_ (Et HB2.out HB5.out)⟩
      ·rw [HLC.out] at hfp ht';have hij:i<cur.length∧j<cur.length:=by rw [HCN.out];exact ⟨Nat.lt_trans hfp.lt hfp.lim,hfp.lim⟩
       have hm:=j8_ (i:=i) hij.2;rw [<- HCN.out] at hfp;exact ⟨true,ci_ cur i j,rfl,hq_ (ht'.mono fun b hb=>hb.elim id fun h=>Nat.le_trans HB2.out.size h),hq_ (rs_ hij.1 hij.2 HF.out),oq_,hq_ (fun u hu=>HG.out u (.step hfp hu)),hq_ (.inl rfl),hq_ (Et HB2.out HB5.out)⟩
     case measure=>
      rcases HST.out with ⟨rfl,rfl,hno⟩|⟨rfl,i,j,hfp,ht'⟩
      ·simp [lenV]
      ·rw [HLC.out] at hfp ht';have hij:j<cur.length:=by rw [HCN.out];exact hfp.lim
       have hm:=j8_ (i:=i) hij;have h:=ht'.len_of;have h0:=HCN.out;have hc:lenV (.slice ca Lc.length cc)=Lc.length:=rfl;simp only [h,hc,hm];omega
theorem ws_ (F:Nat->Prop) (v:Value) (t:List Per) (n:Int) (w:World) (ht:ab_ w F v t) (hn:InI n) :
  Calls Tryz.prog 67 #[v,.int .i64 n] w fun e w'=>e=.returned (.bool (inB t n))∧Below w.heap.size w w':=by
 obtain ⟨L,hLt,hL⟩:=ht;obtain ⟨a1,c1,rfl,_⟩:=hL.row;have HL:=hq_ hL;have hl1:=hL.len;have htl:t.length=L.length:=by rw [<- hLt,List.length_map]
 have HT:=hq_ htl;have HLT:=hq_ hLt;have HN:=hq_ hn;clear hL htl hLt hn
 go_enter Tryz.func67,Tryz.ntmps67
 go_wp2_with fail
 go_loopw [5] (fun i wr=>∃ k:Nat,k≤L.length∧i=.int .i64 k∧Hid ((t.take k).all (fun p=>hasB p n)=true)∧Hid (Below w.heap.size w wr)) (fun i _=>L.length-(intOf i).toNat)
 case atStart=>exact ⟨0,oq_,rfl,hq_ rfl,hq_ xE⟩
 case round=>
  obtain ⟨k,hk,rfl,HPRE,HBL⟩:=hrel
  by_cases hlt:k<L.length
  ·have hlI:(k:Int)<L.length:=oq_;obtain ⟨b1,o1,x,rfl,hx,hxp,hb1,e0,e1,e2,e3⟩:=(HL.out.keep (a5_.below HBL.out) HBL.out.size).get hlt;rw [HLT.out] at hxp;have HSU:Hid ((t.take (k+1)).all (fun p=>hasB p n)=((t.take k).all (fun p=>hasB p n) && hasB x.p n)):=hq_ (by rw [hxp];exact hc_ (l:=t) (k:=k) (d:=default) (p:=fun p=>hasB p n) (show k<t.length by have:=HT.out;omega));have HF:Hid (hasB x.p n=false->inB t n=false):=hq_ fun h=>all_false (l:=t) (k:=k) (d:=default) (show k<t.length by have:=HT.out;omega) (by rw [<- hxp];exact h);obtain ⟨xh,xc,xp⟩:=x;obtain ⟨ax1,nx1,cx1,ax2,nx2,cx2,rfl,rfl⟩:=hx.form;have HR:=fun W (h:Below wr.heap.size wr W)=>u1_ (.slice ax1 nx1 cx1) (.slice ax2 nx2 cx2) xp n W (hx.is.ext h) hx.fr hx.pe HN.out;change ∀ W,_->Calls _ _ #[.agg #[.slice ax1 nx1 cx1,.int .i64 xp.frm,.int .i64 xp.period,.slice ax2 nx2 cx2],.int .i64 n] W (fun e w'=>e=.returned (.bool (hasB xp n))∧_) at HR;dsimp only at e0 e1 e2 e3 HSU HF;clear hxp hx;generalize hasB xp n=bb at *;have HR:=hq_ HR;have HBY:=HBL.out;cases bb
   ·go_wp2_with (go_at_call 107;(with_reducible refine (HR.out _ (Er _)).mono ?_);rintro e w1 ⟨rfl,hb2⟩)
    go_ret;exact ⟨ac_ (by first|exact HF.out rfl|exact HF.out trivial|exact HF.out:inB t n=false).symm,Et HBL.out hb2⟩
   ·go_wp2_with (go_at_call 107;(with_reducible refine (HR.out _ (Er _)).mono ?_);rintro e w1 ⟨rfl,hb2⟩)
    go_roundw
    case rel=>exact ⟨k+1,oq_,by go_num,hq_ (by rw [HSU.out,HPRE.out];rfl),hq_ (Et HBL.out hb2)⟩
    case measure=>simp [intOf];omega
  ·obtain rfl:k=L.length:=oq_;go_wp2_with fail
   go_ret;refine ⟨ac_ (Eq.symm ?_),HBL.out⟩;have h1:=HT.out;have h2:=HPRE.out;rw [List.take_of_length_le oq_] at h2;exact h2
theorem cb_ (F:Nat->Prop) (v:Value) (m:List (List Per)) (w:World) (hm:MixR w F v m) :
  Calls Tryz.prog 17 #[.agg #[v]] w fun e w'=>e=.returned (.bool (bj_ m))∧Below w.heap.size w w':=by
 obtain ⟨L,hLm,hL⟩:=hm;obtain ⟨a,c,rfl,_⟩:=hL.row;have HL:=hq_ hL;have hlen:=hL.len;have hml:m.length=L.length:=by rw [<- hLm];exact List.length_map _
 have HLM:=hq_ hLm;have HM:=hq_ hml;clear hL hLm hml
 go_enter Tryz.func17,Tryz.ntmps17
 by_cases hgt:64<L.length
 ·have hgI:64<(L.length:Int):=oq_;go_wp2_with fail
  go_ret;refine ⟨ac_ ?_,xE⟩;have:=HM.out;unfold bj_;rw [decide_eq_false oq_];rfl
 have hgI:¬ 64<(L.length:Int):=oq_;go_wp2_with fail
 go_loopw [3,4,5] (fun i _ _ wr=>∃ k:Nat,k≤L.length∧i=.int .i64 k∧Hid ((m.take k).all br_=true)∧Hid (Below w.heap.size w wr)∧Hid (Bxx wr w.heap.size #[.slice a L.length c] 28)) (fun i _ _ _=>L.length-(intOf i).toNat)
 case atStart=>exact ⟨0,oq_,rfl,hq_ rfl,hq_ xE,hq_ xB⟩
 case round=>
  obtain ⟨k,hk,rfl,HPRE,HBL,HBX⟩:=hrel;have hc0:=(Bxx.cells HBX.out 0).1
  by_cases hlt:k<L.length
  ·have hlI:(k:Int)<L.length:=oq_;obtain ⟨b8,f8,tv,rfl,hcell,hT⟩:=(HL.out.keep (a5_.below HBL.out) HBL.out.size).get hlt;rw [HLM.out] at hT;have HSU:Hid ((m.take (k+1)).all br_=((m.take k).all br_ && br_ (m.getD k []))):=hq_ (hc_ (l:=m) (k:=k) (d:=[]) (p:=br_) (show k<m.length by have:=HM.out;omega));have HF:Hid (br_ (m.getD k [])=false->bj_ m=false):=hq_ fun h=>by unfold bj_;rw [all_false (l:=m) (k:=k) (d:=[]) (show k<m.length by have:=HM.out;omega) h,Bool.and_false]
   generalize m.getD k []=t at *;obtain ⟨T,hTt,hTL⟩:=hT;obtain ⟨a2,c2,rfl,_⟩:=hTL.row;have htl:t.length=T.length:=by rw [<- hTt,List.length_map]
   have ht44:=hTL.len;have HTL:=hq_ hTL;have HTT:=hq_ hTt;have HTN:=hq_ htl;clear hTL hTt htl
   by_cases h1:T.length<1
   ·have h1I:(T.length:Int)<1:=oq_;go_wp2_with fail
    go_ret;refine ⟨ac_ (HF.out ?_).symm,HBL.out⟩;have:=HTN.out;unfold br_;rw [decide_eq_false oq_];rfl
   ·by_cases h2:4<T.length
    ·have h1I:¬ (T.length:Int)<1:=oq_;have h2I:4<(T.length:Int):=oq_;go_wp2_with fail
     go_ret;refine ⟨ac_ (HF.out ?_).symm,HBL.out⟩;have:=HTN.out;unfold br_;rw [decide_eq_false (p:=t.length≤4) oq_,Bool.and_false];rfl
    ·have h1I:¬ (T.length:Int)<1:=oq_;have h2I:¬ 4<(T.length:Int):=oq_;have HV4:Hid (br_ t=t.all validB):=hq_ (by have:=HTN.out;unfold br_;rw [decide_eq_true oq_,decide_eq_true oq_];rfl);obtain ⟨wo,hwo⟩:∃ wo,wo=wr:=⟨_,rfl⟩;have HBO:=HBL;rw [<- hwo] at HBO HTL HBX;have HWO:=hq_ hwo;clear hwo;go_wp2_with fail
     go_loopw [5] (fun i wq=>∃ j:Nat,j≤T.length∧i=.int .i64 j∧Hid ((t.take j).all validB=true)∧Hid (Below wo.heap.size wo wq)) (fun i _=>T.length-(intOf i).toNat)
     case atStart=>exact ⟨0,oq_,rfl,hq_ rfl,hq_ (by rw [<- HWO.out];exact Er _)⟩
     case round=>
      obtain ⟨j,hj,rfl,HPR2,HB2⟩:=hrel
      by_cases hlt2:j<T.length
      ·have hlI2:(j:Int)<T.length:=oq_;obtain ⟨b1,o1,x,rfl,hx,hxp,hb1,e0,e1,e2,e3⟩:=(HTL.out.keep (a5_.below HB2.out) HB2.out.size).get hlt2;rw [HTT.out] at hxp;have HS2:Hid ((t.take (j+1)).all validB=((t.take j).all validB && validB x.p)):=hq_ (by rw [hxp];exact hc_ (l:=t) (k:=j) (d:=default) (p:=validB) (show j<t.length by have:=HTN.out;omega));have HF2:Hid (validB x.p=false->t.all validB=false):=hq_ fun h=>all_false (l:=t) (k:=j) (d:=default) (show j<t.length by have:=HTN.out;omega) (by rw [<- hxp];exact h);obtain ⟨xh,xc,xp⟩:=x;obtain ⟨ax1,nx1,cx1,ax2,nx2,cx2,rfl,rfl⟩:=hx.form;have HR:=fun W (h:Below wr.heap.size wr W)=>ca_ (.slice ax1 nx1 cx1) (.slice ax2 nx2 cx2) xp W (hx.is.ext h) hx.fr hx.pe;change ∀ W,_->Calls _ _ #[.agg #[.slice ax1 nx1 cx1,.int .i64 xp.frm,.int .i64 xp.period,.slice ax2 nx2 cx2]] W (fun e w'=>e=.returned (.bool (validB xp))∧_) at HR;dsimp only at e0 e1 e2 e3 HS2 HF2;clear hxp hx;generalize validB xp=bb at *;have HR:=hq_ HR;cases bb
       ·go_wp2_with (go_at_call 62;(with_reducible refine (HR.out _ (Er _)).mono ?_);rintro e w1 ⟨rfl,hb2⟩)
        go_ret;exact ⟨ac_ (HF.out (HV4.out.trans (by first|exact HF2.out rfl|exact HF2.out trivial|exact HF2.out))).symm,Et HBO.out (Et HB2.out hb2)⟩
       ·go_wp2_with (go_at_call 62;(with_reducible refine (HR.out _ (Er _)).mono ?_);rintro e w1 ⟨rfl,hb2⟩)
        go_roundw
        case rel=>exact ⟨j+1,oq_,by go_num,hq_ (by rw [HS2.out,HPR2.out];rfl),hq_ (Et HB2.out hb2)⟩
        case measure=>simp [intOf];omega
      ·obtain rfl:j=T.length:=oq_;go_wp2_with fail
       go_roundw
       case rel=>
        refine ⟨k+1,oq_,by go_num,hq_ ?_,hq_ (Et HBO.out HB2.out),hq_ (Bxx.below HBX.out HB2.out)⟩;have h1:=HTN.out;have h2:=HPR2.out;rw [List.take_of_length_le oq_] at h2;rw [HSU.out,HPRE.out,HV4.out,h2];rfl
       case measure=>simp [intOf];omega
  ·obtain rfl:k=L.length:=oq_;go_wp2_with fail
   go_ret;refine ⟨ac_ (Eq.symm ?_),HBL.out⟩;have h1:=HM.out;have h2:=HPRE.out;rw [List.take_of_length_le oq_] at h2;unfold bj_;rw [decide_eq_true oq_,h2];rfl
theorem s1_ (F:Nat->Prop) (v:Value) (t:List Per) (f:Int) (w:World) (ht:ab_ w F v t) (hv:TV t) (hf:InI f) :
  Calls Tryz.prog 123 #[v,.int .i64 f] w fun e w'=>∃ (n:Int) (b:Bool),e=.returned (.tuple #[.int .i64 n,.bool b])∧bs_ (cq_ t t.length 0) f n b∧Below w.heap.size w w':=by
 have HIN:=fun W d (h:Below w.heap.size w W) (hd:InI d)=>ws_ F v t d W (ht.ext h) hd;obtain ⟨L,hLt,hL⟩:=ht;obtain ⟨a1,c1,rfl,_⟩:=hL.row;have HL:=hq_ hL;have hl1:=hL.len;have htl:t.length=L.length:=by rw [<- hLt,List.length_map]
 have HT:=hq_ htl;have HLT:=hq_ hLt;have HV:=hq_ hv;clear hL htl hLt hv
 go_enter Tryz.func123,Tryz.ntmps123
 go_wp2_with fail
 go_loopw [6,7,8,9,10] (fun nv bv i _ _ wr=>∃ (k:Nat) (n:Int) (b:Bool),k≤L.length∧i=.int .i64 k∧nv=.int .i64 n∧bv=.bool b∧Hid (bs_ (cq_ t k 0) f n b)∧Below w.heap.size w wr) (fun _ _ i _ _ _=>L.length-(intOf i).toNat)
 case atStart=>exact ⟨0,0,false,oq_,rfl,rfl,rfl,hq_ (bs_.start.congr fun x _=>kp_),xE⟩
 case round=>
  obtain ⟨k,n,b,hk,rfl,rfl,rfl,HBE,hb⟩:=hrel
  by_cases hlt:k<L.length
  ·have hlI:(k:Int)<L.length:=oq_;have hkt:k<t.length:=by have:=HT.out;omega
   have HB:=hq_ hb;go_wp2_with fail
   go_loopw [6,7,9,10] (fun nv bv i _ wq=>∃ (j:Nat) (n:Int) (b:Bool),j≤(t.getD k default).head.length∧i=.int .i64 j∧nv=.int .i64 n∧bv=.bool b∧Hid (bs_ (cq_ t k j) f n b)∧Below wr.heap.size wr wq) (fun _ _ i _ _=>(t.getD k default).head.length-(intOf i).toNat)
   case atStart=>exact ⟨0,n,b,oq_,rfl,rfl,rfl,HBE,xE⟩
   case round=>
    obtain ⟨j,n,b,hj,rfl,rfl,rfl,HBE2,hb2⟩:=hrel;obtain ⟨b1,o1,x,rfl,hx,hxp,hb1,e0,e1,e2,e3⟩:=(HL.out.keep (a5_.below (Et HB.out hb2)) (Et HB.out hb2).size).get hlt;rw [HLT.out] at hxp;rw [<- hxp] at hj;have HN:Hid ((t.getD k default).head.length=x.p.head.length):=hq_ (by rw [hxp]);have HXP:=hq_ hxp;have hxi:=hx.is.hd;obtain ⟨xh,xc,xp⟩:=x;obtain ⟨ax1,nx1,cx1,ax2,nx2,cx2,rfl,rfl⟩:=hx.form;dsimp only at e0 e1 e2 e3 hxi hj HN;change Hid (xp=_) at HXP;obtain ⟨⟨ah,ch,he,_,_,hcl⟩,hln,hrg⟩:=hxi;injection he with he1 he2 he3
    subst he1;subst he2;subst he3;have HCL:=hq_ hcl;have HRG:=hq_ hrg;clear hcl hrg hxp hx
    by_cases hjl:j<xp.head.length
    ·have hjI:(j:Int)<xp.head.length:=oq_;rcases HCL.out with h0|⟨b4,o4,rfl,hc4⟩
     ·rw [h0] at hjl;simp at hjl
     have c0:=hc4 j hjl;clear hc4;have hd:=HRG.out _ (aa_ (d:=0) hjl);have HS:=fun x=>l8_ (t:=t) (i:=k) (k:=j) (x:=x) (by rw [<- HXP.out];exact hjl);rw [<- HXP.out] at HS;have HS:=hq_ HS;generalize xp.head.getD j 0=d at *
     by_cases h1:f≤d
     ·cases b with
      | false=>
       cases hq:inB t d with
       | true=>
        have HI:=fun W h=>HIN W d h hd;rw [hq] at HI;have HTM:=hq_ ((ea_ HV.out).1 hq);clear hq;go_wp2_with (go_at_call 67;refine (HI _ xE).mono ?_;rintro e w1 ⟨rfl,hb3⟩)
        go_roundw
        case rel=>exact ⟨j+1,d,true,by have:=HN.out;omega,by go_num,rfl,rfl,hq_ (go_ HBE2.out HS.out h1 (by first|exact .inl rfl|exact .inr (by assumption)) HTM.out),xE⟩
        case measure=>simp only [HN.out];simp [intOf];omega
       | false=>
        have HI:=fun W h=>HIN W d h hd;rw [hq] at HI;have HTM:Hid (¬ tmem t d):=hq_ fun g=>by rw [(ea_ HV.out).2 g] at hq;exact absurd hq dq_
        clear hq;go_wp2_with (go_at_call 67;refine (HI _ xE).mono ?_;rintro e w1 ⟨rfl,hb3⟩)
        go_roundw
        case rel=>exact ⟨j+1,n,_,by have:=HN.out;omega,by go_num,rfl,rfl,hq_ (d6_ HBE2.out HS.out fun g=>HTM.out g.2.2),xE⟩
        case measure=>simp only [HN.out];simp [intOf];omega
      | true=>
       by_cases h2:d<n
       ·
        cases hq:inB t d with
        | true=>
         have HI:=fun W h=>HIN W d h hd;rw [hq] at HI;have HTM:=hq_ ((ea_ HV.out).1 hq);clear hq;go_wp2_with (go_at_call 67;refine (HI _ xE).mono ?_;rintro e w1 ⟨rfl,hb3⟩)
         go_roundw
         case rel=>exact ⟨j+1,d,true,by have:=HN.out;omega,by go_num,rfl,rfl,hq_ (go_ HBE2.out HS.out h1 (by first|exact .inl rfl|exact .inr (by assumption)) HTM.out),xE⟩
         case measure=>simp only [HN.out];simp [intOf];omega
        | false=>
         have HI:=fun W h=>HIN W d h hd;rw [hq] at HI;have HTM:Hid (¬ tmem t d):=hq_ fun g=>by rw [(ea_ HV.out).2 g] at hq;exact absurd hq dq_
         clear hq;go_wp2_with (go_at_call 67;refine (HI _ xE).mono ?_;rintro e w1 ⟨rfl,hb3⟩)
         go_roundw
         case rel=>exact ⟨j+1,n,_,by have:=HN.out;omega,by go_num,rfl,rfl,hq_ (d6_ HBE2.out HS.out fun g=>HTM.out g.2.2),xE⟩
         case measure=>simp only [HN.out];simp [intOf];omega
       ·go_wp2_with fail
        go_roundw
        case rel=>exact ⟨j+1,n,true,by have:=HN.out;omega,by go_num,rfl,rfl,hq_ (d6_ HBE2.out HS.out fun g=>g.2.1.elim (fun g=>absurd g dq_) h2),xE⟩
        case measure=>simp only [HN.out];simp [intOf];omega
     ·go_wp2_with fail
      go_roundw
      case rel=>exact ⟨j+1,n,b,by have:=HN.out;omega,by go_num,rfl,rfl,hq_ (d6_ HBE2.out HS.out fun g=>h1 g.1),xE⟩
      case measure=>simp only [HN.out];simp [intOf];omega
    ·obtain rfl:j=xp.head.length:=oq_;go_wp2_with fail
     go_roundw
     case rel=>exact ⟨k+1,n,b,oq_,by go_num,rfl,rfl,hq_ (HBE2.out.congr fun x _=>by rw [mf_ hkt,<- HXP.out]),xE⟩
     case measure=>simp [intOf];omega
  ·obtain rfl:k=L.length:=oq_;go_wp2_with fail
   go_ret2;exact ⟨n,b,rfl,by rw [HT.out];exact HBE.out,xE⟩
theorem t9_ (a b:Int) (w:World) (ha:1≤a) (ha1:a≤9223372036854775807) (hb:1≤b) (hb1:b≤9223372036854775807) :
  Calls Tryz.prog 182 #[.int .i64 a,.int .i64 b] w fun e w'=>e=.returned (.int .i64 (Int.gcd a b:Nat))∧∃ n,w'=w.drewN n:=by
 have hg:=bn_ (b:=b) ha;have hg2:=cs_ (a:=a) hb;generalize hgd:((Int.gcd a b:Nat):Int)=g at *;have HG:=hq_ hgd;clear hgd
 go_enter Tryz.func182,Tryz.ntmps182
 go_wp2_with fail
 go_loopw [5,6] (fun vx vy wr=>∃ x y:Int,vx=.int .u64 x∧vy=.int .u64 y∧0≤x∧x≤9223372036854775807∧0≤y∧y≤9223372036854775807∧Int.gcd x y=Int.gcd a b∧∃ n,wr=w.drewN n) (fun _ vy _=>(intOf vy).toNat)
 case atStart=>exact ⟨a,b,rfl,rfl,oq_,ha1,oq_,hb1,rfl,0,rfl⟩
 case round=>
  obtain ⟨x,y,rfl,rfl,hx0,hx1,hy0,hy1,hgxy,n,rfl⟩:=hrel;have HX:=hq_ hgxy;clear hgxy
  by_cases hz:y=0
  ·subst hz;have hxg:x=g:=by have:=gcd_zero hx0;rw [HX.out,HG.out] at this;exact this.symm
   have HXG:=hq_ hxg;clear hxg;have hxb:¬ 9223372036854775807<x:=oq_;go_wp2_with fail
   go_ret;exact ⟨d2_ HXG.out,n,rfl⟩
  ·have hs:=gj_ hx0 (show 0<y by omega);rw [HX.out] at hs;have HS:=hq_ hs;clear hs;have hm0:=Int.emod_nonneg x (show y≠0 by omega);have hm1:=Int.emod_lt_of_pos x (show 0<y by omega);have hzb:(y != 0)=true:=by rw [bne_iff_ne];omega
   have hypos:0<y:=oq_;clear hz;go_wp2_with fail
   go_quiet (fail)
   go_wp2_with fail
   go_roundw
   case rel=>exact ⟨y,x % y,rfl,rfl,hy0,hy1,hm0,oq_,HS.out,_,World.drewN_drewN _ _ _⟩
   case measure=>simp [intOf];omega
theorem ok_ (h c:Value) (p:Per) (j:Nat) (w:World) (his:a8_ w h c p) (hf:0≤p.frm) (hf1:p.frm≤1125899906842624) (hp:1≤p.period) (hp1:p.period≤1125899906842624) (hj:j<p.cycle.length) (hn:0≤p.cycle.getD j 0) (hn1:p.cycle.getD j 0≤1125899906842624) :
  Calls Tryz.prog 156 #[perV h c p.frm p.period,.int .i64 j] w fun e w'=>e=.returned (.int .i64 (resP p (p.cycle.getD j 0)))∧Below w.heap.size w w':=by
 have n1:p.period≠0:=oq_;have b1:=Int.emod_nonneg p.frm n1;have b2:=Int.emod_lt_of_pos p.frm (show 0<p.period by omega);have q1:p.frm.tmod p.period=p.frm % p.period:=Int.tmod_eq_emod_of_nonneg hf;obtain ⟨⟨⟨ah,ch,rfl,h1,h2,_⟩,_,_⟩,⟨ac,cc,rfl,hc1,hc2,hcl⟩,hln,_⟩:=his;rcases hcl with h0|⟨b4,o4,rfl,hc4⟩
 ·rw [h0] at hj;simp at hj
 have c0:=hc4 j hj;have hjI:(j:Int)<p.cycle.length:=oq_;clear hc4;generalize p.cycle.getD j 0=n at *;have q2:(p.frm % p.period+n).tmod p.period=(p.frm % p.period+n) % p.period:=Int.tmod_eq_emod_of_nonneg oq_;unfold resP;generalize p.frm % p.period=r at *;have HR:Hid (0≤(r+n) % p.period∧(r+n) % p.period<p.period):=hq_ ⟨Int.emod_nonneg _ n1,Int.emod_lt_of_pos _ oq_⟩;generalize p.cycle.length=pl at *;generalize p.head.length=ph at *;have hz:=World.block_lt_of_cell? w _ c0;have d0:=(Bxx.new w #[.slice ah ph ch,.int .i64 p.frm,.int .i64 p.period,.slice (some ⟨b4,o4,none⟩) pl cc] 39).cells;have e1:=(d0 1).1;have e2:=(d0 2).1;have e3:=(d0 3).1;have e4:=ag_ c0 (.cells #[.slice ah ph ch,.int .i64 p.frm,.int .i64 p.period,.slice (some ⟨b4,o4,none⟩) pl cc] 39);clear d0 c0
 go_enter Tryz.func156,Tryz.ntmps156
 go_wp2_with fail
 go_quiet (fail)
 go_wp2_with fail
 go_ret;exact ⟨rfl,xE⟩
def ChoP (done:List (Int × Int)) (L:List PV):Prop:=∀ k,k<done.length->(done.getD k (0,0)).1=((L.map PV.p).getD k default).period∧0≤(done.getD k (0,0)).2∧(done.getD k (0,0)).2≤1099511627776
theorem qt_ (F:Nat->Prop) (v cv:Value) (L:List PV) (done:List (Int × Int)) (P r:Int) (w:World) (hv:TV (L.map PV.p)) (hT:be_ w F v L) (hC:Ints w cv (done.map Prod.snd)) (hp:ChoP done L) (hl:done.length<L.length) (hP:P=((L.map PV.p).getD done.length default).period) (hr:0≤r) (hr1:r≤1099511627776) :
  Calls Tryz.prog 157 #[v,cv,.int .i64 r] w fun e w'=>∃ b,e=.returned (.bool b)∧(b=true↔fr_ done P r)∧Below w.heap.size w w':=by
 obtain ⟨a1,c1,rfl,hx1,hx2,_⟩:=hT.row.is;have hl1:=hT.len;have hlI:(done.length:Int)<L.length:=oq_;have HT:=hq_ hT;have HC:=hq_ hC;have HPR:=hq_ hp;have HP:=hq_ hP;have HV:=hq_ hv;obtain ⟨⟨ac,cc,rfl,hc1,hc2,_⟩,hln,_⟩:=hC;have HLEN:Hid ((done.map Prod.snd).length=done.length):=hq_ (List.length_map _);rw [HLEN.out] at hc1 hln ⊢;clear hT hp hv hP
 go_enter Tryz.func157,Tryz.ntmps157
 go_wp2_with fail
 go_loopw [8] (fun i wr=>∃ k:Nat,k≤done.length∧i=.int .i64 k∧Hid (ff_ done P r k)∧Hid (Below w.heap.size w wr)) (fun i _=>done.length-(intOf i).toNat)
 case atStart=>exact ⟨0,oq_,rfl,hq_ (fun j hj=>absurd hj oq_),hq_ xE⟩
 case round=>
  obtain ⟨k,hk,rfl,HAG,HB⟩:=hrel
  by_cases hlt:k<done.length
  ·have hkI:(k:Int)<done.length:=oq_;have hkL:(k:Int)<L.length:=oq_;obtain ⟨b1,o1,x,ha,hx,hxp,hxb,e0,e1,e2,e3⟩:=(HT.out.keep (a5_.below HB.out) HB.out.size).get hl;subst ha;obtain ⟨_,_,y,ha,hy,hyp,hyb,g0,g1,g2,g3⟩:=(HT.out.keep (a5_.below HB.out) HB.out.size).get (show k<L.length by omega);cases ha;rw [<- hxp] at HP;have hd:=HPR.out k hlt;rw [<- hyp] at hd;obtain ⟨hd1,hd2,hd3⟩:=hd;have hxv:=(as_ x.p).1 (HV.out _ (by rw [hxp];exact aa_ (by simpa using hl)));have hyv:=(as_ y.p).1 (HV.out _ (by rw [hyp];exact aa_ tq_));have p0:=hxv.wf.per;have p1:x.p.period≤1099511627776:=hxv.per;have z0:=hyv.wf.per;have z1:y.p.period≤1099511627776:=hyv.per;obtain ⟨⟨_,_,hca,_,_,hcl⟩,_,_⟩:=HC.out.ext HB.out;injection hca with hca1 hca2 hca3
   subst hca1;rcases hcl with h0|⟨b4,o4,rfl,hc4⟩
   ·rw [h0] at HLEN;have:=HLEN.out;simp at this;omega
   have c0:=hc4 k (by rw [HLEN.out];exact hlt);have hg0:(done.map Prod.snd).getD k 0=(done.getD k (0,0)).2:=by
    rw [List.getD_eq_getElem?_getD,List.getD_eq_getElem?_getD,List.getElem?_map];rw [List.getElem?_eq_getElem hlt];rfl
   rw [hg0] at c0;have HGC:=fun W=>t9_ x.p.period y.p.period W oq_ oq_ oq_ oq_;have hgb:=bn_ (a:=x.p.period) (b:=y.p.period) p0;have HSUC:Hid ((r-(done.getD k (0,0)).2) % ((Int.gcd x.p.period (done.getD k (0,0)).1:Nat):Int)=0->ff_ done P r (k+1)):=hq_ (by rw [<- HP.out];exact HAG.out.succ);have HFAI:Hid (fr_ done P r->(r-(done.getD k (0,0)).2) % ((Int.gcd x.p.period (done.getD k (0,0)).1:Nat):Int)=0):=hq_ (by rw [<- HP.out];exact fun h=>j3_.1 h k hlt);rw [hd1] at HSUC HFAI;obtain ⟨xh,xc,xp⟩:=x;obtain ⟨ax1,nx1,cx1,ax2,nx2,cx2,rfl,rfl⟩:=hx.form;obtain ⟨yh,yc,yp⟩:=y;obtain ⟨ay1,ny1,cy1,ay2,ny2,cy2,rfl,rfl⟩:=hy.form;dsimp only at e0 e1 e2 e3 g0 g1 g2 g3 HGC hgb HSUC HFAI p0 p1 z0 z1;clear hxp hyp hx hy hxv hyv hd1 hc4 hg0 HP hca2 hca3;generalize ((Int.gcd xp.period yp.period:Nat):Int)=G at *;generalize (done.getD k (0,0)).2=d2 at *;have htm:(r-d2).tmod G=0↔(r-d2) % G=0:=by
    constructor
    ·exact fun h=>Int.emod_eq_zero_of_dvd (Int.dvd_of_tmod_eq_zero h)
    ·exact fun h=>Int.tmod_eq_zero_of_dvd (Int.dvd_of_emod_eq_zero h)
   by_cases ha:(r-d2) % G=0
   ·have hT:=htm.2 ha;have HN:=hq_ (HSUC.out ha);clear htm ha;go_wp2_with fail
    go_quiet ((go_at_call 182;(first|exact Calls.quiet_of (HGC _)|exact d9_ (HGC _))))
    go_wp2_with fail
    go_roundw
    case rel=>exact ⟨k+1,oq_,by go_num,HN,hq_ (Below.drewN HB.out _)⟩
    case measure=>simp [intOf];omega
   ·have hT:(r-d2).tmod G≠0:=fun h=>ha (htm.1 h);have HNT:Hid (¬ fr_ done P r):=hq_ fun h=>ha (HFAI.out h);clear htm ha;go_wp2_with fail
    go_quiet ((go_at_call 182;(first|exact Calls.quiet_of (HGC _)|exact d9_ (HGC _))))
    go_wp2_with fail
    go_ret;exact ⟨false,rfl,⟨fun h=>absurd h dq_,fun h=>absurd h HNT.out⟩,Below.drewN HB.out _⟩
  ·obtain rfl:k=done.length:=oq_;go_wp2_with fail
   go_ret;exact ⟨true,rfl,⟨fun _=>j3_.2 HAG.out,fun _=>rfl⟩,HB.out⟩
theorem ChoP.snoc {done:List (Int × Int)} (h:ChoP done L) (hP:P=((L.map PV.p).getD done.length default).period) (h0:0≤r) (h1:r≤1099511627776):ChoP (done ++ [(P,r)]) L:=fun q hq=>by
 by_cases hqk:q<done.length
 ·have e:(done ++ [(P,r)]).getD q (0,0)=done.getD q (0,0):=by rw [List.getD_eq_getElem?_getD,List.getElem?_append_left hqk,<- List.getD_eq_getElem?_getD]
  rw [e];exact h q hqk
 ·obtain rfl:q=done.length:=by simp at hq;omega
  have e:(done ++ [(P,r)]).getD done.length (0,0)=(P,r):=by rw [List.getD_eq_getElem?_getD,List.getElem?_append_right (Nat.le_refl _)];simp
  rw [e];exact ⟨hP,h0,h1⟩
theorem ot_ (F:Nat->Prop) (v:Value) (L:List PV) (hv:TV (L.map PV.p)) :
  ∀ (n:Nat) (done:List (Int × Int)) (cv:Value) (w:World),done.length+n=L.length->ChoP done L->be_ w F v L->Ints w cv (done.map Prod.snd)->
   Calls Tryz.prog 125 #[v,cv] w fun e w'=>∃ b,e=.returned (.bool b)∧(b=true↔Ext done ((L.map PV.p).drop done.length))∧Below w.heap.size w w':=by
 intro n
 induction n with
 | zero=>
  intro done cv w hn hp hT hC;obtain ⟨a1,c1,rfl,hx1,hx2,_⟩:=hT.row.is;have hl1:=hT.len;obtain ⟨⟨ac,cc,rfl,hc1,hc2,_⟩,hln,_⟩:=hC;have HLEN:Hid ((done.map Prod.snd).length=done.length):=hq_ (List.length_map _);rw [HLEN.out] at hc1 hln ⊢;have HN:Hid (done.length=L.length):=hq_ oq_;have hq:((done.length:Int) == (L.length:Int))=true:=by simp;omega
  clear hp hT hn
  go_enter Tryz.func125,Tryz.ntmps125
  go_wp2_with fail
  go_ret;exact ⟨true,rfl,by rw [List.drop_of_length_le (by simp [HN.out])];exact ⟨fun _=>trivial,fun _=>rfl⟩,xE⟩
 | succ n ih=>
  intro done cv w hn hp hT hC;have IH:=hq_ ih;clear ih;have hl1:=hT.len;have hli:done.length<L.length:=oq_;have hiI:(done.length:Int)<L.length:=oq_;obtain ⟨a1,c1,rfl,hx1,hx2,_⟩:=hT.row.is;obtain ⟨tb,o1,x,ha,hx,hxp,hb1,e0,e1,e2,e3⟩:=hT.get hli;subst ha;have hvx:validB x.p=true:=hv _ (by rw [hxp];exact aa_ (by simpa using hli));have hvv:=(as_ x.p).1 hvx;have HXP:=hq_ hxp;have HT:=hq_ hT;have HC:=hq_ hC;have HPR:=hq_ hp;have HV:=hq_ hv;have HNN:=hq_ hn;have HRP:=hq_ (h2_ hvv.wf);have HPE:=hq_ hvv.per;obtain ⟨xh,xc,xp⟩:=x;obtain ⟨ax1,nx1,cx1,ax2,nx2,cx2,rfl,rfl⟩:=hx.form;dsimp only at e0 e1 e2 e3 hvv HRP HPE;change Hid (xp=_) at HXP;have hn2:nx2=xp.cycle.length:=by
   obtain ⟨⟨_,_,he,_⟩,_⟩:=hx.is.cy;injection he
  subst hn2;have HCLN:=hx.is.cy.len;have HRES:Hid (∀ W,Below w.heap.size w W->∀ j:Nat,j<xp.cycle.length->Calls Tryz.prog 156 #[.agg #[.slice ax1 nx1 cx1,.int .i64 xp.frm,.int .i64 xp.period,.slice ax2 xp.cycle.length cx2],.int .i64 j] W fun e w'=>e=.returned (.int .i64 (resP xp (xp.cycle.getD j 0)))∧Below W.heap.size W w'):=hq_ fun W h j hj=>ok_ (.slice ax1 nx1 cx1) (.slice ax2 xp.cycle.length cx2) xp j W (hx.is.ext h) hvv.wf.frm (by have:=hvv.frm;omega) hvv.wf.per (by have:=hvv.per;omega) hj (hvv.wf.cyc.2 _ (aa_ hj)).1 (by have:=(hvv.wf.cyc.2 _ (aa_ (d:=0) hj)).2;have:=hvv.per;omega);obtain ⟨⟨ac,cc,rfl,hc1,hc2,_⟩,hln,_⟩:=hC;have HLEN:Hid ((done.map Prod.snd).length=done.length):=hq_ (List.length_map _);rw [HLEN.out] at hc1 hln HC ⊢;have HDR:Hid (Ext done ((L.map PV.p).drop done.length)↔∃ c∈xp.cycle,el_ done xp ((L.map PV.p).drop (done.length+1)) c):=hq_ (by rw [HXP.out];exact jy_ (by simpa using hli));clear hp hT hn hv hvx hvv hx hxp;have hq:((done.length:Int) == (L.length:Int))=false:=by simp;omega
  go_enter Tryz.func125,Tryz.ntmps125
  go_wp2_with fail
  go_loopw [6,7,8] (fun i _ _ wr=>∃ j:Nat,j≤xp.cycle.length∧i=.int .i64 j∧Hid (∀ q,q<j->¬ el_ done xp ((L.map PV.p).drop (done.length+1)) (xp.cycle.getD q 0))∧Hid (Below w.heap.size w wr)) (fun i _ _ _=>xp.cycle.length-(intOf i).toNat)
  case atStart=>exact ⟨0,oq_,rfl,hq_ (fun q hq=>oq_),hq_ xE⟩
  case round=>
   obtain ⟨j,hj,rfl,HNO,HB⟩:=hrel;have hb:=HB.out;have f0:=Ext.cell hb e0;have f1:=Ext.cell hb e1;have f2:=Ext.cell hb e2;have f3:=Ext.cell hb e3
   by_cases hjl:j<xp.cycle.length
   ·have hjI:(j:Int)<xp.cycle.length:=oq_;have HRJ:=hq_ (HRES.out wr hb j hjl);have hr:=HRP.out (xp.cycle.getD j 0);have hrm:resP xp (xp.cycle.getD j 0)≤1099511627776:=by have:=HPE.out;omega
    have HTK:Hid (el_ done xp ((L.map PV.p).drop (done.length+1)) (xp.cycle.getD j 0)↔fr_ done xp.period (resP xp (xp.cycle.getD j 0))∧Ext (done ++ [(xp.period,resP xp (xp.cycle.getD j 0))]) ((L.map PV.p).drop (done.length+1))):=hq_ Iff.rfl;have HJM:Hid (xp.cycle.getD j 0∈xp.cycle):=hq_ (aa_ hjl);have HNX:Hid ((∀ q,q<j->¬ el_ done xp ((L.map PV.p).drop (done.length+1)) (xp.cycle.getD q 0))->¬ el_ done xp ((L.map PV.p).drop (done.length+1)) (xp.cycle.getD j 0)->∀ q,q<j+1->¬ el_ done xp ((L.map PV.p).drop (done.length+1)) (xp.cycle.getD q 0)):=hq_ fun h1 h2 q hq=>by
     by_cases hqj:q<j
     ·exact h1 q hqj
     ·obtain rfl:q=j:=oq_;exact h2
    have HNJ:=hq_ (HNX.out HNO.out);generalize xp.cycle.getD j 0=c at *;generalize resP xp c=r at *;have hPe:xp.period=((L.map PV.p).getD done.length default).period:=by rw [<- HXP.out]
    have hcp:=HPR.out.snoc hPe hr.1 hrm;have HAG:=hq_ (fun W (h:Below w.heap.size w W)=>qt_ F _ _ L done xp.period r W HV.out (HT.out.keep (a5_.below h) h.size) (HC.out.ext h) HPR.out hli hPe hr.1 hrm);have HIR:InI r:=⟨oq_,oq_⟩;have HREC:=hq_ (fun cv W (h:Below w.heap.size w W) (hi:Ints W cv ((done ++ [(xp.period,r)]).map Prod.snd))=>IH.out (done ++ [(xp.period,r)]) cv W (by have:=HNN.out;simp;omega) hcp (HT.out.keep (a5_.below h) h.size) hi);have HCW:=hq_ (fun W (h:Below w.heap.size w W)=>HC.out.ext h);have HMS:Hid ((done ++ [(xp.period,r)]).map Prod.snd=done.map Prod.snd ++ [r]):=hq_ sq_;rw [HMS.out] at HREC;have HDL:Hid ((done ++ [(xp.period,r)]).length=done.length+1):=hq_ sq_;rw [HDL.out] at HREC;have HOW:=hq_ (fun (w2:World)=>(⟨World.ownsRow_lit (base:=w2.heap.size) (e:=3) (size:=1) w2 #[] 0 (Nat.le_refl _) (by unfold maxLen;omega) rfl,sq_,sq_⟩:OwnI (w2.alloc (.cells #[] 3)) w2.heap.size (.slice (some ⟨w2.heap.size,0,none⟩) 0 0) []));clear hPe hcp;go_wp2_with (first|(go_at_call 156;(with_reducible refine HRJ.out.mono ?_);rintro e w1 ⟨rfl,hb1⟩;have HB1:=hq_ (Et HB.out hb1);have hz1:=HB1.out.size;clear hb1)|(go_at_call 157;(with_reducible refine (HAG.out _ HB1.out).mono ?_);rintro e w2 ⟨ba,rfl,hag,hb2⟩;have HA:=hq_ hag;have HB2:=hq_ (Et HB1.out hb2);have hz2:=HB2.out.size;clear hag hb2;cases ba)|(at_builtin;(first|(refine h1_ rq_ _ _ rq_ w2.heap.size (.slice (some ⟨w2.heap.size,0,none⟩) 0 0) _ [] (done.map Prod.snd) rq_ (HOW.out w2) rq_ (HCW.out _ (Ea HB2.out _)) (by simp [HLEN.out];omega) sq_ ?_;intro v3 w3 hown3 hgrow3 _;rw [List.nil_append] at hown3;have HB3:=hq_ (Et HB2.out ((Ea (Er w2) (.cells #[] 3)).grown hgrow3 sq_ (fun k e=>by simp [Value.ownBlock] at e;omega)));(have hz3:w2.heap.size≤w3.heap.size:=(by have:=hgrow3.size;simp at this;omega));obtain ⟨a3,c3,e3⟩:=hown3.form;rw [HLEN.out] at e3;subst e3;have HO3:=hq_ hown3;clear hown3 hgrow3)|(refine aj_ rq_ _ _ rq_ w2.heap.size (.slice a3 done.length c3) (done.map Prod.snd) r rq_ (HO3.out.ext xE) _ _ rq_ (((Bxx.new w3 #[.int .i64 r] _).cells 0).1) HIR (by rw [HLEN.out];omega) tq_ ?_;intro g4 cap4 w4 hown4 hgrow4 hb4;rw [HLEN.out] at hown4;have HB4:Hid (Below w.heap.size w w4):=hq_ (HB3.out.trans ((((Ea (Er w3) (.cells #[.int .i64 r] 3)).mono hz3).trans hb4).mono HB2.out.size));have HI4:=hq_ hown4.ints;clear hown4 hgrow4 hb4)))|(go_at_call 125;(with_reducible refine (HREC.out _ _ HB4.out HI4.out).mono ?_);rintro e w5 ⟨bb,rfl,hif,hb5⟩;have HIF:=hq_ hif;have HB5:=hq_ (Et HB4.out hb5);clear hif hb5;cases bb))
    ·have HN2:Hid (¬ el_ done xp ((L.map PV.p).drop (done.length+1)) c):=hq_ fun h=>absurd (HA.out.2 (HTK.out.1 h).1) (by first|decide|simp|exact id);go_roundw
     case rel=>exact ⟨j+1,oq_,by go_num,hq_ (HNJ.out HN2.out),HB2⟩
     case measure=>simp [intOf];omega
    ·have HN2:Hid (¬ el_ done xp ((L.map PV.p).drop (done.length+1)) c):=hq_ fun h=>absurd (HIF.out.2 (HTK.out.1 h).2) (by first|decide|simp|exact id);go_roundw
     case rel=>exact ⟨j+1,oq_,by go_num,hq_ (HNJ.out HN2.out),HB5⟩
     case measure=>simp [intOf];omega
    ·go_ret;exact ⟨true,rfl,⟨fun _=>HDR.out.2 ⟨c,HJM.out,HTK.out.2 ⟨HA.out.1 (by first|rfl|trivial),HIF.out.1 (by first|rfl|trivial)⟩⟩,fun _=>rfl⟩,HB5.out⟩
   ·obtain rfl:j=xp.cycle.length:=oq_;go_wp2_with fail
    go_ret;refine ⟨false,rfl,⟨fun h=>absurd h dq_,fun h=>?_⟩,HB.out⟩;obtain ⟨c,hc1,hc2⟩:=HDR.out.1 h;obtain ⟨q,hq,rfl⟩:=List.mem_iff_getElem.1 hc1;exact absurd (by rw [List.getD_eq_getElem?_getD,List.getElem?_eq_getElem hq];exact hc2) (HNO.out q hq)
theorem pa_ (F:Nat->Prop) (v:Value) (t:List Per) (w:World) (ht:ab_ w F v t) (hv:TV t) :
  Calls Tryz.prog 81 #[v] w fun e w'=>∃ b,e=.returned (.bool b)∧(b=true↔recT t)∧Below w.heap.size w w':=by
 obtain ⟨L,rfl,hL⟩:=ht;have H:=hq_ (fun W (h:Below w.heap.size w W)=>ot_ F v L hv L.length [] (.slice none 0 0) W sq_ (fun k hk=>absurd hk sq_) (hL.keep (a5_.below h) h.size) ((OwnI.nil W 0).ints));have HR:=hq_ (ls_ hv.wf);obtain ⟨a1,c1,rfl,hx1,hx2,_⟩:=hL.row.is;clear hL hv
 go_enter Tryz.func81,Tryz.ntmps81
 go_wp2_with (go_at_call 125;refine (H.out _ xE).mono ?_;rintro e w1 ⟨b,rfl,hif,hb⟩)
 go_ret;exact ⟨b,rfl,hif.trans HR.out,hb⟩
theorem pb_ (F:Nat->Prop) (v:Value) (t:List Per) (w:World) (ht:ab_ w F v t) (hv:TV t) :
  Calls Tryz.prog 80 #[v] w fun e w'=>∃ b,e=.returned (.bool b)∧(b=true↔bt_ t)∧Below w.heap.size w w':=by
 have H1:=s1_ F v t 0 w ht hv (by constructor <;> decide);have H2:=fun W (h:Below w.heap.size w W)=>pa_ F v t W (ht.ext h) hv;have HW:=hq_ hv.wf;obtain ⟨L,rfl,hL⟩:=ht;obtain ⟨a1,cc1,rfl,hx1,hx2,_⟩:=hL.row.is;clear hL hv
 go_enter Tryz.func80,Tryz.ntmps80
 go_wp2_with (first|(go_at_call 123;refine H1.mono ?_;rintro e w1 ⟨n,b,rfl,hE,hb1⟩;have HE:=hq_ hE;clear hE;cases b)|(go_at_call 81;refine (H2 _ xE).mono ?_;rintro e w2 ⟨r,rfl,hR,hb2⟩;have HR:=hq_ hR;clear hR;cases r))
 all_goals go_ret
 all_goals
  refine ⟨_,rfl,?_,xE⟩;rw [m1_ HW.out HE.out]
  first|(simp;done)|(have:=HR.out;simp at this ⊢;exact this)
theorem tp_ {e s n:Nat} (h:W.ownsRow B e s v n xs):W.ownsRow 0 e s v n xs:=
 ⟨h.1,h.2.imp id fun ⟨g,cap,cur,e,_,r⟩=>⟨g,cap,cur,e,Nat.zero_le _,r⟩⟩
structure OwnT (A:Nat->Prop) (n:Nat) (W:World) (v:Value) (L:List (Value × List Per)):Prop where
 row:RowT 0 A W v L
 own:∀ g,v.ownBlock=some g->n≤g
theorem OwnT.ext {A:Nat->Prop} {n:Nat} {L:List (Value × List Per)} (h:OwnT A n W v L) (hb:Below W.heap.size W W'):OwnT A n W' v L:=⟨h.row.below hb,h.own⟩
theorem OwnT.of {A:Nat->Prop} {n:Nat} {L:List (Value × List Per)} (h:W.ownsRow B 36 1 v L.length (L.map Prod.fst)) (hB:n≤B) (hl:L.length≤1000000) (hA:∀ g,v.ownBlock=some g->¬ A g)
  (ha:∀ x∈L,ab_ W (fun b=>¬ A b∧v.ownBlock≠some b) x.1 x.2):OwnT A n W v L:=
 ⟨⟨tp_ h,fun x hx=>(ha x hx).mono fun b hb=>⟨Nat.zero_le _,hb⟩,hA,hl⟩,fun g hg=>Nat.le_trans hB (h.lt g hg).1⟩
theorem er_ {a:Act} {Q:Exit->Act->World->Prop} (hgd:o.guard=none) (sx x:Operand)
  (ho:o.op=.call { callee:=.builtin .append,args:=#[sx,x],argTypes:=#[26,26] }) (A:Nat->Prop) (n:Nat) (v:Value) (L:List (Value × List Per)) (y:Value × List Per) (hs:a.eval sx=v) (h:OwnT A n w v L)
  (hy:ab_ w (fun b=>¬ A b∧v.ownBlock≠some b) y.1 y.2) (blk c:Nat) (hx:a.eval x=.slice (some ⟨blk,0,none⟩) 1 c) (hnew:w.cell? ⟨blk,0,none⟩=some y.1) (hA:¬ A w.heap.size) (hl:L.length<1000000) (hn:n≤w.heap.size)
  (k:∀ (a':Option Addr) (c':Nat) (w':World),OwnT A n w' (.slice a' (L.length+1) c') (L ++ [y])->w.grownBy w' v.ownBlock->Below n w w'->wpList Tryz.prog ops Q rest (a.put o.dst (.slice a' (L.length+1) c')) w') :
  wpList Tryz.prog ops Q (o :: rest) a w:=
 de_ hgd sx x ho 0 A v L y hs h.row (hy.mono fun b hb=>⟨Nat.zero_le _,hb⟩) blk c hx hnew hA hl (Nat.zero_le _) fun a' c' w' hr hg _ hbo=>
  k a' c' w' ⟨hr,fun g e=>hbo.elim (fun h1=>h.own g (h1 ▸ e)) fun h1=>by rw [h1] at e;cases e;exact hn⟩ hg ((Below.refl n w).grown hg hn h.own)
theorem OwnT.mix {A:Nat->Prop} {n:Nat} {L:List (Value × List Per)} (h:OwnT A n W v L):MixL W (fun b=>¬ A b) v L:=by
 refine ⟨?_,by have:=h.row.len;omega,fun x hx=>(h.row.all x hx).mono fun b hb=>hb.2.1⟩;have hne:=h.row.ne;obtain ⟨hl,⟨rfl,h2⟩|⟨g,cap,cur,rfl,hb,hg,h3,h4,h5,h6⟩⟩:=h.row.row
 ·rw [h2];exact ⟨none,0,rfl,oq_,oq_,.inl rfl⟩
 ·refine ⟨_,cap,rfl,h3,h4,.inr ⟨g,0,rfl,hne g rfl,(h.row.row.lt g rfl).2,fun i u hi=>?_⟩⟩;rw [Nat.zero_add];have:=(List.getElem?_eq_some_iff.1 hi).1;rw [List.length_map] at this;exact (h.row.row.cellAt i oq_).trans hi
theorem sw_ {F:Nat->Prop} {a1 a2:Option Addr} {n1 c1 n2 c2:Nat} (h:PVok W F ⟨.slice a1 n1 c1,.slice a2 n2 c2,q⟩) :
  ab_ (W.alloc (.cells #[.slice a1 n1 c1,.int .i64 q.frm,.int .i64 q.period,.slice a2 n2 c2] 39)) (fun b=>F b∨b=W.heap.size) (.slice (some ⟨W.heap.size,0,none⟩) 1 1) [q]:=by
 have hb:=Bxx.new W #[.slice a1 n1 c1,.int .i64 q.frm,.int .i64 q.period,.slice a2 n2 c2] 39;refine ⟨[⟨.slice a1 n1 c1,.slice a2 n2 c2,q⟩],rfl,⟨_,1,rfl,sq_,oq_,.inr ⟨W.heap.size,0,rfl,.inr rfl,hb.lt,fun i u hi=>?_⟩⟩,sq_,fun x hx=>?_⟩
 ·rw [Nat.zero_add];refine (hb.cells i).1.trans ?_;rw [<- hi]
  match i with
  | 0=>rfl
  | 1=>rfl
  | 2=>rfl
  | 3=>rfl
  | k+4=>rfl
 ·obtain rfl:x=⟨.slice a1 n1 c1,.slice a2 n2 c2,q⟩:=by simpa using hx
  exact (h.keep (a5_.below (Ea (Er W) _))).mono fun b hb=>.inl hb
theorem oe_ {e s n:Nat} (h:w.ownsRow B e s v n xs) (h0:0<n):∃ g cap,v=.slice (some ⟨g,0,none⟩) n cap:=by
 obtain ⟨_,⟨_,h2⟩|⟨g,cap,_,e,_⟩⟩:=h
 ·omega
 ·exact ⟨g,cap,e⟩
theorem RowR.part1 {F:Nat->Prop} {b o n:Nat} (h:RowR W F (.slice (some ⟨b,o,none⟩) n c) n cs) (h0:0<n) (i m c':Nat) (hm:m≤c') (hc:c'≤9223372036854775807) :
  RowR W F (.slice (some ⟨b,o+i,none⟩) m c') m ((cs.drop i).take m):=by
 obtain ⟨a',c2,he,h1,h2,h3⟩:=h.is;injection he with e1 _ _
 rcases h3 with h3|⟨b',o',e2,hF,hl,hcell⟩
 ·omega
 ·rw [e2] at e1;injection e1 with e1
  injection e1 with e3 e4
  subst e3;subst e4;refine ⟨_,c',rfl,hm,hc,.inr ⟨_,_,rfl,hF,hl,fun k u hu=>?_⟩⟩;have hk:k<m:=by
   have:=(List.getElem?_eq_some_iff.1 hu).1;rw [List.length_take] at this;omega
  rw [List.getElem?_take_of_lt hk,List.getElem?_drop] at hu;have:=hcell _ u hu;rw [Nat.add_assoc];exact this
def it_ (F:Nat->Prop) (l:List (List Per)) (v:Value) (w:World) (e:Ending) (w':World):Prop:=
 Below w.heap.size w w'∧((cj_ (az_ l) l.length∧e=.returned (.tuple #[v,.bool false])) ∨
  ∃ (i j:Nat) (v':Value),cf_ (az_ l) l.length i j∧e=.returned (.tuple #[v',.bool true])∧MixR w' (fun b=>F b∨w.heap.size≤b) v' (ct_ l i j))
theorem ra_ (s:Int) (F:Nat->Prop) (v:Value) (L:List (Value × List Per)) (w:World) (hL:MixL w F v L) (hv:∀ x∈L,aw_ s x.2) (hl:L.length≤100000) :
  Calls Tryz.prog 134 #[v] w (it_ F (L.map Prod.snd) v w):=by
 obtain ⟨a,c,rfl,hlc,hc9,_⟩:=hL.row.is;have HL:=hq_ hL;have HV:=hq_ hv;have HLM:Hid ((L.map Prod.snd).length=L.length):=hq_ (List.length_map _);clear hL hv
 go_enter Tryz.func134,Tryz.ntmps134
 go_wp2_with fail
 go_loopw [4,5,6,7,8] (fun i _ _ _ _ wr=>∃ k:Nat,k≤L.length∧i=.int .i64 k∧Hid (∀ i' j',i'<k->i'<j'->j'<L.length->¬ az_ (L.map Prod.snd) i' j')∧Hid (Below w.heap.size w wr)) (fun i _ _ _ _ _=>L.length-(intOf i).toNat)
 case atStart=>exact ⟨0,oq_,rfl,hq_ (by intro i' j' h;omega),hq_ xE⟩
 case round=>
  obtain ⟨k,hk,rfl,HNO,HBL⟩:=hrel
  by_cases hlt:k<L.length
  ·have hlI:(k:Int)<L.length:=oq_;go_wp2_with fail
   go_loopw [5,6,7,8] (fun i _ _ _ wq=>∃ jj:Nat,k<jj∧jj≤L.length∧i=.int .i64 jj∧Hid (∀ j',k<j'->j'<jj->¬ az_ (L.map Prod.snd) k j')∧Hid (Below w.heap.size w wq)) (fun i _ _ _ _=>L.length-(intOf i).toNat)
   case atStart=>exact ⟨k+1,oq_,oq_,by go_num,hq_ (by intro j' h1 h2;omega),HBL⟩
   case round=>
    obtain ⟨jj,hkj,hjl,rfl,HNR,HB2⟩:=hrel;have hb:=HB2.out
    by_cases hlt2:jj<L.length
    ·have hlI2:(jj:Int)<L.length:=oq_;have HLW:=hq_ (HL.out.keep (a5_.below hb) hb.size);obtain ⟨b,o,c9,xa,xn,xc,xt,ha,q3,htx,hdx⟩:=HLW.out.at hlt;cases ha;obtain ⟨_,_,_,ya,yn,yc,yt,ha,q4,hty,hdy⟩:=HLW.out.at hlt2;cases ha;obtain ⟨_,_,ha,_⟩:=htx.form;cases ha;obtain ⟨_,_,ha,_⟩:=hty.form;cases ha;have hdx:(L.map Prod.snd).getD k []=xt:=by rw [List.getD_eq_getElem?_getD,hdx];rfl
     have hdy:(L.map Prod.snd).getD jj []=yt:=by rw [List.getD_eq_getElem?_getD,hdy];rfl
     have HMX:Hid (aw_ s xt):=hq_ (by
      obtain ⟨z,hz,e⟩:=List.mem_map.1 (aa_ (d:=[]) (show k<(L.map Prod.snd).length by rw [List.length_map];exact hlt));rw [<- hdx,<- e];exact HV.out z hz)
     have HMY:Hid (aw_ s yt):=hq_ (by
      obtain ⟨z,hz,e⟩:=List.mem_map.1 (aa_ (d:=[]) (show jj<(L.map Prod.snd).length by rw [List.length_map];exact hlt2));rw [<- hdy,<- e];exact HV.out z hz)
     by_cases hx1:xt.length=1
     ·by_cases hy1:yt.length=1
      ·obtain ⟨bx,ox,cx,ax1,nx1,cx1,ax2,nx2,cx2,hsx,hpx,x0,x1,x2,x3⟩:=htx.single hx1;obtain ⟨by',oy,cy,ay1,ny1,cy1,ay2,ny2,cy2,hsy,hpy,y0,y1,y2,y3⟩:=hty.single hy1;rw [hsx] at q3;rw [hsy] at q4;have hfx:=HMX.out.fv _ (aa_ (d:=default) (show 0<xt.length by omega));have hfy:=HMY.out.fv _ (aa_ (d:=default) (show 0<yt.length by omega));have HJN:Hid (az_ (L.map Prod.snd) k jj↔divB (xt.getD 0 default) (yt.getD 0 default)=true):=hq_ (by unfold az_;rw [hdx,hdy];exact ⟨fun h=>h.2.2,fun h=>⟨hx1,hy1,h⟩⟩);have HJA:Hid (ct_ (L.map Prod.snd) k jj=((L.map Prod.snd).eraseIdx jj).set k [orP (xt.getD 0 default) (yt.getD 0 default)]):=hq_ (by unfold ct_;rw [hdx,hdy,List.eraseIdx_set_gt hkj]);generalize xt.getD 0 default=xp at *;generalize yt.getD 0 default=yp at *;have HDIV:=fun W=>iw_ ⟨.slice ax1 nx1 cx1,.slice ax2 nx2 cx2,xp⟩ ⟨.slice ay1 ny1 cy1,.slice ay2 ny2 cy2,yp⟩ W hfx.valid.wf.per hfx.valid.per hfy.valid.wf.per hfy.valid.per;change ∀ W,Calls _ _ #[perV _ _ xp.frm xp.period,perV _ _ yp.frm yp.period] W fun e w'=>e=.returned (.bool (divB xp yp))∧_ at HDIV;have HFX:=hq_ hfx;have HFY:=hq_ hfy;have HPX:=hq_ hpx;have HPY:=hq_ hpy;generalize divB xp yp=dd at *;clear htx hty hdx hdy hx1 hy1 hfx hfy hpx hpy hsx hsy;go_wp2_with fail
       refine ai_ (w0:=wr) [0,1,2,3,4,5,6,7,8,9,10,11,12,13,14,15,16,17,18,19,20,21,22,23,24,25,26,27,28] [] (fun v=>⟨#[.slice (some ⟨b,o,none⟩) L.length c,undef,u2,u3,.int .i64 ↑k,.int .i64 ↑jj,u6,u7,u8,.int .i64 ↑k,.slice (some ⟨b,o,none⟩) L.length c,.int .i64 ↑L.length,.bool true,u13,u14,.int .i64 ↑k,.int .i64 (↑k+1),.int .i64 ↑jj,.slice (some ⟨b,o,none⟩) L.length c,.int .i64 ↑L.length,.bool true,u21,u22,v 0,v 1,v 2,v 3,v 4,v 5,v 6,v 7,v 8,v 9,v 10,v 11,v 12,v 13,v 14,v 15,v 16,v 17,v 18,v 19,v 20,v 21,v 22,v 23,v 24,v 25,v 26,v 27,v 28,u52,u53,u54,u55,u56,u57,u58,u59,u60,u61,u62,u63,u64,u65,u66,u67,u68,u69,u70,u71,u72,u73,u74,u75,u76,u77,u78,u79,u80,u81,u82,u83,u84,u85,u86,undef],[]⟩) [.slice (some ⟨b,o,none⟩) L.length c,.int .i64 k,.pointer (some ⟨b,o+k,none⟩),.slice (some ⟨bx,ox,none⟩) 1 cx,.int .i64 1,.bool true,.bool true,.slice (some ⟨b,o,none⟩) L.length c,.int .i64 jj,.pointer (some ⟨b,o+jj,none⟩),.slice (some ⟨by',oy,none⟩) 1 cy,.int .i64 1,.bool true,.bool true,.bool true,.slice (some ⟨b,o,none⟩) L.length c,.int .i64 k,.pointer (some ⟨b,o+k,none⟩),.slice (some ⟨bx,ox,none⟩) 1 cx,.pointer (some ⟨bx,ox,none⟩),perV (.slice ax1 nx1 cx1) (.slice ax2 nx2 cx2) xp.frm xp.period,.slice (some ⟨b,o,none⟩) L.length c,.int .i64 jj,.pointer (some ⟨b,o+jj,none⟩),.slice (some ⟨by',oy,none⟩) 1 cy,.pointer (some ⟨by',oy,none⟩),perV (.slice ay1 ny1 cy1) (.slice ay2 ny2 cy2) yp.frm yp.period,.bool dd,.bool dd] [] (fun _ _ _ _ _=>True) (fun W=>W.cell? ⟨b,o+k,none⟩=some (.slice (some ⟨bx,ox,none⟩) 1 cx)∧W.cell? ⟨b,o+jj,none⟩=some (.slice (some ⟨by',oy,none⟩) 1 cy)∧(W.cell? ⟨bx,ox,none⟩=some (.slice ax1 nx1 cx1)∧W.cell? ⟨bx,ox+1,none⟩=some (.int .i64 xp.frm)∧W.cell? ⟨bx,ox+2,none⟩=some (.int .i64 xp.period)∧W.cell? ⟨bx,ox+3,none⟩=some (.slice ax2 nx2 cx2))∧(W.cell? ⟨by',oy,none⟩=some (.slice ay1 ny1 cy1)∧W.cell? ⟨by',oy+1,none⟩=some (.int .i64 yp.frm)∧W.cell? ⟨by',oy+2,none⟩=some (.int .i64 yp.period)∧W.cell? ⟨by',oy+3,none⟩=some (.slice ay2 ny2 cy2))) (fun W hb=>⟨Ext.cell hb q3,Ext.cell hb q4,⟨Ext.cell hb x0,Ext.cell hb x1,Ext.cell hb x2,Ext.cell hb x3⟩,Ext.cell hb y0,Ext.cell hb y1,Ext.cell hb y2,Ext.cell hb y3⟩) trivial trivial ?steps ?fin (fun j=>match j with|0=>u23|1=>u24|2=>u25|3=>u26|4=>u27|5=>u28|6=>u29|7=>u30|8=>u31|9=>u32|10=>u33|11=>u34|12=>u35|13=>u36|14=>u37|15=>u38|16=>u39|17=>u40|18=>u41|19=>u42|20=>u43|21=>u44|22=>u45|23=>u46|24=>u47|25=>u48|26=>u49|27=>u50|28=>u51|_=>undef)
       case steps=>
        clear q3 q4 x0 x1 x2 x3 y0 y1 y2 y3;refine .c [] [] rfl ?_ (.c [] [] rfl ?_ (.c [0,1] [] rfl ?_ (.c [2] [] rfl ?_ (.c [3] [] rfl ?_ (.c [4] [] rfl ?_ (.c [5] [] rfl ?_ (.c [6] [] rfl ?_ (.c [6] [] rfl ?_ (.c [6,7,8] [] rfl ?_ (.c [6,9] [] rfl ?_ (.c [6,10] [] rfl ?_ (.c [6,11] [] rfl ?_ (.c [6,12] [] rfl ?_ (.c [13] [] rfl ?_ (.c [14] [] rfl ?_ (.c [14] [] rfl ?_ (.c [14,15,16] [] rfl ?_ (.c [14,17] [] rfl ?_ (.c [14,18] [] rfl ?_ (.c [14,19] [] rfl ?_ (.c [14] [] rfl ?_ (.c [14] [] rfl ?_ (.c [14,21,22] [] rfl ?_ (.c [14,23] [] rfl ?_ (.c [14,24] [] rfl ?_ (.c [14,25] [] rfl ?_ (.c [14,20,26] [] rfl ?_ (.c [14,27] [] rfl ?_ (.n)))))))))))))))))))))))))))))
        all_goals try exact stw
        ·rintro v lo hi W hb ⟨s3,s4,⟨g0,g1_,g2,g3⟩,k0,k1,k2,k3⟩ _;refine .inl ⟨rfl,fun K hK=>?_⟩;simp only [ov,vat,Nat.reduceBEq,cond_true,cond_false];go_wp2_with (go_at_call 166;refine (HDIV _).mono ?_;rintro e w9 ⟨rfl,hb9⟩)
         exact acx (hK w9 hb9) (by simp [ov,vat,upd])
       case fin=>
        rintro v lo hi9 W2 hb ⟨s3,s4,⟨g0,g1_,g2,g3⟩,k0,k1,k2,k3⟩ hf hap;have e28:v 28=.bool dd:=(hf 28 rfl).2.2.2;clear hf hap;show wpList _ _ _ [] _ _;dsimp only;rw [e28];clear e28;generalize v 0=z0,v 1=z1,v 2=z2,v 3=z3,v 4=z4,v 5=z5,v 6=z6,v 7=z7,v 8=z8,v 9=z9,v 10=z10,v 11=z11,v 12=z12,v 13=z13,v 14=z14,v 15=z15,v 16=z16,v 17=z17,v 18=z18,v 19=z19,v 20=z20,v 21=z21,v 22=z22,v 23=z23,v 24=z24,v 25=z25,v 26=z26,v 27=z27;have HB4:=hq_ (Et HB2.out hb);have HB5:=hq_ hb;clear hb;cases dd with
        | false=>
         clear s3 s4 g0 g1_ g2 g3 k0 k1 k2 k3;go_wp2_with fail
         go_roundw
         case rel=>exact ⟨jj+1,oq_,oq_,by go_num,hq_ (fun j' h1 h2=>by
          by_cases h3:j'<jj
          ·exact HNR.out j' h1 h3
          ·obtain rfl:j'=jj:=oq_;rw [HJN.out];decide),HB4⟩
         case measure=>simp [intOf];omega
        | true=>
         obtain ⟨q,hq⟩:∃ q,q=orP xp yp:=⟨_,rfl⟩;have HQ:=hq_ hq;have HFQ:Hid (FV s q):=hq_ (by rw [hq];exact HFX.out.or HFY.out);have HOR:=hq_ (fun W (h:Below W2.heap.size W2 W)=>show Calls _ _ #[.agg #[.slice ax1 nx1 cx1,.int .i64 xp.frm,.int .i64 xp.period,.slice ax2 nx2 cx2],.agg #[.slice ay1 ny1 cy1,.int .i64 yp.frm,.int .i64 yp.period,.slice ay2 ny2 cy2]] W (b6_ q W) from by
          rw [hq];exact t3_ s _ _ _ _ xp yp W (HPX.out.is.ext (Et HB5.out h)) (HPY.out.is.ext (Et HB5.out h)) HFX.out HFY.out)
         have hz0:0<W2.heap.size:=by have:=World.block_lt_of_cell? W2 _ s3;omega
         have hzw:=HB4.out.size;clear hq;go_wp2_with fail
         refine Code.wp_mono (Q:=fun e a' W'=>e=.normal∧(∃ (nb:Nat) (hv cv:Value) (y52 y53 y54 y55 y56 y57 y58 y59 y60 y61 y62 y63 y64 y65 y66 y67:Value),a'=⟨#[.slice (some ⟨b,o,none⟩) L.length c,undef,u2,u3,.int .i64 ↑k,.int .i64 ↑jj,.pointer (some ⟨nb,0,none⟩),.int .i64 0,u8,.int .i64 ↑k,.slice (some ⟨b,o,none⟩) L.length c,.int .i64 ↑L.length,.bool true,u13,u14,.int .i64 ↑k,.int .i64 (↑k+1),.int .i64 ↑jj,.slice (some ⟨b,o,none⟩) L.length c,.int .i64 ↑L.length,.bool true,u21,u22,z0,z1,z2,z3,z4,z5,z6,z7,z8,z9,z10,z11,z12,z13,z14,z15,z16,z17,z18,z19,z20,z21,z22,z23,z24,z25,z26,z27,.bool true,y52,y53,y54,y55,y56,y57,y58,y59,y60,y61,y62,y63,y64,y65,y66,y67,u68,u69,u70,u71,u72,u73,u74,u75,u76,u77,u78,u79,u80,u81,u82,u83,u84,u85,u86,undef],[]⟩∧Hid (MgP (W2.heap.size-1) q nb hv cv W'))∧Hid (Below W2.heap.size W2 W')) ?imp ?reg
         case reg=>
          refine cx_ (w0:=W2) [0,1,2,3,4,5,6,7,8,9,10,11,12,13,14,15,16] 15 17 [18] (fun v=>⟨#[.slice (some ⟨b,o,none⟩) L.length c,undef,u2,u3,.int .i64 ↑k,.int .i64 ↑jj,v 16,u7,u8,.int .i64 ↑k,.slice (some ⟨b,o,none⟩) L.length c,.int .i64 ↑L.length,.bool true,u13,u14,.int .i64 ↑k,.int .i64 (↑k+1),.int .i64 ↑jj,.slice (some ⟨b,o,none⟩) L.length c,.int .i64 ↑L.length,.bool true,u21,u22,z0,z1,z2,z3,z4,z5,z6,z7,z8,z9,z10,z11,z12,z13,z14,z15,z16,z17,z18,z19,z20,z21,z22,z23,z24,z25,z26,z27,.bool true,v 13,v 0,v 1,v 2,v 3,v 4,v 5,v 6,v 7,v 8,v 9,v 10,v 11,v 12,v 14,v 15,u68,u69,u70,u71,u72,u73,u74,u75,u76,u77,u78,u79,u80,u81,u82,u83,u84,u85,u86,undef],[]⟩) [.slice (some ⟨b,o,none⟩) L.length c,.int .i64 k,.pointer (some ⟨b,o+k,none⟩),.slice (some ⟨bx,ox,none⟩) 1 cx,.pointer (some ⟨bx,ox,none⟩),.agg #[.slice ax1 nx1 cx1,.int .i64 xp.frm,.int .i64 xp.period,.slice ax2 nx2 cx2],.slice (some ⟨b,o,none⟩) L.length c,.int .i64 jj,.pointer (some ⟨b,o+jj,none⟩),.slice (some ⟨by',oy,none⟩) 1 cy,.pointer (some ⟨by',oy,none⟩),.agg #[.slice ay1 ny1 cy1,.int .i64 yp.frm,.int .i64 yp.period,.slice ay2 ny2 cy2],undef,undef,undef,.int .i64 0,undef] [12,13,14,16] (fun i v lo hi W=>match i with|12=>∃ h c,v 12=.tuple #[perV h c q.frm q.period,.int .i64 0]∧e4_ W (lo 12) (hi 12) h c q|13=>v 13=v 12∧∃ h c,v 13=.tuple #[perV h c q.frm q.period,.int .i64 0]|14=>∃ h c,v 13=.tuple #[perV h c q.frm q.period,.int .i64 0]∧v 14=perV h c q.frm q.period|16=>v 16=.pointer (some ⟨lo 16,0,none⟩)∧lo 16<hi 16∧Bxx W (lo 16) #[.slice none 0 0,.int .i64 0,.int .i64 0,.slice none 0 0] 39|_=>True) (fun W=>W.cell? ⟨b,o+k,none⟩=some (.slice (some ⟨bx,ox,none⟩) 1 cx)∧W.cell? ⟨b,o+jj,none⟩=some (.slice (some ⟨by',oy,none⟩) 1 cy)∧(W.cell? ⟨bx,ox,none⟩=some (.slice ax1 nx1 cx1)∧W.cell? ⟨bx,ox+1,none⟩=some (.int .i64 xp.frm)∧W.cell? ⟨bx,ox+2,none⟩=some (.int .i64 xp.period)∧W.cell? ⟨bx,ox+3,none⟩=some (.slice ax2 nx2 cx2))∧(W.cell? ⟨by',oy,none⟩=some (.slice ay1 ny1 cy1)∧W.cell? ⟨by',oy+1,none⟩=some (.int .i64 yp.frm)∧W.cell? ⟨by',oy+2,none⟩=some (.int .i64 yp.period)∧W.cell? ⟨by',oy+3,none⟩=some (.slice ay2 ny2 cy2))) (fun W hb=>⟨Ext.cell hb s3,Ext.cell hb s4,⟨Ext.cell hb g0,Ext.cell hb g1_,Ext.cell hb g2,Ext.cell hb g3⟩,Ext.cell hb k0,Ext.cell hb k1,Ext.cell hb k2,Ext.cell hb k3⟩) ?stab ?loc ?steps ?fin ?fin2 (fun j=>match j with|0=>u53|1=>u54|2=>u55|3=>u56|4=>u57|5=>u58|6=>u59|7=>u60|8=>u61|9=>u62|10=>u63|11=>u64|12=>u65|13=>u52|14=>u66|15=>u67|16=>u6|_=>undef)
          case stab=>
           refine ⟨?_,?_,?_,?_,trivial⟩
           ·intro v lo hi W W' h hb;exact (let ⟨x1,x2,e,hp⟩:=h;⟨x1,x2,e,hp.below hb⟩)
           ·intro v lo hi W W' h hb;exact h
           ·intro v lo hi W W' h hb;exact h
           ·intro v lo hi W W' h hb;exact ⟨h.1,h.2.1,h.2.2.below hb⟩
          case loc=>
           refine ⟨?_,?_,?_,?_,trivial⟩
           ·intro v v' lo lo' hi hi' W hag h;have q:=hag 12 (.inl rfl)
            (try dsimp only at h ⊢)
            simp only [q.1,q.2.1,q.2.2] at h;exact h
           ·intro v v' lo lo' hi hi' W hag h;have q:=hag 13 (.inl rfl);have q12:=hag 12 (.inr (Rdp (by kernel_rfl)))
            (try dsimp only at h ⊢)
            simp only [q.1,q.2.1,q.2.2,q12.1,q12.2.1,q12.2.2] at h;exact h
           ·intro v v' lo lo' hi hi' W hag h;have q:=hag 14 (.inl rfl);have q13:=hag 13 (.inr (Rdp (by kernel_rfl)))
            (try dsimp only at h ⊢)
            simp only [q.1,q.2.1,q.2.2,q13.1,q13.2.1,q13.2.2] at h;exact h
           ·intro v v' lo lo' hi hi' W hag h;have q:=hag 16 (.inl rfl)
            (try dsimp only at h ⊢)
            simp only [q.1,q.2.1,q.2.2] at h;exact h
          case steps=>
           clear s3 s4 g0 g1_ g2 g3 k0 k1 k2 k3;refine .c [] [] rfl ?_ (.c [] [] rfl ?_ (.c [0,1] [] rfl ?_ (.c [2] [] rfl ?_ (.c [3] [] rfl ?_ (.c [4] [] rfl ?_ (.c [] [] rfl ?_ (.c [] [] rfl ?_ (.c [6,7] [] rfl ?_ (.c [8] [] rfl ?_ (.c [9] [] rfl ?_ (.c [10] [] rfl ?_ (.c [5,11] [] rfl ?_ (.c [] [12] rfl ?_ (.c [] [13] rfl ?_ (.c [] [13] rfl ?_ (.c [] [] rfl ?_ (.n)))))))))))))))))
           all_goals try exact stl
           ·rintro v lo hi W hb ⟨s3,s4,⟨g0,g1_,g2,g3⟩,k0,k1,k2,k3⟩ _;refine ⟨rfl,fun K hK=>?_⟩;simp only [ov,vat,Nat.reduceBEq,cond_true,cond_false];go_wp2_with (go_at_call 96;(with_reducible refine (HOR.out _ hb).mono ?_);rintro e w9 ⟨h',c',rfl,ho,hb9⟩)
            exact acx (hK (.tuple #[perV h' c' q.frm q.period,.int .i64 0]) w9 hb9 ⟨h',c',rfl,ho.at⟩) (by simp [ov,vat,upd])
           ·rintro v lo hi W hb ⟨s3,s4,⟨g0,g1_,g2,g3⟩,k0,k1,k2,k3⟩ ⟨⟨la12,lb12,D12⟩,_⟩;refine ⟨rfl,fun K hK=>?_⟩;simp only [ov,vat,Nat.reduceBEq,cond_true,cond_false]
            (try dsimp only at D12)
            obtain ⟨h8,c8,e8,_⟩:=D12;go_wp2_with fail
            exact acx (hK (v 12) W (Below.refl _ _) ⟨rfl,h8,c8,e8⟩) (by simp [ov,vat,upd,e8])
           ·rintro v lo hi W hb ⟨s3,s4,⟨g0,g1_,g2,g3⟩,k0,k1,k2,k3⟩ ⟨⟨la13,lb13,D13⟩,_⟩;refine ⟨rfl,fun K hK=>?_⟩;simp only [ov,vat,Nat.reduceBEq,cond_true,cond_false]
            (try dsimp only at D13)
            obtain ⟨-,h9,c9,e9⟩:=D13;simp only [e9];go_wp2_with fail
            exact acx (hK (perV h9 c9 q.frm q.period) W (Below.refl _ _) ⟨h9,c9,e9,rfl⟩) (by simp [ov,vat,upd,e9])
           ·rintro v lo hi W hb ⟨s3,s4,⟨g0,g1_,g2,g3⟩,k0,k1,k2,k3⟩ ⟨⟨la13,lb13,D13⟩,_⟩;refine ⟨rfl,fun K hK=>?_⟩;simp only [ov,vat,Nat.reduceBEq,cond_true,cond_false]
            (try dsimp only at D13)
            obtain ⟨-,h9,c9,e9⟩:=D13;simp only [e9];go_wp2_with fail
            exact acx (hK W (Below.refl _ _)) (by simp [ov,vat,upd,e9])
           ·rintro v lo hi W hb ⟨s3,s4,⟨g0,g1_,g2,g3⟩,k0,k1,k2,k3⟩ _;refine ⟨rfl,fun K hK=>?_⟩;simp only [ov,vat,Nat.reduceBEq,cond_true,cond_false];go_wp2_with fail
            exact hK (.pointer (some ⟨W.heap.size,0,none⟩)) _ (Ea (Er _) _) ⟨rfl,sq_,Bxx.new _ _ _⟩
          case fin=>
           rintro v lo hi9 W5 hb5-hf hap;show wpList _ _ _ [_,_] _ _;obtain ⟨l8,-,h8,h,c,e8,hp8⟩:=hf 12 rfl;obtain ⟨-,-,-,e9,-⟩:=hf 13 rfl;obtain ⟨-,-,-,h',c',e9',e10⟩:=hf 14 rfl;have e11:v 15=.int .i64 0:=(hf 15 rfl).2.2.2;obtain ⟨l12,-,h12,e12,lt12,hbox⟩:=hf 16 rfl;have hd:=hap 12 16 rfl rfl dq_;clear hf hap;rw [e9,e8] at e9';obtain ⟨rfl,rfl⟩:h=h'∧c=c':=by simpa [perV] using e9'
           dsimp only;rw [e10,e11,e12];clear e10 e11 e12 e9 e9' e8;obtain ⟨nb,hnb⟩:∃ nb,nb=lo 16:=⟨_,rfl⟩;rw [<- hnb] at hd hbox l12 lt12 ⊢;have hpi:=hp8.inn;generalize lo 12=l8v at *;generalize hi9 12=h8v at *;generalize hi9 16=h12v at *;clear hnb hp8;obtain ⟨a5,m5,a6,m6,rfl,rfl⟩:=hpi.form;have r0:=hbox.cells 0;have r1:=hbox.cells 1;have r2:=hbox.cells 2;have r3:=hbox.cells 3;have HMG:=hq_ (MgP.of (B:=W2.heap.size-1) hpi HFQ.out oq_ hbox oq_ oq_);have HB5:=hq_ hb5;clear hbox hpi hd;generalize v 0=zz0,v 1=zz1,v 2=zz2,v 3=zz3,v 4=zz4,v 5=zz5,v 6=zz6,v 7=zz7,v 8=zz8,v 9=zz9,v 10=zz10,v 11=zz11,v 12=zz12,v 13=zz13;go_wp2_with fail
           exact ⟨⟨_,_,HMG⟩,hq_ (by have hb5:=HB5.out;exact xE)⟩
          case fin2=>
           rintro v lo hi9 W5 hb5-hf hap;obtain ⟨l8,-,h8,h,c,e8,hp8⟩:=hf 12 rfl dq_;obtain ⟨-,-,-,e9,-⟩:=hf 13 rfl dq_;obtain ⟨-,-,-,h',c',e9',e10⟩:=hf 14 rfl dq_;obtain ⟨l12,-,h12,e12,lt12,hbox⟩:=hf 16 rfl dq_;have hd:=hap 12 16 rfl rfl dq_ dq_ dq_;clear hf hap;rw [e9,e8] at e9';obtain ⟨rfl,rfl⟩:h=h'∧c=c':=by simpa [perV] using e9'
           have e99:=e9.trans e8;dsimp only;rw [e10,e12,e99];clear e10 e12 e9 e9' e8 e99;obtain ⟨nb,hnb⟩:∃ nb,nb=lo 16:=⟨_,rfl⟩;rw [<- hnb] at hd hbox l12 lt12 ⊢;have hpi:=hp8.inn;generalize lo 12=l8v at *;generalize hi9 12=h8v at *;generalize hi9 16=h12v at *;clear hnb hp8;obtain ⟨a5,m5,a6,m6,rfl,rfl⟩:=hpi.form;have r0:=hbox.cells 0;have r1:=hbox.cells 1;have r2:=hbox.cells 2;have r3:=hbox.cells 3;have HMG:=hq_ (MgP.of (B:=W2.heap.size-1) hpi HFQ.out oq_ hbox oq_ oq_);have HB5:=hq_ hb5;clear hbox hpi hd;generalize v 0=zz0,v 1=zz1,v 2=zz2,v 3=zz3,v 4=zz4,v 5=zz5,v 6=zz6,v 7=zz7,v 8=zz8,v 9=zz9,v 10=zz10,v 11=zz11,v 12=zz12,v 15=zz15;constructor
           ·show wpList _ _ _ [_,_,_] _ _;go_wp2_with fail
            exact ⟨⟨_,_,HMG⟩,hq_ (by have hb5:=HB5.out;exact xE)⟩
           ·show wpList _ _ _ [_,_,_] _ _;go_wp2_with fail
            exact ⟨⟨_,_,HMG⟩,hq_ (by have hb5:=HB5.out;exact xE)⟩
         case imp=>
          rintro e a' W6 ⟨rfl,⟨nb,hv9,cv9,y52,y53,y54,y55,y56,y57,y58,y59,y60,y61,y62,y63,y64,y65,y66,y67,rfl,HP⟩,HB6⟩;obtain ⟨a5,n5,m5,a6,n6,m6,rfl,rfl⟩:=HP.out.ok.form;have p0:=HP.out.c0;have p1:=HP.out.c1;have p2:=HP.out.c2;have p3:=HP.out.c3;have HE6:=hq_ (Et HB4.out HB6.out);have hz6:W6.heap.size≤(W6.alloc (.cells #[] 36)).heap.size:=by simp
          have hzA:w.heap.size≤W6.heap.size:=HE6.out.size;have hzB:W2.heap.size≤W6.heap.size:=HB6.out.size;have hown0:=World.ownsRow_lit (base:=W6.heap.size) (e:=36) (size:=1) W6 #[] 0 (Nat.le_refl _) (by unfold maxLen;omega) rfl;have HROW:=hq_ (fun W (h:Below W6.heap.size W6 W)=>HL.out.row.keep (a5_.below (Et HE6.out h)) (Et HE6.out h).size);have HO1:Hid (∀ u∈(L.map Prod.fst).take jj,u.oneCell'=true):=hq_ fun u hu=>HL.out.cells_one u (List.mem_of_mem_take hu);have HO2:Hid (∀ u∈(L.map Prod.fst).drop (jj+1),u.oneCell'=true):=hq_ fun u hu=>HL.out.cells_one u (List.mem_of_mem_drop hu);have HF1:Hid (((L.map Prod.fst).take jj).length=jj*1):=hq_ (by rw [List.length_take,List.length_map];omega);have HF2:Hid (((L.map Prod.fst).drop (jj+1)).length=(L.length-(jj+1))*1):=hq_ (by rw [List.length_drop,List.length_map];omega);have HEE:Hid ((L.map Prod.fst).take jj ++ (L.map Prod.fst).drop (jj+1)=(L.eraseIdx jj).map Prod.fst):=hq_ (by rw [List.eraseIdx_eq_take_drop_succ,List.map_append,List.map_take,List.map_drop]);have HEL:Hid ((L.eraseIdx jj).length=L.length-1):=hq_ (List.length_eraseIdx_of_lt hlt2);have H1:=hq_ (fun W (h:Below W6.heap.size W6 W)=>show RowR W F (.slice (some ⟨b,o,none⟩) jj c) jj ((L.map Prod.fst).take jj) from by simpa using (HROW.out W h).part1 oq_ 0 jj c oq_ hc9);have HFIN:Hid (∀ (g cap:Nat) (w8:World),w8.ownsRow W6.heap.size 36 1 (.slice (some ⟨g,0,none⟩) (L.length-1) cap) (L.length-1) ((L.eraseIdx jj).map Prod.fst)->Below W6.heap.size W6 w8->
            MixR ((w8.setCell ⟨g,k,none⟩ (.slice (some ⟨w8.heap.size,0,none⟩) 1 1)).alloc (.cells #[.slice a5 n5 m5,.int .i64 q.frm,.int .i64 q.period,.slice a6 n6 m6] 39)) (fun b=>F b∨w.heap.size≤b) (.slice (some ⟨g,0,none⟩) (L.length-1) cap) (ct_ (L.map Prod.snd) k jj)∧
            Below w.heap.size w ((w8.setCell ⟨g,k,none⟩ (.slice (some ⟨w8.heap.size,0,none⟩) 1 1)).alloc (.cells #[.slice a5 n5 m5,.int .i64 q.frm,.int .i64 q.period,.slice a6 n6 m6] 39))):=hq_ (by
           intro g cap w8 hown hb8;have hg:=hown.lt g rfl;have hz8:=hb8.size;have hbw:=Et HE6.out hb8;have hq8:=HP.out.ok.lt.keep (a5_.below hb8);rw [<- HEL.out] at hown;have hot:OwnT (fun b=>¬ (F b∨w.heap.size≤b)) W6.heap.size w8 (.slice (some ⟨g,0,none⟩) (L.eraseIdx jj).length cap) (L.eraseIdx jj):=OwnT.of hown (Nat.le_refl _) (by rw [HEL.out];omega) (fun g' e=>by have e':g=g':=(by simpa [Value.ownBlock] using e);exact fun h=>h (.inr oq_)) fun x hx=>
            ((HL.out.lt.all x (List.mem_of_mem_eraseIdx hx)).ext hbw).mono fun b hb=>⟨fun h=>h (.inl hb.1),fun e=>by have e':g=b:=(by simpa [Value.ownBlock] using e);have:=hb.2;omega⟩
           have hot2:=hot.ext (Ea (Er w8) (.cells #[.slice a5 n5 m5,.int .i64 q.frm,.int .i64 q.period,.slice a6 n6 m6] 39));have hset:=hot2.row.set (y:=(.slice (some ⟨w8.heap.size,0,none⟩) 1 1,[q])) k ((sw_ hq8).mono fun b hb=>⟨Nat.zero_le _,fun h=>h (.inr (by rcases hb with hb|hb <;> (try have:=hb.1) <;> omega)),fun e=>by have e':g=b:=(by simpa [Value.ownBlock] using e);rcases hb with hb|hb <;> (try have:=hb.2) <;> omega⟩);have hcomm:=World.setCell_alloc_past (w:=w8) (.cells #[.slice a5 n5 m5,.int .i64 q.frm,.int .i64 q.period,.slice a6 n6 m6] 39) g k (.slice (some ⟨w8.heap.size,0,none⟩) 1 1) hg.2;have hmix:=OwnT.mix ⟨hset,hot2.own⟩;dsimp only at hmix;rw [hcomm] at hmix;rw [HEL.out] at hmix;refine ⟨⟨_,?_,hmix.mono fun b hb=>Classical.not_not.1 hb⟩,Ea (Es hbw (by show _≤g;omega) _) _⟩;rw [HJA.out,<- HQ.out,List.map_set]
           congr 1
           rw [List.eraseIdx_eq_take_drop_succ,List.eraseIdx_eq_take_drop_succ,List.map_append,List.map_take,List.map_drop])
          by_cases hcz:c=jj+1
          ·subst hcz;have hlz:L.length-(jj+1)=0:=oq_;have HLZ:Hid (jj+0=L.length-1):=hq_ oq_;have HD0:Hid ((L.map Prod.fst).drop (jj+1)=[]):=hq_ (List.drop_eq_nil_of_le (by rw [List.length_map];omega));have H2:Hid (∀ W,Below W6.heap.size W6 W->RowR W F (.slice (some ⟨b,o,none⟩) 0 0) 0 ((L.map Prod.fst).drop (jj+1))):=hq_ fun W _=>by rw [HD0.out];exact ⟨some ⟨b,o,none⟩,0,rfl,Nat.le_refl _,oq_,.inl rfl⟩
           have HF2:Hid (((L.map Prod.fst).drop (jj+1)).length=0*1):=hq_ (by rw [HD0.out];rfl);clear hlz HROW;go_wp2_with (first|(at_builtin;refine co_ rq_ _ _ rq_ W6.heap.size (.slice (some ⟨W6.heap.size,0,none⟩) 0 0) (.slice (some ⟨b,o,none⟩) jj (jj+1)) 0 jj [] _ F rq_ hown0 rq_ (H1.out _ (Ea (Er W6) _)) HF1.out HO1.out oq_ hz6 ?_;intro v7 w7 hown7 hgrow7;rw [Nat.zero_add,List.nil_append] at hown7;have hE7:=(Ea (Er W6) (.cells #[] 36)).grown hgrow7 hz6 (fun k e=>(hown0.lt k e).1);have hz7:=hE7.size;obtain ⟨na7,nc7,rfl⟩:=cu_ hown7;have HOWN7:=hq_ hown7;have HE7:=hq_ hE7;clear hown7 hgrow7 hE7)|(at_builtin;refine co_ rq_ _ _ rq_ W6.heap.size (.slice na7 jj nc7) (.slice (some ⟨b,o,none⟩) 0 0) jj 0 _ _ F rq_ HOWN7.out rq_ (H2.out _ HE7.out) HF2.out HO2.out oq_ hz7 ?_;intro v8 w8 hown8 hgrow8;rw [HEE.out,HLZ.out] at hown8;have hE8:=HE7.out.grown hgrow8 HE7.out.size (fun k e=>(HOWN7.out.lt k e).1);obtain ⟨g,cap,rfl⟩:=oe_ hown8 oq_;(have kc:=(hown8.cellAt k oq_).trans (List.getElem?_eq_getElem (by rw [List.length_map,HEL.out];omega)));(have kf:=hown8.frozenAt k);(have s0:=Ext.cell hE8 p0);(have s1:=Ext.cell hE8 p1);(have s2:=Ext.cell hE8 p2);(have s3:=Ext.cell hE8 p3);have hgl:=(hown8.lt g rfl).2;have HFI:=hq_ (HFIN.out g cap w8 hown8 hE8);clear hown8 hgrow8 hE8 p0 p1 p2 p3))
           go_ret2;exact ⟨HFI.out.2,.inr ⟨k,jj,_,⟨hkj,by rw [HLM.out];exact hlt2,by have h:=HJN.out;simpa using h,by rw [HLM.out];exact HNO.out,HNR.out⟩,rfl,HFI.out.1⟩⟩
          ·have hcp:0<c-(jj+1):=oq_;have HLZ:Hid (jj+(L.length-(jj+1))=L.length-1):=hq_ oq_;have H2:Hid (∀ W,Below W6.heap.size W6 W->RowR W F (.slice (some ⟨b,o+(jj+1),none⟩) (L.length-(jj+1)) (c-(jj+1))) (L.length-(jj+1)) ((L.map Prod.fst).drop (jj+1))):=hq_ fun W h=>by
            have h:=(HROW.out W h).part1 oq_ (jj+1) (L.length-(jj+1)) (c-(jj+1)) oq_ oq_;rwa [List.take_of_length_le (by rw [List.length_drop,List.length_map];omega)] at h
           clear HROW;go_wp2_with (first|(at_builtin;refine co_ rq_ _ _ rq_ W6.heap.size (.slice (some ⟨W6.heap.size,0,none⟩) 0 0) (.slice (some ⟨b,o,none⟩) jj c) 0 jj [] _ F rq_ hown0 rq_ (H1.out _ (Ea (Er W6) _)) HF1.out HO1.out oq_ hz6 ?_;intro v7 w7 hown7 hgrow7;rw [Nat.zero_add,List.nil_append] at hown7;have hE7:=(Ea (Er W6) (.cells #[] 36)).grown hgrow7 hz6 (fun k e=>(hown0.lt k e).1);have hz7:=hE7.size;obtain ⟨na7,nc7,rfl⟩:=cu_ hown7;have HOWN7:=hq_ hown7;have HE7:=hq_ hE7;clear hown7 hgrow7 hE7)|(at_builtin;refine co_ rq_ _ _ rq_ W6.heap.size (.slice na7 jj nc7) (.slice (some ⟨b,o+(jj+1),none⟩) (L.length-(jj+1)) (c-(jj+1))) jj (L.length-(jj+1)) _ _ F rq_ HOWN7.out rq_ (H2.out _ HE7.out) HF2.out HO2.out oq_ hz7 ?_;intro v8 w8 hown8 hgrow8;rw [HEE.out,HLZ.out] at hown8;have hE8:=HE7.out.grown hgrow8 HE7.out.size (fun k e=>(HOWN7.out.lt k e).1);obtain ⟨g,cap,rfl⟩:=oe_ hown8 oq_;(have kc:=(hown8.cellAt k oq_).trans (List.getElem?_eq_getElem (by rw [List.length_map,HEL.out];omega)));(have kf:=hown8.frozenAt k);(have s0:=Ext.cell hE8 p0);(have s1:=Ext.cell hE8 p1);(have s2:=Ext.cell hE8 p2);(have s3:=Ext.cell hE8 p3);have hgl:=(hown8.lt g rfl).2;have HFI:=hq_ (HFIN.out g cap w8 hown8 hE8);clear hown8 hgrow8 hE8 p0 p1 p2 p3))
           go_ret2;exact ⟨HFI.out.2,.inr ⟨k,jj,_,⟨hkj,by rw [HLM.out];exact hlt2,by have h:=HJN.out;simpa using h,by rw [HLM.out];exact HNO.out,HNR.out⟩,rfl,HFI.out.1⟩⟩
      ·have HXI:Hid (((xt.length:Int) == 1)=true∧xt.length=1):=hq_ ⟨tq_,hx1⟩;have HYI:Hid (((yt.length:Int) == 1)=false∧¬ yt.length=1):=hq_ ⟨tq_,hy1⟩;have HJN:Hid (¬ az_ (L.map Prod.snd) k jj):=hq_ (by unfold az_;rw [hdy];exact fun h=>hy1 h.2.1);clear htx hty hdx hdy hx1 hy1;go_wp2_with fail
       refine ai_ (w0:=wr) [0,1,2,3,4,5,6,7,8,9,10,11,12,13,14,15,16,17,18,19,20,21,22,23,24,25,26,27,28] [] (fun v=>⟨#[.slice (some ⟨b,o,none⟩) L.length c,undef,u2,u3,.int .i64 ↑k,.int .i64 ↑jj,u6,u7,u8,.int .i64 ↑k,.slice (some ⟨b,o,none⟩) L.length c,.int .i64 ↑L.length,.bool true,u13,u14,.int .i64 ↑k,.int .i64 (↑k+1),.int .i64 ↑jj,.slice (some ⟨b,o,none⟩) L.length c,.int .i64 ↑L.length,.bool true,u21,u22,v 0,v 1,v 2,v 3,v 4,v 5,v 6,v 7,v 8,v 9,v 10,v 11,v 12,v 13,v 14,v 15,v 16,v 17,v 18,v 19,v 20,v 21,v 22,v 23,v 24,v 25,v 26,v 27,v 28,u52,u53,u54,u55,u56,u57,u58,u59,u60,u61,u62,u63,u64,u65,u66,u67,u68,u69,u70,u71,u72,u73,u74,u75,u76,u77,u78,u79,u80,u81,u82,u83,u84,u85,u86,undef],[]⟩) [.slice (some ⟨b,o,none⟩) L.length c,.int .i64 k,.pointer (some ⟨b,o+k,none⟩),.slice xa xt.length xc,.int .i64 xt.length,.bool true,.bool true,.slice (some ⟨b,o,none⟩) L.length c,.int .i64 jj,.pointer (some ⟨b,o+jj,none⟩),.slice ya yt.length yc,.int .i64 yt.length,.bool false,.bool false,.bool false,undef,undef,undef,undef,undef,undef,undef,undef,undef,undef,undef,undef,undef,.bool false] [] (fun _ _ _ _ _=>True) (fun W=>W.cell? ⟨b,o+k,none⟩=some (.slice xa xt.length xc)∧W.cell? ⟨b,o+jj,none⟩=some (.slice ya yt.length yc)) (fun W hb=>⟨Ext.cell hb q3,Ext.cell hb q4⟩) trivial trivial ?steps ?fin (fun j=>match j with|0=>u23|1=>u24|2=>u25|3=>u26|4=>u27|5=>u28|6=>u29|7=>u30|8=>u31|9=>u32|10=>u33|11=>u34|12=>u35|13=>u36|14=>u37|15=>u38|16=>u39|17=>u40|18=>u41|19=>u42|20=>u43|21=>u44|22=>u45|23=>u46|24=>u47|25=>u48|26=>u49|27=>u50|28=>u51|_=>undef)
       case steps=>
        clear q3 q4;refine .c [] [] rfl ?_ (.c [] [] rfl ?_ (.c [0,1] [] rfl ?_ (.c [2] [] rfl ?_ (.c [3] [] rfl ?_ (.c [4] [] rfl ?_ (.c [5] [] rfl ?_ (.c [6] [] rfl ?_ (.c [6] [] rfl ?_ (.c [6,7,8] [] rfl ?_ (.c [6,9] [] rfl ?_ (.c [6,10] [] rfl ?_ (.c [6,11] [] rfl ?_ (.c [6,12] [] rfl ?_ (.c [13] [] rfl ?_ (.c [14] [] rfl ?_ (.c [14] [] rfl ?_ (.c [14,15,16] [] rfl ?_ (.c [14,17] [] rfl ?_ (.c [14,18] [] rfl ?_ (.c [14,19] [] rfl ?_ (.c [14] [] rfl ?_ (.c [14] [] rfl ?_ (.c [14,21,22] [] rfl ?_ (.c [14,23] [] rfl ?_ (.c [14,24] [] rfl ?_ (.c [14,25] [] rfl ?_ (.c [14,20,26] [] rfl ?_ (.c [14,27] [] rfl ?_ (.n)))))))))))))))))))))))))))))
        all_goals try exact stw
        ·rintro v lo hi W hb ⟨s3,s4⟩ _;refine .inl ⟨rfl,fun K hK=>?_⟩;simp only [ov,vat,Nat.reduceBEq,cond_true,cond_false];have hqa:=HXI.out.1;have hqb:=HXI.out.2;go_wp2_with fail
         exact acx (hK W (Below.refl _ _)) (by simp [ov,vat,upd,hqa,hqb])
        ·rintro v lo hi W hb ⟨s3,s4⟩ _;refine .inl ⟨rfl,fun K hK=>?_⟩;simp only [ov,vat,Nat.reduceBEq,cond_true,cond_false];have hqa:=HYI.out.1;have hqb:=HYI.out.2;go_wp2_with fail
         exact acx (hK W (Below.refl _ _)) (by simp [ov,vat,upd,hqa,hqb])
       case fin=>
        rintro v lo hi9 W2 hb-hf hap;have e28:v 28=.bool false:=(hf 28 rfl).2.2.2;clear hf hap;show wpList _ _ _ [] _ _;dsimp only;rw [e28];clear e28;generalize v 0=z0,v 1=z1,v 2=z2,v 3=z3,v 4=z4,v 5=z5,v 6=z6,v 7=z7,v 8=z8,v 9=z9,v 10=z10,v 11=z11,v 12=z12,v 13=z13,v 14=z14,v 15=z15,v 16=z16,v 17=z17,v 18=z18,v 19=z19,v 20=z20,v 21=z21,v 22=z22,v 23=z23,v 24=z24,v 25=z25,v 26=z26,v 27=z27;have HB4:=hq_ (Et HB2.out hb);clear hb;go_wp2_with fail
        go_roundw
        case rel=>exact ⟨jj+1,oq_,oq_,by go_num,hq_ (fun j' h1 h2=>by
         by_cases h3:j'<jj
         ·exact HNR.out j' h1 h3
         ·obtain rfl:j'=jj:=oq_;exact HJN.out),HB4⟩
        case measure=>simp [intOf];omega
     ·have HXI:Hid (((xt.length:Int) == 1)=false∧¬ xt.length=1):=hq_ ⟨tq_,hx1⟩;have HJN:Hid (¬ az_ (L.map Prod.snd) k jj):=hq_ (by unfold az_;rw [hdx];exact fun h=>hx1 h.1);clear htx hty hdx hdy hx1;go_wp2_with fail
      refine ai_ (w0:=wr) [0,1,2,3,4,5,6,7,8,9,10,11,12,13,14,15,16,17,18,19,20,21,22,23,24,25,26,27,28] [] (fun v=>⟨#[.slice (some ⟨b,o,none⟩) L.length c,undef,u2,u3,.int .i64 ↑k,.int .i64 ↑jj,u6,u7,u8,.int .i64 ↑k,.slice (some ⟨b,o,none⟩) L.length c,.int .i64 ↑L.length,.bool true,u13,u14,.int .i64 ↑k,.int .i64 (↑k+1),.int .i64 ↑jj,.slice (some ⟨b,o,none⟩) L.length c,.int .i64 ↑L.length,.bool true,u21,u22,v 0,v 1,v 2,v 3,v 4,v 5,v 6,v 7,v 8,v 9,v 10,v 11,v 12,v 13,v 14,v 15,v 16,v 17,v 18,v 19,v 20,v 21,v 22,v 23,v 24,v 25,v 26,v 27,v 28,u52,u53,u54,u55,u56,u57,u58,u59,u60,u61,u62,u63,u64,u65,u66,u67,u68,u69,u70,u71,u72,u73,u74,u75,u76,u77,u78,u79,u80,u81,u82,u83,u84,u85,u86,undef],[]⟩) [.slice (some ⟨b,o,none⟩) L.length c,.int .i64 k,.pointer (some ⟨b,o+k,none⟩),.slice xa xt.length xc,.int .i64 xt.length,.bool false,.bool false,undef,undef,undef,undef,undef,undef,.bool false,.bool false,undef,undef,undef,undef,undef,undef,undef,undef,undef,undef,undef,undef,undef,.bool false] [] (fun _ _ _ _ _=>True) (fun W=>W.cell? ⟨b,o+k,none⟩=some (.slice xa xt.length xc)∧W.cell? ⟨b,o+jj,none⟩=some (.slice ya yt.length yc)) (fun W hb=>⟨Ext.cell hb q3,Ext.cell hb q4⟩) trivial trivial ?steps ?fin (fun j=>match j with|0=>u23|1=>u24|2=>u25|3=>u26|4=>u27|5=>u28|6=>u29|7=>u30|8=>u31|9=>u32|10=>u33|11=>u34|12=>u35|13=>u36|14=>u37|15=>u38|16=>u39|17=>u40|18=>u41|19=>u42|20=>u43|21=>u44|22=>u45|23=>u46|24=>u47|25=>u48|26=>u49|27=>u50|28=>u51|_=>undef)
      case steps=>
       clear q3 q4;refine .c [] [] rfl ?_ (.c [] [] rfl ?_ (.c [0,1] [] rfl ?_ (.c [2] [] rfl ?_ (.c [3] [] rfl ?_ (.c [4] [] rfl ?_ (.c [5] [] rfl ?_ (.c [6] [] rfl ?_ (.c [6] [] rfl ?_ (.c [6,7,8] [] rfl ?_ (.c [6,9] [] rfl ?_ (.c [6,10] [] rfl ?_ (.c [6,11] [] rfl ?_ (.c [6,12] [] rfl ?_ (.c [13] [] rfl ?_ (.c [14] [] rfl ?_ (.c [14] [] rfl ?_ (.c [14,15,16] [] rfl ?_ (.c [14,17] [] rfl ?_ (.c [14,18] [] rfl ?_ (.c [14,19] [] rfl ?_ (.c [14] [] rfl ?_ (.c [14] [] rfl ?_ (.c [14,21,22] [] rfl ?_ (.c [14,23] [] rfl ?_ (.c [14,24] [] rfl ?_ (.c [14,25] [] rfl ?_ (.c [14,20,26] [] rfl ?_ (.c [14,27] [] rfl ?_ (.n)))))))))))))))))))))))))))))
       all_goals try exact stw
       ·rintro v lo hi W hb ⟨s3,s4⟩ _;refine .inl ⟨rfl,fun K hK=>?_⟩;simp only [ov,vat,Nat.reduceBEq,cond_true,cond_false];have hqa:=HXI.out.1;have hqb:=HXI.out.2;go_wp2_with fail
        exact acx (hK W (Below.refl _ _)) (by simp [ov,vat,upd,hqa,hqb])
      case fin=>
       rintro v lo hi9 W2 hb-hf hap;have e28:v 28=.bool false:=(hf 28 rfl).2.2.2;clear hf hap;show wpList _ _ _ [] _ _;dsimp only;rw [e28];clear e28;generalize v 0=z0,v 1=z1,v 2=z2,v 3=z3,v 4=z4,v 5=z5,v 6=z6,v 7=z7,v 8=z8,v 9=z9,v 10=z10,v 11=z11,v 12=z12,v 13=z13,v 14=z14,v 15=z15,v 16=z16,v 17=z17,v 18=z18,v 19=z19,v 20=z20,v 21=z21,v 22=z22,v 23=z23,v 24=z24,v 25=z25,v 26=z26,v 27=z27;have HB4:=hq_ (Et HB2.out hb);clear hb;go_wp2_with fail
       go_roundw
       case rel=>exact ⟨jj+1,oq_,oq_,by go_num,hq_ (fun j' h1 h2=>by
        by_cases h3:j'<jj
        ·exact HNR.out j' h1 h3
        ·obtain rfl:j'=jj:=oq_;exact HJN.out),HB4⟩
       case measure=>simp [intOf];omega
    ·obtain rfl:jj=L.length:=oq_;go_wp2_with fail
     go_roundw
     case rel=>exact ⟨k+1,oq_,by go_num,hq_ (fun i' j' h1 h2 h3=>by
      by_cases h4:i'<k
      ·exact HNO.out i' j' h4 h2 h3
      ·obtain rfl:i'=k:=oq_;exact HNR.out j' h2 h3),HB2⟩
     case measure=>simp [intOf];omega
  ·obtain rfl:k=L.length:=oq_;go_wp2_with fail
   go_ret2;exact ⟨HBL.out,.inl ⟨fun i j h1 h2=>HNO.out i j (by have:=HLM.out;omega) h1 (by have:=HLM.out;omega),rfl⟩⟩
theorem ir_ (v1 v2:Value) (l1 l2:List Int) (w:World) (h1:Ints w v1 l1) (h2:Ints w v2 l2) :
  Calls Tryz.prog 87 #[v1,v2] w fun e w'=>e=.returned (.bool (decide (l1=l2)))∧Below w.heap.size w w':=by
 have H1:=hq_ h1;have H2:=hq_ h2;obtain ⟨⟨a1,c1,rfl,_,_,_⟩,g4,_⟩:=h1;obtain ⟨⟨a2,c2,rfl,_,_,_⟩,k4,_⟩:=h2
 go_enter Tryz.func87,Tryz.ntmps87
 by_cases hl:l1.length=l2.length
 ·have hlI:(l1.length:Int)=l2.length:=oq_;have HLL:=hq_ hl;have hdf:((l1.length:Int) != (l2.length:Int))=false:=by rw [hlI];simp
  rw [hlI] at hdf;clear hl;go_wp2_with fail
  go_loopw [5] (fun i wr=>∃ k:Nat,k≤l1.length∧i=.int .i64 k∧l1.take k=l2.take k∧Below w.heap.size w wr) (fun i _=>l1.length-(intOf i).toNat)
  case atStart=>exact ⟨0,oq_,rfl,sq_,xE⟩
  case round=>
   obtain ⟨k,hk,rfl,ht,hb⟩:=hrel;have HT:=hq_ ht;clear ht
   by_cases hlt:k<l1.length
   ·have hlt2:k<l2.length:=by have:=HLL.out;omega
    obtain ⟨⟨a1',c1',he1,_,_,g3⟩,_,_⟩:=H1.out.ext hb;obtain ⟨⟨a2',c2',he2,_,_,k3⟩,_,_⟩:=H2.out.ext hb;injection he1 with e1 _ e2
    subst e1;subst e2;injection he2 with e1 _ e2
    subst e1;subst e2;rcases g3 with h|⟨b1,o1,rfl,hcell1⟩
    ·subst h;simp at hlt
    rcases k3 with h|⟨b2,o2,rfl,hcell2⟩
    ·subst h;simp at hlt2
    have HB:=hq_ hb;have hc1:=hcell1 k hlt;have hc2:=hcell2 k hlt2;have HST:=hq_ (s7_ HLL.out hlt HT.out);generalize hx:l1.getD k 0=x at *;generalize hy:l2.getD k 0=y at *;have HX:=hq_ hx;have HY:=hq_ hy;clear hcell1 hcell2 hx hy hb
    by_cases hxy:x=y
    ·have HXY:=hq_ hxy;have hb:(x != y)=false:=by rw [HXY.out];simp
     clear hxy;go_wp2_with fail
     go_quiet (fail)
     go_wp2_with fail
     go_roundw
     case rel=>exact ⟨k+1,oq_,by go_num,HST.out HXY.out,by have hb:=HB.out;exact xE⟩
     case measure=>simp [intOf];omega
    ·have hb:(x != y)=true:=by simp [hxy]
     have hne:l1≠l2:=fun h=>hxy (by rw [<- HX.out,<- HY.out,h]);go_wp2_with fail
     go_quiet (fail)
     go_wp2_with fail
     go_ret;exact ⟨ac_ (by simp [hne]),by have hb:=HB.out;exact xE⟩
   ·have heq:l1=l2:=by
     have h:=HT.out;rw [List.take_of_length_le oq_,List.take_of_length_le (by have:=HLL.out;omega)] at h;exact h
    go_wp2_with fail
    go_ret;exact ⟨ac_ (by simp [heq]),xE⟩
 ·have hlI:¬ (l1.length:Int)=l2.length:=oq_;have hdf:((l1.length:Int) != (l2.length:Int))=true:=by simp [hlI]
  have hne:l1≠l2:=fun h=>hl (by rw [h]);go_wp2_with fail
  go_ret;exact ⟨ac_ (by simp [hne]),xE⟩
theorem f0_ (F G:Nat->Prop) (x y:PV) (w:World) (hx:PVok w F x) (hy:PVok w G y) :
  Calls Tryz.prog 44 #[x.val,y.val] w fun e w'=>e=.returned (.bool (bi_ x.p y.p))∧Below w.heap.size w w':=by
 have H1:=fun W (h:Below w.heap.size w W)=>ir_ x.h y.h x.p.head y.p.head W (hx.is.hd.ext h) (hy.is.hd.ext h);have H2:=fun W (h:Below w.heap.size w W)=>ir_ x.c y.c x.p.cycle y.p.cycle W (hx.is.cy.ext h) (hy.is.cy.ext h);clear hx hy;obtain ⟨xh,xc,xp⟩:=x;obtain ⟨yh,yc,yp⟩:=y;change Calls _ _ #[perV xh xc xp.frm xp.period,perV yh yc yp.frm yp.period] _ fun e w'=>e=.returned (.bool (bi_ xp yp))∧_;change ∀ W,_->Calls _ _ #[xh,yh] W fun e w'=>e=.returned (.bool (decide (xp.head=yp.head)))∧_ at H1;change ∀ W,_->Calls _ _ #[xc,yc] W fun e w'=>e=.returned (.bool (decide (xp.cycle=yp.cycle)))∧_ at H2
 by_cases h1:xp.frm=yp.frm
 ·by_cases h2:xp.period=yp.period
  ·by_cases h3:xp.head=yp.head
   ·rw [decide_eq_true h3] at H1;have e:bi_ xp yp=decide (xp.cycle=yp.cycle):=by unfold bi_;simp [h1,h2,h3]
    rw [e];clear e h3;generalize decide (xp.cycle=yp.cycle)=b at *
    go_enter Tryz.func44,Tryz.ntmps44
    go_wp2_with (go_at_call 87;first|((with_reducible refine (H1 _ xE).mono ?_);rintro e w1 ⟨rfl,hb1⟩;obtain ⟨hc1,hf1⟩:=au_ hb1;(try simp only [World.size_alloc,World.size_drew,af_,World.size_setCell] at hc1 hf1);have hz1:w.heap.size+1<w1.heap.size:=(by have h7:=hb1.size;simp at h7;omega))|((with_reducible refine (H2 _ xE).mono ?_);rintro e w2 ⟨rfl,hb2⟩))
    go_ret;exact ⟨rfl,xE⟩
   ·rw [decide_eq_false h3] at H1;have e:bi_ xp yp=false:=by unfold bi_;simp [h3]
    rw [e];clear e h3
    go_enter Tryz.func44,Tryz.ntmps44
    go_wp2_with (go_at_call 87;first|((with_reducible refine (H1 _ xE).mono ?_);rintro e w1 ⟨rfl,hb1⟩;obtain ⟨hc1,hf1⟩:=au_ hb1;(try simp only [World.size_alloc,World.size_drew,af_,World.size_setCell] at hc1 hf1);have hz1:w.heap.size+1<w1.heap.size:=(by have h7:=hb1.size;simp at h7;omega))|((with_reducible refine (H2 _ xE).mono ?_);rintro e w2 ⟨rfl,hb2⟩))
    go_ret;exact ⟨rfl,xE⟩
  ·have e:bi_ xp yp=false:=by unfold bi_;simp [h2]
   rw [e];clear e
   go_enter Tryz.func44,Tryz.ntmps44
   go_wp2_with fail
   go_ret;exact ⟨rfl,xE⟩
 ·have e:bi_ xp yp=false:=by unfold bi_;simp [h1]
  rw [e];clear e
  go_enter Tryz.func44,Tryz.ntmps44
  go_wp2_with fail
  go_ret;exact ⟨rfl,xE⟩
theorem il_ (F G:Nat->Prop) (v1 v2:Value) (t u:List Per) (w:World) (h1:ab_ w F v1 t) (h2:ab_ w G v2 u) :
  Calls Tryz.prog 91 #[v1,v2] w fun e w'=>e=.returned (.bool (cm_ t u))∧Below w.heap.size w w':=by
 obtain ⟨L,hLt,hL⟩:=h1;obtain ⟨M,hMu,hM⟩:=h2;obtain ⟨a1,c1,rfl,_⟩:=hL.row;obtain ⟨a2,c2,rfl,_⟩:=hM.row;have HL:=hq_ hL;have HM:=hq_ hM;have hl1:=hL.len;have hl2:=hM.len;have ht:t.length=L.length:=by rw [<- hLt,List.length_map]
 have hu:u.length=M.length:=by rw [<- hMu,List.length_map]
 have HT:=hq_ ht;have HU:=hq_ hu;have HLT:=hq_ hLt;have HMU:=hq_ hMu;clear hL hM ht hu hLt hMu
 by_cases hne:L.length=M.length
 ·have HNE:=hq_ hne;rw [<- hne];clear hne hl2
  go_enter Tryz.func91,Tryz.ntmps91
  go_wp2_with fail
  go_loopw [5] (fun i wr=>∃ k:Nat,k≤L.length∧i=.int .i64 k∧Hid (∀ j,j<k->t.getD j default=u.getD j default)∧Hid (Below w.heap.size w wr)) (fun i _=>L.length-(intOf i).toNat)
  case atStart=>exact ⟨0,oq_,rfl,hq_ (by intro j hj;omega),hq_ xE⟩
  case round=>
   obtain ⟨k,hk,rfl,HPRE,HBL⟩:=hrel;have hb:=HBL.out
   by_cases hlt:k<L.length
   ·have hlI:(k:Int)<L.length:=oq_;obtain ⟨b1,o1,x,rfl,hx,hxp,hb1,e0,e1,e2,e3⟩:=(HL.out.keep (a5_.below hb) hb.size).get hlt;obtain ⟨b2,o2,y,rfl,hy,hyp,hb2,g0,g1,g2,g3⟩:=(HM.out.keep (a5_.below hb) hb.size).get (show k<M.length by have:=HNE.out;omega);rw [HLT.out] at hxp;rw [HMU.out] at hyp;have HE:=fun W (h:Below wr.heap.size wr W)=>f0_ F G x y W (hx.keep (a5_.below h)) (hy.keep (a5_.below h));have HXP:=hq_ hxp;have HYP:=hq_ hyp;obtain ⟨xh,xc,xp⟩:=x;obtain ⟨yh,yc,yp⟩:=y;obtain ⟨ax1,nx1,cx1,ax2,nx2,cx2,rfl,rfl⟩:=hx.form;obtain ⟨ay1,ny1,cy1,ay2,ny2,cy2,rfl,rfl⟩:=hy.form;clear hxp hyp hx hy;change ∀ W,_->Calls _ _ #[.agg #[.slice ax1 nx1 cx1,.int .i64 xp.frm,.int .i64 xp.period,.slice ax2 nx2 cx2],.agg #[.slice ay1 ny1 cy1,.int .i64 yp.frm,.int .i64 yp.period,.slice ay2 ny2 cy2]] W (fun e w'=>e=.returned (.bool (bi_ xp yp))∧_) at HE;change Hid (xp=_) at HXP;change Hid (yp=_) at HYP;dsimp only at e0 e1 e2 e3 g0 g1 g2 g3;have HEH:=hq_ HE;clear HE;generalize hq:bi_ xp yp=bq at *;have HQ:=hq_ hq;clear hq;go_upto_region 6 with (fail)
    cases bq
    all_goals
     go_region_held3 (fun w'=>w'.cell? ⟨b1,o1+k*4,none⟩=some (.slice ax1 nx1 cx1)∧w'.cell? ⟨b1,o1+k*4+1,none⟩=some (.int .i64 xp.frm)∧w'.cell? ⟨b1,o1+k*4+2,none⟩=some (.int .i64 xp.period)∧w'.cell? ⟨b1,o1+k*4+3,none⟩=some (.slice ax2 nx2 cx2)∧w'.cell? ⟨b2,o2+k*4,none⟩=some (.slice ay1 ny1 cy1)∧w'.cell? ⟨b2,o2+k*4+1,none⟩=some (.int .i64 yp.frm)∧w'.cell? ⟨b2,o2+k*4+2,none⟩=some (.int .i64 yp.period)∧w'.cell? ⟨b2,o2+k*4+3,none⟩=some (.slice ay2 ny2 cy2)∧Below wr.heap.size wr w') ((go_split_ands;refine ⟨?_,?_,?_,?_,?_,?_,?_,?_,xE⟩ <;> first|assumption|(refine Ext.cell (w:=wr) xE (by assumption))))
      (first|(go_at_call 44;(with_reducible refine (HEH.out _ (by go_split_ands;exact xE)).mono ?_);rintro e u9 ⟨rfl,kz⟩))
    ·go_wp2_with fail
     go_ret;refine ⟨ac_ (cy_ ?_).symm,Et HBL.out (by go_split_ands;exact xE)⟩;rintro rfl;have:=HQ.out;rw [(gr_ _ _).2 (HXP.out.trans HYP.out.symm)] at this;exact absurd this dq_
    ·go_wp2_with fail
     go_roundw
     case rel=>
      refine ⟨k+1,oq_,by go_num,hq_ ?_,hq_ (Et HBL.out (by go_split_ands;exact xE))⟩;intro j hj
      by_cases h:j<k
      ·exact HPRE.out j h
      ·obtain rfl:j=k:=oq_;rw [<- HXP.out,<- HYP.out];exact (gr_ _ _).1 HQ.out
     case measure=>simp [intOf];omega
   ·obtain rfl:k=L.length:=oq_;go_wp2_with fail
    go_ret;refine ⟨ac_ (eq_ ?_).symm,HBL.out⟩;refine List.ext_getElem (by have:=HT.out;have:=HU.out;have:=HNE.out;omega) fun j h1 h2=>?_;have:=HPRE.out j (by have:=HT.out;omega);rw [List.getD_eq_getElem?_getD,List.getD_eq_getElem?_getD,List.getElem?_eq_getElem h1,List.getElem?_eq_getElem h2] at this;exact this
 ·have hneI:¬ (L.length:Int)=M.length:=oq_
  go_enter Tryz.func91,Tryz.ntmps91
  go_wp2_with fail
  go_ret;refine ⟨ac_ (cy_ ?_).symm,xE⟩;rintro rfl;have:=HT.out;have:=HU.out;omega
noncomputable def kx_ (a b:List (List Per)):Bool:=decide (a=b)
theorem eh_ {t u:List (List Per)} (h:t=u):kx_ t u=true:=by unfold kx_;simp [h]
theorem j9_ {t u:List (List Per)} (h:t≠u):kx_ t u=false:=by unfold kx_;simp [h]
theorem fb_ (F G:Nat->Prop) (v1 v2:Value) (m1 m2:List (List Per)) (w:World) (h1:MixR w F v1 m1) (h2:MixR w G v2 m2) :
  Calls Tryz.prog 47 #[.agg #[v1],.agg #[v2]] w fun e w'=>e=.returned (.bool (kx_ m1 m2))∧Below w.heap.size w w':=by
 obtain ⟨L,hLt,hL⟩:=h1;obtain ⟨M,hMu,hM⟩:=h2;obtain ⟨a1,c1,rfl,_⟩:=hL.row;obtain ⟨a2,c2,rfl,_⟩:=hM.row;have HL:=hq_ hL;have HM:=hq_ hM;have hl1:=hL.len;have hl2:=hM.len;have ht:m1.length=L.length:=by rw [<- hLt,List.length_map]
 have hu:m2.length=M.length:=by rw [<- hMu,List.length_map]
 have HT:=hq_ ht;have HU:=hq_ hu;have HLT:=hq_ hLt;have HMU:=hq_ hMu;clear hL hM ht hu hLt hMu
 by_cases hne:L.length=M.length
 ·have HNE:=hq_ hne;rw [<- hne];clear hne hl2
  go_enter Tryz.func47,Tryz.ntmps47
  go_wp2_with fail
  go_loopw [5] (fun i wr=>∃ k:Nat,k≤L.length∧i=.int .i64 k∧Hid (∀ j,j<k->m1.getD j []=m2.getD j [])∧Hid (Below w.heap.size w wr)∧Hid (Bxx wr w.heap.size #[.slice a1 L.length c1] 28)∧Hid (Bxx wr (w.heap.size+1) #[.slice a2 L.length c2] 28)) (fun i _=>L.length-(intOf i).toNat)
  case atStart=>exact ⟨0,oq_,rfl,hq_ (by intro j hj;omega),hq_ xE,hq_ xB,hq_ xB⟩
  case round=>
   obtain ⟨k,hk,rfl,HPRE,HBL,HB1,HB2⟩:=hrel;have hb:=HBL.out;have p1:=(Bxx.cells HB1.out 0).1;have p2:=(Bxx.cells HB2.out 0).1
   by_cases hlt:k<L.length
   ·have hlI:(k:Int)<L.length:=oq_;obtain ⟨b1,o1,tv,rfl,e0,hx⟩:=(HL.out.keep (a5_.below hb) hb.size).get hlt;obtain ⟨b2,o2,uv,rfl,g0,hy⟩:=(HM.out.keep (a5_.below hb) hb.size).get (show k<M.length by have:=HNE.out;omega);rw [HLT.out] at hx;rw [HMU.out] at hy;have HEH:=fun W (h:Below wr.heap.size wr W)=>il_ F G tv uv _ _ W (hx.ext h) (hy.ext h);obtain ⟨ax,cx,rfl,_⟩:=hx.form;obtain ⟨ay,cy,rfl,_⟩:=hy.form;clear hx hy;generalize hq:cm_ (m1.getD k []) (m2.getD k [])=bq at *;have HQ:=hq_ hq;have HEH:=hq_ HEH;clear hq;generalize (m1.getD k []).length=n1 at *;generalize (m2.getD k []).length=n2 at *;go_upto_region 6 with (fail)
    cases bq
    all_goals
     go_region_held3 (fun w'=>w'.cell? ⟨w.heap.size,0,none⟩=some (.slice (some ⟨b1,o1,none⟩) L.length c1)∧w'.cell? ⟨w.heap.size+1,0,none⟩=some (.slice (some ⟨b2,o2,none⟩) L.length c2)∧w'.cell? ⟨b1,o1+k,none⟩=some (.slice ax n1 cx)∧w'.cell? ⟨b2,o2+k,none⟩=some (.slice ay n2 cy)∧Below wr.heap.size wr w') ((go_split_ands;refine ⟨?_,?_,?_,?_,xE⟩ <;> first|assumption|(refine Ext.cell (w:=wr) xE (by assumption))))
      (first|(go_at_call 91;(with_reducible refine (HEH.out _ (by go_split_ands;exact xE)).mono ?_);rintro e u9 ⟨rfl,kz⟩))
    ·go_wp2_with fail
     go_ret;refine ⟨ac_ (j9_ ?_).symm,Et HBL.out (by go_split_ands;exact xE)⟩;rintro rfl;have:=HQ.out;rw [eq_ rfl] at this;exact absurd this dq_
    ·go_wp2_with fail
     go_roundw
     case rel=>
      have hbb:Below wr.heap.size wr u9:=by go_split_ands;exact xE
      refine ⟨k+1,oq_,by go_num,hq_ ?_,hq_ (Et HBL.out hbb),hq_ (Bxx.below HB1.out hbb),hq_ (Bxx.below HB2.out hbb)⟩;intro j hj
      by_cases h:j<k
      ·exact HPRE.out j h
      ·obtain rfl:j=k:=oq_;exact Classical.byContradiction fun hn=>by
        have:=HQ.out;rw [cy_ hn] at this;cases this
     case measure=>simp [intOf];omega
   ·obtain rfl:k=L.length:=oq_;go_wp2_with fail
    go_ret;refine ⟨ac_ (eh_ ?_).symm,HBL.out⟩;refine List.ext_getElem (by have:=HT.out;have:=HU.out;have:=HNE.out;omega) fun j h1 h2=>?_;have:=HPRE.out j (by have:=HT.out;omega);rw [List.getD_eq_getElem?_getD,List.getD_eq_getElem?_getD,List.getElem?_eq_getElem h1,List.getElem?_eq_getElem h2] at this;exact this
 ·have hneI:¬ (L.length:Int)=M.length:=oq_
  go_enter Tryz.func47,Tryz.ntmps47
  go_wp2_with fail
  go_ret;refine ⟨ac_ (j9_ ?_).symm,xE⟩;rintro rfl;have:=HT.out;have:=HU.out;omega
end Go.Proofs.YthjnojbeimchdaaGreat
end
