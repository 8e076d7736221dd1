/- Part 7 of the proof of MixedDecisionsMatchReference_said. -/
import Derived.Test.YthjnojbeimchdaaGreatU6
import Derived.Deep.RegionHeld3
import Derived.Test.YthjnojbeimchdaaGreatU5
import Derived.Test.YthjnojbeimchdaaGreatU4
set_option linter.unusedVariables false
set_option linter.unusedSimpArgs false
set_option maxRecDepth 100000
set_option maxHeartbeats 4000000
section
variable {ops:Array Go.Oper}{b:Bool}{e:Go.Ending}{F P at_ d f hi lo n op r s st step x y:Int}{l:List Int}{rest:List Go.Oper}{L:List Go.Proofs.YthjnojbeimchdaaGreat.PV}{t:List Kal.Per}{B base c i j k ob:Nat}{o:Go.Oper}{p qa qb:Kal.Per}{hv v:Go.Value}{W W' W1 W2 w w':Go.World}
namespace Go.Proofs.YthjnojbeimchdaaGreat
open Go.RowKit Go.Maps Kal
theorem s0_ (h c:Value) (p:Per) (w:World) (hp:a8_ w h c p) (hw:p.WF) (h1:p.frm≤1125899906842624) (h2:p.period≤1125899906842624) (hne:p.cycle≠[]) :
  Calls Tryz.prog 138 #[perV h c p.frm p.period] w (e7_ p.mem w):=by
 have f0:=hw.frm;have p0:=hw.per;have hn1:1≤p.cycle.length:=by
  rcases Nat.eq_zero_or_pos p.cycle.length with h|h
  ·exact absurd (List.eq_nil_of_length_eq_zero h) hne
  ·exact h
 have hlz:((p.cycle.length:Int) == 0)=false:=by rw [beq_eq_false_iff_ne];omega
 have hln:¬ (p.cycle.length:Int)=0:=oq_;obtain ⟨a1,c1,a2,c2,rfl,rfl⟩:=hp.inn.form;obtain ⟨⟨a',c',he,_,_,h38⟩,_,_⟩:=hp.cy;injection he with e1 _ e2
 subst e1;subst e2;rcases h38 with h38|⟨b8,f8,rfl,hcell⟩
 ·exact absurd h38 hne
 have HCELL:=hq_ hcell;clear hcell;have H1:=hq_ hp.hd;have H2:=hq_ hp.cy;have HP:=hq_ hp;have HW:=hq_ hw;have HNE:=hq_ hne;have HLH:=hp.hd.len;have HLC:=hp.cy.len;clear hp hw hne
 go_enter Tryz.func138,Tryz.ntmps138
 go_upto_region 8 with (go_at_call 170;refine (re_ _ _ p _ (HP.out.ext xE) HW.out HNE.out h2).mono ?_;rintro e W2 ⟨d,k,rfl,hS,hk1,hkn,hb2⟩)
 refine al_ (F:=fun U=>Bxx U w.heap.size #[.slice a1 p.head.length c1,.int .i64 p.frm,.int .i64 p.period,.slice (some ⟨b8,f8,none⟩) p.cycle.length c2] 39∧Bxx U (w.heap.size+1) #[.slice none 0 0,.int .i64 0,.int .i64 0,.slice none 0 0] 39∧w.heap.size+1<U.heap.size∧Below w.heap.size w U) ⟨by refine Bxx.below ?_ hb2;exact xB,by refine Bxx.below ?_ hb2;exact xB,by have:=hb2.size;simp at this;omega,xE⟩ ?_;clear hb2;rintro W1 ⟨hpb,hrb,hz1,hE⟩;have HPB:=hq_ hpb;have HRB:=hq_ hrb;have HE:=hq_ hE;have d0:=hS.pos;have dle:=hS.le;have HS:=hq_ hS;have HSK:Hid (∀ j,j<p.cycle.length->(p.cycle.getD j 0<d↔j<k)):=hq_ (fun j hj=>w3_ HW.out hS hkn hj);clear hpb hrb hE hS
 go_loopw [5] (fun kv wr=>∃ j:Nat,j≤k∧kv=.int .i64 j∧Below W1.heap.size W1 wr) (fun kv _=>p.cycle.length-(intOf kv).toNat)
 case atStart=>exact ⟨0,oq_,rfl,Below.refl _ _⟩
 case round=>
  obtain ⟨j,hj,rfl,hb⟩:=hrel;have HB:=hq_ hb;have hbx:=HPB.out.below hb;have q0:=(hbx.cells 0).1;have q1:=(hbx.cells 1).1;have q2:=(hbx.cells 2).1;have q3:=(hbx.cells 3).1;clear hbx hb
  by_cases hjk:j<k
  ·have hlt:j<p.cycle.length:=oq_;have hlI:(j:Int)<p.cycle.length:=oq_;have hcl:=Ext.cell HB.out (Ext.cell HE.out (HCELL.out j hlt));have hyd:=(HSK.out j hlt).2 hjk;generalize p.cycle.getD j 0=y at *;have d1:decide (y<d)=true:=by simp [hyd]
   go_wp2_with fail
   go_roundw
   case rel=>exact ⟨j+1,oq_,by go_num,by have hb:=HB.out;exact xE⟩
   case measure=>simp [intOf];omega
  ·obtain rfl:j=k:=oq_;rcases Nat.lt_or_ge j p.cycle.length with hlt|hge
   ·have hlI:(j:Int)<p.cycle.length:=oq_;have hcl:=Ext.cell HB.out (Ext.cell HE.out (HCELL.out j hlt));have hyd:=fun h=>hjk ((HSK.out j hlt).1 h);generalize p.cycle.getD j 0=y0 at *;have d1:decide (y0<d)=false:=by simpa using hyd
    clear hyd;go_upto_region 13 with (go_at_call 171;refine (l2_ _ _ p d j _ (HP.out.ext (by have hE:=HE.out;have hb:=HB.out;exact xE)) HW.out h1 h2 HS.out hk1 hkn).mono ?_;rintro e W3 ⟨s,m,rfl,hst,hb3⟩)
    clear hcl d1;have hWb:Below w.heap.size w W3:=by have hE:=HE.out;have hb:=HB.out;exact xE
    obtain ⟨ob,hobe⟩:∃ ob,ob=W3.heap.size:=⟨_,rfl⟩;have hob2:w.heap.size+1<ob:=by have h7:=hb3.size;have h8:=HB.out.size;omega
    have hs0:=hst.s0;have hsf:=hst.sf;have HQ:=hq_ (ji_ HW.out HS.out hst);rw [<- hobe];refine al_ (F:=fun U=>LRs w ob p (.slice a1 p.head.length c1) (.slice (some ⟨b8,f8,none⟩) p.cycle.length c2) s d U.heap.size (.slice none 0 0) [] U) ⟨Ea hWb _,((HPB.out.below HB.out).below hb3).alloc _,((HRB.out.below HB.out).below hb3).alloc _,by rw [hobe];exact Bxx.at rfl,OwnI.nil _ _,hob2,tq_,Nat.le_refl _⟩ ?_;clear hst hb3 hWb q0 q1 q2 q3 hobe;rintro W4 hLS;have HLS:=hq_ hLS;clear hLS
    go_loopw [8] (fun i wr=>∃ (k2:Nat) (hv:Value),k2≤p.head.length∧i=.int .i64 k2∧LRs w ob p (.slice a1 p.head.length c1) (.slice (some ⟨b8,f8,none⟩) p.cycle.length c2) s d W4.heap.size hv ((p.head.take k2).filter (fun y=>decide (y<s))) wr) (fun i _=>p.head.length-(intOf i).toNat)
    case atStart=>exact ⟨0,_,oq_,rfl,HLS.out⟩
    case round=>
     obtain ⟨k2,hv,hk2,rfl,hst⟩:=hrel;have HST:=hq_ hst;have hown:=hst.own;have q0:=(hst.pb.cells 0).1;have q1:=(hst.pb.cells 1).1;have q2:=(hst.pb.cells 2).1;have q3:=(hst.pb.cells 3).1;have o0:=(hst.obx.cells 0).1;have oz:=(hst.obx.cells 0).2;have o3:=(hst.obx.cells 3).1;have hs2:=hst.o2;have hs3:=hst.o3
     by_cases hlt2:k2<p.head.length
     ·have hlI:(k2:Int)<p.head.length:=oq_;obtain ⟨⟨a',c',he,_,_,h38⟩,hlen8,hrg⟩:=H1.out.ext hst.below;injection he with e1 _ e2
      subst e1;subst e2;rcases h38 with h38|⟨b9,f9,rfl,hcell⟩
      ·rw [h38] at hlt2;simp at hlt2
      have hcl:=hcell k2 hlt2;have hyI:=hrg _ (ah_ hlt2);unfold InI at hyI;have HSU:=hq_ (cl_ (fun y=>decide (y<s)) hlt2);have hll:=List.length_filter_le (fun y=>decide (y<s)) (p.head.take k2);rw [List.length_take] at hll;generalize p.head.getD k2 0=y at *;clear hcell hrg hst
      by_cases hy1:y<s
      ·have d1:decide (y<s)=true:=by simp [hy1]
       go_wp2_with fail
       refine ai_ (w0:=wr) [0,1,2,3,4,5,6,7] [8,9,10] (fun v=>⟨#[perV (.slice (some ⟨b9,f9,none⟩) p.head.length c1) (.slice (some ⟨b8,f8,none⟩) p.cycle.length c2) p.frm p.period,.pointer (some ⟨w.heap.size,0,none⟩),.pointer (some ⟨w.heap.size+1,0,none⟩),undef,.int .i64 d,.int .i64 ↑j,.int .i64 s,.pointer (some ⟨ob,0,none⟩),.int .i64 ↑k2,undef,.pointer (some ⟨w.heap.size,3,none⟩),.slice (some ⟨b8,f8,none⟩) p.cycle.length c2,.int .i64 ↑p.cycle.length,.bool false,undef,undef,undef,undef,undef,undef,undef,undef,undef,undef,undef,undef,undef,undef,undef,undef,undef,undef,undef,.agg #[.slice (some ⟨b9,f9,none⟩) p.head.length c1,.int .i64 p.frm,.int .i64 p.period,.slice (some ⟨b8,f8,none⟩) p.cycle.length c2],.int .i64 d,.int .i64 ↑j,.pointer (some ⟨w.heap.size,3,none⟩),.slice (some ⟨b8,f8,none⟩) p.cycle.length c2,.int .i64 ↑p.cycle.length,.bool true,.bool true,.pointer (some ⟨w.heap.size,3,none⟩),.slice (some ⟨b8,f8,none⟩) p.cycle.length c2,.int .i64 ↑j,.pointer (some ⟨b8,f8+j,none⟩),.int .i64 y0,.int .i64 d,.bool false,.bool false,u49,u50,.agg #[.slice (some ⟨b9,f9,none⟩) p.head.length c1,.int .i64 p.frm,.int .i64 p.period,.slice (some ⟨b8,f8,none⟩) p.cycle.length c2],.int .i64 d,.int .i64 ↑j,.int .i64 s,.int .i64 s,.int .i64 d,.agg #[.slice none 0 0,.int .i64 s,.int .i64 d,.slice none 0 0],.int .i64 ↑k2,.pointer (some ⟨w.heap.size,0,none⟩),.slice (some ⟨b9,f9,none⟩) p.head.length c1,.int .i64 ↑p.head.length,.bool true,u63,u64,.pointer (some ⟨w.heap.size,0,none⟩),.slice (some ⟨b9,f9,none⟩) p.head.length c1,.int .i64 ↑k2,.pointer (some ⟨b9,f9+k2,none⟩),.int .i64 y,.int .i64 s,.bool true,v 0,v 1,v 2,v 3,v 4,v 5,v 6,v 7,u80,u81,undef,undef,undef,undef,undef,undef,undef,undef,undef,undef,undef,undef,undef,undef,undef,undef,undef,undef,undef,undef,undef,undef,undef,undef,undef,undef,undef],[]⟩) [.pointer (some ⟨ob,0,none⟩),hv,.pointer (some ⟨w.heap.size,0,none⟩),.slice (some ⟨b9,f9,none⟩) p.head.length c1,.int .i64 k2,.pointer (some ⟨b9,f9+k2,none⟩),.int .i64 y,undef] [7] (fun i v lo hi W=>match i with|7=>v 7=.slice (some ⟨lo 7,0,none⟩) 1 1∧lo 7<hi 7∧Bxx W (lo 7) #[.int .i64 y] 3|_=>True) (fun W=>W.cell? ⟨w.heap.size,0,none⟩=some (.slice (some ⟨b9,f9,none⟩) p.head.length c1)∧W.cell? ⟨b9,f9+k2,none⟩=some (.int .i64 y)∧W.cell? ⟨ob,0,none⟩=some hv) (fun W9 hb=>⟨cux q0 hb,cux hcl hb,cux o0 hb⟩) ?stab ?loc ?steps ?fin (fun j=>match j with|0=>u72|1=>u73|2=>u74|3=>u75|4=>u76|5=>u77|6=>u78|7=>u79|_=>undef)
       case stab=>
        refine ⟨?_,trivial⟩
        ·intro v lo hi W W' h hb;exact ⟨h.1,h.2.1,h.2.2.below hb⟩
       case loc=>
        refine ⟨?_,trivial⟩
        ·intro v v' lo lo' hi hi' W hag h;have q:=hag 7 (.inl rfl)
         (try dsimp only at h ⊢)
         simp only [q.1,q.2.1,q.2.2] at h;exact h
       case steps=>
        refine .c [] [] rfl ?_ (.c [0] [] rfl ?_ (.c [] [] rfl ?_ (.c [2] [] rfl ?_ (.c [] [] rfl ?_ (.c [3,4] [] rfl ?_ (.c [5] [] rfl ?_ (.c [6] [] rfl ?_ (.n))))))))
        all_goals try exact stw
        ·rintro v lo hi W hb ⟨g0,g1,g2⟩ _;refine .inl ⟨rfl,fun K hK=>?_⟩;simp only [ov,vat,Nat.reduceBEq,cond_true,cond_false];go_wp2_with fail
         exact acx (hK (.slice (some ⟨W.heap.size,0,none⟩) 1 1) _ (Ea (Er _) _) ⟨rfl,sq_,Bxx.new _ _ _⟩) (by simp [ov,vat,upd])
       case fin=>
        rintro v lo hi W2 hb ⟨g0,g1,g2⟩ hf hap;show wpList _ _ _ [_,_,_] _ _;have e1:v 1=hv:=(hf 1 rfl).2.2.2;obtain ⟨l7,m7,n7,e7,lt7,hb7⟩:=hf 7 rfl;have hown1:=hown.ext hb;have hz2:=hb.size;have hnew:W2.cell? ⟨lo 7,0,none⟩=some (.int .i64 y):=(hb7.cells 0).1;clear hf hap g0 g1 g2;dsimp only;rw [e1,e7];generalize lo 7=bn at *;refine aj_ rq_ _ _ rq_ W4.heap.size hv _ y rq_ hown1 _ _ rq_ hnew ⟨oq_,oq_⟩ oq_ oq_ ?_;intro g cap W5 hown2 hgrow hbel;have hbel':Below W4.heap.size wr W5:=(hb.mono hs3).trans hbel;have hqf2:W5.frozen? ⟨ob,0,none⟩=false:=(Below.frozen hbel' (p:=⟨ob,0,none⟩) hs2).trans oz;have hqc2:W5.cell? ⟨ob,0,none⟩=some hv:=Below.cell' hbel' o0 hs2;go_wp2_with fail
        go_roundw
        case rel=>
         refine ⟨k2+1,.slice (some ⟨g,0,none⟩) (((p.head.take k2).filter (fun y=>decide (y<s))).length+1) cap,oq_,by go_num,?_⟩;rw [HSU.out,if_pos d1];exact HST.out.step hbel' hown2
        case measure=>simp [intOf];omega
      ·have d1:decide (y<s)=false:=by simp;omega
       go_wp2_with fail
       go_roundw
       case rel=>
        refine ⟨k2+1,hv,oq_,by go_num,?_⟩;rw [HSU.out,if_neg (by rw [d1];simp),List.append_nil];exact HST.out
       case measure=>simp [intOf];omega
     ·obtain rfl:k2=p.head.length:=oq_;rw [List.take_length] at HST hown;obtain ⟨hl,hhl⟩:∃ hl,hl=p.head.filter (fun y=>decide (y<s)):=⟨_,rfl⟩;rw [<- hhl] at HST hown HQ;obtain ⟨a9,c9,rfl⟩:=hown.form;have hst0:=HST.out;have HLC:Hid (LC w ob p (.slice a1 p.head.length c1) (.slice (some ⟨b8,f8,none⟩) p.cycle.length c2) s d W4.heap.size wr.heap.size (.slice a9 hl.length c9) hl wr.heap.size (.slice none 0 0) [] wr):=
       hq_ ⟨hst0.below,hst0.pb,hst0.rb,hst0.obx,OwnI.nil _ _,hown.oin,hst0.o1,oq_,Nat.le_refl _,.inl hs2,Nat.le_refl _,by have:=hst0.o1;omega⟩
      have hwz:=hst0.o1;clear hst hst0 hhl hown;go_upto_region 18 with (fail)
      clear o0 o3 oz q0 q1 q2 q3;generalize wr.heap.size=B5 at *
      go_loopw [9] (fun i wq=>∃ (k3:Nat) (cyv:Value),k3≤j∧i=.int .i64 k3∧LC w ob p (.slice a1 p.head.length c1) (.slice (some ⟨b8,f8,none⟩) p.cycle.length c2) s d W4.heap.size B5 (.slice a9 hl.length c9) hl B5 cyv (((p.cycle.take j).take k3).map fun c=>(p.frm+c-s) % d) wq) (fun i _=>j-(intOf i).toNat)
      case atStart=>exact ⟨0,_,oq_,rfl,HLC.out⟩
      case round=>
       obtain ⟨k3,cyv,hk3,rfl,hTw⟩:=hrel;have HTW:=hq_ hTw;have q0:=(hTw.pb.cells 0).1;have q1:=(hTw.pb.cells 1).1;have q3:=(hTw.pb.cells 3).1;have o0:=(hTw.obx.cells 0).1;have o1:=(hTw.obx.cells 1).1;have o2:=(hTw.obx.cells 2).1;have o3:=(hTw.obx.cells 3).1;have oz:=(hTw.obx.cells 3).2;have hs5:=hTw.o2;have hs6:=hTw.o3;have hown:=hTw.own
       by_cases hlt3:k3<j
       ·have hlI:(k3:Int)<j:=oq_;have hlt4:k3<p.cycle.length:=oq_;have hcl:=Ext.cell hTw.below (HCELL.out k3 hlt4);have hyb:=HW.out.cyc.2 _ (ah_ hlt4);have htk:(((p.cycle.take j).take (k3+1)).map fun c=>(p.frm+c-s) % d)=(((p.cycle.take j).take k3).map fun c=>(p.frm+c-s) % d) ++ [(p.frm+p.cycle.getD k3 0-s) % d]:=by
         have h4:k3<(p.cycle.take j).length:=by simp;omega
         rw [d3_ h4,List.map_append];rw [List.getD_eq_getElem?_getD,List.getElem?_take,if_pos hlt3,<- List.getD_eq_getElem?_getD];rfl
        have HTK:=hq_ htk;generalize p.cycle.getD k3 0=y at *;have hlen:(((p.cycle.take j).take k3).map fun c=>(p.frm+c-s) % d).length=k3:=by simp;omega
        have HLEN:=hq_ hlen;have hz0:=Int.emod_nonneg (p.frm+y-s) (show d≠0 by omega);have hz1':=Int.emod_lt_of_pos (p.frm+y-s) (show 0<d by omega);obtain ⟨z,hz⟩:∃ z,z=(p.frm+y-s) % d:=⟨_,rfl⟩;rw [<- hz] at hz0 hz1' HTK;have htm:(p.frm+y-s).tmod d=z:=by rw [Int.tmod_eq_emod_of_nonneg oq_];exact hz.symm
        have hdz:¬ d=0:=oq_;clear hTw htk hlen hz;go_wp2_with fail
        refine ai_ (w0:=wr) [0,1,2,3,4,5,6,7,8,9,10,11,12,13,14] [15,16,17] (fun v=>⟨#[perV (.slice a1 p.head.length c1) (.slice (some ⟨b8,f8,none⟩) p.cycle.length c2) p.frm p.period,.pointer (some ⟨w.heap.size,0,none⟩),.pointer (some ⟨w.heap.size+1,0,none⟩),undef,.int .i64 d,.int .i64 ↑j,.int .i64 s,.pointer (some ⟨ob,0,none⟩),.int .i64 ↑p.head.length,.int .i64 ↑k3,.pointer (some ⟨w.heap.size,3,none⟩),.slice (some ⟨b8,f8,none⟩) p.cycle.length c2,.int .i64 ↑p.cycle.length,.bool false,undef,undef,undef,undef,undef,undef,undef,undef,undef,undef,undef,undef,undef,undef,undef,undef,undef,undef,undef,.agg #[.slice a1 p.head.length c1,.int .i64 p.frm,.int .i64 p.period,.slice (some ⟨b8,f8,none⟩) p.cycle.length c2],.int .i64 d,.int .i64 ↑j,.pointer (some ⟨w.heap.size,3,none⟩),.slice (some ⟨b8,f8,none⟩) p.cycle.length c2,.int .i64 ↑p.cycle.length,.bool true,.bool true,.pointer (some ⟨w.heap.size,3,none⟩),.slice (some ⟨b8,f8,none⟩) p.cycle.length c2,.int .i64 ↑j,.pointer (some ⟨b8,f8+j,none⟩),.int .i64 y0,.int .i64 d,.bool false,.bool false,u49,u50,.agg #[.slice a1 p.head.length c1,.int .i64 p.frm,.int .i64 p.period,.slice (some ⟨b8,f8,none⟩) p.cycle.length c2],.int .i64 d,.int .i64 ↑j,.int .i64 s,.int .i64 s,.int .i64 d,.agg #[.slice none 0 0,.int .i64 s,.int .i64 d,.slice none 0 0],.int .i64 ↑p.head.length,.pointer (some ⟨w.heap.size,0,none⟩),.slice a1 p.head.length c1,.int .i64 ↑p.head.length,.bool false,u63,u64,u65,u66,u67,u68,u69,u70,u71,u72,u73,u74,u75,u76,u77,u78,u79,u80,u81,.int .i64 ↑k3,.int .i64 ↑j,.bool true,u85,u86,v 0,v 1,v 2,v 3,v 4,v 5,v 6,v 7,v 8,v 9,v 10,v 11,v 12,v 13,v 14,u102,u103,undef,undef,undef,undef,undef],[]⟩) [.pointer (some ⟨ob,3,none⟩),cyv,.pointer (some ⟨w.heap.size,1,none⟩),.int .i64 p.frm,.pointer (some ⟨w.heap.size,3,none⟩),.slice (some ⟨b8,f8,none⟩) p.cycle.length c2,.int .i64 k3,.pointer (some ⟨b8,f8+k3,none⟩),.int .i64 y,.int .i64 (p.frm+y),.int .i64 s,.int .i64 (p.frm+y-s),.int .i64 d,.int .i64 z,undef] [14] (fun i v lo hi W=>match i with|14=>v 14=.slice (some ⟨lo 14,0,none⟩) 1 1∧lo 14<hi 14∧Bxx W (lo 14) #[.int .i64 z] 3|_=>True) (fun W=>W.cell? ⟨w.heap.size,1,none⟩=some (.int .i64 p.frm)∧W.cell? ⟨w.heap.size,3,none⟩=some (.slice (some ⟨b8,f8,none⟩) p.cycle.length c2)∧W.cell? ⟨b8,f8+k3,none⟩=some (.int .i64 y)∧W.cell? ⟨ob,3,none⟩=some cyv) (fun W9 hb=>⟨cux q1 hb,cux q3 hb,cux hcl hb,cux o3 hb⟩) ?stab ?loc ?steps ?fin (fun j=>match j with|0=>u87|1=>u88|2=>u89|3=>u90|4=>u91|5=>u92|6=>u93|7=>u94|8=>u95|9=>u96|10=>u97|11=>u98|12=>u99|13=>u100|14=>u101|_=>undef)
        case stab=>
         refine ⟨?_,trivial⟩
         ·intro v lo hi W W' h hb;exact ⟨h.1,h.2.1,h.2.2.below hb⟩
        case loc=>
         refine ⟨?_,trivial⟩
         ·intro v v' lo lo' hi hi' W hag h;have q:=hag 14 (.inl rfl)
          (try dsimp only at h ⊢)
          simp only [q.1,q.2.1,q.2.2] at h;exact h
        case steps=>
         refine .c [] [] rfl ?_ (.c [0] [] rfl ?_ (.c [] [] rfl ?_ (.c [2] [] rfl ?_ (.c [] [] rfl ?_ (.c [4] [] rfl ?_ (.c [] [] rfl ?_ (.c [5,6] [] rfl ?_ (.c [7] [] rfl ?_ (.c [3,8] [] rfl ?_ (.c [] [] rfl ?_ (.c [9,10] [] rfl ?_ (.c [] [] rfl ?_ (.c [11,12] [] rfl ?_ (.c [13] [] rfl ?_ (.n)))))))))))))))
         all_goals try exact stw
         ·rintro v lo hi W hb ⟨g0,g1,g2,g3⟩ _;refine .inl ⟨rfl,fun K hK=>?_⟩;simp only [ov,vat,Nat.reduceBEq,cond_true,cond_false];go_wp2_with fail
          exact acx (hK (.slice (some ⟨W.heap.size,0,none⟩) 1 1) _ (Ea (Er _) _) ⟨rfl,sq_,Bxx.new _ _ _⟩) (by simp [ov,vat,upd])
        case fin=>
         rintro v lo hi W2 hb ⟨g0,g1,g2,g3⟩ hf hap;show wpList _ _ _ [_,_,_] _ _;have e1:v 1=cyv:=(hf 1 rfl).2.2.2;obtain ⟨l9,m9,n9,e9,lt9,hb9⟩:=hf 14 rfl;have hown1:=hown.ext hb;have hz2:=hb.size;have hnew:W2.cell? ⟨lo 14,0,none⟩=some (.int .i64 z):=(hb9.cells 0).1;clear hf hap g0 g1 g2 g3;dsimp only;rw [e1,e9];generalize lo 14=bn at *;refine aj_ rq_ _ _ rq_ B5 cyv _ z rq_ hown1 _ _ rq_ hnew ⟨oq_,oq_⟩ (by rw [HLEN.out];omega) oq_ ?_;intro g cap W5 hown2 hgrow hbel;rw [HLEN.out] at hown2 ⊢;have hbel':Below B5 wr W5:=(hb.mono hs6).trans hbel;have hqf2:W5.frozen? ⟨ob,3,none⟩=false:=(Below.frozen hbel' (p:=⟨ob,3,none⟩) hs5).trans oz;have hqc2:W5.cell? ⟨ob,3,none⟩=some cyv:=Below.cell' hbel' o3 hs5;go_wp2_with fail
         go_roundw
         case rel=>
          refine ⟨k3+1,.slice (some ⟨g,0,none⟩) (k3+1) cap,oq_,by go_num,?_⟩;rw [HTK.out];exact HTW.out.step hbel' hown2
         case measure=>simp [intOf];omega
       ·obtain rfl:k3=j:=oq_;rw [List.take_take,Nat.min_self] at hown HTW;obtain ⟨cl,hcl⟩:∃ cl,cl=(p.cycle.take k3).map fun c=>(p.frm+c-s) % d:=⟨_,rfl⟩;have hnd:cl.Nodup:=by rw [hcl];exact h0_ HS.out.rise
        rw [<- hcl] at hown HTW HQ;have HND:=hq_ hnd;have HCL:=hq_ hcl;obtain ⟨m8,c8,rfl⟩:=hown.form;have hoc:=hown.ints;have HOC:=hq_ hoc;have hrb2:=HTW.out.rb;have hob9:=HTW.out.obx;have HRB2:=hq_ hrb2;have HOB9:=hq_ hob9;have hhd:=HTW.out.hd;have HHD:=hq_ hhd;have hbW:=HTW.out.below;have HBW:=hq_ hbW;have o6:=HTW.out.o6;have o5:=HTW.out.o5;clear hnd hcl hown hoc hTw hhd hrb2 hob9 hbW;have o5':ob<wr.heap.size:=oq_;have o6':w.heap.size+1<wr.heap.size:=oq_;have r0:=(HRB2.out.cells 0);have r1:=(HRB2.out.cells 1);have r2:=(HRB2.out.cells 2);have r3:=(HRB2.out.cells 3);go_wp2_with (go_at_call 172;refine (jf_ _ cl _ (HOC.out.ext xE) HND.out).mono ?_;rintro e W6 ⟨sv,rfl,hown6,hb6⟩;obtain ⟨ya,yc,rfl⟩:=hown6.form;have HOWN6:=hq_ hown6;clear hown6;have x6:W6.frozen? ⟨ob,3,none⟩=false:=(Below.frozen hb6 (p:=⟨ob,3,none⟩) o5').trans oz;have y0:W6.cell? ⟨ob,0,none⟩=some (.slice a9 hl.length c9):=Below.cell' hb6 o0 o5';have y1:W6.cell? ⟨ob,1,none⟩=some (.int .i64 s):=Below.cell' hb6 o1 o5';have y2:W6.cell? ⟨ob,2,none⟩=some (.int .i64 d):=Below.cell' hb6 o2 o5';have y3:W6.cell? ⟨ob,3,none⟩=some (.slice m8 cl.length c8):=Below.cell' hb6 o3 o5';have z0:=((HRB2.out.upto hb6 o6').cells 0);have z1:=((HRB2.out.upto hb6 o6').cells 1);have z2:=((HRB2.out.upto hb6 o6').cells 2);have z3:=((HRB2.out.upto hb6 o6').cells 3);have zl:=(HRB2.out.upto hb6 o6').lt)
        have hbW:=HBW.out;have hb6z:=hb6.size;refine bodyPost_ret (v:=.agg #[.slice a9 hl.length c9,.int .i64 s,.int .i64 d,.slice ya (a0_ cl).length yc]) (by simp [results,Tryz.results138,go_sem, *]) rfl ⟨_,_,⟨hl,s,d,a0_ cl⟩,rfl,HQ.out,⟨?_,?_⟩,xE⟩
        ·have h1:bo_ _ _ _ (.slice a9 hl.length c9) hl:=(((((HHD.out.below hb6 oq_).set (b:=ob) (i:=3) (.slice ya (a0_ cl).length yc) oq_).set (b:=w.heap.size+1) (i:=0) (.slice a9 hl.length c9) oq_).set (b:=w.heap.size+1) (i:=1) (.int .i64 s) oq_).set (b:=w.heap.size+1) (i:=2) (.int .i64 d) oq_).set (b:=w.heap.size+1) (i:=3) (.slice ya (a0_ cl).length yc) oq_;exact h1.own.mono (base':=w.heap.size) oq_
        ·have h1:bo_ _ _ _ (.slice ya (a0_ cl).length yc) (a0_ cl):=(((((HOWN6.out.oin).set (b:=ob) (i:=3) (.slice ya (a0_ cl).length yc) oq_).set (b:=w.heap.size+1) (i:=0) (.slice a9 hl.length c9) oq_).set (b:=w.heap.size+1) (i:=1) (.int .i64 s) oq_).set (b:=w.heap.size+1) (i:=2) (.int .i64 d) oq_).set (b:=w.heap.size+1) (i:=3) (.slice ya (a0_ cl).length yc) oq_;exact h1.own.mono (base':=w.heap.size) oq_
   ·have hlI:¬ (j:Int)<p.cycle.length:=oq_;go_upto_region 13 with (go_at_call 171;refine (l2_ _ _ p d j _ (HP.out.ext (by have hE:=HE.out;have hb:=HB.out;exact xE)) HW.out h1 h2 HS.out hk1 hkn).mono ?_;rintro e W3 ⟨s,m,rfl,hst,hb3⟩)
    have hWb:Below w.heap.size w W3:=by have hE:=HE.out;have hb:=HB.out;exact xE
    obtain ⟨ob,hobe⟩:∃ ob,ob=W3.heap.size:=⟨_,rfl⟩;have hob2:w.heap.size+1<ob:=by have h7:=hb3.size;have h8:=HB.out.size;omega
    have hs0:=hst.s0;have hsf:=hst.sf;have HQ:=hq_ (ji_ HW.out HS.out hst);rw [<- hobe];refine al_ (F:=fun U=>LRs w ob p (.slice a1 p.head.length c1) (.slice (some ⟨b8,f8,none⟩) p.cycle.length c2) s d U.heap.size (.slice none 0 0) [] U) ⟨Ea hWb _,((HPB.out.below HB.out).below hb3).alloc _,((HRB.out.below HB.out).below hb3).alloc _,by rw [hobe];exact Bxx.at rfl,OwnI.nil _ _,hob2,tq_,Nat.le_refl _⟩ ?_;clear hst hb3 hWb q0 q1 q2 q3 hobe;rintro W4 hLS;have HLS:=hq_ hLS;clear hLS
    go_loopw [8] (fun i wr=>∃ (k2:Nat) (hv:Value),k2≤p.head.length∧i=.int .i64 k2∧LRs w ob p (.slice a1 p.head.length c1) (.slice (some ⟨b8,f8,none⟩) p.cycle.length c2) s d W4.heap.size hv ((p.head.take k2).filter (fun y=>decide (y<s))) wr) (fun i _=>p.head.length-(intOf i).toNat)
    case atStart=>exact ⟨0,_,oq_,rfl,HLS.out⟩
    case round=>
     obtain ⟨k2,hv,hk2,rfl,hst⟩:=hrel;have HST:=hq_ hst;have hown:=hst.own;have q0:=(hst.pb.cells 0).1;have q1:=(hst.pb.cells 1).1;have q2:=(hst.pb.cells 2).1;have q3:=(hst.pb.cells 3).1;have o0:=(hst.obx.cells 0).1;have oz:=(hst.obx.cells 0).2;have o3:=(hst.obx.cells 3).1;have hs2:=hst.o2;have hs3:=hst.o3
     by_cases hlt2:k2<p.head.length
     ·have hlI:(k2:Int)<p.head.length:=oq_;obtain ⟨⟨a',c',he,_,_,h38⟩,hlen8,hrg⟩:=H1.out.ext hst.below;injection he with e1 _ e2
      subst e1;subst e2;rcases h38 with h38|⟨b9,f9,rfl,hcell⟩
      ·rw [h38] at hlt2;simp at hlt2
      have hcl:=hcell k2 hlt2;have hyI:=hrg _ (ah_ hlt2);unfold InI at hyI;have HSU:=hq_ (cl_ (fun y=>decide (y<s)) hlt2);have hll:=List.length_filter_le (fun y=>decide (y<s)) (p.head.take k2);rw [List.length_take] at hll;generalize p.head.getD k2 0=y at *;clear hcell hrg hst
      by_cases hy1:y<s
      ·have d1:decide (y<s)=true:=by simp [hy1]
       go_wp2_with fail
       refine ai_ (w0:=wr) [0,1,2,3,4,5,6,7] [8,9,10] (fun v=>⟨#[perV (.slice (some ⟨b9,f9,none⟩) p.head.length c1) (.slice (some ⟨b8,f8,none⟩) p.cycle.length c2) p.frm p.period,.pointer (some ⟨w.heap.size,0,none⟩),.pointer (some ⟨w.heap.size+1,0,none⟩),undef,.int .i64 d,.int .i64 ↑j,.int .i64 s,.pointer (some ⟨ob,0,none⟩),.int .i64 ↑k2,undef,.pointer (some ⟨w.heap.size,3,none⟩),.slice (some ⟨b8,f8,none⟩) p.cycle.length c2,.int .i64 ↑p.cycle.length,.bool false,undef,undef,undef,undef,undef,undef,undef,undef,undef,undef,undef,undef,undef,undef,undef,undef,undef,undef,undef,.agg #[.slice (some ⟨b9,f9,none⟩) p.head.length c1,.int .i64 p.frm,.int .i64 p.period,.slice (some ⟨b8,f8,none⟩) p.cycle.length c2],.int .i64 d,.int .i64 ↑j,.pointer (some ⟨w.heap.size,3,none⟩),.slice (some ⟨b8,f8,none⟩) p.cycle.length c2,.int .i64 ↑p.cycle.length,.bool false,.bool false,undef,undef,undef,undef,undef,undef,undef,.bool false,u49,u50,.agg #[.slice (some ⟨b9,f9,none⟩) p.head.length c1,.int .i64 p.frm,.int .i64 p.period,.slice (some ⟨b8,f8,none⟩) p.cycle.length c2],.int .i64 d,.int .i64 ↑j,.int .i64 s,.int .i64 s,.int .i64 d,.agg #[.slice none 0 0,.int .i64 s,.int .i64 d,.slice none 0 0],.int .i64 ↑k2,.pointer (some ⟨w.heap.size,0,none⟩),.slice (some ⟨b9,f9,none⟩) p.head.length c1,.int .i64 ↑p.head.length,.bool true,u63,u64,.pointer (some ⟨w.heap.size,0,none⟩),.slice (some ⟨b9,f9,none⟩) p.head.length c1,.int .i64 ↑k2,.pointer (some ⟨b9,f9+k2,none⟩),.int .i64 y,.int .i64 s,.bool true,v 0,v 1,v 2,v 3,v 4,v 5,v 6,v 7,u80,u81,undef,undef,undef,undef,undef,undef,undef,undef,undef,undef,undef,undef,undef,undef,undef,undef,undef,undef,undef,undef,undef,undef,undef,undef,undef,undef,undef],[]⟩) [.pointer (some ⟨ob,0,none⟩),hv,.pointer (some ⟨w.heap.size,0,none⟩),.slice (some ⟨b9,f9,none⟩) p.head.length c1,.int .i64 k2,.pointer (some ⟨b9,f9+k2,none⟩),.int .i64 y,undef] [7] (fun i v lo hi W=>match i with|7=>v 7=.slice (some ⟨lo 7,0,none⟩) 1 1∧lo 7<hi 7∧Bxx W (lo 7) #[.int .i64 y] 3|_=>True) (fun W=>W.cell? ⟨w.heap.size,0,none⟩=some (.slice (some ⟨b9,f9,none⟩) p.head.length c1)∧W.cell? ⟨b9,f9+k2,none⟩=some (.int .i64 y)∧W.cell? ⟨ob,0,none⟩=some hv) (fun W9 hb=>⟨cux q0 hb,cux hcl hb,cux o0 hb⟩) ?stab ?loc ?steps ?fin (fun j=>match j with|0=>u72|1=>u73|2=>u74|3=>u75|4=>u76|5=>u77|6=>u78|7=>u79|_=>undef)
       case stab=>
        refine ⟨?_,trivial⟩
        ·intro v lo hi W W' h hb;exact ⟨h.1,h.2.1,h.2.2.below hb⟩
       case loc=>
        refine ⟨?_,trivial⟩
        ·intro v v' lo lo' hi hi' W hag h;have q:=hag 7 (.inl rfl)
         (try dsimp only at h ⊢)
         simp only [q.1,q.2.1,q.2.2] at h;exact h
       case steps=>
        refine .c [] [] rfl ?_ (.c [0] [] rfl ?_ (.c [] [] rfl ?_ (.c [2] [] rfl ?_ (.c [] [] rfl ?_ (.c [3,4] [] rfl ?_ (.c [5] [] rfl ?_ (.c [6] [] rfl ?_ (.n))))))))
        all_goals try exact stw
        ·rintro v lo hi W hb ⟨g0,g1,g2⟩ _;refine .inl ⟨rfl,fun K hK=>?_⟩;simp only [ov,vat,Nat.reduceBEq,cond_true,cond_false];go_wp2_with fail
         exact acx (hK (.slice (some ⟨W.heap.size,0,none⟩) 1 1) _ (Ea (Er _) _) ⟨rfl,sq_,Bxx.new _ _ _⟩) (by simp [ov,vat,upd])
       case fin=>
        rintro v lo hi W2 hb ⟨g0,g1,g2⟩ hf hap;show wpList _ _ _ [_,_,_] _ _;have e1:v 1=hv:=(hf 1 rfl).2.2.2;obtain ⟨l7,m7,n7,e7,lt7,hb7⟩:=hf 7 rfl;have hown1:=hown.ext hb;have hz2:=hb.size;have hnew:W2.cell? ⟨lo 7,0,none⟩=some (.int .i64 y):=(hb7.cells 0).1;clear hf hap g0 g1 g2;dsimp only;rw [e1,e7];generalize lo 7=bn at *;refine aj_ rq_ _ _ rq_ W4.heap.size hv _ y rq_ hown1 _ _ rq_ hnew ⟨oq_,oq_⟩ oq_ oq_ ?_;intro g cap W5 hown2 hgrow hbel;have hbel':Below W4.heap.size wr W5:=(hb.mono hs3).trans hbel;have hqf2:W5.frozen? ⟨ob,0,none⟩=false:=(Below.frozen hbel' (p:=⟨ob,0,none⟩) hs2).trans oz;have hqc2:W5.cell? ⟨ob,0,none⟩=some hv:=Below.cell' hbel' o0 hs2;go_wp2_with fail
        go_roundw
        case rel=>
         refine ⟨k2+1,.slice (some ⟨g,0,none⟩) (((p.head.take k2).filter (fun y=>decide (y<s))).length+1) cap,oq_,by go_num,?_⟩;rw [HSU.out,if_pos d1];exact HST.out.step hbel' hown2
        case measure=>simp [intOf];omega
      ·have d1:decide (y<s)=false:=by simp;omega
       go_wp2_with fail
       go_roundw
       case rel=>
        refine ⟨k2+1,hv,oq_,by go_num,?_⟩;rw [HSU.out,if_neg (by rw [d1];simp),List.append_nil];exact HST.out
       case measure=>simp [intOf];omega
     ·obtain rfl:k2=p.head.length:=oq_;rw [List.take_length] at HST hown;obtain ⟨hl,hhl⟩:∃ hl,hl=p.head.filter (fun y=>decide (y<s)):=⟨_,rfl⟩;rw [<- hhl] at HST hown HQ;obtain ⟨a9,c9,rfl⟩:=hown.form;have hst0:=HST.out;have HLC:Hid (LC w ob p (.slice a1 p.head.length c1) (.slice (some ⟨b8,f8,none⟩) p.cycle.length c2) s d W4.heap.size wr.heap.size (.slice a9 hl.length c9) hl wr.heap.size (.slice none 0 0) [] wr):=
       hq_ ⟨hst0.below,hst0.pb,hst0.rb,hst0.obx,OwnI.nil _ _,hown.oin,hst0.o1,oq_,Nat.le_refl _,.inl hs2,Nat.le_refl _,by have:=hst0.o1;omega⟩
      have hwz:=hst0.o1;clear hst hst0 hhl hown;go_upto_region 18 with (fail)
      clear o0 o3 oz q0 q1 q2 q3;generalize wr.heap.size=B5 at *
      go_loopw [9] (fun i wq=>∃ (k3:Nat) (cyv:Value),k3≤j∧i=.int .i64 k3∧LC w ob p (.slice a1 p.head.length c1) (.slice (some ⟨b8,f8,none⟩) p.cycle.length c2) s d W4.heap.size B5 (.slice a9 hl.length c9) hl B5 cyv (((p.cycle.take j).take k3).map fun c=>(p.frm+c-s) % d) wq) (fun i _=>j-(intOf i).toNat)
      case atStart=>exact ⟨0,_,oq_,rfl,HLC.out⟩
      case round=>
       obtain ⟨k3,cyv,hk3,rfl,hTw⟩:=hrel;have HTW:=hq_ hTw;have q0:=(hTw.pb.cells 0).1;have q1:=(hTw.pb.cells 1).1;have q3:=(hTw.pb.cells 3).1;have o0:=(hTw.obx.cells 0).1;have o1:=(hTw.obx.cells 1).1;have o2:=(hTw.obx.cells 2).1;have o3:=(hTw.obx.cells 3).1;have oz:=(hTw.obx.cells 3).2;have hs5:=hTw.o2;have hs6:=hTw.o3;have hown:=hTw.own
       by_cases hlt3:k3<j
       ·have hlI:(k3:Int)<j:=oq_;have hlt4:k3<p.cycle.length:=oq_;have hcl:=Ext.cell hTw.below (HCELL.out k3 hlt4);have hyb:=HW.out.cyc.2 _ (ah_ hlt4);have htk:(((p.cycle.take j).take (k3+1)).map fun c=>(p.frm+c-s) % d)=(((p.cycle.take j).take k3).map fun c=>(p.frm+c-s) % d) ++ [(p.frm+p.cycle.getD k3 0-s) % d]:=by
         have h4:k3<(p.cycle.take j).length:=by simp;omega
         rw [d3_ h4,List.map_append];rw [List.getD_eq_getElem?_getD,List.getElem?_take,if_pos hlt3,<- List.getD_eq_getElem?_getD];rfl
        have HTK:=hq_ htk;generalize p.cycle.getD k3 0=y at *;have hlen:(((p.cycle.take j).take k3).map fun c=>(p.frm+c-s) % d).length=k3:=by simp;omega
        have HLEN:=hq_ hlen;have hz0:=Int.emod_nonneg (p.frm+y-s) (show d≠0 by omega);have hz1':=Int.emod_lt_of_pos (p.frm+y-s) (show 0<d by omega);obtain ⟨z,hz⟩:∃ z,z=(p.frm+y-s) % d:=⟨_,rfl⟩;rw [<- hz] at hz0 hz1' HTK;have htm:(p.frm+y-s).tmod d=z:=by rw [Int.tmod_eq_emod_of_nonneg oq_];exact hz.symm
        have hdz:¬ d=0:=oq_;clear hTw htk hlen hz;go_wp2_with fail
        refine ai_ (w0:=wr) [0,1,2,3,4,5,6,7,8,9,10,11,12,13,14] [15,16,17] (fun v=>⟨#[perV (.slice a1 p.head.length c1) (.slice (some ⟨b8,f8,none⟩) p.cycle.length c2) p.frm p.period,.pointer (some ⟨w.heap.size,0,none⟩),.pointer (some ⟨w.heap.size+1,0,none⟩),undef,.int .i64 d,.int .i64 ↑j,.int .i64 s,.pointer (some ⟨ob,0,none⟩),.int .i64 ↑p.head.length,.int .i64 ↑k3,.pointer (some ⟨w.heap.size,3,none⟩),.slice (some ⟨b8,f8,none⟩) p.cycle.length c2,.int .i64 ↑p.cycle.length,.bool false,undef,undef,undef,undef,undef,undef,undef,undef,undef,undef,undef,undef,undef,undef,undef,undef,undef,undef,undef,.agg #[.slice a1 p.head.length c1,.int .i64 p.frm,.int .i64 p.period,.slice (some ⟨b8,f8,none⟩) p.cycle.length c2],.int .i64 d,.int .i64 ↑j,.pointer (some ⟨w.heap.size,3,none⟩),.slice (some ⟨b8,f8,none⟩) p.cycle.length c2,.int .i64 ↑p.cycle.length,.bool false,.bool false,undef,undef,undef,undef,undef,undef,undef,.bool false,u49,u50,.agg #[.slice a1 p.head.length c1,.int .i64 p.frm,.int .i64 p.period,.slice (some ⟨b8,f8,none⟩) p.cycle.length c2],.int .i64 d,.int .i64 ↑j,.int .i64 s,.int .i64 s,.int .i64 d,.agg #[.slice none 0 0,.int .i64 s,.int .i64 d,.slice none 0 0],.int .i64 ↑p.head.length,.pointer (some ⟨w.heap.size,0,none⟩),.slice a1 p.head.length c1,.int .i64 ↑p.head.length,.bool false,u63,u64,u65,u66,u67,u68,u69,u70,u71,u72,u73,u74,u75,u76,u77,u78,u79,u80,u81,.int .i64 ↑k3,.int .i64 ↑j,.bool true,u85,u86,v 0,v 1,v 2,v 3,v 4,v 5,v 6,v 7,v 8,v 9,v 10,v 11,v 12,v 13,v 14,u102,u103,undef,undef,undef,undef,undef],[]⟩) [.pointer (some ⟨ob,3,none⟩),cyv,.pointer (some ⟨w.heap.size,1,none⟩),.int .i64 p.frm,.pointer (some ⟨w.heap.size,3,none⟩),.slice (some ⟨b8,f8,none⟩) p.cycle.length c2,.int .i64 k3,.pointer (some ⟨b8,f8+k3,none⟩),.int .i64 y,.int .i64 (p.frm+y),.int .i64 s,.int .i64 (p.frm+y-s),.int .i64 d,.int .i64 z,undef] [14] (fun i v lo hi W=>match i with|14=>v 14=.slice (some ⟨lo 14,0,none⟩) 1 1∧lo 14<hi 14∧Bxx W (lo 14) #[.int .i64 z] 3|_=>True) (fun W=>W.cell? ⟨w.heap.size,1,none⟩=some (.int .i64 p.frm)∧W.cell? ⟨w.heap.size,3,none⟩=some (.slice (some ⟨b8,f8,none⟩) p.cycle.length c2)∧W.cell? ⟨b8,f8+k3,none⟩=some (.int .i64 y)∧W.cell? ⟨ob,3,none⟩=some cyv) (fun W9 hb=>⟨cux q1 hb,cux q3 hb,cux hcl hb,cux o3 hb⟩) ?stab ?loc ?steps ?fin (fun j=>match j with|0=>u87|1=>u88|2=>u89|3=>u90|4=>u91|5=>u92|6=>u93|7=>u94|8=>u95|9=>u96|10=>u97|11=>u98|12=>u99|13=>u100|14=>u101|_=>undef)
        case stab=>
         refine ⟨?_,trivial⟩
         ·intro v lo hi W W' h hb;exact ⟨h.1,h.2.1,h.2.2.below hb⟩
        case loc=>
         refine ⟨?_,trivial⟩
         ·intro v v' lo lo' hi hi' W hag h;have q:=hag 14 (.inl rfl)
          (try dsimp only at h ⊢)
          simp only [q.1,q.2.1,q.2.2] at h;exact h
        case steps=>
         refine .c [] [] rfl ?_ (.c [0] [] rfl ?_ (.c [] [] rfl ?_ (.c [2] [] rfl ?_ (.c [] [] rfl ?_ (.c [4] [] rfl ?_ (.c [] [] rfl ?_ (.c [5,6] [] rfl ?_ (.c [7] [] rfl ?_ (.c [3,8] [] rfl ?_ (.c [] [] rfl ?_ (.c [9,10] [] rfl ?_ (.c [] [] rfl ?_ (.c [11,12] [] rfl ?_ (.c [13] [] rfl ?_ (.n)))))))))))))))
         all_goals try exact stw
         ·rintro v lo hi W hb ⟨g0,g1,g2,g3⟩ _;refine .inl ⟨rfl,fun K hK=>?_⟩;simp only [ov,vat,Nat.reduceBEq,cond_true,cond_false];go_wp2_with fail
          exact acx (hK (.slice (some ⟨W.heap.size,0,none⟩) 1 1) _ (Ea (Er _) _) ⟨rfl,sq_,Bxx.new _ _ _⟩) (by simp [ov,vat,upd])
        case fin=>
         rintro v lo hi W2 hb ⟨g0,g1,g2,g3⟩ hf hap;show wpList _ _ _ [_,_,_] _ _;have e1:v 1=cyv:=(hf 1 rfl).2.2.2;obtain ⟨l9,m9,n9,e9,lt9,hb9⟩:=hf 14 rfl;have hown1:=hown.ext hb;have hz2:=hb.size;have hnew:W2.cell? ⟨lo 14,0,none⟩=some (.int .i64 z):=(hb9.cells 0).1;clear hf hap g0 g1 g2 g3;dsimp only;rw [e1,e9];generalize lo 14=bn at *;refine aj_ rq_ _ _ rq_ B5 cyv _ z rq_ hown1 _ _ rq_ hnew ⟨oq_,oq_⟩ (by rw [HLEN.out];omega) oq_ ?_;intro g cap W5 hown2 hgrow hbel;rw [HLEN.out] at hown2 ⊢;have hbel':Below B5 wr W5:=(hb.mono hs6).trans hbel;have hqf2:W5.frozen? ⟨ob,3,none⟩=false:=(Below.frozen hbel' (p:=⟨ob,3,none⟩) hs5).trans oz;have hqc2:W5.cell? ⟨ob,3,none⟩=some cyv:=Below.cell' hbel' o3 hs5;go_wp2_with fail
         go_roundw
         case rel=>
          refine ⟨k3+1,.slice (some ⟨g,0,none⟩) (k3+1) cap,oq_,by go_num,?_⟩;rw [HTK.out];exact HTW.out.step hbel' hown2
         case measure=>simp [intOf];omega
       ·obtain rfl:k3=j:=oq_;rw [List.take_take,Nat.min_self] at hown HTW;obtain ⟨cl,hcl⟩:∃ cl,cl=(p.cycle.take k3).map fun c=>(p.frm+c-s) % d:=⟨_,rfl⟩;have hnd:cl.Nodup:=by rw [hcl];exact h0_ HS.out.rise
        rw [<- hcl] at hown HTW HQ;have HND:=hq_ hnd;have HCL:=hq_ hcl;obtain ⟨m8,c8,rfl⟩:=hown.form;have hoc:=hown.ints;have HOC:=hq_ hoc;have hrb2:=HTW.out.rb;have hob9:=HTW.out.obx;have HRB2:=hq_ hrb2;have HOB9:=hq_ hob9;have hhd:=HTW.out.hd;have HHD:=hq_ hhd;have hbW:=HTW.out.below;have HBW:=hq_ hbW;have o6:=HTW.out.o6;have o5:=HTW.out.o5;clear hnd hcl hown hoc hTw hhd hrb2 hob9 hbW;have o5':ob<wr.heap.size:=oq_;have o6':w.heap.size+1<wr.heap.size:=oq_;have r0:=(HRB2.out.cells 0);have r1:=(HRB2.out.cells 1);have r2:=(HRB2.out.cells 2);have r3:=(HRB2.out.cells 3);go_wp2_with (go_at_call 172;refine (jf_ _ cl _ (HOC.out.ext xE) HND.out).mono ?_;rintro e W6 ⟨sv,rfl,hown6,hb6⟩;obtain ⟨ya,yc,rfl⟩:=hown6.form;have HOWN6:=hq_ hown6;clear hown6;have x6:W6.frozen? ⟨ob,3,none⟩=false:=(Below.frozen hb6 (p:=⟨ob,3,none⟩) o5').trans oz;have y0:W6.cell? ⟨ob,0,none⟩=some (.slice a9 hl.length c9):=Below.cell' hb6 o0 o5';have y1:W6.cell? ⟨ob,1,none⟩=some (.int .i64 s):=Below.cell' hb6 o1 o5';have y2:W6.cell? ⟨ob,2,none⟩=some (.int .i64 d):=Below.cell' hb6 o2 o5';have y3:W6.cell? ⟨ob,3,none⟩=some (.slice m8 cl.length c8):=Below.cell' hb6 o3 o5';have z0:=((HRB2.out.upto hb6 o6').cells 0);have z1:=((HRB2.out.upto hb6 o6').cells 1);have z2:=((HRB2.out.upto hb6 o6').cells 2);have z3:=((HRB2.out.upto hb6 o6').cells 3);have zl:=(HRB2.out.upto hb6 o6').lt)
        have hbW:=HBW.out;have hb6z:=hb6.size;refine bodyPost_ret (v:=.agg #[.slice a9 hl.length c9,.int .i64 s,.int .i64 d,.slice ya (a0_ cl).length yc]) (by simp [results,Tryz.results138,go_sem, *]) rfl ⟨_,_,⟨hl,s,d,a0_ cl⟩,rfl,HQ.out,⟨?_,?_⟩,xE⟩
        ·have h1:bo_ _ _ _ (.slice a9 hl.length c9) hl:=(((((HHD.out.below hb6 oq_).set (b:=ob) (i:=3) (.slice ya (a0_ cl).length yc) oq_).set (b:=w.heap.size+1) (i:=0) (.slice a9 hl.length c9) oq_).set (b:=w.heap.size+1) (i:=1) (.int .i64 s) oq_).set (b:=w.heap.size+1) (i:=2) (.int .i64 d) oq_).set (b:=w.heap.size+1) (i:=3) (.slice ya (a0_ cl).length yc) oq_;exact h1.own.mono (base':=w.heap.size) oq_
        ·have h1:bo_ _ _ _ (.slice ya (a0_ cl).length yc) (a0_ cl):=(((((HOWN6.out.oin).set (b:=ob) (i:=3) (.slice ya (a0_ cl).length yc) oq_).set (b:=w.heap.size+1) (i:=0) (.slice a9 hl.length c9) oq_).set (b:=w.heap.size+1) (i:=1) (.int .i64 s) oq_).set (b:=w.heap.size+1) (i:=2) (.int .i64 d) oq_).set (b:=w.heap.size+1) (i:=3) (.slice ya (a0_ cl).length yc) oq_;exact h1.own.mono (base':=w.heap.size) oq_
theorem l1_ (h c:Value) (p q:Per) (w:World) (hp:a8_ w h c p) (hw:p.WF) (h1:p.frm≤1125899906842624) (h2:p.period≤1125899906842624) (hq:a6_ q p.mem) :
  Calls Tryz.prog 138 #[perV h c p.frm p.period] w (in_ q w):=by
 have key:Calls Tryz.prog 138 #[perV h c p.frm p.period] w (e7_ p.mem w):=by
  by_cases hc:p.cycle=[]
  ·exact qs_ h c p w hp hw h1 hc
  ·exact s0_ h c p w hp hw h1 h2 hc
 refine key.mono fun e w' hr=>?_;obtain ⟨h',c',q',rfl,hq',hp',hb⟩:=hr;obtain rfl:=hq'.unique hq;exact ⟨h',c',rfl,hp',hb⟩
theorem gm_ (h c:Value) (p q:Per) (w:World) (hp:a8_ w h c p) (hv:Valid p) (hq:a6_ q p.mem) :
  Calls Tryz.prog 164 #[perV h c p.frm p.period] w (b6_ q w):=by
 have hl:∀ W,Below w.heap.size w W->a8_ W h c p:=fun W hb=>hp.ext hb;have hvb:=(as_ p).2 hv;have HVB:=hq_ hvb;have HI1:Hid (InI p.frm):=by have:=hv.frm;have:=hv.wf.frm;exact hq_ ⟨oq_,oq_⟩
 have HI2:Hid (InI p.period):=by have:=hv.per;have:=hv.wf.per;exact hq_ ⟨oq_,oq_⟩
 have HV:=hq_ hv;have HF:Hid (p.frm≤1125899906842624):=by have:=hv.frm;exact hq_ oq_
 have HP:Hid (p.period≤1125899906842624):=by have:=hv.per;exact hq_ oq_
 have HQ:=hq_ hq;clear hv hp hq hvb
 go_enter Tryz.func164,Tryz.ntmps164
 go_wp2_with (first|(go_at_call 62;refine (ca_ h c p _ (hl _ xE) HI1.out HI2.out).mono ?_;rintro e w1 ⟨he,hb1⟩;rw [HVB.out] at he;subst he;obtain ⟨hc1,hf1⟩:=au_ hb1;have hz1:w.heap.size+1<w1.heap.size:=(by have:=hb1.size;simp at this;omega))|(go_at_call 138;refine (l1_ h c p q _ (hl _ xE) HV.out.wf HF.out HP.out HQ.out).mono ?_;rintro e w2 ⟨h',c',rfl,hp2,hb2⟩;obtain ⟨a1,c1,a2,c2,rfl,rfl⟩:=hp2.form;obtain ⟨hc2,hf2⟩:=au_ hb2;have HP2:=hq_ hp2;clear hp2))
 exact bodyPost_ret (v:=.tuple #[perV (.slice a1 q.head.length c1) (.slice a2 q.cycle.length c2) q.frm q.period,.int .i64 0]) (by simp [results,Tryz.results164,go_sem, *]) rfl ⟨_,_,rfl,(HP2.out.above (by (repeat' (with_reducible first|exact a7_.refl _ _|refine a7_.alloc ?_ _|refine a7_.drew ?_|refine a7_.drewN ?_ _|refine a7_.setCell ?_ (by first|(simp;done)|(simp;omega)|omega) _)))).mono (by have:=hb1.size;simp at this;omega),xE⟩
end Go.Proofs.YthjnojbeimchdaaGreat
namespace Go.Proofs.YthjnojbeimchdaaGreat
open Kal
def comb (op:Int):Nat->List Int->List Int->List Int
 | 0,_,_=>[]
 | _+1,[],[]=>[]
 | n+1,x :: a,[]=>if op≠0 then x :: comb op n a [] else comb op n a []
 | n+1,[],y :: b=>if op=1 then y :: comb op n [] b else comb op n [] b
 | n+1,x :: a,y :: b=>
  if x<y then (if op≠0 then x :: comb op n a (y :: b) else comb op n a (y :: b))
  else if y<x then (if op=1 then y :: comb op n (x :: a) b else comb op n (x :: a) b)
  else (if op≠2 then x :: comb op n a b else comb op n a b)
theorem e9_ (op:Int):∀ (n m:Nat) (a b:List Int),a.length+b.length≤n->a.length+b.length≤m->comb op n a b=comb op m a b
 | 0,0,_,_,_,_=>rfl
 | 0,m+1,a,b,h,_=>by
  obtain rfl:a=[]:=List.eq_nil_of_length_eq_zero oq_;obtain rfl:b=[]:=List.eq_nil_of_length_eq_zero oq_;rfl
 | n+1,0,a,b,_,h=>by
  obtain rfl:a=[]:=List.eq_nil_of_length_eq_zero oq_;obtain rfl:b=[]:=List.eq_nil_of_length_eq_zero oq_;rfl
 | n+1,m+1,a,b,h,g=>by
  cases a with
  | nil=>cases b with
   | nil=>rfl
   | cons y b=>simp only [comb];simp only [List.length_cons,List.length_nil] at h g;rw [e9_ op n m [] b tq_ tq_]
  | cons x a=>cases b with
   | nil=>simp only [comb];simp only [List.length_cons,List.length_nil] at h g;rw [e9_ op n m a [] tq_ tq_]
   | cons y b=>
    simp only [comb];simp only [List.length_cons] at h g;rw [e9_ op n m a (y :: b) tq_ tq_,e9_ op n m (x :: a) b tq_ tq_,e9_ op n m a b oq_ oq_]
def b9_ (op:Int) (a b:List Int):List Int:=comb op (a.length+b.length) a b
theorem q0_ {a b:List Int} (h:∀ y b',b=y :: b'->x<y):b9_ op (x :: a) b=if op≠0 then x :: b9_ op a b else b9_ op a b:=by
 unfold b9_;rw [show (x :: a).length+b.length=(a.length+b.length)+1 from by simp;omega];cases b with
 | nil=>rfl
 | cons y b=>simp only [comb];rw [if_pos (h y b rfl)]
theorem pz_ {a b:List Int} (h:∀ x a',a=x :: a'->y<x):b9_ op a (y :: b)=if op=1 then y :: b9_ op a b else b9_ op a b:=by
 unfold b9_;rw [show a.length+(y :: b).length=(a.length+b.length)+1 from by simp;omega];cases a with
 | nil=>rfl
 | cons x a=>have h1:=h x a rfl;simp only [comb];rw [if_neg oq_,if_pos h1]
theorem nz_ {a b:List Int}:b9_ op (x :: a) (x :: b)=if op≠2 then x :: b9_ op a b else b9_ op a b:=by
 unfold b9_;rw [show (x :: a).length+(x :: b).length=(a.length+b.length+1)+1 from by simp;omega];simp only [comb];rw [if_neg oq_,if_neg oq_,e9_ op (a.length+b.length+1) (a.length+b.length) a b oq_ oq_]
theorem ij_:b9_ op [] []=[]:=rfl
theorem d1_ (h:i<l.length):l.drop i=l.getD i 0 :: l.drop (i+1):=by
 rw [List.getD_eq_getElem?_getD,List.getElem?_eq_getElem h,List.drop_eq_getElem_cons h];rfl
theorem m6_ {b:List Int} (h:l.drop k=y :: b):k<l.length∧y=l.getD k 0:=by
 have hk:k<l.length:=by
  rcases Nat.lt_or_ge k l.length with h1|h1
  ·exact h1
  ·rw [List.drop_eq_nil_of_le h1] at h;cases h
 rw [d1_ hk] at h;injection h with h1 h2
 exact ⟨hk,h1.symm⟩
theorem m3_ {m:List Int} (hi:i<l.length) (h:k<m.length->l.getD i 0<m.getD k 0):b9_ op (l.drop i) (m.drop k)=if op≠0 then l.getD i 0 :: b9_ op (l.drop (i+1)) (m.drop k) else b9_ op (l.drop (i+1)) (m.drop k):=by
 rw [d1_ hi];exact q0_ fun y b e=>by obtain ⟨h1,h2⟩:=m6_ e;rw [h2];exact h h1
theorem me_ {m:List Int} (hk:k<m.length) (h:i<l.length->m.getD k 0<l.getD i 0):b9_ op (l.drop i) (m.drop k)=if op=1 then m.getD k 0 :: b9_ op (l.drop i) (m.drop (k+1)) else b9_ op (l.drop i) (m.drop (k+1)):=by
 rw [d1_ hk];exact pz_ fun y b e=>by obtain ⟨h1,h2⟩:=m6_ e;rw [h2];exact h h1
theorem qh_ {m:List Int} (hi:i<l.length) (hk:k<m.length) (h:l.getD i 0=m.getD k 0):b9_ op (l.drop i) (m.drop k)=if op≠2 then l.getD i 0 :: b9_ op (l.drop (i+1)) (m.drop (k+1)) else b9_ op (l.drop (i+1)) (m.drop (k+1)):=by
 rw [d1_ hi,d1_ hk,<- h];exact nz_
theorem nm_ (hop:op=0∨op=1∨op=2):∀ (n:Nat) (a b:List Int) (lo hi:Int),a.length+b.length≤n->Rise lo hi a->Rise lo hi b->
  Rise lo hi (b9_ op a b)∧∀ x,x∈b9_ op a b↔opS op (·∈a) (·∈b) x:=by
 intro n
 induction n with
 | zero=>
  intro a b lo hi h _ _;obtain rfl:a=[]:=List.eq_nil_of_length_eq_zero oq_;obtain rfl:b=[]:=List.eq_nil_of_length_eq_zero oq_;refine ⟨Rise.nil,fun x=>?_⟩;rcases hop with rfl|rfl|rfl <;> simp [ij_,opS]
 | succ n ih=>
  intro a b lo hi h ha hb;have tail:∀ {y:Int} {l:List Int},Rise lo hi (y :: l)->Rise (y+1) hi l∧lo≤y∧y<hi:=fun {y l} hr=>by
   have h1:=List.pairwise_cons.1 hr.1;have h2:=hr.2 y sq_;refine ⟨⟨h1.2,fun z hz=>?_⟩,h2⟩;have h3:=h1.1 z hz;have h4:=hr.2 z (by simp [hz]);omega
  have cons:∀ {y:Int} {l:List Int},lo≤y->y<hi->Rise (y+1) hi l->Rise lo hi (y :: l):=fun {y l} h1 h2 hr=>by
   refine ⟨List.pairwise_cons.2 ⟨fun z hz=>?_,hr.1⟩,fun z hz=>?_⟩
   ·have:=hr.2 z hz;omega
   ·rcases List.mem_cons.1 hz with rfl|hz
    ·exact ⟨h1,h2⟩
    ·have:=hr.2 z hz;omega
  have up:∀ {y:Int} {l:List Int},lo≤y->Rise lo hi l->(∀ z l',l=z :: l'->y<z)->Rise (y+1) hi l:=fun {y l} h1 hr hz=>by
   refine ⟨hr.1,fun x hx=>⟨?_,(hr.2 x hx).2⟩⟩;cases l with
   | nil=>simp at hx
   | cons z l'=>
    have h2:=hz z l' rfl;rcases List.mem_cons.1 hx with rfl|hx
    ·omega
    ·have:=(List.pairwise_cons.1 hr.1).1 x hx;omega
  have stepA:∀ {y:Int} {a':List Int},a=y :: a'->(∀ z l',b=z :: l'->y<z)->Rise lo hi (b9_ op a b)∧∀ x,x∈b9_ op a b↔opS op (·∈a) (·∈b) x:=fun {y a'} e hz=>by
   subst e;obtain ⟨t1,t2,t3⟩:=tail ha;have ub:=up t2 hb hz;obtain ⟨i1,i2⟩:=ih a' b (y+1) hi (by simp at h;omega) t1 ub;rw [q0_ hz];have nb:y ∉ b:=fun hy=>by have:=ub.2 y hy;omega
   have na:y ∉ a':=fun hy=>by have:=t1.2 y hy;omega
   have hne:∀ x,x∈b9_ op a' b->x≠y:=fun x hx e=>by have:=i1.2 x hx;omega
   rcases hop with rfl|rfl|rfl
   ·rw [if_neg sq_];refine ⟨i1.mono oq_ (Int.le_refl _),fun x=>?_⟩;rw [i2 x];simp only [opS,if_pos];refine ⟨fun ⟨h1,h2⟩=>⟨List.mem_cons_of_mem _ h1,h2⟩,fun ⟨h1,h2⟩=>⟨?_,h2⟩⟩;rcases List.mem_cons.1 h1 with rfl|h1
    ·exact absurd h2 nb
    ·exact h1
   ·rw [if_pos oq_];refine ⟨cons t2 t3 i1,fun x=>?_⟩;rw [List.mem_cons,i2 x];simp [opS,or_assoc]
   ·rw [if_pos oq_];refine ⟨cons t2 t3 i1,fun x=>?_⟩;rw [List.mem_cons,i2 x];simp only [opS,List.mem_cons];simp only [show ¬ (2:Int)=0 from oq_,show ¬ (2:Int)=1 from oq_,if_false];refine ⟨fun h=>h.elim (fun h=>⟨.inl h,h ▸ nb⟩) (fun h=>⟨.inr h.1,h.2⟩),fun ⟨h1,h2⟩=>h1.elim .inl fun h1=>.inr ⟨h1,h2⟩⟩
  have stepB:∀ {y:Int} {b':List Int},b=y :: b'->(∀ z l',a=z :: l'->y<z)->Rise lo hi (b9_ op a b)∧∀ x,x∈b9_ op a b↔opS op (·∈a) (·∈b) x:=fun {y b'} e hz=>by
   subst e;obtain ⟨t1,t2,t3⟩:=tail hb;have ua:=up t2 ha hz;obtain ⟨i1,i2⟩:=ih a b' (y+1) hi (by simp at h;omega) ua t1;rw [pz_ hz];have na:y ∉ a:=fun hy=>by have:=ua.2 y hy;omega
   have nb:y ∉ b':=fun hy=>by have:=t1.2 y hy;omega
   rcases hop with rfl|rfl|rfl
   ·rw [if_neg oq_];refine ⟨i1.mono oq_ (Int.le_refl _),fun x=>?_⟩;rw [i2 x];simp only [opS,if_pos];refine ⟨fun ⟨h1,h2⟩=>⟨h1,List.mem_cons_of_mem _ h2⟩,fun ⟨h1,h2⟩=>⟨h1,?_⟩⟩;rcases List.mem_cons.1 h2 with rfl|h2
    ·exact absurd h1 na
    ·exact h2
   ·rw [if_pos rfl];refine ⟨cons t2 t3 i1,fun x=>?_⟩;rw [List.mem_cons,i2 x];simp only [opS,List.mem_cons];simp only [show ¬ (1:Int)=0 from oq_,if_false,if_true];exact ⟨fun h=>h.elim (fun h=>.inr (.inl h)) fun h=>h.elim .inl fun h=>.inr (.inr h),fun h=>h.elim (fun h=>.inr (.inl h)) fun h=>h.elim .inl fun h=>.inr (.inr h)⟩
   ·rw [if_neg oq_];refine ⟨i1.mono oq_ (Int.le_refl _),fun x=>?_⟩;rw [i2 x];simp only [opS,List.mem_cons];simp only [show ¬ (2:Int)=0 from oq_,show ¬ (2:Int)=1 from oq_,if_false];refine ⟨fun ⟨h1,h2⟩=>⟨h1,fun h=>h.elim (fun h=>na (h ▸ h1)) h2⟩,fun ⟨h1,h2⟩=>⟨h1,fun h=>h2 (.inr h)⟩⟩
  cases a with
  | nil=>cases b with
   | nil=>
    refine ⟨Rise.nil,fun x=>?_⟩;rcases hop with rfl|rfl|rfl <;> simp [ij_,opS]
   | cons y b=>exact stepB rfl (fun z l' e=>by cases e)
  | cons x a=>cases b with
   | nil=>exact stepA rfl (fun z l' e=>by cases e)
   | cons y b=>
    rcases Int.lt_trichotomy x y with hlt|heq|hgt
    ·exact stepA rfl (fun z l' e=>by injection e with e1 e2;omega)
    ·subst heq;obtain ⟨t1,t2,t3⟩:=tail ha;obtain ⟨s1,_,_⟩:=tail hb;obtain ⟨i1,i2⟩:=ih a b (x+1) hi (by simp at h;omega) t1 s1;have na:x ∉ a:=fun hy=>by have:=t1.2 x hy;omega
     have nb:x ∉ b:=fun hy=>by have:=s1.2 x hy;omega
     rw [nz_];rcases hop with rfl|rfl|rfl
     ·rw [if_pos oq_];refine ⟨cons t2 t3 i1,fun z=>?_⟩;rw [List.mem_cons,i2 z];simp only [opS,if_pos,List.mem_cons];refine ⟨fun h=>h.elim (fun h=>⟨.inl h,.inl h⟩) (fun h=>⟨.inr h.1,.inr h.2⟩),fun ⟨h1,h2⟩=>?_⟩;rcases h1 with h1|h1
      ·exact .inl h1
      ·rcases h2 with h2|h2
       ·exact .inl h2
       ·exact .inr ⟨h1,h2⟩
     ·rw [if_pos oq_];refine ⟨cons t2 t3 i1,fun z=>?_⟩;rw [List.mem_cons,i2 z];simp only [opS,List.mem_cons];simp only [show ¬ (1:Int)=0 from oq_,if_false,if_true];refine ⟨fun h=>h.elim (fun h=>.inl (.inl h)) (fun h=>h.elim (fun h=>.inl (.inr h)) (fun h=>.inr (.inr h))),fun h=>?_⟩;rcases h with (h|h)|(h|h)
      ·exact .inl h
      ·exact .inr (.inl h)
      ·exact .inl h
      ·exact .inr (.inr h)
     ·rw [if_neg oq_];refine ⟨i1.mono oq_ (Int.le_refl _),fun z=>?_⟩;rw [i2 z];simp only [opS,List.mem_cons];simp only [show ¬ (2:Int)=0 from oq_,show ¬ (2:Int)=1 from oq_,if_false];refine ⟨fun ⟨h1,h2⟩=>⟨.inr h1,fun h=>h.elim (fun h=>na (h ▸ h1)) h2⟩,fun ⟨h1,h2⟩=>⟨?_,fun h=>h2 (.inr h)⟩⟩;rcases h1 with h1|h1
      ·exact absurd (.inl h1) h2
      ·exact h1
    ·exact stepB rfl (fun z l' e=>by injection e with e1 e2;omega)
theorem u5_ (hop:op=0∨op=1∨op=2) {S T:Int->Prop} (h0:0≤lo):b9_ op (sel S lo hi) (sel T lo hi)=sel (opS op S T) lo hi:=by
 obtain ⟨h1,h2⟩:=nm_ hop _ (sel S lo hi) (sel T lo hi) lo hi (Nat.le_refl _) (ad_ h0) (ad_ h0);refine h1.ext (ad_ h0) fun x=>?_;rw [h2,ae_ h0];rcases hop with rfl|rfl|rfl <;> simp only [opS,ae_ h0]
 ·simp only [if_pos];exact ⟨fun ⟨⟨a,b,c⟩,d⟩=>⟨a,b,c,d.2.2⟩,fun ⟨a,b,c,d⟩=>⟨⟨a,b,c⟩,a,b,d⟩⟩
 ·simp only [show ¬ (1:Int)=0 from oq_,if_false,if_true];exact ⟨fun h=>h.elim (fun ⟨a,b,c⟩=>⟨a,b,.inl c⟩) (fun ⟨a,b,c⟩=>⟨a,b,.inr c⟩),fun ⟨a,b,c⟩=>c.elim (fun c=>.inl ⟨a,b,c⟩) (fun c=>.inr ⟨a,b,c⟩)⟩
 ·simp only [show ¬ (2:Int)=0 from oq_,show ¬ (2:Int)=1 from oq_,if_false];exact ⟨fun ⟨⟨a,b,c⟩,d⟩=>⟨a,b,c,fun e=>d ⟨a,b,e⟩⟩,fun ⟨a,b,c,d⟩=>⟨⟨a,b,c⟩,fun e=>d e.2.2⟩⟩
def qo_ (l:List Int) (f d:Int):Per:=⟨l.filter (fun x=>decide (x<f)),f,d,(l.filter (fun x=>!decide (x<f))).map (· - f)⟩
theorem vg_ {U:Int->Prop} (h0:0≤f) (hd:1≤d) (hp:am_ U f d) (hU:∀ n,U n->0≤n):(qo_ (sel U 0 (f+d)) f d).WF∧∀ n,(qo_ (sel U 0 (f+d)) f d).mem n↔U n:=by
 have hr:=ad_ (S:=U) (hi:=f+d) (Int.le_refl 0);refine ⟨⟨h0,hd,?_,?_⟩,fun n=>?_⟩
 ·refine ⟨(hr.filter _).1,fun x hx=>?_⟩;have h1:=List.mem_filter.1 hx;have h2:=hr.2 x h1.1;have h3:=of_decide_eq_true h1.2;exact ⟨h2.1,h3⟩
 ·have h4:Rise f (f+d) ((sel U 0 (f+d)).filter (fun x=>!decide (x<f))):=⟨(hr.filter _).1,fun x hx=>by
   have h1:=List.mem_filter.1 hx;have h2:=hr.2 x h1.1;have h3:=h1.2;simp at h3;omega⟩
  have h5:=h4.map_add (-f);refine (show Rise 0 d _ from ?_);have e:(fun x:Int=>x-f)=(fun x=>x+-f):=by funext x;omega
  show Rise 0 d (List.map (fun x:Int=>x-f) _);rw [e];exact h5.mono oq_ oq_
 ·show (0≤n∧if n<f then n∈(sel U 0 (f+d)).filter (fun x=>decide (x<f)) else (n-f) % d∈((sel U 0 (f+d)).filter (fun x=>!decide (x<f))).map (· - f))↔U n
  by_cases hn:n<f
  ·rw [if_pos hn,List.mem_filter,ae_ (Int.le_refl 0),decide_eq_true_eq];exact ⟨fun h=>h.2.1.2.2,fun h=>⟨hU n h,⟨hU n h,oq_,h⟩,hn⟩⟩
  ·rw [if_neg hn,List.mem_map,hp.shift hd (show f≤n by omega)];have e0:=Int.emod_nonneg (n-f) (show d≠0 by omega);have e1:=Int.emod_lt_of_pos (n-f) (show 0<d by omega);constructor
   ·rintro ⟨h1,x,hx,h2⟩;have h3:=(ae_ (Int.le_refl 0) x).1 (List.mem_filter.1 hx).1;rw [show f+(n-f) % d=x from by omega];exact h3.2.2
   ·intro h;refine ⟨oq_,f+(n-f) % d,List.mem_filter.2 ⟨(ae_ (Int.le_refl 0) _).2 ⟨oq_,oq_,h⟩,tq_⟩,oq_⟩
end Go.Proofs.YthjnojbeimchdaaGreat
namespace Go.Proofs.YthjnojbeimchdaaGreat
open Go.RowKit Go.Maps Kal
def x0_ (qa qb:Per) (w:World) (e:Ending) (w':World):Prop:=
 ∃ x1 x2 x3 x4:Value,e=.returned (.tuple #[perV x1 x2 qa.frm qa.period,perV x3 x4 qb.frm qb.period,.int .i64 (max qa.frm qb.frm),.int .i64 (lcmI qa.period qb.period)])∧POx w' w.heap.size x1 x2 qa∧POx w' w.heap.size x3 x4 qb∧Below w.heap.size w w'
theorem rp_ (h1 c1 h2 c2:Value) (p1 p2 qa qb:Per) (w:World) (hp1:a8_ w h1 c1 p1) (hp2:a8_ w h2 c2 p2) (hv1:Valid p1) (hv2:Valid p2) (hqa:a6_ qa p1.mem) (hqb:a6_ qb p2.mem) (hl:lcmI qa.period qb.period≤1099511627776) :
  Calls Tryz.prog 173 #[perV h1 c1 p1.frm p1.period,perV h2 c2 p2.frm p2.period] w (x0_ qa qb w):=by
 obtain ⟨a1,m1,a2,m2,rfl,rfl⟩:=hp1.inn.form;obtain ⟨a3,m3,a4,m4,rfl,rfl⟩:=hp2.inn.form;have hl1:∀ W,Below w.heap.size w W->a8_ W (.slice a1 p1.head.length m1) (.slice a2 p1.cycle.length m2) p1:=fun W hb=>hp1.ext hb;have hl2:∀ W,Below w.heap.size w W->a8_ W (.slice a3 p2.head.length m3) (.slice a4 p2.cycle.length m4) p2:=fun W hb=>hp2.ext hb;have HV1:=hq_ hv1;have HV2:=hq_ hv2;have HQA:=hq_ hqa;have HQB:=hq_ hqb;obtain ⟨b1,b2,_,b4,b5⟩:=hqa.smaller hv1.wf;obtain ⟨d1,d2,_,d4,d5⟩:=hqb.smaller hv2.wf;have za0:=hqa.wf.frm;have zb0:=hqb.wf.frm;have za1:=hqa.wf.per;have zb1:=hqb.wf.per;have e1:=hv1.frm;have e2:=hv1.per;have e3:=hv2.frm;have e4:=hv2.per;clear hp1 hp2 hv1 hv2 hqa hqb;obtain ⟨g,hg⟩:∃ g,g=((Int.gcd qa.period qb.period:Nat):Int):=⟨_,rfl⟩;obtain ⟨n,hn⟩:∃ n,n=qa.period / g:=⟨_,rfl⟩;obtain ⟨L,hL⟩:∃ L,L=lcmI qa.period qb.period:=⟨_,rfl⟩;obtain ⟨st,hst⟩:∃ st,st=max qa.frm qb.frm:=⟨_,rfl⟩;have hLn:n*qb.period=L:=by rw [hL,hn,hg];rfl
 have hgb:1≤g:=by rw [hg];exact (bn_ za1).1
 have hn0:0≤n:=by rw [hn];exact Int.ediv_nonneg oq_ oq_
 have hnq:n≤qa.period:=by rw [hn];exact Int.ediv_le_self _ oq_
 have hL0:1≤L:=by rw [hL];exact c7_ za1 zb1
 rw [<- hL] at hl;obtain ⟨M,hM⟩:∃ M,M=1099511627776 / qb.period:=⟨_,rfl⟩;have hnM:n≤M:=by rw [hM];exact Int.le_ediv_of_mul_le oq_ (by rw [hLn];exact hl)
 have HGD:Hid (((Int.gcd qa.period qb.period:Nat):Int)=g):=hq_ hg.symm;have HLL:=hq_ hL;have HST:=hq_ hst;have hgz:¬ g=0:=oq_;have hpz:¬ qb.period=0:=oq_;have htd:qa.period.tdiv g=n:=by rw [Int.tdiv_eq_ediv_of_nonneg oq_];exact hn.symm
 have htm:(1099511627776:Int).tdiv qb.period=M:=by rw [Int.tdiv_eq_ediv_of_nonneg oq_];exact hM.symm
 have hM1:M≤1099511627776:=by rw [hM];exact Int.ediv_le_self _ oq_
 have hst1:0≤st∧st≤1099511627776:=oq_;clear hg hn hL hM hst
 go_enter Tryz.func173,Tryz.ntmps173
 go_upto_region 1 with (fail)
 refine al_ (F:=fun U=>Bxx U w.heap.size #[.slice a1 p1.head.length m1,.int .i64 p1.frm,.int .i64 p1.period,.slice a2 p1.cycle.length m2] 39∧Bxx U (w.heap.size+1) #[.slice a3 p2.head.length m3,.int .i64 p2.frm,.int .i64 p2.period,.slice a4 p2.cycle.length m4] 39∧Bxx U (w.heap.size+1+1) #[.slice none 0 0,.int .i64 0,.int .i64 0,.slice none 0 0] 39∧Bxx U (w.heap.size+1+1+1) #[.slice none 0 0,.int .i64 0,.int .i64 0,.slice none 0 0] 39∧w.heap.size+3<U.heap.size∧Below w.heap.size w U) ⟨xB,xB,xB,xB,by simp;try omega,xE⟩ ?_;rintro W1 ⟨hA,hB,hZ1,hZ2,hz1,hE⟩;have A0:W1.cell? ⟨w.heap.size,0,none⟩=some (.slice a1 p1.head.length m1):=(hA.cells 0).1;have A1:W1.cell? ⟨w.heap.size,1,none⟩=some (.int .i64 p1.frm):=(hA.cells 1).1;have A2:W1.cell? ⟨w.heap.size,2,none⟩=some (.int .i64 p1.period):=(hA.cells 2).1;have A3:W1.cell? ⟨w.heap.size,3,none⟩=some (.slice a2 p1.cycle.length m2):=(hA.cells 3).1;go_upto_region 2 with (go_at_call 164;refine (gm_ _ _ p1 qa _ (hl1 _ xE) HV1.out HQA.out).mono ?_;rintro e u1 ⟨x1,x2,rfl,ho1,hb1⟩;obtain ⟨a5,m5,a6,m6,rfl,rfl⟩:=ho1.form)
 generalize hu1:u1.heap.size=bA at *;have hzA:W1.heap.size≤bA:=by have:=hb1.size;omega
 refine al_ (F:=fun U=>Bxx U bA #[.slice a5 qa.head.length m5,.int .i64 qa.frm,.int .i64 qa.period,.slice a6 qa.cycle.length m6] 39∧POx U W1.heap.size (.slice a5 qa.head.length m5) (.slice a6 qa.cycle.length m6) qa∧Bxx U (w.heap.size+1) #[.slice a3 p2.head.length m3,.int .i64 p2.frm,.int .i64 p2.period,.slice a4 p2.cycle.length m4] 39∧Bxx U (w.heap.size+1+1) #[.slice none 0 0,.int .i64 0,.int .i64 0,.slice none 0 0] 39∧Bxx U (w.heap.size+1+1+1) #[.slice none 0 0,.int .i64 0,.int .i64 0,.slice none 0 0] 39∧Below W1.heap.size W1 U)
  ⟨Bxx.at hu1.symm,ho1.ext xE,(hB.below hb1).alloc _,(hZ1.below hb1).alloc _,(hZ2.below hb1).alloc _,xE⟩ ?_
 clear hA A0 A1 A2 A3 ho1 hb1 hB hZ1 hZ2 hu1;rintro W2 ⟨hqA,ho1,hB,hZ1,hZ2,hb1⟩;have hE2:Below w.heap.size w W2:=by exact xE
 have B0:W2.cell? ⟨w.heap.size+1,0,none⟩=some (.slice a3 p2.head.length m3):=(hB.cells 0).1;have B1:W2.cell? ⟨w.heap.size+1,1,none⟩=some (.int .i64 p2.frm):=(hB.cells 1).1;have B2:W2.cell? ⟨w.heap.size+1,2,none⟩=some (.int .i64 p2.period):=(hB.cells 2).1;have B3:W2.cell? ⟨w.heap.size+1,3,none⟩=some (.slice a4 p2.cycle.length m4):=(hB.cells 3).1;go_upto_region 3 with (go_at_call 164;refine (gm_ _ _ p2 qb _ (hl2 _ xE) HV2.out HQB.out).mono ?_;rintro e u2 ⟨x3,x4,rfl,ho2,hb2⟩;obtain ⟨a7,m7,a8,m8,rfl,rfl⟩:=ho2.form)
 generalize hu2:u2.heap.size=bB at *;have hlA:=hqA.lt;have hzB:W2.heap.size≤bB:=by have:=hb2.size;omega
 have hzC:W1.heap.size≤W2.heap.size:=hb1.size;refine al_ (F:=fun U=>Bxx U bA #[.slice a5 qa.head.length m5,.int .i64 qa.frm,.int .i64 qa.period,.slice a6 qa.cycle.length m6] 39∧Bxx U bB #[.slice a7 qb.head.length m7,.int .i64 qb.frm,.int .i64 qb.period,.slice a8 qb.cycle.length m8] 39∧POx U W1.heap.size (.slice a5 qa.head.length m5) (.slice a6 qa.cycle.length m6) qa∧POx U W1.heap.size (.slice a7 qb.head.length m7) (.slice a8 qb.cycle.length m8) qb∧Bxx U (w.heap.size+1+1) #[.slice none 0 0,.int .i64 0,.int .i64 0,.slice none 0 0] 39∧Bxx U (w.heap.size+1+1+1) #[.slice none 0 0,.int .i64 0,.int .i64 0,.slice none 0 0] 39∧Below w.heap.size w U)
  ⟨(hqA.below hb2).alloc _,Bxx.at hu2.symm,ho1.ext xE,(ho2.ext xE).mono hzC,(hZ1.below hb2).alloc _,(hZ2.below hb2).alloc _,xE⟩ ?_
 clear hqA ho1 ho2 hb1 hb2 hB hZ1 hZ2 hu2 hE2 B0 B1 B2 B3 hE;rintro W3 ⟨hqA,hqB,ho1,ho2,hZ1,hZ2,hE3⟩;have HO1:=hq_ ho1;have HO2:=hq_ ho2;have HZ1:=hq_ hZ1;have HZ2:=hq_ hZ2;have HE3:=hq_ hE3;have A0:W3.cell? ⟨bA,0,none⟩=some (.slice a5 qa.head.length m5):=(hqA.cells 0).1;have A1:W3.cell? ⟨bA,1,none⟩=some (.int .i64 qa.frm):=(hqA.cells 1).1;have A2:W3.cell? ⟨bA,2,none⟩=some (.int .i64 qa.period):=(hqA.cells 2).1;have A3:W3.cell? ⟨bA,3,none⟩=some (.slice a6 qa.cycle.length m6):=(hqA.cells 3).1;have B0:W3.cell? ⟨bB,0,none⟩=some (.slice a7 qb.head.length m7):=(hqB.cells 0).1;have B1:W3.cell? ⟨bB,1,none⟩=some (.int .i64 qb.frm):=(hqB.cells 1).1;have B2:W3.cell? ⟨bB,2,none⟩=some (.int .i64 qb.period):=(hqB.cells 2).1;have B3:W3.cell? ⟨bB,3,none⟩=some (.slice a8 qb.cycle.length m8):=(hqB.cells 3).1;clear hqA hqB ho1 ho2 hZ1 hZ2 hE3;go_quiet ((go_at_call 196;(first|exact hp_ ((nt_ _ _ _ oq_ oq_ oq_ oq_).mono (fun e w' h=>⟨by rw [HGD.out] at h;exact h.1,h.2⟩))|exact ez_ ((nt_ _ _ _ oq_ oq_ oq_ oq_).mono (fun e w' h=>⟨by rw [HGD.out] at h;exact h.1,h.2⟩)))))
 have HMX:Hid (max qa.frm qb.frm=st):=hq_ HST.out.symm;have HNL:Hid (n*qb.period=L):=hq_ hLn;have dM:decide (M<n)=false:=by simp;omega
 have hLI:InI L:=⟨oq_,oq_⟩;obtain ⟨W4,hW4⟩:∃ W4,W4=W3.drewN nq:=⟨_,rfl⟩;have hb4:Below W3.heap.size W3 W4:=by rw [hW4];exact En (Er _) _
 rw [<- hW4];have HB4:=hq_ hb4;replace A0:=cux A0 hb4;replace A1:=cux A1 hb4;replace A2:=cux A2 hb4;replace A3:=cux A3 hb4;replace B0:=cux B0 hb4;replace B1:=cux B1 hb4;replace B2:=cux B2 hb4;replace B3:=cux B3 hb4;clear hb4 hW4
 apply_assumption
 go_upto_region 6 with (fail)
 have hb4:=HB4.out;have hz1:=HZ1.out.below hb4;have hz2:=HZ2.out.below hb4;have r0:=hz1.cells 0;have r1:=hz1.cells 1;have r2:=hz1.cells 2;have r3:=hz1.cells 3;have s0:=hz2.cells 0;have s1:=hz2.cells 1;have s2:=hz2.cells 2;have s3:=hz2.cells 3;have hlz1:=hz1.lt;have hlz2:=hz2.lt;have hmx:=HMX.out;have hwl:IntKind.i64.wrap (n*qb.period)=L:=by rw [HNL.out];exact f5_ hLI
 have hwL:IntKind.i64.wrap L=L:=f5_ hLI;have hne1:bA≠w.heap.size+1+1:=oq_;have hne2:bA≠w.heap.size+1+1+1:=oq_;have hne3:bB≠w.heap.size+1+1:=oq_;have hne4:bB≠w.heap.size+1+1+1:=oq_;clear hz1 hz2 hb4;have HO5:Hid (POx W4 W1.heap.size (.slice a5 qa.head.length m5) (.slice a6 qa.cycle.length m6) qa):=hq_ (HO1.out.ext HB4.out);have HO6:Hid (POx W4 W1.heap.size (.slice a7 qb.head.length m7) (.slice a8 qb.cycle.length m8) qb):=hq_ (HO2.out.ext HB4.out);have hE4:Below w.heap.size w W4:=HE3.out.trans (HB4.out.mono HE3.out.size);go_region_held3 (fun w'=>w'.cell? ⟨bA,0,none⟩=some (.slice a5 qa.head.length m5)∧w'.cell? ⟨bA,1,none⟩=some (.int .i64 qa.frm)∧w'.cell? ⟨bA,2,none⟩=some (.int .i64 qa.period)∧w'.cell? ⟨bA,3,none⟩=some (.slice a6 qa.cycle.length m6)∧w'.cell? ⟨bB,0,none⟩=some (.slice a7 qb.head.length m7)∧w'.cell? ⟨bB,1,none⟩=some (.int .i64 qb.frm)∧w'.cell? ⟨bB,2,none⟩=some (.int .i64 qb.period)∧w'.cell? ⟨bB,3,none⟩=some (.slice a8 qb.cycle.length m8)) ((go_split_ands;repeat' (with_reducible first|assumption|refine bd_ ?_ ?_ _|refine ag_ ?_ _|refine dm_ ?_|exact Ext.cell (by assumption) (by assumption)|apply And.intro|(exact Below.cell' (by assumption) (by assumption) (by first|(simp;done)|(simp;omega)|omega))|(refine Below.cell' (by assumption) ?_ (by first|(simp;done)|(simp;omega)|omega))|omega|(simp;done)|(simp;omega)))) (fail)
 all_goals
  go_wp2_with fail
  exact bodyPost_ret (v:=.tuple #[perV (.slice a5 qa.head.length m5) (.slice a6 qa.cycle.length m6) qa.frm qa.period,perV (.slice a7 qb.head.length m7) (.slice a8 qb.cycle.length m8) qb.frm qb.period,.int .i64 st,.int .i64 L]) (by simp [results,Tryz.results173,go_sem, *]) rfl
   ⟨_,_,_,_,by rw [HMX.out,<- HLL.out],(HO5.out.above (by (repeat' (with_reducible first|exact a7_.refl _ _|refine a7_.alloc ?_ _|refine a7_.drew ?_|refine a7_.drewN ?_ _|refine a7_.setCell ?_ (by first|(simp;done)|(simp;omega)|omega) _)))).mono oq_,(HO6.out.above (by (repeat' (with_reducible first|exact a7_.refl _ _|refine a7_.alloc ?_ _|refine a7_.drew ?_|refine a7_.drewN ?_ _|refine a7_.setCell ?_ (by first|(simp;done)|(simp;omega)|omega) _)))).mono oq_,xE⟩
theorem mu_ (v1 v2:Value) (l m:List Int) (op:Int) (w:World) (h1:Ints w v1 l) (h2:Ints w v2 m) (hlen:l.length+m.length≤8796093022208) :
  Calls Tryz.prog 174 #[v1,v2,.int .i64 op] w (ib_ (b9_ op l m) w):=by
 have HV1:=hq_ h1;have HV2:=hq_ h2;obtain ⟨⟨a1,c1,rfl,_,_,_⟩,_,_⟩:=h1;obtain ⟨⟨a2,c2,rfl,_,_,_⟩,_,_⟩:=h2
 go_enter Tryz.func174,Tryz.ntmps174
 go_upto_region 2 with (fail)
 refine al_ (F:=fun U=>OwnI U w.heap.size (.slice (some ⟨w.heap.size,0,none⟩) 0 0) []∧Below w.heap.size w U) ⟨OwnI.empty (Nat.le_refl _),xE⟩ ?_;rintro W2 ⟨hown0,hE2⟩;go_wp2_with fail
 go_loopw [7,8,9] (fun o iv kv wr=>∃ (i k:Nat) (X:List Int),i≤l.length∧k≤m.length∧iv=.int .i64 i∧kv=.int .i64 k∧X.length≤i+k∧OwnI wr w.heap.size o X∧X ++ b9_ op (l.drop i) (m.drop k)=b9_ op l m∧Below w.heap.size w wr) (fun _ iv kv _=>l.length+m.length-((intOf iv).toNat+(intOf kv).toNat))
 case atStart=>exact ⟨0,0,[],oq_,oq_,rfl,rfl,sq_,hown0,rfl,hE2⟩
 case round=>
  obtain ⟨i,k,X,hi,hk,rfl,rfl,hX,hown,hC,hb⟩:=hrel;have HB:=hq_ hb;have HC:=hq_ hC;have hszr:=hb.size;obtain ⟨oa,oc,rfl⟩:=hown.form;have HOWN:=hq_ hown;clear hown hC
  by_cases hil:i<l.length
  ·have hiI:(i:Int)<l.length:=oq_;have hie:((i:Int) == (l.length:Int))=false:=by rw [beq_eq_false_iff_ne];omega
   obtain ⟨⟨a',c',he,_,_,h38⟩,_,hrg⟩:=HV1.out.ext hb;injection he with e1 _ e2
   subst e1;subst e2;rcases h38 with h38|⟨xb,xo,rfl,hcell⟩
   ·rw [h38] at hil;simp at hil
   have xc:=hcell i hil;have xI:=hrg _ (ah_ hil);unfold InI at xI;clear hcell hrg
   by_cases hkm:k<m.length
   ·have hkI:(k:Int)<m.length:=oq_;have hke:((k:Int) == (m.length:Int))=false:=by rw [beq_eq_false_iff_ne];omega
    obtain ⟨⟨a',c',he,_,_,h38⟩,_,hrg⟩:=HV2.out.ext hb;injection he with e1 _ e2
    subst e1;subst e2;rcases h38 with h38|⟨yb,yo,rfl,hcell⟩
    ·rw [h38] at hkm;simp at hkm
    have yc:=hcell k hkm;have yI:=hrg _ (ah_ hkm);unfold InI at yI;clear hcell hrg;rcases Int.lt_trichotomy (l.getD i 0) (m.getD k 0) with hlt|heq|hgt
    ·have hst:=m3_ (op:=op) hil (fun _=>hlt);generalize l.getD i 0=x at *;generalize m.getD k 0=y at *;have d1:decide (x<y)=true:=by simp [hlt]
     by_cases hcd:op≠0
     ·have hc:op≠0:=hcd;have dc:(op != 0)=true:=by first|(simp at hc;simp [hc];done)|(simp [hc];done)
      have HST:=hq_ (hst.trans (if_pos hc));clear hst hcd hc hb;go_wp2_with fail
      go_quiet (fail)
      go_wp2_with (at_builtin;refine aj_ rq_ _ _ rq_ w.heap.size (.slice oa X.length oc) X x rq_ (HOWN.out.ext xE) _ _ rq_ (by first|(simp;done)|exact ((Bxx.new _ #[.int .i64 x] _).cells 0).1) ⟨oq_,oq_⟩ oq_ tq_ ?_;intro gg cap w6 hown6 hgrow6 hbel6)
      go_roundw
      case rel=>
       refine ⟨i+1,k,X ++ [x],oq_,oq_,by first|rfl|go_num,by first|rfl|go_num,tq_,hown6,?_,by have hb:=HB.out;refine Below.trans ?_ hbel6;exact xE⟩;rw [<- HC.out,HST.out,List.append_assoc];rfl
      case measure=>simp [intOf];omega
     ·have hc:¬ (op≠0):=hcd;have dc:(op != 0)=false:=by first|(simp at hc;simp [hc];done)|(simp [hc];done)
      have HST:=hq_ (hst.trans (if_neg hc));clear hst hcd hc hb;go_wp2_with fail
      go_quiet (fail)
      go_wp2_with fail
      go_roundw
      case rel=>
       refine ⟨i+1,k,X,oq_,oq_,by first|rfl|go_num,by first|rfl|go_num,oq_,HOWN.out.ext xE,?_,by have hb:=HB.out;exact xE⟩;rw [<- HC.out,HST.out]
      case measure=>simp [intOf];omega
    ·have hst:=qh_ (op:=op) hil hkm heq;rw [<- heq] at yc yI;clear heq;generalize l.getD i 0=x at *;have d1:decide (x<x)=false:=by simp
     by_cases hcd:op≠2
     ·have hc:op≠2:=hcd;have dc:(op != 2)=true:=by first|(simp at hc;simp [hc];done)|(simp [hc];done)
      have HST:=hq_ (hst.trans (if_pos hc));clear hst hcd hc hb;go_wp2_with fail
      go_quiet (fail)
      go_wp2_with fail
      go_quiet (fail)
      go_wp2_with (at_builtin;refine aj_ rq_ _ _ rq_ w.heap.size (.slice oa X.length oc) X x rq_ (HOWN.out.ext xE) _ _ rq_ (by first|(simp;done)|exact ((Bxx.new _ #[.int .i64 x] _).cells 0).1) ⟨oq_,oq_⟩ oq_ tq_ ?_;intro gg cap w6 hown6 hgrow6 hbel6)
      go_roundw
      case rel=>
       refine ⟨i+1,k+1,X ++ [x],oq_,oq_,by first|rfl|go_num,by first|rfl|go_num,tq_,hown6,?_,by have hb:=HB.out;refine Below.trans ?_ hbel6;exact xE⟩;rw [<- HC.out,HST.out,List.append_assoc];rfl
      case measure=>simp [intOf];omega
     ·have hc:¬ (op≠2):=hcd;have dc:(op != 2)=false:=by first|(simp at hc;simp [hc];done)|(simp [hc];done)
      have HST:=hq_ (hst.trans (if_neg hc));clear hst hcd hc hb;go_wp2_with fail
      go_quiet (fail)
      go_wp2_with fail
      go_quiet (fail)
      go_wp2_with fail
      go_roundw
      case rel=>
       refine ⟨i+1,k+1,X,oq_,oq_,by first|rfl|go_num,by first|rfl|go_num,oq_,HOWN.out.ext xE,?_,by have hb:=HB.out;exact xE⟩;rw [<- HC.out,HST.out]
      case measure=>simp [intOf];omega
    ·have hst:=me_ (op:=op) (l:=l) (i:=i) hkm (fun _=>hgt);generalize l.getD i 0=x at *;generalize m.getD k 0=y at *;have d1:decide (x<y)=false:=by simp;omega
     have d2:decide (y<x)=true:=by simp [hgt]
     by_cases hcd:op=1
     ·have hc:op=1:=hcd;have dc:(op == 1)=true:=by first|(simp at hc;simp [hc];done)|(simp [hc];done)
      have HST:=hq_ (hst.trans (if_pos hc));clear hst hcd hc hb;go_wp2_with fail
      go_quiet (fail)
      go_wp2_with fail
      go_quiet (fail)
      go_wp2_with (at_builtin;refine aj_ rq_ _ _ rq_ w.heap.size (.slice oa X.length oc) X y rq_ (HOWN.out.ext xE) _ _ rq_ (by first|(simp;done)|exact ((Bxx.new _ #[.int .i64 y] _).cells 0).1) ⟨oq_,oq_⟩ oq_ tq_ ?_;intro gg cap w6 hown6 hgrow6 hbel6)
      go_roundw
      case rel=>
       refine ⟨i,k+1,X ++ [y],oq_,oq_,by first|rfl|go_num,by first|rfl|go_num,tq_,hown6,?_,by have hb:=HB.out;refine Below.trans ?_ hbel6;exact xE⟩;rw [<- HC.out,HST.out,List.append_assoc];rfl
      case measure=>simp [intOf];omega
     ·have hc:¬ (op=1):=hcd;have dc:(op == 1)=false:=by first|(simp at hc;simp [hc];done)|(simp [hc];done)
      have HST:=hq_ (hst.trans (if_neg hc));clear hst hcd hc hb;go_wp2_with fail
      go_quiet (fail)
      go_wp2_with fail
      go_quiet (fail)
      go_wp2_with fail
      go_roundw
      case rel=>
       refine ⟨i,k+1,X,oq_,oq_,by first|rfl|go_num,by first|rfl|go_num,oq_,HOWN.out.ext xE,?_,by have hb:=HB.out;exact xE⟩;rw [<- HC.out,HST.out]
      case measure=>simp [intOf];omega
   ·obtain rfl:k=m.length:=oq_;have hst:=m3_ (op:=op) (m:=m) (k:=m.length) hil (fun h=>absurd h hkm);generalize l.getD i 0=x at *
    by_cases hcd:op≠0
    ·have hc:op≠0:=hcd;have dc:(op != 0)=true:=by first|(simp at hc;simp [hc];done)|(simp [hc];done)
     have HST:=hq_ (hst.trans (if_pos hc));clear hst hcd hc hb;go_wp2_with fail
     go_quiet (fail)
     go_wp2_with (at_builtin;refine aj_ rq_ _ _ rq_ w.heap.size (.slice oa X.length oc) X x rq_ (HOWN.out.ext xE) _ _ rq_ (by first|(simp;done)|exact ((Bxx.new _ #[.int .i64 x] _).cells 0).1) ⟨oq_,oq_⟩ oq_ tq_ ?_;intro gg cap w6 hown6 hgrow6 hbel6)
     go_roundw
     case rel=>
      refine ⟨i+1,m.length,X ++ [x],oq_,oq_,by first|rfl|go_num,by first|rfl|go_num,tq_,hown6,?_,by have hb:=HB.out;refine Below.trans ?_ hbel6;exact xE⟩;rw [<- HC.out,HST.out,List.append_assoc];rfl
     case measure=>simp [intOf];omega
    ·have hc:¬ (op≠0):=hcd;have dc:(op != 0)=false:=by first|(simp at hc;simp [hc];done)|(simp [hc];done)
     have HST:=hq_ (hst.trans (if_neg hc));clear hst hcd hc hb;go_wp2_with fail
     go_quiet (fail)
     go_wp2_with fail
     go_roundw
     case rel=>
      refine ⟨i+1,m.length,X,oq_,oq_,by first|rfl|go_num,by first|rfl|go_num,oq_,HOWN.out.ext xE,?_,by have hb:=HB.out;exact xE⟩;rw [<- HC.out,HST.out]
     case measure=>simp [intOf];omega
  ·obtain rfl:i=l.length:=oq_
   by_cases hkm:k<m.length
   ·have hkI:(k:Int)<m.length:=oq_;have hke:((k:Int) == (m.length:Int))=false:=by rw [beq_eq_false_iff_ne];omega
    obtain ⟨⟨a',c',he,_,_,h38⟩,_,hrg⟩:=HV2.out.ext hb;injection he with e1 _ e2
    subst e1;subst e2;rcases h38 with h38|⟨yb,yo,rfl,hcell⟩
    ·rw [h38] at hkm;simp at hkm
    have yc:=hcell k hkm;have yI:=hrg _ (ah_ hkm);unfold InI at yI;clear hcell hrg;have hst:=me_ (op:=op) (l:=l) (i:=l.length) hkm (fun h=>absurd h hil);generalize m.getD k 0=y at *
    by_cases hcd:op=1
    ·have hc:op=1:=hcd;have dc:(op == 1)=true:=by first|(simp at hc;simp [hc];done)|(simp [hc];done)
     have HST:=hq_ (hst.trans (if_pos hc));clear hst hcd hc hb;go_wp2_with fail
     go_quiet (fail)
     go_wp2_with fail
     go_quiet (fail)
     go_wp2_with (at_builtin;refine aj_ rq_ _ _ rq_ w.heap.size (.slice oa X.length oc) X y rq_ (HOWN.out.ext xE) _ _ rq_ (by first|(simp;done)|exact ((Bxx.new _ #[.int .i64 y] _).cells 0).1) ⟨oq_,oq_⟩ oq_ tq_ ?_;intro gg cap w6 hown6 hgrow6 hbel6)
     go_roundw
     case rel=>
      refine ⟨l.length,k+1,X ++ [y],oq_,oq_,by first|rfl|go_num,by first|rfl|go_num,tq_,hown6,?_,by have hb:=HB.out;refine Below.trans ?_ hbel6;exact xE⟩;rw [<- HC.out,HST.out,List.append_assoc];rfl
     case measure=>simp [intOf];omega
    ·have hc:¬ (op=1):=hcd;have dc:(op == 1)=false:=by first|(simp at hc;simp [hc];done)|(simp [hc];done)
     have HST:=hq_ (hst.trans (if_neg hc));clear hst hcd hc hb;go_wp2_with fail
     go_quiet (fail)
     go_wp2_with fail
     go_quiet (fail)
     go_wp2_with fail
     go_roundw
     case rel=>
      refine ⟨l.length,k+1,X,oq_,oq_,by first|rfl|go_num,by first|rfl|go_num,oq_,HOWN.out.ext xE,?_,by have hb:=HB.out;exact xE⟩;rw [<- HC.out,HST.out]
     case measure=>simp [intOf];omega
   ·obtain rfl:k=m.length:=oq_;have hfin:X=b9_ op l m:=by have h:=HC.out;rw [List.drop_length,List.drop_length,ij_,List.append_nil] at h;exact h
    rw [hfin] at HOWN;have HF:=hq_ hfin;clear hfin hb;go_wp2_with fail
    go_ret;exact ⟨_,rfl,by rw [HF.out];exact HOWN.out,HB.out⟩
theorem wx_ (ha:qa.WF) (hb:qb.WF) (op:Int):am_ (opS op qa.mem qb.mem) (max qa.frm qb.frm) (lcmI qa.period qb.period):=by
 have a1:=ha.per;have b1:=hb.per;have hl:=c7_ a1 b1;exact ((ha.pfrom.mono (show qa.frm≤max qa.frm qb.frm by omega)).of_dvd a1 hl cr_).op ((hb.pfrom.mono (show qb.frm≤max qa.frm qb.frm by omega)).of_dvd b1 hl cz_) (fun a b=>if op=0 then a∧b else if op=1 then a∨b else a∧¬ b) (fun n _=>Iff.rfl) oq_
theorem nd_ (l:List Int) (f:Int->Bool):(l.filter f).length+(l.filter (fun x=>!f x)).length=l.length:=by
 induction l with
 | nil=>rfl
 | cons x l ih=>
  cases h:f x <;> simp [List.filter_cons,h] <;> omega
theorem ig_ {a:Act} {Q:Exit->Act->World->Prop} (hgd:o.guard=none) (s x:Operand)
  (ho:o.op=.call { callee:=.builtin .append,args:=#[s,x],argTypes:=#[37,37] }) (base:Nat) (v:Value) (l:List Int) (y:Int) (hs:a.eval s=v) (hown:OwnI w base v l)
  (blk c:Nat) (hx:a.eval x=.slice (some ⟨blk,0,none⟩) 1 c) (hnew:w.cell? ⟨blk,0,none⟩=some (.int .i64 y)) (hy:InI y) (hlen:l.length+1≤17592186044416) (hbase:base≤w.heap.size)
  (h:∀ g cap w',OwnI w' base (.slice (some ⟨g,0,none⟩) (l.length+1) cap) (l ++ [y])->w.grownBy w' v.ownBlock->Below base w w'->(v.ownBlock=some g∨g=w.heap.size)->wpList Tryz.prog ops Q rest (a.put o.dst (.slice (some ⟨g,0,none⟩) (l.length+1) cap)) w') :
  wpList Tryz.prog ops Q (o :: rest) a w:=by
 obtain ⟨i,hi,h1,h2,h3⟩:=dt_;refine wpList_append_lies w hgd s x 37 ho base 3 i (.int .i64 0) 1 8 Tryz.underlying37 hi h1 h2 h3 rfl oq_ v l.length (l.map (Value.int .i64)) hs hown.row ⟨blk,0,none⟩ 1 c [.int .i64 y] hx rfl ?_ (by simp [Value.oneCell']) oq_ (by unfold maxLen;omega) oq_ hbase _ rfl ?_
 ·intro j u hu
  match j,hu with
  | 0,hu=>simp at hu;subst hu;exact hnew
 ·intro g cap w' hown' hgrow hg9 _;exact h g cap w' (OwnI.appended hown.rng hy hlen hown') hgrow (hown.below_grown (W0:=w) (.inr trivial) hbase hgrow) hg9
structure OL (w:World) (ob base:Nat) (st L:Int) (hv cv:Value) (hl cl:List Int) (W:World):Prop where
 below:Below w.heap.size w W
 rb:Bxx W (w.heap.size+1+1) #[.slice none 0 0,.int .i64 0,.int .i64 0,.slice none 0 0] 39
 obx:Bxx W ob #[hv,.int .i64 st,.int .i64 L,cv] 39
 hd:OwnI W base hv hl
 cy:OwnI W base cv cl
 sep:∀ k,hv.ownBlock=some k->cv.ownBlock=some k->False
 o1:w.heap.size+1+1<ob
 o2:ob<base
 o3:base≤W.heap.size
theorem OL.stepH {L:Int} {cv:Value} {hl cl:List Int} (h:OL w ob base st L hv cv hl cl W) {hv':Value} {hl':List Int} (hb:Below W.heap.size W W1)
  (ho:OwnI W2 base hv' hl') (hg:W1.grownBy W2 hv.ownBlock) (hg2:Below base W1 W2) (hp:∀ k,hv'.ownBlock=some k->hv.ownBlock=some k∨k=W1.heap.size):OL w ob base st L hv' cv hl' cl (W2.setCell ⟨ob,0,none⟩ hv'):=by
 have o1:=h.o1;have o2:=h.o2;have o3:=h.o3;have hz:=hb.size;have hz2:=hg2.size;have hbb:Below base W W2:=(hb.mono o3).trans hg2;have hcy:OwnI W2 base cv cl:=(h.cy.ext hb).kept hg (by
  cases e:cv.ownBlock with
  | none=>exact .inl rfl
  | some k=>exact .inr fun e2=>h.sep k e2.symm e)
 refine ⟨(h.below.trans (hbb.mono oq_)).setCell (p:=⟨ob,0,none⟩) tq_ _,(h.rb.upto hbb oq_).setNe _ oq_,j2_ (h.obx.upto hbb oq_),
  ho.above ((a7_.refl base W2).setCell tq_ _),hcy.above ((a7_.refl base W2).setCell tq_ _),fun k e1 e2=>?_,o1,o2,tq_⟩
 rcases hp k e1 with e3|e3
 ·exact h.sep k e3 e2
 ·have:=(h.cy.lt k e2).2;omega
theorem OL.stepC {L:Int} {cv:Value} {hl cl:List Int} (h:OL w ob base st L hv cv hl cl W) {cv':Value} {cl':List Int} (hb:Below W.heap.size W W1)
  (ho:OwnI W2 base cv' cl') (hg:W1.grownBy W2 cv.ownBlock) (hg2:Below base W1 W2) (hp:∀ k,cv'.ownBlock=some k->cv.ownBlock=some k∨k=W1.heap.size):OL w ob base st L hv cv' hl cl' (W2.setCell ⟨ob,3,none⟩ cv'):=by
 have o1:=h.o1;have o2:=h.o2;have o3:=h.o3;have hz:=hb.size;have hz2:=hg2.size;have hbb:Below base W W2:=(hb.mono o3).trans hg2;have hhd:OwnI W2 base hv hl:=(h.hd.ext hb).kept hg (by
  cases e:hv.ownBlock with
  | none=>exact .inl rfl
  | some k=>exact .inr fun e2=>h.sep k e e2.symm)
 refine ⟨(h.below.trans (hbb.mono oq_)).setCell (p:=⟨ob,3,none⟩) tq_ _,(h.rb.upto hbb oq_).setNe _ oq_,set4 (h.obx.upto hbb oq_),
  hhd.above ((a7_.refl base W2).setCell tq_ _),ho.above ((a7_.refl base W2).setCell tq_ _),fun k e1 e2=>?_,o1,o2,tq_⟩
 rcases hp k e2 with e3|e3
 ·exact h.sep k e1 e3
 ·have:=(h.hd.lt k e1).2;omega
theorem gz_ (h1 c1 h2 c2:Value) (p1 p2 qa qb q:Per) (kd:Int) (w:World) (hp1:a8_ w h1 c1 p1) (hp2:a8_ w h2 c2 p2) (hv1:Valid p1) (hv2:Valid p2) (hqa:a6_ qa p1.mem) (hqb:a6_ qb p2.mem) (hlc:lcmI qa.period qb.period≤1099511627776)
  (hkd:kd=0∨kd=1∨kd=2) (hq:a6_ q (opS kd p1.mem p2.mem)) (hcn:(sel (opS kd qa.mem qb.mem) 0 (max qa.frm qb.frm+lcmI qa.period qb.period)).length≤1048576) :
  Calls Tryz.prog 139 #[perV h1 c1 p1.frm p1.period,perV h2 c2 p2.frm p2.period,.int .i64 kd] w (b6_ q w):=by
 have hpf:=wx_ hqa.wf hqb.wf kd;have hU:∀ n,opS kd qa.mem qb.mem n↔opS kd p1.mem p2.mem n:=fun n=>by
  rcases hkd with rfl|rfl|rfl
  ·simp only [dr_,hqa.mem n,hqb.mem n]
  ·simp only [fl_,hqa.mem n,hqb.mem n]
  ·simp only [d5_,hqa.mem n,hqb.mem n]
 have hU0:∀ n,opS kd qa.mem qb.mem n->0≤n:=fun n hn=>by
  rcases hkd with rfl|rfl|rfl
  ·rw [dr_] at hn;exact hn.1.1
  ·rw [fl_] at hn;exact hn.elim (fun h=>h.1) (fun h=>h.1)
  ·rw [d5_] at hn;exact hn.1.1
 have HU:=hq_ hU;have HU0:=hq_ hU0;have HQ:=hq_ hq;have HKD:=hq_ hkd;have hkI:InI kd:=⟨oq_,oq_⟩;clear hU hU0 hq hkd;obtain ⟨a1,m1,a2,m2,rfl,rfl⟩:=hp1.inn.form;obtain ⟨a3,m3,a4,m4,rfl,rfl⟩:=hp2.inn.form;have hl1:∀ W,Below w.heap.size w W->a8_ W (.slice a1 p1.head.length m1) (.slice a2 p1.cycle.length m2) p1:=fun W hb=>hp1.ext hb;have hl2:∀ W,Below w.heap.size w W->a8_ W (.slice a3 p2.head.length m3) (.slice a4 p2.cycle.length m4) p2:=fun W hb=>hp2.ext hb;have HV1:=hq_ hv1;have HV2:=hq_ hv2;have HQA:=hq_ hqa;have HQB:=hq_ hqb;obtain ⟨b1,b2,_,b4,b5⟩:=hqa.smaller hv1.wf;obtain ⟨d1,d2,_,d4,d5⟩:=hqb.smaller hv2.wf;have za0:=hqa.wf.frm;have zb0:=hqb.wf.frm;have za1:=hqa.wf.per;have zb1:=hqb.wf.per;have e1:=hv1.frm;have e2:=hv1.per;have e3:=hv2.frm;have e4:=hv2.per;have HVA:Hid (∀ W,Below w.heap.size w W->Calls Tryz.prog 62 #[.agg #[.slice a1 p1.head.length m1,.int .i64 p1.frm,.int .i64 p1.period,.slice a2 p1.cycle.length m2]] W fun e w'=>e=.returned (.bool true)∧Below W.heap.size W w'):=hq_ (fun W hb=>by
  have h:=ca_ _ _ p1 W (hl1 W hb) ⟨by have:=hv1.wf.frm;omega,oq_⟩ ⟨by have:=hv1.wf.per;omega,oq_⟩;rw [(as_ p1).2 hv1] at h;exact h)
 have HVB:Hid (∀ W,Below w.heap.size w W->Calls Tryz.prog 62 #[.agg #[.slice a3 p2.head.length m3,.int .i64 p2.frm,.int .i64 p2.period,.slice a4 p2.cycle.length m4]] W fun e w'=>e=.returned (.bool true)∧Below W.heap.size W w'):=hq_ (fun W hb=>by
  have h:=ca_ _ _ p2 W (hl2 W hb) ⟨by have:=hv2.wf.frm;omega,oq_⟩ ⟨by have:=hv2.wf.per;omega,oq_⟩;rw [(as_ p2).2 hv2] at h;exact h)
 obtain ⟨st,hst⟩:∃ st,st=max qa.frm qb.frm:=⟨_,rfl⟩;obtain ⟨L,hL⟩:∃ L,L=lcmI qa.period qb.period:=⟨_,rfl⟩;have hL0:1≤L:=by rw [hL];exact c7_ za1 zb1
 have hst0:0≤st:=oq_;have hst1:st≤1099511627776:=oq_;have HCO:Hid (∀ W,Below w.heap.size w W->Calls Tryz.prog 173 #[.agg #[.slice a1 p1.head.length m1,.int .i64 p1.frm,.int .i64 p1.period,.slice a2 p1.cycle.length m2],.agg #[.slice a3 p2.head.length m3,.int .i64 p2.frm,.int .i64 p2.period,.slice a4 p2.cycle.length m4]] W
   fun e w'=>∃ x1 x2 x3 x4:Value,e=.returned (.tuple #[perV x1 x2 qa.frm qa.period,perV x3 x4 qb.frm qb.period,.int .i64 st,.int .i64 L])∧POx w' W.heap.size x1 x2 qa∧POx w' W.heap.size x3 x4 qb∧Below W.heap.size W w'):=hq_ (fun W hb=>by
  have h:=rp_ _ _ _ _ p1 p2 qa qb W (hl1 W hb) (hl2 W hb) hv1 hv2 hqa hqb hlc;rw [hst,hL];exact h)
 have hlL:L≤1099511627776:=by rw [hL];exact hlc
 have HST:=hq_ hst;have HLL:=hq_ hL;have hqfa:qa.frm≤1125899906842624:=oq_;have hqfb:qb.frm≤1125899906842624:=oq_;have hqpa:qa.period≤1125899906842624:=oq_;have hqpb:qb.period≤1125899906842624:=oq_;clear hp1 hp2 hv1 hv2 hqa hqb hst hL hlc;rw [<- HST.out,<- HLL.out] at hpf hcn;obtain ⟨X,hX⟩:∃ X,X=sel (opS kd qa.mem qb.mem) 0 (st+L):=⟨_,rfl⟩;rw [<- hX] at hcn;have HX:Hid (b9_ kd (sel qa.mem 0 (st+L)) (sel qb.mem 0 (st+L))=X):=hq_ (by rw [hX];exact u5_ HKD.out (Int.le_refl 0));have HXR:Hid (Rise 0 (st+L) X):=hq_ (by rw [hX];exact ad_ (Int.le_refl 0));have hA9:(sel qa.mem 0 (st+L)).length+(sel qb.mem 0 (st+L)).length≤8796093022208:=by
  have h1:=(ad_ (S:=qa.mem) (lo:=0) (hi:=st+L) (Int.le_refl _)).length_le oq_;have h2:=(ad_ (S:=qb.mem) (lo:=0) (hi:=st+L) (Int.le_refl _)).length_le oq_;omega
 have HA9:=hq_ hA9;obtain ⟨R,hR⟩:∃ R,R=qo_ X st L:=⟨_,rfl⟩;have hRf:R.frm=st:=by rw [hR];rfl
 have hRp:R.period=L:=by rw [hR];rfl
 have hRh:R.head=X.filter (fun x=>decide (x<st)):=by rw [hR];rfl
 have hRc:R.cycle=(X.filter (fun x=>!decide (x<st))).map (· - st):=by rw [hR];rfl
 have hRo:=vg_ hst0 hL0 hpf HU0.out;rw [<- hX,<- hR] at hRo;have hRl:R.head.length+R.cycle.length=X.length:=by
  rw [hRh,hRc,List.length_map];exact nd_ X _
 have HRV:Hid (Valid R):=hq_ ⟨hRo.1,by rw [hRf];omega,by rw [hRp];omega,by rw [hRl];exact hcn⟩;have HRQ:Hid (a6_ q R.mem):=hq_ (HQ.out.congr fun n=>((hRo.2 n).trans (HU.out n)).symm);have HRF:=hq_ hRf;have HRP:=hq_ hRp;have HRH:=hq_ hRh;have HRC:=hq_ hRc;have dL:(L == 0)=false:=by rw [beq_eq_false_iff_ne];omega
 have dX:¬ (1048576:Int)<(X.length:Int):=oq_;have dX2:decide ((1048576:Int)<(X.length:Int))=false:=by simp;omega
 clear hpf hX hA9 hR hRf hRp hRh hRc hRo hRl
 go_enter Tryz.func139,Tryz.ntmps139
 go_upto_region 3 with (go_at_call 62;first|((with_reducible refine (HVA.out _ xE).mono ?_);rintro e w1 ⟨rfl,hb1⟩;obtain ⟨hx1,hf1⟩:=au_ hb1;(try simp only [World.size_alloc,World.size_drew,af_,World.size_setCell] at hx1 hf1);have hz1:w.heap.size+2<w1.heap.size:=(by have h7:=hb1.size;simp at h7;omega))|((with_reducible refine (HVB.out _ xE).mono ?_);rintro e w2 ⟨rfl,hb2⟩;obtain ⟨hx2,hf2⟩:=au_ hb2;(try simp only [World.size_alloc,World.size_drew,af_,World.size_setCell] at hx2 hf2);have hz2:w.heap.size+2<w2.heap.size:=(by have h7:=hb2.size;omega)))
 have hA:Bxx w2 w.heap.size #[.slice a1 p1.head.length m1,.int .i64 p1.frm,.int .i64 p1.period,.slice a2 p1.cycle.length m2] 39:=((((Bxx.at rfl).alloc _).alloc _).upto hb1 tq_).upto hb2 oq_;have hB:Bxx w2 (w.heap.size+1) #[.slice a3 p2.head.length m3,.int .i64 p2.frm,.int .i64 p2.period,.slice a4 p2.cycle.length m4] 39:=(((Bxx.at sq_).alloc _).upto hb1 sq_).upto hb2 oq_;have hE2:Below w.heap.size w w2:=by exact xE
 have hRB:Bxx w2 (w.heap.size+1+1) #[.slice none 0 0,.int .i64 0,.int .i64 0,.slice none 0 0] 39:=((Bxx.at sq_).upto hb1 sq_).upto hb2 oq_;clear hb1 hb2 hx1 hf1 hx2 hf2 hz1;have A0:w2.cell? ⟨w.heap.size,0,none⟩=some (.slice a1 p1.head.length m1):=(hA.cells 0).1;have A1:w2.cell? ⟨w.heap.size,1,none⟩=some (.int .i64 p1.frm):=(hA.cells 1).1;have A2:w2.cell? ⟨w.heap.size,2,none⟩=some (.int .i64 p1.period):=(hA.cells 2).1;have A3:w2.cell? ⟨w.heap.size,3,none⟩=some (.slice a2 p1.cycle.length m2):=(hA.cells 3).1;have B0:w2.cell? ⟨w.heap.size+1,0,none⟩=some (.slice a3 p2.head.length m3):=(hB.cells 0).1;have B1:w2.cell? ⟨w.heap.size+1,1,none⟩=some (.int .i64 p2.frm):=(hB.cells 1).1;have B2:w2.cell? ⟨w.heap.size+1,2,none⟩=some (.int .i64 p2.period):=(hB.cells 2).1;have B3:w2.cell? ⟨w.heap.size+1,3,none⟩=some (.slice a4 p2.cycle.length m4):=(hB.cells 3).1;go_upto_region 4 with (go_at_call 173;(with_reducible refine (HCO.out _ xE).mono ?_);rintro e w3 ⟨x1,x2,x3,x4,rfl,ho1,ho2,hb3⟩;obtain ⟨a5,m5,a6,m6,rfl,rfl⟩:=ho1.form;obtain ⟨a7,m7,a8,m8,rfl,rfl⟩:=ho2.form)
 have hz2a:w.heap.size+2<w2.heap.size:=hz2;have hzz3:=hb3.size;generalize hbA:w3.heap.size=bA at *;refine al_ (F:=fun U=>Bxx U bA #[.slice a5 qa.head.length m5,.int .i64 qa.frm,.int .i64 qa.period,.slice a6 qa.cycle.length m6] 39∧Bxx U (bA+1) #[.slice a7 qb.head.length m7,.int .i64 qb.frm,.int .i64 qb.period,.slice a8 qb.cycle.length m8] 39∧a8_ U (.slice a5 qa.head.length m5) (.slice a6 qa.cycle.length m6) qa∧a8_ U (.slice a7 qb.head.length m7) (.slice a8 qb.cycle.length m8) qb∧Bxx U (w.heap.size+1+1) #[.slice none 0 0,.int .i64 0,.int .i64 0,.slice none 0 0] 39∧Below w.heap.size w U)
  ⟨(Bxx.at hbA.symm).alloc _,Bxx.at (by simp [hbA]),ho1.is.ext xE,ho2.is.ext xE,((hRB.below hb3).alloc _).alloc _,xE⟩ ?_
 clear hA hB A0 A1 A2 A3 B0 B1 B2 B3 ho1 ho2 hb3 hbA hE2 hRB;rintro W4 ⟨hqA,hqB,hpa,hpb,hRB,hE4⟩;have HPA:=hq_ hpa;have HPB:=hq_ hpb;have HE4:=hq_ hE4;have A0:W4.cell? ⟨bA,0,none⟩=some (.slice a5 qa.head.length m5):=(hqA.cells 0).1;have A1:W4.cell? ⟨bA,1,none⟩=some (.int .i64 qa.frm):=(hqA.cells 1).1;have A2:W4.cell? ⟨bA,2,none⟩=some (.int .i64 qa.period):=(hqA.cells 2).1;have A3:W4.cell? ⟨bA,3,none⟩=some (.slice a6 qa.cycle.length m6):=(hqA.cells 3).1;have B0:W4.cell? ⟨bA+1,0,none⟩=some (.slice a7 qb.head.length m7):=(hqB.cells 0).1;have B1:W4.cell? ⟨bA+1,1,none⟩=some (.int .i64 qb.frm):=(hqB.cells 1).1;have B2:W4.cell? ⟨bA+1,2,none⟩=some (.int .i64 qb.period):=(hqB.cells 2).1;have B3:W4.cell? ⟨bA+1,3,none⟩=some (.slice a8 qb.cycle.length m8):=(hqB.cells 3).1;have hlA:=hqA.lt;have hlB:=hqB.lt;clear hqA hqB hpa hpb hE4;have HRB:=hq_ hRB;have hlR:=hRB.lt;clear hRB;go_upto_region 6 with (fail)
 refine ai_ (w0:=W4) [0,1,2,3,4,5,6,7,8,9,10,11] [12] (fun v=>⟨#[perV (.slice a1 p1.head.length m1) (.slice a2 p1.cycle.length m2) p1.frm p1.period,perV (.slice a3 p2.head.length m3) (.slice a4 p2.cycle.length m4) p2.frm p2.period,.int .i64 kd,.pointer (some ⟨w.heap.size,0,none⟩),.pointer (some ⟨w.heap.size+1,0,none⟩),undef,.pointer (some ⟨w.heap.size+1+1,0,none⟩),.int .i64 0,.pointer (some ⟨bA,0,none⟩),.pointer (some ⟨bA+1,0,none⟩),.int .i64 st,.int .i64 L,undef,undef,undef,.agg #[.slice a1 p1.head.length m1,.int .i64 p1.frm,.int .i64 p1.period,.slice a2 p1.cycle.length m2],.bool true,.bool false,.bool false,.agg #[.slice a3 p2.head.length m3,.int .i64 p2.frm,.int .i64 p2.period,.slice a4 p2.cycle.length m4],.bool true,.bool false,.bool false,undef,.tuple #[perV (.slice a5 qa.head.length m5) (.slice a6 qa.cycle.length m6) qa.frm qa.period,perV (.slice a7 qb.head.length m7) (.slice a8 qb.cycle.length m8) qb.frm qb.period,.int .i64 st,.int .i64 L],.agg #[.slice a1 p1.head.length m1,.int .i64 p1.frm,.int .i64 p1.period,.slice a2 p1.cycle.length m2],.agg #[.slice a3 p2.head.length m3,.int .i64 p2.frm,.int .i64 p2.period,.slice a4 p2.cycle.length m4],.tuple #[perV (.slice a5 qa.head.length m5) (.slice a6 qa.cycle.length m6) qa.frm qa.period,perV (.slice a7 qb.head.length m7) (.slice a8 qb.cycle.length m8) qb.frm qb.period,.int .i64 st,.int .i64 L],perV (.slice a5 qa.head.length m5) (.slice a6 qa.cycle.length m6) qa.frm qa.period,perV (.slice a7 qb.head.length m7) (.slice a8 qb.cycle.length m8) qb.frm qb.period,.int .i64 st,.int .i64 L,.int .i64 L,.bool false,undef,v 0,v 1,v 2,v 3,v 4,v 5,v 6,v 7,v 8,v 9,v 10,v 11,undef,undef,undef,undef,undef,undef,undef,undef,undef,undef,undef,undef,undef,undef,undef,undef,undef,undef,undef,undef,undef,undef,undef,undef,undef,undef,undef,undef,undef,undef,undef,undef,undef,undef,undef,undef,undef,undef,undef,undef,undef,undef,undef],[]⟩) [.agg #[.slice a5 qa.head.length m5,.int .i64 qa.frm,.int .i64 qa.period,.slice a6 qa.cycle.length m6],.int .i64 st,.int .i64 L,.int .i64 (st+L),undef,.agg #[.slice a7 qb.head.length m7,.int .i64 qb.frm,.int .i64 qb.period,.slice a8 qb.cycle.length m8],.int .i64 st,.int .i64 L,.int .i64 (st+L),undef,.int .i64 kd,undef] [4,9,11] (fun i v lo hi W=>match i with|4=>Ints W (v 4) (sel qa.mem 0 (st+L))|9=>Ints W (v 9) (sel qb.mem 0 (st+L))|11=>Ints W (v 11) X|_=>True) (fun W=>(W.cell? ⟨bA,0,none⟩=some (.slice a5 qa.head.length m5)∧W.cell? ⟨bA,1,none⟩=some (.int .i64 qa.frm)∧W.cell? ⟨bA,2,none⟩=some (.int .i64 qa.period)∧W.cell? ⟨bA,3,none⟩=some (.slice a6 qa.cycle.length m6))∧(W.cell? ⟨bA+1,0,none⟩=some (.slice a7 qb.head.length m7)∧W.cell? ⟨bA+1,1,none⟩=some (.int .i64 qb.frm)∧W.cell? ⟨bA+1,2,none⟩=some (.int .i64 qb.period)∧W.cell? ⟨bA+1,3,none⟩=some (.slice a8 qb.cycle.length m8))∧a8_ W (.slice a5 qa.head.length m5) (.slice a6 qa.cycle.length m6) qa∧a8_ W (.slice a7 qb.head.length m7) (.slice a8 qb.cycle.length m8) qb) (fun W hb=>⟨⟨cux A0 hb,cux A1 hb,cux A2 hb,cux A3 hb⟩,⟨cux B0 hb,cux B1 hb,cux B2 hb,cux B3 hb⟩,HPA.out.ext hb,HPB.out.ext hb⟩) ?stab ?loc ?steps ?fin
 case stab=>
  refine ⟨?_,?_,?_,trivial⟩
  ·intro v lo hi W W' h hb;exact h.ext hb
  ·intro v lo hi W W' h hb;exact h.ext hb
  ·intro v lo hi W W' h hb;exact h.ext hb
 case loc=>
  refine ⟨?_,?_,?_,trivial⟩
  ·intro v v' lo lo' hi hi' W hag h;have q:=hag 4 (.inl rfl)
   (try dsimp only at h ⊢)
   simp only [q.1,q.2.1,q.2.2] at h;exact h
  ·intro v v' lo lo' hi hi' W hag h;have q:=hag 9 (.inl rfl)
   (try dsimp only at h ⊢)
   simp only [q.1,q.2.1,q.2.2] at h;exact h
  ·intro v v' lo lo' hi hi' W hag h;have q:=hag 11 (.inl rfl)
   (try dsimp only at h ⊢)
   simp only [q.1,q.2.1,q.2.2] at h;exact h
 case steps=>
  refine .c [] [] rfl ?_ (.c [] [] rfl ?_ (.c [] [] rfl ?_ (.c [1,2] [] rfl ?_ (.c [0,3] [] rfl ?_ (.c [] [] rfl ?_ (.c [] [] rfl ?_ (.c [] [] rfl ?_ (.c [6,7] [] rfl ?_ (.c [5,8] [] rfl ?_ (.c [] [] rfl ?_ (.c [10] [4,9] rfl ?_ (.n))))))))))))
  all_goals try exact stw
  ·rintro v lo hi W hb ⟨⟨g0,g1,g2,g3⟩,⟨k0,k1,k2,k3⟩,hPa,hPb⟩ _;refine .inl ⟨rfl,fun K hK=>?_⟩;simp only [ov,vat,Nat.reduceBEq,cond_true,cond_false];go_wp2_with (go_at_call 168;refine (g7_ _ _ qa 0 (st+L) _ (hPa.ext xE) HQA.out.wf oq_ oq_ oq_ oq_ oq_ oq_).mono ?_;rintro e w9 ⟨mv,rfl,ho9,hb9⟩)
   exact acx (hK mv w9 hb9 ho9.ints) (by simp [ov,vat,upd])
  ·rintro v lo hi W hb ⟨⟨g0,g1,g2,g3⟩,⟨k0,k1,k2,k3⟩,hPa,hPb⟩ _;refine .inl ⟨rfl,fun K hK=>?_⟩;simp only [ov,vat,Nat.reduceBEq,cond_true,cond_false];go_wp2_with (go_at_call 168;refine (g7_ _ _ qb 0 (st+L) _ (hPb.ext xE) HQB.out.wf oq_ oq_ oq_ oq_ oq_ oq_).mono ?_;rintro e w9 ⟨mv,rfl,ho9,hb9⟩)
   exact acx (hK mv w9 hb9 ho9.ints) (by simp [ov,vat,upd])
  ·rintro v lo hi W hb ⟨⟨g0,g1,g2,g3⟩,⟨k0,k1,k2,k3⟩,hPa,hPb⟩ ⟨⟨la4,lb4,D4⟩,⟨la9,lb9,D9⟩,_⟩;refine .inl ⟨rfl,fun K hK=>?_⟩;simp only [ov,vat,Nat.reduceBEq,cond_true,cond_false]
   (try dsimp only at D4 D9)
   go_wp2_with (go_at_call 174;refine (mu_ (v 4) (v 9) _ _ kd _ D4 D9 HA9.out).mono ?_;rintro e w9 ⟨mv,rfl,ho9,hb9⟩;rw [HX.out] at ho9)
   exact acx (hK mv w9 hb9 ho9.ints) (by simp [ov,vat,upd])
 case fin=>
  rintro v lo hi W5 hb5 _ hf hap;show wpList _ _ _ [_] _ _;have hi9:Ints W5 (v 11) X:=(hf 11 rfl).2.2.2;clear hf hap
  (try dsimp only)
  have HE5:Hid (Below w.heap.size w W5):=hq_ (by have hE4:=HE4.out;exact xE);have HRB5:=hq_ (HRB.out.below hb5);have hlR5:=HRB5.out.lt;generalize v 0=y0,v 1=y1,v 2=y2,v 3=y3,v 4=y4,v 5=y5,v 6=y6,v 7=y7,v 8=y8,v 9=y9,v 10=y10;have HI9:=hq_ hi9;obtain ⟨⟨a9,c9,e9,_⟩,_,_⟩:=hi9;rw [e9];rw [e9] at HI9;clear e9 hb5 HRB HE4 HPA HPB A0 A1 A2 A3 B0 B1 B2 B3;go_upto_region 10 with (fail)
  obtain ⟨ob,hob⟩:∃ ob,ob=W5.heap.size:=⟨_,rfl⟩;have hOL:OL w ob (ob+1) st L (.slice none 0 0) (.slice none 0 0) [] [] (W5.alloc (.cells #[.slice none 0 0,.int .i64 st,.int .i64 L,.slice none 0 0] 39)):=
   ⟨by have hE:=HE5.out;exact xE,HRB5.out.alloc _,Bxx.at hob,OwnI.nil _ _,OwnI.nil _ _,fun k e=>by simp [Value.ownBlock] at e,oq_,oq_,tq_⟩
  refine al_ (F:=fun U=>OL w ob (ob+1) st L (.slice none 0 0) (.slice none 0 0) [] [] U∧IntsIn U 0 ob (.slice a9 X.length c9) X) ⟨hOL,by rw [hob];exact (HI9.out.inn).alloc _ (Nat.le_refl _)⟩ ?_;rw [<- hob];clear hOL hob HI9 HRB5 HE5 hlR5;rintro W6 ⟨hL6,hi6⟩;have HL6:=hq_ hL6;have HI6:=hq_ hi6;clear hL6 hi6;go_wp2_with fail
  go_loopw [14] (fun i wr=>∃ (k:Nat) (hv cv:Value),k≤X.length∧i=.int .i64 k∧OL w ob (ob+1) st L hv cv ((X.take k).filter (fun x=>decide (x<st))) (((X.take k).filter (fun x=>!decide (x<st))).map (· - st)) wr∧IntsIn wr 0 ob (.slice a9 X.length c9) X) (fun i _=>X.length-(intOf i).toNat)
  case atStart=>exact ⟨0,_,_,oq_,rfl,HL6.out,HI6.out⟩
  case round=>
   obtain ⟨k,hv,cv,hk,rfl,hst,hb⟩:=hrel;have HST:=hq_ hst;have HB:=hq_ hb;have o0:=(hst.obx.cells 0).1;have o1:=(hst.obx.cells 1).1;have o2:=(hst.obx.cells 2).1;have o3:=(hst.obx.cells 3).1;have oz0:=(hst.obx.cells 0).2;have oz3:=(hst.obx.cells 3).2;have hs2:=hst.o2;have hs3:=hst.o3;have hs1:=hst.o1
   by_cases hlt:k<X.length
   ·have hlI:(k:Int)<X.length:=oq_;obtain ⟨⟨a',c',he,_,_,h38⟩,hlen8,hrg⟩:=hb.ints;injection he with e1 _ e2
    subst e1;subst e2;rcases h38 with h38|⟨b8,f8,rfl,hcell⟩
    ·rw [h38] at hlt;simp at hlt
    have hcl:=hcell k hlt;have hyb:=HXR.out.2 _ (ah_ hlt);have HT:Hid (X.take (k+1)=X.take k ++ [X.getD k 0]):=hq_ (by
     rw [List.take_succ_eq_append_getElem hlt,List.getD_eq_getElem?_getD,List.getElem?_eq_getElem hlt];rfl)
    have hk2:(X.take k).length≤1048576:=by rw [List.length_take];omega
    have hH1:((X.take k).filter (fun x=>decide (x<st))).length≤1048576:=Nat.le_trans (List.length_filter_le _ _) hk2;have hH2:(((X.take k).filter (fun x=>!decide (x<st))).map (· - st)).length≤1048576:=by rw [List.length_map];exact Nat.le_trans (List.length_filter_le _ _) hk2
    have hown:=hst.hd;have howc:=hst.cy;generalize X.getD k 0=y at *
    by_cases hys:y<st
    ·have dys:decide (y<st)=true:=by simp [hys]
     have HFH:Hid ((X.take (k+1)).filter (fun x=>decide (x<st))=(X.take k).filter (fun x=>decide (x<st)) ++ [y]):=hq_ (by rw [HT.out,List.filter_append];simp [hys]);have HFC:Hid (((X.take (k+1)).filter (fun x=>!decide (x<st))).map (· - st)=((X.take k).filter (fun x=>!decide (x<st))).map (· - st)):=hq_ (by rw [HT.out,List.filter_append];simp [hys]);generalize (X.take k).filter (fun x=>decide (x<st))=HLs at *;generalize ((X.take k).filter (fun x=>!decide (x<st))).map (· - st)=CLs at *;clear hcell hrg hst hk2 howc;go_upto_region 14 with (fail)
     refine ai_ (w0:=wr) [0,1,2,3,4,5,6] [7,8,9] (fun v=>⟨#[perV (.slice a1 p1.head.length m1) (.slice a2 p1.cycle.length m2) p1.frm p1.period,perV (.slice a3 p2.head.length m3) (.slice a4 p2.cycle.length m4) p2.frm p2.period,.int .i64 kd,.pointer (some ⟨w.heap.size,0,none⟩),.pointer (some ⟨w.heap.size+1,0,none⟩),undef,.pointer (some ⟨w.heap.size+1+1,0,none⟩),.int .i64 0,.pointer (some ⟨bA,0,none⟩),.pointer (some ⟨bA+1,0,none⟩),.int .i64 st,.int .i64 L,.slice (some ⟨b8,f8,none⟩) X.length c9,.pointer (some ⟨ob,0,none⟩),.int .i64 ↑k,.agg #[.slice a1 p1.head.length m1,.int .i64 p1.frm,.int .i64 p1.period,.slice a2 p1.cycle.length m2],.bool true,.bool false,.bool false,.agg #[.slice a3 p2.head.length m3,.int .i64 p2.frm,.int .i64 p2.period,.slice a4 p2.cycle.length m4],.bool true,.bool false,.bool false,undef,.tuple #[perV (.slice a5 qa.head.length m5) (.slice a6 qa.cycle.length m6) qa.frm qa.period,perV (.slice a7 qb.head.length m7) (.slice a8 qb.cycle.length m8) qb.frm qb.period,.int .i64 st,.int .i64 L],.agg #[.slice a1 p1.head.length m1,.int .i64 p1.frm,.int .i64 p1.period,.slice a2 p1.cycle.length m2],.agg #[.slice a3 p2.head.length m3,.int .i64 p2.frm,.int .i64 p2.period,.slice a4 p2.cycle.length m4],.tuple #[perV (.slice a5 qa.head.length m5) (.slice a6 qa.cycle.length m6) qa.frm qa.period,perV (.slice a7 qb.head.length m7) (.slice a8 qb.cycle.length m8) qb.frm qb.period,.int .i64 st,.int .i64 L],perV (.slice a5 qa.head.length m5) (.slice a6 qa.cycle.length m6) qa.frm qa.period,perV (.slice a7 qb.head.length m7) (.slice a8 qb.cycle.length m8) qb.frm qb.period,.int .i64 st,.int .i64 L,.int .i64 L,.bool false,undef,y0,y1,y2,y3,y4,y5,y6,y7,y8,y9,y10,.slice (some ⟨b8,f8,none⟩) X.length c9,.slice (some ⟨b8,f8,none⟩) X.length c9,.int .i64 ↑X.length,.bool false,undef,.int .i64 st,.int .i64 L,.agg #[.slice none 0 0,.int .i64 st,.int .i64 L,.slice none 0 0],.int .i64 ↑k,.slice (some ⟨b8,f8,none⟩) X.length c9,.int .i64 ↑X.length,.bool true,u58,u59,.slice (some ⟨b8,f8,none⟩) X.length c9,.int .i64 ↑k,.pointer (some ⟨b8,f8+k,none⟩),.int .i64 y,.int .i64 st,.bool true,v 0,v 1,v 2,v 3,v 4,v 5,v 6,u73,u74,u75,u76,u77,u78,u79,u80,u81,u82,u83,u84,u85,undef,undef,undef,undef],[]⟩) [.pointer (some ⟨ob,0,none⟩),hv,.slice (some ⟨b8,f8,none⟩) X.length c9,.int .i64 k,.pointer (some ⟨b8,f8+k,none⟩),.int .i64 y,undef] [6] (fun i v lo hi W=>match i with|6=>v 6=.slice (some ⟨lo 6,0,none⟩) 1 1∧lo 6<hi 6∧Bxx W (lo 6) #[.int .i64 (y)] 3|_=>True) (fun W=>W.cell? ⟨ob,0,none⟩=some hv∧W.cell? ⟨b8,f8+k,none⟩=some (.int .i64 y)∧True) (fun W9 hb=>⟨cux o0 hb,cux hcl hb,trivial⟩) ?stab ?loc ?steps ?fin (fun j=>match j with|0=>u66|1=>u67|2=>u68|3=>u69|4=>u70|5=>u71|6=>u72|_=>undef)
     case stab=>
      refine ⟨?_,trivial⟩
      ·intro v lo hi W W' h hb;exact ⟨h.1,h.2.1,h.2.2.below hb⟩
     case loc=>
      refine ⟨?_,trivial⟩
      ·intro v v' lo lo' hi hi' W hag h;have q:=hag 6 (.inl rfl)
       (try dsimp only at h ⊢)
       simp only [q.1,q.2.1,q.2.2] at h;exact h
     case steps=>
      refine .c [] [] rfl ?_ (.c [0] [] rfl ?_ (.c [] [] rfl ?_ (.c [] [] rfl ?_ (.c [2,3] [] rfl ?_ (.c [4] [] rfl ?_ (.c [5] [] rfl ?_ (.n)))))))
      all_goals try exact stw
      ·rintro v lo hi W hb ⟨g0,g1,g2⟩ _;refine .inl ⟨rfl,fun K hK=>?_⟩;simp only [ov,vat,Nat.reduceBEq,cond_true,cond_false];go_wp2_with fail
       exact acx (hK (.slice (some ⟨W.heap.size,0,none⟩) 1 1) _ (Ea (Er _) _) ⟨rfl,sq_,Bxx.new _ _ _⟩) (by simp [ov,vat,upd])
     case fin=>
      rintro v lo hi W2 hb2 ⟨g0,g1,g2⟩ hf hap;show wpList _ _ _ [_,_,_] _ _;have e1:v 1=hv:=(hf 1 rfl).2.2.2;obtain ⟨l7,m7,n7,e7,lt7,hb7⟩:=hf 6 rfl;have hown1:=hown.ext hb2;have hz2:=hb2.size;have hnew:W2.cell? ⟨lo 6,0,none⟩=some (.int .i64 y):=(hb7.cells 0).1;clear hf hap g0 g1 g2
      (try dsimp only)
      rw [e1,e7];generalize lo 6=bn at *;refine ig_ rq_ _ _ rq_ (ob+1) hv _ y rq_ hown1 _ _ rq_ hnew ⟨oq_,oq_⟩ oq_ oq_ ?_;intro g cap W3 hown2 hgrow hbel hpl;have hbel':Below (ob+1) wr W3:=(hb2.mono hs3).trans hbel;have hqf2:W3.frozen? ⟨ob,0,none⟩=false:=(Below.frozen hbel' (p:=⟨ob,0,none⟩) hs2).trans oz0;have hqc2:W3.cell? ⟨ob,0,none⟩=some hv:=Below.cell' hbel' o0 hs2;go_wp2_with fail
      go_roundw
      case rel=>
       refine ⟨k+1,.slice (some ⟨g,0,none⟩) (HLs.length+1) cap,cv,oq_,by go_num,?_,?_⟩
       ·rw [HFH.out,HFC.out];exact HST.out.stepH hb2 hown2 hgrow hbel (fun j ej=>by
         have:g=j:=by simpa [Value.ownBlock] using ej
         rw [<- this];exact hpl)
       ·exact (HB.out.below hbel' oq_).set _ oq_
      case measure=>simp [intOf];omega
    ·have dys:decide (y<st)=false:=by simp;omega
     have HFH:Hid ((X.take (k+1)).filter (fun x=>decide (x<st))=(X.take k).filter (fun x=>decide (x<st))):=hq_ (by rw [HT.out,List.filter_append];simp [hys]);have HFC:Hid (((X.take (k+1)).filter (fun x=>!decide (x<st))).map (· - st)=((X.take k).filter (fun x=>!decide (x<st))).map (· - st) ++ [y-st]):=hq_ (by rw [HT.out,List.filter_append];simp [hys]);generalize (X.take k).filter (fun x=>decide (x<st))=HLs at *;generalize ((X.take k).filter (fun x=>!decide (x<st))).map (· - st)=CLs at *;clear hcell hrg hst hk2 hown;go_upto_region 15 with (fail)
     refine ai_ (w0:=wr) [0,1,2,3,4,5,6,7,8] [9,10,11] (fun v=>⟨#[perV (.slice a1 p1.head.length m1) (.slice a2 p1.cycle.length m2) p1.frm p1.period,perV (.slice a3 p2.head.length m3) (.slice a4 p2.cycle.length m4) p2.frm p2.period,.int .i64 kd,.pointer (some ⟨w.heap.size,0,none⟩),.pointer (some ⟨w.heap.size+1,0,none⟩),undef,.pointer (some ⟨w.heap.size+1+1,0,none⟩),.int .i64 0,.pointer (some ⟨bA,0,none⟩),.pointer (some ⟨bA+1,0,none⟩),.int .i64 st,.int .i64 L,.slice (some ⟨b8,f8,none⟩) X.length c9,.pointer (some ⟨ob,0,none⟩),.int .i64 ↑k,.agg #[.slice a1 p1.head.length m1,.int .i64 p1.frm,.int .i64 p1.period,.slice a2 p1.cycle.length m2],.bool true,.bool false,.bool false,.agg #[.slice a3 p2.head.length m3,.int .i64 p2.frm,.int .i64 p2.period,.slice a4 p2.cycle.length m4],.bool true,.bool false,.bool false,undef,.tuple #[perV (.slice a5 qa.head.length m5) (.slice a6 qa.cycle.length m6) qa.frm qa.period,perV (.slice a7 qb.head.length m7) (.slice a8 qb.cycle.length m8) qb.frm qb.period,.int .i64 st,.int .i64 L],.agg #[.slice a1 p1.head.length m1,.int .i64 p1.frm,.int .i64 p1.period,.slice a2 p1.cycle.length m2],.agg #[.slice a3 p2.head.length m3,.int .i64 p2.frm,.int .i64 p2.period,.slice a4 p2.cycle.length m4],.tuple #[perV (.slice a5 qa.head.length m5) (.slice a6 qa.cycle.length m6) qa.frm qa.period,perV (.slice a7 qb.head.length m7) (.slice a8 qb.cycle.length m8) qb.frm qb.period,.int .i64 st,.int .i64 L],perV (.slice a5 qa.head.length m5) (.slice a6 qa.cycle.length m6) qa.frm qa.period,perV (.slice a7 qb.head.length m7) (.slice a8 qb.cycle.length m8) qb.frm qb.period,.int .i64 st,.int .i64 L,.int .i64 L,.bool false,undef,y0,y1,y2,y3,y4,y5,y6,y7,y8,y9,y10,.slice (some ⟨b8,f8,none⟩) X.length c9,.slice (some ⟨b8,f8,none⟩) X.length c9,.int .i64 ↑X.length,.bool false,undef,.int .i64 st,.int .i64 L,.agg #[.slice none 0 0,.int .i64 st,.int .i64 L,.slice none 0 0],.int .i64 ↑k,.slice (some ⟨b8,f8,none⟩) X.length c9,.int .i64 ↑X.length,.bool true,u58,u59,.slice (some ⟨b8,f8,none⟩) X.length c9,.int .i64 ↑k,.pointer (some ⟨b8,f8+k,none⟩),.int .i64 y,.int .i64 st,.bool false,u66,u67,u68,u69,u70,u71,u72,u73,u74,v 0,v 1,v 2,v 3,v 4,v 5,v 6,v 7,v 8,u84,u85,undef,undef,undef,undef],[]⟩) [.pointer (some ⟨ob,3,none⟩),cv,.slice (some ⟨b8,f8,none⟩) X.length c9,.int .i64 k,.pointer (some ⟨b8,f8+k,none⟩),.int .i64 y,.int .i64 st,.int .i64 (y-st),undef] [8] (fun i v lo hi W=>match i with|8=>v 8=.slice (some ⟨lo 8,0,none⟩) 1 1∧lo 8<hi 8∧Bxx W (lo 8) #[.int .i64 (y-st)] 3|_=>True) (fun W=>W.cell? ⟨ob,3,none⟩=some cv∧W.cell? ⟨b8,f8+k,none⟩=some (.int .i64 y)∧True) (fun W9 hb=>⟨cux o3 hb,cux hcl hb,trivial⟩) ?stab ?loc ?steps ?fin (fun j=>match j with|0=>u75|1=>u76|2=>u77|3=>u78|4=>u79|5=>u80|6=>u81|7=>u82|8=>u83|_=>undef)
     case stab=>
      refine ⟨?_,trivial⟩
      ·intro v lo hi W W' h hb;exact ⟨h.1,h.2.1,h.2.2.below hb⟩
     case loc=>
      refine ⟨?_,trivial⟩
      ·intro v v' lo lo' hi hi' W hag h;have q:=hag 8 (.inl rfl)
       (try dsimp only at h ⊢)
       simp only [q.1,q.2.1,q.2.2] at h;exact h
     case steps=>
      refine .c [] [] rfl ?_ (.c [0] [] rfl ?_ (.c [] [] rfl ?_ (.c [] [] rfl ?_ (.c [2,3] [] rfl ?_ (.c [4] [] rfl ?_ (.c [] [] rfl ?_ (.c [5,6] [] rfl ?_ (.c [7] [] rfl ?_ (.n)))))))))
      all_goals try exact stw
      ·rintro v lo hi W hb ⟨g0,g1,g2⟩ _;refine .inl ⟨rfl,fun K hK=>?_⟩;simp only [ov,vat,Nat.reduceBEq,cond_true,cond_false];go_wp2_with fail
       exact acx (hK (.slice (some ⟨W.heap.size,0,none⟩) 1 1) _ (Ea (Er _) _) ⟨rfl,sq_,Bxx.new _ _ _⟩) (by simp [ov,vat,upd])
     case fin=>
      rintro v lo hi W2 hb2 ⟨g0,g1,g2⟩ hf hap;show wpList _ _ _ [_,_,_] _ _;have e1:v 1=cv:=(hf 1 rfl).2.2.2;obtain ⟨l7,m7,n7,e7,lt7,hb7⟩:=hf 8 rfl;have hown1:=howc.ext hb2;have hz2:=hb2.size;have hnew:W2.cell? ⟨lo 8,0,none⟩=some (.int .i64 (y-st)):=(hb7.cells 0).1;clear hf hap g0 g1 g2
      (try dsimp only)
      rw [e1,e7];generalize lo 8=bn at *;refine ig_ rq_ _ _ rq_ (ob+1) cv _ (y-st) rq_ hown1 _ _ rq_ hnew ⟨oq_,oq_⟩ oq_ oq_ ?_;intro g cap W3 hown2 hgrow hbel hpl;have hbel':Below (ob+1) wr W3:=(hb2.mono hs3).trans hbel;have hqf2:W3.frozen? ⟨ob,3,none⟩=false:=(Below.frozen hbel' (p:=⟨ob,3,none⟩) hs2).trans oz3;have hqc2:W3.cell? ⟨ob,3,none⟩=some cv:=Below.cell' hbel' o3 hs2;go_wp2_with fail
      go_roundw
      case rel=>
       refine ⟨k+1,hv,.slice (some ⟨g,0,none⟩) (CLs.length+1) cap,oq_,by go_num,?_,?_⟩
       ·rw [HFH.out,HFC.out];exact HST.out.stepC hb2 hown2 hgrow hbel (fun j ej=>by
         have:g=j:=by simpa [Value.ownBlock] using ej
         rw [<- this];exact hpl)
       ·exact (HB.out.below hbel' oq_).set _ oq_
      case measure=>simp [intOf];omega
   ·obtain rfl:k=X.length:=oq_;have hhd:=hst.hd;have hcy:=hst.cy;have hRB:=hst.rb;have hbw:=hst.below;rw [List.take_length] at hhd hcy;rw [<- HRH.out] at hhd;rw [<- HRC.out] at hcy;obtain ⟨ha1,hc1,rfl⟩:=hhd.form;obtain ⟨ca1,cc1,rfl⟩:=hcy.form;have HPR:Hid (a8_ wr (.slice ha1 R.head.length hc1) (.slice ca1 R.cycle.length cc1) R):=hq_ ⟨hhd.ints,hcy.ints⟩;have HCAN:Hid (Calls Tryz.prog 164 #[.agg #[.slice ha1 R.head.length hc1,.int .i64 st,.int .i64 L,.slice ca1 R.cycle.length cc1]] wr (b6_ q wr)):=hq_ (by
     have h:=gm_ _ _ R q wr HPR.out HRV.out HRQ.out;rw [HRF.out,HRP.out] at h;exact h)
    have r0:=hRB.cells 0;have HRBx:=hq_ hRB;have hltr:=hRB.lt;clear hst HST hhd hcy hRB r0;go_wp2_with (go_at_call 164;refine HCAN.out.mono ?_;rintro e w7 ⟨y1,y2,rfl,ho7,hb7⟩;obtain ⟨a5',m5',a6',m6',rfl,rfl⟩:=ho7.form;have hR7:=HRBx.out.below hb7;have r0:=hR7.cells 0;have r1:=hR7.cells 1;have r2:=hR7.cells 2;have r3:=hR7.cells 3;have hlt7:=hR7.lt;clear hR7)
    exact bodyPost_ret (v:=.tuple #[perV (.slice a5' q.head.length m5') (.slice a6' q.cycle.length m6') q.frm q.period,.int .i64 0]) (by simp [results,Tryz.results139,go_sem, *]) rfl
     ⟨_,_,rfl,(ho7.above (by (repeat' (with_reducible first|exact a7_.refl _ _|refine a7_.alloc ?_ _|refine a7_.drew ?_|refine a7_.drewN ?_ _|refine a7_.setCell ?_ (by first|(simp;done)|(simp;omega)|omega) _)))).mono oq_,xE⟩
theorem y9_ (h c:Value) (p:Per) (a b:Int) (w:World) (hp:a8_ w h c p) (hv:Valid p) (h0:0≤a) (hab:a≤b) (hb:b≤1099511627776) :
  Calls Tryz.prog 83 #[perV h c p.frm p.period,.int .i64 a,.int .i64 b] w fun e w'=>e=.returned (.tuple #[.int .i64 (ay_ p b-ay_ p a),.int .i64 0])∧Below w.heap.size w w':=by
 have hl:∀ W,Below w.heap.size w W->a8_ W h c p:=fun W hb=>hp.ext hb;have HVB:=hq_ ((as_ p).2 hv);have f1:p.frm≤1125899906842624:=by have:=hv.frm;omega
 have f2:p.period≤1125899906842624:=by have:=hv.per;omega
 have HI1:Hid (InI p.frm):=by have:=hv.frm;have:=hv.wf.frm;exact hq_ ⟨oq_,oq_⟩
 have HI2:Hid (InI p.period):=by have:=hv.per;have:=hv.wf.per;exact hq_ ⟨oq_,oq_⟩
 have HV:=hq_ hv;have ba:=es_ HV.out.wf h0;have bb:=es_ HV.out.wf (show 0≤b by omega);have hw9:IntKind.i64.wrap (ay_ p b-ay_ p a)=ay_ p b-ay_ p a:=f5_ ⟨oq_,oq_⟩;clear hp hv
 go_enter Tryz.func83,Tryz.ntmps83
 go_wp2_with (go_at_call 62;refine (ca_ h c p _ (hl _ xE) HI1.out HI2.out).mono ?_;rintro e w1 ⟨he,hb1⟩;rw [HVB.out] at he;subst he;obtain ⟨hc1,hf1⟩:=au_ hb1;(try simp only [World.size_alloc,World.size_drew,af_,World.size_setCell] at hc1 hf1);have hz1:=hb1.size;(try simp only [World.size_alloc,World.size_drew,af_,World.size_setCell] at hz1);have hz1':w.heap.size<w1.heap.size:=oq_)
 have hcA:w1.cell? ⟨w.heap.size,0,none⟩=some h∧w1.cell? ⟨w.heap.size,1,none⟩=some (.int .i64 p.frm)∧w1.cell? ⟨w.heap.size,2,none⟩=some (.int .i64 p.period)∧w1.cell? ⟨w.heap.size,3,none⟩=some c:=by
  refine ⟨?_,?_,?_,?_⟩ <;> (rw [hc1 _ _ oq_];simp)
 have hW1:Below w.heap.size w w1:=by exact xE
 obtain ⟨hA0,hA1,hA2,hA3⟩:=hcA;clear hc1 hf1 hb1;refine ai_ (w0:=w1) [0,1,2,3,4,5,6] [7,8] (fun v=>⟨#[perV h c p.frm p.period,.int .i64 a,.int .i64 b,.pointer (some ⟨w.heap.size,0,none⟩),undef,undef,.int .i64 0,.int .i64 0,.agg #[h,.int .i64 p.frm,.int .i64 p.period,c],.bool true,.bool false,.bool false,.int .i64 a,.bool (decide (a<0)),.bool (decide (a<0)),.bool (decide (a<0)),.int .i64 b,.int .i64 a,.bool (decide (b<a)),.bool (decide (a<0) || decide (b<a)),.bool (decide (a<0) || decide (b<a)),.int .i64 b,.bool (decide (1099511627776<b)),.bool (decide (a<0) || decide (b<a) || decide (1099511627776<b)),v 0,v 1,v 2,v 3,v 4,v 5,v 6],[]⟩) [perV h c p.frm p.period,.int .i64 b,.int .i64 (ay_ p b),perV h c p.frm p.period,.int .i64 a,.int .i64 (ay_ p a),.int .i64 (ay_ p b-ay_ p a)] [] (fun _ _ _ _ _=>True) (fun W=>Below w.heap.size w W∧W.cell? ⟨w.heap.size,0,none⟩=some h∧W.cell? ⟨w.heap.size,1,none⟩=some (.int .i64 p.frm)∧W.cell? ⟨w.heap.size,2,none⟩=some (.int .i64 p.period)∧W.cell? ⟨w.heap.size,3,none⟩=some c) (fun W hb=>⟨by exact xE,cux hA0 hb,cux hA1 hb,cux hA2 hb,cux hA3 hb⟩) trivial trivial ?steps ?fin
 case steps=>
  refine .c [] [] rfl ?_ (.c [] [] rfl ?_ (.c [0,1] [] rfl ?_ (.c [] [] rfl ?_ (.c [] [] rfl ?_ (.c [3,4] [] rfl ?_ (.c [2,5] [] rfl ?_ (.n)))))))
  all_goals try exact stw
  ·rintro v lo hi W hb ⟨hE1,g0,g1,g2,g3⟩ _;refine .inl ⟨rfl,fun K hK=>?_⟩;simp only [ov,vat,Nat.reduceBEq,cond_true,cond_false];go_wp2_with (go_at_call 126;refine (xo_ h c p _ _ (hl _ xE) HV.out.wf f1 f2 oq_ oq_).mono ?_;rintro e w3 ⟨rfl,hb3⟩)
   exact acx (hK w3 hb3) (by simp [ov,vat,upd])
  ·rintro v lo hi W hb ⟨hE1,g0,g1,g2,g3⟩ _;refine .inl ⟨rfl,fun K hK=>?_⟩;simp only [ov,vat,Nat.reduceBEq,cond_true,cond_false];go_wp2_with (go_at_call 126;refine (xo_ h c p _ _ (hl _ xE) HV.out.wf f1 f2 oq_ oq_).mono ?_;rintro e w3 ⟨rfl,hb3⟩)
   exact acx (hK w3 hb3) (by simp [ov,vat,upd])
 case fin=>
  rintro v lo hi W hb ⟨hE1,g0,g1,g2,g3⟩ hf hap;show wpList _ _ _ [_,_] _ _;have e6:v 6=.int .i64 (ay_ p b-ay_ p a):=(hf 6 rfl).2.2.2;clear hf hap
  (try dsimp only)
  rw [e6];go_wp2_with fail
  go_ret2;exact ⟨rfl,hE1⟩
theorem t2_ (s:Int) (h c:Value) (p:Per) (w:World) (hp:a8_ w h c p) (hv:FV s p):Calls Tryz.prog 164 #[perV h c p.frm p.period] w (b6_ (canonC p.mem) w):=
 gm_ h c p _ w hp hv.valid hv.canon.1
theorem pw_ (s:Int) (h1 c1 h2 c2:Value) (p1 p2:Per) (w:World) (hp1:a8_ w h1 c1 p1) (hp2:a8_ w h2 c2 p2) (v1:FV s p1) (v2:FV s p2) :
  Calls Tryz.prog 95 #[perV h1 c1 p1.frm p1.period,perV h2 c2 p2.frm p2.period] w (b6_ (andP p1 p2) w):=by
 have h:=v1.op v2 And (fun n=>Iff.rfl) (fun n h=>v1.fac.low n h.1) (fun n h=>h.1.1);have HOP:∀ W,Below w.heap.size w W->Calls Tryz.prog 139 #[perV h1 c1 p1.frm p1.period,perV h2 c2 p2.frm p2.period,.int .i64 0] W (b6_ (andP p1 p2) W):=fun W hb=>by
  have hq:a6_ (andP p1 p2) (opS 0 p1.mem p2.mem):=by rw [dr_];exact h.1
  have a0:=v1.canon.2.fac.wf.frm;have hl:=h.2.2.1;have hl1:=c7_ v1.canon.2.fac.wf.per v2.canon.2.fac.wf.per;refine gz_ h1 c1 h2 c2 p1 p2 _ _ _ 0 W (hp1.ext hb) (hp2.ext hb) v1.valid v2.valid v1.canon.1 v2.canon.1 oq_ oq_ hq ?_;have hc:=h.2.2.2;rw [<- lq_,Int.toNat_of_nonneg oq_] at hc;have e:sel (opS 0 (canonC p1.mem).mem (canonC p2.mem).mem) 0 (max (canonC p1.mem).frm (canonC p2.mem).frm+lcmI (canonC p1.mem).period (canonC p2.mem).period)=sel (fun n=>p1.mem n∧p2.mem n) 0 (max (canonC p1.mem).frm (canonC p2.mem).frm+lcmI (canonC p1.mem).period (canonC p2.mem).period):=eb_ (Int.le_refl _) fun n=>by
   rw [dr_];show _↔_;simp only [v1.canon.1.mem n,v2.canon.1.mem n]
  rw [e];omega
 clear hp1 hp2 v1 v2 h
 go_enter Tryz.func95,Tryz.ntmps95
 go_wp2_with (go_at_call 139;refine (HOP _ xE).mono ?_;rintro e w2 ⟨h',c',rfl,hp2,hb2⟩;obtain ⟨a1,c1,a2,c2,rfl,rfl⟩:=hp2.form;obtain ⟨hc2,hf2⟩:=au_ hb2;have HP2:=hq_ hp2;clear hp2)
 exact bodyPost_ret (v:=.tuple #[perV (.slice a1 (andP p1 p2).head.length c1) (.slice a2 (andP p1 p2).cycle.length c2) (andP p1 p2).frm (andP p1 p2).period,.int .i64 0]) (by simp [results,Tryz.results95,go_sem, *]) rfl ⟨_,_,rfl,(HP2.out.above (by (repeat' (with_reducible first|exact a7_.refl _ _|refine a7_.alloc ?_ _|refine a7_.drew ?_|refine a7_.drewN ?_ _|refine a7_.setCell ?_ (by first|(simp;done)|(simp;omega)|omega) _)))).mono tq_,xE⟩
theorem t3_ (s:Int) (h1 c1 h2 c2:Value) (p1 p2:Per) (w:World) (hp1:a8_ w h1 c1 p1) (hp2:a8_ w h2 c2 p2) (v1:FV s p1) (v2:FV s p2) :
  Calls Tryz.prog 96 #[perV h1 c1 p1.frm p1.period,perV h2 c2 p2.frm p2.period] w (b6_ (orP p1 p2) w):=by
 have h:=v1.op v2 Or (fun n=>Iff.rfl) (fun n h=>h.elim (v1.fac.low n) (v2.fac.low n)) (fun n h=>h.elim (fun h=>h.1) (fun h=>h.1));have HOP:∀ W,Below w.heap.size w W->Calls Tryz.prog 139 #[perV h1 c1 p1.frm p1.period,perV h2 c2 p2.frm p2.period,.int .i64 1] W (b6_ (orP p1 p2) W):=fun W hb=>by
  have hq:a6_ (orP p1 p2) (opS 1 p1.mem p2.mem):=by rw [fl_];exact h.1
  have a0:=v1.canon.2.fac.wf.frm;have hl:=h.2.2.1;have hl1:=c7_ v1.canon.2.fac.wf.per v2.canon.2.fac.wf.per;refine gz_ h1 c1 h2 c2 p1 p2 _ _ _ 1 W (hp1.ext hb) (hp2.ext hb) v1.valid v2.valid v1.canon.1 v2.canon.1 oq_ oq_ hq ?_;have hc:=h.2.2.2;rw [<- lq_,Int.toNat_of_nonneg oq_] at hc;have e:sel (opS 1 (canonC p1.mem).mem (canonC p2.mem).mem) 0 (max (canonC p1.mem).frm (canonC p2.mem).frm+lcmI (canonC p1.mem).period (canonC p2.mem).period)=sel (fun n=>p1.mem n∨p2.mem n) 0 (max (canonC p1.mem).frm (canonC p2.mem).frm+lcmI (canonC p1.mem).period (canonC p2.mem).period):=eb_ (Int.le_refl _) fun n=>by
   rw [fl_];show _↔_;simp only [v1.canon.1.mem n,v2.canon.1.mem n]
  rw [e];omega
 clear hp1 hp2 v1 v2 h
 go_enter Tryz.func96,Tryz.ntmps96
 go_wp2_with (go_at_call 139;refine (HOP _ xE).mono ?_;rintro e w2 ⟨h',c',rfl,hp2,hb2⟩;obtain ⟨a1,c1,a2,c2,rfl,rfl⟩:=hp2.form;obtain ⟨hc2,hf2⟩:=au_ hb2;have HP2:=hq_ hp2;clear hp2)
 exact bodyPost_ret (v:=.tuple #[perV (.slice a1 (orP p1 p2).head.length c1) (.slice a2 (orP p1 p2).cycle.length c2) (orP p1 p2).frm (orP p1 p2).period,.int .i64 0]) (by simp [results,Tryz.results96,go_sem, *]) rfl ⟨_,_,rfl,(HP2.out.above (by (repeat' (with_reducible first|exact a7_.refl _ _|refine a7_.alloc ?_ _|refine a7_.drew ?_|refine a7_.drewN ?_ _|refine a7_.setCell ?_ (by first|(simp;done)|(simp;omega)|omega) _)))).mono tq_,xE⟩
theorem tg_ (s:Int) (h1 c1 h2 c2:Value) (p1 p2:Per) (w:World) (hp1:a8_ w h1 c1 p1) (hp2:a8_ w h2 c2 p2) (v1:FV s p1) (v2:FV s p2) :
  Calls Tryz.prog 135 #[perV h1 c1 p1.frm p1.period,perV h2 c2 p2.frm p2.period] w (b6_ (bu_ p1 p2) w):=by
 have h:=v1.op v2 (fun a b=>a∧¬ b) (fun n=>Iff.rfl) (fun n h=>v1.fac.low n h.1) (fun n h=>h.1.1);have HOP:∀ W,Below w.heap.size w W->Calls Tryz.prog 139 #[perV h1 c1 p1.frm p1.period,perV h2 c2 p2.frm p2.period,.int .i64 2] W (b6_ (bu_ p1 p2) W):=fun W hb=>by
  have hq:a6_ (bu_ p1 p2) (opS 2 p1.mem p2.mem):=by rw [d5_];exact h.1
  have a0:=v1.canon.2.fac.wf.frm;have hl:=h.2.2.1;have hl1:=c7_ v1.canon.2.fac.wf.per v2.canon.2.fac.wf.per;refine gz_ h1 c1 h2 c2 p1 p2 _ _ _ 2 W (hp1.ext hb) (hp2.ext hb) v1.valid v2.valid v1.canon.1 v2.canon.1 oq_ oq_ hq ?_;have hc:=h.2.2.2;rw [<- lq_,Int.toNat_of_nonneg oq_] at hc;have e:sel (opS 2 (canonC p1.mem).mem (canonC p2.mem).mem) 0 (max (canonC p1.mem).frm (canonC p2.mem).frm+lcmI (canonC p1.mem).period (canonC p2.mem).period)=sel (fun n=>p1.mem n∧¬ p2.mem n) 0 (max (canonC p1.mem).frm (canonC p2.mem).frm+lcmI (canonC p1.mem).period (canonC p2.mem).period):=eb_ (Int.le_refl _) fun n=>by
   rw [d5_];show _↔_;simp only [v1.canon.1.mem n,v2.canon.1.mem n]
  rw [e];omega
 clear hp1 hp2 v1 v2 h
 go_enter Tryz.func135,Tryz.ntmps135
 go_wp2_with (go_at_call 139;refine (HOP _ xE).mono ?_;rintro e w2 ⟨h',c',rfl,hp2,hb2⟩;obtain ⟨a1,c1,a2,c2,rfl,rfl⟩:=hp2.form;obtain ⟨hc2,hf2⟩:=au_ hb2;have HP2:=hq_ hp2;clear hp2)
 exact bodyPost_ret (v:=.tuple #[perV (.slice a1 (bu_ p1 p2).head.length c1) (.slice a2 (bu_ p1 p2).cycle.length c2) (bu_ p1 p2).frm (bu_ p1 p2).period,.int .i64 0]) (by simp [results,Tryz.results135,go_sem, *]) rfl ⟨_,_,rfl,(HP2.out.above (by (repeat' (with_reducible first|exact a7_.refl _ _|refine a7_.alloc ?_ _|refine a7_.drew ?_|refine a7_.drewN ?_ _|refine a7_.setCell ?_ (by first|(simp;done)|(simp;omega)|omega) _)))).mono tq_,xE⟩
theorem iw_ (x y:PV) (w:World) (hx:1≤x.p.period) (hx1:x.p.period≤1099511627776) (hy:1≤y.p.period) (hy1:y.p.period≤1099511627776) :
  Calls Tryz.prog 166 #[x.val,y.val] w fun e w'=>e=.returned (.bool (divB x.p y.p))∧Below w.heap.size w w':=by
 have n1:x.p.period≠0:=oq_;have n2:y.p.period≠0:=oq_;have b1:=Int.emod_nonneg x.p.period n2;have b2:=Int.emod_lt_of_pos x.p.period (show 0<y.p.period by omega);have b3:=Int.emod_nonneg y.p.period n1;have b4:=Int.emod_lt_of_pos y.p.period (show 0<x.p.period by omega)
 go_enter Tryz.func166,Tryz.ntmps166
 go_wp2_with fail
 all_goals
  go_ret;refine ⟨ac_ ?_,xE⟩;unfold divB
  first|rfl|(simp_all;done)
theorem RowR.part {F:Nat->Prop} {b o n:Nat} (h:RowR W F (.slice (some ⟨b,o,none⟩) n c) n (L.flatMap PV.enc)) (hn:L.length=n) (h0:0<n) (i m c':Nat) (him:i+m≤n) (hm:m≤c') (hc:c'≤9223372036854775807) :
  RowR W F (.slice (some ⟨b,o+i*4,none⟩) m c') m (((L.drop i).take m).flatMap PV.enc):=by
 obtain ⟨a',c2,he,h1,h2,h3⟩:=h.is;injection he with e1 _ _
 rcases h3 with h3|⟨b',o',e2,hF,hl,hcell⟩
 ·omega
 ·rw [e2] at e1;injection e1 with e1
  injection e1 with e3 e4
  subst e3;subst e4;refine ⟨_,c',rfl,hm,hc,.inr ⟨_,_,rfl,hF,hl,fun k u hu=>?_⟩⟩;have hk:k<m*4:=by
   have:=(List.getElem?_eq_some_iff.1 hu).1;rw [c3_,List.length_take,List.length_drop] at this;have:min m (L.length-i)≤m:=Nat.min_le_left _ _;omega
  rw [<- io_,<- ik_,List.getElem?_take_of_lt hk,List.getElem?_drop] at hu;have:=hcell _ u hu;rw [Nat.add_assoc];exact this
def x1_ (L:List PV) (j:Nat) (w:World) (e:Ending) (w':World):Prop:=
 ∃ (v:Value),e=.returned v∧w'.ownsRow w.heap.size 39 4 v (L.length-1) ((L.eraseIdx j).flatMap PV.enc)∧Below w.heap.size w w'
theorem pj_ (F:Nat->Prop) (v:Value) (L:List PV) (j:Nat) (w:World) (hL:be_ w F v L) (hj:j<L.length) (hl:L.length≤1000000) :
  Calls Tryz.prog 194 #[v,.int .i64 (j:Int)] w (x1_ L j w):=by
 obtain ⟨a,c,rfl,hlc,hc9,h3⟩:=hL.row;rcases h3 with h3|⟨b,o,rfl,hF,hlt,hcell⟩
 ·omega
 have hr1:RowR w F (.slice (some ⟨b,o,none⟩) j c) j ((L.take j).flatMap PV.enc):=by
  have:=hL.row.part rfl oq_ 0 j c oq_ oq_ hc9;simpa using this
 have hr2:RowR w F (.slice (some ⟨b,o+(j+1)*4,none⟩) (L.length-(j+1)) (c-(j+1))) (L.length-(j+1)) ((L.drop (j+1)).flatMap PV.enc):=by
  have:=hL.row.part rfl oq_ (j+1) (L.length-(j+1)) (c-(j+1)) oq_ oq_ oq_;rwa [List.take_of_length_le (by rw [List.length_drop];omega)] at this
 have ho1:∀ u∈(L.take j).flatMap PV.enc,u.oneCell'=true:=fun u hu=>by
  obtain ⟨x,hx,hu⟩:=List.mem_flatMap.1 hu;exact (hL.all x (List.mem_of_mem_take hx)).one u hu
 have ho2:∀ u∈(L.drop (j+1)).flatMap PV.enc,u.oneCell'=true:=fun u hu=>by
  obtain ⟨x,hx,hu⟩:=List.mem_flatMap.1 hu;exact (hL.all x (List.mem_of_mem_drop hx)).one u hu
 have hf1:((L.take j).flatMap PV.enc).length=j*4:=by rw [c3_,List.length_take];omega
 have hf2:((L.drop (j+1)).flatMap PV.enc).length=(L.length-(j+1))*4:=by rw [c3_,List.length_drop]
 have hee:(L.take j).flatMap PV.enc ++ (L.drop (j+1)).flatMap PV.enc=(L.eraseIdx j).flatMap PV.enc:=by rw [<- io_,<- ik_,l5_]
 have H1:=hq_ (fun W (h:Below w.heap.size w W)=>hr1.keep (a5_.below h) h.size);have H2:=hq_ (fun W (h:Below w.heap.size w W)=>hr2.keep (a5_.below h) h.size);have HO1:=hq_ ho1;have HO2:=hq_ ho2;have HF1:=hq_ hf1;have HF2:=hq_ hf2;have HEE:=hq_ hee;clear hr1 hr2 ho1 ho2 hf1 hf2 hee hcell hL;have hjI:(j:Int)<L.length:=oq_
 go_enter Tryz.func194,Tryz.ntmps194
 have hown0:=World.ownsRow_lit (base:=w.heap.size) (e:=39) (size:=4) w #[] 0 (Nat.le_refl _) (by unfold maxLen;omega) rfl;have hz:w.heap.size≤(w.alloc (.cells #[] 39)).heap.size:=by simp
 by_cases hcz:c=j+1
 ·subst hcz;have hlz:L.length-(j+1)=0:=oq_;have hdz:(L.drop (j+1)).flatMap PV.enc=[]:=by rw [List.drop_eq_nil_of_le oq_];rfl
  have H2:Hid (∀ W,RowR W F (.slice (some ⟨b,o,none⟩) 0 0) 0 []):=hq_ fun W=>⟨some ⟨b,o,none⟩,0,rfl,Nat.le_refl _,oq_,.inl rfl⟩;have HEE2:Hid ((L.take j).flatMap PV.enc=(L.eraseIdx j).flatMap PV.enc):=hq_ (by rw [<- HEE.out,hdz,List.append_nil]);have HLZ:=hq_ hlz;clear hdz hlz;go_wp2_with (first|(at_builtin;refine by_ rq_ _ _ rq_ w.heap.size (.slice (some ⟨w.heap.size,0,none⟩) 0 0) (.slice (some ⟨b,o,none⟩) j (j+1)) 0 j [] _ F rq_ hown0 rq_ (H1.out _ (Ea (Er w) _)) HF1.out HO1.out oq_ hz ?_;intro v5 w5 hown5 hgrow5;rw [Nat.zero_add,List.nil_append] at hown5;have hE5:=(Ea (Er w) (.cells #[] 39)).grown hgrow5 hz (fun k e=>(hown0.lt k e).1);have hz5:=hE5.size;obtain ⟨na5,nc5,rfl⟩:=bm_ hown5;have HOWN5:=hq_ hown5;have HE5:=hq_ hE5;clear hown5 hgrow5 hE5)|(at_builtin;refine by_ rq_ _ _ rq_ w.heap.size (.slice na5 j nc5) (.slice (some ⟨b,o,none⟩) 0 0) j 0 _ [] F rq_ HOWN5.out rq_ (H2.out _) rq_ sq_ oq_ hz5 ?_;intro v6 w6 hown6 hgrow6;rw [List.append_nil] at hown6;have hE6:=HE5.out.grown hgrow6 HE5.out.size (fun k e=>(HOWN5.out.lt k e).1);obtain ⟨na6,nc6,rfl⟩:=bm_ hown6;have HOWN6:=hq_ hown6;have HE6:=hq_ hE6;clear hown6 hgrow6 hE6))
  go_ret;refine ⟨_,rfl,?_,HE6.out⟩;have h:=HOWN6.out;have h1:=HLZ.out;rw [HEE2.out] at h;rw [show L.length-1=j+0 by omega];exact h
 ·have hcp:0<c-(j+1):=oq_;have hlz:j+(L.length-(j+1))=L.length-1:=oq_;go_wp2_with (first|(at_builtin;refine by_ rq_ _ _ rq_ w.heap.size (.slice (some ⟨w.heap.size,0,none⟩) 0 0) (.slice (some ⟨b,o,none⟩) j c) 0 j [] _ F rq_ hown0 rq_ (H1.out _ (Ea (Er w) _)) HF1.out HO1.out oq_ hz ?_;intro v5 w5 hown5 hgrow5;rw [Nat.zero_add,List.nil_append] at hown5;have hE5:=(Ea (Er w) (.cells #[] 39)).grown hgrow5 hz (fun k e=>(hown0.lt k e).1);have hz5:=hE5.size;obtain ⟨na5,nc5,rfl⟩:=bm_ hown5;have HOWN5:=hq_ hown5;have HE5:=hq_ hE5;clear hown5 hgrow5 hE5)|(at_builtin;refine by_ rq_ _ _ rq_ w.heap.size (.slice na5 j nc5) (.slice (some ⟨b,o+(j+1)*4,none⟩) (L.length-(j+1)) (c-(j+1))) j (L.length-(j+1)) _ _ F rq_ HOWN5.out rq_ (H2.out _ HE5.out) HF2.out HO2.out oq_ hz5 ?_;intro v6 w6 hown6 hgrow6;have hE6:=HE5.out.grown hgrow6 HE5.out.size (fun k e=>(HOWN5.out.lt k e).1);obtain ⟨na6,nc6,rfl⟩:=bm_ hown6;have HOWN6:=hq_ hown6;have HE6:=hq_ hE6;clear hown6 hgrow6 hE6))
  go_ret;refine ⟨_,rfl,?_,HE6.out⟩;have h:=HOWN6.out;rw [HEE.out,hlz] at h;rw [<- hlz];rw [hlz];exact h
theorem gf_ {F:Nat->Prop} (h:W.ownsRow B 39 4 v L.length (L.flatMap PV.enc)) (hF:∀ b,B≤b->F b) (hl:L.length≤1000000) (ha:∀ x∈L,PVok W F x):be_ W F v L:=by
 have h0:=gw_ h hl fun x hx=>⟨_,ha x hx⟩;refine ⟨?_,h0.len,ha⟩;obtain ⟨a,c,rfl,h1,h2,h3⟩:=h0.row;refine ⟨a,c,rfl,h1,h2,h3.imp id ?_⟩;rintro ⟨b,o,rfl,-,hl,hc⟩;exact ⟨b,o,rfl,hF b (h.lt b rfl).1,hl,hc⟩
def li_ (F:Nat->Prop) (L:List PV) (v:Value) (w:World) (e:Ending) (w':World):Prop:=
 Below w.heap.size w w'∧((cj_ (ch_ (L.map PV.p)) L.length∧e=.returned (.tuple #[v,.bool false])) ∨
  ∃ (i j:Nat) (v':Value),cf_ (ch_ (L.map PV.p)) L.length i j∧e=.returned (.tuple #[v',.bool true])∧ab_ w' (fun b=>F b∨w.heap.size≤b) v' (ci_ (L.map PV.p) i j))
theorem ua_ (s:Int) (F:Nat->Prop) (v:Value) (L:List PV) (w:World) (hL:be_ w F v L) (hv:∀ x∈L,FV s x.p) (hl:L.length≤1000) :
  Calls Tryz.prog 165 #[v] w (li_ F L v w):=by
 obtain ⟨a,c,rfl,hlc,hc9,_⟩:=hL.row.is;have HL:=hq_ hL;have HV:=hq_ hv;clear hL hv
 go_enter Tryz.func165,Tryz.ntmps165
 go_wp2_with fail
 go_loopw [4,5,6,7,8] (fun i _ _ _ _ wr=>∃ k:Nat,k≤L.length∧i=.int .i64 k∧Hid (∀ i' j',i'<k->i'<j'->j'<L.length->¬ ch_ (L.map PV.p) i' j')∧Hid (Below w.heap.size w wr)) (fun i _ _ _ _ _=>L.length-(intOf i).toNat)
 case atStart=>exact ⟨0,oq_,rfl,hq_ (by intro i' j' h;omega),hq_ xE⟩
 case round=>
  obtain ⟨k,hk,rfl,HNO,HBL⟩:=hrel;have hbk:=HBL.out
  by_cases hlt:k<L.length
  ·have hlI:(k:Int)<L.length:=oq_;go_wp2_with fail
   go_loopw [5,6,7,8] (fun i _ _ _ wq=>∃ jj:Nat,k<jj∧jj≤L.length∧i=.int .i64 jj∧Hid (∀ j',k<j'->j'<jj->¬ ch_ (L.map PV.p) k j')∧Hid (Below w.heap.size w wq)) (fun i _ _ _ _=>L.length-(intOf i).toNat)
   case atStart=>exact ⟨k+1,oq_,oq_,by go_num,hq_ (by intro j' h1 h2;omega),HBL⟩
   case round=>
    obtain ⟨jj,hkj,hjl,rfl,HNR,HB2⟩:=hrel;have hb:=HB2.out
    by_cases hlt2:jj<L.length
    ·have hlI2:(jj:Int)<L.length:=oq_;obtain ⟨b,o,x,ha,hx,hxp,hb1,e0,e1,e2,e3⟩:=(HL.out.keep (a5_.below hb) hb.size).get hlt;subst ha;obtain ⟨b',o',y,ha,hy,hyp,_,g0,g1,g2,g3⟩:=(HL.out.keep (a5_.below hb) hb.size).get hlt2;injection ha with ha
     injection ha with ha1 ha2
     subst ha1;subst ha2;have hfx:FV s x.p:=by
      rw [hxp];obtain ⟨z,hz,e⟩:=List.mem_map.1 (aa_ (d:=default) (show k<(L.map PV.p).length by rw [List.length_map];exact hlt));rw [<- e];exact HV.out z hz
     have hfy:FV s y.p:=by
      rw [hyp];obtain ⟨z,hz,e⟩:=List.mem_map.1 (aa_ (d:=default) (show jj<(L.map PV.p).length by rw [List.length_map];exact hlt2));rw [<- e];exact HV.out z hz
     have HDA:Hid (ch_ (L.map PV.p) k jj↔divB x.p y.p=true):=hq_ (by unfold ch_;rw [hxp,hyp]);have hdv:=fun W=>iw_ x y W hfx.valid.wf.per hfx.valid.per hfy.valid.wf.per hfy.valid.per;have HXP:=hq_ hxp;have HYP:=hq_ hyp;have HX:=hq_ hx;have HY:=hq_ hy;have HFX:=hq_ hfx;have HFY:=hq_ hfy;obtain ⟨xh,xc,xp⟩:=x;obtain ⟨yh,yc,yp⟩:=y;obtain ⟨ax1,nx1,cx1,ax2,nx2,cx2,rfl,rfl⟩:=hx.form;obtain ⟨ay1,ny1,cy1,ay2,ny2,cy2,rfl,rfl⟩:=hy.form;change ∀ W,Calls _ _ #[.agg #[.slice ax1 nx1 cx1,.int .i64 xp.frm,.int .i64 xp.period,.slice ax2 nx2 cx2],.agg #[.slice ay1 ny1 cy1,.int .i64 yp.frm,.int .i64 yp.period,.slice ay2 ny2 cy2]] W (fun e w'=>e=.returned (.bool (divB xp yp))∧Below W.heap.size W w') at hdv;dsimp only at e0 e1 e2 e3 g0 g1 g2 g3;have HDV:=hq_ hdv;clear hxp hyp hx hy hfx hfy hdv;change Hid (_↔divB xp yp=true) at HDA;generalize divB xp yp=dd at *;go_upto_region 7 with (fail)
     cases dd
     all_goals
      go_region_held3 (fun w'=>w'.cell? ⟨b,o+k*4,none⟩=some (.slice ax1 nx1 cx1)∧w'.cell? ⟨b,o+k*4+1,none⟩=some (.int .i64 xp.frm)∧w'.cell? ⟨b,o+k*4+2,none⟩=some (.int .i64 xp.period)∧w'.cell? ⟨b,o+k*4+3,none⟩=some (.slice ax2 nx2 cx2)∧w'.cell? ⟨b,o+jj*4,none⟩=some (.slice ay1 ny1 cy1)∧w'.cell? ⟨b,o+jj*4+1,none⟩=some (.int .i64 yp.frm)∧w'.cell? ⟨b,o+jj*4+2,none⟩=some (.int .i64 yp.period)∧w'.cell? ⟨b,o+jj*4+3,none⟩=some (.slice ay2 ny2 cy2)∧Below wr.heap.size wr w') ((go_split_ands;refine ⟨?_,?_,?_,?_,?_,?_,?_,?_,xE⟩ <;> first|assumption|(refine Ext.cell (w:=wr) xE (by assumption))))
       (first|(go_at_call 166;(with_reducible refine (HDV.out _).mono ?_);rintro e u9 ⟨rfl,kz⟩))
     ·go_wp2_with fail
      go_roundw
      case rel=>exact ⟨jj+1,oq_,oq_,by go_num,hq_ (fun j' h1 h2=>by
       by_cases h3:j'<jj
       ·exact HNR.out j' h1 h3
       ·obtain rfl:j'=jj:=oq_;rw [HDA.out];decide),hq_ (Et HB2.out (by go_split_ands;exact xE))⟩
      case measure=>simp [intOf];omega
     ·have hbu:Below wr.heap.size wr u9:=by go_split_ands;exact xE
      obtain ⟨q,hq⟩:∃ q,q=andP xp yp:=⟨_,rfl⟩;have HQ:=hq_ hq;have HFQ:Hid (FV s q):=hq_ (by rw [hq];exact HFX.out.and HFY.out);have HAND:=hq_ (fun W (h:Below wr.heap.size wr W)=>show Calls _ _ #[.agg #[.slice ax1 nx1 cx1,.int .i64 xp.frm,.int .i64 xp.period,.slice ax2 nx2 cx2],.agg #[.slice ay1 ny1 cy1,.int .i64 yp.frm,.int .i64 yp.period,.slice ay2 ny2 cy2]] W (b6_ q W) from by rw [hq];exact pw_ s (.slice ax1 nx1 cx1) (.slice ax2 nx2 cx2) (.slice ay1 ny1 cy1) (.slice ay2 ny2 cy2) xp yp W (HX.out.is.ext h) (HY.out.is.ext h) HFX.out HFY.out);have hz0:0<u9.heap.size:=by have:=hbu.size;have:=World.block_lt_of_cell? wr _ e0;omega
      clear hq;go_split_ands;go_upto_region 8 with (fail)
      refine Code.wp_mono (Q:=fun e a' W'=>e=.normal∧(∃ (nb:Nat) (hv cv:Value) (z23 z24 z25 z26 z27 z28 z29 z30 z32 z33 z34 z35 z36 z37 z38 z39 z40 z41 z42 z43:Value),a'=⟨#[.slice (some ⟨b,o,none⟩) L.length c,undef,u2,u3,.int .i64 ↑k,.int .i64 ↑jj,.pointer (some ⟨nb,0,none⟩),.int .i64 0,u8,.int .i64 ↑k,.slice (some ⟨b,o,none⟩) L.length c,.int .i64 ↑L.length,.bool true,u13,u14,.int .i64 ↑k,.int .i64 (↑k+1),.int .i64 ↑jj,.slice (some ⟨b,o,none⟩) L.length c,.int .i64 ↑L.length,.bool true,u21,u22,z23,z24,z25,z26,z27,z28,z29,z30,.bool true,z32,z33,z34,z35,z36,z37,z38,z39,z40,z41,z42,z43,u44,u45,u46,u47,u48,u49,u50,u51,u52,u53,u54,u55,undef],[]⟩∧Hid (MgP (u9.heap.size-1) q nb hv cv W'))∧Hid (Below u9.heap.size u9 W')) ?imp ?reg
      case reg=>
       refine cx_ (w0:=u9) [0,1,2,3,4,5,6,7,8,9,10,11,12] 11 13 [14] (fun v=>⟨#[.slice (some ⟨b,o,none⟩) L.length c,undef,u2,u3,.int .i64 ↑k,.int .i64 ↑jj,v 12,u7,u8,.int .i64 ↑k,.slice (some ⟨b,o,none⟩) L.length c,.int .i64 ↑L.length,.bool true,u13,u14,.int .i64 ↑k,.int .i64 (↑k+1),.int .i64 ↑jj,.slice (some ⟨b,o,none⟩) L.length c,.int .i64 ↑L.length,.bool true,u21,u22,.slice (some ⟨b,o,none⟩) L.length c,.int .i64 ↑k,.pointer (some ⟨b,o+k*4,none⟩),.agg #[.slice ax1 nx1 cx1,.int .i64 xp.frm,.int .i64 xp.period,.slice ax2 nx2 cx2],.slice (some ⟨b,o,none⟩) L.length c,.int .i64 ↑jj,.pointer (some ⟨b,o+jj*4,none⟩),.agg #[.slice ay1 ny1 cy1,.int .i64 yp.frm,.int .i64 yp.period,.slice ay2 ny2 cy2],.bool true,v 9,v 0,v 1,v 2,v 3,v 4,v 5,v 6,v 7,v 8,v 10,v 11,u44,u45,u46,u47,u48,u49,u50,u51,u52,u53,u54,u55,undef],[]⟩) [.slice (some ⟨b,o,none⟩) L.length c,.int .i64 k,.pointer (some ⟨b,o+k*4,none⟩),.agg #[.slice ax1 nx1 cx1,.int .i64 xp.frm,.int .i64 xp.period,.slice ax2 nx2 cx2],.slice (some ⟨b,o,none⟩) L.length c,.int .i64 jj,.pointer (some ⟨b,o+jj*4,none⟩),.agg #[.slice ay1 ny1 cy1,.int .i64 yp.frm,.int .i64 yp.period,.slice ay2 ny2 cy2],undef,undef,undef,.int .i64 0,undef] [8,9,10,12] (fun i v lo hi W=>match i with|8=>∃ h c,v 8=.tuple #[perV h c q.frm q.period,.int .i64 0]∧e4_ W (lo 8) (hi 8) h c q|9=>v 9=v 8∧∃ h c,v 9=.tuple #[perV h c q.frm q.period,.int .i64 0]|10=>∃ h c,v 9=.tuple #[perV h c q.frm q.period,.int .i64 0]∧v 10=perV h c q.frm q.period|12=>v 12=.pointer (some ⟨lo 12,0,none⟩)∧lo 12<hi 12∧Bxx W (lo 12) #[.slice none 0 0,.int .i64 0,.int .i64 0,.slice none 0 0] 39|_=>True) (fun W=>W.cell? ⟨b,o+k*4,none⟩=some (.slice ax1 nx1 cx1)∧W.cell? ⟨b,o+k*4+1,none⟩=some (.int .i64 xp.frm)∧W.cell? ⟨b,o+k*4+2,none⟩=some (.int .i64 xp.period)∧W.cell? ⟨b,o+k*4+3,none⟩=some (.slice ax2 nx2 cx2)∧W.cell? ⟨b,o+jj*4,none⟩=some (.slice ay1 ny1 cy1)∧W.cell? ⟨b,o+jj*4+1,none⟩=some (.int .i64 yp.frm)∧W.cell? ⟨b,o+jj*4+2,none⟩=some (.int .i64 yp.period)∧W.cell? ⟨b,o+jj*4+3,none⟩=some (.slice ay2 ny2 cy2)) (fun W hb=>⟨Ext.cell (Et hbu hb) e0,Ext.cell (Et hbu hb) e1,Ext.cell (Et hbu hb) e2,Ext.cell (Et hbu hb) e3,Ext.cell (Et hbu hb) g0,Ext.cell (Et hbu hb) g1,Ext.cell (Et hbu hb) g2,Ext.cell (Et hbu hb) g3⟩) ?stab ?loc ?steps ?fin ?fin2 (fun j=>match j with|0=>u33|1=>u34|2=>u35|3=>u36|4=>u37|5=>u38|6=>u39|7=>u40|8=>u41|9=>u32|10=>u42|11=>u43|12=>u6|_=>undef)
       case stab=>
        refine ⟨?_,?_,?_,?_,trivial⟩
        ·intro v lo hi W W' h hb;exact (let ⟨x1,x2,e,hp⟩:=h;⟨x1,x2,e,hp.below hb⟩)
        ·intro v lo hi W W' h hb;exact h
        ·intro v lo hi W W' h hb;exact h
        ·intro v lo hi W W' h hb;exact ⟨h.1,h.2.1,h.2.2.below hb⟩
       case loc=>
        refine ⟨?_,?_,?_,?_,trivial⟩
        ·intro v v' lo lo' hi hi' W hag h;have q:=hag 8 (.inl rfl)
         (try dsimp only at h ⊢)
         simp only [q.1,q.2.1,q.2.2] at h;exact h
        ·intro v v' lo lo' hi hi' W hag h;have q:=hag 9 (.inl rfl);have q8:=hag 8 (.inr (Rdp (by kernel_rfl)))
         (try dsimp only at h ⊢)
         simp only [q.1,q.2.1,q.2.2,q8.1,q8.2.1,q8.2.2] at h;exact h
        ·intro v v' lo lo' hi hi' W hag h;have q:=hag 10 (.inl rfl);have q9:=hag 9 (.inr (Rdp (by kernel_rfl)))
         (try dsimp only at h ⊢)
         simp only [q.1,q.2.1,q.2.2,q9.1,q9.2.1,q9.2.2] at h;exact h
        ·intro v v' lo lo' hi hi' W hag h;have q:=hag 12 (.inl rfl)
         (try dsimp only at h ⊢)
         simp only [q.1,q.2.1,q.2.2] at h;exact h
       case steps=>
        refine .c [] [] rfl ?_ (.c [] [] rfl ?_ (.c [0,1] [] rfl ?_ (.c [2] [] rfl ?_ (.c [] [] rfl ?_ (.c [] [] rfl ?_ (.c [4,5] [] rfl ?_ (.c [6] [] rfl ?_ (.c [3,7] [] rfl ?_ (.c [] [8] rfl ?_ (.c [] [9] rfl ?_ (.c [] [9] rfl ?_ (.c [] [] rfl ?_ (.n)))))))))))))
        all_goals try exact stl
        ·rintro v lo hi W hb ⟨s0,s1,s2,s3,t0,t1,t2,t3⟩ _;refine ⟨rfl,fun K hK=>?_⟩;simp only [ov,vat,Nat.reduceBEq,cond_true,cond_false];go_wp2_with (go_at_call 95;(with_reducible refine (HAND.out _ (Et hbu hb)).mono ?_);rintro e w9 ⟨h',c',rfl,ho,hb9⟩)
         exact acx (hK (.tuple #[perV h' c' q.frm q.period,.int .i64 0]) w9 hb9 ⟨h',c',rfl,ho.at⟩) (by simp [ov,vat,upd])
        ·rintro v lo hi W hb ⟨s0,s1,s2,s3,t0,t1,t2,t3⟩ ⟨⟨la8,lb8,D8⟩,_⟩;refine ⟨rfl,fun K hK=>?_⟩;simp only [ov,vat,Nat.reduceBEq,cond_true,cond_false]
         (try dsimp only at D8)
         obtain ⟨h8,c8,e8,_⟩:=D8;go_wp2_with fail
         exact acx (hK (v 8) W (Below.refl _ _) ⟨rfl,h8,c8,e8⟩) (by simp [ov,vat,upd,e8])
        ·rintro v lo hi W hb ⟨s0,s1,s2,s3,t0,t1,t2,t3⟩ ⟨⟨la9,lb9,D9⟩,_⟩;refine ⟨rfl,fun K hK=>?_⟩;simp only [ov,vat,Nat.reduceBEq,cond_true,cond_false]
         (try dsimp only at D9)
         obtain ⟨-,h9,c9,e9⟩:=D9;simp only [e9];go_wp2_with fail
         exact acx (hK (perV h9 c9 q.frm q.period) W (Below.refl _ _) ⟨h9,c9,e9,rfl⟩) (by simp [ov,vat,upd,e9])
        ·rintro v lo hi W hb ⟨s0,s1,s2,s3,t0,t1,t2,t3⟩ ⟨⟨la9,lb9,D9⟩,_⟩;refine ⟨rfl,fun K hK=>?_⟩;simp only [ov,vat,Nat.reduceBEq,cond_true,cond_false]
         (try dsimp only at D9)
         obtain ⟨-,h9,c9,e9⟩:=D9;simp only [e9];go_wp2_with fail
         exact acx (hK W (Below.refl _ _)) (by simp [ov,vat,upd,e9])
        ·rintro v lo hi W hb ⟨s0,s1,s2,s3,t0,t1,t2,t3⟩ _;refine ⟨rfl,fun K hK=>?_⟩;simp only [ov,vat,Nat.reduceBEq,cond_true,cond_false];go_wp2_with fail
         exact hK (.pointer (some ⟨W.heap.size,0,none⟩)) _ (Ea (Er _) _) ⟨rfl,sq_,Bxx.new _ _ _⟩
       case fin=>
        rintro v lo hi9 W5 hb5-hf hap;show wpList _ _ _ [_,_] _ _;obtain ⟨l8,-,h8,h,c,e8,hp8⟩:=hf 8 rfl;obtain ⟨-,-,-,e9,-⟩:=hf 9 rfl;obtain ⟨-,-,-,h',c',e9',e10⟩:=hf 10 rfl;have e11:v 11=.int .i64 0:=(hf 11 rfl).2.2.2;obtain ⟨l12,-,h12,e12,lt12,hbox⟩:=hf 12 rfl;have hd:=hap 8 12 rfl rfl dq_;clear hf hap;rw [e9,e8] at e9';obtain ⟨rfl,rfl⟩:h=h'∧c=c':=by simpa [perV] using e9'
        dsimp only;rw [e10,e11,e12];clear e10 e11 e12 e9 e9' e8;obtain ⟨nb,hnb⟩:∃ nb,nb=lo 12:=⟨_,rfl⟩;rw [<- hnb] at hd hbox l12 lt12 ⊢;have hpi:=hp8.inn;generalize lo 8=l8v at *;generalize hi9 8=h8v at *;generalize hi9 12=h12v at *;clear hnb hp8;obtain ⟨a5,m5,a6,m6,rfl,rfl⟩:=hpi.form;have r0:=hbox.cells 0;have r1:=hbox.cells 1;have r2:=hbox.cells 2;have r3:=hbox.cells 3;have HMG:=hq_ (MgP.of (B:=u9.heap.size-1) hpi HFQ.out oq_ hbox oq_ oq_);have HB5:=hq_ hb5;clear hbox hpi hd;generalize v 0=z0,v 1=z1,v 2=z2,v 3=z3,v 4=z4,v 5=z5,v 6=z6,v 7=z7,v 8=z8,v 9=z9;go_wp2_with fail
        exact ⟨⟨_,_,HMG⟩,hq_ (by have hb5:=HB5.out;exact xE)⟩
       case fin2=>
        rintro v lo hi9 W5 hb5-hf hap;obtain ⟨l8,-,h8,h,c,e8,hp8⟩:=hf 8 rfl dq_;obtain ⟨-,-,-,e9,-⟩:=hf 9 rfl dq_;obtain ⟨-,-,-,h',c',e9',e10⟩:=hf 10 rfl dq_;obtain ⟨l12,-,h12,e12,lt12,hbox⟩:=hf 12 rfl dq_;have hd:=hap 8 12 rfl rfl dq_ dq_ dq_;clear hf hap;rw [e9,e8] at e9';obtain ⟨rfl,rfl⟩:h=h'∧c=c':=by simpa [perV] using e9'
        have e99:=e9.trans e8;dsimp only;rw [e10,e12,e99];clear e10 e12 e9 e9' e8 e99;obtain ⟨nb,hnb⟩:∃ nb,nb=lo 12:=⟨_,rfl⟩;rw [<- hnb] at hd hbox l12 lt12 ⊢;have hpi:=hp8.inn;generalize lo 8=l8v at *;generalize hi9 8=h8v at *;generalize hi9 12=h12v at *;clear hnb hp8;obtain ⟨a5,m5,a6,m6,rfl,rfl⟩:=hpi.form;have r0:=hbox.cells 0;have r1:=hbox.cells 1;have r2:=hbox.cells 2;have r3:=hbox.cells 3;have HMG:=hq_ (MgP.of (B:=u9.heap.size-1) hpi HFQ.out oq_ hbox oq_ oq_);have HB5:=hq_ hb5;clear hbox hpi hd;generalize v 0=z0,v 1=z1,v 2=z2,v 3=z3,v 4=z4,v 5=z5,v 6=z6,v 7=z7,v 8=z8,v 11=z11;constructor
        ·show wpList _ _ _ [_,_,_] _ _;go_wp2_with fail
         exact ⟨⟨_,_,HMG⟩,hq_ (by have hb5:=HB5.out;exact xE)⟩
        ·show wpList _ _ _ [_,_,_] _ _;go_wp2_with fail
         exact ⟨⟨_,_,HMG⟩,hq_ (by have hb5:=HB5.out;exact xE)⟩
      case imp=>
       rintro e a' W6 ⟨rfl,⟨nb,hv9,cv9,z23,z24,z25,z26,z27,z28,z29,z30,z32,z33,z34,z35,z36,z37,z38,z39,z40,z41,z42,z43,rfl,HP⟩,HB6⟩;obtain ⟨a5,n5,m5,a6,n6,m6,rfl,rfl⟩:=HP.out.ok.form;have p0:=HP.out.c0;have p1:=HP.out.c1;have p2:=HP.out.c2;have p3:=HP.out.c3;have hzu:w.heap.size≤u9.heap.size:=by have:=HB2.out.size;have:=hbu.size;omega
       have hE6:Below w.heap.size w W6:=Et HB2.out (Et hbu HB6.out);have HE6:=hq_ hE6;have hz6:W6.heap.size≤(W6.alloc (.cells #[] 39)).heap.size:=by simp
       have hown0:=World.ownsRow_lit (base:=W6.heap.size) (e:=39) (size:=4) W6 #[] 0 (Nat.le_refl _) (by unfold maxLen;omega) rfl;have HROW:=hq_ ((HL.out.row.keep (a5_.below hE6) hE6.size).keep (a5_.below (Ea (Er W6) (.cells #[] 39))) hz6);have HONE:=hq_ HL.out.cells_one;clear hE6 hbu;go_wp2_with (first|(at_builtin;refine by_ rq_ _ _ rq_ W6.heap.size (.slice (some ⟨W6.heap.size,0,none⟩) 0 0) (.slice (some ⟨b,o,none⟩) L.length c) 0 L.length [] (L.flatMap PV.enc) F rq_ hown0 rq_ HROW.out c3_ HONE.out oq_ hz6 ?_;intro v7 w7 hown7 hgrow7;rw [Nat.zero_add,List.nil_append] at hown7;have hb7:=(Ea (Er W6) (.cells #[] 39)).grown hgrow7 hz6 (fun k e=>(hown0.lt k e).1);obtain ⟨hl7,⟨he,h0⟩|⟨g,cap,cur,he,hg1,hg,h6,h7,h8,h9⟩⟩:=hown7;(exfalso;omega);cases he;(have s0:=Ext.cell hb7 p0);(have s1:=Ext.cell hb7 p1);(have s2:=Ext.cell hb7 p2);(have s3:=Ext.cell hb7 p3);(have hr5:Row5 (fun b=>(F b∨w.heap.size≤b)∧b<W6.heap.size) g cap w7 L:=⟨⟨hl7,.inr ⟨g,cap,cur,rfl,Nat.zero_le _,hg,h6,h7,h8,h9⟩⟩,fun x hx=>(((HL.out.lt.all x hx).keep (a5_.below HE6.out)).keep (a5_.below hb7)).mono fun q' hq'=>⟨⟨.inl hq'.1,by have:=hq'.2;have:=HE6.out.size;omega⟩,by have:=hq'.2;have:=HE6.out.size;omega⟩,oq_⟩);(have hpv:PVok w7 (fun b'=>((F b'∨w.heap.size≤b')∧b'<W6.heap.size)∧b'≠g) ⟨.slice a5 n5 m5,.slice a6 n6 m6,q⟩:=(HP.out.ok.lt.keep (a5_.below hb7)).mono fun b' hb'=>⟨⟨.inr (by have:=hb'.1;omega),hb'.2⟩,by have:=hb'.2;omega⟩);(have hset:=hr5.set (j:=k) (x:=⟨.slice a5 n5 m5,.slice a6 n6 m6,q⟩) hlt hpv);(have hterm:=hset.term);(have hrem:=pj_ _ _ _ jj _ hterm (by rw [List.length_set];exact hlt2) (by rw [List.length_set];omega));(rw [List.length_set] at hrem);(have HREM:=hq_ hrem);(have HSET:=hq_ hset);(have k0:=(hr5.row.cellAt (k*4) oq_).trans (by simpa using av_ (j:=k) (i:=0) hlt rfl));(have k1:=(hr5.row.cellAt (k*4+1) oq_).trans (av_ (j:=k) (i:=1) hlt rfl));(have k2:=(hr5.row.cellAt (k*4+2) oq_).trans (av_ (j:=k) (i:=2) hlt rfl));(have k3:=(hr5.row.cellAt (k*4+3) oq_).trans (av_ (j:=k) (i:=3) hlt rfl));(have l0:=hr5.row.frozenAt (k*4));(have l1:=hr5.row.frozenAt (k*4+1));(have l2:=hr5.row.frozenAt (k*4+2));(have l3:=hr5.row.frozenAt (k*4+3));(have HB7:=hq_ hb7);(have hgz:W6.heap.size≤g:=hg1);clear hr5 hpv hset hterm hrem hb7 hgrow7 hl7 hg1 hg h6 h7 h8 h9)|(go_at_call 194;(refine HREM.out.mono ?_;rintro e w9 ⟨v9,rfl,hown9,hb9⟩)))
       go_ret2;have hB7:Below W6.heap.size W6 w7:=HB7.out;have hb8:=hB7.trans (ei_ w7 (i:=k*4) hgz (.slice a5 n5 m5) (.int .i64 q.frm) (.int .i64 q.period) (.slice a6 n6 m6));have hbw:=Et (Et HE6.out hb8) hb9;refine ⟨hbw,.inr ⟨k,jj,v9,⟨hkj,hlt2,by have h:=HDA.out;simpa using h,HNO.out,HNR.out⟩,rfl,(L.set k ⟨.slice a5 n5 m5,.slice a6 n6 m6,q⟩).eraseIdx jj,map_merge hlt hlt2 (by rw [HQ.out,<- HXP.out,<- HYP.out]),?_⟩⟩;have hle:((L.set k ⟨.slice a5 n5 m5,.slice a6 n6 m6,q⟩).eraseIdx jj).length=(L.set k ⟨.slice a5 n5 m5,.slice a6 n6 m6,q⟩).length-1:=List.length_eraseIdx_of_lt (by rw [List.length_set];exact hlt2);rw [<- hle] at hown9;exact gf_ hown9 (fun b hb=>.inr (Nat.le_trans (Et HE6.out hb8).size hb)) (by rw [hle,List.length_set];omega) fun z hz=>((HSET.out.all z (List.mem_of_mem_eraseIdx hz)).keep (a5_.below hb9)).mono fun b hb=>hb.1.1
    ·obtain rfl:jj=L.length:=oq_;go_wp2_with fail
     go_roundw
     case rel=>exact ⟨k+1,oq_,by go_num,hq_ (fun i' j' h1 h2 h3=>by
      by_cases h4:i'<k
      ·exact HNO.out i' j' h4 h2 h3
      ·obtain rfl:i'=k:=oq_;exact HNR.out j' h2 h3),HB2⟩
     case measure=>simp [intOf];omega
  ·obtain rfl:k=L.length:=oq_;go_wp2_with fail
   go_ret2;exact ⟨HBL.out,.inl ⟨fun i j h1 h2=>HNO.out i j oq_ h1 h2,rfl⟩⟩
theorem l7_ {a:Act} {Q:Exit->Act->World->Prop} (hgd:o.guard=none) (s x:Operand)
  (ho:o.op=.call { callee:=.builtin .append,args:=#[s,x],argTypes:=#[36,36] }) (base:Nat) (v:Value) (n:Nat) (xs:List Value) (y:PV) (hs:a.eval s=v) (hown:w.ownsRow base 39 4 v n xs)
  (blk c:Nat) (hx:a.eval x=.slice (some ⟨blk,0,none⟩) 1 c) (hnew:∀ j u,y.enc[j]? = some u->w.cell? ⟨blk,j,none⟩=some u) (h1c:∀ u∈y.enc,u.oneCell'=true) (hlen:n+1≤1000000) (hbase:base≤w.heap.size)
  (h:∀ v' w',w'.ownsRow base 39 4 v' (n+1) (xs ++ y.enc)->w.grownBy w' v.ownBlock->(v'.ownBlock=v.ownBlock∨v'.ownBlock=some w.heap.size)->wpList Tryz.prog ops Q rest (a.put o.dst v') w') :
  wpList Tryz.prog ops Q (o :: rest) a w:=by
 obtain ⟨i,hi,h1,h2,h3⟩:=f1_;refine wpList_plain hgd fun K hK=>?_;obtain ⟨v',w',hrun,k2,k3,_,k5⟩:=run_append_own_at (P:=Tryz.prog) w base 36 o.type 39 i (.agg #[.slice none 0 0,.int .i64 0,.int .i64 0,.slice none 0 0]) 4 64 Tryz.underlying36 hi h1 h2 h3 rfl oq_ v n xs hown ⟨blk,0,none⟩ 1 c y.enc rfl
  (fun j u hu=>by rw [show (⟨blk,0,none⟩:Addr).add j=⟨blk,j,none⟩ from by
   rcases Nat.eq_zero_or_pos j with h0|h0
   ·subst h0;simp [Addr.add]
   ·simp [Addr.add];omega];exact hnew j u hu) h1c (by unfold maxLen;omega) oq_ hbase
 unfold Oper.wp execOp;simp only [ho,resolve,invoke,builtin,Sem.run_bind,Sem.run_pure,Result.andThen_ok,List.map_toArray,List.map_cons,List.map_nil,hs,hx,hrun];exact hK _ _ (h v' w' k2 k3 k5)
structure RowP (B:Nat) (W:World) (v:Value) (L:List PV):Prop where
 row:W.ownsRow B 39 4 v L.length (L.flatMap PV.enc)
 all:∀ x∈L,PVok W (fun b=>B≤b∧v.ownBlock≠some b) x
 lim:L.length≤1000000
theorem RowP.below (h:RowP B W v L) (hb:Below W.heap.size W W'):RowP B W' v L:=
 ⟨h.row.kept (row:=none) (World.grownBy.of_below hb _) (by
  cases e:v.ownBlock with
  | none=>exact .inl rfl
  | some k=>exact .inr sq_),fun x hx=>(h.all x hx).keep (a5_.below hb),h.lim⟩
theorem RowP.push {v':Value} {y:PV} (h:RowP B W v L) (hy:PVok W (fun b=>B≤b∧v.ownBlock≠some b) y) (hr:W'.ownsRow B 39 4 v' (L.length+1) (L.flatMap PV.enc ++ y.enc)) (hg:W.grownBy W' v.ownBlock)
  (hb:v'.ownBlock=v.ownBlock∨v'.ownBlock=some W.heap.size) (hl:L.length<1000000):RowP B W' v' (L ++ [y]):=by
 have key:∀ {z:PV},PVok W (fun b=>B≤b∧v.ownBlock≠some b) z->PVok W' (fun b=>B≤b∧v'.ownBlock≠some b) z:=fun hz=>by
  refine (hz.lt.keep (fun b hb' hl'=>hg.block b hl' fun e=>hb'.1.2 e.symm)).mono fun b hb'=>⟨hb'.1.1,?_⟩;rcases hb with e|e
  ·rw [e];exact hb'.1.2
  ·rw [e];intro e2;have:=hb'.2;injection e2 with e2
   omega
 refine ⟨by simpa using hr,fun z hz=>?_,tq_⟩;rcases List.mem_append.1 hz with hz|hz
 ·exact key (h.all z hz)
 ·rw [List.mem_singleton] at hz;subst hz;exact key hy
theorem RowP.term (h:RowP B W v L):be_ W (fun b=>B≤b) v L:=gf_ h.row (fun _ h=>h) h.lim fun x hx=>(h.all x hx).mono fun _ h=>h.1
theorem rs_ (hi:i<t.length) (hj:j<t.length) (h:∀ p∈t,FV s p):∀ p∈ci_ t i j,FV s p:=fun p hp=>by
 have h1:=List.mem_of_mem_eraseIdx hp;rcases List.mem_or_eq_of_mem_set h1 with h2|rfl
 ·exact h p h2
 ·exact (h _ (aa_ hi)).and (h _ (aa_ hj))
theorem j8_ (hj:j<t.length):(ci_ t i j).length=t.length-1:=by
 unfold ci_;rw [List.length_eraseIdx_of_lt (by rw [List.length_set];exact hj),List.length_set]
theorem ki_ {b:Nat} {y:PV} {t:TypeId} (h:Bxx W b #[y.h,.int .i64 y.p.frm,.int .i64 y.p.period,y.c] t):∀ j u,y.enc[j]? = some u->W.cell? ⟨b,j,none⟩=some u:=fun j u hu=>by
 have hj:j<4:=(List.getElem?_eq_some_iff.1 hu).1
 match j,hj with
 | 0,_=>simp [PV.enc] at hu;subst hu;exact (h.cells 0).1
 | 1,_=>simp [PV.enc] at hu;subst hu;exact (h.cells 1).1
 | 2,_=>simp [PV.enc] at hu;subst hu;exact (h.cells 2).1
 | 3,_=>simp [PV.enc] at hu;subst hu;exact (h.cells 3).1
theorem ab_.len_of {F:Nat->Prop} (h:ab_ W F v t):lenV v=t.length:=by
 obtain ⟨a,c,rfl,_⟩:=h.form;rfl
theorem li_.form {F:Nat->Prop} (h:li_ F L v w e w'):Below w.heap.size w w'∧∃ (v':Value) (b:Bool),e=.returned (.tuple #[v',.bool b])∧((b=false∧v'=v∧cj_ (ch_ (L.map PV.p)) L.length)∨(b=true∧∃ i j,cf_ (ch_ (L.map PV.p)) L.length i j∧ab_ w' (fun b=>F b∨w.heap.size≤b) v' (ci_ (L.map PV.p) i j))):=by
 obtain ⟨h1,⟨h2,rfl⟩|⟨i,j,v',h2,rfl,h3⟩⟩:=h
 ·exact ⟨h1,v,false,rfl,.inl ⟨rfl,rfl,h2⟩⟩
 ·exact ⟨h1,v',true,rfl,.inr ⟨rfl,i,j,h2,h3⟩⟩
theorem p2_ (s:Int) (F:Nat->Prop) (v:Value) (t:List Per) (w:World) (ht:ab_ w F v t) (hv:∀ p∈t,FV s p) (hl:t.length≤1000) :
  Calls Tryz.prog 133 #[v] w fun e w'=>∃ v' u,e=.returned v'∧b8_ t u∧(∀ p∈u,FV s p)∧ab_ w' (fun b=>w.heap.size≤b) v' u∧Below w.heap.size w w':=by
 obtain ⟨L,hLt,hL⟩:=ht;obtain ⟨a,c,rfl,hlc,hc9,_⟩:=hL.row.is;have htl:t.length=L.length:=by rw [<- hLt,List.length_map]
 have HL:=hq_ hL;have HV:=hq_ hv;have HLT:=hq_ hLt;have HTL:=hq_ htl;have hll:L.length≤1000:=oq_;clear hL hv hLt htl hl;have hown0:=World.ownsRow_lit (base:=w.heap.size) (e:=39) (size:=4) w #[] 0 (Nat.le_refl _) (by unfold maxLen;omega) rfl;have HR0:Hid (RowP w.heap.size (w.alloc (.cells #[] 39)) (.slice (some ⟨w.heap.size,0,none⟩) 0 0) []):=hq_ ⟨hown0,sq_,sq_⟩;clear hown0
 go_enter Tryz.func133,Tryz.ntmps133
 go_wp2_with fail
 go_loopw [3,4,5,6] (fun ov i _ _ wr=>∃ (k:Nat) (M:List PV),k≤L.length∧i=.int .i64 k∧M.length=k∧Hid (M.map PV.p=(t.take k).map fun p=>canonC p.mem)∧Hid (RowP w.heap.size wr ov M)∧Hid (Below w.heap.size w wr)) (fun _ i _ _ _=>L.length-(intOf i).toNat)
 case atStart=>exact ⟨0,[],oq_,rfl,rfl,hq_ rfl,HR0,hq_ xE⟩
 case round=>
  obtain ⟨k,M,hk,rfl,hmk,HM,HR,HBL⟩:=hrel;subst hmk;have hb:=HBL.out
  by_cases hlt:M.length<L.length
  ·have hlI:(M.length:Int)<L.length:=oq_;obtain ⟨b,o,x,rfl,hx,hxp,hb1,e0,e1,e2,e3⟩:=(HL.out.keep (a5_.below hb) hb.size).get hlt;rw [HLT.out] at hxp;have hkt:M.length<t.length:=by have:=HTL.out;omega
   have hfx:FV s x.p:=by rw [hxp];exact HV.out _ (aa_ hkt)
   have HNX:Hid ((t.take (M.length+1)).map (fun p=>canonC p.mem)=(t.take M.length).map (fun p=>canonC p.mem) ++ [canonC x.p.mem]):=hq_ (by rw [List.take_succ_eq_append_getElem hkt,List.map_append,hxp,List.getD_eq_getElem?_getD,List.getElem?_eq_getElem hkt];rfl);obtain ⟨xh,xc,xp⟩:=x;obtain ⟨ax1,nx1,cx1,ax2,nx2,cx2,rfl,rfl⟩:=hx.form;dsimp only at e0 e1 e2 e3;have HFC:Hid (FV s (canonC xp.mem)):=hq_ hfx.canon.2;have HCA:=hq_ (fun W (h:Below wr.heap.size wr W)=>show Calls _ _ #[.agg #[.slice ax1 nx1 cx1,.int .i64 xp.frm,.int .i64 xp.period,.slice ax2 nx2 cx2]] W (b6_ (canonC xp.mem) W) from t2_ s (.slice ax1 nx1 cx1) (.slice ax2 nx2 cx2) xp W (hx.is.ext h) hfx);clear hxp hx hfx;change Hid (_=_ ++ [canonC xp.mem]) at HNX;generalize canonC xp.mem=q at *;have hz:=hb.size;obtain ⟨oa,oc,rfl⟩:=bm_ HR.out.row;go_wp2_with (first|(go_at_call 164;(with_reducible refine (HCA.out _ (Er _)).mono ?_);rintro e w1 ⟨h',c',rfl,ho,hb1⟩;obtain ⟨a5,m5,a6,m6,rfl,rfl⟩:=ho.form;have HPV:=hq_ (ho.pv HFC.out);have HB1:=hq_ hb1;have hz1:=hb1.size;clear ho hb1)|(at_builtin;refine l7_ rq_ _ _ rq_ w.heap.size (.slice oa M.length oc) M.length (M.flatMap PV.enc) ⟨.slice a5 q.head.length m5,.slice a6 q.cycle.length m6,q⟩ rq_ (HR.out.below (Ea (Ea HB1.out (.cells #[.slice a5 q.head.length m5,.int .i64 q.frm,.int .i64 q.period,.slice a6 q.cycle.length m6] 39)) (.cells #[.slice a5 q.head.length m5,.int .i64 q.frm,.int .i64 q.period,.slice a6 q.cycle.length m6] 39))).row (w1.heap.size+1) 1 rq_ (fun j u hu=>(ki_ (Bxx.at (w:=w1.alloc (.cells #[.slice a5 q.head.length m5,.int .i64 q.frm,.int .i64 q.period,.slice a6 q.cycle.length m6] 39)) sq_)) j u hu) HPV.out.one oq_ tq_ ?_;intro v5 w5 hown5 hgrow5 hloc5;have hR5:=(HR.out.below (Ea (Ea HB1.out (.cells #[.slice a5 q.head.length m5,.int .i64 q.frm,.int .i64 q.period,.slice a6 q.cycle.length m6] 39)) (.cells #[.slice a5 q.head.length m5,.int .i64 q.frm,.int .i64 q.period,.slice a6 q.cycle.length m6] 39))).push ((HPV.out.keep (a5_.below (Ea (Ea (Er w1) (.cells #[.slice a5 q.head.length m5,.int .i64 q.frm,.int .i64 q.period,.slice a6 q.cycle.length m6] 39)) (.cells #[.slice a5 q.head.length m5,.int .i64 q.frm,.int .i64 q.period,.slice a6 q.cycle.length m6] 39)))).mono fun b' hb'=>⟨oq_,fun e=>by have:=((HR.out.row).lt _ e).2;omega⟩) hown5 hgrow5 hloc5 oq_;have hb5:Below w.heap.size w w5:=(Et HBL.out (Ea (Ea HB1.out (.cells #[.slice a5 q.head.length m5,.int .i64 q.frm,.int .i64 q.period,.slice a6 q.cycle.length m6] 39)) (.cells #[.slice a5 q.head.length m5,.int .i64 q.frm,.int .i64 q.period,.slice a6 q.cycle.length m6] 39))).grown hgrow5 tq_ (fun k' e=>((HR.out.below (Ea (Ea HB1.out (.cells #[.slice a5 q.head.length m5,.int .i64 q.frm,.int .i64 q.period,.slice a6 q.cycle.length m6] 39)) (.cells #[.slice a5 q.head.length m5,.int .i64 q.frm,.int .i64 q.period,.slice a6 q.cycle.length m6] 39))).row.lt k' e).1);have HR5:=hq_ hR5;have HB5:=hq_ hb5;clear hR5 hb5 hown5 hgrow5 hloc5))
   go_roundw
   case rel=>exact ⟨M.length+1,M ++ [⟨.slice a5 q.head.length m5,.slice a6 q.cycle.length m6,q⟩],oq_,by go_num,sq_,hq_ (by rw [List.map_append,HM.out,HNX.out];rfl),HR5,HB5⟩
   case measure=>simp [intOf];omega
  ·have HKL:Hid (M.length=L.length):=hq_ oq_;obtain ⟨oa,oc,rfl⟩:=bm_ HR.out.row;have HCUR:Hid (ab_ wr (fun b=>w.heap.size≤b) (.slice oa M.length oc) (t.map fun p=>canonC p.mem)):=hq_ ⟨M,by rw [HM.out,List.take_of_length_le (by have:=HTL.out;have:=HKL.out;omega)],HR.out.term⟩;have HCF:Hid (∀ p∈t.map (fun p=>canonC p.mem),FV s p):=hq_ fun p hp=>by
    obtain ⟨r,hr,rfl⟩:=List.mem_map.1 hp;exact (HV.out r hr).canon.2
   have hcl:(t.map fun p=>canonC p.mem).length≤1000:=by rw [List.length_map];have:=HTL.out;omega
   have HGO:Hid (∀ u,c4_ (t.map fun p=>canonC p.mem) u->b8_ t u):=hq_ fun u h=>h;clear HM HR;go_wp2_with fail
   go_loopw [3,7] (fun ov mo wq=>∃ (bm:Bool) (cur:List Per),mo=.bool bm∧Hid (ab_ wq (fun b=>w.heap.size≤b) ov cur)∧Hid (∀ p∈cur,FV s p)∧cur.length≤1000∧Hid (∀ u,c4_ cur u->b8_ t u)∧Hid (bm=true∨cj_ (ch_ cur) cur.length)∧Hid (Below w.heap.size w wq)) (fun ov mo _=>lenV ov+(match mo with|.bool true=>1|_=>0))
   case atStart=>exact ⟨true,_,rfl,HCUR,HCF,hcl,HGO,hq_ (.inl rfl),HBL⟩
   case round=>
    obtain ⟨bm,cur,rfl,HC,HF,hcl2,HG,HN,HB2⟩:=hrel;obtain ⟨Lc,hLc,hTc⟩:=HC.out;obtain ⟨ca,cc,rfl,_⟩:=hTc.row.is;have hcn:cur.length=Lc.length:=by rw [<- hLc,List.length_map]
    cases bm
    ·go_wp2_with fail
     go_ret;exact ⟨_,cur,rfl,HG.out _ (.done (HN.out.resolve_left sq_)),HF.out,HC.out,HB2.out⟩
    ·have HONC:=hq_ (ua_ s (fun b=>w.heap.size≤b) (.slice ca Lc.length cc) Lc wr hTc (fun x hx=>HF.out _ (by rw [<- hLc];exact List.mem_map_of_mem hx)) oq_);have HLC:=hq_ hLc;have HCN:=hq_ hcn;clear hLc hTc hcn;go_wp2_with (go_at_call 165;refine HONC.out.mono ?_;intro e w5 hr;obtain ⟨hb5,v',bb,rfl,hst⟩:=hr.form;have HST:=hq_ hst;have HB5:=hq_ hb5;clear hr hst hb5)
     go_roundw
     case rel=>
      rcases HST.out with ⟨rfl,rfl,hno⟩|⟨rfl,i,j,hfp,ht'⟩
      ·exact ⟨false,cur,rfl,hq_ (HC.out.ext HB5.out),HF,hcl2,HG,hq_ (.inr (by rw [HLC.out] at hno;rw [HCN.out];exact hno)),hq_ (Et HB2.out HB5.out)⟩
      ·rw [HLC.out] at hfp ht';have hij:i<cur.length∧j<cur.length:=by rw [HCN.out];exact ⟨Nat.lt_trans hfp.lt hfp.lim,hfp.lim⟩
       have hm:=j8_ (i:=i) hij.2;rw [<- HCN.out] at hfp;exact ⟨true,ci_ cur i j,rfl,hq_ (ht'.mono fun b hb=>hb.elim id fun h=>Nat.le_trans HB2.out.size h),hq_ (rs_ hij.1 hij.2 HF.out),oq_,hq_ (fun u hu=>HG.out u (.step hfp hu)),hq_ (.inl rfl),hq_ (Et HB2.out HB5.out)⟩
     case measure=>
      rcases HST.out with ⟨rfl,rfl,hno⟩|⟨rfl,i,j,hfp,ht'⟩
      ·simp [lenV]
      ·rw [HLC.out] at hfp ht';have hij:j<cur.length:=by rw [HCN.out];exact hfp.lim
       have hm:=j8_ (i:=i) hij;have h:=ht'.len_of;have h0:=HCN.out;have hc:lenV (.slice ca Lc.length cc)=Lc.length:=rfl;simp only [h,hc,hm];omega
theorem ws_ (F:Nat->Prop) (v:Value) (t:List Per) (n:Int) (w:World) (ht:ab_ w F v t) (hn:InI n) :
  Calls Tryz.prog 67 #[v,.int .i64 n] w fun e w'=>e=.returned (.bool (inB t n))∧Below w.heap.size w w':=by
 obtain ⟨L,hLt,hL⟩:=ht;obtain ⟨a1,c1,rfl,_⟩:=hL.row;have HL:=hq_ hL;have hl1:=hL.len;have htl:t.length=L.length:=by rw [<- hLt,List.length_map]
 have HT:=hq_ htl;have HLT:=hq_ hLt;have HN:=hq_ hn;clear hL htl hLt hn
 go_enter Tryz.func67,Tryz.ntmps67
 go_wp2_with fail
 go_loopw [5] (fun i wr=>∃ k:Nat,k≤L.length∧i=.int .i64 k∧Hid ((t.take k).all (fun p=>hasB p n)=true)∧Hid (Below w.heap.size w wr)) (fun i _=>L.length-(intOf i).toNat)
 case atStart=>exact ⟨0,oq_,rfl,hq_ rfl,hq_ xE⟩
 case round=>
  obtain ⟨k,hk,rfl,HPRE,HBL⟩:=hrel
  by_cases hlt:k<L.length
  ·have hlI:(k:Int)<L.length:=oq_;obtain ⟨b1,o1,x,rfl,hx,hxp,hb1,e0,e1,e2,e3⟩:=(HL.out.keep (a5_.below HBL.out) HBL.out.size).get hlt;rw [HLT.out] at hxp;have HSU:Hid ((t.take (k+1)).all (fun p=>hasB p n)=((t.take k).all (fun p=>hasB p n) && hasB x.p n)):=hq_ (by rw [hxp];exact hc_ (l:=t) (k:=k) (d:=default) (p:=fun p=>hasB p n) (show k<t.length by have:=HT.out;omega));have HF:Hid (hasB x.p n=false->inB t n=false):=hq_ fun h=>all_false (l:=t) (k:=k) (d:=default) (show k<t.length by have:=HT.out;omega) (by rw [<- hxp];exact h);obtain ⟨xh,xc,xp⟩:=x;obtain ⟨ax1,nx1,cx1,ax2,nx2,cx2,rfl,rfl⟩:=hx.form;have HR:=fun W (h:Below wr.heap.size wr W)=>u1_ (.slice ax1 nx1 cx1) (.slice ax2 nx2 cx2) xp n W (hx.is.ext h) hx.fr hx.pe HN.out;change ∀ W,_->Calls _ _ #[.agg #[.slice ax1 nx1 cx1,.int .i64 xp.frm,.int .i64 xp.period,.slice ax2 nx2 cx2],.int .i64 n] W (fun e w'=>e=.returned (.bool (hasB xp n))∧_) at HR;dsimp only at e0 e1 e2 e3 HSU HF;clear hxp hx;generalize hasB xp n=bb at *;have HR:=hq_ HR;have HBY:=HBL.out;cases bb
   ·go_wp2_with (go_at_call 107;(with_reducible refine (HR.out _ (Er _)).mono ?_);rintro e w1 ⟨rfl,hb2⟩)
    go_ret;exact ⟨ac_ (by first|exact HF.out rfl|exact HF.out trivial|exact HF.out:inB t n=false).symm,Et HBL.out hb2⟩
   ·go_wp2_with (go_at_call 107;(with_reducible refine (HR.out _ (Er _)).mono ?_);rintro e w1 ⟨rfl,hb2⟩)
    go_roundw
    case rel=>exact ⟨k+1,oq_,by go_num,hq_ (by rw [HSU.out,HPRE.out];rfl),hq_ (Et HBL.out hb2)⟩
    case measure=>simp [intOf];omega
  ·obtain rfl:k=L.length:=oq_;go_wp2_with fail
   go_ret;refine ⟨ac_ (Eq.symm ?_),HBL.out⟩;have h1:=HT.out;have h2:=HPRE.out;rw [List.take_of_length_le oq_] at h2;exact h2
theorem cb_ (F:Nat->Prop) (v:Value) (m:List (List Per)) (w:World) (hm:MixR w F v m) :
  Calls Tryz.prog 17 #[.agg #[v]] w fun e w'=>e=.returned (.bool (bj_ m))∧Below w.heap.size w w':=by
 obtain ⟨L,hLm,hL⟩:=hm;obtain ⟨a,c,rfl,_⟩:=hL.row;have HL:=hq_ hL;have hlen:=hL.len;have hml:m.length=L.length:=by rw [<- hLm];exact List.length_map _
 have HLM:=hq_ hLm;have HM:=hq_ hml;clear hL hLm hml
 go_enter Tryz.func17,Tryz.ntmps17
 by_cases hgt:64<L.length
 ·have hgI:64<(L.length:Int):=oq_;go_wp2_with fail
  go_ret;refine ⟨ac_ ?_,xE⟩;have:=HM.out;unfold bj_;rw [decide_eq_false oq_];rfl
 have hgI:¬ 64<(L.length:Int):=oq_;go_wp2_with fail
 go_loopw [3,4,5] (fun i _ _ wr=>∃ k:Nat,k≤L.length∧i=.int .i64 k∧Hid ((m.take k).all br_=true)∧Hid (Below w.heap.size w wr)∧Hid (Bxx wr w.heap.size #[.slice a L.length c] 28)) (fun i _ _ _=>L.length-(intOf i).toNat)
 case atStart=>exact ⟨0,oq_,rfl,hq_ rfl,hq_ xE,hq_ xB⟩
 case round=>
  obtain ⟨k,hk,rfl,HPRE,HBL,HBX⟩:=hrel;have hc0:=(Bxx.cells HBX.out 0).1
  by_cases hlt:k<L.length
  ·have hlI:(k:Int)<L.length:=oq_;obtain ⟨b8,f8,tv,rfl,hcell,hT⟩:=(HL.out.keep (a5_.below HBL.out) HBL.out.size).get hlt;rw [HLM.out] at hT;have HSU:Hid ((m.take (k+1)).all br_=((m.take k).all br_ && br_ (m.getD k []))):=hq_ (hc_ (l:=m) (k:=k) (d:=[]) (p:=br_) (show k<m.length by have:=HM.out;omega));have HF:Hid (br_ (m.getD k [])=false->bj_ m=false):=hq_ fun h=>by unfold bj_;rw [all_false (l:=m) (k:=k) (d:=[]) (show k<m.length by have:=HM.out;omega) h,Bool.and_false]
   generalize m.getD k []=t at *;obtain ⟨T,hTt,hTL⟩:=hT;obtain ⟨a2,c2,rfl,_⟩:=hTL.row;have htl:t.length=T.length:=by rw [<- hTt,List.length_map]
   have ht44:=hTL.len;have HTL:=hq_ hTL;have HTT:=hq_ hTt;have HTN:=hq_ htl;clear hTL hTt htl
   by_cases h1:T.length<1
   ·have h1I:(T.length:Int)<1:=oq_;go_wp2_with fail
    go_ret;refine ⟨ac_ (HF.out ?_).symm,HBL.out⟩;have:=HTN.out;unfold br_;rw [decide_eq_false oq_];rfl
   ·by_cases h2:4<T.length
    ·have h1I:¬ (T.length:Int)<1:=oq_;have h2I:4<(T.length:Int):=oq_;go_wp2_with fail
     go_ret;refine ⟨ac_ (HF.out ?_).symm,HBL.out⟩;have:=HTN.out;unfold br_;rw [decide_eq_false (p:=t.length≤4) oq_,Bool.and_false];rfl
    ·have h1I:¬ (T.length:Int)<1:=oq_;have h2I:¬ 4<(T.length:Int):=oq_;have HV4:Hid (br_ t=t.all validB):=hq_ (by have:=HTN.out;unfold br_;rw [decide_eq_true oq_,decide_eq_true oq_];rfl);obtain ⟨wo,hwo⟩:∃ wo,wo=wr:=⟨_,rfl⟩;have HBO:=HBL;rw [<- hwo] at HBO HTL HBX;have HWO:=hq_ hwo;clear hwo;go_wp2_with fail
     go_loopw [5] (fun i wq=>∃ j:Nat,j≤T.length∧i=.int .i64 j∧Hid ((t.take j).all validB=true)∧Hid (Below wo.heap.size wo wq)) (fun i _=>T.length-(intOf i).toNat)
     case atStart=>exact ⟨0,oq_,rfl,hq_ rfl,hq_ (by rw [<- HWO.out];exact Er _)⟩
     case round=>
      obtain ⟨j,hj,rfl,HPR2,HB2⟩:=hrel
      by_cases hlt2:j<T.length
      ·have hlI2:(j:Int)<T.length:=oq_;obtain ⟨b1,o1,x,rfl,hx,hxp,hb1,e0,e1,e2,e3⟩:=(HTL.out.keep (a5_.below HB2.out) HB2.out.size).get hlt2;rw [HTT.out] at hxp;have HS2:Hid ((t.take (j+1)).all validB=((t.take j).all validB && validB x.p)):=hq_ (by rw [hxp];exact hc_ (l:=t) (k:=j) (d:=default) (p:=validB) (show j<t.length by have:=HTN.out;omega));have HF2:Hid (validB x.p=false->t.all validB=false):=hq_ fun h=>all_false (l:=t) (k:=j) (d:=default) (show j<t.length by have:=HTN.out;omega) (by rw [<- hxp];exact h);obtain ⟨xh,xc,xp⟩:=x;obtain ⟨ax1,nx1,cx1,ax2,nx2,cx2,rfl,rfl⟩:=hx.form;have HR:=fun W (h:Below wr.heap.size wr W)=>ca_ (.slice ax1 nx1 cx1) (.slice ax2 nx2 cx2) xp W (hx.is.ext h) hx.fr hx.pe;change ∀ W,_->Calls _ _ #[.agg #[.slice ax1 nx1 cx1,.int .i64 xp.frm,.int .i64 xp.period,.slice ax2 nx2 cx2]] W (fun e w'=>e=.returned (.bool (validB xp))∧_) at HR;dsimp only at e0 e1 e2 e3 HS2 HF2;clear hxp hx;generalize validB xp=bb at *;have HR:=hq_ HR;cases bb
       ·go_wp2_with (go_at_call 62;(with_reducible refine (HR.out _ (Er _)).mono ?_);rintro e w1 ⟨rfl,hb2⟩)
        go_ret;exact ⟨ac_ (HF.out (HV4.out.trans (by first|exact HF2.out rfl|exact HF2.out trivial|exact HF2.out))).symm,Et HBO.out (Et HB2.out hb2)⟩
       ·go_wp2_with (go_at_call 62;(with_reducible refine (HR.out _ (Er _)).mono ?_);rintro e w1 ⟨rfl,hb2⟩)
        go_roundw
        case rel=>exact ⟨j+1,oq_,by go_num,hq_ (by rw [HS2.out,HPR2.out];rfl),hq_ (Et HB2.out hb2)⟩
        case measure=>simp [intOf];omega
      ·obtain rfl:j=T.length:=oq_;go_wp2_with fail
       go_roundw
       case rel=>
        refine ⟨k+1,oq_,by go_num,hq_ ?_,hq_ (Et HBO.out HB2.out),hq_ (Bxx.below HBX.out HB2.out)⟩;have h1:=HTN.out;have h2:=HPR2.out;rw [List.take_of_length_le oq_] at h2;rw [HSU.out,HPRE.out,HV4.out,h2];rfl
       case measure=>simp [intOf];omega
  ·obtain rfl:k=L.length:=oq_;go_wp2_with fail
   go_ret;refine ⟨ac_ (Eq.symm ?_),HBL.out⟩;have h1:=HM.out;have h2:=HPRE.out;rw [List.take_of_length_le oq_] at h2;unfold bj_;rw [decide_eq_true oq_,h2];rfl
theorem s1_ (F:Nat->Prop) (v:Value) (t:List Per) (f:Int) (w:World) (ht:ab_ w F v t) (hv:TV t) (hf:InI f) :
  Calls Tryz.prog 123 #[v,.int .i64 f] w fun e w'=>∃ (n:Int) (b:Bool),e=.returned (.tuple #[.int .i64 n,.bool b])∧bs_ (cq_ t t.length 0) f n b∧Below w.heap.size w w':=by
 have HIN:=fun W d (h:Below w.heap.size w W) (hd:InI d)=>ws_ F v t d W (ht.ext h) hd;obtain ⟨L,hLt,hL⟩:=ht;obtain ⟨a1,c1,rfl,_⟩:=hL.row;have HL:=hq_ hL;have hl1:=hL.len;have htl:t.length=L.length:=by rw [<- hLt,List.length_map]
 have HT:=hq_ htl;have HLT:=hq_ hLt;have HV:=hq_ hv;clear hL htl hLt hv
 go_enter Tryz.func123,Tryz.ntmps123
 go_wp2_with fail
 go_loopw [6,7,8,9,10] (fun nv bv i _ _ wr=>∃ (k:Nat) (n:Int) (b:Bool),k≤L.length∧i=.int .i64 k∧nv=.int .i64 n∧bv=.bool b∧Hid (bs_ (cq_ t k 0) f n b)∧Below w.heap.size w wr) (fun _ _ i _ _ _=>L.length-(intOf i).toNat)
 case atStart=>exact ⟨0,0,false,oq_,rfl,rfl,rfl,hq_ (bs_.start.congr fun x _=>kp_),xE⟩
 case round=>
  obtain ⟨k,n,b,hk,rfl,rfl,rfl,HBE,hb⟩:=hrel
  by_cases hlt:k<L.length
  ·have hlI:(k:Int)<L.length:=oq_;have hkt:k<t.length:=by have:=HT.out;omega
   have HB:=hq_ hb;go_wp2_with fail
   go_loopw [6,7,9,10] (fun nv bv i _ wq=>∃ (j:Nat) (n:Int) (b:Bool),j≤(t.getD k default).head.length∧i=.int .i64 j∧nv=.int .i64 n∧bv=.bool b∧Hid (bs_ (cq_ t k j) f n b)∧Below wr.heap.size wr wq) (fun _ _ i _ _=>(t.getD k default).head.length-(intOf i).toNat)
   case atStart=>exact ⟨0,n,b,oq_,rfl,rfl,rfl,HBE,xE⟩
   case round=>
    obtain ⟨j,n,b,hj,rfl,rfl,rfl,HBE2,hb2⟩:=hrel;obtain ⟨b1,o1,x,rfl,hx,hxp,hb1,e0,e1,e2,e3⟩:=(HL.out.keep (a5_.below (Et HB.out hb2)) (Et HB.out hb2).size).get hlt;rw [HLT.out] at hxp;rw [<- hxp] at hj;have HN:Hid ((t.getD k default).head.length=x.p.head.length):=hq_ (by rw [hxp]);have HXP:=hq_ hxp;have hxi:=hx.is.hd;obtain ⟨xh,xc,xp⟩:=x;obtain ⟨ax1,nx1,cx1,ax2,nx2,cx2,rfl,rfl⟩:=hx.form;dsimp only at e0 e1 e2 e3 hxi hj HN;change Hid (xp=_) at HXP;obtain ⟨⟨ah,ch,he,_,_,hcl⟩,hln,hrg⟩:=hxi;injection he with he1 he2 he3
    subst he1;subst he2;subst he3;have HCL:=hq_ hcl;have HRG:=hq_ hrg;clear hcl hrg hxp hx
    by_cases hjl:j<xp.head.length
    ·have hjI:(j:Int)<xp.head.length:=oq_;rcases HCL.out with h0|⟨b4,o4,rfl,hc4⟩
     ·rw [h0] at hjl;simp at hjl
     have c0:=hc4 j hjl;clear hc4;have hd:=HRG.out _ (aa_ (d:=0) hjl);have HS:=fun x=>l8_ (t:=t) (i:=k) (k:=j) (x:=x) (by rw [<- HXP.out];exact hjl);rw [<- HXP.out] at HS;have HS:=hq_ HS;generalize xp.head.getD j 0=d at *
     by_cases h1:f≤d
     ·cases b with
      | false=>
       cases hq:inB t d with
       | true=>
        have HI:=fun W h=>HIN W d h hd;rw [hq] at HI;have HTM:=hq_ ((ea_ HV.out).1 hq);clear hq;go_wp2_with (go_at_call 67;refine (HI _ xE).mono ?_;rintro e w1 ⟨rfl,hb3⟩)
        go_roundw
        case rel=>exact ⟨j+1,d,true,by have:=HN.out;omega,by go_num,rfl,rfl,hq_ (go_ HBE2.out HS.out h1 (by first|exact .inl rfl|exact .inr (by assumption)) HTM.out),xE⟩
        case measure=>simp only [HN.out];simp [intOf];omega
       | false=>
        have HI:=fun W h=>HIN W d h hd;rw [hq] at HI;have HTM:Hid (¬ tmem t d):=hq_ fun g=>by rw [(ea_ HV.out).2 g] at hq;exact absurd hq dq_
        clear hq;go_wp2_with (go_at_call 67;refine (HI _ xE).mono ?_;rintro e w1 ⟨rfl,hb3⟩)
        go_roundw
        case rel=>exact ⟨j+1,n,_,by have:=HN.out;omega,by go_num,rfl,rfl,hq_ (d6_ HBE2.out HS.out fun g=>HTM.out g.2.2),xE⟩
        case measure=>simp only [HN.out];simp [intOf];omega
      | true=>
       by_cases h2:d<n
       ·
        cases hq:inB t d with
        | true=>
         have HI:=fun W h=>HIN W d h hd;rw [hq] at HI;have HTM:=hq_ ((ea_ HV.out).1 hq);clear hq;go_wp2_with (go_at_call 67;refine (HI _ xE).mono ?_;rintro e w1 ⟨rfl,hb3⟩)
         go_roundw
         case rel=>exact ⟨j+1,d,true,by have:=HN.out;omega,by go_num,rfl,rfl,hq_ (go_ HBE2.out HS.out h1 (by first|exact .inl rfl|exact .inr (by assumption)) HTM.out),xE⟩
         case measure=>simp only [HN.out];simp [intOf];omega
        | false=>
         have HI:=fun W h=>HIN W d h hd;rw [hq] at HI;have HTM:Hid (¬ tmem t d):=hq_ fun g=>by rw [(ea_ HV.out).2 g] at hq;exact absurd hq dq_
         clear hq;go_wp2_with (go_at_call 67;refine (HI _ xE).mono ?_;rintro e w1 ⟨rfl,hb3⟩)
         go_roundw
         case rel=>exact ⟨j+1,n,_,by have:=HN.out;omega,by go_num,rfl,rfl,hq_ (d6_ HBE2.out HS.out fun g=>HTM.out g.2.2),xE⟩
         case measure=>simp only [HN.out];simp [intOf];omega
       ·go_wp2_with fail
        go_roundw
        case rel=>exact ⟨j+1,n,true,by have:=HN.out;omega,by go_num,rfl,rfl,hq_ (d6_ HBE2.out HS.out fun g=>g.2.1.elim (fun g=>absurd g dq_) h2),xE⟩
        case measure=>simp only [HN.out];simp [intOf];omega
     ·go_wp2_with fail
      go_roundw
      case rel=>exact ⟨j+1,n,b,by have:=HN.out;omega,by go_num,rfl,rfl,hq_ (d6_ HBE2.out HS.out fun g=>h1 g.1),xE⟩
      case measure=>simp only [HN.out];simp [intOf];omega
    ·obtain rfl:j=xp.head.length:=oq_;go_wp2_with fail
     go_roundw
     case rel=>exact ⟨k+1,n,b,oq_,by go_num,rfl,rfl,hq_ (HBE2.out.congr fun x _=>by rw [mf_ hkt,<- HXP.out]),xE⟩
     case measure=>simp [intOf];omega
  ·obtain rfl:k=L.length:=oq_;go_wp2_with fail
   go_ret2;exact ⟨n,b,rfl,by rw [HT.out];exact HBE.out,xE⟩
theorem t9_ (a b:Int) (w:World) (ha:1≤a) (ha1:a≤9223372036854775807) (hb:1≤b) (hb1:b≤9223372036854775807) :
  Calls Tryz.prog 182 #[.int .i64 a,.int .i64 b] w fun e w'=>e=.returned (.int .i64 (Int.gcd a b:Nat))∧∃ n,w'=w.drewN n:=by
 have hg:=bn_ (b:=b) ha;have hg2:=cs_ (a:=a) hb;generalize hgd:((Int.gcd a b:Nat):Int)=g at *;have HG:=hq_ hgd;clear hgd
 go_enter Tryz.func182,Tryz.ntmps182
 go_wp2_with fail
 go_loopw [5,6] (fun vx vy wr=>∃ x y:Int,vx=.int .u64 x∧vy=.int .u64 y∧0≤x∧x≤9223372036854775807∧0≤y∧y≤9223372036854775807∧Int.gcd x y=Int.gcd a b∧∃ n,wr=w.drewN n) (fun _ vy _=>(intOf vy).toNat)
 case atStart=>exact ⟨a,b,rfl,rfl,oq_,ha1,oq_,hb1,rfl,0,rfl⟩
 case round=>
  obtain ⟨x,y,rfl,rfl,hx0,hx1,hy0,hy1,hgxy,n,rfl⟩:=hrel;have HX:=hq_ hgxy;clear hgxy
  by_cases hz:y=0
  ·subst hz;have hxg:x=g:=by have:=gcd_zero hx0;rw [HX.out,HG.out] at this;exact this.symm
   have HXG:=hq_ hxg;clear hxg;have hxb:¬ 9223372036854775807<x:=oq_;go_wp2_with fail
   go_ret;exact ⟨d2_ HXG.out,n,rfl⟩
  ·have hs:=gj_ hx0 (show 0<y by omega);rw [HX.out] at hs;have HS:=hq_ hs;clear hs;have hm0:=Int.emod_nonneg x (show y≠0 by omega);have hm1:=Int.emod_lt_of_pos x (show 0<y by omega);have hzb:(y != 0)=true:=by rw [bne_iff_ne];omega
   have hypos:0<y:=oq_;clear hz;go_wp2_with fail
   go_quiet (fail)
   go_wp2_with fail
   go_roundw
   case rel=>exact ⟨y,x % y,rfl,rfl,hy0,hy1,hm0,oq_,HS.out,_,World.drewN_drewN _ _ _⟩
   case measure=>simp [intOf];omega
theorem ok_ (h c:Value) (p:Per) (j:Nat) (w:World) (his:a8_ w h c p) (hf:0≤p.frm) (hf1:p.frm≤1125899906842624) (hp:1≤p.period) (hp1:p.period≤1125899906842624) (hj:j<p.cycle.length) (hn:0≤p.cycle.getD j 0) (hn1:p.cycle.getD j 0≤1125899906842624) :
  Calls Tryz.prog 156 #[perV h c p.frm p.period,.int .i64 j] w fun e w'=>e=.returned (.int .i64 (resP p (p.cycle.getD j 0)))∧Below w.heap.size w w':=by
 have n1:p.period≠0:=oq_;have b1:=Int.emod_nonneg p.frm n1;have b2:=Int.emod_lt_of_pos p.frm (show 0<p.period by omega);have q1:p.frm.tmod p.period=p.frm % p.period:=Int.tmod_eq_emod_of_nonneg hf;obtain ⟨⟨⟨ah,ch,rfl,h1,h2,_⟩,_,_⟩,⟨ac,cc,rfl,hc1,hc2,hcl⟩,hln,_⟩:=his;rcases hcl with h0|⟨b4,o4,rfl,hc4⟩
 ·rw [h0] at hj;simp at hj
 have c0:=hc4 j hj;have hjI:(j:Int)<p.cycle.length:=oq_;clear hc4;generalize p.cycle.getD j 0=n at *;have q2:(p.frm % p.period+n).tmod p.period=(p.frm % p.period+n) % p.period:=Int.tmod_eq_emod_of_nonneg oq_;unfold resP;generalize p.frm % p.period=r at *;have HR:Hid (0≤(r+n) % p.period∧(r+n) % p.period<p.period):=hq_ ⟨Int.emod_nonneg _ n1,Int.emod_lt_of_pos _ oq_⟩;generalize p.cycle.length=pl at *;generalize p.head.length=ph at *;have hz:=World.block_lt_of_cell? w _ c0;have d0:=(Bxx.new w #[.slice ah ph ch,.int .i64 p.frm,.int .i64 p.period,.slice (some ⟨b4,o4,none⟩) pl cc] 39).cells;have e1:=(d0 1).1;have e2:=(d0 2).1;have e3:=(d0 3).1;have e4:=ag_ c0 (.cells #[.slice ah ph ch,.int .i64 p.frm,.int .i64 p.period,.slice (some ⟨b4,o4,none⟩) pl cc] 39);clear d0 c0
 go_enter Tryz.func156,Tryz.ntmps156
 go_wp2_with fail
 go_quiet (fail)
 go_wp2_with fail
 go_ret;exact ⟨rfl,xE⟩
def ChoP (done:List (Int × Int)) (L:List PV):Prop:=∀ k,k<done.length->(done.getD k (0,0)).1=((L.map PV.p).getD k default).period∧0≤(done.getD k (0,0)).2∧(done.getD k (0,0)).2≤1099511627776
theorem qt_ (F:Nat->Prop) (v cv:Value) (L:List PV) (done:List (Int × Int)) (P r:Int) (w:World) (hv:TV (L.map PV.p)) (hT:be_ w F v L) (hC:Ints w cv (done.map Prod.snd)) (hp:ChoP done L) (hl:done.length<L.length) (hP:P=((L.map PV.p).getD done.length default).period) (hr:0≤r) (hr1:r≤1099511627776) :
  Calls Tryz.prog 157 #[v,cv,.int .i64 r] w fun e w'=>∃ b,e=.returned (.bool b)∧(b=true↔fr_ done P r)∧Below w.heap.size w w':=by
 obtain ⟨a1,c1,rfl,hx1,hx2,_⟩:=hT.row.is;have hl1:=hT.len;have hlI:(done.length:Int)<L.length:=oq_;have HT:=hq_ hT;have HC:=hq_ hC;have HPR:=hq_ hp;have HP:=hq_ hP;have HV:=hq_ hv;obtain ⟨⟨ac,cc,rfl,hc1,hc2,_⟩,hln,_⟩:=hC;have HLEN:Hid ((done.map Prod.snd).length=done.length):=hq_ (List.length_map _);rw [HLEN.out] at hc1 hln ⊢;clear hT hp hv hP
 go_enter Tryz.func157,Tryz.ntmps157
 go_wp2_with fail
 go_loopw [8] (fun i wr=>∃ k:Nat,k≤done.length∧i=.int .i64 k∧Hid (ff_ done P r k)∧Hid (Below w.heap.size w wr)) (fun i _=>done.length-(intOf i).toNat)
 case atStart=>exact ⟨0,oq_,rfl,hq_ (fun j hj=>absurd hj oq_),hq_ xE⟩
 case round=>
  obtain ⟨k,hk,rfl,HAG,HB⟩:=hrel
  by_cases hlt:k<done.length
  ·have hkI:(k:Int)<done.length:=oq_;have hkL:(k:Int)<L.length:=oq_;obtain ⟨b1,o1,x,ha,hx,hxp,hxb,e0,e1,e2,e3⟩:=(HT.out.keep (a5_.below HB.out) HB.out.size).get hl;subst ha;obtain ⟨_,_,y,ha,hy,hyp,hyb,g0,g1,g2,g3⟩:=(HT.out.keep (a5_.below HB.out) HB.out.size).get (show k<L.length by omega);cases ha;rw [<- hxp] at HP;have hd:=HPR.out k hlt;rw [<- hyp] at hd;obtain ⟨hd1,hd2,hd3⟩:=hd;have hxv:=(as_ x.p).1 (HV.out _ (by rw [hxp];exact aa_ (by simpa using hl)));have hyv:=(as_ y.p).1 (HV.out _ (by rw [hyp];exact aa_ tq_));have p0:=hxv.wf.per;have p1:x.p.period≤1099511627776:=hxv.per;have z0:=hyv.wf.per;have z1:y.p.period≤1099511627776:=hyv.per;obtain ⟨⟨_,_,hca,_,_,hcl⟩,_,_⟩:=HC.out.ext HB.out;injection hca with hca1 hca2 hca3
   subst hca1;rcases hcl with h0|⟨b4,o4,rfl,hc4⟩
   ·rw [h0] at HLEN;have:=HLEN.out;simp at this;omega
   have c0:=hc4 k (by rw [HLEN.out];exact hlt);have hg0:(done.map Prod.snd).getD k 0=(done.getD k (0,0)).2:=by
    rw [List.getD_eq_getElem?_getD,List.getD_eq_getElem?_getD,List.getElem?_map];rw [List.getElem?_eq_getElem hlt];rfl
   rw [hg0] at c0;have HGC:=fun W=>t9_ x.p.period y.p.period W oq_ oq_ oq_ oq_;have hgb:=bn_ (a:=x.p.period) (b:=y.p.period) p0;have HSUC:Hid ((r-(done.getD k (0,0)).2) % ((Int.gcd x.p.period (done.getD k (0,0)).1:Nat):Int)=0->ff_ done P r (k+1)):=hq_ (by rw [<- HP.out];exact HAG.out.succ);have HFAI:Hid (fr_ done P r->(r-(done.getD k (0,0)).2) % ((Int.gcd x.p.period (done.getD k (0,0)).1:Nat):Int)=0):=hq_ (by rw [<- HP.out];exact fun h=>j3_.1 h k hlt);rw [hd1] at HSUC HFAI;obtain ⟨xh,xc,xp⟩:=x;obtain ⟨ax1,nx1,cx1,ax2,nx2,cx2,rfl,rfl⟩:=hx.form;obtain ⟨yh,yc,yp⟩:=y;obtain ⟨ay1,ny1,cy1,ay2,ny2,cy2,rfl,rfl⟩:=hy.form;dsimp only at e0 e1 e2 e3 g0 g1 g2 g3 HGC hgb HSUC HFAI p0 p1 z0 z1;clear hxp hyp hx hy hxv hyv hd1 hc4 hg0 HP hca2 hca3;generalize ((Int.gcd xp.period yp.period:Nat):Int)=G at *;generalize (done.getD k (0,0)).2=d2 at *;have htm:(r-d2).tmod G=0↔(r-d2) % G=0:=by
    constructor
    ·exact fun h=>Int.emod_eq_zero_of_dvd (Int.dvd_of_tmod_eq_zero h)
    ·exact fun h=>Int.tmod_eq_zero_of_dvd (Int.dvd_of_emod_eq_zero h)
   by_cases ha:(r-d2) % G=0
   ·have hT:=htm.2 ha;have HN:=hq_ (HSUC.out ha);clear htm ha;go_wp2_with fail
    go_quiet ((go_at_call 182;(first|exact Calls.quiet_of (HGC _)|exact d9_ (HGC _))))
    go_wp2_with fail
    go_roundw
    case rel=>exact ⟨k+1,oq_,by go_num,HN,hq_ (Below.drewN HB.out _)⟩
    case measure=>simp [intOf];omega
   ·have hT:(r-d2).tmod G≠0:=fun h=>ha (htm.1 h);have HNT:Hid (¬ fr_ done P r):=hq_ fun h=>ha (HFAI.out h);clear htm ha;go_wp2_with fail
    go_quiet ((go_at_call 182;(first|exact Calls.quiet_of (HGC _)|exact d9_ (HGC _))))
    go_wp2_with fail
    go_ret;exact ⟨false,rfl,⟨fun h=>absurd h dq_,fun h=>absurd h HNT.out⟩,Below.drewN HB.out _⟩
  ·obtain rfl:k=done.length:=oq_;go_wp2_with fail
   go_ret;exact ⟨true,rfl,⟨fun _=>j3_.2 HAG.out,fun _=>rfl⟩,HB.out⟩
end Go.Proofs.YthjnojbeimchdaaGreat
namespace Kal
theorem xm_ (hs:1≤step) (hP:1≤P):lcmI step P=step*(P / ((Int.gcd step P:Nat):Int)):=by
 rw [yg_ hs hP];unfold lcmI;rw [Int.gcd_comm P step,Int.mul_comm]
theorem y7_ (hs:1≤step) (hP:1≤P) (h0:0≤at_) (h1:at_<step) (hk:(k:Int)<P / ((Int.gcd step P:Nat):Int)) (h:(at_+k*step-r) % P=0) :
  cp_ at_ step r P (at_+k*step) (step*(P / ((Int.gcd step P:Nat):Int))) true:=by
 have hm:0≤(k:Int)*step:=Int.mul_nonneg oq_ oq_;refine .inl ⟨rfl,(xm_ hs hP).symm,oq_,?_,?_,?_⟩
 ·rw [xm_ hs hP];have h2:((k:Int)+1)*step≤P / ((Int.gcd step P:Nat):Int)*step:=Int.mul_le_mul_of_nonneg_right oq_ oq_;rw [Int.add_mul,Int.one_mul] at h2;rw [Int.mul_comm step];omega
 ·rw [Int.add_mul_emod_self_right]
 ·have h3:=Int.emod_add_mul_ediv (at_+k*step-r) P;rw [h] at h3;exact (Int.emod_emod_of_dvd _ (Int.dvd_refl P)).symm.trans (by
   rw [show at_+(k:Int)*step=r+P*((at_+k*step-r) / P) by omega,Int.add_mul_emod_self_left,Int.emod_emod_of_dvd _ (Int.dvd_refl P)])
theorem yi_ (hs:1≤step) (hP:1≤P) (h0:0≤at_) (h1:at_<step) (h:∀ k:Nat,(k:Int)<P / ((Int.gcd step P:Nat):Int)->¬ (at_+k*step-r) % P=0):cp_ at_ step r P 0 0 false:=by
 obtain ⟨a,s,b,hm⟩:=tu_ (at_:=at_) (r:=r) hs hP;rcases hm with ⟨rfl,rfl,g0,g1,g2,g3⟩|⟨rfl,rfl,rfl,g⟩
 ·exfalso;have ha:a % step=at_:=by rw [g2,Int.emod_eq_of_lt h0 h1]
  have hd:=Int.emod_add_mul_ediv a step;rw [ha] at hd;have hq0:0≤a / step:=Int.ediv_nonneg g0 oq_;have hqn:a / step<P / ((Int.gcd step P:Nat):Int):=by
   rw [xm_ hs hP] at g1;exact Int.ediv_lt_of_lt_mul oq_ (by rw [Int.mul_comm] at g1;exact g1)
  refine h (a / step).toNat (by rw [Int.toNat_of_nonneg hq0];exact hqn) ?_;rw [Int.toNat_of_nonneg hq0,Int.mul_comm,hd];exact Int.emod_eq_emod_iff_emod_sub_eq_zero.1 g3
 ·exact .inr ⟨rfl,rfl,rfl,g⟩
def CapL (F:Int) (S:Int->Prop) (f n:Int):Prop:=(f≤n∧n≤F∧S n∧∀ x,f≤x->x<n->¬ S x)∨(n=F+1∧∀ x,f≤x->x≤F->¬ S x)
theorem CapL.start:CapL F (fun _=>False) f (F+1):=.inr ⟨rfl,fun _ _ _ h=>h⟩
theorem CapL.le {S:Int->Prop} (h:CapL F S f n):n≤F+1:=by
 rcases h with ⟨_,h,_⟩|⟨h,_⟩ <;> omega
theorem CapL.congr {S T:Int->Prop} (h:CapL F S f n) (hs:∀ x,f≤x->(T x↔S x)):CapL F T f n:=by
 rcases h with ⟨h1,h2,h3,h4⟩|⟨h1,h2⟩
 ·exact .inl ⟨h1,h2,(hs n h1).2 h3,fun x a c=>by rw [hs x a];exact h4 x a c⟩
 ·exact .inr ⟨h1,fun x a c=>by rw [hs x a];exact h2 x a c⟩
theorem CapL.union {m:Int} {S T:Int->Prop} (h:CapL F S f n) (g:CapL F T f m):CapL F (fun x=>S x∨T x) f (min n m):=by
 have hn:=h.le;have hm:=g.le
 by_cases hnm:n≤m
 ·rw [Int.min_eq_left hnm];rcases h with ⟨h1,h2,h3,h4⟩|⟨h1,h2⟩
  ·refine .inl ⟨h1,h2,.inl h3,fun x a c=>fun hx=>hx.elim (h4 x a c) fun hx=>?_⟩;rcases g with ⟨_,_,_,g4⟩|⟨_,g2⟩
   ·exact g4 x a oq_ hx
   ·exact g2 x a oq_ hx
  ·refine .inr ⟨h1,fun x a c=>fun hx=>hx.elim (h2 x a c) fun hx=>?_⟩;rcases g with ⟨_,g1,_⟩|⟨_,g2⟩
   ·omega
   ·exact g2 x a c hx
 ·rw [Int.min_eq_right oq_];rcases g with ⟨g1,g2,g3,g4⟩|⟨g1,g2⟩
  ·refine .inl ⟨g1,g2,.inr g3,fun x a c=>fun hx=>hx.elim (fun hx=>?_) (g4 x a c)⟩;rcases h with ⟨_,_,_,h4⟩|⟨_,h2⟩
   ·exact h4 x a oq_ hx
   ·exact h2 x a oq_ hx
  ·omega
theorem CapL.next {S:Int->Prop} (h:CapL F S f n):ax_ F S f (if F<n then 0 else n) (decide (n≤F)):=by
 rcases h with ⟨h1,h2,h3,h4⟩|⟨h1,h2⟩
 ·rw [if_neg oq_];exact .inl ⟨tq_,h1,h2,h3,h4⟩
 ·rw [if_pos oq_];exact .inr ⟨tq_,rfl,h2⟩
theorem CapL.of_next {S:Int->Prop} (h:ax_ F S f n b):CapL F S f (if b=true then n else F+1):=by
 rcases h with ⟨rfl,h1,h2,h3,h4⟩|⟨rfl,rfl,h1⟩
 ·exact .inl ⟨h1,h2,h3,h4⟩
 ·exact .inr ⟨rfl,h1⟩
theorem CapL.leaf (hs:1≤step) (h0:0≤at_) (h1:at_<step) (hf:0≤f):CapL F (ClsS [] at_ step) f (min (F+1) (upTo f at_ step)):=by
 obtain ⟨k1,k2,k3,k4⟩:=wf_ hs h0 h1 hf;generalize upTo f at_ step=u at *
 by_cases hu:u≤F
 ·rw [Int.min_eq_right oq_];exact .inl ⟨k1,hu,hm_.2 k3,fun x a c hx=>by have:=k4 x a (hm_.1 hx);omega⟩
 ·rw [Int.min_eq_left oq_];exact .inr ⟨rfl,fun x a c hx=>by have:=k4 x a (hm_.1 hx);omega⟩
def aftS (p:Per) (t:List Per) (at_ step:Int) (j:Nat) (x:Int):Prop:=fs_ (fun _=>False) p t at_ step j x
theorem yd_:aftS p t at_ step 0 x↔False:=qw_
theorem ym_:ClsS (p :: t) at_ step x↔aftS p t at_ step p.cycle.length x:=by
 unfold aftS;rw [tw_];simp
end Kal
namespace Go.Proofs.YthjnojbeimchdaaGreat
open Go.RowKit Go.Maps Kal
def yl_ (at_ step r P:Int) (w:World) (e:Ending) (w':World):Prop:=
 ∃ (a s:Int) (b:Bool),cp_ at_ step r P a s b∧e=.returned (.tuple #[.agg #[.int .i64 a,.int .i64 s],.bool b])∧Below w.heap.size w w'
theorem yc_ (at_ step r P:Int) (w:World) (h0:0≤at_) (h1:at_<step) (r0:0≤r) (r1:r<P) (hs:step≤27720) (hp:P≤27720) :
  Calls Tryz.prog 155 #[.agg #[.int .i64 at_,.int .i64 step],.int .i64 r,.int .i64 P] w (yl_ at_ step r P w):=by
 have HGC:=fun W=>t9_ step P W oq_ oq_ oq_ oq_;have hg:=bn_ (a:=step) (b:=P) oq_;have hg2:=cs_ (a:=step) (b:=P) oq_;have HFO:=hq_ (fun k:Nat=>y7_ (at_:=at_) (step:=step) (r:=r) (P:=P) (k:=k) oq_ oq_ h0 h1);have HNO:=hq_ (yi_ (at_:=at_) (step:=step) (r:=r) (P:=P) oq_ oq_ h0 h1);generalize ((Int.gcd step P:Nat):Int)=G at *;have hn0:0≤P / G:=Int.ediv_nonneg oq_ oq_;have hn1:P / G≤P:=Int.ediv_le_self _ oq_;have hn2:1≤P / G:=(Int.le_ediv_iff_mul_le oq_).2 oq_;have hq:P.tdiv G=P / G:=Int.tdiv_eq_ediv_of_nonneg oq_;obtain ⟨N,hN⟩:∃ N:Nat,(N:Int)=P / G:=⟨(P / G).toNat,Int.toNat_of_nonneg hn0⟩;rw [<- hN] at hn0 hn1 hn2 hq HFO HNO;have hD:(1152921504606846976:Int).tdiv N=1152921504606846976 / N:=Int.tdiv_eq_ediv_of_nonneg oq_;have hD2:27720≤(1152921504606846976:Int) / N:=(Int.le_ediv_iff_mul_le oq_).2 oq_;have hD3:(1152921504606846976:Int) / N≤1152921504606846976:=Int.ediv_le_self _ oq_;generalize (1152921504606846976:Int) / N=D at *;have hwD:wrap64 D=D:=IntWalk.wrap64_in D ⟨oq_,oq_⟩;have hDs:¬ D<step:=oq_;have hM0:0≤step*(N:Int):=Int.mul_nonneg oq_ oq_;have hM1:step*(N:Int)≤27720*27720:=Int.mul_le_mul hs oq_ oq_ oq_;have hwM:IntKind.i64.wrap (step*(N:Int))=step*N:=f5_ ⟨oq_,oq_⟩;have hGz:G≠0:=oq_;have hNz:(N:Int)≠0:=oq_;have hPz:P≠0:=oq_;have hsz:(step == 0)=false:=by simp;omega
 clear hN
 go_enter Tryz.func155,Tryz.ntmps155
 go_wp2_with (go_at_call 182;refine (HGC _).mono ?_;rintro e w1 ⟨rfl,nd,rfl⟩)
 have hb0:Bxx (((w.alloc (.cells #[.int .i64 at_,.int .i64 step] 116)).alloc (.cells #[.int .i64 0,.int .i64 0] 116)).drewN nd) w.heap.size #[.int .i64 at_,.int .i64 step] 116:=((Bxx.new w _ _).alloc _).below (En (Er _) nd);have hb1:Bxx (((w.alloc (.cells #[.int .i64 at_,.int .i64 step] 116)).alloc (.cells #[.int .i64 0,.int .i64 0] 116)).drewN nd) (w.heap.size+1) #[.int .i64 0,.int .i64 0] 116:=Bxx.below (Bxx.at sq_) (En (Er _) nd)
 go_loopw [9] (fun kv wr=>∃ k:Nat,k≤N∧kv=.int .i64 k∧Hid (∀ j:Nat,j<k->¬ (at_+j*step-r) % P=0)∧Hid (Bxx wr w.heap.size #[.int .i64 (at_+k*step),.int .i64 step] 116)∧Hid (Bxx wr (w.heap.size+1) #[.int .i64 0,.int .i64 0] 116)∧Hid (Below w.heap.size w wr)) (fun kv _=>N-(intOf kv).toNat)
 case atStart=>exact ⟨0,oq_,rfl,hq_ (fun j hj=>oq_),hq_ (by simpa using hb0),hq_ hb1,hq_ xE⟩
 case round=>
  obtain ⟨k,hk,rfl,HNK,HB0,HB1,HB⟩:=hrel;clear hb0 hb1;have c0:=(HB0.out.cells 0).1;have c1:=(HB0.out.cells 0).2;have c2:=(HB0.out.cells 1).1;have d0:=HB1.out.cells 0;have d1:=HB1.out.cells 1;have hkm0:0≤(k:Int)*step:=Int.mul_nonneg oq_ oq_;have hkm1:(k:Int)*step≤27720*27720:=Int.mul_le_mul oq_ hs oq_ oq_;have HCN:Hid (at_+(k:Int)*step+step=at_+((k+1:Nat):Int)*step):=hq_ (by rw [show ((k+1:Nat):Int)=(k:Int)+1 by omega,Int.add_mul,Int.one_mul];omega);have HF:=hq_ (HFO.out k);have HZZ:Hid (¬ (at_+(k:Int)*step-r) % P=0->∀ j:Nat,j<k+1->¬ (at_+j*step-r) % P=0):=hq_ fun h j hj=>by
   by_cases hjk:j<k
   ·exact HNK.out j hjk
   ·obtain rfl:j=k:=oq_;exact h
  have hc0:0≤at_+(k:Int)*step:=oq_;have hc1:at_+(k:Int)*step≤1000000000:=oq_;generalize at_+(k:Int)*step=c at *;have htm:(c-r).tmod P=0↔(c-r) % P=0:=⟨fun h=>Int.emod_eq_zero_of_dvd (Int.dvd_of_tmod_eq_zero h),fun h=>Int.tmod_eq_zero_of_dvd (Int.dvd_of_emod_eq_zero h)⟩
  by_cases hkn:k<N
  ·have hkI:(k:Int)<N:=oq_
   by_cases hz:(c-r) % P=0
   ·have hT:=htm.2 hz;have HFF:=hq_ (HF.out hkI hz);clear htm hz;go_wp2_with fail
    go_quiet (fail)
    go_wp2_with fail
    have HW:Bxx (((wr.drewN nq).setCell ⟨w.heap.size+1,0,none⟩ (.int .i64 c)).setCell ⟨w.heap.size+1,1,none⟩ (.int .i64 (step*N))) (w.heap.size+1) #[.int .i64 c,.int .i64 (step*N)] 116:=a4_ 1 _ (a4_ 0 _ (HB1.out.below (En (Er _) nq)));have k0:=(HW.cells 0).1;have k1:=(HW.cells 1).1;exact bodyPost_ret (v:=.tuple #[.agg #[.int .i64 c,.int .i64 (step*N)],.bool true]) (by simp [results,Tryz.results155,go_sem,k0,k1]) rfl ⟨_,_,_,HFF.out,rfl,((Below.drewN HB.out nq).setCell (p:=⟨w.heap.size+1,0,none⟩) (Nat.le_succ _) _).setCell (p:=⟨w.heap.size+1,1,none⟩) (Nat.le_succ _) _⟩
   ·have hT:(c-r).tmod P≠0:=fun h=>hz (htm.1 h);have HZN:=hq_ (HZZ.out hz);clear htm hz;go_wp2_with fail
    go_roundw
    case rel=>
     refine ⟨k+1,oq_,by go_num,HZN,hq_ ?_,hq_ (Bxx.setNe HB1.out _ oq_),hq_ (HB.out.setCell (p:=⟨w.heap.size,0,none⟩) (Nat.le_refl _) _)⟩;rw [<- HCN.out];exact a4_ 0 _ HB0.out
    case measure=>simp [intOf];omega
  ·obtain rfl:k=N:=oq_;have HMN:=hq_ (HNO.out fun j hj=>HNK.out j oq_);go_wp2_with fail
   have HW:Bxx ((wr.setCell ⟨w.heap.size+1,0,none⟩ (.int .i64 0)).setCell ⟨w.heap.size+1,1,none⟩ (.int .i64 0)) (w.heap.size+1) #[.int .i64 0,.int .i64 0] 116:=a4_ 1 _ (a4_ 0 _ HB1.out);have k0:=(HW.cells 0).1;have k1:=(HW.cells 1).1;exact bodyPost_ret (v:=.tuple #[.agg #[.int .i64 0,.int .i64 0],.bool false]) (by simp [results,Tryz.results155,go_sem,k0,k1]) rfl ⟨_,_,_,HMN.out,rfl,(HB.out.setCell (p:=⟨w.heap.size+1,0,none⟩) (Nat.le_succ _) _).setCell (p:=⟨w.heap.size+1,1,none⟩) (Nat.le_succ _) _⟩
end Go.Proofs.YthjnojbeimchdaaGreat
end
