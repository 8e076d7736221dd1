/- Part 8 of the proof of MixedDecisionsMatchReference_said. -/
import Derived.Test.YthjnojbeimchdaaGreatU7
import Derived.Test.YthjnojbeimchdaaGreatU6
import Derived.Test.YthjnojbeimchdaaGreatU5
import Derived.Test.YthjnojbeimchdaaGreatU4
import Derived.Laws.EntriesVeiled
set_option linter.unusedVariables false
set_option linter.unusedSimpArgs false
set_option maxRecDepth 100000
set_option maxHeartbeats 4000000
section
variable {ops:Array Go.Oper}{b:Bool}{e:Go.Ending}{F P a d f n r s x:Int}{m:List (List Kal.Per)}{rest:List Go.Oper}{L:List Go.Proofs.YthjnojbeimchdaaGreat.PV}{t:List Kal.Per}{cs xs:List Go.Value}{B c i j k:Nat}{o:Go.Oper}{row:Option Nat}{p q:Kal.Per}{lv v:Go.Value}{W W' W1 w w':Go.World}
namespace Go.Proofs.YthjnojbeimchdaaGreat
open Go.RowKit Go.Maps Kal
theorem be_.tail {F:Nat->Prop} {b o:Nat} {x:PV} (h:be_ W F (.slice (some ⟨b,o,none⟩) (x :: L).length c) (x :: L)) :
  (c=1->be_ W F (.slice (some ⟨b,o,none⟩) 0 0) L)∧(1<c->be_ W F (.slice (some ⟨b,o+4,none⟩) L.length (c-1)) L):=by
 obtain ⟨a',c',he,h1,h2,_⟩:=h.row.is;injection he with _ _ hc
 have hl:=h.len;simp only [List.length_cons] at h1 hl;refine ⟨fun hc1=>?_,fun hc1=>?_⟩
 ·have hL:L=[]:=List.eq_nil_of_length_eq_zero oq_;subst hL;exact ⟨⟨some ⟨b,o,none⟩,0,rfl,Nat.le_refl _,oq_,.inl rfl⟩,sq_,sq_⟩
 ·have hp:=h.row.part rfl sq_ 1 L.length (c-1) tq_ oq_ oq_;refine ⟨?_,oq_,fun y hy=>h.all y (List.mem_cons_of_mem _ hy)⟩;simpa using hp
theorem yf_ {m:Int} {S:Int->Prop} (h:CapL F S f n) (e:m=n):CapL F S f m:=e ▸ h
theorem y3_ (F:Nat->Prop) (f:Int) (hf0:0≤f) (hf1:f≤1152921504606846976) :
  ∀ (L:List PV) (v:Value) (a s:Int) (w:World),be_ w F v L->(∀ x∈L,x.p.WF∧x.p.period∣27720∧x.p.frm≤1099511627776)->0≤a->a<s->s∣27720->
   Calls Tryz.prog 124 #[v,.agg #[.int .i64 a,.int .i64 s],.int .i64 f] w fun e w'=>∃ n,e=.returned (.int .i64 n)∧CapL FarI (ClsS (L.map PV.p) a s) f n∧Below w.heap.size w w':=by
 intro L
 induction L with
 | nil=>
  intro v a s w hT hv h0 h1 hd;have hs:s≤27720:=Int.le_of_dvd dq_ hd;have HLF:=hq_ (CapL.leaf (F:=FarI) (f:=f) (show 1≤s by omega) h0 h1 hf0);obtain ⟨ta,tc,rfl,_⟩:=hT.row.is;have hb0:Bxx (w.alloc (.cells #[.int .i64 a,.int .i64 s] 116)) w.heap.size #[.int .i64 a,.int .i64 s] 116:=Bxx.new _ _ _;clear hT hv hd;obtain ⟨q,hq⟩:∃ q,q=(f-a+s-1) / s:=⟨_,rfl⟩
  by_cases haf:a<f
  ·have hu:upTo f a s=a+q*s:=by unfold upTo;rw [if_pos haf,hq]
   obtain ⟨k1,k2,_,_⟩:=wf_ (show 1≤s by omega) h0 h1 hf0;rw [hu] at k1 k2 HLF;have hq1:(f-a+s-1).tdiv s=q:=by rw [hq];exact Int.tdiv_eq_ediv_of_nonneg oq_
   have hq0:0≤q:=by rw [hq];exact Int.ediv_nonneg oq_ oq_
   have hqm:0≤q*s:=Int.mul_nonneg hq0 oq_;have hqs:q≤q*s:=by have:=Int.mul_le_mul_of_nonneg_left (show 1≤s by omega) hq0;rwa [Int.mul_one] at this
   have hwq:wrap64 q=q:=IntWalk.wrap64_in q ⟨oq_,oq_⟩;have hwq2:IntKind.i64.wrap q=q:=f5_ ⟨oq_,oq_⟩;have hwp:wrap64 (q*s)=q*s:=IntWalk.wrap64_in _ ⟨oq_,oq_⟩;have hwp2:IntKind.i64.wrap (q*s)=q*s:=f5_ ⟨oq_,oq_⟩;clear hq hu;have hsz:s≠0:=oq_;have hsp:0<s:=oq_
   go_enter Tryz.func124,Tryz.ntmps124
   have c0:=(hb0.cells 0).1;have c1:=(hb0.cells 1).1;go_upto_region 4 with (fail)
   refine ai_ (w0:=(w.alloc (.cells #[.int .i64 a,.int .i64 s] 116))) [0,1,2,3,4,5,6,7,8,9,10,11,12,13,14,15,16] [17,18] (fun v=>⟨#[.slice ta 0 tc,.agg #[.int .i64 a,.int .i64 s],.int .i64 f,undef,.pointer (some ⟨w.heap.size,0,none⟩),undef,.int .i64 0,.int .i64 1152921504606846977,undef,undef,undef,.slice ta 0 tc,.int .i64 0,.bool true,.pointer (some ⟨w.heap.size,0,none⟩),.int .i64 a,.int .i64 f,.bool true,.bool true,.pointer (some ⟨w.heap.size,1,none⟩),.int .i64 s,.bool true,.bool true,v 0,v 1,v 2,v 3,v 4,v 5,v 6,v 7,v 8,v 9,v 10,v 11,v 12,v 13,v 14,v 15,v 16,undef,undef,undef,undef,undef,undef,undef,undef,undef,undef,undef,undef,undef,undef,undef,undef,undef,undef,undef,undef,undef,undef,undef,undef,undef,undef,undef,undef,undef,undef,undef,undef,undef,undef,undef,undef,undef,undef,undef,undef,undef,undef],[]⟩) [.pointer (some ⟨w.heap.size,0,none⟩),.int .i64 a,.int .i64 f,.pointer (some ⟨w.heap.size,0,none⟩),.int .i64 a,.int .i64 (f-a),.pointer (some ⟨w.heap.size,1,none⟩),.int .i64 s,.int .i64 (f-a+s),.int .i64 (f-a+s-1),.pointer (some ⟨w.heap.size,1,none⟩),.int .i64 s,.int .i64 q,.pointer (some ⟨w.heap.size,1,none⟩),.int .i64 s,.int .i64 (q*s),.int .i64 (a+q*s)] [] (fun _ _ _ _ _=>True) (fun W=>W.cell? ⟨w.heap.size,0,none⟩=some (.int .i64 a)∧W.cell? ⟨w.heap.size,1,none⟩=some (.int .i64 s)) (fun W hb=>⟨Ext.cell hb c0,Ext.cell hb c1⟩) trivial trivial ?steps ?fin
   case steps=>
    refine .c [] [] rfl ?_ (.c [0] [] rfl ?_ (.c [] [] rfl ?_ (.c [] [] rfl ?_ (.c [3] [] rfl ?_ (.c [2,4] [] rfl ?_ (.c [] [] rfl ?_ (.c [6] [] rfl ?_ (.c [5,7] [] rfl ?_ (.c [8] [] rfl ?_ (.c [] [] rfl ?_ (.c [10] [] rfl ?_ (.c [9,11] [] rfl ?_ (.c [] [] rfl ?_ (.c [13] [] rfl ?_ (.c [12,14] [] rfl ?_ (.c [1,15] [] rfl ?_ (.n)))))))))))))))))
    all_goals try exact stw
   case fin=>
    rintro v lo hi W5 hb5 ⟨g0,g1⟩ hf hap;have e16:v 16=.int .i64 (a+q*s):=(hf 16 rfl).2.2.2;clear hf hap;show wpList _ _ _ [_,_] _ _;dsimp only;rw [e16];clear e16;generalize v 0=zz0,v 1=zz1,v 2=zz2,v 3=zz3,v 4=zz4,v 5=zz5,v 6=zz6,v 7=zz7,v 8=zz8,v 9=zz9,v 10=zz10,v 11=zz11,v 12=zz12,v 13=zz13,v 14=zz14,v 15=zz15;have hb1:=hb0.below hb5;have d0:=hb1.cells 0;have d1:=hb1.cells 1;have HB5:=hq_ (Et (Ea (Er w) _) hb5);clear hb1 g0 g1;go_wp2_with fail
    all_goals
     go_ret;exact ⟨_,rfl,yf_ HLF.out (by first|omega|(unfold FarI;omega)),Es HB5.out (Nat.le_refl _) _⟩
  ·have hu:upTo f a s=a:=by unfold upTo;rw [if_neg haf]
   rw [hu] at HLF;have hfa:f≤a:=oq_;have hmin:min (FarI+1) a=a:=by unfold FarI;omega
   rw [hmin] at HLF;clear hq hu hmin
   go_enter Tryz.func124,Tryz.ntmps124
   go_wp2_with fail
   all_goals
    go_ret;exact ⟨_,rfl,yf_ HLF.out (by first|omega|(unfold FarI;omega)),xE⟩
 | cons x L ih=>
  intro v a s w hT hv h0 h1 hd;have IH:=hq_ ih;clear ih;have hs:s≤27720:=Int.le_of_dvd dq_ hd;have hlm:=hT.len;obtain ⟨ta,tc,rfl,htc,htc9,_⟩:=hT.row.is;obtain ⟨tb,to_,y,ha,hy,hyp,hyb,e0,e1,e2,e3⟩:=hT.get (show 0<(x :: L).length by simp);subst ha;have hvx:=hv x sq_;have hyx:y.p=x.p:=hyp;rw [<- hyx] at hvx;have hper:y.p.period≤27720:=Int.le_of_dvd dq_ hvx.2.1;have HTA:=hq_ hT.tail;have HVL:=hq_ (fun z hz=>hv z (List.mem_cons_of_mem _ hz));have HYX:=hq_ hyx;simp only [Nat.zero_mul,Nat.add_zero] at e0 e1 e2 e3;obtain ⟨nl,hnl⟩:∃ nl,nl=(x :: L).length:=⟨_,rfl⟩;rw [<- hnl] at htc hlm ⊢;have HNL:Hid (nl=L.length+1):=hq_ (by rw [hnl];rfl);have hn0:((nl:Int) == 0)=false:=by have:=HNL.out;simp;omega
  have hnI:(0:Int)<nl:=by have:=HNL.out;omega
  have HY:=hq_ hy;have HVX:=hq_ hvx;have HDD:=hq_ hd;obtain ⟨yh,yc,xp⟩:=y;obtain ⟨ax1,nx1,cx1,ax2,nx2,cx2,rfl,rfl⟩:=hy.form;dsimp only at e0 e1 e2 e3 hper;have hn2:nx2=xp.cycle.length:=by
   obtain ⟨⟨_,_,he,_⟩,_⟩:=hy.is.cy;injection he
  subst hn2;have HCLN:=hy.is.cy.len;change Hid (xp=x.p) at HYX;clear hT hv hyp hyx hy hvx hd hnl hyb;have hp1:1≤xp.period:=HVX.out.1.per;have hb0:Bxx (w.alloc (.cells #[.int .i64 a,.int .i64 s] 116)) w.heap.size #[.int .i64 a,.int .i64 s] 116:=Bxx.new _ _ _
  go_enter Tryz.func124,Tryz.ntmps124
  go_wp2_with fail
  go_loopw [7,8,9,10] (fun bv kv _ _ wr=>∃ (j:Nat) (n:Int),j≤xp.cycle.length∧kv=.int .i64 j∧bv=.int .i64 n∧Hid (CapL FarI (aftS xp (L.map PV.p) a s j) f n)∧Hid (Bxx wr w.heap.size #[.int .i64 a,.int .i64 s] 116)∧Hid (Below w.heap.size w wr)) (fun _ kv _ _ _=>xp.cycle.length-(intOf kv).toNat)
  case atStart=>exact ⟨0,_,oq_,rfl,rfl,hq_ (CapL.start.congr fun x _=>yd_),hq_ hb0,hq_ xE⟩
  case round=>
   obtain ⟨j,n,hj,rfl,rfl,HCP,HBX,HB⟩:=hrel;clear hb0;have f0:=Ext.cell HB.out e0;have f1:=Ext.cell HB.out e1;have f2:=Ext.cell HB.out e2;have f3:=Ext.cell HB.out e3
   by_cases hjl:j<xp.cycle.length
   ·have hjI:(j:Int)<xp.cycle.length:=oq_;have c0:=(HBX.out.cells 0).1;have c1:=(HBX.out.cells 1).1;have hr:=h2_ HVX.out.1 (xp.cycle.getD j 0);have HRJ:=hq_ (fun W (h:Below wr.heap.size wr W)=>show Calls _ _ #[.agg #[.slice ax1 nx1 cx1,.int .i64 xp.frm,.int .i64 xp.period,.slice ax2 xp.cycle.length cx2],.int .i64 j] W (fun e w'=>e=.returned (.int .i64 (resP xp (xp.cycle.getD j 0)))∧Below W.heap.size W w') from ok_ (.slice ax1 nx1 cx1) (.slice ax2 xp.cycle.length cx2) xp j W (HY.out.is.ext (Et HB.out h)) HVX.out.1.frm (by have:=HVX.out.2.2;omega) hp1 oq_ hjl (HVX.out.1.cyc.2 _ (aa_ hjl)).1 (by have:=(HVX.out.1.cyc.2 _ (aa_ (d:=0) hjl)).2;omega));obtain ⟨a2,s2,b2,hm⟩:=tu_ (at_:=a) (r:=resP xp (xp.cycle.getD j 0)) (show 1≤s by omega) hp1;have HME:=hq_ (fun W=>(yc_ a s (resP xp (xp.cycle.getD j 0)) xp.period W h0 h1 hr.1 hr.2 hs hper).mono (fun e w' h=>(by
     obtain ⟨a',s',b',h1',h2',h3'⟩:=h;obtain ⟨rfl,rfl,rfl⟩:=h1'.unique oq_ hp1 hm;exact ⟨h2',h3'⟩:e=.returned (.tuple #[.agg #[.int .i64 a2,.int .i64 s2],.bool b2])∧Below W.heap.size W w')))
    have HSU:=hq_ (fun x=>qq_ (S:=fun _=>False) (t:=L.map PV.p) (x:=x) HVX.out.1 hjl (show 1≤s by omega) h0 h1 hm);have HMB:Hid (b2=true->0≤a2∧a2<s2∧s2∣27720):=hq_ (fun hb=>by subst hb;exact hm.bounds oq_ hp1 HDD.out HVX.out.2.1);clear hm;generalize resP xp (xp.cycle.getD j 0)=r at *;go_upto_region 11 with (fail)
    refine Code.wp_mono (Q:=fun e a' W'=>e=.normal∧(∃ (nb:Nat) (y59 y60 y61 y62 y63 y64 y65 y66 y67 y68 y69 y70 y71 y72:Value),a'=⟨#[.slice (some ⟨tb,to_,none⟩) nl tc,.agg #[.int .i64 a,.int .i64 s],.int .i64 f,undef,.pointer (some ⟨w.heap.size,0,none⟩),undef,.int .i64 0,.int .i64 n,.int .i64 ↑j,.pointer (some ⟨nb,0,none⟩),.bool b2,.slice (some ⟨tb,to_,none⟩) nl tc,.int .i64 ↑nl,.bool false,undef,undef,undef,undef,undef,undef,undef,undef,undef,undef,undef,undef,undef,undef,undef,undef,undef,undef,undef,undef,undef,undef,undef,undef,undef,undef,undef,undef,undef,undef,undef,undef,undef,undef,undef,undef,.int .i64 ↑j,.slice (some ⟨tb,to_,none⟩) nl tc,.pointer (some ⟨tb,to_,none⟩),.pointer (some ⟨tb,to_+3,none⟩),.slice ax2 xp.cycle.length cx2,.int .i64 ↑xp.cycle.length,.bool true,u57,u58,y59,y60,y61,y62,y63,y64,y65,y66,y67,y68,y69,y70,y71,y72,u73,u74,u75,u76,u77,u78,u79,u80,undef],[]⟩∧Hid (Bxx W' nb #[.int .i64 a2,.int .i64 s2] 116))∧Hid (Below wr.heap.size wr W')) ?imp ?reg
    case reg=>
     refine cx_ (w0:=wr) [0,1,2,3,4,5,6,7,8,9,10,11,12,13,14] 13 15 [16] (fun v=>⟨#[.slice (some ⟨tb,to_,none⟩) nl tc,.agg #[.int .i64 a,.int .i64 s],.int .i64 f,undef,.pointer (some ⟨w.heap.size,0,none⟩),undef,.int .i64 0,.int .i64 n,.int .i64 ↑j,v 14,u10,.slice (some ⟨tb,to_,none⟩) nl tc,.int .i64 ↑nl,.bool false,undef,undef,undef,undef,undef,undef,undef,undef,undef,undef,undef,undef,undef,undef,undef,undef,undef,undef,undef,undef,undef,undef,undef,undef,undef,undef,undef,undef,undef,undef,undef,undef,undef,undef,undef,undef,.int .i64 ↑j,.slice (some ⟨tb,to_,none⟩) nl tc,.pointer (some ⟨tb,to_,none⟩),.pointer (some ⟨tb,to_+3,none⟩),.slice ax2 xp.cycle.length cx2,.int .i64 ↑xp.cycle.length,.bool true,u57,u58,v 11,v 0,v 1,v 2,v 3,v 4,v 5,v 6,v 7,v 8,v 9,v 10,v 12,v 13,u73,u74,u75,u76,u77,u78,u79,u80,undef],[]⟩) [.agg #[.int .i64 a,.int .i64 s],.slice (some ⟨tb,to_,none⟩) nl tc,.pointer (some ⟨tb,to_,none⟩),.agg #[.slice ax1 nx1 cx1,.int .i64 xp.frm,.int .i64 xp.period,.slice ax2 xp.cycle.length cx2],.int .i64 j,.int .i64 r,.slice (some ⟨tb,to_,none⟩) nl tc,.pointer (some ⟨tb,to_,none⟩),.pointer (some ⟨tb,to_+2,none⟩),.int .i64 xp.period,.tuple #[.agg #[.int .i64 a2,.int .i64 s2],.bool b2],.tuple #[.agg #[.int .i64 a2,.int .i64 s2],.bool b2],.agg #[.int .i64 a2,.int .i64 s2],.bool b2,undef] [14] (fun i v lo hi W=>match i with|14=>v 14=.pointer (some ⟨lo 14,0,none⟩)∧lo 14<hi 14∧Bxx W (lo 14) #[.int .i64 0,.int .i64 0] 116|_=>True) (fun W=>W.cell? ⟨w.heap.size,0,none⟩=some (.int .i64 a)∧W.cell? ⟨w.heap.size,1,none⟩=some (.int .i64 s)∧W.cell? ⟨tb,to_,none⟩=some (.slice ax1 nx1 cx1)∧W.cell? ⟨tb,to_+1,none⟩=some (.int .i64 xp.frm)∧W.cell? ⟨tb,to_+2,none⟩=some (.int .i64 xp.period)∧W.cell? ⟨tb,to_+3,none⟩=some (.slice ax2 xp.cycle.length cx2)) (fun W hb=>⟨Ext.cell hb c0,Ext.cell hb c1,Ext.cell hb f0,Ext.cell hb f1,Ext.cell hb f2,Ext.cell hb f3⟩) ?stab ?loc ?steps ?fin ?fin2 (fun j=>match j with|0=>u60|1=>u61|2=>u62|3=>u63|4=>u64|5=>u65|6=>u66|7=>u67|8=>u68|9=>u69|10=>u70|11=>u59|12=>u71|13=>u72|14=>u9|_=>undef)
     case stab=>
      refine ⟨?_,trivial⟩
      ·intro v lo hi W W' h hb;exact ⟨h.1,h.2.1,h.2.2.below hb⟩
     case loc=>
      refine ⟨?_,trivial⟩
      ·intro v v' lo lo' hi hi' W hag h;have q:=hag 14 (.inl rfl)
       (try dsimp only at h ⊢)
       simp only [q.1,q.2.1,q.2.2] at h;exact h
     case steps=>
      clear c0 c1 f0 f1 f2 f3;refine .c [] [] rfl ?_ (.c [] [] rfl ?_ (.c [1] [] rfl ?_ (.c [2] [] rfl ?_ (.c [] [] rfl ?_ (.c [3,4] [] rfl ?_ (.c [] [] rfl ?_ (.c [6] [] rfl ?_ (.c [7] [] rfl ?_ (.c [8] [] rfl ?_ (.c [0,5,9] [] rfl ?_ (.c [10] [] rfl ?_ (.c [11] [] rfl ?_ (.c [11] [] rfl ?_ (.c [] [] rfl ?_ (.n)))))))))))))))
      all_goals try exact stl
      ·rintro v lo hi W hb ⟨s0,s1,s2,s3,s4,s5⟩ _;refine ⟨rfl,fun K hK=>?_⟩;simp only [ov,vat,Nat.reduceBEq,cond_true,cond_false];go_wp2_with (go_at_call 156;(with_reducible refine (HRJ.out _ hb).mono ?_);rintro e w9 ⟨rfl,hb9⟩)
       exact acx (hK w9 hb9) (by simp [ov,vat,upd])
      ·rintro v lo hi W hb ⟨s0,s1,s2,s3,s4,s5⟩ _;refine ⟨rfl,fun K hK=>?_⟩;simp only [ov,vat,Nat.reduceBEq,cond_true,cond_false];go_wp2_with (go_at_call 155;(with_reducible refine (HME.out _).mono ?_);rintro e w9 ⟨rfl,hb9⟩)
       exact acx (hK w9 hb9) (by simp [ov,vat,upd])
      ·rintro v lo hi W hb ⟨s0,s1,s2,s3,s4,s5⟩ _;refine ⟨rfl,fun K hK=>?_⟩;simp only [ov,vat,Nat.reduceBEq,cond_true,cond_false];go_wp2_with fail
       exact hK (.pointer (some ⟨W.heap.size,0,none⟩)) _ (Ea (Er _) _) ⟨rfl,sq_,Bxx.new _ _ _⟩
     case fin=>
       rintro v lo hi9 W5 hb5-hf hap;show wpList _ _ _ [_,_] _ _;have e12:v 12=.agg #[.int .i64 a2,.int .i64 s2]:=(hf 12 rfl).2.2.2;have e13:v 13=.bool b2:=(hf 13 rfl).2.2.2;obtain ⟨l14,-,h14,e14,lt14,hbox⟩:=hf 14 rfl;clear hf hap;dsimp only;rw [e12,e13,e14];clear e12 e13 e14;obtain ⟨nb,hnb⟩:∃ nb,nb=lo 14:=⟨_,rfl⟩;rw [<- hnb] at hbox l14 lt14 ⊢;generalize hi9 14=h14v at *;clear hnb;have r0:=hbox.cells 0;have r1:=hbox.cells 1;have HNB:Hid (Bxx ((W5.setCell ⟨nb,0,none⟩ (.int .i64 a2)).setCell ⟨nb,1,none⟩ (.int .i64 s2)) nb #[.int .i64 a2,.int .i64 s2] 116):=hq_ (a4_ 1 _ (a4_ 0 _ hbox));have HB5:=hq_ ((hb5.setCell (p:=⟨nb,0,none⟩) l14 (.int .i64 a2)).setCell (p:=⟨nb,1,none⟩) l14 (.int .i64 s2));clear hbox;generalize v 0=zz0,v 1=zz1,v 2=zz2,v 3=zz3,v 4=zz4,v 5=zz5,v 6=zz6,v 7=zz7,v 8=zz8,v 9=zz9,v 10=zz10,v 11=zz11;go_wp2_with fail
     case fin2=>
       rintro v lo hi9 W5 hb5-hf hap;have e12:v 12=.agg #[.int .i64 a2,.int .i64 s2]:=(hf 12 rfl dq_).2.2.2;have e11:v 11=.tuple #[.agg #[.int .i64 a2,.int .i64 s2],.bool b2]:=(hf 11 rfl dq_).2.2.2;obtain ⟨l14,-,h14,e14,lt14,hbox⟩:=hf 14 rfl dq_;clear hf hap;dsimp only;rw [e12,e14,e11];clear e12 e14 e11;obtain ⟨nb,hnb⟩:∃ nb,nb=lo 14:=⟨_,rfl⟩;rw [<- hnb] at hbox l14 lt14 ⊢;generalize hi9 14=h14v at *;clear hnb;have r0:=hbox.cells 0;have r1:=hbox.cells 1;have HNB:Hid (Bxx ((W5.setCell ⟨nb,0,none⟩ (.int .i64 a2)).setCell ⟨nb,1,none⟩ (.int .i64 s2)) nb #[.int .i64 a2,.int .i64 s2] 116):=hq_ (a4_ 1 _ (a4_ 0 _ hbox));have HB5:=hq_ ((hb5.setCell (p:=⟨nb,0,none⟩) l14 (.int .i64 a2)).setCell (p:=⟨nb,1,none⟩) l14 (.int .i64 s2));clear hbox;generalize v 0=zz0,v 1=zz1,v 2=zz2,v 3=zz3,v 4=zz4,v 5=zz5,v 6=zz6,v 7=zz7,v 8=zz8,v 9=zz9,v 10=zz10,v 13=zz13;constructor
       ·show wpList _ _ _ [_,_,_] _ _;go_wp2_with fail
       ·show wpList _ _ _ [_,_,_] _ _;go_wp2_with fail
    case imp=>
     rintro e a' W6 ⟨rfl,⟨nb,y59,y60,y61,y62,y63,y64,y65,y66,y67,y68,y69,y70,y71,y72,rfl,HNB⟩,HB6⟩;obtain ⟨wp,hwp⟩:∃ wp,wp=W6:=⟨_,rfl⟩;subst hwp;have HBW:=hq_ (Et HB.out HB6.out);have HBX6:=hq_ (HBX.out.below HB6.out);cases b2 with
     | false=>
      go_wp2_with fail
      go_roundw
      case rel=>exact ⟨j+1,n,oq_,by go_num,rfl,hq_ (HCP.out.congr fun z _=>(HSU.out z).trans (by simp [aftS])),HBX6,HBW⟩
      case measure=>simp [intOf];omega
     | true=>
      obtain ⟨g0_,g1_,g2_⟩:=HMB.out rfl;have m0:=(HNB.out.cells 0).1;have m1:=(HNB.out.cells 1).1;have HSU2:Hid (∀ z,aftS xp (L.map PV.p) a s (j+1) z↔aftS xp (L.map PV.p) a s j z∨ClsS (L.map PV.p) a2 s2 z):=hq_ fun z=>(HSU.out z).trans (by simp [aftS])
      by_cases hc1:tc=1
      ·have hcp:¬ 0<tc-1:=oq_;have HC1:=hq_ hc1;clear hc1;have HRE:=hq_ (fun W (h:Below wp.heap.size wp W)=>(by
        have h:=IH.out (.slice (some ⟨tb,to_,none⟩) 0 0) a2 s2 W ((HTA.out.1 HC1.out).keep (a5_.below (Et HBW.out h)) (Et HBW.out h).size) HVL.out g0_ g1_ g2_;rwa [show (.slice (some ⟨tb,to_,none⟩) 0 0:Value)=.slice (some ⟨tb,to_,none⟩) (nl-1) (tc-1) by have:=HC1.out;have:=HNL.out;congr 1 <;> omega] at h:Calls Tryz.prog 124 #[.slice (some ⟨tb,to_,none⟩) (nl-1) (tc-1),.agg #[.int .i64 a2,.int .i64 s2],.int .i64 f] W fun e w'=>∃ n,e=.returned (.int .i64 n)∧CapL FarI (ClsS (L.map PV.p) a2 s2) f n∧Below W.heap.size W w'))
       go_wp2_with fail
       refine ai_ (w0:=wp) [0,1,2,3,4,5,6] [7] (fun v=>⟨#[.slice (some ⟨tb,to_,none⟩) nl tc,.agg #[.int .i64 a,.int .i64 s],.int .i64 f,undef,.pointer (some ⟨w.heap.size,0,none⟩),undef,.int .i64 0,.int .i64 n,.int .i64 ↑j,.pointer (some ⟨nb,0,none⟩),.bool true,.slice (some ⟨tb,to_,none⟩) nl tc,.int .i64 ↑nl,.bool false,undef,undef,undef,undef,undef,undef,undef,undef,undef,undef,undef,undef,undef,undef,undef,undef,undef,undef,undef,undef,undef,undef,undef,undef,undef,undef,undef,undef,undef,undef,undef,undef,undef,undef,undef,undef,.int .i64 ↑j,.slice (some ⟨tb,to_,none⟩) nl tc,.pointer (some ⟨tb,to_,none⟩),.pointer (some ⟨tb,to_+3,none⟩),.slice ax2 xp.cycle.length cx2,.int .i64 ↑xp.cycle.length,.bool true,u57,u58,y59,y60,y61,y62,y63,y64,y65,y66,y67,y68,y69,y70,y71,y72,.bool true,v 0,v 1,v 2,v 3,v 4,v 5,v 6,undef],[]⟩) [.int .i64 n,.slice (some ⟨tb,to_,none⟩) nl tc,.slice (some ⟨tb,to_,none⟩) (nl-1) (tc-1),.agg #[.int .i64 a2,.int .i64 s2],.int .i64 f,undef,undef] [5,6] (fun i v lo hi W=>match i with|5=>∃ m,v 5=.int .i64 m∧CapL FarI (ClsS (L.map PV.p) a2 s2) f m|6=>∃ m,v 5=.int .i64 m∧v 6=.int .i64 (min n m)|_=>True) (fun W=>W.cell? ⟨nb,0,none⟩=some (.int .i64 a2)∧W.cell? ⟨nb,1,none⟩=some (.int .i64 s2)) (fun W hb=>⟨Ext.cell hb m0,Ext.cell hb m1⟩) ?stab ?loc ?steps ?fin (fun j=>match j with|0=>u74|1=>u75|2=>u76|3=>u77|4=>u78|5=>u79|6=>u80|_=>undef)
       case stab=>
        refine ⟨?_,?_,trivial⟩
        ·intro v lo hi W W' h hb;exact h
        ·intro v lo hi W W' h hb;exact h
       case loc=>
        refine ⟨?_,?_,trivial⟩
        ·intro v v' lo lo' hi hi' W hag h;have q:=hag 5 (.inl rfl)
         (try dsimp only at h ⊢)
         simp only [q.1,q.2.1,q.2.2] at h;exact h
        ·intro v v' lo lo' hi hi' W hag h;have q:=hag 6 (.inl rfl);have q5:=hag 5 (.inr (Rdp (by kernel_rfl)))
         (try dsimp only at h ⊢)
         simp only [q.1,q.2.1,q.2.2,q5.1,q5.2.1,q5.2.2] at h;exact h
       case steps=>
        refine .c [] [] rfl ?_ (.c [] [] rfl ?_ (.c [1] [] rfl ?_ (.c [] [] rfl ?_ (.c [] [] rfl ?_ (.c [2,3,4] [] rfl ?_ (.c [0] [5] rfl ?_ (.n)))))))
        all_goals try exact stw
        ·rintro v lo hi W hb ⟨g0,g1⟩ _;refine .inl ⟨rfl,fun K hK=>?_⟩;simp only [ov,vat,Nat.reduceBEq,cond_true,cond_false];go_wp2_with (go_at_call 124;(with_reducible refine (HRE.out _ hb).mono ?_);rintro e w9 ⟨m,rfl,hm,hb9⟩)
         exact acx (hK (.int .i64 m) w9 hb9 ⟨m,rfl,hm⟩) (by simp [ov,vat,upd])
        ·rintro v lo hi W hb ⟨g0,g1⟩ ⟨⟨la5,lb5,D5⟩,_⟩;refine .inl ⟨rfl,fun K hK=>?_⟩;simp only [ov,vat,Nat.reduceBEq,cond_true,cond_false]
         (try dsimp only at D5)
         obtain ⟨m,e5,_⟩:=D5;simp only [e5];go_wp2_with fail
         exact acx (hK (.int .i64 (min n m)) W (Below.refl _ _) ⟨m,e5,rfl⟩) (by simp [ov,vat,upd,e5])
       case fin=>
        rintro v lo hi9 W5 hb5-hf hap;obtain ⟨m,e5,hm⟩:=(hf 5 rfl).2.2.2;obtain ⟨m',e5',e6⟩:=(hf 6 rfl).2.2.2;obtain rfl:m=m':=by rw [e5] at e5';injection e5'
        clear hf hap e5';show wpList _ _ _ [_] _ _;dsimp only;rw [e5,e6];clear e5 e6;have HBY:=hq_ (HBX6.out.below hb5);have HBZ:=hq_ (Et HBW.out hb5);have HM:=hq_ hm;clear hm hb5;generalize v 0=zz0,v 1=zz1,v 2=zz2,v 3=zz3,v 4=zz4;go_wp2_with fail
        go_roundw
        case rel=>exact ⟨j+1,min n m,oq_,by go_num,rfl,hq_ ((HCP.out.union HM.out).congr fun z _=>HSU2.out z),HBY,HBZ⟩
        case measure=>simp [intOf];omega
      ·have hcp:0<tc-1:=by have:=HNL.out;omega
       have HRE:=hq_ (fun W (h:Below wp.heap.size wp W)=>(by
        have h:=IH.out (.slice (some ⟨tb,to_+4,none⟩) L.length (tc-1)) a2 s2 W ((HTA.out.2 (by have:=HNL.out;omega)).keep (a5_.below (Et HBW.out h)) (Et HBW.out h).size) HVL.out g0_ g1_ g2_;rwa [show L.length=nl-1 by have:=HNL.out;omega] at h:Calls Tryz.prog 124 #[.slice (some ⟨tb,to_+4,none⟩) (nl-1) (tc-1),.agg #[.int .i64 a2,.int .i64 s2],.int .i64 f] W fun e w'=>∃ n,e=.returned (.int .i64 n)∧CapL FarI (ClsS (L.map PV.p) a2 s2) f n∧Below W.heap.size W w'))
       go_wp2_with fail
       refine ai_ (w0:=wp) [0,1,2,3,4,5,6] [7] (fun v=>⟨#[.slice (some ⟨tb,to_,none⟩) nl tc,.agg #[.int .i64 a,.int .i64 s],.int .i64 f,undef,.pointer (some ⟨w.heap.size,0,none⟩),undef,.int .i64 0,.int .i64 n,.int .i64 ↑j,.pointer (some ⟨nb,0,none⟩),.bool true,.slice (some ⟨tb,to_,none⟩) nl tc,.int .i64 ↑nl,.bool false,undef,undef,undef,undef,undef,undef,undef,undef,undef,undef,undef,undef,undef,undef,undef,undef,undef,undef,undef,undef,undef,undef,undef,undef,undef,undef,undef,undef,undef,undef,undef,undef,undef,undef,undef,undef,.int .i64 ↑j,.slice (some ⟨tb,to_,none⟩) nl tc,.pointer (some ⟨tb,to_,none⟩),.pointer (some ⟨tb,to_+3,none⟩),.slice ax2 xp.cycle.length cx2,.int .i64 ↑xp.cycle.length,.bool true,u57,u58,y59,y60,y61,y62,y63,y64,y65,y66,y67,y68,y69,y70,y71,y72,.bool true,v 0,v 1,v 2,v 3,v 4,v 5,v 6,undef],[]⟩) [.int .i64 n,.slice (some ⟨tb,to_,none⟩) nl tc,.slice (some ⟨tb,to_+4,none⟩) (nl-1) (tc-1),.agg #[.int .i64 a2,.int .i64 s2],.int .i64 f,undef,undef] [5,6] (fun i v lo hi W=>match i with|5=>∃ m,v 5=.int .i64 m∧CapL FarI (ClsS (L.map PV.p) a2 s2) f m|6=>∃ m,v 5=.int .i64 m∧v 6=.int .i64 (min n m)|_=>True) (fun W=>W.cell? ⟨nb,0,none⟩=some (.int .i64 a2)∧W.cell? ⟨nb,1,none⟩=some (.int .i64 s2)) (fun W hb=>⟨Ext.cell hb m0,Ext.cell hb m1⟩) ?stab ?loc ?steps ?fin (fun j=>match j with|0=>u74|1=>u75|2=>u76|3=>u77|4=>u78|5=>u79|6=>u80|_=>undef)
       case stab=>
        refine ⟨?_,?_,trivial⟩
        ·intro v lo hi W W' h hb;exact h
        ·intro v lo hi W W' h hb;exact h
       case loc=>
        refine ⟨?_,?_,trivial⟩
        ·intro v v' lo lo' hi hi' W hag h;have q:=hag 5 (.inl rfl)
         (try dsimp only at h ⊢)
         simp only [q.1,q.2.1,q.2.2] at h;exact h
        ·intro v v' lo lo' hi hi' W hag h;have q:=hag 6 (.inl rfl);have q5:=hag 5 (.inr (Rdp (by kernel_rfl)))
         (try dsimp only at h ⊢)
         simp only [q.1,q.2.1,q.2.2,q5.1,q5.2.1,q5.2.2] at h;exact h
       case steps=>
        refine .c [] [] rfl ?_ (.c [] [] rfl ?_ (.c [1] [] rfl ?_ (.c [] [] rfl ?_ (.c [] [] rfl ?_ (.c [2,3,4] [] rfl ?_ (.c [0] [5] rfl ?_ (.n)))))))
        all_goals try exact stw
        ·rintro v lo hi W hb ⟨g0,g1⟩ _;refine .inl ⟨rfl,fun K hK=>?_⟩;simp only [ov,vat,Nat.reduceBEq,cond_true,cond_false];go_wp2_with (go_at_call 124;(with_reducible refine (HRE.out _ hb).mono ?_);rintro e w9 ⟨m,rfl,hm,hb9⟩)
         exact acx (hK (.int .i64 m) w9 hb9 ⟨m,rfl,hm⟩) (by simp [ov,vat,upd])
        ·rintro v lo hi W hb ⟨g0,g1⟩ ⟨⟨la5,lb5,D5⟩,_⟩;refine .inl ⟨rfl,fun K hK=>?_⟩;simp only [ov,vat,Nat.reduceBEq,cond_true,cond_false]
         (try dsimp only at D5)
         obtain ⟨m,e5,_⟩:=D5;simp only [e5];go_wp2_with fail
         exact acx (hK (.int .i64 (min n m)) W (Below.refl _ _) ⟨m,e5,rfl⟩) (by simp [ov,vat,upd,e5])
       case fin=>
        rintro v lo hi9 W5 hb5-hf hap;obtain ⟨m,e5,hm⟩:=(hf 5 rfl).2.2.2;obtain ⟨m',e5',e6⟩:=(hf 6 rfl).2.2.2;obtain rfl:m=m':=by rw [e5] at e5';injection e5'
        clear hf hap e5';show wpList _ _ _ [_] _ _;dsimp only;rw [e5,e6];clear e5 e6;have HBY:=hq_ (HBX6.out.below hb5);have HBZ:=hq_ (Et HBW.out hb5);have HM:=hq_ hm;clear hm hb5;generalize v 0=zz0,v 1=zz1,v 2=zz2,v 3=zz3,v 4=zz4;go_wp2_with fail
        go_roundw
        case rel=>exact ⟨j+1,min n m,oq_,by go_num,rfl,hq_ ((HCP.out.union HM.out).congr fun z _=>HSU2.out z),HBY,HBZ⟩
        case measure=>simp [intOf];omega
   ·obtain rfl:j=xp.cycle.length:=oq_;go_wp2_with fail
    go_ret;exact ⟨n,rfl,HCP.out.congr fun z _=>by rw [List.map_cons,<- HYX.out];exact ym_,HB.out⟩
theorem ChoP.snoc {done:List (Int × Int)} (h:ChoP done L) (hP:P=((L.map PV.p).getD done.length default).period) (h0:0≤r) (h1:r≤1099511627776):ChoP (done ++ [(P,r)]) L:=fun q hq=>by
 by_cases hqk:q<done.length
 ·have e:(done ++ [(P,r)]).getD q (0,0)=done.getD q (0,0):=by rw [List.getD_eq_getElem?_getD,List.getElem?_append_left hqk,<- List.getD_eq_getElem?_getD]
  rw [e];exact h q hqk
 ·obtain rfl:q=done.length:=by simp at hq;omega
  have e:(done ++ [(P,r)]).getD done.length (0,0)=(P,r):=by rw [List.getD_eq_getElem?_getD,List.getElem?_append_right (Nat.le_refl _)];simp
  rw [e];exact ⟨hP,h0,h1⟩
theorem ot_ (F:Nat->Prop) (v:Value) (L:List PV) (hv:TV (L.map PV.p)) :
  ∀ (n:Nat) (done:List (Int × Int)) (cv:Value) (w:World),done.length+n=L.length->ChoP done L->be_ w F v L->Ints w cv (done.map Prod.snd)->
   Calls Tryz.prog 125 #[v,cv] w fun e w'=>∃ b,e=.returned (.bool b)∧(b=true↔Ext done ((L.map PV.p).drop done.length))∧Below w.heap.size w w':=by
 intro n
 induction n with
 | zero=>
  intro done cv w hn hp hT hC;obtain ⟨a1,c1,rfl,hx1,hx2,_⟩:=hT.row.is;have hl1:=hT.len;obtain ⟨⟨ac,cc,rfl,hc1,hc2,_⟩,hln,_⟩:=hC;have HLEN:Hid ((done.map Prod.snd).length=done.length):=hq_ (List.length_map _);rw [HLEN.out] at hc1 hln ⊢;have HN:Hid (done.length=L.length):=hq_ oq_;have hq:((done.length:Int) == (L.length:Int))=true:=by simp;omega
  clear hp hT hn
  go_enter Tryz.func125,Tryz.ntmps125
  go_wp2_with fail
  go_ret;exact ⟨true,rfl,by rw [List.drop_of_length_le (by simp [HN.out])];exact ⟨fun _=>trivial,fun _=>rfl⟩,xE⟩
 | succ n ih=>
  intro done cv w hn hp hT hC;have IH:=hq_ ih;clear ih;have hl1:=hT.len;have hli:done.length<L.length:=oq_;have hiI:(done.length:Int)<L.length:=oq_;obtain ⟨a1,c1,rfl,hx1,hx2,_⟩:=hT.row.is;obtain ⟨tb,o1,x,ha,hx,hxp,hb1,e0,e1,e2,e3⟩:=hT.get hli;subst ha;have hvx:validB x.p=true:=hv _ (by rw [hxp];exact aa_ (by simpa using hli));have hvv:=(as_ x.p).1 hvx;have HXP:=hq_ hxp;have HT:=hq_ hT;have HC:=hq_ hC;have HPR:=hq_ hp;have HV:=hq_ hv;have HNN:=hq_ hn;have HRP:=hq_ (h2_ hvv.wf);have HPE:=hq_ hvv.per;obtain ⟨xh,xc,xp⟩:=x;obtain ⟨ax1,nx1,cx1,ax2,nx2,cx2,rfl,rfl⟩:=hx.form;dsimp only at e0 e1 e2 e3 hvv HRP HPE;change Hid (xp=_) at HXP;have hn2:nx2=xp.cycle.length:=by
   obtain ⟨⟨_,_,he,_⟩,_⟩:=hx.is.cy;injection he
  subst hn2;have HCLN:=hx.is.cy.len;have HRES:Hid (∀ W,Below w.heap.size w W->∀ j:Nat,j<xp.cycle.length->Calls Tryz.prog 156 #[.agg #[.slice ax1 nx1 cx1,.int .i64 xp.frm,.int .i64 xp.period,.slice ax2 xp.cycle.length cx2],.int .i64 j] W fun e w'=>e=.returned (.int .i64 (resP xp (xp.cycle.getD j 0)))∧Below W.heap.size W w'):=hq_ fun W h j hj=>ok_ (.slice ax1 nx1 cx1) (.slice ax2 xp.cycle.length cx2) xp j W (hx.is.ext h) hvv.wf.frm (by have:=hvv.frm;omega) hvv.wf.per (by have:=hvv.per;omega) hj (hvv.wf.cyc.2 _ (aa_ hj)).1 (by have:=(hvv.wf.cyc.2 _ (aa_ (d:=0) hj)).2;have:=hvv.per;omega);obtain ⟨⟨ac,cc,rfl,hc1,hc2,_⟩,hln,_⟩:=hC;have HLEN:Hid ((done.map Prod.snd).length=done.length):=hq_ (List.length_map _);rw [HLEN.out] at hc1 hln HC ⊢;have HDR:Hid (Ext done ((L.map PV.p).drop done.length)↔∃ c∈xp.cycle,el_ done xp ((L.map PV.p).drop (done.length+1)) c):=hq_ (by rw [HXP.out];exact jy_ (by simpa using hli));clear hp hT hn hv hvx hvv hx hxp;have hq:((done.length:Int) == (L.length:Int))=false:=by simp;omega
  go_enter Tryz.func125,Tryz.ntmps125
  go_wp2_with fail
  go_loopw [6,7,8] (fun i _ _ wr=>∃ j:Nat,j≤xp.cycle.length∧i=.int .i64 j∧Hid (∀ q,q<j->¬ el_ done xp ((L.map PV.p).drop (done.length+1)) (xp.cycle.getD q 0))∧Hid (Below w.heap.size w wr)) (fun i _ _ _=>xp.cycle.length-(intOf i).toNat)
  case atStart=>exact ⟨0,oq_,rfl,hq_ (fun q hq=>oq_),hq_ xE⟩
  case round=>
   obtain ⟨j,hj,rfl,HNO,HB⟩:=hrel;have hb:=HB.out;have f0:=Ext.cell hb e0;have f1:=Ext.cell hb e1;have f2:=Ext.cell hb e2;have f3:=Ext.cell hb e3
   by_cases hjl:j<xp.cycle.length
   ·have hjI:(j:Int)<xp.cycle.length:=oq_;have HRJ:=hq_ (HRES.out wr hb j hjl);have hr:=HRP.out (xp.cycle.getD j 0);have hrm:resP xp (xp.cycle.getD j 0)≤1099511627776:=by have:=HPE.out;omega
    have HTK:Hid (el_ done xp ((L.map PV.p).drop (done.length+1)) (xp.cycle.getD j 0)↔fr_ done xp.period (resP xp (xp.cycle.getD j 0))∧Ext (done ++ [(xp.period,resP xp (xp.cycle.getD j 0))]) ((L.map PV.p).drop (done.length+1))):=hq_ Iff.rfl;have HJM:Hid (xp.cycle.getD j 0∈xp.cycle):=hq_ (aa_ hjl);have HNX:Hid ((∀ q,q<j->¬ el_ done xp ((L.map PV.p).drop (done.length+1)) (xp.cycle.getD q 0))->¬ el_ done xp ((L.map PV.p).drop (done.length+1)) (xp.cycle.getD j 0)->∀ q,q<j+1->¬ el_ done xp ((L.map PV.p).drop (done.length+1)) (xp.cycle.getD q 0)):=hq_ fun h1 h2 q hq=>by
     by_cases hqj:q<j
     ·exact h1 q hqj
     ·obtain rfl:q=j:=oq_;exact h2
    have HNJ:=hq_ (HNX.out HNO.out);generalize xp.cycle.getD j 0=c at *;generalize resP xp c=r at *;have hPe:xp.period=((L.map PV.p).getD done.length default).period:=by rw [<- HXP.out]
    have hcp:=HPR.out.snoc hPe hr.1 hrm;have HAG:=hq_ (fun W (h:Below w.heap.size w W)=>qt_ F _ _ L done xp.period r W HV.out (HT.out.keep (a5_.below h) h.size) (HC.out.ext h) HPR.out hli hPe hr.1 hrm);have HIR:InI r:=⟨oq_,oq_⟩;have HREC:=hq_ (fun cv W (h:Below w.heap.size w W) (hi:Ints W cv ((done ++ [(xp.period,r)]).map Prod.snd))=>IH.out (done ++ [(xp.period,r)]) cv W (by have:=HNN.out;simp;omega) hcp (HT.out.keep (a5_.below h) h.size) hi);have HCW:=hq_ (fun W (h:Below w.heap.size w W)=>HC.out.ext h);have HMS:Hid ((done ++ [(xp.period,r)]).map Prod.snd=done.map Prod.snd ++ [r]):=hq_ sq_;rw [HMS.out] at HREC;have HDL:Hid ((done ++ [(xp.period,r)]).length=done.length+1):=hq_ sq_;rw [HDL.out] at HREC;have HOW:=hq_ (fun (w2:World)=>(⟨World.ownsRow_lit (base:=w2.heap.size) (e:=3) (size:=1) w2 #[] 0 (Nat.le_refl _) (by unfold maxLen;omega) rfl,sq_,sq_⟩:OwnI (w2.alloc (.cells #[] 3)) w2.heap.size (.slice (some ⟨w2.heap.size,0,none⟩) 0 0) []));clear hPe hcp;go_wp2_with (first|(go_at_call 156;(with_reducible refine HRJ.out.mono ?_);rintro e w1 ⟨rfl,hb1⟩;have HB1:=hq_ (Et HB.out hb1);have hz1:=HB1.out.size;clear hb1)|(go_at_call 157;(with_reducible refine (HAG.out _ HB1.out).mono ?_);rintro e w2 ⟨ba,rfl,hag,hb2⟩;have HA:=hq_ hag;have HB2:=hq_ (Et HB1.out hb2);have hz2:=HB2.out.size;clear hag hb2;cases ba)|(at_builtin;(first|(refine h1_ rq_ _ _ rq_ w2.heap.size (.slice (some ⟨w2.heap.size,0,none⟩) 0 0) _ [] (done.map Prod.snd) rq_ (HOW.out w2) rq_ (HCW.out _ (Ea HB2.out _)) (by simp [HLEN.out];omega) sq_ ?_;intro v3 w3 hown3 hgrow3 _;rw [List.nil_append] at hown3;have HB3:=hq_ (Et HB2.out ((Ea (Er w2) (.cells #[] 3)).grown hgrow3 sq_ (fun k e=>by simp [Value.ownBlock] at e;omega)));(have hz3:w2.heap.size≤w3.heap.size:=(by have:=hgrow3.size;simp at this;omega));obtain ⟨a3,c3,e3⟩:=hown3.form;rw [HLEN.out] at e3;subst e3;have HO3:=hq_ hown3;clear hown3 hgrow3)|(refine aj_ rq_ _ _ rq_ w2.heap.size (.slice a3 done.length c3) (done.map Prod.snd) r rq_ (HO3.out.ext xE) _ _ rq_ (((Bxx.new w3 #[.int .i64 r] _).cells 0).1) HIR (by rw [HLEN.out];omega) tq_ ?_;intro g4 cap4 w4 hown4 hgrow4 hb4;rw [HLEN.out] at hown4;have HB4:Hid (Below w.heap.size w w4):=hq_ (HB3.out.trans ((((Ea (Er w3) (.cells #[.int .i64 r] 3)).mono hz3).trans hb4).mono HB2.out.size));have HI4:=hq_ hown4.ints;clear hown4 hgrow4 hb4)))|(go_at_call 125;(with_reducible refine (HREC.out _ _ HB4.out HI4.out).mono ?_);rintro e w5 ⟨bb,rfl,hif,hb5⟩;have HIF:=hq_ hif;have HB5:=hq_ (Et HB4.out hb5);clear hif hb5;cases bb))
    ·have HN2:Hid (¬ el_ done xp ((L.map PV.p).drop (done.length+1)) c):=hq_ fun h=>absurd (HA.out.2 (HTK.out.1 h).1) (by first|decide|simp|exact id);go_roundw
     case rel=>exact ⟨j+1,oq_,by go_num,hq_ (HNJ.out HN2.out),HB2⟩
     case measure=>simp [intOf];omega
    ·have HN2:Hid (¬ el_ done xp ((L.map PV.p).drop (done.length+1)) c):=hq_ fun h=>absurd (HIF.out.2 (HTK.out.1 h).2) (by first|decide|simp|exact id);go_roundw
     case rel=>exact ⟨j+1,oq_,by go_num,hq_ (HNJ.out HN2.out),HB5⟩
     case measure=>simp [intOf];omega
    ·go_ret;exact ⟨true,rfl,⟨fun _=>HDR.out.2 ⟨c,HJM.out,HTK.out.2 ⟨HA.out.1 (by first|rfl|trivial),HIF.out.1 (by first|rfl|trivial)⟩⟩,fun _=>rfl⟩,HB5.out⟩
   ·obtain rfl:j=xp.cycle.length:=oq_;go_wp2_with fail
    go_ret;refine ⟨false,rfl,⟨fun h=>absurd h dq_,fun h=>?_⟩,HB.out⟩;obtain ⟨c,hc1,hc2⟩:=HDR.out.1 h;obtain ⟨q,hq,rfl⟩:=List.mem_iff_getElem.1 hc1;exact absurd (by rw [List.getD_eq_getElem?_getD,List.getElem?_eq_getElem hq];exact hc2) (HNO.out q hq)
theorem pa_ (F:Nat->Prop) (v:Value) (t:List Per) (w:World) (ht:ab_ w F v t) (hv:TV t) :
  Calls Tryz.prog 81 #[v] w fun e w'=>∃ b,e=.returned (.bool b)∧(b=true↔recT t)∧Below w.heap.size w w':=by
 obtain ⟨L,rfl,hL⟩:=ht;have H:=hq_ (fun W (h:Below w.heap.size w W)=>ot_ F v L hv L.length [] (.slice none 0 0) W sq_ (fun k hk=>absurd hk sq_) (hL.keep (a5_.below h) h.size) ((OwnI.nil W 0).ints));have HR:=hq_ (ls_ hv.wf);obtain ⟨a1,c1,rfl,hx1,hx2,_⟩:=hL.row.is;clear hL hv
 go_enter Tryz.func81,Tryz.ntmps81
 go_wp2_with (go_at_call 125;refine (H.out _ xE).mono ?_;rintro e w1 ⟨b,rfl,hif,hb⟩)
 go_ret;exact ⟨b,rfl,hif.trans HR.out,hb⟩
theorem pb_ (F:Nat->Prop) (v:Value) (t:List Per) (w:World) (ht:ab_ w F v t) (hv:TV t) :
  Calls Tryz.prog 80 #[v] w fun e w'=>∃ b,e=.returned (.bool b)∧(b=true↔bt_ t)∧Below w.heap.size w w':=by
 have H1:=s1_ F v t 0 w ht hv (by constructor <;> decide);have H2:=fun W (h:Below w.heap.size w W)=>pa_ F v t W (ht.ext h) hv;have HW:=hq_ hv.wf;obtain ⟨L,rfl,hL⟩:=ht;obtain ⟨a1,cc1,rfl,hx1,hx2,_⟩:=hL.row.is;clear hL hv
 go_enter Tryz.func80,Tryz.ntmps80
 go_wp2_with (first|(go_at_call 123;refine H1.mono ?_;rintro e w1 ⟨n,b,rfl,hE,hb1⟩;have HE:=hq_ hE;clear hE;cases b)|(go_at_call 81;refine (H2 _ xE).mono ?_;rintro e w2 ⟨r,rfl,hR,hb2⟩;have HR:=hq_ hR;clear hR;cases r))
 all_goals go_ret
 all_goals
  refine ⟨_,rfl,?_,xE⟩;rw [m1_ HW.out HE.out]
  first|(simp;done)|(have:=HR.out;simp at this ⊢;exact this)
theorem tp_ {e s n:Nat} (h:W.ownsRow B e s v n xs):W.ownsRow 0 e s v n xs:=
 ⟨h.1,h.2.imp id fun ⟨g,cap,cur,e,_,r⟩=>⟨g,cap,cur,e,Nat.zero_le _,r⟩⟩
structure OwnT (A:Nat->Prop) (n:Nat) (W:World) (v:Value) (L:List (Value × List Per)):Prop where
 row:RowT 0 A W v L
 own:∀ g,v.ownBlock=some g->n≤g
theorem OwnT.ext {A:Nat->Prop} {n:Nat} {L:List (Value × List Per)} (h:OwnT A n W v L) (hb:Below W.heap.size W W'):OwnT A n W' v L:=⟨h.row.below hb,h.own⟩
theorem OwnT.of {A:Nat->Prop} {n:Nat} {L:List (Value × List Per)} (h:W.ownsRow B 36 1 v L.length (L.map Prod.fst)) (hB:n≤B) (hl:L.length≤1000000) (hA:∀ g,v.ownBlock=some g->¬ A g)
  (ha:∀ x∈L,ab_ W (fun b=>¬ A b∧v.ownBlock≠some b) x.1 x.2):OwnT A n W v L:=
 ⟨⟨tp_ h,fun x hx=>(ha x hx).mono fun b hb=>⟨Nat.zero_le _,hb⟩,hA,hl⟩,fun g hg=>Nat.le_trans hB (h.lt g hg).1⟩
theorem er_ {a:Act} {Q:Exit->Act->World->Prop} (hgd:o.guard=none) (sx x:Operand)
  (ho:o.op=.call { callee:=.builtin .append,args:=#[sx,x],argTypes:=#[26,26] }) (A:Nat->Prop) (n:Nat) (v:Value) (L:List (Value × List Per)) (y:Value × List Per) (hs:a.eval sx=v) (h:OwnT A n w v L)
  (hy:ab_ w (fun b=>¬ A b∧v.ownBlock≠some b) y.1 y.2) (blk c:Nat) (hx:a.eval x=.slice (some ⟨blk,0,none⟩) 1 c) (hnew:w.cell? ⟨blk,0,none⟩=some y.1) (hA:¬ A w.heap.size) (hl:L.length<1000000) (hn:n≤w.heap.size)
  (k:∀ (a':Option Addr) (c':Nat) (w':World),OwnT A n w' (.slice a' (L.length+1) c') (L ++ [y])->w.grownBy w' v.ownBlock->Below n w w'->wpList Tryz.prog ops Q rest (a.put o.dst (.slice a' (L.length+1) c')) w') :
  wpList Tryz.prog ops Q (o :: rest) a w:=
 de_ hgd sx x ho 0 A v L y hs h.row (hy.mono fun b hb=>⟨Nat.zero_le _,hb⟩) blk c hx hnew hA hl (Nat.zero_le _) fun a' c' w' hr hg _ hbo=>
  k a' c' w' ⟨hr,fun g e=>hbo.elim (fun h1=>h.own g (h1 ▸ e)) fun h1=>by rw [h1] at e;cases e;exact hn⟩ hg ((Below.refl n w).grown hg hn h.own)
theorem OwnT.mix {A:Nat->Prop} {n:Nat} {L:List (Value × List Per)} (h:OwnT A n W v L):MixL W (fun b=>¬ A b) v L:=by
 refine ⟨?_,by have:=h.row.len;omega,fun x hx=>(h.row.all x hx).mono fun b hb=>hb.2.1⟩;have hne:=h.row.ne;obtain ⟨hl,⟨rfl,h2⟩|⟨g,cap,cur,rfl,hb,hg,h3,h4,h5,h6⟩⟩:=h.row.row
 ·rw [h2];exact ⟨none,0,rfl,oq_,oq_,.inl rfl⟩
 ·refine ⟨_,cap,rfl,h3,h4,.inr ⟨g,0,rfl,hne g rfl,(h.row.row.lt g rfl).2,fun i u hi=>?_⟩⟩;rw [Nat.zero_add];have:=(List.getElem?_eq_some_iff.1 hi).1;rw [List.length_map] at this;exact (h.row.row.cellAt i oq_).trans hi
theorem sw_ {F:Nat->Prop} {a1 a2:Option Addr} {n1 c1 n2 c2:Nat} (h:PVok W F ⟨.slice a1 n1 c1,.slice a2 n2 c2,q⟩) :
  ab_ (W.alloc (.cells #[.slice a1 n1 c1,.int .i64 q.frm,.int .i64 q.period,.slice a2 n2 c2] 39)) (fun b=>F b∨b=W.heap.size) (.slice (some ⟨W.heap.size,0,none⟩) 1 1) [q]:=by
 have hb:=Bxx.new W #[.slice a1 n1 c1,.int .i64 q.frm,.int .i64 q.period,.slice a2 n2 c2] 39;refine ⟨[⟨.slice a1 n1 c1,.slice a2 n2 c2,q⟩],rfl,⟨_,1,rfl,sq_,oq_,.inr ⟨W.heap.size,0,rfl,.inr rfl,hb.lt,fun i u hi=>?_⟩⟩,sq_,fun x hx=>?_⟩
 ·rw [Nat.zero_add];refine (hb.cells i).1.trans ?_;rw [<- hi]
  match i with
  | 0=>rfl
  | 1=>rfl
  | 2=>rfl
  | 3=>rfl
  | k+4=>rfl
 ·obtain rfl:x=⟨.slice a1 n1 c1,.slice a2 n2 c2,q⟩:=by simpa using hx
  exact (h.keep (a5_.below (Ea (Er W) _))).mono fun b hb=>.inl hb
theorem oe_ {e s n:Nat} (h:w.ownsRow B e s v n xs) (h0:0<n):∃ g cap,v=.slice (some ⟨g,0,none⟩) n cap:=by
 obtain ⟨_,⟨_,h2⟩|⟨g,cap,_,e,_⟩⟩:=h
 ·omega
 ·exact ⟨g,cap,e⟩
theorem RowR.part1 {F:Nat->Prop} {b o n:Nat} (h:RowR W F (.slice (some ⟨b,o,none⟩) n c) n cs) (h0:0<n) (i m c':Nat) (hm:m≤c') (hc:c'≤9223372036854775807) :
  RowR W F (.slice (some ⟨b,o+i,none⟩) m c') m ((cs.drop i).take m):=by
 obtain ⟨a',c2,he,h1,h2,h3⟩:=h.is;injection he with e1 _ _
 rcases h3 with h3|⟨b',o',e2,hF,hl,hcell⟩
 ·omega
 ·rw [e2] at e1;injection e1 with e1
  injection e1 with e3 e4
  subst e3;subst e4;refine ⟨_,c',rfl,hm,hc,.inr ⟨_,_,rfl,hF,hl,fun k u hu=>?_⟩⟩;have hk:k<m:=by
   have:=(List.getElem?_eq_some_iff.1 hu).1;rw [List.length_take] at this;omega
  rw [List.getElem?_take_of_lt hk,List.getElem?_drop] at hu;have:=hcell _ u hu;rw [Nat.add_assoc];exact this
def it_ (F:Nat->Prop) (l:List (List Per)) (v:Value) (w:World) (e:Ending) (w':World):Prop:=
 Below w.heap.size w w'∧((cj_ (az_ l) l.length∧e=.returned (.tuple #[v,.bool false])) ∨
  ∃ (i j:Nat) (v':Value),cf_ (az_ l) l.length i j∧e=.returned (.tuple #[v',.bool true])∧MixR w' (fun b=>F b∨w.heap.size≤b) v' (ct_ l i j))
theorem ra_ (s:Int) (F:Nat->Prop) (v:Value) (L:List (Value × List Per)) (w:World) (hL:MixL w F v L) (hv:∀ x∈L,aw_ s x.2) (hl:L.length≤100000) :
  Calls Tryz.prog 134 #[v] w (it_ F (L.map Prod.snd) v w):=by
 obtain ⟨a,c,rfl,hlc,hc9,_⟩:=hL.row.is;have HL:=hq_ hL;have HV:=hq_ hv;have HLM:Hid ((L.map Prod.snd).length=L.length):=hq_ (List.length_map _);clear hL hv
 go_enter Tryz.func134,Tryz.ntmps134
 go_wp2_with fail
 go_loopw [4,5,6,7,8] (fun i _ _ _ _ wr=>∃ k:Nat,k≤L.length∧i=.int .i64 k∧Hid (∀ i' j',i'<k->i'<j'->j'<L.length->¬ az_ (L.map Prod.snd) i' j')∧Hid (Below w.heap.size w wr)) (fun i _ _ _ _ _=>L.length-(intOf i).toNat)
 case atStart=>exact ⟨0,oq_,rfl,hq_ (by intro i' j' h;omega),hq_ xE⟩
 case round=>
  obtain ⟨k,hk,rfl,HNO,HBL⟩:=hrel
  by_cases hlt:k<L.length
  ·have hlI:(k:Int)<L.length:=oq_;go_wp2_with fail
   go_loopw [5,6,7,8] (fun i _ _ _ wq=>∃ jj:Nat,k<jj∧jj≤L.length∧i=.int .i64 jj∧Hid (∀ j',k<j'->j'<jj->¬ az_ (L.map Prod.snd) k j')∧Hid (Below w.heap.size w wq)) (fun i _ _ _ _=>L.length-(intOf i).toNat)
   case atStart=>exact ⟨k+1,oq_,oq_,by go_num,hq_ (by intro j' h1 h2;omega),HBL⟩
   case round=>
    obtain ⟨jj,hkj,hjl,rfl,HNR,HB2⟩:=hrel;have hb:=HB2.out
    by_cases hlt2:jj<L.length
    ·have hlI2:(jj:Int)<L.length:=oq_;have HLW:=hq_ (HL.out.keep (a5_.below hb) hb.size);obtain ⟨b,o,c9,xa,xn,xc,xt,ha,q3,htx,hdx⟩:=HLW.out.at hlt;cases ha;obtain ⟨_,_,_,ya,yn,yc,yt,ha,q4,hty,hdy⟩:=HLW.out.at hlt2;cases ha;obtain ⟨_,_,ha,_⟩:=htx.form;cases ha;obtain ⟨_,_,ha,_⟩:=hty.form;cases ha;have hdx:(L.map Prod.snd).getD k []=xt:=by rw [List.getD_eq_getElem?_getD,hdx];rfl
     have hdy:(L.map Prod.snd).getD jj []=yt:=by rw [List.getD_eq_getElem?_getD,hdy];rfl
     have HMX:Hid (aw_ s xt):=hq_ (by
      obtain ⟨z,hz,e⟩:=List.mem_map.1 (aa_ (d:=[]) (show k<(L.map Prod.snd).length by rw [List.length_map];exact hlt));rw [<- hdx,<- e];exact HV.out z hz)
     have HMY:Hid (aw_ s yt):=hq_ (by
      obtain ⟨z,hz,e⟩:=List.mem_map.1 (aa_ (d:=[]) (show jj<(L.map Prod.snd).length by rw [List.length_map];exact hlt2));rw [<- hdy,<- e];exact HV.out z hz)
     by_cases hx1:xt.length=1
     ·by_cases hy1:yt.length=1
      ·obtain ⟨bx,ox,cx,ax1,nx1,cx1,ax2,nx2,cx2,hsx,hpx,x0,x1,x2,x3⟩:=htx.single hx1;obtain ⟨by',oy,cy,ay1,ny1,cy1,ay2,ny2,cy2,hsy,hpy,y0,y1,y2,y3⟩:=hty.single hy1;rw [hsx] at q3;rw [hsy] at q4;have hfx:=HMX.out.fv _ (aa_ (d:=default) (show 0<xt.length by omega));have hfy:=HMY.out.fv _ (aa_ (d:=default) (show 0<yt.length by omega));have HJN:Hid (az_ (L.map Prod.snd) k jj↔divB (xt.getD 0 default) (yt.getD 0 default)=true):=hq_ (by unfold az_;rw [hdx,hdy];exact ⟨fun h=>h.2.2,fun h=>⟨hx1,hy1,h⟩⟩);have HJA:Hid (ct_ (L.map Prod.snd) k jj=((L.map Prod.snd).eraseIdx jj).set k [orP (xt.getD 0 default) (yt.getD 0 default)]):=hq_ (by unfold ct_;rw [hdx,hdy,List.eraseIdx_set_gt hkj]);generalize xt.getD 0 default=xp at *;generalize yt.getD 0 default=yp at *;have HDIV:=fun W=>iw_ ⟨.slice ax1 nx1 cx1,.slice ax2 nx2 cx2,xp⟩ ⟨.slice ay1 ny1 cy1,.slice ay2 ny2 cy2,yp⟩ W hfx.valid.wf.per hfx.valid.per hfy.valid.wf.per hfy.valid.per;change ∀ W,Calls _ _ #[perV _ _ xp.frm xp.period,perV _ _ yp.frm yp.period] W fun e w'=>e=.returned (.bool (divB xp yp))∧_ at HDIV;have HFX:=hq_ hfx;have HFY:=hq_ hfy;have HPX:=hq_ hpx;have HPY:=hq_ hpy;generalize divB xp yp=dd at *;clear htx hty hdx hdy hx1 hy1 hfx hfy hpx hpy hsx hsy;go_wp2_with fail
       refine ai_ (w0:=wr) [0,1,2,3,4,5,6,7,8,9,10,11,12,13,14,15,16,17,18,19,20,21,22,23,24,25,26,27,28] [] (fun v=>⟨#[.slice (some ⟨b,o,none⟩) L.length c,undef,u2,u3,.int .i64 ↑k,.int .i64 ↑jj,u6,u7,u8,.int .i64 ↑k,.slice (some ⟨b,o,none⟩) L.length c,.int .i64 ↑L.length,.bool true,u13,u14,.int .i64 ↑k,.int .i64 (↑k+1),.int .i64 ↑jj,.slice (some ⟨b,o,none⟩) L.length c,.int .i64 ↑L.length,.bool true,u21,u22,v 0,v 1,v 2,v 3,v 4,v 5,v 6,v 7,v 8,v 9,v 10,v 11,v 12,v 13,v 14,v 15,v 16,v 17,v 18,v 19,v 20,v 21,v 22,v 23,v 24,v 25,v 26,v 27,v 28,u52,u53,u54,u55,u56,u57,u58,u59,u60,u61,u62,u63,u64,u65,u66,u67,u68,u69,u70,u71,u72,u73,u74,u75,u76,u77,u78,u79,u80,u81,u82,u83,u84,u85,u86,undef],[]⟩) [.slice (some ⟨b,o,none⟩) L.length c,.int .i64 k,.pointer (some ⟨b,o+k,none⟩),.slice (some ⟨bx,ox,none⟩) 1 cx,.int .i64 1,.bool true,.bool true,.slice (some ⟨b,o,none⟩) L.length c,.int .i64 jj,.pointer (some ⟨b,o+jj,none⟩),.slice (some ⟨by',oy,none⟩) 1 cy,.int .i64 1,.bool true,.bool true,.bool true,.slice (some ⟨b,o,none⟩) L.length c,.int .i64 k,.pointer (some ⟨b,o+k,none⟩),.slice (some ⟨bx,ox,none⟩) 1 cx,.pointer (some ⟨bx,ox,none⟩),perV (.slice ax1 nx1 cx1) (.slice ax2 nx2 cx2) xp.frm xp.period,.slice (some ⟨b,o,none⟩) L.length c,.int .i64 jj,.pointer (some ⟨b,o+jj,none⟩),.slice (some ⟨by',oy,none⟩) 1 cy,.pointer (some ⟨by',oy,none⟩),perV (.slice ay1 ny1 cy1) (.slice ay2 ny2 cy2) yp.frm yp.period,.bool dd,.bool dd] [] (fun _ _ _ _ _=>True) (fun W=>W.cell? ⟨b,o+k,none⟩=some (.slice (some ⟨bx,ox,none⟩) 1 cx)∧W.cell? ⟨b,o+jj,none⟩=some (.slice (some ⟨by',oy,none⟩) 1 cy)∧(W.cell? ⟨bx,ox,none⟩=some (.slice ax1 nx1 cx1)∧W.cell? ⟨bx,ox+1,none⟩=some (.int .i64 xp.frm)∧W.cell? ⟨bx,ox+2,none⟩=some (.int .i64 xp.period)∧W.cell? ⟨bx,ox+3,none⟩=some (.slice ax2 nx2 cx2))∧(W.cell? ⟨by',oy,none⟩=some (.slice ay1 ny1 cy1)∧W.cell? ⟨by',oy+1,none⟩=some (.int .i64 yp.frm)∧W.cell? ⟨by',oy+2,none⟩=some (.int .i64 yp.period)∧W.cell? ⟨by',oy+3,none⟩=some (.slice ay2 ny2 cy2))) (fun W hb=>⟨Ext.cell hb q3,Ext.cell hb q4,⟨Ext.cell hb x0,Ext.cell hb x1,Ext.cell hb x2,Ext.cell hb x3⟩,Ext.cell hb y0,Ext.cell hb y1,Ext.cell hb y2,Ext.cell hb y3⟩) trivial trivial ?steps ?fin (fun j=>match j with|0=>u23|1=>u24|2=>u25|3=>u26|4=>u27|5=>u28|6=>u29|7=>u30|8=>u31|9=>u32|10=>u33|11=>u34|12=>u35|13=>u36|14=>u37|15=>u38|16=>u39|17=>u40|18=>u41|19=>u42|20=>u43|21=>u44|22=>u45|23=>u46|24=>u47|25=>u48|26=>u49|27=>u50|28=>u51|_=>undef)
       case steps=>
        clear q3 q4 x0 x1 x2 x3 y0 y1 y2 y3;refine .c [] [] rfl ?_ (.c [] [] rfl ?_ (.c [0,1] [] rfl ?_ (.c [2] [] rfl ?_ (.c [3] [] rfl ?_ (.c [4] [] rfl ?_ (.c [5] [] rfl ?_ (.c [6] [] rfl ?_ (.c [6] [] rfl ?_ (.c [6,7,8] [] rfl ?_ (.c [6,9] [] rfl ?_ (.c [6,10] [] rfl ?_ (.c [6,11] [] rfl ?_ (.c [6,12] [] rfl ?_ (.c [13] [] rfl ?_ (.c [14] [] rfl ?_ (.c [14] [] rfl ?_ (.c [14,15,16] [] rfl ?_ (.c [14,17] [] rfl ?_ (.c [14,18] [] rfl ?_ (.c [14,19] [] rfl ?_ (.c [14] [] rfl ?_ (.c [14] [] rfl ?_ (.c [14,21,22] [] rfl ?_ (.c [14,23] [] rfl ?_ (.c [14,24] [] rfl ?_ (.c [14,25] [] rfl ?_ (.c [14,20,26] [] rfl ?_ (.c [14,27] [] rfl ?_ (.n)))))))))))))))))))))))))))))
        all_goals try exact stw
        ·rintro v lo hi W hb ⟨s3,s4,⟨g0,g1_,g2,g3⟩,k0,k1,k2,k3⟩ _;refine .inl ⟨rfl,fun K hK=>?_⟩;simp only [ov,vat,Nat.reduceBEq,cond_true,cond_false];go_wp2_with (go_at_call 166;refine (HDIV _).mono ?_;rintro e w9 ⟨rfl,hb9⟩)
         exact acx (hK w9 hb9) (by simp [ov,vat,upd])
       case fin=>
        rintro v lo hi9 W2 hb ⟨s3,s4,⟨g0,g1_,g2,g3⟩,k0,k1,k2,k3⟩ hf hap;have e28:v 28=.bool dd:=(hf 28 rfl).2.2.2;clear hf hap;show wpList _ _ _ [] _ _;dsimp only;rw [e28];clear e28;generalize v 0=z0,v 1=z1,v 2=z2,v 3=z3,v 4=z4,v 5=z5,v 6=z6,v 7=z7,v 8=z8,v 9=z9,v 10=z10,v 11=z11,v 12=z12,v 13=z13,v 14=z14,v 15=z15,v 16=z16,v 17=z17,v 18=z18,v 19=z19,v 20=z20,v 21=z21,v 22=z22,v 23=z23,v 24=z24,v 25=z25,v 26=z26,v 27=z27;have HB4:=hq_ (Et HB2.out hb);have HB5:=hq_ hb;clear hb;cases dd with
        | false=>
         clear s3 s4 g0 g1_ g2 g3 k0 k1 k2 k3;go_wp2_with fail
         go_roundw
         case rel=>exact ⟨jj+1,oq_,oq_,by go_num,hq_ (fun j' h1 h2=>by
          by_cases h3:j'<jj
          ·exact HNR.out j' h1 h3
          ·obtain rfl:j'=jj:=oq_;rw [HJN.out];decide),HB4⟩
         case measure=>simp [intOf];omega
        | true=>
         obtain ⟨q,hq⟩:∃ q,q=orP xp yp:=⟨_,rfl⟩;have HQ:=hq_ hq;have HFQ:Hid (FV s q):=hq_ (by rw [hq];exact HFX.out.or HFY.out);have HOR:=hq_ (fun W (h:Below W2.heap.size W2 W)=>show Calls _ _ #[.agg #[.slice ax1 nx1 cx1,.int .i64 xp.frm,.int .i64 xp.period,.slice ax2 nx2 cx2],.agg #[.slice ay1 ny1 cy1,.int .i64 yp.frm,.int .i64 yp.period,.slice ay2 ny2 cy2]] W (b6_ q W) from by
          rw [hq];exact t3_ s _ _ _ _ xp yp W (HPX.out.is.ext (Et HB5.out h)) (HPY.out.is.ext (Et HB5.out h)) HFX.out HFY.out)
         have hz0:0<W2.heap.size:=by have:=World.block_lt_of_cell? W2 _ s3;omega
         have hzw:=HB4.out.size;clear hq;go_wp2_with fail
         refine Code.wp_mono (Q:=fun e a' W'=>e=.normal∧(∃ (nb:Nat) (hv cv:Value) (y52 y53 y54 y55 y56 y57 y58 y59 y60 y61 y62 y63 y64 y65 y66 y67:Value),a'=⟨#[.slice (some ⟨b,o,none⟩) L.length c,undef,u2,u3,.int .i64 ↑k,.int .i64 ↑jj,.pointer (some ⟨nb,0,none⟩),.int .i64 0,u8,.int .i64 ↑k,.slice (some ⟨b,o,none⟩) L.length c,.int .i64 ↑L.length,.bool true,u13,u14,.int .i64 ↑k,.int .i64 (↑k+1),.int .i64 ↑jj,.slice (some ⟨b,o,none⟩) L.length c,.int .i64 ↑L.length,.bool true,u21,u22,z0,z1,z2,z3,z4,z5,z6,z7,z8,z9,z10,z11,z12,z13,z14,z15,z16,z17,z18,z19,z20,z21,z22,z23,z24,z25,z26,z27,.bool true,y52,y53,y54,y55,y56,y57,y58,y59,y60,y61,y62,y63,y64,y65,y66,y67,u68,u69,u70,u71,u72,u73,u74,u75,u76,u77,u78,u79,u80,u81,u82,u83,u84,u85,u86,undef],[]⟩∧Hid (MgP (W2.heap.size-1) q nb hv cv W'))∧Hid (Below W2.heap.size W2 W')) ?imp ?reg
         case reg=>
          refine cx_ (w0:=W2) [0,1,2,3,4,5,6,7,8,9,10,11,12,13,14,15,16] 15 17 [18] (fun v=>⟨#[.slice (some ⟨b,o,none⟩) L.length c,undef,u2,u3,.int .i64 ↑k,.int .i64 ↑jj,v 16,u7,u8,.int .i64 ↑k,.slice (some ⟨b,o,none⟩) L.length c,.int .i64 ↑L.length,.bool true,u13,u14,.int .i64 ↑k,.int .i64 (↑k+1),.int .i64 ↑jj,.slice (some ⟨b,o,none⟩) L.length c,.int .i64 ↑L.length,.bool true,u21,u22,z0,z1,z2,z3,z4,z5,z6,z7,z8,z9,z10,z11,z12,z13,z14,z15,z16,z17,z18,z19,z20,z21,z22,z23,z24,z25,z26,z27,.bool true,v 13,v 0,v 1,v 2,v 3,v 4,v 5,v 6,v 7,v 8,v 9,v 10,v 11,v 12,v 14,v 15,u68,u69,u70,u71,u72,u73,u74,u75,u76,u77,u78,u79,u80,u81,u82,u83,u84,u85,u86,undef],[]⟩) [.slice (some ⟨b,o,none⟩) L.length c,.int .i64 k,.pointer (some ⟨b,o+k,none⟩),.slice (some ⟨bx,ox,none⟩) 1 cx,.pointer (some ⟨bx,ox,none⟩),.agg #[.slice ax1 nx1 cx1,.int .i64 xp.frm,.int .i64 xp.period,.slice ax2 nx2 cx2],.slice (some ⟨b,o,none⟩) L.length c,.int .i64 jj,.pointer (some ⟨b,o+jj,none⟩),.slice (some ⟨by',oy,none⟩) 1 cy,.pointer (some ⟨by',oy,none⟩),.agg #[.slice ay1 ny1 cy1,.int .i64 yp.frm,.int .i64 yp.period,.slice ay2 ny2 cy2],undef,undef,undef,.int .i64 0,undef] [12,13,14,16] (fun i v lo hi W=>match i with|12=>∃ h c,v 12=.tuple #[perV h c q.frm q.period,.int .i64 0]∧e4_ W (lo 12) (hi 12) h c q|13=>v 13=v 12∧∃ h c,v 13=.tuple #[perV h c q.frm q.period,.int .i64 0]|14=>∃ h c,v 13=.tuple #[perV h c q.frm q.period,.int .i64 0]∧v 14=perV h c q.frm q.period|16=>v 16=.pointer (some ⟨lo 16,0,none⟩)∧lo 16<hi 16∧Bxx W (lo 16) #[.slice none 0 0,.int .i64 0,.int .i64 0,.slice none 0 0] 39|_=>True) (fun W=>W.cell? ⟨b,o+k,none⟩=some (.slice (some ⟨bx,ox,none⟩) 1 cx)∧W.cell? ⟨b,o+jj,none⟩=some (.slice (some ⟨by',oy,none⟩) 1 cy)∧(W.cell? ⟨bx,ox,none⟩=some (.slice ax1 nx1 cx1)∧W.cell? ⟨bx,ox+1,none⟩=some (.int .i64 xp.frm)∧W.cell? ⟨bx,ox+2,none⟩=some (.int .i64 xp.period)∧W.cell? ⟨bx,ox+3,none⟩=some (.slice ax2 nx2 cx2))∧(W.cell? ⟨by',oy,none⟩=some (.slice ay1 ny1 cy1)∧W.cell? ⟨by',oy+1,none⟩=some (.int .i64 yp.frm)∧W.cell? ⟨by',oy+2,none⟩=some (.int .i64 yp.period)∧W.cell? ⟨by',oy+3,none⟩=some (.slice ay2 ny2 cy2))) (fun W hb=>⟨Ext.cell hb s3,Ext.cell hb s4,⟨Ext.cell hb g0,Ext.cell hb g1_,Ext.cell hb g2,Ext.cell hb g3⟩,Ext.cell hb k0,Ext.cell hb k1,Ext.cell hb k2,Ext.cell hb k3⟩) ?stab ?loc ?steps ?fin ?fin2 (fun j=>match j with|0=>u53|1=>u54|2=>u55|3=>u56|4=>u57|5=>u58|6=>u59|7=>u60|8=>u61|9=>u62|10=>u63|11=>u64|12=>u65|13=>u52|14=>u66|15=>u67|16=>u6|_=>undef)
          case stab=>
           refine ⟨?_,?_,?_,?_,trivial⟩
           ·intro v lo hi W W' h hb;exact (let ⟨x1,x2,e,hp⟩:=h;⟨x1,x2,e,hp.below hb⟩)
           ·intro v lo hi W W' h hb;exact h
           ·intro v lo hi W W' h hb;exact h
           ·intro v lo hi W W' h hb;exact ⟨h.1,h.2.1,h.2.2.below hb⟩
          case loc=>
           refine ⟨?_,?_,?_,?_,trivial⟩
           ·intro v v' lo lo' hi hi' W hag h;have q:=hag 12 (.inl rfl)
            (try dsimp only at h ⊢)
            simp only [q.1,q.2.1,q.2.2] at h;exact h
           ·intro v v' lo lo' hi hi' W hag h;have q:=hag 13 (.inl rfl);have q12:=hag 12 (.inr (Rdp (by kernel_rfl)))
            (try dsimp only at h ⊢)
            simp only [q.1,q.2.1,q.2.2,q12.1,q12.2.1,q12.2.2] at h;exact h
           ·intro v v' lo lo' hi hi' W hag h;have q:=hag 14 (.inl rfl);have q13:=hag 13 (.inr (Rdp (by kernel_rfl)))
            (try dsimp only at h ⊢)
            simp only [q.1,q.2.1,q.2.2,q13.1,q13.2.1,q13.2.2] at h;exact h
           ·intro v v' lo lo' hi hi' W hag h;have q:=hag 16 (.inl rfl)
            (try dsimp only at h ⊢)
            simp only [q.1,q.2.1,q.2.2] at h;exact h
          case steps=>
           clear s3 s4 g0 g1_ g2 g3 k0 k1 k2 k3;refine .c [] [] rfl ?_ (.c [] [] rfl ?_ (.c [0,1] [] rfl ?_ (.c [2] [] rfl ?_ (.c [3] [] rfl ?_ (.c [4] [] rfl ?_ (.c [] [] rfl ?_ (.c [] [] rfl ?_ (.c [6,7] [] rfl ?_ (.c [8] [] rfl ?_ (.c [9] [] rfl ?_ (.c [10] [] rfl ?_ (.c [5,11] [] rfl ?_ (.c [] [12] rfl ?_ (.c [] [13] rfl ?_ (.c [] [13] rfl ?_ (.c [] [] rfl ?_ (.n)))))))))))))))))
           all_goals try exact stl
           ·rintro v lo hi W hb ⟨s3,s4,⟨g0,g1_,g2,g3⟩,k0,k1,k2,k3⟩ _;refine ⟨rfl,fun K hK=>?_⟩;simp only [ov,vat,Nat.reduceBEq,cond_true,cond_false];go_wp2_with (go_at_call 96;(with_reducible refine (HOR.out _ hb).mono ?_);rintro e w9 ⟨h',c',rfl,ho,hb9⟩)
            exact acx (hK (.tuple #[perV h' c' q.frm q.period,.int .i64 0]) w9 hb9 ⟨h',c',rfl,ho.at⟩) (by simp [ov,vat,upd])
           ·rintro v lo hi W hb ⟨s3,s4,⟨g0,g1_,g2,g3⟩,k0,k1,k2,k3⟩ ⟨⟨la12,lb12,D12⟩,_⟩;refine ⟨rfl,fun K hK=>?_⟩;simp only [ov,vat,Nat.reduceBEq,cond_true,cond_false]
            (try dsimp only at D12)
            obtain ⟨h8,c8,e8,_⟩:=D12;go_wp2_with fail
            exact acx (hK (v 12) W (Below.refl _ _) ⟨rfl,h8,c8,e8⟩) (by simp [ov,vat,upd,e8])
           ·rintro v lo hi W hb ⟨s3,s4,⟨g0,g1_,g2,g3⟩,k0,k1,k2,k3⟩ ⟨⟨la13,lb13,D13⟩,_⟩;refine ⟨rfl,fun K hK=>?_⟩;simp only [ov,vat,Nat.reduceBEq,cond_true,cond_false]
            (try dsimp only at D13)
            obtain ⟨-,h9,c9,e9⟩:=D13;simp only [e9];go_wp2_with fail
            exact acx (hK (perV h9 c9 q.frm q.period) W (Below.refl _ _) ⟨h9,c9,e9,rfl⟩) (by simp [ov,vat,upd,e9])
           ·rintro v lo hi W hb ⟨s3,s4,⟨g0,g1_,g2,g3⟩,k0,k1,k2,k3⟩ ⟨⟨la13,lb13,D13⟩,_⟩;refine ⟨rfl,fun K hK=>?_⟩;simp only [ov,vat,Nat.reduceBEq,cond_true,cond_false]
            (try dsimp only at D13)
            obtain ⟨-,h9,c9,e9⟩:=D13;simp only [e9];go_wp2_with fail
            exact acx (hK W (Below.refl _ _)) (by simp [ov,vat,upd,e9])
           ·rintro v lo hi W hb ⟨s3,s4,⟨g0,g1_,g2,g3⟩,k0,k1,k2,k3⟩ _;refine ⟨rfl,fun K hK=>?_⟩;simp only [ov,vat,Nat.reduceBEq,cond_true,cond_false];go_wp2_with fail
            exact hK (.pointer (some ⟨W.heap.size,0,none⟩)) _ (Ea (Er _) _) ⟨rfl,sq_,Bxx.new _ _ _⟩
          case fin=>
           rintro v lo hi9 W5 hb5-hf hap;show wpList _ _ _ [_,_] _ _;obtain ⟨l8,-,h8,h,c,e8,hp8⟩:=hf 12 rfl;obtain ⟨-,-,-,e9,-⟩:=hf 13 rfl;obtain ⟨-,-,-,h',c',e9',e10⟩:=hf 14 rfl;have e11:v 15=.int .i64 0:=(hf 15 rfl).2.2.2;obtain ⟨l12,-,h12,e12,lt12,hbox⟩:=hf 16 rfl;have hd:=hap 12 16 rfl rfl dq_;clear hf hap;rw [e9,e8] at e9';obtain ⟨rfl,rfl⟩:h=h'∧c=c':=by simpa [perV] using e9'
           dsimp only;rw [e10,e11,e12];clear e10 e11 e12 e9 e9' e8;obtain ⟨nb,hnb⟩:∃ nb,nb=lo 16:=⟨_,rfl⟩;rw [<- hnb] at hd hbox l12 lt12 ⊢;have hpi:=hp8.inn;generalize lo 12=l8v at *;generalize hi9 12=h8v at *;generalize hi9 16=h12v at *;clear hnb hp8;obtain ⟨a5,m5,a6,m6,rfl,rfl⟩:=hpi.form;have r0:=hbox.cells 0;have r1:=hbox.cells 1;have r2:=hbox.cells 2;have r3:=hbox.cells 3;have HMG:=hq_ (MgP.of (B:=W2.heap.size-1) hpi HFQ.out oq_ hbox oq_ oq_);have HB5:=hq_ hb5;clear hbox hpi hd;generalize v 0=zz0,v 1=zz1,v 2=zz2,v 3=zz3,v 4=zz4,v 5=zz5,v 6=zz6,v 7=zz7,v 8=zz8,v 9=zz9,v 10=zz10,v 11=zz11,v 12=zz12,v 13=zz13;go_wp2_with fail
           exact ⟨⟨_,_,HMG⟩,hq_ (by have hb5:=HB5.out;exact xE)⟩
          case fin2=>
           rintro v lo hi9 W5 hb5-hf hap;obtain ⟨l8,-,h8,h,c,e8,hp8⟩:=hf 12 rfl dq_;obtain ⟨-,-,-,e9,-⟩:=hf 13 rfl dq_;obtain ⟨-,-,-,h',c',e9',e10⟩:=hf 14 rfl dq_;obtain ⟨l12,-,h12,e12,lt12,hbox⟩:=hf 16 rfl dq_;have hd:=hap 12 16 rfl rfl dq_ dq_ dq_;clear hf hap;rw [e9,e8] at e9';obtain ⟨rfl,rfl⟩:h=h'∧c=c':=by simpa [perV] using e9'
           have e99:=e9.trans e8;dsimp only;rw [e10,e12,e99];clear e10 e12 e9 e9' e8 e99;obtain ⟨nb,hnb⟩:∃ nb,nb=lo 16:=⟨_,rfl⟩;rw [<- hnb] at hd hbox l12 lt12 ⊢;have hpi:=hp8.inn;generalize lo 12=l8v at *;generalize hi9 12=h8v at *;generalize hi9 16=h12v at *;clear hnb hp8;obtain ⟨a5,m5,a6,m6,rfl,rfl⟩:=hpi.form;have r0:=hbox.cells 0;have r1:=hbox.cells 1;have r2:=hbox.cells 2;have r3:=hbox.cells 3;have HMG:=hq_ (MgP.of (B:=W2.heap.size-1) hpi HFQ.out oq_ hbox oq_ oq_);have HB5:=hq_ hb5;clear hbox hpi hd;generalize v 0=zz0,v 1=zz1,v 2=zz2,v 3=zz3,v 4=zz4,v 5=zz5,v 6=zz6,v 7=zz7,v 8=zz8,v 9=zz9,v 10=zz10,v 11=zz11,v 12=zz12,v 15=zz15;constructor
           ·show wpList _ _ _ [_,_,_] _ _;go_wp2_with fail
            exact ⟨⟨_,_,HMG⟩,hq_ (by have hb5:=HB5.out;exact xE)⟩
           ·show wpList _ _ _ [_,_,_] _ _;go_wp2_with fail
            exact ⟨⟨_,_,HMG⟩,hq_ (by have hb5:=HB5.out;exact xE)⟩
         case imp=>
          rintro e a' W6 ⟨rfl,⟨nb,hv9,cv9,y52,y53,y54,y55,y56,y57,y58,y59,y60,y61,y62,y63,y64,y65,y66,y67,rfl,HP⟩,HB6⟩;obtain ⟨a5,n5,m5,a6,n6,m6,rfl,rfl⟩:=HP.out.ok.form;have p0:=HP.out.c0;have p1:=HP.out.c1;have p2:=HP.out.c2;have p3:=HP.out.c3;have HE6:=hq_ (Et HB4.out HB6.out);have hz6:W6.heap.size≤(W6.alloc (.cells #[] 36)).heap.size:=by simp
          have hzA:w.heap.size≤W6.heap.size:=HE6.out.size;have hzB:W2.heap.size≤W6.heap.size:=HB6.out.size;have hown0:=World.ownsRow_lit (base:=W6.heap.size) (e:=36) (size:=1) W6 #[] 0 (Nat.le_refl _) (by unfold maxLen;omega) rfl;have HROW:=hq_ (fun W (h:Below W6.heap.size W6 W)=>HL.out.row.keep (a5_.below (Et HE6.out h)) (Et HE6.out h).size);have HO1:Hid (∀ u∈(L.map Prod.fst).take jj,u.oneCell'=true):=hq_ fun u hu=>HL.out.cells_one u (List.mem_of_mem_take hu);have HO2:Hid (∀ u∈(L.map Prod.fst).drop (jj+1),u.oneCell'=true):=hq_ fun u hu=>HL.out.cells_one u (List.mem_of_mem_drop hu);have HF1:Hid (((L.map Prod.fst).take jj).length=jj*1):=hq_ (by rw [List.length_take,List.length_map];omega);have HF2:Hid (((L.map Prod.fst).drop (jj+1)).length=(L.length-(jj+1))*1):=hq_ (by rw [List.length_drop,List.length_map];omega);have HEE:Hid ((L.map Prod.fst).take jj ++ (L.map Prod.fst).drop (jj+1)=(L.eraseIdx jj).map Prod.fst):=hq_ (by rw [List.eraseIdx_eq_take_drop_succ,List.map_append,List.map_take,List.map_drop]);have HEL:Hid ((L.eraseIdx jj).length=L.length-1):=hq_ (List.length_eraseIdx_of_lt hlt2);have H1:=hq_ (fun W (h:Below W6.heap.size W6 W)=>show RowR W F (.slice (some ⟨b,o,none⟩) jj c) jj ((L.map Prod.fst).take jj) from by simpa using (HROW.out W h).part1 oq_ 0 jj c oq_ hc9);have HFIN:Hid (∀ (g cap:Nat) (w8:World),w8.ownsRow W6.heap.size 36 1 (.slice (some ⟨g,0,none⟩) (L.length-1) cap) (L.length-1) ((L.eraseIdx jj).map Prod.fst)->Below W6.heap.size W6 w8->
            MixR ((w8.setCell ⟨g,k,none⟩ (.slice (some ⟨w8.heap.size,0,none⟩) 1 1)).alloc (.cells #[.slice a5 n5 m5,.int .i64 q.frm,.int .i64 q.period,.slice a6 n6 m6] 39)) (fun b=>F b∨w.heap.size≤b) (.slice (some ⟨g,0,none⟩) (L.length-1) cap) (ct_ (L.map Prod.snd) k jj)∧
            Below w.heap.size w ((w8.setCell ⟨g,k,none⟩ (.slice (some ⟨w8.heap.size,0,none⟩) 1 1)).alloc (.cells #[.slice a5 n5 m5,.int .i64 q.frm,.int .i64 q.period,.slice a6 n6 m6] 39))):=hq_ (by
           intro g cap w8 hown hb8;have hg:=hown.lt g rfl;have hz8:=hb8.size;have hbw:=Et HE6.out hb8;have hq8:=HP.out.ok.lt.keep (a5_.below hb8);rw [<- HEL.out] at hown;have hot:OwnT (fun b=>¬ (F b∨w.heap.size≤b)) W6.heap.size w8 (.slice (some ⟨g,0,none⟩) (L.eraseIdx jj).length cap) (L.eraseIdx jj):=OwnT.of hown (Nat.le_refl _) (by rw [HEL.out];omega) (fun g' e=>by have e':g=g':=(by simpa [Value.ownBlock] using e);exact fun h=>h (.inr oq_)) fun x hx=>
            ((HL.out.lt.all x (List.mem_of_mem_eraseIdx hx)).ext hbw).mono fun b hb=>⟨fun h=>h (.inl hb.1),fun e=>by have e':g=b:=(by simpa [Value.ownBlock] using e);have:=hb.2;omega⟩
           have hot2:=hot.ext (Ea (Er w8) (.cells #[.slice a5 n5 m5,.int .i64 q.frm,.int .i64 q.period,.slice a6 n6 m6] 39));have hset:=hot2.row.set (y:=(.slice (some ⟨w8.heap.size,0,none⟩) 1 1,[q])) k ((sw_ hq8).mono fun b hb=>⟨Nat.zero_le _,fun h=>h (.inr (by rcases hb with hb|hb <;> (try have:=hb.1) <;> omega)),fun e=>by have e':g=b:=(by simpa [Value.ownBlock] using e);rcases hb with hb|hb <;> (try have:=hb.2) <;> omega⟩);have hcomm:=World.setCell_alloc_past (w:=w8) (.cells #[.slice a5 n5 m5,.int .i64 q.frm,.int .i64 q.period,.slice a6 n6 m6] 39) g k (.slice (some ⟨w8.heap.size,0,none⟩) 1 1) hg.2;have hmix:=OwnT.mix ⟨hset,hot2.own⟩;dsimp only at hmix;rw [hcomm] at hmix;rw [HEL.out] at hmix;refine ⟨⟨_,?_,hmix.mono fun b hb=>Classical.not_not.1 hb⟩,Ea (Es hbw (by show _≤g;omega) _) _⟩;rw [HJA.out,<- HQ.out,List.map_set]
           congr 1
           rw [List.eraseIdx_eq_take_drop_succ,List.eraseIdx_eq_take_drop_succ,List.map_append,List.map_take,List.map_drop])
          by_cases hcz:c=jj+1
          ·subst hcz;have hlz:L.length-(jj+1)=0:=oq_;have HLZ:Hid (jj+0=L.length-1):=hq_ oq_;have HD0:Hid ((L.map Prod.fst).drop (jj+1)=[]):=hq_ (List.drop_eq_nil_of_le (by rw [List.length_map];omega));have H2:Hid (∀ W,Below W6.heap.size W6 W->RowR W F (.slice (some ⟨b,o,none⟩) 0 0) 0 ((L.map Prod.fst).drop (jj+1))):=hq_ fun W _=>by rw [HD0.out];exact ⟨some ⟨b,o,none⟩,0,rfl,Nat.le_refl _,oq_,.inl rfl⟩
           have HF2:Hid (((L.map Prod.fst).drop (jj+1)).length=0*1):=hq_ (by rw [HD0.out];rfl);clear hlz HROW;go_wp2_with (first|(at_builtin;refine co_ rq_ _ _ rq_ W6.heap.size (.slice (some ⟨W6.heap.size,0,none⟩) 0 0) (.slice (some ⟨b,o,none⟩) jj (jj+1)) 0 jj [] _ F rq_ hown0 rq_ (H1.out _ (Ea (Er W6) _)) HF1.out HO1.out oq_ hz6 ?_;intro v7 w7 hown7 hgrow7;rw [Nat.zero_add,List.nil_append] at hown7;have hE7:=(Ea (Er W6) (.cells #[] 36)).grown hgrow7 hz6 (fun k e=>(hown0.lt k e).1);have hz7:=hE7.size;obtain ⟨na7,nc7,rfl⟩:=cu_ hown7;have HOWN7:=hq_ hown7;have HE7:=hq_ hE7;clear hown7 hgrow7 hE7)|(at_builtin;refine co_ rq_ _ _ rq_ W6.heap.size (.slice na7 jj nc7) (.slice (some ⟨b,o,none⟩) 0 0) jj 0 _ _ F rq_ HOWN7.out rq_ (H2.out _ HE7.out) HF2.out HO2.out oq_ hz7 ?_;intro v8 w8 hown8 hgrow8;rw [HEE.out,HLZ.out] at hown8;have hE8:=HE7.out.grown hgrow8 HE7.out.size (fun k e=>(HOWN7.out.lt k e).1);obtain ⟨g,cap,rfl⟩:=oe_ hown8 oq_;(have kc:=(hown8.cellAt k oq_).trans (List.getElem?_eq_getElem (by rw [List.length_map,HEL.out];omega)));(have kf:=hown8.frozenAt k);(have s0:=Ext.cell hE8 p0);(have s1:=Ext.cell hE8 p1);(have s2:=Ext.cell hE8 p2);(have s3:=Ext.cell hE8 p3);have hgl:=(hown8.lt g rfl).2;have HFI:=hq_ (HFIN.out g cap w8 hown8 hE8);clear hown8 hgrow8 hE8 p0 p1 p2 p3))
           go_ret2;exact ⟨HFI.out.2,.inr ⟨k,jj,_,⟨hkj,by rw [HLM.out];exact hlt2,by have h:=HJN.out;simpa using h,by rw [HLM.out];exact HNO.out,HNR.out⟩,rfl,HFI.out.1⟩⟩
          ·have hcp:0<c-(jj+1):=oq_;have HLZ:Hid (jj+(L.length-(jj+1))=L.length-1):=hq_ oq_;have H2:Hid (∀ W,Below W6.heap.size W6 W->RowR W F (.slice (some ⟨b,o+(jj+1),none⟩) (L.length-(jj+1)) (c-(jj+1))) (L.length-(jj+1)) ((L.map Prod.fst).drop (jj+1))):=hq_ fun W h=>by
            have h:=(HROW.out W h).part1 oq_ (jj+1) (L.length-(jj+1)) (c-(jj+1)) oq_ oq_;rwa [List.take_of_length_le (by rw [List.length_drop,List.length_map];omega)] at h
           clear HROW;go_wp2_with (first|(at_builtin;refine co_ rq_ _ _ rq_ W6.heap.size (.slice (some ⟨W6.heap.size,0,none⟩) 0 0) (.slice (some ⟨b,o,none⟩) jj c) 0 jj [] _ F rq_ hown0 rq_ (H1.out _ (Ea (Er W6) _)) HF1.out HO1.out oq_ hz6 ?_;intro v7 w7 hown7 hgrow7;rw [Nat.zero_add,List.nil_append] at hown7;have hE7:=(Ea (Er W6) (.cells #[] 36)).grown hgrow7 hz6 (fun k e=>(hown0.lt k e).1);have hz7:=hE7.size;obtain ⟨na7,nc7,rfl⟩:=cu_ hown7;have HOWN7:=hq_ hown7;have HE7:=hq_ hE7;clear hown7 hgrow7 hE7)|(at_builtin;refine co_ rq_ _ _ rq_ W6.heap.size (.slice na7 jj nc7) (.slice (some ⟨b,o+(jj+1),none⟩) (L.length-(jj+1)) (c-(jj+1))) jj (L.length-(jj+1)) _ _ F rq_ HOWN7.out rq_ (H2.out _ HE7.out) HF2.out HO2.out oq_ hz7 ?_;intro v8 w8 hown8 hgrow8;rw [HEE.out,HLZ.out] at hown8;have hE8:=HE7.out.grown hgrow8 HE7.out.size (fun k e=>(HOWN7.out.lt k e).1);obtain ⟨g,cap,rfl⟩:=oe_ hown8 oq_;(have kc:=(hown8.cellAt k oq_).trans (List.getElem?_eq_getElem (by rw [List.length_map,HEL.out];omega)));(have kf:=hown8.frozenAt k);(have s0:=Ext.cell hE8 p0);(have s1:=Ext.cell hE8 p1);(have s2:=Ext.cell hE8 p2);(have s3:=Ext.cell hE8 p3);have hgl:=(hown8.lt g rfl).2;have HFI:=hq_ (HFIN.out g cap w8 hown8 hE8);clear hown8 hgrow8 hE8 p0 p1 p2 p3))
           go_ret2;exact ⟨HFI.out.2,.inr ⟨k,jj,_,⟨hkj,by rw [HLM.out];exact hlt2,by have h:=HJN.out;simpa using h,by rw [HLM.out];exact HNO.out,HNR.out⟩,rfl,HFI.out.1⟩⟩
      ·have HXI:Hid (((xt.length:Int) == 1)=true∧xt.length=1):=hq_ ⟨tq_,hx1⟩;have HYI:Hid (((yt.length:Int) == 1)=false∧¬ yt.length=1):=hq_ ⟨tq_,hy1⟩;have HJN:Hid (¬ az_ (L.map Prod.snd) k jj):=hq_ (by unfold az_;rw [hdy];exact fun h=>hy1 h.2.1);clear htx hty hdx hdy hx1 hy1;go_wp2_with fail
       refine ai_ (w0:=wr) [0,1,2,3,4,5,6,7,8,9,10,11,12,13,14,15,16,17,18,19,20,21,22,23,24,25,26,27,28] [] (fun v=>⟨#[.slice (some ⟨b,o,none⟩) L.length c,undef,u2,u3,.int .i64 ↑k,.int .i64 ↑jj,u6,u7,u8,.int .i64 ↑k,.slice (some ⟨b,o,none⟩) L.length c,.int .i64 ↑L.length,.bool true,u13,u14,.int .i64 ↑k,.int .i64 (↑k+1),.int .i64 ↑jj,.slice (some ⟨b,o,none⟩) L.length c,.int .i64 ↑L.length,.bool true,u21,u22,v 0,v 1,v 2,v 3,v 4,v 5,v 6,v 7,v 8,v 9,v 10,v 11,v 12,v 13,v 14,v 15,v 16,v 17,v 18,v 19,v 20,v 21,v 22,v 23,v 24,v 25,v 26,v 27,v 28,u52,u53,u54,u55,u56,u57,u58,u59,u60,u61,u62,u63,u64,u65,u66,u67,u68,u69,u70,u71,u72,u73,u74,u75,u76,u77,u78,u79,u80,u81,u82,u83,u84,u85,u86,undef],[]⟩) [.slice (some ⟨b,o,none⟩) L.length c,.int .i64 k,.pointer (some ⟨b,o+k,none⟩),.slice xa xt.length xc,.int .i64 xt.length,.bool true,.bool true,.slice (some ⟨b,o,none⟩) L.length c,.int .i64 jj,.pointer (some ⟨b,o+jj,none⟩),.slice ya yt.length yc,.int .i64 yt.length,.bool false,.bool false,.bool false,undef,undef,undef,undef,undef,undef,undef,undef,undef,undef,undef,undef,undef,.bool false] [] (fun _ _ _ _ _=>True) (fun W=>W.cell? ⟨b,o+k,none⟩=some (.slice xa xt.length xc)∧W.cell? ⟨b,o+jj,none⟩=some (.slice ya yt.length yc)) (fun W hb=>⟨Ext.cell hb q3,Ext.cell hb q4⟩) trivial trivial ?steps ?fin (fun j=>match j with|0=>u23|1=>u24|2=>u25|3=>u26|4=>u27|5=>u28|6=>u29|7=>u30|8=>u31|9=>u32|10=>u33|11=>u34|12=>u35|13=>u36|14=>u37|15=>u38|16=>u39|17=>u40|18=>u41|19=>u42|20=>u43|21=>u44|22=>u45|23=>u46|24=>u47|25=>u48|26=>u49|27=>u50|28=>u51|_=>undef)
       case steps=>
        clear q3 q4;refine .c [] [] rfl ?_ (.c [] [] rfl ?_ (.c [0,1] [] rfl ?_ (.c [2] [] rfl ?_ (.c [3] [] rfl ?_ (.c [4] [] rfl ?_ (.c [5] [] rfl ?_ (.c [6] [] rfl ?_ (.c [6] [] rfl ?_ (.c [6,7,8] [] rfl ?_ (.c [6,9] [] rfl ?_ (.c [6,10] [] rfl ?_ (.c [6,11] [] rfl ?_ (.c [6,12] [] rfl ?_ (.c [13] [] rfl ?_ (.c [14] [] rfl ?_ (.c [14] [] rfl ?_ (.c [14,15,16] [] rfl ?_ (.c [14,17] [] rfl ?_ (.c [14,18] [] rfl ?_ (.c [14,19] [] rfl ?_ (.c [14] [] rfl ?_ (.c [14] [] rfl ?_ (.c [14,21,22] [] rfl ?_ (.c [14,23] [] rfl ?_ (.c [14,24] [] rfl ?_ (.c [14,25] [] rfl ?_ (.c [14,20,26] [] rfl ?_ (.c [14,27] [] rfl ?_ (.n)))))))))))))))))))))))))))))
        all_goals try exact stw
        ·rintro v lo hi W hb ⟨s3,s4⟩ _;refine .inl ⟨rfl,fun K hK=>?_⟩;simp only [ov,vat,Nat.reduceBEq,cond_true,cond_false];have hqa:=HXI.out.1;have hqb:=HXI.out.2;go_wp2_with fail
         exact acx (hK W (Below.refl _ _)) (by simp [ov,vat,upd,hqa,hqb])
        ·rintro v lo hi W hb ⟨s3,s4⟩ _;refine .inl ⟨rfl,fun K hK=>?_⟩;simp only [ov,vat,Nat.reduceBEq,cond_true,cond_false];have hqa:=HYI.out.1;have hqb:=HYI.out.2;go_wp2_with fail
         exact acx (hK W (Below.refl _ _)) (by simp [ov,vat,upd,hqa,hqb])
       case fin=>
        rintro v lo hi9 W2 hb-hf hap;have e28:v 28=.bool false:=(hf 28 rfl).2.2.2;clear hf hap;show wpList _ _ _ [] _ _;dsimp only;rw [e28];clear e28;generalize v 0=z0,v 1=z1,v 2=z2,v 3=z3,v 4=z4,v 5=z5,v 6=z6,v 7=z7,v 8=z8,v 9=z9,v 10=z10,v 11=z11,v 12=z12,v 13=z13,v 14=z14,v 15=z15,v 16=z16,v 17=z17,v 18=z18,v 19=z19,v 20=z20,v 21=z21,v 22=z22,v 23=z23,v 24=z24,v 25=z25,v 26=z26,v 27=z27;have HB4:=hq_ (Et HB2.out hb);clear hb;go_wp2_with fail
        go_roundw
        case rel=>exact ⟨jj+1,oq_,oq_,by go_num,hq_ (fun j' h1 h2=>by
         by_cases h3:j'<jj
         ·exact HNR.out j' h1 h3
         ·obtain rfl:j'=jj:=oq_;exact HJN.out),HB4⟩
        case measure=>simp [intOf];omega
     ·have HXI:Hid (((xt.length:Int) == 1)=false∧¬ xt.length=1):=hq_ ⟨tq_,hx1⟩;have HJN:Hid (¬ az_ (L.map Prod.snd) k jj):=hq_ (by unfold az_;rw [hdx];exact fun h=>hx1 h.1);clear htx hty hdx hdy hx1;go_wp2_with fail
      refine ai_ (w0:=wr) [0,1,2,3,4,5,6,7,8,9,10,11,12,13,14,15,16,17,18,19,20,21,22,23,24,25,26,27,28] [] (fun v=>⟨#[.slice (some ⟨b,o,none⟩) L.length c,undef,u2,u3,.int .i64 ↑k,.int .i64 ↑jj,u6,u7,u8,.int .i64 ↑k,.slice (some ⟨b,o,none⟩) L.length c,.int .i64 ↑L.length,.bool true,u13,u14,.int .i64 ↑k,.int .i64 (↑k+1),.int .i64 ↑jj,.slice (some ⟨b,o,none⟩) L.length c,.int .i64 ↑L.length,.bool true,u21,u22,v 0,v 1,v 2,v 3,v 4,v 5,v 6,v 7,v 8,v 9,v 10,v 11,v 12,v 13,v 14,v 15,v 16,v 17,v 18,v 19,v 20,v 21,v 22,v 23,v 24,v 25,v 26,v 27,v 28,u52,u53,u54,u55,u56,u57,u58,u59,u60,u61,u62,u63,u64,u65,u66,u67,u68,u69,u70,u71,u72,u73,u74,u75,u76,u77,u78,u79,u80,u81,u82,u83,u84,u85,u86,undef],[]⟩) [.slice (some ⟨b,o,none⟩) L.length c,.int .i64 k,.pointer (some ⟨b,o+k,none⟩),.slice xa xt.length xc,.int .i64 xt.length,.bool false,.bool false,undef,undef,undef,undef,undef,undef,.bool false,.bool false,undef,undef,undef,undef,undef,undef,undef,undef,undef,undef,undef,undef,undef,.bool false] [] (fun _ _ _ _ _=>True) (fun W=>W.cell? ⟨b,o+k,none⟩=some (.slice xa xt.length xc)∧W.cell? ⟨b,o+jj,none⟩=some (.slice ya yt.length yc)) (fun W hb=>⟨Ext.cell hb q3,Ext.cell hb q4⟩) trivial trivial ?steps ?fin (fun j=>match j with|0=>u23|1=>u24|2=>u25|3=>u26|4=>u27|5=>u28|6=>u29|7=>u30|8=>u31|9=>u32|10=>u33|11=>u34|12=>u35|13=>u36|14=>u37|15=>u38|16=>u39|17=>u40|18=>u41|19=>u42|20=>u43|21=>u44|22=>u45|23=>u46|24=>u47|25=>u48|26=>u49|27=>u50|28=>u51|_=>undef)
      case steps=>
       clear q3 q4;refine .c [] [] rfl ?_ (.c [] [] rfl ?_ (.c [0,1] [] rfl ?_ (.c [2] [] rfl ?_ (.c [3] [] rfl ?_ (.c [4] [] rfl ?_ (.c [5] [] rfl ?_ (.c [6] [] rfl ?_ (.c [6] [] rfl ?_ (.c [6,7,8] [] rfl ?_ (.c [6,9] [] rfl ?_ (.c [6,10] [] rfl ?_ (.c [6,11] [] rfl ?_ (.c [6,12] [] rfl ?_ (.c [13] [] rfl ?_ (.c [14] [] rfl ?_ (.c [14] [] rfl ?_ (.c [14,15,16] [] rfl ?_ (.c [14,17] [] rfl ?_ (.c [14,18] [] rfl ?_ (.c [14,19] [] rfl ?_ (.c [14] [] rfl ?_ (.c [14] [] rfl ?_ (.c [14,21,22] [] rfl ?_ (.c [14,23] [] rfl ?_ (.c [14,24] [] rfl ?_ (.c [14,25] [] rfl ?_ (.c [14,20,26] [] rfl ?_ (.c [14,27] [] rfl ?_ (.n)))))))))))))))))))))))))))))
       all_goals try exact stw
       ·rintro v lo hi W hb ⟨s3,s4⟩ _;refine .inl ⟨rfl,fun K hK=>?_⟩;simp only [ov,vat,Nat.reduceBEq,cond_true,cond_false];have hqa:=HXI.out.1;have hqb:=HXI.out.2;go_wp2_with fail
        exact acx (hK W (Below.refl _ _)) (by simp [ov,vat,upd,hqa,hqb])
      case fin=>
       rintro v lo hi9 W2 hb-hf hap;have e28:v 28=.bool false:=(hf 28 rfl).2.2.2;clear hf hap;show wpList _ _ _ [] _ _;dsimp only;rw [e28];clear e28;generalize v 0=z0,v 1=z1,v 2=z2,v 3=z3,v 4=z4,v 5=z5,v 6=z6,v 7=z7,v 8=z8,v 9=z9,v 10=z10,v 11=z11,v 12=z12,v 13=z13,v 14=z14,v 15=z15,v 16=z16,v 17=z17,v 18=z18,v 19=z19,v 20=z20,v 21=z21,v 22=z22,v 23=z23,v 24=z24,v 25=z25,v 26=z26,v 27=z27;have HB4:=hq_ (Et HB2.out hb);clear hb;go_wp2_with fail
       go_roundw
       case rel=>exact ⟨jj+1,oq_,oq_,by go_num,hq_ (fun j' h1 h2=>by
        by_cases h3:j'<jj
        ·exact HNR.out j' h1 h3
        ·obtain rfl:j'=jj:=oq_;exact HJN.out),HB4⟩
       case measure=>simp [intOf];omega
    ·obtain rfl:jj=L.length:=oq_;go_wp2_with fail
     go_roundw
     case rel=>exact ⟨k+1,oq_,by go_num,hq_ (fun i' j' h1 h2 h3=>by
      by_cases h4:i'<k
      ·exact HNO.out i' j' h4 h2 h3
      ·obtain rfl:i'=k:=oq_;exact HNR.out j' h2 h3),HB2⟩
     case measure=>simp [intOf];omega
  ·obtain rfl:k=L.length:=oq_;go_wp2_with fail
   go_ret2;exact ⟨HBL.out,.inl ⟨fun i j h1 h2=>HNO.out i j (by have:=HLM.out;omega) h1 (by have:=HLM.out;omega),rfl⟩⟩
theorem ir_ (v1 v2:Value) (l1 l2:List Int) (w:World) (h1:Ints w v1 l1) (h2:Ints w v2 l2) :
  Calls Tryz.prog 87 #[v1,v2] w fun e w'=>e=.returned (.bool (decide (l1=l2)))∧Below w.heap.size w w':=by
 have H1:=hq_ h1;have H2:=hq_ h2;obtain ⟨⟨a1,c1,rfl,_,_,_⟩,g4,_⟩:=h1;obtain ⟨⟨a2,c2,rfl,_,_,_⟩,k4,_⟩:=h2
 go_enter Tryz.func87,Tryz.ntmps87
 by_cases hl:l1.length=l2.length
 ·have hlI:(l1.length:Int)=l2.length:=oq_;have HLL:=hq_ hl;have hdf:((l1.length:Int) != (l2.length:Int))=false:=by rw [hlI];simp
  rw [hlI] at hdf;clear hl;go_wp2_with fail
  go_loopw [5] (fun i wr=>∃ k:Nat,k≤l1.length∧i=.int .i64 k∧l1.take k=l2.take k∧Below w.heap.size w wr) (fun i _=>l1.length-(intOf i).toNat)
  case atStart=>exact ⟨0,oq_,rfl,sq_,xE⟩
  case round=>
   obtain ⟨k,hk,rfl,ht,hb⟩:=hrel;have HT:=hq_ ht;clear ht
   by_cases hlt:k<l1.length
   ·have hlt2:k<l2.length:=by have:=HLL.out;omega
    obtain ⟨⟨a1',c1',he1,_,_,g3⟩,_,_⟩:=H1.out.ext hb;obtain ⟨⟨a2',c2',he2,_,_,k3⟩,_,_⟩:=H2.out.ext hb;injection he1 with e1 _ e2
    subst e1;subst e2;injection he2 with e1 _ e2
    subst e1;subst e2;rcases g3 with h|⟨b1,o1,rfl,hcell1⟩
    ·subst h;simp at hlt
    rcases k3 with h|⟨b2,o2,rfl,hcell2⟩
    ·subst h;simp at hlt2
    have HB:=hq_ hb;have hc1:=hcell1 k hlt;have hc2:=hcell2 k hlt2;have HST:=hq_ (s7_ HLL.out hlt HT.out);generalize hx:l1.getD k 0=x at *;generalize hy:l2.getD k 0=y at *;have HX:=hq_ hx;have HY:=hq_ hy;clear hcell1 hcell2 hx hy hb
    by_cases hxy:x=y
    ·have HXY:=hq_ hxy;have hb:(x != y)=false:=by rw [HXY.out];simp
     clear hxy;go_wp2_with fail
     go_quiet (fail)
     go_wp2_with fail
     go_roundw
     case rel=>exact ⟨k+1,oq_,by go_num,HST.out HXY.out,by have hb:=HB.out;exact xE⟩
     case measure=>simp [intOf];omega
    ·have hb:(x != y)=true:=by simp [hxy]
     have hne:l1≠l2:=fun h=>hxy (by rw [<- HX.out,<- HY.out,h]);go_wp2_with fail
     go_quiet (fail)
     go_wp2_with fail
     go_ret;exact ⟨ac_ (by simp [hne]),by have hb:=HB.out;exact xE⟩
   ·have heq:l1=l2:=by
     have h:=HT.out;rw [List.take_of_length_le oq_,List.take_of_length_le (by have:=HLL.out;omega)] at h;exact h
    go_wp2_with fail
    go_ret;exact ⟨ac_ (by simp [heq]),xE⟩
 ·have hlI:¬ (l1.length:Int)=l2.length:=oq_;have hdf:((l1.length:Int) != (l2.length:Int))=true:=by simp [hlI]
  have hne:l1≠l2:=fun h=>hl (by rw [h]);go_wp2_with fail
  go_ret;exact ⟨ac_ (by simp [hne]),xE⟩
theorem f0_ (F G:Nat->Prop) (x y:PV) (w:World) (hx:PVok w F x) (hy:PVok w G y) :
  Calls Tryz.prog 44 #[x.val,y.val] w fun e w'=>e=.returned (.bool (bi_ x.p y.p))∧Below w.heap.size w w':=by
 have H1:=fun W (h:Below w.heap.size w W)=>ir_ x.h y.h x.p.head y.p.head W (hx.is.hd.ext h) (hy.is.hd.ext h);have H2:=fun W (h:Below w.heap.size w W)=>ir_ x.c y.c x.p.cycle y.p.cycle W (hx.is.cy.ext h) (hy.is.cy.ext h);clear hx hy;obtain ⟨xh,xc,xp⟩:=x;obtain ⟨yh,yc,yp⟩:=y;change Calls _ _ #[perV xh xc xp.frm xp.period,perV yh yc yp.frm yp.period] _ fun e w'=>e=.returned (.bool (bi_ xp yp))∧_;change ∀ W,_->Calls _ _ #[xh,yh] W fun e w'=>e=.returned (.bool (decide (xp.head=yp.head)))∧_ at H1;change ∀ W,_->Calls _ _ #[xc,yc] W fun e w'=>e=.returned (.bool (decide (xp.cycle=yp.cycle)))∧_ at H2
 by_cases h1:xp.frm=yp.frm
 ·by_cases h2:xp.period=yp.period
  ·by_cases h3:xp.head=yp.head
   ·rw [decide_eq_true h3] at H1;have e:bi_ xp yp=decide (xp.cycle=yp.cycle):=by unfold bi_;simp [h1,h2,h3]
    rw [e];clear e h3;generalize decide (xp.cycle=yp.cycle)=b at *
    go_enter Tryz.func44,Tryz.ntmps44
    go_wp2_with (go_at_call 87;first|((with_reducible refine (H1 _ xE).mono ?_);rintro e w1 ⟨rfl,hb1⟩;obtain ⟨hc1,hf1⟩:=au_ hb1;(try simp only [World.size_alloc,World.size_drew,af_,World.size_setCell] at hc1 hf1);have hz1:w.heap.size+1<w1.heap.size:=(by have h7:=hb1.size;simp at h7;omega))|((with_reducible refine (H2 _ xE).mono ?_);rintro e w2 ⟨rfl,hb2⟩))
    go_ret;exact ⟨rfl,xE⟩
   ·rw [decide_eq_false h3] at H1;have e:bi_ xp yp=false:=by unfold bi_;simp [h3]
    rw [e];clear e h3
    go_enter Tryz.func44,Tryz.ntmps44
    go_wp2_with (go_at_call 87;first|((with_reducible refine (H1 _ xE).mono ?_);rintro e w1 ⟨rfl,hb1⟩;obtain ⟨hc1,hf1⟩:=au_ hb1;(try simp only [World.size_alloc,World.size_drew,af_,World.size_setCell] at hc1 hf1);have hz1:w.heap.size+1<w1.heap.size:=(by have h7:=hb1.size;simp at h7;omega))|((with_reducible refine (H2 _ xE).mono ?_);rintro e w2 ⟨rfl,hb2⟩))
    go_ret;exact ⟨rfl,xE⟩
  ·have e:bi_ xp yp=false:=by unfold bi_;simp [h2]
   rw [e];clear e
   go_enter Tryz.func44,Tryz.ntmps44
   go_wp2_with fail
   go_ret;exact ⟨rfl,xE⟩
 ·have e:bi_ xp yp=false:=by unfold bi_;simp [h1]
  rw [e];clear e
  go_enter Tryz.func44,Tryz.ntmps44
  go_wp2_with fail
  go_ret;exact ⟨rfl,xE⟩
theorem il_ (F G:Nat->Prop) (v1 v2:Value) (t u:List Per) (w:World) (h1:ab_ w F v1 t) (h2:ab_ w G v2 u) :
  Calls Tryz.prog 91 #[v1,v2] w fun e w'=>e=.returned (.bool (cm_ t u))∧Below w.heap.size w w':=by
 obtain ⟨L,hLt,hL⟩:=h1;obtain ⟨M,hMu,hM⟩:=h2;obtain ⟨a1,c1,rfl,_⟩:=hL.row;obtain ⟨a2,c2,rfl,_⟩:=hM.row;have HL:=hq_ hL;have HM:=hq_ hM;have hl1:=hL.len;have hl2:=hM.len;have ht:t.length=L.length:=by rw [<- hLt,List.length_map]
 have hu:u.length=M.length:=by rw [<- hMu,List.length_map]
 have HT:=hq_ ht;have HU:=hq_ hu;have HLT:=hq_ hLt;have HMU:=hq_ hMu;clear hL hM ht hu hLt hMu
 by_cases hne:L.length=M.length
 ·have HNE:=hq_ hne;rw [<- hne];clear hne hl2
  go_enter Tryz.func91,Tryz.ntmps91
  go_wp2_with fail
  go_loopw [5] (fun i wr=>∃ k:Nat,k≤L.length∧i=.int .i64 k∧Hid (∀ j,j<k->t.getD j default=u.getD j default)∧Hid (Below w.heap.size w wr)) (fun i _=>L.length-(intOf i).toNat)
  case atStart=>exact ⟨0,oq_,rfl,hq_ (by intro j hj;omega),hq_ xE⟩
  case round=>
   obtain ⟨k,hk,rfl,HPRE,HBL⟩:=hrel;have hb:=HBL.out
   by_cases hlt:k<L.length
   ·have hlI:(k:Int)<L.length:=oq_;obtain ⟨b1,o1,x,rfl,hx,hxp,hb1,e0,e1,e2,e3⟩:=(HL.out.keep (a5_.below hb) hb.size).get hlt;obtain ⟨b2,o2,y,rfl,hy,hyp,hb2,g0,g1,g2,g3⟩:=(HM.out.keep (a5_.below hb) hb.size).get (show k<M.length by have:=HNE.out;omega);rw [HLT.out] at hxp;rw [HMU.out] at hyp;have HE:=fun W (h:Below wr.heap.size wr W)=>f0_ F G x y W (hx.keep (a5_.below h)) (hy.keep (a5_.below h));have HXP:=hq_ hxp;have HYP:=hq_ hyp;obtain ⟨xh,xc,xp⟩:=x;obtain ⟨yh,yc,yp⟩:=y;obtain ⟨ax1,nx1,cx1,ax2,nx2,cx2,rfl,rfl⟩:=hx.form;obtain ⟨ay1,ny1,cy1,ay2,ny2,cy2,rfl,rfl⟩:=hy.form;clear hxp hyp hx hy;change ∀ W,_->Calls _ _ #[.agg #[.slice ax1 nx1 cx1,.int .i64 xp.frm,.int .i64 xp.period,.slice ax2 nx2 cx2],.agg #[.slice ay1 ny1 cy1,.int .i64 yp.frm,.int .i64 yp.period,.slice ay2 ny2 cy2]] W (fun e w'=>e=.returned (.bool (bi_ xp yp))∧_) at HE;change Hid (xp=_) at HXP;change Hid (yp=_) at HYP;dsimp only at e0 e1 e2 e3 g0 g1 g2 g3;have HEH:=hq_ HE;clear HE;generalize hq:bi_ xp yp=bq at *;have HQ:=hq_ hq;clear hq;go_upto_region 6 with (fail)
    cases bq
    all_goals
     go_region_held3 (fun w'=>w'.cell? ⟨b1,o1+k*4,none⟩=some (.slice ax1 nx1 cx1)∧w'.cell? ⟨b1,o1+k*4+1,none⟩=some (.int .i64 xp.frm)∧w'.cell? ⟨b1,o1+k*4+2,none⟩=some (.int .i64 xp.period)∧w'.cell? ⟨b1,o1+k*4+3,none⟩=some (.slice ax2 nx2 cx2)∧w'.cell? ⟨b2,o2+k*4,none⟩=some (.slice ay1 ny1 cy1)∧w'.cell? ⟨b2,o2+k*4+1,none⟩=some (.int .i64 yp.frm)∧w'.cell? ⟨b2,o2+k*4+2,none⟩=some (.int .i64 yp.period)∧w'.cell? ⟨b2,o2+k*4+3,none⟩=some (.slice ay2 ny2 cy2)∧Below wr.heap.size wr w') ((go_split_ands;refine ⟨?_,?_,?_,?_,?_,?_,?_,?_,xE⟩ <;> first|assumption|(refine Ext.cell (w:=wr) xE (by assumption))))
      (first|(go_at_call 44;(with_reducible refine (HEH.out _ (by go_split_ands;exact xE)).mono ?_);rintro e u9 ⟨rfl,kz⟩))
    ·go_wp2_with fail
     go_ret;refine ⟨ac_ (cy_ ?_).symm,Et HBL.out (by go_split_ands;exact xE)⟩;rintro rfl;have:=HQ.out;rw [(gr_ _ _).2 (HXP.out.trans HYP.out.symm)] at this;exact absurd this dq_
    ·go_wp2_with fail
     go_roundw
     case rel=>
      refine ⟨k+1,oq_,by go_num,hq_ ?_,hq_ (Et HBL.out (by go_split_ands;exact xE))⟩;intro j hj
      by_cases h:j<k
      ·exact HPRE.out j h
      ·obtain rfl:j=k:=oq_;rw [<- HXP.out,<- HYP.out];exact (gr_ _ _).1 HQ.out
     case measure=>simp [intOf];omega
   ·obtain rfl:k=L.length:=oq_;go_wp2_with fail
    go_ret;refine ⟨ac_ (eq_ ?_).symm,HBL.out⟩;refine List.ext_getElem (by have:=HT.out;have:=HU.out;have:=HNE.out;omega) fun j h1 h2=>?_;have:=HPRE.out j (by have:=HT.out;omega);rw [List.getD_eq_getElem?_getD,List.getD_eq_getElem?_getD,List.getElem?_eq_getElem h1,List.getElem?_eq_getElem h2] at this;exact this
 ·have hneI:¬ (L.length:Int)=M.length:=oq_
  go_enter Tryz.func91,Tryz.ntmps91
  go_wp2_with fail
  go_ret;refine ⟨ac_ (cy_ ?_).symm,xE⟩;rintro rfl;have:=HT.out;have:=HU.out;omega
theorem so_ {l:List (List Per)} (hij:i<j) (hj:j<l.length) (h:az_ l i j) (hv:∀ t∈l,aw_ s t):∀ t∈ct_ l i j,aw_ s t:=fun t ht=>by
 rcases List.mem_or_eq_of_mem_set (List.mem_of_mem_eraseIdx ht) with h2|rfl
 ·exact hv t h2
 ·refine ⟨sq_,fun p hp=>?_,sq_⟩;obtain rfl:=List.mem_singleton.1 hp;exact ((hv _ (aa_ (show i<l.length by omega))).fv _ (aa_ (by rw [h.1];omega))).or ((hv _ (aa_ hj)).fv _ (aa_ (by rw [h.2.1];omega)))
theorem hn_ {l:List (List Per)} (hj:j<l.length):(ct_ l i j).length=l.length-1:=by
 unfold ct_;rw [List.length_eraseIdx_of_lt (by rw [List.length_set];exact hj),List.length_set]
theorem MixR.len_of {F:Nat->Prop} (h:MixR W F v m):lenV v=m.length:=by
 obtain ⟨a,c,rfl⟩:=h.form;rfl
theorem it_.form {F:Nat->Prop} {l:List (List Per)} (h:it_ F l v w e w'):Below w.heap.size w w'∧∃ (v':Value) (b:Bool),e=.returned (.tuple #[v',.bool b])∧((b=false∧v'=v∧cj_ (az_ l) l.length)∨(b=true∧∃ i j,cf_ (az_ l) l.length i j∧MixR w' (fun b=>F b∨w.heap.size≤b) v' (ct_ l i j))):=by
 obtain ⟨h1,⟨h2,rfl⟩|⟨i,j,v',h2,rfl,h3⟩⟩:=h
 ·exact ⟨h1,v,false,rfl,.inl ⟨rfl,rfl,h2⟩⟩
 ·exact ⟨h1,v',true,rfl,.inr ⟨rfl,i,j,h2,h3⟩⟩
structure RNO (n k:Nat) (w:World) (lv ov:Value) (M LO:List (Value × List Per)) (W:World):Prop where
 below:Below w.heap.size w W
 lmix:MixL W (fun b=>w.heap.size<b∧b<n) lv M
 orow:OwnT (fun b=>b≤w.heap.size∨b=n) n W ov LO
 obx:Bxx W n #[ov] 28
 rbx:Bxx W w.heap.size #[.slice none 0 0] 28
 eq:LO.map Prod.snd=ddL [] ((M.map Prod.snd).take k)
 len:LO.length≤k
theorem RNO.ext {n:Nat} {ov:Value} {M LO:List (Value × List Per)} (h:RNO n k w lv ov M LO W) (hb:Below W.heap.size W W'):RNO n k w lv ov M LO W':=
 ⟨Et h.below hb,h.lmix.keep (a5_.below hb) hb.size,h.orow.ext hb,h.obx.below hb,h.rbx.below hb,h.eq,h.len⟩
theorem uk_ {LO:List (Value × List Per)}:LO.any (fun x=>cm_ x.2 t)=true↔t∈LO.map Prod.snd:=by
 rw [List.any_eq_true,List.mem_map];constructor
 ·rintro ⟨x,hx,hs⟩;refine ⟨x,hx,?_⟩
  by_cases he:x.2=t
  ·exact he
  ·rw [cy_ he] at hs;cases hs
 ·rintro ⟨x,hx,he⟩;exact ⟨x,hx,eq_ he⟩
theorem dy_ (s:Int) (F:Nat->Prop) (v:Value) (T:List (List Per)) (w:World) (hm:MixR w F v T) (hT:∀ t∈T,aw_ s t) (hT1:∀ t∈T,t.length≤1000) (hTl:T.length≤100000) :
  Calls Tryz.prog 90 #[v] w (c8_ s T w):=by
 obtain ⟨L,rfl,hL⟩:=hm;obtain ⟨a,c,rfl,hlc,hc9,_⟩:=hL.row.is;have hll:L.length≤100000:=by rwa [List.length_map] at hTl
 have HL:=hq_ hL;have HT:=hq_ hT;have HT1:=hq_ hT1;have HLM:Hid ((L.map Prod.snd).length=L.length):=hq_ (List.length_map _);clear hL hT hT1 hTl;have HO0:Hid (OwnT (fun b=>b≤w.heap.size) w.heap.size ((w.alloc (.cells #[.slice none 0 0] 28)).alloc (.cells #[] 36)) (.slice (some ⟨w.heap.size+1,0,none⟩) 0 0) []):=hq_ (OwnT.of (B:=w.heap.size) (by
  have h:=World.ownsRow_lit (base:=w.heap.size) (e:=36) (size:=1) (w.alloc (.cells #[.slice none 0 0] 28)) #[] 0 sq_ (by unfold maxLen;omega) rfl;simpa using h) (Nat.le_refl _) sq_ (fun g hg=>by simp [Value.ownBlock] at hg;omega) sq_)
 have HR0:Hid (Bxx ((w.alloc (.cells #[.slice none 0 0] 28)).alloc (.cells #[] 36)) w.heap.size #[.slice none 0 0] 28):=hq_ ((Bxx.new w _ _).alloc _)
 go_enter Tryz.func90,Tryz.ntmps90
 go_wp2_with fail
 go_loopw [4,5,6] (fun lv i _ wr=>∃ (k:Nat) (M:List (Value × List Per)),k≤L.length∧i=.int .i64 k∧M.length≤k∧Hid (b0_ ((L.map Prod.snd).take k) (M.map Prod.snd))∧Hid (OwnT (fun b=>b≤w.heap.size) w.heap.size wr lv M)∧Hid (∀ x∈M,aw_ s x.2)∧Hid (Bxx wr w.heap.size #[.slice none 0 0] 28)∧Hid (Below w.heap.size w wr)) (fun _ i _ _=>L.length-(intOf i).toNat)
 case atStart=>exact ⟨0,[],oq_,rfl,sq_,hq_ b0_.nil,HO0,hq_ sq_,HR0,hq_ xE⟩
 case round=>
  obtain ⟨k,M,hk,rfl,hmk,HMA,HO,HVM,HRB,HBL⟩:=hrel;obtain ⟨oa,oc,rfl,-⟩:=HO.out.row.form;clear HO0 HR0
  by_cases hlt:k<L.length
  ·have hlI:(k:Int)<L.length:=oq_;have hb:=HBL.out;obtain ⟨b,o,c9,xa,xn,xc,xt,ha,q3,htx,hdx⟩:=(HL.out.keep (a5_.below hb) hb.size).at hlt;cases ha;obtain ⟨_,_,ha,_⟩:=htx.form;cases ha;have hxm:xt∈L.map Prod.snd:=List.mem_of_getElem? hdx;have hvt:=HT.out xt hxm;have HM:=hq_ (p2_ s F _ xt wr htx hvt.fv (HT1.out xt hxm));have HVT:=hq_ hvt;have HTK:Hid ((L.map Prod.snd).take (k+1)=(L.map Prod.snd).take k ++ [xt]):=hq_ (by rw [List.take_add_one,hdx];rfl);have hzr:=HRB.out.lt;clear hvt htx hxm hdx;go_wp2_with (first|(go_at_call 133;refine HM.out.mono ?_;rintro e w1 ⟨v',u,rfl,hmt,hfv,htr,hb1⟩;obtain ⟨va,vc,rfl,_⟩:=htr.form;have HMT:=hq_ hmt;have HFV:=hq_ hfv;have HTR1:=hq_ htr;have HB1:=hq_ hb1;have hz1:=hb1.size;clear hmt hfv htr hb1)|(go_at_call 80;refine (pb_ _ _ u _ HTR1.out (fun p hp=>(HFV.out p hp).validB)).mono ?_;rintro e w2 ⟨bb,rfl,hbar,hb2⟩;have HBAR:=hq_ hbar;have HB2:=hq_ (Et HB1.out hb2);have HTR2:=hq_ (HTR1.out.ext hb2);have hz2:=HB2.out.size;clear hbar hb2;cases bb)|(at_builtin;(refine er_ rq_ _ _ rq_ (fun b=>b≤w.heap.size) w.heap.size (.slice oa M.length oc) M (.slice va u.length vc,u) rq_ (HO.out.ext (Ea HB2.out _)) ((HTR2.out.ext (Ea (Er w2) _)).mono fun b (hb:wr.heap.size≤b)=>⟨fun (h:b≤w.heap.size)=>oq_,fun e=>by have:=(HO.out.row.row.lt b e).2;omega⟩) _ _ rq_ sq_ (fun h=>by simp at h;omega) oq_ tq_ ?_;intro ga gc w3 ho3 hg3 hb3;have HO3:=hq_ ho3;have HRB3:=hq_ (((HRB.out.below HB2.out).alloc (.cells #[.slice va u.length vc] 36)).grown hg3 (fun e=>HO.out.row.ne _ e.symm (Nat.le_refl _)));have HB3:=hq_ (HBL.out.trans (((Ea HB2.out (.cells #[.slice va u.length vc] 36)).mono oq_).trans hb3));clear ho3 hg3 hb3)))
   ·go_roundw
    case rel=>exact ⟨k+1,M ++ [(.slice va u.length vc,u)],oq_,by go_num,tq_,hq_ (by rw [HTK.out,List.map_append];exact HMA.out.keep1 HMT.out (by have:=HBAR.out;simpa using this)),HO3,hq_ (fun x hx=>by
     rcases List.mem_append.1 hx with hx|hx
     ·exact HVM.out x hx
     ·obtain rfl:=List.mem_singleton.1 hx;exact HVT.out.merged HMT.out HFV.out),HRB3,HB3⟩
    case measure=>simp [intOf];omega
   ·go_roundw
    case rel=>exact ⟨k+1,M,oq_,by go_num,oq_,hq_ (by rw [HTK.out];exact HMA.out.skip1 HMT.out (by have:=HBAR.out;simpa using this)),hq_ (HO.out.ext HB2.out),HVM,hq_ (HRB.out.below HB2.out),hq_ (Et HBL.out HB2.out)⟩
    case measure=>simp [intOf];omega
  ·have HMA2:Hid (b0_ (L.map Prod.snd) (M.map Prod.snd)):=hq_ (by have h:=HMA.out;rwa [List.take_of_length_le (by have:=HLM.out;omega)] at h);have HCUR:Hid (MixR wr (fun b=>w.heap.size<b) (.slice oa M.length oc) (M.map Prod.snd)):=hq_ ⟨M,rfl,HO.out.mix.mono fun b (hb:¬ _)=>oq_⟩;have HCV:Hid (∀ t∈M.map Prod.snd,aw_ s t):=hq_ fun t ht=>by
    obtain ⟨x,hx,rfl⟩:=List.mem_map.1 ht;exact HVM.out x hx
   have hcl:(M.map Prod.snd).length≤100000:=by rw [List.length_map];omega
   clear HMA HO HVM;go_wp2_with fail
   go_loopw [4,7] (fun ov mo wq=>∃ (bm:Bool) (cur:List (List Per)),mo=.bool bm∧Hid (MixR wq (fun b=>w.heap.size<b) ov cur)∧Hid (∀ t∈cur,aw_ s t)∧cur.length≤100000∧Hid (∀ m,ck_ cur m->ck_ (M.map Prod.snd) m)∧Hid (bm=true∨cj_ (az_ cur) cur.length)∧Hid (Bxx wq w.heap.size #[.slice none 0 0] 28)∧Hid (Below w.heap.size w wq)) (fun ov mo _=>lenV ov+(match mo with|.bool true=>1|_=>0))
   case atStart=>exact ⟨true,_,rfl,HCUR,HCV,hcl,hq_ (fun _ h=>h),hq_ (.inl rfl),HRB,HBL⟩
   case round=>
    obtain ⟨bm,cur,rfl,HC,HF,hcl2,HG,HN,HRB2,HB2⟩:=hrel;obtain ⟨Lc,hLc,hTc⟩:=HC.out;obtain ⟨ca,cc,rfl,_⟩:=hTc.row.is;have hcn:cur.length=Lc.length:=by rw [<- hLc,List.length_map]
    cases bm
    ·have HNT:=hq_ (HG.out _ (.done (HN.out.resolve_left sq_)));have HLC:=hq_ hLc;have HF0:=hq_ HF.out;have hzB:=HB2.out.size;have hzR:=HRB2.out.lt;have hlc:Lc.length≤100000:=oq_;have HTC:=hq_ hTc;have hb0:Below wr.heap.size wr (wr.alloc (.cells #[.slice none 0 0] 28)):=Ea (Er wr) _;have HST:Hid (RNO wr.heap.size 0 w (.slice ca Lc.length cc) (.slice none 0 0) Lc [] (wr.alloc (.cells #[.slice none 0 0] 28))):=hq_
      ⟨Et HB2.out hb0,hTc.lt.keep (a5_.below hb0) hb0.size,⟨RowT.nil _ _ _,by simp [Value.ownBlock]⟩,Bxx.new _ _ _,HRB2.out.below hb0,by simp [ddL],sq_⟩
     clear hb0 hLc hTc HC HG HN hcn hcl2 hcl HCUR HCV;go_wp2_with fail
     obtain ⟨n,hn⟩:∃ n,n=wr.heap.size:=⟨_,rfl⟩;rw [<- hn] at HST ⊢;have HNN:=hq_ hn;rw [<- hn] at hzB hzR;clear hn
     go_loopw [9,10,11] (fun i _ _ wq=>∃ (kk:Nat) (oa:Option Addr) (oc:Nat) (LO:List (Value × List Per)),kk≤Lc.length∧i=.int .i64 kk∧Hid (RNO n kk w (.slice ca Lc.length cc) (.slice oa LO.length oc) Lc LO wq)) (fun i _ _ _=>Lc.length-(intOf i).toNat)
     case atStart=>exact ⟨0,none,0,[],oq_,rfl,HST⟩
     case round=>
      obtain ⟨kk,oa,oc,LO,hk,rfl,HO⟩:=hrel;have hlo:=HO.out.len;have hob:=HO.out.obx.lt;have hzw:=HO.out.below.size
      by_cases hlt:kk<Lc.length
      ·have hlI:(kk:Int)<Lc.length:=oq_;have q2:=HO.out.obx.c0;obtain ⟨b,o,c9,ya,yn,yc,yt,ha,q4,hty,hdy⟩:=HO.out.lmix.at hlt;cases ha;obtain ⟨_,_,ha,_⟩:=hty.form;cases ha;have HDD:Hid (ddL [] ((Lc.map Prod.snd).take (kk+1))=dd1 (ddL [] ((Lc.map Prod.snd).take kk)) yt):=hq_ (by rw [List.take_add_one,hdy];exact oc_);have HTY:=hq_ hty;clear hty hdy HST;go_wp2_with fail
       go_loopw [10,11] (fun tw i wq=>∃ q:Nat,q≤LO.length∧i=.int .i64 q∧tw=.bool ((LO.take q).any fun x=>cm_ x.2 yt)∧Hid (Below wr.heap.size wr wq)) (fun _ i _=>LO.length-(intOf i).toNat)
       case atStart=>exact ⟨0,oq_,rfl,rfl,hq_ (Below.refl _ _)⟩
       case round=>
        obtain ⟨q,hq,rfl,rfl,HBI⟩:=hrel;have HOI:=hq_ (HO.out.ext HBI.out);have HTI:=hq_ (HTY.out.ext HBI.out);have r2:=HOI.out.obx.c0;have r4:=Ext.cell HBI.out q4
        by_cases hql:q<LO.length
        ·have hqI:(q:Int)<LO.length:=oq_;obtain ⟨_,_,ha,_,_,hfm⟩:=HOI.out.orow.row.form;cases ha;rcases hfm with h0|⟨g,rfl⟩
         ·omega
         obtain ⟨htx,r3,-⟩:=HOI.out.orow.row.get rfl hql;have HSN:Hid (((LO.take (q+1)).any fun x=>cm_ x.2 yt)=(((LO.take q).any fun x=>cm_ x.2 yt) || cm_ (LO.getD q default).2 yt)):=hq_ (by rw [List.take_succ_eq_append_getElem hql,List.any_append,List.getD_eq_getElem?_getD,List.getElem?_eq_getElem hql];simp);generalize LO.getD q default=X at *;obtain ⟨xv,xt⟩:=X;dsimp only at htx r3 HSN;obtain ⟨xa,xc,rfl,_⟩:=htx.form;have HTX:=hq_ htx;have HBJ:=hq_ HBI.out;clear htx q2 q4;generalize ((LO.take q).any fun x=>cm_ x.2 yt)=tb at *;cases tb
         ·have HSM:=hq_ (fun W (h:Below wr.heap.size wr W)=>il_ _ _ (.slice xa xt.length xc) (.slice ya yt.length yc) xt yt W (HTX.out.ext h) (HTI.out.ext h));generalize cm_ xt yt=sb at *;go_upto_region 19 with (fail)
          go_region_held3 (fun w'=>w'.cell? ⟨n,0,none⟩=some (.slice (some ⟨g,0,none⟩) LO.length oc)∧w'.cell? ⟨g,q,none⟩=some (.slice xa xt.length xc)∧w'.cell? ⟨b,o+kk,none⟩=some (.slice ya yt.length yc)∧Below wr.heap.size wr w') ((go_split_ands;refine ⟨?_,?_,?_,xE⟩ <;> first|assumption|(refine Ext.cell (w:=wr) xE (by assumption))))
           (first|(go_at_call 91;(with_reducible refine (HSM.out _ (by go_split_ands;exact xE)).mono ?_);rintro e u9 ⟨rfl,kz⟩))
          go_wp2_with fail
          go_roundw
          case rel=>exact ⟨q+1,oq_,by go_num,by rw [HSN.out];rfl,hq_ (HBI.out.trans ((show Below wr.heap.size wr u9 by go_split_ands;exact xE).mono HBI.out.size))⟩
          case measure=>simp [intOf];omega
         ·go_wp2_with fail
          go_quiet (fail)
          go_wp2_with fail
          go_roundw
          case rel=>exact ⟨q+1,oq_,by go_num,by rw [HSN.out];rfl,hq_ (Below.drewN HBI.out _)⟩
          case measure=>simp [intOf];omega
        ·obtain rfl:q=LO.length:=oq_;rw [List.take_length];have HAS:Hid ((LO.any fun x=>cm_ x.2 yt)=true↔yt∈LO.map Prod.snd):=hq_ uk_;generalize (LO.any fun x=>cm_ x.2 yt)=tb at *;cases tb
         ·go_upto_region 21 with (fail)
          refine ai_ (w0:=wr) [0,1,2,3,4,5,6] [7,8,9] (fun v=>⟨#[.slice a L.length c,undef,.pointer (some ⟨w.heap.size,0,none⟩),.int .i64 0,.slice (some ⟨b,o,none⟩) Lc.length cc,.int .i64 ↑k,u6,.bool false,.pointer (some ⟨n,0,none⟩),.int .i64 ↑kk,.bool false,.int .i64 ↑LO.length,.slice (some ⟨w.heap.size+1,0,none⟩) 0 0,.int .i64 ↑k,.slice a L.length c,.int .i64 ↑L.length,.bool false,u17,u18,u19,u20,u21,u22,u23,u24,u25,u26,u27,u28,u29,u30,.bool false,u32,u33,u34,u35,u36,.agg #[.slice none 0 0],.int .i64 ↑kk,.slice (some ⟨b,o,none⟩) Lc.length cc,.int .i64 ↑Lc.length,.bool true,u42,u43,.int .i64 ↑LO.length,.pointer (some ⟨n,0,none⟩),.slice oa LO.length oc,.int .i64 ↑LO.length,.bool false,u49,u50,u51,u52,u53,u54,u55,u56,u57,u58,u59,u60,u61,u62,u63,.bool false,.bool true,v 0,v 1,v 2,v 3,v 4,v 5,v 6,u73,u74,undef,undef,undef,undef,undef],[]⟩) [.pointer (some ⟨n,0,none⟩),.slice oa LO.length oc,.slice (some ⟨b,o,none⟩) Lc.length cc,.int .i64 kk,.pointer (some ⟨b,o+kk,none⟩),.slice ya yt.length yc,undef] [6] (fun i v lo hi W=>match i with|6=>v 6=.slice (some ⟨lo 6,0,none⟩) 1 1∧lo 6<hi 6∧Bxx W (lo 6) #[.slice ya yt.length yc] 36|_=>True) (fun W=>W.cell? ⟨n,0,none⟩=some (.slice oa LO.length oc)∧W.cell? ⟨b,o+kk,none⟩=some (.slice ya yt.length yc)) (fun W hb=>⟨Ext.cell hb r2,Ext.cell hb r4⟩) ?stab ?loc ?steps ?fin (fun j=>match j with|0=>u66|1=>u67|2=>u68|3=>u69|4=>u70|5=>u71|6=>u72|_=>undef)
          case stab=>
           refine ⟨?_,trivial⟩
           ·intro v lo hi W W' h hb;exact ⟨h.1,h.2.1,h.2.2.below hb⟩
          case loc=>
           refine ⟨?_,trivial⟩
           ·intro v v' lo lo' hi hi' W hag h;have q:=hag 6 (.inl rfl)
            (try dsimp only at h ⊢)
            simp only [q.1,q.2.1,q.2.2] at h;exact h
          case steps=>
           refine .c [] [] rfl ?_ (.c [0] [] rfl ?_ (.c [] [] rfl ?_ (.c [] [] rfl ?_ (.c [2,3] [] rfl ?_ (.c [4] [] rfl ?_ (.c [5] [] rfl ?_ (.n)))))))
           all_goals try exact stw
           ·rintro v lo hi W hb ⟨g0,g1⟩ _;refine .inl ⟨rfl,fun K hK=>?_⟩;simp only [ov,vat,Nat.reduceBEq,cond_true,cond_false];go_wp2_with fail
            exact acx (hK (.slice (some ⟨W.heap.size,0,none⟩) 1 1) _ (Ea (Er _) _) ⟨rfl,sq_,Bxx.new _ _ _⟩) (by simp [ov,vat,upd])
          case fin=>
           rintro v lo hi9 W2 hb ⟨g0,g1⟩ hf hap;show wpList _ _ _ [_,_,_] _ _;have e1:v 1=.slice oa LO.length oc:=(hf 1 rfl).2.2.2;obtain ⟨l6,-,h6,e6,lt6,hbx6⟩:=hf 6 rfl;have hnew:=(hbx6.cells 0).1;clear hf hap g0 g1;dsimp only;rw [e1,e6];clear e1 e6;generalize lo 6=bn at *;generalize hi9 6=h6v at *;generalize v 0=z0,v 1=z1,v 2=z2,v 3=z3,v 4=z4,v 5=z5;have ho2:=HOI.out.ext hb;have HO2:=hq_ ho2;have hnz:=ho2.obx.lt;refine er_ rq_ _ _ rq_ (fun b=>b≤w.heap.size∨b=n) n (.slice oa LO.length oc) LO (.slice ya yt.length yc,yt) rq_ ho2.orow ((HTI.out.ext hb).mono fun b hb=>⟨fun h=>by have h1:=hb.1;have h2:=hb.2;omega,fun e=>by have:=ho2.orow.own b e;have:=hb.2;omega⟩) _ _ rq_ hnew (by intro h;have:=ho2.rbx.lt;omega) oq_ oq_ ?_;intro ga gc w6 hr6 hg6 hb6;have hob6:=ho2.obx.grown hg6 (fun e=>ho2.orow.row.ne _ e.symm (.inr rfl));have hrb6:=ho2.rbx.grown hg6 (fun e=>ho2.orow.row.ne _ e.symm (.inl (Nat.le_refl _)));have p1:=(hob6.cells 0).1;have p2:=(hob6.cells 0).2;have HR6:=hq_ hr6;have HB6:=hq_ hb6;have HOB6:=hq_ hob6;have HRB6:=hq_ hrb6;clear ho2 hr6 hg6 hb6 hob6 hrb6 hbx6 hnew;go_wp2_with fail
           go_roundw
           case rel=>
            have hbn:Below n W2 (w6.setCell ⟨n,0,none⟩ (.slice ga (LO.length+1) gc)):=HB6.out.setCell (p:=⟨n,0,none⟩) (Nat.le_refl _) _;refine ⟨kk+1,ga,gc,LO ++ [(.slice ya yt.length yc,yt)],oq_,by go_num,hq_ ?_⟩;rw [show (LO ++ [(Value.slice ya yt.length yc,yt)]).length=LO.length+1 by simp];refine ⟨HO2.out.below.trans (hbn.mono oq_),HO2.out.lmix.keep (fun b hb _=>hbn.block b hb.2) hbn.size,⟨HR6.out.row.box (World.grownBy.set' ⟨rfl,rfl,rfl,Nat.le_refl _,fun _ _ _=>rfl⟩ _) (.inr rfl),HR6.out.own⟩,a4_ 0 _ HOB6.out,Bxx.setNe HRB6.out _ oq_,?_,tq_⟩;rw [List.map_append,HO.out.eq,HDD.out];exact (g5_ (by rw [<- HO.out.eq];have:=HAS.out;simpa using this)).symm
           case measure=>simp [intOf];omega
         ·go_wp2_with fail
          go_roundw
          case rel=>exact ⟨kk+1,oa,oc,LO,oq_,by go_num,hq_ { HOI.out with eq:=(by rw [HDD.out,nv_ (by rw [<- HO.out.eq];exact HAS.out.1 rfl)];exact HO.out.eq),len:=by omega }⟩
          case measure=>simp [intOf];omega
      ·obtain rfl:kk=Lc.length:=oq_;have HMV:=hq_ (cb_ _ (.slice oa LO.length oc) (LO.map Prod.snd) wr ⟨LO,rfl,HO.out.orow.mix⟩);have heq:LO.map Prod.snd=ddL [] (Lc.map Prod.snd):=by rw [HO.out.eq,List.take_of_length_le sq_]
       have HNM:Hid (bf_ (L.map Prod.snd) (LO.map Prod.snd)):=hq_ ⟨_,_,HMA2.out,HNT.out,by rw [heq,HLC.out]⟩;have HVV:Hid (∀ t∈LO.map Prod.snd,aw_ s t):=hq_ fun t ht=>by
        rw [heq,lc_] at ht;rcases ht with ht|ht
        ·simp at ht
        ·rw [HLC.out] at ht;exact HF0.out t ht
       have q2:=HO.out.obx.c0;clear heq HST;go_wp2_with (go_at_call 17;refine HMV.out.mono ?_;rintro e w7 ⟨rfl,hb7⟩;have HO7:=hq_ (HO.out.ext hb7);clear hb7;have s1:=HO7.out.obx.c0;have s2:=(HO7.out.rbx.cells 0).1;have s3:=(HO7.out.rbx.cells 0).2;cases hval:bj_ (LO.map Prod.snd))
       ·have hcc:=Bxx.c0 (w:=w7.setCell ⟨w.heap.size,0,none⟩ (.slice none 0 0)) (a4_ 0 (.slice none 0 0) HO7.out.rbx);exact bodyPost_ret (v:=.tuple #[.agg #[.slice none 0 0],.int .i64 2]) (by simp [results,Tryz.results90,go_sem,hcc]) rfl ⟨.slice none 0 0,LO.map Prod.snd,HNM.out,HVV.out,HO7.out.below.setCell (p:=⟨w.heap.size,0,none⟩) (Nat.le_refl _) _,.inr ⟨hval,rfl⟩⟩
       ·have hcc:=Bxx.c0 (w:=w7.setCell ⟨w.heap.size,0,none⟩ (.slice oa LO.length oc)) (a4_ 0 (.slice oa LO.length oc) HO7.out.rbx);refine bodyPost_ret (v:=.tuple #[.agg #[.slice oa LO.length oc],.int .i64 0]) (by simp [results,Tryz.results90,go_sem,hcc]) rfl ⟨.slice oa LO.length oc,LO.map Prod.snd,HNM.out,HVV.out,HO7.out.below.setCell (p:=⟨w.heap.size,0,none⟩) (Nat.le_refl _) _,.inl ⟨hval,rfl,LO,rfl,?_⟩⟩;exact (HO7.out.orow.mix.keep (a5_.grown (g:=w.heap.size) (World.grownBy.set' ⟨rfl,rfl,rfl,Nat.le_refl _,fun _ _ _=>rfl⟩ _) (fun h=>h (.inl (Nat.le_refl _)))) (by rw [World.size_setCell];exact Nat.le_refl _)).mono fun b (hb:¬ _)=>oq_
    ·have HJON:=hq_ (ra_ s (fun b=>w.heap.size<b) (.slice ca Lc.length cc) Lc wr hTc (fun x hx=>HF.out _ (by rw [<- hLc];exact List.mem_map_of_mem hx)) oq_);have HLC:=hq_ hLc;have HCN:=hq_ hcn;clear hLc hTc hcn;go_wp2_with (go_at_call 134;refine HJON.out.mono ?_;intro e w5 hr;obtain ⟨hb5,v',bb,rfl,hst⟩:=hr.form;have HST:=hq_ hst;have HB5:=hq_ hb5;clear hr hst hb5)
     go_roundw
     case rel=>
      rcases HST.out with ⟨rfl,rfl,hno⟩|⟨rfl,i,j,hfp,ht'⟩
      ·rw [HLC.out] at hno;exact ⟨false,cur,rfl,hq_ (HC.out.ext HB5.out),HF,hcl2,HG,hq_ (.inr hno),hq_ (HRB2.out.below HB5.out),hq_ (Et HB2.out HB5.out)⟩
      ·rw [HLC.out] at hfp ht';have hm:=hn_ (i:=i) hfp.lim;exact ⟨true,ct_ cur i j,rfl,hq_ (ht'.mono fun b hb=>hb.elim id fun h=>by have:=HRB2.out.lt;omega),hq_ (so_ hfp.lt hfp.lim hfp.is HF.out),oq_,hq_ (fun u hu=>HG.out u (.step hfp hu)),hq_ (.inl rfl),hq_ (HRB2.out.below HB5.out),hq_ (Et HB2.out HB5.out)⟩
     case measure=>
      rcases HST.out with ⟨rfl,rfl,hno⟩|⟨rfl,i,j,hfp,ht'⟩
      ·simp [lenV]
      ·rw [HLC.out] at hfp ht';have hm:=hn_ (i:=i) hfp.lim;have h:=ht'.len_of;have h0:=HCN.out;have h1:=hfp.lim;have hc:lenV (.slice ca Lc.length cc)=Lc.length:=rfl;simp only [h,hc,hm];omega
end Go.Proofs.YthjnojbeimchdaaGreat
namespace Kal
theorem xq_ (h:ax_ F (tmem t) f d true):CapL F (tmem t) f d:=by
 have:=CapL.of_next h;rwa [if_pos rfl] at this
theorem xs_ (h:ax_ F (tmem t) f 0 false):CapL F (tmem t) f (F+1):=by
 have:=CapL.of_next h;rwa [if_neg sq_] at this
theorem yn_ {m:Int} (hw:∀ p∈t,p.WF) (hg:∀ m c,ax_ F (tmem t) (max f (ba_ t)) m c->ax_ F (tmem t) f m c) (h:CapL F (ClsS t 0 1) (max f (ba_ t)) m):CapL F (tmem t) f m:=by
 have h1:=(h.congr (T:=tmem t) fun x hx=>(ri_ hw oq_).symm).next;have h2:=CapL.of_next (hg _ _ h1);have hl:=h.le
 by_cases hm:m≤F
 ·rwa [if_pos (by simpa using hm),if_neg oq_] at h2
 ·rw [if_neg (by simpa using hm)] at h2;obtain rfl:m=F+1:=oq_;exact h2
theorem ye_ {S:Int->Prop} (h0:∀ x,S x->0≤x) (h:CapL F S f n):CapL F S (max f 0) n:=by
 rcases h with ⟨h1,h2,h3,h4⟩|⟨h1,h2⟩
 ·have:=h0 n h3;exact .inl ⟨oq_,h2,h3,fun x a c=>h4 x oq_ c⟩
 ·exact .inr ⟨h1,fun x a c=>h2 x oq_ c⟩
theorem yp_ {L:List (List Per)} (h:∀ t∈L,t≠[]) (hx:mmem L x):0≤x:=by
 obtain ⟨t,ht,hm⟩:=hx;cases t with
 | nil=>exact absurd rfl (h [] ht)
 | cons p r=>exact (hm p sq_).1
theorem xl_ {L:List (List Per)} (h:CapL F (mmem (L.take k)) f n) (ht:L[k]? = some t) (g:CapL F (tmem t) f d):CapL F (mmem (L.take (k+1))) f (min n d):=by
 rw [List.take_add_one,ht];exact (h.union g).congr fun x _=>sy_
theorem xt_ {L:List (List Per)} (h:CapL F (mmem (L.take k)) f n) (ht:L[k]? = some t) (g:CapL F (tmem t) f (F+1)):CapL F (mmem (L.take (k+1))) f n:=by
 have:=xl_ h ht g;rwa [Int.min_eq_left h.le] at this
theorem xu_ (a:Int) (t:List Per) (p:Per):c6_ a (t ++ [p])=max (c6_ a t) p.frm:=by unfold c6_;rw [List.foldl_append];rfl
theorem yk_ (h:t[k]? = some p):c6_ a (t.take (k+1))=max (c6_ a (t.take k)) p.frm:=by
 rw [List.take_add_one,h];exact xu_ _ _ _
theorem y8_ {b:Int}:∀ {a:Int},max b (c6_ a t)=c6_ (max b a) t:=by
 induction t with
 | nil=>intro a;rfl
 | cons p t ih=>
  intro a;show max b (c6_ (max a p.frm) t)=c6_ (max (max b a) p.frm) t;rw [ih,show max b (max a p.frm)=max (max b a) p.frm by omega]
theorem yh_ {L:List (List Per)} (h:CapL F (mmem L) f n):(F<n->ax_ F (mmem L) f 0 false)∧(¬ F<n->ax_ F (mmem L) f n true):=by
 refine ⟨fun hc=>?_,fun hc=>?_⟩
 ·have:=h.next;rwa [if_pos hc,decide_eq_false oq_] at this
 ·have:=h.next;rwa [if_neg hc,decide_eq_true oq_] at this
end Kal
namespace Go.Proofs.YthjnojbeimchdaaGreat
open Go.RowKit Go.Maps Kal
theorem tz_ (a m:Int) (w:World) (ha:0≤a) (ha1:a≤9007199254740992) (h2:2≤m) (hm:m≤4294967295) (hg:Int.gcd a m=1) :
  Calls Tryz.prog 176 #[.int .i64 a,.int .i64 m] w fun e w'=>∃ r,e=.returned (.int .i64 r)∧xf_ a m r∧∃ n,w'=w.drewN n:=by
 have HS:=hq_ (InvS.start ha h2 hg);have r0:=Int.emod_nonneg a (show m≠0 by omega);have r1:=Int.emod_lt_of_pos a (show 0<m by omega);clear hg
 go_enter Tryz.func176,Tryz.ntmps176
 go_wp2_with fail
 repeat (go_quiet (fail);go_wp2_with fail)
 go_loopw [5,6,7,8] (fun vx vy vu vv wr=>∃ x y u v U V:Int,vx=.int .i64 x∧vy=.int .i64 y∧vu=.int .i64 u∧vv=.int .i64 v∧InvS a m x y u v U V∧∃ n,wr=w.drewN n) (fun vx _ _ _ _=>(intOf vx).toNat)
 case atStart=>exact ⟨_,_,_,_,_,_,rfl,rfl,rfl,rfl,HS.out,0,rfl⟩
 case round=>
  obtain ⟨x,y,u,v,U,V,rfl,rfl,rfl,rfl,hE,n,rfl⟩:=hrel;have x1:=hE.x1;have xy:=hE.xy;have ym:=hE.ym
  by_cases hz:1<x
  ·obtain ⟨hE2,h1,h2',h3,h4,h5,h6,h7,h8⟩:=hE.step hz;have y1:=hE2.x1;have y2:=hE2.xy;have HE:=hq_ hE2;clear hE hE2;go_wp2_with fail
   repeat (go_quiet (fail);go_wp2_with fail)
   go_roundw
   case rel=>exact ⟨_,_,_,_,_,_,rfl,rfl,rfl,rfl,HE.out,_,rfl⟩
   case measure=>simp [intOf];omega
  ·obtain ⟨h1,h2',h3,h4,h5,h6⟩:=hE.fin hz h2;have u0:=Int.emod_nonneg u (show m≠0 by omega);have u1:=Int.emod_lt_of_pos u (show 0<m by omega);have H3:=hq_ h3;have H6:=hq_ h6;clear h3 h6 hE;go_wp2_with fail
   repeat (go_quiet (fail);go_wp2_with fail)
   go_ret;exact ⟨_,rfl,⟨by rw [H3.out];exact u0,by rw [H3.out];exact u1,by rw [H3.out];exact H6.out⟩,n,rfl⟩
theorem te_ (at_ step r P:Int) (w:World) (h0:0≤at_) (h1:at_<step) (r0:0≤r) (r1:r<P) (hs:step≤27720) (hp:P≤27720) :
  Calls Tryz.prog 143 #[.agg #[.int .i64 at_,.int .i64 step],.int .i64 r,.int .i64 P] w fun e w'=>∃ a s b,e=.returned (.tuple #[.agg #[.int .i64 a,.int .i64 s],.bool b])∧cp_ at_ step r P a s b∧Below w.heap.size w w':=by
 have s1:1≤step:=oq_;have p1:1≤P:=oq_;have hg:=bn_ (b:=P) s1;have hg2:=cs_ (a:=step) p1;have HG:=fun W=>g6_ step P W s1 oq_ p1 oq_;have HNO:=fun h=>hq_ (pv_ (at_:=at_) (step:=step) (r:=r) (P:=P) h);have HALL:=fun h hn=>hq_ (uh_ (at_:=at_) (step:=step) (r:=r) (P:=P) s1 h0 h1 p1 h hn);have HONE:=fun inv h hi=>hq_ (u9_ (at_:=at_) (step:=step) (r:=r) (P:=P) (inv:=inv) s1 h0 h1 p1 rfl rfl h hi);have hcop:=w0_ (a:=step) (b:=P) s1;have hdl:((Int.gcd step P:Nat):Int)∣step:=Int.gcd_dvd_left ..;have hdr:((Int.gcd step P:Nat):Int)∣P:=Int.gcd_dvd_right ..;generalize ((Int.gcd step P:Nat):Int)=g at *;have htm:(r-at_).tmod g=0↔(r-at_) % g=0:=by
  constructor
  ·exact fun h=>Int.emod_eq_zero_of_dvd (Int.dvd_of_tmod_eq_zero h)
  ·exact fun h=>Int.tmod_eq_zero_of_dvd (Int.dvd_of_emod_eq_zero h)
 by_cases hd:(r-at_) % g=0
 ·have hT:=htm.2 hd;have hn1:1≤P / g:=(Int.le_ediv_iff_mul_le oq_).2 oq_;have hn2:P / g≤P:=Int.ediv_le_self _ oq_;have htn:P.tdiv g=P / g:=Int.tdiv_eq_ediv_of_dvd hdr
  by_cases hn:P / g=1
  ·have HA:=HALL hd hn;rw [hn] at htn;clear HNO HALL HONE hd hn hn1 hn2 hcop htm hdl hdr
   go_enter Tryz.func143,Tryz.ntmps143
   go_wp2_with (go_at_call 77;(refine (HG _).mono ?_;rintro e w1 ⟨rfl,nq,rfl⟩))
   exact bodyPost_ret (v:=.tuple #[.agg #[.int .i64 at_,.int .i64 step],.bool true]) (by simp [results,Tryz.results143,go_sem]) rfl ⟨_,_,_,rfl,HA.out,xE⟩
  ·have HO:=fun inv hi=>HONE inv hd hi;have htd:(r-at_).tdiv g=(r-at_) / g:=Int.tdiv_eq_ediv_of_dvd (Int.dvd_of_emod_eq_zero hd);have hqb:=kg_ (x:=r-at_) (B:=27720) hg.1 oq_ oq_ oq_;have hsg:step.tdiv g=step / g:=Int.tdiv_eq_ediv_of_dvd hdl;have hs1:1≤step / g:=(Int.le_ediv_iff_mul_le oq_).2 oq_;have hs2:step / g≤step:=Int.ediv_le_self _ oq_;generalize P / g=n at *;generalize step / g=sg at *;generalize (r-at_) / g=q0 at *;have hn3:2≤n:=oq_;have t1:=Int.tmod_lt_of_pos q0 (show 0<n by omega);have t2:=Int.lt_tmod_of_pos q0 (show 0<n by omega);have t3:q0.tmod n % n=q0 % n:=bp_ ⟨-(q0.tdiv n),by have:=Int.mul_tdiv_add_tmod q0 n;rw [Int.mul_neg];omega⟩;have t4:=Int.emod_nonneg q0 (show n≠0 by omega);have t5:=Int.emod_lt_of_pos q0 (show 0<n by omega);have HINV:=fun W=>tz_ sg n W oq_ oq_ hn3 oq_ hcop;obtain ⟨t0,ht0⟩:∃ t0,q0.tmod n=t0:=⟨_,rfl⟩;rw [ht0] at t1 t2 t3;generalize q0 % n=wn at *;have hbn:-27720≤t0+n:=oq_;have hlb:0≤step*n∧step*n≤768398400:=⟨Int.mul_nonneg oq_ oq_,Int.mul_le_mul (show step≤27720 from hs) (show n≤27720 by omega) oq_ oq_⟩;clear HNO HALL HONE hd hn hn1 hcop htm hdl hdr
   go_enter Tryz.func143,Tryz.ntmps143
   go_wp2_with (first|(go_at_call 77;(refine (HG _).mono ?_;rintro e w1 ⟨rfl,nq,rfl⟩))|(go_at_call 176;(refine (HINV _).mono ?_;rintro e w2 ⟨inv,rfl,hinv,nq2,rfl⟩;have i0:=hinv.1;have i1:=hinv.2.1;have HI:=hq_ (HO inv hinv.2.2);have hp:0≤wn*inv∧wn*inv≤768398400:=⟨Int.mul_nonneg oq_ oq_,Int.mul_le_mul (show wn≤27720 by omega) (show inv≤27720 by omega) oq_ oq_⟩;have hk0:=Int.emod_nonneg (wn*inv) (show n≠0 by omega);have hk1:=Int.emod_lt_of_pos (wn*inv) (show 0<n by omega);have hq:0≤(wn*inv % n)*step∧(wn*inv % n)*step≤768398400:=⟨Int.mul_nonneg oq_ oq_,Int.mul_le_mul (show wn*inv % n≤27720 by omega) (show step≤27720 from hs) oq_ oq_⟩;clear hinv))|(go_at_call 175;first
     | ((with_reducible refine (f9_ wn inv _ oq_ oq_ oq_ oq_).mono ?_);rintro e w3 ⟨rfl,rfl⟩)
     | ((with_reducible refine (f9_ (wn*inv % n) step _ oq_ oq_ oq_ oq_).mono ?_);rintro e w3 ⟨rfl,rfl⟩)
     | ((with_reducible refine (f9_ step n _ oq_ oq_ oq_ oq_).mono ?_);rintro e w3 ⟨rfl,rfl⟩))|(go_at_call 177;(refine (jm_ _ _ _ hp.1 oq_ oq_ oq_).mono ?_;rintro e w4 ⟨rfl,nq3,rfl⟩)))
   exact bodyPost_ret (v:=.tuple #[.agg #[.int .i64 (at_+wn*inv % n*step),.int .i64 (step*n)],.bool true]) (by simp [results,Tryz.results143,go_sem]) rfl ⟨_,_,_,rfl,HI.out.1,xE⟩
 ·have hT:¬ (r-at_).tmod g=0:=fun h=>hd (htm.1 h);have HN:=HNO hd;clear HNO HALL HONE hd hcop htm hdl hdr
  go_enter Tryz.func143,Tryz.ntmps143
  go_wp2_with (go_at_call 77;(refine (HG _).mono ?_;rintro e w1 ⟨rfl,nq,rfl⟩))
  exact bodyPost_ret (v:=.tuple #[.agg #[.int .i64 0,.int .i64 0],.bool false]) (by simp [results,Tryz.results143,go_sem]) rfl ⟨_,_,_,rfl,HN.out,xE⟩
theorem us_ (at_ step r P:Int) (h0:0≤at_) (h1:at_<step) (r0:0≤r) (r1:r<P) (hs:step≤27720) (hp:P≤27720):∃ a s b,cp_ at_ step r P a s b∧∀ w,
  Calls Tryz.prog 143 #[.agg #[.int .i64 at_,.int .i64 step],.int .i64 r,.int .i64 P] w fun e w'=>e=.returned (.tuple #[.agg #[.int .i64 a,.int .i64 s],.bool b])∧Below w.heap.size w w':=by
 obtain ⟨a,s,b,hm⟩:=tu_ (at_:=at_) (r:=r) (show 1≤step by omega) (show 1≤P by omega);refine ⟨a,s,b,hm,fun w=>(te_ at_ step r P w h0 h1 r0 r1 hs hp).mono ?_⟩;rintro e w' ⟨a',s',b',rfl,hm',hb⟩;obtain ⟨rfl,rfl,rfl⟩:=hm.unique oq_ oq_ hm';exact ⟨rfl,hb⟩
end Go.Proofs.YthjnojbeimchdaaGreat
end
namespace Go.Proofs.YthjnojbeimchdaaGreat
open Go.RowKit Go.Maps Kal
structure LB (w0:World) (b1 b2 b3 b4 b5:Nat):Prop where
 h4:w0.heap.size≤b4
 h5:w0.heap.size≤b5
 n14:b1≠b4
 n15:b1≠b5
 n24:b2≠b4
 n25:b2≠b5
 n34:b3≠b4
 n35:b3≠b5
 n45:b4≠b5
structure LS (w0:World) (b1 b2 b3 b4 b5:Nat) (v:Value) (f l:Int) (fb:Bool) (W:World):Prop where
 below:Below w0.heap.size w0 W
 c1:Bxx W b1 #[v] 36
 c2:Bxx W b2 #[.func (.func 142) #[] #[.pointer (some ⟨b1,0,none⟩),.pointer (some ⟨b2,0,none⟩),.pointer (some ⟨b3,0,none⟩),.pointer (some ⟨b4,0,none⟩),.pointer (some ⟨b5,0,none⟩)]] 130
 c3:Bxx W b3 #[.int .i64 f] 3
 c4:Bxx W b4 #[.int .i64 l] 3
 c5:Bxx W b5 #[.bool fb] 4
section
variable {w0 W W':World} {b1 b2 b3 b4 b5:Nat} {v:Value} {f l l':Int} {fb:Bool}
theorem LS.ext (h:LS w0 b1 b2 b3 b4 b5 v f l fb W) (hb:Below W.heap.size W W'):LS w0 b1 b2 b3 b4 b5 v f l fb W':=
 ⟨Et h.below hb,h.c1.below hb,h.c2.below hb,h.c3.below hb,h.c4.below hb,h.c5.below hb⟩
theorem LS.put (h:LS w0 b1 b2 b3 b4 b5 v f l fb W) (hb:LB w0 b1 b2 b3 b4 b5):LS w0 b1 b2 b3 b4 b5 v f l' true ((W.setCell ⟨b4,0,none⟩ (.int .i64 l')).setCell ⟨b5,0,none⟩ (.bool true)):=
 ⟨(
  h.below.setCell (p:=⟨b4,0,none⟩) hb.h4 _).setCell (p:=⟨b5,0,none⟩) hb.h5 _,
  (h.c1.setNe _ hb.n14).setNe _ hb.n15,(h.c2.setNe _ hb.n24).setNe _ hb.n25,(h.c3.setNe _ hb.n34).setNe _ hb.n35,
  Bxx.setNe (a4_ 0 _ h.c4) _ hb.n45,a4_ 0 _ (h.c5.setNe _ hb.n45.symm)⟩
end
theorem lf_ {W:World} {b:Nat} {x y x' y':Value} {t:TypeId} (h:Bxx W b #[x,y] t):Bxx ((W.setCell ⟨b,0,none⟩ x').setCell ⟨b,1,none⟩ y') b #[x',y'] t:=by
 have h1:=a4_ 1 y' (a4_ 0 x' h);simpa [Bxx] using h1
theorem iv_ {B b:Nat} {w W:World} (hb:Below B w W) (h:B≤b) (x y:Value):Below B w ((W.setCell ⟨b,0,none⟩ x).setCell ⟨b,1,none⟩ y):=
 (hb.setCell (p:=⟨b,0,none⟩) h _).setCell (p:=⟨b,1,none⟩) h _
def LRes (w0:World) (b1 b2 b3 b4 b5:Nat) (v:Value) (f:Int) (S:Int->Prop) (w:World) (e:Ending) (w':World):Prop:=
 ∃ l fb,e=.returned (.tuple #[])∧LS w0 b1 b2 b3 b4 b5 v f l fb w'∧a5_ (fun b=>b≠b4∧b≠b5) w w'∧w.heap.size≤w'.heap.size∧cn_ FarI S f l fb
theorem ol_ {W W':World} {b4 b5:Nat} (v4 v5:Value) (hb:Below W.heap.size W W'):a5_ (fun b=>b≠b4∧b≠b5) W ((W'.setCell ⟨b4,0,none⟩ v4).setCell ⟨b5,0,none⟩ v5):=fun b h hl=>
 ((Below.heap_setCell _ ⟨b5,0,none⟩ v5 b h.2).trans (Below.heap_setCell _ ⟨b4,0,none⟩ v4 b h.1)).trans (hb.block b hl)
theorem p9_ (s:Int) (w0:World) (b1 b2 b3 b4 b5:Nat) (hB:LB w0 b1 b2 b3 b4 b5) (v:Value) (L:List PV) (hL:be_ w0 (fun b=>b<w0.heap.size) v L) (hv:∀ p∈L.map PV.p,FV s p) (f:Int) (f0:0≤f) (f1:f≤1152921504606846976) :
  ∀ (n i:Nat) (at_ step l:Int) (fb:Bool) (S:Int->Prop) (w:World),i+n=L.length->0≤at_->at_<step->step∣27720->LS w0 b1 b2 b3 b4 b5 v f l fb w->cn_ FarI S f l fb->
   Calls Tryz.prog 142 #[.int .i64 i,.agg #[.int .i64 at_,.int .i64 step],.pointer (some ⟨b1,0,none⟩),.pointer (some ⟨b2,0,none⟩),.pointer (some ⟨b3,0,none⟩),.pointer (some ⟨b4,0,none⟩),.pointer (some ⟨b5,0,none⟩)] w
    (LRes w0 b1 b2 b3 b4 b5 v f (fun x=>S x∨ClsS ((L.map PV.p).drop i) at_ step x) w):=by
 intro n
 induction n with
 | zero=>
  intro i at_ step l fb S w hi h0 h1 hd hs hbest;have hl1:=hL.len;obtain rfl:i=L.length:=oq_;obtain ⟨a1,c1,rfl,hx1,hx2,_⟩:=hL.row.is;have s1:step≤27720:=Int.le_of_dvd dq_ hd;have s0:0<step:=oq_;have q1:=(hs.c1.alloc (.cells #[.int .i64 at_,.int .i64 step] 132)).c0;have q3:=(hs.c3.alloc (.cells #[.int .i64 at_,.int .i64 step] 132)).c0;have q4:=((hs.c4.alloc (.cells #[.int .i64 at_,.int .i64 step] 132)).cells 0);have q5:=((hs.c5.alloc (.cells #[.int .i64 at_,.int .i64 step] 132)).cells 0);have q6:=((Bxx.setNe (i:=0) (hs.c5.alloc (.cells #[.int .i64 at_,.int .i64 step] 132)) (.int .i64 at_) hB.n45.symm).cells 0);have hle:l≤1152921504606846976:=hbest.le;have hl0:-9223372036854775808≤l:=by
   rcases hbest with ⟨_,h,_⟩|⟨_,h,_⟩
   ·omega
   ·rw [h];decide
  have HLF:=hq_ (hbest.leaf (at_:=at_) (show 1≤step by omega) h0 h1 f0);have HS:=hq_ hs;have HBS:=hq_ hbest;clear hs hbest hi
  by_cases hlt:at_<f
  ·have T0:0≤f-at_+step-1:=oq_;have hup:upTo f at_ step=at_+(f-at_+step-1) / step*step:=if_pos hlt;have e:=Int.emod_add_mul_ediv (f-at_+step-1) step;have e0:=Int.emod_nonneg (f-at_+step-1) (show step≠0 by omega);have e1:=Int.emod_lt_of_pos (f-at_+step-1) s0;rw [Int.mul_comm step] at e;have q0:0≤(f-at_+step-1) / step:=Int.ediv_nonneg T0 oq_;have q9:(f-at_+step-1) / step≤f-at_+step-1:=Int.ediv_le_self _ T0;have htd:(f-at_+step-1).tdiv step=(f-at_+step-1) / step:=Int.tdiv_eq_ediv_of_nonneg T0;generalize (f-at_+step-1) / step=q at *;have q3':=(HS.out.c3.alloc (.cells #[.int .i64 (at_+q*step),.int .i64 step] 132)).c0;have q4':=((HS.out.c4.alloc (.cells #[.int .i64 (at_+q*step),.int .i64 step] 132)).cells 0);have q5':=((HS.out.c5.alloc (.cells #[.int .i64 (at_+q*step),.int .i64 step] 132)).cells 0);have q6':=((Bxx.setNe (i:=0) (HS.out.c5.alloc (.cells #[.int .i64 (at_+q*step),.int .i64 step] 132)) (.int .i64 (at_+q*step)) hB.n45.symm).cells 0);rw [hup] at HLF;have hmu:0≤q*step∧q*step≤f-at_+step-1:=⟨Int.mul_nonneg q0 oq_,oq_⟩
   go_enter Tryz.func142,Tryz.ntmps142
   go_wp2_with fail
   go_region
   all_goals go_wp2_with fail
   ·refine ⟨rfl,.tuple #[],by simp [results,Tryz.results142,go_sem],at_+q*step,true,rfl,((HS.out.ext (Ea (Er _) _)).put hB).ext (Ed (Er _)),ol_ _ _ (Ea (Er w) _),sq_,?_⟩;refine (HLF.out.1 (by assumption)).congr fun x hx=>?_;rw [List.drop_of_length_le sq_,hm_]
   ·refine ⟨rfl,.tuple #[],by simp [results,Tryz.results142,go_sem],l,fb,rfl,(HS.out.ext (Ea (Er _) _)).ext (Ed (Er _)),a5_.below (Ed (Ea (Er w) _)),sq_,?_⟩;refine (HLF.out.2 oq_).congr fun x hx=>?_;rw [List.drop_of_length_le sq_,hm_]
  ·have hup:upTo f at_ step=at_:=if_neg hlt;rw [hup] at HLF
   go_enter Tryz.func142,Tryz.ntmps142
   go_wp2_with fail
   ·refine ⟨rfl,.tuple #[],by simp [results,Tryz.results142,go_sem],at_,true,rfl,(HS.out.ext (Ea (Er _) _)).put hB,ol_ _ _ (Ea (Er w) _),sq_,?_⟩;refine (HLF.out.1 (by assumption)).congr fun x hx=>?_;rw [List.drop_of_length_le sq_,hm_]
   ·refine ⟨rfl,.tuple #[],by simp [results,Tryz.results142,go_sem],l,fb,rfl,HS.out.ext (Ea (Er _) _),a5_.below (Ea (Er w) _),sq_,?_⟩;refine (HLF.out.2 oq_).congr fun x hx=>?_;rw [List.drop_of_length_le sq_,hm_]
 | succ n ih=>
  intro ii at_ step l fb S w hi h0 h1 hd hs hbest;have IH:=hq_ ih;clear ih;have hl1:=hL.len;have hli:ii<L.length:=oq_;have hiI:(ii:Int)<L.length:=oq_;have s1:step≤27720:=Int.le_of_dvd dq_ hd;obtain ⟨a1,c1,rfl,hx1,hx2,_⟩:=hL.row.is;obtain ⟨tb,o1,x,ha,hx,hxp,hbt,e0,e1,e2,e3⟩:=hL.get hli;subst ha;have hfv:FV s x.p:=hv _ (by rw [hxp];exact aa_ (by simpa using hli));have hdr:(L.map PV.p).drop ii=x.p :: (L.map PV.p).drop (ii+1):=by
   rw [List.drop_eq_getElem_cons (by simpa using hli),hxp,List.getD_eq_getElem?_getD,List.getElem?_eq_getElem (by simpa using hli)];rfl
  obtain ⟨xh,xc,xp⟩:=x;obtain ⟨ax1,nx1,cx1,ax2,nx2,cx2,rfl,rfl⟩:=hx.form;dsimp only at e0 e1 e2 e3 hfv hdr;have hxi:=hx.is.cy;dsimp only at hxi;obtain ⟨⟨ah,ch,he,_,_,hcl⟩,hln,hrg⟩:=hxi;injection he with he1 he2 he3
  subst he1;subst he2;subst he3;have hw:=hfv.fac.wf;have f0':=hw.frm;have f1':=hfv.far;have p0:=hw.per;have p1:=hfv.fac.per;have HD:Hid (step∣27720):=hq_ hd;have HFV:=hq_ hfv;have HDR:=hq_ hdr;have HCY:=hq_ hw.cyc;have HWF:=hq_ hw;have HHI:=hq_ hi;have HX:=hq_ hx;have HHL:=hq_ hL;have HHV:=hq_ hv;have HCL:=hq_ hcl;have hbel:=hq_ hs.below;have q1:=(hs.c1.alloc (.cells #[.int .i64 at_,.int .i64 step] 132)).c0;have E0:=ag_ (Ext.cell hs.below e0) (.cells #[.int .i64 at_,.int .i64 step] 132);have E1:=ag_ (Ext.cell hs.below e1) (.cells #[.int .i64 at_,.int .i64 step] 132);have E2:=ag_ (Ext.cell hs.below e2) (.cells #[.int .i64 at_,.int .i64 step] 132);have E3:=ag_ (Ext.cell hs.below e3) (.cells #[.int .i64 at_,.int .i64 step] 132);have EE0:=hq_ e0;have EE1:=hq_ e1;have EE2:=hq_ e2;have EE3:=hq_ e3;have HS:=hq_ hs;have HBS:=hq_ hbest;have hl45:Hid (w.heap.size≠b4∧w.heap.size≠b5):=hq_ ⟨by have:=hs.c4.lt;omega,by have:=hs.c5.lt;omega⟩;clear hs hbest hi e0 e1 e2 e3 hcl hrg hx hfv hdr hL hv hw hxp
  go_enter Tryz.func142,Tryz.ntmps142
  go_wp2_with fail
  obtain ⟨bw,hbw⟩:∃ bw,bw=w.heap.size:=⟨_,rfl⟩;rw [<- hbw];have HBW:=hq_ hbw;have HN:Hid (bw≠b4∧bw≠b5):=hq_ (by rw [hbw];exact hl45.out);clear q1 E0 E1 E2 E3 hbw hl45
  go_loopw [10,11,12,23] (fun _ _ _ idx wr=>∃ (j:Nat) (l':Int) (fb':Bool),j≤xp.cycle.length∧idx=.int .i64 j∧Hid (LS w0 b1 b2 b3 b4 b5 (.slice (some ⟨tb,o1,none⟩) L.length c1) f l' fb' wr)∧Hid (Bxx wr bw #[.int .i64 at_,.int .i64 step] 132)∧Hid (a5_ (fun b=>b≠b4∧b≠b5) w wr)∧Hid (w.heap.size≤wr.heap.size)∧Hid (cn_ FarI (fs_ S xp ((L.map PV.p).drop (ii+1)) at_ step j) f l' fb')) (fun _ _ _ idx _=>xp.cycle.length-(intOf idx).toNat)
  case atStart=>exact ⟨0,l,fb,oq_,rfl,hq_ (HS.out.ext (Ea (Er _) _)),hq_ (Bxx.at HBW.out),hq_ (a5_.below (Ea (Er w) _)),hq_ sq_,hq_ (HBS.out.congr fun x _=>qw_)⟩
  case round=>
   obtain ⟨j,l',fb',hj,rfl,HLS,HBX,HKE,HSZ,HBE⟩:=hrel
   by_cases hjl:j<xp.cycle.length
   ·have hjI:(j:Int)<xp.cycle.length:=oq_;rcases HCL.out with h9|⟨bc,oc,rfl,hcc⟩
    ·rw [h9] at hjl;simp at hjl
    have c0:=Ext.cell HLS.out.below (hcc j hjl);have hcr:=HCY.out.2 _ (aa_ (d:=0) hjl);have HSU:=fun a2 s2 bb x (h:cp_ at_ step (resP xp (xp.cycle.getD j 0)) xp.period a2 s2 bb)=>qq_ (S:=S) (t:=(L.map PV.p).drop (ii+1)) (x:=x) HWF.out hjl oq_ h0 h1 h;generalize xp.cycle.getD j 0=c at *;have hr:=h2_ HWF.out c;obtain ⟨a2,s2,bb,hM,HME⟩:=us_ at_ step (resP xp c) xp.period h0 h1 hr.1 hr.2 s1 p1;have HRES:=fun W=>ia_ (.slice ax1 nx1 cx1) (.slice (some ⟨bc,oc,none⟩) xp.cycle.length cx2) xp c W f0' oq_ p0 oq_ hcr.1 oq_;have HSUC:=hq_ (fun x=>HSU a2 s2 bb x hM);have HM:=hq_ hM;have q1:=HLS.out.c1.c0;have q2:=HLS.out.c2.c0;have m0:wr.cell? ⟨bw,0,none⟩=some (.int .i64 at_):=(HBX.out.cells 0).1;have m1:wr.cell? ⟨bw,1,none⟩=some (.int .i64 step):=(HBX.out.cells 1).1;have E0:=Ext.cell HLS.out.below EE0.out;have E1:=Ext.cell HLS.out.below EE1.out;have E2:=Ext.cell HLS.out.below EE2.out;have E3:=Ext.cell HLS.out.below EE3.out;generalize resP xp c=r at *;clear hcc HSU hM;go_wp2_with fail
    have HLB:=hq_ q2;clear q2;refine Code.wp_mono (Q:=fun e a' W'=>e=.normal∧(∃ (nb:Nat) (z27 z28 z29 z30 z31 z32 z33 z34 z35 z36 z37 z38 z39 z40 z41 z42:Value),a'=⟨#[.int .i64 ↑ii,.agg #[.int .i64 at_,.int .i64 step],.pointer (some ⟨b1,0,none⟩),.pointer (some ⟨b2,0,none⟩),.pointer (some ⟨b3,0,none⟩),.pointer (some ⟨b4,0,none⟩),.pointer (some ⟨b5,0,none⟩),undef,.pointer (some ⟨bw,0,none⟩),undef,.int .i64 c,.pointer (some ⟨nb,0,none⟩),.bool bb,.int .i64 ↑ii,.slice (some ⟨tb,o1,none⟩) L.length c1,.int .i64 ↑L.length,.bool true,.slice (some ⟨tb,o1,none⟩) L.length c1,.int .i64 ↑ii,.pointer (some ⟨tb,o1+ii*4,none⟩),.pointer (some ⟨tb,o1+ii*4+3,none⟩),.slice (some ⟨bc,oc,none⟩) xp.cycle.length cx2,.int .i64 ↑xp.cycle.length,.int .i64 ↑j,.bool true,.pointer (some ⟨bc,oc+j,none⟩),.int .i64 c,z27,z28,z29,z30,z31,z32,z33,z34,z35,z36,z37,z38,z39,z40,z41,z42,u43,u44,u45,u46,u47,u48,u49,undef,undef,undef,undef,undef,undef,undef,undef,undef,undef,undef,undef,undef,undef,undef,undef,undef,undef,undef,undef,undef,undef,undef,undef,undef,undef,undef,undef,undef,undef,undef,undef,undef,undef,undef,undef,undef,undef,undef],[]⟩∧Bxx W' nb #[.int .i64 a2,.int .i64 s2] 132)∧Below wr.heap.size wr W') ?imp ?reg
    case reg=>
     refine cx_ (w0:=wr) [0,1,2,3,4,5,6,7,8,9,10,11,12,13,14,15,16] 15 17 [18] (fun v=>⟨#[.int .i64 ↑ii,.agg #[.int .i64 at_,.int .i64 step],.pointer (some ⟨b1,0,none⟩),.pointer (some ⟨b2,0,none⟩),.pointer (some ⟨b3,0,none⟩),.pointer (some ⟨b4,0,none⟩),.pointer (some ⟨b5,0,none⟩),undef,.pointer (some ⟨bw,0,none⟩),undef,.int .i64 c,v 16,u12,.int .i64 ↑ii,.slice (some ⟨tb,o1,none⟩) L.length c1,.int .i64 ↑L.length,.bool true,.slice (some ⟨tb,o1,none⟩) L.length c1,.int .i64 ↑ii,.pointer (some ⟨tb,o1+ii*4,none⟩),.pointer (some ⟨tb,o1+ii*4+3,none⟩),.slice (some ⟨bc,oc,none⟩) xp.cycle.length cx2,.int .i64 ↑xp.cycle.length,.int .i64 ↑j,.bool true,.pointer (some ⟨bc,oc+j,none⟩),.int .i64 c,v 13,v 0,v 1,v 2,v 3,v 4,v 5,v 6,v 7,v 8,v 9,v 10,v 11,v 12,v 14,v 15,u43,u44,u45,u46,u47,u48,u49,undef,undef,undef,undef,undef,undef,undef,undef,undef,undef,undef,undef,undef,undef,undef,undef,undef,undef,undef,undef,undef,undef,undef,undef,undef,undef,undef,undef,undef,undef,undef,undef,undef,undef,undef,undef,undef,undef,undef],[]⟩) [.agg #[.int .i64 at_,.int .i64 step],.slice (some ⟨tb,o1,none⟩) L.length c1,.int .i64 ii,.pointer (some ⟨tb,o1+ii*4,none⟩),perV (.slice ax1 nx1 cx1) (.slice (some ⟨bc,oc,none⟩) xp.cycle.length cx2) xp.frm xp.period,.int .i64 c,.int .i64 r,.slice (some ⟨tb,o1,none⟩) L.length c1,.int .i64 ii,.pointer (some ⟨tb,o1+ii*4,none⟩),.pointer (some ⟨tb,o1+ii*4+2,none⟩),.int .i64 xp.period,.tuple #[.agg #[.int .i64 a2,.int .i64 s2],.bool bb],.tuple #[.agg #[.int .i64 a2,.int .i64 s2],.bool bb],.agg #[.int .i64 a2,.int .i64 s2],.bool bb,undef] [16] (fun i v lo hi W=>match i with|16=>v 16=.pointer (some ⟨lo 16,0,none⟩)∧lo 16<hi 16∧Bxx W (lo 16) #[.int .i64 0,.int .i64 0] 132|_=>True) (fun W=>(W.cell? ⟨bw,0,none⟩=some (.int .i64 at_)∧W.cell? ⟨bw,1,none⟩=some (.int .i64 step))∧W.cell? ⟨b1,0,none⟩=some (.slice (some ⟨tb,o1,none⟩) L.length c1)∧W.cell? ⟨tb,o1+ii*4,none⟩=some (.slice ax1 nx1 cx1)∧W.cell? ⟨tb,o1+ii*4+1,none⟩=some (.int .i64 xp.frm)∧W.cell? ⟨tb,o1+ii*4+2,none⟩=some (.int .i64 xp.period)∧W.cell? ⟨tb,o1+ii*4+3,none⟩=some (.slice (some ⟨bc,oc,none⟩) xp.cycle.length cx2)) (fun W hb=>⟨⟨cux m0 hb,cux m1 hb⟩,cux q1 hb,cux E0 hb,cux E1 hb,cux E2 hb,cux E3 hb⟩) ?stab ?loc ?steps ?fin ?fin2 (fun j=>match j with|0=>u28|1=>u29|2=>u30|3=>u31|4=>u32|5=>u33|6=>u34|7=>u35|8=>u36|9=>u37|10=>u38|11=>u39|12=>u40|13=>u27|14=>u41|15=>u42|16=>u11|_=>undef)
     case stab=>
      refine ⟨?_,trivial⟩
      ·intro v lo hi W W' h hb;exact ⟨h.1,h.2.1,h.2.2.below hb⟩
     case loc=>
      refine ⟨?_,trivial⟩
      ·intro v v' lo lo' hi hi' W hag h;have q:=hag 16 (.inl rfl)
       (try dsimp only at h ⊢)
       simp only [q.1,q.2.1,q.2.2] at h;exact h
     case steps=>
      clear m0 m1 q1 E0 E1 E2 E3;refine .c [] [] rfl ?_ (.c [] [] rfl ?_ (.c [] [] rfl ?_ (.c [1,2] [] rfl ?_ (.c [3] [] rfl ?_ (.c [] [] rfl ?_ (.c [4,5] [] rfl ?_ (.c [] [] rfl ?_ (.c [] [] rfl ?_ (.c [7,8] [] rfl ?_ (.c [9] [] rfl ?_ (.c [10] [] rfl ?_ (.c [0,6,11] [] rfl ?_ (.c [12] [] rfl ?_ (.c [13] [] rfl ?_ (.c [13] [] rfl ?_ (.c [] [] rfl ?_ (.n)))))))))))))))))
      all_goals try exact stl
      ·rintro v lo hi W hb ⟨⟨n0,n1⟩,nv,g0,g1,g2,g3⟩ _;refine ⟨rfl,fun K hK=>?_⟩;simp only [ov,vat,Nat.reduceBEq,cond_true,cond_false];go_wp2_with (go_at_call 121;refine (HRES _).mono ?_;rintro e w9 ⟨rfl,hb9⟩)
       exact acx (hK w9 hb9) (by simp [ov,vat,upd])
      ·rintro v lo hi W hb ⟨⟨n0,n1⟩,nv,g0,g1,g2,g3⟩ _;refine ⟨rfl,fun K hK=>?_⟩;simp only [ov,vat,Nat.reduceBEq,cond_true,cond_false];go_wp2_with (go_at_call 143;refine (HME _).mono ?_;rintro e w9 ⟨rfl,hb9⟩)
       exact acx (hK w9 hb9) (by simp [ov,vat,upd])
      ·rintro v lo hi W hb ⟨⟨n0,n1⟩,nv,g0,g1,g2,g3⟩ _;refine ⟨rfl,fun K hK=>?_⟩;simp only [ov,vat,Nat.reduceBEq,cond_true,cond_false];go_wp2_with fail
       exact hK (.pointer (some ⟨W.heap.size,0,none⟩)) _ (Ea (Er _) _) ⟨rfl,sq_,Bxx.new _ _ _⟩
     case fin=>
      rintro v lo hi9 W2 hb ⟨⟨n0,n1⟩,nv,g0,g1,g2,g3⟩ hf hap;show wpList _ _ _ [_,_] _ _;obtain ⟨l16,-,h16,e16,lt16,hbox⟩:=hf 16 rfl;have e14:v 14=.agg #[.int .i64 a2,.int .i64 s2]:=(hf 14 rfl).2.2.2;have e15:v 15=.bool bb:=(hf 15 rfl).2.2.2;clear hf hap;dsimp only;rw [e14,e15,e16];clear e14 e15 e16;generalize lo 16=nb at *;have b0:=hbox.cells 0;have b1':=hbox.cells 1;have HBO:=hq_ hbox;have HBB:=hq_ hb;clear n0 n1 nv g0 g1 g2 g3 hbox hb;generalize v 0=y0,v 1=y1,v 2=y2,v 3=y3,v 4=y4,v 5=y5,v 6=y6,v 7=y7,v 8=y8,v 9=y9,v 10=y10,v 11=y11,v 12=y12,v 13=y13;go_wp2_with fail
      exact ⟨lf_ HBO.out,iv_ HBB.out l16 _ _⟩
     case fin2=>
      rintro v lo hi9 W2 hb ⟨⟨n0,n1⟩,nv,g0,g1,g2,g3⟩ hf hap;obtain ⟨l16,-,h16,e16,lt16,hbox⟩:=hf 16 rfl dq_;have e14:v 14=.agg #[.int .i64 a2,.int .i64 s2]:=(hf 14 rfl dq_).2.2.2;have e13:v 13=.tuple #[.agg #[.int .i64 a2,.int .i64 s2],.bool bb]:=(hf 13 rfl dq_).2.2.2;clear hf hap;dsimp only;rw [e13,e14,e16];clear e13 e14 e16;generalize lo 16=nb at *;have b0:=hbox.cells 0;have b1':=hbox.cells 1;have HBO:=hq_ hbox;have HBB:=hq_ hb;clear n0 n1 nv g0 g1 g2 g3 hbox hb;generalize v 0=y0,v 1=y1,v 2=y2,v 3=y3,v 4=y4,v 5=y5,v 6=y6,v 7=y7,v 8=y8,v 9=y9,v 10=y10,v 11=y11,v 12=y12,v 15=y15;constructor
      ·show wpList _ _ _ [_,_,_] _ _;go_wp2_with fail
       exact ⟨lf_ HBO.out,iv_ HBB.out l16 _ _⟩
      ·show wpList _ _ _ [_,_,_] _ _;go_wp2_with fail
       exact ⟨lf_ HBO.out,iv_ HBB.out l16 _ _⟩
    case imp=>
     rintro e a' W6 ⟨rfl,⟨nb,z27,z28,z29,z30,z31,z32,z33,z34,z35,z36,z37,z38,z39,z40,z41,z42,rfl,hbox⟩,hb6⟩;have HM6:=hq_ (HLS.out.ext hb6);have q2:=HM6.out.c2.c0;have n0:=(hbox.cells 0).1;have n1:=(hbox.cells 1).1;have HB6:=hq_ hb6;clear hb6 hbox;cases bb
     ·go_wp2_with fail
      go_roundw
      case rel=>exact ⟨j+1,l',fb',oq_,by go_num,HM6,hq_ (HBX.out.below HB6.out),hq_ (HKE.out.trans (a5_.below HB6.out) HSZ.out),hq_ (Nat.le_trans HSZ.out HB6.out.size),hq_ (HBE.out.congr fun x _=>by rw [HSUC.out];simp)⟩
      case measure=>simp [intOf];omega
     ·obtain ⟨t0,t1,t2⟩:=HM.out.bounds oq_ p0 HD.out HFV.out.fac.dvd;have T2:=hq_ t2;clear t2;have HIH:=IH.out (ii+1) a2 s2 l' fb' (fs_ S xp ((L.map PV.p).drop (ii+1)) at_ step j) W6 (by have:=HHI.out;omega) t0 t1 T2.out HM6.out HBE.out;rw [show ((ii+1:Nat):Int)=(ii:Int)+1 from by omega] at HIH;go_wp2_with (go_at_call 142;(refine HIH.mono ?_;rintro e w7 ⟨l2,fb2,rfl,hs7,hk7,hz7,hbest7⟩;have HS7:=hq_ hs7;have HK7:=hq_ hk7;have HZ7:=hq_ hz7;have HBE7:=hq_ hbest7;clear hs7 hk7 hz7 hbest7 HIH))
      go_roundw
      case rel=>
       have hk67:a5_ (fun b=>b≠b4∧b≠b5) w w7:=(HKE.out.trans (a5_.below HB6.out) HSZ.out).trans HK7.out (Nat.le_trans HSZ.out HB6.out.size);have hw4:=hB.h4;have hw5:=hB.h5;have hbwz:=HBX.out.lt;have hs6:=HB6.out.size;refine ⟨j+1,l2,fb2,oq_,by go_num,HS7,hq_ ?_,hq_ hk67,hq_ (Nat.le_trans (Nat.le_trans HSZ.out HB6.out.size) HZ7.out),hq_ (HBE7.out.congr fun x _=>by rw [HSUC.out];simp)⟩;exact (HK7.out bw ⟨HN.out.1,HN.out.2⟩ oq_).trans (HBX.out.below HB6.out)
      case measure=>simp [intOf];omega
   ·obtain rfl:j=xp.cycle.length:=oq_;go_wp2_with fail
    refine ⟨rfl,.tuple #[],by simp [results,Tryz.results142,go_sem],l',fb',rfl,HLS.out,HKE.out,HSZ.out,?_⟩;refine HBE.out.congr fun x hx=>?_;rw [tw_,HDR.out]
end Go.Proofs.YthjnojbeimchdaaGreat
section
variable {ops:Array Go.Oper}{b:Bool}{e:Go.Ending}{F P a d f n r s x:Int}{m:List (List Kal.Per)}{rest:List Go.Oper}{L:List Go.Proofs.YthjnojbeimchdaaGreat.PV}{t:List Kal.Per}{cs xs:List Go.Value}{B c i j k:Nat}{o:Go.Oper}{row:Option Nat}{p q:Kal.Per}{lv v:Go.Value}{W W' W1 w w':Go.World}
namespace Go.Proofs.YthjnojbeimchdaaGreat
open Go.RowKit Go.Maps Kal
theorem uc_ (s:Int) (F:Nat->Prop) (v:Value) (t:List Per) (f:Int) (w:World) (ht:ab_ w F v t) (hv:∀ p∈t,FV s p) (f0:0≤f) (f1:f≤1152921504606846976) :
  Calls Tryz.prog 102 #[v,.int .i64 f] w fun e w'=>∃ n b,e=.returned (.tuple #[.int .i64 n,.bool b])∧ax_ FarI (tmem t) (max f (ba_ t)) n b∧Below w.heap.size w w':=by
 have HST:=fun W (h:Below w.heap.size w W)=>sz_ F v t W (ht.ext h);obtain ⟨L,rfl,hL⟩:=ht;obtain ⟨a1,c1,rfl,hx1,hx2,_⟩:=hL.row.is;have hs0:=(fg_ (t:=L.map PV.p)).1;have hs1:ba_ (L.map PV.p)≤1099511627776:=lv_ dq_ fun p hp=>(hv p hp).far;have HLN:=hq_ (fun l b (h:cn_ FarI (fun x=>False∨ClsS (L.map PV.p) 0 1 x) (max f (ba_ (L.map PV.p))) l b)=>t8_ (F:=FarI) (fun p hp=>(hv p hp).fac.wf) (show ba_ (L.map PV.p)≤max f (ba_ (L.map PV.p)) by omega) h);have HCH:=hq_ (fun w0 b1 b2 b3 b4 b5 hB hLL f f0 f1=>p9_ s w0 b1 b2 b3 b4 b5 hB (.slice a1 L.length c1) L hLL hv f f0 f1);have hl1:=hL.len;have HTL:=hq_ (hL.lt.mono fun b hb=>hb.2);clear hL hv;generalize ba_ (L.map PV.p)=st at *
 go_enter Tryz.func102,Tryz.ntmps102
 go_wp2_with fail
 refine Code.wp_mono (Q:=fun e a' W'=>e=.normal∧(∃ z9 z10 z11 z12:Value,a'=⟨#[.slice a1 L.length c1,.int .i64 f,.pointer (some ⟨w.heap.size,0,none⟩),.pointer (some ⟨w.heap.size+1,0,none⟩),.int .i64 0,.bool false,undef,undef,undef,z9,z10,z11,z12,undef,undef,undef,undef,undef,undef,undef],[]⟩)∧Bxx W' w.heap.size #[.slice a1 L.length c1] 36∧Bxx W' (w.heap.size+1) #[.int .i64 (max f st)] 3∧Below w.heap.size w W') ?imp ?reg
 case reg=>
  have HB0:Hid (Bxx ((w.alloc (.cells #[.slice a1 L.length c1] 36)).alloc (.cells #[.int .i64 f] 3)) w.heap.size #[.slice a1 L.length c1] 36):=hq_ ((Bxx.new w _ _).alloc _);have HB1:Hid (Bxx ((w.alloc (.cells #[.slice a1 L.length c1] 36)).alloc (.cells #[.int .i64 f] 3)) (w.heap.size+1) #[.int .i64 f] 3):=hq_ (Bxx.at sq_);have key:f<st∨st≤f:=Int.lt_or_le f st;rcases key with hlt|hgt
  all_goals
   go_region_with (go_at_call 141;(refine (HST _ xE).mono ?_;rintro e w1 ⟨rfl,hb1⟩;have b0:Bxx w1 w.heap.size #[.slice a1 L.length c1] 36:=HB0.out.drewB.below hb1;have b1:Bxx w1 (w.heap.size+1) #[.int .i64 f] 3:=HB1.out.drewB.below hb1;have x0:=b0.c0;have x1:=b1.cells 0;have hW1:Below w.heap.size w w1:=Et (Ed (Ea (Ea (Er w) _) _)) hb1))
   all_goals exact ⟨rfl,⟨_,_,_,_,rfl⟩,b0.setNe _ oq_,a4_ 0 _ b1,hW1.setCell (p:=⟨w.heap.size+1,0,none⟩) (by show w.heap.size≤w.heap.size+1;omega) _⟩
 case imp=>
  rintro e a' W2 ⟨rfl,⟨z9,z10,z11,z12,rfl⟩,h0,h1,h2⟩;have hl1':=h1.lt;have hLB:LB w w.heap.size (W2.heap.size+1+1) (w.heap.size+1) W2.heap.size (W2.heap.size+1):=⟨oq_,oq_,oq_,oq_,oq_,oq_,oq_,oq_,oq_⟩;go_wp2_with (go_at_call 142;(refine (HCH.out w w.heap.size (W2.heap.size+1+1) (w.heap.size+1) W2.heap.size (W2.heap.size+1) hLB HTL.out (max f st) oq_ oq_ L.length 0 0 1 1152921504606846976 false (fun _=>False) _ oq_ oq_ oq_ ⟨27720,dq_⟩ ⟨Ea (Ea (Ea h2 _) _) _,((h0.alloc _).alloc _).alloc _,xB,((h1.alloc _).alloc _).alloc _,xB,by exact xB⟩ cn_.start).mono ?_;rintro e w7 ⟨l,fb,rfl,hs,-,hz,hbest⟩;have q4:=hs.c4.c0;have q5:=hs.c5.c0;have HN:=hq_ (HLN.out l fb hbest);have hbel:=hs.below;cases fb))
  ·go_ret2;exact ⟨_,_,rfl,HN.out,hbel⟩
  ·go_ret2;exact ⟨_,_,rfl,HN.out,hbel⟩
end Go.Proofs.YthjnojbeimchdaaGreat
namespace Go.Proofs.YthjnojbeimchdaaGreat
open Go.RowKit Go.Shelf Go.Maps Kal
attribute [local go_sem] Oper.semAt_some
structure LZ (B:Nat) (w:World) (f n:Int) (b:Bool) (W:World):Prop where
 below:Below B w W
 c3:Bxx W B #[.int .i64 f] 3
 c6:Bxx W (B+1) #[.int .i64 n] 3
 c7:Bxx W (B+1+1) #[.bool b] 4
theorem LZ.grow (h:LZ B w f n b W) (hB:B≤w.heap.size) (hg:W.grownBy W' row) (hr:∀ r,row=some r->B≤r∧∃ o:Obj,W.heap[r]? = some o∧o.isCells=false):LZ B w f n b W':=by
 have key:∀ {b:Nat} {c:Array Value} {t:TypeId},Bxx W b c t->Bxx W' b c t:=fun {b c t} hx=>by
  refine (hg.block b hx.lt fun e=>?_).trans hx;obtain ⟨_,o,ho,hc⟩:=hr b e.symm;rw [show W.heap[b]? = _ from hx] at ho;cases ho;cases hc
 exact ⟨h.below.grown hg (Nat.le_trans hB h.below.size) (fun k e=>(hr k e).1),key h.c3,key h.c6,key h.c7⟩
theorem LZ.ext (h:LZ B w f n b W) (hB:B≤w.heap.size) (hb:Below W.heap.size W W'):LZ B w f n b W':=
 ⟨h.below.trans (hb.mono (Nat.le_trans hB h.below.size)),h.c3.below hb,h.c6.below hb,h.c7.below hb⟩
theorem LZ.put {n':Int} (h:LZ B w f n b W):LZ B w f n' true ((W.setCell ⟨B+1,0,none⟩ (.int .i64 n')).setCell ⟨B+1+1,0,none⟩ (.bool true)):=
 ⟨(h.below.setCell (p:=⟨B+1,0,none⟩) (Nat.le_succ _) _).setCell (p:=⟨B+1+1,0,none⟩) (by show B≤B+1+1;omega) _,Bxx.setNe (h.c3.setNe _ oq_) _ oq_,Bxx.setNe (a4_ 0 _ h.c6) _ oq_,a4_ 0 _ (h.c7.setNe _ oq_)⟩
theorem x6_ {m:Int} {S T:Int->Prop} (h:ax_ F S f n b) (g:ax_ F T f m true) (hc:b=false∨m<n):ax_ F (fun x=>S x∨T x) f m true:=by
 have:=l6_ h g;rw [if_pos ⟨rfl,hc⟩,Bool.or_true] at this;exact this
theorem wd_ {m:Int} {S T:Int->Prop} {c:Bool} (h:ax_ F S f n b) (g:ax_ F T f m c) (hc:c=false∨(b=true∧¬ m<n)):ax_ F (fun x=>S x∨T x) f n b:=by
 have:=l6_ h g;rcases hc with rfl|⟨rfl,hc⟩
 ·rw [if_neg (fun e=>by cases e.1),Bool.or_false] at this;exact this
 ·rw [if_neg (fun e=>by rcases e.2 with e|e;cases e;exact hc e)] at this;exact this
theorem py_ {L:List (List Per)} (h:ax_ F (fun x=>mmem L x∨tmem t x) f n b):ax_ F (mmem (L ++ [t])) f n b:=h.congr fun x _ _=>sy_
theorem da_ {W0:World} {c:Bool} {pre:List (Value × List Per)} {y:Value × List Per} {a:Act} (hw:w.heap.size≤W'.heap.size) (hl:LZ w.heap.size w f n b W') (h:ax_ FarI (mmem (pre.map Prod.snd)) f n b) (hb:Below W'.heap.size W' W1) (g:ax_ FarI (tmem y.2) f d c) (hc:c=false∨(b=true∧¬ d<n)) :
  my_ W0.heap.size (KpB fun k=>k<w.heap.size) (fun W'=>∃ n b,ax_ FarI (mmem ((pre ++ [y]).map Prod.snd)) f n b∧LZ w.heap.size w f n b W') W' .normal a W1:=
 ⟨(KeepsOthers.of_below hb).from _,fun k hk=>hb.block k oq_,n,b,by rw [List.map_append];exact py_ (wd_ h g hc),hl.ext (Nat.le_refl _) hb⟩
theorem hv_ {W0:World} {pre:List (Value × List Per)} {y:Value × List Per} {a:Act} (hw:w.heap.size≤W'.heap.size) (hl:LZ w.heap.size w f n b W') (h:ax_ FarI (mmem (pre.map Prod.snd)) f n b) (hb:Below W'.heap.size W' W1) (g:ax_ FarI (tmem y.2) f d true) (hc:b=false∨d<n) :
  my_ W0.heap.size (KpB fun k=>k<w.heap.size) (fun W'=>∃ n b,ax_ FarI (mmem ((pre ++ [y]).map Prod.snd)) f n b∧LZ w.heap.size w f n b W') W' .normal a ((W1.setCell ⟨w.heap.size+1,0,none⟩ (.int .i64 d)).setCell ⟨w.heap.size+1+1,0,none⟩ (.bool true)):=
 ⟨(((KeepsOthers.of_below hb).trans (KeepsOthers.setCell W1 _ _)).trans (KeepsOthers.setCell _ _ _)).from _,fun k hk=>((Below.heap_setCell _ ⟨w.heap.size+1+1,0,none⟩ _ k (by show k≠w.heap.size+1+1;omega)).trans (Below.heap_setCell _ ⟨w.heap.size+1,0,none⟩ _ k (by show k≠w.heap.size+1;omega))).trans (hb.block k oq_),d,true,by rw [List.map_append];exact py_ (x6_ h g hc),(hl.ext (Nat.le_refl _) hb).put⟩
theorem i9_ (s:Int) (g:Nat) (lb:Array Value) (T:List (List Per)) (f:Int) (w:World) (hit:n3_ g lb T w) (hT:∀ t∈T,aw_ s t) (f0:0≤f) (f1:f≤9223372036854775807) :
  Calls Tryz.prog 60 #[.func (.func g) #[] lb,.int .i64 f] w fun e w'=>∃ n b,e=.returned (.tuple #[.int .i64 n,.bool b])∧ax_ FarI (mmem T) f n b∧Below w.heap.size w w':=by
 refine callsIn_wide (n:=0).1 ?_;refine callsIn_of_wp_marks Tryz.func60 rfl trivial ?_ rfl;simp only [Tryz.ntmps60,List.size_toArray,List.length_cons,List.length_nil,Nat.reduceAdd,Nat.reduceSub,Array.replicate_succ,Array.replicate_zero,List.push_toArray,List.append_toArray,List.nil_append,List.cons_append]
 gi_wp2_with fail
 generalize hW0:((w.alloc _).alloc _).alloc _=W0;have hE:Below w.heap.size w W0:=by rw [<- hW0];exact xE
 have hsz:W0.heap.size=w.heap.size+3:=by rw [<- hW0];simp
 have hb3:Bxx W0 w.heap.size #[.int .i64 f] 3:=by rw [<- hW0];exact ((Bxx.at rfl).alloc _).alloc _
 have hb6:Bxx W0 (w.heap.size+1) #[.int .i64 0] 3:=by rw [<- hW0];exact (Bxx.at sq_).alloc _
 have hb7:Bxx W0 (w.heap.size+1+1) #[.bool false] 4:=by rw [<- hW0];exact Bxx.at sq_
 have HIT:=hq_ hit;have HST:Hid (LZ w.heap.size w f 0 false W0):=hq_ ⟨hE,hb3,hb6,hb7⟩;have HT:=hq_ hT;clear hW0 hb3 hb6 hb7 hit hT;refine jh_ (α:=Value × List Per) (x:=none) (gf:=g) (lb:=lb) rfl HIT.out.1 (HIT.out.2 W0 hE) (fun h k=>h.trans k) (KpB.putObj (by intro k hk;omega)) (fun y=>rfl)
  (fun pre W'=>∃ n b,ax_ FarI (mmem (pre.map Prod.snd)) f n b∧LZ w.heap.size w f n b W')
  (by
   rintro pre A C row ⟨n,b,h1,h2⟩ hg hr;refine ⟨n,b,h1,h2.grow (Nat.le_refl _) hg fun r e=>?_⟩;rcases hr r e with ⟨h,_⟩|⟨h,h'⟩
   ·cases h
   ·exact ⟨oq_,h'⟩)
  EyT.put (by exact ⟨0,false,s8_,HST.out⟩)
  (fun y=>⟨#[.func (Fn.func g) #[] lb,.int .i64 f,undef,.pointer (some ⟨w.heap.size,0,none⟩),.int .i64 0,.bool false,.pointer (some ⟨w.heap.size+1,0,none⟩),.pointer (some ⟨w.heap.size+1+1,0,none⟩),y.1,undef,undef,.func (Fn.func g) #[] lb,y.1,undef,undef,undef,undef,undef,undef,undef,undef,undef,undef,undef,undef,undef,undef,undef,undef,undef,undef,undef,undef,undef,undef,undef,undef,undef,undef,undef,undef,undef,undef,undef,undef,undef,undef,undef],[]⟩) ?assign ?body ?done
 case assign=>
  intro l y W' K hK;unfold tenc
  gi_wp2
  exact hK
 case body=>
  rintro l pre y W' ⟨n,b,hN,hLI⟩ ⟨⟨r,hTr⟩,F,hyt⟩;obtain ⟨yv,yt⟩:=y;dsimp only at hTr hyt;have hvt:=HT.out yt (by rw [hTr];simp);obtain ⟨ya,yc,rfl,_⟩:=hyt.form;have hTV:TV yt:=fun p hp=>(hvt.fv p hp).validB;have hwf:∀ p∈yt,p.WF:=fun p hp=>(hvt.fv p hp).fac.wf;have hs1:ba_ yt≤FarI:=lv_ dq_ fun p hp=>Int.le_trans (hvt.fv p hp).far dq_;have HTM:=hq_ (fun d ok h=>sg_ hvt.ne hwf hs1 (rw_ (f:=f) (n:=d) (b:=ok) hvt.ne hwf h));have HEA:=hq_ (fun W (h:Below W'.heap.size W' W)=>mb_ F _ yt f W (hyt.ext h) hTV ⟨oq_,oq_⟩);have HRE:=hq_ (fun W (h:Below W'.heap.size W' W)=>hg_ F _ yt W (hyt.ext h) hTV);have HLA:=hq_ (fun W (h:Below W'.heap.size W' W) (h1:f≤1152921504606846976)=>uc_ s F _ yt f W (hyt.ext h) hvt.fv f0 h1);have q3:=hLI.c3.c0;have hwz:=hLI.c7.lt;have HLI:=hq_ hLI;have HN:=hq_ hN;clear hN hLI hTr hyt hvt hTV hwf hs1;have hwz2:w.heap.size≤W'.heap.size:=oq_;generalize hQ9:my_ W0.heap.size _ _ W'=Q9;have HQ9:=hq_ hQ9;clear hQ9
  by_cases hff:f≤1152921504606846976
  all_goals
   (try have HFF:Hid (FarI<f):=hq_ (Int.not_le.1 hff))
   cases b
   ·
    gi_wp2_with (first
     | (refine ⟨trivial,rfl,?_⟩;gi_at_call 101;refine (CallsIn.inRound l (callsIn_wide.2 (HEA.out W' (Er _)))).mono ?_;rintro e w1 ⟨d,ok,rfl,hbe,hb1⟩;have HB1:=hq_ hb1;have HBW:=hq_ hb1;have hL1:=HLI.out.ext (Nat.le_refl _) hb1;have r3:=hL1.c3.c0;have r6:=hL1.c6.cells 0;have r7:=hL1.c7.cells 0;have HTN:=hq_ (HTM.out d ok hbe);clear hb1 hL1 hbe;cases ok;rotate_left;(have HNX:=hq_ (HTN.out.1 sq_));rotate_left)
     | (refine ⟨trivial,rfl,?_⟩;gi_at_call 76;refine (CallsIn.inRound l (callsIn_wide.2 (HRE.out _ HB1.out))).mono ?_;rintro e w2 ⟨b2,rfl,hrec,hb2⟩;have HB2:=hq_ hb2;have HBW:=hq_ (Et HB1.out hb2);have hL2:=HLI.out.ext (Nat.le_refl _) (Et HB1.out hb2);have s3:=hL2.c3.c0;have s6:=hL2.c6.cells 0;have s7:=hL2.c7.cells 0;have HNR:=hq_ (show b2=false->¬ recT yt from fun h0 h=>by have h1:=hrec.2 h;rw [h0] at h1;cases h1);clear hb2 hL2 hrec;cases b2)
     | (refine ⟨trivial,rfl,?_⟩;gi_at_call 102;(refine (CallsIn.inRound l (callsIn_wide.2 (HLA.out _ (Et HB1.out HB2.out) (by assumption)))).mono ?_);rintro e w3 ⟨m3,c3,rfl,hnx,hb3⟩;have HBW:=hq_ (Et (Et HB1.out HB2.out) hb3);have hL3:=HLI.out.ext (Nat.le_refl _) (Et (Et HB1.out HB2.out) hb3);have u3:=hL3.c3.c0;have u6:=hL3.c6.cells 0;have u7:=hL3.c7.cells 0;have HNX:=hq_ (HTN.out.2.2 sq_ m3 c3 hnx);clear hb3 hL3 hnx;cases c3)
     | (refine ⟨trivial,?_⟩;apply_assumption))
    all_goals rw [<- HQ9.out]
    all_goals first
     | exact da_ (y:=(.slice ya yt.length yc,yt)) hwz2 HLI.out HN.out HBW.out HNX.out (.inl rfl)
     | exact hv_ (y:=(.slice ya yt.length yc,yt)) hwz2 HLI.out HN.out HBW.out HNX.out (.inl rfl)
     | exact da_ (y:=(.slice ya yt.length yc,yt)) hwz2 HLI.out HN.out HBW.out HNX.out (.inr ⟨rfl,Int.not_lt.2 (by assumption)⟩)
     | exact hv_ (y:=(.slice ya yt.length yc,yt)) hwz2 HLI.out HN.out HBW.out HNX.out (.inr (by assumption))
     | exact da_ (y:=(.slice ya yt.length yc,yt)) hwz2 HLI.out HN.out HBW.out (HTN.out.2.1 sq_ (.inr (HNR.out sq_))) (.inl rfl)
     | exact da_ (y:=(.slice ya yt.length yc,yt)) hwz2 HLI.out HN.out HBW.out (HTN.out.2.1 sq_ (.inl HFF.out)) (.inl rfl)
   ·
    gi_wp2_with (first
     | (refine ⟨trivial,rfl,?_⟩;gi_at_call 101;refine (CallsIn.inRound l (callsIn_wide.2 (HEA.out W' (Er _)))).mono ?_;rintro e w1 ⟨d,ok,rfl,hbe,hb1⟩;have HB1:=hq_ hb1;have HBW:=hq_ hb1;have hL1:=HLI.out.ext (Nat.le_refl _) hb1;have r3:=hL1.c3.c0;have r6:=hL1.c6.cells 0;have r7:=hL1.c7.cells 0;have HTN:=hq_ (HTM.out d ok hbe);clear hb1 hL1 hbe;cases ok;rotate_left;(have HNX:=hq_ (HTN.out.1 sq_));rotate_left)
     | (refine ⟨trivial,rfl,?_⟩;gi_at_call 76;refine (CallsIn.inRound l (callsIn_wide.2 (HRE.out _ HB1.out))).mono ?_;rintro e w2 ⟨b2,rfl,hrec,hb2⟩;have HB2:=hq_ hb2;have HBW:=hq_ (Et HB1.out hb2);have hL2:=HLI.out.ext (Nat.le_refl _) (Et HB1.out hb2);have s3:=hL2.c3.c0;have s6:=hL2.c6.cells 0;have s7:=hL2.c7.cells 0;have HNR:=hq_ (show b2=false->¬ recT yt from fun h0 h=>by have h1:=hrec.2 h;rw [h0] at h1;cases h1);clear hb2 hL2 hrec;cases b2)
     | (refine ⟨trivial,rfl,?_⟩;gi_at_call 102;(refine (CallsIn.inRound l (callsIn_wide.2 (HLA.out _ (Et HB1.out HB2.out) (by assumption)))).mono ?_);rintro e w3 ⟨m3,c3,rfl,hnx,hb3⟩;have HBW:=hq_ (Et (Et HB1.out HB2.out) hb3);have hL3:=HLI.out.ext (Nat.le_refl _) (Et (Et HB1.out HB2.out) hb3);have u3:=hL3.c3.c0;have u6:=hL3.c6.cells 0;have u7:=hL3.c7.cells 0;have HNX:=hq_ (HTN.out.2.2 sq_ m3 c3 hnx);clear hb3 hL3 hnx;cases c3)
     | (refine ⟨trivial,?_⟩;apply_assumption))
    all_goals rw [<- HQ9.out]
    all_goals first
     | exact da_ (y:=(.slice ya yt.length yc,yt)) hwz2 HLI.out HN.out HBW.out HNX.out (.inl rfl)
     | exact hv_ (y:=(.slice ya yt.length yc,yt)) hwz2 HLI.out HN.out HBW.out HNX.out (.inl rfl)
     | exact da_ (y:=(.slice ya yt.length yc,yt)) hwz2 HLI.out HN.out HBW.out HNX.out (.inr ⟨rfl,Int.not_lt.2 (by assumption)⟩)
     | exact hv_ (y:=(.slice ya yt.length yc,yt)) hwz2 HLI.out HN.out HBW.out HNX.out (.inr (by assumption))
     | exact da_ (y:=(.slice ya yt.length yc,yt)) hwz2 HLI.out HN.out HBW.out (HTN.out.2.1 sq_ (.inr (HNR.out sq_))) (.inl rfl)
     | exact da_ (y:=(.slice ya yt.length yc,yt)) hwz2 HLI.out HN.out HBW.out (HTN.out.2.1 sq_ (.inl HFF.out)) (.inl rfl)
 case done=>
  rintro D xs W' hD hfin ⟨n,b,hN,hLI⟩ hdef;rw [show xs.map Prod.snd=T from hfin] at hN;have q6:=hLI.c6.c0;have q7:=hLI.c7.c0;have hM:b5_ w.heap.size [{ target:=.collected D,args:=#[] }] W':=dl_ oq_ hdef;have HM:=hq_ hM;have HN:=hq_ hN;have HLI:=hq_ hLI;clear hfin hN hLI hdef hM
  gi_wp2_with fail
  refine wpIn_wide.2 ?_;go_quiet (fail)
  go_wp2_with fail
  gi_wp2_with fail
  refine ce_ (B:=w.heap.size) _ _ HM.out fun w' hs=>⟨.tuple #[.int .i64 n,.bool b],by simp [results,Tryz.results60,go_sem],n,b,rfl,HN.out,(En HLI.out.below _).trans hs.below⟩
end Go.Proofs.YthjnojbeimchdaaGreat
namespace Go.Proofs.YthjnojbeimchdaaGreat
open Go.RowKit Go.Maps Kal
def ou_ (S:Int->Prop) (f:Int) (w:World) (e:Ending) (w':World):Prop:=∃ n b,e=.returned (.tuple #[.int .i64 n,.bool b])∧ax_ FarI S f n b∧Below w.heap.size w w'
theorem sa_ (s:Int) (F:Nat->Prop) (v:Value) (m:List (List Per)) (f:Int) (w:World) (h1:MixR w F v m) (k1:MV s m) (hf:InI f) :
  Calls Tryz.prog 16 #[.agg #[v],.int .i64 f] w (ou_ (mmem m) (max f 0) w):=by
 have HV1:=fun W (h:Below w.heap.size w W)=>bh_ F v m W (h1.ext h);rw [k1.val] at HV1;obtain ⟨a1,c1,rfl⟩:=h1.form;have HLE:=hq_ (fun W (h:Below w.heap.size w W) b1 hb1=>i9_ s _ _ m (max f 0) W (dv_ F (.slice a1 m.length c1) m b1 W (h1.ext h) hb1) k1.vt oq_ (by have:=hf.2;omega));clear h1 k1;have key:f<0∨0≤f:=Int.lt_or_le f 0;rcases key with hf0|hf0
 all_goals
  go_enter Tryz.func16,Tryz.ntmps16
  go_wp2_with (first|(go_at_call 18;refine (HV1 _ (Ea (Er w) _)).mono ?_;rintro e w1 ⟨rfl,hb1⟩;have b0:Bxx w1 w.heap.size #[.slice a1 m.length c1] 28:=Bxx.below xB hb1;have x0:=b0.c0;have hW1:Below w.heap.size w w1:=Et (Ea (Er w) _) hb1)|(go_at_call 61;refine (dn_ _ _ ⟨_,_,_,rfl⟩).mono ?_;rintro e w4 ⟨rfl,rfl⟩)|(go_at_call 60;((with_reducible refine (HLE.out _ (Ea hW1 _) w1.heap.size (Bxx.new w1 #[.slice a1 m.length c1] 26).c0).mono ?_);rintro e w5 ⟨n,b,rfl,hn,hb5⟩)))
  go_ret2;exact ⟨n,b,rfl,hn,Et (Ea hW1 _) hb5⟩
theorem rf_ (s:Int) (F1 F2:Nat->Prop) (v1 v2:Value) (m1 m2:List (List Per)) (f:Int) (w:World) (h1:MixR w F1 v1 m1) (h2:MixR w F2 v2 m2) (k1:MV s m1) (k2:MV s m2) (hf:InI f) :
  Calls Tryz.prog 27 #[.agg #[v1],.agg #[v2],.int .i64 f] w (ou_ (mmem (ao_ m1 m2)) (max f 0) w):=by
 have HV1:=fun W (h:Below w.heap.size w W)=>bh_ F1 v1 m1 W (h1.ext h);have HV2:=fun W (h:Below w.heap.size w W)=>bh_ F2 v2 m2 W (h2.ext h);rw [k1.val] at HV1;rw [k2.val] at HV2;have hVT:∀ t∈ao_ m1 m2,aw_ s t:=fun t ht=>by
  obtain ⟨x,hx,y,hy,rfl⟩:=hi_.1 ht;refine ⟨fun e=>(k1.vt x hx).ne (List.append_eq_nil_iff.1 e).1,fun p hp=>(List.mem_append.1 hp).elim ((k1.vt x hx).fv p) ((k2.vt y hy).fv p),?_⟩;rw [List.length_append];have:=k1.tlen x hx;have:=k2.tlen y hy;omega
 have HLE:=hq_ (fun W (h:Below w.heap.size w W) b1 b2 hb1 hb2=>i9_ s _ _ (ao_ m1 m2) (max f 0) W (lz_ F1 F2 v1 v2 m1 m2 b1 b2 W (h1.ext h) (h2.ext h) hb1 hb2 (fun t ht=>by have:=k1.tlen t ht;omega) (fun t ht=>by have:=k2.tlen t ht;omega)) hVT oq_ (by have:=hf.2;omega));obtain ⟨a1,c1,rfl⟩:=h1.form;obtain ⟨a2,c2,rfl⟩:=h2.form;clear h1 h2 k1 k2 hVT;have key:f<0∨0≤f:=Int.lt_or_le f 0;rcases key with hf0|hf0
 all_goals
  go_enter Tryz.func27,Tryz.ntmps27
  go_wp2_with (first|(go_at_call 18;first
    | ((with_reducible refine (HV1 _ (Ea (Ea (Er w) _) _)).mono ?_);rintro e w1 ⟨rfl,hb1⟩;have b0:Bxx w1 w.heap.size #[.slice a1 m1.length c1] 28:=Bxx.below xB hb1;have b1:Bxx w1 (w.heap.size+1) #[.slice a2 m2.length c2] 28:=Bxx.below xB hb1;have x0:=b0.c0;have x1:=b1.c0;have hW1:Below w.heap.size w w1:=Et (Ea (Ea (Er w) _) _) hb1)
    | ((with_reducible refine (HV2 _ hW1).mono ?_);rintro e w2 ⟨rfl,hb2⟩;have d0:=b0.below hb2;have d1:=b1.below hb2;have y0:=d0.c0;have y1:=d1.c0;have hW2:Below w.heap.size w w2:=Et hW1 hb2))|(go_at_call 70;refine (ly_ _ _ _ ⟨_,_,_,rfl⟩ ⟨_,_,_,rfl⟩).mono ?_;rintro e w4 ⟨rfl,rfl⟩)|(go_at_call 60;((with_reducible refine (HLE.out _ (Ea (Ea hW2 _) _) w2.heap.size (w2.heap.size+1) ((Bxx.new w2 #[.slice a1 m1.length c1] 28).alloc (.cells #[.slice a2 m2.length c2] 28)).c0 (Bxx.at (w:=w2.alloc (.cells #[.slice a1 m1.length c1] 28)) (c:=#[.slice a2 m2.length c2]) (t:=28) sq_).c0).mono ?_);rintro e w5 ⟨n,b,rfl,hn,hb5⟩)))
  go_ret2;exact ⟨n,b,rfl,hn,Et (Ea (Ea hW2 _) _) hb5⟩
def kc_ (m1 m2:List (List Per)) (w:World) (e:Ending) (w':World):Prop:=
 ∃ (r:Option (List (List Per) × List (List Per))),x2_ m1 m2 r∧Below w.heap.size w w'∧
  ((∃ mk nk n b,r=some (mk,nk)∧ax_ FarI (mmem (mk ++ nk)) 0 n b∧e=.returned (.tuple #[.int .i64 n,.bool b,.int .i64 0]))∨(r=none∧e=.returned (.tuple #[.int .i64 0,.bool false,.int .i64 2])))
theorem se_ {a b:List (List Per)} (h1:∀ t∈a,aw_ s t) (h2:∀ t∈b,aw_ s t):∀ t∈a ++ b,aw_ s t:=fun t ht=>(List.mem_append.1 ht).elim (h1 t) (h2 t)
theorem rb_ (s:Int) (F1 F2:Nat->Prop) (v1 v2:Value) (m1 m2:List (List Per)) (w:World) (h1:MixR w F1 v1 m1) (h2:MixR w F2 v2 m2) (k1:MV s m1) (k2:MV s m2) :
  Calls Tryz.prog 38 #[.agg #[v1],.agg #[v2]] w (kc_ m1 m2 w):=by
 have HM:=fun W (h:Below w.heap.size w W)=>s9_ s F1 F2 v1 v2 m1 m2 W (h1.ext h) (h2.ext h) k1 k2;obtain ⟨a1,c1,rfl⟩:=h1.form;obtain ⟨a2,c2,rfl⟩:=h2.form;clear h1 h2 k1 k2
 go_enter Tryz.func38,Tryz.ntmps38
 go_wp2_with (first|(go_at_call 82;(refine (HM _ (Ea (Ea (Er w) _) _)).mono ?_;rintro e w1 hres;obtain ⟨a,n,c,a',n',c',k,rfl,hb1,hst⟩:=hres;have hW1:Below w.heap.size w w1:=Et (Ea (Ea (Er w) _) _) hb1;have HW1:=hq_ hW1;have HST:=hq_ hst;clear hW1 hst hb1;rcases HST.out with ⟨rfl,mk,nk,hM,hN,hmv,hnv,hmr,hnr⟩|⟨rfl,hF⟩))|(go_at_call 69;(refine (kn_ _ _ (w1.heap.size+1+1) 2 (.slice a n c) (.slice a' n' c') mk nk _ (fun i=>((Bxx.at (w:=(w1.alloc (.cells #[.slice a n c] 28)).alloc (.cells #[.slice a' n' c'] 28)) (b:=w1.heap.size+1+1) (c:=#[.slice a n c,.slice a' n' c']) (t:=26) sq_).cells i).1) (hmr.ext (Ea (Ea (Ea (Er w1) _) _) _)) (hnr.ext (Ea (Ea (Ea (Er w1) _) _) _)) (by have:=hmv.len;have:=hnv.len;omega) oq_ oq_).mono ?_;rintro e w2 ⟨v,rfl,hcm,hb2⟩;have hvt9:=se_ hmv.vt hnv.vt;generalize hL9:mk ++ nk=L9 at hcm hvt9;have HL9:=hq_ hL9;clear hL9;obtain ⟨ya,yc,rfl⟩:=hcm.form;have hW2:Below w.heap.size w w2:=Et (Ea (Ea (Ea HW1.out _) _) _) hb2))|(go_at_call 61;refine (dn_ _ _ ⟨_,_,_,rfl⟩).mono ?_;rintro e w4 ⟨rfl,rfl⟩)|(go_at_call 60;(refine (i9_ s _ _ L9 0 _ (dv_ (fun _=>True) (.slice ya L9.length yc) L9 w2.heap.size (w2.alloc (.cells #[.slice ya L9.length yc] 26)) (hcm.ext (Ea (Er w2) _)) (Bxx.new w2 #[.slice ya L9.length yc] 26).c0) hvt9 oq_ oq_).mono ?_;rintro e w5 ⟨n9,b9,rfl,hn,hb5⟩)))
 ·exact bodyPost_ret (v:=.tuple #[.int .i64 n9,.bool b9,.int .i64 0]) (by simp [results,Tryz.results38,go_sem]) rfl ⟨some (mk,nk),⟨hM,hN⟩,Et (Ea hW2 _) hb5,.inl ⟨mk,nk,n9,b9,rfl,by rw [HL9.out];exact hn,rfl⟩⟩
 ·exact bodyPost_ret (v:=.tuple #[.int .i64 0,.bool false,.int .i64 2]) (by simp [results,Tryz.results38,go_sem]) rfl ⟨none,hF,Ea (Ea HW1.out _) _,.inr ⟨rfl,rfl⟩⟩
theorem xj_ (s:Int) (F:Nat->Prop) (v:Value) (T:List (List Per)) (f:Int) (w:World) (hm:MixR w F v T) (hT:∀ t∈T,aw_ s t) (hTl:T.length≤100000) (hf:InI f) :
  Calls Tryz.prog 78 #[v,.int .i64 f] w (ou_ (mmem T) (max f 0) w):=by
 have f0:=hf.1;have f1:=hf.2;obtain ⟨L,rfl,hL⟩:=hm;obtain ⟨a,c,rfl,hlc,hc9,_⟩:=hL.row.is;have hll:L.length≤100000:=by rwa [List.length_map] at hTl
 have HL:=hq_ hL;have HT:=hq_ hT;have HLM:Hid ((L.map Prod.snd).length=L.length):=hq_ (List.length_map _);clear hL hT hTl
 go_enter Tryz.func78,Tryz.ntmps78
 go_wp2_with fail
 go_loopw [6,7,8,9,10,11] (fun nv i _ _ _ _ wr=>∃ (k:Nat) (n:Int),k≤L.length∧i=.int .i64 k∧nv=.int .i64 n∧Hid (CapL FarI (mmem ((L.map Prod.snd).take k)) f n)∧Hid (Below w.heap.size w wr)) (fun _ i _ _ _ _ _=>L.length-(intOf i).toNat)
 case atStart=>exact ⟨0,_,oq_,rfl,rfl,hq_ (CapL.start.congr fun x _=>by simp [mmem]),hq_ xE⟩
 case round=>
  obtain ⟨k,n,hk,rfl,rfl,HCP,HBL⟩:=hrel
  by_cases hlt:k<L.length
  ·have hlI:(k:Int)<L.length:=oq_;have hb:=HBL.out;obtain ⟨b,o,c9,xa,xn,xc,xt,ha,q3,htx,hdx⟩:=(HL.out.keep (a5_.below hb) hb.size).at hlt;cases ha;obtain ⟨_,_,ha,_⟩:=htx.form;cases ha;have hxm:xt∈L.map Prod.snd:=List.mem_of_getElem? hdx;have hvt:=HT.out xt hxm;have hTV:TV xt:=fun p hp=>(hvt.fv p hp).validB;have hwf:∀ p∈xt,p.WF:=fun p hp=>(hvt.fv p hp).fac.wf;have hs1:ba_ xt≤FarI:=lv_ dq_ fun p hp=>Int.le_trans (hvt.fv p hp).far dq_;have HTM:=hq_ (fun d ok h=>sg_ hvt.ne hwf hs1 (rw_ (f:=f) (n:=d) (b:=ok) hvt.ne hwf h));have HEA:=hq_ (fun W (h:Below wr.heap.size wr W)=>s1_ F _ xt f W (htx.ext h) hTV hf);have HRE:=hq_ (fun W (h:Below wr.heap.size wr W)=>pa_ F _ xt W (htx.ext h) hTV);have HVT:=hq_ hvt;have HWF:=hq_ hwf;have HDX:=hq_ hdx;have HTX:=hq_ htx;have hxl:=hvt.len;have HS1:Hid (ba_ xt≤1099511627776):=hq_ (lv_ dq_ fun p hp=>(hvt.fv p hp).far);have HLT:=hq_ (fun m=>yn_ (F:=FarI) (f:=f) (m:=m) hwf);clear hvt htx hxm hdx hTV hwf hs1
   by_cases hff:f≤1152921504606846976
   ·have HFF:=hq_ hff;go_wp2_with (first|(go_at_call 123;refine (HEA.out _ (Er _)).mono ?_;rintro e w1 ⟨d,ok,rfl,hbe,hb1⟩;have HB1:=hq_ hb1;have HTN:=hq_ (HTM.out d ok hbe);have q4:=Ext.cell HB1.out q3;clear hb1 hbe;cases ok)|(go_at_call 81;refine (HRE.out _ HB1.out).mono ?_;rintro e w2 ⟨b2,rfl,hrec,hb2⟩;have HB2:=hq_ (Et HB1.out hb2);have HNR:=hq_ hrec;have q5:=Ext.cell HB2.out q3;clear hrec hb2;cases b2))
    ·go_roundw
     case rel=>exact ⟨k+1,n,oq_,by go_num,rfl,hq_ (xt_ HCP.out HDX.out (xs_ (HTN.out.2.1 sq_ (.inr (by have h:=HNR.out;simpa using h))))),hq_ (Et HBL.out HB2.out)⟩
     case measure=>simp [intOf];omega
    ·have HNN:=hq_ (HTN.out.2.2 sq_);have hst0:=(fg_ (t:=xt)).1;have HAF:=hq_ (fun W (h:Below w2.heap.size w2 W)=>(by
      obtain ⟨XL,rfl,hXL⟩:=HTX.out;obtain ⟨xb,xd,he,_⟩:=hXL.row.is;have hle:max f (ba_ (XL.map PV.p))≤1152921504606846976:=by have:=HS1.out;omega
      exact y3_ F (max f (ba_ (XL.map PV.p))) oq_ hle XL _ 0 1 W (hXL.keep (a5_.below (Et HB2.out h)) (Et HB2.out h).size) (fun x hx=>(by have h9:=HVT.out.fv x.p (List.mem_map_of_mem hx);exact ⟨h9.fac.wf,h9.fac.dvd,h9.far⟩)) oq_ oq_ ⟨27720,oq_⟩:Calls Tryz.prog 124 #[.slice xa xt.length xc,.agg #[.int .i64 0,.int .i64 1],.int .i64 (max f (ba_ xt))] W fun e w'=>∃ n,e=.returned (.int .i64 n)∧CapL FarI (ClsS xt 0 1) (max f (ba_ xt)) n∧Below W.heap.size W w'))
     obtain ⟨XL,hXL,hXT⟩:=HTX.out;have htl:xt.length=XL.length:=by rw [<- hXL,List.length_map]
     have HXT:=hq_ hXT;have HXL:=hq_ hXL;have HTLN:=hq_ htl;clear hXL hXT htl
     go_loopw [10,11] (fun st jv wq=>∃ j:Nat,j≤xt.length∧jv=.int .i64 j∧st=.int .i64 (c6_ (max f 0) (xt.take j))∧Hid (Below w2.heap.size w2 wq)) (fun _ jv _=>xt.length-(intOf jv).toNat)
     case atStart=>exact ⟨0,oq_,rfl,by simp [c6_],hq_ (Er _)⟩
     case round=>
      obtain ⟨j,hj,rfl,rfl,HBQ⟩:=hrel;have q6:=Ext.cell (Et HB2.out HBQ.out) q3
      by_cases hjt:j<xt.length
      ·have hjI:(j:Int)<xt.length:=oq_;obtain ⟨b1,o1,x,rfl,hx,hxp,hb1,e0,e1,e2,e3⟩:=(HXT.out.keep (a5_.below (Et HB2.out HBQ.out)) (Et HB2.out HBQ.out).size).get (show j<XL.length by have:=HTLN.out;omega);have HS:Hid (c6_ (max f 0) (xt.take (j+1))=max (c6_ (max f 0) (xt.take j)) x.p.frm):=hq_ (yk_ (by rw [hxp,HXL.out,List.getD_eq_getElem?_getD,List.getElem?_eq_getElem hjt];rfl));have hfr:=hx.fr;obtain ⟨xh,xcc,xp⟩:=x;obtain ⟨ax1,nx1,cx1,ax2,nx2,cx2,rfl,rfl⟩:=hx.form;dsimp only at e0 e1 e2 e3 hfr HS;clear hxp hx;generalize c6_ (max f 0) (xt.take j)=s0 at *;go_wp2_with fail
       go_roundw
       case rel=>exact ⟨j+1,oq_,by go_num,by rw [HS.out],HBQ⟩
       case measure=>simp [intOf];omega
      ·obtain rfl:j=xt.length:=oq_;have hse:c6_ (max f 0) (xt.take xt.length)=max f (ba_ xt):=by
        rw [List.take_length];unfold ba_;rw [y8_,Int.max_comm f 0]
       rw [hse];go_wp2_with (go_at_call 124;((with_reducible refine (HAF.out _ HBQ.out).mono ?_);rintro e w5 ⟨d5,rfl,hcap,hb5⟩;have HCC:=hq_ hcap;have HB5:=hq_ (Et (Et HB2.out HBQ.out) hb5);clear hcap hb5))
       go_roundw
       case rel=>exact ⟨k+1,min n d5,oq_,by go_num,rfl,hq_ (xl_ HCP.out HDX.out (HLT.out d5 HNN.out HCC.out)),hq_ (Et HBL.out HB5.out)⟩
       case measure=>simp [intOf];omega
    ·go_roundw
     case rel=>exact ⟨k+1,min n d,oq_,by go_num,rfl,hq_ (xl_ HCP.out HDX.out (xq_ (HTN.out.1 sq_))),hq_ (Et HBL.out HB1.out)⟩
     case measure=>simp [intOf];omega
   ·have HFF:Hid (FarI<f):=hq_ (Int.not_le.1 hff);go_wp2_with (go_at_call 123;refine (HEA.out _ (Er _)).mono ?_;rintro e w1 ⟨d,ok,rfl,hbe,hb1⟩;have HB1:=hq_ hb1;have HTN:=hq_ (HTM.out d ok hbe);have q4:=Ext.cell HB1.out q3;clear hb1 hbe;cases ok)
    ·go_roundw
     case rel=>exact ⟨k+1,n,oq_,by go_num,rfl,hq_ (xt_ HCP.out HDX.out (xs_ (HTN.out.2.1 sq_ (.inl HFF.out)))),hq_ (Et HBL.out HB1.out)⟩
     case measure=>simp [intOf];omega
    ·go_roundw
     case rel=>exact ⟨k+1,min n d,oq_,by go_num,rfl,hq_ (xl_ HCP.out HDX.out (xq_ (HTN.out.1 sq_))),hq_ (Et HBL.out HB1.out)⟩
     case measure=>simp [intOf];omega
  ·obtain rfl:k=L.length:=oq_;have HFN:=hq_ (yh_ (ye_ (fun x=>yp_ (fun t ht=>(HT.out t ht).ne)) (f:=f) (n:=n) (F:=FarI) (S:=mmem (L.map Prod.snd)) (by have h:=HCP.out;rwa [List.take_of_length_le (by have:=HLM.out;omega)] at h)))
   by_cases hfn:1152921504606846976<n
   all_goals
    go_wp2_with fail
    go_ret2
   ·exact ⟨0,false,rfl,HFN.out.1 hfn,HBL.out⟩
   ·exact ⟨n,true,rfl,HFN.out.2 hfn,HBL.out⟩
theorem xh_ (F:Nat->Prop) (v:Value) (m:List (List Per)) (w:World) (hm:MixR w F v m) (hq:bj_ m=true) :
  Calls Tryz.prog 32 #[.agg #[v]] w fun e w'=>∃ b,e=.returned (.bool b)∧(b=true↔bj_ m=true∧∀ t∈m,bt_ t)∧Below w.heap.size w w':=by
 have HV:=fun W (h:Below w.heap.size w W)=>cb_ F v m W (hm.ext h);rw [hq] at HV;have HQ:=hq_ hq;have HTV:=hq_ (fun t ht=>(mc_ hq t ht).1);clear hq;obtain ⟨L,rfl,hL⟩:=hm;obtain ⟨a,c,rfl,hlc,hc9,_⟩:=hL.row.is;have HL:=hq_ hL;have HLM:Hid ((L.map Prod.snd).length=L.length):=hq_ (List.length_map _);clear hL
 go_enter Tryz.func32,Tryz.ntmps32
 go_wp2_with fail
 go_loopw [3] (fun i wr=>∃ k:Nat,k≤L.length∧i=.int .i64 k∧Hid (∀ t∈(L.map Prod.snd).take k,bt_ t)∧Hid (Below w.heap.size w wr)∧Hid (Bxx wr w.heap.size #[.slice a L.length c] 28)) (fun i _=>L.length-(intOf i).toNat)
 case atStart=>exact ⟨0,oq_,rfl,hq_ sq_,hq_ xE,hq_ xB⟩
 case round=>
  obtain ⟨k,hk,rfl,HPRE,HBL,HBX⟩:=hrel;have hc0:=(Bxx.cells HBX.out 0).1
  by_cases hlt:k<L.length
  ·have hlI:(k:Int)<L.length:=oq_;obtain ⟨b,o,c9,xa,xn,xc,xt,ha,q3,htx,hdx⟩:=HL.out.at hlt;cases ha;obtain ⟨_,_,ha,_⟩:=htx.form;cases ha;have HXM:Hid (xt∈L.map Prod.snd):=hq_ (List.mem_of_getElem? hdx);have HTK:Hid ((L.map Prod.snd).take (k+1)=(L.map Prod.snd).take k ++ [xt]):=hq_ (by rw [List.take_add_one,hdx];rfl);have HBA:=hq_ (fun W (h:Below w.heap.size w W)=>pb_ F _ xt W (htx.ext h) (HTV.out xt HXM.out));have q4:=Ext.cell HBL.out q3;have HQ3:=hq_ q3;clear htx hdx q3;go_wp2_with (first|(go_at_call 17;(with_reducible refine (HV _ HBL.out).mono ?_);rintro e w1 ⟨rfl,hb1⟩;have HB1:=hq_ (Et HBL.out hb1);have HG1:=hq_ (HBX.out.below hb1);have g0:=(HG1.out.cells 0).1;have q5:=Ext.cell HB1.out HQ3.out;clear hb1)|(go_at_call 80;refine (HBA.out _ HB1.out).mono ?_;rintro e w2 ⟨bb,rfl,hbar,hb2⟩;have HBAR:=hq_ hbar;have HB2:=hq_ (Et HB1.out hb2);have HG2:=hq_ (HG1.out.below hb2);clear hbar hb2;cases bb))
   ·
    go_ret;exact ⟨false,rfl,⟨fun h=>absurd h dq_,fun h=>absurd (h.2 xt HXM.out) (by have h9:=HBAR.out;simpa using h9)⟩,HB2.out⟩
   ·
    go_roundw
    case rel=>exact ⟨k+1,oq_,by go_num,hq_ (by
     rw [HTK.out];intro t ht;rcases List.mem_append.1 ht with ht|ht
     ·exact HPRE.out t ht
     ·obtain rfl:=List.mem_singleton.1 ht;have h9:=HBAR.out;simpa using h9),HB2,HG2⟩
    case measure=>simp [intOf];omega
  ·obtain rfl:k=L.length:=oq_;have HALL:Hid (∀ t∈L.map Prod.snd,bt_ t):=hq_ (by have h:=HPRE.out;rwa [List.take_of_length_le (by have:=HLM.out;omega)] at h);go_wp2_with (go_at_call 17;(with_reducible refine (HV _ HBL.out).mono ?_);rintro e w1 ⟨rfl,hb1⟩)
   go_ret;exact ⟨true,rfl,⟨fun _=>⟨HQ.out,HALL.out⟩,fun _=>rfl⟩,Et HBL.out hb1⟩
theorem xv_ (F:Nat->Prop) (v:Value) (m:List (List Per)) (w:World) (hm:MixR w F v m) (hq:bj_ m=true) :
  Calls Tryz.prog 33 #[.agg #[v]] w fun e w'=>∃ b,e=.returned (.bool b)∧(b=true↔bj_ m=true∧∀ t∈m,¬ recT t)∧Below w.heap.size w w':=by
 have HV:=fun W (h:Below w.heap.size w W)=>cb_ F v m W (hm.ext h);rw [hq] at HV;have HQ:=hq_ hq;have HTV:=hq_ (fun t ht=>(mc_ hq t ht).1);clear hq;obtain ⟨L,rfl,hL⟩:=hm;obtain ⟨a,c,rfl,hlc,hc9,_⟩:=hL.row.is;have HL:=hq_ hL;have HLM:Hid ((L.map Prod.snd).length=L.length):=hq_ (List.length_map _);clear hL
 go_enter Tryz.func33,Tryz.ntmps33
 go_wp2_with fail
 go_loopw [3] (fun i wr=>∃ k:Nat,k≤L.length∧i=.int .i64 k∧Hid (∀ t∈(L.map Prod.snd).take k,¬ recT t)∧Hid (Below w.heap.size w wr)∧Hid (Bxx wr w.heap.size #[.slice a L.length c] 28)) (fun i _=>L.length-(intOf i).toNat)
 case atStart=>exact ⟨0,oq_,rfl,hq_ sq_,hq_ xE,hq_ xB⟩
 case round=>
  obtain ⟨k,hk,rfl,HPRE,HBL,HBX⟩:=hrel;have hc0:=(Bxx.cells HBX.out 0).1
  by_cases hlt:k<L.length
  ·have hlI:(k:Int)<L.length:=oq_;obtain ⟨b,o,c9,xa,xn,xc,xt,ha,q3,htx,hdx⟩:=HL.out.at hlt;cases ha;obtain ⟨_,_,ha,_⟩:=htx.form;cases ha;have HXM:Hid (xt∈L.map Prod.snd):=hq_ (List.mem_of_getElem? hdx);have HTK:Hid ((L.map Prod.snd).take (k+1)=(L.map Prod.snd).take k ++ [xt]):=hq_ (by rw [List.take_add_one,hdx];rfl);have HBA:=hq_ (fun W (h:Below w.heap.size w W)=>pa_ F _ xt W (htx.ext h) (HTV.out xt HXM.out));have q4:=Ext.cell HBL.out q3;have HQ3:=hq_ q3;clear htx hdx q3;go_wp2_with (first|(go_at_call 17;(with_reducible refine (HV _ HBL.out).mono ?_);rintro e w1 ⟨rfl,hb1⟩;have HB1:=hq_ (Et HBL.out hb1);have HG1:=hq_ (HBX.out.below hb1);have g0:=(HG1.out.cells 0).1;have q5:=Ext.cell HB1.out HQ3.out;clear hb1)|(go_at_call 81;refine (HBA.out _ HB1.out).mono ?_;rintro e w2 ⟨bb,rfl,hbar,hb2⟩;have HBAR:=hq_ hbar;have HB2:=hq_ (Et HB1.out hb2);have HG2:=hq_ (HG1.out.below hb2);clear hbar hb2;cases bb))
   ·
    go_roundw
    case rel=>exact ⟨k+1,oq_,by go_num,hq_ (by
     rw [HTK.out];intro t ht;rcases List.mem_append.1 ht with ht|ht
     ·exact HPRE.out t ht
     ·obtain rfl:=List.mem_singleton.1 ht;have h9:=HBAR.out;simpa using h9),HB2,HG2⟩
    case measure=>simp [intOf];omega
   ·
    go_ret;exact ⟨false,rfl,⟨fun h=>absurd h dq_,fun h=>absurd (h.2 xt HXM.out) (by have h9:=HBAR.out;simpa using h9)⟩,HB2.out⟩
  ·obtain rfl:k=L.length:=oq_;have HALL:Hid (∀ t∈L.map Prod.snd,¬ recT t):=hq_ (by have h:=HPRE.out;rwa [List.take_of_length_le (by have:=HLM.out;omega)] at h);go_wp2_with (go_at_call 17;(with_reducible refine (HV _ HBL.out).mono ?_);rintro e w1 ⟨rfl,hb1⟩)
   go_ret;exact ⟨true,rfl,⟨fun _=>⟨HQ.out,HALL.out⟩,fun _=>rfl⟩,Et HBL.out hb1⟩
theorem nl_ (s:Int) (F G:Nat->Prop) (v:Value) (t:List Per) (fh fc:Value) (f:Per) (w:World) (ht:ab_ w F v t) (hv:aw_ s t) (hl:t.length≤1000) (hf:PVok w G ⟨fh,fc,f⟩) (hff:FV s f) :
  Calls Tryz.prog 92 #[v,perV fh fc f.frm f.period] w fun e w'=>∃ v',e=.returned (.tuple #[v',.bool true])∧ab_ w' (fun b=>F b∨w.heap.size≤b) v' (wiP t f)∧Below w.heap.size w w':=by
 obtain ⟨a3,n3,c3,a4,n4,c4,rfl,rfl⟩:=hf.form;obtain ⟨L,rfl,hL⟩:=ht;have hlen:0<L.length:=List.length_pos_iff.2 fun e=>hv.ne (by rw [e];rfl);rw [List.length_map] at hl;obtain ⟨a1,c1,rfl,hx1,hx2,_⟩:=hL.row.is;have hlm:=hL.len;obtain ⟨b1,o1,x,ha,hx,hxp,hbz,e0,e1,e2,e3⟩:=hL.get hlen;subst ha;have hwi:wiP (L.map PV.p) f=(L.map PV.p).set 0 (bu_ x.p f):=by
  cases hLm:L.map PV.p with
  | nil=>exact absurd hLm hv.ne
  | cons p r=>rw [hLm] at hxp;rw [hxp];rfl
 have hfx:=hv.fv x.p (by rw [hxp];exact aa_ (by simpa using hlen));obtain ⟨xh,xc,xp⟩:=x;obtain ⟨ax1,nx1,cx1,ax2,nx2,cx2,rfl,rfl⟩:=hx.form;dsimp only at e0 e1 e2 e3 hfx hwi;have HMX:=hq_ (fun W (h:Below w.heap.size w W)=>show Calls _ _ #[.agg #[.slice ax1 nx1 cx1,.int .i64 xp.frm,.int .i64 xp.period,.slice ax2 nx2 cx2],.agg #[.slice a3 n3 c3,.int .i64 f.frm,.int .i64 f.period,.slice a4 n4 c4]] W (b6_ (bu_ xp f) W) from tg_ s (.slice ax1 nx1 cx1) (.slice ax2 nx2 cx2) (.slice a3 n3 c3) (.slice a4 n4 c4) xp f W (hx.is.ext h) (hf.is.ext h) hfx hff);have HFQ:=hq_ (hfx.minus hff);have HWI:=hq_ hwi;have HL:=hq_ hL;simp only [Nat.zero_mul,Nat.add_zero] at e0 e1 e2 e3;generalize bu_ xp f=q at *;clear hL hx hxp hwi hfx hff hf hv
 go_enter Tryz.func92,Tryz.ntmps92
 go_wp2_with fail
 go_loopw [6,7,8,9] (fun i _ _ _ wr=>i=.int .i64 0∧Hid (Below w.heap.size w wr)∧wr.cell? ⟨w.heap.size,0,none⟩=some (.slice a3 n3 c3)∧wr.cell? ⟨w.heap.size,1,none⟩=some (.int .i64 f.frm)∧wr.cell? ⟨w.heap.size,2,none⟩=some (.int .i64 f.period)∧wr.cell? ⟨w.heap.size,3,none⟩=some (.slice a4 n4 c4)) (fun i _ _ _ _=>L.length-(intOf i).toNat)
 case atStart=>exact ⟨rfl,hq_ xE,sq_,sq_,sq_,sq_⟩
 case round=>
  obtain ⟨rfl,HB,f0,f1,f2,f3⟩:=hrel;have e0:=Ext.cell HB.out e0;have e1:=Ext.cell HB.out e1;have e2:=Ext.cell HB.out e2;have e3:=Ext.cell HB.out e3;have hlI:(0:Int)<L.length:=oq_;have hz0:0<wr.heap.size:=by have:=World.block_lt_of_cell? wr _ f0;omega
  have hzw:w.heap.size≤wr.heap.size:=HB.out.size;have HMI:=hq_ (fun W (h:Below wr.heap.size wr W)=>HMX.out W (Et HB.out h));go_upto_region 4 with (fail)
  refine Code.wp_mono (Q:=fun e a' W'=>e=.normal∧(∃ (nb:Nat) (hv cv:Value) (y16 y17 y18 y19 y20 y21 y22 y23 y24:Value),a'=⟨#[.slice (some ⟨b1,o1,none⟩) L.length c1,perV (.slice a3 n3 c3) (.slice a4 n4 c4) f.frm f.period,undef,.pointer (some ⟨w.heap.size,0,none⟩),u4,u5,.int .i64 0,.pointer (some ⟨nb,0,none⟩),.int .i64 0,u9,.int .i64 0,.slice (some ⟨b1,o1,none⟩) L.length c1,.int .i64 ↑L.length,.bool true,u14,u15,y16,y17,y18,y19,y20,y21,y22,y23,y24,u25,u26,u27,u28,u29,u30,u31,u32,u33,u34],[]⟩∧Hid (MgP (wr.heap.size-1) q nb hv cv W'))∧Hid (Below wr.heap.size wr W')) ?imp ?reg
  case reg=>
   refine cx_ (w0:=wr) [0,1,2,3,4,5,6,7,8,9] 8 10 [11] (fun v=>⟨#[.slice (some ⟨b1,o1,none⟩) L.length c1,perV (.slice a3 n3 c3) (.slice a4 n4 c4) f.frm f.period,undef,.pointer (some ⟨w.heap.size,0,none⟩),u4,u5,.int .i64 0,v 9,u8,u9,.int .i64 0,.slice (some ⟨b1,o1,none⟩) L.length c1,.int .i64 ↑L.length,.bool true,u14,u15,v 6,v 0,v 1,v 2,v 3,v 4,v 5,v 7,v 8,u25,u26,u27,u28,u29,u30,u31,u32,u33,u34],[]⟩) [.slice (some ⟨b1,o1,none⟩) L.length c1,.int .i64 0,.pointer (some ⟨b1,o1,none⟩),.agg #[.slice ax1 nx1 cx1,.int .i64 xp.frm,.int .i64 xp.period,.slice ax2 nx2 cx2],.agg #[.slice a3 n3 c3,.int .i64 f.frm,.int .i64 f.period,.slice a4 n4 c4],undef,undef,undef,.int .i64 0,undef] [5,6,7,9] (fun i v lo hi W=>match i with|5=>∃ h c,v 5=.tuple #[perV h c q.frm q.period,.int .i64 0]∧e4_ W (lo 5) (hi 5) h c q|6=>v 6=v 5∧∃ h c,v 6=.tuple #[perV h c q.frm q.period,.int .i64 0]|7=>∃ h c,v 6=.tuple #[perV h c q.frm q.period,.int .i64 0]∧v 7=perV h c q.frm q.period|9=>v 9=.pointer (some ⟨lo 9,0,none⟩)∧lo 9<hi 9∧Bxx W (lo 9) #[.slice none 0 0,.int .i64 0,.int .i64 0,.slice none 0 0] 39|_=>True) (fun W=>W.cell? ⟨b1,o1,none⟩=some (.slice ax1 nx1 cx1)∧W.cell? ⟨b1,o1+1,none⟩=some (.int .i64 xp.frm)∧W.cell? ⟨b1,o1+2,none⟩=some (.int .i64 xp.period)∧W.cell? ⟨b1,o1+3,none⟩=some (.slice ax2 nx2 cx2)∧W.cell? ⟨w.heap.size,0,none⟩=some (.slice a3 n3 c3)∧W.cell? ⟨w.heap.size,1,none⟩=some (.int .i64 f.frm)∧W.cell? ⟨w.heap.size,2,none⟩=some (.int .i64 f.period)∧W.cell? ⟨w.heap.size,3,none⟩=some (.slice a4 n4 c4)) (fun W hb=>⟨Ext.cell hb e0,Ext.cell hb e1,Ext.cell hb e2,Ext.cell hb e3,Ext.cell hb f0,Ext.cell hb f1,Ext.cell hb f2,Ext.cell hb f3⟩) ?stab ?loc ?steps ?fin ?fin2 (fun j=>match j with|0=>u17|1=>u18|2=>u19|3=>u20|4=>u21|5=>u22|6=>u16|7=>u23|8=>u24|9=>u7|_=>undef)
   case stab=>
    refine ⟨?_,?_,?_,?_,trivial⟩
    ·intro v lo hi W W' h hb;exact (let ⟨x1,x2,e,hp⟩:=h;⟨x1,x2,e,hp.below hb⟩)
    ·intro v lo hi W W' h hb;exact h
    ·intro v lo hi W W' h hb;exact h
    ·intro v lo hi W W' h hb;exact ⟨h.1,h.2.1,h.2.2.below hb⟩
   case loc=>
    refine ⟨?_,?_,?_,?_,trivial⟩
    ·intro v v' lo lo' hi hi' W hag h;have q:=hag 5 (.inl rfl)
     (try dsimp only at h ⊢)
     simp only [q.1,q.2.1,q.2.2] at h;exact h
    ·intro v v' lo lo' hi hi' W hag h;have q:=hag 6 (.inl rfl);have q5:=hag 5 (.inr (Rdp (by kernel_rfl)))
     (try dsimp only at h ⊢)
     simp only [q.1,q.2.1,q.2.2,q5.1,q5.2.1,q5.2.2] at h;exact h
    ·intro v v' lo lo' hi hi' W hag h;have q:=hag 7 (.inl rfl);have q6:=hag 6 (.inr (Rdp (by kernel_rfl)))
     (try dsimp only at h ⊢)
     simp only [q.1,q.2.1,q.2.2,q6.1,q6.2.1,q6.2.2] at h;exact h
    ·intro v v' lo lo' hi hi' W hag h;have q:=hag 9 (.inl rfl)
     (try dsimp only at h ⊢)
     simp only [q.1,q.2.1,q.2.2] at h;exact h
   case steps=>
    clear e0 e1 e2 e3 f0 f1 f2 f3;refine .c [] [] rfl ?_ (.c [] [] rfl ?_ (.c [0,1] [] rfl ?_ (.c [2] [] rfl ?_ (.c [] [] rfl ?_ (.c [3,4] [] rfl ?_ (.c [] [5] rfl ?_ (.c [] [6] rfl ?_ (.c [] [6] rfl ?_ (.c [] [] rfl ?_ (.n))))))))))
    all_goals try exact stl
    ·rintro v lo hi W hb ⟨s0,s1,s2,s3,t0,t1,t2,t3⟩ _;refine ⟨rfl,fun K hK=>?_⟩;simp only [ov,vat,Nat.reduceBEq,cond_true,cond_false];go_wp2_with (go_at_call 135;(with_reducible refine (HMI.out _ hb).mono ?_);rintro e w9 ⟨h',c',rfl,ho,hb9⟩)
     exact acx (hK (.tuple #[perV h' c' q.frm q.period,.int .i64 0]) w9 hb9 ⟨h',c',rfl,ho.at⟩) (by simp [ov,vat,upd])
    ·rintro v lo hi W hb ⟨s0,s1,s2,s3,t0,t1,t2,t3⟩ ⟨⟨la5,lb5,D5⟩,_⟩;refine ⟨rfl,fun K hK=>?_⟩;simp only [ov,vat,Nat.reduceBEq,cond_true,cond_false]
     (try dsimp only at D5)
     obtain ⟨h8,c8,e8,_⟩:=D5;go_wp2_with fail
     exact acx (hK (v 5) W (Below.refl _ _) ⟨rfl,h8,c8,e8⟩) (by simp [ov,vat,upd,e8])
    ·rintro v lo hi W hb ⟨s0,s1,s2,s3,t0,t1,t2,t3⟩ ⟨⟨la6,lb6,D6⟩,_⟩;refine ⟨rfl,fun K hK=>?_⟩;simp only [ov,vat,Nat.reduceBEq,cond_true,cond_false]
     (try dsimp only at D6)
     obtain ⟨-,h9,c9,e9⟩:=D6;simp only [e9];go_wp2_with fail
     exact acx (hK (perV h9 c9 q.frm q.period) W (Below.refl _ _) ⟨h9,c9,e9,rfl⟩) (by simp [ov,vat,upd,e9])
    ·rintro v lo hi W hb ⟨s0,s1,s2,s3,t0,t1,t2,t3⟩ ⟨⟨la6,lb6,D6⟩,_⟩;refine ⟨rfl,fun K hK=>?_⟩;simp only [ov,vat,Nat.reduceBEq,cond_true,cond_false]
     (try dsimp only at D6)
     obtain ⟨-,h9,c9,e9⟩:=D6;simp only [e9];go_wp2_with fail
     exact acx (hK W (Below.refl _ _)) (by simp [ov,vat,upd,e9])
    ·rintro v lo hi W hb ⟨s0,s1,s2,s3,t0,t1,t2,t3⟩ _;refine ⟨rfl,fun K hK=>?_⟩;simp only [ov,vat,Nat.reduceBEq,cond_true,cond_false];go_wp2_with fail
     exact hK (.pointer (some ⟨W.heap.size,0,none⟩)) _ (Ea (Er _) _) ⟨rfl,sq_,Bxx.new _ _ _⟩
   case fin=>
    rintro v lo hi9 W5 hb5-hf hap;show wpList _ _ _ [_,_] _ _;obtain ⟨l8,-,h8,h,c,e8,hp8⟩:=hf 5 rfl;obtain ⟨-,-,-,e9,-⟩:=hf 6 rfl;obtain ⟨-,-,-,h',c',e9',e10⟩:=hf 7 rfl;have e11:v 8=.int .i64 0:=(hf 8 rfl).2.2.2;obtain ⟨l12,-,h12,e12,lt12,hbox⟩:=hf 9 rfl;have hd:=hap 5 9 rfl rfl dq_;clear hf hap;rw [e9,e8] at e9';obtain ⟨rfl,rfl⟩:h=h'∧c=c':=by simpa [perV] using e9'
    dsimp only;rw [e10,e11,e12];clear e10 e11 e12 e9 e9' e8;obtain ⟨nb,hnb⟩:∃ nb,nb=lo 9:=⟨_,rfl⟩;rw [<- hnb] at hd hbox l12 lt12 ⊢;have hpi:=hp8.inn;generalize lo 5=l8v at *;generalize hi9 5=h8v at *;generalize hi9 9=h12v at *;clear hnb hp8;obtain ⟨a5,m5,a6,m6,rfl,rfl⟩:=hpi.form;have r0:=hbox.cells 0;have r1:=hbox.cells 1;have r2:=hbox.cells 2;have r3:=hbox.cells 3;have HMG:=hq_ (MgP.of (B:=wr.heap.size-1) hpi HFQ.out oq_ hbox oq_ oq_);have HB5:=hq_ hb5;clear hbox hpi hd;generalize v 0=zz0,v 1=zz1,v 2=zz2,v 3=zz3,v 4=zz4,v 5=zz5,v 6=zz6;go_wp2_with fail
    exact ⟨⟨_,_,HMG⟩,hq_ (by have hb5:=HB5.out;exact xE)⟩
   case fin2=>
    rintro v lo hi9 W5 hb5-hf hap;obtain ⟨l8,-,h8,h,c,e8,hp8⟩:=hf 5 rfl dq_;obtain ⟨-,-,-,e9,-⟩:=hf 6 rfl dq_;obtain ⟨-,-,-,h',c',e9',e10⟩:=hf 7 rfl dq_;obtain ⟨l12,-,h12,e12,lt12,hbox⟩:=hf 9 rfl dq_;have hd:=hap 5 9 rfl rfl dq_ dq_ dq_;clear hf hap;rw [e9,e8] at e9';obtain ⟨rfl,rfl⟩:h=h'∧c=c':=by simpa [perV] using e9'
    have e99:=e9.trans e8;dsimp only;rw [e10,e12,e99];clear e10 e12 e9 e9' e8 e99;obtain ⟨nb,hnb⟩:∃ nb,nb=lo 9:=⟨_,rfl⟩;rw [<- hnb] at hd hbox l12 lt12 ⊢;have hpi:=hp8.inn;generalize lo 5=l8v at *;generalize hi9 5=h8v at *;generalize hi9 9=h12v at *;clear hnb hp8;obtain ⟨a5,m5,a6,m6,rfl,rfl⟩:=hpi.form;have r0:=hbox.cells 0;have r1:=hbox.cells 1;have r2:=hbox.cells 2;have r3:=hbox.cells 3;have HMG:=hq_ (MgP.of (B:=wr.heap.size-1) hpi HFQ.out oq_ hbox oq_ oq_);have HB5:=hq_ hb5;clear hbox hpi hd;generalize v 0=zz0,v 1=zz1,v 2=zz2,v 3=zz3,v 4=zz4,v 5=zz5,v 8=zz8;constructor
    ·show wpList _ _ _ [_,_,_] _ _;go_wp2_with fail
     exact ⟨⟨_,_,HMG⟩,hq_ (by have hb5:=HB5.out;exact xE)⟩
    ·show wpList _ _ _ [_,_,_] _ _;go_wp2_with fail
     exact ⟨⟨_,_,HMG⟩,hq_ (by have hb5:=HB5.out;exact xE)⟩
  case imp=>
   rintro e a' W6 ⟨rfl,⟨nb,hv9,cv9,y16,y17,y18,y19,y20,y21,y22,y23,y24,rfl,HP⟩,HB6⟩;obtain ⟨a5,n5,m5,a6,n6,m6,rfl,rfl⟩:=HP.out.ok.form;have p0:=HP.out.c0;have p1:=HP.out.c1;have p2:=HP.out.c2;have p3:=HP.out.c3;have HE6:=hq_ (Et HB.out HB6.out);have hz6:W6.heap.size≤(W6.alloc (.cells #[] 39)).heap.size:=by simp
   have hz7:=HB6.out.size;have hown0:=World.ownsRow_lit (base:=W6.heap.size) (e:=39) (size:=4) W6 #[] 0 (Nat.le_refl _) (by unfold maxLen;omega) rfl;have HROW:=hq_ ((HL.out.row.keep (a5_.below HE6.out) HE6.out.size).keep (a5_.below (Ea (Er W6) (.cells #[] 39))) hz6);have HONE:=hq_ HL.out.cells_one;go_wp2_with (at_builtin;refine by_ rq_ _ _ rq_ W6.heap.size (.slice (some ⟨W6.heap.size,0,none⟩) 0 0) (.slice (some ⟨b1,o1,none⟩) L.length c1) 0 L.length [] (L.flatMap PV.enc) F rq_ hown0 rq_ HROW.out c3_ HONE.out oq_ hz6 ?_;intro v7 w7 hown7 hgrow7;rw [Nat.zero_add,List.nil_append] at hown7;have hb7:=(Ea (Er W6) (.cells #[] 39)).grown hgrow7 hz6 (fun k e=>(hown0.lt k e).1);obtain ⟨hl7,⟨he,h0⟩|⟨g,cap,cur,he,hg1,hg,h6,h7,h8,h9⟩⟩:=hown7;(exfalso;omega);cases he;(have s0:=Ext.cell hb7 p0);(have s1:=Ext.cell hb7 p1);(have s2:=Ext.cell hb7 p2);(have s3:=Ext.cell hb7 p3);(have hr5:Row5 (fun b=>(F b∨w.heap.size≤b)∧b<W6.heap.size) g cap w7 L:=⟨⟨hl7,.inr ⟨g,cap,cur,rfl,Nat.zero_le _,hg,h6,h7,h8,h9⟩⟩,fun x hx=>(((HL.out.lt.all x hx).keep (a5_.below HE6.out)).keep (a5_.below hb7)).mono fun q' hq'=>⟨⟨.inl hq'.1,by have:=hq'.2;have:=HE6.out.size;omega⟩,by have:=hq'.2;have:=HE6.out.size;omega⟩,oq_⟩);(have hpv:PVok w7 (fun b'=>((F b'∨w.heap.size≤b')∧b'<W6.heap.size)∧b'≠g) ⟨.slice a5 n5 m5,.slice a6 n6 m6,q⟩:=(HP.out.ok.lt.keep (a5_.below hb7)).mono fun b' hb'=>⟨⟨.inr (by have:=hb'.1;omega),hb'.2⟩,by have:=hb'.2;omega⟩);(have hset:=hr5.set (j:=0) (x:=⟨.slice a5 n5 m5,.slice a6 n6 m6,q⟩) hlen hpv);simp only [Nat.zero_mul,Nat.zero_add] at hset;(have HSET:=hq_ hset);(have k0:=(hr5.row.cellAt 0 oq_).trans (av_ (j:=0) (i:=0) hlen rfl));(have k1:=(hr5.row.cellAt 1 oq_).trans (av_ (j:=0) (i:=1) hlen rfl));(have k2:=(hr5.row.cellAt 2 oq_).trans (av_ (j:=0) (i:=2) hlen rfl));(have k3:=(hr5.row.cellAt 3 oq_).trans (av_ (j:=0) (i:=3) hlen rfl));(have l0:=hr5.row.frozenAt 0);(have l1:=hr5.row.frozenAt 1);(have l2:=hr5.row.frozenAt 2);(have l3:=hr5.row.frozenAt 3);(have HB7:=hq_ hb7);(have hgz:W6.heap.size≤g:=hg1);clear hr5 hpv hset hb7 hgrow7 hl7 hg1 hg h6 h7 h8 h9)
   go_ret2;have hB7:Below W6.heap.size W6 w7:=HB7.out;have hb8:=hB7.trans (ei_ w7 (i:=0) hgz (.slice a5 n5 m5) (.int .i64 q.frm) (.int .i64 q.period) (.slice a6 n6 m6));refine ⟨_,rfl,⟨L.set 0 ⟨.slice a5 n5 m5,.slice a6 n6 m6,q⟩,by rw [List.map_set,HWI.out],?_⟩,Et HE6.out hb8⟩;have h1:=HSET.out.term;rw [List.length_set] at h1;exact h1.mono fun b hb=>hb.elim (fun h=>h.1) fun e=>.inr oq_
end Go.Proofs.YthjnojbeimchdaaGreat
end
