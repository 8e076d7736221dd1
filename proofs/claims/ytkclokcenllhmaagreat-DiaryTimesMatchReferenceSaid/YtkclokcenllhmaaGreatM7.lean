/- Part 7 of the proof of the laws. -/
import Derived.Test.YtkclokcenllhmaaGreatM6
import Derived.Test.YtkclokcenllhmaaGreatM4
import Derived.Test.YtkclokcenllhmaaGreatM5
import Derived.Laws.CopyRow
import Derived.Shelf.Spec.SlicesInsert
import Derived.Lib.AppendZerosOnto
import Derived.Test.YtkclokcenllhmaaGreatM2
import Derived.Test.YtkclokcenllhmaaGreatM1
import Derived.Deep.QuietTactic
import Derived.BigQuiet
set_option linter.unusedVariables false
set_option linter.unusedSimpArgs false
set_option maxRecDepth 100000
set_option maxHeartbeats 4000000
section
variable {ok:Bool}{a b f:Int}{R xs:List Go.Value}{B c g i k n:Nat}{e:Go.TypeId}{u v v':Go.Value}{W W' w w1:Go.World}
namespace Go.Proofs.YtkclokcenllhmaaGreat
open Go.RowKit Go.Maps Kal
open Classical in
def tr_ (kp:Bool->Bool->Bool) (a b:List Spn) (w:World) (e:Ending) (w':World):Prop:=
 ∃ v N,e=.returned v∧NS N∧(∀ t,SpM N t↔kp (decide (SpM a t)) (decide (SpM b t))=true)∧N.length≤2*(a.length+b.length)∧SpnL w' (fun k=>w.heap.size≤k) v N∧Below w.heap.size w w'
theorem oc_ {F:Nat->Prop} {a:Option Addr} {D:List Bnd} (h:RowR W F (.slice a n c) D.length (D.flatMap benc)) (hk:k<D.length) :
  ∃ b o p q d,a=some ⟨b,o,none⟩∧F b∧D[k]? = some ⟨p,q,d⟩∧W.cell? ⟨b,o+k*3,none⟩=some (.int .i64 p)∧W.cell? ⟨b,o+k*3+1,none⟩=some (.int .i64 q)∧W.cell? ⟨b,o+k*3+2,none⟩=some (.int .i64 d):=by
 obtain ⟨a',c',he,h1,h2,h3⟩:=h.is;injection he with e1 _ e2
 subst e1;subst e2;rcases h3 with h3|⟨b,o,rfl,hF,hl,hc⟩
 ·omega
 ·refine ⟨b,o,(D.getD k default).p,(D.getD k default).k,(D.getD k default).d,rfl,hF,by rw [List.getD_eq_getElem?_getD,List.getElem?_eq_getElem hk];rfl,hc (k*3+0) _ (a7_ fu_ default hk rfl),hc (k*3+1) _ (a7_ fu_ default hk rfl),hc (k*3+2) _ (a7_ fu_ default hk rfl)⟩
theorem SpnL.clip {F:Nat->Prop} {a:Option Addr} {l:List Spn} (h:SpnL W F (.slice a n c) l):SpnL W F (.slice a n n) l:=by
 obtain ⟨a',c',he,h1,h2,h3⟩:=h.row.is;injection he with e1 e2 e3
 subst e1;subst e2;subst e3;exact ⟨⟨_,_,rfl,oq_,oq_,h3⟩,h.len,h.all⟩
theorem ji_ {A:Nat->Prop} {o:List Spn} (h:OwnS B A W (.slice (some ⟨g,0,none⟩) n c) o) (k:Nat):W.frozen? ⟨g,k,none⟩=false:=by
 obtain ⟨_,⟨h,_⟩|⟨g',cap',cur,e,_,hh,_⟩⟩:=h.row
 ·cases h
 ·injection e with e _ _
  injection e with e
  injection e with e _ _
  subst e;simp [World.frozen?,hh]
theorem OwnG.setTo {A:Nat->Prop} {r:List Spn} {t t':Int} (h:OwnS B A W (.slice (some ⟨g,0,none⟩) n c) (r ++ [(f,t)])) (ht:InI t'):OwnS B A (W.setCell ⟨g,r.length*2+1,none⟩ (.int .i64 t')) (.slice (some ⟨g,0,none⟩) n c) (r ++ [(f,t')]):=by
 obtain rfl:n=(r ++ [(f,t)]).length:=by obtain ⟨a,c',e,_⟩:=h.form;injection e
 have e:((r ++ [(f,t)]).flatMap senc).set (r.length*2+1) (.int .i64 t')=(r ++ [(f,t')]).flatMap senc:=by
  rw [List.flatMap_append,List.flatMap_append,List.set_append_right _ _ (by rw [bg_ er_];omega),bg_ er_,show r.length*2+1-r.length*2=1 by omega];rfl
 refine ⟨?_,fun z hz=>?_,h.ne,by have:=h.len;simpa using this⟩
 ·rw [<- e,show (r ++ [(f,t')]).length=(r ++ [(f,t)]).length by simp];exact (h.row.stored (r.length*2+1) (.int .i64 t')).1
 ·rcases List.mem_append.1 hz with hz|hz
  ·exact h.all z (by simp [hz])
  ·obtain rfl:z=(f,t'):=by simpa using hz
   exact ⟨(h.all (f,t) sq_).1,ht⟩
theorem t7_ (F G:Nat->Prop) (v1 v2:Value) (l1 l2:List Spn) (fn:Nat) (kp:Bool->Bool->Bool) (w:World) (h1:SpnL w F v1 l1) (h2:SpnL w G v2 l2) (hn:l1.length+l2.length≤400000) (hkf:kp false false=false)
  (eg:∀ args w,(callFunc fn args).run Tryz.prog w=.ok (.enter fn args) w) (hkp:∀ (W:World) (x y:Bool),Calls Tryz.prog fn #[.bool x,.bool y] W fun e w'=>e=.returned (.bool (kp x y))∧w'=W) :
  Calls Tryz.prog 125 #[v1,v2,.func (.func fn) #[] #[]] w (tr_ kp l1 l2 w):=by
 have HBD:=hq_ (pa_ F G v1 v2 l1 l2 w h1 h2 hn);obtain ⟨a1,c1,rfl⟩:=h1.form;obtain ⟨a2,c2,rfl⟩:=h2.form;have HKP:=hq_ hkp;have HKF:=hq_ hkf;have HN:=hq_ hn;obtain ⟨iS,iS1,iS2,iS3,iS4⟩:=fl_;have HIS:=hq_ (And.intro iS1 (And.intro iS2 (And.intro iS3 iS4)));clear h1 h2 hkp hkf iS1 iS2 iS3 iS4 hn
 go_enter Tryz.func125,Tryz.ntmps125
 obtain ⟨hW1⟩:∃ _:True,True:=⟨trivial,trivial⟩;go_wp2_with (first|(go_at_call 176;(with_reducible refine HBD.out.mono ?_);rintro e w1 ⟨bv,D,rfl,hp,hs,hi,hl,hr,hb1⟩;obtain ⟨ba,bc,rfl,hbc⟩:=hr.is;have HP:=hq_ hp;have HS:=hq_ hs;have HI:=hq_ hi;have HR:=hq_ hr;have HB1:=hq_ hb1;have hD1:D.length≤800000:=(by have:=HN.out;omega);have HDL:=hq_ hl;have HU:=hq_ (vh_ hp);clear hp hs hi hr hb1 hl hbc)|((refine wpList_make_own _ rq_ _ _ _ rq_ w1.heap.size _ iS _ 2 Tryz.underlying31 HIS.out.1 HIS.out.2.1 HIS.out.2.2.1 .i64 .i64 _ D.length rq_ rq_ rfl (by rw [HIS.out.2.2.2];omega) (by unfold maxLen;omega) (Nat.le_refl _) ?_);intro wm hrow hgm;have HROW:=hq_ hrow;have HGM:=hq_ hgm;clear hrow hgm))
 obtain ⟨ob,hob⟩:∃ k,k=wm.heap.size:=⟨_,rfl⟩;have hlo:w1.heap.size<wm.heap.size:=(HROW.out.lt _ rfl).2;have hO0:OwnS w1.heap.size (fun k=>k=ob) wm (.slice (some ⟨w1.heap.size,0,none⟩) 0 D.length) []:=⟨HROW.out,sq_,fun g e=>by cases e;show ¬ (w1.heap.size=ob);omega,sq_⟩;have hb0:Below w1.heap.size w1 (wm.alloc (.cells #[.int .i64 0,.int .i64 0] 187)):=Et ⟨HGM.out.os,HGM.out.tape,HGM.out.output,HGM.out.size,fun k hk=>HGM.out.block k hk sq_⟩ (Ea (Er _) _);have hx0:Bxx (wm.alloc (.cells #[.int .i64 0,.int .i64 0] 187)) ob #[.int .i64 0,.int .i64 0] 187:=by rw [hob];exact Bxx.new _ _ _
 have HO0:=hq_ (hO0.below a8_ (Ea (Er wm) (.cells #[.int .i64 0,.int .i64 0] 187)));have HX0:=hq_ hx0;have HB0:=hq_ hb0;have hob1:w1.heap.size<ob:=oq_;clear hO0 hb0 hx0 HROW HGM;rw [<- hob];generalize wm.alloc (.cells #[.int .i64 0,.int .i64 0] 187)=wz at *;clear hob hlo;go_loopw [8,10,11,12,21] (fun ov _ _ _ iv wr=>∃ (i:Nat) (o:List Spn),i≤D.length∧iv=.int .i64 i∧o.length≤i∧Hid (OwnS w1.heap.size (fun k=>k=ob) wr ov o)∧Hid (Bxx wr ob #[.int .i64 (opn (D.take i) 0),.int .i64 (opn (D.take i) 1)] 187)∧Hid (Below w1.heap.size w1 wr)∧Hid (∃ i',SwI kp D i' o∧(i'=i∨(i=D.length∧D.length≤i'+1)))) (fun _ _ _ _ iv _=>D.length-(intOf iv).toNat)
 case atStart=>exact ⟨0,[],oq_,rfl,sq_,HO0,HX0,HB0,hq_ ⟨0,SwI.start HKF.out HS.out (.inr trivial),.inl rfl⟩⟩
 case round=>
  obtain ⟨i,o,hi,rfl,hol,HO,HX,HB,HW⟩:=hrel;obtain ⟨oa,oc,rfl,hoc,hoc2,-⟩:=HO.out.form;have hwz:=HB.out.size;have hxl:=HX.out.lt;by_cases hlt:i<D.length
  ·have hlI:(i:Int)<D.length:=oq_;have HRW:=hq_ (HR.out.keep (W':=wr) (a3_.below HB.out) HB.out.size);obtain ⟨b,f,p,q,d,rfl,hbw,hDi,e0,e1,e2⟩:=oc_ HRW.out hlt;obtain ⟨hq,hd⟩:=HU.out _ (List.mem_of_getElem? hDi);dsimp only at hq hd;obtain ⟨κ,hκ,rfl⟩:∃ κ:Nat,κ<2∧q=κ:=by
    rcases hq with rfl|rfl
    ·exact ⟨0,oq_,rfl⟩
    ·exact ⟨1,oq_,rfl⟩
   have hκI:(κ:Int)<2:=oq_;have hsw:SwI kp D i o:=by
    obtain ⟨i',h1,h2|h2⟩:=HW.out
    ·rw [<- h2];exact h1
    ·omega
   have HSW:=hq_ hsw;have HDI:=hq_ hDi;have HT0:=hq_ (mp_ hDi 0);have HT1:=hq_ (mp_ hDi 1);have hA:-800000≤opn (D.take i) κ∧opn (D.take i) κ≤800000:=by
    have:=sj_ (k:=(κ:Int)) (l:=D.take i) fun x hx=>HU.out x (List.mem_of_mem_take hx);rw [List.length_take] at this;omega
   have hcl:∀ W:World,Bxx W ob #[.int .i64 (opn (D.take i) 0),.int .i64 (opn (D.take i) 1)] 187->W.cell? ⟨ob,κ,none⟩=some (.int .i64 (opn (D.take i) κ))∧W.frozen? ⟨ob,κ,none⟩=false:=fun W h=>by
    have e:κ=0∨κ=1:=oq_;rcases e with rfl|rfl
    ·exact h.cells 0
    ·exact h.cells 1
   have HCL:=hq_ hcl;have hsd:-1000000≤opn (D.take i) κ+d∧opn (D.take i) κ+d≤1000000:=by rcases hd with rfl|rfl <;> omega
   have HST:Hid (∀ W:World,Bxx W ob #[.int .i64 (opn (D.take i) 0),.int .i64 (opn (D.take i) 1)] 187->Bxx (W.setCell ⟨ob,κ,none⟩ (.int .i64 (opn (D.take i) κ+d))) ob #[.int .i64 (opn (D.take (i+1)) 0),.int .i64 (opn (D.take (i+1)) 1)] 187):=hq_ fun W h=>by
    have e:κ=0∨κ=1:=oq_;rw [HT0.out,HT1.out];rcases e with rfl|rfl
    ·simpa [Bxx] using a0_ 0 (.int .i64 (opn (D.take i) 0+d)) h
    ·simpa [Bxx] using a0_ 1 (.int .i64 (opn (D.take i) 1+d)) h
   obtain ⟨A,hAe⟩:∃ A,A=opn (D.take i) κ:=⟨_,rfl⟩;rw [<- hAe] at hcl hA hsd HCL HST;clear hq hDi hsw hcl hAe;go_upto_region 7 with (fail)
   generalize hW2:wr.alloc _=w2;have hE2:Below wr.heap.size wr w2:=by rw [<- hW2];exact xE
   have hbx:Bxx w2 wr.heap.size #[.int .i64 p,.int .i64 (κ:Int),.int .i64 d] 226:=by rw [<- hW2];exact Bxx.at rfl
   have x1:=(hbx.cells 1).1;have x2:=(hbx.cells 2).1;have z0:=(HCL.out w2 (HX.out.below hE2)).1;have HE2:=hq_ hE2;have HBX:=hq_ hbx;clear hW2 hE2 hbx;refine a9_ (w0:=w2) [0,1,2,3,4,5,6,7] [8] [26,27,28,29,30,31,32,33] [.pointer (some ⟨wr.heap.size,1,none⟩),.int .i64 (κ:Int),.pointer (some ⟨ob,κ,none⟩),.int .i64 A,.pointer (some ⟨wr.heap.size,2,none⟩),.int .i64 d,.int .i64 (A+d),.pointer (some ⟨ob,κ,none⟩)] [[],[0],[1],[2],[],[4],[3,5],[1]] (.a x1 (.a x2 (.a z0 (.b)))) ?steps7 ?fin7
   case steps7=>
    repeat' first|exact .n|refine .c ?_ ?_|fail
    all_goals try exact stp
   case fin7=>
    rintro W3 hb3 ⟨g0,g1,g2,g3⟩;show wpList _ _ _ [_] _ _;simp only [vat];have hz3:=(Et HE2.out g3).size;have hf0:=(HCL.out W3 (HX.out.below (Et HE2.out g3))).2;go_upto_region 8 with (fail)
    have hg4:World.grownBy W3 (W3.setCell ⟨ob,κ,none⟩ (.int .i64 (A+d))) (some ob):=World.grownBy.set' (World.grownBy.refl _ _) _;have HO4:=hq_ ((HO.out.below a8_ (Et HE2.out g3)).box a8_ hg4 rfl);have HX4:=hq_ (HST.out W3 (HX.out.below (Et HE2.out g3)));have HB4:=hq_ ((HB.out.trans ((Et HE2.out g3).mono hwz)).grown hg4 oq_ fun q e=>by cases e;omega);have HBX4:=hq_ ((HBX.out.below g3).grown hg4 (by intro e;injection e with e;omega));have hrz:=hg4.size;clear hf0 g0 g1 g2 g3 x1 x2 z0 hg4 HCL HST HX hb3;generalize W3.setCell ⟨ob,κ,none⟩ (.int .i64 (A+d))=w4 at *;obtain ⟨N0,hN0⟩:∃ N0,N0=opn (D.take (i+1)) 0:=⟨_,rfl⟩;obtain ⟨N1,hN1⟩:∃ N1,N1=opn (D.take (i+1)) 1:=⟨_,rfl⟩;have hx4:=HX4.out;rw [<- hN0,<- hN1] at hx4;have HXN:=hq_ hx4;have HLT:=hq_ (show i+1≤D.length by omega);have x0:=(HBX4.out.cells 0).1;have z0:=(hx4.cells 0).1;have z1:=(hx4.cells 1).1;clear hx4;by_cases hlast:i+1=D.length
    ·have hlaI:(i:Int)+1=D.length:=oq_;refine a9_ (w0:=w4) [0,1,2,3,4,5,6,7,8,9,10,11,12,13,14,15,16,17,18,19,20,21,22,23,24,25,26] [] [34,35,36,37,38,39,40,41,42,43,44,45,46,47,48,49,50,51,52,53,54,55,56,57,58,59,60] [.int .i64 (i:Int),.int .i64 ((i:Int)+1),.slice (some ⟨b,f,none⟩) D.length bc,.int .i64 (D.length:Int),.bool true,.bool true,undef,undef,undef,undef,undef,undef,undef,undef,undef,.bool true,.bool true,undef,undef,undef,undef,undef,undef,undef,undef,undef,.bool true] [[],[0],[],[2],[1,3],[4],[5],[5],[5,7],[5,6,8],[5,9],[5,10],[5],[5,12],[5,11,13],[5,14],[15],[16],[16],[16,18],[16,19],[16],[16,21],[16,22],[16,17,20,23],[16,24],[16,25]] (.b) ?steps8 ?fin8
     case steps8=>
      repeat' first|exact .n|refine .c ?_ ?_|fail
      all_goals try exact stp
     case fin8=>
      rintro W5 hb5 g0;show wpList _ _ _ [] _ _;simp only [vat];go_wp2_with fail
      go_roundw
      case rel=>exact ⟨i+1,o,HLT.out,by go_num,oq_,hq_ (HO4.out.below a8_ g0),hq_ (HX4.out.below g0),hq_ (Et HB4.out g0),hq_ ⟨i,HSW.out,.inr ⟨hlast,oq_⟩⟩⟩
      case measure=>have:=HLT.out;simp [intOf];omega
    ·have hl2:i+1<D.length:=oq_;have hl2I:(i:Int)+1<D.length:=oq_;have hlaI:¬ (i:Int)+1=D.length:=oq_;obtain ⟨b',f',p2,q2,d2,hbf,hbw2,hDi2,y0,-,-⟩:=oc_ (HR.out.keep (W':=w4) (a3_.below HB4.out) HB4.out.size) hl2;injection hbf with hbf
     injection hbf with hbb hff _
     subst hbb;subst hff;have hpp:p≤p2:=List.pairwise_iff_getElem.1 HS.out i (i+1) oq_ hl2 oq_ |> fun h=>by
      obtain ⟨_,h1⟩:=List.getElem?_eq_some_iff.1 HDI.out;obtain ⟨_,h2⟩:=List.getElem?_eq_some_iff.1 hDi2;rw [h1,h2] at h;exact h
     have HPI:Hid (InI p∧InI p2):=hq_ ⟨HI.out _ (List.mem_of_getElem? HDI.out),HI.out _ (List.mem_of_getElem? hDi2)⟩;have HDI2:=hq_ hDi2;clear hDi2;by_cases hpe:p2=p
     ·subst hpe;refine a9_ (w0:=w4) [0,1,2,3,4,5,6,7,8,9,10,11,12,13,14,15,16,17,18,19,20,21,22,23,24,25,26] [] [34,35,36,37,38,39,40,41,42,43,44,45,46,47,48,49,50,51,52,53,54,55,56,57,58,59,60] [.int .i64 (i:Int),.int .i64 ((i:Int)+1),.slice (some ⟨b,f,none⟩) D.length bc,.int .i64 (D.length:Int),.bool false,.bool false,.slice (some ⟨b,f,none⟩) D.length bc,.int .i64 (i:Int),.int .i64 ((i:Int)+1),.pointer (some ⟨b,f+(i+1)*3,none⟩),.pointer (some ⟨b,f+(i+1)*3,none⟩),.int .i64 p2,.pointer (some ⟨wr.heap.size,0,none⟩),.int .i64 p2,.bool true,.bool true,.bool true,undef,undef,undef,undef,undef,undef,undef,undef,undef,.bool true] [[],[0],[],[2],[1,3],[4],[5],[5],[5,7],[5,6,8],[5,9],[5,10],[5],[5,12],[5,11,13],[5,14],[15],[16],[16],[16,18],[16,19],[16],[16,21],[16,22],[16,17,20,23],[16,24],[16,25]] (.a x0 (.a y0 (.a z0 (.a z1 (.b))))) ?steps8 ?fin8
      case steps8=>
       repeat' first|exact .n|refine .c ?_ ?_|fail
       all_goals try exact stp
      case fin8=>
       rintro W5 hb5 ⟨g0,g1,g2,g3,g4⟩;show wpList _ _ _ [] _ _;simp only [vat];go_wp2_with fail
       go_roundw
       case rel=>exact ⟨i+1,o,HLT.out,by go_num,oq_,hq_ (HO4.out.below a8_ g4),hq_ (HX4.out.below g4),hq_ (Et HB4.out g4),hq_ ⟨i+1,HSW.out.same HDI.out HDI2.out rfl,.inl rfl⟩⟩
       case measure=>have:=HLT.out;simp [intOf];omega
     ·have hplt:p<p2:=oq_;obtain ⟨b0,hb0⟩:∃ b0,decide (0<N0)=b0:=⟨_,rfl⟩;obtain ⟨b1,hb1⟩:∃ b1,decide (0<N1)=b1:=⟨_,rfl⟩;obtain ⟨kb,hkb⟩:∃ kb,kp b0 b1=kb:=⟨_,rfl⟩;have HKQ:Hid (∀ W:World,Calls Tryz.prog fn #[.bool b0,.bool b1] W fun e w'=>e=.returned (.bool kb)∧W=w'):=hq_ fun W=>(HKP.out W b0 b1).mono fun e w' h=>⟨by rw [<- hkb];exact h.1,h.2.symm⟩;have HKB:Hid (kp (decide (0<opn (D.take (i+1)) 0)) (decide (0<opn (D.take (i+1)) 1))=kb):=hq_ (by rw [<- hN0,<- hN1,hb0,hb1];exact hkb);clear hkb hN0 hN1;refine a9_ (w0:=w4) [0,1,2,3,4,5,6,7,8,9,10,11,12,13,14,15,16,17,18,19,20,21,22,23,24,25,26] [] [34,35,36,37,38,39,40,41,42,43,44,45,46,47,48,49,50,51,52,53,54,55,56,57,58,59,60] [.int .i64 (i:Int),.int .i64 ((i:Int)+1),.slice (some ⟨b,f,none⟩) D.length bc,.int .i64 (D.length:Int),.bool false,.bool false,.slice (some ⟨b,f,none⟩) D.length bc,.int .i64 (i:Int),.int .i64 ((i:Int)+1),.pointer (some ⟨b,f+(i+1)*3,none⟩),.pointer (some ⟨b,f+(i+1)*3,none⟩),.int .i64 p2,.pointer (some ⟨wr.heap.size,0,none⟩),.int .i64 p,.bool false,.bool false,.bool false,.func (.func fn) #[] #[],.pointer (some ⟨ob,0,none⟩),.int .i64 N0,.bool b0,.pointer (some ⟨ob,1,none⟩),.int .i64 N1,.bool b1,.bool kb,.bool (!kb),.bool (!kb)] [[],[0],[],[2],[1,3],[4],[5],[5],[5,7],[5,6,8],[5,9],[5,10],[5],[5,12],[5,11,13],[5,14],[15],[16],[16],[16,18],[16,19],[16],[16,21],[16,22],[16,17,20,23],[16,24],[16,25]] (.a x0 (.a y0 (.a z0 (.a z1 (.b))))) ?steps8 ?fin8
      case steps8=>
       repeat' first|exact .n|refine .c ?_ ?_|fail
       all_goals try exact stp
       all_goals
        rintro v W hb ⟨g0,g1,g2,g3,g4⟩;refine .inl ⟨rfl,fun K hK=>?_⟩;simp only [ov,vat,Nat.reduceBEq,cond_true,cond_false];go_wp2_with ((with_reducible refine (HKQ.out _).mono ?_);rintro e w9 ⟨rfl,h9⟩;have hb9:Below W.heap.size W w9:=h9 ▸ Below.refl _ _;clear h9)
        first|exact acx (hK w9 hb9) (by simp [ov,vat])|exact acx (hK W (Below.refl _ _)) (by simp [ov,vat,hb0])|exact acx (hK W (Below.refl _ _)) (by simp [ov,vat,hb1])
      case fin8=>
       rintro W5 hb5 ⟨g0,g1,g2,g3,g4⟩;show wpList _ _ _ [] _ _;simp only [vat];cases kb with
       | false=>
        have HKB2:=HKB;go_wp2_with fail
        go_roundw
        case rel=>exact ⟨i+1,o,HLT.out,by go_num,oq_,hq_ (HO4.out.below a8_ g4),hq_ (HX4.out.below g4),hq_ (Et HB4.out g4),hq_ ⟨i+1,HSW.out.skip HS.out HDI.out HDI2.out oq_ HKB2.out,.inl rfl⟩⟩
        case measure=>have:=HLT.out;simp [intOf];omega
       | true=>
        have HO5:=hq_ (HO4.out.below a8_ g4);have HX5:=hq_ (HX4.out.below g4);have HB5:=hq_ (Et HB4.out g4);have HBX5:=hq_ (HBX4.out.below g4);have hz5:=g4.size;have HOL:=hq_ hol;clear x0 y0 z0 z1 hb0 hb1 g2 g3 g4 hb5;have x0:=g0;have y0:=g1;clear g0 g1;go_upto_region 10 with (fail)
        generalize W5=w5 at *;rcases List.eq_nil_or_concat o with ho|⟨r,⟨f0,t0⟩,ho⟩
        ·have hol0:(o.length:Int)=0:=by rw [ho];rfl
         have HNIL:=hq_ ho;clear ho;refine a9_ (w0:=w5) [0,1,2,3,4,5,6,7,8,9,10,11,12] [] [63,64,65,66,67,68,69,70,71,72,73,74,75] [.int .i64 (o.length:Int),.bool false,.bool false,undef,undef,undef,undef,undef,undef,undef,undef,undef,.bool false] [[],[0],[1],[2],[2],[2,4],[2,3,5],[2,6],[2,7],[2],[2,9],[2,8,10],[2,11]] (.b) ?steps10 ?fin10
         case steps10=>
          repeat' first|exact .n|refine .c ?_ ?_|fail
          all_goals try exact stp
         case fin10=>
          rintro w6 hb6 g0;show wpList _ _ _ [] _ _;simp only [vat];have HO6:=hq_ (HO5.out.below a8_ g0);have HX6:=hq_ (HX5.out.below g0);have HB6:=hq_ (Et HB5.out g0);have x0:=Ext.cell g0 x0;have y0:=Ext.cell g0 y0;have hz6:=g0.size;clear hb6 g0 hol0;go_upto_region 12 with (fail)
          refine aw_ (w0:=w6) [0,1,2,3,4,5,6,7,8,9,10] [11,12] [87,88,89,90,91,92,93,94,95,96,97] [.slice oa o.length oc,.pointer (some ⟨wr.heap.size,0,none⟩),.int .i64 p,.slice (some ⟨b,f,none⟩) D.length bc,.int .i64 (i:Int),.int .i64 ((i:Int)+1),.pointer (some ⟨b,f+(i+1)*3,none⟩),.pointer (some ⟨b,f+(i+1)*3,none⟩),.int .i64 p2,.agg #[.int .i64 p,.int .i64 p2],undef] [[],[],[1],[],[],[4],[3,5],[6],[7],[2,8],[9]] [] [10] (fun i v lo hi W=>match i with|10=>v 10=.slice (some ⟨lo 10,0,none⟩) 1 1∧lo 10<hi 10∧Bxx W (lo 10) #[.int .i64 p,.int .i64 p2] 28|_=>True) (.a x0 (.a y0 (.b))) ?steps12 ?fin12 (stab:=?stab12)
          case stab12=>
           refine ⟨?_,trivial⟩
           ·intro v lo hi W W' h hb;exact ⟨h.1,h.2.1,h.2.2.below hb⟩
          case steps12=>
           repeat' first|exact .n|refine .d ?_ ?_|fail
           all_goals try exact stw
           ·rintro v lo hi W hb ⟨g0,g1,g2⟩ _;refine .inl ⟨rfl,fun K hK=>?_⟩;simp only [ov,vat,Nat.reduceBEq,cond_true,cond_false];go_wp2_with fail
            exact acx (hK (.slice (some ⟨W.heap.size,0,none⟩) 1 1) _ (Ea (Er _) _) ⟨rfl,sq_,Bxx.new _ _ _⟩) (by simp [ov,vat,upd])
          case fin12=>
           rintro v lo hi W7 hb7 ⟨g0,g1,g2⟩ hf hap;show wpList _ _ _ [_,_] _ _;have hz7:=g2.size;have HO7:=hq_ (HO6.out.below a8_ g2);have HX7:=hq_ (HX6.out.below g2);have HB7:=hq_ (Et HB6.out g2);have HSWP:=hq_ (HSW.out.push HS.out HDI.out HDI2.out hplt HKB.out (fun f0 r e=>by rw [HNIL.out] at e;simp at e));clear g0 g1 g2 x0 y0 hb7;obtain ⟨l10,-,h10,e10,lt10,hbox⟩:=hf 10 rfl;have e0:v 0=.slice oa o.length oc:=(hf 0 rfl).2.2.2;clear hf hap
           (try dsimp only)
           rw [e0,e10];obtain ⟨nb,hnb⟩:∃ nb,nb=lo 10:=⟨_,rfl⟩;rw [<- hnb] at hbox l10 lt10 ⊢;clear hnb e0 e10;generalize v 1=y1,v 2=y2,v 3=y3,v 4=y4,v 5=y5,v 6=y6,v 7=y7,v 8=y8,v 9=y9;have hroww:=al_ hbox;have HBOX:=hq_ hbox;clear hbox;refine ab_ rq_ _ _ _ _ rq_ iS _ 2 16 Tryz.underlying31 HIS.out.1 HIS.out.2.1 HIS.out.2.2.1 HIS.out.2.2.2 rfl dq_ dq_ w1.heap.size (.slice oa o.length oc) (o.length) ((o).flatMap senc) (senc (p,p2)) rfl rq_ (by first|exact HO7.out.row|(have h:=HO7.out.row;rw [List.length_append] at h;exact h)) nb 1 rq_ hroww d2_ (by have:=HOL.out;omega) oq_ ?_;intro v' w9 hown9 hgrow9 hloc9;obtain ⟨na,nc,rfl⟩:=a5_ hown9;have hobw:=HX7.out.lt;have HO9:=hq_ (OwnG.push (y:=(p,p2)) a8_ HO7.out HPI.out (by first|exact hown9|(rw [List.length_append];exact hown9)) hgrow9 hloc9 (by show ¬ (W7.heap.size=ob);omega) (by have:=HOL.out;simp;omega));have HB9:=hq_ (HB7.out.grown hgrow9 oq_ fun q e=>(HO7.out.row.lt q e).1);have HX9:=hq_ (HX7.out.grown hgrow9 (by intro e;exact HO7.out.ne _ e.symm rfl));clear hown9 hgrow9 hloc9;go_wp2_with fail
           go_roundw
           case rel=>exact ⟨i+1,(o) ++ [(p,p2)],HLT.out,by go_num,by have:=HOL.out;simp at this ⊢;omega,by first|exact HO9|(have h:=HO9;simp only [List.length_append,List.length_cons,List.length_nil] at h ⊢;exact h),HX9,HB9,hq_ ⟨i+1,HSWP.out,.inl rfl⟩⟩
           case measure=>have:=HLT.out;simp [intOf];omega
        ·subst ho;obtain ⟨og,hog,hogr⟩:∃ g,oa=some ⟨g,0,none⟩∧w1.heap.size≤g:=by
          obtain ⟨a',c',e,_,_,h|⟨g,hg⟩⟩:=HO5.out.form
          ·rw [List.concat_eq_append] at h;simp at h
          ·injection e with e1 _ e2
           exact ⟨g,e1.trans hg,(HO5.out.row.lt g (by rw [e1,hg];rfl)).1⟩
         subst hog;have hrl:(r.concat (f0,t0)).length=r.length+1:=by simp
         have z3:w5.cell? ⟨og,r.length*2+1,none⟩=some (.int .i64 t0):=by
          have h:=HO5.out.spnL;obtain ⟨b3,o3,u3,v3,e3,_,hg3,_,_,_,e4⟩:=h.get (k:=r.length) sq_;injection e3 with e3
          injection e3 with e3 e5 _
          subst e3;subst e5;rw [List.concat_eq_append,List.getD_eq_getElem?_getD,List.getElem?_append_right (Nat.le_refl _),Nat.sub_self] at hg3;injection hg3 with _ hg3
          rw [hg3,<- e4];simp
         have hg5:=HO5.out.row;obtain ⟨bd,hbd⟩:∃ bd,(t0 == p)=bd:=⟨_,rfl⟩;have hogx:og<w5.heap.size:=(HO5.out.row.lt og rfl).2;rw [List.concat_eq_append] at *;rw [show (r ++ [(f0,t0)]).length=r.length+1 by simp] at *;clear hg5;refine a9_ (w0:=w5) [0,1,2,3,4,5,6,7,8,9,10,11,12] [] [63,64,65,66,67,68,69,70,71,72,73,74,75] [.int .i64 ((r.length:Int)+1),.bool true,.bool true,.slice (some ⟨og,0,none⟩) (r.length+1) oc,.int .i64 ((r.length:Int)+1),.int .i64 (r.length:Int),.pointer (some ⟨og,r.length*2,none⟩),.pointer (some ⟨og,r.length*2+1,none⟩),.int .i64 t0,.pointer (some ⟨wr.heap.size,0,none⟩),.int .i64 p,.bool bd,.bool bd] [[],[0],[1],[2],[2],[2,4],[2,3,5],[2,6],[2,7],[2],[2,9],[2,8,10],[2,11]] (.a x0 (.a z3 (.b))) ?steps10 ?fin10
         case steps10=>
          repeat' first|exact .n|refine .c ?_ ?_|fail
          all_goals try exact stp
         case fin10=>
          rintro w6 hb6 ⟨g0,g1,g2⟩;show wpList _ _ _ [] _ _;simp only [vat];have HO6:=hq_ (HO5.out.below a8_ g2);have HX6:=hq_ (HX5.out.below g2);have HB6:=hq_ (Et HB5.out g2);have x0:=Ext.cell g2 x0;have y0:=Ext.cell g2 y0;have z3:=Ext.cell g2 z3;have hz6:=g2.size;have hfr:w6.frozen? ⟨og,r.length*2+1,none⟩=false:=ji_ HO6.out _;have HBD:=hq_ hbd;clear hb6 g0 g1 g2 hbd;cases bd with
          | true=>
           have htp:t0=p:=by simpa using HBD.out
           subst htp;go_upto_region 13 with (fail)
           have hg7:World.grownBy w6 (w6.setCell ⟨og,r.length*2+1,none⟩ (.int .i64 p2)) (some og):=World.grownBy.set' (World.grownBy.refl _ _) _;have HO7:=hq_ (HO6.out.setTo (t':=p2) HPI.out.2);have HX7:=hq_ (HX6.out.grown hg7 (by intro e;exact HO6.out.ne og rfl (by injection e with e;exact e.symm)));have HB7:=hq_ (HB6.out.grown hg7 HB6.out.size fun q e=>by cases e;exact hogr);clear x0 y0 z3 hfr hg7;generalize w6.setCell ⟨og,r.length*2+1,none⟩ (.int .i64 p2)=w7 at *;go_wp2_with fail
           go_roundw
           case rel=>exact ⟨i+1,r ++ [(f0,p2)],HLT.out,by go_num,by have:=HOL.out;simp at this ⊢;omega,HO7,HX7,HB7,hq_ ⟨i+1,HSW.out.grow HS.out HDI.out HDI2.out hplt HKB.out,.inl rfl⟩⟩
           case measure=>have:=HLT.out;simp [intOf];omega
          | false=>
           have htp:¬ t0=p:=by simpa using HBD.out
           clear z3 hfr;go_upto_region 12 with (fail)
           refine aw_ (w0:=w6) [0,1,2,3,4,5,6,7,8,9,10] [11,12] [87,88,89,90,91,92,93,94,95,96,97] [.slice (some ⟨og,0,none⟩) (r.length+1) oc,.pointer (some ⟨wr.heap.size,0,none⟩),.int .i64 p,.slice (some ⟨b,f,none⟩) D.length bc,.int .i64 (i:Int),.int .i64 ((i:Int)+1),.pointer (some ⟨b,f+(i+1)*3,none⟩),.pointer (some ⟨b,f+(i+1)*3,none⟩),.int .i64 p2,.agg #[.int .i64 p,.int .i64 p2],undef] [[],[],[1],[],[],[4],[3,5],[6],[7],[2,8],[9]] [] [10] (fun i v lo hi W=>match i with|10=>v 10=.slice (some ⟨lo 10,0,none⟩) 1 1∧lo 10<hi 10∧Bxx W (lo 10) #[.int .i64 p,.int .i64 p2] 28|_=>True) (.a x0 (.a y0 (.b))) ?steps12 ?fin12 (stab:=?stab12)
           case stab12=>
            refine ⟨?_,trivial⟩
            ·intro v lo hi W W' h hb;exact ⟨h.1,h.2.1,h.2.2.below hb⟩
           case steps12=>
            repeat' first|exact .n|refine .d ?_ ?_|fail
            all_goals try exact stw
            ·rintro v lo hi W hb ⟨g0,g1,g2⟩ _;refine .inl ⟨rfl,fun K hK=>?_⟩;simp only [ov,vat,Nat.reduceBEq,cond_true,cond_false];go_wp2_with fail
             exact acx (hK (.slice (some ⟨W.heap.size,0,none⟩) 1 1) _ (Ea (Er _) _) ⟨rfl,sq_,Bxx.new _ _ _⟩) (by simp [ov,vat,upd])
           case fin12=>
            rintro v lo hi W7 hb7 ⟨g0,g1,g2⟩ hf hap;show wpList _ _ _ [_,_] _ _;have hz7:=g2.size;have HO7:=hq_ (HO6.out.below a8_ g2);have HX7:=hq_ (HX6.out.below g2);have HB7:=hq_ (Et HB6.out g2);have HSWP:=hq_ (HSW.out.push HS.out HDI.out HDI2.out hplt HKB.out (fun f1 r1 e=>htp (by
             have h:=congrArg (fun l=>l.getLast?) e;simp at h;exact h.2)))
            clear g0 g1 g2 x0 y0 hb7;obtain ⟨l10,-,h10,e10,lt10,hbox⟩:=hf 10 rfl;have e0:v 0=.slice (some ⟨og,0,none⟩) (r.length+1) oc:=(hf 0 rfl).2.2.2;clear hf hap
            (try dsimp only)
            rw [e0,e10];obtain ⟨nb,hnb⟩:∃ nb,nb=lo 10:=⟨_,rfl⟩;rw [<- hnb] at hbox l10 lt10 ⊢;clear hnb e0 e10;generalize v 1=y1,v 2=y2,v 3=y3,v 4=y4,v 5=y5,v 6=y6,v 7=y7,v 8=y8,v 9=y9;have hroww:=al_ hbox;have HBOX:=hq_ hbox;clear hbox;refine ab_ rq_ _ _ _ _ rq_ iS _ 2 16 Tryz.underlying31 HIS.out.1 HIS.out.2.1 HIS.out.2.2.1 HIS.out.2.2.2 rfl dq_ dq_ w1.heap.size (.slice (some ⟨og,0,none⟩) (r.length+1) oc) (r.length+1) ((r ++ [(f0,t0)]).flatMap senc) (senc (p,p2)) rfl rq_ (by first|exact HO7.out.row|(have h:=HO7.out.row;rw [List.length_append] at h;exact h)) nb 1 rq_ hroww d2_ (by have:=HOL.out;omega) oq_ ?_;intro v' w9 hown9 hgrow9 hloc9;obtain ⟨na,nc,rfl⟩:=a5_ hown9;have hobw:=HX7.out.lt;have HO9:=hq_ (OwnG.push (y:=(p,p2)) a8_ HO7.out HPI.out (by first|exact hown9|(rw [List.length_append];exact hown9)) hgrow9 hloc9 (by show ¬ (W7.heap.size=ob);omega) (by have:=HOL.out;simp;omega));have HB9:=hq_ (HB7.out.grown hgrow9 oq_ fun q e=>(HO7.out.row.lt q e).1);have HX9:=hq_ (HX7.out.grown hgrow9 (by intro e;exact HO7.out.ne _ e.symm rfl));clear hown9 hgrow9 hloc9;go_wp2_with fail
            go_roundw
            case rel=>exact ⟨i+1,(r ++ [(f0,t0)]) ++ [(p,p2)],HLT.out,by go_num,by have:=HOL.out;simp at this ⊢;omega,by first|exact HO9|(have h:=HO9;simp only [List.length_append,List.length_cons,List.length_nil] at h ⊢;exact h),HX9,HB9,hq_ ⟨i+1,HSWP.out,.inl rfl⟩⟩
            case measure=>have:=HLT.out;simp [intOf];omega
  ·obtain rfl:i=D.length:=oq_;have hlI:¬ (D.length:Int)<D.length:=oq_;go_wp2_with fail
   go_ret;obtain ⟨i',h1,h2⟩:=HW.out;have hi':D.length≤i'+1:=oq_;have hd:=HDL.out;have hb1:=HB1.out.size;refine ⟨_,o,rfl,h1.ns,fun t=>(h1.done HS.out hi' (fun k=>wx_ HP.out k) HKF.out t).trans (s5_ HP.out t),oq_,(HO.out.spnL.clip).mono fun k hk=>by have:=hk.1;omega,HB1.out.trans (HB.out.mono hb1)⟩
open Classical in
def hd_ (kp:Bool->Bool->Bool) (a b:List Spn) (w:World) (e:Ending) (w':World):Prop:=
 ((a.any farS || b.any farS)=true∧e=.returned (.tuple #[.slice none 0 0,.int .i64 1])∧Below w.heap.size w w') ∨
 ((a.any farS || b.any farS)=false∧∃ v N,e=.returned (.tuple #[v,.int .i64 0])∧NS N∧(∀ t,SpM N t↔kp (decide (SpM a t)) (decide (SpM b t))=true)∧N.length≤2*(a.length+b.length)∧SpnL w' (fun k=>w.heap.size≤k) v N∧Below w.heap.size w w')
theorem na_ (F G:Nat->Prop) (v1 v2:Value) (l1 l2:List Spn) (fn:Nat) (kp:Bool->Bool->Bool) (w:World) (h1:SpnL w F v1 l1) (h2:SpnL w G v2 l2) (hn:l1.length+l2.length≤400000) (hkf:kp false false=false)
  (eg:∀ args w,(callFunc fn args).run Tryz.prog w=.ok (.enter fn args) w) (hkp:∀ (W:World) (x y:Bool),Calls Tryz.prog fn #[.bool x,.bool y] W fun e w'=>e=.returned (.bool (kp x y))∧w'=W) :
  Calls Tryz.prog 73 #[v1,v2,.func (.func fn) #[] #[]] w (hd_ kp l1 l2 w):=by
 have HA:=fun W (hb:Below w.heap.size w W)=>jm_ F v1 l1 W (h1.ext hb);have HB:=fun W (hb:Below w.heap.size w W)=>jm_ G v2 l2 W (h2.ext hb);have HS:=hq_ (fun W (hb:Below w.heap.size w W)=>t7_ F G v1 v2 l1 l2 fn kp W (h1.ext hb) (h2.ext hb) hn hkf eg hkp);obtain ⟨a1,c1,rfl⟩:=h1.form;obtain ⟨a2,c2,rfl⟩:=h2.form;unfold hd_;clear h1 h2 eg hkp;generalize l1.any farS=fa at *;generalize l2.any farS=fb at *;have HA:=hq_ HA;have HB:=hq_ HB;cases fa with
 | true=>
  go_enter Tryz.func73,Tryz.ntmps73
  go_wp2_with (go_at_call 90;(with_reducible refine (HA.out _ (Below.refl _ _)).mono ?_);rintro e w1 ⟨rfl,hb1⟩)
  go_ret2;exact .inl ⟨rfl,rfl,hb1⟩
 | false=>
  cases fb with
  | true=>
   go_enter Tryz.func73,Tryz.ntmps73
   go_wp2_with (go_at_call 90;first|((with_reducible refine (HA.out _ (Below.refl _ _)).mono ?_);rintro e w1 ⟨rfl,hb1⟩;have HB1:=hq_ hb1;clear hb1)|((with_reducible refine (HB.out _ HB1.out).mono ?_);rintro e w2 ⟨rfl,hb2⟩;have HB2:=hq_ (Et HB1.out hb2);clear hb2))
   go_ret2;exact .inl ⟨rfl,rfl,HB2.out⟩
  | false=>
   go_enter Tryz.func73,Tryz.ntmps73
   go_wp2_with (first|(go_at_call 90;first|((with_reducible refine (HA.out _ (Below.refl _ _)).mono ?_);rintro e w1 ⟨rfl,hb1⟩;have HB1:=hq_ hb1;clear hb1)|((with_reducible refine (HB.out _ HB1.out).mono ?_);rintro e w2 ⟨rfl,hb2⟩;have HB2:=hq_ (Et HB1.out hb2);clear hb2))|(go_at_call 125;(with_reducible refine (HS.out _ HB2.out).mono ?_);rintro e w3 ⟨v,N,rfl,q1,q2,q3,q4,q5⟩;have Q:=hq_ (And.intro q1 (And.intro q2 (And.intro q3 (And.intro q4 q5))));clear q1 q2 q3 q4 q5))
   go_ret2;obtain ⟨q1,q2,q3,q4,q5⟩:=Q.out;have hz:=HB2.out.size;exact .inr ⟨rfl,v,N,rfl,q1,q2,q3,q4.mono fun k hk=>oq_,Et HB2.out q5⟩
theorem qr_ (x y:Bool) (W:World):Calls Tryz.prog 198 #[.bool x,.bool y] W fun e w'=>e=.returned (.bool (x || y))∧w'=W:=by
 cases x;all_goals
  go_enter Tryz.func198,Tryz.ntmps198
  go_wp2;go_ret;exact ⟨a1_ sq_,rfl⟩
theorem qo_ (F G:Nat->Prop) (v1 v2:Value) (l1 l2:List Spn) (w:World) (h1:SpnL w F v1 l1) (h2:SpnL w G v2 l2) (hn:l1.length+l2.length≤400000) :
  Calls Tryz.prog 146 #[v1,v2] w (hd_ (fun x y=>x || y) l1 l2 w):=by
 have HC:=hq_ (na_ F G v1 v2 l1 l2 198 (fun x y=>x || y) w h1 h2 hn rfl (enters_of Tryz.func198 (by kernel_rfl) rfl) (fun W x y=>qr_ x y W));clear h1 h2
 go_enter Tryz.func146,Tryz.ntmps146
 go_wp2_with (go_at_call 73;(with_reducible refine HC.out.mono ?_);rintro e w1 (⟨q0,rfl,q1⟩|⟨q0,v,N,rfl,q1⟩) <;> (have Q0:=hq_ q0;have Q1:=hq_ q1;clear q0 q1))
 ·go_ret2;exact .inl ⟨Q0.out,rfl,Q1.out⟩
 ·go_ret2;exact .inr ⟨Q0.out,v,N,rfl,Q1.out⟩
theorem kw_ (F:Nat->Prop) (v1:Value) (l1:List Spn) (w:World) (h1:SpnL w F v1 l1) (hn:l1.length≤400000) :
  Calls Tryz.prog 93 #[v1] w (hd_ (fun x y=>x || y) l1 [] w):=by
 have HC:=hq_ (qo_ F (fun _=>True) v1 (.slice none 0 0) l1 [] w h1 (SpnL.nil w _) (by simpa using hn));clear h1
 go_enter Tryz.func93,Tryz.ntmps93
 go_wp2_with (go_at_call 146;(with_reducible refine HC.out.mono ?_);rintro e w1 (⟨q0,rfl,q1⟩|⟨q0,v,N,rfl,q1⟩) <;> (have Q0:=hq_ q0;have Q1:=hq_ q1;clear q0 q1))
 ·go_ret2;exact .inl ⟨Q0.out,rfl,Q1.out⟩
 ·go_ret2;exact .inr ⟨Q0.out,v,N,rfl,Q1.out⟩
theorem d9_.ext {pb:Nat->Prop} {lb:Array Value} {S:List EntV} (h:d9_ pb g lb S w) (hb:Below w.heap.size w W):d9_ pb g lb S W:=fun l J Jx W1 hW=>h l J Jx W1 (Et hb hW)
theorem wu_ {F:Nat->Prop} {a:Option Addr} {R:List a4_} (h:RowR W F (.slice a n c) R.length (R.flatMap lenc)) (hk:k<R.length) :
  ∃ b o x,a=some ⟨b,o,none⟩∧b<W.heap.size∧R.getD k default=x∧W.cell? ⟨b,o+k*5,none⟩=some (.int .i64 x.frm)∧W.cell? ⟨b,o+k*5+1,none⟩=some (.int .i64 x.fin)∧W.cell? ⟨b,o+k*5+2,none⟩=some (.int .i64 x.kind)∧W.cell? ⟨b,o+k*5+3,none⟩=some (.int .i64 x.id)∧W.cell? ⟨b,o+k*5+4,none⟩=some (.int .i64 x.day):=by
 obtain ⟨a',c',he,h1,h2,h3⟩:=h.is;injection he with e1 _ e2
 subst e1;subst e2;rcases h3 with h3|⟨b,o,rfl,hF,hl,hc⟩
 ·omega
 ·exact ⟨b,o,R.getD k default,rfl,hl,rfl,hc (k*5+0) _ (a7_ bp_ default hk rfl),hc (k*5+1) _ (a7_ bp_ default hk rfl),hc (k*5+2) _ (a7_ bp_ default hk rfl),hc (k*5+3) _ (a7_ bp_ default hk rfl),hc (k*5+4) _ (a7_ bp_ default hk rfl)⟩
def hi_ (d:List Ent) (a b:Int) (w:World) (e:Ending) (w':World):Prop:=
 ∃ v N,e=.returned (.tuple #[v,.int .i64 0])∧BusyTo d a b N∧N.length≤400000∧SpnL w' (fun k=>w.heap.size≤k) v N∧Below w.heap.size w w'
theorem k2_ {d:List Ent} (hw:WinB a b) (hwn:a<b->∀ e∈d,∃ D,au_ e.s a b D) {s:Spn} (hs:s∈(linW d a b).map (b2_ a b)):a≤s.1∧s.1≤b∧a≤s.2∧s.2≤b:=by
 obtain ⟨l,hl,rfl⟩:=List.mem_map.1 hs;obtain ⟨h1,e,he,y,hy,hc,rfl⟩:=g5_ hwn hl;obtain ⟨h2,h3⟩:=hc;show a≤max y.frm a∧max y.frm a≤b∧a≤min y.fin b∧min y.fin b≤b;omega
theorem ir_ {l:List Spn} (h:∀ s∈l,(-2251799813685248≤s.1∧s.1≤2251799813685248)∧(-2251799813685248≤s.2∧s.2≤2251799813685248)):l.any farS=false:=List.any_eq_false.2 fun s hs=>by
 obtain ⟨h1,h2⟩:=h s hs;unfold farS;rw [decide_eq_false oq_,decide_eq_false oq_];simp
theorem BusyTo.near {d:List Ent} {N:List Spn} (h:BusyTo d a b N) (hw:WinB a b):N.any farS=false:=ir_ fun s hs=>by
 have h0:=h.1.pos s hs;have h1:=(h.2 s.1).1 ⟨s,hs,oq_,h0⟩;have h2:=(h.2 (s.2-1)).1 ⟨s,hs,oq_,oq_⟩;have h3:=hw.lo;have h4:=hw.hi;omega
theorem vi_ (pb:Nat->Prop) (g:Nat) (lb:Array Value) (S:List EntV) (a b:Int) (w:World) (hit:d9_ pb g lb S w) (hpb:∀ k,pb k->k<w.heap.size) (eg:∀ args w,(callFunc g args).run Tryz.prog w=.ok (.enter g args) w) (hS:∀ x∈S,SmS x.s∧InI x.id) (hSl:S.length≤1000) (hw:WinB a b) :
  Calls Tryz.prog 49 #[.func (.func g) #[] lb,.agg #[.int .i64 a,.int .i64 b]] w (hi_ (S.map EntV.ent) a b w):=by
 have HLN:=hq_ (kp_ pb g lb S a b (w.alloc (.cells #[.int .i64 a,.int .i64 b] 28)) (hit.ext (Ea (Er _) _)) (fun k hk=>by have:=hpb k hk;simp;omega) eg hS hSl hw);have HW:=hq_ hw;obtain ⟨iS,iS1,iS2,iS3,iS4⟩:=fl_;have HIS:=hq_ (And.intro iS1 (And.intro iS2 (And.intro iS3 iS4)));obtain ⟨w1l,w1h,w1e,w1s⟩:=hw;clear hit hpb eg hS iS1 iS2 iS3 iS4
 go_enter Tryz.func49,Tryz.ntmps49
 go_wp2_with (go_at_call 54;(with_reducible refine HLN.out.mono ?_);rintro e w1 ⟨lv,rfl,hrow,hlen,hwn,hb1⟩;obtain ⟨la,lc,rfl,-⟩:=hrow.form;have hbx:=(Bxx.new w #[.int .i64 a,.int .i64 b] 28).below hb1;have HBX:=hq_ hbx;have HRW:=hq_ hrow.rowR;have HWN:=hq_ hwn;have HLE:=hq_ hlen;have HB1:=hq_ (show Below w.heap.size w w1 from Et (Ea (Er w) _) hb1);have hz1:=hbx.lt;clear hbx hrow hlen hwn hb1)
 obtain ⟨R,hR⟩:∃ R,R=linW (S.map EntV.ent) a b:=⟨_,rfl⟩;rw [<- hR] at HRW HLE ⊢;have HR:=hq_ hR;clear hR;have hRl:R.length≤100000:=by have:=HLE.out;omega
 go_loopw [8,10,22] (fun ov _ iv wr=>∃ (k:Nat),k≤R.length∧iv=.int .i64 k∧Hid (OwnS w1.heap.size (fun _=>False) wr ov ((R.take k).map (b2_ a b)))∧Hid (Below w1.heap.size w1 wr)) (fun _ _ iv _=>R.length-(intOf iv).toNat)
 case atStart=>exact ⟨0,oq_,rfl,hq_ OwnG.nil,hq_ (Below.refl _ _)⟩
 case round=>
  obtain ⟨k,hk,rfl,HO,HB⟩:=hrel;have hwz:=HB.out.size;obtain ⟨O,hO⟩:∃ O,O=(R.take k).map (b2_ a b):=⟨_,rfl⟩;have hOl:O.length=k:=by rw [hO,List.length_map,List.length_take,Nat.min_eq_left hk]
  rw [<- hO] at HO;have HOO:=hq_ hO;have HOL:=hq_ hOl;clear hO hOl;obtain ⟨oa,oc,rfl,-⟩:=HO.out.form;by_cases hlt:k<R.length
  ·have hlI:(k:Int)<R.length:=oq_;have HLT:=hq_ (show k+1≤R.length by omega);obtain ⟨b8,f8,x,rfl,hb8,hx,e0,e1,e2,e3,e4⟩:=wu_ (HRW.out.keep (W':=wr) (a3_.below HB.out) HB.out.size) hlt;have HMO:=hq_ (c1_ (f:=b2_ a b) (d:=default) hlt);rw [hx] at HMO;have hin:=k2_ HW.out HWN.out (s:=b2_ a b x) (by rw [<- HR.out];exact List.mem_map.2 ⟨x,by rw [<- hx];exact ac_ hlt,rfl⟩);have HIN:=hq_ hin;have hmin:(if b<x.fin then b else x.fin)=min x.fin b:=by split <;> omega
   have hmin2:(if x.fin<b then x.fin else b)=min x.fin b:=by split <;> omega
   have c0:=((HBX.out.below HB.out).alloc (.cells #[.int .i64 x.frm,.int .i64 x.fin,.int .i64 x.kind,.int .i64 x.id,.int .i64 x.day] 106)).cells 0;have c1:=((HBX.out.below HB.out).alloc (.cells #[.int .i64 x.frm,.int .i64 x.fin,.int .i64 x.kind,.int .i64 x.id,.int .i64 x.day] 106)).cells 1;have c2:=c0.1;have c3:=c1.1;clear hx hin hlt c0 c1;go_wp2_with (first
    | rw [hmin]|rw [hmin2]|(at_builtin;(refine ab_ rq_ _ _ _ _ rq_ iS _ 2 16 Tryz.underlying31 HIS.out.1 HIS.out.2.1 HIS.out.2.2.1 HIS.out.2.2.2 rfl dq_ dq_ w1.heap.size (.slice oa O.length oc) O.length (O.flatMap senc) (senc (max x.frm a,min x.fin b)) rfl rq_ ((HO.out.below a8_ (Ea (Er wr) _)).below a8_ (Ea (Er _) _)).row (wr.heap.size+1) 1 rq_ (al_ (Bxx.at sq_)) d2_ (by have:=HOL.out;omega) tq_ ?_);intro v' w9 hown9 hgrow9 hloc9;obtain ⟨na,nc,rfl⟩:=a5_ hown9))
   go_roundw
   case rel=>exact ⟨k+1,HLT.out,by go_num,hq_ (by
    rw [HMO.out,<- HOO.out];exact OwnG.push (y:=(max x.frm a,min x.fin b)) a8_ ((HO.out.below a8_ (Ea (Er wr) _)).below a8_ (Ea (Er _) _)) ⟨⟨by have:=HIN.out;unfold b2_ at this;dsimp only at this ⊢;omega,by have:=HIN.out;unfold b2_ at this;dsimp only at this ⊢;omega⟩,⟨by have:=HIN.out;unfold b2_ at this;dsimp only at this ⊢;omega,by have:=HIN.out;unfold b2_ at this;dsimp only at this ⊢;omega⟩⟩ hown9 hgrow9 hloc9 (fun h=>h) (by have:=HOL.out;omega)),hq_ ((Ea (Ea HB.out _) _).grown hgrow9 tq_ fun q e=>(HO.out.row.lt q e).1)⟩
   case measure=>have:=HLT.out;simp [intOf];omega
  ·obtain rfl:k=R.length:=oq_;have hkI:¬ (R.length:Int)<R.length:=oq_;have hOe:O=(linW (S.map EntV.ent) a b).map (b2_ a b):=by rw [HOO.out,List.take_length,HR.out]
   have hfar:O.any farS=false:=ir_ fun s hs=>by
    have:=k2_ HW.out HWN.out (s:=s) (by rw [<- hOe];exact hs);omega
   have hsp:=HO.out.spnL;have HNM:=hq_ (kw_ _ _ O wr hsp (by have:=HOL.out;omega));have HOE:=hq_ hOe;have HFAR:=hq_ hfar;have HE:=hq_ (Et HB1.out HB.out);have hE:=HE.out.size;clear hOe hfar hsp
   go_wp2_with (go_at_call 93;(with_reducible refine HNM.out.mono ?_);rintro e w2 hres;have HRES:=hq_ hres;clear hres;obtain ⟨bv,N,rfl,hN⟩:∃ v N,e=.returned (.tuple #[v,.int .i64 0])∧Hid (NS N∧(∀ t,SpM N t↔SpM O t)∧N.length≤2*(O.length+([]:List Spn).length)∧SpnL w2 (fun k=>wr.heap.size≤k) v N∧Below wr.heap.size wr w2):=(by
    rcases HRES.out with ⟨h1,_⟩|⟨_,v,N,h1,h2⟩
    ·rw [HFAR.out] at h1;simp at h1
    ·exact ⟨v,N,h1,hq_ ⟨h2.1,fun t=>(h2.2.1 t).trans (by simp [SpM.nil]),h2.2.2⟩⟩);clear HRES)
   go_ret2;obtain ⟨h2,h3,h4,h5,h6⟩:=hN.out;refine ⟨bv,N,rfl,⟨h2,fun t=>(h3 t).trans ?_⟩,by have:=HOL.out;simp at h4;omega,h5.mono fun k hk=>oq_,Et HE.out h6⟩;rw [<- ki_ HWN.out t,<- HOE.out]
def qw_ (l:List Spn) (n a b:Int) (w:World) (e:Ending) (w':World):Prop:=
 ∃ (f t:Int) (ok:Bool),e=.returned (.tuple #[.agg #[.int .i64 f,.int .i64 t],.bool ok])∧Below w.heap.size w w'∧
  (((l.any farS=true∨n<1∨farS (a,b)=true)∧ok=false∧f=0∧t=0)∨(l.any farS=false∧1≤n∧farS (a,b)=false∧GapK (SpM l) n a b f ok∧t=if ok then f+n else 0))
theorem vb_ {l N:List Spn} (hl:l.any farS=false) (hN:NS N) (hs:∀ t,SpM N t↔SpM l t) {s:Spn} (hm:s∈N):s.1<s.2∧-2251799813685248≤s.1∧s.2≤2251799813685248:=by
 have h0:=hN.pos s hm;have key:∀ t,SpM l t->-2251799813685248≤t∧t<2251799813685248:=fun t ⟨x,hx,h1,h2⟩=>by
  have h3:=List.any_eq_false.1 hl x hx;unfold farS at h3;simp at h3;omega
 have h1:=key s.1 ((hs _).1 ⟨s,hm,oq_,h0⟩);have h2:=key (s.2-1) ((hs _).1 ⟨s,hm,oq_,oq_⟩);omega
theorem v9_ (F:Nat->Prop) (v:Value) (l:List Spn) (n a b:Int) (w:World) (h:SpnL w F v l) (hl:l.length≤400000) (hn:InI n) (ha:InI a) (hb:InI b) :
  Calls Tryz.prog 62 #[v,.int .i64 n,.agg #[.int .i64 a,.int .i64 b]] w (qw_ l n a b w):=by
 have HN:=fun W (hb:Below w.heap.size w W)=>kw_ F v l W (h.ext hb) hl;obtain ⟨a1,c1,rfl⟩:=h.form;have HNB:l.any farS=true->Hid (∀ W,Below w.heap.size w W->Calls Tryz.prog 93 #[.slice a1 l.length c1] W fun e w'=>e=.returned (.tuple #[.slice none 0 0,.int .i64 1])∧Below W.heap.size W w'):=fun hq=>hq_ fun W hb=>(HN W hb).mono fun e w' h=>by
  rcases h with ⟨_,h1,h2⟩|⟨h1,_⟩
  ·exact ⟨h1,h2⟩
  ·simp [hq] at h1
 have HNG:l.any farS=false->Hid (∀ W,Below w.heap.size w W->Calls Tryz.prog 93 #[.slice a1 l.length c1] W fun e w'=>∃ v N,e=.returned (.tuple #[v,.int .i64 0])∧NS N∧(∀ t,SpM N t↔SpM l t)∧SpnL w' (fun k=>W.heap.size≤k) v N∧Below W.heap.size W w'):=fun hq=>hq_ fun W hb=>(HN W hb).mono fun e w' h=>by
  rcases h with ⟨h1,_⟩|⟨_,v,N,h1,h2,h3,_,h4,h5⟩
  ·simp [hq] at h1
  ·exact ⟨v,N,h1,h2,fun t=>(h3 t).trans (by simp [SpM.nil]),h4,h5⟩
 have HFA:=fun W=>ge_ a W;have HFB:=fun W=>ge_ b W;have hfs:farS (a,b)=(decide (a < -2251799813685248∨a > 2251799813685248) || decide (b < -2251799813685248∨b > 2251799813685248)):=rfl;obtain ⟨n1,n2⟩:=hn;clear HN h;by_cases hq:l.any farS=true
 ·have HN:=HNB hq;have HBAD:Hid (l.any farS=true∨n<1∨farS (a,b)=true):=hq_ (.inl hq);clear HNB HNG hq HFA HFB hfs
  go_enter Tryz.func62,Tryz.ntmps62
  go_wp2_with fail
  go_step3
  go_wp2_with (go_at_call 93;(with_reducible refine (HN.out _ xE).mono ?_);rintro e w1 ⟨rfl,hb1⟩;have hrx:=(Bxx.at (w:=w.alloc (.cells #[.int .i64 a,.int .i64 b] 28)) (b:=w.heap.size+1) (c:=#[.int .i64 0,.int .i64 0]) (t:=28) sq_).below hb1;have r0:=hrx.cells 0;have r1:=hrx.cells 1;have HRX:=hq_ hrx;have HB1:=hb1;have hz1:=hrx.lt;clear hrx)
  have hrx:=HRX.out;have c0:Bxx _ _ _ 28:=a0_ 0 (.int .i64 0) hrx;have c1:Bxx _ _ _ 28:=a0_ 1 (.int .i64 0) c0;have s0:=(c1.cells 0).1;have s1:=(c1.cells 1).1;exact bodyPost_ret (v:=.tuple #[.agg #[.int .i64 0,.int .i64 0],.bool false]) (by simp [results,Tryz.results62,go_sem,s0,s1]) rfl ⟨0,0,false,rfl,by exact xE,.inl ⟨HBAD.out,rfl,rfl,rfl⟩⟩
 have HN:=HNG (by simpa using hq);have hqf:l.any farS=false:=by simpa using hq
 have HQF:=hq_ hqf;clear HNB HNG hq hqf;by_cases hn1:n<1
 ·have HBAD:Hid (l.any farS=true∨n<1∨farS (a,b)=true):=hq_ (.inr (.inl hn1));clear HFA HFB hfs
  go_enter Tryz.func62,Tryz.ntmps62
  go_wp2_with fail
  go_step3
  go_wp2_with (go_at_call 93;(with_reducible refine (HN.out _ xE).mono ?_);rintro e w1 ⟨bv,N,rfl,-,-,hbv,hb1⟩;obtain ⟨ba,bc,rfl⟩:=hbv.form;have hrx:=(Bxx.at (w:=w.alloc (.cells #[.int .i64 a,.int .i64 b] 28)) (b:=w.heap.size+1) (c:=#[.int .i64 0,.int .i64 0]) (t:=28) sq_).below hb1;have hsx:=((Bxx.new w #[.int .i64 a,.int .i64 b] 28).alloc (.cells #[.int .i64 0,.int .i64 0] 28)).below hb1;have r0:=hrx.cells 0;have r1:=hrx.cells 1;have x0:=(hsx.cells 0).1;have x1:=(hsx.cells 1).1;have HRX:=hq_ hrx;have hz1:=hrx.lt;clear hrx hsx hbv)
  have hrx:=HRX.out;have c0:Bxx _ _ _ 28:=a0_ 0 (.int .i64 0) hrx;have c1:Bxx _ _ _ 28:=a0_ 1 (.int .i64 0) c0;have s0:=(c1.cells 0).1;have s1:=(c1.cells 1).1;exact bodyPost_ret (v:=.tuple #[.agg #[.int .i64 0,.int .i64 0],.bool false]) (by simp [results,Tryz.results62,go_sem,s0,s1]) rfl ⟨0,0,false,rfl,by exact xE,.inl ⟨HBAD.out,rfl,rfl,rfl⟩⟩
 by_cases hfa:a < -2251799813685248∨a > 2251799813685248
 ·have HBAD:Hid (l.any farS=true∨n<1∨farS (a,b)=true):=hq_ (.inr (.inr (by rw [hfs,decide_eq_true hfa];rfl)));rw [decide_eq_true hfa] at HFA;have HFA:=hq_ HFA;clear HFB hfs hfa
  go_enter Tryz.func62,Tryz.ntmps62
  go_wp2_with fail
  go_step3
  go_wp2_with (first|(go_at_call 93;(with_reducible refine (HN.out _ xE).mono ?_);rintro e w1 ⟨bv,N,rfl,-,-,hbv,hb1⟩;obtain ⟨ba,bc,rfl⟩:=hbv.form;have hrx:=(Bxx.at (w:=w.alloc (.cells #[.int .i64 a,.int .i64 b] 28)) (b:=w.heap.size+1) (c:=#[.int .i64 0,.int .i64 0]) (t:=28) sq_).below hb1;have hsx:=((Bxx.new w #[.int .i64 a,.int .i64 b] 28).alloc (.cells #[.int .i64 0,.int .i64 0] 28)).below hb1;have r0:=hrx.cells 0;have r1:=hrx.cells 1;have x0:=(hsx.cells 0).1;have x1:=(hsx.cells 1).1;have HRX:=hq_ hrx;have hz1:=hrx.lt;clear hrx hsx hbv)|(go_at_call 104;(with_reducible refine (HFA.out _).mono ?_);rintro e w2 ⟨rfl,rfl⟩))
  have hrx:=HRX.out;have c0:Bxx _ _ _ 28:=a0_ 0 (.int .i64 0) hrx;have c1:Bxx _ _ _ 28:=a0_ 1 (.int .i64 0) c0;have s0:=(c1.cells 0).1;have s1:=(c1.cells 1).1;exact bodyPost_ret (v:=.tuple #[.agg #[.int .i64 0,.int .i64 0],.bool false]) (by simp [results,Tryz.results62,go_sem,s0,s1]) rfl ⟨0,0,false,rfl,by exact xE,.inl ⟨HBAD.out,rfl,rfl,rfl⟩⟩
 by_cases hfb:b < -2251799813685248∨b > 2251799813685248
 ·have HBAD:Hid (l.any farS=true∨n<1∨farS (a,b)=true):=hq_ (.inr (.inr (by rw [hfs,decide_eq_true hfb,Bool.or_true])));rw [decide_eq_false hfa] at HFA;rw [decide_eq_true hfb] at HFB;have HFA:=hq_ HFA;have HFB:=hq_ HFB;clear hfs hfa hfb
  go_enter Tryz.func62,Tryz.ntmps62
  go_wp2_with fail
  go_step3
  go_wp2_with (first|(go_at_call 93;(with_reducible refine (HN.out _ xE).mono ?_);rintro e w1 ⟨bv,N,rfl,-,-,hbv,hb1⟩;obtain ⟨ba,bc,rfl⟩:=hbv.form;have hrx:=(Bxx.at (w:=w.alloc (.cells #[.int .i64 a,.int .i64 b] 28)) (b:=w.heap.size+1) (c:=#[.int .i64 0,.int .i64 0]) (t:=28) sq_).below hb1;have hsx:=((Bxx.new w #[.int .i64 a,.int .i64 b] 28).alloc (.cells #[.int .i64 0,.int .i64 0] 28)).below hb1;have r0:=hrx.cells 0;have r1:=hrx.cells 1;have x0:=(hsx.cells 0).1;have x1:=(hsx.cells 1).1;have HRX:=hq_ hrx;have hz1:=hrx.lt;clear hrx hsx hbv)|(go_at_call 104;first|((with_reducible refine (HFA.out _).mono ?_);rintro e w2 ⟨rfl,rfl⟩)|((with_reducible refine (HFB.out _).mono ?_);rintro e w2 ⟨rfl,rfl⟩)))
  have hrx:=HRX.out;have c0:Bxx _ _ _ 28:=a0_ 0 (.int .i64 0) hrx;have c1:Bxx _ _ _ 28:=a0_ 1 (.int .i64 0) c0;have s0:=(c1.cells 0).1;have s1:=(c1.cells 1).1;exact bodyPost_ret (v:=.tuple #[.agg #[.int .i64 0,.int .i64 0],.bool false]) (by simp [results,Tryz.results62,go_sem,s0,s1]) rfl ⟨0,0,false,rfl,by exact xE,.inl ⟨HBAD.out,rfl,rfl,rfl⟩⟩
 have HGF:Hid (farS (a,b)=false):=hq_ (by rw [hfs,decide_eq_false hfa,decide_eq_false hfb];rfl);have a5:-2251799813685248≤a:=oq_;have a6:a≤2251799813685248:=oq_;have a7:-2251799813685248≤b:=oq_;have a8:b≤2251799813685248:=oq_;have hn2:1≤n:=oq_;rw [decide_eq_false hfa] at HFA;rw [decide_eq_false hfb] at HFB;have HFA:=hq_ HFA;have HFB:=hq_ HFB;clear hfs hfa hfb
 go_enter Tryz.func62,Tryz.ntmps62
 go_wp2_with fail
 go_step3
 go_wp2_with (first|(go_at_call 93;(with_reducible refine (HN.out _ xE).mono ?_);rintro e w1 ⟨bv,N,rfl,hNS,hNL,hbv,hb1⟩;obtain ⟨ba,bc,rfl⟩:=hbv.form;have hrx:=(Bxx.at (w:=w.alloc (.cells #[.int .i64 a,.int .i64 b] 28)) (b:=w.heap.size+1) (c:=#[.int .i64 0,.int .i64 0]) (t:=28) sq_).below hb1;have hsx:=((Bxx.new w #[.int .i64 a,.int .i64 b] 28).alloc (.cells #[.int .i64 0,.int .i64 0] 28)).below hb1;have HSX:=hq_ hsx;have HRX:=hq_ hrx;have HB1:=hq_ (show Below w.heap.size w w1 from Et xE hb1);have hz1:=hrx.lt;have x0:=(hsx.cells 0).1;have x1:=(hsx.cells 1).1;have HNS:=hq_ hNS;have HNL:=hq_ hNL;have HBV:=hq_ hbv;clear hrx hsx hb1 hNS hNL hbv)|(go_at_call 104;first|((with_reducible refine (HFA.out _).mono ?_);rintro e w2 ⟨rfl,rfl⟩)|((with_reducible refine (HFB.out _).mono ?_);rintro e w2 ⟨rfl,rfl⟩)))
 clear x0 x1
 go_step3
 go_wp2_with fail
 have hNlen:=HBV.out.len;go_loopw [10,12] (fun av _ wr=>∃ x:Int,av=.int .i64 x∧-2251799813685248≤x∧x≤2251799813685248∧Hid (GapI (SpM N) n a x)∧Hid (Below w1.heap.size w1 wr)) (fun av _ _=>(b-intOf av).toNat)
 case atStart=>exact ⟨a,rfl,a5,a6,hq_ GapI.start,hq_ (Below.refl _ _)⟩
 case round=>
  obtain ⟨x,rfl,hx1,hx2,HG,HB⟩:=hrel;have x0:=((HSX.out.below HB.out).cells 0).1;have x1:=((HSX.out.below HB.out).cells 1).1;have hwz:=HB.out.size;by_cases hge:n≤b-x
  ·go_wp2_with fail
   clear x0 x1;go_loopw [10,12,45] (fun av _ iv wq=>∃ k:Nat,k≤N.length∧av=.int .i64 x∧iv=.int .i64 k∧Hid (∀ j,j<k->¬ ((N.getD j default).1<x+n∧x<(N.getD j default).2))∧Hid (Below w1.heap.size w1 wq)) (fun _ _ iv _=>N.length-(intOf iv).toNat)
   case atStart=>exact ⟨0,oq_,rfl,rfl,hq_ (by intro j hj;omega),HB⟩
   case round=>
    obtain ⟨k,hk,rfl,rfl,HNO,HB2⟩:=hrel;have hwz2:=HB2.out.size;by_cases hlt:k<N.length
    ·have hlI:(k:Int)<N.length:=oq_;have HLT:=hq_ (show k+1≤N.length by omega);obtain ⟨b8,f8,s1,s2,rfl,hb8,hs,hs1,hs2,e0,e1⟩:=(HBV.out.ext HB2.out).get hlt;have HMEM:Hid ((s1,s2)∈N):=hq_ (by rw [<- hs];exact ac_ hlt);obtain ⟨p1,p2,p3⟩:=vb_ HQF.out HNS.out HNL.out HMEM.out;dsimp only at p1 p2 p3;have HS:=hq_ hs;clear hs hlt;by_cases h1:s1<x+n
     ·by_cases h2:x<s2
      ·go_wp2_with fail
       go_roundw
       case rel=>exact ⟨s2,rfl,oq_,p3,hq_ (HG.out.step hn2 HMEM.out h1 h2 p1),hq_ (by exact Ea HB2.out _)⟩
       case measure=>simp [intOf];omega
      ·go_wp2_with fail
       go_roundw
       case rel=>exact ⟨k+1,HLT.out,rfl,by go_num,hq_ fun j hj=>by
        by_cases e:j<k
        ·exact HNO.out j e
        ·obtain rfl:j=k:=oq_;rw [HS.out];exact fun h=>h2 h.2,hq_ (by exact Ea HB2.out _)⟩
       case measure=>have:=HLT.out;simp [intOf];omega
     ·go_wp2_with fail
      go_roundw
      case rel=>exact ⟨k+1,HLT.out,rfl,by go_num,hq_ fun j hj=>by
       by_cases e:j<k
       ·exact HNO.out j e
       ·obtain rfl:j=k:=oq_;rw [HS.out];exact fun h=>h1 h.1,hq_ (by exact Ea HB2.out _)⟩
      case measure=>have:=HLT.out;simp [intOf];omega
    ·obtain rfl:k=N.length:=oq_;have hkI:¬ (N.length:Int)<N.length:=oq_;have hrx:=HRX.out.below HB2.out;have r0:=hrx.cells 0;have r1:=hrx.cells 1;have HK:=HG.out.found (b:=b) oq_ fun s hs=>by
      obtain ⟨j,hj,e⟩:=b6_ (d:=default) hs;rw [<- e];exact HNO.out j hj
     have HK:=hq_ (HK.congr HNL.out);have HE:=hq_ (Et HB1.out (HB2.out.mono oq_));go_wp2_with fail
     have c0:Bxx _ _ _ 28:=a0_ 0 (.int .i64 x) hrx;have c1:Bxx _ _ _ 28:=a0_ 1 (.int .i64 (x+n)) c0;have s0:=(c1.cells 0).1;have s1:=(c1.cells 1).1;have hbe:=HE.out;exact bodyPost_ret (v:=.tuple #[.agg #[.int .i64 x,.int .i64 (x+n)],.bool true]) (by simp [results,Tryz.results62,go_sem,s0,s1]) rfl ⟨x,x+n,true,rfl,by exact xE,.inr ⟨HQF.out,hn2,HGF.out,HK.out,rfl⟩⟩
  ·have hlt:b-x<n:=oq_;have hrx:=HRX.out.below HB.out;have r0:=hrx.cells 0;have r1:=hrx.cells 1;have HK:=hq_ ((HG.out.none (b:=b) oq_).congr HNL.out);have HE:=hq_ (Et HB1.out (HB.out.mono oq_));go_wp2_with fail
   have c0:Bxx _ _ _ 28:=a0_ 0 (.int .i64 0) hrx;have c1:Bxx _ _ _ 28:=a0_ 1 (.int .i64 0) c0;have s0:=(c1.cells 0).1;have s1:=(c1.cells 1).1;have hbe:=HE.out;exact bodyPost_ret (v:=.tuple #[.agg #[.int .i64 0,.int .i64 0],.bool false]) (by simp [results,Tryz.results62,go_sem,s0,s1]) rfl ⟨0,0,false,rfl,by exact xE,.inr ⟨HQF.out,hn2,HGF.out,HK.out,rfl⟩⟩
theorem SmD.ids {L:List EntV} {F:Nat->Prop} (hd:SmD (L.map EntV.ent)) (h:DiaL W F v L) {x:EntV} (hx:x∈L):SmS x.s∧InI x.id:=⟨(hd.good x.ent (List.mem_map.2 ⟨x,hx,rfl⟩)).2,(h.all x hx).2.1⟩
def SelV (w1:World) (a0:Option Addr) (n c0 g:Nat) (lb:Array Value) (v:Value) (W:World):Prop:=
 ∃ u,v=.func (.func 94) #[] #[.pointer (some ⟨u,0,none⟩),.pointer (some ⟨u+1,0,none⟩)]∧w1.heap.size≤u∧Bxx W u #[.slice a0 n c0] 25∧Bxx W (u+1) #[.func (.func g) #[] lb] 88
theorem SelV.ext {a0:Option Addr} {c0:Nat} {lb:Array Value} (h:SelV w1 a0 n c0 g lb v W) (hb:Below W.heap.size W W'):SelV w1 a0 n c0 g lb v W':=by
 obtain ⟨u,h1,h2,h3,h4⟩:=h;exact ⟨u,h1,h2,h3.below hb,h4.below hb⟩
theorem SelV.new {a0:Option Addr} {c0:Nat} {lb:Array Value} (h:w1.heap.size≤W.heap.size):SelV w1 a0 n c0 g lb (.func (.func 94) #[] #[.pointer (some ⟨W.heap.size,0,none⟩),.pointer (some ⟨W.heap.size+1,0,none⟩)]) ((W.alloc (.cells #[.slice a0 n c0] 25)).alloc (.cells #[.func (.func g) #[] lb] 88)):=
 ⟨_,rfl,h,(Bxx.at rfl).alloc _,Bxx.at sq_⟩
def BuS (w1:World) (d:List Ent) (a b:Int) (v:Value) (W:World):Prop:=∃ N,BusyTo d a b N∧N.length≤400000∧SpnL W (fun k=>w1.heap.size≤k) v N
def BuV (w1:World) (d:List Ent) (a b:Int) (v:Value) (W:World):Prop:=∃ bv N,v=.tuple #[bv,.int .i64 0]∧BusyTo d a b N∧N.length≤400000∧SpnL W (fun k=>w1.heap.size≤k) bv N
theorem BuS.ext {d:List Ent} (h:BuS w1 d a b v W) (hb:Below W.heap.size W W'):BuS w1 d a b v W':=by
 obtain ⟨N,h1,h2,h3⟩:=h;exact ⟨N,h1,h2,h3.ext hb⟩
theorem BuV.ext {d:List Ent} (h:BuV w1 d a b v W) (hb:Below W.heap.size W W'):BuV w1 d a b v W':=by
 obtain ⟨bv,N,h0,h1,h2,h3⟩:=h;exact ⟨bv,N,h0,h1,h2,h3.ext hb⟩
theorem BuV.mk {d:List Ent} {bv:Value} {N:List Spn} (hs:w1.heap.size≤W.heap.size) (h:BusyTo d a b N∧N.length≤400000∧SpnL W' (fun k=>W.heap.size≤k) bv N∧Below W.heap.size W W'):BuV w1 d a b (.tuple #[bv,.int .i64 0]) W':=
 ⟨bv,N,rfl,h.1,h.2.1,h.2.2.1.mono fun k hk=>Nat.le_trans hs hk⟩
theorem n4_ (F:Nat->Prop) (a0:Option Addr) (c0:Nat) (L:List EntV) (g:Nat) (lb:Array Value) (p:EntV->Bool) (a b:Int) (u:Nat) (w W:World) (h:DiaL w F (.slice a0 L.length c0) L) (hW:Below w.heap.size w W) (hd:SmD (L.map EntV.ent)) (hw:WinB a b)
  (hb0:Bxx W u #[.slice a0 L.length c0] 25) (hb1:Bxx W (u+1) #[.func (.func g) #[] lb] 88)
  (eg:∀ args w,(callFunc g args).run Tryz.prog w=.ok (.enter g args) w) (hp:∀ (W':World) (x:EntV),KpB (fun k=>k<W.heap.size) W W'->x∈L->Calls Tryz.prog g (#[x.val] ++ lb) W' fun e w'=>e=.returned (.bool (p x))∧Below W'.heap.size W' w') :
  Calls Tryz.prog 49 #[.func (.func 94) #[] #[.pointer (some ⟨u,0,none⟩),.pointer (some ⟨u+1,0,none⟩)],.agg #[.int .i64 a,.int .i64 b]] W (hi_ ((L.filter p).map EntV.ent) a b W):=by
 have hD:=h.lt.ext hW;have hs:=hW.size;refine vi_ (fun k=>k<W.heap.size) _ _ (L.filter p) a b _ (dm_ _ _ a0 c0 u (u+1) L g lb p _ hD (fun k hk=>by have:=hk.2;omega) (fun k hk=>hk) hb0 hb1 hb0.lt hb1.lt eg hp) (fun k hk=>hk) (enters_of Tryz.func94 (by kernel_rfl) rfl) (fun x hx=>hd.ids h (List.mem_filter.1 hx).1) ?_ hw;have h1:=List.length_filter_le p L;have h2:=hd.len;rw [List.length_map] at h2;omega
theorem i7_ (F:Nat->Prop) (v:Value) (L:List EntV) (only:Bool) (a b:Int) (w:World) (h:DiaL w F v L) (hd:SmD (L.map EntV.ent)) (hw:WinB a b) :
  Calls Tryz.prog 16 #[v,.bool only,.agg #[.int .i64 a,.int .i64 b]] w (hi_ (selD only (L.map EntV.ent)) a b w):=by
 obtain ⟨a0,c0,rfl⟩:=h.form;have HV:=hq_ (fun W (hb:Below w.heap.size w W)=>cp_ F _ L W (h.ext hb));rw [c9_.2 hd.valid] at HV;have hsel:selD only (L.map EntV.ent)=(L.filter fun x=>x.firm || !only).map EntV.ent:=(dh_ fun x=>rfl).symm;rw [hsel];have hus:=fun (w1:World) (h1:Below w.heap.size w w1) (hx:Bxx w1 w.heap.size #[.bool only] 4) (u:Nat) (W:World) (hW:Below w1.heap.size w1 W) (hv:w1.heap.size≤u∧Bxx W u #[.slice a0 L.length c0] 25∧Bxx W (u+1) #[.func (.func 51) #[] #[.pointer (some ⟨w.heap.size,0,none⟩)]] 88)=>n4_ F a0 c0 L 51 #[.pointer (some ⟨w.heap.size,0,none⟩)] (fun x=>x.firm || !only) a b u w1 W (h.ext h1) hW hd hw hv.2.1 hv.2.2 (enters_of Tryz.func51 (by kernel_rfl) rfl) fun W' x hk hxL=>by
  obtain ⟨x1,d1,x2,d2,hcv,hev⟩:=(h.all x hxL).1.form;have hc:=KpB.cell (A:=W) hk (a:=⟨w.heap.size,0,none⟩) (by have:=hx.lt;have:=hW.size;show w.heap.size<_;omega) (((hx.below hW).cells 0).1);have:=r4_ x1 x2 x.s.cls.length d1 x.s.ext.length d2 x.id x.rank x.s.len x.firm w.heap.size only W' hc;rw [EntV.val,hcv,hev];exact this
 obtain ⟨d,hdd⟩:∃ d,d=(L.filter fun x=>x.firm || !only).map EntV.ent:=⟨_,rfl⟩;rw [<- hdd] at hus ⊢;have HUS0:=hq_ hus;clear hus hdd;clear h hd hsel
 go_enter Tryz.func16,Tryz.ntmps16
 go_upto_region 3 with (go_at_call 40;(with_reducible refine (HV.out _ xE).mono ?_);rintro e w1 ⟨rfl,hb1⟩;have hbx:=((Bxx.new w #[.bool only] 4).alloc (.cells #[.int .i64 a,.int .i64 b] 28)).below hb1;have hby:=(Bxx.at (w:=w.alloc (.cells #[.bool only] 4)) (b:=w.heap.size+1) (c:=#[.int .i64 a,.int .i64 b]) (t:=28) sq_).below hb1;have HB1:=hq_ (show Below w.heap.size w w1 from Et xE hb1);have HBX:=hq_ hbx;have x0:=(hby.cells 0).1;have x1:=(hby.cells 1).1;clear hb1 hbx hby)
 have HUS:=hq_ (HUS0.out w1 HB1.out HBX.out);refine aw_ (w0:=w1) [0,1,2,3,4,5,6] [7,8] [11,12,13,14,15,16,17] [.slice a0 L.length c0,.func (.func 51) #[] #[.pointer (some ⟨w.heap.size,0,none⟩)],undef,.agg #[.int .i64 a,.int .i64 b],undef,undef,.int .i64 0] [[],[],[0,1],[],[3],[],[]] [[],[],[],[],[2],[4],[4]] [2,4,5] (fun i v lo hi W=>match i with|2=>SelV w1 a0 L.length c0 51 #[.pointer (some ⟨w.heap.size,0,none⟩)] (v 2) W|4=>BuV w1 d a b (v 4) W|5=>BuS w1 d a b (v 5) W|_=>True) (.a x0 (.a x1 (.b))) ?steps ?fin
 case steps=>
  repeat' first|exact .n|refine .c ?_ ?_|fail
  all_goals try exact stw
  ·rintro v lo hi W hb ⟨g0,g1,gB⟩ _;refine .inl ⟨rfl,fun K hK=>?_⟩;simp only [ov,vat,Nat.reduceBEq,cond_true,cond_false];go_wp2_with (go_at_call 50;refine (cn_ a0 L.length c0 _ _ _).mono ?_;rintro e w9 ⟨rfl,rfl⟩)
   exact acx (hK (.func (.func 94) #[] #[.pointer (some ⟨W.heap.size,0,none⟩),.pointer (some ⟨W.heap.size+1,0,none⟩)]) _ xE (SelV.new gB.size)) (by simp [ov,vat,upd])
  ·rintro v lo hi W hb ⟨g0,g1,gB⟩ ⟨⟨la2,lb2,D2⟩,_⟩;refine .inl ⟨rfl,fun K hK=>?_⟩;simp only [ov,vat,Nat.reduceBEq,cond_true,cond_false]
   (try dsimp only at D2)
   obtain ⟨u,e2,h2⟩:=D2
   (try simp only [e2])
   go_wp2_with (go_at_call 49;refine (HUS.out u W gB h2).mono ?_;rintro e w9 ⟨bv,N,rfl,hN⟩)
   exact acx (hK (.tuple #[bv,.int .i64 0]) w9 hN.2.2.2 (BuV.mk gB.size hN)) (by simp [ov,vat,upd,e2])
  ·rintro v lo hi W hb ⟨g0,g1,gB⟩ ⟨⟨la4,lb4,D4⟩,_⟩;refine .inl ⟨rfl,fun K hK=>?_⟩;simp only [ov,vat,Nat.reduceBEq,cond_true,cond_false]
   (try dsimp only at D4)
   obtain ⟨bv,N,e4,h4⟩:=D4
   (try simp only [e4])
   go_wp2_with fail
   exact acx (hK bv W (Below.refl _ _) ⟨N,h4⟩) (by simp [ov,vat,upd,e4])
  ·rintro v lo hi W hb ⟨g0,g1,gB⟩ ⟨⟨la4,lb4,D4⟩,_⟩;refine .inl ⟨rfl,fun K hK=>?_⟩;simp only [ov,vat,Nat.reduceBEq,cond_true,cond_false]
   (try dsimp only at D4)
   obtain ⟨bv,N,e4,h4⟩:=D4
   (try simp only [e4])
   go_wp2_with fail
   exact acx (hK W (Below.refl _ _)) (by simp [ov,vat,upd,e4])
 case fin=>
  rintro v lo hi W2 hb2 ⟨g0,g1,gB⟩ hf hap;show wpList _ _ _ [_,_] _ _;obtain ⟨-,-,-,N,h1,h2,h3⟩:=hf 5 rfl;have e6:v 6=.int .i64 0:=(hf 6 rfl).2.2.2;have HB2:=hq_ (Et HB1.out hb2);have HR:=hq_ (show BusyTo d a b N∧N.length≤400000∧SpnL W2 (fun k=>w.heap.size≤k) (v 5) N from ⟨h1,h2,h3.mono fun k hk=>Nat.le_trans HB1.out.size hk⟩);rw [e6];clear e6 hf hap h1 h2 h3 x0 x1 g0 g1 gB;generalize v 0=yv0,v 1=yv1,v 2=yv2,v 3=yv3,v 4=yv4;go_wp2_with fail
  exact bodyPost_ret (v:=.tuple #[v 5,.int .i64 0]) (by simp [results,Tryz.results16,go_sem]) rfl ⟨_,N,rfl,HR.out.1,HR.out.2.1,HR.out.2.2,HB2.out⟩
def menc (x:a4_):List Value:=[.int .i64 x.frm,.int .i64 x.fin,.int .i64 x.kind]
def denc (x:a4_):List Value:=[.int .i64 x.id]
theorem iq_ (x:a4_):(menc x).length=3:=rfl
theorem u5_ (x:a4_):(denc x).length=1:=rfl
theorem ml_ (x:a4_):∀ u∈menc x,u.oneCell'=true:=fun u hu=>by
 unfold menc at hu;simp at hu;rcases hu with rfl|rfl|rfl <;> rfl
theorem m6_ (x:a4_):∀ u∈denc x,u.oneCell'=true:=fun u hu=>by
 obtain rfl:=List.mem_singleton.1 hu;rfl
theorem mi_:∃ i,Tryz.prog.info? 72=some i∧i.zero=some (.agg #[.int .i64 0,.int .i64 0,.int .i64 0])∧i.size=3∧i.bytes=24:=by
 have h:(Tryz.prog.info? 72).map (fun i=>(i.zero,i.size,i.bytes))=some (some (.agg #[.int .i64 0,.int .i64 0,.int .i64 0]),3,24):=by kernel_rfl
 obtain ⟨i,hi,h1,h2,h3⟩:=info_parts h;exact ⟨i,hi,h1,h2,h3⟩
theorem eh_ {B' k' n':Nat} {e':TypeId} {xs':List Value} (h:W.ownsRow B e k v n xs) (h':W.ownsRow B' e' k' v' n' xs') (hne:e≠e') (hg:v.ownBlock=some g):v'.ownBlock≠some g:=fun hg'=>by
 obtain ⟨_,⟨rfl,_⟩|⟨g1,c1,u1,rfl,_,h1,_⟩⟩:=h
 ·cases hg
 ·obtain ⟨_,⟨rfl,_⟩|⟨g2,c2,u2,rfl,_,h2,_⟩⟩:=h'
  ·cases hg'
  ·obtain rfl:g1=g:=by injection hg
   obtain rfl:g2=g1:=by injection hg'
   rw [h1] at h2;injection h2 with h2
   injection h2 with _ h2 _
   exact hne h2
theorem OwnG.keepP {α:Type} {sz:Nat} {enc:α->List Value} {p:α->Prop} {A:Nat->Prop} {D:List α} (h:OwnG e sz enc (fun _ _ x=>p x) B A W v D) (hg:W.grownBy W' u.ownBlock) (hne:∀ g,v.ownBlock=some g->u.ownBlock≠some g):OwnG e sz enc (fun _ _ x=>p x) B A W' v D:=
 ⟨h.row.kept hg (by
  rcases hq:v.ownBlock with _|g
  ·exact .inl rfl
  ·exact .inr fun e=>hne g hq e.symm),h.all,h.ne,h.len⟩
def VasV (w1:World) (a0:Option Addr) (n c0:Nat) (v:Value) (W:World):Prop:=
 ∃ u,v=.func (.func 99) #[] #[.pointer (some ⟨u,0,none⟩)]∧w1.heap.size≤u∧Bxx W u #[.slice a0 n c0] 25
theorem VasV.ext {a0:Option Addr} {c0:Nat} (h:VasV w1 a0 n c0 v W) (hb:Below W.heap.size W W'):VasV w1 a0 n c0 v W':=by
 obtain ⟨u,h1,h2,h3⟩:=h;exact ⟨u,h1,h2,h3.below hb⟩
def LiS (w1:World) (R:List a4_) (Q:Prop) (v:Value) (W:World):Prop:=∃ B,w1.heap.size≤B∧OwnG 106 5 lenc (fun _ _ x=>LnI x) B (fun _=>False) W v R∧R.length≤4000∧Q
def LiV (w1:World) (R:List a4_) (Q:Prop) (v:Value) (W:World):Prop:=∃ lv,v=.tuple #[lv,.int .i64 0]∧LiS w1 R Q lv W
theorem LiS.ext {R:List a4_} {Q:Prop} (h:LiS w1 R Q v W) (hb:Below W.heap.size W W'):LiS w1 R Q v W':=by
 obtain ⟨B,h1,h2,h3⟩:=h;exact ⟨B,h1,h2.below aa_ hb,h3⟩
theorem eo_ {F:Nat->Prop} {a:Option Addr} {D:List a4_} (h:RowR W F (.slice a n c) n (D.flatMap lenc)) (hk:k<D.length) (hn:n=D.length) :
  ∃ b o x,a=some ⟨b,o,none⟩∧b<W.heap.size∧D.getD k default=x∧W.cell? ⟨b,o+k*5,none⟩=some (.int .i64 x.frm)∧W.cell? ⟨b,o+k*5+1,none⟩=some (.int .i64 x.fin)∧W.cell? ⟨b,o+k*5+2,none⟩=some (.int .i64 x.kind)∧W.cell? ⟨b,o+k*5+3,none⟩=some (.int .i64 x.id)∧W.cell? ⟨b,o+k*5+4,none⟩=some (.int .i64 x.day):=by
 obtain ⟨a',c',he,h1,h2,h3⟩:=h;injection he with e1 _ e2
 subst e1;subst e2;rcases h3 with h3|⟨b,o,rfl,hF,hl,hc⟩
 ·omega
 ·exact ⟨b,o,D.getD k default,rfl,hl,rfl,hc (k*5+0) _ (a7_ bp_ default hk rfl),hc (k*5+1) _ (a7_ bp_ default hk rfl),hc (k*5+2) _ (a7_ bp_ default hk rfl),hc (k*5+3) _ (a7_ bp_ default hk rfl),hc (k*5+4) _ (a7_ bp_ default hk rfl)⟩
theorem LiV.ext {R:List a4_} {Q:Prop} (h:LiV w1 R Q v W) (hb:Below W.heap.size W W'):LiV w1 R Q v W':=by
 obtain ⟨lv,h1,h2⟩:=h;exact ⟨lv,h1,h2.ext hb⟩
def vn_ (d:List Ent) (a b:Int) (w:World) (e:Ending) (w':World):Prop:=
 ∃ (v1 v2:Value) (R:List a4_),e=.returned (.tuple #[v1,v2,.int .i64 0])∧R.Perm (linW d a b)∧(R.Pairwise fun x y=>¬ LtL y x)∧R.length≤4096∧RowR w' (fun k=>w.heap.size≤k) v1 R.length (R.flatMap menc)∧RowR w' (fun k=>w.heap.size≤k) v2 R.length (R.flatMap denc)∧(a<b->∀ e∈d,∃ D,au_ e.s a b D)∧Below w.heap.size w w'
theorem j6_ (F:Nat->Prop) (v:Value) (L:List EntV) (a b:Int) (w:World) (h:DiaL w F v L) (hd:SmD (L.map EntV.ent)) (hL:L.length≤40) (hw:WinB a b) :
  Calls Tryz.prog 18 #[v,.agg #[.int .i64 a,.int .i64 b]] w (vn_ (L.map EntV.ent) a b w):=by
 have h:=h.lt;obtain ⟨a0,c0,rfl⟩:=h.form;have HV:=hq_ (fun W (hb:Below w.heap.size w W)=>cp_ _ _ L W (h.ext hb));rw [c9_.2 hd.valid] at HV;obtain ⟨R,hR⟩:∃ R,R=linW (L.map EntV.ent) a b:=⟨_,rfl⟩;obtain ⟨Q,hQ⟩:∃ Q:Prop,Q=(a<b->∀ e∈L.map EntV.ent,∃ D,au_ e.s a b D):=⟨_,rfl⟩;have hln:∀ (w1:World),Below w.heap.size w w1->∀ (u:Nat) (W:World),Below w1.heap.size w1 W->(w1.heap.size≤u∧Bxx W u #[.slice a0 L.length c0] 25)->
   Calls Tryz.prog 54 #[.func (.func 99) #[] #[.pointer (some ⟨u,0,none⟩)],.agg #[.int .i64 a,.int .i64 b]] W fun e w'=>∃ v,e=.returned (.tuple #[v,.int .i64 0])∧OwnG 106 5 lenc (fun _ _ x=>LnI x) W.heap.size (fun _=>False) w' v R∧(R.length≤4000∧Q)∧Below W.heap.size W w':=fun w1 h1 u W hW hv=>
  (kp_ (fun k=>k<W.heap.size) 99 #[.pointer (some ⟨u,0,none⟩)] L a b W
   (ne_ _ _ a0 c0 u L W ((h.ext h1).ext hW) (fun k hk=>by have:=hk.2;have:=h1.size;have:=hW.size;omega) (fun k hk=>hk) hv.2 hv.2.lt) (fun k hk=>hk) (enters_of Tryz.func99 (by kernel_rfl) rfl) (fun x hx=>hd.ids h hx) oq_ hw).mono fun e w' hq=>by
    obtain ⟨v,e1,e2,e3,e4,e5⟩:=hq;exact ⟨v,e1,by rw [hR];exact e2,⟨by rw [hR];omega,by rw [hQ];exact e4⟩,e5⟩
 have HLN0:=hq_ hln;have HRR:=hq_ hR;have HQQ:=hq_ hQ;clear hln hR hQ;obtain ⟨iM,iM1,iM2,iM3,iM4⟩:=mi_;have HIM:=hq_ (And.intro iM1 (And.intro iM2 (And.intro iM3 iM4)));obtain ⟨iI,iI1,iI2,iI3,iI4⟩:=dr_;have HII:=hq_ (And.intro iI1 (And.intro iI2 (And.intro iI3 iI4)));have HLL:=hq_ hL;clear h hd hw iM1 iM2 iM3 iM4 iI1 iI2 iI3 iI4 hL
 go_enter Tryz.func18,Tryz.ntmps18
 go_upto_region 3 with (go_at_call 40;(with_reducible refine (HV.out _ xE).mono ?_);rintro e w1 ⟨rfl,hb1⟩;have hby:=(Bxx.new w #[.int .i64 a,.int .i64 b] 28).below hb1;have HB1:=hq_ (show Below w.heap.size w w1 from Et xE hb1);have x0:=(hby.cells 0).1;have x1:=(hby.cells 1).1;have hz1:=hby.lt;clear hb1 hby)
 have HLN:=hq_ (HLN0.out w1 HB1.out);refine aw_ (w0:=w1) [0,1,2,3,4,5,6,7] [8] [17,18,19,20,16,21,22,7] [.slice a0 L.length c0,undef,.agg #[.int .i64 a,.int .i64 b],undef,undef,undef,.int .i64 0,undef] [[],[0],[],[2],[],[],[],[]] [[],[],[],[1],[3],[4],[4],[5]] [1,3,4,5,7] (fun i v lo hi W=>match i with|1=>VasV w1 a0 L.length c0 (v 1) W|3=>LiV w1 R Q (v 3) W|4=>LiV w1 R Q (v 4) W|5=>LiS w1 R Q (v 5) W|7=>LiS w1 R Q (v 7) W|_=>True) (.a x0 (.a x1 (.b))) ?steps ?fin
 case steps=>
  repeat' first|exact .n|refine .c ?_ ?_|fail
  all_goals try exact stw
  ·rintro v lo hi W hb ⟨g0,g1,gB⟩ _;refine .inl ⟨rfl,fun K hK=>?_⟩;simp only [ov,vat,Nat.reduceBEq,cond_true,cond_false];go_wp2_with (go_at_call 55;refine (nd_ a0 L.length c0 _).mono ?_;rintro e w9 ⟨rfl,rfl⟩)
   exact acx (hK (.func (.func 99) #[] #[.pointer (some ⟨W.heap.size,0,none⟩)]) _ xE ⟨_,rfl,gB.size,Bxx.at rfl⟩) (by simp [ov,vat,upd])
  ·rintro v lo hi W hb ⟨g0,g1,gB⟩ ⟨⟨la1,lb1,D1⟩,_⟩;refine .inl ⟨rfl,fun K hK=>?_⟩;simp only [ov,vat,Nat.reduceBEq,cond_true,cond_false]
   (try dsimp only at D1)
   obtain ⟨u,e2,h2⟩:=D1
   (try simp only [e2])
   go_wp2_with (go_at_call 54;refine (HLN.out u W gB h2).mono ?_;rintro e w9 ⟨lv,rfl,hl,hq9,hb9⟩)
   exact acx (hK (.tuple #[lv,.int .i64 0]) w9 hb9 ⟨lv,rfl,_,gB.size,hl,hq9⟩) (by simp [ov,vat,upd,e2])
  ·rintro v lo hi W hb ⟨g0,g1,gB⟩ ⟨⟨la3,lb3,D3⟩,_⟩;refine .inl ⟨rfl,fun K hK=>?_⟩;simp only [ov,vat,Nat.reduceBEq,cond_true,cond_false]
   (try dsimp only at D3)
   obtain ⟨lv,e4,h4⟩:=D3
   (try simp only [e4])
   go_wp2_with fail
   exact acx (hK (.tuple #[lv,.int .i64 0]) W (Below.refl _ _) ⟨lv,rfl,h4⟩) (by simp [ov,vat,upd,e4])
  ·rintro v lo hi W hb ⟨g0,g1,gB⟩ ⟨⟨la4,lb4,D4⟩,_⟩;refine .inl ⟨rfl,fun K hK=>?_⟩;simp only [ov,vat,Nat.reduceBEq,cond_true,cond_false]
   (try dsimp only at D4)
   obtain ⟨lv,e4,h4⟩:=D4
   (try simp only [e4])
   go_wp2_with fail
   exact acx (hK lv W (Below.refl _ _) h4) (by simp [ov,vat,upd,e4])
  ·rintro v lo hi W hb ⟨g0,g1,gB⟩ ⟨⟨la4,lb4,D4⟩,_⟩;refine .inl ⟨rfl,fun K hK=>?_⟩;simp only [ov,vat,Nat.reduceBEq,cond_true,cond_false]
   (try dsimp only at D4)
   obtain ⟨lv,e4,h4⟩:=D4
   (try simp only [e4])
   go_wp2_with fail
   exact acx (hK W (Below.refl _ _)) (by simp [ov,vat,upd,e4])
  ·rintro v lo hi W hb ⟨g0,g1,gB⟩ ⟨⟨la5,lb5,D5⟩,_⟩;refine .inl ⟨rfl,fun K hK=>?_⟩;simp only [ov,vat,Nat.reduceBEq,cond_true,cond_false]
   (try dsimp only at D5)
   go_wp2_with fail
   exact acx (hK (v 5) W (Below.refl _ _) D5) (by simp [ov,vat,upd])
 case fin=>
  rintro v lo hi W2 hb2 ⟨g0,g1,gB⟩ hf hap;show wpList _ _ _ [_] _ _;obtain ⟨-,-,-,B,hB,hrow,hRl,hQ2⟩:=hf 7 rfl;have HQ2:=hq_ hQ2;have HRL:=hq_ hRl;have hR4:¬ (4096:Int)<R.length:=oq_;have e6:v 6=.int .i64 0:=(hf 6 rfl).2.2.2;have HB2:=hq_ (Et HB1.out hb2);obtain ⟨la,lc,hlv,-⟩:=hrow.form;rw [hlv] at hrow;have hbs:w.heap.size≤B:=Nat.le_trans HB1.out.size hB;have HSO:=hq_ (sb_ B (.slice la R.length lc) R W2 hrow.row oq_);rw [e6,hlv];clear hQ2 e6 hf hap hlv hb2 x0 x1 g0 g1 gB;generalize v 0=yv0,v 1=yv1,v 2=yv2,v 3=yv3,v 4=yv4,v 5=yv5;have HOWN:=hq_ hrow.row;have HALL:=hq_ hrow.all;have HBS:=hq_ hbs;clear hrow hbs hRl hR4;have hR4:¬ (4096:Int)<R.length:=by have:=HRL.out;omega
  go_wp2_with (go_at_call 56;(with_reducible refine HSO.out.mono ?_);rintro e w4 ⟨rfl,D,hp,hsd,hrw,hgr⟩;have HP:=hq_ hp;have HSD:=hq_ hsd;have HRW:=hq_ hrw;have HB4:=hq_ (HB2.out.grown hgr HB2.out.size (fun q e=>Nat.le_trans HBS.out (HOWN.out.lt q e).1));clear hp hsd hrw hgr)
  have HDL:Hid (D.length=R.length):=hq_ HP.out.length_eq;have HLN4:Hid (∀ x∈D,LnI x):=hq_ fun x hx=>HALL.out x (HP.out.mem_iff.1 hx);clear hR4;go_loopw [9,10,12,33] (fun mv dv _ iv wr=>∃ (k:Nat),k≤R.length∧iv=.int .i64 k∧Hid (OwnG 72 3 menc (fun _ _ x=>LnI x) w4.heap.size (fun _=>False) wr mv (D.take k))∧Hid (OwnG 3 1 denc (fun _ _ x=>LnI x) w4.heap.size (fun _=>False) wr dv (D.take k))∧Hid (Below w4.heap.size w4 wr)) (fun _ _ _ iv _=>R.length-(intOf iv).toNat)
  case atStart=>exact ⟨0,oq_,rfl,hq_ OwnG.nil,hq_ OwnG.nil,hq_ (Below.refl _ _)⟩
  case round=>
   obtain ⟨k,hk,rfl,HM,HI,HB⟩:=hrel;obtain ⟨O,hO⟩:∃ O,O=D.take k:=⟨_,rfl⟩;have HOL:Hid (O.length=k):=hq_ (by rw [hO,List.length_take,Nat.min_eq_left (by have:=HDL.out;omega)]);rw [<- hO] at HM HI;have HOO:=hq_ hO;clear hO;obtain ⟨ma,mc,rfl,-⟩:=HM.out.form;obtain ⟨ia,ic,rfl,-⟩:=HI.out.form;have hwz:=HB.out.size;have hRb:R.length≤4000:=HRL.out;have HRL2:Hid (O.length+1≤1000000):=hq_ (by have:=HOL.out;have:=HRL.out;omega);by_cases hlt:k<R.length
   ·have hlI:(k:Int)<R.length:=oq_;have HLT:=hq_ (show k+1≤R.length by omega);obtain ⟨b8,f8,x,rfl,hb8,hx,e0,e1,e2,e3,e4⟩:=eo_ (HRW.out.keep (W':=wr) (a3_.below HB.out) HB.out.size) (show k<D.length by have:=HDL.out;omega) HDL.out.symm;have HX:Hid (D.take (k+1)=O ++ [x]):=hq_ (by
     have hkD:k<D.length:=by have:=HDL.out;omega
     rw [List.take_succ_eq_append_getElem hkD,<- a6_ (d:=default) hkD,hx,HOO.out])
    have HXL:Hid (LnI x):=hq_ (HLN4.out x (by rw [<- hx];exact ac_ (by have:=HDL.out;omega)));clear hx hlt;have hne:=fun g (hg:Value.ownBlock (.slice ma O.length mc)=some g)=>eh_ HM.out.row HI.out.row dq_ hg;have HNE:=hq_ hne;clear hne;go_wp2_with (first|(at_builtin;((refine ab_ rq_ _ _ _ _ rq_ iM _ 3 24 Tryz.underlying35 HIM.out.1 HIM.out.2.1 HIM.out.2.2.1 HIM.out.2.2.2 rfl dq_ dq_ w4.heap.size (.slice ma O.length mc) O.length (O.flatMap menc) (menc x) rfl rq_ ((HM.out.below aa_ (Ea (Er wr) _)).below aa_ (Ea (Er _) _)).row (wr.heap.size+1) 1 rq_ (al_ (Bxx.at sq_)) (ml_ x) HRL2.out tq_ ?_);intro v' w9 hown9 hgrow9 hloc9;obtain ⟨na,nc,rfl⟩:=a5_ hown9;have HM9:=hq_ (OwnG.push (y:=x) aa_ ((HM.out.below aa_ (Ea (Er wr) _)).below aa_ (Ea (Er _) _)) HXL.out hown9 hgrow9 hloc9 (fun h=>h) HRL2.out);have HI9:=hq_ (((HI.out.below aa_ (Ea (Er wr) _)).below aa_ (Ea (Er _) _)).keepP hgrow9 fun g hg he=>HNE.out g he hg);have hbx9:=((Bxx.at (w:=wr) (b:=wr.heap.size) (c:=#[.int .i64 x.frm,.int .i64 x.fin,.int .i64 x.kind,.int .i64 x.id,.int .i64 x.day]) (t:=106) rfl).alloc (.cells #[.int .i64 x.frm,.int .i64 x.fin,.int .i64 x.kind] 72));have HB9:=hq_ ((Ea (Ea HB.out _) _).grown hgrow9 tq_ fun q e=>(HM.out.row.lt q e).1);have hb9:Bxx w9 wr.heap.size #[.int .i64 x.frm,.int .i64 x.fin,.int .i64 x.kind,.int .i64 x.id,.int .i64 x.day] 106:=(hgrow9.block _ (by simp only [World.size_alloc];omega) (fun e=>by have:=(HM.out.row.lt _ e.symm).2;omega)).trans hbx9;have m3:=(hb9.cells 3).1;have hz9:=hgrow9.size;have hz49:=HB9.out.size;clear hbx9 hb9 hgrow9 hloc9))|(at_builtin;(refine ab_ rq_ _ _ _ _ rq_ iI _ 1 8 Tryz.underlying36 HII.out.1 HII.out.2.1 HII.out.2.2.1 HII.out.2.2.2 rfl dq_ dq_ w4.heap.size (.slice ia O.length ic) O.length (O.flatMap denc) (denc x) rfl rq_ (HI9.out.below aa_ (Ea (Er w9) _)).row w9.heap.size 1 rq_ (al_ (Bxx.at sq_)) (m6_ x) HRL2.out tq_ ?_);intro v' w10 hown10 hgrow10 hloc10;obtain ⟨ja,jc,rfl⟩:=a5_ hown10;have HI10:=hq_ (OwnG.push (y:=x) aa_ (HI9.out.below aa_ (Ea (Er w9) _)) HXL.out hown10 hgrow10 hloc10 (fun h=>h) HRL2.out);have HM10:=hq_ ((HM9.out.below aa_ (Ea (Er w9) _)).keepP hgrow10 fun g hg=>eh_ HM9.out.row HI9.out.row dq_ hg);have HB10:=hq_ ((Ea HB9.out _).grown hgrow10 (by have:=HB9.out.size;simp;omega) fun q e=>(HI9.out.row.lt q e).1);clear hown10 hgrow10 hloc10))
    go_roundw
    case rel=>exact ⟨k+1,HLT.out,by go_num,hq_ (by rw [HX.out];exact HM10.out),hq_ (by rw [HX.out];exact HI10.out),HB10⟩
    case measure=>have:=HLT.out;simp [intOf];omega
   ·obtain rfl:k=R.length:=oq_;have hkI:¬ (R.length:Int)<R.length:=oq_;go_wp2_with fail
    refine bodyPost_ret (v:=.tuple #[.slice ma O.length mc,.slice ia O.length ic,.int .i64 0]) (by simp [results,Tryz.results18,go_sem]) rfl ?_;have hOD:O=D:=by rw [HOO.out,List.take_of_length_le (by have:=HDL.out;omega)]
    have h4:=HB4.out.size;have hm:=HM.out.rowR;have hi:=HI.out.rowR;rw [hOD] at hm hi ⊢;exact ⟨_,_,D,rfl,by rw [<- HRR.out];exact HP.out,HSD.out,by have:=HDL.out;have:=HRL.out;omega,hm.mono fun k hk=>by have:=hk.1;omega,hi.mono fun k hk=>by have:=hk.1;omega,by rw [<- HQQ.out];exact HQ2.out,Et HB4.out HB.out⟩
theorem ul_ (a b:Int) (w:World) (hw:WinB a b):Calls Tryz.prog 31 #[.agg #[.slice none 0 0,.int .i64 1,.slice none 0 0],.agg #[.int .i64 a,.int .i64 b]] w fun e w'=>∃ v,e=.returned (.tuple #[v,.int .i64 0])∧Below w.heap.size w w':=by
 have hS:StrR w (fun _=>False) (.slice none 0 0) (.slice none 0 0) ⟨[],1,[]⟩:=⟨[],rfl,⟨⟨none,0,rfl,sq_,oq_,.inl rfl⟩,sq_,sq_⟩,⟨⟨none,0,rfl,sq_,oq_,.inl rfl⟩,sq_,sq_⟩,by show InI 1;exact ⟨oq_,oq_⟩⟩;have hM:MStr ⟨[],1,[]⟩:=⟨⟨sq_,sq_,sq_,fun i hi=>by simp at hi,fun i hi=>by simp at hi⟩,sq_⟩;refine (kl_ (fun _=>False) (.slice none 0 0) (.slice none 0 0) ⟨[],1,[]⟩ a b w hS hM hw.lo hw.hi hw.le (by have:=hw.sz;omega)).mono ?_;rintro e w' ⟨v,D,k,rfl,hb,h0,h1,hl,⟨_,rfl,_⟩|⟨h,_⟩⟩
 ·exact ⟨v,rfl,hb⟩
 ·simp at hl;subst hl;simp at h
def jw_ (d:List Ent) (n a b:Int) (w:World) (e:Ending) (w':World):Prop:=
 ∃ (f t:Int) (ok:Bool),e=.returned (.tuple #[.agg #[.int .i64 f,.int .i64 t],.bool ok])∧t=(if ok then f+n else 0)∧((n<1∧ok=false∧f=0)∨(1≤n∧GapK (bx_ (selD true d)) n a b f ok))∧Below w.heap.size w w'
theorem ma_ {d:List Ent} {n t:Int} {N:List Spn} (hw:WinB a b) (hN:BusyTo d a b N)
  (h:((N.any farS=true∨n<1∨farS (a,b)=true)∧ok=false∧f=0∧t=0)∨(N.any farS=false∧1≤n∧farS (a,b)=false∧GapK (SpM N) n a b f ok∧t=if ok then f+n else 0)) :
  t=(if ok then f+n else 0)∧((n<1∧ok=false∧f=0)∨(1≤n∧GapK (bx_ d) n a b f ok)):=by
 have h1:=Go.Proofs.YtkclokcenllhmaaGreat.BusyTo.near hN hw;have h2:farS (a,b)=false:=by
  have:=hw.lo;have:=hw.hi;have:=hw.le;unfold farS;simp;omega
 rcases h with ⟨h,rfl,rfl,rfl⟩|⟨_,h3,_,h4,h5⟩
 ·refine ⟨sq_,.inl ⟨?_,rfl,rfl⟩⟩;rcases h with h|h|h
  ·rw [h1] at h;cases h
  ·exact h
  ·rw [h2] at h;cases h
 ·exact ⟨h5,.inr ⟨h3,po_ h3 h4 fun t ha hb=>(hN.2 t).trans ⟨fun h=>h.2.2,fun h=>⟨ha,hb,h⟩⟩⟩⟩
theorem ig_ (F:Nat->Prop) (v:Value) (L:List EntV) (n a b:Int) (w:World) (h:DiaL w F v L) (hd:SmD (L.map EntV.ent)) (hw:WinB a b) (hn:InI n) :
  Calls Tryz.prog 20 #[v,.int .i64 n,.agg #[.int .i64 a,.int .i64 b]] w (jw_ (L.map EntV.ent) n a b w):=by
 obtain ⟨a0,c0,rfl⟩:=h.form;have HV:=hq_ (fun W (hb:Below w.heap.size w W)=>cp_ F _ L W (h.ext hb));rw [c9_.2 hd.valid] at HV;have hsel:selD true (L.map EntV.ent)=(L.filter fun x=>x.firm).map EntV.ent:=by rw [t0_];exact (dh_ fun x=>rfl).symm
 have hus:=fun (w1:World) (h1:Below w.heap.size w w1) (u:Nat) (W:World) (hW:Below w1.heap.size w1 W) (hv:w1.heap.size≤u∧Bxx W u #[.slice a0 L.length c0] 25∧Bxx W (u+1) #[.func (.func 61) #[] #[]] 88)=>n4_ F a0 c0 L 61 #[] (fun x=>x.firm) a b u w1 W (h.ext h1) hW hd hw hv.2.1 hv.2.2 (enters_of Tryz.func61 (by kernel_rfl) rfl) fun W' x hk hxL=>by
  obtain ⟨x1,d1,x2,d2,hcv,hev⟩:=(h.all x hxL).1.form;have:=kk_ x1 x2 x.s.cls.length d1 x.s.ext.length d2 x.id x.rank x.s.len x.firm W';rw [EntV.val,hcv,hev];exact this
 obtain ⟨d,hdd⟩:∃ d,d=(L.filter fun x=>x.firm).map EntV.ent:=⟨_,rfl⟩;rw [<- hdd] at hus hsel;have hGR:∀ e w',(∃ (f t:Int) (ok:Bool),e=.returned (.tuple #[.agg #[.int .i64 f,.int .i64 t],.bool ok])∧(t=(if ok then f+n else 0)∧((n<1∧ok=false∧f=0)∨(1≤n∧GapK (bx_ d) n a b f ok)))∧Below w.heap.size w w')->jw_ (L.map EntV.ent) n a b w e w':=by
  rintro e w' ⟨f,t,ok,h1,h2,h3⟩;exact ⟨f,t,ok,h1,h2.1,by rw [hsel];exact h2.2,h3⟩
 have HGR:=hq_ hGR;have HUS0:=hq_ hus;have HLI:=hq_ (fun W=>ul_ a b W hw);have HWB:=hq_ hw;have HNI:=hq_ hn;clear h hd hw hn hsel hus hdd hGR
 go_enter Tryz.func20,Tryz.ntmps20
 go_upto_region 4 with (first|(go_at_call 31;(with_reducible refine (HLI.out _).mono ?_);rintro e w1 ⟨lv,rfl,hb1⟩;have hby:=((Bxx.at (w:=w) (b:=w.heap.size) (c:=#[.int .i64 a,.int .i64 b]) (t:=28) rfl).alloc (.cells #[.int .i64 0,.int .i64 0] 28)).below hb1;have hbr:=(Bxx.at (w:=w.alloc (.cells #[.int .i64 a,.int .i64 b] 28)) (b:=w.heap.size+1) (c:=#[.int .i64 0,.int .i64 0]) (t:=28) sq_).below hb1;have HB1:=hq_ (show Below w.heap.size w w1 from Et xE hb1);have HBY:=hq_ hby;have HBR:=hq_ hbr;clear hb1 hby hbr)|(go_at_call 40;(with_reducible refine (HV.out _ HB1.out).mono ?_);rintro e w2 ⟨rfl,hb2⟩;have HB2:=hq_ (Et HB1.out hb2);have HBY2:=hq_ (HBY.out.below hb2);have HBR2:=hq_ (HBR.out.below hb2);clear hb2))
 have x0:=(HBY2.out.cells 0).1;have x1:=(HBY2.out.cells 1).1;have HUS:=hq_ (HUS0.out w2 HB2.out);refine aw_ (w0:=w2) [0,1,2,3,4,5,6,7] [8] [27,28,29,30,26,31,32,10] [.slice a0 L.length c0,undef,.agg #[.int .i64 a,.int .i64 b],undef,undef,undef,.int .i64 0,undef] [[],[0],[],[2],[],[],[],[]] [[],[],[],[1],[3],[4],[4],[5]] [1,3,4,5,7] (fun i v lo hi W=>match i with|1=>SelV w2 a0 L.length c0 61 #[] (v 1) W|3=>BuV w2 d a b (v 3) W|4=>BuV w2 d a b (v 4) W|5=>BuS w2 d a b (v 5) W|7=>BuS w2 d a b (v 7) W|_=>True) (.a x0 (.a x1 (.b))) ?steps ?fin
 case steps=>
  repeat' first|exact .n|refine .c ?_ ?_|fail
  all_goals try exact stw
  ·rintro v lo hi W hb ⟨g0,g1,gB⟩ _;refine .inl ⟨rfl,fun K hK=>?_⟩;simp only [ov,vat,Nat.reduceBEq,cond_true,cond_false];go_wp2_with (go_at_call 50;refine (cn_ a0 L.length c0 _ _ _).mono ?_;rintro e w9 ⟨rfl,rfl⟩)
   exact acx (hK (.func (.func 94) #[] #[.pointer (some ⟨W.heap.size,0,none⟩),.pointer (some ⟨W.heap.size+1,0,none⟩)]) _ xE (SelV.new gB.size)) (by simp [ov,vat,upd])
  ·rintro v lo hi W hb ⟨g0,g1,gB⟩ ⟨⟨la1,lb1,D1⟩,_⟩;refine .inl ⟨rfl,fun K hK=>?_⟩;simp only [ov,vat,Nat.reduceBEq,cond_true,cond_false]
   (try dsimp only at D1)
   obtain ⟨u,e2,h2⟩:=D1
   (try simp only [e2])
   go_wp2_with (go_at_call 49;refine (HUS.out u W gB h2).mono ?_;rintro e w9 ⟨bv,N,rfl,hN⟩)
   exact acx (hK (.tuple #[bv,.int .i64 0]) w9 hN.2.2.2 (BuV.mk gB.size hN)) (by simp [ov,vat,upd,e2])
  ·rintro v lo hi W hb ⟨g0,g1,gB⟩ ⟨⟨la3,lb3,D3⟩,_⟩;refine .inl ⟨rfl,fun K hK=>?_⟩;simp only [ov,vat,Nat.reduceBEq,cond_true,cond_false]
   (try dsimp only at D3)
   obtain ⟨bv,N,e4,h4⟩:=D3
   (try simp only [e4])
   go_wp2_with fail
   exact acx (hK (.tuple #[bv,.int .i64 0]) W (Below.refl _ _) ⟨bv,N,rfl,h4⟩) (by simp [ov,vat,upd,e4])
  ·rintro v lo hi W hb ⟨g0,g1,gB⟩ ⟨⟨la4,lb4,D4⟩,_⟩;refine .inl ⟨rfl,fun K hK=>?_⟩;simp only [ov,vat,Nat.reduceBEq,cond_true,cond_false]
   (try dsimp only at D4)
   obtain ⟨bv,N,e4,h4⟩:=D4
   (try simp only [e4])
   go_wp2_with fail
   exact acx (hK bv W (Below.refl _ _) ⟨N,h4⟩) (by simp [ov,vat,upd,e4])
  ·rintro v lo hi W hb ⟨g0,g1,gB⟩ ⟨⟨la4,lb4,D4⟩,_⟩;refine .inl ⟨rfl,fun K hK=>?_⟩;simp only [ov,vat,Nat.reduceBEq,cond_true,cond_false]
   (try dsimp only at D4)
   obtain ⟨bv,N,e4,h4⟩:=D4
   (try simp only [e4])
   go_wp2_with fail
   exact acx (hK W (Below.refl _ _)) (by simp [ov,vat,upd,e4])
  ·rintro v lo hi W hb ⟨g0,g1,gB⟩ ⟨⟨la5,lb5,D5⟩,_⟩;refine .inl ⟨rfl,fun K hK=>?_⟩;simp only [ov,vat,Nat.reduceBEq,cond_true,cond_false]
   (try dsimp only at D5)
   obtain ⟨N,h5⟩:=D5;go_wp2_with fail
   exact acx (hK (v 5) W (Below.refl _ _) ⟨N,h5⟩) (by simp [ov,vat,upd])
 case fin=>
  rintro v lo hi W2 hb2 ⟨g0,g1,gB⟩ hf hap;show wpList _ _ _ [_] _ _;obtain ⟨-,-,-,N,h1,h2,h3⟩:=hf 7 rfl;have e6:v 6=.int .i64 0:=(hf 6 rfl).2.2.2;have HB3:=hq_ (Et HB2.out hb2);have HBR3:=hq_ (HBR2.out.below hb2);have HGA:=hq_ (v9_ _ (v 7) N n a b W2 h3 h2 HNI.out ⟨by have:=HWB.out.lo;omega,by have:=HWB.out.le;have:=HWB.out.hi;omega⟩ ⟨by have:=HWB.out.le;have:=HWB.out.lo;omega,by have:=HWB.out.hi;omega⟩);have H1:=hq_ h1;rw [e6];clear e6 hf hap h1 h2 h3 x0 x1 gB;generalize v 0=yv0,v 1=yv1,v 2=yv2,v 3=yv3,v 4=yv4,v 5=yv5;go_wp2_with (go_at_call 62;(with_reducible refine HGA.out.mono ?_);rintro e w5 ⟨f,t,ok,rfl,hb5,hg⟩;have hbr:=HBR3.out.below hb5;have HBR5:=hq_ hbr;have r0:=(hbr.cells 0).1;have r1:=(hbr.cells 1).1;have r2:=(hbr.cells 0).2;have r3:=(hbr.cells 1).2;have HB5:=hq_ (Et HB3.out hb5);have HG:=hq_ hg;clear hb5 hg hbr)
  have hg:=ma_ HWB.out H1.out HG.out;have k5:Bxx ((w5.setCell ⟨w.heap.size+1,0,none⟩ (.int .i64 f)).setCell ⟨w.heap.size+1,1,none⟩ (.int .i64 t)) (w.heap.size+1) #[.int .i64 f,.int .i64 t] 28:=by
   simpa [Bxx] using a0_ 1 (.int .i64 t) (a0_ 0 (.int .i64 f) HBR5.out)
  have z0:=(k5.cells 0).1;have z1:=(k5.cells 1).1;exact bodyPost_ret (v:=.tuple #[.agg #[.int .i64 f,.int .i64 t],.bool ok]) (by simp [results,Tryz.results20,go_sem,z0,z1]) rfl (HGR.out _ _ ⟨f,t,ok,rfl,hg,(HB5.out.setCell (p:=⟨w.heap.size+1,0,none⟩) sq_ _).setCell (p:=⟨w.heap.size+1,1,none⟩) sq_ _⟩)
def DiaN (n:Nat) (W:World) (v:Value) (d:List Ent):Prop:=∃ M,M.map EntV.ent=d∧OwnE n (fun _=>False) W v M
def xf_ (d:List Ent) (x:Ent) (w:World) (e:Ending) (w':World):Prop:=
 ∃ v,e=.returned (.tuple #[v,.int .i64 0])∧Below w.heap.size w w'∧DiaN w.heap.size w' v (putD d x)
end Go.Proofs.YtkclokcenllhmaaGreat
namespace Go
theorem cx_ {P:Program} (w:World) (dT sT ty elem:TypeId) (g o dLen dCap:Nat) (a:Addr) (sLen sCap k:Nat) (cur:Array Value) (t:TypeId) (cs:List Value)
  (hu:P.underlying dT=some (.slice elem)) (hs:(P.info? elem).map (·.size)=some k)
  (hg:w.heap[g]? = some (.cells cur t (0,0))) (hn:cs.length=Nat.min sLen dLen*k)
  (hsrc:∀ j v,cs[j]? = some v->w.cell? (a.add j)=some v) (hfit:o+cs.length≤cur.size) (h1:∀ v∈cs,v.oneCell'=true) :
  (Builtin.copy_ #[dT,sT] ty #[.slice (some ⟨g,o,none⟩) dLen dCap,.slice (some a) sLen sCap]).run P w =
   .ok (goInt (Nat.min sLen dLen)) (w.setRow g (cur.toList.take o ++ cs ++ cur.toList.drop (o+cs.length)).toArray):=by
 have hl:=run_loadCells_list (P:=P) w a cs hsrc;have hst:=run_storeCells_at P g o t cs 0 cur w hg (by simpa using hfit) h1;rw [hn] at hl;cases hq:P.info? elem with
 | none=>simp [hq] at hs
 | some i=>
  have hi:i.size=k:=by simpa [hq] using hs
  simp [Builtin.copy_,run_underlying hu,Builtin.lenOf,Builtin.firstCells,sizeOf,typeInfo,hq,hi,hl,hst,hn]
end Go
namespace Go.Proofs.YtkclokcenllhmaaGreat
open Go.RowKit Go.Maps Kal Go.Shelf Go.Lib
theorem jb_ {α:Type} {f:α->List Value} (hf:∀ x,(f x).length=n):∀ (L:List α) (i:Nat),(L.flatMap f).take (i*n)=(L.take i).flatMap f
 | [],i=>by simp
 | x :: L,0=>by simp
 | x :: L,i+1=>by
  rw [List.take_succ_cons,List.flatMap_cons,List.flatMap_cons,List.take_append,hf,<- jb_ hf L i,List.take_of_length_le (by rw [hf,Nat.succ_mul];omega),show (i+1)*n-n=i*n by rw [Nat.succ_mul];omega]
theorem ja_ {α:Type} {f:α->List Value} (hf:∀ x,(f x).length=n):∀ (L:List α) (i:Nat),(L.flatMap f).drop (i*n)=(L.drop i).flatMap f
 | [],i=>by simp
 | x :: L,0=>by simp
 | x :: L,i+1=>by
  rw [List.drop_succ_cons,List.flatMap_cons,List.drop_append,hf,<- ja_ hf L i,List.drop_of_length_le (by rw [hf,Nat.succ_mul];omega),show (i+1)*n-n=i*n by rw [Nat.succ_mul];omega,List.nil_append]
theorem ui_ {A Y D:List Value} {a y d:Nat} (hA:R.take a=A) (hal:A.length=a) (hy:Y.length=y) (hd:D.length=d) (hR:a+y+d≤R.length) :
  (((R.take a ++ Y ++ R.drop (a+y)).take (a+y) ++ D ++ (R.take a ++ Y ++ R.drop (a+y)).drop (a+y+d)).take (a+y+d))=A ++ Y ++ D:=by
 rw [hA];have e1:(A ++ Y ++ R.drop (a+y)).take (a+y)=A ++ Y:=by
  rw [List.take_append_of_le_length tq_,List.take_of_length_le tq_]
 rw [e1,List.take_append_of_le_length tq_,List.take_of_length_le tq_]
theorem uh_ {A Y D:List Value} {a y d:Nat} (hA:R.take a=A) (hal:A.length=a) (hy:Y.length=y) (hd:D.length=d) (hR:a+y+d≤R.length) :
  (((R.take (a+y) ++ D ++ R.drop (a+y+d)).take a ++ Y ++ (R.take (a+y) ++ D ++ R.drop (a+y+d)).drop (a+y)).take (a+y+d))=A ++ Y ++ D:=by
 have hr:(R.take (a+y)).length=a+y:=by rw [List.length_take];omega
 have e1:(R.take (a+y) ++ D ++ R.drop (a+y+d)).take a=A:=by
  rw [List.append_assoc,List.take_append_of_le_length oq_,List.take_take,Nat.min_eq_left oq_,hA]
 have e2:(R.take (a+y) ++ D ++ R.drop (a+y+d)).drop (a+y)=D ++ R.drop (a+y+d):=by
  rw [List.append_assoc,List.drop_append_of_le_length oq_,List.drop_of_length_le oq_,List.nil_append]
 rw [e1,e2,<- List.append_assoc,List.take_append_of_le_length tq_,List.take_of_length_le tq_]
theorem OwnG.relaid {α:Type} {sz:Nat} {enc:α->List Value} {R:World->(Nat->Prop)->α->Prop} {A:Nat->Prop} {L M:List α} (hR:bd_ R) (h:OwnG e sz enc R B A W v L) (hM:∀ x∈M,x∈L∨R W (RowF B A v) x) (hr:W'.ownsRow B e sz v' M.length (M.flatMap enc)) (hg:W.grownBy W' v.ownBlock)
  (hb:v'.ownBlock=v.ownBlock∨v'.ownBlock=some W.heap.size) (hA:¬ A W.heap.size) (hl:M.length≤1000000):OwnG e sz enc R B A W' v' M:=by
 have key:∀ {z:α},R W (RowF B A v) z->R W' (RowF B A v') z:=fun ht=>by
  refine hR.mono (hR.keep (hR.lt ht) (fun b hb hl=>hg.block b hl fun e=>hb.1.2.2 e.symm) hg.size) fun b hb'=>⟨hb'.1.1,hb'.1.2.1,?_⟩;rcases hb with e|e
  ·rw [e];exact hb'.1.2.2
  ·rw [e];rintro ⟨⟩;have:=hb'.2;omega
 refine ⟨hr,fun x hx=>(hM x hx).elim (fun g=>key (h.all x g)) key,fun g hg'=>?_,hl⟩;rcases hb with e|e
 ·exact h.ne g (e ▸ hg')
 ·rw [e] at hg';cases hg';exact hA
theorem kt_ (hb:B≤g) (hg:w.heap[g]? = some (.cells R.toArray e (0,0))) (h1:n≤c) (h2:c≤maxLen) (h3:R.length=c*k) (h4:R.take (n*k)=xs) (h5:xs.length=n*k):w.ownsRow B e k (.slice (some ⟨g,0,none⟩) n c) n xs:=
 ⟨h5,.inr ⟨g,c,R.toArray,rfl,hb,hg,h1,h2,by simpa using h3,by simpa using h4⟩⟩
theorem g4_ {Y:List Value} {a:Nat} (h:a+Y.length≤R.length):(R.take a ++ Y ++ R.drop (a+Y.length)).length=R.length:=by
 simp only [List.length_append,List.length_take,List.length_drop];omega
def InsE (B:Nat) (v:Value) (M:List EntV) (w:World) (e:Ending) (w':World):Prop:=∃ v',e=.returned v'∧OwnE B (fun _=>False) w' v' M∧w.grownBy w' v.ownBlock∧(v'.ownBlock=v.ownBlock∨v'.ownBlock=some w.heap.size)
theorem nj_ (B:Nat) (v:Value) (L:List EntV) (i:Nat) (y:EntV) (vb vc:Nat) (w:World) (h:OwnE B (fun _=>False) w v L) (hi:i≤L.length) (hl:L.length≤900000) (hB:B≤w.heap.size) (hy:REnt w (RowF B (fun _=>False) v) y) (hbx:Bxx w vb y.enc.toArray 57) (hvb:v.ownBlock≠some vb) :
  Calls Tryz.prog 68 #[v,.int .i64 i,.slice (some ⟨vb,0,none⟩) 1 vc] w (InsE B v (L.take i ++ y :: L.drop i) w):=by
 have HO:=hq_ h;have HY:=hq_ hy;have HBX:=hq_ hbx;have hnew:=al_ hbx;obtain ⟨iE,iE1,iE2,iE3,iE4⟩:=k5_;have HIE:=hq_ (And.intro iE1 (And.intro iE2 (And.intro iE3 iE4)));clear iE1 iE2 iE3 iE4;by_cases hin:i=L.length
 ·-- behind the last one
  subst hin;rw [List.take_length,List.drop_of_length_le (Nat.le_refl _)];have HL:=hq_ hl;obtain ⟨a,c,rfl,hc1,hc2,hc3⟩:=h.form;clear h hy hbx hi hl;by_cases hci:c=L.length
  ·subst hci
   go_enter Tryz.func68,Tryz.ntmps68
   go_wp2_with (at_builtin;(refine ab_ rq_ _ _ _ _ rq_ iE _ 6 80 Tryz.underlying25 HIE.out.1 HIE.out.2.1 HIE.out.2.2.1 HIE.out.2.2.2 rfl dq_ dq_ B (.slice a L.length L.length) L.length (L.flatMap EntV.enc) y.enc rfl rq_ HO.out.row vb vc rq_ hnew HY.out.one (by have:=HL.out;omega) hB ?_);intro v' w9 hown9 hgrow9 hloc9;obtain ⟨na,nc,rfl⟩:=a5_ hown9)
   go_ret;exact ⟨_,rfl,OwnG.push ad_ HO.out HY.out hown9 hgrow9 hloc9 (fun h=>h) (by have:=HL.out;omega),hgrow9,hloc9⟩
  ·have hci2:¬ (L.length=c):=fun e=>hci e.symm
   go_enter Tryz.func68,Tryz.ntmps68
   go_wp2_with (at_builtin;(refine ab_ rq_ _ _ _ _ rq_ iE _ 6 80 Tryz.underlying25 HIE.out.1 HIE.out.2.1 HIE.out.2.2.1 HIE.out.2.2.2 rfl dq_ dq_ B (.slice a L.length c) L.length (L.flatMap EntV.enc) y.enc rfl rq_ HO.out.row vb vc rq_ hnew HY.out.one (by have:=HL.out;omega) hB ?_);intro v' w9 hown9 hgrow9 hloc9;obtain ⟨na,nc,rfl⟩:=a5_ hown9)
   go_ret;exact ⟨_,rfl,OwnG.push ad_ HO.out HY.out hown9 hgrow9 hloc9 (fun h=>h) (by have:=HL.out;omega),hgrow9,hloc9⟩
 ·have hin2:i<L.length:=oq_;have hinI:¬ ((i:Int)=(L.length:Int)):=oq_;obtain ⟨hlen0,⟨hv0,hz⟩|⟨g,c,cur,rfl,hBg,hg,hc1,hc2,hcs,hct⟩⟩:=h.row
  ·omega
  have hgl:g<w.heap.size:=(Array.getElem?_eq_some_iff.1 hg).1;have hvl:=hbx.lt;have hvg:vb≠g:=fun e=>hvb (by rw [e];rfl);have hyl:y.enc.length=6:=EntV.enc_len y;obtain ⟨Y,hY⟩:∃ Y,Y=y.enc:=⟨_,rfl⟩;obtain ⟨D,hD⟩:∃ D,D=(L.drop i).flatMap EntV.enc:=⟨_,rfl⟩;obtain ⟨A,hA⟩:∃ A,A=(L.take i).flatMap EntV.enc:=⟨_,rfl⟩;have hYl:Y.length=6:=by rw [hY];exact hyl
  have hDl:D.length=(L.length-i)*6:=by rw [hD,bg_ EntV.enc_len,List.length_drop]
  have hAl:A.length=i*6:=by rw [hA,bg_ EntV.enc_len,List.length_take,Nat.min_eq_left hi]
  have hall:(L.take i ++ y :: L.drop i).flatMap EntV.enc=A ++ Y ++ D:=by rw [List.flatMap_append,List.flatMap_cons,<- hA,<- hD,<- hY,List.append_assoc]
  have hnl:(L.take i ++ y :: L.drop i).length=L.length+1:=by rw [List.length_append,List.length_take,List.length_cons,List.length_drop];omega
  have hcA:cur.toList.take (i*6)=A:=by
   rw [hA,<- jb_ EntV.enc_len,<- hct,List.take_take,Nat.min_eq_left oq_]
  have hcD:∀ j v,D[j]? = some v->cur.toList[i*6+j]? = some v:=fun j v hj=>by
   have hj':=(List.getElem?_eq_some_iff.1 hj).1;rw [hD,<- ja_ EntV.enc_len,<- hct,List.getElem?_drop,List.getElem?_take,if_pos oq_] at hj;exact hj
  have hsD:∀ j v,D[j]? = some v->w.cell? ⟨g,i*6+j,none⟩=some v:=fun j v hj=>by
   have:=hcD j v hj;simpa [World.cell?,hg] using this
  have hsY:∀ j v,Y[j]? = some v->w.cell? ⟨vb,j,none⟩=some v:=fun j v hj=>by
   rw [(hbx.cells j).1,<- hY];simpa using hj
  have h1Y:∀ v∈Y,v.oneCell'=true:=fun v hv=>hy.one v (by rw [<- hY];exact hv);have h1D:∀ v∈D,v.oneCell'=true:=fun v hv=>by
   rw [hD] at hv;obtain ⟨x,hx,hv⟩:=List.mem_flatMap.1 hv;exact (h.all x (List.mem_of_mem_drop hx)).one v hv
  have hsz:(Tryz.prog.info? 57).map (·.size)=some 6:=by rw [HIE.out.1];simp [HIE.out.2.2.1]
  have hin:i≤L.length:=oq_;have hRel:∀ (W':World) (v':Value),W'.ownsRow B 57 6 v' (L.length+1) (A ++ Y ++ D)->w.grownBy W' (some g)->(v'.ownBlock=some g∨v'.ownBlock=some w.heap.size)->InsE B (.slice (some ⟨g,0,none⟩) L.length c) (L.take i ++ y :: L.drop i) w (.returned v') W':=fun W' v' hr hgr hb=>
   ⟨v',rfl,OwnG.relaid ad_ HO.out (fun x hx=>by
    rcases List.mem_append.1 hx with hx|hx
    ·exact .inl (List.mem_of_mem_take hx)
    ·rcases List.mem_cons.1 hx with rfl|hx
     ·exact .inr HY.out
     ·exact .inl (List.mem_of_mem_drop hx)) (by rw [hnl,hall];exact hr) hgr hb (fun h=>h) (by rw [hnl];omega),hgr,hb⟩
  have HREL:=hq_ hRel;have hw1:IntKind.i64.wrap ((i:Int)+(1:Int))=(i:Int)+(1:Int):=by rw [IntKind.wrap_i64];omega
  by_cases hroom:L.length+1≤c
  ·-- there is room: in place
   have hroomI:¬ ((c:Int)<(L.length:Int)+1):=oq_;have hcl:cur.toList.length=c*6:=by simpa using hcs
   obtain ⟨R1,hR1⟩:∃ R1,R1=cur.toList.take ((i+1)*6) ++ D ++ cur.toList.drop ((i+1)*6+D.length):=⟨_,rfl⟩;have hR1l:R1.length=c*6:=by rw [hR1,g4_ (by rw [hDl,hcl];omega),hcl]
   obtain ⟨R2,hR2⟩:∃ R2,R2=R1.take (i*6) ++ Y ++ R1.drop (i*6+Y.length):=⟨_,rfl⟩;have hR2l:R2.length=c*6:=by rw [hR2,g4_ (by rw [hYl,hR1l];omega),hR1l]
   have hR2t:R2.take ((L.length+1)*6)=A ++ Y ++ D:=by
    have h:=uh_ (R:=cur.toList) (A:=A) (Y:=Y) (D:=D) (a:=i*6) (y:=6) (d:=(L.length-i)*6) hcA hAl hYl hDl (by rw [hcl];omega);rw [hR2,hR1,hYl,hDl,show (i+1)*6=i*6+6 by omega,show (L.length+1)*6=i*6+6+(L.length-i)*6 by omega];exact h
   obtain ⟨W1,hW1⟩:∃ W1,W1=w.drew.setRow g R1.toArray:=⟨_,rfl⟩;have hg1:W1.heap[g]? = some (.cells R1.toArray 57 (0,0)):=by rw [hW1];exact setRow_heap w.drew g cur _ _ _ hg
   have ho1:∀ k,k≠g->W1.heap[k]? = w.heap[k]?:=fun k hk=>by rw [hW1];exact setRow_other w.drew g k _ hk
   have hcp1:∀ ty dc sc,(Builtin.copy_ #[25,25] ty #[.slice (some ⟨g,(i+1)*6,none⟩) (L.length-i) dc,.slice (some ⟨g,i*6,none⟩) (L.length+1-i) sc]).run Tryz.prog w.drew=.ok (goInt ((L.length-i:Nat):Int)) W1:=fun ty dc sc=>by
    have h:=cx_ (P:=Tryz.prog) w.drew 25 25 ty 57 g ((i+1)*6) (L.length-i) dc ⟨g,i*6,none⟩ (L.length+1-i) sc 6 cur _ D Tryz.underlying25 hsz hg (by rw [hDl];simp only [Nat.min_def];split <;> omega) (fun j v hj=>by rw [Addr.add_lit];exact hsD j v hj) (by rw [hDl,hcs];omega) h1D;rw [h,hW1,hR1,show Nat.min (L.length+1-i) (L.length-i)=L.length-i by simp only [Nat.min_def];split <;> omega]
   have hcp2:∀ (W:World),W.heap=W1.heap->∀ ty dc,(Builtin.copy_ #[25,25] ty #[.slice (some ⟨g,i*6,none⟩) (L.length+1-i) dc,.slice (some ⟨vb,0,none⟩) 1 vc]).run Tryz.prog W=.ok (goInt 1) (W.setRow g R2.toArray):=fun W hW ty dc=>by
    have h:=cx_ (P:=Tryz.prog) W 25 25 ty 57 g (i*6) (L.length+1-i) dc ⟨vb,0,none⟩ 1 vc 6 R1.toArray _ Y Tryz.underlying25 hsz (by rw [hW];exact hg1) (by rw [hYl];simp only [Nat.min_def];split <;> omega) (fun j v hj=>by
     rw [Addr.add_lit,Nat.zero_add];have:=hsY j v hj;unfold World.cell? at this ⊢;rw [hW,ho1 vb hvg];exact this) (by rw [hYl];simp [hR1l];omega) h1Y
    rw [h,hR2,show Nat.min 1 (L.length+1-i)=1 by simp only [Nat.min_def];split <;> omega];rfl
   have hfin:∀ (W:World),W.heap=W1.heap->W.os=w.os->W.tape=w.tape->W.output=w.output->InsE B (.slice (some ⟨g,0,none⟩) L.length c) (L.take i ++ y :: L.drop i) w (.returned (.slice (some ⟨g,0,none⟩) (L.length+1) c)) (W.setRow g R2.toArray):=fun W hW q1 q2 q3=>by
    have hgW:W.heap[g]? = some (.cells R1.toArray 57 (0,0)):=by rw [hW];exact hg1
    refine HREL.out _ _ (kt_ hBg (setRow_heap W g _ _ _ _ hgW) hroom hc2 hR2l hR2t (by rw [List.length_append,List.length_append,hAl,hYl,hDl];omega)) ⟨q1,q2,q3,by rw [setRow_size,hW,hW1,setRow_size];exact Nat.le_refl _,fun b hb hne=>?_⟩ (.inl rfl);have hne':b≠g:=by rintro rfl;exact hne rfl
    rw [setRow_other _ _ _ _ hne',hW];exact ho1 b hne'
   have HFIN:=hq_ hfin;have hov:∀ lb cb,(callFunc 114 #[.slice (some ⟨vb,0,none⟩) 1 vc,.slice (some ⟨g,(i+1)*6,none⟩) lb cb]).run Tryz.prog w=.ok (.value (.bool false)) w:=fun lb cb=>by
    rw [run_callFunc_extern Tryz.func114 (by kernel_rfl) (by kernel_rfl) (by kernel_rfl) (e:=Extern.SlicesOverlaps.overlaps #[25,25] #[4]) (by kernel_rfl),
     Lib.run_overlaps_apart w 25 4 57 Tryz.underlying25 6 (by intro w;kernel_rfl) ⟨vb,0,none⟩ ⟨g,(i+1)*6,none⟩ 1 vc lb cb hvg 57 57 6 (c*6) (by unfold World.shape?;rw [hbx];simp [EntV.enc_len]) (by unfold World.shape?;rw [hg];simp [hcs]) oq_ (hbx.cells 0).2 (hbx.cells 6).2]
    rfl
   have hn1:¬ (c=i):=oq_;have hn2:¬ (c=i+1):=oq_;have hb1:(0:Int)≤(i:Int)+1:=oq_;have hb3:(i:Int)≤(L.length:Int)+1:=oq_;have htn:((i:Int)+1).toNat=i+1:=oq_;clear h hy hbx hall hnl hcA hcD hsD hsY h1Y h1D hR2t hR1 hR2 hfin hRel;have mixed:Tryz.prog.follows .mixedOrders=true:=by kernel_rfl
   go_enter Tryz.func68,Tryz.ntmps68
   go_wp2_with (simp only [hov])
   go_region_law_o (refine step_copy_runI rfl _ _ 25 25 rfl _ _ (by simp [Act.eval,Act.put]) (by simp [Act.eval,Act.put]) (hcp1 _ _ _) ?_)
   go_wp2_with (at_builtin;refine wpList_copy_runI _ rfl _ _ 25 25 rfl _ _ rfl rfl (hcp2 W1 rfl _ _) ?_)
   go_ret;exact HFIN.out _ (by first|rfl|(rw [hW1])) (by first|rfl|(rw [hW1])) (by first|rfl|(rw [hW1])) (by first|rfl|(rw [hW1]))
  ·-- a new row
   obtain rfl:c=L.length:=oq_;have hroomI:(L.length:Int)<(L.length:Int)+1:=oq_;have hik:i+(L.length+1-i)=L.length+1:=oq_;have hkk:(L.length:Int)+1-(i:Int)=((L.length+1-i:Nat):Int):=oq_;have hold:(Builtin.firstCells iE.size i (.slice (some ⟨g,0,none⟩) i L.length)).run Tryz.prog w.drew=.ok A.toArray w.drew:=by
    rw [HIE.out.2.2.1];exact run_firstCells_some w.drew 6 i ⟨g,0,none⟩ i L.length A hAl (fun j v hj=>by
     rw [Addr.add_lit,Nat.zero_add];rw [<- hcA,List.getElem?_take] at hj
     split at hj
     ·show World.cell? w _=_;simpa [World.cell?,hg] using hj
     ·cases hj)
   obtain ⟨G,hG⟩:∃ G,G=grownCap w (L.length+1) L.length 57:=⟨_,rfl⟩;obtain ⟨ROW,hROW⟩:∃ ROW:Array Value,ROW=A.toArray ++ Builtin.zeroCells (Value.agg #[.int .i64 0,.bool false,.int .i64 0,.slice none 0 0,.int .i64 0,.slice none 0 0]).cells (L.length+1-i) ++ Builtin.zeroCells (Value.agg #[.int .i64 0,.bool false,.int .i64 0,.slice none 0 0,.int .i64 0,.slice none 0 0]).cells (G-(L.length+1)):=⟨_,rfl⟩;have hrz:∀ ty,(Builtin.append_ #[25,3] ty #[.slice (some ⟨g,0,none⟩) i L.length,.int .i64 ((L.length:Int)+1-(i:Int))]).run Tryz.prog w=.ok (.slice (some ⟨w.heap.size,0,none⟩) (L.length+1) G) (w.drew.alloc (.cells ROW 57)):=fun ty=>by
    have h:=Lib.run_append_grow_zeros w 25 3 ty 57 iE _ .i64 .i64 Tryz.underlying25 Tryz.underlying3 HIE.out.1 HIE.out.2.1 (some ⟨g,0,none⟩) i L.length A hold (L.length+1-i) oq_ (by rw [HIE.out.2.2.1];omega) oq_ oq_ (by rw [HIE.out.2.2.2];omega) (by rw [HIE.out.2.2.2,hik];exact growslice_fits oq_ oq_);rw [hik,<- hG,<- hROW] at h;rw [hkk];exact h
   have hGn:L.length+1≤G:=by rw [hG];exact grownCap_ge w _ _ _
   have hGm:G≤maxLen:=by rw [hG];exact grownCap_le_maxLen w _ _ _ (by unfold maxLen;omega)
   have hG63:G≤9223372036854775807:=by unfold maxLen at hGm;omega
   obtain ⟨R,hR⟩:∃ R,R=ROW.toList:=⟨_,rfl⟩;have hRl:R.length=G*6:=by rw [hR,hROW];simp [Builtin.zeroCells,Value.cells,hAl];omega
   have hRA:R.take (i*6)=A:=by
    rw [hR,hROW];simp only [Array.toList_append,List.append_assoc];rw [List.take_append_of_le_length oq_,List.take_of_length_le oq_]
   obtain ⟨R1,hR1⟩:∃ R1,R1=R.take (i*6) ++ Y ++ R.drop (i*6+Y.length):=⟨_,rfl⟩;have hR1l:R1.length=G*6:=by rw [hR1,g4_ (by rw [hYl,hRl];omega),hRl]
   obtain ⟨R2,hR2⟩:∃ R2,R2=R1.take ((i+1)*6) ++ D ++ R1.drop ((i+1)*6+D.length):=⟨_,rfl⟩;have hR2l:R2.length=G*6:=by rw [hR2,g4_ (by rw [hDl,hR1l];omega),hR1l]
   have hR2t:R2.take ((L.length+1)*6)=A ++ Y ++ D:=by
    have h:=ui_ (R:=R) (A:=A) (Y:=Y) (D:=D) (a:=i*6) (y:=6) (d:=(L.length-i)*6) hRA hAl hYl hDl (by rw [hRl];omega);rw [hR2,hR1,hYl,hDl,show (i+1)*6=i*6+6 by omega,show (L.length+1)*6=i*6+6+(L.length-i)*6 by omega];exact h
   obtain ⟨W1,hW1⟩:∃ W1,W1=w.drew.alloc (.cells ROW 57):=⟨_,rfl⟩;have hg1:W1.heap[w.heap.size]? = some (.cells R.toArray 57 (0,0)):=by rw [hW1,hR];simpa using World.alloc_heap_new w.drew (.cells ROW 57)
   have ho1:∀ k,k<w.heap.size->W1.heap[k]? = w.heap[k]?:=fun k hk=>by rw [hW1];exact Below.heap_alloc w.drew _ k hk
   have hs1:W1.heap.size=w.heap.size+1:=by rw [hW1];simp
   have hcpA:∀ (W:World),W.heap=W1.heap->∀ ty dc,(Builtin.copy_ #[25,25] ty #[.slice (some ⟨w.heap.size,i*6,none⟩) (L.length+1-i) dc,.slice (some ⟨vb,0,none⟩) 1 vc]).run Tryz.prog W=.ok (goInt 1) (W.setRow w.heap.size R1.toArray):=fun W hW ty dc=>by
    have h:=cx_ (P:=Tryz.prog) W 25 25 ty 57 w.heap.size (i*6) (L.length+1-i) dc ⟨vb,0,none⟩ 1 vc 6 R.toArray _ Y Tryz.underlying25 hsz (by rw [hW];exact hg1) (by rw [hYl];simp only [Nat.min_def];split <;> omega) (fun j v hj=>by
     rw [Addr.add_lit,Nat.zero_add];have:=hsY j v hj;unfold World.cell? at this ⊢;rw [hW,ho1 vb hvl];exact this) (by rw [hYl];simp [hRl];omega) h1Y
    rw [h,hR1,show Nat.min 1 (L.length+1-i)=1 by simp only [Nat.min_def];split <;> omega];rfl
   have hcpB:∀ (W:World),W.heap=(W1.setRow w.heap.size R1.toArray).heap->∀ ty dc sc,(Builtin.copy_ #[25,25] ty #[.slice (some ⟨w.heap.size,(i+1)*6,none⟩) (L.length-i) dc,.slice (some ⟨g,i*6,none⟩) (L.length-i) sc]).run Tryz.prog W=.ok (goInt ((L.length-i:Nat):Int)) (W.setRow w.heap.size R2.toArray):=fun W hW ty dc sc=>by
    have h:=cx_ (P:=Tryz.prog) W 25 25 ty 57 w.heap.size ((i+1)*6) (L.length-i) dc ⟨g,i*6,none⟩ (L.length-i) sc 6 R1.toArray _ D Tryz.underlying25 hsz (by rw [hW];exact setRow_heap W1 _ _ _ _ _ hg1) (by rw [hDl];simp only [Nat.min_def];split <;> omega) (fun j v hj=>by
     rw [Addr.add_lit];have:=hsD j v hj;unfold World.cell? at this ⊢;rw [hW,setRow_other _ _ _ _ (by show g≠w.heap.size;omega),ho1 g hgl];exact this) (by rw [hDl];simp [hR1l];omega) h1D
    rw [h,hR2,show Nat.min (L.length-i) (L.length-i)=L.length-i by simp only [Nat.min_def];split <;> omega]
   have hfin:∀ (W:World),W.heap=(W1.setRow w.heap.size R1.toArray).heap->W.os=w.os->W.tape=w.tape->W.output=w.output->InsE B (.slice (some ⟨g,0,none⟩) L.length L.length) (L.take i ++ y :: L.drop i) w (.returned (.slice (some ⟨w.heap.size,0,none⟩) (L.length+1) G)) (W.setRow w.heap.size R2.toArray):=fun W hW q1 q2 q3=>by
    have hgW:W.heap[w.heap.size]? = some (.cells R1.toArray 57 (0,0)):=by rw [hW];exact setRow_heap W1 _ _ _ _ _ hg1
    refine HREL.out _ _ (kt_ hB (setRow_heap W _ _ _ _ _ hgW) hGn hGm hR2l hR2t (by rw [List.length_append,List.length_append,hAl,hYl,hDl];omega)) ⟨q1,q2,q3,by rw [setRow_size,hW,setRow_size,hs1];omega,fun b hb hne=>?_⟩ (.inr rfl);have hne':b≠w.heap.size:=oq_;rw [setRow_other _ _ _ _ hne',hW,setRow_other _ _ _ _ hne'];exact ho1 b hb
   have HFIN:=hq_ hfin;have hn1:¬ (G=i):=oq_;have hn2:¬ (G=i+1):=oq_;have hn3:¬ (L.length=i):=oq_;have hb1:(0:Int)≤(i:Int)+1:=oq_;have hb3:(i:Int)≤(L.length:Int)+1:=oq_;have htn:((i:Int)+1).toNat=i+1:=oq_;have hE1:((w.alloc (.cells ROW 57)).drew).heap=W1.heap:=by rw [hW1];rfl
   have hE2:(((w.alloc (.cells ROW 57)).drew.setRow w.heap.size R1.toArray).drew).heap=(W1.setRow w.heap.size R1.toArray).heap:=by rw [hW1];rfl
   clear h hy hbx hall hnl hcA hcD hsD hsY h1Y h1D hR2t hR1 hR2 hfin hold hkk hROW hG hR hRA hcs hct hRel;have mixed:Tryz.prog.follows .mixedOrders=true:=by kernel_rfl
   go_enter Tryz.func68,Tryz.ntmps68
   go_wp2_with (first|(at_builtin;refine Lib.wpList_append_run _ rfl _ _ _ _ rfl _ _ rfl rfl _ _ (hrz _) ?_)|(at_builtin;refine wpList_copy_runI _ rfl _ _ 25 25 rfl _ _ rfl rfl (hcpA _ hE1 _ _) ?_)|(at_builtin;refine wpList_copy_runI _ rfl _ _ 25 25 rfl _ _ rfl rfl (hcpB _ hE2 _ _ _) ?_))
   go_region_law_o (refine step_copy_runI rfl _ _ 25 25 rfl (.slice (some ⟨w.heap.size,(i+1)*6,none⟩) (L.length-i) (G-(i+1))) (.slice (some ⟨g,i*6,none⟩) (L.length-i) (L.length-i)) (by simp [Act.eval,Act.put]) (by simp [Act.eval,Act.put]) (hcpB _ hE2 3 (G-(i+1)) (L.length-i)) ?_)
   go_wp2;go_ret;exact HFIN.out _ hE2 rfl rfl rfl
end Go.Proofs.YtkclokcenllhmaaGreat
namespace Go.Proofs.YtkclokcenllhmaaGreat
open Go.RowKit Go.Maps Kal
theorem rr_ {y:EntV}:∀ {M:List EntV} {i:Nat},i<M.length->((((((M.flatMap EntV.enc).set (i*6) (.int .i64 y.id)).set (i*6+1) (.bool y.firm)).set (i*6+2) (.int .i64 y.rank)).set (i*6+3) y.cv).set (i*6+4) (.int .i64 y.s.len)).set (i*6+5) y.ev=(M.set i y).flatMap EntV.enc:=by
 intro M;induction M with
 | nil=>intro i h;simp at h
 | cons x M ih=>
  intro i h;cases i with
  | zero=>simp [EntV.enc]
  | succ i=>
   have e:∀ (l:List Value) (j:Nat) (u:Value),(x.enc ++ l).set (j+6) u=x.enc ++ l.set j u:=fun l j u=>by rw [List.set_append_right _ _ (by rw [EntV.enc_len];omega),EntV.enc_len,Nat.add_sub_cancel]
   rw [List.flatMap_cons,List.set_cons_succ,List.flatMap_cons,show (i+1)*6=i*6+6 by omega,show i*6+6+1=i*6+1+6 by omega,show i*6+6+2=i*6+2+6 by omega,show i*6+6+3=i*6+3+6 by omega,show i*6+6+4=i*6+4+6 by omega,show i*6+6+5=i*6+5+6 by omega,e,e,e,e,e,e,ih (by simpa using h)]
theorem OwnG.set6 {A:Nat->Prop} {M:List EntV} (h:OwnE B A W (.slice (some ⟨g,0,none⟩) n c) M) (hi:i<M.length) {y:EntV} (hy:REnt W (RowF B A (.slice (some ⟨g,0,none⟩) n c)) y) :
  OwnE B A ((((((W.setCell ⟨g,i*6,none⟩ (.int .i64 y.id)).setCell ⟨g,i*6+1,none⟩ (.bool y.firm)).setCell ⟨g,i*6+2,none⟩ (.int .i64 y.rank)).setCell ⟨g,i*6+3,none⟩ y.cv).setCell ⟨g,i*6+4,none⟩ (.int .i64 y.s.len)).setCell ⟨g,i*6+5,none⟩ y.ev) (.slice (some ⟨g,0,none⟩) n c) (M.set i y):=by
 obtain rfl:n=M.length:=by obtain ⟨a,c',e,_⟩:=h.form;injection e
 have hg:World.grownBy W ((((((W.setCell ⟨g,i*6,none⟩ (.int .i64 y.id)).setCell ⟨g,i*6+1,none⟩ (.bool y.firm)).setCell ⟨g,i*6+2,none⟩ (.int .i64 y.rank)).setCell ⟨g,i*6+3,none⟩ y.cv).setCell ⟨g,i*6+4,none⟩ (.int .i64 y.s.len)).setCell ⟨g,i*6+5,none⟩ y.ev) (some g):=World.grownBy.set' (World.grownBy.set' (World.grownBy.set' (World.grownBy.set' (World.grownBy.set' (World.grownBy.set' ⟨rfl,rfl,rfl,Nat.le_refl _,fun _ _ _=>rfl⟩ _) _) _) _) _) _;have hk:∀ {z:EntV},REnt W (RowF B A (.slice (some ⟨g,0,none⟩) M.length c)) z->REnt _ (RowF B A (.slice (some ⟨g,0,none⟩) M.length c)) z:=fun {z} hz=>ad_.keep hz (a3_.grown hg fun hf=>hf.2.2 rfl) hg.size;refine ⟨?_,fun z hz=>?_,h.ne,by rw [List.length_set];exact h.len⟩
 ·rw [List.length_set,<- rr_ hi];exact ((((((h.row.stored _ _).1.stored _ _).1.stored _ _).1.stored _ _).1.stored _ _).1.stored _ _).1
 ·rcases List.mem_or_eq_of_mem_set hz with hz|rfl
  ·exact hk (h.all z hz)
  ·exact hk hy
theorem sl_ {A:Nat->Prop} {M:List EntV} (h:OwnE B A W (.slice (some ⟨g,0,none⟩) n c) M) (hi:i<M.length) :
  (∃ u,W.cell? ⟨g,i*6,none⟩=some u)∧(∃ u,W.cell? ⟨g,i*6+1,none⟩=some u)∧(∃ u,W.cell? ⟨g,i*6+2,none⟩=some u)∧(∃ u,W.cell? ⟨g,i*6+3,none⟩=some u)∧(∃ u,W.cell? ⟨g,i*6+4,none⟩=some u)∧(∃ u,W.cell? ⟨g,i*6+5,none⟩=some u)∧∀ k,W.frozen? ⟨g,k,none⟩=false:=by
 obtain ⟨_,⟨h1,_⟩|⟨g',cap,cur,h1,_,h2,h3,h4,h5,h6⟩⟩:=h.row
 ·cases h1
 ·injection h1 with h1 h7 h8
  injection h1 with h1
  injection h1 with h1
  subst h1;subst h7;subst h8;have key:∀ j,j<6->∃ u,W.cell? ⟨g,i*6+j,none⟩=some u:=fun j hj=>⟨cur[i*6+j]' oq_,by simp [World.cell?,h2,show i*6+j<cur.size by omega]⟩;exact ⟨key 0 oq_,key 1 oq_,key 2 oq_,key 3 oq_,key 4 oq_,key 5 oq_,fun k=>by simp [World.frozen?,h2]⟩
theorem u6_ (F G:Nat->Prop) (v:Value) (L:List EntV) (x:EntV) (w:World) (h:DiaL w F v L) (hd:SmD (L.map EntV.ent)) (hx:REnt w G x) (hgx:e9_ ak_ x.ent) :
  Calls Tryz.prog 26 #[v,x.val] w (xf_ (L.map EntV.ent) x.ent w):=by
 obtain ⟨a0,c0,rfl⟩:=h.form;have hll:L.length≤1000:=by have:=hd.len;rwa [List.length_map] at this
 have HV:=hq_ (fun W (hb:Below w.heap.size w W)=>cp_ F _ L W (h.ext hb));rw [c9_.2 hd.valid] at HV;have HPP:=fun W (hb:Below w.heap.size w W)=>gb_ G x W (hx.ext hb);rw [gy_.2 hgx] at HPP;have HFD:=hq_ (fun W (hb:Below w.heap.size w W)=>rc_ F (.slice a0 L.length c0) L x.id W (h.ext hb) hd.asc oq_);have HCX:=fun W (hb:Below w.heap.size w W)=>f4_ G x W (hx.ext hb) hgx.s;have HD:=hq_ h;have HSD:=hq_ hd;have HXE:Hid (x.ent.id=x.id):=hq_ rfl;obtain ⟨iE,iE1,iE2,iE3,iE4⟩:=k5_;have HIE:=hq_ (And.intro iE1 (And.intro iE2 (And.intro iE3 iE4)));obtain ⟨q1,p1,q2,p2,hcx,hex⟩:=hx.1.form;obtain ⟨xe,hxe⟩:∃ xe,xe=x.ent:=⟨_,rfl⟩;have HXX:=hq_ hxe;obtain ⟨xid,xfm,xrk,xcv,xev,xs⟩:=x;dsimp only at hcx hex;subst hcx;subst hex;dsimp only [EntV.val] at HPP HCX HFD ⊢;have HPP:=hq_ HPP;have HCX:=hq_ HCX;rw [<- hxe];have hid:xe.id=xid:=by rw [hxe];rfl
 have HID:=hq_ hid;clear h hd hx hgx iE1 iE2 iE3 iE4 hxe hid HXE
 go_enter Tryz.func26,Tryz.ntmps26
 go_wp2_with (first|(go_at_call 40;(with_reducible refine (HV.out _ (Ea (Er w) _)).mono ?_);rintro e w1 ⟨rfl,hb1⟩;have HB1:=hq_ (Et (Ea (Er w) _) hb1);have hbx:=(Bxx.new w #[.int .i64 xid,.bool xfm,.int .i64 xrk,.slice q1 xs.cls.length p1,.int .i64 xs.len,.slice q2 xs.ext.length p2] 57).below hb1;have HX1:=hq_ hbx;have x0:=(hbx.cells 0).1;have x1:=(hbx.cells 1).1;have x2:=(hbx.cells 2).1;have x3:=(hbx.cells 3).1;have x4:=(hbx.cells 4).1;have x5:=(hbx.cells 5).1;clear hb1 hbx)|(go_at_call 65;(with_reducible refine (HPP.out _ HB1.out).mono ?_);rintro e w2 ⟨rfl,hb2⟩;have HB2:=hq_ (Et HB1.out hb2);have HX2:=hq_ (HX1.out.below hb2);have x0:=(HX2.out.cells 0).1;clear hb2 x1 x2 x3 x4 x5)|(go_at_call 66;(with_reducible refine (HFD.out _ HB2.out).mono ?_);rintro e w3 ⟨i,b,rfl,hf,hb3⟩;have HF:=hq_ hf;have HB3:=hq_ (Et HB2.out hb3);have HX3:=hq_ (HX2.out.below hb3);clear hf hb3 x0;have hn4:¬ (L.length:Int)=4096:=oq_;have hn5:((L.length:Int) == 4096)=false:=tq_;cases b))
 ·-- a new meeting
  go_loopw [8,10,35] (fun ov _ vi wr=>∃ (k:Nat) (M:List EntV),k≤L.length∧vi=.int .i64 k∧Hid (M.map EntV.ent=(L.map EntV.ent).take k)∧Hid (M.length=k)∧Hid (OwnE w3.heap.size (fun _=>False) wr ov M)∧Hid (Below w3.heap.size w3 wr)) (fun _ _ vi _=>L.length-(intOf vi).toNat)
  case atStart=>exact ⟨0,[],oq_,rfl,hq_ sq_,hq_ rfl,hq_ OwnG.nil,hq_ (Below.refl _ _)⟩
  case round=>
   obtain ⟨k,M,hk,rfl,HM,HML,HO,HB⟩:=hrel;obtain ⟨oa,oc,rfl,-⟩:=HO.out.form;have hwz:=HB.out.size;have HBW:Hid (Below w.heap.size w wr):=hq_ (Et HB3.out HB.out);by_cases hlt:k<L.length
   ·have hlI:(k:Int)<L.length:=oq_;have HLT:=hq_ (show k+1≤L.length by omega);obtain ⟨b,o,x,x1,d1,x2,d2,rfl,hbb,hx,hxm,hxr,hcv,hev,e0,e1,e2,e3,e4,e5⟩:=(HD.out.ext HBW.out).get hlt;have HST:Hid ((L.map EntV.ent).take (k+1)=(L.map EntV.ent).take k ++ [x.ent]):=hq_ (by
     have hk2:k<(L.map EntV.ent).length:=by rw [List.length_map];exact hlt
     rw [List.take_succ_eq_append_getElem hk2,<- a6_ (d:=default) hk2,ch_,hx])
    have hvs:bi_ ak_ x.s:=(HSD.out.good x.ent (List.mem_map.2 ⟨x,hxm,rfl⟩)).1.s;have hval:x.val=.agg #[.int .i64 x.id,.bool x.firm,.int .i64 x.rank,.slice x1 x.s.cls.length d1,.int .i64 x.s.len,.slice x2 x.s.ext.length d2]:=by rw [EntV.val,hcv,hev]
    have HCP:=fun W (hb:Below wr.heap.size wr W)=>f4_ F x W (hxr.ext hb) hvs;rw [hval] at HCP;have HCP:=hq_ HCP;have HMB:Hid (M.length+1≤1000000):=hq_ (by have:=HML.out;omega);clear hx hxm hxr hcv hev hvs hval hlt;go_wp2_with (first|(go_at_call 67;(with_reducible refine (HCP.out _ (Ea (Er _) _)).mono ?_);rintro e w5 ⟨y,rfl,hye,hyr,hb5⟩;obtain ⟨y1,g1,y2,g2,hycv,hyev⟩:=hyr.1.form;obtain ⟨yid,yfm,yrk,ycv,yev,ys⟩:=y;dsimp only at hycv hyev;subst hycv;subst hyev;dsimp only [EntV.val];have HYE:=hq_ hye;have HYR:=hq_ hyr;have HB5:=hq_ (Et (Ea (Er wr) _) hb5);have hz5:=HB5.out.size;clear hye hyr hb5)|(at_builtin;(refine ab_ rq_ _ _ _ _ rq_ iE _ 6 80 Tryz.underlying25 HIE.out.1 HIE.out.2.1 HIE.out.2.2.1 HIE.out.2.2.2 rfl dq_ dq_ w3.heap.size (.slice oa M.length oc) M.length (M.flatMap EntV.enc) (EntV.enc ⟨yid,yfm,yrk,.slice y1 ys.cls.length g1,.slice y2 ys.ext.length g2,ys⟩) rfl rq_ ((HO.out.below ad_ HB5.out).below ad_ (Ea (Er _) _)).row w5.heap.size 1 rq_ (al_ (Bxx.new w5 #[.int .i64 yid,.bool yfm,.int .i64 yrk,.slice y1 ys.cls.length g1,.int .i64 ys.len,.slice y2 ys.ext.length g2] 57)) (HYR.out.one) HMB.out tq_ ?_);intro v' w9 hown9 hgrow9 hloc9;obtain ⟨na,nc,rfl⟩:=a5_ hown9;have HO9:=hq_ (OwnG.push (y:=(⟨yid,yfm,yrk,.slice y1 ys.cls.length g1,.slice y2 ys.ext.length g2,ys⟩:EntV)) ad_ ((HO.out.below ad_ HB5.out).below ad_ (Ea (Er _) _)) (ad_.mono (HYR.out.ext (Ea (Er _) _)) fun q hq=>⟨by have:=hq.1;simp at this;omega,fun h=>h,fun e=>by have:=(HO.out.row.lt q e).2;have:=hq.1;simp at this;omega⟩) hown9 hgrow9 hloc9 (fun h=>h) (by have:=HMB.out;omega));have HB9:=hq_ ((Ea (Et HB.out HB5.out) (.cells #[.int .i64 yid,.bool yfm,.int .i64 yrk,.slice y1 ys.cls.length g1,.int .i64 ys.len,.slice y2 ys.ext.length g2] 57)).grown hgrow9 tq_ fun q e=>(HO.out.row.lt q e).1);clear hown9 hgrow9 hloc9))
    go_roundw
    case rel=>exact ⟨k+1,M ++ [⟨yid,yfm,yrk,.slice y1 ys.cls.length g1,.slice y2 ys.ext.length g2,ys⟩],HLT.out,by go_num,hq_ (by rw [HST.out,List.map_append,HM.out];congr 1;exact congrArg (fun q=>[q]) HYE.out),hq_ (by simp [HML.out]),HO9,HB9⟩
    case measure=>have:=HLT.out;simp [intOf];omega
   ·obtain rfl:k=L.length:=oq_;have hkI:¬ (L.length:Int)<L.length:=oq_;have HMM:Hid (M.map EntV.ent=L.map EntV.ent):=hq_ (by rw [HM.out,List.take_of_length_le (by rw [List.length_map];exact Nat.le_refl _)]);have hxb:=HX3.out.below HB.out;have x0:=(hxb.cells 0).1;have x1:=(hxb.cells 1).1;have x2:=(hxb.cells 2).1;have x3:=(hxb.cells 3).1;have x4:=(hxb.cells 4).1;have x5:=(hxb.cells 5).1;have HAT:=hq_ HF.out.at;have hiM:=HF.out.1;clear hxb;go_wp2_with (first|(go_at_call 67;(with_reducible refine (HCX.out _ HBW.out).mono ?_);rintro e w5 ⟨y,rfl,hye,hyr,hb5⟩;obtain ⟨y1,g1,y2,g2,hycv,hyev⟩:=hyr.1.form;obtain ⟨yid,yfm,yrk,ycv,yev,ys⟩:=y;dsimp only at hycv hyev;subst hycv;subst hyev;dsimp only [EntV.val];have HYE:=hq_ hye;have HYR:=hq_ hyr;have HB5:=hq_ hb5;have hz5:=HB5.out.size;have HIN:=hq_ (nj_ w3.heap.size (.slice oa M.length oc) M i ⟨yid,yfm,yrk,.slice y1 ys.cls.length g1,.slice y2 ys.ext.length g2,ys⟩ w5.heap.size 1 (w5.alloc (.cells #[.int .i64 yid,.bool yfm,.int .i64 yrk,.slice y1 ys.cls.length g1,.int .i64 ys.len,.slice y2 ys.ext.length g2] 57)) ((HO.out.below ad_ hb5).below ad_ (Ea (Er _) _)) (by rw [HML.out];exact hiM) (by rw [HML.out];omega) tq_ (ad_.mono (hyr.ext (Ea (Er _) _)) fun q hq=>⟨by have:=hq.1;omega,fun h=>h,fun e=>by have:=(HO.out.row.lt q e).2;have:=hq.1;omega⟩) (Bxx.new _ _ _) (fun e=>by have:=(HO.out.row.lt _ e).2;omega));clear hye hyr hb5)|(go_at_call 68;(with_reducible refine HIN.out.mono ?_);rintro e w9 ⟨v',rfl,ho9,hg9,hl9⟩;obtain ⟨Z,hZ⟩:∃ Z,Z=M.take i ++ (⟨yid,yfm,yrk,.slice y1 ys.cls.length g1,.slice y2 ys.ext.length g2,ys⟩:EntV) :: M.drop i:=⟨_,rfl⟩;rw [<- hZ] at ho9;obtain ⟨na,nc,rfl,-⟩:=ho9.form;have HZ:=hq_ hZ;clear hZ;have HO9:=hq_ ho9;have HG9:=hq_ hg9;clear ho9 hg9 hl9))
    go_ret2;refine ⟨_,rfl,?_,_,?_,HO9.out.base ad_ HB3.out.size⟩
    ·exact (Ea (Et HBW.out HB5.out) (.cells #[.int .i64 yid,.bool yfm,.int .i64 yrk,.slice y1 ys.cls.length g1,.int .i64 ys.len,.slice y2 ys.ext.length g2] 57)).grown HG9.out (by have:=HBW.out.size;simp;omega) fun q e=>by have:=(HO.out.row.lt q e).1;have:=HB3.out.size;omega
    ·rw [HZ.out,List.map_append,List.map_cons,List.map_take,List.map_drop,HMM.out,HYE.out,<- HXX.out,AtD.put (b:=false) (k:=i) (by rw [HID.out];exact HAT.out) HSD.out.asc];rfl
 ·-- the meeting stands there
  go_loopw [8,10,35] (fun ov _ vi wr=>∃ (k:Nat) (M:List EntV),k≤L.length∧vi=.int .i64 k∧Hid (M.map EntV.ent=(L.map EntV.ent).take k)∧Hid (M.length=k)∧Hid (OwnE w3.heap.size (fun _=>False) wr ov M)∧Hid (Below w3.heap.size w3 wr)) (fun _ _ vi _=>L.length-(intOf vi).toNat)
  case atStart=>exact ⟨0,[],oq_,rfl,hq_ sq_,hq_ rfl,hq_ OwnG.nil,hq_ (Below.refl _ _)⟩
  case round=>
   obtain ⟨k,M,hk,rfl,HM,HML,HO,HB⟩:=hrel;obtain ⟨oa,oc,rfl,-⟩:=HO.out.form;have hwz:=HB.out.size;have HBW:Hid (Below w.heap.size w wr):=hq_ (Et HB3.out HB.out);by_cases hlt:k<L.length
   ·have hlI:(k:Int)<L.length:=oq_;have HLT:=hq_ (show k+1≤L.length by omega);obtain ⟨b,o,x,x1,d1,x2,d2,rfl,hbb,hx,hxm,hxr,hcv,hev,e0,e1,e2,e3,e4,e5⟩:=(HD.out.ext HBW.out).get hlt;have HST:Hid ((L.map EntV.ent).take (k+1)=(L.map EntV.ent).take k ++ [x.ent]):=hq_ (by
     have hk2:k<(L.map EntV.ent).length:=by rw [List.length_map];exact hlt
     rw [List.take_succ_eq_append_getElem hk2,<- a6_ (d:=default) hk2,ch_,hx])
    have hvs:bi_ ak_ x.s:=(HSD.out.good x.ent (List.mem_map.2 ⟨x,hxm,rfl⟩)).1.s;have hval:x.val=.agg #[.int .i64 x.id,.bool x.firm,.int .i64 x.rank,.slice x1 x.s.cls.length d1,.int .i64 x.s.len,.slice x2 x.s.ext.length d2]:=by rw [EntV.val,hcv,hev]
    have HCP:=fun W (hb:Below wr.heap.size wr W)=>f4_ F x W (hxr.ext hb) hvs;rw [hval] at HCP;have HCP:=hq_ HCP;have HMB:Hid (M.length+1≤1000000):=hq_ (by have:=HML.out;omega);clear hx hxm hxr hcv hev hvs hval hlt;go_wp2_with (first|(go_at_call 67;(with_reducible refine (HCP.out _ (Ea (Er _) _)).mono ?_);rintro e w5 ⟨y,rfl,hye,hyr,hb5⟩;obtain ⟨y1,g1,y2,g2,hycv,hyev⟩:=hyr.1.form;obtain ⟨yid,yfm,yrk,ycv,yev,ys⟩:=y;dsimp only at hycv hyev;subst hycv;subst hyev;dsimp only [EntV.val];have HYE:=hq_ hye;have HYR:=hq_ hyr;have HB5:=hq_ (Et (Ea (Er wr) _) hb5);have hz5:=HB5.out.size;clear hye hyr hb5)|(at_builtin;(refine ab_ rq_ _ _ _ _ rq_ iE _ 6 80 Tryz.underlying25 HIE.out.1 HIE.out.2.1 HIE.out.2.2.1 HIE.out.2.2.2 rfl dq_ dq_ w3.heap.size (.slice oa M.length oc) M.length (M.flatMap EntV.enc) (EntV.enc ⟨yid,yfm,yrk,.slice y1 ys.cls.length g1,.slice y2 ys.ext.length g2,ys⟩) rfl rq_ ((HO.out.below ad_ HB5.out).below ad_ (Ea (Er _) _)).row w5.heap.size 1 rq_ (al_ (Bxx.new w5 #[.int .i64 yid,.bool yfm,.int .i64 yrk,.slice y1 ys.cls.length g1,.int .i64 ys.len,.slice y2 ys.ext.length g2] 57)) (HYR.out.one) HMB.out tq_ ?_);intro v' w9 hown9 hgrow9 hloc9;obtain ⟨na,nc,rfl⟩:=a5_ hown9;have HO9:=hq_ (OwnG.push (y:=(⟨yid,yfm,yrk,.slice y1 ys.cls.length g1,.slice y2 ys.ext.length g2,ys⟩:EntV)) ad_ ((HO.out.below ad_ HB5.out).below ad_ (Ea (Er _) _)) (ad_.mono (HYR.out.ext (Ea (Er _) _)) fun q hq=>⟨by have:=hq.1;simp at this;omega,fun h=>h,fun e=>by have:=(HO.out.row.lt q e).2;have:=hq.1;simp at this;omega⟩) hown9 hgrow9 hloc9 (fun h=>h) (by have:=HMB.out;omega));have HB9:=hq_ ((Ea (Et HB.out HB5.out) (.cells #[.int .i64 yid,.bool yfm,.int .i64 yrk,.slice y1 ys.cls.length g1,.int .i64 ys.len,.slice y2 ys.ext.length g2] 57)).grown hgrow9 tq_ fun q e=>(HO.out.row.lt q e).1);clear hown9 hgrow9 hloc9))
    go_roundw
    case rel=>exact ⟨k+1,M ++ [⟨yid,yfm,yrk,.slice y1 ys.cls.length g1,.slice y2 ys.ext.length g2,ys⟩],HLT.out,by go_num,hq_ (by rw [HST.out,List.map_append,HM.out];congr 1;exact congrArg (fun q=>[q]) HYE.out),hq_ (by simp [HML.out]),HO9,HB9⟩
    case measure=>have:=HLT.out;simp [intOf];omega
   ·obtain rfl:k=L.length:=oq_;have hkI:¬ (L.length:Int)<L.length:=oq_;have HMM:Hid (M.map EntV.ent=L.map EntV.ent):=hq_ (by rw [HM.out,List.take_of_length_le (by rw [List.length_map];exact Nat.le_refl _)]);have hxb:=HX3.out.below HB.out;have x0:=(hxb.cells 0).1;have x1:=(hxb.cells 1).1;have x2:=(hxb.cells 2).1;have x3:=(hxb.cells 3).1;have x4:=(hxb.cells 4).1;have x5:=(hxb.cells 5).1;have HAT:=hq_ HF.out.at;have hiM:=HF.out.1;clear hxb;have hiM2:i<M.length:=by have:=(HF.out.2.2.2.1 rfl).1;have:=HML.out;omega
    obtain ⟨g,rfl⟩:∃ g,oa=some ⟨g,0,none⟩:=by
     obtain ⟨a',c',e,_,_,h3⟩:=HO.out.form;injection e with e1 e2 e3
     subst e1;exact h3.resolve_left oq_
    have hgl:=(HO.out.row.lt g rfl);go_wp2_with (go_at_call 67;(with_reducible refine (HCX.out _ HBW.out).mono ?_);rintro e w5 ⟨y,rfl,hye,hyr,hb5⟩;obtain ⟨y1,g1,y2,g2,hycv,hyev⟩:=hyr.1.form;obtain ⟨yid,yfm,yrk,ycv,yev,ys⟩:=y;dsimp only at hycv hyev;subst hycv;subst hyev;dsimp only [EntV.val];have HYE:=hq_ hye;have HYR:=hq_ hyr;have HB5:=hq_ hb5;have HO5:=hq_ (HO.out.below ad_ hb5);obtain ⟨⟨u0,z0⟩,⟨u1,z1⟩,⟨u2,z2⟩,⟨u3,z3⟩,⟨u4,z4⟩,⟨u5,z5⟩,zf⟩:=sl_ (HO.out.below ad_ hb5) hiM2;have f0:=zf (i*6);have f1:=zf (i*6+1);have f2:=zf (i*6+2);have f3:=zf (i*6+3);have f4:=zf (i*6+4);have f5:=zf (i*6+5);clear hye hyr hb5 zf)
    go_ret2;have hbw:=HBW.out.size;have hb3:=HB.out.size;have hgl1:=hgl.1;have hgl2:=hgl.2;have hO9:=HO5.out.set6 hiM2 (y:=⟨yid,yfm,yrk,.slice y1 ys.cls.length g1,.slice y2 ys.ext.length g2,ys⟩) (ad_.mono HYR.out fun q hq=>⟨by have:=hq.1;omega,fun h=>h,fun e=>by have e':g=q:=(by injection e);have:=hq.1;omega⟩);refine ⟨_,rfl,?_,_,?_,hO9.base ad_ HB3.out.size⟩
    ·exact (Et HBW.out HB5.out).grown (World.grownBy.set' (World.grownBy.set' (World.grownBy.set' (World.grownBy.set' (World.grownBy.set' (World.grownBy.set' (g:=g) ⟨rfl,rfl,rfl,Nat.le_refl _,fun _ _ _=>rfl⟩ _) _) _) _) _) _) (by have:=HB5.out.size;have:=HBW.out.size;omega) fun q e=>by injection e with e;have:=HB3.out.size;have:=hgl.1;omega
    ·rw [List.map_set,HMM.out,HYE.out,<- HXX.out,AtD.set (k:=i) (by rw [HID.out];exact HAT.out) HSD.out.asc]
def inSp (t:Int) (x:Spn):Bool:=decide (x.1≤t) && decide (t<x.2)
theorem cz_ {l:List Spn} {t:Int}:l.any (inSp t)=true↔SpM l t:=by
 rw [List.any_eq_true];constructor
 ·rintro ⟨x,hx,h⟩;unfold inSp at h;rw [Bool.and_eq_true,decide_eq_true_iff,decide_eq_true_iff] at h;exact ⟨x,hx,h.1,h.2⟩
 ·rintro ⟨x,hx,h1,h2⟩;exact ⟨x,hx,by unfold inSp;rw [Bool.and_eq_true,decide_eq_true_iff,decide_eq_true_iff];exact ⟨h1,h2⟩⟩
theorem qp_ {l1 l2:List Spn} (hl:l1.length=l2.length) (hk:k<l1.length) (h:l1.take k=l2.take k) (e:l1.getD k default=l2.getD k default):l1.take (k+1)=l2.take (k+1):=by
 rw [List.take_succ_eq_append_getElem hk,List.take_succ_eq_append_getElem (show k<l2.length by omega),h,<- a6_ (d:=default) hk,<- a6_ (d:=default) (show k<l2.length by omega),e]
theorem f7_ (F G:Nat->Prop) (v1 v2:Value) (l1 l2:List Spn) (w:World) (h1:SpnL w F v1 l1) (h2:SpnL w G v2 l2) :
  Calls Tryz.prog 22 #[v1,v2] w fun e w'=>e=.returned (.bool (decide (l1=l2)))∧Below w.heap.size w w':=by
 obtain ⟨a1,c1,rfl⟩:=h1.form;obtain ⟨a2,c2,rfl⟩:=h2.form;have hn1:=h1.len;have hn2:=h2.len;have H1:=hq_ h1;have H2:=hq_ h2;clear h1 h2
 go_enter Tryz.func22,Tryz.ntmps22
 by_cases hl:l1.length=l2.length
 ·have hlI:(l1.length:Int)=l2.length:=oq_;have HLL:=hq_ hl;have hdf:((l1.length:Int) != (l2.length:Int))=false:=by rw [hlI];simp
  rw [hlI] at hdf;clear hl;go_wp2_with fail
  go_loopw [5] (fun i wr=>∃ k:Nat,k≤l1.length∧i=.int .i64 k∧Hid (l1.take k=l2.take k)∧Hid (Below w.heap.size w wr)) (fun i _=>l1.length-(intOf i).toNat)
  case atStart=>exact ⟨0,oq_,rfl,hq_ sq_,hq_ xE⟩
  case round=>
   obtain ⟨k,hk,rfl,HT,HB⟩:=hrel;by_cases hlt:k<l1.length
   ·have hlt2:k<l2.length:=by have:=HLL.out;omega
    obtain ⟨b1,o1,x,y,rfl,_,hx,_,_,e0,e1⟩:=(H1.out.ext HB.out).get hlt;obtain ⟨b2,o2,x2,y2,rfl,_,hx2,_,_,f0,f1⟩:=(H2.out.ext HB.out).get hlt2;have HX:=hq_ hx;have HX2:=hq_ hx2;clear hx hx2;by_cases hxy:x=x2
    ·by_cases hyy:y=y2
     ·subst hxy;subst hyy;go_wp2_with fail
      go_quiet (fail)
      go_wp2_with fail
      go_roundw
      case rel=>exact ⟨k+1,oq_,by go_num,hq_ (qp_ HLL.out hlt HT.out (by rw [HX.out,HX2.out])),hq_ (by have hb:=HB.out;exact xE)⟩
      case measure=>simp [intOf];omega
     ·have hb:(y == y2)=false:=by simp [hyy]
      have hne:l1≠l2:=fun h=>hyy (by have h1:=HX.out;rw [h,HX2.out] at h1;injection h1 with _ h1;exact h1.symm);subst hxy;go_wp2_with fail
      go_quiet (fail)
      go_wp2_with fail
      go_ret;exact ⟨a1_ (by simp [hne]),by have hb:=HB.out;exact xE⟩
    ·have hb:(x == x2)=false:=by simp [hxy]
     have hne:l1≠l2:=fun h=>hxy (by have h1:=HX.out;rw [h,HX2.out] at h1;injection h1 with h1 _;exact h1.symm);go_wp2_with fail
     go_quiet (fail)
     go_wp2_with fail
     go_ret;exact ⟨a1_ (by simp [hne]),by have hb:=HB.out;exact xE⟩
   ·have heq:l1=l2:=by
     have h:=HT.out;rw [List.take_of_length_le oq_,List.take_of_length_le (by have:=HLL.out;omega)] at h;exact h
    go_wp2_with fail
    go_ret;exact ⟨a1_ (by simp [heq]),HB.out⟩
 ·have hlI:¬ (l1.length:Int)=l2.length:=oq_;have hdf:((l1.length:Int) != (l2.length:Int))=true:=by simp [hlI]
  have hne:l1≠l2:=fun h=>hl (by rw [h]);go_wp2_with fail
  go_ret;exact ⟨a1_ (by simp [hne]),xE⟩
theorem cv_ (v1 v2:Value) (l1 l2:List Int) (w:World) (h1:Ints w v1 l1) (h2:Ints w v2 l2) :
  Calls Tryz.prog 24 #[v1,v2] w fun e w'=>e=.returned (.bool (decide (l1=l2)))∧Below w.heap.size w w':=by
 have H1:=hq_ h1;have H2:=hq_ h2;obtain ⟨⟨a1,c1,rfl,_,_,_⟩,g4,_⟩:=h1;obtain ⟨⟨a2,c2,rfl,_,_,_⟩,k4,_⟩:=h2
 go_enter Tryz.func24,Tryz.ntmps24
 by_cases hl:l1.length=l2.length
 ·have hlI:(l1.length:Int)=l2.length:=oq_;have HLL:=hq_ hl;have hdf:((l1.length:Int) != (l2.length:Int))=false:=by rw [hlI];simp
  rw [hlI] at hdf;clear hl;go_wp2_with fail
  go_loopw [5] (fun i wr=>∃ k:Nat,k≤l1.length∧i=.int .i64 k∧l1.take k=l2.take k∧Below w.heap.size w wr) (fun i _=>l1.length-(intOf i).toNat)
  case atStart=>exact ⟨0,oq_,rfl,sq_,xE⟩
  case round=>
   obtain ⟨k,hk,rfl,ht,hb⟩:=hrel;have HT:=hq_ ht;clear ht;by_cases hlt:k<l1.length
   ·have hlt2:k<l2.length:=by have:=HLL.out;omega
    obtain ⟨⟨a1',c1',he1,_,_,g3⟩,_,_⟩:=H1.out.ext hb;obtain ⟨⟨a2',c2',he2,_,_,k3⟩,_,_⟩:=H2.out.ext hb;injection he1 with e1 _ e2
    subst e1;subst e2;injection he2 with e1 _ e2
    subst e1;subst e2;rcases g3 with h|⟨b1,o1,rfl,hcell1⟩
    ·subst h;simp at hlt
    rcases k3 with h|⟨b2,o2,rfl,hcell2⟩
    ·subst h;simp at hlt2
    have HB:=hq_ hb;have hc1:=hcell1 k hlt;have hc2:=hcell2 k hlt2;have HST:=hq_ (t8_ HLL.out hlt HT.out);generalize hx:l1.getD k 0=x at *;generalize hy:l2.getD k 0=y at *;have HX:=hq_ hx;have HY:=hq_ hy;clear hcell1 hcell2 hx hy hb;by_cases hxy:x=y
    ·have HXY:=hq_ hxy;have hb:(x != y)=false:=by rw [HXY.out];simp
     clear hxy;go_wp2_with fail
     go_quiet (fail)
     go_wp2_with fail
     go_roundw
     case rel=>exact ⟨k+1,oq_,by go_num,HST.out HXY.out,by have hb:=HB.out;exact xE⟩
     case measure=>simp [intOf];omega
    ·have hb:(x != y)=true:=by simp [hxy]
     have hne:l1≠l2:=fun h=>hxy (by rw [<- HX.out,<- HY.out,h]);go_wp2_with fail
     go_quiet (fail)
     go_wp2_with fail
     go_ret;exact ⟨a1_ (by simp [hne]),by have hb:=HB.out;exact xE⟩
   ·have heq:l1=l2:=by
     have h:=HT.out;rw [List.take_of_length_le oq_,List.take_of_length_le (by have:=HLL.out;omega)] at h;exact h
    go_wp2_with fail
    go_ret;exact ⟨a1_ (by simp [heq]),xE⟩
 ·have hlI:¬ (l1.length:Int)=l2.length:=oq_;have hdf:((l1.length:Int) != (l2.length:Int))=true:=by simp [hlI]
  have hne:l1≠l2:=fun h=>hl (by rw [h]);go_wp2_with fail
  go_ret;exact ⟨a1_ (by simp [hne]),xE⟩
def OneK:Prop:=∀ A B:Str,MStr A->MStr B->A.cls=[]->eb_ A B∧fa_ A B
theorem ou_ {L:List EntV} (hone:OneK) (hs:SmD (L.map EntV.ent)) (hn:∀ e∈L.map EntV.ent,e.s.cls=[]):∀ x∈L,∀ y∈L,eb_ x.s y.s∧fa_ x.s y.s:=fun x hx y hy=>
 hone _ _ (hs.good x.ent (List.mem_map.2 ⟨x,hx,rfl⟩)).2.ms (hs.good y.ent (List.mem_map.2 ⟨y,hy,rfl⟩)).2.ms (hn x.ent (List.mem_map.2 ⟨x,hx,rfl⟩))
theorem hp_ {L:List EntV} {s:Str} (hone:OneK) (hs:SmD (L.map EntV.ent)) (hm:MStr s) (hn:s.cls=[]):∀ y∈L,eb_ s y.s:=fun y hy=>
 (hone _ _ hm (hs.good y.ent (List.mem_map.2 ⟨y,hy,rfl⟩)).2.ms hn).1
theorem xj_ {F:Nat->Prop} {v1 v2:Value} {x y z:a4_} (h:RowR W F v1 3 ([x,y,z].flatMap menc)) (g:RowR W F v2 3 ([x,y,z].flatMap denc)) (hx:InI x.id) (hy:InI y.id) (hz:InI z.id) :
  (∃ b f c,v1=.slice (some ⟨b,f,none⟩) 3 c∧b<W.heap.size∧W.cell? ⟨b,f+5,none⟩=some (.int .i64 y.kind)∧W.cell? ⟨b,f+8,none⟩=some (.int .i64 z.kind))∧(∃ a c,v2=.slice a 3 c)∧Ints W v2 [x.id,y.id,z.id]:=by
 refine ⟨?_,?_,?_⟩
 ·obtain ⟨a,c,rfl,h1,h2,h3⟩:=h.is;rcases h3 with h3|⟨b,o,rfl,hF,hl,hc⟩
  ·cases h3
  ·exact ⟨b,o,c,rfl,hl,hc 5 _ rfl,hc 8 _ rfl⟩
 ·obtain ⟨a,c,rfl,_⟩:=g.is;exact ⟨a,c,rfl⟩
 ·obtain ⟨a,c,rfl,h1,h2,h3⟩:=g.is;refine ⟨⟨a,c,rfl,h1,h2,?_⟩,sq_,fun u hu=>by simp at hu;rcases hu with rfl|rfl|rfl;exact hx;exact hy;exact hz⟩;rcases h3 with h3|⟨b,o,rfl,hF,hl,hc⟩
  ·cases h3
  ·refine .inr ⟨b,o,rfl,fun i hi=>?_⟩
   match i,hi with
   | 0,_=>exact hc 0 _ rfl
   | 1,_=>exact hc 1 _ rfl
   | 2,_=>exact hc 2 _ rfl
def co_ (P:World->Prop) (w:World):Prop:=∀ W,Below w.heap.size w W->P W
theorem co_.ext {P:World->Prop} (h:co_ P w) (hb:Below w.heap.size w W):co_ P W:=fun U hU=>h U (Et hb hU)
theorem co_.on {P:World->Prop} (h:co_ P w) (hb:Below w.heap.size w W):P W:=h W hb
theorem co_.and {P Q:World->Prop} (h:co_ P w) (g:co_ Q w):co_ (fun W=>P W∧Q W) w:=fun U hU=>⟨h U hU,g U hU⟩
theorem v7_ (hone:OneK) (w:World):Calls Tryz.prog 13 #[] w fun e w'=>e=.returned (.bool true)∧Below w.heap.size w w':=by
 have hI:∀ x:Int,0≤x∧x≤1000->InI x:=fun x h=>⟨oq_,oq_⟩;have HEX:=hq_ (nf_ w);have HONE:=hq_ hone;clear hone
 go_enter Tryz.func13,Tryz.ntmps13
 go_upto_region 2 with (go_at_call 47;(with_reducible refine HEX.out.mono ?_);rintro e w1 ⟨v0,L0,rfl,hL,hD,hb⟩;obtain ⟨a0,c0,rfl⟩:=hD.form;have HL:=hq_ hL;have HD1:=hq_ hD;have HB1:=hq_ hb;clear hL hD hb)
 have hsd0:SmD (L0.map EntV.ent):=by rw [HL.out];exact va_
 have hl0:L0.length=3:=by have:=congrArg List.length HL.out;rw [List.length_map] at this;exact this
 have hll0:L0.length≤40:=oq_;have hll9:L0.length≤900:=oq_;have HLL0:=hq_ (And.intro hll0 hll9);clear hl0 hll0 hll9;go_upto_region 3 with fail
 refine bh_ (F:=fun U=>co_ (fun W=>Bxx W w1.heap.size #[.int .i64 0,.int .i64 200] 28∧DiaL W (fun k=>w.heap.size≤k) (.slice a0 L0.length c0) L0) U∧Below w.heap.size w U) ⟨fun W' h=>⟨(Bxx.new w1 _ _).below h,HD1.out.ext (Et (Ea (Er w1) _) h)⟩,Ea HB1.out _⟩ ?_;rintro w2 ⟨HS2,hb⟩;have HB2:=hq_ hb;clear hb;have HS0:=HS2;clear HS2;have hcl:=hx_ _ _ L0 w2 (HS0.on (Er _)).2 hsd0 HLL0.out.2 (ou_ HONE.out hsd0 (by rw [HL.out];simp [dia0,ent3,ent4,ent7,oneS]));rw [HL.out] at hcl;have HCL:=hq_ hcl;clear hcl;have HSD0:=hq_ hsd0;clear hsd0;have HWB:Hid (WinB 0 200):=hq_ ⟨oq_,oq_,oq_,oq_⟩;go_upto_region 4 with (go_at_call 27;(with_reducible refine HCL.out.mono ?_);rintro e w3 ⟨v3,R3,k3,rfl,hC,hO,hb⟩;obtain ⟨rfl,rfl⟩:=qi_ hC;obtain ⟨a3,c3,e3,-⟩:=hO.form;rw [List.length_nil] at e3;subst e3;have HB3:=hq_ hb;clear hC hO hb)
 clear HCL;go_upto_region 5 with (go_at_call 48;(with_reducible refine (ck_ 7 0 30 100 _ (hI _ oq_) (hI _ oq_) (hI _ oq_) (hI _ oq_)).mono ?_);rintro e w4 ⟨y,rfl,hye,hyr,hb⟩;obtain ⟨x1,n1,x2,g1,hc,hv⟩:=hyr.1.form;obtain ⟨Y,hY⟩:∃ Y,Y=y:=⟨_,rfl⟩;rw [<- hY] at hye hyr;obtain ⟨i1,f1,r1,cv,ev,s1⟩:=y;dsimp only at hc hv;subst hc;subst hv;dsimp only [EntV.val];have HY:=hq_ hY;have HYE:=hq_ hye;have HYR:=hq_ hyr;have HW4:=hq_ hb;clear hye hyr hb hY)
 refine bh_ (F:=fun U=>(Bxx U w4.heap.size #[.int .i64 i1,.bool f1,.int .i64 r1,.slice x1 s1.cls.length n1,.int .i64 s1.len,.slice x2 s1.ext.length g1] 57∧REnt U (fun k=>w3.heap.size≤k) Y)∧Below w4.heap.size w4 U) ⟨⟨Bxx.new w4 _ _,ad_.mono (HYR.out.ext (Ea (Er _) _)) fun k hk=>hk.1⟩,Ea (Er _) _⟩ ?_;rintro z4 ⟨⟨hbx,hyr⟩,hb⟩;have HB4:=hq_ (Et HB3.out (Et HW4.out hb));have hval:Y.val=.agg #[.int .i64 i1,.bool f1,.int .i64 r1,.slice x1 s1.cls.length n1,.int .i64 s1.len,.slice x2 s1.ext.length g1]:=by rw [HY.out]
 have hpu:=u6_ _ _ (.slice a0 L0.length c0) L0 Y z4 (HS0.on HB4.out).2 HSD0.out hyr (by rw [HYE.out];exact (ci_ oq_ oq_ oq_).1);rw [HL.out,HYE.out,hval] at hpu;have HPU:=hq_ hpu;have y0:=(hbx.cells 0).1;have y1:=(hbx.cells 1).1;have y2:=(hbx.cells 2).1;have y3:=(hbx.cells 3).1;have y4:=(hbx.cells 4).1;have y5:=(hbx.cells 5).1;clear hbx hyr hb hval hpu;go_upto_region 6 with (go_at_call 26;(with_reducible refine HPU.out.mono ?_);rintro e w5 ⟨v5,rfl,hb,M,hM,hO⟩;replace hM:=hM.trans x3_;have hD:=hO.diaL;obtain ⟨a5,c5,rfl⟩:=hD.form;have HM:=hq_ hM;have HDM:=hq_ hD;have HB5:=hq_ (Et HB4.out hb);clear hM hO hD hb)
 clear HPU y0 y1 y2 y3 y4 y5;have hml:M.length≤900:=by have:=congrArg List.length HM.out;rw [List.length_map] at this;simp at this;omega
 have hcl:=hx_ _ _ M w5 HDM.out (by rw [HM.out];exact mx_) hml (ou_ HONE.out (by rw [HM.out];exact mx_) (by rw [HM.out];simp [ent3,ent4,ent7,oneS]));rw [HM.out] at hcl;have HCL:=hq_ hcl;clear hcl hml;go_upto_region 7 with (go_at_call 27;(with_reducible refine HCL.out.mono ?_);rintro e w6 ⟨v6,R6,k6,rfl,hC,hO,hb⟩;obtain ⟨rfl,p,q,rfl,p1,p2,q1,q2⟩:=qj_ hC;obtain ⟨g6,f6,c6,rfl,hg6,d0,d1,d2,d3⟩:=xm_ hO.rowR;rw [p1] at d0;rw [p2] at d1;rw [q1] at d2;rw [q2] at d3;have HQ6:co_ (fun W=>W.cell? ⟨g6,f6,none⟩=some (.int .i64 3)∧W.cell? ⟨g6,f6+1,none⟩=some (.int .i64 7)∧W.cell? ⟨g6,f6+8,none⟩=some (.int .i64 4)∧W.cell? ⟨g6,f6+9,none⟩=some (.int .i64 7)) w6:=(fun W h=>⟨Ext.cell h d0,Ext.cell h d1,Ext.cell h d2,Ext.cell h d3⟩);have HB6:=hq_ (Et HB5.out hb);clear hC hO hb p1 p2 q1 q2 d0 d1 d2 d3 hg6)
 clear HCL
 skip
 go_upto_region 8 with (first|(go_at_call 48;(with_reducible refine (ck_ 8 5 100 130 _ (hI _ oq_) (hI _ oq_) (hI _ oq_) (hI _ oq_)).mono ?_);rintro e u7 ⟨y,rfl,hye,hyr,hb⟩;have hg:=ci_ (id:=8) (rk:=5) (f:=100) (t:=130) (fm:=true) oq_ oq_ oq_;have hs:y.s=oneS 100 130:=congrArg Ent.s hye;have had:=ez_ _ _ (.slice a0 L0.length c0) L0 y u7 (HS0.on (Et HB6.out hb)).2 HSD0.out hyr (by rw [hye];exact hg.1) (hp_ HONE.out HSD0.out (by rw [hs];exact hg.2.ms) (by rw [hs];rfl));rw [HL.out,hye] at had;obtain ⟨x1,n1,x2,g1,hc,hv⟩:=hyr.1.form;obtain ⟨i1,f1,r1,cv,ev,s1⟩:=y;dsimp only at hc hv;subst hc;subst hv;dsimp only [EntV.val] at had ⊢;have HAD:=hq_ had;have HBU:=hq_ hb;clear had hye hyr hb hs hg)|(go_at_call 28;(with_reducible refine HAD.out.mono ?_);rintro e w7 ⟨v7,rfl,hO,hb⟩;rw [it_.1];have HO7:=hq_ hO;have HW7:=hq_ (Et HBU.out hb);have HB7:=hq_ (Et HB6.out HW7.out);clear hO hb))
 clear  HAD HBU;obtain ⟨a7,c7,e7⟩:∃ a c,v7=.slice a 1 c:=by
  have h:=HO7.out.form;rw [it_.2] at h;obtain ⟨a,c,e,-⟩:=h;exact ⟨a,c,e⟩
 subst e7;have hin:=HO7.out.ints1;rw [it_.2] at hin;have HQ7:=(HQ6.ext HW7.out).and (Q:=fun W=>Ints W (.slice a7 1 c7) [4]) fun W h=>hin.ext h;clear hin HQ6 HO7
 skip
 go_upto_region 9 with (first|(go_at_call 48;(with_reducible refine (ck_ 8 1 100 130 _ (hI _ oq_) (hI _ oq_) (hI _ oq_) (hI _ oq_)).mono ?_);rintro e u8 ⟨y,rfl,hye,hyr,hb⟩;have hg:=ci_ (id:=8) (rk:=1) (f:=100) (t:=130) (fm:=true) oq_ oq_ oq_;have hs:y.s=oneS 100 130:=congrArg Ent.s hye;have had:=ez_ _ _ (.slice a0 L0.length c0) L0 y u8 (HS0.on (Et HB7.out hb)).2 HSD0.out hyr (by rw [hye];exact hg.1) (hp_ HONE.out HSD0.out (by rw [hs];exact hg.2.ms) (by rw [hs];rfl));rw [HL.out,hye] at had;obtain ⟨x1,n1,x2,g1,hc,hv⟩:=hyr.1.form;obtain ⟨i1,f1,r1,cv,ev,s1⟩:=y;dsimp only at hc hv;subst hc;subst hv;dsimp only [EntV.val] at had ⊢;have HAD:=hq_ had;have HBU:=hq_ hb;clear had hye hyr hb hs hg)|(go_at_call 28;(with_reducible refine HAD.out.mono ?_);rintro e w8 ⟨v8,rfl,hO,hb⟩;rw [v8_];have HO8:=hq_ hO;have HW8:=hq_ (Et HBU.out hb);have HB8:=hq_ (Et HB7.out HW8.out);clear hO hb))
 clear  HAD HBU;have HQ8:=HQ7.ext HW8.out;clear HQ7 HO8;obtain ⟨xw0,xw1⟩:=And.intro (((HS0.on HB8.out).1).cells 0).1 (((HS0.on HB8.out).1).cells 1).1;go_upto_region 10 with (first|(go_at_call 48;(with_reducible refine (ck_ 8 9 0 200 _ (hI _ oq_) (hI _ oq_) (hI _ oq_) (hI _ oq_)).mono ?_);rintro e u9 ⟨y,rfl,hye,hyr,hb⟩;have hg:=ci_ (id:=8) (rk:=9) (f:=0) (t:=200) (fm:=true) oq_ oq_ oq_;have hs:y.s=oneS 0 200:=congrArg Ent.s hye;have had:=ez_ _ _ (.slice a0 L0.length c0) L0 y u9 (HS0.on (Et HB8.out hb)).2 HSD0.out hyr (by rw [hye];exact hg.1) (hp_ HONE.out HSD0.out (by rw [hs];exact hg.2.ms) (by rw [hs];rfl));rw [HL.out,hye] at had;obtain ⟨x1,n1,x2,g1,hc,hv⟩:=hyr.1.form;obtain ⟨i1,f1,r1,cv,ev,s1⟩:=y;dsimp only at hc hv;subst hc;subst hv;dsimp only [EntV.val] at had ⊢;have HAD:=hq_ had;have HBU:=hq_ hb;clear had hye hyr hb hs hg)|(go_at_call 28;(with_reducible refine HAD.out.mono ?_);rintro e w9 ⟨v9,rfl,hO,hb⟩;rw [iu_.1];have HO9:=hq_ hO;have HW9:=hq_ (Et HBU.out hb);have HB9:=hq_ (Et HB8.out HW9.out);clear hO hb))
 clear xw0 xw1 HAD HBU;obtain ⟨a9,c9,e9⟩:∃ a c,v9=.slice a 2 c:=by
  have h:=HO9.out.form;rw [iu_.2] at h;obtain ⟨a,c,e,-⟩:=h;exact ⟨a,c,e⟩
 subst e9;have hin:=HO9.out.ints1;rw [iu_.2] at hin;have HQ9:=(HQ8.ext HW9.out).and (Q:=fun W=>Ints W (.slice a9 2 c9) [3,4]) fun W h=>hin.ext h;clear hin HQ8 HO9;obtain ⟨xw0,xw1⟩:=And.intro (((HS0.on HB9.out).1).cells 0).1 (((HS0.on HB9.out).1).cells 1).1;go_upto_region 11 with (first|(go_at_call 48;(with_reducible refine (ck_ 3 9 0 200 _ (hI _ oq_) (hI _ oq_) (hI _ oq_) (hI _ oq_)).mono ?_);rintro e u10 ⟨y,rfl,hye,hyr,hb⟩;have hg:=ci_ (id:=3) (rk:=9) (f:=0) (t:=200) (fm:=true) oq_ oq_ oq_;have hs:y.s=oneS 0 200:=congrArg Ent.s hye;have had:=ez_ _ _ (.slice a0 L0.length c0) L0 y u10 (HS0.on (Et HB9.out hb)).2 HSD0.out hyr (by rw [hye];exact hg.1) (hp_ HONE.out HSD0.out (by rw [hs];exact hg.2.ms) (by rw [hs];rfl));rw [HL.out,hye] at had;obtain ⟨x1,n1,x2,g1,hc,hv⟩:=hyr.1.form;obtain ⟨i1,f1,r1,cv,ev,s1⟩:=y;dsimp only at hc hv;subst hc;subst hv;dsimp only [EntV.val] at had ⊢;have HAD:=hq_ had;have HBU:=hq_ hb;clear had hye hyr hb hs hg)|(go_at_call 28;(with_reducible refine HAD.out.mono ?_);rintro e w10 ⟨v10,rfl,hO,hb⟩;rw [iv_.1];have HO10:=hq_ hO;have HW10:=hq_ (Et HBU.out hb);have HB10:=hq_ (Et HB9.out HW10.out);clear hO hb))
 clear xw0 xw1 HAD HBU;obtain ⟨a10,c10,e10⟩:∃ a c,v10=.slice a 1 c:=by
  have h:=HO10.out.form;rw [iv_.2] at h;obtain ⟨a,c,e,-⟩:=h;exact ⟨a,c,e⟩
 subst e10;have hin:=HO10.out.ints1;rw [iv_.2] at hin;have HQ10:=(HQ9.ext HW10.out).and (Q:=fun W=>Ints W (.slice a10 1 c10) [4]) fun W h=>hin.ext h;clear hin HQ9 HO10;have x0:=(((HS0.on HB10.out).1).cells 0).1;have x1:=(((HS0.on HB10.out).1).cells 1).1;go_upto_region 12 with (go_at_call 16;((with_reducible refine (i7_ _ (.slice a0 L0.length c0) L0 false 0 200 w10 (HS0.on HB10.out).2 HSD0.out HWB.out).mono ?_);rintro e w11 ⟨v11,N,rfl,hN,-,hs,hb⟩;rw [HL.out] at hN;obtain rfl:=sv_ hN;obtain ⟨a11,c11,e11⟩:=hs.form;change v11=Value.slice a11 1 c11 at e11;subst e11;have HQ11:=(HQ10.ext hb).and (Q:=fun W=>SpnL W (fun k=>w10.heap.size≤k) (.slice a11 1 c11) [(0,120)]) (fun W h=>hs.ext h);have HB11:=hq_ (Et HB10.out hb);clear hN hs hb))
 clear x0 x1 HQ10;have x0:=(((HS0.on HB11.out).1).cells 0).1;have x1:=(((HS0.on HB11.out).1).cells 1).1;go_upto_region 13 with (go_at_call 16;((with_reducible refine (i7_ _ (.slice a0 L0.length c0) L0 true 0 200 w11 (HS0.on HB11.out).2 HSD0.out HWB.out).mono ?_);rintro e w12 ⟨v12,N,rfl,hN,-,hs,hb⟩;rw [HL.out] at hN;obtain rfl:=sw_ hN;obtain ⟨a12,c12,e12⟩:=hs.form;change v12=Value.slice a12 2 c12 at e12;subst e12;have HQ12:=(HQ11.ext hb).and (Q:=fun W=>SpnL W (fun k=>w11.heap.size≤k) (.slice a12 2 c12) [(0,60),(90,120)]) (fun W h=>hs.ext h);have HB12:=hq_ (Et HB11.out hb);clear hN hs hb))
 clear x0 x1 HQ11;have x0:=(((HS0.on HB12.out).1).cells 0).1;have x1:=(((HS0.on HB12.out).1).cells 1).1;go_upto_region 14 with (go_at_call 20;((with_reducible refine (ig_ _ (.slice a0 L0.length c0) L0 30 0 200 w12 (HS0.on HB12.out).2 HSD0.out HWB.out (hI _ oq_)).mono ?_);rintro e w13 ⟨f,t,ok,rfl,ht,hk,hb⟩;rw [HL.out] at hk;obtain ⟨rfl,rfl⟩:=sx_ (hk.resolve_left (fun h=>absurd h.1 oq_)).2;obtain rfl:t=90:=ht;have HW13:=hq_ hb;clear hk hb))
 clear x0 x1;refine bh_ (F:=fun U=>co_ (fun W=>Bxx W w13.heap.size #[.int .i64 60,.int .i64 90] 28) U∧Below w13.heap.size w13 U) ⟨fun W h=>(Bxx.new w13 _ _).below h,Ea (Er _) _⟩ ?_;rintro z13 ⟨hbx,hb⟩;have HQ13:=((HQ12.ext HW13.out).ext hb).and hbx;have HB13:=hq_ (Et HB12.out (Et HW13.out hb));clear hbx hb HQ12 HW13;have x0:=(((HS0.on HB13.out).1).cells 0).1;have x1:=(((HS0.on HB13.out).1).cells 1).1;go_upto_region 15 with (go_at_call 20;((with_reducible refine (ig_ _ (.slice a0 L0.length c0) L0 31 0 200 z13 (HS0.on HB13.out).2 HSD0.out HWB.out (hI _ oq_)).mono ?_);rintro e w14 ⟨f,t,ok,rfl,ht,hk,hb⟩;rw [HL.out] at hk;obtain ⟨rfl,rfl⟩:=sy_ (hk.resolve_left (fun h=>absurd h.1 oq_)).2;obtain rfl:t=151:=ht;have HW14:=hq_ hb;clear hk hb))
 clear x0 x1;refine bh_ (F:=fun U=>co_ (fun W=>Bxx W w14.heap.size #[.int .i64 120,.int .i64 151] 28) U∧Below w14.heap.size w14 U) ⟨fun W h=>(Bxx.new w14 _ _).below h,Ea (Er _) _⟩ ?_;rintro z14 ⟨hbx,hb⟩;have HQ14:=((HQ13.ext HW14.out).ext hb).and hbx;have HB14:=hq_ (Et HB13.out (Et HW14.out hb));clear hbx hb HQ13 HW14;go_upto_region 16 with (go_at_call 18;((with_reducible refine (j6_ _ (.slice a0 L0.length c0) L0 50 95 z14 (HS0.on HB14.out).2 HSD0.out HLL0.out.1 ⟨oq_,oq_,oq_,oq_⟩).mono ?_);rintro e w15 ⟨v1,v2,R,rfl,hp,hsd,hl,hr1,hr2,-,hb⟩;rw [HL.out] at hp;unfold linW at hp;rw [if_pos oq_] at hp;obtain rfl:=qh_ ⟨hp,hsd⟩;obtain ⟨⟨g15,f15,c15,rfl,hg,k1,k2⟩,⟨a16,c16,rfl⟩,hin⟩:=xj_ hr1 hr2 (hI 3 oq_) (hI 7 oq_) (hI 4 oq_);have HQ15:=(HQ14.ext hb).and (Q:=fun W=>W.cell? ⟨g15,f15+5,none⟩=some (.int .i64 1)∧W.cell? ⟨g15,f15+8,none⟩=some (.int .i64 2)∧Ints W (.slice a16 3 c16) [3,7,4]) (fun W h=>⟨Ext.cell h k1,Ext.cell h k2,hin.ext h⟩);have HB15:=hq_ (Et HB14.out hb);clear hp hsd hl hr1 hr2 hb hin k1 k2))
 clear HQ14;obtain ⟨⟨⟨⟨⟨⟨⟨⟨⟨p0,p1,p2,p3⟩,i7⟩,i9⟩,i10⟩,s11⟩,s12⟩,b13⟩,b14⟩,⟨k1,k2,i16⟩⟩:=HQ15.on (Er _);have HSM7:Hid (∀ U,Below w15.heap.size w15 U->Calls Tryz.prog 24 #[.slice a7 1 c7,.slice (some ⟨U.heap.size,0,none⟩) 1 1] (U.alloc (.cells #[.int .i64 4] 3)) fun e w'=>e=.returned (.bool true)∧Below (U.alloc (.cells #[.int .i64 4] 3)).heap.size (U.alloc (.cells #[.int .i64 4] 3)) w'):=
  hq_ (fun U hU=>(cv_ _ _ ([4]:List Int) [4] _ (i7.ext (Ea hU _)) (Ints.lit (l:=[4]) (Bxx.new U #[.int .i64 4] 3) sq_ (by intro x hx;simp at hx;unfold InI;omega))).mono fun e w' h=>⟨h.1,h.2⟩)
 have HSM9:Hid (∀ U,Below w15.heap.size w15 U->Calls Tryz.prog 24 #[.slice a9 2 c9,.slice (some ⟨U.heap.size,0,none⟩) 2 2] (U.alloc (.cells #[.int .i64 3,.int .i64 4] 3)) fun e w'=>e=.returned (.bool true)∧Below (U.alloc (.cells #[.int .i64 3,.int .i64 4] 3)).heap.size (U.alloc (.cells #[.int .i64 3,.int .i64 4] 3)) w'):=
  hq_ (fun U hU=>(cv_ _ _ ([3,4]:List Int) [3,4] _ (i9.ext (Ea hU _)) (Ints.lit (l:=[3,4]) (Bxx.new U #[.int .i64 3,.int .i64 4] 3) sq_ (by intro x hx;simp at hx;unfold InI;omega))).mono fun e w' h=>⟨h.1,h.2⟩)
 have HSM10:Hid (∀ U,Below w15.heap.size w15 U->Calls Tryz.prog 24 #[.slice a10 1 c10,.slice (some ⟨U.heap.size,0,none⟩) 1 1] (U.alloc (.cells #[.int .i64 4] 3)) fun e w'=>e=.returned (.bool true)∧Below (U.alloc (.cells #[.int .i64 4] 3)).heap.size (U.alloc (.cells #[.int .i64 4] 3)) w'):=
  hq_ (fun U hU=>(cv_ _ _ ([4]:List Int) [4] _ (i10.ext (Ea hU _)) (Ints.lit (l:=[4]) (Bxx.new U #[.int .i64 4] 3) sq_ (by intro x hx;simp at hx;unfold InI;omega))).mono fun e w' h=>⟨h.1,h.2⟩)
 have HSM16:Hid (∀ U,Below w15.heap.size w15 U->Calls Tryz.prog 24 #[.slice a16 3 c16,.slice (some ⟨U.heap.size,0,none⟩) 3 3] (U.alloc (.cells #[.int .i64 3,.int .i64 7,.int .i64 4] 3)) fun e w'=>e=.returned (.bool true)∧Below (U.alloc (.cells #[.int .i64 3,.int .i64 7,.int .i64 4] 3)).heap.size (U.alloc (.cells #[.int .i64 3,.int .i64 7,.int .i64 4] 3)) w'):=
  hq_ (fun U hU=>(cv_ _ _ ([3,7,4]:List Int) [3,7,4] _ (i16.ext (Ea hU _)) (Ints.lit (l:=[3,7,4]) (Bxx.new U #[.int .i64 3,.int .i64 7,.int .i64 4] 3) sq_ (by intro x hx;simp at hx;unfold InI;omega))).mono fun e w' h=>⟨h.1,h.2⟩)
 have HSP11:Hid (∀ U,Below w15.heap.size w15 U->Calls Tryz.prog 22 #[.slice a11 1 c11,.slice (some ⟨U.heap.size,0,none⟩) 1 1] (U.alloc (.cells #[.int .i64 0,.int .i64 120] 28)) fun e w'=>e=.returned (.bool true)∧Below (U.alloc (.cells #[.int .i64 0,.int .i64 120] 28)).heap.size (U.alloc (.cells #[.int .i64 0,.int .i64 120] 28)) w'):=
  hq_ (fun U hU=>(f7_ _ _ _ _ ([(0,120)]:List Spn) [(0,120)] _ (s11.ext (Ea hU _)) (SpnL.lit (l:=[(0,120)]) (Bxx.new U #[.int .i64 0,.int .i64 120] 28) rfl sq_ (List.forall_mem_cons.2 ⟨il_ oq_,sq_⟩))).mono fun e w' h=>⟨by rw [h.1];simp,h.2⟩)
 have HSP12:Hid (∀ U,Below w15.heap.size w15 U->Calls Tryz.prog 22 #[.slice a12 2 c12,.slice (some ⟨U.heap.size,0,none⟩) 2 2] (U.alloc (.cells #[.int .i64 0,.int .i64 60,.int .i64 90,.int .i64 120] 28)) fun e w'=>e=.returned (.bool true)∧Below (U.alloc (.cells #[.int .i64 0,.int .i64 60,.int .i64 90,.int .i64 120] 28)).heap.size (U.alloc (.cells #[.int .i64 0,.int .i64 60,.int .i64 90,.int .i64 120] 28)) w'):=
  hq_ (fun U hU=>(f7_ _ _ _ _ ([(0,60),(90,120)]:List Spn) [(0,60),(90,120)] _ (s12.ext (Ea hU _)) (SpnL.lit (l:=[(0,60),(90,120)]) (Bxx.new U #[.int .i64 0,.int .i64 60,.int .i64 90,.int .i64 120] 28) rfl sq_ (List.forall_mem_cons.2 ⟨il_ oq_,List.forall_mem_cons.2 ⟨il_ oq_,sq_⟩⟩))).mono fun e w' h=>⟨by rw [h.1];simp,h.2⟩)
 have H13:=hq_ b13;have H14:=hq_ b14;have HK:=hq_ (And.intro k1 k2);clear HQ15 i7 i9 i10 s11 s12 b13 b14 i16 k1 k2;go_wp2_with (first|(go_at_call 24;((with_reducible refine (HSM7.out w15 (Er _)).mono ?_);rintro e u1 ⟨rfl,hb⟩;have HU1:=hq_ (Et (Ea (Er w15) _) hb);clear hb))|(go_at_call 24;((with_reducible refine (HSM9.out u1 HU1.out).mono ?_);rintro e u2 ⟨rfl,hb⟩;have HU2:=hq_ (Et (Ea HU1.out _) hb);clear hb))|(go_at_call 24;((with_reducible refine (HSM10.out u2 HU2.out).mono ?_);rintro e u3 ⟨rfl,hb⟩;have HU3:=hq_ (Et (Ea HU2.out _) hb);clear hb))|(go_at_call 22;((with_reducible refine (HSP11.out u3 HU3.out).mono ?_);rintro e u4 ⟨rfl,hb⟩;have HU4:=hq_ (Et (Ea HU3.out _) hb);clear hb))|(go_at_call 22;((with_reducible refine (HSP12.out u4 HU4.out).mono ?_);rintro e u5 ⟨rfl,hb⟩;have HU5:=hq_ (Et (Ea HU4.out _) hb);have r0:=((H13.out.below HU5.out).cells 0).1;have r1:=((H13.out.below HU5.out).cells 1).1;have r2:=((H14.out.below HU5.out).cells 0).1;have r3:=((H14.out.below HU5.out).cells 1).1;clear hb))|(go_at_call 24;((with_reducible refine (HSM16.out u5 HU5.out).mono ?_);rintro e u6 ⟨rfl,hb⟩;have HU6:=hq_ (Et (Ea HU5.out _) hb);have r4:=Ext.cell HU6.out HK.out.1;have r5:=Ext.cell HU6.out HK.out.2;clear hb)))
 go_ret;exact ⟨rfl,Et HB2.out (Et HB15.out HU6.out)⟩
end Go.Proofs.YtkclokcenllhmaaGreat
namespace Go.Proofs.YtkclokcenllhmaaGreat
open Go.RowKit Go.Shelf Go.Maps Kal
theorem nilK {A B:Str} (vA:MStr A) (vB:MStr B) (hno:A.cls=[]):eb_ A B∧fa_ A B:=
 ⟨fun F G cva eva cvb evb w hA hB=>(re_ F G cva eva cvb evb A B w hA hB vA vB hno).mono fun e w' ⟨r,k,he,hm,hb⟩=>by
  obtain ⟨rfl,rfl⟩:=hm.eqs;exact ⟨he,hb⟩,fun F G cva eva cvb evb w hA hB=>pj_ F G cva eva cvb evb A B _ w hA hB vA vB oq_ oq_ hno⟩
theorem o0_ (w:World):Calls Tryz.prog 13 #[] w fun e w'=>e=.returned (.bool true)∧Below w.heap.size w w':=v7_ (fun _ _ vA vB hno=>nilK vA vB hno) w
end Go.Proofs.YtkclokcenllhmaaGreat
namespace Go.Proofs.YtkclokcenllhmaaGreat
open Go.RowKit Go.Maps Kal
theorem jz_ (v:Value) (l:List Int) (x:Int) (w:World) (hv:Ints w v l) :
  Calls Tryz.prog 268 #[v,.int .i64 x] w fun e w'=>e=.returned (.bool (decide (x∈l)))∧w=w':=by
 obtain ⟨⟨a,c,rfl,hlc,hc,hcells⟩,hlen,hb⟩:=hv
 go_enter Tryz.func268,Tryz.ntmps268
 go_wp2_with fail
 go_loop [5] (fun i=>∃ k:Nat,k≤l.length∧i=.int .i64 k∧x ∉ l.take k) (fun i=>l.length-(intOf i).toNat)
 case atStart=>exact ⟨0,oq_,rfl,sq_⟩
 case round=>
  obtain ⟨k,hk,rfl,hno⟩:=hrel;have HNO:=hq_ hno;clear hno;by_cases hlt:k<l.length
  ·rcases hcells with h|⟨b,o,rfl,hcell⟩
   ·rw [h] at hlt;simp at hlt
   have hcl:=hcell k hlt;have hlI:(k:Int)<l.length:=oq_;have hts:l.take (k+1)=l.take k ++ [l.getD k 0]:=by rw [List.take_succ_eq_append_getElem hlt,List.getD_eq_getElem?_getD,List.getElem?_eq_getElem hlt];rfl
   have HTS:=hq_ hts;have HM:=hq_ (uc_ hlt);clear hts hcell;generalize l.getD k 0=y at *;by_cases hyx:y=x
   ·have hyb:(y == x)=true:=by simp [hyx]
    have HYX:=hq_ hyx;clear hyx;go_wp2_with fail
    go_ret;exact ⟨a1_ (by rw [decide_eq_true];rw [<- HYX.out];exact HM.out),rfl⟩
   ·have hyb:(y == x)=false:=by simp [hyx]
    have HYX:=hq_ hyx;clear hyx;go_wp2_with fail
    go_round
    case rel=>exact ⟨k+1,oq_,by go_num,by
     rw [HTS.out,List.mem_append];rintro (h|h)
     ·exact HNO.out h
     ·rw [List.mem_singleton] at h;exact HYX.out h.symm⟩
    case measure=>simp [intOf];omega
  ·obtain rfl:k=l.length:=oq_;go_wp2_with fail
   go_ret;exact ⟨a1_ (by rw [decide_eq_false];have h:=HNO.out;rwa [List.take_length] at h),rfl⟩
theorem hu_ (v:Value) (l:List Int) (lim:Int) (w:World) (hv:Ints w v l) :
  Calls Tryz.prog 237 #[v,.int .i64 lim] w fun e w'=>e=.returned (.bool (ao_ (-1) lim l))∧∃ n,w'=w.drewN n:=by
 obtain ⟨⟨a,c,rfl,hlc,hc,hcells⟩,hlen,hb⟩:=hv
 go_enter Tryz.func237,Tryz.ntmps237
 go_wp2_with fail
 go_loopw [5] (fun i wr=>∃ (k:Nat) (pv:Int),k≤l.length∧i=.int .i64 k∧((k=0∧pv=-1)∨(1≤k∧pv=l.getD (k-1) 0∧0≤pv))∧ao_ (-1) lim l=ao_ pv lim (l.drop k)∧∃ n,wr=w.drewN n) (fun i _=>l.length-(intOf i).toNat)
 case atStart=>exact ⟨0,-1,oq_,rfl,.inl ⟨rfl,rfl⟩,sq_,0,rfl⟩
 case round=>
  obtain ⟨k,pv,hk,rfl,hpv,hr,n,rfl⟩:=hrel;have HR:=hq_ hr;clear hr;by_cases hlt:k<l.length
  ·rcases hcells with h|⟨b,o,rfl,hcell⟩
   ·rw [h] at hlt;simp at hlt
   have hcl:=hcell k hlt;have hlI:(k:Int)<l.length:=oq_;have hdr:ao_ pv lim (l.drop k)=if l.getD k 0≤pv∨lim≤l.getD k 0 then false else ao_ (l.getD k 0) lim (l.drop (k+1)):=by rw [drop_cons hlt,ao_]
   rw [hdr] at HR;clear hdr;obtain ⟨x,hx⟩:∃ x,x=l.getD k 0:=⟨_,rfl⟩;rw [<- hx] at hcl HR;have HX:=hq_ hx;clear hx;have hend:∀ q:Bool,(x≤pv∨lim≤x↔q=true)->ao_ (-1) lim l=if q then false else ao_ x lim (l.drop (k+1)):=fun q h=>by
    rw [HR.out];cases q <;> simp at h <;> simp [h]
   have HEND:=hq_ hend;clear hend;rcases hpv with ⟨hk0,hp0⟩|⟨hk1,hpe,hp0⟩
   ·have hkz:¬ (0:Int)<k:=oq_;have hkd:decide ((0:Int)<(k:Int))=false:=by simp [hk0]
    have hkn:decide (0<k)=false:=by simp [hk0]
    have hkm:¬ 0<k:=oq_;have HK0:=hq_ hk0;have HP0:=hq_ hp0;clear hcell hk0 hp0;by_cases h1:x<0
    ·have d1:decide (x<0)=true:=by simp [h1]
     go_wp2_with fail
     go_quiet (fail)
     go_wp2_with fail
     go_ret;refine ⟨a1_ ?_,_,World.drewN_drewN _ _ _⟩;rw [HEND.out true (by have:=HP0.out;simp;omega)];rfl
    ·have d1:decide (x<0)=false:=by simp;omega
     by_cases h2:lim≤x
     ·have d2:decide (lim≤x)=true:=by simp [h2]
      go_wp2_with fail
      go_quiet (fail)
      go_wp2_with fail
      go_ret;refine ⟨a1_ ?_,_,World.drewN_drewN _ _ _⟩;rw [HEND.out true (by simp [h2])];rfl
     ·have d2:decide (lim≤x)=false:=by simp;omega
      go_wp2_with fail
      go_quiet (fail)
      go_wp2_with fail
      go_roundw
      case rel=>exact ⟨k+1,x,oq_,by go_num,.inr ⟨oq_,HX.out,oq_⟩,by rw [HEND.out false (by have:=HP0.out;simp;omega)];rfl,_,rfl⟩
      case measure=>simp [intOf];omega
   ·have hcl2:=hcell (k-1) oq_;have hkz:(0:Int)<k:=oq_;have hkd:decide ((0:Int)<(k:Int))=true:=by simp;omega
    rw [<- hpe] at hcl2;have HPE:=hq_ hpe;clear hcell hpe;by_cases h1:x<0
    ·have d1:decide (x<0)=true:=by simp [h1]
     go_wp2_with fail
     go_quiet (fail)
     go_wp2_with fail
     go_ret;refine ⟨a1_ ?_,_,World.drewN_drewN _ _ _⟩;rw [HEND.out true tq_];rfl
    ·have d1:decide (x<0)=false:=by simp;omega
     by_cases h2:lim≤x
     ·have d2:decide (lim≤x)=true:=by simp [h2]
      go_wp2_with fail
      go_quiet (fail)
      go_wp2_with fail
      go_ret;refine ⟨a1_ ?_,_,World.drewN_drewN _ _ _⟩;rw [HEND.out true (by simp [h2])];rfl
     ·have d2:decide (lim≤x)=false:=by simp;omega
      obtain ⟨k',hk'⟩:∃ k',k=k'+1:=⟨k-1,oq_⟩;subst hk';rw [show k'+1-1=k' from by omega] at hcl2;have hs1:(((k'+1:Nat):Int)-1)=(k':Int):=oq_;by_cases h3:x≤pv
      ·have d3:decide (x≤pv)=true:=by simp [h3]
       go_wp2_with fail
       go_quiet (fail)
       go_wp2_with fail
       go_ret;refine ⟨a1_ ?_,_,World.drewN_drewN _ _ _⟩;rw [HEND.out true (by simp [h3])];rfl
      ·have d3:decide (x≤pv)=false:=by simp;omega
       go_wp2_with fail
       go_quiet (fail)
       go_wp2_with fail
       go_roundw
       case rel=>exact ⟨k'+1+1,x,oq_,by go_num,.inr ⟨oq_,HX.out,oq_⟩,by rw [HEND.out false tq_];rfl,_,rfl⟩
       case measure=>simp [intOf];omega
  ·obtain rfl:k=l.length:=oq_;go_wp2_with fail
   go_ret;exact ⟨a1_ (by rw [HR.out,List.drop_length];rfl),n,rfl⟩
theorem vj_ {head cycle:List Int} {frm period:Int} (h:frm<0∨1099511627776<frm∨period<1∨1099511627776<period∨1048576<(head.length:Int)+cycle.length):validB ⟨head,frm,period,cycle⟩=false:=by
 unfold validB;rcases h with h|h|h|h|h
 ·rw [decide_eq_false (show ¬ 0≤frm by omega)];rfl
 ·rw [decide_eq_false (show ¬ frm≤1099511627776 by omega)];simp
 ·rw [decide_eq_false (show ¬ 1≤period by omega)];simp
 ·rw [decide_eq_false (show ¬ period≤1099511627776 by omega)];simp
 ·rw [decide_eq_false (show ¬ (head.length:Int)+cycle.length≤1048576 by omega)];simp
theorem td_ {head cycle:List Int} {frm period:Int} (h:0≤frm∧frm≤1099511627776∧1≤period∧period≤1099511627776∧(head.length:Int)+cycle.length≤1048576):validB ⟨head,frm,period,cycle⟩=(ao_ (-1) frm head && ao_ (-1) period cycle):=by
 unfold validB;rw [decide_eq_true h.1,decide_eq_true h.2.1,decide_eq_true h.2.2.1,decide_eq_true h.2.2.2.1,decide_eq_true h.2.2.2.2];simp
theorem dd_ (h c:Value) (p:Per) (w:World) (hp:cd_ w h c p) (hf:InI p.frm) (ht:InI p.period) :
  Calls Tryz.prog 197 #[perV h c p.frm p.period] w fun e w'=>e=.returned (.bool (validB p))∧Below w.heap.size w w':=by
 unfold InI at hf ht;have hh':∀ W,Below w.heap.size w W->Ints W h p.head:=fun W hb=>hp.hd.ext hb;have hc':∀ W,Below w.heap.size w W->Ints W c p.cycle:=fun W hb=>hp.cy.ext hb;have hl1:=hp.hd.len;have hl2:=hp.cy.len;obtain ⟨a1,c1,a2,c2,rfl,rfl⟩:=hp.inn.form;obtain ⟨head,frm,period,cycle⟩:=p;dsimp only at *;obtain ⟨r1,hr1⟩:∃ r1,r1=ao_ (-1) frm head:=⟨_,rfl⟩;obtain ⟨r2,hr2⟩:∃ r2,r2=ao_ (-1) period cycle:=⟨_,rfl⟩;have HR1:=hq_ hr1.symm;have HR2:=hq_ hr2.symm;clear hp hr1 hr2
 go_enter Tryz.func197,Tryz.ntmps197
 go_wp2_with (go_at_call 237;first|((with_reducible refine (hu_ (.slice a1 head.length c1) head frm _ (hh' _ xE)).mono ?_);rintro e w1 ⟨he,n1,rfl⟩;rw [HR1.out] at he;subst he)|((with_reducible refine (hu_ (.slice a2 cycle.length c2) cycle period _ (hc' _ xE)).mono ?_);rintro e w2 ⟨he,n2,rfl⟩;rw [HR2.out] at he;subst he))
 all_goals go_ret
 all_goals first
  | exact ⟨a1_ (vj_ oq_).symm,xE⟩
  | (refine ⟨a1_ ?_,xE⟩;rw [td_ oq_,HR1.out,HR2.out];first|rfl|simp [*])
theorem tp_ (h c:Value) (p:Per) (n:Int) (w:World) (hp:cd_ w h c p) (hf:InI p.frm) (ht:InI p.period) (hn:InI n) :
  Calls Tryz.prog 238 #[perV h c p.frm p.period,.int .i64 n] w fun e w'=>e=.returned (.bool (validB p && decide (0≤n) && memB p n))∧Below w.heap.size w w':=by
 have hl:∀ W,Below w.heap.size w W->cd_ W h c p:=fun W hb=>hp.ext hb;have hf0:=hf;have ht0:=ht;unfold InI at hn hf ht;obtain ⟨a1,c1,a2,c2,rfl,rfl⟩:=hp.inn.form;have H1:∀ W,Below w.heap.size w W->Ints W (.slice a1 p.head.length c1) p.head:=fun W hb=>hp.hd.ext hb;have H2:∀ W,Below w.heap.size w W->Ints W (.slice a2 p.cycle.length c2) p.cycle:=fun W hb=>hp.cy.ext hb;have HF0:=hq_ hf0;have HT0:=hq_ ht0;clear hp hf0 ht0;by_cases hv:validB p=true
 ·have HV:=hq_ hv;have hfp:=((be_ p).1 hv).wf.frm;have hpp:=((be_ p).1 hv).wf.per;have HW:=hq_ ((be_ p).1 hv);clear hv;by_cases h0:0≤n
  ·by_cases hlt:n<p.frm
   ·have hm:memB p n=decide (n∈p.head):=by unfold memB;rw [if_pos hlt]
    have HM:Hid ((validB p && decide (0≤n) && memB p n)=decide (n∈p.head)):=hq_ (by rw [HV.out,hm];simp [h0]);clear hm
    go_enter Tryz.func238,Tryz.ntmps238
    go_wp2_with (first|(go_at_call 197;refine (dd_ (.slice a1 p.head.length c1) (.slice a2 p.cycle.length c2) p _ (hl _ xE) HF0.out HT0.out).mono ?_;rintro e w1 ⟨he,hb1⟩;rw [HV.out] at he;subst he;obtain ⟨hc1,hf1⟩:=hj_ hb1;(try simp only [World.size_alloc,World.size_drew,gh_,World.size_setCell] at hc1 hf1);have hz1:w.heap.size<w1.heap.size:=(by have h7:=hb1.size;simp at h7;omega))|(go_at_call 268;refine (jz_ (.slice a1 p.head.length c1) p.head n _ (H1 _ xE)).mono ?_;rintro e w2 ⟨rfl,rfl⟩))
    go_ret;exact ⟨a1_ HM.out.symm,xE⟩
   ·have hm:memB p n=decide ((n-p.frm) % p.period∈p.cycle):=by unfold memB;rw [if_neg hlt]
    have HM:Hid ((validB p && decide (0≤n) && memB p n)=decide ((n-p.frm) % p.period∈p.cycle)):=hq_ (by rw [HV.out,hm];simp [h0]);have hsub:IntKind.i64.wrap (n-p.frm)=n-p.frm:=IntWalk.i64_in _ ⟨oq_,oq_⟩;have htm:(n-p.frm).tmod p.period=(n-p.frm) % p.period:=Int.tmod_eq_emod_of_nonneg oq_;have HSUB:=hq_ hsub;have HTM:=hq_ htm;clear hm hsub htm
    go_enter Tryz.func238,Tryz.ntmps238
    go_upto_region 5 with (go_at_call 197;refine (dd_ (.slice a1 p.head.length c1) (.slice a2 p.cycle.length c2) p _ (hl _ xE) HF0.out HT0.out).mono ?_;rintro e w1 ⟨he,hb1⟩;rw [HV.out] at he;subst he;obtain ⟨hc1,hf1⟩:=hj_ hb1;(try simp only [World.size_alloc,World.size_drew,gh_,World.size_setCell] at hc1 hf1);have hz1:w.heap.size<w1.heap.size:=(by have h7:=hb1.size;simp at h7;omega))
    have hge:p.frm≤n:=oq_;have hpos:0<p.period:=oq_;obtain ⟨hn1,hn2⟩:=hn;obtain ⟨ht1,ht2⟩:=ht;clear hlt hf;have hne:¬ p.period=0:=oq_;have htm:=HTM.out;go_quiet ((go_at_call 268;(first|exact qc_ (jz_ (.slice a2 p.cycle.length c2) p.cycle _ _ (H2 _ xE))|exact kb_ (jz_ (.slice a2 p.cycle.length c2) p.cycle _ _ (H2 _ xE)))))
    go_wp2_with fail
    go_ret;exact ⟨a1_ HM.out.symm,xE⟩
  ·have h0':decide (0≤n)=false:=by simpa using h0
   have hlt:n<0:=oq_
   go_enter Tryz.func238,Tryz.ntmps238
   go_wp2_with (go_at_call 197;refine (dd_ (.slice a1 p.head.length c1) (.slice a2 p.cycle.length c2) p _ (hl _ xE) HF0.out HT0.out).mono ?_;rintro e w1 ⟨he,hb1⟩;rw [HV.out] at he;subst he)
   go_ret;exact ⟨a1_ (by simp [h0']),xE⟩
 ·have hv':validB p=false:=by simpa using hv
  have HV:=hq_ hv';clear hv hv'
  go_enter Tryz.func238,Tryz.ntmps238
  go_wp2_with (go_at_call 197;refine (dd_ (.slice a1 p.head.length c1) (.slice a2 p.cycle.length c2) p _ (hl _ xE) HF0.out HT0.out).mono ?_;rintro e w1 ⟨he,hb1⟩;rw [HV.out] at he;subst he)
  go_ret;exact ⟨a1_ (by rw [HV.out];simp),xE⟩
end Go.Proofs.YtkclokcenllhmaaGreat
end
