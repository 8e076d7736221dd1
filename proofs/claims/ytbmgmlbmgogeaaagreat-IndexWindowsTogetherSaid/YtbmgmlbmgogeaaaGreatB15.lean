/- The statement IndexWindowsTogetherSaid: for every input the law returns true, and its arguments read as before. -/
import Derived.Test.YtbmgmlbmgogeaaaGreatB9
import Derived.Test.YtbmgmlbmgogeaaaGreatB7
import Derived.Test.YtbmgmlbmgogeaaaGreatB10
import Derived.Test.YtbmgmlbmgogeaaaGreatB4
set_option linter.unusedVariables false
set_option linter.unusedSimpArgs false
set_option maxRecDepth 100000
set_option maxHeartbeats 4000000
section
variable {a:Int}
namespace Go.Proofs.YtbmgmlbmgogeaaaGreat
section
open Go.RowKit Go.Maps Kal
def a20_ (l:List Int) (w:World) (ov iv:Value) (W:World):Prop:=∃ (k g c:Nat),k<=l.length/\iv=.int .i64 k/\ov=.slice (some ⟨g,0,none⟩) k c/\Hid (ak W w.heap.size (.slice (some ⟨g,0,none⟩) k c) (l.take k))/\Hid (Below w.heap.size w W)
theorem a1u_ (v:Value) (l:List Int) (w:World) (h:Ints w v l) (hl:l.Pairwise (· < ·)) (hn:l.length<=1000) :
  Calls Tryz.prog 33 #[v] w λe w'=>∃ a c,e=.returned (.slice a l.length c)/\ak w' w.heap.size (.slice a l.length c) l/\Below w.heap.size w w':=by
 have H:=ad h;have HL:=ad hl;obtain ⟨⟨a,c,rfl,_,_,_⟩,g4,_⟩:=h
 go_in
 go_wp2_with fail
 have h0:a20_ l w (.slice (some ⟨w.heap.size,0,none⟩) 0 0) (.int .i64 0) (w.alloc (.cells #[] 3)):=⟨0,_,_,aa,rfl,rfl,ad ⟨⟨rfl,.inr ⟨w.heap.size,0,#[],rfl,Nat.le_refl _,World.alloc_heap_new _ _,Nat.le_refl _,by simp [maxLen],rfl,rfl⟩⟩,ag,ag⟩,ad (Ea (Er w) _)⟩;have H0:=ad h0;clear h0;go_loopw [3,4] (λov iv wr=>a20_ l w ov iv wr) (λ_ iv _=>l.length-(intOf iv).toNat)
 .exact H0.o
 obtain ⟨k,og,oc,hk,rfl,rfl,HO,HB⟩:=hrel;obtain ⟨wk,r_⟩:∃ x,x=wr:=⟨_,rfl⟩;subst r_;by_cases hlt:k<l.length
 .have dh:(k:Int)<l.length:=aa;obtain ⟨b8,f8,rfl,-,Fq,Af,-⟩:=H.o.elem hlt;have hc8':=al.cell HB.o Fq;obtain ⟨y,hy⟩:∃ y,l.getD k 0=y:=⟨_,rfl⟩;rw [hy] at hc8' Fq;have hno:decide (y∈l.take k)=false:=decide_eq_false (by rw [<- hy];exact a1v_ HL.o hlt);have HHAS:=ad (a19_ (.slice (some ⟨og,0,none⟩) k oc) (l.take k) y wk HO.o.ints);rw [hno] at HHAS;have HY:=ad hy;clear hy hno Af Fq;go_wp2_with (go_at_call 29;(with_reducible refine HHAS.o.mono ?_);rintro e w1 ⟨rfl,e1⟩;obtain rfl:wk=w1:=e1.symm);have HC8:=ad hc8';clear hc8';go_loopw [5] (λiv wr=>∃ j:Nat,j<=k/\iv=.int .i64 j/\Hid (Below wk.heap.size wk wr)) (λiv _=>k-(intOf iv).toNat)
  .exact ⟨0,aa,rfl,ad (Below.refl _ _)⟩
  obtain ⟨j,hj,rfl,HJ⟩:=hrel;obtain ⟨wj,hwj⟩:∃ x,x=wr:=⟨_,rfl⟩;subst hwj;have hc8':=al.cell HJ.o HC8.o;have HOJ:=ad (HO.o.ext HJ.o);by_cases hjk:j<k
  .have rD:(j:Int)<k:=aa;obtain ⟨ob,of,heo,-,hz,-,-⟩:=HOJ.o.ints.elem (show j<(l.take k).length by rw [List.length_take];omega);injection heo with heo;injection heo with h1 h2 _;subst h1;subst h2;rw [Nat.zero_add] at hz
   have hzy:(l.take k).getD j 0<y:=by rw [<- HY.o];exact a1k_ HL.o hlt hjk
   obtain ⟨z,hzz⟩:∃ z,(l.take k).getD j 0=z:=⟨_,rfl⟩;rw [hzz] at hz hzy;clear hzz;go_upto_region 7 with fail
   refine jZ (w0:=wj) [0,1,2,3,4,5,6,7,8,9,10,11,12,13,14] [] (λv=>⟨#[.slice (some ⟨b8,f8,none⟩) l.length c,undef,.slice none 0 0,.slice (some ⟨og,0,none⟩) k oc,.int .i64 ↑k,.int .i64 ↑j,u6,.slice (some ⟨w.heap.size,0,none⟩) 0 0,.int .i64 ↑k,.slice (some ⟨b8,f8,none⟩) l.length c,.int .i64 ↑l.length,.bool true,u12,u13,.slice (some ⟨og,0,none⟩) k oc,.slice (some ⟨b8,f8,none⟩) l.length c,.int .i64 ↑k,.pointer (some ⟨b8,f8+k,none⟩),.int .i64 y,.bool false,v 0,v 1,v 2,v 3,v 4,v 5,v 6,v 7,v 8,v 9,v 10,v 11,v 12,v 13,v 14,u35,u36,u37,u38,u39,u40,u41,u42,u43,u44,u45,u46,u47,u48,u49,u50,u51,u52,u53,undef],[]⟩) [.int .i64 (j:Int),.slice (some ⟨og,0,none⟩) k oc,.int .i64 (k:Int),.bool true,.bool true,.slice (some ⟨og,0,none⟩) k oc,.int .i64 (j:Int),.pointer (some ⟨og,j,none⟩),.int .i64 z,.slice (some ⟨b8,f8,none⟩) l.length c,.int .i64 (k:Int),.pointer (some ⟨b8,f8+k,none⟩),.int .i64 y,.bool true,.bool true] (λW=>W.cell? ⟨og,j,none⟩=some (.int .i64 z)/\W.cell? ⟨b8,f8+k,none⟩=some (.int .i64 y)) (λW hb=>⟨al.cell hb hz,al.cell hb hc8'⟩) ?steps7a ?fin7a (λj=>match j with|0=>u20|1=>u21|2=>u22|3=>u23|4=>u24|5=>u25|6=>u26|7=>u27|8=>u28|9=>u29|10=>u30|11=>u31|12=>u32|13=>u33|14=>u34|_=>undef)
   case steps7a=>
    refine .c [] rfl ?_ (.c [] rfl ?_ (.c [1] rfl ?_ (.c [0,2] rfl ?_ (.c [3] rfl ?_ (.c [4] rfl ?_ (.c [4] rfl ?_ (.c [4,5,6] rfl ?_ (.c [4,7] rfl ?_ (.c [4] rfl ?_ (.c [4] rfl ?_ (.c [4,9,10] rfl ?_ (.c [4,11] rfl ?_ (.c [4,8,12] rfl ?_ (.c [4,13] rfl ?_ (.n)))))))))))))));all_goals try exact kq
   case fin7a=>
    rintro W3 hb3 hg;show wpList _ _ _ [] _ _;simp only [aD];have cm:=ad (Et HJ.o hb3);clear hg hb3 hz hc8';go_wp2;go_roundw
    .exact ⟨j+1,aa,by go_num,cm⟩
    simp [intOf];omega
  obtain rfl:k=j:=aa;go_upto_region 7 with fail
  refine jZ (w0:=wj) [0,1,2,3,4,5,6,7,8,9,10,11,12,13,14] [] (λv=>⟨#[.slice (some ⟨b8,f8,none⟩) l.length c,undef,.slice none 0 0,.slice (some ⟨og,0,none⟩) k oc,.int .i64 ↑k,.int .i64 ↑k,u6,.slice (some ⟨w.heap.size,0,none⟩) 0 0,.int .i64 ↑k,.slice (some ⟨b8,f8,none⟩) l.length c,.int .i64 ↑l.length,.bool true,u12,u13,.slice (some ⟨og,0,none⟩) k oc,.slice (some ⟨b8,f8,none⟩) l.length c,.int .i64 ↑k,.pointer (some ⟨b8,f8+k,none⟩),.int .i64 y,.bool false,v 0,v 1,v 2,v 3,v 4,v 5,v 6,v 7,v 8,v 9,v 10,v 11,v 12,v 13,v 14,u35,u36,u37,u38,u39,u40,u41,u42,u43,u44,u45,u46,u47,u48,u49,u50,u51,u52,u53,undef],[]⟩) [.int .i64 (k:Int),.slice (some ⟨og,0,none⟩) k oc,.int .i64 (k:Int),.bool false,.bool false,undef,undef,undef,undef,undef,undef,undef,undef,undef,.bool false] (λW=>W.cell? ⟨b8,f8+k,none⟩=some (.int .i64 y)) (λW hb=>al.cell hb hc8') ?steps7b ?fin7b (λj=>match j with|0=>u20|1=>u21|2=>u22|3=>u23|4=>u24|5=>u25|6=>u26|7=>u27|8=>u28|9=>u29|10=>u30|11=>u31|12=>u32|13=>u33|14=>u34|_=>undef)
  case steps7b=>
   refine .c [] rfl ?_ (.c [] rfl ?_ (.c [1] rfl ?_ (.c [0,2] rfl ?_ (.c [3] rfl ?_ (.c [4] rfl ?_ (.c [4] rfl ?_ (.c [4,5,6] rfl ?_ (.c [4,7] rfl ?_ (.c [4] rfl ?_ (.c [4] rfl ?_ (.c [4,9,10] rfl ?_ (.c [4,11] rfl ?_ (.c [4,8,12] rfl ?_ (.c [4,13] rfl ?_ (.n)))))))))))))));all_goals try exact kq
  case fin7b=>
   rintro W3 hb3 hg;show wpList _ _ _ [] _ _;simp only [aD];have cm:=ad (Et HJ.o hb3);clear hg hb3 hc8';by_cases hoc:oc=k
   .obtain rfl:k=oc:=hoc.symm;go_upto_region 10 with fail
    refine iR (F:=λU=>Below wk.heap.size wk U) (Ea cm.o _) ?_;rintro W4 hw4;have hc9:=al.cell hw4 HC8.o;have Zq:=ad hw4;clear hw4;refine oK (w0:=W4) [0,1,2,3,4,5,6,7] [8,9] (λv=>⟨#[.slice (some ⟨b8,f8,none⟩) l.length c,undef,.slice none 0 0,.slice (some ⟨og,0,none⟩) k k,.int .i64 ↑k,.int .i64 ↑k,.slice (some ⟨W3.heap.size,0,none⟩) 0 0,.slice (some ⟨w.heap.size,0,none⟩) 0 0,.int .i64 ↑k,.slice (some ⟨b8,f8,none⟩) l.length c,.int .i64 ↑l.length,.bool true,u12,u13,.slice (some ⟨og,0,none⟩) k k,.slice (some ⟨b8,f8,none⟩) l.length c,.int .i64 ↑k,.pointer (some ⟨b8,f8+k,none⟩),.int .i64 y,.bool false,.int .i64 ↑k,.slice (some ⟨og,0,none⟩) k k,.int .i64 ↑k,.bool false,.bool false,undef,undef,undef,undef,undef,undef,undef,undef,undef,.bool false,u35,u36,.slice (some ⟨W3.heap.size,0,none⟩) 0 0,.slice (some ⟨og,0,none⟩) k k,.int .i64 ↑k,.slice (some ⟨og,0,none⟩) 0 0,.slice (some ⟨W3.heap.size,0,none⟩) 0 0,v 0,v 1,v 2,v 3,v 4,v 5,v 6,v 7,u50,u51,u52,u53,undef],[]⟩) [.slice (some ⟨og,0,none⟩) k k,.int .i64 (k:Int),.slice (some ⟨og,0,none⟩) k k,.slice (some ⟨b8,f8,none⟩) l.length c,.int .i64 (k:Int),.pointer (some ⟨b8,f8+k,none⟩),.int .i64 y,undef] [7] (λi v lo hi W=>match i with|7=>v 7=.slice (some ⟨lo 7,0,none⟩) 1 1/\lo 7<hi 7/\af W (lo 7) #[.int .i64 y] 3|_=>True) (λW=>W.cell? ⟨b8,f8+k,none⟩=some (.int .i64 y)) (λW hb=>al.cell hb hc9) ?stab10a ?loc10a ?steps10a ?fin10a (λj=>match j with|0=>u42|1=>u43|2=>u44|3=>u45|4=>u46|5=>u47|6=>u48|7=>u49|_=>undef)
    case stab10a=>
     refine ⟨?_,trivial⟩;intro v lo hi W W' h hb;exact ⟨h.1,h.2.1,h.2.2.below hb⟩
    case loc10a=>
     refine ⟨?_,trivial⟩;intro v v' lo lo' hi hi' W aC h;have q:=aC 7 (.inl rfl)
     (try dsimp only at h ⊢)
     simp only [q.1,q.2.1,q.2.2] at h;exact h
    case steps10a=>
     refine .c [] [] rfl ?_ (.c [] [] rfl ?_ (.c [0,1] [] rfl ?_ (.c [] [] rfl ?_ (.c [] [] rfl ?_ (.c [3,4] [] rfl ?_ (.c [5] [] rfl ?_ (.c [6] [] rfl ?_ (.n))))))));all_goals try exact pj
     rintro v lo hi W hb g0 _;refine .inl ⟨rfl,λK hK=>?_⟩;simp only [ov,aD,Nat.reduceBEq,cond_true,cond_false];go_wp2;exact aU (hK (.slice (some ⟨W.heap.size,0,none⟩) 1 1) _ (Ea (Er _) _) ⟨rfl,ag,af.new _ _ _⟩) (by simp [ov,aD,upd])
    case fin10a=>
     rintro v lo hi W5 hb5-hf hap;show wpList _ _ _ [_,_] _ _;obtain ⟨-,-,-,e7,-,dW⟩:=hf 7 rfl;have e2:v 2=.slice (some ⟨og,0,none⟩) k k:=(hf 2 rfl).2.2.2;have kT:=ad (HO.o.ext (Et Zq.o hb5));have cr:=ad (HB.o.trans ((Et Zq.o hb5).mono HB.o.size));have nx:=cr.o.size;have h70:=(dW.cells 0).1;have L5:Hid (aP y):=ad (by rw [<- HY.o];exact H.o.rng _ (dz hlt));have nD:Hid ((l.take k).length=k):=ad (by rw [List.length_take];omega);have gZ:Hid (l.take k ++ [y]=l.take (k+1)):=ad (by rw [List.take_succ_eq_append_getElem hlt,<- HY.o,List.getD_eq_getElem?_getD,List.getElem?_eq_getElem hlt];rfl);have b6:=ad (show k+1<=l.length by omega);dsimp only;rw [e7,e2];clear e7 e2 hf hap dW hb5 hc9;generalize v 0=y0,v 1=y1,v 2=y2,v 3=y3,v 4=y4,v 5=y5,v 6=y6;refine pA az _ _ az w.heap.size (.slice (some ⟨og,0,none⟩) k k) (l.take k) y az kT.o (lo 7) 1 az h70 L5.o (by rw [nD.o];omega) aa ?_;intro g cap w7 hown7 hgrow7 hbel7;rw [nD.o,gZ.o] at hown7;rw [nD.o];have iq:=ad hown7;have gF:=ad (cr.o.trans hbel7);clear hown7 hgrow7 hbel7 h70;have aQ:k+1<=cap:=by obtain ⟨⟨a',c',e,h1,_⟩,_⟩:=iq.o.ints;injection e with _ _ e2;rw [List.length_take] at h1;omega
     go_wp2
     go_roundw
     .exact ⟨k+1,g,cap,b6.o,by go_num,rfl,iq,gF⟩
     simp [intOf];omega
   have I5:k<=oc:=by obtain ⟨⟨a',c',e,h1,_⟩,_⟩:=HO.o.ints;injection e with _ e1 e2;rw [List.length_take] at h1;omega
   go_upto_region 10 with fail
   refine iR (F:=λU=>Below wk.heap.size wk U) (Ea cm.o _) ?_;rintro W4 hw4;have hc9:=al.cell hw4 HC8.o;have Zq:=ad hw4;clear hw4;refine oK (w0:=W4) [0,1,2,3,4,5,6,7] [8,9] (λv=>⟨#[.slice (some ⟨b8,f8,none⟩) l.length c,undef,.slice none 0 0,.slice (some ⟨og,0,none⟩) k oc,.int .i64 ↑k,.int .i64 ↑k,.slice (some ⟨W3.heap.size,0,none⟩) 0 0,.slice (some ⟨w.heap.size,0,none⟩) 0 0,.int .i64 ↑k,.slice (some ⟨b8,f8,none⟩) l.length c,.int .i64 ↑l.length,.bool true,u12,u13,.slice (some ⟨og,0,none⟩) k oc,.slice (some ⟨b8,f8,none⟩) l.length c,.int .i64 ↑k,.pointer (some ⟨b8,f8+k,none⟩),.int .i64 y,.bool false,.int .i64 ↑k,.slice (some ⟨og,0,none⟩) k oc,.int .i64 ↑k,.bool false,.bool false,undef,undef,undef,undef,undef,undef,undef,undef,undef,.bool false,u35,u36,.slice (some ⟨W3.heap.size,0,none⟩) 0 0,.slice (some ⟨og,0,none⟩) k oc,.int .i64 ↑k,.slice (some ⟨og,k,none⟩) 0 (oc-k),.slice (some ⟨W3.heap.size,0,none⟩) 0 0,v 0,v 1,v 2,v 3,v 4,v 5,v 6,v 7,u50,u51,u52,u53,undef],[]⟩) [.slice (some ⟨og,0,none⟩) k oc,.int .i64 (k:Int),.slice (some ⟨og,0,none⟩) k oc,.slice (some ⟨b8,f8,none⟩) l.length c,.int .i64 (k:Int),.pointer (some ⟨b8,f8+k,none⟩),.int .i64 y,undef] [7] (λi v lo hi W=>match i with|7=>v 7=.slice (some ⟨lo 7,0,none⟩) 1 1/\lo 7<hi 7/\af W (lo 7) #[.int .i64 y] 3|_=>True) (λW=>W.cell? ⟨b8,f8+k,none⟩=some (.int .i64 y)) (λW hb=>al.cell hb hc9) ?stab10b ?loc10b ?steps10b ?fin10b (λj=>match j with|0=>u42|1=>u43|2=>u44|3=>u45|4=>u46|5=>u47|6=>u48|7=>u49|_=>undef)
   case stab10b=>
    refine ⟨?_,trivial⟩;intro v lo hi W W' h hb;exact ⟨h.1,h.2.1,h.2.2.below hb⟩
   case loc10b=>
    refine ⟨?_,trivial⟩;intro v v' lo lo' hi hi' W aC h;have q:=aC 7 (.inl rfl)
    (try dsimp only at h ⊢)
    simp only [q.1,q.2.1,q.2.2] at h;exact h
   case steps10b=>
    refine .c [] [] rfl ?_ (.c [] [] rfl ?_ (.c [0,1] [] rfl ?_ (.c [] [] rfl ?_ (.c [] [] rfl ?_ (.c [3,4] [] rfl ?_ (.c [5] [] rfl ?_ (.c [6] [] rfl ?_ (.n))))))));all_goals try exact pj
    rintro v lo hi W hb g0 _;refine .inl ⟨rfl,λK hK=>?_⟩;simp only [ov,aD,Nat.reduceBEq,cond_true,cond_false];go_wp2;exact aU (hK (.slice (some ⟨W.heap.size,0,none⟩) 1 1) _ (Ea (Er _) _) ⟨rfl,ag,af.new _ _ _⟩) (by simp [ov,aD,upd])
   case fin10b=>
    rintro v lo hi W5 hb5-hf hap;show wpList _ _ _ [_,_] _ _;obtain ⟨-,-,-,e7,-,dW⟩:=hf 7 rfl;have e2:v 2=.slice (some ⟨og,0,none⟩) k oc:=(hf 2 rfl).2.2.2;have kT:=ad (HO.o.ext (Et Zq.o hb5));have cr:=ad (HB.o.trans ((Et Zq.o hb5).mono HB.o.size));have nx:=cr.o.size;have h70:=(dW.cells 0).1;have L5:Hid (aP y):=ad (by rw [<- HY.o];exact H.o.rng _ (dz hlt));have nD:Hid ((l.take k).length=k):=ad (by rw [List.length_take];omega);have gZ:Hid (l.take k ++ [y]=l.take (k+1)):=ad (by rw [List.take_succ_eq_append_getElem hlt,<- HY.o,List.getD_eq_getElem?_getD,List.getElem?_eq_getElem hlt];rfl);have b6:=ad (show k+1<=l.length by omega);dsimp only;rw [e7,e2];clear e7 e2 hf hap dW hb5 hc9;generalize v 0=y0,v 1=y1,v 2=y2,v 3=y3,v 4=y4,v 5=y5,v 6=y6;refine pA az _ _ az w.heap.size (.slice (some ⟨og,0,none⟩) k oc) (l.take k) y az kT.o (lo 7) 1 az h70 L5.o (by rw [nD.o];omega) aa ?_;intro g cap w7 hown7 hgrow7 hbel7;rw [nD.o,gZ.o] at hown7;rw [nD.o];have iq:=ad hown7;have gF:=ad (cr.o.trans hbel7);clear hown7 hgrow7 hbel7 h70;have aQ:k+1<=cap:=by obtain ⟨⟨a',c',e,h1,_⟩,_⟩:=iq.o.ints;injection e with _ _ e2;rw [List.length_take] at h1;omega
    go_wp2
    go_roundw
    .exact ⟨k+1,g,cap,b6.o,by go_num,rfl,iq,gF⟩
    simp [intOf];omega
 obtain rfl:k=l.length:=aa;go_wp2;go_ret;exact ⟨_,_,rfl,by have:=HO.o;rwa [List.take_length] at this,HB.o⟩
theorem a2l_ {L:IL} {b c:Int} (hL:oP L) (h1:a<=b) (h2:b<=c) (k:Int):decide (k∈oQ L a c)=(decide (k∈oQ L a b) || decide (k∈oQ L b c)):=by
 have h:=a25_ (λx hx=>(hL x hx).2.ms) h1 h2 k;rw [Bool.eq_iff_iff];simpa using h
def a2e_ (n:Nat) (u:World) (iv:Value) (wr:World):Prop:=∃ k:Nat,k<=n/\iv=.int .i64 k/\Hid (Below u.heap.size u wr)
theorem a1d_ (lv:Value) (A:List cB) (t a b:Int) (w:World) (h:wE w lv A) (h1:-2147483648<=t) (h2:t<=2147483647) (ha1:0<=a) (ha2:a<=65535) (hb1:0<=b) (hb2:b<=65535) :
  Calls Tryz.prog 9 #[lv,.int .i32 t,.agg #[.int .u16 a,.int .u16 b]] w λe w'=>e=.returned (.bool true)/\Below w.heap.size w w':=by
 have HS:=ad th_;have HA:=ad h;have HWN:=ad (λW=>a1x_ t a W h1 h2 ha1 ha2);clear h h1 h2
 go_in
 go_upto_region 1 with fail
 refine iR (F:=λU=>af U w.heap.size #[.int .u16 a,.int .u16 b] 75/\Below w.heap.size w U) ⟨af.new w _ _,Ea (Er w) _⟩ ?_;rintro u ⟨hb,hu⟩;have HB:=ad hb;have HU:=ad hu;have hul:=hb.lt;clear hb hu;go_upto_region 3 with (first|(go_at_call 12;((with_reducible refine (HS.o u).mono ?_);rintro e w1 ⟨rfl,hb1⟩;have bo:=ad hb1;have hz1:=hb1.size;clear hb1))|(go_at_call 13;((with_reducible refine (wn_ lv A w1 ((HA.o.below HU.o).below bo.o)).mono ?_);rintro e w2 ⟨L,rfl,iW,hb2⟩;have gH:=ad iW;have bj:=ad hb2;clear iW hb2)))
 have HB02:Hid (Below w.heap.size w w2):=ad (HU.o.trans ((bo.o.trans (bj.o.mono bo.o.size)).mono HU.o.size));have hbr:=(HB.o.below bo.o).upto bj.o aa;obtain ⟨rv,M,hM,hR⟩:=gH.o.ref;obtain ⟨ra,rc,rfl⟩:=hR.form;have iQ:=ad gH.o.x;have kB:=ad hR;have kz:=ad gH.o.made;have x0:=(hbr.cells 0).1;have HBR:=ad hbr;clear hR gH hbr;go_upto_region 4 with (go_at_call 32;((with_reducible refine (HWN.o w2).mono ?_);rintro e w3 ⟨fa,fl,hfa,hfl,rfl,hb3⟩;have cm:=ad hb3;clear hb3))
 obtain ⟨fb,hfb⟩:∃ fb,fa+fl=fb:=⟨_,rfl⟩;rw [hfb];refine iR (F:=λU=>af U w3.heap.size #[.int .i64 fa,.int .i64 fb] 29/\Below w3.heap.size w3 U) ⟨af.new w3 _ _,Ea (Er w3) _⟩ ?_;rintro w4 ⟨TL,hb4⟩;have Sd:=ad TL;have HB24:=ad (Et cm.o hb4);have y0:=(TL.cells 0).1;have y1:=(TL.cells 1).1;have x1:=((HBR.o.below HB24.o).cells 1).1;have hab:fa<=fb/\fb<=fa+21599:=aa;clear hfb hfl x0 TL hb4;go_upto_region 5 with fail
 obtain ⟨fc,hfc⟩:∃ fc,fb+b % 21600=fc:=⟨_,rfl⟩;rw [hfc];have hbc:fb<=fc/\fc<=fb+21599:=aa;clear hfc x1 y0 y1;refine iR (F:=λU=>af U w4.heap.size #[.int .i64 fb,.int .i64 fc] 29/\Below w4.heap.size w4 U) ⟨af.new w4 _ _,Ea (Er w4) _⟩ ?_;rintro w5 ⟨hq5,hb5⟩;have Dw:=ad (Sd.o.below hb5);have Zc:=ad hq5;have HB25:=ad (Et HB24.o hb5);have Zu:=ad (iQ.o.ext HB25.o);have dL:Hid (aP fa/\aP fb/\aP fc):=ad (by unfold aP;omega);have y0:=(Dw.o.cells 0).1;have y1:=(Dw.o.cells 1).1;have z0:=(hq5.cells 0).1;have z1:=(hq5.cells 1).1;clear hq5 hb5;go_upto_region 6 with (go_at_call 14;((with_reducible refine (a1b_ fa fb Zu.o dL.o.1 dL.o.2.1).mono ?_);rintro e w6 ⟨l6,k6,o6,c6,hf,rfl,ho,hb⟩;obtain ⟨rfl,rfl⟩:=hf.ok aa aa aa aa;have Dq:=ad ho.ints;have bO:=ad hb;replace y0:=al.cell hb y0;replace z0:=al.cell hb z0;replace z1:=al.cell hb z1;clear hf ho hb y1))
 go_upto_region 7 with (go_at_call 14;((with_reducible refine (a1b_ fb fc (Zu.o.ext bO.o) dL.o.2.1 dL.o.2.2).mono ?_);rintro e w7 ⟨l7,k7,o7,c7,hf,rfl,ho,hb⟩;obtain ⟨rfl,rfl⟩:=hf.ok aa aa aa aa;have iq:=ad ho.ints;have Hk:=ad hb;have gF:=ad (Et bO.o hb);replace y0:=al.cell hb y0;replace z1:=al.cell hb z1;clear hf ho hb z0))
 go_upto_region 8 with (go_at_call 14;((with_reducible refine (a1b_ fa fc (Zu.o.ext gF.o) dL.o.1 dL.o.2.2).mono ?_);rintro e w8 ⟨l8,k8,o8,c8,hf,rfl,ho,hb⟩;obtain ⟨rfl,rfl⟩:=hf.ok aa aa aa aa;have Bb:=ad ho.ints;have Bn:=ad hb;have gG:=ad (Et gF.o hb);clear hf ho hb y0 z1))
 have HB28:=ad (Et HB25.o gG.o);have yz:=ad (kB.o.ext HB28.o);have HP:=ad (Dq.o.ext (Et Hk.o Bn.o));have HQ:=ad (iq.o.ext Bn.o);have HAS:=ad (a23_ iQ.o.asc fa fc);have fD:Hid ((oQ L fa fc).length<=1000):=ad (by have h3:=a24_ L fa fc;have h4:=kB.o.len;omega);have HJ:=ad (λk=>a2l_ kz.o hab.1 hbc.1 k);have HBW8:=ad (HB02.o.trans (HB28.o.mono HB02.o.size));obtain ⟨lp,hlp⟩:∃ l,oQ L fa fb=l:=⟨_,rfl⟩;obtain ⟨lq,hlq⟩:∃ l,oQ L fb fc=l:=⟨_,rfl⟩;obtain ⟨lr,hlr⟩:∃ l,oQ L fa fc=l:=⟨_,rfl⟩;rw [hlp] at HP HJ ⊢;rw [hlq] at HQ HJ ⊢;rw [hlr] at Bb HJ HAS fD ⊢;clear hlp hlq hlr hab hbc hfa ha1 ha2 hb1 hb2;have H0:Hid (a2e_ M.length w8 (.int .i64 0) w8):=ad ⟨0,aa,rfl,ad (Below.refl _ _)⟩;go_wp2;go_loopw [19] (λiv wr=>a2e_ M.length w8 iv wr) (λiv _=>M.length-(intOf iv).toNat)
 .exact H0.o
 obtain ⟨k,hk,rfl,HB⟩:=hrel;obtain ⟨wk,r_⟩:∃ x,x=wr:=⟨_,rfl⟩;subst r_;have q0:=((yz.o.ext HB.o).box.cells 0).1;by_cases hlt:k<M.length
 .have dh:(k:Int)<M.length:=aa;obtain ⟨rb,ro,m,Pj,hbl,hm,hl,hit,e0,-,-,-⟩:=(yz.o.ext HB.o).get hlt;subst Pj;have hw:=HJ.o m.id;obtain ⟨bp,hbp⟩:∃ bp,decide (m.id∈lp)=bp:=⟨_,rfl⟩;obtain ⟨bq,hbq⟩:∃ bq,decide (m.id∈lq)=bq:=⟨_,rfl⟩;have HHP:=ad (a19_ _ lp m.id wk (HP.o.ext HB.o));have HHQ:=ad (a19_ _ lq m.id wk (HQ.o.ext HB.o));have HHR:=ad (a19_ _ lr m.id wk (Bb.o.ext HB.o));rw [hbp,hbq] at hw;rw [hbp] at HHP;rw [hbq] at HHQ;rw [hw] at HHR;clear hw hbp hbq hm hl hit;cases bp <;> cases bq <;> simp only [Bool.or_false,Bool.or_true,Bool.false_or,Bool.true_or] at HHR
  all_goals
   go_wp2_with (first|(go_at_call 29;(with_reducible refine HHR.o.mono ?_);rintro e W4 ⟨rfl,e4⟩;obtain rfl:wk=W4:=e4.symm)|(go_at_call 29;(with_reducible refine HHP.o.mono ?_);rintro e W4 ⟨rfl,e4⟩;obtain rfl:wk=W4:=e4.symm)|(go_at_call 29;(with_reducible refine HHQ.o.mono ?_);rintro e W4 ⟨rfl,e4⟩;obtain rfl:wk=W4:=e4.symm))
   go_roundw
   .exact ⟨k+1,aa,by go_num,HB⟩
   simp [intOf];omega
 obtain rfl:k=M.length:=aa;go_wp2_with (first|(go_at_call 33;(with_reducible refine (a1u_ _ lr wk (Bb.o.ext HB.o) HAS.o fD.o).mono ?_);rintro e w9 ⟨ua,uc,rfl,ho,hb⟩;have kU:=ad ho.ints;have jc:=ad hb;clear ho hb)|(go_at_call 21;(with_reducible refine (a1g_ _ _ lr w9 kU.o (Bb.o.ext (Et HB.o jc.o))).mono ?_);rintro e z1 ⟨rfl,hb⟩;have nI:=ad (Et HB.o (Et jc.o hb));clear hb));go_ret;exact ⟨rfl,HBW8.o.trans (nI.o.mono HBW8.o.size)⟩
end
section
open Go.ChangeShapes Go.WideShapes Go.ChangeAt Go.RowKit Go.Joins Kal
theorem IndexWindowsTogether_lifted (os:Os) (started:os.Started) (H:Type) (enc:TypeId × Value->H) :
  ReturnsInHanded {} Tryz.checked os 9 .any (Rows.indexWindowsTogetherSpec.pre6 enc Tryz.prog Tryz.f9 Rows.indexWindowsTogetherRow.domain false) (Rows.indexWindowsTogetherSpec.post enc Tryz.prog Tryz.f9 false true false false):=by
 refine returnsInHanded_of_change (C:=Tryz.checked) zi_ started (by kernel_rfl) Tryz.func9
  (ChangeSpec.witness6 (enc:=enc) (C:=Tryz.checked) false ⟨#[],#[.slice none 0 0,.int .i32 0,.agg #[.int .u16 0,.int .u16 0]],[]⟩ 8 (by kernel_rfl) (by kernel_rfl) (by kernel_rfl) (by kernel_rfl)) ?_
 intro W base args ds gs before xr hW hcnd _;have hval:∀ (j:Nat) t v,Tryz.f9.params[j]? = some t->args[j]? = some v->Value.okWide Tryz.prog W .any base t v:=xr;have Oa:=hW;obtain ⟨p,q,oS,hV,rfl,hfz,fR⟩:=hW;have hA:DataW.TrodAll enc Tryz.prog W 0 (λ_=>true) true Tryz.f9.params.toList args.toList ds p:=oS;rw [Tryz.params9] at hA hval;obtain ⟨v0,vs0,d0,ds0,p0,q0,Tg,rfl,rfl,h0,r0⟩:=trodAll_cons hA;obtain ⟨v1,vs1,d1,ds1,p1,q1,rfl,rfl,rfl,h1,r1⟩:=trodAll_cons r0;obtain ⟨v2,vs2,d2,ds2,p2,q2,rfl,rfl,rfl,h2,r2⟩:=trodAll_cons r1;obtain ⟨rfl,rfl,rfl⟩:=trodAll_nil r2;obtain rfl:args=#[v0,v1,v2]:=by cases args;simp_all
 obtain ⟨rfl,rfl⟩:=trodVars_none hV;have k0:=h0;have lt0:∀ x∈p0,x.block<W.heap.size:=by obtain ⟨m,hm⟩:=k0;exact DataW.trod_lt m _ _ _ hm
 obtain ⟨L0,w0⟩:=ve_ (hval 0 22 v0 rfl rfl) h0;obtain ⟨m1,rfl,rfl,rfl,w1⟩:=open_int Tryz.underlying21 (hval 1 21 v1 rfl rfl) h1;have b1:=bounds_i32 w1;have k2:=h2;have lt2:∀ x∈p2,x.block<W.heap.size:=by obtain ⟨m,hm⟩:=k2;exact DataW.trod_lt m _ _ _ hm
 obtain ⟨ns2,hl2,eB,hw2⟩:=a1t_ Tryz.underlying75 Tryz.underlying74 (by kernel_rfl) (by kernel_rfl) (hval 2 75 v2 rfl rfl) h2;obtain ⟨a2,b2,rfl⟩:=a2f_ hl2;obtain rfl:v2=.agg #[.int .u16 a2,.int .u16 b2]:=eB;have ba2:=bounds_u16 (hw2 a2 ag);have bb2:=bounds_u16 (hw2 b2 ag);clear oS xr;refine (a1d_ v0 L0 m1 a2 b2 W w0 b1.1 b1.2 ba2.1 ba2.2 bb2.1 bb2.2).mono λe W' ⟨he,bel⟩=>?_;subst he;exact ⟨_,rfl,_,_,_,[],_,[],Oa,trodAll_mk1 (shut_bool Tryz.underlying4 _),(trodAll_cons_mk (Below.trod xk_ (by kernel_rfl) (of_decide_eq_true (by kernel_rfl)) k0 bel lt0) (trodAll_cons_mk (shut_int Tryz.underlying21 w1) (trodAll_cons_mk (Below.trod xk_ (by kernel_rfl) (of_decide_eq_true (by kernel_rfl)) k2 bel lt2) trodAll_mk0))),rfl,bel.frame _,λh=>by cases h⟩
theorem IndexWindowsTogether_said:Rows.IndexWindowsTogetherSaid:=
 OpenClaim.holds_of_wide 9 Tryz.f9 rfl rfl rfl rfl rfl rfl rfl ⟨rfl,rfl,rfl,rfl,rfl⟩ rfl rfl rfl rfl rfl (by kernel_rfl) Tryz.func9 (by kernel_rfl)
  (of_decide_eq_true (by kernel_rfl)) (by unfold Func.isWrapper;first|(rw [if_pos (by decide +kernel)];kernel_rfl)|(rw [if_neg (by decide +kernel)];exact ⟨rfl,rfl⟩))
  (λos started H enc _=>IndexWindowsTogether_lifted os started H enc)
#print axioms IndexWindowsTogether_said
end
end Go.Proofs.YtbmgmlbmgogeaaaGreat
end
