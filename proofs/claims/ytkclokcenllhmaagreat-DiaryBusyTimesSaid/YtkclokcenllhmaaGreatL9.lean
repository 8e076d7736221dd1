/- The statement DiaryBusyTimesSaid: for every input the law returns true, and its arguments read as before. -/
import Derived.Test.YtkclokcenllhmaaGreatL8
import Derived.Test.YtkclokcenllhmaaGreatL5
import Derived.Test.YtkclokcenllhmaaGreatL7
import Derived.Test.YtkclokcenllhmaaGreatL1
import Derived.Test.YtkclokcenllhmaaGreatL3
set_option linter.unusedVariables false
set_option linter.unusedSimpArgs false
set_option maxRecDepth 100000
set_option maxHeartbeats 4000000
section
variable {r:Bool}{a b:Int}{k:Nat}
namespace Go.Proofs.YtkclokcenllhmaaGreat
open Go.RowKit Go.Maps Kal
open Classical in
noncomputable def bt_ (d:List Ent) (t:Int):Bool:=decide (bq_ d t)
open Classical in
theorem es_ {d:List Ent} {t:Int}:bt_ d t=true↔bq_ d t:=by unfold bt_;simp
theorem k2_ {t:Int}:bt_ [] t=false:=by
 cases h:bt_ [] t with
 | false=>rfl
 | true=>obtain ⟨e,he,_⟩:=es_.1 h;simp at he
theorem ix_ {d:List Ent} {e:Ent} {t:Int} (h:r=true↔HasS e.s t):bt_ (d ++ [e]) t=(bt_ d t || r):=by
 rw [Bool.eq_iff_iff,Bool.or_eq_true,es_,es_,h];constructor
 ·rintro ⟨x,hx,hy⟩;rcases List.mem_append.1 hx with hx|hx
  ·exact .inl ⟨x,hx,hy⟩
  ·obtain rfl:=List.mem_singleton.1 hx;exact .inr hy
 ·rintro (⟨x,hx,hy⟩|hy)
  ·exact ⟨x,List.mem_append_left _ hx,hy⟩
  ·exact ⟨e,List.mem_append_right _ sq_,hy⟩
theorem s3_ {d:List Ent} {e:Ent}:selD true (d ++ [e])=selD true d ++ if e.firm then [e] else []:=by
 unfold selD;rw [List.filter_append];cases h:e.firm <;> simp [h]
theorem op_ {d:List Ent} {e:Ent} {t:Int} (h:r=true↔HasS e.s t):bt_ (selD true (d ++ [e])) t=(bt_ (selD true d) t || (r && e.firm)):=by
 rw [s3_];cases hf:e.firm with
 | false=>simp
 | true=>simp only [if_true,Bool.and_true];exact ix_ h
theorem le_ {d:List Ent} {t:Int} {N:List Spn} (h:BusyTo d a b N):N.any (inSp t)=(decide (a≤t∧t<b) && bt_ d t):=by
 rw [Bool.eq_iff_iff,st_,h.2 t,Bool.and_eq_true,decide_eq_true_eq,es_];exact ⟨fun ⟨h1,h2,h3⟩=>⟨⟨h1,h2⟩,h3⟩,fun ⟨⟨h1,h2⟩,h3⟩=>⟨h1,h2,h3⟩⟩
theorem ui_ {L:List EntV} {x:EntV} (hk:k<L.length) (hx:L.getD k default=x):(L.take (k+1)).map EntV.ent=(L.take k).map EntV.ent ++ [x.ent]:=by
 rw [List.take_succ_eq_append_getElem hk,<- a5_ (d:=default) hk,hx,List.map_append];rfl
theorem gb_ (lv:Value) (A:List RwV) (t n:Int) (w:World) (h:RwsR w lv A) (h1:-2147483648≤t) (h2:t≤2147483647) (h3:0≤n) (h4:n≤65535) :
  Calls Tryz.prog 12 #[lv,.int .i32 t,.int .u16 n] w fun e w'=>e=.returned (.bool true)∧Below w.heap.size w w':=by
 have HS:=hq_ (ez_ w);have HMD:=hq_ (fun W (hb:Below w.heap.size w W)=>fs_ lv A W (h.below hb));have HW:=hq_ (fun W=>hv_ t n W h1 h2 h3 h4);clear h
 go_enter Tryz.func12,Tryz.ntmps12
 go_upto_region 4 with (first|(go_at_call 13;(with_reducible refine HS.out.mono ?_);rintro e w1 ⟨rfl,hb⟩;have HB1:=hq_ hb;clear hb)|(go_at_call 14;(with_reducible refine (HMD.out w1 HB1.out).mono ?_);rintro e w2 ⟨v0,L,rfl,hM,hD,hb⟩;obtain ⟨a0,c0,rfl⟩:=hD.form;have HM:=hq_ hM;have HD:=hq_ hD;have HB2:=hq_ (Et HB1.out hb);clear hM hD hb)|(go_at_call 15;(with_reducible refine (HW.out w2).mono ?_);rintro e w3 ⟨a,l,ha,hl,rfl,hb⟩;obtain ⟨b,hab⟩:∃ b,b=a+l:=⟨_,rfl⟩;rw [<- hab];have HAB:=hq_ (And.intro ha (And.intro hl hab));have HB3:=hq_ hb;clear ha hl hab hb))
 refine bf_ (F:=fun U=>(Bxx U w3.heap.size #[.int .i64 a,.int .i64 b] 28∧DiaL U (fun k=>w1.heap.size≤k) (.slice a0 L.length c0) L)∧Below w.heap.size w U) ⟨⟨Bxx.new w3 _ _,HD.out.ext (Ea HB3.out _)⟩,Et HB2.out (Ea HB3.out _)⟩ ?_;rintro w4 ⟨⟨hbx,hd4⟩,hb4⟩;have HWB:Hid (WinB a b):=hq_ (by obtain ⟨⟨g1,g2⟩,⟨g3,g4⟩,g5⟩:=HAB.out;exact ⟨oq_,oq_,oq_,oq_⟩);have hsm:=HM.out.sm;have HBU:=hq_ (fun (o:Bool) W (hb:Below w4.heap.size w4 W)=>fk_ _ (.slice a0 L.length c0) L o a b W (hd4.ext hb) hsm HWB.out);have HD4:=hq_ hd4;have HB4:=hq_ hb4;have HBX:=hq_ hbx;have x0:=(hbx.cells 0).1;have x1:=(hbx.cells 1).1;have HLL:Hid (L.length≤4):=hq_ (by have:=HM.out.len;rwa [List.length_map] at this);clear hbx hd4 hb4 hsm HMD HW HS;go_wp2_with (first|(go_at_call 16;(with_reducible refine (HBU.out false w4 (Er _)).mono ?_);rintro e w5 ⟨v5,N5,rfl,hN5,hl5,hs5,hb⟩;obtain ⟨p5,q5,rfl⟩:=hs5.form;have HN5:=hq_ hN5;have HS5:=hq_ hs5;have HB5:=hq_ hb;have x0:=Ext.cell hb x0;have x1:=Ext.cell hb x1;clear hN5 hl5 hs5 hb)|(go_at_call 16;(with_reducible refine (HBU.out true w5 HB5.out).mono ?_);rintro e w6 ⟨v6,N6,rfl,hN6,hl6,hs6,hb⟩;obtain ⟨p6,q6,rfl⟩:=hs6.form;have HN6:=hq_ hN6;have HS6:=hq_ hs6;have HW6:=hq_ hb;have HB6:=hq_ (Et HB5.out hb);have x0:=Ext.cell hb x0;have x1:=Ext.cell hb x1;clear hN6 hl6 hs6 hb)|(go_at_call 45;(with_reducible refine (jj_ _ _ N5 w6 (HS5.out.ext HW6.out)).mono ?_);rintro e w7 ⟨rfl,hb⟩;rw [ju_ HN5.out.1,Go.Proofs.YtkclokcenllhmaaGreat.BusyTo.near HN5.out HWB.out];have HW7:=hq_ hb;clear hb)|(go_at_call 45;(with_reducible refine (jj_ _ _ N6 w7 (HS6.out.ext HW7.out)).mono ?_);rintro e w8 ⟨rfl,hb⟩;rw [ju_ HN6.out.1,Go.Proofs.YtkclokcenllhmaaGreat.BusyTo.near HN6.out HWB.out];have HW8:=hq_ (Et HW7.out hb);clear hb))
 have H48:Hid (Below w4.heap.size w4 w8):=hq_ (Et HB6.out HW8.out);obtain ⟨d,hd0⟩:∃ d,d=L.map EntV.ent:=⟨_,rfl⟩;have hHN:=And.intro HN5.out HN6.out;rw [<- hd0,jh_] at hHN;have HNN:=hq_ hHN;have HD0:=hq_ hd0;clear hd0 hHN x0 x1;go_loopw [14,15,16,17,18,19,20] (fun kv _ _ _ _ _ _ wr=>∃ k:Nat,k≤12∧kv=.int .i64 k∧Hid (Below w8.heap.size w8 wr)) (fun kv _ _ _ _ _ _ _=>12-(intOf kv).toNat)
 case atStart=>exact ⟨0,oq_,rfl,hq_ (Er _)⟩
 case round=>
  obtain ⟨k,hk,rfl,HB⟩:=hrel;by_cases hlt:k<12
  ·have hlI:(k:Int)<12:=oq_;have HLT:=hq_ (show k+1≤12 by omega);have hbx:=HBX.out.below (Et H48.out HB.out);have x0:=(hbx.cells 0).1;have x1:=(hbx.cells 1).1;obtain ⟨p,hp⟩:∃ p,(k:Int)*n=p:=⟨_,rfl⟩;have hp1:0≤p∧p≤11*65535:=by
    rw [<- hp];exact ⟨Int.mul_nonneg oq_ h3,Int.mul_le_mul oq_ h4 h3 oq_⟩
   have hwp:IntKind.i64.wrap ((k:Int)*n)=p:=by rw [hp];exact v6_ ⟨oq_,oq_⟩
   obtain ⟨q,hq⟩:∃ q,Int.tdiv p 11=q:=⟨_,rfl⟩;have hq1:0≤q∧q≤65535:=by rw [<- hq,Int.tdiv_eq_ediv_of_nonneg hp1.1];omega
   have HQ:=hq_ hq1;have ga:=HAB.out.1;obtain ⟨q1,q2⟩:=hq1;obtain ⟨ga1,ga2⟩:=ga;clear hp hlt hbx;go_wp2_with fail
   obtain ⟨T,hT⟩:∃ T,T=a+q:=⟨_,rfl⟩;rw [<- hT];have hTb:-202999≤T∧T≤300000:=oq_;have HTI:Hid (InI T):=hq_ ⟨oq_,oq_⟩;have HT:Hid (a≤T):=hq_ oq_;clear hwp hq q1 q2 ga1 ga2 hp1 x0 x1 hT;obtain ⟨wk,hwk⟩:∃ x,x=wr:=⟨_,rfl⟩;subst hwk;go_loopw [16,17,18,19] (fun av fv iv _ wr=>∃ i:Nat,i≤L.length∧av=.bool (bt_ (d.take i) T)∧fv=.bool (bt_ (selD true (d.take i)) T)∧iv=.int .i64 i∧Hid (Below w8.heap.size w8 wr)) (fun _ _ iv _ _=>L.length-(intOf iv).toNat)
   case atStart=>exact ⟨0,oq_,by simp [k2_],by simp [k2_,selD],rfl,HB⟩
   case round=>
    obtain ⟨i,hi,rfl,rfl,rfl,HBi⟩:=hrel;have hLb:L.length≤4:=HLL.out;by_cases hlt:i<L.length
    ·have hlI:(i:Int)<L.length:=oq_;have HLI:=hq_ (show i+1≤L.length by omega);have HBW:=hq_ (Et H48.out HBi.out);obtain ⟨b8,o8,x,y1,d1,y2,d2,rfl,hbb,hx,hxm,hxr,hcv,hev,e0,e1,e2,e3,e4,e5⟩:=(HD4.out.ext HBW.out).get hlt;have hh:=fun W (hb:Below wr.heap.size wr W)=>t6_ _ _ _ x.s T W (hxr.1.ext hb) (HM.out.ok x.ent (List.mem_map.2 ⟨x,hxm,rfl⟩)).sm.ms HTI.out;rw [hcv,hev] at hh;have HH:=hq_ hh;have htk:d.take (i+1)=d.take i ++ [x.ent]:=by rw [HD0.out,<- List.map_take,<- List.map_take];exact ui_ hlt hx
     obtain ⟨bA,hA⟩:∃ c,bt_ (d.take i) T=c:=⟨_,rfl⟩;obtain ⟨bF,hF⟩:∃ c,bt_ (selD true (d.take i)) T=c:=⟨_,rfl⟩;obtain ⟨fm,hfm⟩:∃ c,x.firm=c:=⟨_,rfl⟩;rw [hfm] at e1;rw [hA,hF];have HTK:Hid (∀ r:Bool,(r=true↔HasS x.s T)->bt_ (d.take (i+1)) T=(bA || r)∧bt_ (selD true (d.take (i+1))) T=(bF || (r && fm))):=hq_ fun r hr=>by
      rw [htk,ix_ (e:=x.ent) hr,op_ (e:=x.ent) hr,hA,hF,<- hfm];exact ⟨rfl,rfl⟩
     clear hx hxm hxr hcv hev hh htk hA hF hfm hlt;go_upto_region 18 with (go_at_call 32;(with_reducible refine (HH.out _ (Er _)).mono ?_);rintro e w9 ⟨r,rfl,hr,hb⟩;have e1:=Ext.cell hb e1;have HR:=hq_ (HTK.out r hr);have HB9:=hq_ (Et HBi.out hb);clear hr hb)
     cases r <;> cases bA <;> cases bF <;> cases fm
     all_goals
      go_wp2_with fail
      go_roundw
     all_goals first
      | exact ⟨i+1,HLI.out,by rw [HR.out.1];rfl,by rw [HR.out.2];rfl,by go_num,HB9⟩
      | (have:=HLI.out;simp [intOf];omega)
    ·obtain rfl:i=L.length:=oq_;have hlI:¬ (L.length:Int)<L.length:=oq_;have hall:d.take L.length=d:=List.take_of_length_le (by rw [HD0.out,List.length_map];exact Nat.le_refl _);rw [hall];have hbx:=HBX.out.below (Et H48.out HBi.out);have x0:=(hbx.cells 0).1;have x1:=(hbx.cells 1).1;have h5:=fun W (hb:Below wr.heap.size wr W)=>me_ _ _ N5 T W ((HS5.out.ext HW6.out).ext (Et HW8.out (Et HBi.out hb)));have h6:=fun W (hb:Below wr.heap.size wr W)=>me_ _ _ N6 T W (HS6.out.ext (Et HW8.out (Et HBi.out hb)));simp only [le_ HNN.out.1,le_ HNN.out.2] at h5 h6;have hTa:=HT.out;obtain ⟨iB,hiB⟩:∃ c,decide (a≤T∧T<b)=c:=⟨_,rfl⟩;obtain ⟨bA,hA⟩:∃ c,bt_ d T=c:=⟨_,rfl⟩;obtain ⟨bF,hF⟩:∃ c,bt_ (selD true d) T=c:=⟨_,rfl⟩;rw [hiB,hA] at h5;rw [hiB,hF] at h6;rw [hA,hF];have H5:=hq_ h5;have H6:=hq_ h6;clear hall hbx h5 h6 hA hF;by_cases hTB:T<b
     ·obtain rfl:iB=true:=by rw [<- hiB];simp [hTa,hTB]
      clear hiB;cases bA <;> cases bF
      all_goals
       go_wp2_with (first|(go_at_call 46;(with_reducible refine (H5.out _ (Er _)).mono ?_);rintro e w9 ⟨rfl,hb⟩;have HB9:=hq_ hb;clear hb)|(go_at_call 46;(with_reducible refine (H6.out _ HB9.out).mono ?_);rintro e w10 ⟨rfl,hb⟩;have HB10:=hq_ (Et HBi.out (Et HB9.out hb));clear hb))
       go_roundw
      all_goals first
       | exact ⟨k+1,HLT.out,by go_num,HB10⟩
       | (have:=HLT.out;simp [intOf];omega)
     ·obtain rfl:iB=false:=by rw [<- hiB];simp [hTB]
      clear hiB;cases bA <;> cases bF
      all_goals
       go_wp2_with (first|(go_at_call 46;(with_reducible refine (H5.out _ (Er _)).mono ?_);rintro e w9 ⟨rfl,hb⟩;have HB9:=hq_ hb;clear hb)|(go_at_call 46;(with_reducible refine (H6.out _ HB9.out).mono ?_);rintro e w10 ⟨rfl,hb⟩;have HB10:=hq_ (Et HBi.out (Et HB9.out hb));clear hb))
       go_roundw
      all_goals first
       | exact ⟨k+1,HLT.out,by go_num,HB10⟩
       | (have:=HLT.out;simp [intOf];omega)
  ·obtain rfl:k=12:=oq_;go_wp2_with fail
   go_ret;exact ⟨rfl,Et HB4.out (Et H48.out HB.out)⟩
end Go.Proofs.YtkclokcenllhmaaGreat
namespace Go.Proofs.YtkclokcenllhmaaGreat
open Go.ChangeShapes Go.WideShapes Go.ChangeAt Go.RowKit Go.Joins Kal
theorem DiaryBusyTimes_lifted (os:Os) (started:os.Started) (H:Type) (enc:TypeId × Value->H) :
  ReturnsInHanded {} Tryz.checked os 12 .any (Rows.diaryBusyTimesSpec.pre6 enc Tryz.prog Tryz.f12 Rows.diaryBusyTimesRow.domain false) (Rows.diaryBusyTimesSpec.post enc Tryz.prog Tryz.f12 false true false false):=by
 refine returnsInHanded_of_change (C:=Tryz.checked) js_ started (by kernel_rfl) Tryz.func12
  (ChangeSpec.witness6 (enc:=enc) (C:=Tryz.checked) false ⟨#[],#[.slice none 0 0,.int .i32 0,.int .u16 0],[]⟩ 8 (by kernel_rfl) (by kernel_rfl) (by kernel_rfl) (by kernel_rfl)) ?_
 intro W base args ds gs before hval0 hW hcnd _;have hval:∀ (j:Nat) t v,Tryz.f12.params[j]? = some t->args[j]? = some v->Value.okWide Tryz.prog W .any base t v:=hval0;have hW':=hW;obtain ⟨p,q,hA0,hV,rfl,hfz,hnd⟩:=hW;have hA:DataW.TrodAll enc Tryz.prog W 0 (fun _=>true) true Tryz.f12.params.toList args.toList ds p:=hA0;rw [Tryz.params12] at hA hval;obtain ⟨v0,vs0,d0,ds0,p0,q0,hargs,rfl,rfl,h0,r0⟩:=trodAll_cons hA;obtain ⟨v1,vs1,d1,ds1,p1,q1,rfl,rfl,rfl,h1,r1⟩:=trodAll_cons r0;obtain ⟨v2,vs2,d2,ds2,p2,q2,rfl,rfl,rfl,h2,r2⟩:=trodAll_cons r1;obtain ⟨rfl,rfl,rfl⟩:=trodAll_nil r2;obtain rfl:args=#[v0,v1,v2]:=by cases args;simp_all
 obtain ⟨rfl,rfl⟩:=trodVars_none hV;have k0:=h0;have lt0:∀ x∈p0,x.block<W.heap.size:=by obtain ⟨m,hm⟩:=k0;exact DataW.trod_lt m _ _ _ hm
 obtain ⟨L0,w0⟩:=ex_ (hval 0 22 v0 rfl rfl) h0;obtain ⟨m1,rfl,rfl,rfl,w1⟩:=open_int Tryz.underlying21 (hval 1 21 v1 rfl rfl) h1;have b1:=bounds_i32 w1;obtain ⟨m2,rfl,rfl,rfl,w2⟩:=open_int Tryz.underlying30 (hval 2 30 v2 rfl rfl) h2;have b2:=bounds_u16 w2;clear hA0 hval0;refine (gb_ v0 L0 m1 m2 W w0 b1.1 b1.2 b2.1 b2.2).mono fun e W' ⟨he,bel⟩=>?_;subst he;exact ⟨_,rfl,_,_,_,[],_,[],hW',trodAll_mk1 (shut_bool Tryz.underlying4 _),(trodAll_cons_mk (Below.trod eg_ (by kernel_rfl) (of_decide_eq_true (by kernel_rfl)) k0 bel lt0) (trodAll_cons_mk (shut_int Tryz.underlying21 w1) (trodAll_cons_mk (shut_int Tryz.underlying30 w2) trodAll_mk0))),rfl,bel.frame _,fun h=>by cases h⟩
theorem jn2 {a b:Bool} (h:a=true) (g:b=true):(a && b)=true:=by rw [h,g];rfl
theorem DiaryBusyTimes_said:Rows.DiaryBusyTimesSaid:=
 OpenClaim.holds_of_wide 12 Tryz.f12 rfl rfl rfl rfl rfl rfl rfl ⟨rfl,rfl,rfl,rfl,rfl⟩ rfl rfl rfl rfl rfl (by as_aux_lemma=>kernel_rfl) Tryz.func12 (jn2 (jn2 (jn2 (jn2 (jn2 (jn2 (jn2 (jn2 (jn2 (jn2 (jn2 (jn2 (jn2 (jn2 (jn2 (jn2 (jn2 (jn2 (jn2 (jn2 (jn2 (jn2 (jn2 (jn2 (jn2 (jn2 (jn2 (jn2 (jn2 (jn2 (jn2 (by as_aux_lemma=>kernel_rfl) (by as_aux_lemma=>kernel_rfl)) (by as_aux_lemma=>kernel_rfl)) (by as_aux_lemma=>kernel_rfl)) (by as_aux_lemma=>kernel_rfl)) (by as_aux_lemma=>kernel_rfl)) (by as_aux_lemma=>kernel_rfl)) (by as_aux_lemma=>kernel_rfl)) (by as_aux_lemma=>kernel_rfl)) (by as_aux_lemma=>kernel_rfl)) (by as_aux_lemma=>kernel_rfl)) (by as_aux_lemma=>kernel_rfl)) (by as_aux_lemma=>kernel_rfl)) (by as_aux_lemma=>kernel_rfl)) (by as_aux_lemma=>kernel_rfl)) (by as_aux_lemma=>kernel_rfl)) (by as_aux_lemma=>kernel_rfl)) (by as_aux_lemma=>kernel_rfl)) (by as_aux_lemma=>kernel_rfl)) (by as_aux_lemma=>kernel_rfl)) (by as_aux_lemma=>kernel_rfl)) (by as_aux_lemma=>kernel_rfl)) (by as_aux_lemma=>kernel_rfl)) (by as_aux_lemma=>kernel_rfl)) (by as_aux_lemma=>kernel_rfl)) (by as_aux_lemma=>kernel_rfl)) (by as_aux_lemma=>kernel_rfl)) (by as_aux_lemma=>kernel_rfl)) (by as_aux_lemma=>kernel_rfl)) (by as_aux_lemma=>kernel_rfl)) (by as_aux_lemma=>kernel_rfl)) (by as_aux_lemma=>kernel_rfl))
  (of_decide_eq_true (by as_aux_lemma=>kernel_rfl)) (by unfold Func.isWrapper;first|(rw [if_pos (by decide +kernel)];kernel_rfl)|(rw [if_neg (by decide +kernel)];exact ⟨rfl,rfl⟩))
  (fun os started H enc _=>DiaryBusyTimes_lifted os started H enc)
#print axioms DiaryBusyTimes_said
end Go.Proofs.YtkclokcenllhmaaGreat
end
