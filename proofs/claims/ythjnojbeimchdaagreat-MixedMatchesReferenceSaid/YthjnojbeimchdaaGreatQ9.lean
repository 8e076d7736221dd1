/- Part 9 of the proof of MixedMatchesReference_said. -/
import Derived.Test.YthjnojbeimchdaaGreatQ8
import Derived.Test.YthjnojbeimchdaaGreatQ6
import Derived.Test.YthjnojbeimchdaaGreatQ4
import Derived.Laws.EntriesVeiled
set_option linter.unusedVariables false
set_option linter.unusedSimpArgs false
set_option maxRecDepth 100000
set_option maxHeartbeats 4000000
section
variable {b:Bool}{e:Go.Ending}{F d f n s:Int}{m m1 m2:List (List Kal.Per)}{t u:List Kal.Per}{B hi i j k:Nat}{row:Option Nat}{p q:Kal.Per}{h lv v:Go.Value}{W W' W1 w w':Go.World}
namespace Go.Proofs.YthjnojbeimchdaaGreat
open Go.RowKit Go.Maps Kal
theorem so_ {l:List (List Per)} (hij:i<j) (hj:j<l.length) (h:az_ l i j) (hv:∀ t∈l,aw_ s t):∀ t∈ct_ l i j,aw_ s t:=fun t ht=>by
 rcases List.mem_or_eq_of_mem_set (List.mem_of_mem_eraseIdx ht) with h2|rfl
 ·exact hv t h2
 ·refine ⟨sq_,fun p hp=>?_,sq_⟩;obtain rfl:=List.mem_singleton.1 hp;exact ((hv _ (aa_ (show i<l.length by omega))).fv _ (aa_ (by rw [h.1];omega))).or ((hv _ (aa_ hj)).fv _ (aa_ (by rw [h.2.1];omega)))
theorem hn_ {l:List (List Per)} (hj:j<l.length):(ct_ l i j).length=l.length-1:=by
 unfold ct_;rw [List.length_eraseIdx_of_lt (by rw [List.length_set];exact hj),List.length_set]
theorem MixR.len_of {F:Nat->Prop} (h:MixR W F v m):lenV v=m.length:=by
 obtain ⟨a,c,rfl⟩:=h.form;rfl
theorem it_.form {F:Nat->Prop} {l:List (List Per)} (h:it_ F l v w e w'):Below w.heap.size w w'∧∃ (v':Value) (b:Bool),e=.returned (.tuple #[v',.bool b])∧((b=false∧v'=v∧cj_ (az_ l) l.length)∨(b=true∧∃ i j,cf_ (az_ l) l.length i j∧MixR w' (fun b=>F b∨w.heap.size≤b) v' (ct_ l i j))):=by
 obtain ⟨h1,⟨h2,rfl⟩|⟨i,j,v',h2,rfl,h3⟩⟩:=h
 ·exact ⟨h1,v,false,rfl,.inl ⟨rfl,rfl,h2⟩⟩
 ·exact ⟨h1,v',true,rfl,.inr ⟨rfl,i,j,h2,h3⟩⟩
structure RNO (n k:Nat) (w:World) (lv ov:Value) (M LO:List (Value × List Per)) (W:World):Prop where
 below:Below w.heap.size w W
 lmix:MixL W (fun b=>w.heap.size<b∧b<n) lv M
 orow:OwnT (fun b=>b≤w.heap.size∨b=n) n W ov LO
 obx:Bxx W n #[ov] 28
 rbx:Bxx W w.heap.size #[.slice none 0 0] 28
 eq:LO.map Prod.snd=ddL [] ((M.map Prod.snd).take k)
 len:LO.length≤k
theorem RNO.ext {n:Nat} {ov:Value} {M LO:List (Value × List Per)} (h:RNO n k w lv ov M LO W) (hb:Below W.heap.size W W'):RNO n k w lv ov M LO W':=
 ⟨Et h.below hb,h.lmix.keep (a5_.below hb) hb.size,h.orow.ext hb,h.obx.below hb,h.rbx.below hb,h.eq,h.len⟩
theorem uk_ {LO:List (Value × List Per)}:LO.any (fun x=>cm_ x.2 t)=true↔t∈LO.map Prod.snd:=by
 rw [List.any_eq_true,List.mem_map];constructor
 ·rintro ⟨x,hx,hs⟩;refine ⟨x,hx,?_⟩
  by_cases he:x.2=t
  ·exact he
  ·rw [cy_ he] at hs;cases hs
 ·rintro ⟨x,hx,he⟩;exact ⟨x,hx,eq_ he⟩
theorem dy_ (s:Int) (F:Nat->Prop) (v:Value) (T:List (List Per)) (w:World) (hm:MixR w F v T) (hT:∀ t∈T,aw_ s t) (hT1:∀ t∈T,t.length≤1000) (hTl:T.length≤100000) :
  Calls Tryz.prog 90 #[v] w (c8_ s T w):=by
 obtain ⟨L,rfl,hL⟩:=hm;obtain ⟨a,c,rfl,hlc,hc9,_⟩:=hL.row.is;have hll:L.length≤100000:=by rwa [List.length_map] at hTl
 have HL:=hq_ hL;have HT:=hq_ hT;have HT1:=hq_ hT1;have HLM:Hid ((L.map Prod.snd).length=L.length):=hq_ (List.length_map _);clear hL hT hT1 hTl;have HO0:Hid (OwnT (fun b=>b≤w.heap.size) w.heap.size ((w.alloc (.cells #[.slice none 0 0] 28)).alloc (.cells #[] 36)) (.slice (some ⟨w.heap.size+1,0,none⟩) 0 0) []):=hq_ (OwnT.of (B:=w.heap.size) (by
  have h:=World.ownsRow_lit (base:=w.heap.size) (e:=36) (size:=1) (w.alloc (.cells #[.slice none 0 0] 28)) #[] 0 sq_ (by unfold maxLen;omega) rfl;simpa using h) (Nat.le_refl _) sq_ (fun g hg=>by simp [Value.ownBlock] at hg;omega) sq_)
 have HR0:Hid (Bxx ((w.alloc (.cells #[.slice none 0 0] 28)).alloc (.cells #[] 36)) w.heap.size #[.slice none 0 0] 28):=hq_ ((Bxx.new w _ _).alloc _)
 go_enter Tryz.func90,Tryz.ntmps90
 go_wp2_with fail
 go_loopw [4,5,6] (fun lv i _ wr=>∃ (k:Nat) (M:List (Value × List Per)),k≤L.length∧i=.int .i64 k∧M.length≤k∧Hid (b0_ ((L.map Prod.snd).take k) (M.map Prod.snd))∧Hid (OwnT (fun b=>b≤w.heap.size) w.heap.size wr lv M)∧Hid (∀ x∈M,aw_ s x.2)∧Hid (Bxx wr w.heap.size #[.slice none 0 0] 28)∧Hid (Below w.heap.size w wr)) (fun _ i _ _=>L.length-(intOf i).toNat)
 case atStart=>exact ⟨0,[],oq_,rfl,sq_,hq_ b0_.nil,HO0,hq_ sq_,HR0,hq_ xE⟩
 case round=>
  obtain ⟨k,M,hk,rfl,hmk,HMA,HO,HVM,HRB,HBL⟩:=hrel;obtain ⟨oa,oc,rfl,-⟩:=HO.out.row.form;clear HO0 HR0
  by_cases hlt:k<L.length
  ·have hlI:(k:Int)<L.length:=oq_;have hb:=HBL.out;obtain ⟨b,o,c9,xa,xn,xc,xt,ha,q3,htx,hdx⟩:=(HL.out.keep (a5_.below hb) hb.size).at hlt;cases ha;obtain ⟨_,_,ha,_⟩:=htx.form;cases ha;have hxm:xt∈L.map Prod.snd:=List.mem_of_getElem? hdx;have hvt:=HT.out xt hxm;have HM:=hq_ (p2_ s F _ xt wr htx hvt.fv (HT1.out xt hxm));have HVT:=hq_ hvt;have HTK:Hid ((L.map Prod.snd).take (k+1)=(L.map Prod.snd).take k ++ [xt]):=hq_ (by rw [List.take_add_one,hdx];rfl);have hzr:=HRB.out.lt;clear hvt htx hxm hdx;go_wp2_with (first|(go_at_call 133;refine HM.out.mono ?_;rintro e w1 ⟨v',u,rfl,hmt,hfv,htr,hb1⟩;obtain ⟨va,vc,rfl,_⟩:=htr.form;have HMT:=hq_ hmt;have HFV:=hq_ hfv;have HTR1:=hq_ htr;have HB1:=hq_ hb1;have hz1:=hb1.size;clear hmt hfv htr hb1)|(go_at_call 80;refine (pb_ _ _ u _ HTR1.out (fun p hp=>(HFV.out p hp).validB)).mono ?_;rintro e w2 ⟨bb,rfl,hbar,hb2⟩;have HBAR:=hq_ hbar;have HB2:=hq_ (Et HB1.out hb2);have HTR2:=hq_ (HTR1.out.ext hb2);have hz2:=HB2.out.size;clear hbar hb2;cases bb)|(at_builtin;(refine er_ rq_ _ _ rq_ (fun b=>b≤w.heap.size) w.heap.size (.slice oa M.length oc) M (.slice va u.length vc,u) rq_ (HO.out.ext (Ea HB2.out _)) ((HTR2.out.ext (Ea (Er w2) _)).mono fun b (hb:wr.heap.size≤b)=>⟨fun (h:b≤w.heap.size)=>oq_,fun e=>by have:=(HO.out.row.row.lt b e).2;omega⟩) _ _ rq_ sq_ (fun h=>by simp at h;omega) oq_ tq_ ?_;intro ga gc w3 ho3 hg3 hb3;have HO3:=hq_ ho3;have HRB3:=hq_ (((HRB.out.below HB2.out).alloc (.cells #[.slice va u.length vc] 36)).grown hg3 (fun e=>HO.out.row.ne _ e.symm (Nat.le_refl _)));have HB3:=hq_ (HBL.out.trans (((Ea HB2.out (.cells #[.slice va u.length vc] 36)).mono oq_).trans hb3));clear ho3 hg3 hb3)))
   ·go_roundw
    case rel=>exact ⟨k+1,M ++ [(.slice va u.length vc,u)],oq_,by go_num,tq_,hq_ (by rw [HTK.out,List.map_append];exact HMA.out.keep1 HMT.out (by have:=HBAR.out;simpa using this)),HO3,hq_ (fun x hx=>by
     rcases List.mem_append.1 hx with hx|hx
     ·exact HVM.out x hx
     ·obtain rfl:=List.mem_singleton.1 hx;exact HVT.out.merged HMT.out HFV.out),HRB3,HB3⟩
    case measure=>simp [intOf];omega
   ·go_roundw
    case rel=>exact ⟨k+1,M,oq_,by go_num,oq_,hq_ (by rw [HTK.out];exact HMA.out.skip1 HMT.out (by have:=HBAR.out;simpa using this)),hq_ (HO.out.ext HB2.out),HVM,hq_ (HRB.out.below HB2.out),hq_ (Et HBL.out HB2.out)⟩
    case measure=>simp [intOf];omega
  ·have HMA2:Hid (b0_ (L.map Prod.snd) (M.map Prod.snd)):=hq_ (by have h:=HMA.out;rwa [List.take_of_length_le (by have:=HLM.out;omega)] at h);have HCUR:Hid (MixR wr (fun b=>w.heap.size<b) (.slice oa M.length oc) (M.map Prod.snd)):=hq_ ⟨M,rfl,HO.out.mix.mono fun b (hb:¬ _)=>oq_⟩;have HCV:Hid (∀ t∈M.map Prod.snd,aw_ s t):=hq_ fun t ht=>by
    obtain ⟨x,hx,rfl⟩:=List.mem_map.1 ht;exact HVM.out x hx
   have hcl:(M.map Prod.snd).length≤100000:=by rw [List.length_map];omega
   clear HMA HO HVM;go_wp2_with fail
   go_loopw [4,7] (fun ov mo wq=>∃ (bm:Bool) (cur:List (List Per)),mo=.bool bm∧Hid (MixR wq (fun b=>w.heap.size<b) ov cur)∧Hid (∀ t∈cur,aw_ s t)∧cur.length≤100000∧Hid (∀ m,ck_ cur m->ck_ (M.map Prod.snd) m)∧Hid (bm=true∨cj_ (az_ cur) cur.length)∧Hid (Bxx wq w.heap.size #[.slice none 0 0] 28)∧Hid (Below w.heap.size w wq)) (fun ov mo _=>lenV ov+(match mo with|.bool true=>1|_=>0))
   case atStart=>exact ⟨true,_,rfl,HCUR,HCV,hcl,hq_ (fun _ h=>h),hq_ (.inl rfl),HRB,HBL⟩
   case round=>
    obtain ⟨bm,cur,rfl,HC,HF,hcl2,HG,HN,HRB2,HB2⟩:=hrel;obtain ⟨Lc,hLc,hTc⟩:=HC.out;obtain ⟨ca,cc,rfl,_⟩:=hTc.row.is;have hcn:cur.length=Lc.length:=by rw [<- hLc,List.length_map]
    cases bm
    ·have HNT:=hq_ (HG.out _ (.done (HN.out.resolve_left sq_)));have HLC:=hq_ hLc;have HF0:=hq_ HF.out;have hzB:=HB2.out.size;have hzR:=HRB2.out.lt;have hlc:Lc.length≤100000:=oq_;have HTC:=hq_ hTc;have hb0:Below wr.heap.size wr (wr.alloc (.cells #[.slice none 0 0] 28)):=Ea (Er wr) _;have HST:Hid (RNO wr.heap.size 0 w (.slice ca Lc.length cc) (.slice none 0 0) Lc [] (wr.alloc (.cells #[.slice none 0 0] 28))):=hq_
      ⟨Et HB2.out hb0,hTc.lt.keep (a5_.below hb0) hb0.size,⟨RowT.nil _ _ _,by simp [Value.ownBlock]⟩,Bxx.new _ _ _,HRB2.out.below hb0,by simp [ddL],sq_⟩
     clear hb0 hLc hTc HC HG HN hcn hcl2 hcl HCUR HCV;go_wp2_with fail
     obtain ⟨n,hn⟩:∃ n,n=wr.heap.size:=⟨_,rfl⟩;rw [<- hn] at HST ⊢;have HNN:=hq_ hn;rw [<- hn] at hzB hzR;clear hn
     go_loopw [9,10,11] (fun i _ _ wq=>∃ (kk:Nat) (oa:Option Addr) (oc:Nat) (LO:List (Value × List Per)),kk≤Lc.length∧i=.int .i64 kk∧Hid (RNO n kk w (.slice ca Lc.length cc) (.slice oa LO.length oc) Lc LO wq)) (fun i _ _ _=>Lc.length-(intOf i).toNat)
     case atStart=>exact ⟨0,none,0,[],oq_,rfl,HST⟩
     case round=>
      obtain ⟨kk,oa,oc,LO,hk,rfl,HO⟩:=hrel;have hlo:=HO.out.len;have hob:=HO.out.obx.lt;have hzw:=HO.out.below.size
      by_cases hlt:kk<Lc.length
      ·have hlI:(kk:Int)<Lc.length:=oq_;have q2:=HO.out.obx.c0;obtain ⟨b,o,c9,ya,yn,yc,yt,ha,q4,hty,hdy⟩:=HO.out.lmix.at hlt;cases ha;obtain ⟨_,_,ha,_⟩:=hty.form;cases ha;have HDD:Hid (ddL [] ((Lc.map Prod.snd).take (kk+1))=dd1 (ddL [] ((Lc.map Prod.snd).take kk)) yt):=hq_ (by rw [List.take_add_one,hdy];exact oc_);have HTY:=hq_ hty;clear hty hdy HST;go_wp2_with fail
       go_loopw [10,11] (fun tw i wq=>∃ q:Nat,q≤LO.length∧i=.int .i64 q∧tw=.bool ((LO.take q).any fun x=>cm_ x.2 yt)∧Hid (Below wr.heap.size wr wq)) (fun _ i _=>LO.length-(intOf i).toNat)
       case atStart=>exact ⟨0,oq_,rfl,rfl,hq_ (Below.refl _ _)⟩
       case round=>
        obtain ⟨q,hq,rfl,rfl,HBI⟩:=hrel;have HOI:=hq_ (HO.out.ext HBI.out);have HTI:=hq_ (HTY.out.ext HBI.out);have r2:=HOI.out.obx.c0;have r4:=Ext.cell HBI.out q4
        by_cases hql:q<LO.length
        ·have hqI:(q:Int)<LO.length:=oq_;obtain ⟨_,_,ha,_,_,hfm⟩:=HOI.out.orow.row.form;cases ha;rcases hfm with h0|⟨g,rfl⟩
         ·omega
         obtain ⟨htx,r3,-⟩:=HOI.out.orow.row.get rfl hql;have HSN:Hid (((LO.take (q+1)).any fun x=>cm_ x.2 yt)=(((LO.take q).any fun x=>cm_ x.2 yt) || cm_ (LO.getD q default).2 yt)):=hq_ (by rw [List.take_succ_eq_append_getElem hql,List.any_append,List.getD_eq_getElem?_getD,List.getElem?_eq_getElem hql];simp);generalize LO.getD q default=X at *;obtain ⟨xv,xt⟩:=X;dsimp only at htx r3 HSN;obtain ⟨xa,xc,rfl,_⟩:=htx.form;have HTX:=hq_ htx;have HBJ:=hq_ HBI.out;clear htx q2 q4;generalize ((LO.take q).any fun x=>cm_ x.2 yt)=tb at *;cases tb
         ·have HSM:=hq_ (fun W (h:Below wr.heap.size wr W)=>il_ _ _ (.slice xa xt.length xc) (.slice ya yt.length yc) xt yt W (HTX.out.ext h) (HTI.out.ext h));generalize cm_ xt yt=sb at *;go_upto_region 19 with (fail)
          go_region_held3 (fun w'=>w'.cell? ⟨n,0,none⟩=some (.slice (some ⟨g,0,none⟩) LO.length oc)∧w'.cell? ⟨g,q,none⟩=some (.slice xa xt.length xc)∧w'.cell? ⟨b,o+kk,none⟩=some (.slice ya yt.length yc)∧Below wr.heap.size wr w') ((go_split_ands;refine ⟨?_,?_,?_,xE⟩ <;> first|assumption|(refine Ext.cell (w:=wr) xE (by assumption))))
           (first|(go_at_call 91;(with_reducible refine (HSM.out _ (by go_split_ands;exact xE)).mono ?_);rintro e u9 ⟨rfl,kz⟩))
          go_wp2_with fail
          go_roundw
          case rel=>exact ⟨q+1,oq_,by go_num,by rw [HSN.out];rfl,hq_ (HBI.out.trans ((show Below wr.heap.size wr u9 by go_split_ands;exact xE).mono HBI.out.size))⟩
          case measure=>simp [intOf];omega
         ·go_wp2_with fail
          go_quiet (fail)
          go_wp2_with fail
          go_roundw
          case rel=>exact ⟨q+1,oq_,by go_num,by rw [HSN.out];rfl,hq_ (Below.drewN HBI.out _)⟩
          case measure=>simp [intOf];omega
        ·obtain rfl:q=LO.length:=oq_;rw [List.take_length];have HAS:Hid ((LO.any fun x=>cm_ x.2 yt)=true↔yt∈LO.map Prod.snd):=hq_ uk_;generalize (LO.any fun x=>cm_ x.2 yt)=tb at *;cases tb
         ·go_upto_region 21 with (fail)
          refine ai_ (w0:=wr) [0,1,2,3,4,5,6] [7,8,9] (fun v=>⟨#[.slice a L.length c,undef,.pointer (some ⟨w.heap.size,0,none⟩),.int .i64 0,.slice (some ⟨b,o,none⟩) Lc.length cc,.int .i64 ↑k,u6,.bool false,.pointer (some ⟨n,0,none⟩),.int .i64 ↑kk,.bool false,.int .i64 ↑LO.length,.slice (some ⟨w.heap.size+1,0,none⟩) 0 0,.int .i64 ↑k,.slice a L.length c,.int .i64 ↑L.length,.bool false,u17,u18,u19,u20,u21,u22,u23,u24,u25,u26,u27,u28,u29,u30,.bool false,u32,u33,u34,u35,u36,.agg #[.slice none 0 0],.int .i64 ↑kk,.slice (some ⟨b,o,none⟩) Lc.length cc,.int .i64 ↑Lc.length,.bool true,u42,u43,.int .i64 ↑LO.length,.pointer (some ⟨n,0,none⟩),.slice oa LO.length oc,.int .i64 ↑LO.length,.bool false,u49,u50,u51,u52,u53,u54,u55,u56,u57,u58,u59,u60,u61,u62,u63,.bool false,.bool true,v 0,v 1,v 2,v 3,v 4,v 5,v 6,u73,u74,undef,undef,undef,undef,undef],[]⟩) [.pointer (some ⟨n,0,none⟩),.slice oa LO.length oc,.slice (some ⟨b,o,none⟩) Lc.length cc,.int .i64 kk,.pointer (some ⟨b,o+kk,none⟩),.slice ya yt.length yc,undef] [6] (fun i v lo hi W=>match i with|6=>v 6=.slice (some ⟨lo 6,0,none⟩) 1 1∧lo 6<hi 6∧Bxx W (lo 6) #[.slice ya yt.length yc] 36|_=>True) (fun W=>W.cell? ⟨n,0,none⟩=some (.slice oa LO.length oc)∧W.cell? ⟨b,o+kk,none⟩=some (.slice ya yt.length yc)) (fun W hb=>⟨Ext.cell hb r2,Ext.cell hb r4⟩) ?stab ?loc ?steps ?fin (fun j=>match j with|0=>u66|1=>u67|2=>u68|3=>u69|4=>u70|5=>u71|6=>u72|_=>undef)
          case stab=>
           refine ⟨?_,trivial⟩
           ·intro v lo hi W W' h hb;exact ⟨h.1,h.2.1,h.2.2.below hb⟩
          case loc=>
           refine ⟨?_,trivial⟩
           ·intro v v' lo lo' hi hi' W hag h;have q:=hag 6 (.inl rfl)
            (try dsimp only at h ⊢)
            simp only [q.1,q.2.1,q.2.2] at h;exact h
          case steps=>
           refine .c [] [] rfl ?_ (.c [0] [] rfl ?_ (.c [] [] rfl ?_ (.c [] [] rfl ?_ (.c [2,3] [] rfl ?_ (.c [4] [] rfl ?_ (.c [5] [] rfl ?_ (.n)))))))
           all_goals try exact stw
           ·rintro v lo hi W hb ⟨g0,g1⟩ _;refine .inl ⟨rfl,fun K hK=>?_⟩;simp only [ov,vat,Nat.reduceBEq,cond_true,cond_false];go_wp2_with fail
            exact acx (hK (.slice (some ⟨W.heap.size,0,none⟩) 1 1) _ (Ea (Er _) _) ⟨rfl,sq_,Bxx.new _ _ _⟩) (by simp [ov,vat,upd])
          case fin=>
           rintro v lo hi9 W2 hb ⟨g0,g1⟩ hf hap;show wpList _ _ _ [_,_,_] _ _;have e1:v 1=.slice oa LO.length oc:=(hf 1 rfl).2.2.2;obtain ⟨l6,-,h6,e6,lt6,hbx6⟩:=hf 6 rfl;have hnew:=(hbx6.cells 0).1;clear hf hap g0 g1;dsimp only;rw [e1,e6];clear e1 e6;generalize lo 6=bn at *;generalize hi9 6=h6v at *;generalize v 0=z0,v 1=z1,v 2=z2,v 3=z3,v 4=z4,v 5=z5;have ho2:=HOI.out.ext hb;have HO2:=hq_ ho2;have hnz:=ho2.obx.lt;refine er_ rq_ _ _ rq_ (fun b=>b≤w.heap.size∨b=n) n (.slice oa LO.length oc) LO (.slice ya yt.length yc,yt) rq_ ho2.orow ((HTI.out.ext hb).mono fun b hb=>⟨fun h=>by have h1:=hb.1;have h2:=hb.2;omega,fun e=>by have:=ho2.orow.own b e;have:=hb.2;omega⟩) _ _ rq_ hnew (by intro h;have:=ho2.rbx.lt;omega) oq_ oq_ ?_;intro ga gc w6 hr6 hg6 hb6;have hob6:=ho2.obx.grown hg6 (fun e=>ho2.orow.row.ne _ e.symm (.inr rfl));have hrb6:=ho2.rbx.grown hg6 (fun e=>ho2.orow.row.ne _ e.symm (.inl (Nat.le_refl _)));have p1:=(hob6.cells 0).1;have p2:=(hob6.cells 0).2;have HR6:=hq_ hr6;have HB6:=hq_ hb6;have HOB6:=hq_ hob6;have HRB6:=hq_ hrb6;clear ho2 hr6 hg6 hb6 hob6 hrb6 hbx6 hnew;go_wp2_with fail
           go_roundw
           case rel=>
            have hbn:Below n W2 (w6.setCell ⟨n,0,none⟩ (.slice ga (LO.length+1) gc)):=HB6.out.setCell (p:=⟨n,0,none⟩) (Nat.le_refl _) _;refine ⟨kk+1,ga,gc,LO ++ [(.slice ya yt.length yc,yt)],oq_,by go_num,hq_ ?_⟩;rw [show (LO ++ [(Value.slice ya yt.length yc,yt)]).length=LO.length+1 by simp];refine ⟨HO2.out.below.trans (hbn.mono oq_),HO2.out.lmix.keep (fun b hb _=>hbn.block b hb.2) hbn.size,⟨HR6.out.row.box (World.grownBy.set' ⟨rfl,rfl,rfl,Nat.le_refl _,fun _ _ _=>rfl⟩ _) (.inr rfl),HR6.out.own⟩,a4_ 0 _ HOB6.out,Bxx.setNe HRB6.out _ oq_,?_,tq_⟩;rw [List.map_append,HO.out.eq,HDD.out];exact (g5_ (by rw [<- HO.out.eq];have:=HAS.out;simpa using this)).symm
           case measure=>simp [intOf];omega
         ·go_wp2_with fail
          go_roundw
          case rel=>exact ⟨kk+1,oa,oc,LO,oq_,by go_num,hq_ { HOI.out with eq:=(by rw [HDD.out,nv_ (by rw [<- HO.out.eq];exact HAS.out.1 rfl)];exact HO.out.eq),len:=by omega }⟩
          case measure=>simp [intOf];omega
      ·obtain rfl:kk=Lc.length:=oq_;have HMV:=hq_ (cb_ _ (.slice oa LO.length oc) (LO.map Prod.snd) wr ⟨LO,rfl,HO.out.orow.mix⟩);have heq:LO.map Prod.snd=ddL [] (Lc.map Prod.snd):=by rw [HO.out.eq,List.take_of_length_le sq_]
       have HNM:Hid (bf_ (L.map Prod.snd) (LO.map Prod.snd)):=hq_ ⟨_,_,HMA2.out,HNT.out,by rw [heq,HLC.out]⟩;have HVV:Hid (∀ t∈LO.map Prod.snd,aw_ s t):=hq_ fun t ht=>by
        rw [heq,lc_] at ht;rcases ht with ht|ht
        ·simp at ht
        ·rw [HLC.out] at ht;exact HF0.out t ht
       have q2:=HO.out.obx.c0;clear heq HST;go_wp2_with (go_at_call 17;refine HMV.out.mono ?_;rintro e w7 ⟨rfl,hb7⟩;have HO7:=hq_ (HO.out.ext hb7);clear hb7;have s1:=HO7.out.obx.c0;have s2:=(HO7.out.rbx.cells 0).1;have s3:=(HO7.out.rbx.cells 0).2;cases hval:bj_ (LO.map Prod.snd))
       ·have hcc:=Bxx.c0 (w:=w7.setCell ⟨w.heap.size,0,none⟩ (.slice none 0 0)) (a4_ 0 (.slice none 0 0) HO7.out.rbx);exact bodyPost_ret (v:=.tuple #[.agg #[.slice none 0 0],.int .i64 2]) (by simp [results,Tryz.results90,go_sem,hcc]) rfl ⟨.slice none 0 0,LO.map Prod.snd,HNM.out,HVV.out,HO7.out.below.setCell (p:=⟨w.heap.size,0,none⟩) (Nat.le_refl _) _,.inr ⟨hval,rfl⟩⟩
       ·have hcc:=Bxx.c0 (w:=w7.setCell ⟨w.heap.size,0,none⟩ (.slice oa LO.length oc)) (a4_ 0 (.slice oa LO.length oc) HO7.out.rbx);refine bodyPost_ret (v:=.tuple #[.agg #[.slice oa LO.length oc],.int .i64 0]) (by simp [results,Tryz.results90,go_sem,hcc]) rfl ⟨.slice oa LO.length oc,LO.map Prod.snd,HNM.out,HVV.out,HO7.out.below.setCell (p:=⟨w.heap.size,0,none⟩) (Nat.le_refl _) _,.inl ⟨hval,rfl,LO,rfl,?_⟩⟩;exact (HO7.out.orow.mix.keep (a5_.grown (g:=w.heap.size) (World.grownBy.set' ⟨rfl,rfl,rfl,Nat.le_refl _,fun _ _ _=>rfl⟩ _) (fun h=>h (.inl (Nat.le_refl _)))) (by rw [World.size_setCell];exact Nat.le_refl _)).mono fun b (hb:¬ _)=>oq_
    ·have HJON:=hq_ (ra_ s (fun b=>w.heap.size<b) (.slice ca Lc.length cc) Lc wr hTc (fun x hx=>HF.out _ (by rw [<- hLc];exact List.mem_map_of_mem hx)) oq_);have HLC:=hq_ hLc;have HCN:=hq_ hcn;clear hLc hTc hcn;go_wp2_with (go_at_call 134;refine HJON.out.mono ?_;intro e w5 hr;obtain ⟨hb5,v',bb,rfl,hst⟩:=hr.form;have HST:=hq_ hst;have HB5:=hq_ hb5;clear hr hst hb5)
     go_roundw
     case rel=>
      rcases HST.out with ⟨rfl,rfl,hno⟩|⟨rfl,i,j,hfp,ht'⟩
      ·rw [HLC.out] at hno;exact ⟨false,cur,rfl,hq_ (HC.out.ext HB5.out),HF,hcl2,HG,hq_ (.inr hno),hq_ (HRB2.out.below HB5.out),hq_ (Et HB2.out HB5.out)⟩
      ·rw [HLC.out] at hfp ht';have hm:=hn_ (i:=i) hfp.lim;exact ⟨true,ct_ cur i j,rfl,hq_ (ht'.mono fun b hb=>hb.elim id fun h=>by have:=HRB2.out.lt;omega),hq_ (so_ hfp.lt hfp.lim hfp.is HF.out),oq_,hq_ (fun u hu=>HG.out u (.step hfp hu)),hq_ (.inl rfl),hq_ (HRB2.out.below HB5.out),hq_ (Et HB2.out HB5.out)⟩
     case measure=>
      rcases HST.out with ⟨rfl,rfl,hno⟩|⟨rfl,i,j,hfp,ht'⟩
      ·simp [lenV]
      ·rw [HLC.out] at hfp ht';have hm:=hn_ (i:=i) hfp.lim;have h:=ht'.len_of;have h0:=HCN.out;have h1:=hfp.lim;have hc:lenV (.slice ca Lc.length cc)=Lc.length:=rfl;simp only [h,hc,hm];omega
theorem nl_ (s:Int) (F G:Nat->Prop) (v:Value) (t:List Per) (fh fc:Value) (f:Per) (w:World) (ht:ab_ w F v t) (hv:aw_ s t) (hl:t.length≤1000) (hf:PVok w G ⟨fh,fc,f⟩) (hff:FV s f) :
  Calls Tryz.prog 92 #[v,perV fh fc f.frm f.period] w fun e w'=>∃ v',e=.returned (.tuple #[v',.bool true])∧ab_ w' (fun b=>F b∨w.heap.size≤b) v' (wiP t f)∧Below w.heap.size w w':=by
 obtain ⟨a3,n3,c3,a4,n4,c4,rfl,rfl⟩:=hf.form;obtain ⟨L,rfl,hL⟩:=ht;have hlen:0<L.length:=List.length_pos_iff.2 fun e=>hv.ne (by rw [e];rfl);rw [List.length_map] at hl;obtain ⟨a1,c1,rfl,hx1,hx2,_⟩:=hL.row.is;have hlm:=hL.len;obtain ⟨b1,o1,x,ha,hx,hxp,hbz,e0,e1,e2,e3⟩:=hL.get hlen;subst ha;have hwi:wiP (L.map PV.p) f=(L.map PV.p).set 0 (bu_ x.p f):=by
  cases hLm:L.map PV.p with
  | nil=>exact absurd hLm hv.ne
  | cons p r=>rw [hLm] at hxp;rw [hxp];rfl
 have hfx:=hv.fv x.p (by rw [hxp];exact aa_ (by simpa using hlen));obtain ⟨xh,xc,xp⟩:=x;obtain ⟨ax1,nx1,cx1,ax2,nx2,cx2,rfl,rfl⟩:=hx.form;dsimp only at e0 e1 e2 e3 hfx hwi;have HMX:=hq_ (fun W (h:Below w.heap.size w W)=>show Calls _ _ #[.agg #[.slice ax1 nx1 cx1,.int .i64 xp.frm,.int .i64 xp.period,.slice ax2 nx2 cx2],.agg #[.slice a3 n3 c3,.int .i64 f.frm,.int .i64 f.period,.slice a4 n4 c4]] W (b6_ (bu_ xp f) W) from tg_ s (.slice ax1 nx1 cx1) (.slice ax2 nx2 cx2) (.slice a3 n3 c3) (.slice a4 n4 c4) xp f W (hx.is.ext h) (hf.is.ext h) hfx hff);have HFQ:=hq_ (hfx.minus hff);have HWI:=hq_ hwi;have HL:=hq_ hL;simp only [Nat.zero_mul,Nat.add_zero] at e0 e1 e2 e3;generalize bu_ xp f=q at *;clear hL hx hxp hwi hfx hff hf hv
 go_enter Tryz.func92,Tryz.ntmps92
 go_wp2_with fail
 go_loopw [6,7,8,9] (fun i _ _ _ wr=>i=.int .i64 0∧Hid (Below w.heap.size w wr)∧wr.cell? ⟨w.heap.size,0,none⟩=some (.slice a3 n3 c3)∧wr.cell? ⟨w.heap.size,1,none⟩=some (.int .i64 f.frm)∧wr.cell? ⟨w.heap.size,2,none⟩=some (.int .i64 f.period)∧wr.cell? ⟨w.heap.size,3,none⟩=some (.slice a4 n4 c4)) (fun i _ _ _ _=>L.length-(intOf i).toNat)
 case atStart=>exact ⟨rfl,hq_ xE,sq_,sq_,sq_,sq_⟩
 case round=>
  obtain ⟨rfl,HB,f0,f1,f2,f3⟩:=hrel;have e0:=Ext.cell HB.out e0;have e1:=Ext.cell HB.out e1;have e2:=Ext.cell HB.out e2;have e3:=Ext.cell HB.out e3;have hlI:(0:Int)<L.length:=oq_;have hz0:0<wr.heap.size:=by have:=World.block_lt_of_cell? wr _ f0;omega
  have hzw:w.heap.size≤wr.heap.size:=HB.out.size;have HMI:=hq_ (fun W (h:Below wr.heap.size wr W)=>HMX.out W (Et HB.out h));go_upto_region 4 with (fail)
  refine Code.wp_mono (Q:=fun e a' W'=>e=.normal∧(∃ (nb:Nat) (hv cv:Value) (y16 y17 y18 y19 y20 y21 y22 y23 y24:Value),a'=⟨#[.slice (some ⟨b1,o1,none⟩) L.length c1,perV (.slice a3 n3 c3) (.slice a4 n4 c4) f.frm f.period,undef,.pointer (some ⟨w.heap.size,0,none⟩),u4,u5,.int .i64 0,.pointer (some ⟨nb,0,none⟩),.int .i64 0,u9,.int .i64 0,.slice (some ⟨b1,o1,none⟩) L.length c1,.int .i64 ↑L.length,.bool true,u14,u15,y16,y17,y18,y19,y20,y21,y22,y23,y24,u25,u26,u27,u28,u29,u30,u31,u32,u33,u34],[]⟩∧Hid (MgP (wr.heap.size-1) q nb hv cv W'))∧Hid (Below wr.heap.size wr W')) ?imp ?reg
  case reg=>
   refine cx_ (w0:=wr) [0,1,2,3,4,5,6,7,8,9] 8 10 [11] (fun v=>⟨#[.slice (some ⟨b1,o1,none⟩) L.length c1,perV (.slice a3 n3 c3) (.slice a4 n4 c4) f.frm f.period,undef,.pointer (some ⟨w.heap.size,0,none⟩),u4,u5,.int .i64 0,v 9,u8,u9,.int .i64 0,.slice (some ⟨b1,o1,none⟩) L.length c1,.int .i64 ↑L.length,.bool true,u14,u15,v 6,v 0,v 1,v 2,v 3,v 4,v 5,v 7,v 8,u25,u26,u27,u28,u29,u30,u31,u32,u33,u34],[]⟩) [.slice (some ⟨b1,o1,none⟩) L.length c1,.int .i64 0,.pointer (some ⟨b1,o1,none⟩),.agg #[.slice ax1 nx1 cx1,.int .i64 xp.frm,.int .i64 xp.period,.slice ax2 nx2 cx2],.agg #[.slice a3 n3 c3,.int .i64 f.frm,.int .i64 f.period,.slice a4 n4 c4],undef,undef,undef,.int .i64 0,undef] [5,6,7,9] (fun i v lo hi W=>match i with|5=>∃ h c,v 5=.tuple #[perV h c q.frm q.period,.int .i64 0]∧e4_ W (lo 5) (hi 5) h c q|6=>v 6=v 5∧∃ h c,v 6=.tuple #[perV h c q.frm q.period,.int .i64 0]|7=>∃ h c,v 6=.tuple #[perV h c q.frm q.period,.int .i64 0]∧v 7=perV h c q.frm q.period|9=>v 9=.pointer (some ⟨lo 9,0,none⟩)∧lo 9<hi 9∧Bxx W (lo 9) #[.slice none 0 0,.int .i64 0,.int .i64 0,.slice none 0 0] 39|_=>True) (fun W=>W.cell? ⟨b1,o1,none⟩=some (.slice ax1 nx1 cx1)∧W.cell? ⟨b1,o1+1,none⟩=some (.int .i64 xp.frm)∧W.cell? ⟨b1,o1+2,none⟩=some (.int .i64 xp.period)∧W.cell? ⟨b1,o1+3,none⟩=some (.slice ax2 nx2 cx2)∧W.cell? ⟨w.heap.size,0,none⟩=some (.slice a3 n3 c3)∧W.cell? ⟨w.heap.size,1,none⟩=some (.int .i64 f.frm)∧W.cell? ⟨w.heap.size,2,none⟩=some (.int .i64 f.period)∧W.cell? ⟨w.heap.size,3,none⟩=some (.slice a4 n4 c4)) (fun W hb=>⟨Ext.cell hb e0,Ext.cell hb e1,Ext.cell hb e2,Ext.cell hb e3,Ext.cell hb f0,Ext.cell hb f1,Ext.cell hb f2,Ext.cell hb f3⟩) ?stab ?loc ?steps ?fin ?fin2 (fun j=>match j with|0=>u17|1=>u18|2=>u19|3=>u20|4=>u21|5=>u22|6=>u16|7=>u23|8=>u24|9=>u7|_=>undef)
   case stab=>
    refine ⟨?_,?_,?_,?_,trivial⟩
    ·intro v lo hi W W' h hb;exact (let ⟨x1,x2,e,hp⟩:=h;⟨x1,x2,e,hp.below hb⟩)
    ·intro v lo hi W W' h hb;exact h
    ·intro v lo hi W W' h hb;exact h
    ·intro v lo hi W W' h hb;exact ⟨h.1,h.2.1,h.2.2.below hb⟩
   case loc=>
    refine ⟨?_,?_,?_,?_,trivial⟩
    ·intro v v' lo lo' hi hi' W hag h;have q:=hag 5 (.inl rfl)
     (try dsimp only at h ⊢)
     simp only [q.1,q.2.1,q.2.2] at h;exact h
    ·intro v v' lo lo' hi hi' W hag h;have q:=hag 6 (.inl rfl);have q5:=hag 5 (.inr (Rdp (by kernel_rfl)))
     (try dsimp only at h ⊢)
     simp only [q.1,q.2.1,q.2.2,q5.1,q5.2.1,q5.2.2] at h;exact h
    ·intro v v' lo lo' hi hi' W hag h;have q:=hag 7 (.inl rfl);have q6:=hag 6 (.inr (Rdp (by kernel_rfl)))
     (try dsimp only at h ⊢)
     simp only [q.1,q.2.1,q.2.2,q6.1,q6.2.1,q6.2.2] at h;exact h
    ·intro v v' lo lo' hi hi' W hag h;have q:=hag 9 (.inl rfl)
     (try dsimp only at h ⊢)
     simp only [q.1,q.2.1,q.2.2] at h;exact h
   case steps=>
    clear e0 e1 e2 e3 f0 f1 f2 f3;refine .c [] [] rfl ?_ (.c [] [] rfl ?_ (.c [0,1] [] rfl ?_ (.c [2] [] rfl ?_ (.c [] [] rfl ?_ (.c [3,4] [] rfl ?_ (.c [] [5] rfl ?_ (.c [] [6] rfl ?_ (.c [] [6] rfl ?_ (.c [] [] rfl ?_ (.n))))))))))
    all_goals try exact stl
    ·rintro v lo hi W hb ⟨s0,s1,s2,s3,t0,t1,t2,t3⟩ _;refine ⟨rfl,fun K hK=>?_⟩;simp only [ov,vat,Nat.reduceBEq,cond_true,cond_false];go_wp2_with (go_at_call 135;(with_reducible refine (HMI.out _ hb).mono ?_);rintro e w9 ⟨h',c',rfl,ho,hb9⟩)
     exact acx (hK (.tuple #[perV h' c' q.frm q.period,.int .i64 0]) w9 hb9 ⟨h',c',rfl,ho.at⟩) (by simp [ov,vat,upd])
    ·rintro v lo hi W hb ⟨s0,s1,s2,s3,t0,t1,t2,t3⟩ ⟨⟨la5,lb5,D5⟩,_⟩;refine ⟨rfl,fun K hK=>?_⟩;simp only [ov,vat,Nat.reduceBEq,cond_true,cond_false]
     (try dsimp only at D5)
     obtain ⟨h8,c8,e8,_⟩:=D5;go_wp2_with fail
     exact acx (hK (v 5) W (Below.refl _ _) ⟨rfl,h8,c8,e8⟩) (by simp [ov,vat,upd,e8])
    ·rintro v lo hi W hb ⟨s0,s1,s2,s3,t0,t1,t2,t3⟩ ⟨⟨la6,lb6,D6⟩,_⟩;refine ⟨rfl,fun K hK=>?_⟩;simp only [ov,vat,Nat.reduceBEq,cond_true,cond_false]
     (try dsimp only at D6)
     obtain ⟨-,h9,c9,e9⟩:=D6;simp only [e9];go_wp2_with fail
     exact acx (hK (perV h9 c9 q.frm q.period) W (Below.refl _ _) ⟨h9,c9,e9,rfl⟩) (by simp [ov,vat,upd,e9])
    ·rintro v lo hi W hb ⟨s0,s1,s2,s3,t0,t1,t2,t3⟩ ⟨⟨la6,lb6,D6⟩,_⟩;refine ⟨rfl,fun K hK=>?_⟩;simp only [ov,vat,Nat.reduceBEq,cond_true,cond_false]
     (try dsimp only at D6)
     obtain ⟨-,h9,c9,e9⟩:=D6;simp only [e9];go_wp2_with fail
     exact acx (hK W (Below.refl _ _)) (by simp [ov,vat,upd,e9])
    ·rintro v lo hi W hb ⟨s0,s1,s2,s3,t0,t1,t2,t3⟩ _;refine ⟨rfl,fun K hK=>?_⟩;simp only [ov,vat,Nat.reduceBEq,cond_true,cond_false];go_wp2_with fail
     exact hK (.pointer (some ⟨W.heap.size,0,none⟩)) _ (Ea (Er _) _) ⟨rfl,sq_,Bxx.new _ _ _⟩
   case fin=>
    rintro v lo hi9 W5 hb5-hf hap;show wpList _ _ _ [_,_] _ _;obtain ⟨l8,-,h8,h,c,e8,hp8⟩:=hf 5 rfl;obtain ⟨-,-,-,e9,-⟩:=hf 6 rfl;obtain ⟨-,-,-,h',c',e9',e10⟩:=hf 7 rfl;have e11:v 8=.int .i64 0:=(hf 8 rfl).2.2.2;obtain ⟨l12,-,h12,e12,lt12,hbox⟩:=hf 9 rfl;have hd:=hap 5 9 rfl rfl dq_;clear hf hap;rw [e9,e8] at e9';obtain ⟨rfl,rfl⟩:h=h'∧c=c':=by simpa [perV] using e9'
    dsimp only;rw [e10,e11,e12];clear e10 e11 e12 e9 e9' e8;obtain ⟨nb,hnb⟩:∃ nb,nb=lo 9:=⟨_,rfl⟩;rw [<- hnb] at hd hbox l12 lt12 ⊢;have hpi:=hp8.inn;generalize lo 5=l8v at *;generalize hi9 5=h8v at *;generalize hi9 9=h12v at *;clear hnb hp8;obtain ⟨a5,m5,a6,m6,rfl,rfl⟩:=hpi.form;have r0:=hbox.cells 0;have r1:=hbox.cells 1;have r2:=hbox.cells 2;have r3:=hbox.cells 3;have HMG:=hq_ (MgP.of (B:=wr.heap.size-1) hpi HFQ.out oq_ hbox oq_ oq_);have HB5:=hq_ hb5;clear hbox hpi hd;generalize v 0=zz0,v 1=zz1,v 2=zz2,v 3=zz3,v 4=zz4,v 5=zz5,v 6=zz6;go_wp2_with fail
    exact ⟨⟨_,_,HMG⟩,hq_ (by have hb5:=HB5.out;exact xE)⟩
   case fin2=>
    rintro v lo hi9 W5 hb5-hf hap;obtain ⟨l8,-,h8,h,c,e8,hp8⟩:=hf 5 rfl dq_;obtain ⟨-,-,-,e9,-⟩:=hf 6 rfl dq_;obtain ⟨-,-,-,h',c',e9',e10⟩:=hf 7 rfl dq_;obtain ⟨l12,-,h12,e12,lt12,hbox⟩:=hf 9 rfl dq_;have hd:=hap 5 9 rfl rfl dq_ dq_ dq_;clear hf hap;rw [e9,e8] at e9';obtain ⟨rfl,rfl⟩:h=h'∧c=c':=by simpa [perV] using e9'
    have e99:=e9.trans e8;dsimp only;rw [e10,e12,e99];clear e10 e12 e9 e9' e8 e99;obtain ⟨nb,hnb⟩:∃ nb,nb=lo 9:=⟨_,rfl⟩;rw [<- hnb] at hd hbox l12 lt12 ⊢;have hpi:=hp8.inn;generalize lo 5=l8v at *;generalize hi9 5=h8v at *;generalize hi9 9=h12v at *;clear hnb hp8;obtain ⟨a5,m5,a6,m6,rfl,rfl⟩:=hpi.form;have r0:=hbox.cells 0;have r1:=hbox.cells 1;have r2:=hbox.cells 2;have r3:=hbox.cells 3;have HMG:=hq_ (MgP.of (B:=wr.heap.size-1) hpi HFQ.out oq_ hbox oq_ oq_);have HB5:=hq_ hb5;clear hbox hpi hd;generalize v 0=zz0,v 1=zz1,v 2=zz2,v 3=zz3,v 4=zz4,v 5=zz5,v 8=zz8;constructor
    ·show wpList _ _ _ [_,_,_] _ _;go_wp2_with fail
     exact ⟨⟨_,_,HMG⟩,hq_ (by have hb5:=HB5.out;exact xE)⟩
    ·show wpList _ _ _ [_,_,_] _ _;go_wp2_with fail
     exact ⟨⟨_,_,HMG⟩,hq_ (by have hb5:=HB5.out;exact xE)⟩
  case imp=>
   rintro e a' W6 ⟨rfl,⟨nb,hv9,cv9,y16,y17,y18,y19,y20,y21,y22,y23,y24,rfl,HP⟩,HB6⟩;obtain ⟨a5,n5,m5,a6,n6,m6,rfl,rfl⟩:=HP.out.ok.form;have p0:=HP.out.c0;have p1:=HP.out.c1;have p2:=HP.out.c2;have p3:=HP.out.c3;have HE6:=hq_ (Et HB.out HB6.out);have hz6:W6.heap.size≤(W6.alloc (.cells #[] 39)).heap.size:=by simp
   have hz7:=HB6.out.size;have hown0:=World.ownsRow_lit (base:=W6.heap.size) (e:=39) (size:=4) W6 #[] 0 (Nat.le_refl _) (by unfold maxLen;omega) rfl;have HROW:=hq_ ((HL.out.row.keep (a5_.below HE6.out) HE6.out.size).keep (a5_.below (Ea (Er W6) (.cells #[] 39))) hz6);have HONE:=hq_ HL.out.cells_one;go_wp2_with (at_builtin;refine by_ rq_ _ _ rq_ W6.heap.size (.slice (some ⟨W6.heap.size,0,none⟩) 0 0) (.slice (some ⟨b1,o1,none⟩) L.length c1) 0 L.length [] (L.flatMap PV.enc) F rq_ hown0 rq_ HROW.out c3_ HONE.out oq_ hz6 ?_;intro v7 w7 hown7 hgrow7;rw [Nat.zero_add,List.nil_append] at hown7;have hb7:=(Ea (Er W6) (.cells #[] 39)).grown hgrow7 hz6 (fun k e=>(hown0.lt k e).1);obtain ⟨hl7,⟨he,h0⟩|⟨g,cap,cur,he,hg1,hg,h6,h7,h8,h9⟩⟩:=hown7;(exfalso;omega);cases he;(have s0:=Ext.cell hb7 p0);(have s1:=Ext.cell hb7 p1);(have s2:=Ext.cell hb7 p2);(have s3:=Ext.cell hb7 p3);(have hr5:Row5 (fun b=>(F b∨w.heap.size≤b)∧b<W6.heap.size) g cap w7 L:=⟨⟨hl7,.inr ⟨g,cap,cur,rfl,Nat.zero_le _,hg,h6,h7,h8,h9⟩⟩,fun x hx=>(((HL.out.lt.all x hx).keep (a5_.below HE6.out)).keep (a5_.below hb7)).mono fun q' hq'=>⟨⟨.inl hq'.1,by have:=hq'.2;have:=HE6.out.size;omega⟩,by have:=hq'.2;have:=HE6.out.size;omega⟩,oq_⟩);(have hpv:PVok w7 (fun b'=>((F b'∨w.heap.size≤b')∧b'<W6.heap.size)∧b'≠g) ⟨.slice a5 n5 m5,.slice a6 n6 m6,q⟩:=(HP.out.ok.lt.keep (a5_.below hb7)).mono fun b' hb'=>⟨⟨.inr (by have:=hb'.1;omega),hb'.2⟩,by have:=hb'.2;omega⟩);(have hset:=hr5.set (j:=0) (x:=⟨.slice a5 n5 m5,.slice a6 n6 m6,q⟩) hlen hpv);simp only [Nat.zero_mul,Nat.zero_add] at hset;(have HSET:=hq_ hset);(have k0:=(hr5.row.cellAt 0 oq_).trans (av_ (j:=0) (i:=0) hlen rfl));(have k1:=(hr5.row.cellAt 1 oq_).trans (av_ (j:=0) (i:=1) hlen rfl));(have k2:=(hr5.row.cellAt 2 oq_).trans (av_ (j:=0) (i:=2) hlen rfl));(have k3:=(hr5.row.cellAt 3 oq_).trans (av_ (j:=0) (i:=3) hlen rfl));(have l0:=hr5.row.frozenAt 0);(have l1:=hr5.row.frozenAt 1);(have l2:=hr5.row.frozenAt 2);(have l3:=hr5.row.frozenAt 3);(have HB7:=hq_ hb7);(have hgz:W6.heap.size≤g:=hg1);clear hr5 hpv hset hb7 hgrow7 hl7 hg1 hg h6 h7 h8 h9)
   go_ret2;have hB7:Below W6.heap.size W6 w7:=HB7.out;have hb8:=hB7.trans (ei_ w7 (i:=0) hgz (.slice a5 n5 m5) (.int .i64 q.frm) (.int .i64 q.period) (.slice a6 n6 m6));refine ⟨_,rfl,⟨L.set 0 ⟨.slice a5 n5 m5,.slice a6 n6 m6,q⟩,by rw [List.map_set,HWI.out],?_⟩,Et HE6.out hb8⟩;have h1:=HSET.out.term;rw [List.length_set] at h1;exact h1.mono fun b hb=>hb.elim (fun h=>h.1) fun e=>.inr oq_
structure RMS (s:Int) (m1 m2:List (List Per)) (w:World) (b6 j:Nat) (a2:Option Addr) (c2:Nat) (a:Option Addr) (c:Nat) (k:Int) (mk:List (List Per)) (W:World):Prop where
 ms:MS s m1 m2 w b6 j a c k mk W
 yb:Bxx W (w.heap.size+1) #[.slice a2 m2.length c2] 28
theorem uo_ (hm:∀ u∈m,aw_ s u) (ht:∀ f∈t,FV s f):∀ x∈minL m t,aw_ s x:=fun x hx=>by
 obtain ⟨u,hu,f,hf,rfl⟩:=k1_.1 hx;have h1:=hm u hu;have h2:=ht f hf;cases u with
 | nil=>exact absurd rfl h1.ne
 | cons p r=>exact ⟨by simp [wiP],fun q hq=>by
   rcases List.mem_cons.1 hq with rfl|hq
   ·exact (h1.fv p sq_).minus h2
   ·exact h1.fv q (by simp [hq]),by have:=h1.len;simpa [wiP] using this⟩
theorem vz_ {f:Per}:(wiP u f).length=u.length:=by cases u <;> simp [wiP]
theorem r7_ (s:Int) (F1 F2:Nat->Prop) (v1 v2:Value) (m1 m2:List (List Per)) (w:World) (h1:MixR w F1 v1 m1) (h2:MixR w F2 v2 m2) (k1:MV s m1) (k2:MV s m2) :
  Calls Tryz.prog 49 #[.agg #[v1],.agg #[v2]] w (fk_ s m1 m2 w):=by
 have HV1:=fun W (h:Below w.heap.size w W)=>cb_ F1 v1 m1 W (h1.ext h);have HV2:=fun W (h:Below w.heap.size w W)=>cb_ F2 v2 m2 W (h2.ext h);rw [k1.val] at HV1;rw [k2.val] at HV2;have l1:=k1.len;have l2:=k2.len;have HNO1:=hq_ (fun W (h:Below w.heap.size w W)=>dy_ s F1 v1 m1 W (h1.ext h) k1.vt (fun t ht=>by have:=k1.tlen t ht;omega) oq_);obtain ⟨a1,c1,rfl⟩:=h1.form;obtain ⟨a2,c2,rfl⟩:=h2.form;have HM2:=hq_ h2;have HK2:=hq_ k2;clear h1 h2 k1 k2
 go_enter Tryz.func49,Tryz.ntmps49
 go_wp2_with (first|(go_at_call 17;first
   | ((with_reducible refine (HV1 _ xE).mono ?_);rintro e w1 ⟨rfl,hb1⟩;have b0:Bxx w1 w.heap.size #[.slice a1 m1.length c1] 28:=Bxx.below xB hb1;have b1:Bxx w1 (w.heap.size+1) #[.slice a2 m2.length c2] 28:=Bxx.below xB hb1;have b2:Bxx w1 (w.heap.size+1+1) #[.slice none 0 0] 28:=Bxx.below xB hb1;have x0:=b0.c0;have x1:=b1.c0;have hW1:Below w.heap.size w w1:=by exact xE)
   | ((with_reducible refine (HV2 _ xE).mono ?_);rintro e w2 ⟨rfl,hb2⟩;have d0:=b0.below hb2;have d1:=b1.below hb2;have d2:=b2.below hb2;have y0:=d0.c0;have y1:=d1.c0;have hW2:Below w.heap.size w w2:=by exact xE))|(go_at_call 90;refine (HNO1.out _ hW2).mono ?_;rintro e w5 hres;obtain ⟨oa,oc,kz,mkz,rfl,hmr,hb5,hst⟩:=hres.num;have g1:=d1.below hb5;have g2:=d2.below hb5;have hW5:Below w.heap.size w w5:=Et hW2 hb5;have HMR:=hq_ hmr;have HST:=hq_ hst;have G1:=hq_ g1;have G2:=hq_ g2;clear hmr hst g1 g2 hres))
 obtain ⟨b6,hb6⟩:∃ b6,b6=w5.heap.size:=⟨_,rfl⟩;have hg2:=G2.out.lt;have hz5:w2.heap.size≤w5.heap.size:=hb5.size;have hz2:=d2.lt;have hms:RMS s m1 m2 w b6 0 a2 c2 oa oc kz mkz (w5.alloc (.cells #[.slice oa mkz.length oc] 28)):=by
  refine ⟨⟨Ea hW5 _,Bxx.at hb6,G2.out.alloc _,?_,oq_,?_⟩,G1.out.alloc _⟩
  ·have hbb:Below w5.heap.size w5 (w5.alloc (.cells #[.slice oa mkz.length oc] 28)):=Ea (Er w5) _;refine (HMR.out.lt.keep (a5_.below hbb) hbb.size).mono fun b hb=>?_;obtain ⟨hb1,hb2⟩:=hb;exact ⟨oq_,oq_⟩
  ·rcases HST.out with ⟨h1,h2,h3⟩|⟨h1,h2,h3,h4,m,h5,h6⟩
   ·exact .inl ⟨h1,h3,fun r hr=>⟨mkz,h2,.inl ⟨(d8_ h3.vt).1 h3.val,hr⟩⟩⟩
   ·exact .inr ⟨h1,h2,h3,h4,m,h5,.inr ⟨h6,rfl⟩⟩
 rw [<- hb6];have HMS:=hq_ hms;clear hms hb6 hz5 hg2 hb5 hW5 hz2 d0 d1 d2 hb2 hb1 b0 b1 b2 x0 x1 y0 y1 HMR HST G1 G2
 go_loopw [7,8,9,10,11,12,13] (fun ev idx _ _ _ _ _ wr=>∃ (j:Nat) (a:Option Addr) (c:Nat) (k:Int) (mk:List (List Per)),j≤m2.length∧idx=.int .i64 j∧ev=.int .i64 k∧Hid (RMS s m1 m2 w b6 j a2 c2 a c k mk wr)) (fun _ idx _ _ _ _ _ _=>m2.length-(intOf idx).toNat)
 case atStart=>exact ⟨0,oa,oc,kz,mkz,oq_,rfl,rfl,HMS⟩
 case round=>
  obtain ⟨j,a,c,k,mk,hj,rfl,rfl,HM⟩:=hrel;obtain ⟨wo,hwo⟩:∃ wo,wo=wr:=⟨_,rfl⟩;subst hwo;clear HMS;have r1:=HM.out.ms.obx.c0;have r2:=(HM.out.ms.rbx.cells 0).1;have r3:=(HM.out.ms.rbx.cells 0).2;have r4:=HM.out.yb.c0;have hb6l:=HM.out.ms.lt;have hb6z:=HM.out.ms.obx.lt
  by_cases hjl:j<m2.length
  ·have hjI:(j:Int)<m2.length:=oq_;obtain ⟨L2,hL2,hml⟩:=HM2.out.ext HM.out.ms.below;have hl2:L2.length=m2.length:=by rw [<- hL2,List.length_map]
   obtain ⟨b8,f8,c8,ta,tn,tc,t,he,e0,htt,hmt⟩:=hml.at (show j<L2.length by omega);injection he with q1 q2 q3
   subst q1;subst q3;clear q2;rw [hL2] at hmt;obtain ⟨_,_,he,_⟩:=htt.form;cases he;have HTT:=hq_ htt;have HMT:=hq_ hmt;have htn4:=HK2.out.tlen t (List.mem_of_getElem? hmt);have hvt:=HK2.out.vt t (List.mem_of_getElem? hmt);have HVT2:=hq_ hvt;obtain ⟨tL,htL,htl⟩:=htt;have htn:t.length=tL.length:=by rw [<- htL,List.length_map]
   have htne:0<tL.length:=by rw [<- htn];exact List.length_pos_iff.2 hvt.ne
   obtain ⟨bt,ot,x0,ha,-⟩:=htl.get htne;subst ha;have HTL:=hq_ htl;have HTLL:=hq_ htL;have HTN:=hq_ htn;have HE0:=hq_ e0;clear hml hmt hL2 hl2 htl htL htn htne hvt;have HM':=HM.out.ms.st;rcases HM' with ⟨rfl,hmv,hto⟩|⟨rfl,rfl,rfl,rfl,hnone⟩
   ·have hmkl:=hmv.len;have HMV:=hq_ hmv;have HTO:=hq_ hto;clear hmv hto;go_wp2_with fail
    go_loopw [9,10,11,12,13] (fun lv idx _ _ _ wq=>∃ (i:Nat) (la:Option Addr) (lc:Nat) (Lk:List (Value × List Per)),i≤mk.length∧idx=.int .i64 i∧lv=.slice la Lk.length lc∧Hid (Below wo.heap.size wo wq)∧Hid (OwnT (fun k=>k≤w.heap.size+2∨k=b6) wo.heap.size wq (.slice la Lk.length lc) Lk)∧Hid (Lk.map Prod.snd=minL (mk.take i) t)) (fun _ idx _ _ _ _=>mk.length-(intOf idx).toNat)
    case atStart=>exact ⟨0,some ⟨wo.heap.size,0,none⟩,0,[],oq_,rfl,rfl,hq_ (Ea (Er _) _),hq_ (OwnT.of (B:=wo.heap.size) (World.ownsRow_lit (base:=wo.heap.size) (e:=36) (size:=1) wo #[] 0 (Nat.le_refl _) (by unfold maxLen;omega) rfl) (Nat.le_refl _) sq_ (fun g hg=>by simp [Value.ownBlock] at hg;omega) sq_),hq_ rfl⟩
    case round=>
     obtain ⟨i,la,lc,Lk,hi,rfl,rfl,HBQ,HRT,HEQ⟩:=hrel;have r1:=Ext.cell HBQ.out r1;have r4:=Ext.cell HBQ.out r4
     by_cases hil:i<mk.length
     ·have hiI:(i:Int)<mk.length:=oq_;obtain ⟨L1,hL1,hml⟩:=HM.out.ms.mix.lt;have hl1:L1.length=mk.length:=by rw [<- hL1,List.length_map]
      obtain ⟨b9,f9,c9,sa,sn,sc,u,he,e1,hut,hmu⟩:=hml.at (show i<L1.length by omega);injection he with q1 q2 q3
      subst q1;subst q3;clear q2;rw [hL1] at hmu;obtain ⟨_,_,he,_⟩:=hut.form;cases he;have hvu:=HMV.out.vt u (List.mem_of_getElem? hmu);have hul:=HMV.out.tlen u (List.mem_of_getElem? hmu);have HU2:=hq_ (fun W (h:Below wo.heap.size wo W)=>(hut.keep (a5_.below h) h.size));have HE1:=hq_ e1;have HMU:=hq_ hmu;have HVU:=hq_ hvu;have e0:=Ext.cell HBQ.out HE0.out;clear hml hut hmu hvu hL1 hl1 e1;go_wp2_with fail
      go_loopw [9,11,12,13] (fun lv idx _ _ wq=>∃ (i3:Nat) (la:Option Addr) (lc:Nat) (Lk:List (Value × List Per)),i3≤t.length∧idx=.int .i64 i3∧lv=.slice la Lk.length lc∧Hid (Below wo.heap.size wo wq)∧Hid (OwnT (fun k=>k≤w.heap.size+2∨k=b6) wo.heap.size wq (.slice la Lk.length lc) Lk)∧Hid (Lk.map Prod.snd=minL (mk.take i) t ++ (t.take i3).map fun f=>wiP u f)) (fun _ idx _ _ _=>t.length-(intOf idx).toNat)
      case atStart=>exact ⟨0,la,lc,Lk,oq_,rfl,rfl,HBQ,HRT,hq_ (by rw [HEQ.out];simp)⟩
      case round=>
       obtain ⟨i3,la,lc,Lk,hi3,rfl,rfl,HBQ2,HRT2,HEQ2⟩:=hrel;have r1:=Ext.cell HBQ2.out HM.out.ms.obx.c0;have r4:=Ext.cell HBQ2.out HM.out.yb.c0;have e0:=Ext.cell HBQ2.out HE0.out;have e1:=Ext.cell HBQ2.out HE1.out
       by_cases hi3l:i3<t.length
       ·have hi3I:(i3:Int)<t.length:=oq_;have htl2:=HTL.out.keep (a5_.below HBQ2.out) HBQ2.out.size;obtain ⟨_,_,x,ha,hx,hxp,_,z0,z1,z2,z3⟩:=htl2.get (show i3<tL.length by rw [<- HTN.out];exact hi3l);cases ha;have hfx:=HVT2.out.fv x.p (by rw [hxp,HTLL.out];exact aa_ hi3l);have hxg:t[i3]? = some x.p:=by rw [hxp,HTLL.out,List.getD_eq_getElem?_getD,List.getElem?_eq_getElem hi3l];rfl
        obtain ⟨xh,xc,xp⟩:=x;obtain ⟨ax1,nx1,cx1,ax2,nx2,cx2,rfl,rfl⟩:=hx.form;dsimp only at z0 z1 z2 z3 hfx hxg;have HWO:=hq_ (fun W (h:Below wr.heap.size wr W)=>nl_ s _ _ (.slice sa u.length sc) u (.slice ax1 nx1 cx1) (.slice ax2 nx2 cx2) xp W (HU2.out W (Et HBQ2.out h)) HVU.out oq_ (hx.keep (a5_.below h)) hfx);have hwz0:=HBQ2.out.size;have HLK:Hid (Lk.length<1000000):=hq_ (by
         have h1:=congrArg List.length HEQ2.out;rw [List.length_map,List.length_append,List.length_map,dz_,List.length_take,List.length_take] at h1;have h2:min i mk.length*t.length≤64*4:=Nat.mul_le_mul oq_ htn4;omega)
        have HXG:=hq_ hxg;clear htl2 hx hxp hfx hxg;go_upto_region 14 with (fail)
        refine ai_ (w0:=wr) [0,1,2,3,4,5,6,7,8,9,10,11,12,13,14,15,16,17] [18] (fun v=>⟨#[.agg #[.slice a1 m1.length c1],.agg #[.slice (some ⟨b8,f8,none⟩) m2.length c2],.pointer (some ⟨w.heap.size,0,none⟩),.pointer (some ⟨w.heap.size+1,0,none⟩),.pointer (some ⟨w.heap.size+1+1,0,none⟩),u5,.pointer (some ⟨b6,0,none⟩),.int .i64 0,.int .i64 ↑j,.slice la Lk.length lc,.int .i64 ↑i,.int .i64 ↑i3,v 17,u13,.agg #[.slice a1 m1.length c1],.bool true,.bool false,.bool false,.agg #[.slice (some ⟨b8,f8,none⟩) m2.length c2],.bool true,.bool false,.bool false,undef,.tuple #[.agg #[.slice oa mkz.length oc],.int .i64 kz],.pointer (some ⟨w.heap.size,0,none⟩),.slice a1 m1.length c1,.tuple #[.agg #[.slice oa mkz.length oc],.int .i64 kz],.agg #[.slice oa mkz.length oc],.int .i64 kz,.int .i64 ↑j,.pointer (some ⟨w.heap.size+1,0,none⟩),.slice (some ⟨b8,f8,none⟩) m2.length c2,.int .i64 ↑m2.length,.bool true,.bool true,.int .i64 0,.bool true,.bool true,u38,u39,.slice (some ⟨wo.heap.size,0,none⟩) 0 0,.int .i64 ↑i,.pointer (some ⟨b6,0,none⟩),.slice (some ⟨b9,f9,none⟩) mk.length c,.int .i64 ↑mk.length,.bool true,u46,u47,.int .i64 ↑i3,.pointer (some ⟨w.heap.size+1,0,none⟩),.slice (some ⟨b8,f8,none⟩) m2.length c2,.int .i64 ↑j,.pointer (some ⟨b8,f8+j,none⟩),.slice (some ⟨bt,ot,none⟩) t.length tc,.int .i64 ↑t.length,.bool true,u56,u57,v 14,v 0,v 1,v 2,v 3,v 4,v 5,v 6,v 7,v 8,v 9,v 10,v 11,v 12,v 13,v 15,v 16,u75,u76,u77,u78,u79,u80,u81,u82,u83,u84,u85,u86,undef,undef],[]⟩) [.pointer (some ⟨b6,0,none⟩),.slice (some ⟨b9,f9,none⟩) mk.length c,.int .i64 i,.pointer (some ⟨b9,f9+i,none⟩),.slice sa u.length sc,.pointer (some ⟨w.heap.size+1,0,none⟩),.slice (some ⟨b8,f8,none⟩) m2.length c2,.int .i64 j,.pointer (some ⟨b8,f8+j,none⟩),.slice (some ⟨bt,ot,none⟩) t.length tc,.int .i64 i3,.pointer (some ⟨bt,ot+i3*4,none⟩),perV (.slice ax1 nx1 cx1) (.slice ax2 nx2 cx2) xp.frm xp.period,undef,undef,undef,.bool true,undef] [13,14,15,17] (fun i v lo hi W=>match i with|13=>∃ v',v 13=.tuple #[v',.bool true]∧ab_ W (fun b=>((w.heap.size+2<b∧b≠b6)∧b<wo.heap.size)∨lo 13≤b) v' (wiP u xp)|14=>v 14=v 13∧∃ v',v 14=.tuple #[v',.bool true]|15=>∃ v',v 14=.tuple #[v',.bool true]∧v 15=v'|17=>∃ v',v 14=.tuple #[v',.bool true]∧v 17=v'|_=>True) (fun W=>W.cell? ⟨b6,0,none⟩=some (.slice (some ⟨b9,f9,none⟩) mk.length c)∧W.cell? ⟨w.heap.size+1,0,none⟩=some (.slice (some ⟨b8,f8,none⟩) m2.length c2)∧W.cell? ⟨b9,f9+i,none⟩=some (.slice sa u.length sc)∧W.cell? ⟨b8,f8+j,none⟩=some (.slice (some ⟨bt,ot,none⟩) t.length tc)∧W.cell? ⟨bt,ot+i3*4,none⟩=some (.slice ax1 nx1 cx1)∧W.cell? ⟨bt,ot+i3*4+1,none⟩=some (.int .i64 xp.frm)∧W.cell? ⟨bt,ot+i3*4+2,none⟩=some (.int .i64 xp.period)∧W.cell? ⟨bt,ot+i3*4+3,none⟩=some (.slice ax2 nx2 cx2)) (fun W hb=>⟨Ext.cell hb r1,Ext.cell hb r4,Ext.cell hb e1,Ext.cell hb e0,Ext.cell hb z0,Ext.cell hb z1,Ext.cell hb z2,Ext.cell hb z3⟩) ?stab ?loc ?steps ?fin (fun j=>match j with|0=>u59|1=>u60|2=>u61|3=>u62|4=>u63|5=>u64|6=>u65|7=>u66|8=>u67|9=>u68|10=>u69|11=>u70|12=>u71|13=>u72|14=>u58|15=>u73|16=>u74|17=>u12|_=>undef)
        case stab=>
         refine ⟨?_,?_,?_,?_,trivial⟩
         ·intro v lo hi W W' h hb;exact (let ⟨x1,e,ht⟩:=h;⟨x1,e,ht.ext hb⟩)
         ·intro v lo hi W W' h hb;exact h
         ·intro v lo hi W W' h hb;exact h
         ·intro v lo hi W W' h hb;exact h
        case loc=>
         refine ⟨?_,?_,?_,?_,trivial⟩
         ·intro v v' lo lo' hi hi' W hag h;have q:=hag 13 (.inl rfl)
          (try dsimp only at h ⊢)
          simp only [q.1,q.2.1,q.2.2] at h;exact h
         ·intro v v' lo lo' hi hi' W hag h;have q:=hag 14 (.inl rfl);have q13:=hag 13 (.inr (Rdp (by kernel_rfl)))
          (try dsimp only at h ⊢)
          simp only [q.1,q.2.1,q.2.2,q13.1,q13.2.1,q13.2.2] at h;exact h
         ·intro v v' lo lo' hi hi' W hag h;have q:=hag 15 (.inl rfl);have q14:=hag 14 (.inr (Rdp (by kernel_rfl)))
          (try dsimp only at h ⊢)
          simp only [q.1,q.2.1,q.2.2,q14.1,q14.2.1,q14.2.2] at h;exact h
         ·intro v v' lo lo' hi hi' W hag h;have q:=hag 17 (.inl rfl);have q14:=hag 14 (.inr (Rdp (by kernel_rfl)))
          (try dsimp only at h ⊢)
          simp only [q.1,q.2.1,q.2.2,q14.1,q14.2.1,q14.2.2] at h;exact h
        case steps=>
         clear r1 r4 e1 e0 z0 z1 z2 z3;refine .c [] [] rfl ?_ (.c [0] [] rfl ?_ (.c [] [] rfl ?_ (.c [1,2] [] rfl ?_ (.c [3] [] rfl ?_ (.c [] [] rfl ?_ (.c [5] [] rfl ?_ (.c [] [] rfl ?_ (.c [6,7] [] rfl ?_ (.c [8] [] rfl ?_ (.c [] [] rfl ?_ (.c [9,10] [] rfl ?_ (.c [11] [] rfl ?_ (.c [4,12] [] rfl ?_ (.c [] [13] rfl ?_ (.c [] [14] rfl ?_ (.c [] [14] rfl ?_ (.c [] [15] rfl ?_ (.n))))))))))))))))))
         all_goals try exact stw
         ·rintro v lo hi W hb ⟨s0,s1,s2,s3,t0,t1,t2,t3⟩ _;refine .inl ⟨rfl,fun K hK=>?_⟩;simp only [ov,vat,Nat.reduceBEq,cond_true,cond_false];go_wp2_with (go_at_call 92;(with_reducible refine (HWO.out _ hb).mono ?_);rintro e w9 ⟨v',rfl,ht9,hb9⟩)
          exact acx (hK (.tuple #[v',.bool true]) w9 hb9 ⟨v',rfl,ht9⟩) (by simp [ov,vat,upd])
         ·rintro v lo hi W hb ⟨s0,s1,s2,s3,t0,t1,t2,t3⟩ ⟨⟨la13,lb13,D13⟩,_⟩;refine .inl ⟨rfl,fun K hK=>?_⟩;simp only [ov,vat,Nat.reduceBEq,cond_true,cond_false]
          (try dsimp only at D13)
          obtain ⟨v8,e8,_⟩:=D13;go_wp2_with fail
          exact acx (hK (v 13) W (Below.refl _ _) ⟨rfl,v8,e8⟩) (by simp [ov,vat,upd,e8])
         ·rintro v lo hi W hb ⟨s0,s1,s2,s3,t0,t1,t2,t3⟩ ⟨⟨la14,lb14,D14⟩,_⟩;refine .inl ⟨rfl,fun K hK=>?_⟩;simp only [ov,vat,Nat.reduceBEq,cond_true,cond_false]
          (try dsimp only at D14)
          obtain ⟨-,v9,e9⟩:=D14;simp only [e9];go_wp2_with fail
          exact acx (hK v9 W (Below.refl _ _) ⟨v9,e9,rfl⟩) (by simp [ov,vat,upd,e9])
         ·rintro v lo hi W hb ⟨s0,s1,s2,s3,t0,t1,t2,t3⟩ ⟨⟨la14,lb14,D14⟩,_⟩;refine .inl ⟨rfl,fun K hK=>?_⟩;simp only [ov,vat,Nat.reduceBEq,cond_true,cond_false]
          (try dsimp only at D14)
          obtain ⟨-,v9,e9⟩:=D14;simp only [e9];go_wp2_with fail
          exact acx (hK W (Below.refl _ _)) (by simp [ov,vat,upd,e9])
         ·rintro v lo hi W hb ⟨s0,s1,s2,s3,t0,t1,t2,t3⟩ ⟨⟨la15,lb15,D15⟩,_⟩;refine .inl ⟨rfl,fun K hK=>?_⟩;simp only [ov,vat,Nat.reduceBEq,cond_true,cond_false]
          (try dsimp only at D15)
          obtain ⟨v9,e9,e15⟩:=D15;go_wp2_with fail
          exact acx (hK (v 15) W (Below.refl _ _) ⟨v9,e9,e15⟩) (by simp [ov,vat,upd,e9,e15])
        case fin=>
         rintro v lo hi9 W2 hb ⟨s0,s1,s2,s3,t0,t1,t2,t3⟩ hf hap;show wpList _ _ _ [_] _ _;obtain ⟨l13,-,h13,v',e13,ht13⟩:=hf 13 rfl;obtain ⟨-,-,-,e14,-⟩:=hf 14 rfl;obtain ⟨-,-,-,v9,e14',e15⟩:=hf 17 rfl;have e16:v 16=.bool true:=(hf 16 rfl).2.2.2;clear hf hap s0 s1 s2 s3 t0 t1 t2 t3;rw [e14,e13] at e14';obtain rfl:v'=v9:=by simpa using e14'
         dsimp only;rw [e15,e16];clear e14 e14' e13 e15 e16;generalize lo 13=l13v at *;generalize hi9 13=h13v at *;generalize v 0=z0,v 1=z1,v 2=z2,v 3=z3,v 4=z4,v 5=z5,v 6=z6,v 7=z7,v 8=z8,v 9=z9,v 10=z10,v 11=z11,v 12=z12,v 13=z13,v 14=z14;obtain ⟨va,vc,rfl,_⟩:=ht13.form;have HT7:=hq_ ht13;have HE7:=hq_ hb;have hz7:=hb.size;clear ht13 hb;go_wp2_with (at_builtin;refine er_ rq_ _ _ rq_ (fun k=>k≤w.heap.size+2∨k=b6) wo.heap.size (.slice la Lk.length lc) Lk (.slice va (wiP u xp).length vc,wiP u xp) rq_ (HRT2.out.ext (Ea HE7.out _)) ((HT7.out.ext (Ea (Er W2) _)).mono fun b hb=>⟨fun h=>by rcases hb with ⟨⟨h1,h2⟩,h3⟩|h1 <;> rcases h with h|h <;> omega,fun e=>by have h4:=HRT2.out.own b e;have h5:=(HRT2.out.row.row.lt b e).2;rcases hb with ⟨⟨h1,h2⟩,h3⟩|h1 <;> omega⟩) _ _ rq_ sq_ (by intro h;simp at h;omega) HLK.out tq_ ?_;intro ga gc w8 ho8 hg8 hb8;have HO8:=hq_ ho8;have HB8:Hid (Below wo.heap.size wo w8):=hq_ ((HBQ2.out.trans ((Ea HE7.out (.cells #[.slice va (wiP u xp).length vc] 36)).mono hwz0)).trans hb8);clear ho8 hg8 hb8)
         go_roundw
         case rel=>
          have hle:(Lk ++ [(Value.slice va (wiP u xp).length vc,wiP u xp)]).length=Lk.length+1:=by simp
          refine ⟨i3+1,ga,gc,Lk ++ [(.slice va (wiP u xp).length vc,wiP u xp)],oq_,by go_num,by rw [hle],HB8,hq_ (by rw [hle];exact HO8.out),hq_ ?_⟩;rw [List.map_append,HEQ2.out,List.append_assoc]
          congr 1
          obtain ⟨h1,h2⟩:=List.getElem?_eq_some_iff.1 HXG.out;rw [List.take_succ_eq_append_getElem h1,List.map_append,h2];rfl
         case measure=>simp [intOf];omega
       ·obtain rfl:i3=t.length:=oq_;go_wp2_with fail
        go_roundw
        case rel=>exact ⟨i+1,la,lc,Lk,oq_,by go_num,rfl,HBQ2,HRT2,hq_ (by
         rw [HEQ2.out,List.take_of_length_le (l:=t) (Nat.le_refl _)];obtain ⟨h1,h2⟩:=List.getElem?_eq_some_iff.1 HMU.out;unfold minL;rw [List.take_succ_eq_append_getElem h1,List.flatMap_append,h2];simp)⟩
        case measure=>simp [intOf];omega
     ·obtain rfl:i=mk.length:=oq_;have hmx:MixR wr (fun _=>True) (.slice la Lk.length lc) (minL mk t):=⟨Lk,by rw [HEQ.out,List.take_of_length_le (Nat.le_refl _)],HRT.out.row.mix.mono fun _ _=>trivial⟩;have htl:(minL mk t).length≤256:=by rw [dz_];exact Nat.mul_le_mul hmkl htn4
      have HNOH:=hq_ (dy_ s _ _ (minL mk t) _ hmx (uo_ HMV.out.vt HVT2.out.fv) (fun x hx=>by obtain ⟨u,hu,f,hf,rfl⟩:=k1_.1 hx;rw [vz_];have:=HMV.out.tlen u hu;omega) oq_);have hwz:=HBQ.out.size;clear hmx;go_wp2_with (go_at_call 90;refine HNOH.out.mono ?_;rintro e w5 hres;obtain ⟨oa,oc,k9,mk9,rfl,hmr,hb5,hst⟩:=hres.num;have hE5:Below wo.heap.size wo w5:=Et HBQ.out hb5;have ho5:=HM.out.ms.obx.below hE5;have s1:=(ho5.cells 0).1;have s2:=(ho5.cells 0).2;have HMR:=hq_ hmr;have HST:=hq_ hst;have HO5:=hq_ ho5;have HE5:=hq_ hE5;clear hmr hst hres hb5 hE5 ho5)
      go_roundw
      case rel=>
       have hdr:m2.drop j=t :: m2.drop (j+1):=by
        obtain ⟨h1,h2⟩:=List.getElem?_eq_some_iff.1 HMT.out;rw [List.drop_eq_getElem_cons h1,h2]
       refine ⟨j+1,oa,oc,k9,mk9,oq_,by go_num,rfl,hq_ ⟨⟨?_,a4_ 0 _ HO5.out,?_,?_,hb6l,?_⟩,?_⟩⟩
       ·exact (HM.out.ms.below.trans (HE5.out.mono HM.out.ms.below.size)).setCell (p:=⟨b6,0,none⟩) (show w.heap.size≤b6 by omega) _
       ·exact Bxx.setNe (HM.out.ms.rbx.below HE5.out) _ oq_
       ·exact (HMR.out.set (b:=b6) oq_).mono fun b (hb:_≤b)=>⟨oq_,oq_⟩
       ·rcases HST.out with ⟨h1,h2,h3⟩|⟨h1,h2,h3,h4,m,h5,h6⟩
        ·exact .inl ⟨h1,h3,fun r hr=>HTO.out r (by rw [hdr];exact .step h2 ((d8_ h3.vt).1 h3.val) hr)⟩
        ·exact .inr ⟨h1,h2,h3,h4,HTO.out none (by rw [hdr];exact .big h5 h6)⟩
       ·exact Bxx.setNe (HM.out.yb.below HE5.out) _ oq_
      case measure=>simp [intOf];omega
   ·have HNO:=hq_ hnone;clear hnone;go_wp2_with fail
    have hcc:=Bxx.c0 (w:=wo.setCell ⟨w.heap.size+1+1,0,none⟩ (.slice none 0 0)) (a4_ 0 (.slice none 0 0) HM.out.ms.rbx);exact bodyPost_ret (v:=.tuple #[.agg #[.slice none 0 0],.int .i64 2]) (by simp [results,Tryz.results49,go_sem,hcc]) rfl ⟨.slice none 0 0,none,HNO.out,HM.out.ms.below.setCell (p:=⟨w.heap.size+1+1,0,none⟩) (by show w.heap.size≤w.heap.size+1+1;omega) _,.inr ⟨rfl,rfl⟩⟩
  ·obtain rfl:j=m2.length:=oq_;go_wp2_with fail
   have hcc:=Bxx.c0 (w:=wo.setCell ⟨w.heap.size+1+1,0,none⟩ (.slice a mk.length c)) (a4_ 0 (.slice a mk.length c) HM.out.ms.rbx);have hbe:=HM.out.ms.below.setCell (p:=⟨w.heap.size+1+1,0,none⟩) (by show w.heap.size≤w.heap.size+1+1;omega) (.slice a mk.length c);rcases HM.out.ms.st with ⟨rfl,hmv,hto⟩|⟨rfl,rfl,rfl,rfl,hnone⟩
   ·refine bodyPost_ret (v:=.tuple #[.agg #[.slice a mk.length c],.int .i64 0]) (by simp [results,Tryz.results49,go_sem,hcc]) rfl ⟨.slice a mk.length c,some mk,hto _ (by rw [List.drop_of_length_le (Nat.le_refl _)];exact .nil),hbe,.inl ⟨mk,rfl,hmv,rfl,?_⟩⟩;exact (HM.out.ms.mix.keep (fun b hb _=>Below.heap_setCell wo ⟨w.heap.size+1+1,0,none⟩ _ b (by show b≠w.heap.size+1+1;have:=hb.1;omega)) (by rw [World.size_setCell];exact Nat.le_refl _)).mono fun b hb=>by have:=hb.1;omega
   ·simp only [List.length_nil] at hcc;exact bodyPost_ret (v:=.tuple #[.agg #[.slice none 0 0],.int .i64 2]) (by simp [results,Tryz.results49,go_sem,hcc]) rfl ⟨.slice none 0 0,none,hnone,hbe,.inr ⟨rfl,rfl⟩⟩
theorem wh_ (s:Int) (F1 F2:Nat->Prop) (v1 v2:Value) (m1 m2:List (List Per)) (w:World) (h1:MixR w F1 v1 m1) (h2:MixR w F2 v2 m2) (k1:MV s m1) (k2:MV s m2) :
  Calls Tryz.prog 46 #[.agg #[v1],.agg #[v2]] w (c8_ s (m1 ++ m2) w):=by
 have HV1:=fun W (h:Below w.heap.size w W)=>cb_ F1 v1 m1 W (h1.ext h);have HV2:=fun W (h:Below w.heap.size w W)=>cb_ F2 v2 m2 W (h2.ext h);rw [k1.val] at HV1;rw [k2.val] at HV2;have l1:=k1.len;have l2:=k2.len;have HNO:Hid (∀ v W,MixR W (fun _=>True) v (m1 ++ m2)->Calls Tryz.prog 90 #[v] W (c8_ s (m1 ++ m2) W)):=hq_ fun v W h=>dy_ s _ v _ W h (fun t ht=>(List.mem_append.1 ht).elim (k1.vt t) (k2.vt t)) (fun t ht=>(List.mem_append.1 ht).elim (fun h=>by have:=k1.tlen t h;omega) fun h=>by have:=k2.tlen t h;omega) (by rw [List.length_append];omega);obtain ⟨a1,c1,rfl⟩:=h1.form;obtain ⟨a2,c2,rfl⟩:=h2.form;obtain ⟨L1,hL1,hM1⟩:=h1;obtain ⟨L2,hL2,hM2⟩:=h2;have e1:m1.length=L1.length:=by rw [<- hL1,List.length_map]
 have e2:m2.length=L2.length:=by rw [<- hL2,List.length_map]
 have HR1:=hq_ (fun W (h:Below w.heap.size w W)=>(by have:=(hM1.keep (a5_.below h) h.size).row;rwa [<- e1] at this:RowR W F1 (.slice a1 m1.length c1) m1.length (L1.map Prod.fst)));have HR2:=hq_ (fun W (h:Below w.heap.size w W)=>(by have:=(hM2.keep (a5_.below h) h.size).row;rwa [<- e2] at this:RowR W F2 (.slice a2 m2.length c2) m2.length (L2.map Prod.fst)));have HL1:Hid ((L1.map Prod.fst).length=m1.length*1):=hq_ (by rw [List.length_map];omega);have HL2:Hid ((L2.map Prod.fst).length=m2.length*1):=hq_ (by rw [List.length_map];omega);have HO1:=hq_ hM1.cells_one;have HO2:=hq_ hM2.cells_one;have HMX:Hid (∀ (B:Nat) (v:Value) (W:World),Below w.heap.size w W->W.ownsRow B 36 1 v (m1.length+m2.length) (L1.map Prod.fst ++ L2.map Prod.fst)->MixR W (fun _=>True) v (m1 ++ m2)):=hq_ fun B v W h ho=>by
  refine ⟨L1 ++ L2,by rw [List.map_append,hL1,hL2],kq_ (B:=B) ?_ (by rw [List.length_append];omega) fun x hx=>?_⟩
  ·rw [List.length_append,List.map_append,<- e1,<- e2];exact ho
  ·rcases List.mem_append.1 hx with hx|hx
   ·exact ⟨_,(hM1.all x hx).ext h⟩
   ·exact ⟨_,(hM2.all x hx).ext h⟩
 clear hM1 hM2 hL1 hL2 e1 e2 k1 k2
 go_enter Tryz.func46,Tryz.ntmps46
 go_wp2_with (first|(go_at_call 17;first
   | ((with_reducible refine (HV1 _ xE).mono ?_);rintro e w1 ⟨rfl,hb1⟩;have b0:Bxx w1 w.heap.size #[.slice a1 m1.length c1] 28:=Bxx.below xB hb1;have b1:Bxx w1 (w.heap.size+1) #[.slice a2 m2.length c2] 28:=Bxx.below xB hb1;have b2:Bxx w1 (w.heap.size+1+1) #[.slice none 0 0] 28:=Bxx.below xB hb1;have x0:=b0.c0;have x1:=b1.c0;have hW1:Below w.heap.size w w1:=by exact xE)
   | ((with_reducible refine (HV2 _ xE).mono ?_);rintro e w2 ⟨rfl,hb2⟩;have d0:=b0.below hb2;have d1:=b1.below hb2;have d2:=b2.below hb2;have y0:=d0.c0;have y1:=d1.c0;have y0a:=ag_ y0 (.cells #[] 36);have hW2:Below w.heap.size w w2:=by exact xE))|(at_builtin;first
   | (refine co_ rq_ _ _ rq_ w2.heap.size (.slice (some ⟨w2.heap.size,0,none⟩) 0 0) (.slice a1 m1.length c1) 0 m1.length [] (L1.map Prod.fst) F1 rq_ (World.ownsRow_lit (base:=w2.heap.size) (e:=36) (size:=1) w2 #[] 0 (Nat.le_refl _) (by unfold maxLen;omega) rfl) rq_ (HR1.out _ (Ea hW2 _)) HL1.out HO1.out oq_ sq_ ?_;intro v7 w7 hown7 hgrow7;rw [Nat.zero_add,List.nil_append] at hown7;have hE7:Below w2.heap.size w2 w7:=(Ea (Er w2) (.cells #[] 36)).grown hgrow7 sq_ (fun k e=>by simp [Value.ownBlock] at e;omega);obtain ⟨na7,nc7,rfl⟩:=cu_ hown7;have z1:=(d1.below hE7).c0;have HOWN7:=hq_ hown7;have HE7:=hq_ hE7;have hz7:=hE7.size;clear hown7 hgrow7 hE7)
   | (refine co_ rq_ _ _ rq_ w2.heap.size (.slice na7 m1.length nc7) (.slice a2 m2.length c2) m1.length m2.length _ _ F2 rq_ HOWN7.out rq_ (HR2.out _ (Et hW2 HE7.out)) HL2.out HO2.out oq_ hz7 ?_;intro v8 w8 hown8 hgrow8;have hE8:=HE7.out.grown hgrow8 HE7.out.size (fun k e=>(HOWN7.out.lt k e).1);have HMX8:=hq_ (HMX.out _ _ _ (Et hW2 hE8) hown8);have HE8:=hq_ hE8;clear hown8 hgrow8 hE8))|(go_at_call 90;refine (HNO.out _ _ HMX8.out).mono ?_;rintro e w5 ⟨v,m,hN,hvt,hb5,hres⟩;have g2:=(d2.below HE8.out).below hb5;have s1:=(g2.cells 0).1;have s2:=(g2.cells 0).2;have hW5:Below w.heap.size w w5:=Et (Et hW2 HE8.out) hb5;have hzz:=(d2.below HE8.out).lt;have HN:=hq_ hN;have HVV:=hq_ hvt;have G2:=hq_ g2;clear hN hvt g2;rcases hres with ⟨hval,rfl,hmr⟩|⟨hval,rfl⟩;(obtain ⟨xa,xc,rfl⟩:=hmr.form)))
 ·have hcc:=Bxx.c0 (w:=w5.setCell ⟨w.heap.size+1+1,0,none⟩ (.slice xa m.length xc)) (a4_ 0 (.slice xa m.length xc) G2.out);refine bodyPost_ret (v:=.tuple #[.agg #[.slice xa m.length xc],.int .i64 0]) (by simp [results,Tryz.results46,go_sem,hcc]) rfl ⟨_,m,HN.out,HVV.out,hW5.setCell (p:=⟨w.heap.size+1+1,0,none⟩) (by show w.heap.size≤w.heap.size+1+1;omega) _,.inl ⟨hval,rfl,?_⟩⟩;exact (hmr.set (b:=w.heap.size+1+1) (by first|omega|(simp;omega))).mono fun b (hb:_≤b)=>by first|omega|(simp at hb;omega)
 ·have hcc:=Bxx.c0 (w:=w5.setCell ⟨w.heap.size+1+1,0,none⟩ (.slice none 0 0)) (a4_ 0 (.slice none 0 0) G2.out);exact bodyPost_ret (v:=.tuple #[.agg #[.slice none 0 0],.int .i64 2]) (by simp [results,Tryz.results46,go_sem,hcc]) rfl ⟨.slice none 0 0,m,HN.out,HVV.out,hW5.setCell (p:=⟨w.heap.size+1+1,0,none⟩) (by show w.heap.size≤w.heap.size+1+1;omega) _,.inr ⟨hval,rfl⟩⟩
theorem u4_ {x:List Per} (hk:m1[k]? = some x):ao_ (m1.take (k+1)) m2=ao_ (m1.take k) m2 ++ (m2.take m2.length).map (x ++ ·):=by rw [List.take_length];exact mg_ hk
structure RPS (w W0:World) (n:Nat) (ov:Value) (Lk:List (Value × List Per)) (T:List (List Per)) (W:World):Prop where
 below:Below W0.heap.size W0 W
 row:OwnT (fun _=>False) W0.heap.size W ov Lk
 eq:Lk.map Prod.snd=T
 len:Lk.length≤n
theorem qr_ (F1 F2:Nat->Prop) (v1 v2:Value) (m1 m2:List (List Per)) (w:World) (h1:MixR w F1 v1 m1) (h2:MixR w F2 v2 m2) (k1:m1.length≤64) (k2:m2.length≤64) (t1:∀ t∈m1,t.length≤4) (t2:∀ t∈m2,t.length≤4) :
  Calls Tryz.prog 79 #[.agg #[v1],.agg #[v2]] w fun e w'=>∃ v,e=.returned v∧MixR w' (fun _=>True) v (ao_ m1 m2)∧Below w.heap.size w w':=by
 obtain ⟨L1,hL1,hM1⟩:=h1;obtain ⟨L2,hL2,hM2⟩:=h2;obtain ⟨a1,c1,rfl,_⟩:=hM1.row.is;obtain ⟨a2,c2,rfl,_⟩:=hM2.row.is;have e1:m1.length=L1.length:=by rw [<- hL1,List.length_map]
 have e2:m2.length=L2.length:=by rw [<- hL2,List.length_map]
 have HM1:=hq_ hM1.lt;have HM2:=hq_ hM2.lt;have HL1:=hq_ hL1;have HL2:=hq_ hL2;have HT1:=hq_ t1;have HT2:=hq_ t2;rw [e1] at k1;rw [e2] at k2;have HE2:=hq_ e2;clear hM1 hM2 hL1 hL2 t1 t2 e1 e2
 go_enter Tryz.func79,Tryz.ntmps79
 go_wp2_with fail
 generalize hW0:(w.alloc (.cells #[.slice a1 L1.length c1] 28)).alloc (.cells #[.slice a2 L2.length c2] 28)=W0;have hx0:W0.cell? ⟨w.heap.size,0,none⟩=some (.slice a1 L1.length c1):=by rw [<- hW0];exact ((Bxx.new w _ _).alloc _).c0
 have hx1:W0.cell? ⟨w.heap.size+1,0,none⟩=some (.slice a2 L2.length c2):=by rw [<- hW0];exact (Bxx.at (w:=w.alloc (.cells #[.slice a1 L1.length c1] 28)) (c:=#[.slice a2 L2.length c2]) (t:=28) sq_).c0
 have hE0:Below w.heap.size w W0:=by rw [<- hW0];exact xE
 have hsz:W0.heap.size=w.heap.size+2:=by rw [<- hW0];simp
 have HE0:=hq_ hE0;have HX0:=hq_ hx0;have HX1:=hq_ hx1;have HST:Hid (RPS w W0 (0*64) (.slice (some ⟨w.heap.size+1+1,0,none⟩) 0 0) [] (ao_ (m1.take 0) m2) (W0.alloc (.cells #[] 36))):=hq_ (by
  rw [show w.heap.size+1+1=W0.heap.size by omega];exact ⟨Ea (Er W0) _,OwnT.of (B:=W0.heap.size) (World.ownsRow_lit (base:=W0.heap.size) (e:=36) (size:=1) W0 #[] 0 (Nat.le_refl _) (by unfold maxLen;omega) rfl) (Nat.le_refl _) sq_ (fun _ _ h=>h) sq_,rfl,sq_⟩)
 clear hW0 hx0 hx1 hE0
 go_loopw [5,6,7,8] (fun ov i _ _ wr=>∃ (k:Nat) (Lk:List (Value × List Per)),k≤L1.length∧i=.int .i64 k∧Hid (RPS w W0 (k*64) ov Lk (ao_ (m1.take k) m2) wr)) (fun _ i _ _ _=>L1.length-(intOf i).toNat)
 case atStart=>exact ⟨0,[],oq_,rfl,HST⟩
 case round=>
  obtain ⟨k,Lk,hk,rfl,HS⟩:=hrel;clear HST;obtain ⟨pa,pc,rfl,-⟩:=HS.out.row.row.form;have q0:=Ext.cell HS.out.below HX0.out
  by_cases hlt:k<L1.length
  ·have hlI:(k:Int)<L1.length:=oq_;obtain ⟨b,o,c9,xa,xn,xc,xt,ha,q3w,htx,hdx⟩:=HM1.out.at hlt;cases ha;obtain ⟨_,_,ha,_⟩:=htx.form;cases ha;rw [HL1.out] at hdx;have hxl:=HT1.out xt (List.mem_of_getElem? hdx);have HPR:=hq_ (u4_ (m2:=m2) hdx);have HQ3:=hq_ q3w;have HS0:Hid (RPS w W0 (k*64+0) (.slice pa Lk.length pc) Lk (ao_ (m1.take k) m2 ++ (m2.take 0).map (xt ++ ·)) wr):=hq_ (by simpa using HS.out);obtain ⟨X,hX,hXL⟩:=htx;have hxn:xt.length=X.length:=by rw [<- hX,List.length_map]
   have HRX:=hq_ (fun W (h:Below w.heap.size w W)=>(by have:=(hXL.keep (a5_.below h) h.size).row;rwa [<- hxn] at this:RowR W _ (.slice xa xt.length xc) xt.length (X.flatMap PV.enc)));have HFX:Hid ((X.flatMap PV.enc).length=xt.length*4):=hq_ (by rw [c3_,hxn]);have HOX:=hq_ hXL.cells_one;have HXN:=hq_ hxn;have HXL:=hq_ hXL;have HXX:=hq_ hX;clear hdx HS hX hXL hxn q3w;have q1:=Ext.cell HS0.out.below HX1.out;go_wp2_with fail
   go_loopw [5,7,8] (fun ov i _ wq=>∃ (j:Nat) (Lk:List (Value × List Per)),j≤L2.length∧i=.int .i64 j∧Hid (RPS w W0 (k*64+j) ov Lk (ao_ (m1.take k) m2 ++ (m2.take j).map (xt ++ ·)) wq)) (fun _ i _ _=>L2.length-(intOf i).toNat)
   case atStart=>exact ⟨0,Lk,oq_,rfl,HS0⟩
   case round=>
    obtain ⟨j,Mk,hj,rfl,HJ⟩:=hrel;clear HS0;obtain ⟨oa,oc,rfl,-⟩:=HJ.out.row.row.form;have hmk:=HJ.out.len;have hzj:=HJ.out.below.size;have HWJ:=hq_ (Et HE0.out HJ.out.below);have q0:=Ext.cell HJ.out.below HX0.out;have q1:=Ext.cell HJ.out.below HX1.out
    by_cases hjl:j<L2.length
    ·have hjI:(j:Int)<L2.length:=oq_;obtain ⟨b',o',c9,ya,yn,yc,yt,ha,q4w,hty,hdy⟩:=HM2.out.at hjl;cases ha;obtain ⟨_,_,ha,_⟩:=hty.form;cases ha;rw [HL2.out] at hdy;have hyl:=HT2.out yt (List.mem_of_getElem? hdy);have q3:=Ext.cell HWJ.out HQ3.out;have q4:=Ext.cell HWJ.out q4w;have q0a:=ag_ q0 (.cells #[] 39);have q3a:=ag_ q3 (.cells #[] 39);obtain ⟨Y,hY,hYL⟩:=hty;have hyn:yt.length=Y.length:=by rw [<- hY,List.length_map]
     have HRY:=hq_ (fun W (h:Below w.heap.size w W)=>(by have:=(hYL.keep (a5_.below h) h.size).row;rwa [<- hyn] at this:RowR W _ (.slice ya yt.length yc) yt.length (Y.flatMap PV.enc)));have HFY:Hid ((Y.flatMap PV.enc).length=yt.length*4):=hq_ (by rw [c3_,hyn]);have HOY:=hq_ hYL.cells_one;have HTK:Hid ((m2.take (j+1)).map (xt ++ ·)=(m2.take j).map (xt ++ ·) ++ [xt ++ yt]):=hq_ (by rw [List.take_add_one,hdy];simp);have HTM:Hid (∀ v W,Below wr.heap.size wr W->W.ownsRow wr.heap.size 39 4 v (xt.length+yt.length) (X.flatMap PV.enc ++ Y.flatMap PV.enc)->ab_ W (fun b=>b<w.heap.size∨wr.heap.size≤b) v (xt ++ yt)):=hq_ fun v W h ho=>by
      refine ⟨X ++ Y,by rw [List.map_append,HXX.out,hY],gf_ (B:=wr.heap.size) ?_ (fun b hb=>.inr hb) (by rw [List.length_append,<- HXN.out,<- hyn];omega) fun x hx=>?_⟩
      ·rw [List.length_append,<- HXN.out,<- hyn,List.flatMap_append];exact ho
      ·rcases List.mem_append.1 hx with hx|hx
       ·exact ((HXL.out.all x hx).keep (a5_.below (Et HWJ.out h))).mono fun b hb=>.inl hb.2
       ·exact ((hYL.all x hx).keep (a5_.below (Et HWJ.out h))).mono fun b hb=>.inl hb.2
     clear hY hYL hyn hdy q4w;go_wp2_with (at_builtin;first
      | (refine by_ rq_ _ _ rq_ wr.heap.size (.slice (some ⟨wr.heap.size,0,none⟩) 0 0) (.slice xa xt.length xc) 0 xt.length [] (X.flatMap PV.enc) _ rq_ (World.ownsRow_lit (base:=wr.heap.size) (e:=39) (size:=4) wr #[] 0 (Nat.le_refl _) (by unfold maxLen;omega) rfl) rq_ (HRX.out _ (Ea HWJ.out _)) HFX.out HOX.out oq_ sq_ ?_;intro v7 w7 hown7 hgrow7;rw [Nat.zero_add,List.nil_append] at hown7;have hE7:Below wr.heap.size wr w7:=(Ea (Er wr) (.cells #[] 39)).grown hgrow7 sq_ (fun k e=>by simp [Value.ownBlock] at e;omega);obtain ⟨na7,nc7,rfl⟩:=bm_ hown7;have z1:=Ext.cell hE7 q1;have z4:=Ext.cell hE7 q4;have HOWN7:=hq_ hown7;have HE7:=hq_ hE7;have hz7:=hE7.size;clear hown7 hgrow7 hE7)
      | (refine by_ rq_ _ _ rq_ wr.heap.size (.slice na7 xt.length nc7) (.slice ya yt.length yc) xt.length yt.length _ _ _ rq_ HOWN7.out rq_ (HRY.out _ (Et HWJ.out HE7.out)) HFY.out HOY.out oq_ hz7 ?_;intro v8 w8 hown8 hgrow8;have hE8:=HE7.out.grown hgrow8 HE7.out.size (fun k e=>(HOWN7.out.lt k e).1);obtain ⟨na8,nc8,rfl⟩:=bm_ hown8;have HTM8:=hq_ (HTM.out _ _ hE8 hown8);have HE8:=hq_ hE8;have hz8:=hE8.size;clear hown8 hgrow8 hE8)
      | (refine er_ rq_ _ _ rq_ (fun _=>False) W0.heap.size (.slice oa Mk.length oc) Mk (.slice na8 (xt.length+yt.length) nc8,xt ++ yt) rq_ (HJ.out.row.ext (Ea HE8.out _)) ((HTM8.out.ext (Ea (Er w8) _)).mono fun b hb=>⟨fun h=>h,fun e=>by have h1:=HJ.out.row.own b e;have h2:=(HJ.out.row.row.row.lt b e).2;omega⟩) _ _ rq_ sq_ (fun h=>h) oq_ tq_ ?_;intro ga gc w9 ho9 hg9 hb9;have HO9:=hq_ ho9;have HB9:Hid (Below W0.heap.size W0 w9):=hq_ ((HJ.out.below.trans ((Ea HE8.out (.cells #[.slice na8 (xt.length+yt.length) nc8] 36)).mono hzj)).trans hb9);clear ho9 hg9 hb9))
     go_roundw
     case rel=>exact ⟨j+1,Mk ++ [(.slice na8 (xt.length+yt.length) nc8,xt ++ yt)],oq_,by go_num,hq_ ⟨HB9.out,HO9.out,by rw [List.map_append,HJ.out.eq,HTK.out,List.append_assoc];rfl,tq_⟩⟩
     case measure=>simp [intOf];omega
    ·obtain rfl:j=L2.length:=oq_;go_wp2_with fail
     go_roundw
     case rel=>exact ⟨k+1,Mk,oq_,by go_num,hq_ ⟨HJ.out.below,HJ.out.row,by rw [HJ.out.eq,HPR.out,HE2.out],oq_⟩⟩
     case measure=>simp [intOf];omega
  ·obtain rfl:k=L1.length:=oq_;go_wp2_with fail
   go_ret;exact ⟨_,rfl,⟨Lk,by rw [HS.out.eq,List.take_of_length_le (by rw [<- HL1.out,List.length_map];exact Nat.le_refl _)],HS.out.row.mix.mono fun _ _=>trivial⟩,Et HE0.out HS.out.below⟩
theorem v5_ (s:Int) (F1 F2:Nat->Prop) (v1 v2:Value) (m1 m2:List (List Per)) (w:World) (h1:MixR w F1 v1 m1) (h2:MixR w F2 v2 m2) (k1:MV s m1) (k2:MV s m2) :
  Calls Tryz.prog 48 #[.agg #[v1],.agg #[v2]] w (c8_ s (ao_ m1 m2) w):=by
 have HV1:=fun W (h:Below w.heap.size w W)=>cb_ F1 v1 m1 W (h1.ext h);have HV2:=fun W (h:Below w.heap.size w W)=>cb_ F2 v2 m2 W (h2.ext h);rw [k1.val] at HV1;rw [k2.val] at HV2;have l1:=k1.len;have l2:=k2.len;have HVT:Hid (∀ t∈ao_ m1 m2,aw_ s t∧t.length≤1000):=hq_ fun t ht=>by
  obtain ⟨x,hx,y,hy,rfl⟩:=hi_.1 ht;have h3:=k1.tlen x hx;have h4:=k2.tlen y hy;exact ⟨⟨fun e=>(k1.vt x hx).ne (List.append_eq_nil_iff.1 e).1,fun p hp=>(List.mem_append.1 hp).elim ((k1.vt x hx).fv p) ((k2.vt y hy).fv p),by rw [List.length_append];omega⟩,by rw [List.length_append];omega⟩
 have hpl:(ao_ m1 m2).length≤4096:=by rw [gd_];exact Nat.mul_le_mul l1 l2
 have HPA:=hq_ (fun W (h:Below w.heap.size w W)=>qr_ F1 F2 v1 v2 m1 m2 W (h1.ext h) (h2.ext h) l1 l2 k1.tlen k2.tlen);have HNO:Hid (∀ v W,MixR W (fun _=>True) v (ao_ m1 m2)->Calls Tryz.prog 90 #[v] W (c8_ s (ao_ m1 m2) W)):=hq_ fun v W h=>dy_ s _ v _ W h (fun t ht=>(HVT.out t ht).1) (fun t ht=>(HVT.out t ht).2) oq_;obtain ⟨a1,c1,rfl⟩:=h1.form;obtain ⟨a2,c2,rfl⟩:=h2.form;clear h1 h2 k1 k2 hpl
 go_enter Tryz.func48,Tryz.ntmps48
 go_wp2_with (first|(go_at_call 17;first
   | ((with_reducible refine (HV1 _ xE).mono ?_);rintro e w1 ⟨rfl,hb1⟩;have b0:Bxx w1 w.heap.size #[.slice a1 m1.length c1] 28:=Bxx.below xB hb1;have b1:Bxx w1 (w.heap.size+1) #[.slice a2 m2.length c2] 28:=Bxx.below xB hb1;have b2:Bxx w1 (w.heap.size+1+1) #[.slice none 0 0] 28:=Bxx.below xB hb1;have x0:=b0.c0;have x1:=b1.c0;have hW1:Below w.heap.size w w1:=by exact xE)
   | ((with_reducible refine (HV2 _ xE).mono ?_);rintro e w2 ⟨rfl,hb2⟩;have d0:=b0.below hb2;have d1:=b1.below hb2;have d2:=b2.below hb2;have y0:=d0.c0;have y1:=d1.c0;have hW2:Below w.heap.size w w2:=by exact xE))|(go_at_call 79;refine (HPA.out _ hW2).mono ?_;rintro e w4 ⟨v4,rfl,hm4,hb4⟩;have HM4:=hq_ hm4;have HB4:=hq_ hb4;clear hm4 hb4)|(go_at_call 90;refine (HNO.out _ _ HM4.out).mono ?_;rintro e w5 ⟨v,m,hN,hvt,hb5,hres⟩;have g2:=(d2.below HB4.out).below hb5;have s1:=(g2.cells 0).1;have s2:=(g2.cells 0).2;have hW5:Below w.heap.size w w5:=Et (Et hW2 HB4.out) hb5;have hzz:=(d2.below HB4.out).lt;have HN:=hq_ hN;have HVV:=hq_ hvt;have G2:=hq_ g2;clear hN hvt g2;rcases hres with ⟨hval,rfl,hmr⟩|⟨hval,rfl⟩;(obtain ⟨xa,xc,rfl⟩:=hmr.form)))
 ·have hcc:=Bxx.c0 (w:=w5.setCell ⟨w.heap.size+1+1,0,none⟩ (.slice xa m.length xc)) (a4_ 0 (.slice xa m.length xc) G2.out);refine bodyPost_ret (v:=.tuple #[.agg #[.slice xa m.length xc],.int .i64 0]) (by simp [results,Tryz.results48,go_sem,hcc]) rfl ⟨_,m,HN.out,HVV.out,hW5.setCell (p:=⟨w.heap.size+1+1,0,none⟩) (by show w.heap.size≤w.heap.size+1+1;omega) _,.inl ⟨hval,rfl,?_⟩⟩;exact (hmr.set (b:=w.heap.size+1+1) (by first|omega|(simp;omega))).mono fun b (hb:_≤b)=>by first|omega|(simp at hb;omega)
 ·have hcc:=Bxx.c0 (w:=w5.setCell ⟨w.heap.size+1+1,0,none⟩ (.slice none 0 0)) (a4_ 0 (.slice none 0 0) G2.out);exact bodyPost_ret (v:=.tuple #[.agg #[.slice none 0 0],.int .i64 2]) (by simp [results,Tryz.results48,go_sem,hcc]) rfl ⟨.slice none 0 0,m,HN.out,HVV.out,hW5.setCell (p:=⟨w.heap.size+1+1,0,none⟩) (by show w.heap.size≤w.heap.size+1+1;omega) _,.inr ⟨hval,rfl⟩⟩
theorem n2_ {b:Int} (h:FV s p) (he:shE p b=0):FV (max (s+b) 0) (shP p b):=by
 refine ⟨(ld_ h.fac).2,?_⟩;unfold shE at he
 split at he
 ·cases he
 ·split at he
  ·assumption
  ·cases he
theorem to_ (h c:Value) (p:Per) (b:Int) (w:World) (hp:a8_ w h c p) (hv:Valid p) (hbad:b < -1099511627776∨1099511627776<b) :
  Calls Tryz.prog 93 #[perV h c p.frm p.period,.int .i64 b] w (gl_ 1 w):=by
 have hl:∀ W,Below w.heap.size w W->a8_ W h c p:=fun W hb=>hp.ext hb;have HV:=hq_ ((as_ p).2 hv);clear hp hv;rcases hbad with hlo|hhi
 all_goals
  go_enter Tryz.func93,Tryz.ntmps93
  go_wp2_with (go_at_call 65;refine (cd_ h c p _ (hl _ xE)).mono ?_;rintro e w1 ⟨he,hb1⟩;rw [HV.out] at he;subst he;obtain ⟨hc1,hf1⟩:=au_ hb1;(try simp only [World.size_alloc,World.size_drew,af_,World.size_setCell] at hc1 hf1);have hz1:=hb1.size;(try simp only [World.size_alloc,World.size_drew,af_,World.size_setCell] at hz1);have hz1':w.heap.size+1<w1.heap.size:=oq_)
  refine bodyPost_ret (v:=.tuple #[perV (.slice none 0 0) (.slice none 0 0) 0 0,.int .i64 1]) ?_ rfl ⟨rfl,xE⟩;simp [results,Tryz.results93,go_sem, *]
theorem ur_ (s b:Int) (h c:Value) (p:Per) (w:World) (hp:a8_ w h c p) (hv:FV s p) (hb:InI b) :
  Calls Tryz.prog 93 #[perV h c p.frm p.period,.int .i64 b] w fun e w'=>(shE p b=0∧b6_ (shP p b) w e w')∨(∃ k,(k=1∨k=2)∧shE p b=k∧gl_ k w e w'):=by
 by_cases hr:b < -1099511627776∨1099511627776<b
 ·refine (to_ h c p b w hp hv.valid hr).mono fun e w' h=>.inr ⟨1,.inl rfl,if_pos hr,h⟩
 ·refine (vd_ h c p (shP p b) b w hp hv.valid oq_ oq_ ?_).mono fun e w' h=>?_
  ·exact (ld_ hv.fac).1.congr fun n=>by unfold shS en_;exact Iff.rfl
  ·by_cases hf:(shP p b).frm≤1099511627776
   ·exact .inl ⟨by unfold shE;rw [if_neg hr,if_pos hf],h.1 hf⟩
   ·exact .inr ⟨2,.inr rfl,by unfold shE;rw [if_neg hr,if_neg hf],h.2 oq_⟩
def n4_ (s b:Int) (m:List (List Per)) (w:World) (e:Ending) (w':World):Prop:=
 ((
  ∀ t∈m,∀ p∈t,shE p b=0)∧c8_ (max (s+b) 0) (shL m b) w e w') ∨
  ∃ k,(∃ t∈m,∃ p∈t,shE p b=k)∧k≠0∧e=.returned (.tuple #[.agg #[.slice none 0 0],.int .i64 k])∧Below w.heap.size w w'
noncomputable def h9_ (t:List Per) (b:Int) (i:Nat):List Per:=(t.take i).map (fun p=>shP p b) ++ List.replicate (t.length-i) ⟨[],0,0,[]⟩
theorem sx_ {b:Int} (h:i<t.length) (hp:t.getD i default=p):(h9_ t b i).set i (shP p b)=h9_ t b (i+1):=by
 have hl:((t.take i).map (fun p=>shP p b)).length=i:=by simp;omega
 unfold h9_;rw [List.set_append_right _ _ oq_,hl,Nat.sub_self,show t.length-i=(t.length-(i+1))+1 by omega,List.replicate_succ,List.set_cons_zero,List.take_succ_eq_append_getElem h,List.map_append,List.append_assoc];have:t[i]=p:=by rw [<- hp,List.getD_eq_getElem?_getD,List.getElem?_eq_getElem h];rfl
 rw [this];rfl
theorem tr_ {b:Int}:h9_ t b t.length=t.map fun p=>shP p b:=by unfold h9_;simp
structure SS (s b:Int) (m:List (List Per)) (w:World) (j:Nat) (lv:Value) (Lk:List (Value × List Per)) (W:World):Prop where
 below:Below w.heap.size w W
 rbx:Bxx W (w.heap.size+1) #[.slice none 0 0] 28
 row:RowT w.heap.size (fun k=>k=w.heap.size∨k=w.heap.size+1) W lv Lk
 own:∀ g,lv.ownBlock=some g->w.heap.size+2≤g
 eq:Lk.map Prod.snd=shL (m.take j) b
 ok:∀ t∈m.take j,∀ p∈t,shE p b=0
theorem j1_ {b:Int}:(shL m b).length=m.length:=by unfold shL;simp
theorem vo_ {b:Int} (k:MV s m) (h:∀ t∈m,∀ p∈t,shE p b=0):∀ t∈shL m b,aw_ (max (s+b) 0) t:=fun t ht=>by
 obtain ⟨u,hu,rfl⟩:=List.mem_map.1 ht;have hv:=k.vt u hu;refine ⟨fun e=>hv.ne (List.map_eq_nil_iff.1 e),fun p hp=>?_,by simpa using hv.len⟩;obtain ⟨q,hq,rfl⟩:=List.mem_map.1 hp;exact n2_ (hv.fv q hq) (h u hu q hq)
theorem ru_ (s b:Int) (F:Nat->Prop) (v:Value) (m:List (List Per)) (w:World) (hm:MixR w F v m) (k1:MV s m) (hb:InI b) :
  Calls Tryz.prog 50 #[.agg #[v],.int .i64 b] w (n4_ s b m w):=by
 have HV1:=fun W (h:Below w.heap.size w W)=>bh_ F v m W (hm.ext h);rw [k1.val] at HV1;have l1:=k1.len;obtain ⟨a1,c1,rfl⟩:=hm.form;have HM1:=hq_ hm;have HK1:=hq_ k1;have HBI:=hq_ hb;obtain ⟨bi,hbi,hbz,hbs,hby⟩:=f1_;clear hm k1 hb
 go_enter Tryz.func50,Tryz.ntmps50
 go_wp2_with ((go_at_call 18;((with_reducible refine (HV1 _ (Ea (Ea (Er w) _) _)).mono ?_);rintro e w1 ⟨rfl,hb1⟩;have b0:Bxx w1 w.heap.size #[.slice a1 m.length c1] 28:=Bxx.below xB hb1;have b1:Bxx w1 (w.heap.size+1) #[.slice none 0 0] 28:=Bxx.below xB hb1;have x0:=b0.c0;have hW1:Below w.heap.size w w1:=Et (Ea (Ea (Er w) _) _) hb1;have HB0:=hq_ b0;have HB1:=hq_ b1;clear b0 b1)))
 have hss:SS s b m w 0 (.slice none 0 0) [] w1:=⟨hW1,HB1.out,RowT.nil _ _ _,by simp [Value.ownBlock],rfl,sq_⟩;have HSS:=hq_ hss;have HW1:=hq_ hW1;clear hss hW1 hb1 HV1
 go_loopw [5,6,8,9,10,11,12,13,21] (fun s5 lv _ _ _ _ _ _ idx wq=>∃ (j:Nat) (la:Option Addr) (lc:Nat) (Lk:List (Value × List Per)),j≤m.length∧s5=.int .i64 0∧idx=.int .i64 j∧lv=.slice la Lk.length lc∧Hid (SS s b m w j (.slice la Lk.length lc) Lk wq)) (fun _ _ _ _ _ _ _ _ idx _=>m.length-(intOf idx).toNat)
 case atStart=>exact ⟨0,none,0,[],oq_,rfl,rfl,rfl,HSS⟩
 case round=>
  obtain ⟨j,la,lc,Lk,hj,rfl,rfl,rfl,HS⟩:=hrel;obtain ⟨wo,hwo⟩:∃ wo,wo=wr:=⟨_,rfl⟩;subst hwo
  by_cases hjl:j<m.length
  ·have hjI:(j:Int)<m.length:=oq_;obtain ⟨L2,hL2,hml⟩:=HM1.out.ext HS.out.below;have hl2:L2.length=m.length:=by rw [<- hL2,List.length_map]
   obtain ⟨b8,f8,c8,ta,tn,tc,t,he,e0,htt,hmt⟩:=hml.at (show j<L2.length by omega);injection he with q1 q2 q3
   subst q1;subst q3;rw [hL2] at hmt;obtain ⟨tL,htL,htl⟩:=htt;obtain ⟨_,_,he,_⟩:=htl.row.is;have htn:tn=t.length:=by injection he with _ h _;rw [h,<- htL,List.length_map]
   have htn4:tn≤4:=by rw [htn];exact HK1.out.tlen t (List.mem_of_getElem? hmt)
   have HTN:=hq_ htn;have HMT:=hq_ hmt;have HTL:=hq_ htl;have HTE:=hq_ htL;clear q2 hml hmt hL2 hl2 htl he htn htL;go_wp2_with (at_make;refine wpList_make_full _ rfl _ _ 36 rfl wo.heap.size 39 bi (.agg #[.slice none 0 0,.int .i64 0,.int .i64 0,.slice none 0 0]) 4 Tryz.underlying36 hbi hbz hbs .i64 .i64 _ _ tn rfl rfl rfl rfl (by rw [hby];omega) (by unfold maxLen;omega) sq_ ?_;intro w3 hown3 hgrow3;have hb3:Below wo.heap.size wo w3:=((Below.refl _ _).grown hgrow3 sq_ (fun k e=>by cases e)))
   rw [qa_] at hown3;have hrow0:Row4 wo.heap.size wo.heap.size tn w3 (List.replicate tn (default:PV)):=⟨by rw [List.length_replicate];exact hown3,fun x hx=>by rw [List.eq_of_mem_replicate hx];exact ku_ _ _,sq_,oq_⟩;have HR0:=hq_ hrow0;have HB3:=hq_ hb3;clear hown3 hgrow3 hrow0 hb3
   go_loopw [5,10,11,12,13,30] (fun s5 _ _ _ _ idx wq=>∃ (i:Nat) (M:List PV),i≤tn∧s5=.int .i64 0∧idx=.int .i64 i∧Hid (M.length=tn)∧Hid (M.map PV.p=h9_ t b i)∧Hid (Row4 wo.heap.size wo.heap.size tn wq M)∧Hid (Below wo.heap.size wo wq)∧Hid (∀ p∈t.take i,shE p b=0)) (fun _ _ _ _ _ idx _=>tn-(intOf idx).toNat)
   case atStart=>exact ⟨0,_,oq_,rfl,rfl,hq_ sq_,hq_ (by unfold h9_;rw [HTN.out];simp [show (default:PV).p=⟨[],0,0,[]⟩ from rfl]),HR0,HB3,hq_ sq_⟩
   case round=>
    obtain ⟨i,M,hi,rfl,rfl,HLE,HEQ,HR,HBQ,HOK⟩:=hrel
    by_cases hil:i<tn
    ·have hiI:(i:Int)<tn:=oq_;have htl2:=HTL.out.keep (a5_.below HBQ.out) HBQ.out.size;have htLl:tL.length=tn:=by have:=congrArg List.length HTE.out;rw [List.length_map] at this;rw [this];exact HTN.out.symm
     obtain ⟨bt,ot,x,ha,hx,hxp,_,z0,z1,z2,z3⟩:=htl2.get (show i<tL.length by omega);subst ha;have hfx:=(HK1.out.vt t (List.mem_of_getElem? HMT.out)).fv x.p (by rw [hxp,HTE.out];exact aa_ (by rw [<- HTN.out];exact hil));have hxg:t.getD i default=x.p:=by rw [hxp,HTE.out]
     obtain ⟨xh,xc,xp⟩:=x;obtain ⟨ax1,nx1,cx1,ax2,nx2,cx2,rfl,rfl⟩:=hx.form;dsimp only at z0 z1 z2 z3 hfx hxg;have HSH:=fun W (h:Below wr.heap.size wr W)=>ur_ s b _ _ xp W (hx.is.ext h) hfx HBI.out;simp only [perV] at HSH;have HFX:=hq_ hfx;have HXG:=hq_ hxg;have hle:=HR.out.le;clear htl2 htLl hx hxp hfx hxg;go_wp2_with (go_at_call 93;((with_reducible refine (HSH _ (Ea (Er wr) _)).mono ?_);rintro e w7 h7;rcases h7 with ⟨he0,h',c',rfl,ho,hb7⟩|⟨k,hk,hek,rfl,hb7⟩;(obtain ⟨ya,yn,yc,za,zn,zc,rfl,rfl⟩:=(ho.pv (n2_ HFX.out he0)).form;have hpv:=ho.pv (n2_ HFX.out he0);have hE7:Below wr.heap.size wr w7:=Et (Ea (Er wr) _) hb7;obtain ⟨-,g0,g1,g2,g3,g4⟩:=((HR.out.below hE7).below (Ea (Er w7) (.cells #[.slice ya yn yc,.int .i64 (shP xp b).frm,.int .i64 (shP xp b).period,.slice za zn zc] 39))).get (show i<M.length by have:=HLE.out;omega);have HPV:=hq_ hpv;have HE7:=hq_ hE7;have HE0:=hq_ he0;clear ho hpv hE7 he0 hb7);rotate_left;(have hE7:Below wo.heap.size wo w7:=Et (Ea HBQ.out _) hb7;have hbx:=(HS.out.rbx.below hE7).alloc (.cells #[.slice none 0 0,.int .i64 0,.int .i64 0,.slice none 0 0] 39);have x5:=hbx.cells 0;have HBX:=hq_ hbx;have HE7:=hq_ hE7;clear hbx hE7 hb7;rcases hk with rfl|rfl)))
     ·have hcc:=Bxx.c0 (a4_ 0 (.slice none 0 0) HBX.out);refine bodyPost_ret (v:=.tuple #[.agg #[.slice none 0 0],.int .i64 1]) (by simp [results,Tryz.results50,go_sem,hcc]) rfl (.inr ⟨1,?_,dq_,rfl,?_⟩)
      ·exact ⟨t,List.mem_of_getElem? HMT.out,xp,HXG.out ▸ aa_ (by rw [<- HTN.out];exact hil),hek⟩
      ·exact ((HS.out.below.trans ((Ea HE7.out (.cells #[.slice none 0 0,.int .i64 0,.int .i64 0,.slice none 0 0] 39)).mono HS.out.below.size)).setCell (p:=⟨w.heap.size+1,0,none⟩) (show w.heap.size≤w.heap.size+1 by omega) _)
     ·have hcc:=Bxx.c0 (a4_ 0 (.slice none 0 0) HBX.out);refine bodyPost_ret (v:=.tuple #[.agg #[.slice none 0 0],.int .i64 2]) (by simp [results,Tryz.results50,go_sem,hcc]) rfl (.inr ⟨2,?_,dq_,rfl,?_⟩)
      ·exact ⟨t,List.mem_of_getElem? HMT.out,xp,HXG.out ▸ aa_ (by rw [<- HTN.out];exact hil),hek⟩
      ·exact ((HS.out.below.trans ((Ea HE7.out (.cells #[.slice none 0 0,.int .i64 0,.int .i64 0,.slice none 0 0] 39)).mono HS.out.below.size)).setCell (p:=⟨w.heap.size+1,0,none⟩) (show w.heap.size≤w.heap.size+1 by omega) _)
     ·go_roundw
      case rel=>
       have hal:Below w7.heap.size w7 (w7.alloc (.cells #[.slice ya yn yc,.int .i64 (shP xp b).frm,.int .i64 (shP xp b).period,.slice za zn zc] 39)):=Ea (Er _) _;have hil2:i<t.length:=by rw [<- HTN.out];exact hil
       have hwl:=HR.out.le;have hr9:=((HR.out.below HE7.out).below hal).set (x:=⟨.slice ya yn yc,.slice za zn zc,shP xp b⟩) (show i<M.length by have:=HLE.out;omega) ((HPV.out.keep (a5_.below hal)).mono fun k hk=>by have h1:=hk.1;rw [World.size_alloc] at h1;exact ⟨oq_,oq_⟩);refine ⟨i+1,_,oq_,rfl,by go_num,hq_ (by rw [List.length_set];exact HLE.out),hq_ ?_,hq_ hr9,hq_ ((Ea (Et HBQ.out HE7.out) _).trans (ei_ _ (Nat.le_refl _) _ _ _ _)),hq_ fun p hp=>?_⟩
       ·rw [List.map_set,HEQ.out];exact sx_ hil2 HXG.out
       ·rw [List.take_succ_eq_append_getElem hil2] at hp;rcases List.mem_append.1 hp with hp|hp
        ·exact HOK.out p hp
        ·rw [List.mem_singleton] at hp;have h1:=HXG.out;rw [List.getD_eq_getElem?_getD,List.getElem?_eq_getElem hil2] at h1;rw [hp,show t[i]=xp from h1];exact HE0.out
      case measure=>simp [intOf];omega
    ·obtain rfl:i=tn:=oq_;have hbz:=HS.out.rbx.lt;have hown:=HS.out.row.row.lt;have htt:ab_ wr (fun k=>wo.heap.size≤k) (.slice (some ⟨wo.heap.size,0,none⟩) i i) (t.map fun p=>shP p b):=⟨M,by rw [HEQ.out,HTN.out];exact tr_,by have h:=HR.out.term;rwa [HLE.out] at h⟩;have HROW:=hq_ (fun W (h:Below wr.heap.size wr W)=>(htt.ext h).fresh (B:=w.heap.size) (v:=.slice la Lk.length lc) oq_ (fun g hg=>(hown g hg).2));have hlk:Lk.length=j:=by have h:=congrArg List.length HS.out.eq;rw [List.length_map,j1_,List.length_take] at h;omega
     have hwl:=HR.out.le;clear htt hown;go_wp2_with (at_builtin;(refine de_ rq_ _ _ rq_ w.heap.size (fun k=>k=w.heap.size∨k=w.heap.size+1) (.slice la Lk.length lc) Lk (.slice (some ⟨wo.heap.size,0,none⟩) i i,t.map fun p=>shP p b) rq_ (HS.out.row.below (Ea HBQ.out _)) (HROW.out _ (Ea (Er _) _)) _ _ rq_ sq_ tq_ oq_ tq_ ?_;intro ga gc w8 hr8 hg8 hb8 hbo8;have HR8:=hq_ hr8;have HG8:=hq_ hg8;have HB8:=hq_ hb8;have HBO8:=hq_ hbo8;clear hr8 hg8 hb8 hbo8))
     go_roundw
     case rel=>
      have hjt:j+1≤m.length:=oq_;obtain ⟨h1,h2⟩:=List.getElem?_eq_some_iff.1 HMT.out;have hle:(Lk ++ [((Value.slice (some ⟨wo.heap.size,0,none⟩) i i),t.map fun p=>shP p b)]).length=Lk.length+1:=by simp
      refine ⟨j+1,ga,gc,Lk ++ [((Value.slice (some ⟨wo.heap.size,0,none⟩) i i),t.map fun p=>shP p b)],oq_,rfl,by go_num,by rw [hle,hlk],hq_ ⟨?_,?_,by rw [hle];exact HR8.out,fun g hg=>?_,?_,fun u hu p hp=>?_⟩⟩
      ·exact (HS.out.below.trans ((Ea HBQ.out _).mono HS.out.below.size)).trans HB8.out
      ·exact ((HS.out.rbx.below HBQ.out).alloc _).grown HG8.out (fun e=>HS.out.row.ne _ e.symm (.inr rfl))
      ·rw [hle] at hg;rcases HBO8.out with e|e
       ·exact HS.out.own g (e ▸ hg)
       ·rw [e] at hg;cases hg;simp;omega
      ·unfold shL;rw [List.map_append,HS.out.eq,List.take_succ_eq_append_getElem h1,List.map_append,h2];rfl
      ·rw [List.take_succ_eq_append_getElem h1] at hu;rcases List.mem_append.1 hu with hu|hu
       ·exact HS.out.ok u hu p hp
       ·rw [List.mem_singleton,h2] at hu;subst hu;exact HOK.out p (by rw [List.take_of_length_le (by rw [<- HTN.out];exact Nat.le_refl _)];exact hp)
     case measure=>simp [intOf];omega
  ·obtain rfl:j=m.length:=oq_;have hmx:MixR wo (fun _=>True) (.slice la Lk.length lc) (shL m b):=⟨Lk,by rw [HS.out.eq,List.take_of_length_le (Nat.le_refl _)],HS.out.row.mix.mono fun _ _=>trivial⟩;have hok:∀ t∈m,∀ p∈t,shE p b=0:=by have h:=HS.out.ok;rwa [List.take_of_length_le (Nat.le_refl _)] at h
   have HNO:=hq_ (ek_ (max (s+b) 0) _ _ (shL m b) _ (dv_ (fun _=>True) (.slice la Lk.length lc) (shL m b) wo.heap.size (wo.alloc (.cells #[.slice la Lk.length lc] 26)) (hmx.ext (Ea (Er wo) _)) (Bxx.new wo #[.slice la Lk.length lc] 26).c0) (vo_ HK1.out hok) (by rw [j1_];omega));have HOK:=hq_ hok;have hbz:=HS.out.rbx.lt;clear hmx hok;go_wp2_with (first|(go_at_call 61;refine (dn_ _ _ ⟨_,_,_,rfl⟩).mono ?_;rintro e w4 ⟨rfl,rfl⟩)|(go_at_call 68;(refine HNO.out.mono ?_;rintro e w5 ⟨v,mk,hN,hvt,hb5,hres⟩;have hW5:Below wo.heap.size wo w5:=Et (Ea (Er wo) _) hb5;have g2:=HS.out.rbx.below hW5;have s1:=(g2.cells 0).1;have s2:=(g2.cells 0).2;have HN:=hq_ hN;have HVV:=hq_ hvt;have G2:=hq_ g2;have HW5:=hq_ hW5;clear hN hvt g2 hW5 hb5;rcases hres with ⟨hval,rfl,hmr⟩|⟨hval,rfl⟩;(obtain ⟨xa,xc,rfl⟩:=hmr.form))))
   ·have hcc:=Bxx.c0 (w:=w5.setCell ⟨w.heap.size+1,0,none⟩ (.slice xa mk.length xc)) (a4_ 0 (.slice xa mk.length xc) G2.out);refine bodyPost_ret (v:=.tuple #[.agg #[.slice xa mk.length xc],.int .i64 0]) (by simp [results,Tryz.results50,go_sem,hcc]) rfl (.inl ⟨HOK.out,_,mk,HN.out,HVV.out,(HS.out.below.trans (HW5.out.mono HS.out.below.size)).setCell (p:=⟨w.heap.size+1,0,none⟩) (by show w.heap.size≤w.heap.size+1;omega) _,.inl ⟨hval,rfl,?_⟩⟩);exact (hmr.set (b:=w.heap.size+1) tq_).mono fun k (hk:_≤k)=>by simp at hk;omega
   ·have hcc:=Bxx.c0 (w:=w5.setCell ⟨w.heap.size+1,0,none⟩ (.slice none 0 0)) (a4_ 0 (.slice none 0 0) G2.out);exact bodyPost_ret (v:=.tuple #[.agg #[.slice none 0 0],.int .i64 2]) (by simp [results,Tryz.results50,go_sem,hcc]) rfl (.inl ⟨HOK.out,.slice none 0 0,mk,HN.out,HVV.out,(HS.out.below.trans (HW5.out.mono HS.out.below.size)).setCell (p:=⟨w.heap.size+1,0,none⟩) (by show w.heap.size≤w.heap.size+1;omega) _,.inr ⟨hval,rfl⟩⟩)
theorem td_ (s b:Int) (h c:Value) (p:Per) (w:World) (hp:a8_ w h c p) (hv:FV s p) (hb:InI b) :
  Calls Tryz.prog 94 #[perV h c p.frm p.period,.int .i64 b] w fun e w'=>(shE p b=0∧b6_ (shP p b) w e w')∨(∃ k,(k=1∨k=2)∧shE p b=k∧gl_ k w e w'):=by
 have hwf:=hv.valid;have f0:=hwf.wf.frm;have f1:=hwf.frm;have f2:=hwf.wf.per;have f3:=hwf.per
 by_cases hr:b < -1099511627776∨1099511627776<b
 ·refine (r1_ h c p b w hp ⟨oq_,oq_⟩ ⟨oq_,oq_⟩ ?_).mono fun e w' h=>.inr ⟨1,.inl rfl,if_pos hr,h⟩;simp only [Bool.and_eq_false_iff,decide_eq_false_iff_not];rcases hr with hr|hr
  ·exact .inl (.inr oq_)
  ·exact .inr oq_
 ·refine (tt_ h c p (shP p b) b w hp hv.valid oq_ oq_ ?_).mono fun e w' h=>?_
  ·exact (ld_ hv.fac).1.congr fun n=>by unfold shS en_;exact Iff.rfl
  ·by_cases hf:(shP p b).frm≤1099511627776
   ·exact .inl ⟨by unfold shE;rw [if_neg hr,if_pos hf],h.1 hf⟩
   ·exact .inr ⟨2,.inr rfl,by unfold shE;rw [if_neg hr,if_neg hf],h.2 oq_⟩
theorem lt_ (p:Per) (b:Int):shE p b=0∨shE p b=1∨shE p b=2:=by
 unfold shE
 split
 ·exact .inr (.inl rfl)
 ·split
  ·exact .inl rfl
  ·exact .inr (.inr rfl)
structure RSS (s b:Int) (m:List (List Per)) (w:World) (a1:Option Addr) (c1 j:Nat) (lv:Value) (Lk:List (Value × List Per)) (W:World):Prop where
 below:Below w.heap.size w W
 abx:Bxx W w.heap.size #[.slice a1 m.length c1] 28
 rbx:Bxx W (w.heap.size+1) #[.slice none 0 0] 28
 row:OwnT (fun k=>k≤w.heap.size+1) (w.heap.size+2) W lv Lk
 eq:Lk.map Prod.snd=shL (m.take j) b
 ok:∀ t∈m.take j,∀ p∈t,shE p b=0
theorem p8_ (s b:Int) (F:Nat->Prop) (v:Value) (m:List (List Per)) (w:World) (hm:MixR w F v m) (k1:MV s m) (hb:InI b) :
  Calls Tryz.prog 51 #[.agg #[v],.int .i64 b] w (n4_ s b m w):=by
 have HV1:=fun W (h:Below w.heap.size w W)=>cb_ F v m W (hm.ext h);rw [k1.val] at HV1;have l1:=k1.len;obtain ⟨a1,c1,rfl⟩:=hm.form;have HM1:=hq_ hm;have HK1:=hq_ k1;have HBI:=hq_ hb;clear hm k1 hb
 go_enter Tryz.func51,Tryz.ntmps51
 go_wp2_with ((go_at_call 17;((with_reducible refine (HV1 _ (Ea (Ea (Er w) _) _)).mono ?_);rintro e w1 ⟨rfl,hb1⟩;have b0:Bxx w1 w.heap.size #[.slice a1 m.length c1] 28:=Bxx.below xB hb1;have b1:Bxx w1 (w.heap.size+1) #[.slice none 0 0] 28:=Bxx.below xB hb1;have hW1:Below w.heap.size w w1:=Et (Ea (Ea (Er w) _) _) hb1;have HB0:=hq_ b0;have HB1:=hq_ b1;clear b0 b1)))
 have hz1:w.heap.size+2≤w1.heap.size:=by have:=HB1.out.lt;omega
 have hss:RSS s b m w a1 c1 0 (.slice (some ⟨w1.heap.size,0,none⟩) 0 0) [] (w1.alloc (.cells #[] 36)):=⟨Ea hW1 _,HB0.out.alloc _,HB1.out.alloc _,OwnT.of (B:=w1.heap.size) (World.ownsRow_lit (base:=w1.heap.size) (e:=36) (size:=1) w1 #[] 0 (Nat.le_refl _) (by unfold maxLen;omega) rfl) hz1 sq_ (fun g hg=>by simp [Value.ownBlock] at hg;omega) sq_,rfl,sq_⟩;have HSS:=hq_ hss;clear hss hW1 hb1 HV1 HB0 HB1
 go_loopw [6,7,8,9,10,11] (fun lv idx _ _ _ _ wq=>∃ (j:Nat) (la:Option Addr) (lc:Nat) (Lk:List (Value × List Per)),j≤m.length∧idx=.int .i64 j∧lv=.slice la Lk.length lc∧Hid (RSS s b m w a1 c1 j (.slice la Lk.length lc) Lk wq)) (fun _ idx _ _ _ _ _=>m.length-(intOf idx).toNat)
 case atStart=>exact ⟨0,_,_,[],oq_,rfl,rfl,HSS⟩
 case round=>
  obtain ⟨j,la,lc,Lk,hj,rfl,rfl,HS⟩:=hrel;obtain ⟨wo,hwo⟩:∃ wo,wo=wr:=⟨_,rfl⟩;subst hwo;clear HSS;have r0:=HS.out.abx.c0;have hrz:=HS.out.rbx.lt;have hlk:Lk.length=j:=by have h:=congrArg List.length HS.out.eq;rw [List.length_map,j1_,List.length_take] at h;omega
  have HLKJ:=hq_ hlk;clear hlk
  by_cases hjl:j<m.length
  ·have hjI:(j:Int)<m.length:=oq_;obtain ⟨L2,hL2,hml⟩:=HM1.out.ext HS.out.below;have hl2:L2.length=m.length:=by rw [<- hL2,List.length_map]
   obtain ⟨b8,f8,c8,ta,tn,tc,t,he,e0,htt,hmt⟩:=hml.at (show j<L2.length by omega);injection he with q1 q2 q3
   subst q1;subst q3;clear q2;rw [hL2] at hmt;obtain ⟨_,_,he,_⟩:=htt.form;cases he;have htn4:=HK1.out.tlen t (List.mem_of_getElem? hmt);have hvt:=HK1.out.vt t (List.mem_of_getElem? hmt);have HVT2:=hq_ hvt;have HMT:=hq_ hmt;obtain ⟨tL,htL,htl⟩:=htt;have htn:t.length=tL.length:=by rw [<- htL,List.length_map]
   have htne:0<tL.length:=by rw [<- htn];exact List.length_pos_iff.2 hvt.ne
   obtain ⟨bt,ot,x0,ha,-⟩:=htl.get htne;subst ha;have HTL:=hq_ htl;have HTLL:=hq_ htL;have HTN:=hq_ htn;have HE0:=hq_ e0;have HR0:Hid (RowP wo.heap.size (wo.alloc (.cells #[] 39)) (.slice (some ⟨wo.heap.size,0,none⟩) 0 0) []):=hq_ ⟨World.ownsRow_lit (base:=wo.heap.size) (e:=39) (size:=4) wo #[] 0 (Nat.le_refl _) (by unfold maxLen;omega) rfl,sq_,sq_⟩;clear hml hmt hL2 hl2 htl htL htn htne hvt e0;go_wp2_with fail
   go_loopw [8,9,10,11] (fun tv idx _ _ wq=>∃ (i:Nat) (M:List PV),i≤t.length∧idx=.int .i64 i∧Hid (M.length=i)∧Hid (M.map PV.p=(t.take i).map fun p=>shP p b)∧Hid (RowP wo.heap.size wq tv M)∧Hid (Below wo.heap.size wo wq)∧Hid (∀ p∈t.take i,shE p b=0)) (fun _ idx _ _ _=>t.length-(intOf idx).toNat)
   case atStart=>exact ⟨0,[],oq_,rfl,hq_ rfl,hq_ rfl,HR0,hq_ (Ea (Er _) _),hq_ sq_⟩
   case round=>
    obtain ⟨i,M,hi,rfl,HLE,HEQ,HR,HBQ,HOK⟩:=hrel;clear HR0;have r0:=Ext.cell HBQ.out r0;have e0:=Ext.cell HBQ.out HE0.out;have hzq:=HBQ.out.size;obtain ⟨oa,oc,rfl⟩:=bm_ HR.out.row
    by_cases hil:i<t.length
    ·have hiI:(i:Int)<t.length:=oq_;have htl2:=HTL.out.keep (a5_.below HBQ.out) HBQ.out.size;obtain ⟨_,_,x,ha,hx,hxp,_,z0,z1,z2,z3⟩:=htl2.get (show i<tL.length by rw [<- HTN.out];exact hil);cases ha;have hfx:=HVT2.out.fv x.p (by rw [hxp,HTLL.out];exact aa_ hil);have hxg:t[i]? = some x.p:=by rw [hxp,HTLL.out,List.getD_eq_getElem?_getD,List.getElem?_eq_getElem hil];rfl
     obtain ⟨xh,xc,xp⟩:=x;obtain ⟨ax1,nx1,cx1,ax2,nx2,cx2,rfl,rfl⟩:=hx.form;dsimp only at z0 z1 z2 z3 hfx hxg;have HSH:=hq_ (td_ s b _ _ xp wr hx.is hfx HBI.out);simp only [perV] at HSH;have HFX:=hq_ hfx;have HXG:=hq_ hxg;have HXM:Hid (xp∈t):=hq_ (List.mem_of_getElem? hxg);have hbx1:=(HS.out.rbx.below HBQ.out);clear htl2 hx hxp hfx hxg;rcases lt_ xp b with hE|hE|hE
     ·have HE:=hq_ hE;have HSH0:=hq_ (HSH.out.mono (fun e w' h=>(h.elim (fun h=>h.2) fun ⟨k,h1,h2,_⟩=>by rw [hE] at h2;exfalso;omega:b6_ (shP xp b) wr e w')));have HFQ:=hq_ (n2_ HFX.out hE);have HNX:Hid ((t.take (i+1)).map (fun p=>shP p b)=(t.take i).map (fun p=>shP p b) ++ [shP xp b]):=hq_ (by rw [List.take_add_one,HXG.out];simp);have HON:Hid (∀ p∈t.take (i+1),shE p b=0):=hq_ fun p hp=>by
       rw [List.take_add_one,HXG.out] at hp;rcases List.mem_append.1 hp with hp|hp
       ·exact HOK.out p hp
       ·have e:p=xp:=by simpa using hp
        rw [e];exact hE
      have HMN:Hid (M.length<1000000):=hq_ (by have:=HLE.out;omega);generalize shP xp b=q at *;clear hE hbx1;go_wp2_with (first|(go_at_call 94;(with_reducible refine HSH0.out.mono ?_);rintro e w7 ⟨h',c',rfl,ho,hb7⟩;obtain ⟨a5,m5,a6,m6,rfl,rfl⟩:=ho.form;have HPV:=hq_ (ho.pv HFQ.out);have HB7:=hq_ hb7;have hz7:=hb7.size;clear ho hb7)|(at_builtin;refine l7_ rq_ _ _ rq_ wo.heap.size (.slice oa M.length oc) M.length (M.flatMap PV.enc) ⟨.slice a5 q.head.length m5,.slice a6 q.cycle.length m6,q⟩ rq_ (HR.out.below (Ea (Ea HB7.out (.cells #[.slice a5 q.head.length m5,.int .i64 q.frm,.int .i64 q.period,.slice a6 q.cycle.length m6] 39)) (.cells #[.slice a5 q.head.length m5,.int .i64 q.frm,.int .i64 q.period,.slice a6 q.cycle.length m6] 39))).row (w7.heap.size+1) 1 rq_ (fun j u hu=>(ki_ (Bxx.at (w:=w7.alloc (.cells #[.slice a5 q.head.length m5,.int .i64 q.frm,.int .i64 q.period,.slice a6 q.cycle.length m6] 39)) sq_)) j u hu) HPV.out.one (by have:=HMN.out;omega) tq_ ?_;intro v5 w5 hown5 hgrow5 hloc5;have hR5:=(HR.out.below (Ea (Ea HB7.out (.cells #[.slice a5 q.head.length m5,.int .i64 q.frm,.int .i64 q.period,.slice a6 q.cycle.length m6] 39)) (.cells #[.slice a5 q.head.length m5,.int .i64 q.frm,.int .i64 q.period,.slice a6 q.cycle.length m6] 39))).push ((HPV.out.keep (a5_.below (Ea (Ea (Er w7) (.cells #[.slice a5 q.head.length m5,.int .i64 q.frm,.int .i64 q.period,.slice a6 q.cycle.length m6] 39)) (.cells #[.slice a5 q.head.length m5,.int .i64 q.frm,.int .i64 q.period,.slice a6 q.cycle.length m6] 39)))).mono fun b' hb'=>⟨oq_,fun e=>by have:=((HR.out.row).lt _ e).2;omega⟩) hown5 hgrow5 hloc5 HMN.out;have hb5:Below wo.heap.size wo w5:=(Et HBQ.out (Ea (Ea HB7.out (.cells #[.slice a5 q.head.length m5,.int .i64 q.frm,.int .i64 q.period,.slice a6 q.cycle.length m6] 39)) (.cells #[.slice a5 q.head.length m5,.int .i64 q.frm,.int .i64 q.period,.slice a6 q.cycle.length m6] 39))).grown hgrow5 tq_ (fun k' e=>((HR.out.below (Ea (Ea HB7.out (.cells #[.slice a5 q.head.length m5,.int .i64 q.frm,.int .i64 q.period,.slice a6 q.cycle.length m6] 39)) (.cells #[.slice a5 q.head.length m5,.int .i64 q.frm,.int .i64 q.period,.slice a6 q.cycle.length m6] 39))).row.lt k' e).1);have HR5:=hq_ hR5;have HB5:=hq_ hb5;clear hR5 hb5 hown5 hgrow5 hloc5))
      go_roundw
      case rel=>exact ⟨i+1,M ++ [⟨.slice a5 q.head.length m5,.slice a6 q.cycle.length m6,q⟩],oq_,by go_num,hq_ (by rw [List.length_append,HLE.out];rfl),hq_ (by rw [List.map_append,HEQ.out,HNX.out];rfl),HR5,HB5,HON⟩
      case measure=>simp [intOf];omega
     ·have HE:=hq_ hE;have HSHE:=hq_ (HSH.out.mono (fun e w' h=>(h.elim (fun h=>by have h1:=h.1;rw [hE] at h1;exfalso;omega) fun ⟨k,h1,h2,h3⟩=>by rw [hE] at h2;subst h2;exact h3:gl_ 1 wr e w')));clear hE;go_wp2_with (go_at_call 94;(with_reducible refine HSHE.out.mono ?_);rintro e w7 ⟨rfl,hb7⟩;have hbx2:=(hbx1.below hb7).alloc (.cells #[.slice none 0 0,.int .i64 0,.int .i64 0,.slice none 0 0] 39);have s1:=(hbx2.cells 0).1;have s2:=(hbx2.cells 0).2;have HBX:=hq_ hbx2;have HB7:=hq_ hb7;have hz7:=hb7.size;clear hb7 hbx2)
      have hcc:=Bxx.c0 (a4_ 0 (.slice none 0 0) HBX.out);exact bodyPost_ret (v:=.tuple #[.agg #[.slice none 0 0],.int .i64 1]) (by simp [results,Tryz.results51,go_sem,hcc]) rfl (.inr ⟨1,⟨t,List.mem_of_getElem? HMT.out,xp,HXM.out,HE.out⟩,dq_,rfl,(HS.out.below.trans ((Ea (Et HBQ.out HB7.out) _).mono HS.out.below.size)).setCell (p:=⟨w.heap.size+1,0,none⟩) (show w.heap.size≤w.heap.size+1 by omega) _⟩)
     ·have HE:=hq_ hE;have HSHE:=hq_ (HSH.out.mono (fun e w' h=>(h.elim (fun h=>by have h1:=h.1;rw [hE] at h1;exfalso;omega) fun ⟨k,h1,h2,h3⟩=>by rw [hE] at h2;subst h2;exact h3:gl_ 2 wr e w')));clear hE;go_wp2_with (go_at_call 94;(with_reducible refine HSHE.out.mono ?_);rintro e w7 ⟨rfl,hb7⟩;have hbx2:=(hbx1.below hb7).alloc (.cells #[.slice none 0 0,.int .i64 0,.int .i64 0,.slice none 0 0] 39);have s1:=(hbx2.cells 0).1;have s2:=(hbx2.cells 0).2;have HBX:=hq_ hbx2;have HB7:=hq_ hb7;have hz7:=hb7.size;clear hb7 hbx2)
      have hcc:=Bxx.c0 (a4_ 0 (.slice none 0 0) HBX.out);exact bodyPost_ret (v:=.tuple #[.agg #[.slice none 0 0],.int .i64 2]) (by simp [results,Tryz.results51,go_sem,hcc]) rfl (.inr ⟨2,⟨t,List.mem_of_getElem? HMT.out,xp,HXM.out,HE.out⟩,dq_,rfl,(HS.out.below.trans ((Ea (Et HBQ.out HB7.out) _).mono HS.out.below.size)).setCell (p:=⟨w.heap.size+1,0,none⟩) (show w.heap.size≤w.heap.size+1 by omega) _⟩)
    ·obtain rfl:i=t.length:=oq_;have htt:ab_ wr (fun k=>wo.heap.size≤k) (.slice oa M.length oc) (t.map fun p=>shP p b):=⟨M,by rw [HEQ.out,List.take_of_length_le (Nat.le_refl _)],HR.out.term⟩;have HTT:=hq_ htt;have HTL2:Hid (M.length=(t.map fun p=>shP p b).length):=hq_ (by rw [HLE.out,List.length_map]);clear htt;go_wp2_with (at_builtin;(refine er_ rq_ _ _ rq_ (fun k=>k≤w.heap.size+1) (w.heap.size+2) (.slice la Lk.length lc) Lk (.slice oa M.length oc,t.map fun p=>shP p b) rq_ (HS.out.row.ext (Ea HBQ.out _)) ((HTT.out.ext (Ea (Er wr) _)).mono fun b hb=>⟨oq_,fun e=>by have:=(HS.out.row.row.row.lt b e).2;omega⟩) _ _ rq_ sq_ tq_ (by have:=HLKJ.out;omega) tq_ ?_;intro ga gc w8 ho8 hg8 hb8;have HO8:=hq_ ho8;have HG8:=hq_ hg8;have HB8:=hq_ hb8;clear ho8 hg8 hb8))
     go_roundw
     case rel=>
      obtain ⟨h1,h2⟩:=List.getElem?_eq_some_iff.1 HMT.out;have hle:(Lk ++ [(Value.slice oa M.length oc,t.map fun p=>shP p b)]).length=Lk.length+1:=by simp
      refine ⟨j+1,ga,gc,Lk ++ [(.slice oa M.length oc,t.map fun p=>shP p b)],oq_,by go_num,by rw [hle],hq_ ⟨?_,?_,?_,by rw [hle];exact HO8.out,?_,fun u hu p hp=>?_⟩⟩
      ·exact (HS.out.below.trans ((Ea HBQ.out _).mono HS.out.below.size)).trans (HB8.out.mono oq_)
      ·exact ((HS.out.abx.below HBQ.out).alloc _).grown HG8.out (fun e=>HS.out.row.row.ne _ e.symm (Nat.le_succ _))
      ·exact ((HS.out.rbx.below HBQ.out).alloc _).grown HG8.out (fun e=>HS.out.row.row.ne _ e.symm (Nat.le_refl _))
      ·unfold shL;rw [List.map_append,HS.out.eq,List.take_succ_eq_append_getElem h1,List.map_append,h2];rfl
      ·rw [List.take_succ_eq_append_getElem h1] at hu;rcases List.mem_append.1 hu with hu|hu
       ·exact HS.out.ok u hu p hp
       ·rw [List.mem_singleton,h2] at hu;subst hu;exact HOK.out p (by rw [List.take_of_length_le (Nat.le_refl _)];exact hp)
     case measure=>simp [intOf];omega
  ·obtain rfl:j=m.length:=oq_;have HOK:Hid (∀ t∈m,∀ p∈t,shE p b=0):=hq_ (by have h:=HS.out.ok;rwa [List.take_of_length_le (Nat.le_refl _)] at h);have HNOH:=hq_ (dy_ (max (s+b) 0) _ (.slice la Lk.length lc) (shL m b) wo ⟨Lk,by rw [HS.out.eq,List.take_of_length_le (Nat.le_refl _)],HS.out.row.mix⟩ (vo_ HK1.out HOK.out) (fun t ht=>by obtain ⟨u,hu,rfl⟩:=List.mem_map.1 ht;rw [List.length_map];have:=HK1.out.tlen u hu;omega) (by rw [j1_];omega));go_wp2_with (go_at_call 90;(with_reducible refine HNOH.out.mono ?_);rintro e w5 ⟨v,m',hN,hvt,hb5,hres⟩;have g2:=HS.out.rbx.below hb5;have s1:=(g2.cells 0).1;have s2:=(g2.cells 0).2;have hW5:Below w.heap.size w w5:=Et HS.out.below hb5;have HN:=hq_ hN;have HVV:=hq_ hvt;have G2:=hq_ g2;clear hN hvt g2;rcases hres with ⟨hval,rfl,hmr⟩|⟨hval,rfl⟩;(obtain ⟨xa,xc,rfl⟩:=hmr.form))
   ·have hcc:=Bxx.c0 (w:=w5.setCell ⟨w.heap.size+1,0,none⟩ (.slice xa m'.length xc)) (a4_ 0 (.slice xa m'.length xc) G2.out);refine bodyPost_ret (v:=.tuple #[.agg #[.slice xa m'.length xc],.int .i64 0]) (by simp [results,Tryz.results51,go_sem,hcc]) rfl (.inl ⟨HOK.out,_,m',HN.out,HVV.out,hW5.setCell (p:=⟨w.heap.size+1,0,none⟩) (by show w.heap.size≤w.heap.size+1;omega) _,.inl ⟨hval,rfl,?_⟩⟩);exact (hmr.set (b:=w.heap.size+1) oq_).mono fun b (hb:_≤b)=>oq_
   ·have hcc:=Bxx.c0 (w:=w5.setCell ⟨w.heap.size+1,0,none⟩ (.slice none 0 0)) (a4_ 0 (.slice none 0 0) G2.out);exact bodyPost_ret (v:=.tuple #[.agg #[.slice none 0 0],.int .i64 2]) (by simp [results,Tryz.results51,go_sem,hcc]) rfl (.inl ⟨HOK.out,.slice none 0 0,m',HN.out,HVV.out,hW5.setCell (p:=⟨w.heap.size+1,0,none⟩) (by show w.heap.size≤w.heap.size+1;omega) _,.inr ⟨hval,rfl⟩⟩)
theorem vs_ {lo:Nat} {c:Value} (hp:ar_ W lo hi h c q) (hv:FV s q):PVok W (fun b=>lo≤b∧b<hi) ⟨h,c,q⟩:=by
 have v1:=hv.valid;have v2:=v1.wf.frm;have v3:q.frm≤1099511627776:=v1.frm;have v4:=v1.wf.per;have v5:q.period≤1099511627776:=v1.per;exact ⟨hp.is,⟨by show _≤q.frm;omega,by show q.frm≤_;omega⟩,⟨by show _≤q.period;omega,by show q.period≤_;omega⟩,fun hh k hk=>hp.hd.blk hh k hk,fun hh k hk=>hp.cy.blk hh k hk⟩
theorem tc_ (s:Int) (F:Nat->Prop) (v:Value) (m:List (List Per)) (w:World) (hm:MixR w F v m) (k1:MV s m) (hs:0≤s) :
  Calls Tryz.prog 52 #[.agg #[v]] w (q8_ (aq_ perE m) w):=by
 have HV1:=fun W (h:Below w.heap.size w W)=>cb_ F v m W (hm.ext h);rw [k1.val] at HV1;have l1:=k1.len;obtain ⟨a1,c1,rfl⟩:=hm.form;have HM1:=hq_ hm;have HK1:=hq_ k1;clear hm k1
 go_enter Tryz.func52,Tryz.ntmps52
 go_wp2_with ((go_at_call 17;((with_reducible refine (HV1 _ (Ea (Ea (Er w) _) _)).mono ?_);rintro e w1 ⟨rfl,hb1⟩;have b0:Bxx w1 w.heap.size #[.slice a1 m.length c1] 28:=Bxx.below xB hb1;have b1:Bxx w1 (w.heap.size+1) #[.slice none 0 0,.int .i64 0,.int .i64 0,.slice none 0 0] 39:=Bxx.below xB hb1;have hW1:Below w.heap.size w w1:=Et (Ea (Ea (Er w) _) _) hb1;have HB0:=hq_ b0;have HB1:=hq_ b1;clear b0 b1)))
 obtain ⟨b4,hb4⟩:∃ b4,b4=w1.heap.size:=⟨_,rfl⟩;have hz1:=HB1.out.lt;have hjs:JS s w b4 (aq_ perE (m.take 0)) none 0 0 none 0 0 (w1.alloc (.cells #[.slice none 0 0,.int .i64 0,.int .i64 1,.slice none 0 0] 39)):=by
  refine ⟨Ea hW1 _,HB1.out.alloc _,Bxx.at hb4,⟨⟨Ints.nil _,Ints.nil _⟩,show InI (0:Int) from ⟨dq_,dq_⟩,show InI (1:Int) from ⟨dq_,dq_⟩,fun h=>absurd rfl h,fun h=>absurd rfl h⟩,oq_,j6_ hs⟩
 have HMB:Hid (Bxx (w1.alloc (.cells #[.slice none 0 0,.int .i64 0,.int .i64 1,.slice none 0 0] 39)) w.heap.size #[.slice a1 m.length c1] 28):=hq_ (HB0.out.alloc _);rw [<- hb4];have HJS:=hq_ hjs;clear hjs hb1 hW1 hb4 HB0 HB1
 go_loopw [5,6,7,8,9] (fun idx _ _ _ _ wr=>∃ (j:Nat) (x1:Option Addr) (y1 z1:Nat) (x2:Option Addr) (y2 z2:Nat),j≤m.length∧idx=.int .i64 j∧Hid (JS s w b4 (aq_ perE (m.take j)) x1 y1 z1 x2 y2 z2 wr)∧Hid (Bxx wr w.heap.size #[.slice a1 m.length c1] 28)) (fun idx _ _ _ _ _=>m.length-(intOf idx).toNat)
 case atStart=>exact ⟨0,none,0,0,none,0,0,oq_,rfl,HJS,HMB⟩
 case round=>
  obtain ⟨j,x1,y1,z1,x2,y2,z2,hj,rfl,HM,HA⟩:=hrel;obtain ⟨wo,hwo⟩:∃ wo,wo=wr:=⟨_,rfl⟩;subst hwo;clear HJS HMB;have r0:=HA.out.c0;have r1:=(HM.out.abx.cells 0).1;have r2:=(HM.out.abx.cells 1).1;have r3:=(HM.out.abx.cells 2).1;have r4:=(HM.out.abx.cells 3).1
  by_cases hjl:j<m.length
  ·have hjI:(j:Int)<m.length:=oq_;obtain ⟨L2,hL2,hml⟩:=HM1.out.lt;have hl2:L2.length=m.length:=by rw [<- hL2,List.length_map]
   obtain ⟨b8,f8,c8,ta,tn,tc,t,he,e0,htt,hmt⟩:=hml.at (show j<L2.length by omega);injection he with q1 q2 q3
   subst q1;subst q3;clear q2;rw [hL2] at hmt;have hvt:=HK1.out.vt t (List.mem_of_getElem? hmt);obtain ⟨tL,htL,htl⟩:=htt;obtain ⟨_,_,he,_⟩:=htl.row.is;have htn:tn=tL.length:=by injection he with _ h _
   have ht0:0<tL.length:=by have:=List.length_pos_iff.2 hvt.ne;rw [<- htL,List.length_map] at this;exact this
   have ht4:tL.length≤4:=by have:=HK1.out.tlen t (List.mem_of_getElem? hmt);rw [<- htL,List.length_map] at this;exact this
   obtain ⟨bt,ot,x,ha,hx,hxp,_,u0,u1,u2,u3⟩:=htl.get ht0;subst ha;subst htn;obtain ⟨xh,xc,xp⟩:=x;obtain ⟨ax1,nx1,cx1,ax2,nx2,cx2,rfl,rfl⟩:=hx.form;dsimp only at u0 u1 u2 u3;have e0:=Ext.cell HM.out.below e0;have u0:=Ext.cell HM.out.below u0;have u1:=Ext.cell HM.out.below u1;have u2:=Ext.cell HM.out.below u2;have u3:=Ext.cell HM.out.below u3;have HTL:=hq_ htl;have HX:=hq_ hx;have HXP:=hq_ hxp;have HMT:=hq_ hmt;have HVT:=hq_ hvt;have HTLE:=hq_ htL;simp only [Nat.zero_mul,Nat.add_zero] at u0 u1 u2 u3;clear hml htl hx hxp hmt hvt hL2 hl2 htL he;have htI:(0:Int)<tL.length:=oq_;obtain ⟨b7,hb7⟩:∃ b7,b7=wo.heap.size:=⟨_,rfl⟩;have HJ:Hid (JP s w b4 b7 (aq_ perE (m.take j)) x1 y1 z1 x2 y2 z2 (andL xp ((tL.map PV.p).tail.take 0)) ax1 nx1 cx1 ax2 nx2 cx2 (wo.alloc (.cells #[.slice ax1 nx1 cx1,.int .i64 xp.frm,.int .i64 xp.period,.slice ax2 nx2 cx2] 39))):=by
    have hab:=HM.out.abx.lt;refine hq_ ⟨HM.out.ext (Ea (Er _) _),Bxx.at hb7,((HM.out.pv.lt).keep (a5_.below (Ea (Er _) _))).mono fun b hb=>?_,(HX.out.keep (a5_.below (Ea HM.out.below _))).mono fun b hb=>.inl hb.2,oq_,HVT.out.fv _ ?_⟩
    ·exact ⟨hb.1.1,hb.1.2,oq_⟩
    ·rw [show (andL xp ((tL.map PV.p).tail.take 0))=xp from rfl,show xp=_ from HXP.out,HTLE.out];exact aa_ (List.length_pos_iff.2 HVT.out.ne)
   have HA2:Hid (Bxx (wo.alloc (.cells #[.slice ax1 nx1 cx1,.int .i64 xp.frm,.int .i64 xp.period,.slice ax2 nx2 cx2] 39)) w.heap.size #[.slice (some ⟨b8,f8,none⟩) m.length c1] 28):=hq_ (HA.out.alloc _);go_wp2_with fail
   rw [<- hb7];clear hb7 u0 u1 u2 u3 e0
   go_loopw [8,9] (fun ev kv wq=>∃ (i:Nat) (y1':Option Addr) (f1 g1:Nat) (y2':Option Addr) (f2 g2:Nat),i+1≤tL.length∧ev=.int .i64 0∧kv=.int .i64 (i+1:Nat)∧Hid (JP s w b4 b7 (aq_ perE (m.take j)) x1 y1 z1 x2 y2 z2 (andL xp ((tL.map PV.p).tail.take i)) y1' f1 g1 y2' f2 g2 wq)∧Hid (Bxx wq w.heap.size #[.slice (some ⟨b8,f8,none⟩) m.length c1] 28)) (fun _ kv _=>tL.length-(intOf kv).toNat)
   case atStart=>exact ⟨0,ax1,nx1,cx1,ax2,nx2,cx2,oq_,rfl,by go_num,HJ,HA2⟩
   case round=>
    obtain ⟨i,y1',f1,g1,y2',f2,g2,hi,rfl,rfl,HP,HAI⟩:=hrel;clear HJ HA2
    by_cases hil:i+1<tL.length
    ·have hiI:(i:Int)+1<tL.length:=oq_;have htl2:=HTL.out.keep (a5_.below HP.out.js.below) HP.out.js.below.size;obtain ⟨bt',ot',z,ha,hz,hzp,_,k0,k1,k2,k3⟩:=htl2.get hil;cases ha;obtain ⟨zh,zc,zp⟩:=z;obtain ⟨az1,nz1,cz1,az2,nz2,cz2,rfl,rfl⟩:=hz.form;dsimp only at k0 k1 k2 k3 hzp;have hfz:FV s zp:=by rw [hzp,HTLE.out];exact HVT.out.fv _ (aa_ (by rw [<- HTLE.out,List.length_map];omega))
     have HNX:Hid (andL xp ((tL.map PV.p).tail.take (i+1))=andP (andL xp ((tL.map PV.p).tail.take i)) zp):=hq_ (by
      have h1:i<(tL.map PV.p).tail.length:=by rw [List.length_tail,List.length_map];omega
      have h2:(tL.map PV.p).tail[i]=zp:=by
       rw [List.getElem_tail,hzp,List.getD_eq_getElem?_getD,List.getElem?_eq_getElem];rfl
      unfold andL;rw [List.take_succ_eq_append_getElem h1,List.foldl_append,h2];rfl)
     have p0:=(HP.out.px.cells 0).1;have p1:=(HP.out.px.cells 1).1;have p2:=(HP.out.px.cells 2).1;have p3:=(HP.out.px.cells 3).1;have HAND:=hq_ (fun W (hb:Below wr.heap.size wr W)=>show Calls _ _ #[.agg #[.slice y1' f1 g1,.int .i64 _,.int .i64 _,.slice y2' f2 g2],.agg #[.slice az1 nz1 cz1,.int .i64 zp.frm,.int .i64 zp.period,.slice az2 nz2 cz2]] W (b6_ (andP (andL xp ((tL.map PV.p).tail.take i)) zp) W) from pw_ s _ _ _ _ _ zp W (HP.out.pvr.is.ext hb) (hz.is.ext hb) HP.out.fvr hfz);have HVR:=hq_ (HP.out.fvr.and hfz);generalize andP (andL xp ((tL.map PV.p).tail.take i)) zp=q at *;generalize andL xp ((tL.map PV.p).tail.take i)=r at *;have hl7:=HP.out.px.lt;clear htl2 hz hzp hfz;go_upto_region 13 with (fail)
     refine Code.wp_mono (Q:=fun e a' W'=>e=.normal∧(∃ (ya:Option Addr) (yn yc:Nat) (za:Option Addr) (zn zc:Nat) (y36 y37 y38 y39 y40 y41 y42 y43 y44:Value),a'=⟨#[.agg #[.slice (some ⟨b8,f8,none⟩) m.length c1],.pointer (some ⟨w.heap.size,0,none⟩),.pointer (some ⟨w.heap.size+1,0,none⟩),u3,.pointer (some ⟨b4,0,none⟩),.int .i64 ↑j,.slice (some ⟨bt,ot,none⟩) tL.length tc,.pointer (some ⟨b7,0,none⟩),.int .i64 0,.int .i64 ↑(i+1),.agg #[.slice (some ⟨b8,f8,none⟩) m.length c1],.bool true,.bool false,undef,.agg #[.slice none 0 0,.int .i64 0,.int .i64 1,.slice none 0 0],.int .i64 ↑j,.pointer (some ⟨w.heap.size,0,none⟩),.slice (some ⟨b8,f8,none⟩) m.length c1,.int .i64 ↑m.length,.bool true,u20,u21,.pointer (some ⟨w.heap.size,0,none⟩),.slice (some ⟨b8,f8,none⟩) m.length c1,.int .i64 ↑j,.pointer (some ⟨b8,f8+j,none⟩),.slice (some ⟨bt,ot,none⟩) tL.length tc,.slice (some ⟨bt,ot,none⟩) tL.length tc,.pointer (some ⟨bt,ot,none⟩),.agg #[.slice ax1 nx1 cx1,.int .i64 xp.frm,.int .i64 xp.period,.slice ax2 nx2 cx2],.int .i64 ↑(i+1),.slice (some ⟨bt,ot,none⟩) tL.length tc,.int .i64 ↑tL.length,.bool true,u34,u35,y36,y37,y38,y39,y40,y41,y42,y43,y44,u45,u46,u47,u48,u49,u50,u51,u52,u53,u54,u55,u56,u57,u58,undef],[]⟩∧Hid (JP s w b4 b7 (aq_ perE (m.take j)) x1 y1 z1 x2 y2 z2 q ya yn yc za zn zc W'))∧Hid (Bxx W' w.heap.size #[.slice (some ⟨b8,f8,none⟩) m.length c1] 28)) ?imp ?reg
     case reg=>
      refine cx_ (w0:=wr) [0,1,2,3,4,5,6,7,8] 8 9 [10] (fun v=>⟨#[.agg #[.slice (some ⟨b8,f8,none⟩) m.length c1],.pointer (some ⟨w.heap.size,0,none⟩),.pointer (some ⟨w.heap.size+1,0,none⟩),u3,.pointer (some ⟨b4,0,none⟩),.int .i64 ↑j,.slice (some ⟨bt,ot,none⟩) tL.length tc,.pointer (some ⟨b7,0,none⟩),.int .i64 0,.int .i64 ↑(i+1),.agg #[.slice (some ⟨b8,f8,none⟩) m.length c1],.bool true,.bool false,undef,.agg #[.slice none 0 0,.int .i64 0,.int .i64 1,.slice none 0 0],.int .i64 ↑j,.pointer (some ⟨w.heap.size,0,none⟩),.slice (some ⟨b8,f8,none⟩) m.length c1,.int .i64 ↑m.length,.bool true,u20,u21,.pointer (some ⟨w.heap.size,0,none⟩),.slice (some ⟨b8,f8,none⟩) m.length c1,.int .i64 ↑j,.pointer (some ⟨b8,f8+j,none⟩),.slice (some ⟨bt,ot,none⟩) tL.length tc,.slice (some ⟨bt,ot,none⟩) tL.length tc,.pointer (some ⟨bt,ot,none⟩),.agg #[.slice ax1 nx1 cx1,.int .i64 xp.frm,.int .i64 xp.period,.slice ax2 nx2 cx2],.int .i64 ↑(i+1),.slice (some ⟨bt,ot,none⟩) tL.length tc,.int .i64 ↑tL.length,.bool true,u34,u35,v 6,v 0,v 1,v 2,v 3,v 4,v 5,v 7,v 8,u45,u46,u47,u48,u49,u50,u51,u52,u53,u54,u55,u56,u57,u58,undef],[]⟩) [.agg #[.slice y1' f1 g1,.int .i64 r.frm,.int .i64 r.period,.slice y2' f2 g2],.slice (some ⟨bt,ot,none⟩) tL.length tc,.int .i64 (i+1:Nat),.pointer (some ⟨bt,ot+(i+1)*4,none⟩),.agg #[.slice az1 nz1 cz1,.int .i64 zp.frm,.int .i64 zp.period,.slice az2 nz2 cz2],undef,undef,undef,.int .i64 0] [5,6,7] (fun i v lo hi W=>match i with|5=>∃ h c,v 5=.tuple #[perV h c q.frm q.period,.int .i64 0]∧e4_ W (lo 5) (hi 5) h c q|6=>v 6=v 5∧∃ h c,v 6=.tuple #[perV h c q.frm q.period,.int .i64 0]|7=>∃ h c,v 6=.tuple #[perV h c q.frm q.period,.int .i64 0]∧v 7=perV h c q.frm q.period|_=>True) (fun W=>W.cell? ⟨b7,0,none⟩=some (.slice y1' f1 g1)∧W.cell? ⟨b7,1,none⟩=some (.int .i64 r.frm)∧W.cell? ⟨b7,2,none⟩=some (.int .i64 r.period)∧W.cell? ⟨b7,3,none⟩=some (.slice y2' f2 g2)∧W.cell? ⟨bt,ot+(i+1)*4,none⟩=some (.slice az1 nz1 cz1)∧W.cell? ⟨bt,ot+(i+1)*4+1,none⟩=some (.int .i64 zp.frm)∧W.cell? ⟨bt,ot+(i+1)*4+2,none⟩=some (.int .i64 zp.period)∧W.cell? ⟨bt,ot+(i+1)*4+3,none⟩=some (.slice az2 nz2 cz2)) (fun W hb=>⟨Ext.cell hb p0,Ext.cell hb p1,Ext.cell hb p2,Ext.cell hb p3,Ext.cell hb k0,Ext.cell hb k1,Ext.cell hb k2,Ext.cell hb k3⟩) ?stab ?loc ?steps ?fin ?fin2 (fun j=>match j with|0=>u37|1=>u38|2=>u39|3=>u40|4=>u41|5=>u42|6=>u36|7=>u43|8=>u44|_=>undef)
      case stab=>
       refine ⟨?_,?_,?_,trivial⟩
       ·intro v lo hi W W' h hb;exact (let ⟨x1,x2,e,hp⟩:=h;⟨x1,x2,e,hp.below hb⟩)
       ·intro v lo hi W W' h hb;exact h
       ·intro v lo hi W W' h hb;exact h
      case loc=>
       refine ⟨?_,?_,?_,trivial⟩
       ·intro v v' lo lo' hi hi' W hag h;have q:=hag 5 (.inl rfl)
        (try dsimp only at h ⊢)
        simp only [q.1,q.2.1,q.2.2] at h;exact h
       ·intro v v' lo lo' hi hi' W hag h;have q:=hag 6 (.inl rfl);have q5:=hag 5 (.inr (Rdp (by kernel_rfl)))
        (try dsimp only at h ⊢)
        simp only [q.1,q.2.1,q.2.2,q5.1,q5.2.1,q5.2.2] at h;exact h
       ·intro v v' lo lo' hi hi' W hag h;have q:=hag 7 (.inl rfl);have q6:=hag 6 (.inr (Rdp (by kernel_rfl)))
        (try dsimp only at h ⊢)
        simp only [q.1,q.2.1,q.2.2,q6.1,q6.2.1,q6.2.2] at h;exact h
      case steps=>
       clear p0 p1 p2 p3 k0 k1 k2 k3;refine .c [] [] rfl ?_ (.c [] [] rfl ?_ (.c [] [] rfl ?_ (.c [1,2] [] rfl ?_ (.c [3] [] rfl ?_ (.c [0,4] [] rfl ?_ (.c [] [5] rfl ?_ (.c [] [6] rfl ?_ (.c [] [6] rfl ?_ (.n)))))))))
       all_goals try exact stl
       ·rintro v lo hi W hb ⟨s0,s1,s2,s3,t0,t1,t2,t3⟩ _;refine ⟨rfl,fun K hK=>?_⟩;simp only [ov,vat,Nat.reduceBEq,cond_true,cond_false];go_wp2_with (go_at_call 95;(with_reducible refine (HAND.out _ hb).mono ?_);rintro e w9 ⟨h',c',rfl,ho,hb9⟩)
        exact acx (hK (.tuple #[perV h' c' q.frm q.period,.int .i64 0]) w9 hb9 ⟨h',c',rfl,ho.at⟩) (by simp [ov,vat,upd])
       ·rintro v lo hi W hb ⟨s0,s1,s2,s3,t0,t1,t2,t3⟩ ⟨⟨la5,lb5,D5⟩,_⟩;refine ⟨rfl,fun K hK=>?_⟩;simp only [ov,vat,Nat.reduceBEq,cond_true,cond_false]
        (try dsimp only at D5)
        obtain ⟨h8,c8,e8,_⟩:=D5;go_wp2_with fail
        exact acx (hK (v 5) W (Below.refl _ _) ⟨rfl,h8,c8,e8⟩) (by simp [ov,vat,upd,e8])
       ·rintro v lo hi W hb ⟨s0,s1,s2,s3,t0,t1,t2,t3⟩ ⟨⟨la6,lb6,D6⟩,_⟩;refine ⟨rfl,fun K hK=>?_⟩;simp only [ov,vat,Nat.reduceBEq,cond_true,cond_false]
        (try dsimp only at D6)
        obtain ⟨-,h9,c9,e9⟩:=D6;simp only [e9];go_wp2_with fail
        exact acx (hK (perV h9 c9 q.frm q.period) W (Below.refl _ _) ⟨h9,c9,e9,rfl⟩) (by simp [ov,vat,upd,e9])
       ·rintro v lo hi W hb ⟨s0,s1,s2,s3,t0,t1,t2,t3⟩ ⟨⟨la6,lb6,D6⟩,_⟩;refine ⟨rfl,fun K hK=>?_⟩;simp only [ov,vat,Nat.reduceBEq,cond_true,cond_false]
        (try dsimp only at D6)
        obtain ⟨-,h9,c9,e9⟩:=D6;simp only [e9];go_wp2_with fail
        exact acx (hK W (Below.refl _ _)) (by simp [ov,vat,upd,e9])
      case fin=>
       rintro v lo hi9 W5 hb5-hf hap;show wpList _ _ _ [_,_] _ _;obtain ⟨l5,-,h5,h,c,e5,hp5⟩:=hf 5 rfl;obtain ⟨-,-,-,e6,-⟩:=hf 6 rfl;obtain ⟨-,-,-,h',c',e6',e7⟩:=hf 7 rfl;have e8:v 8=.int .i64 0:=(hf 8 rfl).2.2.2;clear hf hap;rw [e6,e5] at e6';obtain ⟨rfl,rfl⟩:h=h'∧c=c':=by simpa [perV] using e6'
       dsimp only;rw [e7,e8];clear e5 e6 e6' e7 e8;have hpi:=hp5.inn;generalize lo 5=l5v at *;generalize hi9 5=h5v at *;clear hp5;obtain ⟨a5,m5,a6,m6,rfl,rfl⟩:=hpi.form;have hP7:=HP.out.ext hb5;have l4:=hP7.js.lt;have l7:=hP7.lt7;have r0:=hP7.px.cells 0;have r1:=hP7.px.cells 1;have r2:=hP7.px.cells 2;have r3:=hP7.px.cells 3;have HNEW:=hq_ (hP7.store ((vs_ hpi HVR.out).mono fun b hb=>by have:=hb.1;exact ⟨oq_,oq_,oq_⟩) HVR.out);have HMB5:=hq_ ((ex_ (W:=W5) (b:=b7) (.slice a5 q.head.length m5) (.int .i64 q.frm) (.int .i64 q.period) (.slice a6 q.cycle.length m6) (show w.heap.size≠b7 by omega)).trans (HAI.out.below hb5));clear hpi hP7;generalize v 0=zz0,v 1=zz1,v 2=zz2,v 3=zz3,v 4=zz4,v 5=zz5,v 6=zz6;go_wp2_with fail
       exact ⟨⟨_,_,_,_,_,_,HNEW⟩,HMB5⟩
      case fin2=>
       rintro v lo hi9 W5 hb5-hf hap;obtain ⟨l5,-,h5,h,c,e5,hp5⟩:=hf 5 rfl dq_;obtain ⟨-,-,-,e6,-⟩:=hf 6 rfl dq_;obtain ⟨-,-,-,h',c',e6',e7⟩:=hf 7 rfl dq_;clear hf hap;rw [e6,e5] at e6';obtain ⟨rfl,rfl⟩:h=h'∧c=c':=by simpa [perV] using e6'
       have e99:=e6.trans e5;dsimp only;rw [e7,e99];clear e5 e6 e6' e7 e99;have hpi:=hp5.inn;generalize lo 5=l5v at *;generalize hi9 5=h5v at *;clear hp5;obtain ⟨a5,m5,a6,m6,rfl,rfl⟩:=hpi.form;have hP7:=HP.out.ext hb5;have l4:=hP7.js.lt;have l7:=hP7.lt7;have r0:=hP7.px.cells 0;have r1:=hP7.px.cells 1;have r2:=hP7.px.cells 2;have r3:=hP7.px.cells 3;have HNEW:=hq_ (hP7.store ((vs_ hpi HVR.out).mono fun b hb=>by have:=hb.1;exact ⟨oq_,oq_,oq_⟩) HVR.out);have HMB5:=hq_ ((ex_ (W:=W5) (b:=b7) (.slice a5 q.head.length m5) (.int .i64 q.frm) (.int .i64 q.period) (.slice a6 q.cycle.length m6) (show w.heap.size≠b7 by omega)).trans (HAI.out.below hb5));clear hpi hP7;generalize v 0=zz0,v 1=zz1,v 2=zz2,v 3=zz3,v 4=zz4,v 5=zz5,v 8=zz8;constructor
       ·show wpList _ _ _ [_,_,_] _ _;go_wp2_with fail
        exact ⟨⟨_,_,_,_,_,_,HNEW⟩,HMB5⟩
       ·show wpList _ _ _ [_,_,_] _ _;go_wp2_with fail
        exact ⟨⟨_,_,_,_,_,_,HNEW⟩,HMB5⟩
     case imp=>
      rintro e a' W6 ⟨rfl,⟨ya,yn,yc,za,zn,zc,y36,y37,y38,y39,y40,y41,y42,y43,y44,rfl,HP6⟩,HA6⟩;go_wp2_with fail
      go_roundw
      case rel=>exact ⟨i+1,ya,yn,yc,za,zn,zc,oq_,rfl,by go_num,hq_ (by rw [HNX.out];exact HP6.out),HA6⟩
      case measure=>simp [intOf];omega
    ·have hie:i+1=tL.length:=oq_;have HIE:=hq_ hie;clear hie;have hiI:¬ (i:Int)+1<tL.length:=by have:=HIE.out;omega
     have b0:=(HP.out.js.abx.cells 0).1;have b1_:=(HP.out.js.abx.cells 1).1;have b2_:=(HP.out.js.abx.cells 2).1;have b3_:=(HP.out.js.abx.cells 3).1;have p0:=(HP.out.px.cells 0).1;have p1:=(HP.out.px.cells 1).1;have p2:=(HP.out.px.cells 2).1;have p3:=(HP.out.px.cells 3).1;have HE8:Hid (andL xp ((tL.map PV.p).tail.take i)=f6_ t):=hq_ (by
      rw [List.take_of_length_le (by rw [List.length_tail,List.length_map];have:=HIE.out;omega),<- HTLE.out];cases hLL:tL.map PV.p with
      | nil=>rw [List.map_eq_nil_iff] at hLL;rw [hLL] at ht0;exact absurd ht0 sq_
      | cons p r=>rw [hLL] at HXP;rw [show xp=p from HXP.out];rfl)
     have HOR:=hq_ (show Calls _ _ #[.agg #[.slice x1 y1 z1,.int .i64 (aq_ perE (m.take j)).frm,.int .i64 (aq_ perE (m.take j)).period,.slice x2 y2 z2],.agg #[.slice y1' f1 g1,.int .i64 (andL xp ((tL.map PV.p).tail.take i)).frm,.int .i64 (andL xp ((tL.map PV.p).tail.take i)).period,.slice y2' f2 g2]] wr (b6_ (orP (aq_ perE (m.take j)) (andL xp ((tL.map PV.p).tail.take i))) wr) from t3_ s _ _ _ _ _ _ _ HP.out.js.pv.is HP.out.pvr.is HP.out.js.fv HP.out.fvr);have HVR:Hid (FV s (orP (aq_ perE (m.take j)) (andL xp ((tL.map PV.p).tail.take i)))):=hq_ (HP.out.js.fv.or HP.out.fvr);have HQ9:Hid (aq_ perE (m.take (j+1))=orP (aq_ perE (m.take j)) (andL xp ((tL.map PV.p).tail.take i))):=hq_ (by
      rw [HE8.out];obtain ⟨h1,h2⟩:=List.getElem?_eq_some_iff.1 HMT.out;unfold aq_;rw [List.take_succ_eq_append_getElem h1,List.foldl_append,h2];rfl)
     generalize orP (aq_ perE (m.take j)) (andL xp ((tL.map PV.p).tail.take i))=q8 at *;go_wp2_with (go_at_call 96;((with_reducible refine HOR.out.mono ?_);rintro e w7 ⟨h',c',rfl,ho,hb7'⟩;obtain ⟨ya,yn,yc,za,zn,zc,rfl,rfl⟩:=(ho.pv HVR.out).form;have HP7:=hq_ (HP.out.ext hb7');have HO:=hq_ (ho.pv HVR.out);have HA7:=hq_ (HAI.out.below hb7');have HB7:=hq_ hb7';obtain ⟨c00,c01⟩:=HP7.out.js.abx.cells 0;obtain ⟨c10,c11⟩:=HP7.out.js.abx.cells 1;obtain ⟨c20,c21⟩:=HP7.out.js.abx.cells 2;obtain ⟨c30,c31⟩:=HP7.out.js.abx.cells 3;clear ho hb7'))
     go_roundw
     case rel=>
      have l4:=HP7.out.js.lt;have hl4:=HP.out.js.abx.lt;have hpv:PVok w7 (fun b=>w.heap.size+1<b∧b≠b4) ⟨.slice ya yn yc,.slice za zn zc,q8⟩:=HO.out.mono fun b hb=>by have h1:=hb.1;exact ⟨oq_,oq_⟩
      refine ⟨j+1,ya,yn,yc,za,zn,zc,oq_,by go_num,hq_ ?_,hq_ ?_⟩
      ·rw [HQ9.out];exact HP7.out.js.store hpv HVR.out
      ·exact (ex_ (W:=w7) (b:=b4) (.slice ya yn yc) (.int .i64 q8.frm) (.int .i64 q8.period) (.slice za zn zc) (show w.heap.size≠b4 by omega)).trans HA7.out
     case measure=>simp [intOf];omega
  ·obtain rfl:j=m.length:=oq_;have s0:=HM.out.rbx.cells 0;have s1:=HM.out.rbx.cells 1;have s2:=HM.out.rbx.cells 2;have s3:=HM.out.rbx.cells 3;go_wp2_with fail
   have hr0:Bxx ((((wo.setCell ⟨w.heap.size+1,0,none⟩ (.slice x1 y1 z1)).setCell ⟨w.heap.size+1,1,none⟩ (.int .i64 (aq_ perE m).frm)).setCell ⟨w.heap.size+1,2,none⟩ (.int .i64 (aq_ perE m).period)).setCell ⟨w.heap.size+1,3,none⟩ (.slice x2 y2 z2)) (w.heap.size+1) #[.slice x1 y1 z1,.int .i64 (aq_ perE m).frm,.int .i64 (aq_ perE m).period,.slice x2 y2 z2] 39:=dg_ HM.out.rbx;have k0:=(hr0.cells 0).1;have k1:=(hr0.cells 1).1;have k2:=(hr0.cells 2).1;have k3:=(hr0.cells 3).1;have hpv:=HM.out.pv;rw [List.take_of_length_le (Nat.le_refl _)] at hpv;refine bodyPost_ret (v:=.tuple #[perV (.slice x1 y1 z1) (.slice x2 y2 z2) (aq_ perE m).frm (aq_ perE m).period,.int .i64 0]) (by simp [results,Tryz.results52,go_sem,k0,k1,k2,k3]) rfl ⟨_,_,rfl,?_,gt_ HM.out.below oq_ _ _ _ _⟩;exact (hpv.keep (fun b hb _=>ex_ _ _ _ _ (by have:=hb.1;omega))).is
theorem tz_ (a m:Int) (w:World) (ha:0≤a) (ha1:a≤9007199254740992) (h2:2≤m) (hm:m≤4294967295) (hg:Int.gcd a m=1) :
  Calls Tryz.prog 176 #[.int .i64 a,.int .i64 m] w fun e w'=>∃ r,e=.returned (.int .i64 r)∧xf_ a m r∧∃ n,w'=w.drewN n:=by
 have HS:=hq_ (InvS.start ha h2 hg);have r0:=Int.emod_nonneg a (show m≠0 by omega);have r1:=Int.emod_lt_of_pos a (show 0<m by omega);clear hg
 go_enter Tryz.func176,Tryz.ntmps176
 go_wp2_with fail
 repeat (go_quiet (fail);go_wp2_with fail)
 go_loopw [5,6,7,8] (fun vx vy vu vv wr=>∃ x y u v U V:Int,vx=.int .i64 x∧vy=.int .i64 y∧vu=.int .i64 u∧vv=.int .i64 v∧InvS a m x y u v U V∧∃ n,wr=w.drewN n) (fun vx _ _ _ _=>(intOf vx).toNat)
 case atStart=>exact ⟨_,_,_,_,_,_,rfl,rfl,rfl,rfl,HS.out,0,rfl⟩
 case round=>
  obtain ⟨x,y,u,v,U,V,rfl,rfl,rfl,rfl,hE,n,rfl⟩:=hrel;have x1:=hE.x1;have xy:=hE.xy;have ym:=hE.ym
  by_cases hz:1<x
  ·obtain ⟨hE2,h1,h2',h3,h4,h5,h6,h7,h8⟩:=hE.step hz;have y1:=hE2.x1;have y2:=hE2.xy;have HE:=hq_ hE2;clear hE hE2;go_wp2_with fail
   repeat (go_quiet (fail);go_wp2_with fail)
   go_roundw
   case rel=>exact ⟨_,_,_,_,_,_,rfl,rfl,rfl,rfl,HE.out,_,rfl⟩
   case measure=>simp [intOf];omega
  ·obtain ⟨h1,h2',h3,h4,h5,h6⟩:=hE.fin hz h2;have u0:=Int.emod_nonneg u (show m≠0 by omega);have u1:=Int.emod_lt_of_pos u (show 0<m by omega);have H3:=hq_ h3;have H6:=hq_ h6;clear h3 h6 hE;go_wp2_with fail
   repeat (go_quiet (fail);go_wp2_with fail)
   go_ret;exact ⟨_,rfl,⟨by rw [H3.out];exact u0,by rw [H3.out];exact u1,by rw [H3.out];exact H6.out⟩,n,rfl⟩
theorem te_ (at_ step r P:Int) (w:World) (h0:0≤at_) (h1:at_<step) (r0:0≤r) (r1:r<P) (hs:step≤27720) (hp:P≤27720) :
  Calls Tryz.prog 143 #[.agg #[.int .i64 at_,.int .i64 step],.int .i64 r,.int .i64 P] w fun e w'=>∃ a s b,e=.returned (.tuple #[.agg #[.int .i64 a,.int .i64 s],.bool b])∧cp_ at_ step r P a s b∧Below w.heap.size w w':=by
 have s1:1≤step:=oq_;have p1:1≤P:=oq_;have hg:=bn_ (b:=P) s1;have hg2:=cs_ (a:=step) p1;have HG:=fun W=>g6_ step P W s1 oq_ p1 oq_;have HNO:=fun h=>hq_ (pv_ (at_:=at_) (step:=step) (r:=r) (P:=P) h);have HALL:=fun h hn=>hq_ (uh_ (at_:=at_) (step:=step) (r:=r) (P:=P) s1 h0 h1 p1 h hn);have HONE:=fun inv h hi=>hq_ (u9_ (at_:=at_) (step:=step) (r:=r) (P:=P) (inv:=inv) s1 h0 h1 p1 rfl rfl h hi);have hcop:=w0_ (a:=step) (b:=P) s1;have hdl:((Int.gcd step P:Nat):Int)∣step:=Int.gcd_dvd_left ..;have hdr:((Int.gcd step P:Nat):Int)∣P:=Int.gcd_dvd_right ..;generalize ((Int.gcd step P:Nat):Int)=g at *;have htm:(r-at_).tmod g=0↔(r-at_) % g=0:=by
  constructor
  ·exact fun h=>Int.emod_eq_zero_of_dvd (Int.dvd_of_tmod_eq_zero h)
  ·exact fun h=>Int.tmod_eq_zero_of_dvd (Int.dvd_of_emod_eq_zero h)
 by_cases hd:(r-at_) % g=0
 ·have hT:=htm.2 hd;have hn1:1≤P / g:=(Int.le_ediv_iff_mul_le oq_).2 oq_;have hn2:P / g≤P:=Int.ediv_le_self _ oq_;have htn:P.tdiv g=P / g:=Int.tdiv_eq_ediv_of_dvd hdr
  by_cases hn:P / g=1
  ·have HA:=HALL hd hn;rw [hn] at htn;clear HNO HALL HONE hd hn hn1 hn2 hcop htm hdl hdr
   go_enter Tryz.func143,Tryz.ntmps143
   go_wp2_with (go_at_call 77;(refine (HG _).mono ?_;rintro e w1 ⟨rfl,nq,rfl⟩))
   exact bodyPost_ret (v:=.tuple #[.agg #[.int .i64 at_,.int .i64 step],.bool true]) (by simp [results,Tryz.results143,go_sem]) rfl ⟨_,_,_,rfl,HA.out,xE⟩
  ·have HO:=fun inv hi=>HONE inv hd hi;have htd:(r-at_).tdiv g=(r-at_) / g:=Int.tdiv_eq_ediv_of_dvd (Int.dvd_of_emod_eq_zero hd);have hqb:=kg_ (x:=r-at_) (B:=27720) hg.1 oq_ oq_ oq_;have hsg:step.tdiv g=step / g:=Int.tdiv_eq_ediv_of_dvd hdl;have hs1:1≤step / g:=(Int.le_ediv_iff_mul_le oq_).2 oq_;have hs2:step / g≤step:=Int.ediv_le_self _ oq_;generalize P / g=n at *;generalize step / g=sg at *;generalize (r-at_) / g=q0 at *;have hn3:2≤n:=oq_;have t1:=Int.tmod_lt_of_pos q0 (show 0<n by omega);have t2:=Int.lt_tmod_of_pos q0 (show 0<n by omega);have t3:q0.tmod n % n=q0 % n:=bp_ ⟨-(q0.tdiv n),by have:=Int.mul_tdiv_add_tmod q0 n;rw [Int.mul_neg];omega⟩;have t4:=Int.emod_nonneg q0 (show n≠0 by omega);have t5:=Int.emod_lt_of_pos q0 (show 0<n by omega);have HINV:=fun W=>tz_ sg n W oq_ oq_ hn3 oq_ hcop;obtain ⟨t0,ht0⟩:∃ t0,q0.tmod n=t0:=⟨_,rfl⟩;rw [ht0] at t1 t2 t3;generalize q0 % n=wn at *;have hbn:-27720≤t0+n:=oq_;have hlb:0≤step*n∧step*n≤768398400:=⟨Int.mul_nonneg oq_ oq_,Int.mul_le_mul (show step≤27720 from hs) (show n≤27720 by omega) oq_ oq_⟩;clear HNO HALL HONE hd hn hn1 hcop htm hdl hdr
   go_enter Tryz.func143,Tryz.ntmps143
   go_wp2_with (first|(go_at_call 77;(refine (HG _).mono ?_;rintro e w1 ⟨rfl,nq,rfl⟩))|(go_at_call 176;(refine (HINV _).mono ?_;rintro e w2 ⟨inv,rfl,hinv,nq2,rfl⟩;have i0:=hinv.1;have i1:=hinv.2.1;have HI:=hq_ (HO inv hinv.2.2);have hp:0≤wn*inv∧wn*inv≤768398400:=⟨Int.mul_nonneg oq_ oq_,Int.mul_le_mul (show wn≤27720 by omega) (show inv≤27720 by omega) oq_ oq_⟩;have hk0:=Int.emod_nonneg (wn*inv) (show n≠0 by omega);have hk1:=Int.emod_lt_of_pos (wn*inv) (show 0<n by omega);have hq:0≤(wn*inv % n)*step∧(wn*inv % n)*step≤768398400:=⟨Int.mul_nonneg oq_ oq_,Int.mul_le_mul (show wn*inv % n≤27720 by omega) (show step≤27720 from hs) oq_ oq_⟩;clear hinv))|(go_at_call 175;first
     | ((with_reducible refine (f9_ wn inv _ oq_ oq_ oq_ oq_).mono ?_);rintro e w3 ⟨rfl,rfl⟩)
     | ((with_reducible refine (f9_ (wn*inv % n) step _ oq_ oq_ oq_ oq_).mono ?_);rintro e w3 ⟨rfl,rfl⟩)
     | ((with_reducible refine (f9_ step n _ oq_ oq_ oq_ oq_).mono ?_);rintro e w3 ⟨rfl,rfl⟩))|(go_at_call 177;(refine (jm_ _ _ _ hp.1 oq_ oq_ oq_).mono ?_;rintro e w4 ⟨rfl,nq3,rfl⟩)))
   exact bodyPost_ret (v:=.tuple #[.agg #[.int .i64 (at_+wn*inv % n*step),.int .i64 (step*n)],.bool true]) (by simp [results,Tryz.results143,go_sem]) rfl ⟨_,_,_,rfl,HI.out.1,xE⟩
 ·have hT:¬ (r-at_).tmod g=0:=fun h=>hd (htm.1 h);have HN:=HNO hd;clear HNO HALL HONE hd hcop htm hdl hdr
  go_enter Tryz.func143,Tryz.ntmps143
  go_wp2_with (go_at_call 77;(refine (HG _).mono ?_;rintro e w1 ⟨rfl,nq,rfl⟩))
  exact bodyPost_ret (v:=.tuple #[.agg #[.int .i64 0,.int .i64 0],.bool false]) (by simp [results,Tryz.results143,go_sem]) rfl ⟨_,_,_,rfl,HN.out,xE⟩
theorem us_ (at_ step r P:Int) (h0:0≤at_) (h1:at_<step) (r0:0≤r) (r1:r<P) (hs:step≤27720) (hp:P≤27720):∃ a s b,cp_ at_ step r P a s b∧∀ w,
  Calls Tryz.prog 143 #[.agg #[.int .i64 at_,.int .i64 step],.int .i64 r,.int .i64 P] w fun e w'=>e=.returned (.tuple #[.agg #[.int .i64 a,.int .i64 s],.bool b])∧Below w.heap.size w w':=by
 obtain ⟨a,s,b,hm⟩:=tu_ (at_:=at_) (r:=r) (show 1≤step by omega) (show 1≤P by omega);refine ⟨a,s,b,hm,fun w=>(te_ at_ step r P w h0 h1 r0 r1 hs hp).mono ?_⟩;rintro e w' ⟨a',s',b',rfl,hm',hb⟩;obtain ⟨rfl,rfl,rfl⟩:=hm.unique oq_ oq_ hm';exact ⟨rfl,hb⟩
end Go.Proofs.YthjnojbeimchdaaGreat
end
namespace Go.Proofs.YthjnojbeimchdaaGreat
open Go.RowKit Go.Maps Kal
structure LB (w0:World) (b1 b2 b3 b4 b5:Nat):Prop where
 h4:w0.heap.size≤b4
 h5:w0.heap.size≤b5
 n14:b1≠b4
 n15:b1≠b5
 n24:b2≠b4
 n25:b2≠b5
 n34:b3≠b4
 n35:b3≠b5
 n45:b4≠b5
structure LS (w0:World) (b1 b2 b3 b4 b5:Nat) (v:Value) (f l:Int) (fb:Bool) (W:World):Prop where
 below:Below w0.heap.size w0 W
 c1:Bxx W b1 #[v] 36
 c2:Bxx W b2 #[.func (.func 142) #[] #[.pointer (some ⟨b1,0,none⟩),.pointer (some ⟨b2,0,none⟩),.pointer (some ⟨b3,0,none⟩),.pointer (some ⟨b4,0,none⟩),.pointer (some ⟨b5,0,none⟩)]] 130
 c3:Bxx W b3 #[.int .i64 f] 3
 c4:Bxx W b4 #[.int .i64 l] 3
 c5:Bxx W b5 #[.bool fb] 4
section
variable {w0 W W':World} {b1 b2 b3 b4 b5:Nat} {v:Value} {f l l':Int} {fb:Bool}
theorem LS.ext (h:LS w0 b1 b2 b3 b4 b5 v f l fb W) (hb:Below W.heap.size W W'):LS w0 b1 b2 b3 b4 b5 v f l fb W':=
 ⟨Et h.below hb,h.c1.below hb,h.c2.below hb,h.c3.below hb,h.c4.below hb,h.c5.below hb⟩
theorem LS.put (h:LS w0 b1 b2 b3 b4 b5 v f l fb W) (hb:LB w0 b1 b2 b3 b4 b5):LS w0 b1 b2 b3 b4 b5 v f l' true ((W.setCell ⟨b4,0,none⟩ (.int .i64 l')).setCell ⟨b5,0,none⟩ (.bool true)):=
 ⟨(
  h.below.setCell (p:=⟨b4,0,none⟩) hb.h4 _).setCell (p:=⟨b5,0,none⟩) hb.h5 _,
  (h.c1.setNe _ hb.n14).setNe _ hb.n15,(h.c2.setNe _ hb.n24).setNe _ hb.n25,(h.c3.setNe _ hb.n34).setNe _ hb.n35,
  Bxx.setNe (a4_ 0 _ h.c4) _ hb.n45,a4_ 0 _ (h.c5.setNe _ hb.n45.symm)⟩
end
theorem lf_ {W:World} {b:Nat} {x y x' y':Value} {t:TypeId} (h:Bxx W b #[x,y] t):Bxx ((W.setCell ⟨b,0,none⟩ x').setCell ⟨b,1,none⟩ y') b #[x',y'] t:=by
 have h1:=a4_ 1 y' (a4_ 0 x' h);simpa [Bxx] using h1
theorem iv_ {B b:Nat} {w W:World} (hb:Below B w W) (h:B≤b) (x y:Value):Below B w ((W.setCell ⟨b,0,none⟩ x).setCell ⟨b,1,none⟩ y):=
 (hb.setCell (p:=⟨b,0,none⟩) h _).setCell (p:=⟨b,1,none⟩) h _
def LRes (w0:World) (b1 b2 b3 b4 b5:Nat) (v:Value) (f:Int) (S:Int->Prop) (w:World) (e:Ending) (w':World):Prop:=
 ∃ l fb,e=.returned (.tuple #[])∧LS w0 b1 b2 b3 b4 b5 v f l fb w'∧a5_ (fun b=>b≠b4∧b≠b5) w w'∧w.heap.size≤w'.heap.size∧cn_ FarI S f l fb
theorem ol_ {W W':World} {b4 b5:Nat} (v4 v5:Value) (hb:Below W.heap.size W W'):a5_ (fun b=>b≠b4∧b≠b5) W ((W'.setCell ⟨b4,0,none⟩ v4).setCell ⟨b5,0,none⟩ v5):=fun b h hl=>
 ((Below.heap_setCell _ ⟨b5,0,none⟩ v5 b h.2).trans (Below.heap_setCell _ ⟨b4,0,none⟩ v4 b h.1)).trans (hb.block b hl)
theorem p9_ (s:Int) (w0:World) (b1 b2 b3 b4 b5:Nat) (hB:LB w0 b1 b2 b3 b4 b5) (v:Value) (L:List PV) (hL:be_ w0 (fun b=>b<w0.heap.size) v L) (hv:∀ p∈L.map PV.p,FV s p) (f:Int) (f0:0≤f) (f1:f≤1152921504606846976) :
  ∀ (n i:Nat) (at_ step l:Int) (fb:Bool) (S:Int->Prop) (w:World),i+n=L.length->0≤at_->at_<step->step∣27720->LS w0 b1 b2 b3 b4 b5 v f l fb w->cn_ FarI S f l fb->
   Calls Tryz.prog 142 #[.int .i64 i,.agg #[.int .i64 at_,.int .i64 step],.pointer (some ⟨b1,0,none⟩),.pointer (some ⟨b2,0,none⟩),.pointer (some ⟨b3,0,none⟩),.pointer (some ⟨b4,0,none⟩),.pointer (some ⟨b5,0,none⟩)] w
    (LRes w0 b1 b2 b3 b4 b5 v f (fun x=>S x∨ClsS ((L.map PV.p).drop i) at_ step x) w):=by
 intro n
 induction n with
 | zero=>
  intro i at_ step l fb S w hi h0 h1 hd hs hbest;have hl1:=hL.len;obtain rfl:i=L.length:=oq_;obtain ⟨a1,c1,rfl,hx1,hx2,_⟩:=hL.row.is;have s1:step≤27720:=Int.le_of_dvd dq_ hd;have s0:0<step:=oq_;have q1:=(hs.c1.alloc (.cells #[.int .i64 at_,.int .i64 step] 132)).c0;have q3:=(hs.c3.alloc (.cells #[.int .i64 at_,.int .i64 step] 132)).c0;have q4:=((hs.c4.alloc (.cells #[.int .i64 at_,.int .i64 step] 132)).cells 0);have q5:=((hs.c5.alloc (.cells #[.int .i64 at_,.int .i64 step] 132)).cells 0);have q6:=((Bxx.setNe (i:=0) (hs.c5.alloc (.cells #[.int .i64 at_,.int .i64 step] 132)) (.int .i64 at_) hB.n45.symm).cells 0);have hle:l≤1152921504606846976:=hbest.le;have hl0:-9223372036854775808≤l:=by
   rcases hbest with ⟨_,h,_⟩|⟨_,h,_⟩
   ·omega
   ·rw [h];decide
  have HLF:=hq_ (hbest.leaf (at_:=at_) (show 1≤step by omega) h0 h1 f0);have HS:=hq_ hs;have HBS:=hq_ hbest;clear hs hbest hi
  by_cases hlt:at_<f
  ·have T0:0≤f-at_+step-1:=oq_;have hup:upTo f at_ step=at_+(f-at_+step-1) / step*step:=if_pos hlt;have e:=Int.emod_add_mul_ediv (f-at_+step-1) step;have e0:=Int.emod_nonneg (f-at_+step-1) (show step≠0 by omega);have e1:=Int.emod_lt_of_pos (f-at_+step-1) s0;rw [Int.mul_comm step] at e;have q0:0≤(f-at_+step-1) / step:=Int.ediv_nonneg T0 oq_;have q9:(f-at_+step-1) / step≤f-at_+step-1:=Int.ediv_le_self _ T0;have htd:(f-at_+step-1).tdiv step=(f-at_+step-1) / step:=Int.tdiv_eq_ediv_of_nonneg T0;generalize (f-at_+step-1) / step=q at *;have q3':=(HS.out.c3.alloc (.cells #[.int .i64 (at_+q*step),.int .i64 step] 132)).c0;have q4':=((HS.out.c4.alloc (.cells #[.int .i64 (at_+q*step),.int .i64 step] 132)).cells 0);have q5':=((HS.out.c5.alloc (.cells #[.int .i64 (at_+q*step),.int .i64 step] 132)).cells 0);have q6':=((Bxx.setNe (i:=0) (HS.out.c5.alloc (.cells #[.int .i64 (at_+q*step),.int .i64 step] 132)) (.int .i64 (at_+q*step)) hB.n45.symm).cells 0);rw [hup] at HLF;have hmu:0≤q*step∧q*step≤f-at_+step-1:=⟨Int.mul_nonneg q0 oq_,oq_⟩
   go_enter Tryz.func142,Tryz.ntmps142
   go_wp2_with fail
   go_region
   all_goals go_wp2_with fail
   ·refine ⟨rfl,.tuple #[],by simp [results,Tryz.results142,go_sem],at_+q*step,true,rfl,((HS.out.ext (Ea (Er _) _)).put hB).ext (Ed (Er _)),ol_ _ _ (Ea (Er w) _),sq_,?_⟩;refine (HLF.out.1 (by assumption)).congr fun x hx=>?_;rw [List.drop_of_length_le sq_,hm_]
   ·refine ⟨rfl,.tuple #[],by simp [results,Tryz.results142,go_sem],l,fb,rfl,(HS.out.ext (Ea (Er _) _)).ext (Ed (Er _)),a5_.below (Ed (Ea (Er w) _)),sq_,?_⟩;refine (HLF.out.2 oq_).congr fun x hx=>?_;rw [List.drop_of_length_le sq_,hm_]
  ·have hup:upTo f at_ step=at_:=if_neg hlt;rw [hup] at HLF
   go_enter Tryz.func142,Tryz.ntmps142
   go_wp2_with fail
   ·refine ⟨rfl,.tuple #[],by simp [results,Tryz.results142,go_sem],at_,true,rfl,(HS.out.ext (Ea (Er _) _)).put hB,ol_ _ _ (Ea (Er w) _),sq_,?_⟩;refine (HLF.out.1 (by assumption)).congr fun x hx=>?_;rw [List.drop_of_length_le sq_,hm_]
   ·refine ⟨rfl,.tuple #[],by simp [results,Tryz.results142,go_sem],l,fb,rfl,HS.out.ext (Ea (Er _) _),a5_.below (Ea (Er w) _),sq_,?_⟩;refine (HLF.out.2 oq_).congr fun x hx=>?_;rw [List.drop_of_length_le sq_,hm_]
 | succ n ih=>
  intro ii at_ step l fb S w hi h0 h1 hd hs hbest;have IH:=hq_ ih;clear ih;have hl1:=hL.len;have hli:ii<L.length:=oq_;have hiI:(ii:Int)<L.length:=oq_;have s1:step≤27720:=Int.le_of_dvd dq_ hd;obtain ⟨a1,c1,rfl,hx1,hx2,_⟩:=hL.row.is;obtain ⟨tb,o1,x,ha,hx,hxp,hbt,e0,e1,e2,e3⟩:=hL.get hli;subst ha;have hfv:FV s x.p:=hv _ (by rw [hxp];exact aa_ (by simpa using hli));have hdr:(L.map PV.p).drop ii=x.p :: (L.map PV.p).drop (ii+1):=by
   rw [List.drop_eq_getElem_cons (by simpa using hli),hxp,List.getD_eq_getElem?_getD,List.getElem?_eq_getElem (by simpa using hli)];rfl
  obtain ⟨xh,xc,xp⟩:=x;obtain ⟨ax1,nx1,cx1,ax2,nx2,cx2,rfl,rfl⟩:=hx.form;dsimp only at e0 e1 e2 e3 hfv hdr;have hxi:=hx.is.cy;dsimp only at hxi;obtain ⟨⟨ah,ch,he,_,_,hcl⟩,hln,hrg⟩:=hxi;injection he with he1 he2 he3
  subst he1;subst he2;subst he3;have hw:=hfv.fac.wf;have f0':=hw.frm;have f1':=hfv.far;have p0:=hw.per;have p1:=hfv.fac.per;have HD:Hid (step∣27720):=hq_ hd;have HFV:=hq_ hfv;have HDR:=hq_ hdr;have HCY:=hq_ hw.cyc;have HWF:=hq_ hw;have HHI:=hq_ hi;have HX:=hq_ hx;have HHL:=hq_ hL;have HHV:=hq_ hv;have HCL:=hq_ hcl;have hbel:=hq_ hs.below;have q1:=(hs.c1.alloc (.cells #[.int .i64 at_,.int .i64 step] 132)).c0;have E0:=ag_ (Ext.cell hs.below e0) (.cells #[.int .i64 at_,.int .i64 step] 132);have E1:=ag_ (Ext.cell hs.below e1) (.cells #[.int .i64 at_,.int .i64 step] 132);have E2:=ag_ (Ext.cell hs.below e2) (.cells #[.int .i64 at_,.int .i64 step] 132);have E3:=ag_ (Ext.cell hs.below e3) (.cells #[.int .i64 at_,.int .i64 step] 132);have EE0:=hq_ e0;have EE1:=hq_ e1;have EE2:=hq_ e2;have EE3:=hq_ e3;have HS:=hq_ hs;have HBS:=hq_ hbest;have hl45:Hid (w.heap.size≠b4∧w.heap.size≠b5):=hq_ ⟨by have:=hs.c4.lt;omega,by have:=hs.c5.lt;omega⟩;clear hs hbest hi e0 e1 e2 e3 hcl hrg hx hfv hdr hL hv hw hxp
  go_enter Tryz.func142,Tryz.ntmps142
  go_wp2_with fail
  obtain ⟨bw,hbw⟩:∃ bw,bw=w.heap.size:=⟨_,rfl⟩;rw [<- hbw];have HBW:=hq_ hbw;have HN:Hid (bw≠b4∧bw≠b5):=hq_ (by rw [hbw];exact hl45.out);clear q1 E0 E1 E2 E3 hbw hl45
  go_loopw [10,11,12,23] (fun _ _ _ idx wr=>∃ (j:Nat) (l':Int) (fb':Bool),j≤xp.cycle.length∧idx=.int .i64 j∧Hid (LS w0 b1 b2 b3 b4 b5 (.slice (some ⟨tb,o1,none⟩) L.length c1) f l' fb' wr)∧Hid (Bxx wr bw #[.int .i64 at_,.int .i64 step] 132)∧Hid (a5_ (fun b=>b≠b4∧b≠b5) w wr)∧Hid (w.heap.size≤wr.heap.size)∧Hid (cn_ FarI (fs_ S xp ((L.map PV.p).drop (ii+1)) at_ step j) f l' fb')) (fun _ _ _ idx _=>xp.cycle.length-(intOf idx).toNat)
  case atStart=>exact ⟨0,l,fb,oq_,rfl,hq_ (HS.out.ext (Ea (Er _) _)),hq_ (Bxx.at HBW.out),hq_ (a5_.below (Ea (Er w) _)),hq_ sq_,hq_ (HBS.out.congr fun x _=>qw_)⟩
  case round=>
   obtain ⟨j,l',fb',hj,rfl,HLS,HBX,HKE,HSZ,HBE⟩:=hrel
   by_cases hjl:j<xp.cycle.length
   ·have hjI:(j:Int)<xp.cycle.length:=oq_;rcases HCL.out with h9|⟨bc,oc,rfl,hcc⟩
    ·rw [h9] at hjl;simp at hjl
    have c0:=Ext.cell HLS.out.below (hcc j hjl);have hcr:=HCY.out.2 _ (aa_ (d:=0) hjl);have HSU:=fun a2 s2 bb x (h:cp_ at_ step (resP xp (xp.cycle.getD j 0)) xp.period a2 s2 bb)=>qq_ (S:=S) (t:=(L.map PV.p).drop (ii+1)) (x:=x) HWF.out hjl oq_ h0 h1 h;generalize xp.cycle.getD j 0=c at *;have hr:=h2_ HWF.out c;obtain ⟨a2,s2,bb,hM,HME⟩:=us_ at_ step (resP xp c) xp.period h0 h1 hr.1 hr.2 s1 p1;have HRES:=fun W=>ia_ (.slice ax1 nx1 cx1) (.slice (some ⟨bc,oc,none⟩) xp.cycle.length cx2) xp c W f0' oq_ p0 oq_ hcr.1 oq_;have HSUC:=hq_ (fun x=>HSU a2 s2 bb x hM);have HM:=hq_ hM;have q1:=HLS.out.c1.c0;have q2:=HLS.out.c2.c0;have m0:wr.cell? ⟨bw,0,none⟩=some (.int .i64 at_):=(HBX.out.cells 0).1;have m1:wr.cell? ⟨bw,1,none⟩=some (.int .i64 step):=(HBX.out.cells 1).1;have E0:=Ext.cell HLS.out.below EE0.out;have E1:=Ext.cell HLS.out.below EE1.out;have E2:=Ext.cell HLS.out.below EE2.out;have E3:=Ext.cell HLS.out.below EE3.out;generalize resP xp c=r at *;clear hcc HSU hM;go_wp2_with fail
    have HLB:=hq_ q2;clear q2;refine Code.wp_mono (Q:=fun e a' W'=>e=.normal∧(∃ (nb:Nat) (z27 z28 z29 z30 z31 z32 z33 z34 z35 z36 z37 z38 z39 z40 z41 z42:Value),a'=⟨#[.int .i64 ↑ii,.agg #[.int .i64 at_,.int .i64 step],.pointer (some ⟨b1,0,none⟩),.pointer (some ⟨b2,0,none⟩),.pointer (some ⟨b3,0,none⟩),.pointer (some ⟨b4,0,none⟩),.pointer (some ⟨b5,0,none⟩),undef,.pointer (some ⟨bw,0,none⟩),undef,.int .i64 c,.pointer (some ⟨nb,0,none⟩),.bool bb,.int .i64 ↑ii,.slice (some ⟨tb,o1,none⟩) L.length c1,.int .i64 ↑L.length,.bool true,.slice (some ⟨tb,o1,none⟩) L.length c1,.int .i64 ↑ii,.pointer (some ⟨tb,o1+ii*4,none⟩),.pointer (some ⟨tb,o1+ii*4+3,none⟩),.slice (some ⟨bc,oc,none⟩) xp.cycle.length cx2,.int .i64 ↑xp.cycle.length,.int .i64 ↑j,.bool true,.pointer (some ⟨bc,oc+j,none⟩),.int .i64 c,z27,z28,z29,z30,z31,z32,z33,z34,z35,z36,z37,z38,z39,z40,z41,z42,u43,u44,u45,u46,u47,u48,u49,undef,undef,undef,undef,undef,undef,undef,undef,undef,undef,undef,undef,undef,undef,undef,undef,undef,undef,undef,undef,undef,undef,undef,undef,undef,undef,undef,undef,undef,undef,undef,undef,undef,undef,undef,undef,undef,undef,undef],[]⟩∧Bxx W' nb #[.int .i64 a2,.int .i64 s2] 132)∧Below wr.heap.size wr W') ?imp ?reg
    case reg=>
     refine cx_ (w0:=wr) [0,1,2,3,4,5,6,7,8,9,10,11,12,13,14,15,16] 15 17 [18] (fun v=>⟨#[.int .i64 ↑ii,.agg #[.int .i64 at_,.int .i64 step],.pointer (some ⟨b1,0,none⟩),.pointer (some ⟨b2,0,none⟩),.pointer (some ⟨b3,0,none⟩),.pointer (some ⟨b4,0,none⟩),.pointer (some ⟨b5,0,none⟩),undef,.pointer (some ⟨bw,0,none⟩),undef,.int .i64 c,v 16,u12,.int .i64 ↑ii,.slice (some ⟨tb,o1,none⟩) L.length c1,.int .i64 ↑L.length,.bool true,.slice (some ⟨tb,o1,none⟩) L.length c1,.int .i64 ↑ii,.pointer (some ⟨tb,o1+ii*4,none⟩),.pointer (some ⟨tb,o1+ii*4+3,none⟩),.slice (some ⟨bc,oc,none⟩) xp.cycle.length cx2,.int .i64 ↑xp.cycle.length,.int .i64 ↑j,.bool true,.pointer (some ⟨bc,oc+j,none⟩),.int .i64 c,v 13,v 0,v 1,v 2,v 3,v 4,v 5,v 6,v 7,v 8,v 9,v 10,v 11,v 12,v 14,v 15,u43,u44,u45,u46,u47,u48,u49,undef,undef,undef,undef,undef,undef,undef,undef,undef,undef,undef,undef,undef,undef,undef,undef,undef,undef,undef,undef,undef,undef,undef,undef,undef,undef,undef,undef,undef,undef,undef,undef,undef,undef,undef,undef,undef,undef,undef],[]⟩) [.agg #[.int .i64 at_,.int .i64 step],.slice (some ⟨tb,o1,none⟩) L.length c1,.int .i64 ii,.pointer (some ⟨tb,o1+ii*4,none⟩),perV (.slice ax1 nx1 cx1) (.slice (some ⟨bc,oc,none⟩) xp.cycle.length cx2) xp.frm xp.period,.int .i64 c,.int .i64 r,.slice (some ⟨tb,o1,none⟩) L.length c1,.int .i64 ii,.pointer (some ⟨tb,o1+ii*4,none⟩),.pointer (some ⟨tb,o1+ii*4+2,none⟩),.int .i64 xp.period,.tuple #[.agg #[.int .i64 a2,.int .i64 s2],.bool bb],.tuple #[.agg #[.int .i64 a2,.int .i64 s2],.bool bb],.agg #[.int .i64 a2,.int .i64 s2],.bool bb,undef] [16] (fun i v lo hi W=>match i with|16=>v 16=.pointer (some ⟨lo 16,0,none⟩)∧lo 16<hi 16∧Bxx W (lo 16) #[.int .i64 0,.int .i64 0] 132|_=>True) (fun W=>(W.cell? ⟨bw,0,none⟩=some (.int .i64 at_)∧W.cell? ⟨bw,1,none⟩=some (.int .i64 step))∧W.cell? ⟨b1,0,none⟩=some (.slice (some ⟨tb,o1,none⟩) L.length c1)∧W.cell? ⟨tb,o1+ii*4,none⟩=some (.slice ax1 nx1 cx1)∧W.cell? ⟨tb,o1+ii*4+1,none⟩=some (.int .i64 xp.frm)∧W.cell? ⟨tb,o1+ii*4+2,none⟩=some (.int .i64 xp.period)∧W.cell? ⟨tb,o1+ii*4+3,none⟩=some (.slice (some ⟨bc,oc,none⟩) xp.cycle.length cx2)) (fun W hb=>⟨⟨cux m0 hb,cux m1 hb⟩,cux q1 hb,cux E0 hb,cux E1 hb,cux E2 hb,cux E3 hb⟩) ?stab ?loc ?steps ?fin ?fin2 (fun j=>match j with|0=>u28|1=>u29|2=>u30|3=>u31|4=>u32|5=>u33|6=>u34|7=>u35|8=>u36|9=>u37|10=>u38|11=>u39|12=>u40|13=>u27|14=>u41|15=>u42|16=>u11|_=>undef)
     case stab=>
      refine ⟨?_,trivial⟩
      ·intro v lo hi W W' h hb;exact ⟨h.1,h.2.1,h.2.2.below hb⟩
     case loc=>
      refine ⟨?_,trivial⟩
      ·intro v v' lo lo' hi hi' W hag h;have q:=hag 16 (.inl rfl)
       (try dsimp only at h ⊢)
       simp only [q.1,q.2.1,q.2.2] at h;exact h
     case steps=>
      clear m0 m1 q1 E0 E1 E2 E3;refine .c [] [] rfl ?_ (.c [] [] rfl ?_ (.c [] [] rfl ?_ (.c [1,2] [] rfl ?_ (.c [3] [] rfl ?_ (.c [] [] rfl ?_ (.c [4,5] [] rfl ?_ (.c [] [] rfl ?_ (.c [] [] rfl ?_ (.c [7,8] [] rfl ?_ (.c [9] [] rfl ?_ (.c [10] [] rfl ?_ (.c [0,6,11] [] rfl ?_ (.c [12] [] rfl ?_ (.c [13] [] rfl ?_ (.c [13] [] rfl ?_ (.c [] [] rfl ?_ (.n)))))))))))))))))
      all_goals try exact stl
      ·rintro v lo hi W hb ⟨⟨n0,n1⟩,nv,g0,g1,g2,g3⟩ _;refine ⟨rfl,fun K hK=>?_⟩;simp only [ov,vat,Nat.reduceBEq,cond_true,cond_false];go_wp2_with (go_at_call 121;refine (HRES _).mono ?_;rintro e w9 ⟨rfl,hb9⟩)
       exact acx (hK w9 hb9) (by simp [ov,vat,upd])
      ·rintro v lo hi W hb ⟨⟨n0,n1⟩,nv,g0,g1,g2,g3⟩ _;refine ⟨rfl,fun K hK=>?_⟩;simp only [ov,vat,Nat.reduceBEq,cond_true,cond_false];go_wp2_with (go_at_call 143;refine (HME _).mono ?_;rintro e w9 ⟨rfl,hb9⟩)
       exact acx (hK w9 hb9) (by simp [ov,vat,upd])
      ·rintro v lo hi W hb ⟨⟨n0,n1⟩,nv,g0,g1,g2,g3⟩ _;refine ⟨rfl,fun K hK=>?_⟩;simp only [ov,vat,Nat.reduceBEq,cond_true,cond_false];go_wp2_with fail
       exact hK (.pointer (some ⟨W.heap.size,0,none⟩)) _ (Ea (Er _) _) ⟨rfl,sq_,Bxx.new _ _ _⟩
     case fin=>
      rintro v lo hi9 W2 hb ⟨⟨n0,n1⟩,nv,g0,g1,g2,g3⟩ hf hap;show wpList _ _ _ [_,_] _ _;obtain ⟨l16,-,h16,e16,lt16,hbox⟩:=hf 16 rfl;have e14:v 14=.agg #[.int .i64 a2,.int .i64 s2]:=(hf 14 rfl).2.2.2;have e15:v 15=.bool bb:=(hf 15 rfl).2.2.2;clear hf hap;dsimp only;rw [e14,e15,e16];clear e14 e15 e16;generalize lo 16=nb at *;have b0:=hbox.cells 0;have b1':=hbox.cells 1;have HBO:=hq_ hbox;have HBB:=hq_ hb;clear n0 n1 nv g0 g1 g2 g3 hbox hb;generalize v 0=y0,v 1=y1,v 2=y2,v 3=y3,v 4=y4,v 5=y5,v 6=y6,v 7=y7,v 8=y8,v 9=y9,v 10=y10,v 11=y11,v 12=y12,v 13=y13;go_wp2_with fail
      exact ⟨lf_ HBO.out,iv_ HBB.out l16 _ _⟩
     case fin2=>
      rintro v lo hi9 W2 hb ⟨⟨n0,n1⟩,nv,g0,g1,g2,g3⟩ hf hap;obtain ⟨l16,-,h16,e16,lt16,hbox⟩:=hf 16 rfl dq_;have e14:v 14=.agg #[.int .i64 a2,.int .i64 s2]:=(hf 14 rfl dq_).2.2.2;have e13:v 13=.tuple #[.agg #[.int .i64 a2,.int .i64 s2],.bool bb]:=(hf 13 rfl dq_).2.2.2;clear hf hap;dsimp only;rw [e13,e14,e16];clear e13 e14 e16;generalize lo 16=nb at *;have b0:=hbox.cells 0;have b1':=hbox.cells 1;have HBO:=hq_ hbox;have HBB:=hq_ hb;clear n0 n1 nv g0 g1 g2 g3 hbox hb;generalize v 0=y0,v 1=y1,v 2=y2,v 3=y3,v 4=y4,v 5=y5,v 6=y6,v 7=y7,v 8=y8,v 9=y9,v 10=y10,v 11=y11,v 12=y12,v 15=y15;constructor
      ·show wpList _ _ _ [_,_,_] _ _;go_wp2_with fail
       exact ⟨lf_ HBO.out,iv_ HBB.out l16 _ _⟩
      ·show wpList _ _ _ [_,_,_] _ _;go_wp2_with fail
       exact ⟨lf_ HBO.out,iv_ HBB.out l16 _ _⟩
    case imp=>
     rintro e a' W6 ⟨rfl,⟨nb,z27,z28,z29,z30,z31,z32,z33,z34,z35,z36,z37,z38,z39,z40,z41,z42,rfl,hbox⟩,hb6⟩;have HM6:=hq_ (HLS.out.ext hb6);have q2:=HM6.out.c2.c0;have n0:=(hbox.cells 0).1;have n1:=(hbox.cells 1).1;have HB6:=hq_ hb6;clear hb6 hbox;cases bb
     ·go_wp2_with fail
      go_roundw
      case rel=>exact ⟨j+1,l',fb',oq_,by go_num,HM6,hq_ (HBX.out.below HB6.out),hq_ (HKE.out.trans (a5_.below HB6.out) HSZ.out),hq_ (Nat.le_trans HSZ.out HB6.out.size),hq_ (HBE.out.congr fun x _=>by rw [HSUC.out];simp)⟩
      case measure=>simp [intOf];omega
     ·obtain ⟨t0,t1,t2⟩:=HM.out.bounds oq_ p0 HD.out HFV.out.fac.dvd;have T2:=hq_ t2;clear t2;have HIH:=IH.out (ii+1) a2 s2 l' fb' (fs_ S xp ((L.map PV.p).drop (ii+1)) at_ step j) W6 (by have:=HHI.out;omega) t0 t1 T2.out HM6.out HBE.out;rw [show ((ii+1:Nat):Int)=(ii:Int)+1 from by omega] at HIH;go_wp2_with (go_at_call 142;(refine HIH.mono ?_;rintro e w7 ⟨l2,fb2,rfl,hs7,hk7,hz7,hbest7⟩;have HS7:=hq_ hs7;have HK7:=hq_ hk7;have HZ7:=hq_ hz7;have HBE7:=hq_ hbest7;clear hs7 hk7 hz7 hbest7 HIH))
      go_roundw
      case rel=>
       have hk67:a5_ (fun b=>b≠b4∧b≠b5) w w7:=(HKE.out.trans (a5_.below HB6.out) HSZ.out).trans HK7.out (Nat.le_trans HSZ.out HB6.out.size);have hw4:=hB.h4;have hw5:=hB.h5;have hbwz:=HBX.out.lt;have hs6:=HB6.out.size;refine ⟨j+1,l2,fb2,oq_,by go_num,HS7,hq_ ?_,hq_ hk67,hq_ (Nat.le_trans (Nat.le_trans HSZ.out HB6.out.size) HZ7.out),hq_ (HBE7.out.congr fun x _=>by rw [HSUC.out];simp)⟩;exact (HK7.out bw ⟨HN.out.1,HN.out.2⟩ oq_).trans (HBX.out.below HB6.out)
      case measure=>simp [intOf];omega
   ·obtain rfl:j=xp.cycle.length:=oq_;go_wp2_with fail
    refine ⟨rfl,.tuple #[],by simp [results,Tryz.results142,go_sem],l',fb',rfl,HLS.out,HKE.out,HSZ.out,?_⟩;refine HBE.out.congr fun x hx=>?_;rw [tw_,HDR.out]
end Go.Proofs.YthjnojbeimchdaaGreat
section
variable {b:Bool}{e:Go.Ending}{F d f n s:Int}{m m1 m2:List (List Kal.Per)}{t u:List Kal.Per}{B hi i j k:Nat}{row:Option Nat}{p q:Kal.Per}{h lv v:Go.Value}{W W' W1 w w':Go.World}
namespace Go.Proofs.YthjnojbeimchdaaGreat
open Go.RowKit Go.Maps Kal
theorem uc_ (s:Int) (F:Nat->Prop) (v:Value) (t:List Per) (f:Int) (w:World) (ht:ab_ w F v t) (hv:∀ p∈t,FV s p) (f0:0≤f) (f1:f≤1152921504606846976) :
  Calls Tryz.prog 102 #[v,.int .i64 f] w fun e w'=>∃ n b,e=.returned (.tuple #[.int .i64 n,.bool b])∧ax_ FarI (tmem t) (max f (ba_ t)) n b∧Below w.heap.size w w':=by
 have HST:=fun W (h:Below w.heap.size w W)=>sz_ F v t W (ht.ext h);obtain ⟨L,rfl,hL⟩:=ht;obtain ⟨a1,c1,rfl,hx1,hx2,_⟩:=hL.row.is;have hs0:=(fg_ (t:=L.map PV.p)).1;have hs1:ba_ (L.map PV.p)≤1099511627776:=lv_ dq_ fun p hp=>(hv p hp).far;have HLN:=hq_ (fun l b (h:cn_ FarI (fun x=>False∨ClsS (L.map PV.p) 0 1 x) (max f (ba_ (L.map PV.p))) l b)=>t8_ (F:=FarI) (fun p hp=>(hv p hp).fac.wf) (show ba_ (L.map PV.p)≤max f (ba_ (L.map PV.p)) by omega) h);have HCH:=hq_ (fun w0 b1 b2 b3 b4 b5 hB hLL f f0 f1=>p9_ s w0 b1 b2 b3 b4 b5 hB (.slice a1 L.length c1) L hLL hv f f0 f1);have hl1:=hL.len;have HTL:=hq_ (hL.lt.mono fun b hb=>hb.2);clear hL hv;generalize ba_ (L.map PV.p)=st at *
 go_enter Tryz.func102,Tryz.ntmps102
 go_wp2_with fail
 refine Code.wp_mono (Q:=fun e a' W'=>e=.normal∧(∃ z9 z10 z11 z12:Value,a'=⟨#[.slice a1 L.length c1,.int .i64 f,.pointer (some ⟨w.heap.size,0,none⟩),.pointer (some ⟨w.heap.size+1,0,none⟩),.int .i64 0,.bool false,undef,undef,undef,z9,z10,z11,z12,undef,undef,undef,undef,undef,undef,undef],[]⟩)∧Bxx W' w.heap.size #[.slice a1 L.length c1] 36∧Bxx W' (w.heap.size+1) #[.int .i64 (max f st)] 3∧Below w.heap.size w W') ?imp ?reg
 case reg=>
  have HB0:Hid (Bxx ((w.alloc (.cells #[.slice a1 L.length c1] 36)).alloc (.cells #[.int .i64 f] 3)) w.heap.size #[.slice a1 L.length c1] 36):=hq_ ((Bxx.new w _ _).alloc _);have HB1:Hid (Bxx ((w.alloc (.cells #[.slice a1 L.length c1] 36)).alloc (.cells #[.int .i64 f] 3)) (w.heap.size+1) #[.int .i64 f] 3):=hq_ (Bxx.at sq_);have key:f<st∨st≤f:=Int.lt_or_le f st;rcases key with hlt|hgt
  all_goals
   go_region_with (go_at_call 141;(refine (HST _ xE).mono ?_;rintro e w1 ⟨rfl,hb1⟩;have b0:Bxx w1 w.heap.size #[.slice a1 L.length c1] 36:=HB0.out.drewB.below hb1;have b1:Bxx w1 (w.heap.size+1) #[.int .i64 f] 3:=HB1.out.drewB.below hb1;have x0:=b0.c0;have x1:=b1.cells 0;have hW1:Below w.heap.size w w1:=Et (Ed (Ea (Ea (Er w) _) _)) hb1))
   all_goals exact ⟨rfl,⟨_,_,_,_,rfl⟩,b0.setNe _ oq_,a4_ 0 _ b1,hW1.setCell (p:=⟨w.heap.size+1,0,none⟩) (by show w.heap.size≤w.heap.size+1;omega) _⟩
 case imp=>
  rintro e a' W2 ⟨rfl,⟨z9,z10,z11,z12,rfl⟩,h0,h1,h2⟩;have hl1':=h1.lt;have hLB:LB w w.heap.size (W2.heap.size+1+1) (w.heap.size+1) W2.heap.size (W2.heap.size+1):=⟨oq_,oq_,oq_,oq_,oq_,oq_,oq_,oq_,oq_⟩;go_wp2_with (go_at_call 142;(refine (HCH.out w w.heap.size (W2.heap.size+1+1) (w.heap.size+1) W2.heap.size (W2.heap.size+1) hLB HTL.out (max f st) oq_ oq_ L.length 0 0 1 1152921504606846976 false (fun _=>False) _ oq_ oq_ oq_ ⟨27720,dq_⟩ ⟨Ea (Ea (Ea h2 _) _) _,((h0.alloc _).alloc _).alloc _,xB,((h1.alloc _).alloc _).alloc _,xB,by exact xB⟩ cn_.start).mono ?_;rintro e w7 ⟨l,fb,rfl,hs,-,hz,hbest⟩;have q4:=hs.c4.c0;have q5:=hs.c5.c0;have HN:=hq_ (HLN.out l fb hbest);have hbel:=hs.below;cases fb))
  ·go_ret2;exact ⟨_,_,rfl,HN.out,hbel⟩
  ·go_ret2;exact ⟨_,_,rfl,HN.out,hbel⟩
end Go.Proofs.YthjnojbeimchdaaGreat
namespace Go.Proofs.YthjnojbeimchdaaGreat
open Go.RowKit Go.Shelf Go.Maps Kal
attribute [local go_sem] Oper.semAt_some
structure LZ (B:Nat) (w:World) (f n:Int) (b:Bool) (W:World):Prop where
 below:Below B w W
 c3:Bxx W B #[.int .i64 f] 3
 c6:Bxx W (B+1) #[.int .i64 n] 3
 c7:Bxx W (B+1+1) #[.bool b] 4
theorem LZ.grow (h:LZ B w f n b W) (hB:B≤w.heap.size) (hg:W.grownBy W' row) (hr:∀ r,row=some r->B≤r∧∃ o:Obj,W.heap[r]? = some o∧o.isCells=false):LZ B w f n b W':=by
 have key:∀ {b:Nat} {c:Array Value} {t:TypeId},Bxx W b c t->Bxx W' b c t:=fun {b c t} hx=>by
  refine (hg.block b hx.lt fun e=>?_).trans hx;obtain ⟨_,o,ho,hc⟩:=hr b e.symm;rw [show W.heap[b]? = _ from hx] at ho;cases ho;cases hc
 exact ⟨h.below.grown hg (Nat.le_trans hB h.below.size) (fun k e=>(hr k e).1),key h.c3,key h.c6,key h.c7⟩
theorem LZ.ext (h:LZ B w f n b W) (hB:B≤w.heap.size) (hb:Below W.heap.size W W'):LZ B w f n b W':=
 ⟨h.below.trans (hb.mono (Nat.le_trans hB h.below.size)),h.c3.below hb,h.c6.below hb,h.c7.below hb⟩
theorem LZ.put {n':Int} (h:LZ B w f n b W):LZ B w f n' true ((W.setCell ⟨B+1,0,none⟩ (.int .i64 n')).setCell ⟨B+1+1,0,none⟩ (.bool true)):=
 ⟨(h.below.setCell (p:=⟨B+1,0,none⟩) (Nat.le_succ _) _).setCell (p:=⟨B+1+1,0,none⟩) (by show B≤B+1+1;omega) _,Bxx.setNe (h.c3.setNe _ oq_) _ oq_,Bxx.setNe (a4_ 0 _ h.c6) _ oq_,a4_ 0 _ (h.c7.setNe _ oq_)⟩
theorem x6_ {m:Int} {S T:Int->Prop} (h:ax_ F S f n b) (g:ax_ F T f m true) (hc:b=false∨m<n):ax_ F (fun x=>S x∨T x) f m true:=by
 have:=l6_ h g;rw [if_pos ⟨rfl,hc⟩,Bool.or_true] at this;exact this
theorem wd_ {m:Int} {S T:Int->Prop} {c:Bool} (h:ax_ F S f n b) (g:ax_ F T f m c) (hc:c=false∨(b=true∧¬ m<n)):ax_ F (fun x=>S x∨T x) f n b:=by
 have:=l6_ h g;rcases hc with rfl|⟨rfl,hc⟩
 ·rw [if_neg (fun e=>by cases e.1),Bool.or_false] at this;exact this
 ·rw [if_neg (fun e=>by rcases e.2 with e|e;cases e;exact hc e)] at this;exact this
theorem py_ {L:List (List Per)} (h:ax_ F (fun x=>mmem L x∨tmem t x) f n b):ax_ F (mmem (L ++ [t])) f n b:=h.congr fun x _ _=>sy_
theorem da_ {W0:World} {c:Bool} {pre:List (Value × List Per)} {y:Value × List Per} {a:Act} (hw:w.heap.size≤W'.heap.size) (hl:LZ w.heap.size w f n b W') (h:ax_ FarI (mmem (pre.map Prod.snd)) f n b) (hb:Below W'.heap.size W' W1) (g:ax_ FarI (tmem y.2) f d c) (hc:c=false∨(b=true∧¬ d<n)) :
  my_ W0.heap.size (KpB fun k=>k<w.heap.size) (fun W'=>∃ n b,ax_ FarI (mmem ((pre ++ [y]).map Prod.snd)) f n b∧LZ w.heap.size w f n b W') W' .normal a W1:=
 ⟨(KeepsOthers.of_below hb).from _,fun k hk=>hb.block k oq_,n,b,by rw [List.map_append];exact py_ (wd_ h g hc),hl.ext (Nat.le_refl _) hb⟩
theorem hv_ {W0:World} {pre:List (Value × List Per)} {y:Value × List Per} {a:Act} (hw:w.heap.size≤W'.heap.size) (hl:LZ w.heap.size w f n b W') (h:ax_ FarI (mmem (pre.map Prod.snd)) f n b) (hb:Below W'.heap.size W' W1) (g:ax_ FarI (tmem y.2) f d true) (hc:b=false∨d<n) :
  my_ W0.heap.size (KpB fun k=>k<w.heap.size) (fun W'=>∃ n b,ax_ FarI (mmem ((pre ++ [y]).map Prod.snd)) f n b∧LZ w.heap.size w f n b W') W' .normal a ((W1.setCell ⟨w.heap.size+1,0,none⟩ (.int .i64 d)).setCell ⟨w.heap.size+1+1,0,none⟩ (.bool true)):=
 ⟨(((KeepsOthers.of_below hb).trans (KeepsOthers.setCell W1 _ _)).trans (KeepsOthers.setCell _ _ _)).from _,fun k hk=>((Below.heap_setCell _ ⟨w.heap.size+1+1,0,none⟩ _ k (by show k≠w.heap.size+1+1;omega)).trans (Below.heap_setCell _ ⟨w.heap.size+1,0,none⟩ _ k (by show k≠w.heap.size+1;omega))).trans (hb.block k oq_),d,true,by rw [List.map_append];exact py_ (x6_ h g hc),(hl.ext (Nat.le_refl _) hb).put⟩
theorem i9_ (s:Int) (g:Nat) (lb:Array Value) (T:List (List Per)) (f:Int) (w:World) (hit:n3_ g lb T w) (hT:∀ t∈T,aw_ s t) (f0:0≤f) (f1:f≤9223372036854775807) :
  Calls Tryz.prog 60 #[.func (.func g) #[] lb,.int .i64 f] w fun e w'=>∃ n b,e=.returned (.tuple #[.int .i64 n,.bool b])∧ax_ FarI (mmem T) f n b∧Below w.heap.size w w':=by
 refine callsIn_wide (n:=0).1 ?_;refine callsIn_of_wp_marks Tryz.func60 rfl trivial ?_ rfl;simp only [Tryz.ntmps60,List.size_toArray,List.length_cons,List.length_nil,Nat.reduceAdd,Nat.reduceSub,Array.replicate_succ,Array.replicate_zero,List.push_toArray,List.append_toArray,List.nil_append,List.cons_append]
 gi_wp2_with fail
 generalize hW0:((w.alloc _).alloc _).alloc _=W0;have hE:Below w.heap.size w W0:=by rw [<- hW0];exact xE
 have hsz:W0.heap.size=w.heap.size+3:=by rw [<- hW0];simp
 have hb3:Bxx W0 w.heap.size #[.int .i64 f] 3:=by rw [<- hW0];exact ((Bxx.at rfl).alloc _).alloc _
 have hb6:Bxx W0 (w.heap.size+1) #[.int .i64 0] 3:=by rw [<- hW0];exact (Bxx.at sq_).alloc _
 have hb7:Bxx W0 (w.heap.size+1+1) #[.bool false] 4:=by rw [<- hW0];exact Bxx.at sq_
 have HIT:=hq_ hit;have HST:Hid (LZ w.heap.size w f 0 false W0):=hq_ ⟨hE,hb3,hb6,hb7⟩;have HT:=hq_ hT;clear hW0 hb3 hb6 hb7 hit hT;refine jh_ (α:=Value × List Per) (x:=none) (gf:=g) (lb:=lb) rfl HIT.out.1 (HIT.out.2 W0 hE) (fun h k=>h.trans k) (KpB.putObj (by intro k hk;omega)) (fun y=>rfl)
  (fun pre W'=>∃ n b,ax_ FarI (mmem (pre.map Prod.snd)) f n b∧LZ w.heap.size w f n b W')
  (by
   rintro pre A C row ⟨n,b,h1,h2⟩ hg hr;refine ⟨n,b,h1,h2.grow (Nat.le_refl _) hg fun r e=>?_⟩;rcases hr r e with ⟨h,_⟩|⟨h,h'⟩
   ·cases h
   ·exact ⟨oq_,h'⟩)
  EyT.put (by exact ⟨0,false,s8_,HST.out⟩)
  (fun y=>⟨#[.func (Fn.func g) #[] lb,.int .i64 f,undef,.pointer (some ⟨w.heap.size,0,none⟩),.int .i64 0,.bool false,.pointer (some ⟨w.heap.size+1,0,none⟩),.pointer (some ⟨w.heap.size+1+1,0,none⟩),y.1,undef,undef,.func (Fn.func g) #[] lb,y.1,undef,undef,undef,undef,undef,undef,undef,undef,undef,undef,undef,undef,undef,undef,undef,undef,undef,undef,undef,undef,undef,undef,undef,undef,undef,undef,undef,undef,undef,undef,undef,undef,undef,undef,undef],[]⟩) ?assign ?body ?done
 case assign=>
  intro l y W' K hK;unfold tenc
  gi_wp2
  exact hK
 case body=>
  rintro l pre y W' ⟨n,b,hN,hLI⟩ ⟨⟨r,hTr⟩,F,hyt⟩;obtain ⟨yv,yt⟩:=y;dsimp only at hTr hyt;have hvt:=HT.out yt (by rw [hTr];simp);obtain ⟨ya,yc,rfl,_⟩:=hyt.form;have hTV:TV yt:=fun p hp=>(hvt.fv p hp).validB;have hwf:∀ p∈yt,p.WF:=fun p hp=>(hvt.fv p hp).fac.wf;have hs1:ba_ yt≤FarI:=lv_ dq_ fun p hp=>Int.le_trans (hvt.fv p hp).far dq_;have HTM:=hq_ (fun d ok h=>sg_ hvt.ne hwf hs1 (rw_ (f:=f) (n:=d) (b:=ok) hvt.ne hwf h));have HEA:=hq_ (fun W (h:Below W'.heap.size W' W)=>mb_ F _ yt f W (hyt.ext h) hTV ⟨oq_,oq_⟩);have HRE:=hq_ (fun W (h:Below W'.heap.size W' W)=>hg_ F _ yt W (hyt.ext h) hTV);have HLA:=hq_ (fun W (h:Below W'.heap.size W' W) (h1:f≤1152921504606846976)=>uc_ s F _ yt f W (hyt.ext h) hvt.fv f0 h1);have q3:=hLI.c3.c0;have hwz:=hLI.c7.lt;have HLI:=hq_ hLI;have HN:=hq_ hN;clear hN hLI hTr hyt hvt hTV hwf hs1;have hwz2:w.heap.size≤W'.heap.size:=oq_;generalize hQ9:my_ W0.heap.size _ _ W'=Q9;have HQ9:=hq_ hQ9;clear hQ9
  by_cases hff:f≤1152921504606846976
  all_goals
   (try have HFF:Hid (FarI<f):=hq_ (Int.not_le.1 hff))
   cases b
   ·
    gi_wp2_with (first
     | (refine ⟨trivial,rfl,?_⟩;gi_at_call 101;refine (CallsIn.inRound l (callsIn_wide.2 (HEA.out W' (Er _)))).mono ?_;rintro e w1 ⟨d,ok,rfl,hbe,hb1⟩;have HB1:=hq_ hb1;have HBW:=hq_ hb1;have hL1:=HLI.out.ext (Nat.le_refl _) hb1;have r3:=hL1.c3.c0;have r6:=hL1.c6.cells 0;have r7:=hL1.c7.cells 0;have HTN:=hq_ (HTM.out d ok hbe);clear hb1 hL1 hbe;cases ok;rotate_left;(have HNX:=hq_ (HTN.out.1 sq_));rotate_left)
     | (refine ⟨trivial,rfl,?_⟩;gi_at_call 76;refine (CallsIn.inRound l (callsIn_wide.2 (HRE.out _ HB1.out))).mono ?_;rintro e w2 ⟨b2,rfl,hrec,hb2⟩;have HB2:=hq_ hb2;have HBW:=hq_ (Et HB1.out hb2);have hL2:=HLI.out.ext (Nat.le_refl _) (Et HB1.out hb2);have s3:=hL2.c3.c0;have s6:=hL2.c6.cells 0;have s7:=hL2.c7.cells 0;have HNR:=hq_ (show b2=false->¬ recT yt from fun h0 h=>by have h1:=hrec.2 h;rw [h0] at h1;cases h1);clear hb2 hL2 hrec;cases b2)
     | (refine ⟨trivial,rfl,?_⟩;gi_at_call 102;(refine (CallsIn.inRound l (callsIn_wide.2 (HLA.out _ (Et HB1.out HB2.out) (by assumption)))).mono ?_);rintro e w3 ⟨m3,c3,rfl,hnx,hb3⟩;have HBW:=hq_ (Et (Et HB1.out HB2.out) hb3);have hL3:=HLI.out.ext (Nat.le_refl _) (Et (Et HB1.out HB2.out) hb3);have u3:=hL3.c3.c0;have u6:=hL3.c6.cells 0;have u7:=hL3.c7.cells 0;have HNX:=hq_ (HTN.out.2.2 sq_ m3 c3 hnx);clear hb3 hL3 hnx;cases c3)
     | (refine ⟨trivial,?_⟩;apply_assumption))
    all_goals rw [<- HQ9.out]
    all_goals first
     | exact da_ (y:=(.slice ya yt.length yc,yt)) hwz2 HLI.out HN.out HBW.out HNX.out (.inl rfl)
     | exact hv_ (y:=(.slice ya yt.length yc,yt)) hwz2 HLI.out HN.out HBW.out HNX.out (.inl rfl)
     | exact da_ (y:=(.slice ya yt.length yc,yt)) hwz2 HLI.out HN.out HBW.out HNX.out (.inr ⟨rfl,Int.not_lt.2 (by assumption)⟩)
     | exact hv_ (y:=(.slice ya yt.length yc,yt)) hwz2 HLI.out HN.out HBW.out HNX.out (.inr (by assumption))
     | exact da_ (y:=(.slice ya yt.length yc,yt)) hwz2 HLI.out HN.out HBW.out (HTN.out.2.1 sq_ (.inr (HNR.out sq_))) (.inl rfl)
     | exact da_ (y:=(.slice ya yt.length yc,yt)) hwz2 HLI.out HN.out HBW.out (HTN.out.2.1 sq_ (.inl HFF.out)) (.inl rfl)
   ·
    gi_wp2_with (first
     | (refine ⟨trivial,rfl,?_⟩;gi_at_call 101;refine (CallsIn.inRound l (callsIn_wide.2 (HEA.out W' (Er _)))).mono ?_;rintro e w1 ⟨d,ok,rfl,hbe,hb1⟩;have HB1:=hq_ hb1;have HBW:=hq_ hb1;have hL1:=HLI.out.ext (Nat.le_refl _) hb1;have r3:=hL1.c3.c0;have r6:=hL1.c6.cells 0;have r7:=hL1.c7.cells 0;have HTN:=hq_ (HTM.out d ok hbe);clear hb1 hL1 hbe;cases ok;rotate_left;(have HNX:=hq_ (HTN.out.1 sq_));rotate_left)
     | (refine ⟨trivial,rfl,?_⟩;gi_at_call 76;refine (CallsIn.inRound l (callsIn_wide.2 (HRE.out _ HB1.out))).mono ?_;rintro e w2 ⟨b2,rfl,hrec,hb2⟩;have HB2:=hq_ hb2;have HBW:=hq_ (Et HB1.out hb2);have hL2:=HLI.out.ext (Nat.le_refl _) (Et HB1.out hb2);have s3:=hL2.c3.c0;have s6:=hL2.c6.cells 0;have s7:=hL2.c7.cells 0;have HNR:=hq_ (show b2=false->¬ recT yt from fun h0 h=>by have h1:=hrec.2 h;rw [h0] at h1;cases h1);clear hb2 hL2 hrec;cases b2)
     | (refine ⟨trivial,rfl,?_⟩;gi_at_call 102;(refine (CallsIn.inRound l (callsIn_wide.2 (HLA.out _ (Et HB1.out HB2.out) (by assumption)))).mono ?_);rintro e w3 ⟨m3,c3,rfl,hnx,hb3⟩;have HBW:=hq_ (Et (Et HB1.out HB2.out) hb3);have hL3:=HLI.out.ext (Nat.le_refl _) (Et (Et HB1.out HB2.out) hb3);have u3:=hL3.c3.c0;have u6:=hL3.c6.cells 0;have u7:=hL3.c7.cells 0;have HNX:=hq_ (HTN.out.2.2 sq_ m3 c3 hnx);clear hb3 hL3 hnx;cases c3)
     | (refine ⟨trivial,?_⟩;apply_assumption))
    all_goals rw [<- HQ9.out]
    all_goals first
     | exact da_ (y:=(.slice ya yt.length yc,yt)) hwz2 HLI.out HN.out HBW.out HNX.out (.inl rfl)
     | exact hv_ (y:=(.slice ya yt.length yc,yt)) hwz2 HLI.out HN.out HBW.out HNX.out (.inl rfl)
     | exact da_ (y:=(.slice ya yt.length yc,yt)) hwz2 HLI.out HN.out HBW.out HNX.out (.inr ⟨rfl,Int.not_lt.2 (by assumption)⟩)
     | exact hv_ (y:=(.slice ya yt.length yc,yt)) hwz2 HLI.out HN.out HBW.out HNX.out (.inr (by assumption))
     | exact da_ (y:=(.slice ya yt.length yc,yt)) hwz2 HLI.out HN.out HBW.out (HTN.out.2.1 sq_ (.inr (HNR.out sq_))) (.inl rfl)
     | exact da_ (y:=(.slice ya yt.length yc,yt)) hwz2 HLI.out HN.out HBW.out (HTN.out.2.1 sq_ (.inl HFF.out)) (.inl rfl)
 case done=>
  rintro D xs W' hD hfin ⟨n,b,hN,hLI⟩ hdef;rw [show xs.map Prod.snd=T from hfin] at hN;have q6:=hLI.c6.c0;have q7:=hLI.c7.c0;have hM:b5_ w.heap.size [{ target:=.collected D,args:=#[] }] W':=dl_ oq_ hdef;have HM:=hq_ hM;have HN:=hq_ hN;have HLI:=hq_ hLI;clear hfin hN hLI hdef hM
  gi_wp2_with fail
  refine wpIn_wide.2 ?_;go_quiet (fail)
  go_wp2_with fail
  gi_wp2_with fail
  refine ce_ (B:=w.heap.size) _ _ HM.out fun w' hs=>⟨.tuple #[.int .i64 n,.bool b],by simp [results,Tryz.results60,go_sem],n,b,rfl,HN.out,(En HLI.out.below _).trans hs.below⟩
end Go.Proofs.YthjnojbeimchdaaGreat
namespace Go.Proofs.YthjnojbeimchdaaGreat
open Go.RowKit Go.Maps Kal
def ou_ (S:Int->Prop) (f:Int) (w:World) (e:Ending) (w':World):Prop:=∃ n b,e=.returned (.tuple #[.int .i64 n,.bool b])∧ax_ FarI S f n b∧Below w.heap.size w w'
theorem sa_ (s:Int) (F:Nat->Prop) (v:Value) (m:List (List Per)) (f:Int) (w:World) (h1:MixR w F v m) (k1:MV s m) (hf:InI f) :
  Calls Tryz.prog 16 #[.agg #[v],.int .i64 f] w (ou_ (mmem m) (max f 0) w):=by
 have HV1:=fun W (h:Below w.heap.size w W)=>bh_ F v m W (h1.ext h);rw [k1.val] at HV1;obtain ⟨a1,c1,rfl⟩:=h1.form;have HLE:=hq_ (fun W (h:Below w.heap.size w W) b1 hb1=>i9_ s _ _ m (max f 0) W (dv_ F (.slice a1 m.length c1) m b1 W (h1.ext h) hb1) k1.vt oq_ (by have:=hf.2;omega));clear h1 k1;have key:f<0∨0≤f:=Int.lt_or_le f 0;rcases key with hf0|hf0
 all_goals
  go_enter Tryz.func16,Tryz.ntmps16
  go_wp2_with (first|(go_at_call 18;refine (HV1 _ (Ea (Er w) _)).mono ?_;rintro e w1 ⟨rfl,hb1⟩;have b0:Bxx w1 w.heap.size #[.slice a1 m.length c1] 28:=Bxx.below xB hb1;have x0:=b0.c0;have hW1:Below w.heap.size w w1:=Et (Ea (Er w) _) hb1)|(go_at_call 61;refine (dn_ _ _ ⟨_,_,_,rfl⟩).mono ?_;rintro e w4 ⟨rfl,rfl⟩)|(go_at_call 60;((with_reducible refine (HLE.out _ (Ea hW1 _) w1.heap.size (Bxx.new w1 #[.slice a1 m.length c1] 26).c0).mono ?_);rintro e w5 ⟨n,b,rfl,hn,hb5⟩)))
  go_ret2;exact ⟨n,b,rfl,hn,Et (Ea hW1 _) hb5⟩
theorem rf_ (s:Int) (F1 F2:Nat->Prop) (v1 v2:Value) (m1 m2:List (List Per)) (f:Int) (w:World) (h1:MixR w F1 v1 m1) (h2:MixR w F2 v2 m2) (k1:MV s m1) (k2:MV s m2) (hf:InI f) :
  Calls Tryz.prog 27 #[.agg #[v1],.agg #[v2],.int .i64 f] w (ou_ (mmem (ao_ m1 m2)) (max f 0) w):=by
 have HV1:=fun W (h:Below w.heap.size w W)=>bh_ F1 v1 m1 W (h1.ext h);have HV2:=fun W (h:Below w.heap.size w W)=>bh_ F2 v2 m2 W (h2.ext h);rw [k1.val] at HV1;rw [k2.val] at HV2;have hVT:∀ t∈ao_ m1 m2,aw_ s t:=fun t ht=>by
  obtain ⟨x,hx,y,hy,rfl⟩:=hi_.1 ht;refine ⟨fun e=>(k1.vt x hx).ne (List.append_eq_nil_iff.1 e).1,fun p hp=>(List.mem_append.1 hp).elim ((k1.vt x hx).fv p) ((k2.vt y hy).fv p),?_⟩;rw [List.length_append];have:=k1.tlen x hx;have:=k2.tlen y hy;omega
 have HLE:=hq_ (fun W (h:Below w.heap.size w W) b1 b2 hb1 hb2=>i9_ s _ _ (ao_ m1 m2) (max f 0) W (lz_ F1 F2 v1 v2 m1 m2 b1 b2 W (h1.ext h) (h2.ext h) hb1 hb2 (fun t ht=>by have:=k1.tlen t ht;omega) (fun t ht=>by have:=k2.tlen t ht;omega)) hVT oq_ (by have:=hf.2;omega));obtain ⟨a1,c1,rfl⟩:=h1.form;obtain ⟨a2,c2,rfl⟩:=h2.form;clear h1 h2 k1 k2 hVT;have key:f<0∨0≤f:=Int.lt_or_le f 0;rcases key with hf0|hf0
 all_goals
  go_enter Tryz.func27,Tryz.ntmps27
  go_wp2_with (first|(go_at_call 18;first
    | ((with_reducible refine (HV1 _ (Ea (Ea (Er w) _) _)).mono ?_);rintro e w1 ⟨rfl,hb1⟩;have b0:Bxx w1 w.heap.size #[.slice a1 m1.length c1] 28:=Bxx.below xB hb1;have b1:Bxx w1 (w.heap.size+1) #[.slice a2 m2.length c2] 28:=Bxx.below xB hb1;have x0:=b0.c0;have x1:=b1.c0;have hW1:Below w.heap.size w w1:=Et (Ea (Ea (Er w) _) _) hb1)
    | ((with_reducible refine (HV2 _ hW1).mono ?_);rintro e w2 ⟨rfl,hb2⟩;have d0:=b0.below hb2;have d1:=b1.below hb2;have y0:=d0.c0;have y1:=d1.c0;have hW2:Below w.heap.size w w2:=Et hW1 hb2))|(go_at_call 70;refine (ly_ _ _ _ ⟨_,_,_,rfl⟩ ⟨_,_,_,rfl⟩).mono ?_;rintro e w4 ⟨rfl,rfl⟩)|(go_at_call 60;((with_reducible refine (HLE.out _ (Ea (Ea hW2 _) _) w2.heap.size (w2.heap.size+1) ((Bxx.new w2 #[.slice a1 m1.length c1] 28).alloc (.cells #[.slice a2 m2.length c2] 28)).c0 (Bxx.at (w:=w2.alloc (.cells #[.slice a1 m1.length c1] 28)) (c:=#[.slice a2 m2.length c2]) (t:=28) sq_).c0).mono ?_);rintro e w5 ⟨n,b,rfl,hn,hb5⟩)))
  go_ret2;exact ⟨n,b,rfl,hn,Et (Ea (Ea hW2 _) _) hb5⟩
def kc_ (m1 m2:List (List Per)) (w:World) (e:Ending) (w':World):Prop:=
 ∃ (r:Option (List (List Per) × List (List Per))),x2_ m1 m2 r∧Below w.heap.size w w'∧
  ((∃ mk nk n b,r=some (mk,nk)∧ax_ FarI (mmem (mk ++ nk)) 0 n b∧e=.returned (.tuple #[.int .i64 n,.bool b,.int .i64 0]))∨(r=none∧e=.returned (.tuple #[.int .i64 0,.bool false,.int .i64 2])))
theorem se_ {a b:List (List Per)} (h1:∀ t∈a,aw_ s t) (h2:∀ t∈b,aw_ s t):∀ t∈a ++ b,aw_ s t:=fun t ht=>(List.mem_append.1 ht).elim (h1 t) (h2 t)
theorem rb_ (s:Int) (F1 F2:Nat->Prop) (v1 v2:Value) (m1 m2:List (List Per)) (w:World) (h1:MixR w F1 v1 m1) (h2:MixR w F2 v2 m2) (k1:MV s m1) (k2:MV s m2) :
  Calls Tryz.prog 38 #[.agg #[v1],.agg #[v2]] w (kc_ m1 m2 w):=by
 have HM:=fun W (h:Below w.heap.size w W)=>s9_ s F1 F2 v1 v2 m1 m2 W (h1.ext h) (h2.ext h) k1 k2;obtain ⟨a1,c1,rfl⟩:=h1.form;obtain ⟨a2,c2,rfl⟩:=h2.form;clear h1 h2 k1 k2
 go_enter Tryz.func38,Tryz.ntmps38
 go_wp2_with (first|(go_at_call 82;(refine (HM _ (Ea (Ea (Er w) _) _)).mono ?_;rintro e w1 hres;obtain ⟨a,n,c,a',n',c',k,rfl,hb1,hst⟩:=hres;have hW1:Below w.heap.size w w1:=Et (Ea (Ea (Er w) _) _) hb1;have HW1:=hq_ hW1;have HST:=hq_ hst;clear hW1 hst hb1;rcases HST.out with ⟨rfl,mk,nk,hM,hN,hmv,hnv,hmr,hnr⟩|⟨rfl,hF⟩))|(go_at_call 69;(refine (kn_ _ _ (w1.heap.size+1+1) 2 (.slice a n c) (.slice a' n' c') mk nk _ (fun i=>((Bxx.at (w:=(w1.alloc (.cells #[.slice a n c] 28)).alloc (.cells #[.slice a' n' c'] 28)) (b:=w1.heap.size+1+1) (c:=#[.slice a n c,.slice a' n' c']) (t:=26) sq_).cells i).1) (hmr.ext (Ea (Ea (Ea (Er w1) _) _) _)) (hnr.ext (Ea (Ea (Ea (Er w1) _) _) _)) (by have:=hmv.len;have:=hnv.len;omega) oq_ oq_).mono ?_;rintro e w2 ⟨v,rfl,hcm,hb2⟩;have hvt9:=se_ hmv.vt hnv.vt;generalize hL9:mk ++ nk=L9 at hcm hvt9;have HL9:=hq_ hL9;clear hL9;obtain ⟨ya,yc,rfl⟩:=hcm.form;have hW2:Below w.heap.size w w2:=Et (Ea (Ea (Ea HW1.out _) _) _) hb2))|(go_at_call 61;refine (dn_ _ _ ⟨_,_,_,rfl⟩).mono ?_;rintro e w4 ⟨rfl,rfl⟩)|(go_at_call 60;(refine (i9_ s _ _ L9 0 _ (dv_ (fun _=>True) (.slice ya L9.length yc) L9 w2.heap.size (w2.alloc (.cells #[.slice ya L9.length yc] 26)) (hcm.ext (Ea (Er w2) _)) (Bxx.new w2 #[.slice ya L9.length yc] 26).c0) hvt9 oq_ oq_).mono ?_;rintro e w5 ⟨n9,b9,rfl,hn,hb5⟩)))
 ·exact bodyPost_ret (v:=.tuple #[.int .i64 n9,.bool b9,.int .i64 0]) (by simp [results,Tryz.results38,go_sem]) rfl ⟨some (mk,nk),⟨hM,hN⟩,Et (Ea hW2 _) hb5,.inl ⟨mk,nk,n9,b9,rfl,by rw [HL9.out];exact hn,rfl⟩⟩
 ·exact bodyPost_ret (v:=.tuple #[.int .i64 0,.bool false,.int .i64 2]) (by simp [results,Tryz.results38,go_sem]) rfl ⟨none,hF,Ea (Ea HW1.out _) _,.inr ⟨rfl,rfl⟩⟩
end Go.Proofs.YthjnojbeimchdaaGreat
end
