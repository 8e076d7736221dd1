/- Part 9 of the proof of the laws. -/
import Derived.Test.YtkclokcenllhmaaGreatM8
import Derived.Test.YtkclokcenllhmaaGreatM7
import Derived.Test.YtkclokcenllhmaaGreatM6
import Derived.Test.YtkclokcenllhmaaGreatM5
set_option linter.unusedVariables false
set_option linter.unusedSimpArgs false
set_option maxRecDepth 100000
set_option maxHeartbeats 4000000
section
variable {a b f:Int}{k n:Nat}{v:Go.Value}{W W':Go.World}
namespace Go.Proofs.YtkclokcenllhmaaGreat
open Go.RowKit Go.Maps Kal
theorem xh_ {l1 l2:List Spn} {t:Int}:CmP 0 l1 l2 t↔SpM l1 t∨SpM l2 t:=by
 unfold CmP inK;rw [if_pos rfl,Bool.or_eq_true,cz_,cz_]
theorem om_ {l1 l2:List Spn} {t:Int}:CmP 1 l1 l2 t↔SpM l1 t∧SpM l2 t:=by
 unfold CmP inK;rw [if_neg oq_,Bool.and_eq_true,cz_,cz_]
theorem n0_ {F:Nat->Prop}:SpnL W F (.slice none 0 0) []:=⟨⟨none,0,rfl,Nat.le_refl _,sq_,.inl rfl⟩,sq_,sq_⟩
theorem nw_ (F:Nat->Prop) (v:Value) (l:List Spn) (w:World) (h:SpnL w F v l) (hn:l.length≤400000) (hf:l.any farS=false) :
  Calls Tryz.prog 53 #[v] w fun e w'=>∃ u N,e=.returned (.tuple #[u,.int .i64 0])∧NS N∧(∀ t,SpM N t↔SpM l t)∧N.length≤2*l.length∧SpnL w' (fun b=>w.heap.size≤b) u N∧Below w.heap.size w w':=by
 have HR:=fun W (hb:Below w.heap.size w W)=>mu_ F v l W (h.ext hb);rw [hf] at HR;have HR:=hq_ HR;have HC:=hq_ (fun W (hb:Below w.heap.size w W)=>jo_ 0 (.inl rfl) F (fun _=>True) v (.slice none 0 0) l [] W (h.ext hb) n0_ (by simpa using hn));clear h hf
 go_enter Tryz.func53,Tryz.ntmps53
 go_wp2_with (first|(go_at_call 97;(with_reducible refine (HR.out _ xE).mono ?_);rintro e w1 ⟨rfl,hb1⟩;have HB1:=hq_ hb1;clear hb1)|(go_at_call 98;(with_reducible refine (HC.out _ HB1.out).mono ?_);rintro e w2 ⟨u,N,rfl,h1,h2,h3,h4,h5⟩;have H1:=hq_ h1;have H2:=hq_ h2;have H3:=hq_ h3;have H4:=hq_ h4;have H5:=hq_ h5;clear h1 h2 h3 h4 h5))
 go_ret2;exact ⟨u,N,rfl,H1.out,fun t=>(H2.out t).trans (xh_.trans ⟨fun h=>h.elim id fun h=>absurd h (SpM.nil t),.inl⟩),by simpa using H3.out,H4.out.mono fun b hb=>Nat.le_trans HB1.out.size hb,Et HB1.out H5.out⟩
def BdS (n:Nat) (N:List Int) (v:Value) (W:World):Prop:=∃ g c,v=.slice (some ⟨g,0,none⟩) N.length c∧∃ B,n≤B∧OwnI W B (.slice (some ⟨g,0,none⟩) N.length c) N
theorem BdS.ext {N:List Int} (h:BdS n N v W) (hb:Below W.heap.size W W'):BdS n N v W':=by
 obtain ⟨g,c,h1,B,h2,h3⟩:=h;exact ⟨g,c,h1,B,h2,h3.ext hb⟩
theorem rs_ {l M:List Spn} {n:Int} (hM:NS M) (hm:∀ t,SpM M t↔CmP 1 l [(f,f+n)] t):M.length=0↔by_ (SpM l) n f:=by
 constructor
 ·intro h t t1 t2 ht;obtain rfl:=List.eq_nil_of_length_eq_zero h;exact absurd ((hm t).2 (om_.2 ⟨ht,⟨(f,f+n),sq_,t1,t2⟩⟩)) (SpM.nil t)
 ·intro h;rcases M with _|⟨s,M⟩
  ·rfl
  ·have h1:=hM.pos s sq_;obtain ⟨h2,x,hx,h3,h4⟩:=om_.1 ((hm s.1).1 ⟨s,sq_,Int.le_refl _,h1⟩);obtain rfl:=List.mem_singleton.1 hx;exact absurd h2 (h _ h3 h4)
def BadG (l:List Spn) (n a b:Int):Prop:=(((l.any farS=true∨n<1∨farS (a,b)=true)∧false=false∧(0:Int)=0∧(0:Int)=0)∨(l.any farS=false∧1≤n∧farS (a,b)=false∧GapK (SpM l) n a b 0 false∧(0:Int)=if false then 0+n else 0))
theorem qe_ (F:Nat->Prop) (v:Value) (l:List Spn) (n a b:Int) (w:World) (h:SpnL w F v l) (hl:l.length≤300000) (hn:InI n) (hf:l.any farS=false) (ha:-2251799813685248≤a) (hab:a≤b) (hb:b≤2251799813685248) :
  Calls Tryz.prog 63 #[v,.int .i64 n,.agg #[.int .i64 a,.int .i64 b]] w (qw_ l n a b w):=by
 have hfab:farS (a,b)=false:=by unfold farS;simp;omega
 have HR:=fun W (hb:Below w.heap.size w W)=>mu_ F v l W (h.ext hb);rw [hf] at HR;have HR:=hq_ HR;have HFA:=fun W=>gc_ a W;rw [decide_eq_false oq_] at HFA;have HFA:=hq_ HFA;have HFB:=fun W=>gc_ b W;rw [decide_eq_false oq_] at HFB;have HFB:=hq_ HFB;obtain ⟨a1,c1,rfl⟩:=h.form;have H:=hq_ h;have HF:=hq_ (And.intro hf hfab);clear h hf hfab
 go_enter Tryz.func63,Tryz.ntmps63
 go_upto_region 2 with (go_at_call 97;(with_reducible refine (HR.out _ xE).mono ?_);rintro e w1 ⟨rfl,hb1⟩;have hx:=((Bxx.new w #[.int .i64 a,.int .i64 b] 28).alloc (.cells #[.int .i64 0,.int .i64 0] 28)).below hb1;have hr:Bxx w1 (w.heap.size+1) #[.int .i64 0,.int .i64 0] 28:=Bxx.below (by exact xB) hb1;have HB1:=hq_ (Et (Ea (Ea (Er w) _) _) hb1);have HX:=hq_ hx;have HRX:=hq_ hr;have x0:=(hx.cells 0).1;have x1:=(hx.cells 1).1;have y0:=(hr.cells 0).1;have y1:=(hr.cells 0).2;have y2:=(hr.cells 1).1;have y3:=(hr.cells 1).2;clear hb1 hx hr)
 by_cases hn1:n<1
 ·have HBAD:Hid (BadG l n a b):=hq_ (.inl ⟨.inr (.inl hn1),rfl,rfl,rfl⟩);go_wp2_with fail
  have hb:=HB1.out;have c0:Bxx _ _ _ 28:=a0_ 0 (.int .i64 0) HRX.out;have c1:Bxx _ _ _ 28:=a0_ 1 (.int .i64 0) c0;have s0:=(c1.cells 0).1;have s1:=(c1.cells 1).1;exact bodyPost_ret (v:=.tuple #[.agg #[.int .i64 0,.int .i64 0],.bool false]) (by simp [results,Tryz.results63,go_sem,s0,s1]) rfl ⟨0,0,false,rfl,by exact xE,HBAD.out⟩
 ·have HN1:=hq_ hn1;by_cases hw:b-a<n
  ·have HBAD:Hid (BadG l n a b):=hq_ (.inr ⟨HF.out.1,oq_,HF.out.2,.inr ⟨rfl,rfl,fun g g1 g2=>oq_⟩,sq_⟩);go_wp2_with (go_at_call 105;first|((with_reducible refine (HFA.out _).mono ?_);rintro e w5 ⟨rfl,rfl⟩)|((with_reducible refine (HFB.out _).mono ?_);rintro e w5 ⟨rfl,rfl⟩))
   have hb:=HB1.out;have c0:Bxx _ _ _ 28:=a0_ 0 (.int .i64 0) HRX.out;have c1:Bxx _ _ _ 28:=a0_ 1 (.int .i64 0) c0;have s0:=(c1.cells 0).1;have s1:=(c1.cells 1).1;exact bodyPost_ret (v:=.tuple #[.agg #[.int .i64 0,.int .i64 0],.bool false]) (by simp [results,Tryz.results63,go_sem,s0,s1]) rfl ⟨0,0,false,rfl,by exact xE,HBAD.out⟩
  ·obtain ⟨N,hN⟩:∃ N,N=bndN [] (l ++ []):=⟨_,rfl⟩;have hNA:AscN N:=by rw [hN];exact AscN.bnd .nil
   have hNl:=i6_ (a:=l ++ []) (l:=[]);rw [<- hN,List.append_nil,List.length_nil] at hNl;have hNm:∀ y,y∈N↔∃ s∈l,y=s.1∨y=s.2:=fun y=>by rw [hN,ip_,List.append_nil];simp
   have hBD:=fun W (hb:Below w1.heap.size w1 W)=>jn_ F (fun _=>True) (.slice a1 l.length c1) (.slice none 0 0) l [] W (H.out.ext (Et HB1.out hb)) n0_ tq_;rw [<- hN] at hBD;have HBD:=hq_ hBD;have HNA:=hq_ hNA;have HNL:=hq_ hNl;have HNM:=hq_ hNm;clear hN hNA hNl hNm hBD;go_upto_region 4 with (go_at_call 105;first|((with_reducible refine (HFA.out _).mono ?_);rintro e w5 ⟨rfl,rfl⟩)|((with_reducible refine (HFB.out _).mono ?_);rintro e w5 ⟨rfl,rfl⟩))
   refine aw_ (w0:=w1) [0,1,2,3] [4,5] [41,42,43,44] [.slice a1 l.length c1,undef,.pointer (some ⟨w.heap.size,0,none⟩),.int .i64 a] [[],[0],[],[2]] [] [1] (fun i v lo hi W=>match i with|1=>BdS w1.heap.size N (v 1) W|_=>True) (.a x0 (.b)) ?steps4 ?fin4
   case steps4=>
    repeat' first|exact .n|refine .d ?_ ?_|fail
    all_goals try exact stw
    ·rintro v lo hi W hb ⟨g0,gB⟩ _;refine .inl ⟨rfl,fun K hK=>?_⟩;simp only [ov,vat,Nat.reduceBEq,cond_true,cond_false];go_wp2_with (go_at_call 107;(with_reducible refine (HBD.out _ gB).mono ?_);rintro e w9 ⟨g9,c9,rfl,ho9,hb9⟩)
     exact acx (hK (.slice (some ⟨g9,0,none⟩) N.length c9) w9 hb9 ⟨g9,c9,rfl,W.heap.size,gB.size,ho9⟩) (by simp [ov,vat,upd])
   case fin4=>
    rintro v lo hi W2 hb2 ⟨g0,gB⟩ hf hap;show wpList _ _ _ [_,_] _ _;obtain ⟨-,-,-,gN,cN,hv1,B,hB,hO⟩:=hf 1 rfl;have e3:v 3=.int .i64 a:=(hf 3 rfl).2.2.2
    (try dsimp only)
    rw [hv1,e3];have hs2:=gB.size;have hBl:B≤W2.heap.size:=by have:=hO.lt gN rfl;omega
    have HI:=hq_ (jq_ B gN cN N a W2 hO HNA.out ⟨oq_,oq_⟩ (by have:=HNL.out;omega) hBl);have HB2:=hq_ gB;have HBB:=hq_ hB;clear e3 hf hap hv1 hb2 g0 gB hB hO hs2 hBl;generalize v 0=yv0,v 2=yv2;go_wp2_with (go_at_call 106;(with_reducible refine HI.out.mono ?_);rintro e w3 ⟨gS,cS,rfl,ho3,hb3,-,-⟩;have HO3:=hq_ ho3;have HB3:=hq_ (show Below w1.heap.size w1 w3 from Below.trans HB2.out (hb3.mono HBB.out));clear ho3 hb3)
    obtain ⟨S,hS⟩:∃ S,S=insN N a:=⟨_,rfl⟩;have hSl:=d0_ (l:=N) (x:=a);have hSA:AscN S:=by rw [hS];exact HNA.out.ins a
    have hSm:∀ y,y∈S↔y=a∨∃ s∈l,y=s.1∨y=s.2:=fun y=>by rw [hS,du_,HNM.out]
    rw [<- hS] at HO3 hSl;rw [<- hS];have HSA:=hq_ hSA;have HSM:=hq_ hSm;have HSL:=hq_ (show S.length≤800000 by have:=HNL.out;omega);have HSN:=hq_ (fun y (hy:y∈S)=>(show -2251799813685248≤y∧y≤2251799813685248 by
     rcases (hSm y).1 hy with rfl|⟨s,hs,h⟩
     ·omega
     ·have h3:=List.any_eq_false.1 HF.out.1 s hs;unfold farS at h3;simp at h3;omega))
    clear hSl hSA hSm hS x0 x1 y0 y1 y2 y3;go_loopw [10,11,12] (fun iv _ _ wr=>∃ i:Nat,i≤S.length∧iv=.int .i64 i∧Hid (GpI l n a b S i)∧Hid (Below w3.heap.size w3 wr)) (fun iv _ _ _=>S.length-(intOf iv).toNat)
    case atStart=>exact ⟨0,oq_,rfl,hq_ (fun j hj=>oq_),hq_ (Er _)⟩
    case round=>
     obtain ⟨i,hi,rfl,HG,HB⟩:=hrel;have hSl:=HSL.out;have hx:=HX.out.below (Et HB3.out HB.out);have hr:=HRX.out.below (Et HB3.out HB.out);have x0:=(hx.cells 0).1;have x1:=(hx.cells 1).1;by_cases hlt:i<S.length
     ·have hlI:(i:Int)<S.length:=oq_;have HLT:=hq_ (show i+1≤S.length by omega);obtain ⟨b8,f8,hbo,-,e0,hm0,-⟩:=(HO3.out.ext HB.out).ints.elem hlt;injection hbo with hbo
      injection hbo with q1 q2
      subst q1 q2;rw [Nat.zero_add] at e0;have hsn:=HSN.out _ hm0;obtain ⟨s,hs⟩:∃ s,S.getD i 0=s:=⟨_,rfl⟩;have HSS:=hq_ hs;have HSLT:=hq_ hlt;rw [hs] at e0 hsn;obtain ⟨sn1,sn2⟩:=hsn;clear hs hm0 hlt hx hr;have e1:=a2_ e0 (.cells #[.int .i64 0,.int .i64 0] 28);have e2:=fun o=>a2_ x0 o;have e3:=fun o=>a2_ x1 o;go_upto_region 8 with fail
      go_region
      clear e0 e1 e2 e3 x0 x1;obtain ⟨w5,hw5⟩:∃ x,x=(wr.alloc (.cells #[.int .i64 s,.int .i64 (s+n)] 28)).drew:=⟨_,rfl⟩;rw [<- hw5];have hb5:Below wr.heap.size wr w5:=by rw [hw5];exact Ed (Ea (Er wr) _)
      have hbx:Bxx w5 wr.heap.size #[.int .i64 s,.int .i64 (s+n)] 28:=by rw [hw5];exact Bxx.new wr _ _
      have hx:=HX.out.below (Et HB3.out (Et HB.out hb5));have x0:=(hx.cells 0).1;have x1:=(hx.cells 1).1;have c0:=(hbx.cells 0).1;have c1':=(hbx.cells 1).1;have HB5:=hq_ (Et HB.out hb5);have HBX:=hq_ hbx;have HST:=hq_ (fun (h:a≤s->s+n≤b->¬ by_ (SpM l) n s)=>(show GpI l n a b S (i+1) from fun j hj h1 h2=>by
       rcases Nat.lt_or_eq_of_le (show j≤i by omega) with e|e
       ·exact HG.out j e h1 h2
       ·rw [e,HSS.out] at h1 h2 ⊢;exact h h1 h2))
      clear hw5 hb5 hbx hx;by_cases hsa:s<a
      ·have HS2:=hq_ (HST.out fun h=>oq_);go_wp2_with fail
       go_roundw
       case rel=>exact ⟨i+1,HLT.out,by go_num,HS2,HB5⟩
       case measure=>have:=HLT.out;simp [intOf];omega
      ·by_cases hsb:b<s+n
       ·have HS2:=hq_ (HST.out fun _ h=>oq_);go_wp2_with fail
        go_roundw
        case rel=>exact ⟨i+1,HLT.out,by go_num,HS2,HB5⟩
        case measure=>have:=HLT.out;simp [intOf];omega
       ·have HCM:=hq_ (jo_ 1 (.inr rfl) F _ (.slice a1 l.length c1) (.slice (some ⟨w5.heap.size,0,none⟩) 1 1) l [(s,s+n)] (w5.alloc (.cells #[.int .i64 s,.int .i64 (s+n)] 28)) (H.out.ext (Ea (Et HB1.out (Et HB3.out HB5.out)) _)) (SpnL.lit (l:=[(s,s+n)]) (Bxx.new w5 #[.int .i64 s,.int .i64 (s+n)] 28) rfl sq_ (List.forall_mem_cons.2 ⟨⟨⟨by dsimp only;omega,by dsimp only;omega⟩,⟨by dsimp only;omega,by dsimp only;omega⟩⟩,sq_⟩)) tq_);have HSAB:=hq_ (And.intro (show a≤s by omega) (show s+n≤b by omega));go_upto_region 11 with (go_at_call 98;(with_reducible refine HCM.out.mono ?_);rintro e w6 ⟨u,M,rfl,h1,h2,-,h4,h5⟩;obtain ⟨mp,mq,rfl⟩:=h4.form;have HFR:=hq_ (rs_ h1 h2);have HB6:=hq_ (Et (Ea HB5.out _) h5);have hr6:=HRX.out.below (Et HB3.out HB6.out);have HR6:=hq_ hr6;have d0:=((HBX.out.below (Et (Ea (Er w5) _) h5)).cells 0).1;have d1:=((HBX.out.below (Et (Ea (Er w5) _) h5)).cells 1).1;have y0:=(hr6.cells 0).1;have y1:=(hr6.cells 0).2;have y2:=(hr6.cells 1).1;have y3:=(hr6.cells 1).2;clear h1 h2 h4 h5 hr6 x0 x1 c0 c1')
        by_cases hM:M.length=0
        ·have hMI:(M.length:Int)=0:=oq_;have hgk:=GpI.found HG.out HSA.out (fun y hy=>(HSM.out y).2 (hy.imp id fun ⟨z,h1,h2⟩=>⟨z,h1,.inr h2⟩)) (show 1≤n by have:=HN1.out;omega) HSLT.out (by rw [HSS.out];exact HSAB.out.1) (by rw [HSS.out];exact HSAB.out.2) (by rw [HSS.out];exact HFR.out.1 hM);rw [HSS.out] at hgk;have HGK:=hq_ hgk;clear hM hgk;go_wp2_with fail
         have c0:Bxx _ _ _ 28:=a0_ 0 (.int .i64 s) HR6.out;have c1:Bxx _ _ _ 28:=a0_ 1 (.int .i64 (s+n)) c0;have s0:=(c1.cells 0).1;have s1:=(c1.cells 1).1;have hb:Below w.heap.size w w6:=Et HB1.out (Et HB3.out HB6.out);exact bodyPost_ret (v:=.tuple #[.agg #[.int .i64 s,.int .i64 (s+n)],.bool true]) (by simp [results,Tryz.results63,go_sem,s0,s1]) rfl ⟨s,s+n,true,rfl,by exact xE,.inr ⟨HF.out.1,by have:=HN1.out;omega,HF.out.2,HGK.out,rfl⟩⟩
        ·have hMI:¬ (M.length:Int)=0:=oq_;have HS2:=hq_ (HST.out fun _ _ h=>hM (HFR.out.2 h));clear hM;go_wp2_with fail
         go_roundw
         case rel=>exact ⟨i+1,HLT.out,by go_num,HS2,HB6⟩
         case measure=>have:=HLT.out;simp [intOf];omega
     ·obtain rfl:i=S.length:=oq_;have hkI:¬ (S.length:Int)<S.length:=oq_;have HBAD:Hid (BadG l n a b):=hq_ (.inr ⟨HF.out.1,by have:=HN1.out;omega,HF.out.2,GpI.none HG.out (fun y hy=>(HSM.out y).2 (hy.imp id fun ⟨z,h1,h2⟩=>⟨z,h1,.inr h2⟩)) (by have:=HN1.out;omega),sq_⟩);have y0:=(hr.cells 0).1;have y1:=(hr.cells 0).2;have y2:=(hr.cells 1).1;have y3:=(hr.cells 1).2;have HRX:=hq_ hr;clear hr hx x0 x1;go_wp2_with fail
      have hb:Below w.heap.size w wr:=Et HB1.out (Et HB3.out HB.out);have c0:Bxx _ _ _ 28:=a0_ 0 (.int .i64 0) HRX.out;have c1:Bxx _ _ _ 28:=a0_ 1 (.int .i64 0) c0;have s0:=(c1.cells 0).1;have s1:=(c1.cells 1).1;exact bodyPost_ret (v:=.tuple #[.agg #[.int .i64 0,.int .i64 0],.bool false]) (by simp [results,Tryz.results63,go_sem,s0,s1]) rfl ⟨0,0,false,rfl,by exact xE,HBAD.out⟩
def RlS (s:Str) (a b:Int) (n:Nat) (v:Value) (W:World):Prop:=∃ D:List Inst,ExtL W (fun q=>n≤q) v D∧D.length≤200∧(a<b->au_ s a b D)∧(¬ a<b->D=[])
def RlV (s:Str) (a b:Int) (n:Nat) (v:Value) (W:World):Prop:=∃ lv,v=.tuple #[lv,.int .i64 0]∧RlS s a b n lv W
theorem RlS.ext {s:Str} (h:RlS s a b n v W) (hb:Below W.heap.size W W'):RlS s a b n v W':=by
 obtain ⟨D,h1,h2⟩:=h;exact ⟨D,h1.ext hb,h2⟩
theorem RlV.ext {s:Str} (h:RlV s a b n v W) (hb:Below W.heap.size W W'):RlV s a b n v W':=by
 obtain ⟨lv,h1,h2⟩:=h;exact ⟨lv,h1,h2.ext hb⟩
theorem sz_ {o:Bool} {d:List Ent} {e:Ent} (hk:k<d.length) (he:d.getD k default=e):selD o (d.take (k+1))=selD o (d.take k) ++ if (e.firm || !o)=true then [e] else []:=by
 unfold selD;rw [List.take_succ_eq_append_getElem hk,List.filter_append,<- a6_ (d:=default) hk,he];by_cases h:(e.firm || !o)=true <;> simp [h]
theorem km_ {L:List EntV} {x:EntV} (hk:k<L.length) (hx:L.getD k default=x):(L.map EntV.ent).getD k default=x.ent:=by
 rw [a6_ (show k<(L.map EntV.ent).length by rw [List.length_map];exact hk),List.getElem_map,<- a6_ (d:=default) hk,hx]
theorem wk_ {F:Nat->Prop} {l:List Inst} (h:ExtL W F v l):ExtL W (fun q=>F q∧q<W.heap.size) v l:=by
 obtain ⟨a,c,e,h1,h2,h3⟩:=h.row.is;exact ⟨⟨a,c,e,h1,h2,h3.imp id fun ⟨b,o,e1,e2,e3,e4⟩=>⟨b,o,e1,⟨e2,e3⟩,e3,e4⟩⟩,h.len,h.all⟩
theorem i2_ (F:Nat->Prop) (v:Value) (L:List EntV) (o:Bool) (a b:Int) (w:World) (h:DiaL w F v L) (hd:SmD (L.map EntV.ent)) (hL:L.length≤40) (hw:WinB a b) :
  Calls Tryz.prog 17 #[v,.bool o,.agg #[.int .i64 a,.int .i64 b]] w (hi_ (selD o (L.map EntV.ent)) a b w):=by
 obtain ⟨a0,c0,rfl⟩:=h.form;have HV:=hq_ (fun W (hb:Below w.heap.size w W)=>f8_ F _ L W (h.ext hb) hd);have HD:=hq_ h;have HSD:=hq_ hd;have HW:=hq_ hw;obtain ⟨iS,iS1,iS2,iS3,iS4⟩:=fl_;have HIS:=hq_ (And.intro iS1 (And.intro iS2 (And.intro iS3 iS4)));obtain ⟨w1l,w1h,w1e,w1s⟩:=hw;obtain ⟨d,hd0⟩:∃ d,d=L.map EntV.ent:=⟨_,rfl⟩;rw [<- hd0] at HSD ⊢;have HD0:=hq_ hd0;clear h hd iS1 iS2 iS3 iS4 hd0
 go_enter Tryz.func17,Tryz.ntmps17
 go_upto_region 3 with (go_at_call 42;(with_reducible refine (HV.out _ xE).mono ?_);rintro e w1 ⟨rfl,hb1⟩;have hx:=(Bxx.new w #[.int .i64 a,.int .i64 b] 28).below hb1;have HBX:=hq_ hx;have HB1:=hq_ (show Below w.heap.size w w1 from Et (Ea (Er w) _) hb1);have hz1:=hx.lt;clear hb1 hx)
 go_wp2_with fail
 go_loopw [8,9,10,11,12] (fun ov kv _ _ _ wr=>∃ k:Nat,k≤L.length∧kv=.int .i64 k∧Hid (OwnS w1.heap.size (fun _=>False) wr ov ((linW (selD o (d.take k)) a b).map (b2_ a b)))∧Hid ((linW (selD o (d.take k)) a b).length≤200*k)∧Hid (a<b->∀ e∈selD o (d.take k),∃ D,au_ e.s a b D)∧Hid (Below w1.heap.size w1 wr)) (fun _ kv _ _ _ _=>L.length-(intOf kv).toNat)
 case atStart=>exact ⟨0,oq_,rfl,hq_ (by rw [show selD o (d.take 0)=[] by simp [selD],dt_];exact ⟨⟨sq_,.inr ⟨w1.heap.size,0,#[],rfl,oq_,by simpa using World.alloc_heap_new w1 _,sq_,by simp [maxLen],sq_,sq_⟩⟩,sq_,fun _ _ h=>h,sq_⟩),hq_ (by rw [show selD o (d.take 0)=[] by simp [selD],dt_];simp),hq_ (fun _ e he=>by simp [selD] at he),hq_ (Ea (Er _) _)⟩
 case round=>
  obtain ⟨k,hk,rfl,HO,HOL,HWN,HB⟩:=hrel;have hwz:=HB.out.size;obtain ⟨C,hC⟩:∃ C,C=(linW (selD o (d.take k)) a b).map (b2_ a b):=⟨_,rfl⟩;have hcl:=HOL.out;rw [<- List.length_map (b2_ a b),<- hC] at hcl;rw [<- hC] at HO;have HC:=hq_ hC;have HCL:=hq_ hcl;clear hC hcl;obtain ⟨oa,oc,rfl,-⟩:=HO.out.form;by_cases hlt:k<L.length
  ·have hlI:(k:Int)<L.length:=oq_;have HLT:=hq_ (show k+1≤L.length by omega);have HBw:=hq_ (Et HB1.out HB.out);obtain ⟨b8,o8,x,y1,d1,y2,d2,rfl,hbb,hx,hxm,hxr,hcv,hev,e0,e1,e2,e3,e4,e5⟩:=(HD.out.ext HBw.out).get hlt;have hkd:k<d.length:=by rw [HD0.out,List.length_map];exact hlt
   have hsel:=sz_ (o:=o) (e:=x.ent) hkd (by rw [HD0.out];exact km_ hlt hx);have hls:=fun W (hb:Below wr.heap.size wr W)=>f6_ _ _ _ x.s a b W (hxr.1.ext hb) (HSD.out.good x.ent (by rw [HD0.out];exact List.mem_map.2 ⟨x,hxm,rfl⟩)).2 HW.out;rw [hcv,hev] at hls;have HLS:=hq_ hls;have HSL:=hq_ hsel;have hbx:=HBX.out.below HB.out;have z0:=(hbx.cells 0).1;have z1:=(hbx.cells 1).1;obtain ⟨fm,hfm⟩:∃ c,x.firm=c:=⟨_,rfl⟩;rw [hfm] at e1;have hfe:x.ent.firm=fm:=hfm;have HFE:=hq_ hfe;clear hx hxm hxr hcv hev hls hsel hbx hkd hlt hfm hfe;obtain ⟨kp,hkp⟩:∃ c,(fm || !o)=c:=⟨_,rfl⟩;cases kp with
   | false=>
    have hfo:fm=false∧o=true:=by cases fm <;> cases o <;> simp_all
    obtain ⟨rfl,rfl⟩:=hfo;have HS2:Hid (selD true (d.take (k+1))=selD true (d.take k)):=hq_ (by rw [HSL.out,HFE.out];simp);clear hkp e3 e4 e5;go_wp2_with fail
    go_roundw
    case rel=>exact ⟨k+1,HLT.out,by go_num,hq_ (by rw [HS2.out,<- HC.out];exact HO.out.below a8_ xE),hq_ (by rw [HS2.out];have:=HOL.out;omega),hq_ (by rw [HS2.out];exact HWN.out),hq_ (by have hb:=HB.out;exact xE)⟩
    case measure=>have:=HLT.out;simp [intOf];omega
   | true=>
    have HS2:Hid (selD o (d.take (k+1))=selD o (d.take k) ++ [x.ent]):=hq_ (by rw [HSL.out,HFE.out,hkp];simp);have hko:fm=true∨(fm=false∧o=false):=by cases fm <;> cases o <;> simp_all
    have HSF:Hid (∀ D:List Inst,(a<b->au_ x.s a b D)->(¬ a<b->D=[])->linW (selD o (d.take (k+1))) a b=linW (selD o (d.take k)) a b ++ D.map (ai_ x.ent)):=hq_ fun D h1 h0=>by rw [HS2.out];exact f2_ h1 h0
    rcases hko with rfl|⟨rfl,rfl⟩
    all_goals
     clear hkp;go_upto_region 8 with fail
     refine aw_ (w0:=wr) [0,1,2,3,4,5,6,7,8,9,10] [11] [33,34,35,36,37,38,39,32,40,41,10] [.slice (some ⟨b8,o8,none⟩) L.length c0,.int .i64 k,.pointer (some ⟨b8,o8+k*6,none⟩),.pointer (some ⟨b8,o8+k*6+3,none⟩),.agg #[.slice y1 x.s.cls.length d1,.int .i64 x.s.len,.slice y2 x.s.ext.length d2],.agg #[.int .i64 a,.int .i64 b],undef,undef,undef,.int .i64 0,undef] [[],[],[0,1],[2],[3],[],[4,5],[],[],[],[]] [[],[],[],[],[],[],[],[6],[7],[7],[8]] [6,7,8,10] (fun i v lo hi W=>match i with|6=>RlV x.s a b wr.heap.size (v 6) W|7=>RlV x.s a b wr.heap.size (v 7) W|8=>RlS x.s a b wr.heap.size (v 8) W|10=>RlS x.s a b wr.heap.size (v 10) W|_=>True) (.a e3 (.a e4 (.a e5 (.a z0 (.a z1 (.b)))))) ?steps8 ?fin8
     case steps8=>
      repeat' first|exact .n|refine .c ?_ ?_|fail
      all_goals try exact stw
      ·rintro v lo hi W hb ⟨g0,g1,g2,g3,g4,gB⟩ _;refine .inl ⟨rfl,fun K hK=>?_⟩;simp only [ov,vat,Nat.reduceBEq,cond_true,cond_false];go_wp2_with (go_at_call 52;(with_reducible refine (HLS.out W gB).mono ?_);rintro e w9 ⟨lv,D,rfl,hb9,hx9,hl9,h19,h09,-⟩)
       exact acx (hK (.tuple #[lv,.int .i64 0]) w9 hb9 ⟨lv,rfl,D,hx9.mono (fun q hq=>Nat.le_trans gB.size hq),hl9,h19,fun h=>h09 oq_⟩) (by simp [ov,vat,upd])
      ·rintro v lo hi W hb ⟨g0,g1,g2,g3,g4,gB⟩ ⟨⟨la6,lb6,D6⟩,_⟩;refine .inl ⟨rfl,fun K hK=>?_⟩;simp only [ov,vat,Nat.reduceBEq,cond_true,cond_false]
       (try dsimp only at D6)
       obtain ⟨lv,e6,h6⟩:=D6
       (try simp only [e6])
       go_wp2_with fail
       exact acx (hK (.tuple #[lv,.int .i64 0]) W (Below.refl _ _) ⟨lv,rfl,h6⟩) (by simp [ov,vat,upd,e6])
      ·rintro v lo hi W hb ⟨g0,g1,g2,g3,g4,gB⟩ ⟨⟨la7,lb7,D7⟩,_⟩;refine .inl ⟨rfl,fun K hK=>?_⟩;simp only [ov,vat,Nat.reduceBEq,cond_true,cond_false]
       (try dsimp only at D7)
       obtain ⟨lv,e6,h6⟩:=D7
       (try simp only [e6])
       go_wp2_with fail
       exact acx (hK lv W (Below.refl _ _) h6) (by simp [ov,vat,upd,e6])
      ·rintro v lo hi W hb ⟨g0,g1,g2,g3,g4,gB⟩ ⟨⟨la7,lb7,D7⟩,_⟩;refine .inl ⟨rfl,fun K hK=>?_⟩;simp only [ov,vat,Nat.reduceBEq,cond_true,cond_false]
       (try dsimp only at D7)
       obtain ⟨lv,e6,h6⟩:=D7
       (try simp only [e6])
       go_wp2_with fail
       exact acx (hK W (Below.refl _ _)) (by simp [ov,vat,upd,e6])
      ·rintro v lo hi W hb ⟨g0,g1,g2,g3,g4,gB⟩ ⟨⟨la8,lb8,D8⟩,_⟩;refine .inl ⟨rfl,fun K hK=>?_⟩;simp only [ov,vat,Nat.reduceBEq,cond_true,cond_false]
       (try dsimp only at D8)
       go_wp2_with fail
       exact acx (hK (v 8) W (Below.refl _ _) D8) (by simp [ov,vat,upd])
     case fin8=>
      rintro v lo hi W2 hb2 ⟨g0,g1,g2,g3,g4,gB⟩ hf hap;show wpList _ _ _ [_] _ _;obtain ⟨-,-,-,D,hDx,hDl,hD1,hD0⟩:=hf 10 rfl;have e9:v 9=.int .i64 0:=(hf 9 rfl).2.2.2
      (try dsimp only)
      obtain ⟨da,dc,hdv⟩:=hDx.form;rw [hdv] at hDx;rw [e9,hdv];obtain ⟨A,hA⟩:∃ A:Nat->Prop,A=fun q=>wr.heap.size≤q∧q<W2.heap.size:=⟨_,rfl⟩;have HAL:Hid (∀ q,A q->q<W2.heap.size):=hq_ (by rw [hA];exact fun q hq=>hq.2);have HE2:Hid (ExtL W2 A (.slice da D.length dc) D):=hq_ (by rw [hA];exact wk_ hDx);have HO2:Hid (OwnS w1.heap.size A W2 (.slice oa C.length oc) C):=hq_ ((HO.out.mono a8_ fun q hq=>.inr (by rw [hA] at hq;exact hq.1)).below a8_ gB);have HDL:=hq_ (And.intro hDl (And.intro hD1 hD0));have HB2:=hq_ (Et HB.out gB);clear e9 hf hap hdv hb2 g0 g1 g2 g3 g4 gB hD1 hD0 hDx hA hDl e0 e1 e2 e3 e4 e5 z0 z1;generalize v 0=yv0,v 1=yv1,v 2=yv2,v 3=yv3,v 4=yv4,v 5=yv5,v 6=yv6,v 7=yv7,v 8=yv8;go_wp2_with fail
      go_loopw [8,12] (fun ov jv wr=>∃ j:Nat,j≤D.length∧jv=.int .i64 j∧Hid (OwnS w1.heap.size A wr ov (C ++ (D.take j).map fun y=>b2_ a b (ai_ x.ent y)))∧Hid (ExtL wr A (.slice da D.length dc) D)∧Hid (Below w1.heap.size w1 wr)∧Hid (W2.heap.size≤wr.heap.size)) (fun _ jv _=>D.length-(intOf jv).toNat)
      case atStart=>exact ⟨0,oq_,rfl,by simpa using HO2,HE2,HB2,hq_ (Nat.le_refl _)⟩
      case round=>
       obtain ⟨j,hj,rfl,HO3,HE3,HB3,HZ3⟩:=hrel;have hwz3:=HB3.out.size;have hz23:=HZ3.out;have hdl2:=HDL.out.1;obtain ⟨O,hO⟩:∃ O,O=C ++ (D.take j).map fun y=>b2_ a b (ai_ x.ent y):=⟨_,rfl⟩;have hOl:O.length≤9000:=by
        rw [hO,List.length_append,List.length_map,List.length_take,Nat.min_eq_left hj];have h1:=HCL.out;have h2:=HDL.out.1;omega
       rw [<- hO] at HO3;have HOO:=hq_ hO;clear hO;obtain ⟨oa,oc,rfl,-⟩:=HO3.out.form;by_cases hlt:j<D.length
       ·have hlI:(j:Int)<D.length:=oq_;have HLJ:=hq_ (show j+1≤D.length by omega);obtain ⟨b7,f7,y,rfl,hb7,hy,hiy,p0,p1,p2⟩:=HE3.out.get hlt;have hmo:=c1_ (f:=fun y=>b2_ a b (ai_ x.ent y)) (d:=default) hlt;rw [hy] at hmo;have hbx:=HBX.out.below HB3.out;have z0:=(hbx.cells 0).1;have z1:=(hbx.cells 1).1;obtain ⟨mx,hmax⟩:∃ m,max y.frm a=m:=⟨_,rfl⟩;obtain ⟨mn,hmin⟩:∃ m,min y.fin b=m:=⟨_,rfl⟩;have hcy:b2_ a b (ai_ x.ent y)=(mx,mn):=by rw [<- hmax,<- hmin];rfl
        rw [hcy] at hmo;have HMO:=hq_ hmo;obtain ⟨⟨hd1,hd2⟩,⟨hf1,hf2⟩,⟨ht1,ht2⟩⟩:=hiy;have HIM:Hid (InI mx∧InI mn):=hq_ (by rw [<- hmax,<- hmin];exact ⟨⟨oq_,oq_⟩,⟨oq_,oq_⟩⟩);clear hy hmo hbx hcy hd1 hd2 hlt p0;go_upto_region 14 with fail
        refine aw_ (w0:=wr) [0,1,2,3,4,5,6,7,8,9,10,11,12,13,14,15,16,17,18,19,20] [21,22] [51,52,53,54,55,56,57,58,59,60,61,62,63,64,65,66,67,68,69,70,71] [.slice oa O.length oc,.slice (some ⟨b7,f7,none⟩) D.length dc,.int .i64 j,.pointer (some ⟨b7,f7+j*3,none⟩),.pointer (some ⟨b7,f7+j*3+1,none⟩),.pointer (some ⟨b7,f7+j*3+1,none⟩),.int .i64 y.frm,.pointer (some ⟨w.heap.size,0,none⟩),.int .i64 a,.int .i64 mx,.slice (some ⟨b7,f7,none⟩) D.length dc,.int .i64 j,.pointer (some ⟨b7,f7+j*3,none⟩),.pointer (some ⟨b7,f7+j*3+1,none⟩),.pointer (some ⟨b7,f7+j*3+2,none⟩),.int .i64 y.fin,.pointer (some ⟨w.heap.size,1,none⟩),.int .i64 b,.int .i64 mn,.agg #[.int .i64 mx,.int .i64 mn],undef] [[],[],[],[1,2],[3],[4],[5],[],[7],[6,8],[],[],[10,11],[12],[13],[14],[],[16],[15,17],[9,18],[19]] [] [20] (fun i v lo hi W=>match i with|20=>v 20=.slice (some ⟨lo 20,0,none⟩) 1 1∧lo 20<hi 20∧Bxx W (lo 20) #[.int .i64 mx,.int .i64 mn] 28|_=>True) (.a p1 (.a p2 (.a z0 (.a z1 (.b))))) ?steps14 ?fin14 (stab:=?stab14)
        case stab14=>
         refine ⟨?_,trivial⟩
         ·intro v lo hi W W' h hb;exact ⟨h.1,h.2.1,h.2.2.below hb⟩
        case steps14=>
         repeat' first|exact .n|refine .d ?_ ?_|fail
         all_goals try exact stw
         ·rintro v lo hi W hb ⟨g0,g1,g2,g3,gB⟩ _;refine .inl ⟨rfl,fun K hK=>?_⟩;simp only [ov,vat,Nat.reduceBEq,cond_true,cond_false];go_wp2_with fail
          exact acx (hK (.slice (some ⟨W.heap.size,0,none⟩) 1 1) _ (Ea (Er _) _) ⟨rfl,sq_,Bxx.new _ _ _⟩) (by simp [ov,vat,upd])
        case fin14=>
         rintro v lo hi W7 hb7' ⟨g0,g1,g2,g3,gB⟩ hf hap;show wpList _ _ _ [_,_] _ _;obtain ⟨l20,-,h20,e20,lt20,hbox⟩:=hf 20 rfl;have e0v:v 0=.slice oa O.length oc:=(hf 0 rfl).2.2.2
         (try dsimp only)
         rw [e0v,e20];obtain ⟨nb,hnb⟩:∃ nb,nb=lo 20:=⟨_,rfl⟩;rw [<- hnb] at hbox l20 lt20 ⊢;have hz7:=gB.size;have HO7:=hq_ (HO3.out.below a8_ gB);have HE7:=hq_ (HE3.out.ext gB);have HB7:=hq_ (Et HB3.out gB);clear hnb e0v e20 hf hap hb7' g0 g1 g2 g3 gB z0 z1 p1 p2;generalize v 1=yw1,v 2=yw2,v 3=yw3,v 4=yw4,v 5=yw5,v 6=yw6,v 7=yw7,v 8=yw8,v 9=yw9,v 10=yw10,v 11=yw11,v 12=yw12,v 13=yw13,v 14=yw14,v 15=yw15,v 16=yw16,v 17=yw17,v 18=yw18,v 19=yw19;have hroww:=al_ hbox;refine ab_ rq_ _ _ _ _ rq_ iS _ 2 16 Tryz.underlying31 HIS.out.1 HIS.out.2.1 HIS.out.2.2.1 HIS.out.2.2.2 rfl dq_ dq_ w1.heap.size (.slice oa O.length oc) O.length (O.flatMap senc) (senc (mx,mn)) rfl rq_ HO7.out.row nb 1 rq_ hroww d2_ oq_ oq_ ?_;intro v' w9 hown9 hgrow9 hloc9;obtain ⟨na,nc,rfl⟩:=a5_ hown9;have HO9:=hq_ (OwnG.push (y:=(mx,mn)) a8_ HO7.out HIM.out hown9 hgrow9 hloc9 (fun h=>by have:=HAL.out _ h;omega) oq_);have HE9:=hq_ (HE7.out.keep (fun q hq hl=>hgrow9.block q hl (fun e=>HO7.out.ne q e.symm hq)) hgrow9.size);have HB9:=hq_ (HB7.out.grown hgrow9 oq_ fun q e=>(HO7.out.row.lt q e).1);have hz9:=hgrow9.size;clear hown9 hgrow9 hloc9 hbox hroww;go_wp2_with fail
         go_roundw
         case rel=>exact ⟨j+1,HLJ.out,by go_num,hq_ (by rw [HMO.out,<- List.append_assoc,<- HOO.out];exact HO9.out),HE9,HB9,hq_ oq_⟩
         case measure=>have:=HLJ.out;simp [intOf];omega
       ·obtain rfl:j=D.length:=oq_;have hjI:¬ (D.length:Int)<D.length:=oq_;have hsn:=HSF.out D HDL.out.2.1 HDL.out.2.2;have HSN:=hq_ hsn;have HOE:Hid (O=C ++ D.map (b2_ a b ∘ ai_ x.ent)):=hq_ (by rw [HOO.out,List.take_length];rfl);clear hsn;go_wp2_with fail
        go_roundw
        case rel=>exact ⟨k+1,HLT.out,by go_num,hq_ (by rw [HSN.out,List.map_append,<- HC.out,List.map_map,<- HOE.out];exact HO3.out.mono a8_ (A':=fun _=>False) (fun q hq=>hq.elim)),hq_ (by rw [HSN.out,List.length_append,List.length_map];have h1:=HOL.out;have h2:=HDL.out.1;omega),hq_ (fun h e he=>by
         rw [HS2.out] at he;rcases List.mem_append.1 he with he|he
         ·exact HWN.out h e he
         ·obtain rfl:=List.mem_singleton.1 he;exact ⟨D,HDL.out.2.1 h⟩),HB3⟩
        case measure=>have:=HLT.out;simp [intOf];omega
  ·obtain rfl:k=L.length:=oq_;have hkI:¬ (L.length:Int)<L.length:=oq_;have hdl:d.take L.length=d:=List.take_of_length_le (by rw [HD0.out,List.length_map];exact Nat.le_refl _);have hc:=HC.out;have hwn:=HWN.out;rw [hdl] at hc hwn;have hfar:C.any farS=false:=ir_ fun s hs=>by
    have:=k2_ HW.out hwn (s:=s) (by rw [<- hc];exact hs);omega
   have HNM:=hq_ (nw_ _ _ C wr HO.out.spnL (by have:=HCL.out;omega) hfar);have HCC:=hq_ hc;have HWW:=hq_ hwn;have HBE:=hq_ (Et HB1.out HB.out);clear hdl hc hwn hfar;go_wp2_with (go_at_call 53;(with_reducible refine HNM.out.mono ?_);rintro e w2 ⟨u,N,rfl,h1,h2,h3,h4,h5⟩;have H1:=hq_ h1;have H2:=hq_ h2;have H3:=hq_ h3;have H4:=hq_ h4;have H5:=hq_ h5;clear h1 h2 h3 h4 h5)
   go_ret2;refine ⟨u,N,rfl,⟨H1.out,fun t=>(H2.out t).trans ?_⟩,by have:=HCL.out;have:=H3.out;omega,H4.out.mono fun q hq=>by have:=HBE.out.size;omega,Et HBE.out H5.out⟩;rw [HCC.out];exact ki_ HWW.out t
end Go.Proofs.YtkclokcenllhmaaGreat
namespace Kal
theorem LtL.trans {x y z:a4_} (h:LtL x y) (g:LtL y z):LtL x z:=by unfold LtL at *;omega
theorem LtL.asymm {x y:a4_} (h:LtL x y):¬ LtL y x:=by unfold LtL at *;omega
open Classical in
noncomputable def insA:List a4_->a4_->List a4_
 | [],x=>[x]
 | y :: l,x=>if LtL x y then x :: y :: l else y :: insA l x
theorem kn_ {l:List a4_} {x:a4_}:(insA l x).Perm (l ++ [x]):=by
 induction l with
 | nil=>exact List.Perm.refl _
 | cons y l ih=>
  unfold insA
  split
  ·exact (List.perm_append_comm (l₁:=[x]) (l₂:=y :: l))
  ·exact ih.cons y
theorem s2_ {l:List a4_} {x:a4_} (h:l.Pairwise fun a b=>¬ LtL b a):(insA l x).Pairwise fun a b=>¬ LtL b a:=by
 induction l with
 | nil=>simp [insA]
 | cons y l ih=>
  obtain ⟨h1,h2⟩:=List.pairwise_cons.1 h;unfold insA
  split
  ·rename_i hl;refine List.pairwise_cons.2 ⟨fun z hz=>?_,h⟩;rcases List.mem_cons.1 hz with rfl|hz
   ·exact hl.asymm
   ·exact fun hc=>h1 z hz (hc.trans hl)
  ·rename_i hl;refine List.pairwise_cons.2 ⟨fun z hz=>?_,ih h2⟩;rcases List.mem_append.1 (kn_.mem_iff.1 hz) with hz|hz
   ·exact h1 z hz
   ·obtain rfl:=List.mem_singleton.1 hz;exact hl
theorem wn_ {l:List a4_} {x:a4_} (hk:k<l.length) (h1:∀ j,j<k->¬ LtL x (l.getD j default)) (h2:LtL x (l.getD k default)):insA l x=l.take k ++ x :: l.drop k:=by
 induction l generalizing k with
 | nil=>simp at hk
 | cons y l ih=>
  unfold insA;rcases k with _|k
  ·rw [if_pos (show LtL x y from h2)];rfl
  ·rw [if_neg (show ¬ LtL x y from h1 0 oq_),ih (by simpa using hk) (fun j hj=>h1 (j+1) oq_) h2];rfl
theorem uf_ {l:List a4_} {x:a4_} (h1:∀ j,j<l.length->¬ LtL x (l.getD j default)):insA l x=l ++ [x]:=by
 induction l with
 | nil=>rfl
 | cons y l ih=>
  unfold insA;rw [if_neg (show ¬ LtL x y from h1 0 sq_),ih fun j hj=>h1 (j+1) (by simpa using hj)];rfl
def InsJ (l:List a4_) (x:a4_) (k:Nat) (done:Bool) (out:List a4_):Prop:=
 (done=false∧out=l.take k∧∀ j,j<k->¬ LtL x (l.getD j default))∨(done=true∧out ++ l.drop k=insA l x)
theorem InsJ.start (l:List a4_) (x:a4_):InsJ l x 0 false []:=.inl ⟨rfl,sq_,fun j hj=>oq_⟩
theorem on_ {l:List a4_} (hk:k<l.length):l.drop k=l.getD k default :: l.drop (k+1):=by
 rw [List.drop_eq_getElem_cons hk,a6_ hk]
theorem InsJ.here {l:List a4_} {x:a4_} {out:List a4_} (h:InsJ l x k false out) (hk:k<l.length) (hl:LtL x (l.getD k default)):InsJ l x (k+1) true (out ++ [x] ++ [l.getD k default]):=by
 rcases h with ⟨_,rfl,h1⟩|⟨h,_⟩
 ·refine .inr ⟨rfl,?_⟩;rw [wn_ hk h1 hl,on_ hk];simp
 ·cases h
theorem InsJ.next {l:List a4_} {x:a4_} {done:Bool} {out:List a4_} (h:InsJ l x k done out) (hk:k<l.length) (hl:done=true∨¬ LtL x (l.getD k default)):InsJ l x (k+1) done (out ++ [l.getD k default]):=by
 rcases h with ⟨rfl,rfl,h1⟩|⟨rfl,h1⟩
 ·refine .inl ⟨rfl,by rw [List.take_succ_eq_append_getElem hk,a6_ hk],fun j hj=>?_⟩;rcases Nat.lt_or_eq_of_le (show j≤k by omega) with e|e
  ·exact h1 j e
  ·rw [e];exact hl.elim (fun h=>by cases h) id
 ·refine .inr ⟨rfl,?_⟩;rw [<- h1,on_ hk];simp
theorem InsJ.done {l:List a4_} {x:a4_} {done:Bool} {out:List a4_} (h:InsJ l x l.length done out):insA l x=if done then out else out ++ [x]:=by
 rcases h with ⟨rfl,rfl,h1⟩|⟨rfl,h1⟩
 ·rw [uf_ h1,List.take_length];rfl
 ·rw [List.drop_length,List.append_nil] at h1;exact h1.symm
noncomputable def srtA (l:List a4_):List a4_:=l.foldl insA []
theorem kz_ {l:List a4_} {x:a4_}:srtA (l ++ [x])=insA (srtA l) x:=by unfold srtA;rw [List.foldl_append];rfl
theorem pm_:∀ {l m:List a4_},(l.foldl insA m).Perm (m ++ l)∧((m.Pairwise fun a b=>¬ LtL b a)->(l.foldl insA m).Pairwise fun a b=>¬ LtL b a)
 | [],m=>⟨sq_,fun h=>h⟩
 | x :: l,m=>by
  obtain ⟨h1,h2⟩:=pm_ (l:=l) (m:=insA m x);refine ⟨h1.trans ?_,fun h=>h2 (s2_ h)⟩;have:=kn_ (l:=m) (x:=x) |>.append_right l;simpa using this
theorem ky_ {l:List a4_}:(srtA l).Perm l:=by
 have:=(pm_ (l:=l) (m:=[])).1;rw [List.nil_append] at this;exact this
theorem t3_ {l:List a4_}:(srtA l).Pairwise fun a b=>¬ LtL b a:=(pm_ (l:=l) (m:=[])).2 .nil
theorem iw_ {l:List a4_}:(srtA l).length=l.length:=ky_.length_eq
theorem h8_:∀ {a b:List a4_},a.Perm b->(a.Pairwise fun x y=>¬ LtL y x)->(b.Pairwise fun x y=>¬ LtL y x)->(∀ x∈a,∀ y∈a,¬ LtL x y->¬ LtL y x->x=y)->a=b
 | [],b,h,_,_,_=>h.nil_eq
 | x :: a,[],h,_,_,_=>by have:=h.length_eq;simp at this
 | x :: a,y :: b,h,ha,hb,he=>by
  obtain ⟨a1,a2⟩:=List.pairwise_cons.1 ha;obtain ⟨b1,b2⟩:=List.pairwise_cons.1 hb;have hy:y∈x :: a:=h.mem_iff.2 sq_;have hx:x∈y :: b:=h.mem_iff.1 sq_;have e:x=y:=by
   rcases List.mem_cons.1 hy with e|hy2
   ·exact e.symm
   ·rcases List.mem_cons.1 hx with e|hx2
    ·exact e
    ·exact he x sq_ y hy (b1 x hx2) (a1 y hy2)
  subst e;rw [h8_ (h.cons_inv) a2 b2 fun u hu v hv=>he u (by simp [hu]) v (by simp [hv])]
theorem uk_ {d:List Ent} (hd:AscD d) (hw:a<b->∀ e∈d,∃ D,au_ e.s a b D) {x y:a4_} (hx:x∈linW d a b) (hy:y∈linW d a b) (h1:¬ LtL x y) (h2:¬ LtL y x):x=y:=by
 obtain ⟨_,e,he,u,_,_,rfl⟩:=g5_ hw hx;obtain ⟨_,f,hf,v,_,_,rfl⟩:=g5_ hw hy;unfold LtL ai_ at h1 h2;dsimp only at h1 h2;have h3:e.id=f.id:=oq_;obtain rfl:=hd.inj he hf h3;unfold ai_
 congr 1 <;> omega
theorem l5_ {d:List Ent} {R S:List a4_} (hd:AscD d) (hw:a<b->∀ e∈d,∃ D,au_ e.s a b D) (h1:R.Perm (linW d a b)) (h2:R.Pairwise fun x y=>¬ LtL y x) (g1:S.Perm (linW d a b)) (g2:S.Pairwise fun x y=>¬ LtL y x):R=S:=
 h8_ (h1.trans g1.symm) h2 g2 fun x hx y hy=>uk_ hd hw (h1.mem_iff.1 hx) (h1.mem_iff.1 hy)
end Kal
namespace Go.Proofs.YtkclokcenllhmaaGreat
open Go.RowKit Go.Maps Kal
def BefR (x y:a4_) (r:Bool):Prop:=r=true↔LtL x y
def BefV (x y:a4_) (v:Value):Prop:=∃ r,v=.bool r∧BefR x y r
theorem ft_ {x y:a4_} {p:Prop} [Decidable p] (h:p↔LtL x y):BefR x y (decide p):=by unfold BefR;rw [decide_eq_true_iff];exact h
theorem um_:∃ i,Tryz.prog.info? 112=some i∧i.zero=some (.agg #[.int .i64 0,.int .i64 0,.int .i64 0,.int .i64 0,.int .i64 0])∧i.size=5∧i.bytes=40:=by
 have h:(Tryz.prog.info? 112).map (fun i=>(i.zero,i.size,i.bytes))=some (some (.agg #[.int .i64 0,.int .i64 0,.int .i64 0,.int .i64 0,.int .i64 0]),5,40):=by kernel_rfl
 obtain ⟨i,hi,h1,h2,h3⟩:=info_parts h;exact ⟨i,hi,h1,h2,h3⟩
theorem ns_ (x y:a4_) (w:World) :
  Calls Tryz.prog 103 #[.agg #[.int .i64 x.frm,.int .i64 x.fin,.int .i64 x.kind,.int .i64 x.id,.int .i64 x.day],.agg #[.int .i64 y.frm,.int .i64 y.fin,.int .i64 y.kind,.int .i64 y.id,.int .i64 y.day]] w fun e w'=>∃ r,e=.returned (.bool r)∧BefR x y r∧Below w.heap.size w w':=by
 obtain ⟨xf,xt,xk,xi,xd⟩:=x;obtain ⟨yf,yt,yk,yi,yd⟩:=y;dsimp only;by_cases h1:xf=yf
 ·subst h1;have q1:(xf != xf)=false:=by simp
  by_cases h2:xt=yt
  ·subst h2;have q2:(xt != xt)=false:=by simp
   by_cases h3:xi=yi
   ·subst h3;have q3:(xi != xi)=false:=by simp
    go_enter Tryz.func103,Tryz.ntmps103
    go_wp2_with fail
    go_ret;exact ⟨_,rfl,ft_ (by unfold LtL;dsimp only;omega),xE⟩
   ·have q3:(xi != yi)=true:=by simp [h3]
    go_enter Tryz.func103,Tryz.ntmps103
    go_wp2_with fail
    go_ret;exact ⟨_,rfl,ft_ (by unfold LtL;dsimp only;omega),xE⟩
  ·have q2:(xt != yt)=true:=by simp [h2]
   go_enter Tryz.func103,Tryz.ntmps103
   go_wp2_with fail
   go_ret;exact ⟨_,rfl,ft_ (by unfold LtL;dsimp only;omega),xE⟩
 ·have q1:(xf != yf)=true:=by simp [h1]
  go_enter Tryz.func103,Tryz.ntmps103
  go_wp2_with fail
  go_ret;exact ⟨_,rfl,ft_ (by unfold LtL;dsimp only;omega),xE⟩
theorem i3_ (F:Nat->Prop) (v:Value) (l:List a4_) (x:a4_) (w:World) (h:RowR w F v l.length (l.flatMap lenc)) (hl:l.length≤9000) (hi:∀ y∈l,LnI y) (hx:LnI x) :
  Calls Tryz.prog 60 #[v,.agg #[.int .i64 x.frm,.int .i64 x.fin,.int .i64 x.kind,.int .i64 x.id,.int .i64 x.day]] w fun e w'=>∃ v',e=.returned v'∧OwnG 112 5 lenc (fun _ _ y=>LnI y) w.heap.size (fun _=>False) w' v' (insA l x)∧Below w.heap.size w w':=by
 obtain ⟨la,lc,rfl,-⟩:=h.is;obtain ⟨iN,iN1,iN2,iN3,iN4⟩:=um_;have HIN:=hq_ (And.intro iN1 (And.intro iN2 (And.intro iN3 iN4)));have HL0:=hq_ h;have HI:=hq_ hi;have HX:=hq_ hx;have HBF:=hq_ (fun y W=>ns_ x y W);clear h hi hx iN1 iN2 iN3 iN4
 go_enter Tryz.func60,Tryz.ntmps60
 go_upto_region 1 with fail
 refine bh_ (F:=fun U=>Bxx U w.heap.size #[.int .i64 x.frm,.int .i64 x.fin,.int .i64 x.kind,.int .i64 x.id,.int .i64 x.day] 112∧Below w.heap.size w U) ⟨Bxx.new w _ _,Ea (Er _) _⟩ ?_;rintro w1 ⟨hbx,hb1⟩;have HBX:=hq_ hbx;have HB1:=hq_ hb1;have HL:=hq_ (HL0.out.keep (a3_.below hb1) hb1.size);have hz1:=hbx.lt;clear hbx hb1;go_wp2_with fail
 go_loopw [5,6,7] (fun ov dv iv wr=>∃ (k:Nat) (done:Bool) (O:List a4_),k≤l.length∧iv=.int .i64 k∧dv=.bool done∧Hid (InsJ l x k done O)∧Hid (OwnG 112 5 lenc (fun _ _ y=>LnI y) w1.heap.size (fun _=>False) wr ov O)∧O.length≤k+done.toNat∧Hid (Below w1.heap.size w1 wr)) (fun _ _ iv _=>l.length-(intOf iv).toNat)
 case atStart=>exact ⟨0,false,[],oq_,rfl,rfl,hq_ (InsJ.start l x),hq_ ⟨⟨sq_,.inr ⟨w1.heap.size,0,#[],rfl,oq_,by simpa using World.alloc_heap_new w1 _,sq_,by simp [maxLen],sq_,sq_⟩⟩,sq_,fun _ _ h=>h,sq_⟩,sq_,hq_ (Ea (Er _) _)⟩
 case round=>
  obtain ⟨k,done,O,hk,rfl,rfl,HJ,HO,hol,HB⟩:=hrel;obtain ⟨oa,oc,rfl,-⟩:=HO.out.form;have hwz:=HB.out.size;have hol1:O.length≤9001:=by cases done <;> simp at hol <;> omega
  have hol2:done=false->O.length≤k:=fun h=>by rw [h] at hol;exact hol
  have hol3:O.length≤k+1:=by cases done <;> simp at hol <;> omega
  have HO2:=hq_ (And.intro hol2 hol3);clear hol hol2 hol3;have hbx:=HBX.out.below HB.out;have z0:=(hbx.cells 0).1;have z1:=(hbx.cells 1).1;have z2:=(hbx.cells 2).1;have z3:=(hbx.cells 3).1;have z4:=(hbx.cells 4).1;clear hbx;by_cases hlt:k<l.length
  ·have hlI:(k:Int)<l.length:=oq_;have HLT:=hq_ (show k+1≤l.length by omega);obtain ⟨b8,f8,y,rfl,hb8,hy,e0,e1,e2,e3,e4⟩:=eo_ (HL.out.keep (W':=wr) (a3_.below HB.out) HB.out.size) hlt rfl;have HYL:Hid (LnI y):=hq_ (HI.out y (by rw [<- hy];exact ac_ hlt));have HYX:=hq_ hy;clear hy hlt;cases done with
   | true=>
    have HJ2:Hid (InsJ l x (k+1) true (O ++ [y])):=hq_ (by rw [<- HYX.out];exact HJ.out.next HLT.out (.inl rfl));clear z0 z1 z2 z3 z4;go_upto_region 6 with fail
    refine a9_ (w0:=wr) [0,1,2,3,4,5,6,7,8,9] [] [15,16,17,18,19,20,21,22,23,24] [.bool true,.bool false,.bool false,undef,undef,undef,undef,undef,undef,.bool false] [[],[0],[1],[2],[2],[2],[2,4,5],[2,6],[2,3,7],[2,8]] (.g (fun W=>True) (fun _ _=>True.intro)) ?steps6a ?fin6a
    case steps6a=>
     repeat' first|exact .n|refine .c ?_ ?_|fail
     all_goals try exact stp
    case fin6a=>
     rintro W3 hb3 -
     show wpList _ _ _ [] _ _;simp only [vat];have f0:=Ext.cell hb3 e0;have f1:=Ext.cell hb3 e1;have f2:=Ext.cell hb3 e2;have f3:=Ext.cell hb3 e3;have f4:=Ext.cell hb3 e4;have HO3:=hq_ (HO.out.below aa_ hb3);have HB3:=hq_ (Et HB.out hb3);have hz3:=hb3.size;clear e0 e1 e2 e3 e4 hb3;go_wp2_with (at_builtin;((refine ab_ rq_ _ _ _ _ rq_ iN _ 5 40 Tryz.underlying109 HIN.out.1 HIN.out.2.1 HIN.out.2.2.1 HIN.out.2.2.2 rfl dq_ dq_ w1.heap.size (.slice oa O.length oc) O.length (O.flatMap lenc) (lenc y) rfl rq_ (HO3.out.below aa_ (Ea (Er W3) _)).row W3.heap.size 1 rq_ (al_ (Bxx.at sq_)) (cj_ y) oq_ tq_ ?_);intro v' w9 hown9 hgrow9 hloc9;obtain ⟨na,nc,rfl⟩:=a5_ hown9;have HO9:=hq_ (OwnG.push (y:=y) aa_ (HO3.out.below aa_ (Ea (Er W3) _)) HYL.out hown9 hgrow9 hloc9 (fun h=>h) oq_);have HB9:=hq_ ((Ea HB3.out _).grown hgrow9 tq_ fun q e=>(HO3.out.row.lt q e).1);clear hown9 hgrow9 hloc9))
     go_roundw
     case rel=>exact ⟨k+1,true,_,HLT.out,by go_num,rfl,HJ2,HO9,by have h1:=HO2.out.1;have h2:=HO2.out.2;simp at h1 ⊢;omega,HB9⟩
     case measure=>have:=HLT.out;simp [intOf];omega
   | false=>
    have HBF:=hq_ (HBF.out y);go_upto_region 6 with fail
    refine aw_ (w0:=wr) [0,1,2,3,4,5,6,7,8,9] [] [15,16,17,18,19,20,21,22,23,24] [.bool false,.bool true,.bool true,.agg #[.int .i64 x.frm,.int .i64 x.fin,.int .i64 x.kind,.int .i64 x.id,.int .i64 x.day],.slice (some ⟨b8,f8,none⟩) l.length lc,.int .i64 k,.pointer (some ⟨b8,f8+k*5,none⟩),.agg #[.int .i64 y.frm,.int .i64 y.fin,.int .i64 y.kind,.int .i64 y.id,.int .i64 y.day],undef,undef] [[],[0],[1],[2],[2],[2],[2,4,5],[2,6],[2,3,7],[2]] [[],[],[],[],[],[],[],[],[],[8]] [8,9] (fun i v lo hi W=>match i with|8=>BefV x y (v 8)|9=>BefV x y (v 9)|_=>True) (.a e0 (.a e1 (.a e2 (.a e3 (.a e4 (.a z0 (.a z1 (.a z2 (.a z3 (.a z4 (.b))))))))))) ?steps6b ?fin6b (stab:=?stab6b)
    case stab6b=>
     refine ⟨?_,?_,trivial⟩
     ·intro v lo hi W W' h hb;exact h
     ·intro v lo hi W W' h hb;exact h
    case steps6b=>
     repeat' first|exact .n|refine .c ?_ ?_|fail
     all_goals try exact stw
     ·rintro v lo hi W hb ⟨g0,g1,g2,g3,g4,g5,g6,g7,g8,g9,gB⟩ _;refine .inl ⟨rfl,fun K hK=>?_⟩;simp only [ov,vat,Nat.reduceBEq,cond_true,cond_false];go_wp2_with (go_at_call 103;(with_reducible refine (HBF.out W).mono ?_);rintro e w9 ⟨r,rfl,hr9,hb9⟩)
      exact acx (hK (.bool r) w9 hb9 ⟨r,rfl,hr9⟩) (by simp [ov,vat,upd])
     ·rintro v lo hi W hb ⟨g0,g1,g2,g3,g4,g5,g6,g7,g8,g9,gB⟩ ⟨⟨la8,lb8,D8⟩,_⟩;refine .inl ⟨rfl,fun K hK=>?_⟩;simp only [ov,vat,Nat.reduceBEq,cond_true,cond_false]
      (try dsimp only at D8)
      obtain ⟨r,e8,h8⟩:=D8
      (try simp only [e8])
      go_wp2_with fail
      exact acx (hK (.bool r) W (Below.refl _ _) ⟨r,rfl,h8⟩) (by simp [ov,vat,upd,e8])
    case fin6b=>
     rintro v lo hi W3 hb3 ⟨g0,g1,g2,g3,g4,g5,g6,g7,g8,g9,gB⟩ hf hap;show wpList _ _ _ [] _ _;obtain ⟨-,-,-,r,e9,h9⟩:=hf 9 rfl
     (try dsimp only)
     rw [e9];have HO3:=hq_ (HO.out.below aa_ gB);have HB3:=hq_ (Et HB.out gB);have HR:=hq_ h9;have hz3:=gB.size;clear e9 h9 hf hap hb3 gB e0 e1 e2 e3 e4 z0 z1 z2 z3 z4;generalize v 0=yv0,v 1=yv1,v 2=yv2,v 3=yv3,v 4=yv4,v 5=yv5,v 6=yv6,v 7=yv7,v 8=yv8;cases r with
     | true=>
      have HJ2:Hid (InsJ l x (k+1) true (O ++ [x] ++ [y])):=hq_ (by rw [<- HYX.out];exact HJ.out.here HLT.out (by rw [HYX.out];exact HR.out.1 rfl));clear g0 g1 g2 g3 g4;go_upto_region 9 with (at_builtin;((refine ab_ rq_ _ _ _ _ rq_ iN _ 5 40 Tryz.underlying109 HIN.out.1 HIN.out.2.1 HIN.out.2.2.1 HIN.out.2.2.2 rfl dq_ dq_ w1.heap.size (.slice oa O.length oc) O.length (O.flatMap lenc) (lenc x) rfl rq_ (HO3.out.below aa_ (Ea (Er W3) _)).row W3.heap.size 1 rq_ (al_ (Bxx.at sq_)) (cj_ x) oq_ tq_ ?_);intro v' w9 hown9 hgrow9 hloc9;obtain ⟨na,nc,rfl⟩:=a5_ hown9;have HO9:=hq_ (OwnG.push (y:=x) aa_ (HO3.out.below aa_ (Ea (Er W3) _)) HX.out hown9 hgrow9 hloc9 (fun h=>h) oq_);have HB9:=hq_ ((Ea HB3.out _).grown hgrow9 tq_ fun q e=>(HO3.out.row.lt q e).1);clear hown9 hgrow9 hloc9))
      obtain ⟨P,hP⟩:∃ P,P=O ++ [x]:=⟨_,rfl⟩;have hpl:P.length=O.length+1:=by rw [hP];simp
      rw [<- hP] at HO9 HJ2;rw [<- hpl] at HO9 ⊢;have HPL:=hq_ hpl;have hp1:P.length≤9002:=oq_;clear hP hpl;have hz9:=HB9.out.size;obtain ⟨b7,f7,y',h7,hb7,hy',e0,e1,e2,e3,e4⟩:=eo_ (HL.out.keep (W':=w9) (a3_.below HB9.out) HB9.out.size) HLT.out rfl;obtain rfl:y'=y:=hy'.symm.trans HYX.out;injection h7 with h7
      injection h7 with q1 q2
      subst q1;subst q2;clear hb7 hy';go_wp2_with (at_builtin;((refine ab_ rq_ _ _ _ _ rq_ iN _ 5 40 Tryz.underlying109 HIN.out.1 HIN.out.2.1 HIN.out.2.2.1 HIN.out.2.2.2 rfl dq_ dq_ w1.heap.size (.slice na P.length nc) P.length (P.flatMap lenc) (lenc y') rfl rq_ (HO9.out.below aa_ (Ea (Er w9) _)).row w9.heap.size 1 rq_ (al_ (Bxx.at sq_)) (cj_ y') oq_ tq_ ?_);intro v'' w10 hown9 hgrow9 hloc9;obtain ⟨ma,mc,rfl⟩:=a5_ hown9;have HO10:=hq_ (OwnG.push (y:=y') aa_ (HO9.out.below aa_ (Ea (Er w9) _)) HYL.out hown9 hgrow9 hloc9 (fun h=>h) oq_);have HB10:=hq_ ((Ea HB9.out _).grown hgrow9 tq_ fun q e=>(HO9.out.row.lt q e).1);clear hown9 hgrow9 hloc9))
      go_roundw
      case rel=>exact ⟨k+1,true,_,HLT.out,by go_num,rfl,HJ2,HO10,by have h1:=HO2.out.1;have h2:=HPL.out;simp at h1 ⊢;omega,HB10⟩
      case measure=>have:=HLT.out;simp [intOf];omega
     | false=>
      have HJ2:Hid (InsJ l x (k+1) false (O ++ [y])):=hq_ (by rw [<- HYX.out];exact HJ.out.next HLT.out (.inr (by rw [HYX.out];exact fun hc=>by have:=HR.out.2 hc;cases this)));clear g5 g6 g7 g8 g9;go_wp2_with (at_builtin;((refine ab_ rq_ _ _ _ _ rq_ iN _ 5 40 Tryz.underlying109 HIN.out.1 HIN.out.2.1 HIN.out.2.2.1 HIN.out.2.2.2 rfl dq_ dq_ w1.heap.size (.slice oa O.length oc) O.length (O.flatMap lenc) (lenc y) rfl rq_ (HO3.out.below aa_ (Ea (Er W3) _)).row W3.heap.size 1 rq_ (al_ (Bxx.at sq_)) (cj_ y) oq_ tq_ ?_);intro v' w9 hown9 hgrow9 hloc9;obtain ⟨na,nc,rfl⟩:=a5_ hown9;have HO9:=hq_ (OwnG.push (y:=y) aa_ (HO3.out.below aa_ (Ea (Er W3) _)) HYL.out hown9 hgrow9 hloc9 (fun h=>h) oq_);have HB9:=hq_ ((Ea HB3.out _).grown hgrow9 tq_ fun q e=>(HO3.out.row.lt q e).1);clear hown9 hgrow9 hloc9))
      go_roundw
      case rel=>exact ⟨k+1,false,_,HLT.out,by go_num,rfl,HJ2,HO9,by have h1:=HO2.out.1;have h2:=HO2.out.2;simp at h1 ⊢;omega,HB9⟩
      case measure=>have:=HLT.out;simp [intOf];omega
  ·obtain rfl:k=l.length:=oq_;have hkI:¬ (l.length:Int)<l.length:=oq_;have HJE:=hq_ HJ.out.done;cases done with
   | true=>
    go_wp2_with fail
    go_ret;refine ⟨_,rfl,?_,Et HB1.out HB.out⟩;rw [show insA l x=O from HJE.out];exact HO.out.base aa_ oq_
   | false=>
    go_wp2_with (at_builtin;((refine ab_ rq_ _ _ _ _ rq_ iN _ 5 40 Tryz.underlying109 HIN.out.1 HIN.out.2.1 HIN.out.2.2.1 HIN.out.2.2.2 rfl dq_ dq_ w1.heap.size (.slice oa O.length oc) O.length (O.flatMap lenc) (lenc x) rfl rq_ (HO.out.below aa_ (Ea (Er wr) _)).row wr.heap.size 1 rq_ (al_ (Bxx.at sq_)) (cj_ x) oq_ tq_ ?_);intro v' w9 hown9 hgrow9 hloc9;obtain ⟨na,nc,rfl⟩:=a5_ hown9;have HO9:=hq_ (OwnG.push (y:=x) aa_ (HO.out.below aa_ (Ea (Er wr) _)) HX.out hown9 hgrow9 hloc9 (fun h=>h) oq_);have HB9:=hq_ ((Ea HB.out _).grown hgrow9 tq_ fun q e=>(HO.out.row.lt q e).1);clear hown9 hgrow9 hloc9))
    go_ret;refine ⟨_,rfl,?_,Et HB1.out HB9.out⟩;rw [show insA l x=O ++ [x] from HJE.out];have h9:=HO9.out.base aa_ (C:=w.heap.size) oq_;exact h9
theorem vc_ {d:List Ent} {e:Ent} (hk:k<d.length) (he:d.getD k default=e):d.take (k+1)=d.take k ++ [e]:=by
 rw [List.take_succ_eq_append_getElem hk,<- a6_ (d:=default) hk,he]
theorem le_ (F:Nat->Prop) (v:Value) (L:List EntV) (a b:Int) (w:World) (h:DiaL w F v L) (hd:SmD (L.map EntV.ent)) (hL:L.length≤20) (hw:WinB a b) :
  Calls Tryz.prog 19 #[v,.agg #[.int .i64 a,.int .i64 b]] w (vn_ (L.map EntV.ent) a b w):=by
 have HID:=hq_ (fun x hx=>(hd.ids h (x:=x) hx).2);obtain ⟨a0,c0,rfl⟩:=h.form;have HV:=hq_ (fun W (hb:Below w.heap.size w W)=>f8_ F _ L W (h.ext hb) hd);have HD:=hq_ h;have HSD:=hq_ hd;have HW:=hq_ hw;have HLL:=hq_ hL;obtain ⟨iM,iM1,iM2,iM3,iM4⟩:=mi_;have HIM:=hq_ (And.intro iM1 (And.intro iM2 (And.intro iM3 iM4)));obtain ⟨iI,iI1,iI2,iI3,iI4⟩:=dr_;have HII:=hq_ (And.intro iI1 (And.intro iI2 (And.intro iI3 iI4)));obtain ⟨d,hd0⟩:∃ d,d=L.map EntV.ent:=⟨_,rfl⟩;rw [<- hd0] at HSD ⊢;have HD0:=hq_ hd0;clear h hd hw hL iM1 iM2 iM3 iM4 iI1 iI2 iI3 iI4 hd0
 go_enter Tryz.func19,Tryz.ntmps19
 go_upto_region 3 with (go_at_call 42;(with_reducible refine (HV.out _ xE).mono ?_);rintro e w1 ⟨rfl,hb1⟩;have hx:=(Bxx.new w #[.int .i64 a,.int .i64 b] 28).below hb1;have HBX:=hq_ hx;have HB1:=hq_ (show Below w.heap.size w w1 from Et (Ea (Er w) _) hb1);have hz1:=hx.lt;clear hb1 hx)
 go_wp2_with fail
 go_loopw [7,8,9,10,11,12] (fun ov kv _ _ _ _ wr=>∃ k:Nat,k≤L.length∧kv=.int .i64 k∧Hid (OwnG 112 5 lenc (fun _ _ y=>LnI y) w1.heap.size (fun _=>False) wr ov (srtA (linW (d.take k) a b)))∧Hid ((linW (d.take k) a b).length≤200*k)∧Hid (a<b->∀ e∈d.take k,∃ D,au_ e.s a b D)∧Hid (Below w1.heap.size w1 wr)) (fun _ kv _ _ _ _ _=>L.length-(intOf kv).toNat)
 case atStart=>exact ⟨0,oq_,rfl,hq_ (by rw [List.take_zero,dt_];exact ⟨⟨by simp [srtA],.inr ⟨w1.heap.size,0,#[],rfl,oq_,by simpa using World.alloc_heap_new w1 _,by simp [srtA],by simp [maxLen],by simp [srtA],by simp [srtA]⟩⟩,by simp [srtA],fun _ _ h=>h,by simp [srtA]⟩),hq_ (by rw [List.take_zero,dt_];simp),hq_ (fun _ e he=>by simp at he),hq_ (Ea (Er _) _)⟩
 case round=>
  obtain ⟨k,hk,rfl,HO,HOL,HWN,HB⟩:=hrel;have hwz:=HB.out.size;obtain ⟨M,hM⟩:∃ M,M=linW (d.take k) a b:=⟨_,rfl⟩;obtain ⟨C,hC⟩:∃ C,C=srtA M:=⟨_,rfl⟩;have hcl:=HOL.out;rw [<- hM] at hcl;rw [<- hM,<- hC] at HO;have HCM:Hid (C.length=M.length):=hq_ (by rw [hC];exact iw_);have HC:=hq_ hC;have HM:=hq_ hM;have HCL:=hq_ hcl;clear hC hcl hM;obtain ⟨oa,oc,rfl,-⟩:=HO.out.form;by_cases hlt:k<L.length
  ·have hlI:(k:Int)<L.length:=oq_;have HLT:=hq_ (show k+1≤L.length by omega);have HBw:=hq_ (Et HB1.out HB.out);obtain ⟨b8,o8,x,y1,d1,y2,d2,rfl,hbb,hx,hxm,hxr,hcv,hev,e0,e1,e2,e3,e4,e5⟩:=(HD.out.ext HBw.out).get hlt;have hkd:k<d.length:=by rw [HD0.out,List.length_map];exact hlt
   have hsel:=vc_ (e:=x.ent) hkd (by rw [HD0.out];exact km_ hlt hx);have hls:=fun W (hb:Below wr.heap.size wr W)=>f6_ _ _ _ x.s a b W (hxr.1.ext hb) (HSD.out.good x.ent (by rw [HD0.out];exact List.mem_map.2 ⟨x,hxm,rfl⟩)).2 HW.out;rw [hcv,hev] at hls;have HLS:=hq_ hls;have HS2:=hq_ hsel;have HXI:=hq_ (HID.out x hxm);have HSF:Hid (∀ D:List Inst,(a<b->au_ x.s a b D)->(¬ a<b->D=[])->linW (d.take (k+1)) a b=M ++ D.map (ai_ x.ent)):=hq_ fun D h1 h0=>by rw [HS2.out,HM.out];exact f2_ h1 h0
   have hbx:=HBX.out.below HB.out;have z0:=(hbx.cells 0).1;have z1:=(hbx.cells 1).1;obtain ⟨fm,hfm⟩:∃ c,x.firm=c:=⟨_,rfl⟩;rw [hfm] at e1;have hfe:x.ent.firm=fm:=hfm;have HFE:=hq_ hfe;clear hx hxm hxr hcv hev hls hsel hbx hkd hlt hfm hfe e2;go_upto_region 7 with fail
   refine aw_ (w0:=wr) [0,1,2,3,4,5,6,7,8,9,10] [11] [27,28,29,30,31,32,33,26,34,35,9] [.slice (some ⟨b8,o8,none⟩) L.length c0,.int .i64 k,.pointer (some ⟨b8,o8+k*6,none⟩),.pointer (some ⟨b8,o8+k*6+3,none⟩),.agg #[.slice y1 x.s.cls.length d1,.int .i64 x.s.len,.slice y2 x.s.ext.length d2],.agg #[.int .i64 a,.int .i64 b],undef,undef,undef,.int .i64 0,undef] [[],[],[0,1],[2],[3],[],[4,5],[],[],[],[]] [[],[],[],[],[],[],[],[6],[7],[7],[8]] [6,7,8,10] (fun i v lo hi W=>match i with|6=>RlV x.s a b wr.heap.size (v 6) W|7=>RlV x.s a b wr.heap.size (v 7) W|8=>RlS x.s a b wr.heap.size (v 8) W|10=>RlS x.s a b wr.heap.size (v 10) W|_=>True) (.a e3 (.a e4 (.a e5 (.a z0 (.a z1 (.b)))))) ?steps7 ?fin7
   case steps7=>
    repeat' first|exact .n|refine .c ?_ ?_|fail
    all_goals try exact stw
    ·rintro v lo hi W hb ⟨g0,g1,g2,g3,g4,gB⟩ _;refine .inl ⟨rfl,fun K hK=>?_⟩;simp only [ov,vat,Nat.reduceBEq,cond_true,cond_false];go_wp2_with (go_at_call 52;(with_reducible refine (HLS.out W gB).mono ?_);rintro e w9 ⟨lv,D,rfl,hb9,hx9,hl9,h19,h09,-⟩)
     exact acx (hK (.tuple #[lv,.int .i64 0]) w9 hb9 ⟨lv,rfl,D,hx9.mono (fun q hq=>Nat.le_trans gB.size hq),hl9,h19,fun h=>h09 oq_⟩) (by simp [ov,vat,upd])
    ·rintro v lo hi W hb ⟨g0,g1,g2,g3,g4,gB⟩ ⟨⟨la6,lb6,D6⟩,_⟩;refine .inl ⟨rfl,fun K hK=>?_⟩;simp only [ov,vat,Nat.reduceBEq,cond_true,cond_false]
     (try dsimp only at D6)
     obtain ⟨lv,e6,h6⟩:=D6
     (try simp only [e6])
     go_wp2_with fail
     exact acx (hK (.tuple #[lv,.int .i64 0]) W (Below.refl _ _) ⟨lv,rfl,h6⟩) (by simp [ov,vat,upd,e6])
    ·rintro v lo hi W hb ⟨g0,g1,g2,g3,g4,gB⟩ ⟨⟨la7,lb7,D7⟩,_⟩;refine .inl ⟨rfl,fun K hK=>?_⟩;simp only [ov,vat,Nat.reduceBEq,cond_true,cond_false]
     (try dsimp only at D7)
     obtain ⟨lv,e6,h6⟩:=D7
     (try simp only [e6])
     go_wp2_with fail
     exact acx (hK lv W (Below.refl _ _) h6) (by simp [ov,vat,upd,e6])
    ·rintro v lo hi W hb ⟨g0,g1,g2,g3,g4,gB⟩ ⟨⟨la7,lb7,D7⟩,_⟩;refine .inl ⟨rfl,fun K hK=>?_⟩;simp only [ov,vat,Nat.reduceBEq,cond_true,cond_false]
     (try dsimp only at D7)
     obtain ⟨lv,e6,h6⟩:=D7
     (try simp only [e6])
     go_wp2_with fail
     exact acx (hK W (Below.refl _ _)) (by simp [ov,vat,upd,e6])
    ·rintro v lo hi W hb ⟨g0,g1,g2,g3,g4,gB⟩ ⟨⟨la8,lb8,D8⟩,_⟩;refine .inl ⟨rfl,fun K hK=>?_⟩;simp only [ov,vat,Nat.reduceBEq,cond_true,cond_false]
     (try dsimp only at D8)
     go_wp2_with fail
     exact acx (hK (v 8) W (Below.refl _ _) D8) (by simp [ov,vat,upd])
   case fin7=>
    rintro v lo hi W2 hb2 ⟨g0,g1,g2,g3,g4,gB⟩ hf hap;show wpList _ _ _ [_] _ _;obtain ⟨-,-,-,D,hDx,hDl,hD1,hD0⟩:=hf 10 rfl;have e9:v 9=.int .i64 0:=(hf 9 rfl).2.2.2
    (try dsimp only)
    obtain ⟨da,dc,hdv⟩:=hDx.form;rw [hdv] at hDx;rw [e9,hdv];have HE2:Hid (ExtL W2 (fun _=>True) (.slice da D.length dc) D):=hq_ (hDx.mono fun _ _=>trivial);have HO2:=hq_ (HO.out.below aa_ gB);have HDL:=hq_ (And.intro hDl (And.intro hD1 hD0));have HB2:=hq_ (Et HB.out gB);have i0:=Ext.cell gB e0;have i1:=Ext.cell gB e1;clear e9 hf hap hdv hb2 g0 g1 g2 g3 g4 gB hD1 hD0 hDx hDl e0 e1 e3 e4 e5 z0 z1;generalize v 0=yv0,v 1=yv1,v 2=yv2,v 3=yv3,v 4=yv4,v 5=yv5,v 6=yv6,v 7=yv7,v 8=yv8;cases fm with
    | false=>
     have HKD:Hid ((1:Int)=if x.ent.firm then 2 else 1):=hq_ (by rw [HFE.out];rfl);go_wp2_with fail
     go_loopw [7,12] (fun ov jv wr=>∃ (j:Nat),j≤D.length∧jv=.int .i64 j∧Hid (OwnG 112 5 lenc (fun _ _ y=>LnI y) w1.heap.size (fun _=>False) wr ov (srtA (M ++ (D.take j).map (ai_ x.ent))))∧Hid (Below W2.heap.size W2 wr)) (fun _ jv _=>D.length-(intOf jv).toNat)
     case atStart=>exact ⟨0,oq_,rfl,hq_ (by rw [List.take_zero,List.map_nil,List.append_nil,<- HC.out];exact HO2.out),hq_ (Below.refl _ _)⟩
     case round=>
      obtain ⟨j,hj,rfl,HO3,HB3⟩:=hrel;have hwz3:=HB3.out.size;have hdl2:=HDL.out.1;have hll2:=HLL.out;obtain ⟨O,hO⟩:∃ O,O=srtA (M ++ (D.take j).map (ai_ x.ent)):=⟨_,rfl⟩;have HOl:Hid (O.length≤9000):=hq_ (by
       rw [hO,iw_,List.length_append,List.length_map,List.length_take,Nat.min_eq_left hj];have h1:=HCL.out;have h2:=HDL.out.1;have h3:=HLL.out;omega)
      rw [<- hO] at HO3;have HOO:=hq_ hO;clear hO;obtain ⟨oa,oc,rfl,-⟩:=HO3.out.form;have i0:=Ext.cell HB3.out i0;by_cases hlt:j<D.length
      ·have hlI:(j:Int)<D.length:=oq_;have HLJ:=hq_ (show j+1≤D.length by omega);obtain ⟨b7,f7,y,rfl,hb7,hy,hiy,p0,p1,p2⟩:=(HE2.out.ext HB3.out).get hlt;have hmo:=c1_ (f:=ai_ x.ent) (d:=default) hlt;rw [hy] at hmo;have HMO:Hid (insA O ⟨y.frm,y.fin,1,x.id,y.day⟩=srtA (M ++ (D.take (j+1)).map (ai_ x.ent))):=hq_ (by
        rw [hmo,<- List.append_assoc,kz_,<- HOO.out,show ai_ x.ent y=⟨y.frm,y.fin,1,x.id,y.day⟩ from by unfold ai_;rw [<- HKD.out];rfl])
       have HY:Hid (LnI ⟨y.frm,y.fin,1,x.id,y.day⟩):=hq_ (by
        obtain ⟨⟨hd1,hd2⟩,⟨hf1,hf2⟩,⟨ht1,ht2⟩⟩:=hiy;exact ⟨⟨by dsimp only;omega,by dsimp only;omega⟩,⟨by dsimp only;omega,by dsimp only;omega⟩,⟨by dsimp only;omega,by dsimp only;omega⟩,HXI.out,⟨by dsimp only;omega,by dsimp only;omega⟩⟩)
       have HIN:=hq_ (fun W (hb:Below wr.heap.size wr W)=>i3_ _ (.slice oa O.length oc) O ⟨y.frm,y.fin,1,x.id,y.day⟩ W ((HO3.out.below aa_ hb).rowR) HOl.out HO3.out.all HY.out);clear hy hmo hiy hlt;go_upto_region 16 with fail
       refine a9_ (w0:=wr) [0,1,2,3,4,5,6,7,8,9,10,11,12,13,14,15,16,17,18] [19,20] [50,51,52,53,54,55,56,57,58,59,60,61,62,63,64,65,66,67,68] [.slice oa O.length oc,.slice (some ⟨b7,f7,none⟩) D.length dc,.int .i64 j,.pointer (some ⟨b7,f7+j*3,none⟩),.pointer (some ⟨b7,f7+j*3+1,none⟩),.agg #[.int .i64 y.frm,.int .i64 y.fin],.int .i64 1,.agg #[.int .i64 y.frm,.int .i64 y.fin,.int .i64 1],.slice (some ⟨b8,o8,none⟩) L.length c0,.int .i64 k,.pointer (some ⟨b8,o8+k*6,none⟩),.pointer (some ⟨b8,o8+k*6,none⟩),.int .i64 x.id,.slice (some ⟨b7,f7,none⟩) D.length dc,.int .i64 j,.pointer (some ⟨b7,f7+j*3,none⟩),.pointer (some ⟨b7,f7+j*3,none⟩),.int .i64 y.day,.agg #[.int .i64 y.frm,.int .i64 y.fin,.int .i64 1,.int .i64 x.id,.int .i64 y.day]] [[],[],[],[1,2],[3],[4],[],[5,6],[],[],[8,9],[10],[11],[],[],[13,14],[15],[16],[7,12,17]] (.a p0 (.a p1 (.a p2 (.z i0)))) ?steps16 ?fin16
       case steps16=>
        repeat' first|exact .n|refine .c ?_ ?_|fail
        all_goals try exact stp
       case fin16=>
        rintro W3 hb3 hg;show wpList _ _ _ [_,_] _ _;simp only [vat];have HB4:=hq_ hb3;clear hg hb3 p0 p1 p2;go_wp2_with (go_at_call 60;(with_reducible refine (HIN.out W3 HB4.out).mono ?_);rintro e w9 ⟨v9,rfl,ho9,hb9⟩;obtain ⟨na,nc,rfl,-⟩:=ho9.form;have HO9:=hq_ ho9;have HB9:=hq_ (Et HB4.out hb9);clear ho9 hb9)
        go_roundw
        case rel=>exact ⟨j+1,HLJ.out,by go_num,hq_ (by rw [<- HMO.out];exact HO9.out.base aa_ (by have h1:=HB2.out.size;have h2:=HB4.out.size;have h3:=HB3.out.size;omega)),hq_ (Et HB3.out HB9.out)⟩
        case measure=>have:=HLJ.out;simp [intOf];omega
      ·obtain rfl:j=D.length:=oq_;have hjI:¬ (D.length:Int)<D.length:=oq_;have hsn:=HSF.out D HDL.out.2.1 HDL.out.2.2;have HSN:=hq_ hsn;clear hsn;go_wp2_with fail
       go_roundw
       case rel=>exact ⟨k+1,HLT.out,by go_num,hq_ (by rw [HSN.out];have h:=HO3.out;have h2:=HOO.out;rw [List.take_length] at h2;rw [<- h2];exact h),hq_ (by rw [HSN.out,List.length_append,List.length_map];have h1:=HCL.out;have h2:=HDL.out.1;omega),hq_ (fun h e he=>by
        rw [HS2.out] at he;rcases List.mem_append.1 he with he|he
        ·exact HWN.out h e he
        ·obtain rfl:=List.mem_singleton.1 he;exact ⟨D,HDL.out.2.1 h⟩),hq_ (Et HB2.out HB3.out)⟩
       case measure=>have:=HLT.out;simp [intOf];omega
    | true=>
     have HKD:Hid ((2:Int)=if x.ent.firm then 2 else 1):=hq_ (by rw [HFE.out];rfl);go_wp2_with fail
     go_loopw [7,12] (fun ov jv wr=>∃ (j:Nat),j≤D.length∧jv=.int .i64 j∧Hid (OwnG 112 5 lenc (fun _ _ y=>LnI y) w1.heap.size (fun _=>False) wr ov (srtA (M ++ (D.take j).map (ai_ x.ent))))∧Hid (Below W2.heap.size W2 wr)) (fun _ jv _=>D.length-(intOf jv).toNat)
     case atStart=>exact ⟨0,oq_,rfl,hq_ (by rw [List.take_zero,List.map_nil,List.append_nil,<- HC.out];exact HO2.out),hq_ (Below.refl _ _)⟩
     case round=>
      obtain ⟨j,hj,rfl,HO3,HB3⟩:=hrel;have hwz3:=HB3.out.size;have hdl2:=HDL.out.1;have hll2:=HLL.out;obtain ⟨O,hO⟩:∃ O,O=srtA (M ++ (D.take j).map (ai_ x.ent)):=⟨_,rfl⟩;have HOl:Hid (O.length≤9000):=hq_ (by
       rw [hO,iw_,List.length_append,List.length_map,List.length_take,Nat.min_eq_left hj];have h1:=HCL.out;have h2:=HDL.out.1;have h3:=HLL.out;omega)
      rw [<- hO] at HO3;have HOO:=hq_ hO;clear hO;obtain ⟨oa,oc,rfl,-⟩:=HO3.out.form;have i0:=Ext.cell HB3.out i0;by_cases hlt:j<D.length
      ·have hlI:(j:Int)<D.length:=oq_;have HLJ:=hq_ (show j+1≤D.length by omega);obtain ⟨b7,f7,y,rfl,hb7,hy,hiy,p0,p1,p2⟩:=(HE2.out.ext HB3.out).get hlt;have hmo:=c1_ (f:=ai_ x.ent) (d:=default) hlt;rw [hy] at hmo;have HMO:Hid (insA O ⟨y.frm,y.fin,2,x.id,y.day⟩=srtA (M ++ (D.take (j+1)).map (ai_ x.ent))):=hq_ (by
        rw [hmo,<- List.append_assoc,kz_,<- HOO.out,show ai_ x.ent y=⟨y.frm,y.fin,2,x.id,y.day⟩ from by unfold ai_;rw [<- HKD.out];rfl])
       have HY:Hid (LnI ⟨y.frm,y.fin,2,x.id,y.day⟩):=hq_ (by
        obtain ⟨⟨hd1,hd2⟩,⟨hf1,hf2⟩,⟨ht1,ht2⟩⟩:=hiy;exact ⟨⟨by dsimp only;omega,by dsimp only;omega⟩,⟨by dsimp only;omega,by dsimp only;omega⟩,⟨by dsimp only;omega,by dsimp only;omega⟩,HXI.out,⟨by dsimp only;omega,by dsimp only;omega⟩⟩)
       have HIN:=hq_ (fun W (hb:Below wr.heap.size wr W)=>i3_ _ (.slice oa O.length oc) O ⟨y.frm,y.fin,2,x.id,y.day⟩ W ((HO3.out.below aa_ hb).rowR) HOl.out HO3.out.all HY.out);clear hy hmo hiy hlt;go_upto_region 16 with fail
       refine a9_ (w0:=wr) [0,1,2,3,4,5,6,7,8,9,10,11,12,13,14,15,16,17,18] [19,20] [50,51,52,53,54,55,56,57,58,59,60,61,62,63,64,65,66,67,68] [.slice oa O.length oc,.slice (some ⟨b7,f7,none⟩) D.length dc,.int .i64 j,.pointer (some ⟨b7,f7+j*3,none⟩),.pointer (some ⟨b7,f7+j*3+1,none⟩),.agg #[.int .i64 y.frm,.int .i64 y.fin],.int .i64 2,.agg #[.int .i64 y.frm,.int .i64 y.fin,.int .i64 2],.slice (some ⟨b8,o8,none⟩) L.length c0,.int .i64 k,.pointer (some ⟨b8,o8+k*6,none⟩),.pointer (some ⟨b8,o8+k*6,none⟩),.int .i64 x.id,.slice (some ⟨b7,f7,none⟩) D.length dc,.int .i64 j,.pointer (some ⟨b7,f7+j*3,none⟩),.pointer (some ⟨b7,f7+j*3,none⟩),.int .i64 y.day,.agg #[.int .i64 y.frm,.int .i64 y.fin,.int .i64 2,.int .i64 x.id,.int .i64 y.day]] [[],[],[],[1,2],[3],[4],[],[5,6],[],[],[8,9],[10],[11],[],[],[13,14],[15],[16],[7,12,17]] (.a p0 (.a p1 (.a p2 (.z i0)))) ?steps16 ?fin16
       case steps16=>
        repeat' first|exact .n|refine .c ?_ ?_|fail
        all_goals try exact stp
       case fin16=>
        rintro W3 hb3 hg;show wpList _ _ _ [_,_] _ _;simp only [vat];have HB4:=hq_ hb3;clear hg hb3 p0 p1 p2;go_wp2_with (go_at_call 60;(with_reducible refine (HIN.out W3 HB4.out).mono ?_);rintro e w9 ⟨v9,rfl,ho9,hb9⟩;obtain ⟨na,nc,rfl,-⟩:=ho9.form;have HO9:=hq_ ho9;have HB9:=hq_ (Et HB4.out hb9);clear ho9 hb9)
        go_roundw
        case rel=>exact ⟨j+1,HLJ.out,by go_num,hq_ (by rw [<- HMO.out];exact HO9.out.base aa_ (by have h1:=HB2.out.size;have h2:=HB4.out.size;have h3:=HB3.out.size;omega)),hq_ (Et HB3.out HB9.out)⟩
        case measure=>have:=HLJ.out;simp [intOf];omega
      ·obtain rfl:j=D.length:=oq_;have hjI:¬ (D.length:Int)<D.length:=oq_;have hsn:=HSF.out D HDL.out.2.1 HDL.out.2.2;have HSN:=hq_ hsn;clear hsn;go_wp2_with fail
       go_roundw
       case rel=>exact ⟨k+1,HLT.out,by go_num,hq_ (by rw [HSN.out];have h:=HO3.out;have h2:=HOO.out;rw [List.take_length] at h2;rw [<- h2];exact h),hq_ (by rw [HSN.out,List.length_append,List.length_map];have h1:=HCL.out;have h2:=HDL.out.1;omega),hq_ (fun h e he=>by
        rw [HS2.out] at he;rcases List.mem_append.1 he with he|he
        ·exact HWN.out h e he
        ·obtain rfl:=List.mem_singleton.1 he;exact ⟨D,HDL.out.2.1 h⟩),hq_ (Et HB2.out HB3.out)⟩
       case measure=>have:=HLT.out;simp [intOf];omega
  ·obtain rfl:k=L.length:=oq_;have hkI:¬ (L.length:Int)<L.length:=oq_;have hdl:d.take L.length=d:=List.take_of_length_le (by rw [HD0.out,List.length_map];exact Nat.le_refl _);have hm:=HM.out;have hwn:=HWN.out;rw [hdl] at hm hwn;have hcm:=HCM.out;have hcl:=HCL.out;have hll:=HLL.out;have HCB:=hq_ (show C.length≤4000 by omega);have h4:¬ (4096:Int)<C.length:=oq_;have HML:=hq_ hm;have HWW:=hq_ hwn;have HRW:=hq_ HO.out.rowR;have HBE:=hq_ (Et HB1.out HB.out);clear hdl hm hwn hcm hcl hll;obtain ⟨w4,hw4⟩:∃ w4,w4=wr:=⟨_,rfl⟩;go_wp2_with fail
   subst hw4;go_loopw [13,14,15] (fun mv dv iv wr=>∃ (k:Nat),k≤C.length∧iv=.int .i64 k∧Hid (OwnG 72 3 menc (fun _ _ x=>LnI x) w4.heap.size (fun _=>False) wr mv (C.take k))∧Hid (OwnG 3 1 denc (fun _ _ x=>LnI x) w4.heap.size (fun _=>False) wr dv (C.take k))∧Hid (Below w4.heap.size w4 wr)) (fun _ _ iv _=>C.length-(intOf iv).toNat)
   case atStart=>exact ⟨0,oq_,rfl,hq_ (OwnG.below aa_ ⟨⟨sq_,.inr ⟨w4.heap.size,0,#[],rfl,oq_,by simpa using World.alloc_heap_new w4 _,sq_,by simp [maxLen],sq_,sq_⟩⟩,sq_,fun _ _ h=>h,sq_⟩ (Ea (Er _) _)),hq_ ⟨⟨sq_,.inr ⟨w4.heap.size+1,0,#[],sq_,oq_,by simpa using World.alloc_heap_new (w4.alloc _) _,sq_,by simp [maxLen],sq_,sq_⟩⟩,sq_,fun _ _ h=>h,sq_⟩,hq_ (Ea (Ea (Er _) _) _)⟩
   case round=>
    obtain ⟨k,hk,rfl,HMR,HI,HB⟩:=hrel;obtain ⟨O,hO⟩:∃ O,O=C.take k:=⟨_,rfl⟩;have HOL:Hid (O.length=k):=hq_ (by rw [hO,List.length_take,Nat.min_eq_left hk]);rw [<- hO] at HMR HI;have HOO:=hq_ hO;clear hO;obtain ⟨ma,mc,rfl,-⟩:=HMR.out.form;obtain ⟨ia,ic,rfl,-⟩:=HI.out.form;have hwz:=HB.out.size;have hCb:C.length≤4000:=HCB.out;have HRL2:Hid (O.length+1≤1000000):=hq_ (by have:=HOL.out;omega);by_cases hlt:k<C.length
    ·have hlI:(k:Int)<C.length:=oq_;have HLT:=hq_ (show k+1≤C.length by omega);obtain ⟨b8,f8,x,rfl,hb8,hx,e0,e1,e2,e3,e4⟩:=eo_ (HRW.out.keep (W':=wr) (a3_.below HB.out) HB.out.size) hlt rfl;have HX:Hid (C.take (k+1)=O ++ [x]):=hq_ (by
      rw [List.take_succ_eq_append_getElem hlt,<- a6_ (d:=default) hlt,hx,HOO.out])
     have HXL:Hid (LnI x):=hq_ (HO.out.all x (by rw [<- hx];exact ac_ hlt));clear hx hlt e4;have HNE:=hq_ (fun g (hg:Value.ownBlock (.slice ma O.length mc)=some g)=>eh_ HMR.out.row HI.out.row dq_ hg);go_upto_region 25 with (at_builtin;((refine ab_ rq_ _ _ _ _ rq_ iM _ 3 24 Tryz.underlying35 HIM.out.1 HIM.out.2.1 HIM.out.2.2.1 HIM.out.2.2.2 rfl dq_ dq_ w4.heap.size (.slice ma O.length mc) O.length (O.flatMap menc) (menc x) rfl rq_ (HMR.out.below aa_ (Ea (Er wr) _)).row wr.heap.size 1 rq_ (al_ (Bxx.at sq_)) (ml_ x) HRL2.out tq_ ?_);intro v' w9 hown9 hgrow9 hloc9;obtain ⟨na,nc,rfl⟩:=a5_ hown9;have HM9:=hq_ (OwnG.push (y:=x) aa_ (HMR.out.below aa_ (Ea (Er wr) _)) HXL.out hown9 hgrow9 hloc9 (fun h=>h) HRL2.out);have HI9:=hq_ ((HI.out.below aa_ (Ea (Er wr) _)).keepP hgrow9 fun g hg he=>HNE.out g he hg);have HB9:=hq_ ((Ea HB.out _).grown hgrow9 tq_ fun q e=>(HMR.out.row.lt q e).1);have hz9:=hgrow9.size;have hz49:=HB9.out.size;clear hgrow9 hloc9 hown9))
     obtain ⟨b7,f7,x',h7,hb7,hx',-,-,-,p3,-⟩:=eo_ (HRW.out.keep (W':=w9) (a3_.below HB9.out) HB9.out.size) HLT.out rfl;injection h7 with h7
     injection h7 with q1 q2
     subst q1;subst q2;have hxx:x'=x:=by
      rw [<- hx',a6_ HLT.out];have h:=HX.out;rw [List.take_succ_eq_append_getElem HLT.out,HOO.out] at h;exact List.singleton_inj.1 (List.append_cancel_left h)
     subst hxx;clear hb7 hx';clear e0 e1 e2 e3;go_wp2_with (at_builtin;(refine ab_ rq_ _ _ _ _ rq_ iI _ 1 8 Tryz.underlying36 HII.out.1 HII.out.2.1 HII.out.2.2.1 HII.out.2.2.2 rfl dq_ dq_ w4.heap.size (.slice ia O.length ic) O.length (O.flatMap denc) (denc x') rfl rq_ (HI9.out.below aa_ (Ea (Er w9) _)).row w9.heap.size 1 rq_ (al_ (Bxx.at sq_)) (m6_ x') HRL2.out tq_ ?_);intro v' w10 hown10 hgrow10 hloc10;obtain ⟨ja,jc,rfl⟩:=a5_ hown10;have HI10:=hq_ (OwnG.push (y:=x') aa_ (HI9.out.below aa_ (Ea (Er w9) _)) HXL.out hown10 hgrow10 hloc10 (fun h=>h) HRL2.out);have HM10:=hq_ ((HM9.out.below aa_ (Ea (Er w9) _)).keepP hgrow10 fun g hg=>eh_ HM9.out.row HI9.out.row dq_ hg);have HB10:=hq_ ((Ea HB9.out _).grown hgrow10 (by have:=HB9.out.size;simp;omega) fun q e=>(HI9.out.row.lt q e).1);clear hown10 hgrow10 hloc10)
     go_roundw
     case rel=>exact ⟨k+1,HLT.out,by go_num,hq_ (by rw [HX.out];exact HM10.out),hq_ (by rw [HX.out];exact HI10.out),HB10⟩
     case measure=>have:=HLT.out;simp [intOf];omega
    ·obtain rfl:k=C.length:=oq_;have hkI:¬ (C.length:Int)<C.length:=oq_;go_wp2_with fail
     refine bodyPost_ret (v:=.tuple #[.slice ma O.length mc,.slice ia O.length ic,.int .i64 0]) (by simp [results,Tryz.results19,go_sem]) rfl ?_;have hOC:O=C:=by rw [HOO.out,List.take_length]
     have h4:=HBE.out.size;have hm:=HMR.out.rowR;have hi:=HI.out.rowR;rw [hOC] at hm hi ⊢;have hcc:=HC.out;have hmm:=HML.out;exact ⟨_,_,C,rfl,by rw [hcc,<- hmm];exact ky_,by rw [hcc];exact t3_,by have:=HCB.out;omega,hm.mono fun k hk=>by have:=hk.1;omega,hi.mono fun k hk=>by have:=hk.1;omega,HWW.out,Et HBE.out HB.out⟩
theorem sh_:∀ {N:List Spn} {a b:Int},NS N->(∀ s∈N,a≤s.1∧s.2≤b)->N.length=0∨(N.length:Int)≤b-a
 | [],_,_,_,_=>.inl rfl
 | x :: l,a,b,h,g=>by
  have h1:=h.pos x sq_;have h2:=g x sq_;rw [List.length_cons];rcases sh_ (a:=x.2+1) (b:=b) h.tail (fun s hs=>⟨by have:=(List.pairwise_cons.1 h.gap).1 s hs;omega,(g s (by simp [hs])).2⟩) with h3|h3
  ·exact .inr (by rw [h3];simp;omega)
  ·exact .inr oq_
theorem tx_ {d:List Ent} {N:List Spn} (h:BusyTo d a b N) (hw:WinB a b):N.length≤30000:=by
 have:=hw.sz;rcases sh_ (a:=a) (b:=b) h.1 (fun s hs=>by
  have h0:=h.1.pos s hs;have h1:=(h.2 s.1).1 ⟨s,hs,oq_,h0⟩;have h2:=(h.2 (s.2-1)).1 ⟨s,hs,oq_,oq_⟩;exact ⟨h1.1,by have:=h2.2.1;omega⟩) with h3|h3 <;> omega
theorem st_ (a b:Int) (w:World) (hw:WinB a b):Calls Tryz.prog 52 #[.agg #[.slice none 0 0,.int .i64 1,.slice none 0 0],.agg #[.int .i64 a,.int .i64 b]] w fun e w'=>∃ v,e=.returned (.tuple #[v,.int .i64 0])∧Below w.heap.size w w':=by
 have hS:StrR w (fun _=>False) (.slice none 0 0) (.slice none 0 0) ⟨[],1,[]⟩:=⟨[],rfl,⟨⟨none,0,rfl,sq_,oq_,.inl rfl⟩,sq_,sq_⟩,⟨⟨none,0,rfl,sq_,oq_,.inl rfl⟩,sq_,sq_⟩,by show InI 1;exact ⟨oq_,oq_⟩⟩;have hM:MStr ⟨[],1,[]⟩:=⟨⟨sq_,sq_,sq_,fun i hi=>by simp at hi,fun i hi=>by simp at hi⟩,sq_⟩;refine (f6_ (fun _=>False) (.slice none 0 0) (.slice none 0 0) ⟨[],1,[]⟩ a b w hS ⟨hM,sq_,sq_⟩ hw).mono ?_;rintro e w' ⟨v,D,rfl,hb,-⟩;exact ⟨v,rfl,hb⟩
theorem nu_ (F:Nat->Prop) (v:Value) (L:List EntV) (n a b:Int) (w:World) (h:DiaL w F v L) (hd:SmD (L.map EntV.ent)) (hL:L.length≤40) (hw:WinB a b) (hn:InI n) :
  Calls Tryz.prog 21 #[v,.int .i64 n,.agg #[.int .i64 a,.int .i64 b]] w (jw_ (L.map EntV.ent) n a b w):=by
 obtain ⟨a0,c0,rfl⟩:=h.form;have HBU:=hq_ (fun W (hb:Below w.heap.size w W)=>i2_ F _ L true a b W (h.ext hb) hd hL hw);have HLI:=hq_ (fun W=>st_ a b W hw);have HWB:=hq_ hw;have HNI:=hq_ hn;clear h hd hw hn hL;obtain ⟨d,hd⟩:∃ d,d=L.map EntV.ent:=⟨_,rfl⟩;rw [<- hd] at HBU ⊢;clear hd
 go_enter Tryz.func21,Tryz.ntmps21
 go_wp2_with (first|(go_at_call 52;(with_reducible refine (HLI.out _).mono ?_);rintro e w1 ⟨lv,rfl,hb1⟩;have hby:=((Bxx.at (w:=w) (b:=w.heap.size) (c:=#[.int .i64 a,.int .i64 b]) (t:=28) rfl).alloc (.cells #[.int .i64 0,.int .i64 0] 28)).below hb1;have hbr:=(Bxx.at (w:=w.alloc (.cells #[.int .i64 a,.int .i64 b] 28)) (b:=w.heap.size+1) (c:=#[.int .i64 0,.int .i64 0]) (t:=28) sq_).below hb1;have HB1:=hq_ (show Below w.heap.size w w1 from Et xE hb1);have HBY:=hq_ hby;have HBR:=hq_ hbr;have x0:=(hby.cells 0).1;have x1:=(hby.cells 1).1;clear hb1 hby hbr)|(go_at_call 17;(with_reducible refine (HBU.out _ HB1.out).mono ?_);rintro e w2 ⟨bv,N,rfl,h1,h2,h3,hb2⟩;have HB2:=hq_ (Et HB1.out hb2);have HBR2:=hq_ (HBR.out.below hb2);have x0:=Ext.cell hb2 x0;have x1:=Ext.cell hb2 x1;have H1:=hq_ h1;have HL2:=hq_ (show N.length≤300000 from Nat.le_trans (tx_ h1 HWB.out) oq_);have H3:=hq_ h3;clear h1 h2 h3 hb2)|(go_at_call 63;(with_reducible refine (qe_ _ bv N n a b w2 H3.out HL2.out HNI.out (Go.Proofs.YtkclokcenllhmaaGreat.BusyTo.near H1.out HWB.out) HWB.out.lo HWB.out.le HWB.out.hi).mono ?_);rintro e w5 ⟨f,t,ok,rfl,hb5,hg⟩;have hbr:=HBR2.out.below hb5;have HBR5:=hq_ hbr;have r0:=(hbr.cells 0).1;have r1:=(hbr.cells 1).1;have r2:=(hbr.cells 0).2;have r3:=(hbr.cells 1).2;have HB5:=hq_ (Et HB2.out hb5);have HG:=hq_ hg;clear hb5 hg hbr))
 have hg:=ma_ HWB.out H1.out HG.out;have k5:Bxx ((w5.setCell ⟨w.heap.size+1,0,none⟩ (.int .i64 f)).setCell ⟨w.heap.size+1,1,none⟩ (.int .i64 t)) (w.heap.size+1) #[.int .i64 f,.int .i64 t] 28:=by
  simpa [Bxx] using a0_ 1 (.int .i64 t) (a0_ 0 (.int .i64 f) HBR5.out)
 have z0:=(k5.cells 0).1;have z1:=(k5.cells 1).1;exact bodyPost_ret (v:=.tuple #[.agg #[.int .i64 f,.int .i64 t],.bool ok]) (by simp [results,Tryz.results21,go_sem,z0,z1]) rfl ⟨f,t,ok,rfl,hg.1,hg.2,(HB5.out.setCell (p:=⟨w.heap.size+1,0,none⟩) sq_ _).setCell (p:=⟨w.heap.size+1,1,none⟩) sq_ _⟩
end Go.Proofs.YtkclokcenllhmaaGreat
end
