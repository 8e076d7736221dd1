/- Part 2 of the proof of the laws. -/
import Derived.Test.YtkclokcenllhmaaGreatM1
import Derived.Laws.EntriesVeiled
import Derived.Deep.RegionLaw
import Derived.Lib.SliceRun
import Derived.Maps.OwnIn
set_option linter.unusedVariables false
set_option linter.unusedSimpArgs false
set_option maxRecDepth 100000
set_option maxHeartbeats 4000000
section
variable {F P a at_ b d r s x y:Int}{m:List (List Kal.Per)}{l:List Int}{L:List Go.Proofs.YtkclokcenllhmaaGreat.PV}{t:List Kal.Per}{cs xs:List Go.Value}{B ab c cap g i j k n:Nat}{o':Go.Obj}{o:Go.Oper}{row:Option Nat}{p:Kal.Per}{u v v':Go.Value}{A C W W' w w':Go.World}
namespace Go.Proofs.YtkclokcenllhmaaGreat
open Go.RowKit Go.Maps Kal
theorem ac_ {α:Type} {l:List α} {d:α} (h:i<l.length):l.getD i d∈l:=by
 rw [List.getD_eq_getElem?_getD,List.getElem?_eq_getElem h];exact List.getElem_mem h
theorem fs_ {α:Type} {l:List α} {d:α} {p:α->Bool} (h:k<l.length):(l.take (k+1)).any p=((l.take k).any p || p (l.getD k d)):=by
 rw [List.take_succ_eq_append_getElem h,List.any_append,List.getD_eq_getElem?_getD,List.getElem?_eq_getElem h];simp
def lo_ (g:Nat) (lb:Array Value) (L:List PV) (p:PV->Bool) (w:World):Prop:=
 ∀ (W:World) (x:PV),Below w.heap.size w W->x∈L->Calls Tryz.prog g (#[x.val] ++ lb) W fun e w'=>e=.returned (.bool (p x))∧Below w.heap.size w w'
theorem px_ (F:Nat->Prop) (v:Value) (L:List PV) (p:PV->Bool) (g:Nat) (lb:Array Value) (eg:∀ args w,(callFunc g args).run Tryz.prog w=.ok (.enter g args) w) (w:World) (hv:RowR w F v L.length (L.flatMap PV.enc)) (hlen:L.length≤17592186044416) (hp:lo_ g lb L p w) :
  Calls Tryz.prog 224 #[v,.func (.func g) #[] lb] w fun e w'=>∃ i:Int,e=.returned (.int .i64 i)∧decide (0≤i)=L.any p∧Below w.heap.size w w':=by
 have HPP:=hq_ hp;obtain ⟨a1,c1,rfl,_,_,h3⟩:=hv;have HC:=hq_ h3;clear hp h3
 go_enter Tryz.func224,Tryz.ntmps224
 go_wp2_with fail
 go_loopw [5,8] (fun _ i wr=>∃ k:Nat,k≤L.length∧i=.int .i64 k∧(L.take k).any p=false∧Below w.heap.size w wr) (fun _ i _=>L.length-(intOf i).toNat)
 case atStart=>exact ⟨0,oq_,rfl,rfl,Below.refl _ _⟩
 case round=>
  obtain ⟨k,hk,rfl,hpre,hb⟩:=hrel;have HB:=hq_ hb;have HPRE:=hq_ hpre;clear hpre;by_cases hlt:k<L.length
  ·have hlI:(k:Int)<L.length:=oq_;rcases HC.out with h0|⟨b8,f8,rfl,hF,hb8,hcell⟩
   ·omega
   have e0:wr.cell? ⟨b8,f8+k*4,none⟩=some (L.getD k default).h:=Below.cell' hb (hcell (k*4+0) _ (c7_ hlt rfl)) hb8;have e1:wr.cell? ⟨b8,f8+k*4+1,none⟩=some (.int .i64 (L.getD k default).p.frm):=Below.cell' hb (hcell (k*4+1) _ (c7_ hlt rfl)) hb8;have e2:wr.cell? ⟨b8,f8+k*4+2,none⟩=some (.int .i64 (L.getD k default).p.period):=Below.cell' hb (hcell (k*4+2) _ (c7_ hlt rfl)) hb8;have e3:wr.cell? ⟨b8,f8+k*4+3,none⟩=some (L.getD k default).c:=Below.cell' hb (hcell (k*4+3) _ (c7_ hlt rfl)) hb8;have hcall:=HPP.out wr (L.getD k default) hb (ac_ hlt);have HSU:Hid ((L.take (k+1)).any p=((L.take k).any p || p (L.getD k default))):=hq_ (fs_ hlt);have HMEM:=hq_ (ac_ (d:=default) hlt);generalize L.getD k default=y at *;clear hcell hb;cases hq:p y with
   | true=>
    rw [hq] at hcall;have HQ:=hq_ hq;clear hq;go_wp2_with (go_at_fn g;refine hcall.mono ?_;rintro e w' ⟨rfl,hb'⟩)
    go_ret;refine ⟨_,rfl,?_,hb'⟩;rw [decide_eq_true oq_];exact (List.any_eq_true.2 ⟨y,HMEM.out,HQ.out⟩).symm
   | false=>
    rw [hq] at hcall;have HQ:=hq_ hq;clear hq;go_wp2_with (go_at_fn g;refine hcall.mono ?_;rintro e w' ⟨rfl,hb'⟩)
    go_roundw
    case rel=>exact ⟨k+1,oq_,by go_num,by rw [HSU.out,HPRE.out,HQ.out];rfl,hb'⟩
    case measure=>simp [intOf];omega
  ·obtain rfl:k=L.length:=oq_;go_wp2_with fail
   go_ret;refine ⟨_,rfl,?_,HB.out⟩;have:=HPRE.out;rw [List.take_length] at this;rw [this];rfl
def p4_ (g:Nat) (lb:Array Value) (L:List (Value × List Per)) (p:(Value × List Per)->Bool) (w:World):Prop:=
 ∀ (W:World) (x:(Value × List Per)),Below w.heap.size w W->x∈L->Calls Tryz.prog g (#[x.1] ++ lb) W fun e w'=>e=.returned (.bool (p x))∧Below w.heap.size w w'
theorem pz_ (F:Nat->Prop) (v:Value) (L:List (Value × List Per)) (p:(Value × List Per)->Bool) (g:Nat) (lb:Array Value) (eg:∀ args w,(callFunc g args).run Tryz.prog w=.ok (.enter g args) w) (w:World) (hv:RowR w F v L.length (L.map Prod.fst)) (hlen:L.length≤17592186044416) (hp:p4_ g lb L p w) :
  Calls Tryz.prog 219 #[v,.func (.func g) #[] lb] w fun e w'=>∃ i:Int,e=.returned (.int .i64 i)∧decide (0≤i)=L.any p∧Below w.heap.size w w':=by
 have HPP:=hq_ hp;obtain ⟨a1,c1,rfl,_,_,h3⟩:=hv;have HC:=hq_ h3;clear hp h3
 go_enter Tryz.func219,Tryz.ntmps219
 go_wp2_with fail
 go_loopw [5,8] (fun _ i wr=>∃ k:Nat,k≤L.length∧i=.int .i64 k∧(L.take k).any p=false∧Below w.heap.size w wr) (fun _ i _=>L.length-(intOf i).toNat)
 case atStart=>exact ⟨0,oq_,rfl,rfl,Below.refl _ _⟩
 case round=>
  obtain ⟨k,hk,rfl,hpre,hb⟩:=hrel;have HB:=hq_ hb;have HPRE:=hq_ hpre;clear hpre;by_cases hlt:k<L.length
  ·have hlI:(k:Int)<L.length:=oq_;rcases HC.out with h0|⟨b8,f8,rfl,hF,hb8,hcell⟩
   ·omega
   have e0:wr.cell? ⟨b8,f8+k,none⟩=some (L.getD k (.slice none 0 0,[])).1:=Below.cell' hb (hcell k _ (by rw [List.getElem?_map,List.getD_eq_getElem?_getD,List.getElem?_eq_getElem hlt];rfl)) hb8;have hcall:=HPP.out wr (L.getD k (.slice none 0 0,[])) hb (ac_ hlt);have HSU:Hid ((L.take (k+1)).any p=((L.take k).any p || p (L.getD k (.slice none 0 0,[])))):=hq_ (fs_ hlt);have HMEM:=hq_ (ac_ (d:=(.slice none 0 0,[])) hlt);generalize L.getD k (.slice none 0 0,[])=y at *;clear hcell hb;cases hq:p y with
   | true=>
    rw [hq] at hcall;have HQ:=hq_ hq;clear hq;go_wp2_with (go_at_fn g;refine hcall.mono ?_;rintro e w' ⟨rfl,hb'⟩)
    go_ret;refine ⟨_,rfl,?_,hb'⟩;rw [decide_eq_true oq_];exact (List.any_eq_true.2 ⟨y,HMEM.out,HQ.out⟩).symm
   | false=>
    rw [hq] at hcall;have HQ:=hq_ hq;clear hq;go_wp2_with (go_at_fn g;refine hcall.mono ?_;rintro e w' ⟨rfl,hb'⟩)
    go_roundw
    case rel=>exact ⟨k+1,oq_,by go_num,by rw [HSU.out,HPRE.out,HQ.out];rfl,hb'⟩
    case measure=>simp [intOf];omega
  ·obtain rfl:k=L.length:=oq_;go_wp2_with fail
   go_ret;refine ⟨_,rfl,?_,HB.out⟩;have:=HPRE.out;rw [List.take_length] at this;rw [this];rfl
theorem gi_ (F:Nat->Prop) (v:Value) (L:List PV) (p:PV->Bool) (g:Nat) (lb:Array Value) (eg:∀ args w,(callFunc g args).run Tryz.prog w=.ok (.enter g args) w) (w:World) (hv:RowR w F v L.length (L.flatMap PV.enc)) (hlen:L.length≤17592186044416) (hp:lo_ g lb L p w) :
  Calls Tryz.prog 177 #[v,.func (.func g) #[] lb] w fun e w'=>e=.returned (.bool (L.any p))∧Below w.heap.size w w':=by
 have HV:=hq_ hv;have HPP:=hq_ hp;clear hp hv
 go_enter Tryz.func177,Tryz.ntmps177
 go_wp2_with (go_at_call 224;refine (px_ F v L p g lb eg _ HV.out hlen HPP.out).mono ?_;rintro e w1 ⟨i,rfl,hi,hb1⟩;have HI:=hq_ hi;clear hi)
 go_ret;exact ⟨a1_ HI.out,hb1⟩
theorem l9_ (F:Nat->Prop) (v:Value) (L:List (Value × List Per)) (p:(Value × List Per)->Bool) (g:Nat) (lb:Array Value) (eg:∀ args w,(callFunc g args).run Tryz.prog w=.ok (.enter g args) w) (w:World) (hv:RowR w F v L.length (L.map Prod.fst)) (hlen:L.length≤17592186044416) (hp:p4_ g lb L p w) :
  Calls Tryz.prog 170 #[v,.func (.func g) #[] lb] w fun e w'=>e=.returned (.bool (L.any p))∧Below w.heap.size w w':=by
 have HV:=hq_ hv;have HPP:=hq_ hp;clear hp hv
 go_enter Tryz.func170,Tryz.ntmps170
 go_wp2_with (go_at_call 219;refine (pz_ F v L p g lb eg _ HV.out hlen HPP.out).mono ?_;rintro e w1 ⟨i,rfl,hi,hb1⟩;have HI:=hq_ hi;clear hi)
 go_ret;exact ⟨a1_ HI.out,hb1⟩
theorem r0_ (v:Value) (l:List Int) (i:Nat) (k:Int) (hk:k=i) (w:World) (h:cw_ w v l) (hi:i≤100) :
  Calls Tryz.prog 162 #[v,.int .i64 k] w fun e w'=>e=.returned (.int .i64 (l.getD i 0))∧Below w.heap.size w w':=by
 subst hk;obtain ⟨⟨a1,c1,rfl,h3⟩,g2,g3⟩:=h;by_cases hl:i<l.length
 ·rcases h3 with h3|⟨b,o,rfl,hc⟩
  ·rw [h3] at hl;simp at hl
  have hci:=hc i hl;have hr:=g3 _ (ac_ (d:=0) hl);have hiI:(i:Int)<l.length:=oq_;generalize l.getD i 0=x at *;clear hc g3
  go_enter Tryz.func162,Tryz.ntmps162
  go_wp2_with fail
  go_ret;exact ⟨rfl,xE⟩
 ·have hx:l.getD i 0=0:=by rw [List.getD_eq_getElem?_getD,List.getElem?_eq_none oq_];rfl
  have hiI:¬ (i:Int)<l.length:=oq_;rw [hx];clear h3 g3
  go_enter Tryz.func162,Tryz.ntmps162
  go_wp2_with fail
  go_ret;exact ⟨rfl,xE⟩
theorem cw_.rng0 (h:cw_ w v l) (i:Nat):0≤l.getD i 0∧l.getD i 0≤255:=by
 by_cases hl:i<l.length
 ·exact h.rng _ (ac_ (d:=0) hl)
 ·rw [List.getD_eq_getElem?_getD,List.getElem?_eq_none oq_];decide
theorem OwnI.kept_far {base:Nat} (h:OwnI w base v l) (hg:w.grownBy w' row) (h1:∀ q,v.ownBlock=some q->q<B) (h2:∀ q,row=some q->B≤q):OwnI w' base v l:=h.kept hg (by
 by_cases hn:v.ownBlock=none
 ·exact .inl hn
 ·refine .inr fun e=>?_;obtain ⟨q,hq⟩:=Option.ne_none_iff_exists'.1 hn;have:=h1 q hq;have:=h2 q (e.symm.trans hq);omega)
def bitI (x k:Int):Bool:=(x / 2 ^ k.toNat).tmod 2 == 1
theorem l3_ (k:Nat):upto (k+1)=upto k ++ [(k:Int)]:=by unfold upto;rw [List.range_succ,List.map_append];rfl
theorem m9_ {f:Int->Bool} {cl:List Int} (h:cl=(upto k).filter f) (hf:f k=true):cl ++ [(k:Int)]=(upto (k+1)).filter f:=by
 rw [l3_,List.filter_append,<- h,List.filter_cons_of_pos hf];rfl
theorem oo_ {f:Int->Bool} {cl:List Int} (h:cl=(upto k).filter f) (hf:f k=false):cl=(upto (k+1)).filter f:=by
 rw [l3_,List.filter_append,<- h,List.filter_cons_of_neg (by rw [hf];simp)];simp
theorem f1_ (f:Int->Bool) (k:Nat):Rise 0 k ((upto k).filter f):=by
 refine Rise.filter ⟨?_,fun x hx=>?_⟩ f
 ·unfold upto;rw [List.pairwise_map];exact List.pairwise_lt_range.imp fun h=>oq_
 ·obtain ⟨i,hi,rfl⟩:=List.mem_map.1 hx;rw [List.mem_range] at hi;omega
def facF (l:List Int):Per:=⟨(upto (l.getD 1 0 % 9).toNat).filter (bitI (l.getD 4 0)),l.getD 1 0 % 9,1+l.getD 0 0 % 12,(upto (1+l.getD 0 0 % 12).toNat).filter (bitI (l.getD 2 0+256*l.getD 3 0))⟩
theorem hl_ (l:List Int):(facF l).WF∧(facF l).frm≤8∧(facF l).period≤12:=by
 have h1:0≤l.getD 1 0 % 9∧l.getD 1 0 % 9<9:=oq_;have h2:1≤1+l.getD 0 0 % 12∧1+l.getD 0 0 % 12≤12:=oq_;refine ⟨⟨h1.1,h2.1,?_,?_⟩,by show l.getD 1 0 % 9≤8;omega,h2.2⟩
 ·have:=f1_ (bitI (l.getD 4 0)) (l.getD 1 0 % 9).toNat;rw [Int.toNat_of_nonneg h1.1] at this;exact this
 ·have:=f1_ (bitI (l.getD 2 0+256*l.getD 3 0)) (1+l.getD 0 0 % 12).toNat;rw [Int.toNat_of_nonneg oq_] at this;exact this
theorem jy_ (v:Value) (l:List Int) (w:World) (h1:cw_ w v l) :
  Calls Tryz.prog 161 #[v] w fun e w'=>∃ (h c:Value),e=.returned (perV h c (facF l).frm (facF l).period)∧POx w' w.heap.size h c (facF l)∧Below w.heap.size w w':=by
 have HFE:Hid (facF l=⟨(upto (l.getD 1 0 % 9).toNat).filter (bitI (l.getD 4 0)),l.getD 1 0 % 9,1+l.getD 0 0 % 12,(upto (1+l.getD 0 0 % 12).toNat).filter (bitI (l.getD 2 0+256*l.getD 3 0))⟩):=hq_ rfl;have HAT:=fun W (i:Nat) (k:Int) (hk:k=i) (hi:i≤100) (hb:Below w.heap.size w W)=>r0_ v l i k hk W (h1.ext hb) hi;have r0:=h1.rng0 0;have r1:=h1.rng0 1;have r2:=h1.rng0 2;have r3:=h1.rng0 3;have r4:=h1.rng0 4;obtain ⟨⟨a1,c1,rfl,_⟩,g2,_⟩:=h1;have HA0:=fun W hb=>HAT W 0 0 rfl oq_ hb;have HA1:=fun W hb=>HAT W 1 1 rfl oq_ hb;have HA2:=fun W hb=>HAT W 2 2 rfl oq_ hb;have HA3:=fun W hb=>HAT W 3 3 rfl oq_ hb;have HA4:=fun W hb=>HAT W 4 4 rfl oq_ hb;generalize facF l=fp at *;generalize l.getD 0 0=x0 at *;generalize l.getD 1 0=x1 at *;generalize l.getD 2 0=x2 at *;generalize l.getD 3 0=x3 at *;generalize l.getD 4 0=x4 at *;clear HAT;have hA0:=Int.emod_nonneg x1 (show (9:Int)≠0 by omega);have hA1:=Int.emod_lt_of_pos x1 (show (0:Int)<9 by omega);have hT0:=Int.emod_nonneg x0 (show (12:Int)≠0 by omega);have hT1:=Int.emod_lt_of_pos x0 (show (0:Int)<12 by omega)
 go_enter Tryz.func161,Tryz.ntmps161
 go_wp2_with (go_at_call 162;first
  | ((with_reducible refine (HA1 _ xE).mono ?_);rintro e w1 ⟨rfl,hb1⟩;have hW1:Below w.heap.size w w1:=by exact xE)
  | ((with_reducible refine (HA0 _ xE).mono ?_);rintro e w2 ⟨rfl,hb2⟩;have hW2:Below w.heap.size w w2:=by exact xE)
  | ((with_reducible refine (HA2 _ xE).mono ?_);rintro e w3 ⟨rfl,hb3⟩;have hW3:Below w.heap.size w w3:=by exact xE)
  | ((with_reducible refine (HA3 _ xE).mono ?_);rintro e w4 ⟨rfl,hb4⟩;have hW4:Below w.heap.size w w4:=by exact xE))
 obtain ⟨b3,hb3e⟩:∃ b3,b3=w2.heap.size:=⟨_,rfl⟩;rw [<- hb3e];have hz2:=hb2.size;have hz3:=hb3.size;have hz4:=hb4.size;simp only [World.size_alloc] at hz2 hz3 hz4;have hz1:=hb1.size;simp only [World.size_alloc] at hz1;have hbx:Bxx w4 b3 #[.slice none 0 0,.int .i64 (x1 % 9),.int .i64 (1+x0 % 12),.slice none 0 0] 160:=((Bxx.at hb3e).below hb3).below hb4;have hrb:Bxx w4 w.heap.size #[.slice none 0 0,.int .i64 0,.int .i64 0,.slice none 0 0] 160:=((((Bxx.at (w:=w) rfl).below hb1).below hb2 |>.alloc _).below hb3).below hb4;have hb3l:w.heap.size<b3:=oq_;have hb3z:b3<w4.heap.size:=oq_;generalize x1 % 9=A at *;generalize x0 % 12=T0 at *;obtain ⟨N,hN⟩:∃ N:Nat,A=N:=⟨A.toNat,oq_⟩;subst hN;obtain ⟨T,hT⟩:∃ T:Nat,1+T0=T:=⟨(1+T0).toNat,oq_⟩;rw [hT] at hbx HFE ⊢;have hTl:1≤T∧T≤12:=oq_;have hx23:0≤x2+256*x3∧x2+256*x3≤65535:=oq_;generalize x2+256*x3=bits at *;clear hT HA0 HA1 HA2 HA3 hb1 hb2 hb3 hb4 hW1 hW2 hW3 hb3e hz1 hz2 hz3 hz4;have HW4:=hq_ hW4;clear hW4;go_loopw [5] (fun kv wr=>∃ (k:Nat) (cl:List Int) (a:Option Addr) (c:Nat),k≤T∧kv=.int .i64 k∧Hid (cl=(upto k).filter (bitI bits))∧Hid (OwnI wr w4.heap.size (.slice a cl.length c) cl)∧Hid (Bxx wr b3 #[.slice none 0 0,.int .i64 N,.int .i64 T,.slice a cl.length c] 160)∧Hid (Bxx wr w.heap.size #[.slice none 0 0,.int .i64 0,.int .i64 0,.slice none 0 0] 160)∧Hid (Below w.heap.size w wr)∧w4.heap.size≤wr.heap.size) (fun kv _=>T-(intOf kv).toNat)
 case atStart=>exact ⟨0,[],none,0,oq_,rfl,hq_ rfl,hq_ (OwnI.nil _ _),hq_ hbx,hq_ hrb,HW4,Nat.le_refl _⟩
 case round=>
  obtain ⟨k,cl,a,c,hk,rfl,HR,HO,HBX,HRB,HB,hz⟩:=hrel;obtain ⟨wo,hwo⟩:∃ wo,wo=wr:=⟨_,rfl⟩;subst hwo;have m0:=(HBX.out.cells 2).1;have m1:=(HBX.out.cells 3).1;have hlen:cl.length≤12:=by rw [HR.out];have:=(f1_ (bitI bits) k).length_le oq_;omega
  by_cases hlt:k<T
  ·have hkI:(k:Int)<T:=oq_;go_wp2_with (at_builtin;(refine hv_ rq_ _ _ rq_ w4.heap.size (.slice a cl.length c) cl k rq_ (HO.out.ext (Ea (Er _) _)) _ _ rq_ sq_ ⟨oq_,oq_⟩ oq_ tq_ ?_;intro g cap w5 hown5 hgrow5 hbel5;have hbx5:=(HBX.out.alloc (.cells #[.int .i64 k] 3)).grown hgrow5 (fun e=>by have h7:=(HO.out.lt _ e.symm).1;omega);have hrb5:=(HRB.out.alloc (.cells #[.int .i64 k] 3)).grown hgrow5 (fun e=>by have h7:=(HO.out.lt _ e.symm).1;omega);have g0:=hbx5.cells 3;have hz5:=hgrow5.size;rw [World.size_alloc] at hz5;have HO5:=hq_ hown5;have HBX5:=hq_ hbx5;have HRB5:=hq_ hrb5;have HBE:=hq_ hbel5;clear hown5 hbx5 hrb5 hgrow5 hbel5))
   ·go_roundw
    case rel=>
     have e:(cl ++ [(k:Int)]).length=cl.length+1:=by simp
     refine ⟨k+1,cl ++ [(k:Int)],some ⟨g,0,none⟩,cap,oq_,by go_num,hq_ (m9_ HR.out (by simp only [bitI,Int.toNat_natCast];assumption)),hq_ ?_,hq_ ?_,hq_ ?_,hq_ ?_,?_⟩
     ·rw [e];exact HO5.out.kept_lt (fun q hq=>⟨Below.heap_setCell _ _ _ q (by have:=(HO5.out.lt q hq).1;show q≠b3;omega),sq_⟩)
     ·rw [e];exact a0_ 3 _ HBX5.out
     ·exact HRB5.out.setNe _ oq_
     ·exact ((HB.out.trans (((Ea (Er wo) _).mono HB.out.size))).trans (HBE.out.mono oq_)).setCell (p:=⟨b3,3,none⟩) (by show w.heap.size≤b3;omega) _
     ·simp;omega
    case measure=>simp [intOf];omega
   ·go_roundw
    case rel=>exact ⟨k+1,cl,a,c,oq_,by go_num,hq_ (oo_ HR.out (by simp only [bitI,Int.toNat_natCast];assumption)),HO,HBX,HRB,HB,hz⟩
    case measure=>simp [intOf];omega
  ·obtain rfl:k=T:=oq_;obtain ⟨W1,hW1⟩:∃ W1,W1=wo:=⟨_,rfl⟩;have hcl:=HO.out.lt;have HCO:Hid (OwnI wo w4.heap.size (.slice a cl.length c) cl):=HO;clear m1;go_wp2_with fail
   clear m0;go_loopw [6] (fun kv wr=>∃ (j:Nat) (hl:List Int) (a':Option Addr) (c':Nat),j≤N∧kv=.int .i64 j∧Hid (hl=(upto j).filter (bitI x4))∧Hid (OwnI wr wo.heap.size (.slice a' hl.length c') hl)∧Hid (OwnI wr w4.heap.size (.slice a cl.length c) cl)∧Hid (Bxx wr b3 #[.slice a' hl.length c',.int .i64 N,.int .i64 k,.slice a cl.length c] 160)∧Hid (Bxx wr w.heap.size #[.slice none 0 0,.int .i64 0,.int .i64 0,.slice none 0 0] 160)∧Hid (Below w.heap.size w wr)∧wo.heap.size≤wr.heap.size) (fun kv _=>N-(intOf kv).toNat)
   case atStart=>exact ⟨0,[],none,0,oq_,rfl,hq_ rfl,hq_ (OwnI.nil _ _),HO,HBX,HRB,HB,Nat.le_refl _⟩
   case round=>
    obtain ⟨j,hl,a',c',hj,rfl,HR2,HO2,HCO2,HBX2,HRB2,HB2,hz2⟩:=hrel;obtain ⟨w7,hw7⟩:∃ w7,w7=wr:=⟨_,rfl⟩;subst hw7;have m0:=(HBX2.out.cells 1).1;have hlen2:hl.length≤12:=by rw [HR2.out];have:=(f1_ (bitI x4) j).length_le oq_;omega
    by_cases hlt2:j<N
    ·have hjI:(j:Int)<N:=oq_;go_wp2_with (first|(go_at_call 162;(with_reducible refine (HA4 _ HB2.out).mono ?_);rintro e w8 ⟨rfl,hb8⟩;have hbx8:=HBX2.out.below hb8;have g1:=hbx8.cells 0;have hz8:=hb8.size;have HBX8:=hq_ hbx8;have HB8:=hq_ hb8;clear hbx8 hb8)|(at_builtin;(refine hv_ rq_ _ _ rq_ wo.heap.size (.slice a' hl.length c') hl j rq_ ((HO2.out.ext HB8.out).ext (Ea (Er _) _)) _ _ rq_ sq_ ⟨oq_,oq_⟩ oq_ tq_ ?_;intro g cap w5 hown5 hgrow5 hbel5;have hne:∀ q,(Value.slice a' hl.length c').ownBlock=some q->wo.heap.size≤q:=fun q e=>(HO2.out.lt _ e).1;have hbx5:=(HBX8.out.alloc (.cells #[.int .i64 j] 3)).grown hgrow5 (fun e=>by have h7:=hne _ e.symm;omega);have hrb5:=((HRB2.out.below HB8.out).alloc (.cells #[.int .i64 j] 3)).grown hgrow5 (fun e=>by have h7:=hne _ e.symm;omega);have hco5:=((HCO2.out.ext HB8.out).ext (Ea (Er _) (.cells #[.int .i64 j] 3))).kept_far hgrow5 (fun q hq=>(hcl q hq).2) hne;have g0:=hbx5.cells 0;have hz5:=hgrow5.size;rw [World.size_alloc] at hz5;have HO5:=hq_ hown5;have HCO5:=hq_ hco5;have HBX5:=hq_ hbx5;have HRB5:=hq_ hrb5;have HBE:=hq_ hbel5;clear hown5 hbx5 hrb5 hgrow5 hbel5 hco5)))
     ·go_roundw
      case rel=>
       have e:(hl ++ [(j:Int)]).length=hl.length+1:=by simp
       refine ⟨j+1,hl ++ [(j:Int)],some ⟨g,0,none⟩,cap,oq_,by go_num,hq_ (m9_ HR2.out (by simp only [bitI,Int.toNat_natCast];assumption)),hq_ ?_,hq_ ?_,hq_ ?_,hq_ ?_,hq_ ?_,?_⟩
       ·rw [e];exact HO5.out.kept_lt (fun q hq=>⟨Below.heap_setCell _ _ _ q (by have:=(HO5.out.lt q hq).1;show q≠b3;omega),sq_⟩)
       ·exact HCO5.out.kept_lt (fun q hq=>⟨Below.heap_setCell _ _ _ q (by have:=(HCO5.out.lt q hq).1;show q≠b3;omega),sq_⟩)
       ·rw [e];exact a0_ 0 _ HBX5.out
       ·exact HRB5.out.setNe _ oq_
       ·exact (((HB2.out.trans (HB8.out.mono HB2.out.size)).trans (((Ea (Er w8) _).mono (by have:=HB2.out.size;omega)))).trans (HBE.out.mono oq_)).setCell (p:=⟨b3,0,none⟩) (by show w.heap.size≤b3;omega) _
       ·simp;omega
      case measure=>simp [intOf];omega
     ·go_roundw
      case rel=>exact ⟨j+1,hl,a',c',oq_,by go_num,hq_ (oo_ HR2.out (by simp only [bitI,Int.toNat_natCast];assumption)),hq_ (HO2.out.ext HB8.out),hq_ (HCO2.out.ext HB8.out),HBX8,hq_ (HRB2.out.below HB8.out),hq_ (HB2.out.trans (HB8.out.mono HB2.out.size)),oq_⟩
      case measure=>simp [intOf];omega
    ·obtain rfl:j=N:=oq_;have g0:=HBX2.out.cells 0;have g1:=HBX2.out.cells 1;have g2:=HBX2.out.cells 2;have g3:=HBX2.out.cells 3;have q0:=HRB2.out.cells 0;have q1:=HRB2.out.cells 1;have q2:=HRB2.out.cells 2;have q3:=HRB2.out.cells 3;go_wp2_with fail
     exact bodyPost_ret (v:=perV (.slice a' hl.length c') (.slice a cl.length c) j k) (by simp [results,Tryz.results161,go_sem, *]) rfl (by
      have e:fp=⟨hl,j,k,cl⟩:=by rw [HFE.out,HR2.out,HR.out];simp
      rw [e];exact ⟨_,_,rfl,⟨(HO2.out.above (by (repeat' (with_reducible first|exact bw_.refl _ _|refine bw_.alloc ?_ _|refine bw_.drew ?_|refine bw_.drewN ?_ _|refine bw_.setCell ?_ (by first|(simp;done)|(simp;omega)|omega) _)))).mono oq_,(HCO2.out.above (by (repeat' (with_reducible first|exact bw_.refl _ _|refine bw_.alloc ?_ _|refine bw_.drew ?_|refine bw_.drewN ?_ _|refine bw_.setCell ?_ (by first|(simp;done)|(simp;omega)|omega) _)))).mono oq_⟩,by have:=HB2.out;exact xE⟩)
def hasB (p:Per) (n:Int):Bool:=validB p && decide (0≤n) && memB p n
def inB (t:List Per) (n:Int):Bool:=t.all fun p=>hasB p n
def az_ (t:List Per):Bool:=decide (1≤t.length) && decide (t.length≤4) && t.all validB
def ak_ (m:List (List Per)):Bool:=decide (m.length≤64) && m.all az_
def hasM (m:List (List Per)) (n:Int):Bool:=ak_ m && m.any fun t=>inB t n
theorem oi_ {α:Type} (l:List α) (p:α->Bool):(!l.any fun x=>!p x)=l.all p:=by
 induction l with
 | nil=>rfl
 | cons a l ih=>simp only [List.any_cons,List.all_cons,<- ih];cases p a <;> simp
theorem wm_ (F:Nat->Prop) (x:PV) (n:Int) (db:Nat) (w:World) (hx:PVok w F x) (hc:w.cell? ⟨db,0,none⟩=some (.int .i64 n)) (hn:InI n) :
  Calls Tryz.prog 254 #[x.val,.pointer (some ⟨db,0,none⟩)] w fun e w'=>e=.returned (.bool (!hasB x.p n))∧Below w.heap.size w w':=by
 have H:=fun W (h:Below w.heap.size w W)=>wl_ x.h x.c x.p n W (hx.is.ext h) hn;have hlt:=World.block_lt_of_cell? w _ hc;have e0:∀ o,(w.alloc o).cell? ⟨db,0,none⟩=some (.int .i64 n):=fun o=>a2_ hc o;change ∀ W,_->Calls _ _ _ _ fun e w'=>e=.returned (.bool (hasB x.p n))∧_ at H;clear hc hx;generalize hasB x.p n=b at H ⊢
 go_enter Tryz.func254,Tryz.ntmps254
 go_wp2_with (go_at_call 255;refine (H _ xE).mono ?_;rintro e w1 ⟨rfl,hb1⟩)
 go_ret;exact ⟨rfl,xE⟩
theorem ue_ (F:Nat->Prop) (L:List PV) (n:Int) (db:Nat) (w:World) (hL:∀ x∈L,PVok w F x) (hc:w.cell? ⟨db,0,none⟩=some (.int .i64 n)) (hn:InI n) :
  lo_ 254 #[.pointer (some ⟨db,0,none⟩)] L (fun x=>!hasB x.p n) w:=fun W x hW hx=>by
 have h:=wm_ F x n db W ((hL x hx).keep (a3_.below hW)) (Ext.cell hW hc) hn;have e:(#[x.val] ++ #[Value.pointer (some ⟨db,0,none⟩)])=#[x.val,.pointer (some ⟨db,0,none⟩)]:=by simp
 rw [e];exact h.mono fun e w' ⟨h1,h2⟩=>⟨h1,hW.trans (h2.mono hW.size)⟩
theorem s1_ (F:Nat->Prop) (v:Value) (t:List Per) (n:Int) (w:World) (ht:ag_ w F v t) (hn:InI n) :
  Calls Tryz.prog 221 #[v,.int .i64 n] w fun e w'=>e=.returned (.bool (inB t n))∧Below w.heap.size w w':=by
 obtain ⟨L,rfl,hL⟩:=ht;have hb0:Below w.heap.size w (w.alloc (.cells #[.int .i64 n] 3)):=by exact xE
 have h0:=gi_ F v L (fun x=>!hasB x.p n) 254 #[.pointer (some ⟨w.heap.size,0,none⟩)] (enters_of Tryz.func254 (by kernel_rfl) rfl) (w.alloc (.cells #[.int .i64 n] 3)) (hL.row.keep (a3_.below hb0) hb0.size) hL.len
  (ue_ F L n w.heap.size _ (fun x hx=>(hL.all x hx).keep (a3_.below hb0)) sq_ hn)
 have he:inB (L.map PV.p) n=!(L.any fun x=>!hasB x.p n):=by rw [oi_];unfold inB;rw [List.all_map];rfl
 rw [he];clear hL he hb0;generalize (L.any fun x=>!hasB x.p n)=b at h0 ⊢
 go_enter Tryz.func221,Tryz.ntmps221
 go_wp2_with (go_at_call 177;refine h0.mono ?_;rintro e w1 ⟨rfl,hb1⟩)
 go_ret;exact ⟨rfl,xE⟩
theorem qs_ (F:Nat->Prop) (x:PV) (w:World) (hx:PVok w F x) :
  Calls Tryz.prog 178 #[x.val] w fun e w'=>e=.returned (.bool (!validB x.p))∧Below w.heap.size w w':=by
 have H:=fun W (h:Below w.heap.size w W)=>f3_ x.h x.c x.p W (hx.is.ext h);clear hx;generalize validB x.p=b at H ⊢
 go_enter Tryz.func178,Tryz.ntmps178
 go_wp2_with (go_at_call 179;refine (H _ xE).mono ?_;rintro e w1 ⟨rfl,hb1⟩)
 go_ret;exact ⟨rfl,xE⟩
theorem o3_ (F:Nat->Prop) (L:List PV) (w:World) (hL:∀ x∈L,PVok w F x):lo_ 178 #[] L (fun x=>!validB x.p) w:=fun W x hW hx=>by
 have h:=qs_ F x W ((hL x hx).keep (a3_.below hW));have e:(#[x.val] ++ (#[]:Array Value))=#[x.val]:=by simp
 rw [e];exact h.mono fun e w' ⟨h1,h2⟩=>⟨h1,hW.trans (h2.mono hW.size)⟩
theorem tt_ (F:Nat->Prop) (v:Value) (t:List Per) (w:World) (ht:ag_ w F v t) :
  Calls Tryz.prog 177 #[v,.func (.func 178) #[] #[]] w fun e w'=>e=.returned (.bool (!t.all validB))∧Below w.heap.size w w':=by
 obtain ⟨L,rfl,hL⟩:=ht;have h:=gi_ F v L (fun x=>!validB x.p) 178 #[] (enters_of Tryz.func178 (by kernel_rfl) rfl) w hL.row hL.len (o3_ F L w hL.all);have he:(!(L.map PV.p).all validB)=L.any fun x=>!validB x.p:=by
  rw [List.all_map,<- Bool.not_not (L.any _),oi_];rfl
 rw [he];exact h
theorem fr_ {α:Type} {l:List α} {d:α} {p:α->Bool} (h:k<l.length):(l.take (k+1)).all p=((l.take k).all p && p (l.getD k d)):=by
 rw [List.take_succ_eq_append_getElem h,List.all_append,List.getD_eq_getElem?_getD,List.getElem?_eq_getElem h];simp
theorem all_false {α:Type} {l:List α} {d:α} {p:α->Bool} (h:k<l.length) (hp:p (l.getD k d)=false):l.all p=false:=by
 rw [List.all_eq_false];exact ⟨_,ac_ (d:=d) h,by rw [hp];decide⟩
theorem ag_.form {F:Nat->Prop} (h:ag_ W F v t):∃ a c,v=.slice a t.length c∧t.length≤17592186044416:=by
 obtain ⟨L,rfl,hL⟩:=h;obtain ⟨a,c,rfl,_⟩:=hL.row;exact ⟨a,c,by rw [List.length_map],by rw [List.length_map];exact hL.len⟩
theorem MixL.get {F:Nat->Prop} {a:Option Addr} {L:List (Value × List Per)} (h:MixL w F (.slice a n c) L) (hk:k<L.length) :
  ∃ b o tv,a=some ⟨b,o,none⟩∧w.cell? ⟨b,o+k,none⟩=some tv∧ag_ w F tv ((L.map Prod.snd).getD k []):=by
 obtain ⟨a',c',he,h1,h2,h3⟩:=h.row;injection he with e1 _ e2
 subst e1;subst e2;rcases h3 with h3|⟨b,o,rfl,hF,hl,hc⟩
 ·omega
 ·refine ⟨b,o,(L.getD k default).1,rfl,hc k _ ?_,?_⟩
  ·rw [List.getElem?_map,List.getD_eq_getElem?_getD,List.getElem?_eq_getElem hk];rfl
  ·have:=h.all _ (ac_ (d:=default) hk);rw [show (L.map Prod.snd).getD k []=(L.getD k default).2 by simp [List.getD_eq_getElem?_getD,hk]];exact this
theorem g9_ (F:Nat->Prop) (v:Value) (m:List (List Per)) (w:World) (hm:MixR w F v m) :
  Calls Tryz.prog 126 #[.agg #[v]] w fun e w'=>e=.returned (.bool (ak_ m))∧Below w.heap.size w w':=by
 obtain ⟨L,hLm,hL⟩:=hm;obtain ⟨a,c,rfl,_⟩:=hL.row;have HL:=hq_ hL;have hlen:=hL.len;have hml:m.length=L.length:=by rw [<- hLm];exact List.length_map _
 have HLM:=hq_ hLm;have HM:=hq_ hml;clear hL hLm hml
 go_enter Tryz.func126,Tryz.ntmps126
 go_wp2_with fail
 ·rename_i hgt;go_ret;refine ⟨a1_ ?_,xE⟩;have:=HM.out;unfold ak_;rw [decide_eq_false oq_];rfl
 ·rename_i hgt;go_loopw [4,12] (fun _ i wr=>∃ k:Nat,k≤L.length∧i=.int .i64 k∧(m.take k).all az_=true∧Below w.heap.size w wr) (fun _ i _=>L.length-(intOf i).toNat)
  case atStart=>exact ⟨0,oq_,rfl,rfl,xE⟩
  case round=>
   obtain ⟨k,hk,rfl,hpre,hb⟩:=hrel;have HB:=hq_ hb;have HPRE:=hq_ hpre;clear hpre;by_cases hlt:k<L.length
   ·have hlI:(k:Int)<L.length:=oq_;obtain ⟨b8,f8,tv,rfl,hcell,hT⟩:=(HL.out.keep (a3_.below hb) hb.size).get hlt;rw [HLM.out] at hT;have HT:=hq_ hT;have HSU:Hid ((m.take (k+1)).all az_=((m.take k).all az_ && az_ (m.getD k []))):=hq_ (fr_ (by have:=HM.out;omega));have HF:Hid (az_ (m.getD k [])=false->ak_ m=false):=hq_ fun h=>by unfold ak_;rw [all_false (d:=[]) (by have:=HM.out;omega) h,Bool.and_false]
    generalize m.getD k []=t at *;obtain ⟨a2,c2,rfl,ht44⟩:=hT.form;have HBT:=fun W h=>tt_ F _ t W (HT.out.ext h);clear hT;by_cases h1:t.length<1
    ·have h1I:(t.length:Int)<1:=oq_;go_wp2_with fail
     go_ret;refine ⟨a1_ (HF.out ?_).symm,HB.out⟩;unfold az_;rw [decide_eq_false oq_];rfl
    ·by_cases h2:4<t.length
     ·have h2I:4<(t.length:Int):=oq_;go_wp2_with fail
      go_ret;refine ⟨a1_ (HF.out ?_).symm,HB.out⟩;unfold az_;rw [decide_eq_false (p:=t.length≤4) oq_,Bool.and_false];rfl
     ·have h1I:¬ (t.length:Int)<1:=oq_;have h2I:¬ 4<(t.length:Int):=oq_;cases hq:t.all validB with
      | false=>
       rw [hq] at HBT;have HQ:=hq_ hq;clear hq;go_wp2_with (go_at_call 177;refine (HBT _ xE).mono ?_;rintro e w1 ⟨rfl,hb1⟩)
       go_ret;refine ⟨a1_ (HF.out ?_).symm,xE⟩;unfold az_;rw [HQ.out,Bool.and_false]
      | true=>
       rw [hq] at HBT;have HQ:=hq_ hq;clear hq;go_wp2_with (go_at_call 177;refine (HBT _ xE).mono ?_;rintro e w1 ⟨rfl,hb1⟩)
       go_roundw
       case rel=>
        refine ⟨k+1,oq_,by go_num,?_,xE⟩;rw [HSU.out,HPRE.out];unfold az_;rw [HQ.out,decide_eq_true oq_,decide_eq_true oq_];rfl
       case measure=>simp [intOf];omega
   ·obtain rfl:k=L.length:=oq_;go_wp2_with fail
    go_ret;refine ⟨a1_ ?_,HB.out⟩;have:=HPRE.out;rw [<- HM.out,List.take_length] at this;unfold ak_;rw [this,decide_eq_true (by have:=HM.out;omega)];rfl
end Go.Proofs.YtkclokcenllhmaaGreat
namespace Kal
theorem nh_ {a b d:Nat} (hd0:0<d) (hd:d∣Nat.lcm a b):d∣Nat.lcm (Nat.gcd d a) (Nat.gcd d b):=by
 have hg:0<Nat.gcd (Nat.gcd d a) (Nat.gcd d b):=Nat.gcd_pos_of_pos_left _ (Nat.gcd_pos_of_pos_left _ hd0);have e1:Nat.gcd (Nat.gcd d a) (Nat.gcd d b)*Nat.lcm (Nat.gcd d a) (Nat.gcd d b)=Nat.gcd d a*Nat.gcd d b:=Nat.gcd_mul_lcm _ _;refine Nat.dvd_of_mul_dvd_mul_left hg ?_;rw [e1];have g1:Nat.gcd (Nat.gcd d a) (Nat.gcd d b)∣d:=Nat.dvd_trans (Nat.gcd_dvd_left _ _) (Nat.gcd_dvd_left _ _);have g2:Nat.gcd (Nat.gcd d a) (Nat.gcd d b)∣a:=Nat.dvd_trans (Nat.gcd_dvd_left _ _) (Nat.gcd_dvd_right _ _);have g3:Nat.gcd (Nat.gcd d a) (Nat.gcd d b)∣b:=Nat.dvd_trans (Nat.gcd_dvd_right _ _) (Nat.gcd_dvd_right _ _);generalize Nat.gcd (Nat.gcd d a) (Nat.gcd d b)=g at *;rw [<- Nat.gcd_mul_left];refine Nat.dvd_gcd ?_ ?_
 ·rw [Nat.mul_comm (Nat.gcd d a),Nat.mul_comm g];exact Nat.mul_dvd_mul_left _ (Nat.dvd_gcd g1 g2)
 ·rw [<- Nat.gcd_mul_right];refine Nat.dvd_gcd ?_ ?_
  ·rw [Nat.mul_comm g];exact Nat.mul_dvd_mul_left _ g3
  ·have h:=Nat.mul_dvd_mul (Nat.dvd_gcd g2 g3) hd;rwa [Nat.gcd_mul_lcm] at h
def lcmL (l:List Nat):Nat:=l.foldr Nat.lcm 1
theorem io_:∀ {l:List Nat},(∀ a∈l,0<a)->0<lcmL l
 | [],_=>by decide
 | a :: l,h=>Nat.lcm_pos (h a sq_) (io_ fun b hb=>h b (by simp [hb]))
theorem in_:∀ {l:List Nat} {a:Nat},a∈l->a∣lcmL l
 | b :: l,a,h=>by
  rcases List.mem_cons.1 h with rfl|h
  ·exact Nat.dvd_lcm_left _ _
  ·exact Nat.dvd_trans (in_ h) (Nat.dvd_lcm_right _ _)
theorem gv_ {m z:Nat} (hm:0<m):∀ {l:List Nat},(∀ a∈l,Nat.gcd m a∣z)->Nat.gcd m (lcmL l)∣z
 | [],_=>by simp [lcmL]
 | a :: l,h=>by
  have ih:=gv_ hm (l:=l) fun b hb=>h b (by simp [hb]);have ha:=h a sq_;have hd0:0<Nat.gcd m (lcmL (a :: l)):=Nat.gcd_pos_of_pos_left _ hm;have hd:Nat.gcd m (lcmL (a :: l))∣Nat.lcm a (lcmL l):=Nat.gcd_dvd_right _ _;have hdm:Nat.gcd m (lcmL (a :: l))∣m:=Nat.gcd_dvd_left _ _;generalize Nat.gcd m (lcmL (a :: l))=d at *;refine Nat.dvd_trans (nh_ hd0 hd) (Nat.lcm_dvd (Nat.dvd_trans ?_ ha) (Nat.dvd_trans ?_ ih))
  ·exact Nat.dvd_gcd (Nat.dvd_trans (Nat.gcd_dvd_left _ _) hdm) (Nat.gcd_dvd_right _ _)
  ·exact Nat.dvd_gcd (Nat.dvd_trans (Nat.gcd_dvd_left _ _) hdm) (Nat.gcd_dvd_right _ _)
theorem ax_ {m:Int} (h:x % m=y % m):m∣x-y:=Int.dvd_of_emod_eq_zero (Int.emod_eq_emod_iff_emod_sub_eq_zero.1 h)
theorem ay_ {m:Int} (h:m∣x-y):x % m=y % m:=Int.emod_eq_emod_iff_emod_sub_eq_zero.2 (Int.emod_eq_zero_of_dvd h)
theorem m4_:∀ (l:List (Int × Int)),(∀ x∈l,1≤x.1)->l.Pairwise (fun x y=>((Int.gcd x.1 y.1:Nat):Int)∣x.2-y.2)->∃ n:Int,∀ x∈l,n % x.1=x.2 % x.1
 | [],_,_=>⟨0,sq_⟩
 | (m,r) :: l,h,hp=>by
  obtain ⟨n,hn⟩:=m4_ l (fun x hx=>h x (by simp [hx])) (List.pairwise_cons.1 hp).2;have hm:1≤m:=h (m,r) sq_;have hL:0<lcmL (l.map fun x=>x.1.natAbs):=io_ fun a ha=>by
   obtain ⟨x,hx,rfl⟩:=List.mem_map.1 ha;have:=h x (by simp [hx]);omega
  have key:Nat.gcd m.natAbs (lcmL (l.map fun x=>x.1.natAbs))∣(r-n).natAbs:=gv_ oq_ fun a ha=>by
   obtain ⟨x,hx,rfl⟩:=List.mem_map.1 ha;have h1:((Int.gcd m x.1:Nat):Int)∣r-x.2:=(List.pairwise_cons.1 hp).1 x hx;have h2:x.1∣n-x.2:=ax_ (hn x hx);have h3:((Int.gcd m x.1:Nat):Int)∣n-x.2:=Int.dvd_trans (Int.gcd_dvd_right _ _) h2;have h4:((Int.gcd m x.1:Nat):Int)∣r-n:=by
    have:=Int.dvd_sub h1 h3;rwa [show r-x.2-(n-x.2)=r-n from by omega] at this
   exact Int.natCast_dvd_natCast.1 (Int.dvd_natAbs.2 h4)
  have key2:r % (Int.gcd m (lcmL (l.map fun x=>x.1.natAbs)):Nat)=n % (Int.gcd m (lcmL (l.map fun x=>x.1.natAbs)):Nat):=ay_ (Int.dvd_natAbs.1 (Int.natCast_dvd_natCast.2 (by simpa [Int.gcd] using key)));obtain ⟨v,hv⟩:∃ v,ew_ r m n (lcmL (l.map fun x=>x.1.natAbs)) v:=⟨_,h1_ hm oq_ key2⟩;refine ⟨v,fun x hx=>?_⟩;rcases List.mem_cons.1 hx with rfl|hx
  ·exact hv.2.2.1
  ·rw [<- hn x hx];have h5:((lcmL (l.map fun x=>x.1.natAbs):Nat):Int)∣v-n:=ax_ hv.2.2.2;have h6:x.1∣((lcmL (l.map fun x=>x.1.natAbs):Nat):Int):=by
    have h7:x.1.natAbs∣lcmL (l.map fun x=>x.1.natAbs):=in_ (List.mem_map.2 ⟨x,hx,rfl⟩);exact Int.natAbs_dvd.1 (Int.natCast_dvd_natCast.2 h7)
   exact ay_ (Int.dvd_trans h6 h5)
def tmem (t:List Per) (n:Int):Prop:=∀ p∈t,p.mem n
def mmem (m:List (List Per)) (n:Int):Prop:=∃ t∈m,tmem t n
def bb_ (a:Int) (t:List Per):Int:=t.foldl (fun a p=>max a p.frm) a
def as_ (t:List Per):Int:=bb_ 0 t
theorem l1_:∀ (t:List Per) (a:Int),a≤bb_ a t∧∀ p∈t,p.frm≤bb_ a t
 | [],a=>⟨Int.le_refl _,sq_⟩
 | q :: t,a=>by
  obtain ⟨h1,h2⟩:=l1_ t (max a q.frm);refine ⟨by show a≤bb_ (max a q.frm) t;omega,fun p hp=>?_⟩;show p.frm≤bb_ (max a q.frm) t;rcases List.mem_cons.1 hp with rfl|hp
  ·omega
  ·exact h2 p hp
theorem h9_:∀ (t:List Per) (a:Int),bb_ a t=a∨∃ p∈t,bb_ a t=p.frm
 | [],a=>.inl rfl
 | q :: t,a=>by
  rcases h9_ t (max a q.frm) with h|⟨p,hp,h⟩
  ·by_cases hq:q.frm≤a
   ·left;show bb_ (max a q.frm) t=a;omega
   ·right;exact ⟨q,sq_,by show bb_ (max a q.frm) t=q.frm;omega⟩
  ·exact .inr ⟨p,by simp [hp],h⟩
theorem e5_:0≤as_ t∧∀ p∈t,p.frm≤as_ t:=l1_ t 0
theorem l2_ (h0:a≤b) (h:∀ p∈t,p.frm≤b):bb_ a t≤b:=by
 rcases h9_ t a with h1|⟨p,hp,h1⟩
 ·omega
 ·have:=h p hp;omega
def resP (p:Per) (c:Int):Int:=(p.frm % p.period+c) % p.period
theorem g8_ (h:p.WF) {n:Int} (hn:p.frm≤n):p.mem n↔∃ c∈p.cycle,n % p.period=resP p c:=by
 have h0:=h.frm;have h1:=h.per;rw [Per.mem_hi oq_ hn];constructor
 ·intro hm;refine ⟨_,hm,?_⟩;unfold resP;rw [<- Int.add_emod,show p.frm+(n-p.frm)=n from by omega]
 ·rintro ⟨c,hc,he⟩;have hb:=h.cyc.2 c hc;unfold resP at he;rw [show (p.frm % p.period+c) % p.period=(p.frm+c) % p.period from by rw [Int.add_emod,Int.emod_emod,<- Int.add_emod]] at he;have hd:(n-p.frm) % p.period=c:=by
   have h2:p.period∣n-(p.frm+c):=ax_ he;have h3:(n-p.frm) % p.period=c % p.period:=ay_ (by rw [show n-p.frm-c=n-(p.frm+c) from by omega];exact h2);rw [h3,Int.emod_eq_of_lt hb.1 hb.2]
  rw [hd];exact hc
theorem hr_ (h:p.WF) (c:Int):0≤resP p c∧resP p c<p.period:=
 ⟨Int.emod_nonneg _ (by have:=h.per;omega),Int.emod_lt_of_pos _ (by have:=h.per;omega)⟩
def iy_ (done:List (Int × Int)) (P r:Int):Prop:=∀ x∈done,(r-x.2) % ((Int.gcd P x.1:Nat):Int)=0
def Ext:List (Int × Int)->List Per->Prop
 | _,[]=>True
 | done,p :: t=>∃ c∈p.cycle,iy_ done p.period (resP p c)∧Ext (done ++ [(p.period,resP p c)]) t
theorem rn_ {n:Int}:∀ (t:List Per) (done:List (Int × Int)),(∀ x∈done,x.2=n % x.1)->(∀ p∈t,p.WF∧p.frm≤n∧p.mem n)->Ext done t
 | [],_,_,_=>trivial
 | p :: t,done,hd,ht=>by
  obtain ⟨hw,hf,hm⟩:=ht p sq_;obtain ⟨c,hc,he⟩:=(g8_ hw hf).1 hm;refine ⟨c,hc,fun x hx=>?_,rn_ t _ (fun x hx=>?_) (fun q hq=>ht q (by simp [hq]))⟩
  ·rw [hd x hx,<- he];have h1:((Int.gcd p.period x.1:Nat):Int)∣n % p.period-n:=by
    have:=Int.emod_add_mul_ediv n p.period;refine Int.dvd_trans (Int.gcd_dvd_left _ _) ⟨-(n / p.period),?_⟩;rw [Int.mul_neg];omega
   have h2:((Int.gcd p.period x.1:Nat):Int)∣n % x.1-n:=by
    have:=Int.emod_add_mul_ediv n x.1;refine Int.dvd_trans (Int.gcd_dvd_right _ _) ⟨-(n / x.1),?_⟩;rw [Int.mul_neg];omega
   have:=Int.dvd_sub h1 h2;exact Int.emod_eq_zero_of_dvd (by rwa [show n % p.period-n-(n % x.1-n)=n % p.period-n % x.1 from by omega] at this)
  ·rcases List.mem_append.1 hx with hx|hx
   ·exact hd x hx
   ·obtain rfl:x=(p.period,resP p c):=by simpa using hx
    exact he.symm
theorem si_:∀ (t:List Per) (done:List (Int × Int)),Ext done t->done.Pairwise (fun x y=>((Int.gcd x.1 y.1:Nat):Int)∣x.2-y.2)->(∀ x∈done,1≤x.1)->(∀ p∈t,1≤p.period)->
  ∃ L:List (Int × Int),L.Pairwise (fun x y=>((Int.gcd x.1 y.1:Nat):Int)∣x.2-y.2)∧(∀ x∈L,1≤x.1)∧(∀ x∈done,x∈L)∧∀ p∈t,∃ c∈p.cycle,(p.period,resP p c)∈L
 | [],done,_,hp,h1,_=>⟨done,hp,h1,fun x hx=>hx,sq_⟩
 | p :: t,done,⟨c,hc,ha,he⟩,hp,h1,h2=>by
  obtain ⟨L,l1,l2,l3,l4⟩:=si_ t _ he (List.pairwise_append.2 ⟨hp,List.pairwise_singleton _ _,fun x hx y hy=>by
   obtain rfl:y=(p.period,resP p c):=by simpa using hy
   have h3:=Int.dvd_of_emod_eq_zero (ha x hx);rw [Int.gcd_comm];have h4:=Int.dvd_neg.2 h3;rwa [show -(resP p c-x.2)=x.2-resP p c from by omega] at h4⟩) (fun x hx=>by
   rcases List.mem_append.1 hx with hx|hx
   ·exact h1 x hx
   ·obtain rfl:x=(p.period,resP p c):=by simpa using hx
    exact h2 p sq_) (fun q hq=>h2 q (by simp [hq]))
  refine ⟨L,l1,l2,fun x hx=>l3 x (by simp [hx]),fun q hq=>?_⟩;rcases List.mem_cons.1 hq with rfl|hq
  ·exact ⟨c,hc,l3 _ sq_⟩
  ·exact l4 q hq
def recT (t:List Per):Prop:=∃ n,as_ t≤n∧tmem t n
theorem oy_ (hw:∀ p∈t,p.WF):Ext [] t↔recT t:=by
 constructor
 ·intro h;obtain ⟨L,l1,l2,_,l4⟩:=si_ t [] h List.Pairwise.nil sq_ (fun p hp=>(hw p hp).per);obtain ⟨n,hn⟩:=m4_ L l2 l1;have hL:0<lcmL (L.map fun x=>x.1.natAbs):=io_ fun a ha=>by
   obtain ⟨x,hx,rfl⟩:=List.mem_map.1 ha;have:=l2 x hx;omega
  obtain ⟨k,hk,_⟩:=la_ (lcmL (L.map fun x=>x.1.natAbs)) (as_ t-n) oq_;refine ⟨n+k*(lcmL (L.map fun x=>x.1.natAbs):Nat),oq_,fun p hp=>?_⟩;have hs:=(e5_ (t:=t)).2 p hp;obtain ⟨c,hc,hm⟩:=l4 p hp;refine (g8_ (hw p hp) oq_).2 ⟨c,hc,?_⟩;have h1:=hn _ hm;have h2:p.period∣((lcmL (L.map fun x=>x.1.natAbs):Nat):Int):=by
   have h7:p.period.natAbs∣lcmL (L.map fun x=>x.1.natAbs):=in_ (List.mem_map.2 ⟨_,hm,rfl⟩);exact Int.natAbs_dvd.1 (Int.natCast_dvd_natCast.2 h7)
  have h3:=hr_ (hw p hp) c;rw [Int.emod_eq_of_lt h3.1 h3.2] at h1;rw [<- h1];exact ay_ (by rw [show n+(k:Int)*(lcmL (L.map fun x=>x.1.natAbs):Nat)-n=k*(lcmL (L.map fun x=>x.1.natAbs):Nat) from by omega];exact Int.dvd_trans h2 (Int.dvd_mul_left _ _))
 ·rintro ⟨n,h1,h2⟩;exact rn_ t [] sq_ fun p hp=>⟨hw p hp,by have:=(e5_ (t:=t)).2 p hp;omega,h2 p hp⟩
theorem o2_ (hne:t≠[]) {n:Int} (h:tmem t n):0≤n:=by
 cases t with
 | nil=>exact absurd rfl hne
 | cons p t=>exact (h p sq_).1
theorem ph_ (hne:t≠[]) {n:Int} (h:tmem t n) (hn:n<as_ t):∃ p∈t,n∈p.head:=by
 have h0:=o2_ hne h;rcases h9_ t 0 with h1|⟨p,hp,h1⟩
 ·have:as_ t=0:=h1;omega
 ·have h2:as_ t=p.frm:=h1;exact ⟨p,hp,(Per.mem_lo h0 oq_).1 (h p hp)⟩
theorem pr_ (hw:∀ p∈t,p.WF) (hp:p∈t) {n:Int} (h:n∈p.head):n<as_ t:=by
 have h1:=(hw p hp).head.2 n h;have h2:=(e5_ (t:=t)).2 p hp;omega
def k1_ (t:List Per):Prop:=∀ n,¬ tmem t n
instance:Inhabited Per:=⟨⟨[],0,0,[]⟩⟩
noncomputable def gt_ (S:Int->Prop):Per:=Classical.epsilon fun c=>jx_ c S
structure Fac (s:Int) (p:Per):Prop where
 wf:p.WF
 low:∀ n,p.mem n->s≤n
 frm:p.frm≤s+9
 dvd:p.period∣27720
theorem Fac.per (h:Fac s p):p.period≤27720:=Int.le_of_dvd dq_ h.dvd
noncomputable def andP (p q:Per):Per:=gt_ fun n=>p.mem n∧q.mem n
noncomputable def orP (p q:Per):Per:=gt_ fun n=>p.mem n∨q.mem n
structure gl_ (P:Nat->Nat->Prop) (n i j:Nat):Prop where
 lt:i<j
 lim:j<n
 is:P i j
 rows:∀ i' j',i'<i->i'<j'->j'<n->¬ P i' j'
 row:∀ j',i<j'->j'<j->¬ P i j'
def lt_ (P:Nat->Nat->Prop) (n:Nat):Prop:=∀ i j,i<j->j<n->¬ P i j
def divB (p q:Per):Bool:=p.period % q.period == 0 || q.period % p.period == 0
def pf_ (t:List Per) (i j:Nat):Prop:=divB (t.getD i default) (t.getD j default)=true
noncomputable def ho_ (t:List Per) (i j:Nat):List Per:=(t.set i (andP (t.getD i default) (t.getD j default))).eraseIdx j
inductive fb_:List Per->List Per->Prop
 | done {t:List Per} (h:lt_ (pf_ t) t.length):fb_ t t
 | step {t u:List Per} {i j:Nat} (h:gl_ (pf_ t) t.length i j) (hu:fb_ (ho_ t i j) u):fb_ t u
theorem k7_ (h:j<t.length):(ho_ t i j).length=t.length-1:=by
 unfold ho_;rw [List.length_eraseIdx,List.length_set,if_pos h]
def vr_ (s:Int) (t:List Per):Prop:=t≠[]∧∀ p∈t,Fac s p
def ls_ (t u:List Per):Prop:=fb_ (t.map fun p=>gt_ p.mem) u
inductive cy_:List (List Per)->List (List Per)->Prop
 | nil:cy_ [] []
 | skip {t u:List Per} {L l:List (List Per)} (h:ls_ t u) (hb:k1_ u) (hl:cy_ L l):cy_ (t :: L) l
 | keep {t u:List Per} {L l:List (List Per)} (h:ls_ t u) (hb:¬ k1_ u) (hl:cy_ L l):cy_ (t :: L) (u :: l)
theorem mn_ {n:Int}:¬ mmem [] n:=by unfold mmem;simp
theorem no_ {L M:List (List Per)} {n:Int}:mmem (L ++ M) n↔mmem L n∨mmem M n:=by
 unfold mmem;constructor
 ·rintro ⟨t,ht,h⟩;rcases List.mem_append.1 ht with ht|ht
  ·exact .inl ⟨t,ht,h⟩
  ·exact .inr ⟨t,ht,h⟩
 ·rintro (⟨t,ht,h⟩|⟨t,ht,h⟩)
  ·exact ⟨t,List.mem_append_left _ ht,h⟩
  ·exact ⟨t,List.mem_append_right _ ht,h⟩
def im_ (l:List (List Per)) (i j:Nat):Prop:=(l.getD i []).length=1∧(l.getD j []).length=1∧divB ((l.getD i []).getD 0 default) ((l.getD j []).getD 0 default)=true
noncomputable def me_ (l:List (List Per)) (i j:Nat):List (List Per):=(l.set i [orP ((l.getD i []).getD 0 default) ((l.getD j []).getD 0 default)]).eraseIdx j
inductive gm_:List (List Per)->List (List Per)->Prop
 | done {l:List (List Per)} (h:lt_ (im_ l) l.length):gm_ l l
 | step {l m:List (List Per)} {i j:Nat} (h:gl_ (im_ l) l.length i j) (hm:gm_ (me_ l i j) m):gm_ l m
open Classical in
noncomputable def dd1 (out:List (List Per)) (t:List Per):List (List Per):=if t∈out then out else out ++ [t]
noncomputable def ddL (out l:List (List Per)):List (List Per):=l.foldl dd1 out
def xe_ (L m:List (List Per)):Prop:=∃ l k,cy_ L l∧gm_ l k∧m=ddL [] k
def lu_ (m:List (List Per)):Prop:=m.length≤64∧∀ t∈m,t.length≤4
def ap_ (F:Int) (S:Int->Prop) (f n:Int) (b:Bool):Prop:=(b=true∧f≤n∧n≤F∧S n∧∀ x,f≤x->x<n->¬ S x)∨(b=false∧n=0∧∀ x,f≤x->x≤F->¬ S x)
theorem ap_.unique {f n m:Int} {S:Int->Prop} {b c:Bool} (h:ap_ F S f n b) (g:ap_ F S f m c):n=m∧b=c:=by
 rcases h with ⟨rfl,h1,h2,h3,h4⟩|⟨rfl,rfl,h1⟩ <;> rcases g with ⟨rfl,g1,g2,g3,g4⟩|⟨rfl,rfl,g1⟩
 ·refine ⟨?_,rfl⟩;rcases Int.lt_trichotomy n m with h|h|h
  ·exact absurd h3 (g4 n h1 h)
  ·exact h
  ·exact absurd g3 (h4 m g1 h)
 ·exact absurd h3 (g1 n h1 h2)
 ·exact absurd g3 (h1 m g1 g2)
 ·exact ⟨rfl,rfl⟩
theorem ap_.congr {f n:Int} {S T:Int->Prop} {b:Bool} (h:ap_ F S f n b) (hs:∀ x,f≤x->x≤F->(T x↔S x)):ap_ F T f n b:=by
 rcases h with ⟨rfl,h1,h2,h3,h4⟩|⟨rfl,rfl,h1⟩
 ·exact .inl ⟨rfl,h1,h2,(hs n h1 h2).2 h3,fun x a c=>by rw [hs x a oq_];exact h4 x a c⟩
 ·exact .inr ⟨rfl,rfl,fun x a c=>by rw [hs x a c];exact h1 x a c⟩
theorem ut_ (F f:Int) (S:Int->Prop):∃ n b,ap_ F S f n b:=by
 by_cases h:∃ x,f≤x∧x≤F∧S x
 ·obtain ⟨x,h1,h2,h3⟩:=h;have key:∀ k:Nat,∀ x,(x-f).toNat=k->f≤x->x≤F->S x->∃ n,f≤n∧n≤F∧S n∧∀ y,f≤y->y<n->¬ S y:=by
   intro k;induction k using Nat.strongRecOn with
   | _ k ih=>
    intro x hk a1 a2 a3;by_cases hy:∃ y,f≤y∧y<x∧S y
    ·obtain ⟨y,b1,b2,b3⟩:=hy;exact ih _ oq_ y rfl b1 oq_ b3
    ·exact ⟨x,a1,a2,a3,fun y c1 c2 c3=>hy ⟨y,c1,c2,c3⟩⟩
  obtain ⟨n,g1,g2,g3,g4⟩:=key _ x rfl h1 h2 h3;exact ⟨n,true,.inl ⟨rfl,g1,g2,g3,g4⟩⟩
 ·exact ⟨0,false,.inr ⟨rfl,rfl,fun x a b c=>h ⟨x,a,b,c⟩⟩⟩
def bc_ (S:Int->Prop) (f n:Int) (b:Bool):Prop:=(b=true∧f≤n∧S n∧∀ x,f≤x->x<n->¬ S x)∨(b=false∧n=0∧∀ x,f≤x->¬ S x)
theorem bc_.start {f:Int}:bc_ (fun _=>False) f 0 false:=.inr ⟨rfl,rfl,fun _ _ h=>h⟩
theorem bc_.congr {f n:Int} {S T:Int->Prop} {b:Bool} (h:bc_ S f n b) (hs:∀ x,f≤x->(T x↔S x)):bc_ T f n b:=by
 rcases h with ⟨rfl,h1,h3,h4⟩|⟨rfl,rfl,h1⟩
 ·exact .inl ⟨rfl,h1,(hs n h1).2 h3,fun x a c=>by rw [hs x a];exact h4 x a c⟩
 ·exact .inr ⟨rfl,rfl,fun x a=>by rw [hs x a];exact h1 x a⟩
theorem bc_.take {f n:Int} {S:Int->Prop} {b:Bool} (h:bc_ S f n b) (h1:f≤d) (h2:b=false∨d<n):bc_ (fun x=>S x∨x=d) f d true:=by
 refine .inl ⟨rfl,h1,.inr rfl,fun x a c e=>?_⟩;rcases e with e|rfl
 ·rcases h with ⟨rfl,g1,g2,g3⟩|⟨rfl,rfl,g1⟩
  ·rcases h2 with h2|h2
   ·cases h2
   ·exact g3 x a oq_ e
  ·exact g1 x a e
 ·omega
theorem bc_.pass {f n:Int} {S:Int->Prop} {b:Bool} (h:bc_ S f n b) (h1:¬ (f≤d∧(b=false∨d<n))):bc_ (fun x=>S x∨x=d) f n b:=by
 rcases h with ⟨rfl,g1,g2,g3⟩|⟨rfl,rfl,g1⟩
 ·refine .inl ⟨rfl,g1,.inl g2,fun x a c e=>?_⟩;rcases e with e|rfl
  ·exact g3 x a c e
  ·exact h1 ⟨a,.inr c⟩
 ·refine .inr ⟨rfl,rfl,fun x a e=>?_⟩;rcases e with e|rfl
  ·exact g1 x a e
  ·exact h1 ⟨a,.inl rfl⟩
def cf_ (t:List Per) (i k:Nat) (x:Int):Prop:=tmem t x∧((∃ p∈t.take i,x∈p.head)∨x∈((t.getD i default).head.take k))
theorem pq_:cf_ t 0 0 x↔False:=by simp [cf_]
theorem rz_ (hi:i<t.length):cf_ t (i+1) 0 x↔cf_ t i (t.getD i default).head.length x:=by
 unfold cf_;have e:t.getD i default=t[i]:=by rw [List.getD_eq_getElem?_getD,List.getElem?_eq_getElem hi];rfl
 rw [List.take_succ_eq_append_getElem hi,List.take_length,e];constructor
 ·rintro ⟨h1,⟨p,hp,hx⟩|hx⟩
  ·rcases List.mem_append.1 hp with hp|hp
   ·exact ⟨h1,.inl ⟨p,hp,hx⟩⟩
   ·obtain rfl:p=t[i]:=by simpa using hp
    exact ⟨h1,.inr hx⟩
  ·simp at hx
 ·rintro ⟨h1,⟨p,hp,hx⟩|hx⟩
  ·exact ⟨h1,.inl ⟨p,List.mem_append_left _ hp,hx⟩⟩
  ·exact ⟨h1,.inl ⟨t[i],List.mem_append_right _ sq_,hx⟩⟩
theorem pp_ (hk:k<(t.getD i default).head.length):cf_ t i (k+1) x↔cf_ t i k x∨(x=(t.getD i default).head.getD k 0∧tmem t x):=by
 unfold cf_;rw [List.take_succ_eq_append_getElem hk,List.mem_append];have e:(t.getD i default).head.getD k 0=(t.getD i default).head[k]:=by rw [List.getD_eq_getElem?_getD,List.getElem?_eq_getElem hk];rfl
 rw [e];simp only [List.mem_singleton];constructor
 ·rintro ⟨h1,h2|h2|h2⟩
  ·exact .inl ⟨h1,.inl h2⟩
  ·exact .inl ⟨h1,.inr h2⟩
  ·exact .inr ⟨h2,h1⟩
 ·rintro (⟨h1,h2|h2⟩|⟨h1,h2⟩)
  ·exact ⟨h1,.inl h2⟩
  ·exact ⟨h1,.inr (.inl h2)⟩
  ·exact ⟨h2,.inr (.inr h1)⟩
theorem ry_ (hne:t≠[]) (hw:∀ p∈t,p.WF):cf_ t t.length 0 x↔tmem t x∧x<as_ t:=by
 unfold cf_;rw [List.take_length];constructor
 ·rintro ⟨h1,⟨p,hp,hx⟩|h2⟩
  ·exact ⟨h1,pr_ hw hp hx⟩
  ·simp at h2
 ·rintro ⟨h1,h2⟩;exact ⟨h1,.inl (ph_ hne h1 h2)⟩
def oe_ (t:List Per) (f n:Int) (b:Bool):Prop:=bc_ (fun x=>tmem t x∧x<as_ t) f n b
def ClsS (t:List Per) (at_ step x:Int):Prop:=x % step=at_∧∀ p∈t,∃ c∈p.cycle,x % p.period=resP p c
def bj_ (F:Int) (S:Int->Prop) (f n:Int) (b:Bool):Prop:=(b=true∧f≤n∧n≤F∧S n∧∀ x,f≤x->x<n->¬ S x)∨(b=false∧n=F∧∀ x,f≤x->x≤F->¬ S x)
theorem bj_.start {f:Int}:bj_ F (fun _=>False) f F false:=.inr ⟨rfl,rfl,fun _ _ _ h=>h⟩
theorem bj_.le {f n:Int} {S:Int->Prop} {b:Bool} (h:bj_ F S f n b):n≤F:=by
 rcases h with ⟨_,_,h,_⟩|⟨_,h,_⟩ <;> omega
theorem bj_.congr {f n:Int} {S T:Int->Prop} {b:Bool} (h:bj_ F S f n b) (hs:∀ x,f≤x->(T x↔S x)):bj_ F T f n b:=by
 rcases h with ⟨rfl,h1,h2,h3,h4⟩|⟨rfl,rfl,h1⟩
 ·exact .inl ⟨rfl,h1,h2,(hs n h1).2 h3,fun x a c=>by rw [hs x a];exact h4 x a c⟩
 ·exact .inr ⟨rfl,rfl,fun x a c=>by rw [hs x a];exact h1 x a c⟩
theorem bj_.next {f n:Int} {S:Int->Prop} {b:Bool} (h:bj_ F S f n b):ap_ F S f (if b=true then n else 0) b:=by
 rcases h with ⟨rfl,h1,h2,h3,h4⟩|⟨rfl,rfl,h1⟩
 ·exact .inl ⟨rfl,h1,h2,h3,h4⟩
 ·exact .inr ⟨rfl,rfl,h1⟩
def upTo (f at_ step:Int):Int:=if at_<f then at_+(f-at_+step-1) / step*step else at_
theorem xa_ {f step:Int} (hs:1≤step) (h0:0≤at_) (h1:at_<step) (hf:0≤f):f≤upTo f at_ step∧upTo f at_ step<f+step∧upTo f at_ step % step=at_∧(∀ x,f≤x->x % step=at_->upTo f at_ step≤x):=by
 have key:f≤upTo f at_ step∧upTo f at_ step<f+step∧upTo f at_ step % step=at_:=by
  unfold upTo
  split
  ·rename_i h;have e:=Int.emod_add_mul_ediv (f-at_+step-1) step;have e0:=Int.emod_nonneg (f-at_+step-1) (show step≠0 by omega);have e1:=Int.emod_lt_of_pos (f-at_+step-1) (show 0<step by omega);rw [Int.mul_comm step] at e;refine ⟨oq_,oq_,?_⟩;rw [Int.add_mul_emod_self_right,Int.emod_eq_of_lt h0 h1]
  ·exact ⟨oq_,oq_,Int.emod_eq_of_lt h0 h1⟩
 refine ⟨key.1,key.2.1,key.2.2,fun x hx he=>?_⟩;obtain ⟨k1,k2,k3⟩:=key;generalize upTo f at_ step=u at *;rcases Int.lt_or_le x u with h|h
 ·have hd:step∣u-x:=ax_ (k3.trans he.symm);have:=Int.le_of_dvd oq_ hd;omega
 ·exact h
theorem bj_.leaf {f n step:Int} {S:Int->Prop} {b:Bool} (h:bj_ F S f n b) (hs:1≤step) (h0:0≤at_) (h1:at_<step) (hf:0≤f) :
  (upTo f at_ step≤n->bj_ F (fun x=>S x∨x % step=at_) f (upTo f at_ step) true)∧(n<upTo f at_ step->bj_ F (fun x=>S x∨x % step=at_) f n b):=by
 obtain ⟨k1,k2,k3,k4⟩:=xa_ hs h0 h1 hf;have hle:=h.le;generalize upTo f at_ step=u at *;constructor
 ·intro hu;refine .inl ⟨rfl,k1,oq_,.inr k3,fun x a c e=>?_⟩;rcases e with e|e
  ·rcases h with ⟨_,g1,g2,g3,g4⟩|⟨_,rfl,g1⟩
   ·exact g4 x a oq_ e
   ·exact g1 x a oq_ e
  ·have:=k4 x a e;omega
 ·intro hu;rcases h with ⟨rfl,g1,g2,g3,g4⟩|⟨rfl,rfl,g1⟩
  ·refine .inl ⟨rfl,g1,g2,.inl g3,fun x a c e=>?_⟩;rcases e with e|e
   ·exact g4 x a c e
   ·have:=k4 x a e;omega
  ·refine .inr ⟨rfl,rfl,fun x a c e=>?_⟩;rcases e with e|e
   ·exact g1 x a c e
   ·have:=k4 x a e;omega
def bn_ (at_ step r P:Int) (a2 s2:Int) (b:Bool):Prop:=(b=true∧s2=lcmI step P∧ew_ at_ step r P a2)∨(b=false∧a2=0∧s2=0∧∀ x,¬ (x % step=at_ % step∧x % P=r % P))
theorem r7_ {step:Int}:ClsS (p :: t) at_ step x↔∃ c∈p.cycle,x % p.period=resP p c∧ClsS t at_ step x:=by
 unfold ClsS;constructor
 ·rintro ⟨h1,h2⟩;obtain ⟨c,hc,he⟩:=h2 p sq_;exact ⟨c,hc,he,h1,fun q hq=>h2 q (by simp [hq])⟩
 ·rintro ⟨c,hc,he,h1,h2⟩;refine ⟨h1,fun q hq=>?_⟩;rcases List.mem_cons.1 hq with rfl|hq
  ·exact ⟨c,hc,he⟩
  ·exact h2 q hq
theorem bn_.cls (hw:p.WF) {step a2 s2 c:Int} {b:Bool} (hs:1≤step) (h0:0≤at_) (h1:at_<step) (h:bn_ at_ step (resP p c) p.period a2 s2 b) (x:Int) :
  (x % p.period=resP p c∧ClsS t at_ step x)↔b=true∧ClsS t a2 s2 x:=by
 have hr:=hr_ hw c;have er:=Int.emod_eq_of_lt hr.1 hr.2;have ea:=Int.emod_eq_of_lt h0 h1;have hP:=hw.per;rcases h with ⟨rfl,rfl,hsol⟩|⟨rfl,rfl,rfl,hno⟩
 ·have hc:=hz_ (x:=x) hs hP hsol;rw [er,ea] at hc;unfold ClsS;constructor
  ·rintro ⟨g1,g2,g3⟩;exact ⟨rfl,hc.1 ⟨g2,g1⟩,g3⟩
  ·rintro ⟨_,g2,g3⟩;obtain ⟨k1,k2⟩:=hc.2 g2;exact ⟨k2,k1,g3⟩
 ·refine ⟨fun ⟨g1,g2,_⟩=>absurd ?_ (hno x),fun h=>by cases h.1⟩;rw [er,ea];exact ⟨g2,g1⟩
theorem pe_ (hw:∀ p∈t,p.WF) (hx:as_ t≤x):ClsS t 0 1 x↔tmem t x:=by
 unfold ClsS tmem;have hs:=(e5_ (t:=t)).2;constructor
 ·rintro ⟨_,h⟩ p hp;exact (g8_ (hw p hp) (by have:=hs p hp;omega)).2 (h p hp)
 ·intro h;exact ⟨oq_,fun p hp=>(g8_ (hw p hp) (by have:=hs p hp;omega)).1 (h p hp)⟩
theorem t9_ {f:Int} (hne:t≠[]) (hw:∀ p∈t,p.WF) (hF:as_ t≤F) {n:Int} {b:Bool} (h:oe_ t f n b) :
  (b=true->ap_ F (tmem t) f n true)∧(b=false->(F<f∨¬ recT t)->ap_ F (tmem t) f 0 false)∧(b=false->∀ m c,ap_ F (tmem t) (max f (as_ t)) m c->ap_ F (tmem t) f m c):=by
 refine ⟨fun hb=>?_,fun hb hno=>?_,fun hb m c hm=>?_⟩
 ·subst hb;rcases h with ⟨_,h1,h2,h3⟩|⟨h,_⟩
  ·exact .inl ⟨rfl,h1,oq_,h2.1,fun x a c e=>h3 x a c ⟨e,oq_⟩⟩
  ·cases h
 ·subst hb;rcases h with ⟨h,_⟩|⟨_,_,h1⟩
  ·cases h
  ·refine .inr ⟨rfl,rfl,fun x a c e=>?_⟩;by_cases hx:x<as_ t
   ·exact h1 x a ⟨e,hx⟩
   ·rcases hno with h2|h2
    ·omega
    ·exact h2 ⟨x,oq_,e⟩
 ·subst hb;rcases h with ⟨h,_⟩|⟨_,_,h1⟩
  ·cases h
  ·have low:∀ x,f≤x->x<max f (as_ t)->¬ tmem t x:=fun x a c e=>h1 x a ⟨e,oq_⟩;rcases hm with ⟨rfl,g1,g2,g3,g4⟩|⟨rfl,rfl,g1⟩
   ·refine .inl ⟨rfl,oq_,g2,g3,fun x a c=>?_⟩;by_cases hx:x<max f (as_ t)
    ·exact low x a hx
    ·exact g4 x oq_ c
   ·refine .inr ⟨rfl,rfl,fun x a c=>?_⟩;by_cases hx:x<max f (as_ t)
    ·exact low x a hx
    ·exact g1 x oq_ c
theorem jf_ {f n m:Int} {S T:Int->Prop} {b c:Bool} (h:ap_ F S f n b) (g:ap_ F T f m c) :
  ap_ F (fun x=>S x∨T x) f (if c=true∧(b=false∨m<n) then m else n) (b || c):=by
 rcases h with ⟨rfl,h1,h2,h3,h4⟩|⟨rfl,rfl,h1⟩ <;> rcases g with ⟨rfl,g1,g2,g3,g4⟩|⟨rfl,rfl,g1⟩
 ·by_cases hm:m<n
  ·rw [if_pos ⟨rfl,.inr hm⟩];exact .inl ⟨rfl,g1,g2,.inr g3,fun x a c e=>e.elim (h4 x a oq_) (g4 x a c)⟩
  ·rw [if_neg (fun e=>by rcases e.2 with e|e;cases e;exact hm e)];exact .inl ⟨rfl,h1,h2,.inl h3,fun x a c e=>e.elim (h4 x a c) (g4 x a oq_)⟩
 ·rw [if_neg (fun e=>by cases e.1)];exact .inl ⟨rfl,h1,h2,.inl h3,fun x a c e=>e.elim (h4 x a c) (g1 x a oq_)⟩
 ·rw [if_pos ⟨rfl,.inl rfl⟩];exact .inl ⟨rfl,g1,g2,.inr g3,fun x a c e=>e.elim (h1 x a oq_) (g4 x a c)⟩
 ·rw [if_neg (fun e=>by cases e.1)];exact .inr ⟨rfl,rfl,fun x a c e=>e.elim (h1 x a c) (g1 x a c)⟩
def sn_ (a b:List (List Per)):List (List Per):=a.flatMap fun s=>b.map fun t=>s ++ t
def shS (p:Per) (b:Int) (n:Int):Prop:=0≤n∧p.mem (n-b)
noncomputable def shP (p:Per) (b:Int):Per:=gt_ (shS p b)
noncomputable def shL (m:List (List Per)) (b:Int):List (List Per):=m.map fun t=>t.map fun p=>shP p b
end Kal
namespace Go.Proofs.YtkclokcenllhmaaGreat
open Go.RowKit Go.Maps Kal
theorem ud_ (F:Nat->Prop) (v:Value) (t:List Per) (n:Int) (db:Nat) (w:World) (ht:ag_ w F v t) (hc:w.cell? ⟨db,0,none⟩=some (.int .i64 n)) (hn:InI n) :
  Calls Tryz.prog 220 #[v,.pointer (some ⟨db,0,none⟩)] w fun e w'=>e=.returned (.bool (inB t n))∧Below w.heap.size w w':=by
 have H:=s1_ F v t n w ht hn;have hlt:=World.block_lt_of_cell? w _ hc;clear ht;generalize inB t n=b at H ⊢
 go_enter Tryz.func220,Tryz.ntmps220
 go_wp2_with (go_at_call 221;refine H.mono ?_;rintro e w1 ⟨rfl,hb1⟩)
 go_ret;exact ⟨rfl,xE⟩
theorem rx_ (F:Nat->Prop) (L:List (Value × List Per)) (n:Int) (db:Nat) (w:World) (hL:∀ x∈L,ag_ w F x.1 x.2) (hc:w.cell? ⟨db,0,none⟩=some (.int .i64 n)) (hn:InI n) :
  p4_ 220 #[.pointer (some ⟨db,0,none⟩)] L (fun x=>inB x.2 n) w:=fun W x hW hx=>by
 have h:=ud_ F x.1 x.2 n db W ((hL x hx).ext hW) (Ext.cell hW hc) hn;have e:(#[x.1] ++ #[Value.pointer (some ⟨db,0,none⟩)])=#[x.1,.pointer (some ⟨db,0,none⟩)]:=by simp
 rw [e];exact h.mono fun e w' ⟨h1,h2⟩=>⟨h1,hW.trans (h2.mono hW.size)⟩
theorem wa_ (F:Nat->Prop) (v:Value) (m:List (List Per)) (n:Int) (db:Nat) (w:World) (hm:MixR w F v m) (hc:w.cell? ⟨db,0,none⟩=some (.int .i64 n)) (hn:InI n) :
  Calls Tryz.prog 170 #[v,.func (.func 220) #[] #[.pointer (some ⟨db,0,none⟩)]] w fun e w'=>e=.returned (.bool (m.any fun t=>inB t n))∧Below w.heap.size w w':=by
 obtain ⟨L,rfl,hL⟩:=hm;have h:=l9_ F v L (fun x=>inB x.2 n) 220 #[.pointer (some ⟨db,0,none⟩)] (enters_of Tryz.func220 (by kernel_rfl) rfl) w hL.row hL.len (rx_ F L n db w hL.all hc hn);have he:((L.map Prod.snd).any fun t=>inB t n)=L.any fun x=>inB x.2 n:=by rw [List.any_map];rfl
 rw [he];exact h
theorem uq_ (F:Nat->Prop) (v:Value) (m:List (List Per)) (n:Int) (w:World) (hm:MixR w F v m) (hn:InI n) :
  Calls Tryz.prog 175 #[.agg #[v],.int .i64 n] w fun e w'=>e=.returned (.bool (hasM m n))∧Below w.heap.size w w':=by
 have HV:=fun W h=>g9_ F v m W (hm.ext h);have HA:=fun W h db hc=>wa_ F v m n db W (hm.ext h) hc hn;unfold hasM;obtain ⟨L,_,hL⟩:=hm;obtain ⟨a,c,rfl,_⟩:=hL.row;clear hL;generalize (m.any fun t=>inB t n)=y at *;cases hq:ak_ m with
 | false=>
  rw [hq] at HV;clear hq
  go_enter Tryz.func175,Tryz.ntmps175
  go_wp2_with (go_at_call 126;refine (HV _ xE).mono ?_;rintro e w1 ⟨rfl,hb1⟩)
  go_ret;exact ⟨rfl,xE⟩
 | true=>
  rw [hq] at HV;clear hq
  go_enter Tryz.func175,Tryz.ntmps175
  go_wp2_with (first|(go_at_call 126;refine (HV _ xE).mono ?_;rintro e w1 ⟨rfl,hb1⟩;obtain ⟨hc1,hf1⟩:=hj_ hb1;(try simp only [World.size_alloc,World.size_drew,gh_,World.size_setCell] at hc1 hf1))|(go_at_call 170;refine (HA _ xE (w.heap.size+1) (by rw [hc1 _ _ oq_];simp)).mono ?_;rintro e w2 ⟨rfl,hb2⟩))
  go_ret;exact ⟨rfl,xE⟩
theorem PVok.form {F:Nat->Prop} {h c:Value} (hx:PVok w F ⟨h,c,p⟩):∃ a1 n1 c1 a2 n2 c2,h=.slice a1 n1 c1∧c=.slice a2 n2 c2:=by
 obtain ⟨⟨⟨⟨a1,c1,h1,_⟩,_,_⟩,⟨a2,c2,h2,_⟩,_,_⟩,_,_,_,_⟩:=hx;exact ⟨a1,_,c1,a2,_,c2,h1,h2⟩
theorem b9_.get {F:Nat->Prop} {a:Option Addr} (h:b9_ w F (.slice a n c) L) (hk:k<L.length) :
  ∃ b o x,a=some ⟨b,o,none⟩∧PVok w F x∧x.p=(L.map PV.p).getD k default∧b<w.heap.size∧w.cell? ⟨b,o+k*4,none⟩=some x.h∧w.cell? ⟨b,o+k*4+1,none⟩=some (.int .i64 x.p.frm)∧
   w.cell? ⟨b,o+k*4+2,none⟩=some (.int .i64 x.p.period)∧w.cell? ⟨b,o+k*4+3,none⟩=some x.c:=by
 obtain ⟨a',c',he,h1,h2,h3⟩:=h.row;injection he with e1 _ e2
 subst e1;subst e2;rcases h3 with h3|⟨b,o,rfl,hF,hl,hc⟩
 ·omega
 ·exact ⟨b,o,L.getD k default,rfl,h.all _ (ac_ hk),by simp [List.getD_eq_getElem?_getD,hk],hl,hc (k*4+0) _ (c7_ hk rfl),hc (k*4+1) _ (c7_ hk rfl),hc (k*4+2) _ (c7_ hk rfl),hc (k*4+3) _ (c7_ hk rfl)⟩
theorem o1_ (a:Int) (t:List Per) (p:Per):bb_ a (t ++ [p])=max (bb_ a t) p.frm:=by unfold bb_;rw [List.foldl_append];rfl
theorem t4_ (F:Nat->Prop) (v:Value) (t:List Per) (w:World) (ht:ag_ w F v t) :
  Calls Tryz.prog 245 #[v] w fun e w'=>e=.returned (.int .i64 (as_ t))∧Below w.heap.size w w':=by
 obtain ⟨L,hLt,hL⟩:=ht;obtain ⟨a1,c1,rfl,_⟩:=hL.row;have HL:=hq_ hL;have hl1:=hL.len;have htl:t.length=L.length:=by rw [<- hLt,List.length_map]
 have HT:=hq_ htl;have HLT:=hq_ hLt;clear hL htl hLt
 go_enter Tryz.func245,Tryz.ntmps245
 go_wp2_with fail
 go_loopw [3,5,8] (fun m _ i wr=>∃ k:Nat,k≤L.length∧i=.int .i64 k∧m=.int .i64 (bb_ 0 (t.take k))∧Below w.heap.size w wr) (fun _ _ i _=>L.length-(intOf i).toNat)
 case atStart=>exact ⟨0,oq_,rfl,by simp [bb_],xE⟩
 case round=>
  obtain ⟨k,hk,rfl,rfl,hb⟩:=hrel;by_cases hlt:k<L.length
  ·have hlI:(k:Int)<L.length:=oq_;obtain ⟨b1,o1,x,rfl,hx,hxp,hb1,e0,e1,e2,e3⟩:=(HL.out.keep (a3_.below hb) hb.size).get hlt;rw [HLT.out] at hxp;have hS:bb_ 0 (t.take (k+1))=max (bb_ 0 (t.take k)) x.p.frm:=by
    have htk:k<t.length:=by have:=HT.out;omega
    rw [List.take_succ_eq_append_getElem htk,o1_,hxp,List.getD_eq_getElem?_getD,List.getElem?_eq_getElem htk];rfl
   have HS:=hq_ hS;have hfr:=hx.fr;obtain ⟨xh,xc,xp⟩:=x;obtain ⟨ax1,nx1,cx1,ax2,nx2,cx2,rfl,rfl⟩:=hx.form;dsimp only at e0 e1 e2 e3 hfr HS;clear hxp hx hS;generalize bb_ 0 (t.take k)=s0 at *;go_wp2_with fail
   all_goals
    go_roundw
    case rel=>exact ⟨k+1,oq_,by go_num,by rw [HS.out],xE⟩
    case measure=>simp [intOf];omega
  ·obtain rfl:k=L.length:=oq_;go_wp2_with fail
   go_ret;refine ⟨?_,xE⟩;have:=HT.out;rw [List.take_of_length_le oq_];rfl
theorem h3_ (h c:Value) (p:Per) (n:Int) (w:World) (hf:0≤p.frm) (hf1:p.frm≤1125899906842624) (hp:1≤p.period) (hp1:p.period≤1125899906842624) (hn:0≤n) (hn1:n≤1125899906842624) :
  Calls Tryz.prog 243 #[perV h c p.frm p.period,.int .i64 n] w fun e w'=>e=.returned (.int .i64 (resP p n))∧Below w.heap.size w w':=by
 have n1:p.period≠0:=oq_;have b1:=Int.emod_nonneg p.frm n1;have b2:=Int.emod_lt_of_pos p.frm (show 0<p.period by omega);have q1:p.frm.tmod p.period=p.frm % p.period:=Int.tmod_eq_emod_of_nonneg hf;have q2:(p.frm % p.period+n).tmod p.period=(p.frm % p.period+n) % p.period:=Int.tmod_eq_emod_of_nonneg oq_;unfold resP;generalize p.frm % p.period=r at *;have HR:Hid (0≤(r+n) % p.period∧(r+n) % p.period<p.period):=hq_ ⟨Int.emod_nonneg _ n1,Int.emod_lt_of_pos _ oq_⟩
 go_enter Tryz.func243,Tryz.ntmps243
 go_wp2_with fail
 go_region
 go_wp2_with fail
 go_ret;exact ⟨rfl,xE⟩
def TV (t:List Per):Prop:=∀ p∈t,validB p=true
theorem mb_ {n:Int} (h:validB p=true):hasB p n=true↔p.mem n:=by
 unfold hasB;rw [h,Bool.true_and,Bool.and_eq_true,decide_eq_true_iff];exact ⟨fun ⟨h0,h1⟩=>(mk_ h0).1 h1,fun h1=>⟨h1.1,(mk_ h1.1).2 h1⟩⟩
theorem ek_ {n:Int} (h:TV t):inB t n=true↔tmem t n:=by
 unfold inB tmem;rw [List.all_eq_true];exact ⟨fun g p hp=>(mb_ (h p hp)).1 (g p hp),fun g p hp=>(mb_ (h p hp)).2 (g p hp)⟩
theorem kf_ {f n:Int} {b:Bool} {S T:Int->Prop} (h:bc_ S f n b) (hs:∀ x,T x↔S x∨(x=d∧tmem t x)) (h1:f≤d) (h2:b=false∨d<n) (h3:tmem t d):bc_ T f d true:=
 (h.take h1 h2).congr fun x _=>by rw [hs];exact or_congr Iff.rfl ⟨fun g=>g.1,fun g=>⟨g,g ▸ h3⟩⟩
theorem f0_ {f n:Int} {b:Bool} {S T:Int->Prop} (h:bc_ S f n b) (hs:∀ x,T x↔S x∨(x=d∧tmem t x)) (h1:¬ (f≤d∧(b=false∨d<n)∧tmem t d)):bc_ T f n b:=by
 by_cases h3:tmem t d
 ·exact (h.pass fun g=>h1 ⟨g.1,g.2,h3⟩).congr fun x _=>by rw [hs];exact or_congr Iff.rfl ⟨fun g=>g.1,fun g=>⟨g,g ▸ h3⟩⟩
 ·exact h.congr fun x _=>by rw [hs];exact ⟨fun g=>g.elim id fun g=>absurd (g.1 ▸ g.2) h3,.inl⟩
theorem rd_ (F:Nat->Prop) (v:Value) (t:List Per) (f:Int) (w:World) (ht:ag_ w F v t) (hv:TV t) (hf:InI f) :
  Calls Tryz.prog 207 #[v,.int .i64 f] w fun e w'=>∃ (n:Int) (b:Bool),e=.returned (.tuple #[.int .i64 n,.bool b])∧bc_ (cf_ t t.length 0) f n b∧Below w.heap.size w w':=by
 have HIN:=fun W d (h:Below w.heap.size w W) (hd:InI d)=>s1_ F v t d W (ht.ext h) hd;obtain ⟨L,hLt,hL⟩:=ht;obtain ⟨a1,c1,rfl,_⟩:=hL.row;have HL:=hq_ hL;have hl1:=hL.len;have htl:t.length=L.length:=by rw [<- hLt,List.length_map]
 have HT:=hq_ htl;have HLT:=hq_ hLt;have HV:=hq_ hv;clear hL htl hLt hv
 go_enter Tryz.func207,Tryz.ntmps207
 go_wp2_with fail
 go_loopw [6,7,9,11,14] (fun nv bv _ _ i wr=>∃ (k:Nat) (n:Int) (b:Bool),k≤L.length∧i=.int .i64 k∧nv=.int .i64 n∧bv=.bool b∧Hid (bc_ (cf_ t k 0) f n b)∧Below w.heap.size w wr) (fun _ _ _ _ i _=>L.length-(intOf i).toNat)
 case atStart=>exact ⟨0,0,false,oq_,rfl,rfl,rfl,hq_ (bc_.start.congr fun x _=>pq_),xE⟩
 case round=>
  obtain ⟨k,n,b,hk,rfl,rfl,rfl,HBE,hb⟩:=hrel;by_cases hlt:k<L.length
  ·have hlI:(k:Int)<L.length:=oq_;obtain ⟨b1,o1,x,rfl,hx,hxp,hb1,e0,e1,e2,e3⟩:=(HL.out.keep (a3_.below hb) hb.size).get hlt;rw [HLT.out] at hxp;have hkt:k<t.length:=by have:=HT.out;omega
   have HXP:=hq_ hxp;have hxi:=hx.is.hd;obtain ⟨xh,xc,xp⟩:=x;obtain ⟨ax1,nx1,cx1,ax2,nx2,cx2,rfl,rfl⟩:=hx.form;dsimp only at e0 e1 e2 e3 hxi;change Hid (xp=_) at HXP;obtain ⟨⟨ah,ch,he,_,_,hcl⟩,hln,hrg⟩:=hxi;injection he with he1 he2 he3
   subst he1;subst he2;subst he3;have HCL:=hq_ hcl;have HRG:=hq_ hrg;have HB:=hq_ hb;clear hcl hrg hxp hx;go_wp2_with fail
   go_loopw [6,7,11,21] (fun nv bv _ i wq=>∃ (j:Nat) (n:Int) (b:Bool),j≤xp.head.length∧i=.int .i64 j∧nv=.int .i64 n∧bv=.bool b∧Hid (bc_ (cf_ t k j) f n b)∧Below wr.heap.size wr wq) (fun _ _ _ i _=>xp.head.length-(intOf i).toNat)
   case atStart=>exact ⟨0,n,b,oq_,rfl,rfl,rfl,HBE,xE⟩
   case round=>
    obtain ⟨j,n,b,hj,rfl,rfl,rfl,HBE2,hb2⟩:=hrel;by_cases hjl:j<xp.head.length
    ·have hjI:(j:Int)<xp.head.length:=oq_;rcases HCL.out with h0|⟨b4,o4,rfl,hc4⟩
     ·rw [h0] at hjl;simp at hjl
     have c0:=Ext.cell hb2 (hc4 j hjl);have hd:=HRG.out _ (ac_ (d:=0) hjl);have HS:=fun x=>pp_ (t:=t) (i:=k) (k:=j) (x:=x) (by rw [<- HXP.out];exact hjl);rw [<- HXP.out] at HS;have HS:=hq_ HS;generalize xp.head.getD j 0=d at *;by_cases h1:f≤d
     ·cases b with
      | false=>
       cases hq:inB t d with
       | true=>
        have HI:=fun W h=>HIN W d h hd;rw [hq] at HI;have HTM:=hq_ ((ek_ HV.out).1 hq);clear hq;go_wp2_with (go_at_call 221;refine (HI _ xE).mono ?_;rintro e w1 ⟨rfl,hb3⟩)
        go_roundw
        case rel=>exact ⟨j+1,d,true,oq_,by go_num,rfl,rfl,hq_ (kf_ HBE2.out HS.out h1 (by first|exact .inl rfl|exact .inr (by assumption)) HTM.out),xE⟩
        case measure=>simp [intOf];omega
       | false=>
        have HI:=fun W h=>HIN W d h hd;rw [hq] at HI;have HTM:Hid (¬ tmem t d):=hq_ fun g=>by rw [(ek_ HV.out).2 g] at hq;exact absurd hq dq_
        clear hq;go_wp2_with (go_at_call 221;refine (HI _ xE).mono ?_;rintro e w1 ⟨rfl,hb3⟩)
        go_roundw
        case rel=>exact ⟨j+1,n,_,oq_,by go_num,rfl,rfl,hq_ (f0_ HBE2.out HS.out fun g=>HTM.out g.2.2),xE⟩
        case measure=>simp [intOf];omega
      | true=>
       by_cases h2:d<n
       ·
        cases hq:inB t d with
        | true=>
         have HI:=fun W h=>HIN W d h hd;rw [hq] at HI;have HTM:=hq_ ((ek_ HV.out).1 hq);clear hq;go_wp2_with (go_at_call 221;refine (HI _ xE).mono ?_;rintro e w1 ⟨rfl,hb3⟩)
         go_roundw
         case rel=>exact ⟨j+1,d,true,oq_,by go_num,rfl,rfl,hq_ (kf_ HBE2.out HS.out h1 (by first|exact .inl rfl|exact .inr (by assumption)) HTM.out),xE⟩
         case measure=>simp [intOf];omega
        | false=>
         have HI:=fun W h=>HIN W d h hd;rw [hq] at HI;have HTM:Hid (¬ tmem t d):=hq_ fun g=>by rw [(ek_ HV.out).2 g] at hq;exact absurd hq dq_
         clear hq;go_wp2_with (go_at_call 221;refine (HI _ xE).mono ?_;rintro e w1 ⟨rfl,hb3⟩)
         go_roundw
         case rel=>exact ⟨j+1,n,_,oq_,by go_num,rfl,rfl,hq_ (f0_ HBE2.out HS.out fun g=>HTM.out g.2.2),xE⟩
         case measure=>simp [intOf];omega
       ·go_wp2_with fail
        go_roundw
        case rel=>exact ⟨j+1,n,true,oq_,by go_num,rfl,rfl,hq_ (f0_ HBE2.out HS.out fun g=>g.2.1.elim (fun g=>absurd g dq_) h2),xE⟩
        case measure=>simp [intOf];omega
     ·go_wp2_with fail
      go_roundw
      case rel=>exact ⟨j+1,n,b,oq_,by go_num,rfl,rfl,hq_ (f0_ HBE2.out HS.out fun g=>h1 g.1),xE⟩
      case measure=>simp [intOf];omega
    ·obtain rfl:j=xp.head.length:=oq_;go_wp2_with fail
     go_roundw
     case rel=>exact ⟨k+1,n,b,oq_,by go_num,rfl,rfl,hq_ (HBE2.out.congr fun x _=>by rw [rz_ hkt,<- HXP.out]),xE⟩
     case measure=>simp [intOf];omega
  ·obtain rfl:k=L.length:=oq_;go_wp2_with fail
   go_ret2;exact ⟨n,b,rfl,by rw [HT.out];exact HBE.out,xE⟩
theorem a3_.grown {F:Nat->Prop} (h:W.grownBy W' (some g)) (hF:¬ F g):a3_ F W W':=fun b hb hl=>h.block b hl (by rintro ⟨⟩;exact hF hb)
theorem World.grownBy.trans' {B:World} {r:Option Nat} (h:A.grownBy B r) (k:B.grownBy C r):A.grownBy C r:=
 ⟨k.os.trans h.os,k.tape.trans h.tape,k.output.trans h.output,Nat.le_trans h.size k.size,fun b hb hn=>(k.block b (Nat.lt_of_lt_of_le hb h.size) hn).trans (h.block b hb hn)⟩
theorem World.grownBy.set' {B:World} (h:A.grownBy B (some g)) (v:Value):A.grownBy (B.setCell ⟨g,i,none⟩ v) (some g):=
 ⟨h.os,h.tape,h.output,by rw [World.size_setCell];exact h.size,fun b hb hn=>(Below.heap_setCell B ⟨g,i,none⟩ v b (by rintro rfl;exact hn rfl)).trans (h.block b hb hn)⟩
theorem World.grownBy.below' {B:World} {B0:Nat} (h:A.grownBy B (some g)) (hg:B0≤g) (hB:B0≤A.heap.size):Below B0 A B:=
 ⟨h.os,h.tape,h.output,h.size,fun b hb=>h.block b oq_ (by rintro ⟨⟩;omega)⟩
def Fits (xs:List Value) (done:List (Int × Int)):Prop:=∀ k,k<done.length->xs[k]? = some (.int .i64 (done.getD k (0,0)).2)
theorem Fits.snoc {done:List (Int × Int)} {a:Int × Int} (h:Fits xs done) (hl:done.length<xs.length):Fits (xs.set done.length (.int .i64 a.2)) (done ++ [a]):=by
 intro k hk;rw [List.length_append] at hk;simp only [List.length_singleton] at hk;by_cases hk2:k<done.length
 ·rw [List.getElem?_set_ne oq_,h k hk2,List.getD_eq_getElem?_getD,List.getD_eq_getElem?_getD,List.getElem?_append_left hk2]
 ·obtain rfl:k=done.length:=oq_;rw [List.getElem?_set_self hl,List.getD_eq_getElem?_getD,List.getElem?_append_right oq_];simp
theorem Fits.pre {done:List (Int × Int)} {a:Int × Int} (h:Fits xs (done ++ [a])):Fits xs done:=fun k hk=>by
 have:=h k tq_;rwa [List.getD_eq_getElem?_getD,List.getElem?_append_left hk,<- List.getD_eq_getElem?_getD] at this
def p5_ (done:List (Int × Int)) (p:Per) (t:List Per) (c:Int):Prop:=iy_ done p.period (resP p c)∧Ext (done ++ [(p.period,resP p c)]) t
theorem m8_ {done:List (Int × Int)} (h:i<t.length):Ext done (t.drop i)↔∃ c∈(t.getD i default).cycle,p5_ done (t.getD i default) (t.drop (i+1)) c:=by
 rw [List.drop_eq_getElem_cons h,List.getD_eq_getElem?_getD,List.getElem?_eq_getElem h];rfl
def f9_ (done:List (Int × Int)) (P r:Int) (k:Nat):Prop:=∀ j,j<k->(r-(done.getD j (0,0)).2) % ((Int.gcd P (done.getD j (0,0)).1:Nat):Int)=0
theorem og_ {done:List (Int × Int)}:iy_ done P r↔f9_ done P r done.length:=by
 constructor
 ·exact fun h j hj=>h _ (ac_ hj)
 ·intro h x hx;obtain ⟨j,hj,rfl⟩:=List.mem_iff_getElem.1 hx;have:=h j hj;rwa [List.getD_eq_getElem?_getD,List.getElem?_eq_getElem hj] at this
theorem f9_.succ {done:List (Int × Int)} (h:f9_ done P r k) (h1:(r-(done.getD k (0,0)).2) % ((Int.gcd P (done.getD k (0,0)).1:Nat):Int)=0):f9_ done P r (k+1):=fun j hj=>by
 by_cases hj2:j<k
 ·exact h j hj2
 ·obtain rfl:j=k:=oq_;exact h1
structure Cho (g:Nat) (F:Nat->Prop) (v:Value) (L:List PV) (b1 b2 b3:Nat) (done:List (Int × Int)) (w:World) (xs:List Value):Prop where
 term:b9_ w F v L
 c1:w.cell? ⟨b1,0,none⟩=some v
 c2:w.cell? ⟨b2,0,none⟩=some (.slice (some ⟨g,0,none⟩) L.length L.length)
 c3:w.cell? ⟨b3,0,none⟩=some (.func (.func 242) #[] #[.pointer (some ⟨b1,0,none⟩),.pointer (some ⟨b2,0,none⟩),.pointer (some ⟨b3,0,none⟩)])
 row:w.ownsRow g 3 1 (.slice (some ⟨g,0,none⟩) L.length L.length) L.length xs
 fits:Fits xs done
theorem Cho.grow {F:Nat->Prop} {b1 b2 b3:Nat} {done done':List (Int × Int)} {xs':List Value} (h:Cho g F v L b1 b2 b3 done w xs) (hg:w.grownBy W (some g)) (hF:¬ F g) (h1:b1≠g) (h2:b2≠g) (h3:b3≠g)
  (hr:W.ownsRow g 3 1 (.slice (some ⟨g,0,none⟩) L.length L.length) L.length xs') (hf:Fits xs' done'):Cho g F v L b1 b2 b3 done' W xs':=
 ⟨h.term.keep (a3_.grown hg hF) hg.size,hg.cell h.c1 (by rintro ⟨⟩;exact h1 rfl),hg.cell h.c2 (by rintro ⟨⟩;exact h2 rfl),hg.cell h.c3 (by rintro ⟨⟩;exact h3 rfl),hr,hf⟩
theorem Cho.below {F:Nat->Prop} {b1 b2 b3:Nat} {done:List (Int × Int)} (h:Cho g F v L b1 b2 b3 done w xs) (hb:Below w.heap.size w W):Cho g F v L b1 b2 b3 done W xs:=
 ⟨h.term.keep (a3_.below hb) hb.size,Ext.cell hb h.c1,Ext.cell hb h.c2,Ext.cell hb h.c3,h.row.kept (row:=none) ⟨hb.os,hb.tape,hb.output,hb.size,fun b hl _=>hb.block b hl⟩ (by right;simp [Value.ownBlock]),h.fits⟩
def xn_ (g:Nat) (F:Nat->Prop) (v:Value) (L:List PV) (b1 b2 b3:Nat) (done:List (Int × Int)) (i:Nat) (w:World) (e:Ending) (w':World):Prop:=
 ∃ b xs',e=.returned (.bool b)∧(b=true↔Ext done ((L.map PV.p).drop i))∧Cho g F v L b1 b2 b3 done w' xs'∧w.grownBy w' (some g)
theorem pb_ (g:Nat) (F:Nat->Prop) (v:Value) (L:List PV) (b1 b2 b3:Nat) (hF:¬ F g) (h1:b1≠g) (h2:b2≠g) (h3:b3≠g) (hv:TV (L.map PV.p)) :
  ∀ (n i:Nat) (done:List (Int × Int)) (xs:List Value) (w:World),i+n=L.length->done.length=i->(∀ k,k<i->(done.getD k (0,0)).1=((L.map PV.p).getD k default).period∧0≤(done.getD k (0,0)).2∧(done.getD k (0,0)).2≤1099511627776)->
   Cho g F v L b1 b2 b3 done w xs->
   Calls Tryz.prog 242 #[.int .i64 i,.pointer (some ⟨b1,0,none⟩),.pointer (some ⟨b2,0,none⟩),.pointer (some ⟨b3,0,none⟩)] w (xn_ g F v L b1 b2 b3 done i w):=by
 intro n;induction n with
 | zero=>
  intro i done xs w hi hd hpr hc;have hl1:=hc.term.len;obtain rfl:i=L.length:=oq_;obtain ⟨a1,c1,rfl,hx1,hx2,_⟩:=hc.term.row.is;have k1:=hc.c1;have HC:=hq_ hc;clear hc hpr hd
  go_enter Tryz.func242,Tryz.ntmps242
  go_wp2_with fail
  go_step3
  go_wp2_with fail
  try rw [Exit.noGoto_ret]
  go_ret;exact ⟨true,xs,rfl,by rw [List.drop_of_length_le sq_];exact ⟨fun _=>trivial,fun _=>rfl⟩,HC.out,⟨rfl,rfl,rfl,Nat.le_refl _,fun _ _ _=>rfl⟩⟩
 | succ n ih=>
  intro i done xs w hi hd hpr hc;have IH:=hq_ ih;clear ih;have hl1:=hc.term.len;have hli:i<L.length:=oq_;have hiI:(i:Int)<L.length:=oq_;obtain ⟨a1,cc1,rfl,hx1,hx2,_⟩:=hc.term.row.is;have k1:=hc.c1;obtain ⟨tb,o1,x,ha,hx,hxp,hb1,e0,e1,e2,e3⟩:=hc.term.get hli;subst ha;have HXP:=hq_ hxp;have hvx:validB x.p=true:=hv _ (by rw [hxp];exact ac_ (by simpa using hli));have hvv:=(be_ x.p).1 hvx;have hxi:=hx.is.cy;obtain ⟨xh,xc,xp⟩:=x;obtain ⟨ax1,nx1,cx1,ax2,nx2,cx2,rfl,rfl⟩:=hx.form;dsimp only at e0 e1 e2 e3 hxi hvv;change Hid (xp=_) at HXP;obtain ⟨⟨ah,ch,he,_,_,hcl⟩,hln,hrg⟩:=hxi;injection he with he1 he2 he3
  subst he1;subst he2;subst he3;have f0:=hvv.wf.frm;have f1:xp.frm≤1099511627776:=hvv.frm;have p0:=hvv.wf.per;have p1:xp.period≤1099511627776:=hvv.per;have HCY:=hq_ hvv.wf.cyc;have HCL:=hq_ hcl;have HC:=hq_ hc;have HPR:=hq_ hpr;have HX:=hq_ hx;have HD:=hq_ hd;have HI:=hq_ hi;have HV:=hq_ hv;clear hcl hc hpr hx hvv hvx hrg hxp hd hv hi
  go_enter Tryz.func242,Tryz.ntmps242
  go_wp2_with fail
  go_step3
  go_wp2_with fail
  go_step3
  go_wp2_with fail
  generalize ((i:Int) == (L.length:Int))=q13;go_loopw [5,7,8,9,20] (fun _ _ _ _ idx wr=>∃ (j:Nat) (ys:List Value),j≤xp.cycle.length∧idx=.int .i64 j∧Hid (∀ q,q<j->¬ p5_ done xp ((L.map PV.p).drop (i+1)) (xp.cycle.getD q 0))∧Hid (Cho g F (.slice (some ⟨tb,o1,none⟩) L.length cc1) L b1 b2 b3 done wr ys)∧Hid (w.grownBy wr (some g))) (fun _ _ _ _ idx _=>xp.cycle.length-(intOf idx).toNat)
  case atStart=>exact ⟨0,xs,oq_,rfl,hq_ (fun q hq=>oq_),HC,hq_ ⟨rfl,rfl,rfl,Nat.le_refl _,fun _ _ _=>rfl⟩⟩
  case round=>
   obtain ⟨j,ys,hj,rfl,HNO,HCH,HG⟩:=hrel;by_cases hjl:j<xp.cycle.length
   ·have hjI:(j:Int)<xp.cycle.length:=oq_;have q1:=HCH.out.c1;obtain ⟨_,_,y,hay,hy,hyp,hyb,g0,g1,g2,g3⟩:=HCH.out.term.get hli;cases hay;obtain ⟨yh,yc,yp⟩:=y;obtain ⟨ay1,ny1,cy1,ay2,ny2,cy2,rfl,rfl⟩:=hy.form;obtain rfl:yp=xp:=hyp.trans HXP.out.symm;dsimp only at g0 g1 g2 g3;have hcyr:=(HX.out.keep (a3_.grown HG.out hF)).is.cy;obtain ⟨⟨ah,ch,he,_,_,hcl⟩,_,_⟩:=hcyr;injection he with he1 he2 he3
    subst he1;subst he3;rcases hcl with h0|⟨b4,o4,rfl,hc4⟩
    ·rw [h0] at hjl;simp at hjl
    have c0:=hc4 j hjl;have hcb:=HCY.out.2 _ (ac_ (d:=0) hjl);have HJ:Hid (yp.cycle.getD j 0∈yp.cycle):=hq_ (ac_ hjl);generalize hcc:yp.cycle.getD j 0=c at *;have HCC:=hq_ hcc;have hr:=hr_ ((be_ yp).1 (HV.out _ (by rw [HXP.out];exact ac_ (by simpa using hli)))).wf c;have HRES:=fun W=>h3_ (.slice ay1 ny1 cy1) (.slice ay2 ny2 cy2) yp c W f0 oq_ p0 oq_ hcb.1 oq_;generalize hrr:resP yp c=r at *;have HRR:=hq_ hrr;have HYP:=hq_ hyp;clear hc4 hcc hrr hy hyp;go_wp2_with (go_at_call 243;refine (HRES _).mono ?_;rintro e w1 ⟨rfl,hbr⟩)
    have HC1:=hq_ (HCH.out.below hbr);have HB1:=hq_ hbr;go_loopw [9,31] (fun _ idx wq=>∃ k:Nat,k≤i∧idx=.int .i64 k∧Hid (f9_ done yp.period r k)∧Hid (Below w1.heap.size w1 wq)) (fun _ idx _=>i-(intOf idx).toNat)
    case atStart=>exact ⟨0,oq_,rfl,hq_ (fun _ h=>absurd h oq_),hq_ (Below.refl _ _)⟩
    case round=>
     obtain ⟨k,hk,rfl,HAG,HB⟩:=hrel;have HCQ:=hq_ (HC1.out.below HB.out);have q1:=HCQ.out.c1;have q2:=HCQ.out.c2;by_cases hkl:k<i
     ·have hkI:(k:Int)<i:=oq_;have q4:=(HCQ.out.row.cellAt k oq_).trans (HCQ.out.fits k (by have:=HD.out;omega));obtain ⟨hd1,hd2,hd3⟩:=HPR.out k hkl;obtain ⟨_,_,y,hay,hy,hyp,hyb,g0,g1,g2,g3⟩:=HCQ.out.term.get hli;cases hay;obtain ⟨yh,yc,yp'⟩:=y;obtain ⟨ay1,ny1,cy1,ay2,ny2,cy2,rfl,rfl⟩:=hy.form;obtain rfl:yp'=yp:=hyp.trans HXP.out.symm;obtain ⟨_,_,z,hay,hz,hzp,hzb,z0,z1,z2,z3⟩:=HCQ.out.term.get (show k<L.length by omega);cases hay;obtain ⟨zh,zc,zp⟩:=z;obtain ⟨az1,nz1,dz1,az2,nz2,dz2,rfl,rfl⟩:=hz.form;dsimp only at g0 g1 g2 g3 z0 z1 z2 z3;change zp=_ at hzp;rw [<- hzp] at hd1;have hzv:=(be_ zp).1 (HV.out _ (by rw [hzp];exact ac_ tq_));have z5:=hzv.wf.per;have z6:zp.period≤1099511627776:=hzv.per;have hgb:=d4_ (a:=yp'.period) (b:=zp.period) p0;have HGC:=fun W=>op_ yp'.period zp.period W oq_ oq_ oq_ oq_;have HSUC:Hid ((r-(done.getD k (0,0)).2) % ((Int.gcd yp'.period (done.getD k (0,0)).1:Nat):Int)=0->f9_ done yp'.period r (k+1)):=hq_ HAG.out.succ;have HFAI:Hid (iy_ done yp'.period r->(r-(done.getD k (0,0)).2) % ((Int.gcd yp'.period (done.getD k (0,0)).1:Nat):Int)=0):=hq_ fun h=>og_.1 h k (by have:=HD.out;omega);rw [hd1] at HSUC HFAI;generalize ((Int.gcd yp'.period zp.period:Nat):Int)=G at *;generalize (done.getD k (0,0)).2=d2 at *;have htm:(r-d2).tmod G=0↔(r-d2) % G=0:=by
       constructor
       ·exact fun h=>Int.emod_eq_zero_of_dvd (Int.dvd_of_tmod_eq_zero h)
       ·exact fun h=>Int.tmod_eq_zero_of_dvd (Int.dvd_of_emod_eq_zero h)
      by_cases ha:(r-d2) % G=0
      ·have hT:=htm.2 ha;have HN:=hq_ (HSUC.out ha);clear htm ha hy hz hd1 hzv hyp hzp;go_wp2_with fail
       go_quiet ((go_at_call 244;(first|exact Calls.quiet_of (HGC _)|exact ks_ (HGC _))))
       go_wp2_with fail
       go_roundw
       case rel=>exact ⟨k+1,oq_,by go_num,HN,hq_ (Below.drewN HB.out _)⟩
       case measure=>simp [intOf];omega
      ·have hT:(r-d2).tmod G≠0:=fun h=>ha (htm.1 h);have HNT:Hid (¬ p5_ done yp' ((L.map PV.p).drop (i+1)) c):=hq_ fun h=>ha (HFAI.out (by have:=h.1;rwa [HRR.out] at this));clear htm ha hy hz hd1 hzv hyp hzp;go_wp2_with fail
       go_quiet ((go_at_call 244;(first|exact Calls.quiet_of (HGC _)|exact ks_ (HGC _))))
       go_wp2_with fail
       go_roundw
       case rel=>exact ⟨j+1,ys,oq_,by go_num,hq_ (fun q hq=>by
        by_cases hqj:q<j
        ·exact HNO.out q hqj
        ·obtain rfl:q=j:=oq_;rw [HCC.out];exact HNT.out),hq_ (HCQ.out.below (Below.drewN (Below.refl _ _) _)),hq_ (World.grownBy.trans' HG.out (World.grownBy.of_below ((HB1.out.trans ((Below.drewN HB.out _).mono HB1.out.size))) _))⟩
       case measure=>simp [intOf];omega
     ·obtain rfl:k=i:=oq_;have q5:=(HCQ.out.row.cellAt k oq_);have hyl:ys.length=L.length:=by have:=HCQ.out.row.1;omega
      rw [List.getElem?_eq_getElem oq_] at q5;have q6:=HCQ.out.row.frozenAt k;have hgr:wr.grownBy (wr.setCell ⟨g,k,none⟩ (.int .i64 r)) (some g):=World.grownBy.set' ⟨rfl,rfl,rfl,Nat.le_refl _,fun _ _ _=>rfl⟩ _;have HFD:Hid (Fits (ys.set k (.int .i64 r)) (done ++ [(yp.period,r)])):=hq_ (by have h:=HCQ.out.fits.snoc (a:=(yp.period,r)) (by rw [HD.out];omega);rwa [HD.out] at h);have HST:=hq_ (HCQ.out.grow hgr hF h1 h2 h3 (HCQ.out.row.stored k (.int .i64 r)).1 HFD.out);have HREC:=IH.out (k+1) (done ++ [(yp.period,r)]) _ _ (by have:=HI.out;omega) (by simp [HD.out]) (fun q hq=>by
       by_cases hqk:q<k
       ·have h:=HPR.out q hqk;have e:(done ++ [(yp.period,r)]).getD q (0,0)=done.getD q (0,0):=by rw [List.getD_eq_getElem?_getD,List.getElem?_append_left (by have:=HD.out;omega),<- List.getD_eq_getElem?_getD]
        rw [e];exact h
       ·obtain rfl:q=k:=oq_;have e:(done ++ [(yp.period,r)]).getD q (0,0)=(yp.period,r):=by rw [List.getD_eq_getElem?_getD,List.getElem?_append_right (by have:=HD.out;omega),HD.out];simp
        rw [e];exact ⟨by rw [<- HXP.out],oq_,oq_⟩) HST.out
      rw [show ((k+1:Nat):Int)=(k:Int)+1 from by omega] at HREC;have HAG2:Hid (iy_ done yp.period r):=hq_ (og_.2 (by rw [HD.out];exact HAG.out));have HGW:=hq_ (World.grownBy.trans' HG.out (World.grownBy.of_below (HB1.out.trans (HB.out.mono HB1.out.size)) _));have q7:=HST.out.c3;have q8:=HST.out.c1;clear hgr;go_wp2_with (go_at_call 242;refine HREC.mono ?_;rintro e w2 ⟨bb,zs,rfl,hiff,hch2,hg2⟩;have HIF:=hq_ hiff;have HC2:=hq_ hch2;have HG2:=hq_ hg2;clear hiff hch2 hg2;cases bb)
      ·
       go_roundw
       case rel=>exact ⟨j+1,zs,oq_,by go_num,hq_ (fun q hq=>by
        by_cases hqj:q<j
        ·exact HNO.out q hqj
        ·obtain rfl:q=j:=oq_;rw [HCC.out];rintro ⟨h7,h8⟩;rw [HRR.out] at h8;exact absurd h8 (by simpa using HIF.out)),hq_ ⟨HC2.out.term,HC2.out.c1,HC2.out.c2,HC2.out.c3,HC2.out.row,HC2.out.fits.pre⟩,hq_ (World.grownBy.trans' (World.grownBy.set' HGW.out _) HG2.out)⟩
       case measure=>simp [intOf];omega
      ·
       try rw [Exit.noGoto_ret]
       go_ret;refine ⟨true,zs,rfl,?_,⟨HC2.out.term,HC2.out.c1,HC2.out.c2,HC2.out.c3,HC2.out.row,HC2.out.fits.pre⟩,World.grownBy.trans' (World.grownBy.set' HGW.out _) HG2.out⟩;refine ⟨fun _=>(m8_ tq_).2 ⟨c,?_,?_⟩,fun _=>rfl⟩
       ·rw [<- HXP.out];exact HJ.out
       ·rw [<- HXP.out];exact ⟨by rw [HRR.out];exact HAG2.out,by rw [HRR.out];exact HIF.out.1 (by first|rfl|trivial|simp)⟩
   ·obtain rfl:j=xp.cycle.length:=oq_;go_wp2_with fail
    try rw [Exit.noGoto_ret]
    go_ret;refine ⟨false,ys,rfl,⟨fun h=>absurd h dq_,fun h=>?_⟩,HCH.out,HG.out⟩;obtain ⟨c,hc1,hc2⟩:=(m8_ tq_).1 h;rw [<- HXP.out] at hc1 hc2;obtain ⟨q,hq,rfl⟩:=List.mem_iff_getElem.1 hc1;exact absurd (by rw [List.getD_eq_getElem?_getD,List.getElem?_eq_getElem hq];exact hc2) (HNO.out q hq)
theorem Ints.lt (h:Ints W v l) (hl:l≠[]) (hk:v.ownBlock=some k):k<W.heap.size:=by
 obtain ⟨⟨a,c,rfl,h1,h2,h3⟩,h4,h5⟩:=h;rcases h3 with h3|⟨b,o,rfl,hc⟩
 ·exact absurd h3 hl
 ·simp [Value.ownBlock] at hk;subst hk;exact World.block_lt_of_cell? W _ (hc 0 (List.length_pos_iff.2 hl))
theorem PVok.lt {F:Nat->Prop} {x:PV} (h:PVok W F x):PVok W (fun b=>F b∧b<W.heap.size) x:=
 ⟨h.is,h.fr,h.pe,fun e k hk=>⟨h.bh e k hk,h.is.hd.lt e hk⟩,fun e k hk=>⟨h.bc e k hk,h.is.cy.lt e hk⟩⟩
theorem RowR.lt {F:Nat->Prop} (h:RowR W F v n cs):RowR W (fun b=>F b∧b<W.heap.size) v n cs:=by
 obtain ⟨a,c,rfl,h1,h2,h3⟩:=h;refine ⟨a,c,rfl,h1,h2,h3.imp id ?_⟩;rintro ⟨b,o,rfl,hb,hl,hc⟩;exact ⟨b,o,rfl,⟨hb,hl⟩,hl,hc⟩
theorem b9_.lt {F:Nat->Prop} (h:b9_ W F v L):b9_ W (fun b=>F b∧b<W.heap.size) v L:=⟨h.row.lt,h.len,fun x hx=>(h.all x hx).lt⟩
theorem ag_.lt {F:Nat->Prop} (h:ag_ W F v t):ag_ W (fun b=>F b∧b<W.heap.size) v t:=by
 obtain ⟨L,e,g⟩:=h;exact ⟨L,e,g.lt⟩
theorem MixL.lt {F:Nat->Prop} {L:List (Value × List Per)} (h:MixL W F v L):MixL W (fun b=>F b∧b<W.heap.size) v L:=⟨h.row.lt,h.len,fun x hx=>(h.all x hx).lt⟩
theorem MixR.lt {F:Nat->Prop} (h:MixR W F v m):MixR W (fun b=>F b∧b<W.heap.size) v m:=by
 obtain ⟨L,e,g⟩:=h;exact ⟨L,e,g.lt⟩
theorem TV.wf (h:TV t):∀ p∈t,p.WF:=fun p hp=>((be_ p).1 (h p hp)).wf
theorem pc_ (F:Nat->Prop) (v:Value) (L:List PV) (w w3:World) (xs:List Value) (hv:TV (L.map PV.p)) (hT:b9_ w (fun b=>F b∧b<w.heap.size) v L) (hb:Below w.heap.size w w3) (hs:w.heap.size+1<w3.heap.size)
  (hc:w3.cell? ⟨w.heap.size,0,none⟩=some v) (ho:w3.ownsRow (w.heap.size+1) 3 1 (.slice (some ⟨w.heap.size+1,0,none⟩) L.length L.length) L.length xs) :
  Calls Tryz.prog 242 #[.int .i64 0,.pointer (some ⟨w.heap.size,0,none⟩),.pointer (some ⟨w3.heap.size,0,none⟩),.pointer (some ⟨w3.heap.size+1,0,none⟩)]
   ((w3.alloc (.cells #[.slice (some ⟨w.heap.size+1,0,none⟩) L.length L.length] 36)).alloc (.cells #[.func (.func 242) #[] #[.pointer (some ⟨w.heap.size,0,none⟩),.pointer (some ⟨w3.heap.size,0,none⟩),.pointer (some ⟨w3.heap.size+1,0,none⟩)]] 150))
   fun e w'=>∃ b,e=.returned (.bool b)∧(b=true↔recT (L.map PV.p))∧Below w.heap.size w w':=by
 have hcho:Cho (w.heap.size+1) (fun b=>F b∧b<w.heap.size) v L w.heap.size w3.heap.size (w3.heap.size+1) []
   ((w3.alloc (.cells #[.slice (some ⟨w.heap.size+1,0,none⟩) L.length L.length] 36)).alloc (.cells #[.func (.func 242) #[] #[.pointer (some ⟨w.heap.size,0,none⟩),.pointer (some ⟨w3.heap.size,0,none⟩),.pointer (some ⟨w3.heap.size+1,0,none⟩)]] 150)) xs:=by
  refine ⟨hT.keep (a3_.below ((Ea (Ea hb _) _))) (Ea (Ea hb _) _).size,a2_ (a2_ hc _) _,a2_ ?_ _,?_,(ho.alloc _).alloc _,fun k hk=>absurd hk sq_⟩
  ·exact ((Bxx.new _ _ _).cells 0).1
  ·have h:=((Bxx.at (w:=w3.alloc (.cells #[.slice (some ⟨w.heap.size+1,0,none⟩) L.length L.length] 36)) (b:=w3.heap.size+1) (c:=#[.func (.func 242) #[] #[.pointer (some ⟨w.heap.size,0,none⟩),.pointer (some ⟨w3.heap.size,0,none⟩),.pointer (some ⟨w3.heap.size+1,0,none⟩)]]) (t:=150) (by rw [World.size_alloc])).cells 0).1;exact h
 have h:=pb_ (w.heap.size+1) _ v L w.heap.size w3.heap.size (w3.heap.size+1) oq_ oq_ oq_ oq_ hv L.length 0 [] xs _ oq_ rfl (fun k hk=>oq_) hcho;refine h.mono ?_;rintro e w' ⟨b,zs,rfl,hiff,-,hg⟩;refine ⟨b,rfl,?_,(Ea (Ea hb _) _).trans (World.grownBy.below' hg oq_ (by simp [World.size_alloc];omega))⟩;rw [hiff,List.drop_zero];exact oy_ hv.wf
theorem qd_ (F:Nat->Prop) (v:Value) (t:List Per) (w:World) (ht:ag_ w F v t) (hv:TV t) :
  Calls Tryz.prog 208 #[v] w fun e w'=>∃ b,e=.returned (.bool b)∧(b=true↔recT t)∧Below w.heap.size w w':=by
 obtain ⟨L,rfl,hL⟩:=ht;obtain ⟨a1,cc1,rfl,hx1,hx2,_⟩:=hL.row.is;have hl1:=hL.len;have HRC:=hq_ (oy_ hv.wf);have HT:=fun W (h:Below w.heap.size w W)=>(hL.lt.keep (a3_.below h) h.size);have HV:=hq_ hv;have HTL:=hq_ HT;obtain ⟨bi,hbi,hbz,hbs,hby⟩:=dr_;clear hL HT hv
 go_enter Tryz.func208,Tryz.ntmps208
 go_wp2_with (first|(at_make;refine wpList_make_full _ rfl _ _ 36 rfl (w.heap.size+1) 3 bi (.int .i64 0) 1 Tryz.underlying36 hbi hbz hbs .i64 .i64 _ _ L.length rfl rfl rfl rfl (by rw [hby];omega) (by unfold maxLen;omega) sq_ ?_;intro w3 hown3 hgrow3;have hb3:Below w.heap.size w w3:=(Below.trans (Ea (Er w) _) ((Below.refl _ _).grown hgrow3 sq_ (fun k e=>by cases e))))|(go_at_call 242;have hs3:=(hown3.lt _ rfl).2;have hc3:=hgrow3.cell ((Bxx.new w _ _).cells 0).1 sq_;rw [World.size_alloc] at hown3 hs3;refine (pc_ F _ L w w3 _ HV.out (HTL.out w (Er w)) hb3 hs3 hc3 hown3).mono ?_;rintro e w4 ⟨b,rfl,hb4⟩))
 go_ret;exact ⟨b,rfl,hb4⟩
theorem ox_:∃ i,Tryz.prog.info? 160=some i∧i.zero=some (.agg #[.slice none 0 0,.int .i64 0,.int .i64 0,.slice none 0 0])∧i.size=4∧i.bytes=64:=by
 have h:(Tryz.prog.info? 160).map (fun i=>(i.zero,i.size,i.bytes))=some (some (.agg #[.slice none 0 0,.int .i64 0,.int .i64 0,.slice none 0 0]),4,64):=by kernel_rfl
 obtain ⟨i,hi,h1,h2,h3⟩:=info_parts h;exact ⟨i,hi,h1,h2,h3⟩
theorem n2_:∃ i,Tryz.prog.info? 158=some i∧i.zero=some (.slice none 0 0)∧i.size=1∧i.bytes=24:=by
 have h:(Tryz.prog.info? 158).map (fun i=>(i.zero,i.size,i.bytes))=some (some (.slice none 0 0),1,24):=by kernel_rfl
 obtain ⟨i,hi,h1,h2,h3⟩:=info_parts h;exact ⟨i,hi,h1,h2,h3⟩
theorem su_ {P:Program} {t:TypeId} {i:TypeInfo} {z:Value} (h:P.info? t=some i) (hz:i.zero=some z) (w:World):(zeroValue t).run P w=.ok z w:=by
 simp [zeroValue,typeInfo,h,hz]
structure FV (s:Int) (p:Per):Prop where
 fac:Fac s p
 far:p.frm≤1099511627776
theorem FV.valid (h:FV s p):Valid p:=by
 have hw:=h.fac.wf;have hf:=h.fac.frm;have h0:=hw.frm;have hp:=hw.per;have hper:=h.fac.per;have h3:=hw.cyc.length_le (show (0:Int)≤p.period by omega);have h4:(p.head.length:Int)≤9:=by
  by_cases hs:s≤p.frm
  ·by_cases h0s:0≤s
   ·have hr:Rise s p.frm p.head:=⟨hw.head.1,fun x hx=>⟨h.fac.low x ((hw.head_mem x).1 hx).2.2,(hw.head.2 x hx).2⟩⟩;have:=hr.length_le hs;omega
   ·have:=hw.head.length_le h0;omega
  ·have:p.head=[]:=List.eq_nil_iff_forall_not_mem.2 fun x hx=>by
    have h1:=h.fac.low x ((hw.head_mem x).1 hx).2.2;have h2:=(hw.head.2 x hx).2;omega
   rw [this];simp
 exact ⟨hw,h.far,oq_,oq_⟩
theorem FV.validB (h:FV s p):validB p=true:=(be_ p).2 h.valid
theorem POx.pv {base:Nat} {h c:Value} (hp:POx w base h c p) (hv:FV s p):PVok w (fun b=>base≤b∧b<w.heap.size) ⟨h,c,p⟩:=by
 have h1:=hv.valid;have h2:=h1.wf.frm;have h3:p.frm≤1099511627776:=h1.frm;have h4:=h1.wf.per;have h5:p.period≤1099511627776:=h1.per;exact ⟨hp.is,⟨by show _≤p.frm;omega,by show p.frm≤_;omega⟩,⟨by show _≤p.period;omega,by show p.period≤_;omega⟩,fun _ k hk=>hp.hd.lt k hk,fun _ k hk=>hp.cy.lt k hk⟩
theorem PV.enc_one (x:PV) (hh:x.h.oneCell'=true) (hc:x.c.oneCell'=true):∀ u∈x.enc,u.oneCell'=true:=by
 intro u hu;simp only [PV.enc,List.mem_cons,List.not_mem_nil,or_false] at hu;rcases hu with rfl|rfl|rfl|rfl
 ·exact hh
 ·rfl
 ·rfl
 ·exact hc
theorem PVok.one {F:Nat->Prop} {x:PV} (h:PVok w F x):∀ u∈x.enc,u.oneCell'=true:=by
 obtain ⟨xh,xc,xp⟩:=x;obtain ⟨_,_,_,_,_,_,rfl,rfl⟩:=h.form;exact PV.enc_one _ rfl rfl
theorem ua_:(L.flatMap PV.enc).length=L.length*4:=by
 induction L with
 | nil=>rfl
 | cons x L ih=>rw [List.flatMap_cons,List.length_append,ih,PV.enc_len,List.length_cons];omega
end Go.Proofs.YtkclokcenllhmaaGreat
end
namespace Go
open Go.RowKit
variable {P:Program}
def SeqY {α:Type} (P:Program) (g:Nat) (lb:Array Value) (encs:α->Array Value) (Kp:World->World->Prop) (x:Option Nat) (Ey:List α->α->World->Prop) (Fin:List α->Prop) (w:World):Prop:=
 ∀ (l:Nat) (J:List α->World->Prop) (W:World),Below w.heap.size w W->jv_ x J->
  (∀ pre y W1,J pre W1->Ey pre y W1->YieldAt Fence.wide 0 P l (encs y) W1 fun e W'=>e=.returned (.bool true)∧J (pre ++ [y]) W'∧Kp W1 W')->
  J [] W->
  CallsIn Fence.wide 0 P g (#[.func (.yield l) #[] #[]] ++ lb) W fun e W'=>(∃ v,e=.returned v)∧∃ xs,Fin xs∧J xs W'
def lr_ (B:Nat) (Kp:World->World->Prop) (I:World->Prop) (W:World):Exit->Act->World->Prop
 | .normal,_,W3=>KeepsFrom B W W3∧Kp W W3∧I W3
 | _,_,_=>False
theorem o6_ {α:Type} {g:Operand} {ps:Array Tmp} {assign body:Code} {Q:Exit->Act->World->Prop} {a:Act} {w:World}
  {gf:Nat} {lb:Array Value} (hg:a.eval g=.func (.func gf) #[] lb) (eg:∀ args w,(callFunc gf args).run P w=.ok (.enter gf args) w)
  {encs:α->Array Value} {Kp:World->World->Prop} {x:Option Nat} {Ey:List α->α->World->Prop} {Fin:List α->Prop} (hseq:SeqY P gf lb encs Kp x Ey Fin w)
  (hKt:∀ {A B C:World},Kp A B->Kp B C->Kp A C) (hKb:∀ (W:World) (l:Nat) (o o':Obj),w.heap.size≤l->W.heap[l]? = some o->o.isCells=false->Kp W (W.putObj l o')) (hps:∀ y,(encs y).size=ps.size)
  (I:List α->World->Prop) (hI:OwnX w.heap.size x I) (hEy:∀ pre y (W:World) (l:Nat) (o o':Obj),W.heap[l]? = some o->o.isCells=false->Ey pre y W->Ey pre y (W.putObj l o')) (h0:I [] w) (a₁:α->Act)
  (hassign:∀ (l:Nat) (y:α) (W:World) (K:Act->World->Prop),K (a₁ y) W->
   assign.wpIn (Fence.wide.inRound l) 0 P (Exit.then K (fun _ _ _=>False)) { tmps:=(ps.zip (encs y)).foldl (fun t (p,v)=>t.setIfInBounds p v) a.tmps,defers:=[] } W)
  (hbody:∀ (l:Nat) (pre:List α) (y:α) (W:World),I pre W->Ey pre y W->body.wpIn (Fence.wide.inRound l) 0 P (lr_ w.heap.size Kp (I (pre ++ [y])) W) (a₁ y) W)
  (hdone:∀ (D:Nat) (xs:List α) (W:World),w.heap.size≤D->Fin xs->I xs W->W.heap[D]? = some (.deferred (some []))->Q .normal { a with defers:={ target:=.collected D,args:=#[] } :: a.defers } W) :
  (Code.rangeFunc g ps assign body).wpIn Fence.wide 0 P Q a w:=by
 refine wpIn_rangeFunc ?_;intro fn hfn;obtain ⟨rec,hrec⟩:∃ rec:LoopState->Option Code->Loop,rec=fun st pe=>{ state:=st,pending:=pe,fn,tmps:=a.tmps,params:=ps,assign,body,defers:=w.heap.size }:=⟨_,rfl⟩;obtain ⟨W1,hW1⟩:∃ W1,(w.alloc (.deferred (some []))).alloc (.loop (rec .ready none))=W1:=⟨_,rfl⟩;have hL1:W1.heap[w.heap.size+1]? = some (.loop (rec .ready none)):=by
  rw [<- hW1];have:=World.alloc_heap_new (w.alloc (.deferred (some []))) (.loop (rec .ready none));rwa [World.size_alloc] at this
 have hK1:W1.heap[w.heap.size]? = some (.deferred (some [])):=by
  rw [<- hW1];exact (Below.heap_alloc _ _ _ sq_).trans (World.alloc_heap_new w _)
 have hI1:I [] W1:=by rw [<- hW1];exact hI.alloc _ (hI.alloc _ h0)
 have hb1:Below w.heap.size w W1:=by
  rw [<- hW1];exact (((Below.refl _ w).alloc (Nat.le_refl _) _).alloc sq_ _)
 refine ⟨w.heap.size+1,[{ target:=.collected w.heap.size,args:=#[] }],W1,{ target:=.fn (.func gf) lb,args:=#[.func (.yield (w.heap.size+1)) #[] #[]] },W1,gf,
  #[.func (.yield (w.heap.size+1)) #[] #[]] ++ lb,W1,?_,?_,?_,?_,(fun h=>by cases h),?_⟩
 ·rw [<- hW1,hrec];exact run_enterLoop_outer _ _ _ _ _
 ·simp only [resolve,hg];simp [go_sem]
 ·intro f' _;trivial
 ·simp [invoke,go_sem,eg]
 ·have hkeep:∀ {A B:World} {row:Option Nat} {l:Nat} {o:Obj},A.grownBy B row->(∀ r,row=some r->x=some r∧∃ o:Obj,A.heap[r]? = some o∧o.isCells=true)->A.heap[l]? = some o->o.isCells=false->B.heap[l]? = some o:=
   fun {A B row l o} hg' hr hl ho=>by
    refine (hg'.block l (Array.getElem?_eq_some_iff.1 hl).1 fun e=>?_).trans hl;obtain ⟨_,o2,ho2,hc⟩:=hr l e.symm;rw [hl] at ho2;cases ho2;rw [ho] at hc;cases hc
  refine (hseq (w.heap.size+1)
   (fun pre W=>I pre W∧W.heap[w.heap.size+1]? = some (.loop (rec .ready none))∧W.heap[w.heap.size]? = some (.deferred (some [])))
   W1 hb1
   (fun s A B row hs hg' hr=>⟨hI s A B row hs.1 hg' (fun r e=>.inl (hr r e)),hkeep hg' hr hs.2.1 rfl,hkeep hg' hr hs.2.2 rfl⟩)
   ?_ ⟨hI1,hL1,hK1⟩).mono ?_
  ·rintro pre y W ⟨hi,hl,hk⟩ hlen;have hlt:w.heap.size+1<W.heap.size:=(Array.getElem?_eq_some_iff.1 hl).1;have hy:=run_yield (P:=P) (args:=encs y) hl (by rw [hrec];exact hps y);rw [hrec] at hy;refine ⟨fn,_,assign,body,hy,roundIn_of_wpIn hfn (hassign _ y W _ ?_)⟩;clear hy;refine ⟨_,run_beginRound hl (by rw [hrec]),?_⟩;have hl2:(W.putObj (w.heap.size+1) (.loop { rec .ready none with state:=.busy })).heap[w.heap.size+1]? = some (.loop { rec .ready none with state:=.busy }):=World.putObj_heap_same hlt;have hk2:(W.putObj (w.heap.size+1) (.loop { rec .ready none with state:=.busy })).heap[w.heap.size]? = some (.deferred (some [])):=(World.putObj_heap_other oq_).trans hk;have hw2:Kp W (W.putObj (w.heap.size+1) (.loop { rec .ready none with state:=.busy })):=hKb _ _ _ _ oq_ hl rfl;refine wpIn_mono (hbody _ pre y _ (hI.putObj _ hi oq_ hl rfl) (hEy _ _ _ _ _ _ hl rfl hlen)) ?_;have fin:∀ (jump:Option Code) (W3:World),KeepsFrom w.heap.size (W.putObj (w.heap.size+1) (.loop { rec .ready none with state:=.busy })) W3->
     (Instr.endRound (w.heap.size+1) jump).run P W3=.ok (.bool jump.isNone) (W3.putObj (w.heap.size+1) (.loop (rec (if jump.isNone then .ready else .done) jump)))∧
     W3.heap[w.heap.size+1]? = some (.loop { rec .ready none with state:=.busy })∧
     (W3.putObj (w.heap.size+1) (.loop (rec (if jump.isNone then .ready else .done) jump))).heap[w.heap.size+1]? = some (.loop (rec (if jump.isNone then .ready else .done) jump))∧
     (W3.putObj (w.heap.size+1) (.loop (rec (if jump.isNone then .ready else .done) jump))).heap[w.heap.size]? = some (.deferred (some [])):=fun jump W3 hk3=>by
    have hl3:=hk3.same _ _ oq_ hl2 rfl;have:=run_endRound (P:=P) jump hl3;rw [hrec] at this ⊢;exact ⟨this,by rw [hrec] at hl3;exact hl3,World.putObj_heap_same (Array.getElem?_eq_some_iff.1 hl3).1,(World.putObj_heap_other oq_).trans (hk3.same _ _ (Nat.le_refl _) hk2 rfl)⟩
   rintro e a3 W3 hp;cases e with
   | normal=>
    obtain ⟨hk3,hkp3,hi3⟩:=hp;obtain ⟨hr,hl3,hl4,hk4⟩:=fin none W3 hk3;exact ⟨_,_,hr,rfl,⟨hI.putObj _ hi3 oq_ hl3 rfl,hl4,hk4⟩,hKt (hKt hw2 hkp3) (hKb _ _ _ _ oq_ hl3 rfl)⟩
   | _=>exact hp.elim
  ·rintro e W2 ⟨⟨v,rfl⟩,xs,hS,hi,hl,hk⟩;exact ⟨none,_,by have:=run_endLoop (P:=P) hl (by rw [hrec];simp);rw [hrec] at this;exact this,hdone _ xs _ (Nat.le_refl _) hS (hI.putObj _ hi oq_ hl rfl) ((World.putObj_heap_other oq_).trans hk)⟩
end Go
section
variable {F P a at_ b d r s x y:Int}{m:List (List Kal.Per)}{l:List Int}{L:List Go.Proofs.YtkclokcenllhmaaGreat.PV}{t:List Kal.Per}{cs xs:List Go.Value}{B ab c cap g i j k n:Nat}{o':Go.Obj}{o:Go.Oper}{row:Option Nat}{p:Kal.Per}{u v v':Go.Value}{A C W W' w w':Go.World}
namespace Go.Proofs.YtkclokcenllhmaaGreat
open Go.RowKit Go.Shelf Kal
attribute [local go_sem] Oper.semAt_some
theorem RowR.keep2 {F:Nat->Prop} (h:RowR W F v n cs) (hk:a3_ F W W'):RowR W' F v n cs:=by
 obtain ⟨a,c,rfl,h1,h2,h3⟩:=h;refine ⟨a,c,rfl,h1,h2,h3.imp id ?_⟩;rintro ⟨b,o,rfl,hF,hl,hc⟩;refine ⟨b,o,rfl,hF,?_,fun i u hi=>(World.cell?_of_block (hk b hF hl)).trans (hc i u hi)⟩;have h1:=hk b hF hl;rw [Array.getElem?_eq_getElem hl] at h1;exact (Array.getElem?_eq_some_iff.1 h1).1
theorem b9_.keep2 {F:Nat->Prop} (h:b9_ W F v L) (hk:a3_ F W W'):b9_ W' F v L:=⟨h.row.keep2 hk,h.len,fun x hx=>(h.all x hx).keep hk⟩
theorem ag_.keep2 {F:Nat->Prop} (h:ag_ W F v t) (hk:a3_ F W W'):ag_ W' F v t:=by
 obtain ⟨L,e,g⟩:=h;exact ⟨L,e,g.keep2 hk⟩
theorem MixL.keep2 {F:Nat->Prop} {L:List (Value × List Per)} (h:MixL W F v L) (hk:a3_ F W W'):MixL W' F v L:=⟨h.row.keep2 hk,h.len,fun x hx=>(h.all x hx).keep2 hk⟩
def dx_ (W:World) (b:Nat):Prop:=∃ o:Obj,W.heap[b]? = some o∧o.isCells=true
theorem fw_ {b o:Nat} (h:W.cell? ⟨b,o,none⟩=some u):dx_ W b:=by
 unfold World.cell? at h;cases hb:W.heap[b]? with
 | none=>simp [hb] at h
 | some x=>
  simp only [hb] at h;cases x with
  | cells c t f=>exact ⟨_,hb,rfl⟩
  | _=>simp at h
theorem Ints.cellB (h:Ints W v l) (hl:l≠[]) (hk:v.ownBlock=some k):dx_ W k:=by
 obtain ⟨⟨a,c,rfl,h1,h2,h3⟩,h4,h5⟩:=h;rcases h3 with h3|⟨b,o,rfl,hc⟩
 ·exact absurd h3 hl
 ·simp [Value.ownBlock] at hk;subst hk;exact fw_ (hc 0 (List.length_pos_iff.2 hl))
theorem PVok.cellB {F:Nat->Prop} {x:PV} (h:PVok W F x):PVok W (dx_ W) x:=
 ⟨h.is,h.fr,h.pe,fun e k hk=>h.is.hd.cellB e hk,fun e k hk=>h.is.cy.cellB e hk⟩
theorem b9_.cellB {F:Nat->Prop} (h:b9_ W F v L):b9_ W (dx_ W) v L:=by
 refine ⟨?_,h.len,fun x hx=>(h.all x hx).cellB⟩;obtain ⟨a,c,rfl,h1,h2,h3⟩:=h.row;refine ⟨a,c,rfl,h1,h2,?_⟩;by_cases hL:L.length=0
 ·exact .inl hL
 ·rcases h3 with h3|⟨b,o,rfl,hb,hl,hc⟩
  ·exact .inl h3
  ·exact .inr ⟨b,o,rfl,fw_ (hc (0*4+0) _ (c7_ oq_ rfl)),hl,hc⟩
theorem ag_.put {F:Nat->Prop} {l:Nat} {o:Obj} (h:ag_ W F v t) (hl:W.heap[l]? = some o) (ho:o.isCells=false):ag_ (W.putObj l o') (dx_ W) v t:=by
 obtain ⟨L,e,g⟩:=h;refine ⟨L,e,g.cellB.keep2 fun b hb _=>World.putObj_heap_other ?_⟩;obtain ⟨x,hx,hc⟩:=hb;rintro rfl;rw [hl] at hx;cases hx;rw [ho] at hc;cases hc
def tenc (y:Value × List Per):Array Value:=#[y.1]
def EyT (T:List (List Per)) (pre:List (Value × List Per)) (y:Value × List Per) (W:World):Prop:=(∃ r,T=pre.map Prod.snd ++ y.2 :: r)∧∃ F,ag_ W F y.1 y.2
def FinT (T:List (List Per)) (xs:List (Value × List Per)):Prop:=xs.map Prod.snd=T
def vs_ (g:Nat) (lb:Array Value) (T:List (List Per)) (w:World):Prop:=
 (∀ args w,(callFunc g args).run Tryz.prog w=.ok (.enter g args) w)∧∀ W,Below w.heap.size w W->SeqY Tryz.prog g lb tenc (KpB fun k=>k<w.heap.size) none (EyT T) (FinT T) W
theorem qt_ (v:Value) (w:World) (hv:∃ a n c,v=.slice a n c) :
  Calls Tryz.prog 180 #[v] w fun e w'=>e=.returned (.func (.func 226) #[] #[.pointer (some ⟨w.heap.size,0,none⟩)])∧w'=w.alloc (.cells #[v] 126):=by
 obtain ⟨a,n,c,rfl⟩:=hv
 go_enter Tryz.func180,Tryz.ntmps180
 go_wp2;go_ret;exact ⟨rfl,rfl⟩
theorem lf_ {L:List (Value × List Per)} {T:List (List Per)} (hT:L.map Prod.snd=T) (hk:k<L.length):T=T.take k ++ (L.getD k default).2 :: T.drop (k+1)∧T.take (k+1)=T.take k ++ [(L.getD k default).2]:=by
 subst hT;have h1:k<(L.map Prod.snd).length:=by simpa using hk
 have h2:(L.getD k default).2=(L.map Prod.snd)[k]:=by simp [List.getD_eq_getElem?_getD,hk]
 rw [h2];exact ⟨by rw [<- List.drop_eq_getElem_cons h1,List.take_append_drop],List.take_succ_eq_append_getElem h1⟩
theorem qu_ (F:Nat->Prop) (v:Value) (T:List (List Per)) (b:Nat) (w:World) (hm:MixR w F v T) (hb:w.cell? ⟨b,0,none⟩=some v) :
  vs_ 226 #[.pointer (some ⟨b,0,none⟩)] T w:=by
 refine ⟨enters_of Tryz.func226 (by kernel_rfl) rfl,fun W0 hW0=>?_⟩;obtain ⟨L,hLT,hL⟩:=hm;intro l' J W hW hJ hY hJ0;have hlt:=World.block_lt_of_cell? w _ hb;have hWw:Below w.heap.size w W:=hW0.trans (hW.mono hW0.size);have hb1:=Ext.cell hWw hb;obtain ⟨a1,c1,rfl,hx1,hx2,_⟩:=hL.row.is;have hl1:=hL.len;have HL:Hid (∀ wr,KpB (fun k=>k<w.heap.size) W wr->MixL wr (fun b=>F b∧b<w.heap.size) (.slice a1 L.length c1) L):=hq_ fun wr h=>hL.lt.keep2 fun b hb _=>(h b hb.2).trans (hWw.block b hb.2);have HLT:=hq_ hLT;have HJ:=hq_ hJ;have HY:=hq_ hY;clear hL hLT hJ hY hb;refine callsIn_of_wp Tryz.func226 rfl trivial ?_ rfl;simp only [Tryz.ntmps226,List.size_toArray,List.length_cons,List.length_nil,Nat.reduceAdd,Nat.reduceSub,Array.replicate_succ,Array.replicate_zero,List.push_toArray,List.append_toArray,List.nil_append,List.cons_append];gi_wp2_with fail
 gi_loopw [4,7] (fun _ i wr=>∃ (k:Nat) (pre:List (Value × List Per)),k≤L.length∧i=.int .i64 k∧Hid (pre.map Prod.snd=T.take k)∧J pre wr∧KpB (fun k=>k<w.heap.size) W wr) (fun _ i _=>L.length-(intOf i).toNat)
 case atStart=>exact ⟨0,[],oq_,rfl,hq_ rfl,hJ0,fun _ _=>rfl⟩
 case round=>
  obtain ⟨k,pre,hk,rfl,HP,hJw,hK⟩:=hrel;have HK:=hq_ hK;have HJW:=hq_ hJw;have hml:=HL.out wr hK;clear hK hJw;by_cases hlt2:k<L.length
  ·have hlI:(k:Int)<L.length:=oq_;obtain ⟨a',c',he,_,_,h3⟩:=hml.row.is;injection he with e1 e2 e3
   subst e1;subst e3;rcases h3 with h0|⟨b8,f8,rfl,hF,hb8,hcell⟩
   ·omega
   have e0:wr.cell? ⟨b8,f8+k,none⟩=some (L.getD k default).1:=hcell k _ (by rw [List.getElem?_map,List.getD_eq_getElem?_getD,List.getElem?_eq_getElem hlt2];rfl);have hyt:=hml.all _ (ac_ (d:=default) hlt2);obtain ⟨t1,t2⟩:=lf_ HLT.out hlt2;have T2:=hq_ t2;generalize L.getD k default=y at *;have hEy:EyT T pre y wr:=⟨⟨_,by rw [HP.out];exact t1⟩,_,hyt⟩;obtain ⟨fn,tmps,assign,body,hyy,hR⟩:=HY.out pre y wr HJW.out hEy;clear hcell hyt t1 t2 hEy hml;unfold tenc at hyy
   gi_wp2
   refine ⟨rfl,hR.mono ?_⟩;rintro e W' ⟨rfl,hJ',hk'⟩
   gi_wp2
   go_roundw
   case rel=>exact ⟨k+1,pre ++ [y],oq_,by go_num,hq_ (by rw [List.map_append,HP.out,T2.out];rfl),hJ',HK.out.trans hk'⟩
   case measure=>simp [intOf];omega
  ·obtain rfl:k=L.length:=oq_;clear hml
   gi_wp2
   refine bodyPost_end (results_none rfl _ _ _) rfl ?_;refine ⟨⟨_,rfl⟩,pre,?_,HJW.out⟩;show _=T;rw [HP.out,<- HLT.out,List.take_of_length_le sq_]
end Go.Proofs.YtkclokcenllhmaaGreat
namespace Go.Proofs.YtkclokcenllhmaaGreat
open Go.RowKit Go.Maps Kal
def RowF (B:Nat) (A:Nat->Prop) (v:Value) (b:Nat):Prop:=B≤b∧¬ A b∧v.ownBlock≠some b
structure RowT (B:Nat) (A:Nat->Prop) (W:World) (v:Value) (L:List (Value × List Per)):Prop where
 row:W.ownsRow B 158 1 v L.length (L.map Prod.fst)
 all:∀ x∈L,ag_ W (RowF B A v) x.1 x.2
 ne:∀ g,v.ownBlock=some g->¬ A g
 len:L.length≤1000000
theorem RowT.nil (B:Nat) (A:Nat->Prop) (W:World):RowT B A W (.slice none 0 0) []:=⟨World.ownsRow_nil W B 158 1,sq_,by simp [Value.ownBlock],sq_⟩
theorem RowT.form {A:Nat->Prop} {L:List (Value × List Per)} (h:RowT B A W v L):∃ a c,v=.slice a L.length c∧L.length≤c∧c≤9223372036854775807∧(L.length=0∨∃ g,a=some ⟨g,0,none⟩):=by
 obtain ⟨_,⟨rfl,h2⟩|⟨g,cap,cur,rfl,_,_,h3,h4,_⟩⟩:=h.row
 ·exact ⟨none,0,by rw [h2],oq_,oq_,.inl h2⟩
 ·exact ⟨_,cap,rfl,h3,h4,.inr ⟨g,rfl⟩⟩
theorem RowT.below {A:Nat->Prop} {L:List (Value × List Per)} (h:RowT B A W v L) (hb:Below W.heap.size W W'):RowT B A W' v L:=
 ⟨h.row.kept (row:=none) (World.grownBy.of_below hb _) (by cases v.ownBlock <;> simp),fun x hx=>(h.all x hx).ext hb,h.ne,h.len⟩
theorem RowT.box {A:Nat->Prop} {L:List (Value × List Per)} (h:RowT B A W v L) (hg:W.grownBy W' (some k)) (hA:A k):RowT B A W' v L:=
 ⟨h.row.kept hg (.inr fun e=>h.ne k e hA),fun x hx=>(h.all x hx).keep (a3_.grown hg fun hf=>hf.2.1 hA) hg.size,h.ne,h.len⟩
theorem RowT.push {A:Nat->Prop} {L:List (Value × List Per)} {y:Value × List Per} (h:RowT B A W v L) (hy:ag_ W (RowF B A v) y.1 y.2) (hr:W'.ownsRow B 158 1 v' (L.length+1) (L.map Prod.fst ++ [y.1])) (hg:W.grownBy W' v.ownBlock)
  (hb:v'.ownBlock=v.ownBlock∨v'.ownBlock=some W.heap.size) (hA:¬ A W.heap.size) (hl:L.length<1000000):RowT B A W' v' (L ++ [y]):=by
 have key:∀ {u:Value} {t:List Per},ag_ W (RowF B A v) u t->ag_ W' (RowF B A v') u t:=fun ht=>by
  refine (ht.lt.keep (fun b hb hl=>hg.block b hl fun e=>hb.1.2.2 e.symm) hg.size).mono fun b hb'=>⟨hb'.1.1,hb'.1.2.1,?_⟩;rcases hb with e|e
  ·rw [e];exact hb'.1.2.2
  ·rw [e];rintro ⟨⟩;have:=hb'.2;omega
 refine ⟨by rw [List.length_append,List.map_append];exact hr,fun x hx=>?_,fun g hg'=>?_,tq_⟩
 ·rcases List.mem_append.1 hx with hx|hx
  ·exact key (h.all x hx)
  ·obtain rfl:x=y:=by simpa using hx
   exact key hy
 ·rcases hb with e|e
  ·exact h.ne g (e ▸ hg')
  ·rw [e] at hg';cases hg';exact hA
theorem RowT.get {A:Nat->Prop} {L:List (Value × List Per)} (h:RowT B A W v L) (hv:v=.slice (some ⟨g,0,none⟩) n c) (hk:k<L.length) :
  ag_ W (RowF B A v) (L.getD k default).1 (L.getD k default).2∧W.cell? ⟨g,k,none⟩=some (L.getD k default).1∧∀ i,W.frozen? ⟨g,i,none⟩=false:=by
 have hn:n=L.length:=by
  obtain ⟨_,_,e,_⟩:=h.form;rw [hv] at e;cases e;rfl
 subst hn;subst hv;refine ⟨h.all _ (ac_ hk),(h.row.cellAt k oq_).trans ?_,fun i=>h.row.frozenAt i⟩;rw [List.getElem?_map,List.getD_eq_getElem?_getD,List.getElem?_eq_getElem hk];rfl
theorem ag_.one {F:Nat->Prop} (h:ag_ W F v t):v.oneCell'=true:=by
 obtain ⟨L,_,hL⟩:=h;obtain ⟨a,c,rfl,_⟩:=hL.row.is;rfl
theorem RowT.mix {A:Nat->Prop} {L:List (Value × List Per)} (h:RowT B A W v L):MixL W (fun b=>B≤b) v L:=by
 refine ⟨?_,by have:=h.len;omega,fun x hx=>(h.all x hx).mono fun b hb=>hb.1⟩;obtain ⟨hl,⟨rfl,h2⟩|⟨g,cap,cur,rfl,hb,hg,h3,h4,h5,h6⟩⟩:=h.row
 ·rw [h2];exact ⟨none,0,rfl,oq_,oq_,.inl rfl⟩
 ·refine ⟨_,cap,rfl,h3,h4,.inr ⟨g,0,rfl,hb,(h.row.lt g rfl).2,fun i u hi=>?_⟩⟩;rw [Nat.zero_add];have:=(List.getElem?_eq_some_iff.1 hi).1;rw [List.length_map] at this;exact (h.row.cellAt i oq_).trans hi
end Go.Proofs.YtkclokcenllhmaaGreat
namespace Go.Proofs.YtkclokcenllhmaaGreat
open Go.RowKit Go.Shelf Go.Maps Kal
attribute [local go_sem] Oper.semAt_some
structure fp_ (s:Int) (t:List Per):Prop where
 ne:t≠[]
 fv:∀ p∈t,FV s p
 len:t.length≤1000000
theorem fp_.f (h:fp_ s t):vr_ s t:=⟨h.ne,fun p hp=>(h.fv p hp).fac⟩
theorem Bxx.c0 {b:Nat} {t:TypeId} (h:Bxx w b #[v] t):w.cell? ⟨b,0,none⟩=some v:=(h.cells 0).1
theorem EyT.put {T:List (List Per)} (pre:List (Value × List Per)) (y:Value × List Per) (W:World) (l:Nat) (o o':Obj) (hl:W.heap[l]? = some o) (ho:o.isCells=false) (h:EyT T pre y W):EyT T pre y (W.putObj l o'):=
 ⟨h.1,_,(h.2.choose_spec).put hl ho⟩
theorem hw_ {ops:Array Oper} {rest:List Oper} {a:Act} {Q:Exit->Act->World->Prop} (hgd:o.guard=none) (sx x:Operand)
  (ho:o.op=.call { callee:=.builtin .append,args:=#[sx,x],argTypes:=#[126,126] }) (B:Nat) (A:Nat->Prop) (v:Value) (L:List (Value × List Per)) (y:Value × List Per) (hs:a.eval sx=v) (h:RowT B A w v L)
  (hy:ag_ w (RowF B A v) y.1 y.2) (blk c:Nat) (hx:a.eval x=.slice (some ⟨blk,0,none⟩) 1 c) (hnew:w.cell? ⟨blk,0,none⟩=some y.1) (hA:¬ A w.heap.size) (hl:L.length<1000000) (hB:B≤w.heap.size)
  (k:∀ (a':Option Addr) (c':Nat) (w':World),RowT B A w' (.slice a' (L.length+1) c') (L ++ [y])->w.grownBy w' v.ownBlock->Below B w w'->((Value.slice a' (L.length+1) c').ownBlock=v.ownBlock∨(Value.slice a' (L.length+1) c').ownBlock=some w.heap.size)->wpList Tryz.prog ops Q rest (a.put o.dst (.slice a' (L.length+1) c')) w') :
  wpList Tryz.prog ops Q (o :: rest) a w:=by
 obtain ⟨i,hi,h1,h2,h3⟩:=n2_;refine wpList_append_own_at w hgd sx x 126 ho B 158 i (.slice none 0 0) 1 24 rfl hi h1 h2 h3 rfl oq_ v L.length (L.map Prod.fst) hs h.row ⟨blk,0,none⟩ 1 c [y.1] hx rfl ?_ (by simp;exact hy.one) (by unfold maxLen;omega) oq_ hB ?_
 ·intro j u hu
  match j,hu with
  | 0,hu=>simp at hu;subst hu;exact hnew
 ·intro v' w' hown' hgrow _ hb;have hp:=h.push hy hown' hgrow hb hA hl;obtain ⟨a',c',rfl,_⟩:=hp.form;have e:(L ++ [y]).length=L.length+1:=by simp
  rw [e] at hp hb ⊢;exact k a' c' w' hp hgrow ((Below.refl B w).grown hgrow hB fun k e=>(h.row.lt k e).1) hb
theorem KeepsOthers.of_below (h:Below A.heap.size A C):KeepsOthers A C:=⟨h.size,fun k o hk _=>(h.block k (Array.getElem?_eq_some_iff.1 hk).1).trans hk⟩
end Go.Proofs.YtkclokcenllhmaaGreat
namespace Go.Proofs.YtkclokcenllhmaaGreat
open Go.RowKit Go.Maps Kal
theorem MixR.form {F:Nat->Prop} (h:MixR W F v m):∃ a c,v=.slice a m.length c:=by
 obtain ⟨L,rfl,hL⟩:=h;obtain ⟨a,c,rfl,_⟩:=hL.row.is;exact ⟨a,c,by rw [List.length_map]⟩
structure MV (s:Int) (m:List (List Per)):Prop where
 val:ak_ m=true
 vt:∀ t∈m,fp_ s t
end Go.Proofs.YtkclokcenllhmaaGreat
namespace Go.Proofs.YtkclokcenllhmaaGreat
open Go.RowKit Go.Shelf Kal
attribute [local go_sem] Oper.semAt_some
theorem MixL.at {F:Nat->Prop} {L:List (Value × List Per)} (h:MixL W F v L) (hk:k<L.length):∃ b o c a n c' x,v=.slice (some ⟨b,o,none⟩) L.length c∧W.cell? ⟨b,o+k,none⟩=some (.slice a n c')∧ag_ W F (.slice a n c') x∧(L.map Prod.snd)[k]? = some x:=by
 obtain ⟨a',c,rfl,_,_,h3⟩:=h.row.is;rcases h3 with h0|⟨b,o,rfl,hF,hb,hcell⟩
 ·omega
 have hyt:=h.all _ (ac_ (d:=default) hk);obtain ⟨a,c',e,_⟩:=hyt.form;refine ⟨b,o,c,a,_,c',(L.getD k default).2,rfl,?_,by rw [<- e];exact hyt,by rw [List.getElem?_map,List.getD_eq_getElem?_getD,List.getElem?_eq_getElem hk];rfl⟩;rw [<- e];exact hcell k _ (by rw [List.getElem?_map,List.getD_eq_getElem?_getD,List.getElem?_eq_getElem hk];rfl)
end Go.Proofs.YtkclokcenllhmaaGreat
namespace Go.Proofs.YtkclokcenllhmaaGreat
open Go.RowKit Go.Maps Kal
theorem tc_ (h:fp_ s t):az_ t=true↔t.length≤4:=by
 unfold az_;rw [Bool.and_eq_true,Bool.and_eq_true,decide_eq_true_iff,decide_eq_true_iff,List.all_eq_true];exact ⟨fun g=>g.1.2,fun g=>⟨⟨List.length_pos_iff.2 h.ne,g⟩,fun p hp=>(h.fv p hp).validB⟩⟩
theorem tb_ (h:∀ t∈m,fp_ s t):ak_ m=true↔lu_ m:=by
 unfold ak_ lu_;rw [Bool.and_eq_true,decide_eq_true_iff,List.all_eq_true];exact and_congr Iff.rfl (forall_congr' fun t=>forall_congr' fun ht=>tc_ (h t ht))
end Go.Proofs.YtkclokcenllhmaaGreat
namespace Kal
structure InvS (a m x y u v:Int) (U V:Int):Prop where
 x1:1≤x
 xy:x<y
 ym:y≤m
 gu:m∣a*u-x
 gv:m∣a*v-y
 cop:Int.gcd x y=1
 u1:-U≤u∧u≤U
 v1:-V≤v∧v≤V
 pos:0≤U∧0≤V
 le:x*V+y*U≤m
theorem InvS.start {m:Int} (ha:0≤a) (hm:2≤m) (h:Int.gcd a m=1):InvS a m (a % m) m 1 0 1 0:=by
 have h0:=Int.emod_nonneg a (show m≠0 by omega);have h1:=Int.emod_lt_of_pos a (show 0<m by omega);have hg:Int.gcd (a % m) m=1:=by rw [ih_ ha oq_];exact h
 refine ⟨?_,h1,oq_,?_,⟨-1,oq_⟩,hg,oq_,oq_,oq_,oq_⟩
 ·rcases Int.lt_or_le 0 (a % m) with h2|h2
  ·omega
  ·have e:a % m=0:=oq_;rw [e,Int.gcd_zero_left] at hg;omega
 ·rw [Int.mul_one];exact ax_ (Int.emod_emod_of_dvd a (Int.dvd_refl m)).symm
theorem InvS.step {m u v U V:Int} (h:InvS a m x y u v U V) (hx:1<x) :
  InvS a m (y-y / x*x) x (v-y / x*u) u (V+y / x*U) U∧0≤y / x∧y / x≤y∧y / x*x≤y∧0≤y / x*x∧-m≤y / x*u∧y / x*u≤m∧-m≤v-y / x*u∧v-y / x*u≤m:=by
 obtain ⟨x1,xy,ym,gu,gv,cop,u1,v1,pos,le⟩:=h;have e0:=Int.emod_nonneg y (show x≠0 by omega);have e1:=Int.emod_lt_of_pos y (show 0<x by omega);have em:y-y / x*x=y % x:=by have:=Int.emod_def y x;rw [Int.mul_comm] at this;omega
 have q0:0≤y / x:=Int.ediv_nonneg oq_ oq_;have qy:y / x≤y:=Int.ediv_le_self x oq_;have hr1:1≤y % x:=by
  rcases Int.lt_or_le 0 (y % x) with h2|h2
  ·omega
  ·have e:y % x=0:=oq_;have hd:x∣y:=Int.dvd_of_emod_eq_zero e;have h3:((Int.gcd x y:Nat):Int)=x:=(Int.gcd_eq_left_iff_dvd oq_).2 hd;omega
 generalize y / x=q at *;have a1:q*u≤q*U:=Int.mul_le_mul_of_nonneg_left u1.2 q0;have a2:q*(-U)≤q*u:=Int.mul_le_mul_of_nonneg_left u1.1 q0;rw [Int.mul_neg] at a2;have a3:q*U≤y*U:=Int.mul_le_mul_of_nonneg_right qy pos.1;have a4:0≤q*U:=Int.mul_nonneg q0 pos.1;have a5:V≤x*V:=by
  have:=Int.mul_le_mul_of_nonneg_right x1 pos.2;omega
 have a6:0≤x*V:=Int.mul_nonneg oq_ pos.2;have a7:0≤q*x:=Int.mul_nonneg q0 oq_;refine ⟨⟨oq_,oq_,oq_,?_,gu,?_,oq_,u1,oq_,?_⟩,q0,qy,oq_,a7,oq_,oq_,oq_,oq_⟩
 ·have:a*(v-q*u)-(y-q*x)=(a*v-y)-q*(a*u-x):=by
   rw [Int.mul_sub,Int.mul_sub,Int.mul_left_comm q a u];omega
  rw [this];exact Int.dvd_sub gv (Int.dvd_trans gu (Int.dvd_mul_left _ _))
 ·rw [em,ih_ oq_ oq_,Int.gcd_comm];exact cop
 ·have b1:(y-q*x)*U=y*U-q*x*U:=Int.sub_mul _ _ _;have b2:x*(V+q*U)=x*V+q*x*U:=by rw [Int.mul_add,<- Int.mul_assoc,Int.mul_comm x q]
  rw [b1,b2];omega
theorem InvS.fin {m u v U V:Int} (h:InvS a m x y u v U V) (hx:¬ 1<x) (hm:2≤m) :
  -m≤u∧u≤m∧u.tmod m % m=u % m∧-m<u.tmod m∧u.tmod m<m∧m∣a*(u % m)-1:=by
 obtain ⟨x1,xy,ym,gu,gv,cop,u1,v1,pos,le⟩:=h;obtain rfl:x=1:=oq_;have a1:U≤y*U:=by
  have:=Int.mul_le_mul_of_nonneg_right (show (1:Int)≤y by omega) pos.1;omega
 have t1:=Int.tmod_lt_of_pos u (show 0<m by omega);have t2:=Int.lt_tmod_of_pos u (show 0<m by omega);refine ⟨oq_,oq_,?_,t2,t1,?_⟩
 ·have hd:m∣u.tmod m-u:=by
   have:=Int.mul_tdiv_add_tmod u m;exact ⟨-(u.tdiv m),by rw [Int.mul_neg];omega⟩
  exact ay_ hd
 ·have hd:m∣u % m-u:=ax_ (Int.emod_emod_of_dvd u (Int.dvd_refl m));have e:a*(u % m)-1=a*(u % m-u)+(a*u-1):=by rw [Int.mul_sub];omega
  rw [e];exact Int.dvd_add (Int.dvd_trans hd (Int.dvd_mul_left _ _)) gu
def xq_ (a m r:Int):Prop:=0≤r∧r<m∧m∣a*r-1
theorem os_ {step:Int} (h:(r-at_) % ((Int.gcd step P:Nat):Int)≠0):bn_ at_ step r P 0 0 false:=by
 refine .inr ⟨rfl,rfl,rfl,fun x ⟨h1,h2⟩=>h ?_⟩;have d1:((Int.gcd step P:Nat):Int)∣x-at_:=Int.dvd_trans (Int.gcd_dvd_left ..) (ax_ h1);have d2:((Int.gcd step P:Nat):Int)∣x-r:=Int.dvd_trans (Int.gcd_dvd_right ..) (ax_ h2);have:r-at_=(x-at_)-(x-r):=oq_;rw [this];exact Int.emod_eq_zero_of_dvd (Int.dvd_sub d1 d2)
theorem un_ {step:Int} (hs:1≤step) (h0:0≤at_) (h1:at_<step) (hP:1≤P) (h:(r-at_) % ((Int.gcd step P:Nat):Int)=0) (hn:P / ((Int.gcd step P:Nat):Int)=1):bn_ at_ step r P at_ step true:=by
 have hd:((Int.gcd step P:Nat):Int)∣P:=Int.gcd_dvd_right ..;have e:((Int.gcd step P:Nat):Int)=P:=by
  have:=Int.ediv_mul_cancel hd;rw [hn] at this;omega
 have el:lcmI step P=step:=by
  unfold lcmI;rw [e];exact Int.ediv_mul_cancel (by have:((Int.gcd step P:Nat):Int)∣step:=Int.gcd_dvd_left ..;rwa [e] at this)
 refine .inl ⟨rfl,el.symm,h0,by rw [el];exact h1,rfl,?_⟩;rw [e] at h;exact (ay_ (Int.dvd_of_emod_eq_zero h)).symm
theorem uo_ {step inv:Int} (hs:1≤step) (h0:0≤at_) (h1:at_<step) (hP:1≤P) {g n:Int} (hg:g=((Int.gcd step P:Nat):Int)) (hn:n=P / g) (h:(r-at_) % g=0) (hi:n∣step / g*inv-1) :
  bn_ at_ step r P (at_+((r-at_) / g % n*inv) % n*step) (step*n) true∧lcmI step P=step*n:=by
 have hgl:g∣step:=by rw [hg];exact Int.gcd_dvd_left ..
 have hgr:g∣P:=by rw [hg];exact Int.gcd_dvd_right ..
 have hg1:1≤g:=by rw [hg];have:=Int.gcd_pos_of_ne_zero_left P (show step≠0 by omega);omega
 have el:lcmI step P=step*n:=by
  unfold lcmI;rw [<- hg,hn];have a1:=Int.ediv_mul_cancel hgl;have a2:=Int.ediv_mul_cancel hgr
  calc step / g*P=step / g*(P / g*g):=by rw [a2]
   _=(step / g*g)*(P / g):=by rw [Int.mul_comm (P / g) g,<- Int.mul_assoc]
   _=step*(P / g):=by rw [a1]
 have hn1:1≤n:=by
  rw [hn];have a2:=Int.ediv_mul_cancel hgr;rcases Int.lt_or_le 0 (P / g) with h2|h2
  ·omega
  ·have:=Int.mul_le_mul_of_nonneg_right h2 (show 0≤g by omega);omega
 refine ⟨.inl ⟨rfl,el.symm,?_⟩,el⟩;generalize hk:((r-at_) / g % n*inv) % n=k;have k0:0≤k:=by rw [<- hk];exact Int.emod_nonneg _ oq_
 have k1:k<n:=by rw [<- hk];exact Int.emod_lt_of_pos _ oq_
 have b0:0≤k*step:=Int.mul_nonneg k0 oq_;refine ⟨oq_,?_,?_,?_⟩
 ·rw [el];have:(k+1)*step≤n*step:=Int.mul_le_mul_of_nonneg_right oq_ oq_;rw [Int.add_mul,Int.one_mul,Int.mul_comm n step] at this;omega
 ·rw [Int.add_mul_emod_self_right]
 ·apply ay_;obtain ⟨w,hw⟩:=Int.dvd_of_emod_eq_zero h;have ew:(r-at_) / g=w:=by rw [hw];exact Int.mul_ediv_cancel_left _ oq_
  rw [ew] at hk;have a1:=Int.ediv_mul_cancel hgl;generalize step / g=t at *;have d1:n∣k-w*inv:=by
   have e1:k % n=(w*inv) % n:=by rw [<- hk,Int.emod_emod_of_dvd _ (Int.dvd_refl n),Int.mul_emod,Int.emod_emod_of_dvd _ (Int.dvd_refl n),<- Int.mul_emod]
   exact ax_ e1
  have d2:n∣k*t-w:=by
   have e:k*t-w=(k-w*inv)*t+w*(t*inv-1):=by
    rw [Int.sub_mul,Int.mul_sub,Int.mul_one,Int.mul_comm t inv,<- Int.mul_assoc];omega
   rw [e];exact Int.dvd_add (Int.dvd_trans d1 (Int.dvd_mul_right _ _)) (Int.dvd_trans hi (Int.dvd_mul_left _ _))
  obtain ⟨z,hz⟩:=d2;refine ⟨z,?_⟩;have e:at_+k*step-r=(k*t-w)*g:=by
   rw [Int.sub_mul,Int.mul_assoc,a1,Int.mul_comm w g];omega
  rw [e,hz];have a2:=Int.ediv_mul_cancel hgr;rw [<- hn] at a2
  calc n*z*g=n*g*z:=by rw [Int.mul_assoc,Int.mul_comm z g,<- Int.mul_assoc]
   _=P*z:=by rw [a2]
open Classical in
noncomputable def shE (p:Per) (b:Int):Int:=if b < -1099511627776∨1099511627776<b then 1 else if (shP p b).frm≤1099511627776 then 0 else 2
theorem wi_ (h:1≤a):Int.gcd (a / ((Int.gcd a b:Nat):Int)) (b / ((Int.gcd a b:Nat):Int))=1:=
 Int.gcd_ediv_gcd_ediv_gcd (Int.gcd_pos_of_ne_zero_left b oq_)
theorem bn_.unique {step a' s':Int} {b b':Bool} (hs:1≤step) (hP:1≤P) (h:bn_ at_ step r P a s b) (g:bn_ at_ step r P a' s' b'):a=a'∧s=s'∧b=b':=by
 rcases h with ⟨rfl,rfl,h⟩|⟨rfl,rfl,rfl,h⟩ <;> rcases g with ⟨rfl,rfl,g⟩|⟨rfl,rfl,rfl,g⟩
 ·exact ⟨(h7_ hs hP h).symm.trans (h7_ hs hP g),rfl,rfl⟩
 ·exact absurd ⟨h.2.2.1,h.2.2.2⟩ (g a)
 ·exact absurd ⟨g.2.2.1,g.2.2.2⟩ (h a')
 ·exact ⟨rfl,rfl,rfl⟩
theorem sc_ {step:Int} (hs:1≤step) (hP:1≤P):∃ a s b,bn_ at_ step r P a s b:=by
 by_cases h:(r-at_) % ((Int.gcd step P:Nat):Int)=0
 ·refine ⟨_,_,true,.inl ⟨rfl,rfl,h1_ hs hP ?_⟩⟩;exact (ay_ (Int.dvd_of_emod_eq_zero h)).symm
 ·exact ⟨0,0,false,os_ h⟩
theorem bn_.bounds {step:Int} (hs:1≤step) (hP:1≤P) (hd:step∣27720) (hp:P∣27720) (h:bn_ at_ step r P a s true):0≤a∧a<s∧s∣27720:=by
 rcases h with ⟨_,rfl,h⟩|⟨h,_⟩
 ·exact ⟨h.1,h.2.1,mg_ hs hP hd hp⟩
 ·cases h
def ef_ (S:Int->Prop) (p:Per) (t:List Per) (at_ step:Int) (j:Nat) (x:Int):Prop:=S x∨∃ c∈p.cycle.take j,x % p.period=resP p c∧ClsS t at_ step x
theorem q3_ {S:Int->Prop} {step:Int}:ef_ S p t at_ step 0 x↔S x:=by simp [ef_]
theorem s6_ {S:Int->Prop} {step:Int}:ef_ S p t at_ step p.cycle.length x↔S x∨ClsS (p :: t) at_ step x:=by
 unfold ef_;rw [List.take_length,r7_]
theorem e7_ (h:j<l.length) {c:Int}:c∈l.take (j+1)↔c∈l.take j∨c=l.getD j 0:=by
 rw [List.take_succ_eq_append_getElem h,List.mem_append,List.mem_singleton,List.getD_eq_getElem?_getD,List.getElem?_eq_getElem h];rfl
theorem q2_ {S:Int->Prop} {step:Int} (hw:p.WF) (hj:j<p.cycle.length) (hs:1≤step) (h0:0≤at_) (h1:at_<step) {a2 s2:Int} {b:Bool}
  (h:bn_ at_ step (resP p (p.cycle.getD j 0)) p.period a2 s2 b):ef_ S p t at_ step (j+1) x↔ef_ S p t at_ step j x∨(b=true∧ClsS t a2 s2 x):=by
 unfold ef_;rw [<- h.cls hw hs h0 h1,or_assoc];refine or_congr Iff.rfl ⟨?_,?_⟩
 ·rintro ⟨c,hc,h2⟩;rcases (e7_ hj).1 hc with hc|rfl
  ·exact .inl ⟨c,hc,h2⟩
  ·exact .inr h2
 ·rintro (⟨c,hc,h2⟩|h2)
  ·exact ⟨c,(e7_ hj).2 (.inl hc),h2⟩
  ·exact ⟨_,(e7_ hj).2 (.inr rfl),h2⟩
theorem fx_ {step:Int}:ClsS [] at_ step x↔x % step=at_:=by simp [ClsS]
theorem s7_ {f l:Int} {b:Bool} (hw:∀ p∈t,p.WF) (hf:as_ t≤f) (h:bj_ F (fun x=>False∨ClsS t 0 1 x) f l b):ap_ F (tmem t) f (if b=true then l else 0) b:=
 (h.congr (T:=tmem t) fun x hx=>by rw [false_or,pe_ hw oq_]).next
theorem pg_ (hne:t≠[]) (hw:∀ p∈t,p.WF) {f n:Int} {b:Bool} (h:bc_ (cf_ t t.length 0) f n b):oe_ t f n b:=
 h.congr fun x _=>(ry_ hne hw).symm
theorem sd_ {L:List (List Per)} {n:Int}:mmem (L ++ [t]) n↔mmem L n∨tmem t n:=by rw [no_];unfold mmem;simp
theorem sg_ {f:Int}:ap_ F (mmem []) f 0 false:=.inr ⟨rfl,rfl,fun _ _ _ h=>mn_ h⟩
def FarI:Int:=1152921504606846976
end Kal
namespace Go.Proofs.YtkclokcenllhmaaGreat
open Go.RowKit Go.Maps Kal
structure i5_ (w:World) (v:Value) (n:Nat):Prop where
 is:∃ a c,v=.slice a n c∧(n=0∨∃ b o,a=some ⟨b,o,none⟩∧∀ i,i<n->∃ (u:Value) (l:List Int),w.cell? ⟨b,o+i,none⟩=some u∧cw_ w u l)
 len:n≤9223372036854775807
structure c3_ (w:World) (v:Value) (ll:List (List Int)):Prop where
 is:∃ a c,v=.slice a ll.length c∧(ll=[]∨∃ b o,a=some ⟨b,o,none⟩∧∀ i,i<ll.length->∃ (u:Value),w.cell? ⟨b,o+i,none⟩=some u∧cw_ w u (ll.getD i []))
 len:ll.length≤9223372036854775807
theorem c3_.ext {ll:List (List Int)} (h:c3_ w v ll) (hb:Below w.heap.size w W):c3_ W v ll:=by
 obtain ⟨⟨a,c,rfl,h1⟩,h2⟩:=h;refine ⟨⟨a,c,rfl,h1.imp id ?_⟩,h2⟩;rintro ⟨b,o,rfl,hc⟩;exact ⟨b,o,rfl,fun i hi=>by obtain ⟨u,h3,h4⟩:=hc i hi;exact ⟨u,Ext.cell hb h3,h4.ext hb⟩⟩
theorem i5_.rows (h:i5_ w v n):∃ ll:List (List Int),ll.length=n∧c3_ w v ll:=by
 obtain ⟨⟨a,c,rfl,h1⟩,h2⟩:=h;rcases h1 with rfl|⟨b,o,rfl,hc⟩
 ·exact ⟨[],rfl,⟨a,c,rfl,.inl rfl⟩,sq_⟩
 ·have hch:∃ X:Nat->List Int,∀ i,i<n->∃ u,w.cell? ⟨b,o+i,none⟩=some u∧cw_ w u (X i):=by
   refine ⟨fun i=>if hi:i<n then (hc i hi).choose_spec.choose else [],fun i hi=>?_⟩;simp only [dif_pos hi];exact ⟨_,(hc i hi).choose_spec.choose_spec⟩
  obtain ⟨X,hX⟩:=hch;have hl:((List.range n).map X).length=n:=by simp
  refine ⟨(List.range n).map X,hl,⟨_,c,by rw [hl],.inr ⟨b,o,rfl,fun i hi=>?_⟩⟩,by rw [hl];exact h2⟩;rw [hl] at hi;obtain ⟨u,h3,h4⟩:=hX i hi;exact ⟨u,h3,by rw [List.getD_eq_getElem?_getD];simpa [hi] using h4⟩
def bv_ (m:List (List Per)) (l:List Int):List (List Per):=
 if 0<m.length∧(l.getD 0 0<128∨m.length=3)∧(m.getLastD []).length<3 then m.dropLast ++ [m.getLastD [] ++ [facF l]]
 else if m.length<3 then m ++ [[facF l]] else m
def dy_ (ll:List (List Int)):List (List Per):=(ll.take 9).foldl bv_ []
theorem pn_ {ll:List (List Int)} (hi:i<ll.length) (h:m=(ll.take i).foldl bv_ []):bv_ m (ll.getD i [])=(ll.take (i+1)).foldl bv_ []:=by
 rw [List.take_succ_eq_append_getElem hi,List.foldl_append,<- h,List.getD_eq_getElem?_getD,List.getElem?_eq_getElem hi];rfl
theorem t6_ (l:List Int):bv_ [] l=[[facF l]]:=by simp [bv_]
theorem qm_ {m0:List (List Per)} (h:(l.getD 0 0<128∨m0.length+1=3)∧t.length<3):bv_ (m0 ++ [t]) l=m0 ++ [t ++ [facF l]]:=by
 unfold bv_;rw [if_pos ⟨sq_,by simpa using h.1,by simpa using h.2⟩];simp
theorem t5_ {m0:List (List Per)} (h:¬ ((l.getD 0 0<128∨m0.length+1=3)∧t.length<3)) (h3:m0.length+1<3):bv_ (m0 ++ [t]) l=m0 ++ [t] ++ [[facF l]]:=by
 unfold bv_;rw [if_neg (by rintro ⟨_,h1,h2⟩;exact h ⟨by simpa using h1,by simpa using h2⟩),if_pos (by simpa using h3)]
theorem qn_ {m0:List (List Per)} (h:¬ ((l.getD 0 0<128∨m0.length+1=3)∧t.length<3)) (h3:¬ m0.length+1<3):bv_ (m0 ++ [t]) l=m0 ++ [t]:=by
 unfold bv_;rw [if_neg (by rintro ⟨_,h1,h2⟩;exact h ⟨by simpa using h1,by simpa using h2⟩),if_neg (by simpa using h3)]
structure MFac (p:Per):Prop where
 wf:p.WF
 frm:p.frm≤8
 per:p.period≤12
theorem MFac.dvd (h:MFac p):p.period∣27720:=by
 have h1:=h.wf.per;have h2:=h.per;obtain ⟨k,hk⟩:∃ k:Nat,p.period=k:=⟨p.period.toNat,oq_⟩;rw [hk] at h1 h2 ⊢;have:∀ k:Nat,k≤12->1≤k->k∣27720:=by decide
 exact Int.natCast_dvd_natCast.2 (this k oq_ oq_)
theorem MFac.fv (h:MFac p):FV 0 p:=⟨⟨h.wf,fun n hn=>hn.1,by have:=h.frm;omega,h.dvd⟩,by have:=h.frm;omega⟩
structure da_ (m:List (List Per)):Prop where
 len:m.length≤3
 ne:∀ t∈m,t≠[]
 tlen:∀ t∈m,t.length≤3
 fac:∀ t∈m,∀ p∈t,MFac p
theorem da_.vt (h:da_ m):∀ t∈m,fp_ 0 t:=fun t ht=>⟨h.ne t ht,fun p hp=>(h.fac t ht p hp).fv,by have:=h.tlen t ht;omega⟩
theorem da_.mv (h:da_ m):MV 0 m:=⟨(tb_ h.vt).2 ⟨by have:=h.len;omega,fun t ht=>by have:=h.tlen t ht;omega⟩,h.vt⟩
theorem ql_ (h:da_ m):da_ (bv_ m l):=by
 have hf:MFac (facF l):=⟨(hl_ l).1,(hl_ l).2.1,(hl_ l).2.2⟩;unfold bv_
 split
 ·rename_i h1;obtain ⟨h1,_,h3⟩:=h1;have hl:m.getLastD []∈m:=by
   cases m with
   | nil=>simp at h1
   | cons x m=>rw [List.getLastD_cons];exact List.getLastD_mem_cons ..
  have key:∀ {P:List Per->Prop},(∀ t∈m,P t)->P (m.getLastD [] ++ [facF l])->∀ t∈m.dropLast ++ [m.getLastD [] ++ [facF l]],P t:=fun g1 g2 t ht=>by
   rcases List.mem_append.1 ht with ht|ht
   ·exact g1 t (List.dropLast_subset _ ht)
   ·rw [List.mem_singleton] at ht;subst ht;exact g2
  refine ⟨by have:=h.len;rw [List.length_append,List.length_dropLast,List.length_singleton];omega,key h.ne sq_,key h.tlen (by rw [List.length_append,List.length_singleton];omega),key h.fac fun p hp=>?_⟩;rcases List.mem_append.1 hp with hp|hp
  ·exact h.fac _ hl p hp
  ·rw [List.mem_singleton] at hp;subst hp;exact hf
 ·split
  ·rename_i h2;have key:∀ {P:List Per->Prop},(∀ t∈m,P t)->P [facF l]->∀ t∈m ++ [[facF l]],P t:=fun g1 g2 t ht=>by
    rcases List.mem_append.1 ht with ht|ht
    ·exact g1 t ht
    ·rw [List.mem_singleton] at ht;subst ht;exact g2
   exact ⟨by rw [List.length_append,List.length_singleton];omega,key h.ne sq_,key h.tlen sq_,key h.fac fun p hp=>by rw [List.mem_singleton] at hp;subst hp;exact hf⟩
  ·exact h
theorem g6_ (ll:List (List Int)):da_ (dy_ ll):=by
 have key:∀ (l:List (List Int)) (m:List (List Per)),da_ m->da_ (l.foldl bv_ m):=by
  intro l;induction l with
  | nil=>exact fun m h=>h
  | cons x l ih=>exact fun m h=>ih _ (ql_ h)
 exact key _ _ ⟨sq_,sq_,sq_,sq_⟩
abbrev MdA (B:Nat) (k:Nat):Prop:=k=B∨k=B+1
structure MdL (B:Nat) (v:Value) (L0:List (Value × List Per)) (g cap:Nat) (M:List PV) (W:World):Prop where
 own:W.ownsRow B 160 4 (.slice (some ⟨g,0,none⟩) M.length cap) M.length (M.flatMap PV.enc)
 all:∀ x∈L0,ag_ W (fun b=>RowF B (MdA B) v b∧b≠g) x.1 x.2
 pvs:∀ x∈M,PVok W (fun b=>RowF B (MdA B) v b∧b≠g) x
 g:RowF B (MdA B) v g
 len:1≤M.length
structure MdS (B:Nat) (w:World) (v:Value) (L:List (Value × List Per)) (W:World):Prop where
 below:Below B w W
 rbx:Bxx W B #[.slice none 0 0] 128
 obx:Bxx W (B+1) #[v] 128
 row:RowT B (MdA B) W v L
 md:da_ (L.map Prod.snd)
 last:L=[]∨∃ L0 g cap M,L=L0 ++ [(.slice (some ⟨g,0,none⟩) M.length cap,M.map PV.p)]∧MdL B v L0 g cap M W
theorem MdL.ext {L0:List (Value × List Per)} {M:List PV} (h:MdL B v L0 g cap M W) (hb:Below W.heap.size W W'):MdL B v L0 g cap M W':=
 ⟨h.own.kept (row:=none) (World.grownBy.of_below hb _) (by right;simp [Value.ownBlock]),fun x hx=>(h.all x hx).ext hb,fun x hx=>(h.pvs x hx).keep (a3_.below hb),h.g,h.len⟩
theorem MdS.ext {L:List (Value × List Per)} (h:MdS B w v L W) (hB:B≤w.heap.size) (hb:Below W.heap.size W W'):MdS B w v L W':=
 ⟨h.below.trans (hb.mono (Nat.le_trans hB h.below.size)),h.rbx.below hb,h.obx.below hb,h.row.below hb,h.md,h.last.imp id fun ⟨L0,g,cap,M,e,hl⟩=>⟨L0,g,cap,M,e,hl.ext hb⟩⟩
theorem mq_ {F:Nat->Prop} (h:W.ownsRow B 160 4 (.slice (some ⟨g,0,none⟩) n cap) n (L.flatMap PV.enc)) (hn:L.length=n) (h1:1≤n) (hl:n≤1000) (hF:F g) (ha:∀ x∈L,PVok W F x):ag_ W F (.slice (some ⟨g,0,none⟩) n cap) (L.map PV.p):=by
 subst hn;have h2:L.length≤cap∧cap≤9223372036854775807:=by
  rcases h.2 with ⟨h',_⟩|⟨_,_,_,h',_,_,h3,h4,_⟩
  ·cases h'
  ·cases h';exact ⟨h3,h4⟩
 refine ⟨L,rfl,⟨_,_,rfl,h2.1,h2.2,.inr ⟨g,0,rfl,hF,(h.lt g rfl).2,fun i u hi=>?_⟩⟩,oq_,ha⟩;rw [Nat.zero_add];have:=(List.getElem?_eq_some_iff.1 hi).1;rw [ua_] at this;exact (h.cellAt i this).trans hi
theorem m0_ {b:Nat} {t:TypeId} (h:Bxx W b #[u] t) (e:W'.heap[b]? = W.heap[b]?):Bxx (W'.setCell ⟨b,0,none⟩ v) b #[v] t:=a0_ 0 v (e.trans h)
theorem mo_ {wo W2:World} {a:Option Addr} {L:List (Value × List Per)} {x:PV} (hk:W2.heap.size=k) (hS:MdS w.heap.size w (.slice a L.length c) L wo) (hb2:Below wo.heap.size wo W2) (hpv:PVok W2 (fun b=>wo.heap.size≤b∧b<W2.heap.size) x) :
  ag_ ((W2.alloc (.cells #[x.h,.int .i64 x.p.frm,.int .i64 x.p.period,x.c] 160)).alloc (.cells #[.slice (some ⟨k,0,none⟩) 1 1] 158)) (RowF w.heap.size (MdA w.heap.size) (.slice a L.length c)) (.slice (some ⟨k,0,none⟩) 1 1) [x.p]:=by
 subst hk;have hbz:=hS.obx.lt;have hz2:=hb2.size;have hvb:∀ q,(Value.slice a L.length c).ownBlock=some q->q<wo.heap.size:=fun q e=>(hS.row.row.lt q e).2;have hown:=(World.ownsRow_lit (base:=w.heap.size) (e:=160) (size:=4) W2 #[x.h,.int .i64 x.p.frm,.int .i64 x.p.period,x.c] 1 oq_ (by unfold maxLen;omega) rfl).alloc (.cells #[.slice (some ⟨W2.heap.size,0,none⟩) 1 1] 158);refine mq_ (L:=[x]) hown rfl (Nat.le_refl _) oq_ ⟨oq_,?_,fun e=>by have:=hvb _ e;omega⟩ fun y hy=>?_
 ·rintro (h|h) <;> omega
 ·rw [List.mem_singleton] at hy;subst hy;refine (hpv.keep (a3_.below (Ea (Ea (Er _) _) _))).mono fun b hb=>⟨oq_,?_,fun e=>by have:=hvb _ e;omega⟩;rintro (h|h) <;> omega
theorem MdS.new {wo W2 w8:World} {a:Option Addr} {L:List (Value × List Per)} {ga:Option Addr} {gc:Nat} {x:PV} (hk:W2.heap.size=k) (hS:MdS w.heap.size w (.slice a L.length c) L wo) (hb2:Below wo.heap.size wo W2)
  (hpv:PVok W2 (fun b=>wo.heap.size≤b∧b<W2.heap.size) x) (hmf:MFac x.p) (hl:L.length<3)
  (hr8:RowT w.heap.size (MdA w.heap.size) w8 (.slice ga (L.length+1) gc) (L ++ [(.slice (some ⟨k,0,none⟩) 1 1,[x.p])]))
  (hg8:((W2.alloc (.cells #[x.h,.int .i64 x.p.frm,.int .i64 x.p.period,x.c] 160)).alloc (.cells #[.slice (some ⟨k,0,none⟩) 1 1] 158)).grownBy w8 (Value.slice a L.length c).ownBlock)
  (hb8:Below w.heap.size ((W2.alloc (.cells #[x.h,.int .i64 x.p.frm,.int .i64 x.p.period,x.c] 160)).alloc (.cells #[.slice (some ⟨k,0,none⟩) 1 1] 158)) w8)
  (hloc:(Value.slice ga (L.length+1) gc).ownBlock=(Value.slice a L.length c).ownBlock∨(Value.slice ga (L.length+1) gc).ownBlock=some (k+2)) :
  MdS w.heap.size w (.slice ga (L.length+1) gc) (L ++ [(.slice (some ⟨k,0,none⟩) 1 1,[x.p])]) (w8.setCell ⟨w.heap.size+1,0,none⟩ (.slice ga (L.length+1) gc)):=by
 subst hk;have hbz:=hS.obx.lt;have hz2:=hb2.size;have hvb:∀ q,(Value.slice a L.length c).ownBlock=some q->q<wo.heap.size:=fun q e=>(hS.row.row.lt q e).2;have hvn:=hS.row.ne;have hown0:=World.ownsRow_lit (base:=w.heap.size) (e:=160) (size:=4) W2 #[x.h,.int .i64 x.p.frm,.int .i64 x.p.period,x.c] 1 oq_ (by unfold maxLen;omega) rfl;have hal:Below W2.heap.size W2 ((W2.alloc (.cells #[x.h,.int .i64 x.p.frm,.int .i64 x.p.period,x.c] 160)).alloc (.cells #[.slice (some ⟨W2.heap.size,0,none⟩) 1 1] 158)):=Ea (Ea (Er _) _) _;have hown1:=hown0.alloc (.cells #[.slice (some ⟨W2.heap.size,0,none⟩) 1 1] 158);generalize hv:Value.slice a L.length c=v at *;generalize hv':Value.slice ga (L.length+1) gc=v' at *;have hz3:((W2.alloc (.cells #[x.h,.int .i64 x.p.frm,.int .i64 x.p.period,x.c] 160)).alloc (.cells #[.slice (some ⟨W2.heap.size,0,none⟩) 1 1] 158)).heap.size=W2.heap.size+2:=by simp
 generalize ((W2.alloc (.cells #[x.h,.int .i64 x.p.frm,.int .i64 x.p.period,x.c] 160)).alloc (.cells #[.slice (some ⟨W2.heap.size,0,none⟩) 1 1] 158))=W3 at *;have hal0:Below wo.heap.size wo W3:=Et hb2 hal;have hset:w8.grownBy (w8.setCell ⟨w.heap.size+1,0,none⟩ v') (some (w.heap.size+1)):=World.grownBy.set' ⟨rfl,rfl,rfl,Nat.le_refl _,fun _ _ _=>rfl⟩ _;have hs8:=hg8.size;have keep3:∀ b,b<W3.heap.size->b≠w.heap.size+1->v.ownBlock≠some b->(w8.setCell ⟨w.heap.size+1,0,none⟩ v').heap[b]? = W3.heap[b]?:=fun b h1 h2 h3=>
  (hset.block b oq_ (fun e=>h2 (by cases e;rfl))).trans (hg8.block b h1 (fun e=>h3 e.symm))
 have keep0:∀ b,b<wo.heap.size->b≠w.heap.size+1->v.ownBlock≠some b->(w8.setCell ⟨w.heap.size+1,0,none⟩ v').heap[b]? = wo.heap[b]?:=fun b h1 h2 h3=>(keep3 b oq_ h2 h3).trans (hal0.block b h1);have keep2:∀ b,b<W2.heap.size->b≠w.heap.size+1->v.ownBlock≠some b->(w8.setCell ⟨w.heap.size+1,0,none⟩ v').heap[b]? = W2.heap[b]?:=fun b h1 h2 h3=>(keep3 b oq_ h2 h3).trans (hal.block b h1);have hv'b:∀ b,v'.ownBlock=some b->v.ownBlock=some b∨b=W2.heap.size+2:=fun b e=>by
  rcases hloc with h|h
  ·exact .inl (h ▸ e)
  ·rw [h] at e;cases e;exact .inr rfl
 refine ⟨((hS.below.trans (hal0.mono hS.below.size)).trans hb8).setCell (p:=⟨w.heap.size+1,0,none⟩) (by show w.heap.size≤w.heap.size+1;omega) _,(keep0 _ oq_ oq_ (fun e=>hvn _ e (.inl rfl))).trans hS.rbx,
  m0_ hS.obx ((hg8.block _ oq_ (fun e=>hvn _ e.symm (.inr rfl))).trans (hal0.block _ oq_)),hr8.box hset (.inr rfl),?_,.inr ⟨L,W2.heap.size,1,[x],rfl,⟨?_,fun y hy=>?_,fun y hy=>?_,?_,sq_⟩⟩⟩
 ·have hm:=hS.md;rw [List.map_append];have key:∀ {P:List Per->Prop},(∀ t∈L.map Prod.snd,P t)->P [x.p]->∀ t∈L.map Prod.snd ++ [[x.p]],P t:=fun h1 h2 t ht=>by
   rcases List.mem_append.1 ht with ht|ht
   ·exact h1 t ht
   ·rw [List.mem_singleton] at ht;subst ht;exact h2
  exact ⟨tq_,key hm.ne sq_,key hm.tlen sq_,key hm.fac (fun p hp=>by rw [List.mem_singleton] at hp;subst hp;exact hmf)⟩
 ·have h1:=hown1.kept hg8 (.inr fun e=>by have:=hvb W2.heap.size e.symm;omega);exact h1.kept hset (.inr fun e=>by have e:W2.heap.size=w.heap.size+1:=Option.some.inj e;omega)
 ·refine ((hS.row.all y hy).lt.keep (fun b hb hl=>?_) ?_).mono fun b hb=>⟨⟨hb.1.1,hb.1.2.1,fun e=>?_⟩,?_⟩
  ·exact keep0 b hb.2 (fun e=>hb.1.2.1 (.inr e)) hb.1.2.2
  ·have:=hset.size;omega
  ·rcases hv'b b e with h|h
   ·exact hb.1.2.2 h
   ·have:=hb.2;omega
  ·have:=hb.2;omega
 ·rw [List.mem_singleton] at hy;subst hy;refine (hpv.keep (fun b hb hl=>?_)).mono fun b hb=>⟨⟨oq_,?_,fun e=>?_⟩,oq_⟩
  ·exact keep2 b hb.2 oq_ (fun e=>by have:=hvb b e;omega)
  ·rintro (h|h) <;> omega
  ·rcases hv'b b e with h|h
   ·have:=hvb b h;omega
   ·omega
 ·refine ⟨oq_,?_,fun e=>?_⟩
  ·rintro (h|h) <;> omega
  ·rcases hv'b _ e with h|h
   ·have:=hvb _ h;omega
   ·omega
theorem MdS.more {wo W2 W9:World} {L0:List (Value × List Per)} {g' cap':Nat} {M:List PV} {x:PV} (hS:MdS w.heap.size w (.slice (some ⟨ab,0,none⟩) (L0.length+1) c) (L0 ++ [(.slice (some ⟨g,0,none⟩) M.length cap,M.map PV.p)]) wo)
  (hml:MdL w.heap.size (.slice (some ⟨ab,0,none⟩) (L0.length+1) c) L0 g cap M wo) (hb2:Below wo.heap.size wo W2) (hpv:PVok W2 (fun b=>wo.heap.size≤b∧b<W2.heap.size) x) (hmf:MFac x.p) (hM:M.length<3)
  (hg:W2.grownBy W9 (some g)) (hown:W9.ownsRow w.heap.size 160 4 (.slice (some ⟨g',0,none⟩) (M.length+1) cap') (M.length+1) ((M ++ [x]).flatMap PV.enc)) (hloc:g'=g∨W2.heap.size≤g') :
  MdS w.heap.size w (.slice (some ⟨ab,0,none⟩) (L0.length+1) c) (L0 ++ [(.slice (some ⟨g',0,none⟩) (M.length+1) cap',(M ++ [x]).map PV.p)]) (W9.setCell ⟨ab,L0.length,none⟩ (.slice (some ⟨g',0,none⟩) (M.length+1) cap')):=by
 have hbz:=hS.obx.lt;have hz2:=hb2.size;have hz9:=hg.size;have hle:(L0 ++ [((Value.slice (some ⟨g,0,none⟩) M.length cap),M.map PV.p)]).length=L0.length+1:=by simp
 have hrow:=hS.row.row;rw [hle,List.map_append] at hrow;have hab:=hrow.lt ab rfl;have hvn:=hS.row.ne ab rfl;obtain ⟨g0,g1,g2⟩:=hml.g;have hgab:ab≠g:=fun e=>g2 (by simp [Value.ownBlock,e]);have hgl:=(hml.own.lt g rfl).2;have hset:W9.grownBy (W9.setCell ⟨ab,L0.length,none⟩ (.slice (some ⟨g',0,none⟩) (M.length+1) cap')) (some ab):=World.grownBy.set' ⟨rfl,rfl,rfl,Nat.le_refl _,fun _ _ _=>rfl⟩ _;have keep2:∀ b,b<W2.heap.size->b≠g->b≠ab->(W9.setCell ⟨ab,L0.length,none⟩ (.slice (some ⟨g',0,none⟩) (M.length+1) cap')).heap[b]? = W2.heap[b]?:=fun b h1 h2 h3=>
  (hset.block b oq_ (fun e=>h3 (by cases e;rfl))).trans (hg.block b h1 (fun e=>h2 (by cases e;rfl)))
 have keep0:∀ b,b<wo.heap.size->b≠g->b≠ab->(W9.setCell ⟨ab,L0.length,none⟩ (.slice (some ⟨g',0,none⟩) (M.length+1) cap')).heap[b]? = wo.heap[b]?:=fun b h1 h2 h3=>(keep2 b oq_ h2 h3).trans (hb2.block b h1);have hsz:=hset.size;have gB:g≠w.heap.size:=fun e=>g1 (.inl e);have gB1:g≠w.heap.size+1:=fun e=>g1 (.inr e);have aB:ab≠w.heap.size:=fun e=>hvn (.inl e);have aB1:ab≠w.heap.size+1:=fun e=>hvn (.inr e);have g'ab:g'≠ab:=by rcases hloc with h|h <;> omega
 have hown':=hown.kept hset (.inr fun e=>by injection e with e;exact g'ab e);have all0:∀ y∈L0,ag_ (W9.setCell ⟨ab,L0.length,none⟩ (.slice (some ⟨g',0,none⟩) (M.length+1) cap')) (fun b=>RowF w.heap.size (MdA w.heap.size) (.slice (some ⟨ab,0,none⟩) (L0.length+1) c) b∧b≠g') y.1 y.2:=fun y hy=>by
  refine ((hml.all y hy).lt.keep (fun b hb hl=>?_) oq_).mono fun b hb=>⟨hb.1.1,?_⟩
  ·exact keep0 b hb.2 hb.1.2 fun e=>hb.1.1.2.2 (by simp [Value.ownBlock,e])
  ·rcases hloc with h|h
   ·rw [h];exact hb.1.2
   ·have:=hb.2;omega
 have pvs:∀ y∈M ++ [x],PVok (W9.setCell ⟨ab,L0.length,none⟩ (.slice (some ⟨g',0,none⟩) (M.length+1) cap')) (fun b=>RowF w.heap.size (MdA w.heap.size) (.slice (some ⟨ab,0,none⟩) (L0.length+1) c) b∧b≠g') y:=fun y hy=>by
  rcases List.mem_append.1 hy with hy|hy
  ·refine ((hml.pvs y hy).lt.keep (fun b hb hl=>?_)).mono fun b hb=>⟨hb.1.1,?_⟩
   ·exact keep0 b hb.2 hb.1.2 fun e=>hb.1.1.2.2 (by simp [Value.ownBlock,e])
   ·rcases hloc with h|h
    ·rw [h];exact hb.1.2
    ·have:=hb.2;omega
  ·rw [List.mem_singleton] at hy;subst hy;refine (hpv.keep (fun b hb hl=>keep2 b hb.2 oq_ oq_)).mono fun b hb=>⟨⟨oq_,?_,fun e=>?_⟩,oq_⟩
   ·rintro (h|h) <;> omega
   ·simp [Value.ownBlock] at e;omega
 have hgF:RowF w.heap.size (MdA w.heap.size) (.slice (some ⟨ab,0,none⟩) (L0.length+1) c) g':=by
  refine ⟨oq_,?_,fun e=>?_⟩
  ·rintro (h|h) <;> omega
  ·simp [Value.ownBlock] at e;omega
 refine ⟨((hS.below.trans (hb2.mono hS.below.size)).trans (World.grownBy.below' hg oq_ oq_)).setCell (p:=⟨ab,L0.length,none⟩) hab.1 _,(keep0 _ oq_ oq_ oq_).trans hS.rbx,(keep0 _ oq_ oq_ oq_).trans hS.obx,?_,?_,
  .inr ⟨L0,g',cap',M ++ [x],sq_,⟨by simpa using hown',all0,pvs,hgF,sq_⟩⟩⟩
 ·have hr2:=(hrow.kept (World.grownBy.of_below hb2 none) (.inr (by simp [Value.ownBlock]))).kept hg (.inr fun e=>hgab (by simpa [Value.ownBlock] using e));have hr3:=(hr2.stored L0.length (.slice (some ⟨g',0,none⟩) (M.length+1) cap')).1;rw [List.set_append_right _ _ sq_,List.length_map,Nat.sub_self] at hr3;refine ⟨by rw [List.length_append,List.map_append (f:=Prod.fst)];exact hr3,fun y hy=>?_,hS.row.ne,by simp;have:=hS.row.len;rw [hle] at this;omega⟩;rcases List.mem_append.1 hy with hy|hy
  ·exact (all0 y hy).mono fun b hb=>hb.1
  ·rw [List.mem_singleton] at hy;subst hy;exact mq_ hown' sq_ oq_ oq_ hgF fun y hy=>(pvs y hy).mono fun b hb=>hb.1
 ·have hm:=hS.md;rw [List.map_append] at hm ⊢;have hmem:M.map PV.p∈L0.map Prod.snd ++ [((Value.slice (some ⟨g,0,none⟩) M.length cap),M.map PV.p)].map Prod.snd:=by simp
  have key:∀ {P:List Per->Prop},(∀ t∈L0.map Prod.snd ++ [((Value.slice (some ⟨g,0,none⟩) M.length cap),M.map PV.p)].map Prod.snd,P t)->P ((M ++ [x]).map PV.p)->∀ t∈L0.map Prod.snd ++ [((Value.slice (some ⟨g',0,none⟩) (M.length+1) cap'),(M ++ [x]).map PV.p)].map Prod.snd,P t:=fun h1 h2 t ht=>by
   rcases List.mem_append.1 ht with ht|ht
   ·exact h1 t (List.mem_append_left _ ht)
   ·simp only [List.map_cons,List.map_nil,List.mem_singleton] at ht;subst ht;exact h2
  refine ⟨by have:=hm.len;simp at this ⊢;omega,key hm.ne sq_,key hm.tlen tq_,key hm.fac fun p hp=>?_⟩;rw [List.map_append] at hp;rcases List.mem_append.1 hp with hp|hp
  ·exact hm.fac _ hmem p hp
  ·simp only [List.map_cons,List.map_nil,List.mem_singleton] at hp;subst hp;exact hmf
theorem n9_ (w:World) {a:Act} {K:Act->World->Prop} {Q:Exit->Act->World->Prop} (sx x:Operand)
  (ho:o.op=.call { callee:=.builtin .append,args:=#[sx,x],argTypes:=#[158,158] }) (B g cap:Nat) (M:List PV) (y:PV) (hs:a.eval sx=.slice (some ⟨g,0,none⟩) M.length cap)
  (h:w.ownsRow B 160 4 (.slice (some ⟨g,0,none⟩) M.length cap) M.length (M.flatMap PV.enc)) (blk c:Nat) (hx:a.eval x=.slice (some ⟨blk,0,none⟩) 1 c)
  (hnew:Bxx w blk #[y.h,.int .i64 y.p.frm,.int .i64 y.p.period,y.c] 160) (hone:∀ u∈y.enc,u.oneCell'=true) (hl:M.length≤1000) (hB:B≤w.heap.size)
  (k:∀ (g' cap':Nat) (w':World),w'.ownsRow B 160 4 (.slice (some ⟨g',0,none⟩) (M.length+1) cap') (M.length+1) ((M ++ [y]).flatMap PV.enc)->w.grownBy w' (some g)->(g'=g∨g'=w.heap.size)->K (a.put o.dst (.slice (some ⟨g',0,none⟩) (M.length+1) cap')) w') :
  Oper.wp Tryz.prog o a w K Q:=by
 obtain ⟨i,hi,h1,h2,h3⟩:=ox_;refine wp_append_lies w sx x 158 ho B 160 i (.agg #[.slice none 0 0,.int .i64 0,.int .i64 0,.slice none 0 0]) 4 64 Tryz.underlying158 hi h1 h2 h3 rfl oq_ _ M.length (M.flatMap PV.enc) hs h ⟨blk,0,none⟩ 1 c y.enc hx rfl ?_ hone oq_ (by unfold maxLen;omega) oq_ hB _ rfl ?_
 ·intro j u hu;have e:({ block:=blk,off:=0 }:Addr).add j=⟨blk,j,none⟩:=by
   rcases Nat.eq_zero_or_pos j with h|h
   ·subst h;simp [Addr.add]
   ·simp [Addr.add];omega
  rw [e,(hnew.cells j).1,<- hu]
  match j with
  | 0=>rfl
  | 1=>rfl
  | 2=>rfl
  | 3=>rfl
  | k+4=>rfl
 ·intro g' cap' w' hown' hgrow hloc _;exact k g' cap' w' (by rw [List.flatMap_append];simpa using hown') hgrow (hloc.imp (fun e=>(Option.some.inj e).symm) id)
def CndM (x0:Int) (a m:Nat) (v:Value):Prop:=∃ c:Bool,v=.bool c∧(c=true↔((x0<128∨a+1=3)∧m<3))
theorem to_ (v:Value) (ll:List (List Int)) (w:World) (h:c3_ w v ll) :
  Calls Tryz.prog 108 #[v] w fun e w'=>∃ (a:Option Addr) (c:Nat),e=.returned (.agg #[.slice a (dy_ ll).length c])∧MixR w' (fun b=>w.heap.size≤b) (.slice a (dy_ ll).length c) (dy_ ll)∧da_ (dy_ ll)∧Below w.heap.size w w':=by
 have HR:=hq_ h;obtain ⟨⟨a1,c1,rfl,_⟩,hn⟩:=h;obtain ⟨n,hnl⟩:∃ n,ll.length=n:=⟨_,rfl⟩;have HNL:=hq_ hnl;simp only [hnl] at hn ⊢;clear hnl;have HMF:Hid (∀ i,i≤9->(i=9∨i=n)->(ll.take i).foldl bv_ []=dy_ ll):=hq_ fun i h9 h=>by
  rcases h with rfl|rfl
  ·rfl
  ·have e1:ll.take 9=ll:=List.take_of_length_le (by have:=HNL.out;omega);have e2:ll.take i=ll:=List.take_of_length_le (by have:=HNL.out;omega);unfold dy_;rw [e1,e2]
 go_enter Tryz.func108,Tryz.ntmps108
 go_wp2_with fail
 have hmd0:MdS w.heap.size w (.slice none 0 0) [] ((w.alloc (.cells #[.slice none 0 0] 128)).alloc (.cells #[.slice none 0 0] 128)):=
  ⟨Ea (Ea (Er w) _) _,(Bxx.new w _ _).alloc _,Bxx.at sq_,RowT.nil _ _ _,⟨sq_,sq_,sq_,sq_⟩,.inl rfl⟩
 have HMD0:=hq_ hmd0;clear hmd0;go_loopw [4,5,6] (fun iv _ _ wr=>∃ (i:Nat) (v:Value) (L:List (Value × List Per)),i≤9∧i≤n∧iv=.int .i64 i∧Hid (L.map Prod.snd=(ll.take i).foldl bv_ [])∧Hid (MdS w.heap.size w v L wr)) (fun iv _ _ _=>9-(intOf iv).toNat)
 case atStart=>exact ⟨0,_,[],oq_,oq_,rfl,hq_ rfl,HMD0⟩
 case round=>
  obtain ⟨i,v,L,hi9,hin,rfl,HQ,HS⟩:=hrel;obtain ⟨a2,c2,rfl,hc1,hc2,hform⟩:=HS.out.row.form;obtain ⟨wo,hwo⟩:∃ wo,wo=wr:=⟨_,rfl⟩;subst hwo;have b3:=HS.out.obx.c0;have hLl:L.length≤3:=by have h:=HS.out.md.len;rwa [List.length_map] at h
  by_cases hil:i<n
  ·have hilI:(i:Int)<n:=oq_;have hil2:i<ll.length:=by rw [HNL.out];exact hil
   by_cases hi:i<9
   ·have hiI:(i:Int)<9:=oq_;obtain ⟨⟨a1',c1',he,h3⟩,-⟩:=HR.out.ext HS.out.below;injection he with e1 e2 e3
    subst e1;subst e3;rcases h3 with h0|⟨b,o,rfl,hc⟩
    ·rw [h0] at hil2;simp at hil2
    obtain ⟨u,hcell,hby⟩:=hc i hil2;have HSC:=hq_ (pn_ hil2 HQ.out);generalize ll.getD i []=l at *;have hmf:=jy_ u l wo hby;have hfw:=hl_ l;have HSTN:=hq_ (t6_ l);have HSTM:=hq_ (fun m0 t=>qm_ (m0:=m0) (t:=t) (l:=l));have HSTW:=hq_ (fun m0 t=>t5_ (m0:=m0) (t:=t) (l:=l));have HSTS:=hq_ (fun m0 t=>qn_ (m0:=m0) (t:=t) (l:=l));have HFW:=hq_ hfw;clear hfw;have HBY:=hq_ hby;have hr0:=hby.rng0 0;have HAT:=hq_ (fun W (h:Below wo.heap.size wo W)=>r0_ u l 0 0 rfl W (hby.ext h) oq_);obtain ⟨p,hpl⟩:∃ p,facF l=p:=⟨_,rfl⟩;rw [hpl] at hmf HSTN HSTM HSTW HFW;clear hpl hil2;generalize l.getD 0 0=x0 at *;obtain ⟨⟨ua,uc,rfl,_⟩,_,_⟩:=hby;clear hc e2;obtain ⟨pw1,pw2,pw3⟩:=HFW.out;have HPF0:Hid (MFac p):=hq_ ⟨pw1,pw2,pw3⟩;clear pw1 pw2 pw3;rcases HS.out.last with hL|⟨L0,g,cap,M,hL,hml⟩
    ·subst hL;go_wp2_with (first|(go_at_call 161;(refine hmf.mono ?_;rintro e w1 ⟨h',c',rfl,ho,hb1⟩;have hpf:MFac p:=HPF0.out;have hpv:=ho.pv hpf.fv;obtain ⟨ya,yn,yc,za,zn,zc,rfl,rfl⟩:=hpv.form;have HPV:=hq_ hpv;have HPF:=hq_ hpf;have hE2:Below wo.heap.size wo (w1.alloc (.cells #[.slice ya yn yc,.int .i64 p.frm,.int .i64 p.period,.slice za zn zc] 160)):=Ea hb1 _;have hS2:=HS.out.ext (Nat.le_refl _) hE2;have d3:=hS2.obx.cells 0;have k4:=Ext.cell hE2 hcell;have HW1:=hq_ hb1.size;have HE2:=hq_ hE2;have HS2:=hq_ hS2;have HPV2:=hq_ ((hpv.keep (a3_.below (Ea (Er w1) (.cells #[.slice ya yn yc,.int .i64 p.frm,.int .i64 p.period,.slice za zn zc] 160)))).mono (G:=fun b=>wo.heap.size≤b∧b<(w1.alloc (.cells #[.slice ya yn yc,.int .i64 p.frm,.int .i64 p.period,.slice za zn zc] 160)).heap.size) fun b hb=>⟨hb.1,by rw [World.size_alloc];have:=hb.2;omega⟩);clear ho hpf hpv hE2 hS2 hb1))|(at_builtin;(refine hw_ rq_ _ _ rq_ w.heap.size (MdA w.heap.size) (.slice a2 ([]:List (Value × List Per)).length c2) ([]:List (Value × List Per)) (.slice (some ⟨w1.heap.size+1,0,none⟩) 1 1,[p]) rq_ (HS2.out.row.below (Ea (Ea (Er _) _) _)) (mo_ (x:=⟨_,_,p⟩) sq_ HS.out HE2.out HPV2.out) _ _ rq_ (Bxx.at (c:=#[.slice (some ⟨w1.heap.size+1,0,none⟩) 1 1]) (t:=158) sq_).c0 (by have h7:=HS2.out.obx.lt;rw [World.size_alloc] at h7;rintro (h|h) <;> simp at h <;> omega) (by simp;try omega) (by have h7:=HS2.out.obx.lt;rw [World.size_alloc] at h7;simp;omega) ?_;intro ga gc w8 hr8 hg8 hb8 hbo8;have hx8:=((HS2.out.obx.alloc _).alloc _).grown hg8 (fun e=>HS.out.row.ne _ e.symm (.inr rfl));have d8:=hx8.cells 0;have HR8:=hq_ hr8;have HG8:=hq_ hg8;have HB8:=hq_ hb8;have HBO8:=hq_ hbo8;clear hx8 hr8 hg8 hb8 hbo8)))
     go_roundw
     case rel=>exact ⟨i+1,.slice ga (([]:List (Value × List Per)).length+1) gc,[] ++ [(.slice (some ⟨w1.heap.size+1,0,none⟩) 1 1,[p])],oq_,oq_,by go_num,hq_ (by rw [<- HSC.out];exact HSTN.out.symm),hq_ (MdS.new (x:=⟨_,_,p⟩) sq_ HS.out HE2.out HPV2.out HPF.out sq_ HR8.out HG8.out HB8.out (by have h:=HBO8.out;simp only [World.size_alloc] at h;exact h))⟩
     case measure=>simp [intOf];omega
    ·subst hL;have hle:(L0 ++ [((Value.slice (some ⟨g,0,none⟩) M.length cap),M.map PV.p)]).length=L0.length+1:=by simp
     obtain ⟨ab,rfl⟩:∃ ab,a2=some ⟨ab,0,none⟩:=hform.resolve_left (by rw [hle];omega);have hgc:wo.cell? ⟨ab,L0.length,none⟩=some (.slice (some ⟨g,0,none⟩) M.length cap):=by
      have h9:=(HS.out.row.get rfl (k:=L0.length) (by rw [hle];omega)).2.1;rw [h9];simp
     have hM1:=hml.len;have HML:=hq_ hml;rw [hle] at b3 hLl;clear hml hform;have HLE:=hq_ hle;go_upto_region 7 with (go_at_call 161;(refine hmf.mono ?_;rintro e w1 ⟨h',c',rfl,ho,hb1⟩;have hpf:MFac p:=HPF0.out;have hpv:=ho.pv hpf.fv;obtain ⟨ya,yn,yc,za,zn,zc,rfl,rfl⟩:=hpv.form;have HPV:=hq_ hpv;have HPF:=hq_ hpf;have hE2:Below wo.heap.size wo (w1.alloc (.cells #[.slice ya yn yc,.int .i64 p.frm,.int .i64 p.period,.slice za zn zc] 160)):=Ea hb1 _;have hS2:=HS.out.ext (Nat.le_refl _) hE2;have d3:=hS2.obx.cells 0;have k4:=Ext.cell hE2 hcell;have HW1:=hq_ hb1.size;have HE2:=hq_ hE2;have HS2:=hq_ hS2;have HPV2:=hq_ ((hpv.keep (a3_.below (Ea (Er w1) (.cells #[.slice ya yn yc,.int .i64 p.frm,.int .i64 p.period,.slice za zn zc] 160)))).mono (G:=fun b=>wo.heap.size≤b∧b<(w1.alloc (.cells #[.slice ya yn yc,.int .i64 p.frm,.int .i64 p.period,.slice za zn zc] 160)).heap.size) fun b hb=>⟨hb.1,by rw [World.size_alloc];have:=hb.2;omega⟩);clear ho hpf hpv hE2 hS2 hb1))
     refine Code.wp_mono (Q:=fun e a' W'=>e=.normal∧(∃ (cnd:Value) (z26 z27 z28 z29 z30 z31 z32 z33 z34 z35 z36 z37 z38 z39 z40 z41 z42 z43 z44 z45 z46 z47 z48:Value),a'=⟨#[.slice (some ⟨b,o,none⟩) n c1,undef,.pointer (some ⟨w.heap.size,0,none⟩),.pointer (some ⟨w.heap.size+1,0,none⟩),.int .i64 ↑i,.int .i64 (↑L0.length+1),.pointer (some ⟨w1.heap.size,0,none⟩),.agg #[.slice none 0 0],.int .i64 ↑i,.slice (some ⟨b,o,none⟩) n c1,.int .i64 ↑n,.bool true,.bool true,.int .i64 ↑i,.bool true,.bool true,u16,u17,.pointer (some ⟨w.heap.size+1,0,none⟩),.slice (some ⟨ab,0,none⟩) (L0.length+1) c2,.int .i64 (↑L0.length+1),.slice (some ⟨b,o,none⟩) n c1,.int .i64 ↑i,.pointer (some ⟨b,o+i,none⟩),.slice ua l.length uc,perV (.slice ya yn yc) (.slice za zn zc) p.frm p.period,z26,z27,z28,z29,z30,z31,z32,z33,z34,z35,z36,z37,z38,z39,z40,z41,z42,z43,z44,z45,z46,z47,z48,cnd,u50,u51,u52,u53,u54,u55,u56,u57,u58,u59,u60,u61,u62,u63,u64,u65,u66,u67,u68,u69,u70,u71,u72,undef],[]⟩∧CndM x0 L0.length M.length cnd)∧Below (w1.alloc (.cells #[.slice ya yn yc,.int .i64 p.frm,.int .i64 p.period,.slice za zn zc] 160)).heap.size (w1.alloc (.cells #[.slice ya yn yc,.int .i64 p.frm,.int .i64 p.period,.slice za zn zc] 160)) W') ?imp ?reg
     case reg=>
      by_cases hM:M.length<3
      ·have hMI:(M.length:Int)<3:=oq_;go_wp2_with (go_at_call 162;(refine (HAT.out _ HE2.out).mono ?_;rintro e w3 ⟨rfl,hb3⟩;have e3:=(HS2.out.ext (Nat.le_refl _) hb3).obx.c0;rw [hle] at e3;have f3:=Ext.cell (Et HE2.out hb3) hgc))
       all_goals refine ⟨⟨_,rfl,?_⟩,hb3.mono sq_⟩
       all_goals simp only [Bool.or_eq_true,Bool.and_eq_true,decide_eq_true_eq,beq_iff_eq,Bool.false_eq_true,false_iff,true_iff]
       all_goals omega
      ·have hMI:¬ (M.length:Int)<3:=oq_;go_wp2_with (go_at_call 162;(refine (HAT.out _ HE2.out).mono ?_;rintro e w3 ⟨rfl,hb3⟩;have e3:=(HS2.out.ext (Nat.le_refl _) hb3).obx.c0;rw [hle] at e3;have f3:=Ext.cell (Et HE2.out hb3) hgc))
       all_goals refine ⟨⟨_,rfl,?_⟩,hb3.mono sq_⟩
       all_goals simp only [Bool.or_eq_true,Bool.and_eq_true,decide_eq_true_eq,beq_iff_eq,Bool.false_eq_true,false_iff,true_iff]
       all_goals omega
     case imp=>
      rintro e a' w3 ⟨rfl,⟨cndv,z26,z27,z28,z29,z30,z31,z32,z33,z34,z35,z36,z37,z38,z39,z40,z41,z42,z43,z44,z45,z46,z47,z48,rfl,hcnd⟩,hb3⟩;obtain ⟨cnd,rfl,hcnd⟩:=hcnd;have HCND:=hq_ hcnd;clear hcnd;have HE3:=hq_ (Et HE2.out hb3);have hS3:=HS2.out.ext (Nat.le_refl _) hb3;have HS3:=hq_ hS3;have e3:=hS3.obx.cells 0;rw [hle] at e3;have f3:=Ext.cell HE3.out hgc;have hpb:=(Bxx.new w1 #[.slice ya yn yc,.int .i64 p.frm,.int .i64 p.period,.slice za zn zc] 160).below hb3;have p0:=(hpb.cells 0).1;have p1:=(hpb.cells 1).1;have p2:=(hpb.cells 2).1;have p3:=(hpb.cells 3).1;have HPV3:=hq_ ((HPV2.out.keep (a3_.below hb3)).mono (G:=fun b=>wo.heap.size≤b∧b<w3.heap.size) fun b hb=>⟨hb.1,Nat.lt_of_lt_of_le hb.2 hb3.size⟩);have hw13:w1.heap.size<w3.heap.size:=by have:=hb3.size;rw [World.size_alloc] at this;omega
      clear hS3 hb3 hpb;cases cnd
      ·by_cases h3:L0.length+1<3
       ·have h3I:(L0.length:Int)+1<3:=oq_;go_wp2_with (at_builtin;(refine hw_ rq_ _ _ rq_ w.heap.size (MdA w.heap.size) (.slice (some ⟨ab,0,none⟩) (L0 ++ [((Value.slice (some ⟨g,0,none⟩) M.length cap),M.map PV.p)]).length c2) (L0 ++ [((Value.slice (some ⟨g,0,none⟩) M.length cap),M.map PV.p)]) (.slice (some ⟨w3.heap.size,0,none⟩) 1 1,[p]) (by rw [hle];rfl) (HS3.out.row.below (Ea (Ea (Er _) _) _)) (mo_ (x:=⟨_,_,p⟩) rfl HS.out HE3.out HPV3.out) _ _ rq_ (Bxx.at (c:=#[.slice (some ⟨w3.heap.size,0,none⟩) 1 1]) (t:=158) sq_).c0 (by have h7:=HS3.out.obx.lt;rintro (h|h) <;> simp at h <;> omega) (by simp;try omega) (by have h7:=HS3.out.obx.lt;simp;omega) ?_;intro ga gc w8 hr8 hg8 hb8 hbo8;have hx8:=((HS3.out.obx.alloc _).alloc _).grown hg8 (fun e=>HS.out.row.ne _ e.symm (.inr rfl));have d8:=hx8.cells 0;have HR8:=hq_ hr8;have HG8:=hq_ hg8;have HB8:=hq_ hb8;have HBO8:=hq_ hbo8;clear hx8 hr8 hg8 hb8 hbo8))
        go_roundw
        case rel=>
         have h9:=MdS.new (x:=⟨_,_,p⟩) rfl HS.out HE3.out HPV3.out HPF.out (by rw [hle];omega) HR8.out HG8.out HB8.out (by have h:=HBO8.out;simp only [World.size_alloc] at h;exact h);rw [hle] at h9;exact ⟨i+1,_,_,oq_,oq_,by go_num,hq_ (by rw [<- HSC.out];simp only [List.map_append,List.map_cons,List.map_nil];exact (HSTW.out _ _ (fun h=>by have:=HCND.out.2 (by simpa using h);cases this) (by simpa using h3)).symm),hq_ h9⟩
        case measure=>simp [intOf];omega
       ·have h3I:¬ (L0.length:Int)+1<3:=oq_;go_wp2_with fail
        go_roundw
        case rel=>
         have h9:=HS3.out;rw [hle] at h9;exact ⟨i+1,_,_,oq_,oq_,by go_num,hq_ (by rw [<- HSC.out];simp only [List.map_append,List.map_cons,List.map_nil];exact (HSTS.out _ _ (fun h=>by have:=HCND.out.2 (by simpa using h);cases this) (by simpa using h3)).symm),hq_ h9⟩
        case measure=>simp [intOf];omega
      ·have HM:=hq_ (HCND.out.1 sq_).2;go_wp2_with fail
       have e3':w3.cell? ⟨w.heap.size+1,0,none⟩=some (.slice (some ⟨ab,0,none⟩) (L0.length+1) c2):=e3.1;have hml:=HML.out;have hgB1:some (w.heap.size+1)≠some g:=fun e=>hml.g.2.1 (.inr (Option.some.inj e).symm);have hgab:some ab≠some g:=fun e=>hml.g.2.2 e;have hgl:=(hml.own.lt g rfl).2;have hsz2:=HE2.out.size;have hw1l:wo.heap.size≤w1.heap.size:=HW1.out;have hgw1:some w1.heap.size≠some g:=fun e=>by have:=Option.some.inj e;omega
       have HOW:=hq_ (fun W (h:Below w3.heap.size w3 W)=>((hml.ext HE3.out).ext h).own);have hbz3:w.heap.size≤w3.heap.size:=by have:=HS3.out.obx.lt;omega
       have hgl3:g<w3.heap.size:=by have:=HE3.out.size;omega
       clear hml;refine o8_ (w0:=w3) (some g) 12 [0,1,2,3,4,5,6,7,8,9,10,11,12,13] [14] [50,51,52,53,54,55,56,57,58,59,60,61,62,63] [.pointer (some ⟨w.heap.size+1,0,none⟩),.slice (some ⟨ab,0,none⟩) (L0.length+1) c2,.int .i64 (L0.length+1),.int .i64 L0.length,.pointer (some ⟨w.heap.size+1,0,none⟩),.slice (some ⟨ab,0,none⟩) (L0.length+1) c2,.int .i64 (L0.length+1),.int .i64 L0.length,.pointer (some ⟨ab,L0.length,none⟩),.slice (some ⟨g,0,none⟩) M.length cap,perV (.slice ya yn yc) (.slice za zn zc) p.frm p.period,undef,undef,.pointer (some ⟨ab,L0.length,none⟩)] [[],[0],[],[2],[],[4],[],[6],[5,7],[8],[],[10],[9],[1,3]] [[],[],[],[],[],[],[],[],[],[],[],[],[11],[]] [11,12] (fun i v lo hi W=>match i with|11=>v 11=.slice (some ⟨lo 11,0,none⟩) 1 1∧lo 11<hi 11∧w3.heap.size≤lo 11∧hi 11≤W.heap.size∧Bxx W (lo 11) #[.slice ya yn yc,.int .i64 p.frm,.int .i64 p.period,.slice za zn zc] 160|12=>∃ g' cap',v 12=.slice (some ⟨g',0,none⟩) (M.length+1) cap'∧W.ownsRow w.heap.size 160 4 (.slice (some ⟨g',0,none⟩) (M.length+1) cap') (M.length+1) ((M ++ [(⟨.slice ya yn yc,.slice za zn zc,p⟩:PV)]).flatMap PV.enc)∧(g'=g∨w3.heap.size≤g')|_=>True) (fun W=>W.cell? ⟨w.heap.size+1,0,none⟩=some (.slice (some ⟨ab,0,none⟩) (L0.length+1) c2)∧W.cell? ⟨ab,L0.length,none⟩=some (.slice (some ⟨g,0,none⟩) M.length cap)∧W.cell? ⟨w1.heap.size,0,none⟩=some (.slice ya yn yc)∧W.cell? ⟨w1.heap.size,1,none⟩=some (.int .i64 p.frm)∧W.cell? ⟨w1.heap.size,2,none⟩=some (.int .i64 p.period)∧W.cell? ⟨w1.heap.size,3,none⟩=some (.slice za zn zc)) (fun W hb=>⟨hb.cell e3' hgB1,hb.cell f3 hgab,hb.cell p0 hgw1,hb.cell p1 hgw1,hb.cell p2 hgw1,hb.cell p3 hgw1⟩) ?stab ?steps ?fin
       case stab=>
        refine ⟨?_,?_,trivial⟩
        ·intro v lo hi W W' h hb;rw [if_neg dq_] at hb;exact ⟨h.1,h.2.1,h.2.2.1,Nat.le_trans h.2.2.2.1 hb.size,(hb.block (lo 11) (by have:=h.2.1;have:=h.2.2.2.1;omega) (fun e=>by have h7:lo 11=g:=Option.some.inj e;have:=h.2.2.1;omega)).trans h.2.2.2.2⟩
        ·intro v lo hi W W' h hb;rw [if_pos rfl] at hb;exact (let ⟨g',cap',e,ho,hl⟩:=h;⟨g',cap',e,ho.kept (row:=none) (World.grownBy.of_below hb _) (by right;simp [Value.ownBlock]),hl⟩)
       case steps=>
        repeat' first|exact .n|refine .c ?_ ?_|refine .y ?_ ?_|fail
        all_goals try exact str
        ·rintro v lo hi W hb ⟨g0,g1,g2,g3,g4,g5⟩ _ K hK;simp only [ov,vat,Nat.reduceBEq,cond_true,cond_false];go_wp2_with fail
         exact acx (hK (.slice (some ⟨W.heap.size,0,none⟩) 1 1) _ (Ea (Er _) _) ⟨rfl,sq_,hb.size,sq_,Bxx.new _ _ _⟩) (by first|(simp [ov,vat,upd];done)|rfl)
        ·rintro v lo hi W hb hkx ⟨g0,g1,g2,g3,g4,g5⟩ ⟨⟨la11,lb11,D11⟩,_⟩ K hK;simp only [ov,vat,Nat.reduceBEq,cond_true,cond_false]
         (try dsimp only at D11)
         obtain ⟨e11,h11a,h11b,h11c,h11d⟩:=D11;refine n9_ W _ _ rq_ w.heap.size g cap M ⟨.slice ya yn yc,.slice za zn zc,p⟩ rq_ (HOW.out _ hkx) (lo 11) 1 (by first|exact e11|(simp [e11];done)) h11d (PV.enc_one _ rfl rfl) (by have:=HM.out;omega) (by have h8:=hkx.size;omega) ?_;intro g' cap' w9 hown9 hgrow9 hloc9;exact acx (hK (.slice (some ⟨g',0,none⟩) (M.length+1) cap') w9 hgrow9 ⟨g',cap',rfl,hown9,hloc9.imp id (fun e=>by rw [e];exact hb.size)⟩) (by first|(simp [ov,vat,upd];done)|rfl)
       case fin=>
        rintro v lo hi9' W9 hg9 ⟨g0,g1,-,-,-,-⟩ hf hap;show wpList _ _ _ [_] _ _;have e13:v 13=.pointer (some ⟨ab,L0.length,none⟩):=(hf 13 rfl).2.2.2;obtain ⟨-,-,-,g',cap',e12,hown9,hloc9⟩:=hf 12 rfl;clear hf hap
        (try dsimp only)
        rw [e13,e12];clear e12 e13;have hrw:=HS3.out.row.row;have fz:W9.frozen? ⟨ab,L0.length,none⟩=false:=(hg9.frozen_far _ (hrw.lt ab rfl).2 hgab).trans (hrw.frozenAt L0.length);have HG9:=hq_ hg9;have HOWN9:=hq_ hown9;have HLOC9:=hq_ hloc9;clear hrw hg9 hown9 hloc9;generalize v 0=z0,v 1=z1,v 2=z2,v 3=z3,v 4=z4,v 5=z5,v 6=z6,v 7=z7,v 8=z8,v 9=z9,v 10=z10,v 11=z11;go_wp2_with fail
        go_roundw
        case rel=>
         have h8:=HS.out;have h7:=HML.out;rw [hle] at h8 h7;exact ⟨i+1,_,_,oq_,oq_,by go_num,hq_ (by rw [<- HSC.out];simp only [List.map_append,List.map_cons,List.map_nil];exact (HSTM.out _ _ (by simpa using HCND.out.1 sq_)).symm),hq_ (MdS.more h8 h7 HE3.out HPV3.out HPF.out HM.out HG9.out HOWN9.out HLOC9.out)⟩
        case measure=>simp [intOf];omega
   ·obtain rfl:i=9:=oq_;have r2:=HS.out.rbx.cells 0;go_wp2_with fail
    have hset:=HS.out.row.box (World.grownBy.set' (i:=0) ⟨rfl,rfl,rfl,Nat.le_refl _,fun _ _ _=>rfl⟩ (.slice a2 L.length c2)) (.inl rfl);have hcc:=Bxx.c0 (a0_ 0 (.slice a2 L.length c2) HS.out.rbx);exact bodyPost_ret (v:=.agg #[.slice a2 L.length c2]) (by simp [results,Tryz.results108,go_sem,hcc]) rfl (by rw [<- HMF.out _ hi9 sq_,<- HQ.out];exact ⟨a2,c2,by rw [List.length_map],⟨L,rfl,by rw [List.length_map];exact hset.mix⟩,HS.out.md,HS.out.below.setCell (p:=⟨w.heap.size,0,none⟩) (Nat.le_refl _) _⟩)
  ·obtain rfl:i=n:=oq_;have r2:=HS.out.rbx.cells 0;go_wp2_with fail
   have hset:=HS.out.row.box (World.grownBy.set' (i:=0) ⟨rfl,rfl,rfl,Nat.le_refl _,fun _ _ _=>rfl⟩ (.slice a2 L.length c2)) (.inl rfl);have hcc:=Bxx.c0 (a0_ 0 (.slice a2 L.length c2) HS.out.rbx);exact bodyPost_ret (v:=.agg #[.slice a2 L.length c2]) (by simp [results,Tryz.results108,go_sem,hcc]) rfl (by rw [<- HMF.out _ hi9 sq_,<- HQ.out];exact ⟨a2,c2,by rw [List.length_map],⟨L,rfl,by rw [List.length_map];exact hset.mix⟩,HS.out.md,HS.out.below.setCell (p:=⟨w.heap.size,0,none⟩) (Nat.le_refl _) _⟩)
end Go.Proofs.YtkclokcenllhmaaGreat
end
