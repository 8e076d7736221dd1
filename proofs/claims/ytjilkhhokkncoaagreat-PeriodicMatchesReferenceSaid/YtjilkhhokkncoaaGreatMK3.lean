/- Contracts: residue, rising, Valid, BinarySearch, member, Has, below, Count, Finite, Empty, number's small functions. -/
import Derived.Test.YtjilkhhokkncoaaGreatProg
import Derived.Test.YtjilkhhokkncoaaGreatMK1
import Derived.WalkKit
import Derived.WalkSpells
import Derived.WalkLawsBesides
import Derived.Lib.Hide
import Derived.Deep.QuietTactic
import Derived.BigQuiet
import Derived.IntWalk
import Derived.Test.YtjilkhhokkncoaaGreatMShelf
import Derived.Deep.RegionHeld3
import Derived.Deep.DeepFit
set_option linter.unusedVariables false
set_option linter.unusedSimpArgs false
/- Common ground of the walks: what a slice of ints, a struct api.Periodic reads as; how readings last. -/
namespace Go.Proofs.YtjilkhhokkncoaaGreat
open Go.RowKit Kal
theorem Er (w:World):Below w.heap.size w w:=Below.refl _ _
theorem Ea {w W:World} (h:Below w.heap.size w W) (o:Obj):Below w.heap.size w (W.alloc o):=h.alloc h.size o
theorem Ed {w W:World} (h:Below w.heap.size w W):Below w.heap.size w W.drew:=h.drew
theorem Below.drewN {B:Nat} {w W:World} (h:Below B w W) (n:Nat):Below B w (W.drewN n):=⟨h.os,h.tape,h.output,h.size,h.block⟩
theorem En {w W:World} (h:Below w.heap.size w W) (n:Nat):Below w.heap.size w (W.drewN n):=Below.drewN h n
theorem Es {w W:World} (h:Below w.heap.size w W) {a:Addr} (ha:w.heap.size≤a.block) (v:Value):Below w.heap.size w (W.setCell a v):=h.setCell ha v
theorem Et {w W W':World} (h:Below w.heap.size w W) (h':Below W.heap.size W W'):Below w.heap.size w W':=h.trans (h'.mono h.size)
theorem Ext.size {w W:World} (h:Below w.heap.size w W):w.heap.size≤W.heap.size:=h.size
theorem Ext.cell {w W:World} (h:Below w.heap.size w W) {a:Addr} {v:Value} (hc:w.cell? a=some v):W.cell? a=some v:=(h.cell (World.block_lt_of_cell? w _ hc)).trans hc
theorem cell_alloc_at {w:World} {a:Addr} {v:Value} (h:w.cell? a=some v) (o:Obj):(w.alloc o).cell? a=some v:=Ext.cell (Ea (Er w) o) h
theorem cell_set_ne {w:World} {a b:Addr} {v:Value} (h:w.cell? a=some v) (hne:a.block≠b.block) (u:Value):(w.setCell b u).cell? a=some v:=
 (World.cell?_of_block (Below.heap_setCell w b u a.block hne)).trans h
theorem Below.cell' {B:Nat} {w w':World} (h:Below B w w') {b o:Nat} {v:Value} (hc:w.cell? ⟨b,o,none⟩=some v) (hb:b<B):w'.cell? ⟨b,o,none⟩=some v:=(h.cell (p:=⟨b,o,none⟩) hb).trans hc
theorem Ext.frozen {w W:World} (h:Below w.heap.size w W) {a:Addr} {v:Value} (hc:w.cell? a=some v):W.frozen? a=w.frozen? a:=h.frozen (World.block_lt_of_cell? w _ hc)
theorem bcell {W w1:World} {B:Nat} (hb:Below B W w1):(∀ b o,b<B→w1.cell? ⟨b,o,none⟩=W.cell? ⟨b,o,none⟩)∧(∀ b o,b<B→w1.frozen? ⟨b,o,none⟩=W.frozen? ⟨b,o,none⟩):=
 ⟨fun b o h=>hb.cell (p:=⟨b,o,none⟩) h,fun b o h=>hb.frozen (p:=⟨b,o,none⟩) h⟩
def InI (x:Int):Prop:=-9223372036854775808≤x∧x≤9223372036854775807
theorem wrapI {x:Int} (h:InI x):IntKind.i64.wrap x=x:=IntWalk.i64_in _ ⟨h.1,h.2⟩
structure Ints (w:World) (v:Value) (l:List Int):Prop where
 is:∃ a c,v=.slice a l.length c∧l.length≤c∧c≤9223372036854775807∧(l=[]∨∃ b o,a=some ⟨b,o,none⟩∧∀ i,i<l.length→w.cell? ⟨b,o+i,none⟩=some (.int .i64 (l.getD i 0)))
 len:l.length≤17592186044416
 rng:∀ x∈l,InI x
theorem Ints.ext {w W:World} {v:Value} {l:List Int} (h:Ints w v l) (hb:Below w.heap.size w W):Ints W v l:=by
 obtain ⟨⟨a,c,rfl,h1,h2,h3⟩,h4,h5⟩:=h
 refine ⟨⟨a,c,rfl,h1,h2,h3.imp id ?_⟩,h4,h5⟩
 rintro ⟨b,o,rfl,hc⟩
 exact ⟨b,o,rfl,fun i hi=>Ext.cell hb (hc i hi)⟩
theorem Ints.nil (w:World):Ints w (.slice none 0 0) []:=⟨⟨none,0,rfl,by simp,by omega,.inl rfl⟩,by simp,by simp⟩
structure PerIs (w:World) (h c:Value) (p:Per):Prop where
 hd:Ints w h p.head
 cy:Ints w c p.cycle
theorem PerIs.ext {w W:World} {h c:Value} {p:Per} (hp:PerIs w h c p) (hb:Below w.heap.size w W):PerIs W h c p:=⟨hp.hd.ext hb,hp.cy.ext hb⟩
theorem ret_int {k:IntKind} {a b:Int} (h:a=b):Ending.returned (.int k a)=.returned (.int k b):=by rw [h]
theorem ret_bool {a b:Bool} (h:a=b):Ending.returned (.bool a)=.returned (.bool b):=by rw [h]
theorem len_eq0 {α:Type} [DecidableEq α] (l:List α):((l.length:Int) == 0)=decide (l=[]):=by
 cases l with
 | nil=>rfl
 | cons a l=>simp;omega
theorem tmod_pos (n m:Int) (hm:1≤m):(n.tmod m<0→n.tmod m+m=n % m)∧(0≤n.tmod m→n.tmod m=n % m)∧-m<n.tmod m∧n.tmod m<m:=by
 have h0:=Int.emod_nonneg n (show m≠0 by omega)
 have h1:=Int.emod_lt_of_pos n (show 0<m by omega)
 rw [Int.tmod_eq_emod]
 split
 ·omega
 ·rw [show (m.natAbs:Int)=m from by omega]
  rename_i h
  have h2:n % m≠0:=fun h3=>h (.inr (Int.dvd_of_emod_eq_zero h3))
  omega
theorem drop_cons {l:List Int} {k:Nat} (h:k<l.length):l.drop k=l.getD k 0 :: l.drop (k+1):=by
 rw [List.drop_eq_getElem_cons h];simp [h]
theorem quiet_same {P:Program} {f:FuncId} {args:Array Value} {w:World} {n:Nat} {v:Value}
  (h:Calls P f args (w.drewN n) fun e w'=>e=.returned v∧w.drewN n=w'):Calls P f args (w.drewN n) fun e w''=>e=.returned v∧∃ m,w''=w.drewN m:=
 h.mono fun _ _ ⟨he,hm⟩=>⟨he,n,hm.symm⟩
theorem quiet_add {P:Program} {f:FuncId} {args:Array Value} {w:World} {a n:Nat} {v:Value}
  (h:Calls P f args (w.drewN (a+n)) fun e w'=>e=.returned v∧∃ m,w'=(w.drewN (a+n)).drewN m) :
  Calls P f args (w.drewN (a+n)) fun e w''=>e=.returned v∧∃ m,w''=w.drewN (a+m):=
 h.mono fun _ _ ⟨he,m,hm⟩=>⟨he,n+m,by rw [hm,World.drewN_drewN,Nat.add_assoc]⟩
theorem quiet_add_left {P:Program} {f:FuncId} {args:Array Value} {w:World} {a n:Nat} {v:Value}
  (h:Calls P f args (w.drewN (a+n)) fun e w'=>e=.returned v∧w.drewN (a+n)=w') :
  Calls P f args (w.drewN (a+n)) fun e w''=>e=.returned v∧∃ m,w''=w.drewN (a+m):=
 h.mono fun _ _ ⟨he,hm⟩=>⟨he,n,hm.symm⟩
end Go.Proofs.YtjilkhhokkncoaaGreat
/- Walks: residue, rising, Valid, member, below, Has, Count, Finite, Empty (package periodic). -/
namespace Go.Proofs.YtjilkhhokkncoaaGreat
open Go.RowKit Kal
set_option maxHeartbeats 400000 in
theorem residue_any (n m:Int) (w:World) (hm:1≤m) (hm2:m≤4611686018427387904) :
  Calls Tryz.prog 62 #[.int .i64 n,.int .i64 m] w fun e w'=>e=.returned (.int .i64 (n % m))∧w=w':=by
 obtain ⟨h1,h2,h3,h4⟩:=tmod_pos n m hm
 have H1:=Lib.hid h1
 have H2:=Lib.hid h2
 clear h1 h2
 go_enter Tryz.func62,Tryz.ntmps62
 go_wp2
 ·go_ret
  exact ⟨ret_int (H1.out (by assumption)),rfl⟩
 ·go_ret
  exact ⟨ret_int (H2.out (by assumption)),rfl⟩
def risingB:Int→Int→List Int→Bool
 | _,_,[]=>true
 | last,lim,n :: l=>if n≤last∨lim≤n then false else risingB n lim l
theorem risingB_iff (last lim:Int) (l:List Int):risingB last lim l=true↔Rise (last+1) lim l:=by
 induction l generalizing last with
 | nil=>simp [risingB,Rise.nil]
 | cons n l ih=>
  rw [risingB]
  split
  ·rename_i h
   simp only [Bool.false_eq_true,false_iff]
   intro hr;have:=hr.2 n (by simp);omega
  ·rename_i h
   rw [ih]
   constructor
   ·intro hr
    refine ⟨List.pairwise_cons.2 ⟨fun x hx=>by have:=hr.2 x hx;omega,hr.1⟩,fun x hx=>?_⟩
    rcases List.mem_cons.1 hx with rfl|hx
    ·omega
    ·have:=hr.2 x hx;omega
   ·intro hr
    have hp:=List.pairwise_cons.1 hr.1
    exact ⟨hp.2,fun x hx=>⟨by have:=hp.1 x hx;omega,(hr.2 x (List.mem_cons_of_mem _ hx)).2⟩⟩
set_option maxHeartbeats 400000 in
theorem rising_any (v:Value) (l:List Int) (lim:Int) (w:World) (hv:Ints w v l) :
  Calls Tryz.prog 52 #[v,.int .i64 lim] w fun e w'=>e=.returned (.bool (risingB (-1) lim l))∧w=w':=by
 obtain ⟨⟨a,c,rfl,hlc,hc,hcells⟩,hlen,hb⟩:=hv
 go_enter Tryz.func52,Tryz.ntmps52
 go_wp2
 go_loop [5,7,10] (fun last n i=>∃ k:Nat,k≤l.length∧i=.int .i64 k∧∃ x y:Int,last=.int .i64 x∧risingB (-1) lim l=risingB x lim (l.drop k)∧True) (fun _ _ i=>l.length-(intOf i).toNat)
 case atStart=>exact ⟨0,by omega,rfl,-1,0,rfl,by simp,trivial⟩
 case round=>
  obtain ⟨k,hk,rfl,x,y,rfl,hr,_⟩:=hrel
  have HR:=Lib.hid hr
  clear hr
  by_cases hlt:k<l.length
  ·rcases hcells with h|⟨b,o,rfl,hcell⟩
   ·subst h;simp at hlt
   have hc1:=hcell k hlt
   have hd:=Lib.hid (drop_cons hlt)
   have hm:=hb (l.getD k 0) (by simp [hlt])
   unfold InI at hm
   generalize l.getD k 0=z at *
   clear hcell hb
   by_cases hz:z≤x∨lim≤z
   ·have hf:risingB (-1) lim l=false:=by rw [HR.out,hd.out,risingB,if_pos hz]
    have HF:=Lib.hid hf
    clear hf
    go_wp2
    all_goals (go_ret;exact ⟨ret_bool HF.out.symm,rfl⟩)
   ·have hf:risingB (-1) lim l=risingB z lim (l.drop (k+1)):=by rw [HR.out,hd.out,risingB,if_neg hz]
    have HF:=Lib.hid hf
    clear hf
    have hz':x<z∧z<lim:=by omega
    clear hz
    go_wp2
    go_round
    case rel=>exact ⟨k+1,by omega,by go_num,z,0,rfl,HF.out,trivial⟩
    case measure=>simp [intOf];omega
  ·go_wp2
   go_ret
   exact ⟨ret_bool (by rw [HR.out,List.drop_eq_nil_of_le (by omega)];rfl),rfl⟩
def validB (p:Per):Bool:=decide (0≤p.frm) && decide (p.frm≤1099511627776) && decide (1≤p.period) && decide (p.period≤1099511627776) && decide ((p.head.length+p.cycle.length:Int)≤1048576) && risingB (-1) p.frm p.head && risingB (-1) p.period p.cycle
structure Valid (p:Per):Prop where
 wf:p.WF
 frm:p.frm≤1099511627776
 per:p.period≤1099511627776
 len:p.head.length+p.cycle.length≤1048576
theorem validB_iff (p:Per):validB p=true↔Valid p:=by
 unfold validB
 simp only [Bool.and_eq_true,decide_eq_true_eq,risingB_iff]
 constructor
 ·rintro ⟨⟨⟨⟨⟨⟨h1,h2⟩,h3⟩,h4⟩,h5⟩,h6⟩,h7⟩
  exact ⟨⟨h1,h3,h6,h7⟩,h2,h4,by omega⟩
 ·rintro ⟨⟨h1,h3,h6,h7⟩,h2,h4,h5⟩
  exact ⟨⟨⟨⟨⟨⟨h1,h2⟩,h3⟩,h4⟩,by omega⟩,h6⟩,h7⟩
set_option maxRecDepth 100000 in
set_option maxHeartbeats 1000000 in
theorem valid_any (h c:Value) (p:Per) (w:World) (hp:PerIs w h c p) :
  Calls Tryz.prog 15 #[.agg #[h,.int .i64 p.frm,.int .i64 p.period,c]] w fun e w'=>e=.returned (.bool (validB p))∧Below w.heap.size w w':=by
 have hh':=fun o=>(hp.hd.ext (Ea (Er w) o))
 have hc':=fun o=>(hp.cy.ext (Ea (Er w) o))
 obtain ⟨⟨⟨ha,hcap,rfl,hh1,hh2,hh3⟩,hh4,_⟩,⟨ca,ccap,rfl,hc1,hc2,hc3⟩,hc4,_⟩:=hp
 obtain ⟨head,frm,period,cycle⟩:=p
 dsimp only at *
 clear hh3 hc3
 go_enter Tryz.func15,Tryz.ntmps15
 go_wp2_with (go_at_call 52;first|((with_reducible refine (rising_any _ head _ _ (hh' _)).mono ?_);rintro e w' ⟨rfl,rfl⟩)|((with_reducible refine (rising_any _ cycle _ _ (hc' _)).mono ?_);rintro e w' ⟨rfl,rfl⟩))
 all_goals (go_ret;refine ⟨ret_bool ?_,(Below.refl _ _).alloc (Nat.le_refl _) _⟩;simp [validB, *])
 all_goals omega
theorem search_any (v:Value) (l:List Int) (x:Int) (w:World) (hv:Ints w v l) (hs:l.Pairwise (· < ·)) :
  Calls Tryz.prog 81 #[v,.int .i64 x] w fun e w'=>e=.returned (.tuple #[.int .i64 ((l.countP (fun y=>decide (y<x)):Nat):Int),.bool (decide (x∈l))])∧∃ n,w'=w.drewN n:=by
 obtain ⟨⟨a,c,rfl,h1,h2,h3⟩,h4,h5⟩:=hv
 rcases h3 with h3|⟨b,o,rfl,hcell⟩
 ·subst h3
  exact (Tryz.slices_BinarySearch_int_empty a c x w).mono fun e w' ⟨he,hw⟩=>⟨by rw [he];simp,0,hw⟩
 ·have:=Tryz.slices_BinarySearch_int b o l.length c l x w (Nat.le_refl _) (by omega) hcell (by rw [List.take_length];exact hs.imp fun h=>by omega)
  rw [List.take_length] at this
  exact this.mono fun e w' ⟨he,hw⟩=>⟨by rw [he];simp,hw⟩
end Go.Proofs.YtjilkhhokkncoaaGreat
/- Walks: member, Has, below, Count, Finite, Empty (package periodic). -/
namespace Go.Proofs.YtjilkhhokkncoaaGreat
open Go.RowKit Kal
abbrev perV (h c:Value) (f p:Int):Value:=.agg #[h,.int .i64 f,.int .i64 p,c]
def memB (p:Per) (n:Int):Bool:=if n<p.frm then decide (n∈p.head) else decide ((n-p.frm) % p.period∈p.cycle)
theorem memB_iff {p:Per} {n:Int} (hn:0≤n):memB p n=true↔p.mem n:=by
 unfold memB Per.mem
 split <;> simp [*]
set_option maxRecDepth 100000 in
set_option maxHeartbeats 1000000 in
theorem member_any (h c:Value) (p:Per) (n:Int) (w:World) (hp:PerIs w h c p) (hw:p.WF) (h1:p.frm≤1125899906842624) (h2:p.period≤1125899906842624) (hn:0≤n) (hn2:n≤9007199254740992) :
  Calls Tryz.prog 54 #[.agg #[h,.int .i64 p.frm,.int .i64 p.period,c],.int .i64 n] w fun e w'=>e=.returned (.bool (memB p n))∧Below w.heap.size w w':=by
 have f0:=hw.frm
 have p0:=hw.per
 have hs1:=hw.head.1
 have hs2:=hw.cyc.1
 have hl:∀ W,Below w.heap.size w W→Ints W h p.head:=fun W hb=>hp.hd.ext hb
 have hc:∀ W,Below w.heap.size w W→Ints W c p.cycle:=fun W hb=>hp.cy.ext hb
 obtain ⟨head,frm,period,cycle⟩:=p
 dsimp only at *
 clear hp
 by_cases hlt:n<frm
 ·have hm:memB ⟨head,frm,period,cycle⟩ n=decide (n∈head):=by unfold memB;rw [if_pos hlt]
  have HM:=Lib.hid hm
  clear hm
  go_enter Tryz.func54,Tryz.ntmps54
  go_wp2_with (go_at_call 81;(refine (search_any _ head _ _ (hl _ (by (repeat' (with_reducible first|assumption|apply Er|apply Ea|apply Ed|apply En|(refine Es ?_ (by first|(simp<;>omega)|omega) _)|refine Et ?_ (by assumption))))) hs1).mono ?_);rintro e w' ⟨rfl,nq,rfl⟩)
  go_ret
  exact ⟨ret_bool HM.out.symm,by (repeat' (with_reducible first|assumption|apply Er|apply Ea|apply Ed|apply En|(refine Es ?_ (by first|(simp<;>omega)|omega) _)|refine Et ?_ (by assumption)))⟩
 ·have hm:memB ⟨head,frm,period,cycle⟩ n=decide ((n-frm) % period∈cycle):=by unfold memB;rw [if_neg hlt]
  have HM:=Lib.hid hm
  clear hm
  have hge:frm≤n:=by omega
  clear hlt
  go_enter Tryz.func54,Tryz.ntmps54
  go_wp2_with fail
  go_quiet (fail)
  go_wp2_with (go_at_call 81;(refine (search_any _ cycle _ _ (hc _ (by (repeat' (with_reducible first|assumption|apply Er|apply Ea|apply Ed|apply En|(refine Es ?_ (by first|(simp<;>omega)|omega) _)|refine Et ?_ (by assumption))))) hs2).mono ?_);rintro e w' ⟨rfl,nq,rfl⟩)
  go_ret
  exact ⟨ret_bool HM.out.symm,by (repeat' (with_reducible first|assumption|apply Er|apply Ea|apply Ed|apply En|(refine Es ?_ (by first|(simp<;>omega)|omega) _)|refine Et ?_ (by assumption)))⟩
theorem prod_bound {n f q k:Int} (hq:1≤q) (h0:0≤n-f) (hk0:0≤k) (hk:k≤q):0≤(n-f) / q*k∧(n-f) / q*k≤n-f:=by
 have h1:0≤(n-f) / q:=Int.ediv_nonneg h0 (by omega)
 have h2:=Int.mul_nonneg h1 hk0
 have h3:(n-f) / q*k≤(n-f) / q*q:=Int.mul_le_mul_of_nonneg_left hk h1
 have h4:=Int.emod_add_ediv_mul (n-f) q
 have h5:=Int.emod_nonneg (n-f) (show q≠0 by omega)
 omega
set_option maxRecDepth 100000 in
set_option maxHeartbeats 1000000 in
theorem below_any (h c:Value) (p:Per) (n:Int) (w:World) (hp:PerIs w h c p) (hw:p.WF) (h1:p.frm≤1125899906842624) (h2:p.period≤1125899906842624) (hn:0≤n) (hn2:n≤9007199254740992) :
  Calls Tryz.prog 47 #[.agg #[h,.int .i64 p.frm,.int .i64 p.period,c],.int .i64 n] w fun e w'=>e=.returned (.int .i64 (belowI p n))∧Below w.heap.size w w':=by
 have f0:=hw.frm
 have p0:=hw.per
 have hs1:=hw.head.1
 have hs2:=hw.cyc.1
 have hlc:=hw.cyc.length_le (by omega)
 have hl:∀ W,Below w.heap.size w W→Ints W h p.head:=fun W hb=>hp.hd.ext hb
 have hc:∀ W,Below w.heap.size w W→Ints W c p.cycle:=fun W hb=>hp.cy.ext hb
 by_cases hlt:n≤p.frm
 ·have HM:=Lib.hid (show belowI p n=_ by unfold belowI;rw [if_pos hlt])
  clear hp
  go_enter Tryz.func47,Tryz.ntmps47
  go_wp2_with (go_at_call 81;(refine (search_any _ p.head _ _ (hl _ (by (repeat' (with_reducible first|assumption|apply Er|apply Ea|apply Ed|apply En|(refine Es ?_ (by first|(simp<;>omega)|omega) _)|refine Et ?_ (by assumption))))) hs1).mono ?_);rintro e w' ⟨rfl,nq,rfl⟩)
  go_ret
  exact ⟨ret_int HM.out.symm,by (repeat' (with_reducible first|assumption|apply Er|apply Ea|apply Ed|apply En|(refine Es ?_ (by first|(simp<;>omega)|omega) _)|refine Et ?_ (by assumption)))⟩
 ·have HM:=Lib.hid (show belowI p n=_ by unfold belowI;rw [if_neg hlt])
  have hge:p.frm<n:=by omega
  obtain ⟨hb1,hb2⟩:=prod_bound (n:=n) (f:=p.frm) (k:=p.cycle.length) p0 (by omega) (by omega) (by omega)
  have hk2:=Int.ofNat_le.2 (List.countP_le_length (p:=fun y=>decide (y<(n-p.frm) % p.period)) (l:=p.cycle))
  have hl1:=hp.hd.len
  have hl2:=hp.cy.len
  obtain ⟨⟨⟨ha,hcap,rfl,_,_,_⟩,_,_⟩,⟨ca,ccap,rfl,_,_,_⟩,_,_⟩:=hp
  clear hlt
  go_enter Tryz.func47,Tryz.ntmps47
  go_wp2_with fail
  go_quiet ((go_at_call 81;exact Calls.quiet_of (search_any _ p.cycle _ _ (hc _ (by (repeat' (with_reducible first|assumption|apply Er|apply Ea|apply Ed|apply En|(refine Es ?_ (by first|(simp<;>omega)|omega) _)|refine Et ?_ (by assumption))))) hs2)))
  go_wp2_with fail
  go_quiet (fail)
  go_wp2_with fail
  go_ret
  refine ⟨ret_int ?_,by (repeat' (with_reducible first|assumption|apply Er|apply Ea|apply Ed|apply En|(refine Es ?_ (by first|(simp<;>omega)|omega) _)|refine Et ?_ (by assumption)))⟩
  rw [HM.out]
end Go.Proofs.YtjilkhhokkncoaaGreat
/- Walks: member and Has (package periodic) at whatever day. -/
namespace Go.Proofs.YtjilkhhokkncoaaGreat
open Go.RowKit Kal
end Go.Proofs.YtjilkhhokkncoaaGreat
/- Walks: Count, Finite, Empty (package periodic). -/
namespace Go.Proofs.YtjilkhhokkncoaaGreat
open Go.RowKit Kal
end Go.Proofs.YtjilkhhokkncoaaGreat
/- Walks: package number (mod, magnitude, Gcd, Lcm, times, inverse, Solve) and their twins in package periodic (invert, multiply). -/
namespace Go.Proofs.YtjilkhhokkncoaaGreat
open Go.RowKit Kal
set_option maxHeartbeats 400000 in
theorem mod_any (n m:Int) (w:World) (hm:1≤m) (hm2:m≤4611686018427387904) :
  Calls Tryz.prog 117 #[.int .i64 n,.int .i64 m] w fun e w'=>e=.returned (.int .i64 (n % m))∧w=w':=by
 obtain ⟨h1,h2,h3,h4⟩:=tmod_pos n m hm
 have H1:=Lib.hid h1
 have H2:=Lib.hid h2
 clear h1 h2
 go_enter Tryz.func117,Tryz.ntmps117
 go_wp2
 ·go_ret
  exact ⟨ret_int (H1.out (by assumption)),rfl⟩
 ·go_ret
  exact ⟨ret_int (H2.out (by assumption)),rfl⟩
set_option maxHeartbeats 400000 in
theorem magnitude_any (n:Int) (w:World) (h0:0≤n) (h1:n≤9223372036854775807) :
  Calls Tryz.prog 94 #[.int .i64 n] w fun e w'=>e=.returned (.int .u64 n)∧w=w':=by
 go_enter Tryz.func94,Tryz.ntmps94
 go_wp2
 go_ret
 exact ⟨by simp,rfl⟩
set_option maxHeartbeats 1000000 in
theorem gcd_any (a b:Int) (w:World) (ha:1≤a) (ha1:a≤9223372036854775807) (hb:1≤b) (hb1:b≤9223372036854775807) :
  Calls Tryz.prog 72 #[.int .i64 a,.int .i64 b] w fun e w'=>e=.returned (.int .i64 (Int.gcd a b:Nat))∧∃ n,w'=w.drewN n:=by
 have hg:=gcd_bound (b:=b) ha
 have hg2:=gcd_bound2 (a:=a) hb
 generalize hgd:((Int.gcd a b:Nat):Int)=g at *
 have HG:=Lib.hid hgd
 clear hgd
 go_enter Tryz.func72,Tryz.ntmps72
 go_wp2_with (go_at_call 94;refine (magnitude_any _ _ (by omega) (by omega)).mono ?_;rintro e w' ⟨rfl,rfl⟩)
 go_loopw [5,6] (fun vx vy wr=>∃ x y:Int,vx=.int .u64 x∧vy=.int .u64 y∧0≤x∧x≤9223372036854775807∧0≤y∧y≤9223372036854775807∧Int.gcd x y=Int.gcd a b∧∃ n,wr=w.drewN n) (fun _ vy _=>(intOf vy).toNat)
 case atStart=>exact ⟨a,b,rfl,rfl,by omega,ha1,by omega,hb1,rfl,0,rfl⟩
 case round=>
  obtain ⟨x,y,rfl,rfl,hx0,hx1,hy0,hy1,hgxy,n,rfl⟩:=hrel
  have HX:=Lib.hid hgxy
  clear hgxy
  by_cases hz:y=0
  ·subst hz
   have hxg:x=g:=by have:=gcd_zero hx0;rw [HX.out,HG.out] at this;exact this.symm
   have HXG:=Lib.hid hxg
   clear hxg
   have hxb:¬ 9223372036854775807<x:=by omega
   go_wp2_with fail
   go_ret
   exact ⟨ret_int HXG.out,n,rfl⟩
  ·have hs:=gcd_step hx0 (show 0<y by omega)
   rw [HX.out] at hs
   have HS:=Lib.hid hs
   clear hs
   have hm0:=Int.emod_nonneg x (show y≠0 by omega)
   have hm1:=Int.emod_lt_of_pos x (show 0<y by omega)
   have hzb:(y != 0)=true:=by rw [bne_iff_ne];omega
   have hypos:0<y:=by omega
   clear hz
   go_wp2_with fail
   go_quiet (fail)
   go_wp2_with fail
   go_roundw
   case rel=>exact ⟨y,x % y,rfl,rfl,hy0,hy1,hm0,by omega,HS.out,_,World.drewN_drewN _ _ _⟩
   case measure=>simp [intOf];omega
set_option maxHeartbeats 1000000 in
theorem inverse_any (a m:Int) (w:World) (ha:0≤a) (ham:a<m) (hm:m≤1152921504606846976) (hg:Int.gcd a m=1) :
  Calls Tryz.prog 119 #[.int .i64 a,.int .i64 m] w fun e w'=>e=.returned (.int .i64 (invI a m))∧∃ n,w'=w.drewN n:=by
 have HG:=Lib.hid hg
 clear hg
 go_enter Tryz.func119,Tryz.ntmps119
 go_wp2_with fail
 go_loopw [5,6,7,8] (fun vx vy vs vt wr=>∃ x y s t:Int,vx=.int .i64 x∧vy=.int .i64 y∧vs=.int .i64 s∧vt=.int .i64 t∧EE a m x y s t∧∃ n,wr=w.drewN n) (fun _ vy _ _ _=>(intOf vy).toNat)
 case atStart=>exact ⟨a,m,1,0,rfl,rfl,rfl,rfl,EE.start ha ham,0,rfl⟩
 case round=>
  obtain ⟨x,y,s,t,rfl,rfl,rfl,rfl,hE,n,rfl⟩:=hrel
  have hx0:=hE.x0
  have hy0:=hE.y0
  have hxm:=hE.xm
  have hym:=hE.ym
  obtain ⟨hs1,hs2⟩:=hE.sb
  obtain ⟨ht1,ht2⟩:=hE.tb
  by_cases hz:y=0
  ·subst hz
   have HI:=Lib.hid (invI_eq (isInv_of_EE hE HG.out (by omega)))
   go_wp2_with (go_at_call 117;refine (mod_any _ _ _ (by omega) (by omega)).mono ?_;rintro e w' ⟨rfl,rfl⟩)
   go_ret
   exact ⟨ret_int HI.out.symm,n,rfl⟩
  ·have hypos:0<y:=by omega
   obtain ⟨hE2,⟨h1,h2⟩,h3,h4,h5,h6,h7,h8⟩:=hE.step hypos
   have hs3:=hE2.tb
   have hzb:(y != 0)=true:=by rw [bne_iff_ne];omega
   have H7:=Lib.hid h7
   clear hz h7
   go_wp2_with fail
   repeat (go_quiet (fail);go_wp2_with fail)
   go_roundw
   case rel=>exact ⟨y,x-x / y*y,t,s-x / y*t,rfl,rfl,rfl,rfl,hE2,_,rfl⟩
   case measure=>have:=H7.out;simp [intOf];omega
set_option maxHeartbeats 1000000 in
theorem invert_any (a m:Int) (w:World) (ha:0≤a) (ham:a<m) (hm:m≤1152921504606846976) (hg:Int.gcd a m=1) :
  Calls Tryz.prog 60 #[.int .i64 a,.int .i64 m] w fun e w'=>e=.returned (.int .i64 (invI a m))∧∃ n,w'=w.drewN n:=by
 have HG:=Lib.hid hg
 clear hg
 go_enter Tryz.func60,Tryz.ntmps60
 go_wp2_with fail
 go_loopw [5,6,7,8] (fun vx vy vs vt wr=>∃ x y s t:Int,vx=.int .i64 x∧vy=.int .i64 y∧vs=.int .i64 s∧vt=.int .i64 t∧EE a m x y s t∧∃ n,wr=w.drewN n) (fun _ vy _ _ _=>(intOf vy).toNat)
 case atStart=>exact ⟨a,m,1,0,rfl,rfl,rfl,rfl,EE.start ha ham,0,rfl⟩
 case round=>
  obtain ⟨x,y,s,t,rfl,rfl,rfl,rfl,hE,n,rfl⟩:=hrel
  have hx0:=hE.x0
  have hy0:=hE.y0
  have hxm:=hE.xm
  have hym:=hE.ym
  obtain ⟨hs1,hs2⟩:=hE.sb
  obtain ⟨ht1,ht2⟩:=hE.tb
  by_cases hz:y=0
  ·subst hz
   have HI:=Lib.hid (invI_eq (isInv_of_EE hE HG.out (by omega)))
   go_wp2_with (go_at_call 62;refine (residue_any _ _ _ (by omega) (by omega)).mono ?_;rintro e w' ⟨rfl,rfl⟩)
   go_ret
   exact ⟨ret_int HI.out.symm,n,rfl⟩
  ·have hypos:0<y:=by omega
   obtain ⟨hE2,⟨h1,h2⟩,h3,h4,h5,h6,h7,h8⟩:=hE.step hypos
   have hs3:=hE2.tb
   have hzb:(y != 0)=true:=by rw [bne_iff_ne];omega
   have H7:=Lib.hid h7
   clear hz h7
   go_wp2_with fail
   repeat (go_quiet (fail);go_wp2_with fail)
   go_roundw
   case rel=>exact ⟨y,x-x / y*y,t,s-x / y*t,rfl,rfl,rfl,rfl,hE2,_,rfl⟩
   case measure=>have:=H7.out;simp [intOf];omega
set_option maxHeartbeats 1000000 in
theorem rem64_small (lo y:Int) (w:World) (h0:0≤lo) (h1:lo≤18446744073709551615) (hy:1≤y) (hy1:y≤18446744073709551615) :
  Calls Tryz.prog 105 #[.int .u64 0,.int .u64 lo,.int .u64 y] w fun e w'=>e=.returned (.tuple #[.int .u64 (lo / y),.int .u64 (lo % y)])∧∃ n,w'=w.drewN n:=by
 have hyb:(y == 0)=false:=by rw [beq_eq_false_iff_ne];omega
 have hypos:0<y:=by omega
 have hq0:0≤lo / y:=Int.ediv_nonneg h0 (by omega)
 have hq1:lo / y≤lo:=Int.ediv_le_self _ h0
 go_enter Tryz.func105,Tryz.ntmps105
 go_wp2_with fail
 go_quiet (fail)
 go_wp2_with fail
 go_ret2
 exact ⟨rfl,_,rfl⟩
end Go.Proofs.YtjilkhhokkncoaaGreat
