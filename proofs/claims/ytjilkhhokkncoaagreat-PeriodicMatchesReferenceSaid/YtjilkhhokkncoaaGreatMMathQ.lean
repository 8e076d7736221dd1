/- Plain mathematics of the reference's operations: two rising lists combined. -/
import Derived.Test.YtjilkhhokkncoaaGreatMMathP
set_option linter.unusedVariables false
set_option linter.unusedSimpArgs false
namespace Go.Proofs.YtjilkhhokkncoaaGreat
open Kal
def comb (op:Int):Nat→List Int→List Int→List Int
 | 0,_,_=>[]
 | _+1,[],[]=>[]
 | n+1,x :: a,[]=>if op≠0 then x :: comb op n a [] else comb op n a []
 | n+1,[],y :: b=>if op=1 then y :: comb op n [] b else comb op n [] b
 | n+1,x :: a,y :: b=>
  if x<y then (if op≠0 then x :: comb op n a (y :: b) else comb op n a (y :: b))
  else if y<x then (if op=1 then y :: comb op n (x :: a) b else comb op n (x :: a) b)
  else (if op≠2 then x :: comb op n a b else comb op n a b)
theorem comb_fuel (op:Int):∀ (n m:Nat) (a b:List Int),a.length+b.length≤n→a.length+b.length≤m→comb op n a b=comb op m a b
 | 0,0,_,_,_,_=>rfl
 | 0,m+1,a,b,h,_=>by
  obtain rfl:a=[]:=List.eq_nil_of_length_eq_zero (by omega)
  obtain rfl:b=[]:=List.eq_nil_of_length_eq_zero (by omega)
  rfl
 | n+1,0,a,b,_,h=>by
  obtain rfl:a=[]:=List.eq_nil_of_length_eq_zero (by omega)
  obtain rfl:b=[]:=List.eq_nil_of_length_eq_zero (by omega)
  rfl
 | n+1,m+1,a,b,h,g=>by
  cases a with
  | nil=>cases b with
   | nil=>rfl
   | cons y b=>simp only [comb];simp only [List.length_cons,List.length_nil] at h g;rw [comb_fuel op n m [] b (by simp;omega) (by simp;omega)]
  | cons x a=>cases b with
   | nil=>simp only [comb];simp only [List.length_cons,List.length_nil] at h g;rw [comb_fuel op n m a [] (by simp;omega) (by simp;omega)]
   | cons y b=>
    simp only [comb];simp only [List.length_cons] at h g
    rw [comb_fuel op n m a (y :: b) (by simp;omega) (by simp;omega),comb_fuel op n m (x :: a) b (by simp;omega) (by simp;omega),comb_fuel op n m a b (by omega) (by omega)]
def combR (op:Int) (a b:List Int):List Int:=comb op (a.length+b.length) a b
theorem combR_a {op x:Int} {a b:List Int} (h:∀ y b',b=y :: b'→x<y):combR op (x :: a) b=if op≠0 then x :: combR op a b else combR op a b:=by
 unfold combR
 rw [show (x :: a).length+b.length=(a.length+b.length)+1 from by simp;omega]
 cases b with
 | nil=>rfl
 | cons y b=>simp only [comb];rw [if_pos (h y b rfl)]
theorem combR_b {op y:Int} {a b:List Int} (h:∀ x a',a=x :: a'→y<x):combR op a (y :: b)=if op=1 then y :: combR op a b else combR op a b:=by
 unfold combR
 rw [show a.length+(y :: b).length=(a.length+b.length)+1 from by simp;omega]
 cases a with
 | nil=>rfl
 | cons x a=>have h1:=h x a rfl;simp only [comb];rw [if_neg (by omega),if_pos h1]
theorem combR_ab {op x:Int} {a b:List Int}:combR op (x :: a) (x :: b)=if op≠2 then x :: combR op a b else combR op a b:=by
 unfold combR
 rw [show (x :: a).length+(x :: b).length=(a.length+b.length+1)+1 from by simp;omega]
 simp only [comb]
 rw [if_neg (by omega),if_neg (by omega),comb_fuel op (a.length+b.length+1) (a.length+b.length) a b (by omega) (by omega)]
theorem combR_nil {op:Int}:combR op [] []=[]:=rfl
theorem drop_cons_getD {l:List Int} {i:Nat} (h:i<l.length):l.drop i=l.getD i 0 :: l.drop (i+1):=by
 rw [List.getD_eq_getElem?_getD,List.getElem?_eq_getElem h,List.drop_eq_getElem_cons h];rfl
theorem drop_head {l:List Int} {k:Nat} {y:Int} {b:List Int} (h:l.drop k=y :: b):k<l.length∧y=l.getD k 0:=by
 have hk:k<l.length:=by
  rcases Nat.lt_or_ge k l.length with h1|h1
  ·exact h1
  ·rw [List.drop_eq_nil_of_le h1] at h;cases h
 rw [drop_cons_getD hk] at h
 injection h with h1 h2
 exact ⟨hk,h1.symm⟩
theorem comb_at_a {op:Int} {l m:List Int} {i k:Nat} (hi:i<l.length) (h:k<m.length→l.getD i 0<m.getD k 0):combR op (l.drop i) (m.drop k)=if op≠0 then l.getD i 0 :: combR op (l.drop (i+1)) (m.drop k) else combR op (l.drop (i+1)) (m.drop k):=by
 rw [drop_cons_getD hi]
 exact combR_a fun y b e=>by obtain ⟨h1,h2⟩:=drop_head e;rw [h2];exact h h1
theorem comb_at_b {op:Int} {l m:List Int} {i k:Nat} (hk:k<m.length) (h:i<l.length→m.getD k 0<l.getD i 0):combR op (l.drop i) (m.drop k)=if op=1 then m.getD k 0 :: combR op (l.drop i) (m.drop (k+1)) else combR op (l.drop i) (m.drop (k+1)):=by
 rw [drop_cons_getD hk]
 exact combR_b fun y b e=>by obtain ⟨h1,h2⟩:=drop_head e;rw [h2];exact h h1
theorem comb_at_ab {op:Int} {l m:List Int} {i k:Nat} (hi:i<l.length) (hk:k<m.length) (h:l.getD i 0=m.getD k 0):combR op (l.drop i) (m.drop k)=if op≠2 then l.getD i 0 :: combR op (l.drop (i+1)) (m.drop (k+1)) else combR op (l.drop (i+1)) (m.drop (k+1)):=by
 rw [drop_cons_getD hi,drop_cons_getD hk,← h]
 exact combR_ab
theorem comb_sel_aux {op:Int} (hop:op=0∨op=1∨op=2):∀ (n:Nat) (a b:List Int) (lo hi:Int),a.length+b.length≤n→Rise lo hi a→Rise lo hi b→
  Rise lo hi (combR op a b)∧∀ x,x∈combR op a b↔opS op (·∈a) (·∈b) x:=by
 intro n
 induction n with
 | zero=>
  intro a b lo hi h _ _
  obtain rfl:a=[]:=List.eq_nil_of_length_eq_zero (by omega)
  obtain rfl:b=[]:=List.eq_nil_of_length_eq_zero (by omega)
  refine ⟨Rise.nil,fun x=>?_⟩
  rcases hop with rfl|rfl|rfl <;> simp [combR_nil,opS]
 | succ n ih=>
  intro a b lo hi h ha hb
  have tail:∀ {y:Int} {l:List Int},Rise lo hi (y :: l)→Rise (y+1) hi l∧lo≤y∧y<hi:=fun {y l} hr=>by
   have h1:=List.pairwise_cons.1 hr.1
   have h2:=hr.2 y (by simp)
   refine ⟨⟨h1.2,fun z hz=>?_⟩,h2⟩
   have h3:=h1.1 z hz
   have h4:=hr.2 z (by simp [hz])
   omega
  have cons:∀ {y:Int} {l:List Int},lo≤y→y<hi→Rise (y+1) hi l→Rise lo hi (y :: l):=fun {y l} h1 h2 hr=>by
   refine ⟨List.pairwise_cons.2 ⟨fun z hz=>?_,hr.1⟩,fun z hz=>?_⟩
   ·have:=hr.2 z hz;omega
   ·rcases List.mem_cons.1 hz with rfl|hz
    ·exact ⟨h1,h2⟩
    ·have:=hr.2 z hz;omega
  have up:∀ {y:Int} {l:List Int},lo≤y→Rise lo hi l→(∀ z l',l=z :: l'→y<z)→Rise (y+1) hi l:=fun {y l} h1 hr hz=>by
   refine ⟨hr.1,fun x hx=>⟨?_,(hr.2 x hx).2⟩⟩
   cases l with
   | nil=>simp at hx
   | cons z l'=>
    have h2:=hz z l' rfl
    rcases List.mem_cons.1 hx with rfl|hx
    ·omega
    ·have:=(List.pairwise_cons.1 hr.1).1 x hx;omega
  have stepA:∀ {y:Int} {a':List Int},a=y :: a'→(∀ z l',b=z :: l'→y<z)→Rise lo hi (combR op a b)∧∀ x,x∈combR op a b↔opS op (·∈a) (·∈b) x:=fun {y a'} e hz=>by
   subst e
   obtain ⟨t1,t2,t3⟩:=tail ha
   have ub:=up t2 hb hz
   obtain ⟨i1,i2⟩:=ih a' b (y+1) hi (by simp at h;omega) t1 ub
   rw [combR_a hz]
   have nb:y ∉ b:=fun hy=>by have:=ub.2 y hy;omega
   have na:y ∉ a':=fun hy=>by have:=t1.2 y hy;omega
   have hne:∀ x,x∈combR op a' b→x≠y:=fun x hx e=>by have:=i1.2 x hx;omega
   rcases hop with rfl|rfl|rfl
   ·rw [if_neg (by simp)]
    refine ⟨i1.mono (by omega) (Int.le_refl _),fun x=>?_⟩
    rw [i2 x];simp only [opS,if_pos]
    refine ⟨fun ⟨h1,h2⟩=>⟨List.mem_cons_of_mem _ h1,h2⟩,fun ⟨h1,h2⟩=>⟨?_,h2⟩⟩
    rcases List.mem_cons.1 h1 with rfl|h1
    ·exact absurd h2 nb
    ·exact h1
   ·rw [if_pos (by omega)]
    refine ⟨cons t2 t3 i1,fun x=>?_⟩
    rw [List.mem_cons,i2 x];simp [opS,or_assoc]
   ·rw [if_pos (by omega)]
    refine ⟨cons t2 t3 i1,fun x=>?_⟩
    rw [List.mem_cons,i2 x];simp only [opS,List.mem_cons]
    simp only [show ¬ (2:Int)=0 from by omega,show ¬ (2:Int)=1 from by omega,if_false]
    refine ⟨fun h=>h.elim (fun h=>⟨.inl h,h ▸ nb⟩) (fun h=>⟨.inr h.1,h.2⟩),fun ⟨h1,h2⟩=>h1.elim .inl fun h1=>.inr ⟨h1,h2⟩⟩
  have stepB:∀ {y:Int} {b':List Int},b=y :: b'→(∀ z l',a=z :: l'→y<z)→Rise lo hi (combR op a b)∧∀ x,x∈combR op a b↔opS op (·∈a) (·∈b) x:=fun {y b'} e hz=>by
   subst e
   obtain ⟨t1,t2,t3⟩:=tail hb
   have ua:=up t2 ha hz
   obtain ⟨i1,i2⟩:=ih a b' (y+1) hi (by simp at h;omega) ua t1
   rw [combR_b hz]
   have na:y ∉ a:=fun hy=>by have:=ua.2 y hy;omega
   have nb:y ∉ b':=fun hy=>by have:=t1.2 y hy;omega
   rcases hop with rfl|rfl|rfl
   ·rw [if_neg (by omega)]
    refine ⟨i1.mono (by omega) (Int.le_refl _),fun x=>?_⟩
    rw [i2 x];simp only [opS,if_pos]
    refine ⟨fun ⟨h1,h2⟩=>⟨h1,List.mem_cons_of_mem _ h2⟩,fun ⟨h1,h2⟩=>⟨h1,?_⟩⟩
    rcases List.mem_cons.1 h2 with rfl|h2
    ·exact absurd h1 na
    ·exact h2
   ·rw [if_pos rfl]
    refine ⟨cons t2 t3 i1,fun x=>?_⟩
    rw [List.mem_cons,i2 x];simp only [opS,List.mem_cons]
    simp only [show ¬ (1:Int)=0 from by omega,if_false,if_true]
    exact ⟨fun h=>h.elim (fun h=>.inr (.inl h)) fun h=>h.elim .inl fun h=>.inr (.inr h),fun h=>h.elim (fun h=>.inr (.inl h)) fun h=>h.elim .inl fun h=>.inr (.inr h)⟩
   ·rw [if_neg (by omega)]
    refine ⟨i1.mono (by omega) (Int.le_refl _),fun x=>?_⟩
    rw [i2 x];simp only [opS,List.mem_cons]
    simp only [show ¬ (2:Int)=0 from by omega,show ¬ (2:Int)=1 from by omega,if_false]
    refine ⟨fun ⟨h1,h2⟩=>⟨h1,fun h=>h.elim (fun h=>na (h ▸ h1)) h2⟩,fun ⟨h1,h2⟩=>⟨h1,fun h=>h2 (.inr h)⟩⟩
  cases a with
  | nil=>cases b with
   | nil=>
    refine ⟨Rise.nil,fun x=>?_⟩
    rcases hop with rfl|rfl|rfl <;> simp [combR_nil,opS]
   | cons y b=>exact stepB rfl (fun z l' e=>by cases e)
  | cons x a=>cases b with
   | nil=>exact stepA rfl (fun z l' e=>by cases e)
   | cons y b=>
    rcases Int.lt_trichotomy x y with hlt|heq|hgt
    ·exact stepA rfl (fun z l' e=>by injection e with e1 e2;omega)
    ·subst heq
     obtain ⟨t1,t2,t3⟩:=tail ha
     obtain ⟨s1,_,_⟩:=tail hb
     obtain ⟨i1,i2⟩:=ih a b (x+1) hi (by simp at h;omega) t1 s1
     have na:x ∉ a:=fun hy=>by have:=t1.2 x hy;omega
     have nb:x ∉ b:=fun hy=>by have:=s1.2 x hy;omega
     rw [combR_ab]
     rcases hop with rfl|rfl|rfl
     ·rw [if_pos (by omega)]
      refine ⟨cons t2 t3 i1,fun z=>?_⟩
      rw [List.mem_cons,i2 z];simp only [opS,if_pos,List.mem_cons]
      refine ⟨fun h=>h.elim (fun h=>⟨.inl h,.inl h⟩) (fun h=>⟨.inr h.1,.inr h.2⟩),fun ⟨h1,h2⟩=>?_⟩
      rcases h1 with h1|h1
      ·exact .inl h1
      ·rcases h2 with h2|h2
       ·exact .inl h2
       ·exact .inr ⟨h1,h2⟩
     ·rw [if_pos (by omega)]
      refine ⟨cons t2 t3 i1,fun z=>?_⟩
      rw [List.mem_cons,i2 z];simp only [opS,List.mem_cons]
      simp only [show ¬ (1:Int)=0 from by omega,if_false,if_true]
      refine ⟨fun h=>h.elim (fun h=>.inl (.inl h)) (fun h=>h.elim (fun h=>.inl (.inr h)) (fun h=>.inr (.inr h))),fun h=>?_⟩
      rcases h with (h|h)|(h|h)
      ·exact .inl h
      ·exact .inr (.inl h)
      ·exact .inl h
      ·exact .inr (.inr h)
     ·rw [if_neg (by omega)]
      refine ⟨i1.mono (by omega) (Int.le_refl _),fun z=>?_⟩
      rw [i2 z];simp only [opS,List.mem_cons]
      simp only [show ¬ (2:Int)=0 from by omega,show ¬ (2:Int)=1 from by omega,if_false]
      refine ⟨fun ⟨h1,h2⟩=>⟨.inr h1,fun h=>h.elim (fun h=>na (h ▸ h1)) h2⟩,fun ⟨h1,h2⟩=>⟨?_,fun h=>h2 (.inr h)⟩⟩
      rcases h1 with h1|h1
      ·exact absurd (.inl h1) h2
      ·exact h1
    ·exact stepB rfl (fun z l' e=>by injection e with e1 e2;omega)
theorem comb_sel {op:Int} (hop:op=0∨op=1∨op=2) {S T:Int→Prop} {lo hi:Int} (h0:0≤lo):combR op (sel S lo hi) (sel T lo hi)=sel (opS op S T) lo hi:=by
 obtain ⟨h1,h2⟩:=comb_sel_aux hop _ (sel S lo hi) (sel T lo hi) lo hi (Nat.le_refl _) (sel_rise h0) (sel_rise h0)
 refine h1.ext (sel_rise h0) fun x=>?_
 rw [h2,sel_mem h0]
 rcases hop with rfl|rfl|rfl <;> simp only [opS,sel_mem h0]
 ·simp only [if_pos]
  exact ⟨fun ⟨⟨a,b,c⟩,d⟩=>⟨a,b,c,d.2.2⟩,fun ⟨a,b,c,d⟩=>⟨⟨a,b,c⟩,a,b,d⟩⟩
 ·simp only [show ¬ (1:Int)=0 from by omega,if_false,if_true]
  exact ⟨fun h=>h.elim (fun ⟨a,b,c⟩=>⟨a,b,.inl c⟩) (fun ⟨a,b,c⟩=>⟨a,b,.inr c⟩),fun ⟨a,b,c⟩=>c.elim (fun c=>.inl ⟨a,b,c⟩) (fun c=>.inr ⟨a,b,c⟩)⟩
 ·simp only [show ¬ (2:Int)=0 from by omega,show ¬ (2:Int)=1 from by omega,if_false]
  exact ⟨fun ⟨⟨a,b,c⟩,d⟩=>⟨a,b,c,fun e=>d ⟨a,b,e⟩⟩,fun ⟨a,b,c,d⟩=>⟨⟨a,b,c⟩,fun e=>d e.2.2⟩⟩
def ofSel (l:List Int) (f d:Int):Per:=⟨l.filter (fun x=>decide (x<f)),f,d,(l.filter (fun x=>!decide (x<f))).map (· - f)⟩
theorem ofSel_ok {U:Int→Prop} {f d:Int} (h0:0≤f) (hd:1≤d) (hp:PFrom U f d) (hU:∀ n,U n→0≤n):(ofSel (sel U 0 (f+d)) f d).WF∧∀ n,(ofSel (sel U 0 (f+d)) f d).mem n↔U n:=by
 have hr:=sel_rise (S:=U) (hi:=f+d) (Int.le_refl 0)
 refine ⟨⟨h0,hd,?_,?_⟩,fun n=>?_⟩
 ·refine ⟨(hr.filter _).1,fun x hx=>?_⟩
  have h1:=List.mem_filter.1 hx
  have h2:=hr.2 x h1.1
  have h3:=of_decide_eq_true h1.2
  exact ⟨h2.1,h3⟩
 ·have h4:Rise f (f+d) ((sel U 0 (f+d)).filter (fun x=>!decide (x<f))):=⟨(hr.filter _).1,fun x hx=>by
   have h1:=List.mem_filter.1 hx
   have h2:=hr.2 x h1.1
   have h3:=h1.2
   simp at h3
   omega⟩
  have h5:=h4.map_add (-f)
  refine (show Rise 0 d _ from ?_)
  have e:(fun x:Int=>x-f)=(fun x=>x+-f):=by funext x;omega
  show Rise 0 d (List.map (fun x:Int=>x-f) _)
  rw [e]
  exact h5.mono (by omega) (by omega)
 ·show (0≤n∧if n<f then n∈(sel U 0 (f+d)).filter (fun x=>decide (x<f)) else (n-f) % d∈((sel U 0 (f+d)).filter (fun x=>!decide (x<f))).map (· - f))↔U n
  by_cases hn:n<f
  ·rw [if_pos hn,List.mem_filter,sel_mem (Int.le_refl 0),decide_eq_true_eq]
   exact ⟨fun h=>h.2.1.2.2,fun h=>⟨hU n h,⟨hU n h,by omega,h⟩,hn⟩⟩
  ·rw [if_neg hn,List.mem_map,hp.shift hd (show f≤n by omega)]
   have e0:=Int.emod_nonneg (n-f) (show d≠0 by omega)
   have e1:=Int.emod_lt_of_pos (n-f) (show 0<d by omega)
   constructor
   ·rintro ⟨h1,x,hx,h2⟩
    have h3:=(sel_mem (Int.le_refl 0) x).1 (List.mem_filter.1 hx).1
    rw [show f+(n-f) % d=x from by omega]
    exact h3.2.2
   ·intro h
    refine ⟨by omega,f+(n-f) % d,List.mem_filter.2 ⟨(sel_mem (Int.le_refl 0) _).2 ⟨by omega,by omega,h⟩,by simp;omega⟩,by omega⟩
theorem sel_head {U:Int→Prop} {lo hi x:Int} {l:List Int} (h0:0≤lo) (h:sel U lo hi=x :: l):lo≤x∧x<hi∧U x∧∀ y,lo≤y→y<x→¬ U y:=by
 have hr:=sel_rise (S:=U) (hi:=hi) h0
 have hx:=(sel_mem h0 x).1 (show x∈sel U lo hi by rw [h];simp)
 refine ⟨hx.1,hx.2.1,hx.2.2,fun y h1 h2 h3=>?_⟩
 have hy:=(sel_mem (hi:=hi) h0 y).2 ⟨h1,by omega,h3⟩
 rw [h] at hr hy
 rcases List.mem_cons.1 hy with e|hy
 ·omega
 ·have:=(List.pairwise_cons.1 hr.1).1 y hy;omega
theorem sel_none {U:Int→Prop} {f d lo:Int} (h0:0≤lo) (hd:1≤d) (hp:PFrom U f d) (h:sel U lo (max f lo+d)=[]):∀ n,lo≤n→¬ U n:=fun n hn hU=>by
 have key:∀ m,lo≤m→m<max f lo+d→¬ U m:=fun m h1 h2 h3=>by
  have:=(sel_mem h0 m).2 ⟨h1,h2,h3⟩
  rw [h] at this;simp at this
 by_cases hlt:n<max f lo+d
 ·exact key n hn hlt hU
 ·have hp':=hp.mono (show f≤max f lo by omega)
  have e0:=Int.emod_nonneg (n-max f lo) (show d≠0 by omega)
  have e1:=Int.emod_lt_of_pos (n-max f lo) (show 0<d by omega)
  exact key _ (by omega) (by omega) ((hp'.shift hd (by omega)).1 hU)
end Go.Proofs.YtjilkhhokkncoaaGreat
