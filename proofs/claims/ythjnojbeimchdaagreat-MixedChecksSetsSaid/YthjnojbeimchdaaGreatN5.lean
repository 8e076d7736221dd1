/- Part 5 of what the claims of this seat rest on. -/
import Derived.Test.YthjnojbeimchdaaGreatN4
import Derived.Laws.EntriesVeiled
import Derived.Deep.RegionLaw
import Derived.Lib.SliceRun
set_option linter.unusedVariables false
set_option linter.unusedSimpArgs false
namespace Kal
def CTerm (s:Int) (t:List Per):Prop:=t≠[]∧∀ p∈t,CFac s p
def FTerm (s:Int) (t:List Per):Prop:=t≠[]∧∀ p∈t,Fac s p
def MergedTo (t u:List Per):Prop:=MergeTo (t.map fun p=>canonC p.mem) u
theorem MergedTo.unique {t u v:List Per} (h:MergedTo t u) (g:MergedTo t v):u=v:=MergeTo.unique h g
theorem MergedTo.ok {s:Int} {t u:List Per} (h:MergedTo t u) (hf:FTerm s t):CTerm s u∧(∀ n,tmem u n↔tmem t n)∧u.length≤t.length:=by
 obtain ⟨h1,h2,h3,h4⟩:=MergeTo.ok h (s:=s) fun p hp=>by
  obtain ⟨q,hq,rfl⟩:=List.mem_map.1 hp
  exact (hf.2 q hq).ccanon
 refine ⟨⟨h4 fun e=>hf.1 (List.map_eq_nil_iff.1 e),h1⟩,fun n=>(h2 n).trans ?_,by simpa using h3⟩
 unfold tmem
 constructor
 ·intro h p hp
  exact ((hf.2 p hp).canon.1.mem n).1 (h _ (List.mem_map.2 ⟨p,hp,rfl⟩))
 ·intro h p hp
  obtain ⟨q,hq,rfl⟩:=List.mem_map.1 hp
  exact ((hf.2 q hq).canon.1.mem n).2 (h q hq)
inductive MergeAll:List (List Per)→List (List Per)→Prop
 | nil:MergeAll [] []
 | skip {t u:List Per} {L l:List (List Per)} (h:MergedTo t u) (hb:barrenT u) (hl:MergeAll L l):MergeAll (t :: L) l
 | keep {t u:List Per} {L l:List (List Per)} (h:MergedTo t u) (hb:¬ barrenT u) (hl:MergeAll L l):MergeAll (t :: L) (u :: l)
theorem MergeAll.app {L l L' l':List (List Per)} (h:MergeAll L l) (g:MergeAll L' l'):MergeAll (L ++ L') (l ++ l'):=by
 induction h with
 | nil=>exact g
 | skip h hb _ ih=>exact .skip h hb ih
 | keep h hb _ ih=>exact .keep h hb ih
theorem MergeAll.skip1 {L l:List (List Per)} {t u:List Per} (h:MergeAll L l) (g:MergedTo t u) (hb:barrenT u):MergeAll (L ++ [t]) l:=by
 have:=h.app (.skip g hb .nil);rwa [List.append_nil] at this
theorem MergeAll.keep1 {L l:List (List Per)} {t u:List Per} (h:MergeAll L l) (g:MergedTo t u) (hb:¬ barrenT u):MergeAll (L ++ [t]) (l ++ [u]):=h.app (.keep g hb .nil)
theorem MergeAll.unique {L l m:List (List Per)} (h:MergeAll L l) (g:MergeAll L m):l=m:=by
 induction h generalizing m with
 | nil=>cases g;rfl
 | skip h hb _ ih=>
  cases g with
  | skip g gb gl=>exact ih gl
  | keep g gb gl=>rw [h.unique g] at hb;exact absurd hb gb
 | keep h hb _ ih=>
  cases g with
  | skip g gb gl=>rw [h.unique g] at hb;exact absurd gb hb
  | keep g gb gl=>rw [h.unique g,ih gl]
theorem mmem_cons {t:List Per} {L:List (List Per)} {n:Int}:mmem (t :: L) n↔tmem t n∨mmem L n:=by
 unfold mmem;simp
theorem mmem_nil {n:Int}:¬ mmem [] n:=by unfold mmem;simp
theorem mmem_append {L M:List (List Per)} {n:Int}:mmem (L ++ M) n↔mmem L n∨mmem M n:=by
 unfold mmem
 constructor
 ·rintro ⟨t,ht,h⟩
  rcases List.mem_append.1 ht with ht|ht
  ·exact .inl ⟨t,ht,h⟩
  ·exact .inr ⟨t,ht,h⟩
 ·rintro (⟨t,ht,h⟩|⟨t,ht,h⟩)
  ·exact ⟨t,List.mem_append_left _ ht,h⟩
  ·exact ⟨t,List.mem_append_right _ ht,h⟩
theorem MergeAll.ok {s:Int} {L l:List (List Per)} (h:MergeAll L l) (hf:∀ t∈L,FTerm s t):(∀ t∈l,CTerm s t∧¬ barrenT t)∧(∀ n,mmem l n↔mmem L n)∧l.length≤L.length∧∀ K:Nat,(∀ t∈L,t.length≤K)→∀ t∈l,t.length≤K:=by
 induction h with
 | nil=>exact ⟨by simp,fun n=>Iff.rfl,Nat.le_refl _,fun K h=>h⟩
 | skip h hb _ ih=>
  obtain ⟨a,b,c,d⟩:=ih fun t ht=>hf t (by simp [ht])
  obtain ⟨h1,h2,h3⟩:=h.ok (hf _ (by simp))
  refine ⟨a,fun n=>?_,by simp;omega,fun K hK=>d K fun t ht=>hK t (by simp [ht])⟩
  rw [mmem_cons,b n,← h2 n]
  exact ⟨.inr,fun h=>h.elim (fun h=>absurd h (hb n)) id⟩
 | keep h hb _ ih=>
  obtain ⟨a,b,c,d⟩:=ih fun t ht=>hf t (by simp [ht])
  obtain ⟨h1,h2,h3⟩:=h.ok (hf _ (by simp))
  refine ⟨fun t ht=>?_,fun n=>?_,by simp;omega,fun K hK t ht=>?_⟩
  ·rcases List.mem_cons.1 ht with rfl|ht
   ·exact ⟨h1,hb⟩
   ·exact a t ht
  ·rw [mmem_cons,mmem_cons,b n,h2 n]
  ·rcases List.mem_cons.1 ht with rfl|ht
   ·exact Nat.le_trans h3 (hK _ (by simp))
   ·exact d K (fun t ht=>hK t (by simp [ht])) t ht
def joinable (l:List (List Per)) (i j:Nat):Prop:=(l.getD i []).length=1∧(l.getD j []).length=1∧divB ((l.getD i []).getD 0 default) ((l.getD j []).getD 0 default)=true
noncomputable def joinAt (l:List (List Per)) (i j:Nat):List (List Per):=(l.set i [orP ((l.getD i []).getD 0 default) ((l.getD j []).getD 0 default)]).eraseIdx j
inductive JoinTo:List (List Per)→List (List Per)→Prop
 | done {l:List (List Per)} (h:NoPair (joinable l) l.length):JoinTo l l
 | step {l m:List (List Per)} {i j:Nat} (h:FirstPair (joinable l) l.length i j) (hm:JoinTo (joinAt l i j) m):JoinTo l m
theorem JoinTo.unique {t u v:List (List Per)} (h:JoinTo t u) (g:JoinTo t v):u=v:=by
 induction h generalizing v with
 | done h=>
  cases g with
  | done _=>rfl
  | step g _=>exact (g.no h).elim
 | step h _ ih=>
  cases g with
  | done g=>exact (h.no g).elim
  | step g gu=>
   obtain ⟨rfl,rfl⟩:=h.unique g
   exact ih gu
theorem one_get {t:List Per} (h:t.length=1):t=[t.getD 0 default]:=by
 match t,h with
 | [p],_=>rfl
theorem tmem_one {p:Per} {n:Int}:tmem [p] n↔p.mem n:=by unfold tmem;simp
theorem joinAt_ok {s:Int} {l:List (List Per)} {i j:Nat} (hij:i<j) (hj:j<l.length) (hJ:joinable l i j) (hf:∀ t∈l,CTerm s t∧¬ barrenT t):(∀ t∈joinAt l i j,CTerm s t∧¬ barrenT t)∧(∀ n,mmem (joinAt l i j) n↔mmem l n):=by
 obtain ⟨h1,h2,h3⟩:=hJ
 have mi:=mem_getD (l:=l) (d:=[]) (show i<l.length by omega)
 have mj:=mem_getD (l:=l) (d:=[]) hj
 have fi:=(hf _ mi).1.2 _ (mem_getD (d:=default) (show 0<(l.getD i []).length by omega))
 have fj:=(hf _ mj).1.2 _ (mem_getD (d:=default) (show 0<(l.getD j []).length by omega))
 have ei:=one_get h1
 have ej:=one_get h2
 have hc:=fi.fac.or fj.fac
 unfold joinAt
 generalize hp:(l.getD i []).getD 0 default=p at *
 generalize hq:(l.getD j []).getD 0 default=q at *
 refine ⟨fun t ht=>?_,fun n=>?_⟩
 ·rcases mem_erase_set ht with rfl|ht
  ·refine ⟨⟨by simp,fun r hr=>?_⟩,fun hb=>?_⟩
   ·obtain rfl:r=orP p q:=by simpa using hr
    exact fi.fac.cor fj.fac
   ·refine (hf _ mi).2 fun n hn=>hb n ?_
    rw [ei,tmem_one] at hn
    rw [tmem_one]
    exact (hc.1.mem n).2 (.inl hn)
  ·exact hf t ht
 ·unfold mmem
  constructor
  ·rintro ⟨t,ht,hn⟩
   rcases (erase_split (d:=[]) hij hj _ _).1 ht with rfl|⟨k,hk,_,_,rfl⟩
   ·rw [tmem_one,hc.1.mem n] at hn
    rcases hn with hn|hn
    ·exact ⟨_,mi,by rw [ei,tmem_one];exact hn⟩
    ·exact ⟨_,mj,by rw [ej,tmem_one];exact hn⟩
   ·exact ⟨_,mem_getD hk,hn⟩
  ·rintro ⟨t,ht,hn⟩
   obtain ⟨k,hk,rfl⟩:=(mem_iff_getD (d:=[])).1 ht
   by_cases e1:k=i
   ·subst e1
    refine ⟨_,(erase_split (d:=[]) hij hj _ _).2 (.inl rfl),?_⟩
    rw [ei,tmem_one] at hn
    rw [tmem_one];exact (hc.1.mem n).2 (.inl hn)
   ·by_cases e2:k=j
    ·subst e2
     refine ⟨_,(erase_split (d:=[]) hij hj _ _).2 (.inl rfl),?_⟩
     rw [ej,tmem_one] at hn
     rw [tmem_one];exact (hc.1.mem n).2 (.inr hn)
    ·exact ⟨_,(erase_split (d:=[]) hij hj _ _).2 (.inr ⟨k,hk,e1,e2,rfl⟩),hn⟩
theorem joinAt_length {l:List (List Per)} {i j:Nat} (h:j<l.length):(joinAt l i j).length=l.length-1:=by
 unfold joinAt;rw [List.length_eraseIdx,List.length_set,if_pos h]
theorem joinAt_len {l:List (List Per)} {i j K:Nat} (hK:1≤K) (h:∀ t∈l,t.length≤K):∀ t∈joinAt l i j,t.length≤K:=fun t ht=>by
 rcases mem_erase_set ht with rfl|ht
 ·simpa using hK
 ·exact h t ht
theorem JoinTo.ok {s:Int} {l m:List (List Per)} (h:JoinTo l m) (hf:∀ t∈l,CTerm s t∧¬ barrenT t):(∀ t∈m,CTerm s t∧¬ barrenT t)∧(∀ n,mmem m n↔mmem l n)∧m.length≤l.length∧∀ K:Nat,1≤K→(∀ t∈l,t.length≤K)→∀ t∈m,t.length≤K:=by
 induction h with
 | done h=>exact ⟨hf,fun n=>Iff.rfl,Nat.le_refl _,fun K _ h=>h⟩
 | @step l m i j h _ ih=>
  obtain ⟨h1,h2⟩:=joinAt_ok h.lt h.lim h.is hf
  obtain ⟨a,b,c,d⟩:=ih h1
  have hl:=joinAt_length (l:=l) (i:=i) h.lim
  exact ⟨a,fun n=>(b n).trans (h2 n),by omega,fun K hK hh=>d K hK (joinAt_len hK hh)⟩
open Classical in
noncomputable def dd1 (out:List (List Per)) (t:List Per):List (List Per):=if t∈out then out else out ++ [t]
noncomputable def ddL (out l:List (List Per)):List (List Per):=l.foldl dd1 out
theorem ddL_snoc {out l:List (List Per)} {t:List Per}:ddL out (l ++ [t])=dd1 (ddL out l) t:=by unfold ddL;rw [List.foldl_append];rfl
theorem dd1_in {out:List (List Per)} {t:List Per} (h:t∈out):dd1 out t=out:=if_pos h
theorem dd1_not {out:List (List Per)} {t:List Per} (h:t ∉ out):dd1 out t=out ++ [t]:=if_neg h
theorem mem_dd1 {out:List (List Per)} {t x:List Per}:x∈dd1 out t↔x∈out∨x=t:=by
 by_cases h:t∈out
 ·rw [dd1_in h];exact ⟨.inl,fun g=>g.elim id fun e=>e ▸ h⟩
 ·rw [dd1_not h];simp
theorem mem_ddL:∀ {l out:List (List Per)} {x:List Per},x∈ddL out l↔x∈out∨x∈l
 | [],out,x=>by simp [ddL]
 | t :: l,out,x=>by
  show x∈ddL (dd1 out t) l↔_
  rw [mem_ddL,mem_dd1,List.mem_cons,or_assoc]
theorem ddL_length:∀ {l out:List (List Per)},(ddL out l).length≤out.length+l.length
 | [],out=>by simp [ddL]
 | t :: l,out=>by
  have h1:=ddL_length (l:=l) (out:=dd1 out t)
  have h2:(dd1 out t).length≤out.length+1:=by
   by_cases h:t∈out
   ·rw [dd1_in h];omega
   ·rw [dd1_not h];simp
  show (ddL (dd1 out t) l).length≤_
  simp;omega
def NormTo (L m:List (List Per)):Prop:=∃ l k,MergeAll L l∧JoinTo l k∧m=ddL [] k
theorem NormTo.unique {L m m':List (List Per)} (h:NormTo L m) (g:NormTo L m'):m=m':=by
 obtain ⟨l,k,h1,h2,rfl⟩:=h
 obtain ⟨l',k',g1,g2,rfl⟩:=g
 obtain rfl:=h1.unique g1
 rw [h2.unique g2]
theorem NormTo.ok {s:Int} {L m:List (List Per)} (h:NormTo L m) (hf:∀ t∈L,FTerm s t):(∀ t∈m,CTerm s t∧¬ barrenT t)∧(∀ n,mmem m n↔mmem L n)∧m.length≤L.length∧∀ K:Nat,1≤K→(∀ t∈L,t.length≤K)→∀ t∈m,t.length≤K:=by
 obtain ⟨l,k,h1,h2,rfl⟩:=h
 obtain ⟨a1,a2,a3,a4⟩:=h1.ok hf
 obtain ⟨b1,b2,b3,b4⟩:=h2.ok a1
 have hm:∀ x,x∈ddL [] k↔x∈k:=fun x=>by rw [mem_ddL];simp
 refine ⟨fun t ht=>b1 t ((hm t).1 ht),fun n=>?_,?_,fun K hK hh t ht=>b4 K hK (a4 K hh) t ((hm t).1 ht)⟩
 ·rw [← a2 n,← b2 n]
  unfold mmem
  exact ⟨fun ⟨t,ht,h⟩=>⟨t,(hm t).1 ht,h⟩,fun ⟨t,ht,h⟩=>⟨t,(hm t).2 ht,h⟩⟩
 ·have:=ddL_length (l:=k) (out:=[])
  simp at this;omega
def NormOk (m:List (List Per)):Prop:=m.length≤64∧∀ t∈m,t.length≤4
end Kal
namespace Kal
def NextF (F:Int) (S:Int→Prop) (f n:Int) (b:Bool):Prop:=(b=true∧f≤n∧n≤F∧S n∧∀ x,f≤x→x<n→¬ S x)∨(b=false∧n=0∧∀ x,f≤x→x≤F→¬ S x)
theorem NextF.unique {F f n m:Int} {S:Int→Prop} {b c:Bool} (h:NextF F S f n b) (g:NextF F S f m c):n=m∧b=c:=by
 rcases h with ⟨rfl,h1,h2,h3,h4⟩|⟨rfl,rfl,h1⟩ <;> rcases g with ⟨rfl,g1,g2,g3,g4⟩|⟨rfl,rfl,g1⟩
 ·refine ⟨?_,rfl⟩
  rcases Int.lt_trichotomy n m with h|h|h
  ·exact absurd h3 (g4 n h1 h)
  ·exact h
  ·exact absurd g3 (h4 m g1 h)
 ·exact absurd h3 (g1 n h1 h2)
 ·exact absurd g3 (h1 m g1 g2)
 ·exact ⟨rfl,rfl⟩
theorem NextF.congr {F f n:Int} {S T:Int→Prop} {b:Bool} (h:NextF F S f n b) (hs:∀ x,f≤x→x≤F→(T x↔S x)):NextF F T f n b:=by
 rcases h with ⟨rfl,h1,h2,h3,h4⟩|⟨rfl,rfl,h1⟩
 ·exact .inl ⟨rfl,h1,h2,(hs n h1 h2).2 h3,fun x a c=>by rw [hs x a (by omega)];exact h4 x a c⟩
 ·exact .inr ⟨rfl,rfl,fun x a c=>by rw [hs x a c];exact h1 x a c⟩
def BestE (S:Int→Prop) (f n:Int) (b:Bool):Prop:=(b=true∧f≤n∧S n∧∀ x,f≤x→x<n→¬ S x)∨(b=false∧n=0∧∀ x,f≤x→¬ S x)
theorem BestE.start {f:Int}:BestE (fun _=>False) f 0 false:=.inr ⟨rfl,rfl,fun _ _ h=>h⟩
theorem BestE.congr {f n:Int} {S T:Int→Prop} {b:Bool} (h:BestE S f n b) (hs:∀ x,f≤x→(T x↔S x)):BestE T f n b:=by
 rcases h with ⟨rfl,h1,h3,h4⟩|⟨rfl,rfl,h1⟩
 ·exact .inl ⟨rfl,h1,(hs n h1).2 h3,fun x a c=>by rw [hs x a];exact h4 x a c⟩
 ·exact .inr ⟨rfl,rfl,fun x a=>by rw [hs x a];exact h1 x a⟩
theorem BestE.take {f n d:Int} {S:Int→Prop} {b:Bool} (h:BestE S f n b) (h1:f≤d) (h2:b=false∨d<n):BestE (fun x=>S x∨x=d) f d true:=by
 refine .inl ⟨rfl,h1,.inr rfl,fun x a c e=>?_⟩
 rcases e with e|rfl
 ·rcases h with ⟨rfl,g1,g2,g3⟩|⟨rfl,rfl,g1⟩
  ·rcases h2 with h2|h2
   ·cases h2
   ·exact g3 x a (by omega) e
  ·exact g1 x a e
 ·omega
theorem BestE.pass {f n d:Int} {S:Int→Prop} {b:Bool} (h:BestE S f n b) (h1:¬ (f≤d∧(b=false∨d<n))):BestE (fun x=>S x∨x=d) f n b:=by
 rcases h with ⟨rfl,g1,g2,g3⟩|⟨rfl,rfl,g1⟩
 ·refine .inl ⟨rfl,g1,.inl g2,fun x a c e=>?_⟩
  rcases e with e|rfl
  ·exact g3 x a c e
  ·exact h1 ⟨a,.inr c⟩
 ·refine .inr ⟨rfl,rfl,fun x a e=>?_⟩
  rcases e with e|rfl
  ·exact g1 x a e
  ·exact h1 ⟨a,.inl rfl⟩
def headS (t:List Per) (i k:Nat) (x:Int):Prop:=tmem t x∧((∃ p∈t.take i,x∈p.head)∨x∈((t.getD i default).head.take k))
theorem headS_zero {t:List Per} {x:Int}:headS t 0 0 x↔False:=by simp [headS]
theorem headS_row {t:List Per} {i:Nat} (hi:i<t.length) {x:Int}:headS t (i+1) 0 x↔headS t i (t.getD i default).head.length x:=by
 unfold headS
 have e:t.getD i default=t[i]:=by rw [List.getD_eq_getElem?_getD,List.getElem?_eq_getElem hi];rfl
 rw [List.take_succ_eq_append_getElem hi,List.take_length,e]
 constructor
 ·rintro ⟨h1,⟨p,hp,hx⟩|hx⟩
  ·rcases List.mem_append.1 hp with hp|hp
   ·exact ⟨h1,.inl ⟨p,hp,hx⟩⟩
   ·obtain rfl:p=t[i]:=by simpa using hp
    exact ⟨h1,.inr hx⟩
  ·simp at hx
 ·rintro ⟨h1,⟨p,hp,hx⟩|hx⟩
  ·exact ⟨h1,.inl ⟨p,List.mem_append_left _ hp,hx⟩⟩
  ·exact ⟨h1,.inl ⟨t[i],List.mem_append_right _ (by simp),hx⟩⟩
theorem headS_succ {t:List Per} {i k:Nat} (hk:k<(t.getD i default).head.length) {x:Int}:headS t i (k+1) x↔headS t i k x∨(x=(t.getD i default).head.getD k 0∧tmem t x):=by
 unfold headS
 rw [List.take_succ_eq_append_getElem hk,List.mem_append]
 have e:(t.getD i default).head.getD k 0=(t.getD i default).head[k]:=by rw [List.getD_eq_getElem?_getD,List.getElem?_eq_getElem hk];rfl
 rw [e]
 simp only [List.mem_singleton]
 constructor
 ·rintro ⟨h1,h2|h2|h2⟩
  ·exact .inl ⟨h1,.inl h2⟩
  ·exact .inl ⟨h1,.inr h2⟩
  ·exact .inr ⟨h2,h1⟩
 ·rintro (⟨h1,h2|h2⟩|⟨h1,h2⟩)
  ·exact ⟨h1,.inl h2⟩
  ·exact ⟨h1,.inr (.inl h2)⟩
  ·exact ⟨h2,.inr (.inr h1)⟩
theorem headS_all {t:List Per} (hne:t≠[]) (hw:∀ p∈t,p.WF) {x:Int}:headS t t.length 0 x↔tmem t x∧x<startT t:=by
 unfold headS
 rw [List.take_length]
 constructor
 ·rintro ⟨h1,⟨p,hp,hx⟩|h2⟩
  ·exact ⟨h1,head_early hw hp hx⟩
  ·simp at h2
 ·rintro ⟨h1,h2⟩
  exact ⟨h1,.inl (early_head hne h1 h2)⟩
def EarlyIs (t:List Per) (f n:Int) (b:Bool):Prop:=BestE (fun x=>tmem t x∧x<startT t) f n b
def ClsS (t:List Per) (at_ step x:Int):Prop:=x % step=at_∧∀ p∈t,∃ c∈p.cycle,x % p.period=resP p c
def BestL (F:Int) (S:Int→Prop) (f n:Int) (b:Bool):Prop:=(b=true∧f≤n∧n≤F∧S n∧∀ x,f≤x→x<n→¬ S x)∨(b=false∧n=F∧∀ x,f≤x→x≤F→¬ S x)
theorem BestL.start {F f:Int}:BestL F (fun _=>False) f F false:=.inr ⟨rfl,rfl,fun _ _ _ h=>h⟩
theorem BestL.le {F f n:Int} {S:Int→Prop} {b:Bool} (h:BestL F S f n b):n≤F:=by
 rcases h with ⟨_,_,h,_⟩|⟨_,h,_⟩ <;> omega
theorem BestL.congr {F f n:Int} {S T:Int→Prop} {b:Bool} (h:BestL F S f n b) (hs:∀ x,f≤x→(T x↔S x)):BestL F T f n b:=by
 rcases h with ⟨rfl,h1,h2,h3,h4⟩|⟨rfl,rfl,h1⟩
 ·exact .inl ⟨rfl,h1,h2,(hs n h1).2 h3,fun x a c=>by rw [hs x a];exact h4 x a c⟩
 ·exact .inr ⟨rfl,rfl,fun x a c=>by rw [hs x a];exact h1 x a c⟩
theorem BestL.next {F f n:Int} {S:Int→Prop} {b:Bool} (h:BestL F S f n b):NextF F S f (if b=true then n else 0) b:=by
 rcases h with ⟨rfl,h1,h2,h3,h4⟩|⟨rfl,rfl,h1⟩
 ·exact .inl ⟨rfl,h1,h2,h3,h4⟩
 ·exact .inr ⟨rfl,rfl,h1⟩
def upTo (f at_ step:Int):Int:=if at_<f then at_+(f-at_+step-1) / step*step else at_
theorem upTo_ok {f at_ step:Int} (hs:1≤step) (h0:0≤at_) (h1:at_<step) (hf:0≤f):f≤upTo f at_ step∧upTo f at_ step<f+step∧upTo f at_ step % step=at_∧(∀ x,f≤x→x % step=at_→upTo f at_ step≤x):=by
 have key:f≤upTo f at_ step∧upTo f at_ step<f+step∧upTo f at_ step % step=at_:=by
  unfold upTo
  split
  ·rename_i h
   have e:=Int.emod_add_mul_ediv (f-at_+step-1) step
   have e0:=Int.emod_nonneg (f-at_+step-1) (show step≠0 by omega)
   have e1:=Int.emod_lt_of_pos (f-at_+step-1) (show 0<step by omega)
   rw [Int.mul_comm step] at e
   refine ⟨by omega,by omega,?_⟩
   rw [Int.add_mul_emod_self_right,Int.emod_eq_of_lt h0 h1]
  ·exact ⟨by omega,by omega,Int.emod_eq_of_lt h0 h1⟩
 refine ⟨key.1,key.2.1,key.2.2,fun x hx he=>?_⟩
 obtain ⟨k1,k2,k3⟩:=key
 generalize upTo f at_ step=u at *
 rcases Int.lt_or_le x u with h|h
 ·have hd:step∣u-x:=dvd_sub_of_emod (k3.trans he.symm)
  have:=Int.le_of_dvd (by omega) hd
  omega
 ·exact h
theorem BestL.leaf {F f n at_ step:Int} {S:Int→Prop} {b:Bool} (h:BestL F S f n b) (hs:1≤step) (h0:0≤at_) (h1:at_<step) (hf:0≤f) :
  (upTo f at_ step≤n→BestL F (fun x=>S x∨x % step=at_) f (upTo f at_ step) true)∧(n<upTo f at_ step→BestL F (fun x=>S x∨x % step=at_) f n b):=by
 obtain ⟨k1,k2,k3,k4⟩:=upTo_ok hs h0 h1 hf
 have hle:=h.le
 generalize upTo f at_ step=u at *
 constructor
 ·intro hu
  refine .inl ⟨rfl,k1,by omega,.inr k3,fun x a c e=>?_⟩
  rcases e with e|e
  ·rcases h with ⟨_,g1,g2,g3,g4⟩|⟨_,rfl,g1⟩
   ·exact g4 x a (by omega) e
   ·exact g1 x a (by omega) e
  ·have:=k4 x a e;omega
 ·intro hu
  rcases h with ⟨rfl,g1,g2,g3,g4⟩|⟨rfl,rfl,g1⟩
  ·refine .inl ⟨rfl,g1,g2,.inl g3,fun x a c e=>?_⟩
   rcases e with e|e
   ·exact g4 x a c e
   ·have:=k4 x a e;omega
  ·refine .inr ⟨rfl,rfl,fun x a c e=>?_⟩
   rcases e with e|e
   ·exact g1 x a c e
   ·have:=k4 x a e;omega
def MeetIs (at_ step r P:Int) (a2 s2:Int) (b:Bool):Prop:=(b=true∧s2=lcmI step P∧IsSol at_ step r P a2)∨(b=false∧a2=0∧s2=0∧∀ x,¬ (x % step=at_ % step∧x % P=r % P))
theorem clsS_cons {t:List Per} {p:Per} {at_ step x:Int}:ClsS (p :: t) at_ step x↔∃ c∈p.cycle,x % p.period=resP p c∧ClsS t at_ step x:=by
 unfold ClsS
 constructor
 ·rintro ⟨h1,h2⟩
  obtain ⟨c,hc,he⟩:=h2 p (by simp)
  exact ⟨c,hc,he,h1,fun q hq=>h2 q (by simp [hq])⟩
 ·rintro ⟨c,hc,he,h1,h2⟩
  refine ⟨h1,fun q hq=>?_⟩
  rcases List.mem_cons.1 hq with rfl|hq
  ·exact ⟨c,hc,he⟩
  ·exact h2 q hq
theorem MeetIs.cls {t:List Per} {p:Per} (hw:p.WF) {at_ step a2 s2 c:Int} {b:Bool} (hs:1≤step) (h0:0≤at_) (h1:at_<step) (h:MeetIs at_ step (resP p c) p.period a2 s2 b) (x:Int) :
  (x % p.period=resP p c∧ClsS t at_ step x)↔b=true∧ClsS t a2 s2 x:=by
 have hr:=resP_lt hw c
 have er:=Int.emod_eq_of_lt hr.1 hr.2
 have ea:=Int.emod_eq_of_lt h0 h1
 have hP:=hw.per
 rcases h with ⟨rfl,rfl,hsol⟩|⟨rfl,rfl,rfl,hno⟩
 ·have hc:=isSol_congr (x:=x) hs hP hsol
  rw [er,ea] at hc
  unfold ClsS
  constructor
  ·rintro ⟨g1,g2,g3⟩;exact ⟨rfl,hc.1 ⟨g2,g1⟩,g3⟩
  ·rintro ⟨_,g2,g3⟩
   obtain ⟨k1,k2⟩:=hc.2 g2
   exact ⟨k2,k1,g3⟩
 ·refine ⟨fun ⟨g1,g2,_⟩=>absurd ?_ (hno x),fun h=>by cases h.1⟩
  rw [er,ea];exact ⟨g2,g1⟩
theorem clsS_start {t:List Per} (hw:∀ p∈t,p.WF) {x:Int} (hx:startT t≤x):ClsS t 0 1 x↔tmem t x:=by
 unfold ClsS tmem
 have hs:=(startT_ge (t:=t)).2
 constructor
 ·rintro ⟨_,h⟩ p hp
  exact (mem_resP (hw p hp) (by have:=hs p hp;omega)).2 (h p hp)
 ·intro h
  exact ⟨by omega,fun p hp=>(mem_resP (hw p hp) (by have:=hs p hp;omega)).1 (h p hp)⟩
theorem term_next {F f:Int} {t:List Per} (hne:t≠[]) (hw:∀ p∈t,p.WF) (hF:startT t≤F) {n:Int} {b:Bool} (h:EarlyIs t f n b) :
  (b=true→NextF F (tmem t) f n true)∧(b=false→(F<f∨¬ recT t)→NextF F (tmem t) f 0 false)∧(b=false→∀ m c,NextF F (tmem t) (max f (startT t)) m c→NextF F (tmem t) f m c):=by
 refine ⟨fun hb=>?_,fun hb hno=>?_,fun hb m c hm=>?_⟩
 ·subst hb
  rcases h with ⟨_,h1,h2,h3⟩|⟨h,_⟩
  ·exact .inl ⟨rfl,h1,by omega,h2.1,fun x a c e=>h3 x a c ⟨e,by omega⟩⟩
  ·cases h
 ·subst hb
  rcases h with ⟨h,_⟩|⟨_,_,h1⟩
  ·cases h
  ·refine .inr ⟨rfl,rfl,fun x a c e=>?_⟩
   by_cases hx:x<startT t
   ·exact h1 x a ⟨e,hx⟩
   ·rcases hno with h2|h2
    ·omega
    ·exact h2 ⟨x,by omega,e⟩
 ·subst hb
  rcases h with ⟨h,_⟩|⟨_,_,h1⟩
  ·cases h
  ·have low:∀ x,f≤x→x<max f (startT t)→¬ tmem t x:=fun x a c e=>h1 x a ⟨e,by omega⟩
   rcases hm with ⟨rfl,g1,g2,g3,g4⟩|⟨rfl,rfl,g1⟩
   ·refine .inl ⟨rfl,by omega,g2,g3,fun x a c=>?_⟩
    by_cases hx:x<max f (startT t)
    ·exact low x a hx
    ·exact g4 x (by omega) c
   ·refine .inr ⟨rfl,rfl,fun x a c=>?_⟩
    by_cases hx:x<max f (startT t)
    ·exact low x a hx
    ·exact g1 x (by omega) c
theorem least_step {F f n m:Int} {S T:Int→Prop} {b c:Bool} (h:NextF F S f n b) (g:NextF F T f m c) :
  NextF F (fun x=>S x∨T x) f (if c=true∧(b=false∨m<n) then m else n) (b || c):=by
 rcases h with ⟨rfl,h1,h2,h3,h4⟩|⟨rfl,rfl,h1⟩ <;> rcases g with ⟨rfl,g1,g2,g3,g4⟩|⟨rfl,rfl,g1⟩
 ·by_cases hm:m<n
  ·rw [if_pos ⟨rfl,.inr hm⟩]
   exact .inl ⟨rfl,g1,g2,.inr g3,fun x a c e=>e.elim (h4 x a (by omega)) (g4 x a c)⟩
  ·rw [if_neg (fun e=>by rcases e.2 with e|e;cases e;exact hm e)]
   exact .inl ⟨rfl,h1,h2,.inl h3,fun x a c e=>e.elim (h4 x a c) (g4 x a (by omega))⟩
 ·rw [if_neg (fun e=>by cases e.1)]
  exact .inl ⟨rfl,h1,h2,.inl h3,fun x a c e=>e.elim (h4 x a c) (g1 x a (by omega))⟩
 ·rw [if_pos ⟨rfl,.inl rfl⟩]
  exact .inl ⟨rfl,g1,g2,.inr g3,fun x a c e=>e.elim (h1 x a (by omega)) (g4 x a c)⟩
 ·rw [if_neg (fun e=>by cases e.1)]
  exact .inr ⟨rfl,rfl,fun x a c e=>e.elim (h1 x a c) (g1 x a c)⟩
end Kal
namespace Kal
def pairsL (a b:List (List Per)):List (List Per):=a.flatMap fun s=>b.map fun t=>s ++ t
theorem tmem_append {s t:List Per} {n:Int}:tmem (s ++ t) n↔tmem s n∧tmem t n:=by
 unfold tmem
 constructor
 ·exact fun h=>⟨fun p hp=>h p (List.mem_append_left _ hp),fun p hp=>h p (List.mem_append_right _ hp)⟩
 ·rintro ⟨h1,h2⟩ p hp
  rcases List.mem_append.1 hp with hp|hp
  ·exact h1 p hp
  ·exact h2 p hp
theorem mem_pairsL {a b:List (List Per)} {u:List Per}:u∈pairsL a b↔∃ s∈a,∃ t∈b,u=s ++ t:=by
 unfold pairsL
 rw [List.mem_flatMap]
 constructor
 ·rintro ⟨s,hs,h⟩
  obtain ⟨t,ht,rfl⟩:=List.mem_map.1 h
  exact ⟨s,hs,t,ht,rfl⟩
 ·rintro ⟨s,hs,t,ht,rfl⟩
  exact ⟨s,hs,List.mem_map.2 ⟨t,ht,rfl⟩⟩
theorem mmem_pairs {a b:List (List Per)} {n:Int}:mmem (pairsL a b) n↔mmem a n∧mmem b n:=by
 unfold mmem
 constructor
 ·rintro ⟨u,hu,h⟩
  obtain ⟨s,hs,t,ht,rfl⟩:=mem_pairsL.1 hu
  rw [tmem_append] at h
  exact ⟨⟨s,hs,h.1⟩,t,ht,h.2⟩
 ·rintro ⟨⟨s,hs,h1⟩,t,ht,h2⟩
  exact ⟨_,mem_pairsL.2 ⟨s,hs,t,ht,rfl⟩,tmem_append.2 ⟨h1,h2⟩⟩
theorem pairs_fterm {s:Int} {a b:List (List Per)} (ha:∀ t∈a,FTerm s t) (hb:∀ t∈b,FTerm s t):∀ t∈pairsL a b,FTerm s t:=fun u hu=>by
 obtain ⟨x,hx,y,hy,rfl⟩:=mem_pairsL.1 hu
 refine ⟨fun e=>(ha x hx).1 (List.append_eq_nil_iff.1 e).1,fun p hp=>?_⟩
 rcases List.mem_append.1 hp with hp|hp
 ·exact (ha x hx).2 p hp
 ·exact (hb y hy).2 p hp
noncomputable def wiP (s:List Per) (f:Per):List Per:=match s with|[]=>[]|p :: r=>minusP p f :: r
noncomputable def minL (m:List (List Per)) (t:List Per):List (List Per):=m.flatMap fun s=>t.map fun f=>wiP s f
theorem mem_minL {m:List (List Per)} {t u:List Per}:u∈minL m t↔∃ s∈m,∃ f∈t,u=wiP s f:=by
 unfold minL
 rw [List.mem_flatMap]
 constructor
 ·rintro ⟨s,hs,h⟩
  obtain ⟨f,hf,rfl⟩:=List.mem_map.1 h
  exact ⟨s,hs,f,hf,rfl⟩
 ·rintro ⟨s,hs,f,hf,rfl⟩
  exact ⟨s,hs,List.mem_map.2 ⟨f,hf,rfl⟩⟩
theorem wiP_ok {s:Int} {u:List Per} {f:Per} (hu:FTerm s u) (hf:Fac s f):FTerm s (wiP u f)∧∀ n,tmem (wiP u f) n↔tmem u n∧¬ f.mem n:=by
 cases u with
 | nil=>exact absurd rfl hu.1
 | cons p r=>
  have hp:=hu.2 p (by simp)
  have hm:=hp.minus hf
  refine ⟨⟨by simp [wiP],fun q hq=>?_⟩,fun n=>?_⟩
  ·rcases List.mem_cons.1 hq with rfl|hq
   ·exact hm.2
   ·exact hu.2 q (by simp [hq])
  ·show tmem (minusP p f :: r) n↔_
   unfold tmem
   simp only [List.forall_mem_cons]
   rw [hm.1.mem n]
   exact ⟨fun ⟨⟨a,b⟩,c⟩=>⟨⟨a,c⟩,b⟩,fun ⟨⟨a,c⟩,b⟩=>⟨⟨a,b⟩,c⟩⟩
theorem minL_fterm {s:Int} {m:List (List Per)} {t:List Per} (hm:∀ u∈m,FTerm s u) (ht:∀ p∈t,Fac s p):∀ u∈minL m t,FTerm s u:=fun u hu=>by
 obtain ⟨x,hx,f,hf,rfl⟩:=mem_minL.1 hu
 exact (wiP_ok (hm x hx) (ht f hf)).1
theorem mmem_minL {s:Int} {m:List (List Per)} {t:List Per} (hm:∀ u∈m,FTerm s u) (ht:∀ p∈t,Fac s p) {n:Int}:mmem (minL m t) n↔mmem m n∧¬ tmem t n:=by
 unfold mmem
 constructor
 ·rintro ⟨u,hu,h⟩
  obtain ⟨x,hx,f,hf,rfl⟩:=mem_minL.1 hu
  have h2:=((wiP_ok (hm x hx) (ht f hf)).2 n).1 h
  exact ⟨⟨x,hx,h2.1⟩,fun g=>h2.2 (g f hf)⟩
 ·rintro ⟨⟨x,hx,h1⟩,h2⟩
  have h3:∃ f∈t,¬ f.mem n:=Classical.byContradiction fun h=>h2 fun f hf=>Classical.byContradiction fun g=>h ⟨f,hf,g⟩
  obtain ⟨f,hf,h4⟩:=h3
  exact ⟨_,mem_minL.2 ⟨x,hx,f,hf,rfl⟩,((wiP_ok (hm x hx) (ht f hf)).2 n).2 ⟨h1,h4⟩⟩
inductive MinTo:List (List Per)→List (List Per)→Option (List (List Per))→Prop
 | nil {m:List (List Per)}:MinTo m [] (some m)
 | big {m m' b:List (List Per)} {t:List Per} (h:NormTo (minL m t) m') (hb:¬ NormOk m'):MinTo m (t :: b) none
 | step {m m' b:List (List Per)} {t:List Per} {r:Option (List (List Per))} (h:NormTo (minL m t) m') (hb:NormOk m') (hr:MinTo m' b r):MinTo m (t :: b) r
theorem MinTo.unique {m b:List (List Per)} {r r':Option (List (List Per))} (h:MinTo m b r) (g:MinTo m b r'):r=r':=by
 induction h generalizing r' with
 | nil=>cases g;rfl
 | big h hb=>
  cases g with
  | big _ _=>rfl
  | step g gb _=>rw [h.unique g] at hb;exact absurd gb hb
 | step h hb _ ih=>
  cases g with
  | big g gb=>rw [h.unique g] at hb;exact absurd hb gb
  | step g gb gr=>obtain rfl:=h.unique g;exact ih gr
def MinusTo (a b:List (List Per)) (r:Option (List (List Per))):Prop:=∃ m,NormTo a m∧((NormOk m∧MinTo m b r)∨(¬ NormOk m∧r=none))
theorem MinusTo.unique {a b:List (List Per)} {r r':Option (List (List Per))} (h:MinusTo a b r) (g:MinusTo a b r'):r=r':=by
 obtain ⟨m,h1,h2⟩:=h
 obtain ⟨m',g1,g2⟩:=g
 obtain rfl:=h1.unique g1
 rcases h2 with ⟨h2,h3⟩|⟨h2,rfl⟩ <;> rcases g2 with ⟨g2,g3⟩|⟨g2,rfl⟩
 ·exact h3.unique g3
 ·exact absurd h2 g2
 ·exact absurd g2 h2
 ·rfl
structure NForm (s:Int) (m:List (List Per)):Prop where
 terms:∀ t∈m,CTerm s t∧¬ barrenT t
 ok:NormOk m
theorem CTerm.fterm {s:Int} {t:List Per} (h:CTerm s t):FTerm s t:=⟨h.1,fun p hp=>(h.2 p hp).fac⟩
theorem NForm.fterm {s:Int} {m:List (List Per)} (h:NForm s m):∀ t∈m,FTerm s t:=fun t ht=>(h.terms t ht).1.fterm
theorem MinTo.ok {s:Int} {m b:List (List Per)} {r:Option (List (List Per))} (h:MinTo m b r) (hm:NForm s m) (hb:∀ t∈b,FTerm s t):∀ k,r=some k→NForm s k∧∀ n,mmem k n↔mmem m n∧¬ mmem b n:=by
 induction h with
 | nil=>
  rintro k rfl2
  cases rfl2
  exact ⟨hm,fun n=>⟨fun h=>⟨h,mmem_nil⟩,fun h=>h.1⟩⟩
 | big h hn=>intro k e;cases e
 | @step m m' b t r h hn hr ih=>
  intro k e
  have ht:=hb t (by simp)
  have f1:=minL_fterm hm.fterm ht.2
  obtain ⟨a1,a2,a3,a4⟩:=h.ok f1
  obtain ⟨c1,c2⟩:=ih ⟨a1,hn⟩ (fun t ht=>hb t (by simp [ht])) k e
  refine ⟨c1,fun n=>?_⟩
  rw [c2 n,a2 n,mmem_minL hm.fterm ht.2,mmem_cons]
  exact ⟨fun ⟨⟨x,y⟩,z⟩=>⟨x,fun e=>e.elim y z⟩,fun ⟨x,y⟩=>⟨⟨x,fun e=>y (.inl e)⟩,fun e=>y (.inr e)⟩⟩
theorem MinusTo.ok {s:Int} {a b k:List (List Per)} (h:MinusTo a b (some k)) (ha:∀ t∈a,FTerm s t) (hb:∀ t∈b,FTerm s t):NForm s k∧∀ n,mmem k n↔mmem a n∧¬ mmem b n:=by
 obtain ⟨m,h1,⟨h2,h3⟩|⟨_,h⟩⟩:=h
 ·obtain ⟨a1,a2,_,_⟩:=h1.ok ha
  obtain ⟨c1,c2⟩:=h3.ok ⟨a1,h2⟩ hb k rfl
  exact ⟨c1,fun n=>by rw [c2 n,a2 n]⟩
 ·cases h
noncomputable def andL (p:Per) (t:List Per):Per:=t.foldl andP p
noncomputable def termP (t:List Per):Per:=match t with|[]=>default|p :: r=>andL p r
noncomputable def joinF (all:Per) (m:List (List Per)):Per:=m.foldl (fun a t=>orP a (termP t)) all
theorem andL_ok {s:Int}:∀ {t:List Per} {p:Per},Fac s p→(∀ q∈t,Fac s q)→Fac s (andL p t)∧∀ n,(andL p t).mem n↔p.mem n∧tmem t n
 | [],p,hp,_=>⟨hp,fun n=>by simp [andL,tmem]⟩
 | q :: t,p,hp,ht=>by
  have hc:=hp.and (ht q (by simp))
  obtain ⟨a,b⟩:=andL_ok (t:=t) hc.2 fun r hr=>ht r (by simp [hr])
  refine ⟨a,fun n=>?_⟩
  show (andL (andP p q) t).mem n↔_
  rw [b n,hc.1.mem n]
  unfold tmem
  rw [List.forall_mem_cons,and_assoc]
theorem termP_ok {s:Int} {t:List Per} (ht:FTerm s t):Fac s (termP t)∧∀ n,(termP t).mem n↔tmem t n:=by
 cases t with
 | nil=>exact absurd rfl ht.1
 | cons p r=>
  obtain ⟨a,b⟩:=andL_ok (t:=r) (ht.2 p (by simp)) fun q hq=>ht.2 q (by simp [hq])
  refine ⟨a,fun n=>(b n).trans ?_⟩
  unfold tmem;rw [List.forall_mem_cons]
theorem joinF_ok {s:Int}:∀ {m:List (List Per)} {all:Per},Fac s all→(∀ t∈m,FTerm s t)→Fac s (joinF all m)∧(∀ n,(joinF all m).mem n↔all.mem n∨mmem m n)∧((m=[]→IsCanon all all.mem)→IsCanon (joinF all m) (joinF all m).mem)
 | [],all,ha,_=>⟨ha,fun n=>by simp [joinF,mmem],fun h=>h rfl⟩
 | t :: m,all,ha,hm=>by
  obtain ⟨f1,f2⟩:=termP_ok (hm t (by simp))
  have hc:=ha.or f1
  obtain ⟨a,b,c⟩:=joinF_ok (m:=m) hc.2 fun u hu=>hm u (by simp [hu])
  refine ⟨a,fun n=>?_,fun _=>c fun _=>(ha.cor f1).can⟩
  show (joinF (orP all (termP t)) m).mem n↔_
  rw [b n,hc.1.mem n,f2 n,mmem_cons,or_assoc]
def shS (p:Per) (b:Int) (n:Int):Prop:=0≤n∧p.mem (n-b)
noncomputable def shP (p:Per) (b:Int):Per:=canonC (shS p b)
noncomputable def shL (m:List (List Per)) (b:Int):List (List Per):=m.map fun t=>t.map fun p=>shP p b
end Kal
namespace Go.Proofs.YthjnojbeimchdaaGreat
open Go.RowKit Go.Maps Kal
set_option maxRecDepth 100000 in
set_option maxHeartbeats 1000000 in
theorem has1_any (F:Nat→Prop) (v:Value) (t:List Per) (n:Int) (db:Nat) (w:World) (ht:TermR w F v t) (hc:w.cell? ⟨db,0,none⟩=some (.int .i64 n)) (hn:InI n) :
  Calls Tryz.prog 66 #[v,.pointer (some ⟨db,0,none⟩)] w fun e w'=>e=.returned (.bool (inB t n))∧Below w.heap.size w w':=by
 have H:=in_any F v t n w ht hn
 have hlt:=World.block_lt_of_cell? w _ hc
 clear ht
 generalize inB t n=b at H ⊢
 go_enter Tryz.func66,Tryz.ntmps66
 go_wp2_with (go_at_call 59;refine H.mono ?_;rintro e w1 ⟨rfl,hb1⟩)
 go_ret
 exact ⟨rfl,xE⟩
theorem has1_pred (F:Nat→Prop) (L:List (Value × List Per)) (n:Int) (db:Nat) (w:World) (hL:∀ x∈L,TermR w F x.1 x.2) (hc:w.cell? ⟨db,0,none⟩=some (.int .i64 n)) (hn:InI n) :
  PredT 66 #[.pointer (some ⟨db,0,none⟩)] L (fun x=>inB x.2 n) w:=fun W x hW hx=>by
 have h:=has1_any F x.1 x.2 n db W ((hL x hx).ext hW) (Ext.cell hW hc) hn
 have e:(#[x.1] ++ #[Value.pointer (some ⟨db,0,none⟩)])=#[x.1,.pointer (some ⟨db,0,none⟩)]:=by simp
 rw [e]
 exact h.mono fun e w' ⟨h1,h2⟩=>⟨h1,hW.trans (h2.mono hW.size)⟩
theorem any_has (F:Nat→Prop) (v:Value) (m:List (List Per)) (n:Int) (db:Nat) (w:World) (hm:MixR w F v m) (hc:w.cell? ⟨db,0,none⟩=some (.int .i64 n)) (hn:InI n) :
  Calls Tryz.prog 57 #[v,.func (.func 66) #[] #[.pointer (some ⟨db,0,none⟩)]] w fun e w'=>e=.returned (.bool (m.any fun t=>inB t n))∧Below w.heap.size w w':=by
 obtain ⟨L,rfl,hL⟩:=hm
 have h:=containsFuncT F v L (fun x=>inB x.2 n) 66 #[.pointer (some ⟨db,0,none⟩)] (enters_of Tryz.func66 (by kernel_rfl) rfl) w hL.row hL.len (has1_pred F L n db w hL.all hc hn)
 have he:((L.map Prod.snd).any fun t=>inB t n)=L.any fun x=>inB x.2 n:=by rw [List.any_map];rfl
 rw [he];exact h
set_option maxRecDepth 100000 in
set_option maxHeartbeats 1000000 in
theorem mhas_any (F:Nat→Prop) (v:Value) (m:List (List Per)) (n:Int) (w:World) (hm:MixR w F v m) (hn:InI n) :
  Calls Tryz.prog 19 #[.agg #[v],.int .i64 n] w fun e w'=>e=.returned (.bool (hasM m n))∧Below w.heap.size w w':=by
 have HV:=fun W h=>mvalid_any F v m W (hm.ext h)
 have HA:=fun W h db hc=>any_has F v m n db W (hm.ext h) hc hn
 unfold hasM
 obtain ⟨L,_,hL⟩:=hm
 obtain ⟨a,c,rfl,_⟩:=hL.row
 clear hL
 generalize (m.any fun t=>inB t n)=y at *
 cases hq:validM m with
 | false=>
  rw [hq] at HV
  clear hq
  go_enter Tryz.func19,Tryz.ntmps19
  go_wp2_with (go_at_call 18;refine (HV _ xE).mono ?_;rintro e w1 ⟨rfl,hb1⟩)
  go_ret
  exact ⟨rfl,xE⟩
 | true=>
  rw [hq] at HV
  clear hq
  go_enter Tryz.func19,Tryz.ntmps19
  go_wp2_with (first|(go_at_call 18;refine (HV _ xE).mono ?_;rintro e w1 ⟨rfl,hb1⟩;obtain ⟨hc1,hf1⟩:=bcell hb1;(try simp only [World.size_alloc,World.size_drew,size_drewN,World.size_setCell] at hc1 hf1))|(go_at_call 57;refine (HA _ xE (w.heap.size+1) (by rw [hc1 _ _ (by omega)];simp)).mono ?_;rintro e w2 ⟨rfl,hb2⟩))
  go_ret
  exact ⟨rfl,xE⟩
set_option maxRecDepth 100000 in
set_option maxHeartbeats 1000000 in
theorem divides_any (x y:PV) (w:World) (hx:1≤x.p.period) (hx1:x.p.period≤1099511627776) (hy:1≤y.p.period) (hy1:y.p.period≤1099511627776) :
  Calls Tryz.prog 109 #[x.val,y.val] w fun e w'=>e=.returned (.bool (divB x.p y.p))∧Below w.heap.size w w':=by
 have n1:x.p.period≠0:=by omega
 have n2:y.p.period≠0:=by omega
 have b1:=Int.emod_nonneg x.p.period n2
 have b2:=Int.emod_lt_of_pos x.p.period (show 0<y.p.period by omega)
 have b3:=Int.emod_nonneg y.p.period n1
 have b4:=Int.emod_lt_of_pos y.p.period (show 0<x.p.period by omega)
 go_enter Tryz.func109,Tryz.ntmps109
 go_wp2_with fail
 all_goals
  go_ret
  refine ⟨ret_bool ?_,xE⟩
  unfold divB
  first|rfl|(simp_all;done)
end Go.Proofs.YthjnojbeimchdaaGreat
namespace Go.Proofs.YthjnojbeimchdaaGreat
open Go.RowKit Go.Maps Kal
set_option maxRecDepth 100000 in
set_option maxHeartbeats 1000000 in
theorem mequal_any (F G:Nat→Prop) (x y:PV) (w:World) (hx:PVok w F x) (hy:PVok w G y) :
  Calls Tryz.prog 113 #[x.val,y.val] w fun e w'=>e=.returned (.bool (sameB x.p y.p))∧Below w.heap.size w w':=by
 have H1:=fun W (h:Below w.heap.size w W)=>equal_any x.h y.h x.p.head y.p.head W (hx.is.hd.ext h) (hy.is.hd.ext h)
 have H2:=fun W (h:Below w.heap.size w W)=>equal_any x.c y.c x.p.cycle y.p.cycle W (hx.is.cy.ext h) (hy.is.cy.ext h)
 clear hx hy
 obtain ⟨xh,xc,xp⟩:=x
 obtain ⟨yh,yc,yp⟩:=y
 change Calls _ _ #[perV xh xc xp.frm xp.period,perV yh yc yp.frm yp.period] _ fun e w'=>e=.returned (.bool (sameB xp yp))∧_
 change ∀ W,_→Calls _ _ #[xh,yh] W fun e w'=>e=.returned (.bool (decide (xp.head=yp.head)))∧_ at H1
 change ∀ W,_→Calls _ _ #[xc,yc] W fun e w'=>e=.returned (.bool (decide (xp.cycle=yp.cycle)))∧_ at H2
 by_cases h1:xp.frm=yp.frm
 ·by_cases h2:xp.period=yp.period
  ·by_cases h3:xp.head=yp.head
   ·rw [decide_eq_true h3] at H1
    have e:sameB xp yp=decide (xp.cycle=yp.cycle):=by unfold sameB;simp [h1,h2,h3]
    rw [e]
    clear e h3
    generalize decide (xp.cycle=yp.cycle)=b at *
    go_enter Tryz.func113,Tryz.ntmps113
    go_wp2_with (go_at_call 89;first|((with_reducible refine (H1 _ xE).mono ?_);rintro e w1 ⟨rfl,n1,rfl⟩)|((with_reducible refine (H2 _ xE).mono ?_);rintro e w1 ⟨rfl,n1,rfl⟩))
    go_ret
    exact ⟨rfl,xE⟩
   ·rw [decide_eq_false h3] at H1
    have e:sameB xp yp=false:=by unfold sameB;simp [h3]
    rw [e]
    clear e h3
    go_enter Tryz.func113,Tryz.ntmps113
    go_wp2_with (go_at_call 89;first|((with_reducible refine (H1 _ xE).mono ?_);rintro e w1 ⟨rfl,n1,rfl⟩)|((with_reducible refine (H2 _ xE).mono ?_);rintro e w1 ⟨rfl,n1,rfl⟩))
    go_ret
    exact ⟨rfl,xE⟩
  ·have e:sameB xp yp=false:=by unfold sameB;simp [h2]
   rw [e]
   clear e
   go_enter Tryz.func113,Tryz.ntmps113
   go_wp2_with fail
   go_ret
   exact ⟨rfl,xE⟩
 ·have e:sameB xp yp=false:=by unfold sameB;simp [h1]
  rw [e]
  clear e
  go_enter Tryz.func113,Tryz.ntmps113
  go_wp2_with fail
  go_ret
  exact ⟨rfl,xE⟩
open Classical in
noncomputable def sameT (t u:List Per):Bool:=decide (t=u)
theorem sameT_true {t u:List Per} (h:t=u):sameT t u=true:=by unfold sameT;simp [h]
theorem sameT_false {t u:List Per} (h:t≠u):sameT t u=false:=by unfold sameT;simp [h]
theorem PVok.form {F:Nat→Prop} {w:World} {h c:Value} {p:Per} (hx:PVok w F ⟨h,c,p⟩):∃ a1 n1 c1 a2 n2 c2,h=.slice a1 n1 c1∧c=.slice a2 n2 c2:=by
 obtain ⟨⟨⟨⟨a1,c1,h1,_⟩,_,_⟩,⟨a2,c2,h2,_⟩,_,_⟩,_,_,_,_⟩:=hx
 exact ⟨a1,_,c1,a2,_,c2,h1,h2⟩
theorem TermL.get {F:Nat→Prop} {w:World} {a:Option Addr} {n c:Nat} {L:List PV} (h:TermL w F (.slice a n c) L) {k:Nat} (hk:k<L.length) :
  ∃ b o x,a=some ⟨b,o,none⟩∧PVok w F x∧x.p=(L.map PV.p).getD k default∧b<w.heap.size∧w.cell? ⟨b,o+k*4,none⟩=some x.h∧w.cell? ⟨b,o+k*4+1,none⟩=some (.int .i64 x.p.frm)∧
   w.cell? ⟨b,o+k*4+2,none⟩=some (.int .i64 x.p.period)∧w.cell? ⟨b,o+k*4+3,none⟩=some x.c:=by
 obtain ⟨a',c',he,h1,h2,h3⟩:=h.row
 injection he with e1 _ e2
 subst e1;subst e2
 rcases h3 with h3|⟨b,o,rfl,hF,hl,hc⟩
 ·omega
 ·exact ⟨b,o,L.getD k default,rfl,h.all _ (getD_mem' hk),by simp [List.getD_eq_getElem?_getD,hk],hl,hc (k*4+0) _ (flat_get hk rfl),hc (k*4+1) _ (flat_get hk rfl),hc (k*4+2) _ (flat_get hk rfl),hc (k*4+3) _ (flat_get hk rfl)⟩
set_option maxRecDepth 100000 in
set_option maxHeartbeats 1000000 in
theorem equalFunc_any (F G:Nat→Prop) (v1 v2:Value) (t u:List Per) (w:World) (h1:TermR w F v1 t) (h2:TermR w G v2 u) :
  Calls Tryz.prog 112 #[v1,v2,.func (.func 113) #[] #[]] w fun e w'=>e=.returned (.bool (sameT t u))∧Below w.heap.size w w':=by
 obtain ⟨L,hLt,hL⟩:=h1
 obtain ⟨M,hMu,hM⟩:=h2
 obtain ⟨a1,c1,rfl,_⟩:=hL.row
 obtain ⟨a2,c2,rfl,_⟩:=hM.row
 have HL:=Lib.hid hL
 have HM:=Lib.hid hM
 have hl1:=hL.len
 have hl2:=hM.len
 have ht:t.length=L.length:=by rw [← hLt,List.length_map]
 have hu:u.length=M.length:=by rw [← hMu,List.length_map]
 have HT:=Lib.hid ht
 have HU:=Lib.hid hu
 have HLT:=Lib.hid hLt
 have HMU:=Lib.hid hMu
 clear hL hM ht hu hLt hMu
 have eg:∀ args w,(callFunc 113 args).run Tryz.prog w=.ok (.enter 113 args) w:=enters_of Tryz.func113 (by kernel_rfl) rfl
 by_cases hne:L.length=M.length
 ·have HNE:=Lib.hid hne
  rw [← hne]
  clear hne hl2
  go_enter Tryz.func112,Tryz.ntmps112
  go_wp2_with fail
  go_loopw [6,7,8,9,17] (fun _ _ _ _ i wr=>∃ k:Nat,k≤L.length∧i=.int .i64 k∧(∀ j,j<k→t.getD j default=u.getD j default)∧Below w.heap.size w wr) (fun _ _ _ _ i _=>L.length-(intOf i).toNat)
  case atStart=>exact ⟨0,by omega,rfl,by intro j hj;omega,xE⟩
  case round=>
   obtain ⟨k,hk,rfl,hpre,hb⟩:=hrel
   have HPRE:=Lib.hid hpre
   clear hpre
   by_cases hlt:k<L.length
   ·have hlI:(k:Int)<L.length:=by omega
    obtain ⟨b1,o1,x,rfl,hx,hxp,hb1,e0,e1,e2,e3⟩:=(HL.out.keep (KeepF.below hb) hb.size).get hlt
    obtain ⟨b2,o2,y,rfl,hy,hyp,hb2,g0,g1,g2,g3⟩:=(HM.out.keep (KeepF.below hb) hb.size).get (show k<M.length by have:=HNE.out;omega)
    rw [HLT.out] at hxp
    rw [HMU.out] at hyp
    have HE:=fun W (h:Below wr.heap.size wr W)=>mequal_any F G x y W (hx.keep (KeepF.below h)) (hy.keep (KeepF.below h))
    have HXP:=Lib.hid hxp
    have HYP:=Lib.hid hyp
    obtain ⟨xh,xc,xp⟩:=x
    obtain ⟨yh,yc,yp⟩:=y
    obtain ⟨ax1,nx1,cx1,ax2,nx2,cx2,rfl,rfl⟩:=hx.form
    obtain ⟨ay1,ny1,cy1,ay2,ny2,cy2,rfl,rfl⟩:=hy.form
    clear hxp hyp hx hy
    change ∀ W,_→Calls _ _ #[perV (.slice ax1 nx1 cx1) (.slice ax2 nx2 cx2) xp.frm xp.period,perV (.slice ay1 ny1 cy1) (.slice ay2 ny2 cy2) yp.frm yp.period] W fun e w'=>e=.returned (.bool (sameB xp yp))∧_ at HE
    change Hid (xp=_) at HXP
    change Hid (yp=_) at HYP
    dsimp only at e0 e1 e2 e3 g0 g1 g2 g3
    cases hq:sameB xp yp with
    | true=>
     rw [hq] at HE
     have HQ:=Lib.hid hq
     clear hq
     go_wp2_with (go_at_fn 113;refine (HE _ xE).mono ?_;rintro e w1 ⟨rfl,hb3⟩)
     go_roundw
     case rel=>
      refine ⟨k+1,by omega,by go_num,?_,xE⟩
      intro j hj
      by_cases h:j<k
      ·exact HPRE.out j h
      ·obtain rfl:j=k:=by omega
       rw [← HXP.out,← HYP.out];exact (sameB_iff _ _).1 HQ.out
     case measure=>simp [intOf];omega
    | false=>
     rw [hq] at HE
     have HQ:=Lib.hid hq
     clear hq
     go_wp2_with (go_at_fn 113;refine (HE _ xE).mono ?_;rintro e w1 ⟨rfl,hb3⟩)
     go_ret
     refine ⟨ret_bool (sameT_false ?_).symm,xE⟩
     rintro rfl
     have:=HQ.out
     rw [(sameB_iff _ _).2 (HXP.out.trans HYP.out.symm)] at this
     exact absurd this (by decide)
   ·obtain rfl:k=L.length:=by omega
    go_wp2_with fail
    go_ret
    refine ⟨ret_bool (sameT_true ?_).symm,xE⟩
    refine List.ext_getElem (by have:=HT.out;have:=HU.out;have:=HNE.out;omega) fun j h1 h2=>?_
    have:=HPRE.out j (by have:=HT.out;omega)
    rw [List.getD_eq_getElem?_getD,List.getD_eq_getElem?_getD,List.getElem?_eq_getElem h1,List.getElem?_eq_getElem h2] at this
    exact this
 ·have hneI:¬ (L.length:Int)=M.length:=by omega
  go_enter Tryz.func112,Tryz.ntmps112
  go_wp2_with fail
  go_ret
  refine ⟨ret_bool (sameT_false ?_).symm,xE⟩
  rintro rfl
  have:=HT.out;have:=HU.out;omega
end Go.Proofs.YthjnojbeimchdaaGreat
namespace Go.Proofs.YthjnojbeimchdaaGreat
open Go.RowKit Go.Maps Kal
theorem startF_snoc (a:Int) (t:List Per) (p:Per):startF a (t ++ [p])=max (startF a t) p.frm:=by unfold startF;rw [List.foldl_append];rfl
set_option maxRecDepth 100000 in
set_option maxHeartbeats 1000000 in
theorem start_any (F:Nat→Prop) (v:Value) (t:List Per) (w:World) (ht:TermR w F v t) :
  Calls Tryz.prog 141 #[v] w fun e w'=>e=.returned (.int .i64 (startT t))∧Below w.heap.size w w':=by
 obtain ⟨L,hLt,hL⟩:=ht
 obtain ⟨a1,c1,rfl,_⟩:=hL.row
 have HL:=Lib.hid hL
 have hl1:=hL.len
 have htl:t.length=L.length:=by rw [← hLt,List.length_map]
 have HT:=Lib.hid htl
 have HLT:=Lib.hid hLt
 clear hL htl hLt
 go_enter Tryz.func141,Tryz.ntmps141
 go_wp2_with fail
 go_loopw [3,5,8] (fun m _ i wr=>∃ k:Nat,k≤L.length∧i=.int .i64 k∧m=.int .i64 (startF 0 (t.take k))∧Below w.heap.size w wr) (fun _ _ i _=>L.length-(intOf i).toNat)
 case atStart=>exact ⟨0,by omega,rfl,by simp [startF],xE⟩
 case round=>
  obtain ⟨k,hk,rfl,rfl,hb⟩:=hrel
  by_cases hlt:k<L.length
  ·have hlI:(k:Int)<L.length:=by omega
   obtain ⟨b1,o1,x,rfl,hx,hxp,hb1,e0,e1,e2,e3⟩:=(HL.out.keep (KeepF.below hb) hb.size).get hlt
   rw [HLT.out] at hxp
   have hS:startF 0 (t.take (k+1))=max (startF 0 (t.take k)) x.p.frm:=by
    have htk:k<t.length:=by have:=HT.out;omega
    rw [List.take_succ_eq_append_getElem htk,startF_snoc,hxp,List.getD_eq_getElem?_getD,List.getElem?_eq_getElem htk];rfl
   have HS:=Lib.hid hS
   have hfr:=hx.fr
   obtain ⟨xh,xc,xp⟩:=x
   obtain ⟨ax1,nx1,cx1,ax2,nx2,cx2,rfl,rfl⟩:=hx.form
   dsimp only at e0 e1 e2 e3 hfr HS
   clear hxp hx hS
   generalize startF 0 (t.take k)=s0 at *
   go_wp2_with fail
   all_goals
    go_roundw
    case rel=>exact ⟨k+1,by omega,by go_num,by rw [HS.out],xE⟩
    case measure=>simp [intOf];omega
  ·obtain rfl:k=L.length:=by omega
   go_wp2_with fail
   go_ret
   refine ⟨?_,xE⟩
   have:=HT.out
   rw [List.take_of_length_le (by omega)];rfl
end Go.Proofs.YthjnojbeimchdaaGreat
namespace Go.Proofs.YthjnojbeimchdaaGreat
open Go.RowKit Go.Maps Kal
set_option maxRecDepth 100000 in
set_option maxHeartbeats 1000000 in
theorem mresidue_any (h c:Value) (p:Per) (n:Int) (w:World) (hf:0≤p.frm) (hf1:p.frm≤1125899906842624) (hp:1≤p.period) (hp1:p.period≤1125899906842624) (hn:0≤n) (hn1:n≤1125899906842624) :
  Calls Tryz.prog 121 #[perV h c p.frm p.period,.int .i64 n] w fun e w'=>e=.returned (.int .i64 (resP p n))∧Below w.heap.size w w':=by
 have n1:p.period≠0:=by omega
 have b1:=Int.emod_nonneg p.frm n1
 have b2:=Int.emod_lt_of_pos p.frm (show 0<p.period by omega)
 have q1:p.frm.tmod p.period=p.frm % p.period:=Int.tmod_eq_emod_of_nonneg hf
 have q2:(p.frm % p.period+n).tmod p.period=(p.frm % p.period+n) % p.period:=Int.tmod_eq_emod_of_nonneg (by omega)
 unfold resP
 generalize p.frm % p.period=r at *
 have HR:Hid (0≤(r+n) % p.period∧(r+n) % p.period<p.period):=Lib.hid ⟨Int.emod_nonneg _ n1,Int.emod_lt_of_pos _ (by omega)⟩
 go_enter Tryz.func121,Tryz.ntmps121
 go_wp2_with fail
 go_region
 go_wp2_with fail
 go_ret
 exact ⟨rfl,xE⟩
end Go.Proofs.YthjnojbeimchdaaGreat
namespace Go.Proofs.YthjnojbeimchdaaGreat
open Go.RowKit Go.Maps Kal
def TV (t:List Per):Prop:=∀ p∈t,validB p=true
theorem hasB_iff {p:Per} {n:Int} (h:validB p=true):hasB p n=true↔p.mem n:=by
 unfold hasB
 rw [h,Bool.true_and,Bool.and_eq_true,decide_eq_true_iff]
 exact ⟨fun ⟨h0,h1⟩=>(memB_iff h0).1 h1,fun h1=>⟨h1.1,(memB_iff h1.1).2 h1⟩⟩
theorem inB_iff {t:List Per} {n:Int} (h:TV t):inB t n=true↔tmem t n:=by
 unfold inB tmem
 rw [List.all_eq_true]
 exact ⟨fun g p hp=>(hasB_iff (h p hp)).1 (g p hp),fun g p hp=>(hasB_iff (h p hp)).2 (g p hp)⟩
theorem best_take {t:List Per} {f n d:Int} {b:Bool} {S T:Int→Prop} (h:BestE S f n b) (hs:∀ x,T x↔S x∨(x=d∧tmem t x)) (h1:f≤d) (h2:b=false∨d<n) (h3:tmem t d):BestE T f d true:=
 (h.take h1 h2).congr fun x _=>by rw [hs];exact or_congr Iff.rfl ⟨fun g=>g.1,fun g=>⟨g,g ▸ h3⟩⟩
theorem best_pass {t:List Per} {f n d:Int} {b:Bool} {S T:Int→Prop} (h:BestE S f n b) (hs:∀ x,T x↔S x∨(x=d∧tmem t x)) (h1:¬ (f≤d∧(b=false∨d<n)∧tmem t d)):BestE T f n b:=by
 by_cases h3:tmem t d
 ·exact (h.pass fun g=>h1 ⟨g.1,g.2,h3⟩).congr fun x _=>by rw [hs];exact or_congr Iff.rfl ⟨fun g=>g.1,fun g=>⟨g,g ▸ h3⟩⟩
 ·exact h.congr fun x _=>by rw [hs];exact ⟨fun g=>g.elim id fun g=>absurd (g.1 ▸ g.2) h3,.inl⟩
set_option maxRecDepth 100000 in
set_option maxHeartbeats 2000000 in
theorem early_any (F:Nat→Prop) (v:Value) (t:List Per) (f:Int) (w:World) (ht:TermR w F v t) (hv:TV t) (hf:InI f) :
  Calls Tryz.prog 101 #[v,.int .i64 f] w fun e w'=>∃ (n:Int) (b:Bool),e=.returned (.tuple #[.int .i64 n,.bool b])∧BestE (headS t t.length 0) f n b∧Below w.heap.size w w':=by
 have HIN:=fun W d (h:Below w.heap.size w W) (hd:InI d)=>in_any F v t d W (ht.ext h) hd
 obtain ⟨L,hLt,hL⟩:=ht
 obtain ⟨a1,c1,rfl,_⟩:=hL.row
 have HL:=Lib.hid hL
 have hl1:=hL.len
 have htl:t.length=L.length:=by rw [← hLt,List.length_map]
 have HT:=Lib.hid htl
 have HLT:=Lib.hid hLt
 have HV:=Lib.hid hv
 clear hL htl hLt hv
 go_enter Tryz.func101,Tryz.ntmps101
 go_wp2_with fail
 go_loopw [6,7,9,11,14] (fun nv bv _ _ i wr=>∃ (k:Nat) (n:Int) (b:Bool),k≤L.length∧i=.int .i64 k∧nv=.int .i64 n∧bv=.bool b∧Hid (BestE (headS t k 0) f n b)∧Below w.heap.size w wr) (fun _ _ _ _ i _=>L.length-(intOf i).toNat)
 case atStart=>exact ⟨0,0,false,by omega,rfl,rfl,rfl,Lib.hid (BestE.start.congr fun x _=>headS_zero),xE⟩
 case round=>
  obtain ⟨k,n,b,hk,rfl,rfl,rfl,HBE,hb⟩:=hrel
  by_cases hlt:k<L.length
  ·have hlI:(k:Int)<L.length:=by omega
   obtain ⟨b1,o1,x,rfl,hx,hxp,hb1,e0,e1,e2,e3⟩:=(HL.out.keep (KeepF.below hb) hb.size).get hlt
   rw [HLT.out] at hxp
   have hkt:k<t.length:=by have:=HT.out;omega
   have HXP:=Lib.hid hxp
   have hxi:=hx.is.hd
   obtain ⟨xh,xc,xp⟩:=x
   obtain ⟨ax1,nx1,cx1,ax2,nx2,cx2,rfl,rfl⟩:=hx.form
   dsimp only at e0 e1 e2 e3 hxi
   change Hid (xp=_) at HXP
   obtain ⟨⟨ah,ch,he,_,_,hcl⟩,hln,hrg⟩:=hxi
   injection he with he1 he2 he3
   subst he1;subst he2;subst he3
   have HCL:=Lib.hid hcl
   have HRG:=Lib.hid hrg
   have HB:=Lib.hid hb
   clear hcl hrg hxp hx
   go_wp2_with fail
   go_loopw [6,7,11,21] (fun nv bv _ i wq=>∃ (j:Nat) (n:Int) (b:Bool),j≤xp.head.length∧i=.int .i64 j∧nv=.int .i64 n∧bv=.bool b∧Hid (BestE (headS t k j) f n b)∧Below wr.heap.size wr wq) (fun _ _ _ i _=>xp.head.length-(intOf i).toNat)
   case atStart=>exact ⟨0,n,b,by omega,rfl,rfl,rfl,HBE,xE⟩
   case round=>
    obtain ⟨j,n,b,hj,rfl,rfl,rfl,HBE2,hb2⟩:=hrel
    by_cases hjl:j<xp.head.length
    ·have hjI:(j:Int)<xp.head.length:=by omega
     rcases HCL.out with h0|⟨b4,o4,rfl,hc4⟩
     ·rw [h0] at hjl;simp at hjl
     have c0:=Ext.cell hb2 (hc4 j hjl)
     have hd:=HRG.out _ (getD_mem' (d:=0) hjl)
     have HS:=fun x=>headS_succ (t:=t) (i:=k) (k:=j) (x:=x) (by rw [← HXP.out];exact hjl)
     rw [← HXP.out] at HS
     have HS:=Lib.hid HS
     generalize xp.head.getD j 0=d at *
     by_cases h1:f≤d
     ·cases b with
      | false=>
       cases hq:inB t d with
       | true=>
        have HI:=fun W h=>HIN W d h hd
        rw [hq] at HI
        have HTM:=Lib.hid ((inB_iff HV.out).1 hq)
        clear hq
        go_wp2_with (go_at_call 59;refine (HI _ xE).mono ?_;rintro e w1 ⟨rfl,hb3⟩)
        go_roundw
        case rel=>exact ⟨j+1,d,true,by omega,by go_num,rfl,rfl,Lib.hid (best_take HBE2.out HS.out h1 (by first|exact .inl rfl|exact .inr (by assumption)) HTM.out),xE⟩
        case measure=>simp [intOf];omega
       | false=>
        have HI:=fun W h=>HIN W d h hd
        rw [hq] at HI
        have HTM:Hid (¬ tmem t d):=Lib.hid fun g=>by rw [(inB_iff HV.out).2 g] at hq;exact absurd hq (by decide)
        clear hq
        go_wp2_with (go_at_call 59;refine (HI _ xE).mono ?_;rintro e w1 ⟨rfl,hb3⟩)
        go_roundw
        case rel=>exact ⟨j+1,n,_,by omega,by go_num,rfl,rfl,Lib.hid (best_pass HBE2.out HS.out fun g=>HTM.out g.2.2),xE⟩
        case measure=>simp [intOf];omega
      | true=>
       by_cases h2:d<n
       ·
        cases hq:inB t d with
        | true=>
         have HI:=fun W h=>HIN W d h hd
         rw [hq] at HI
         have HTM:=Lib.hid ((inB_iff HV.out).1 hq)
         clear hq
         go_wp2_with (go_at_call 59;refine (HI _ xE).mono ?_;rintro e w1 ⟨rfl,hb3⟩)
         go_roundw
         case rel=>exact ⟨j+1,d,true,by omega,by go_num,rfl,rfl,Lib.hid (best_take HBE2.out HS.out h1 (by first|exact .inl rfl|exact .inr (by assumption)) HTM.out),xE⟩
         case measure=>simp [intOf];omega
        | false=>
         have HI:=fun W h=>HIN W d h hd
         rw [hq] at HI
         have HTM:Hid (¬ tmem t d):=Lib.hid fun g=>by rw [(inB_iff HV.out).2 g] at hq;exact absurd hq (by decide)
         clear hq
         go_wp2_with (go_at_call 59;refine (HI _ xE).mono ?_;rintro e w1 ⟨rfl,hb3⟩)
         go_roundw
         case rel=>exact ⟨j+1,n,_,by omega,by go_num,rfl,rfl,Lib.hid (best_pass HBE2.out HS.out fun g=>HTM.out g.2.2),xE⟩
         case measure=>simp [intOf];omega
       ·go_wp2_with fail
        go_roundw
        case rel=>exact ⟨j+1,n,true,by omega,by go_num,rfl,rfl,Lib.hid (best_pass HBE2.out HS.out fun g=>g.2.1.elim (fun g=>absurd g (by decide)) h2),xE⟩
        case measure=>simp [intOf];omega
     ·go_wp2_with fail
      go_roundw
      case rel=>exact ⟨j+1,n,b,by omega,by go_num,rfl,rfl,Lib.hid (best_pass HBE2.out HS.out fun g=>h1 g.1),xE⟩
      case measure=>simp [intOf];omega
    ·obtain rfl:j=xp.head.length:=by omega
     go_wp2_with fail
     go_roundw
     case rel=>exact ⟨k+1,n,b,by omega,by go_num,rfl,rfl,Lib.hid (HBE2.out.congr fun x _=>by rw [headS_row hkt,← HXP.out]),xE⟩
     case measure=>simp [intOf];omega
  ·obtain rfl:k=L.length:=by omega
   go_wp2_with fail
   go_ret2
   exact ⟨n,b,rfl,by rw [HT.out];exact HBE.out,xE⟩
end Go.Proofs.YthjnojbeimchdaaGreat
namespace Go.Proofs.YthjnojbeimchdaaGreat
open Go.RowKit Go.Maps Kal
theorem KeepF.grown {F:Nat→Prop} {W W':World} {g:Nat} (h:W.grownBy W' (some g)) (hF:¬ F g):KeepF F W W':=fun b hb hl=>h.block b hl (by rintro ⟨⟩;exact hF hb)
theorem World.grownBy.trans' {A B C:World} {r:Option Nat} (h:A.grownBy B r) (k:B.grownBy C r):A.grownBy C r:=
 ⟨k.os.trans h.os,k.tape.trans h.tape,k.output.trans h.output,Nat.le_trans h.size k.size,fun b hb hn=>(k.block b (Nat.lt_of_lt_of_le hb h.size) hn).trans (h.block b hb hn)⟩
theorem World.grownBy.set' {A B:World} {g i:Nat} (h:A.grownBy B (some g)) (v:Value):A.grownBy (B.setCell ⟨g,i,none⟩ v) (some g):=
 ⟨h.os,h.tape,h.output,by rw [World.size_setCell];exact h.size,fun b hb hn=>(Below.heap_setCell B ⟨g,i,none⟩ v b (by rintro rfl;exact hn rfl)).trans (h.block b hb hn)⟩
theorem World.grownBy.below' {A B:World} {g B0:Nat} (h:A.grownBy B (some g)) (hg:B0≤g) (hB:B0≤A.heap.size):Below B0 A B:=
 ⟨h.os,h.tape,h.output,h.size,fun b hb=>h.block b (by omega) (by rintro ⟨⟩;omega)⟩
def Fits (xs:List Value) (done:List (Int × Int)):Prop:=∀ k,k<done.length→xs[k]? = some (.int .i64 (done.getD k (0,0)).2)
theorem Fits.snoc {xs:List Value} {done:List (Int × Int)} {a:Int × Int} (h:Fits xs done) (hl:done.length<xs.length):Fits (xs.set done.length (.int .i64 a.2)) (done ++ [a]):=by
 intro k hk
 rw [List.length_append] at hk
 simp only [List.length_singleton] at hk
 by_cases hk2:k<done.length
 ·rw [List.getElem?_set_ne (by omega),h k hk2,List.getD_eq_getElem?_getD,List.getD_eq_getElem?_getD,List.getElem?_append_left hk2]
 ·obtain rfl:k=done.length:=by omega
  rw [List.getElem?_set_self hl,List.getD_eq_getElem?_getD,List.getElem?_append_right (by omega)];simp
theorem Fits.pre {xs:List Value} {done:List (Int × Int)} {a:Int × Int} (h:Fits xs (done ++ [a])):Fits xs done:=fun k hk=>by
 have:=h k (by simp;omega)
 rwa [List.getD_eq_getElem?_getD,List.getElem?_append_left hk,← List.getD_eq_getElem?_getD] at this
def Takes (done:List (Int × Int)) (p:Per) (t:List Per) (c:Int):Prop:=Agree done p.period (resP p c)∧Ext (done ++ [(p.period,resP p c)]) t
theorem ext_drop {t:List Per} {i:Nat} {done:List (Int × Int)} (h:i<t.length):Ext done (t.drop i)↔∃ c∈(t.getD i default).cycle,Takes done (t.getD i default) (t.drop (i+1)) c:=by
 rw [List.drop_eq_getElem_cons h,List.getD_eq_getElem?_getD,List.getElem?_eq_getElem h];rfl
def AgreeK (done:List (Int × Int)) (P r:Int) (k:Nat):Prop:=∀ j,j<k→(r-(done.getD j (0,0)).2) % ((Int.gcd P (done.getD j (0,0)).1:Nat):Int)=0
theorem agree_k {done:List (Int × Int)} {P r:Int}:Agree done P r↔AgreeK done P r done.length:=by
 constructor
 ·exact fun h j hj=>h _ (getD_mem' hj)
 ·intro h x hx
  obtain ⟨j,hj,rfl⟩:=List.mem_iff_getElem.1 hx
  have:=h j hj
  rwa [List.getD_eq_getElem?_getD,List.getElem?_eq_getElem hj] at this
theorem AgreeK.succ {done:List (Int × Int)} {P r:Int} {k:Nat} (h:AgreeK done P r k) (h1:(r-(done.getD k (0,0)).2) % ((Int.gcd P (done.getD k (0,0)).1:Nat):Int)=0):AgreeK done P r (k+1):=fun j hj=>by
 by_cases hj2:j<k
 ·exact h j hj2
 ·obtain rfl:j=k:=by omega
  exact h1
structure Cho (g:Nat) (F:Nat→Prop) (v:Value) (L:List PV) (b1 b2 b3:Nat) (done:List (Int × Int)) (w:World) (xs:List Value):Prop where
 term:TermL w F v L
 c1:w.cell? ⟨b1,0,none⟩=some v
 c2:w.cell? ⟨b2,0,none⟩=some (.slice (some ⟨g,0,none⟩) L.length L.length)
 c3:w.cell? ⟨b3,0,none⟩=some (.func (.func 120) #[] #[.pointer (some ⟨b1,0,none⟩),.pointer (some ⟨b2,0,none⟩),.pointer (some ⟨b3,0,none⟩)])
 row:w.ownsRow g 3 1 (.slice (some ⟨g,0,none⟩) L.length L.length) L.length xs
 fits:Fits xs done
theorem Cho.grow {g:Nat} {F:Nat→Prop} {v:Value} {L:List PV} {b1 b2 b3:Nat} {done done':List (Int × Int)} {w W:World} {xs xs':List Value} (h:Cho g F v L b1 b2 b3 done w xs) (hg:w.grownBy W (some g)) (hF:¬ F g) (h1:b1≠g) (h2:b2≠g) (h3:b3≠g)
  (hr:W.ownsRow g 3 1 (.slice (some ⟨g,0,none⟩) L.length L.length) L.length xs') (hf:Fits xs' done'):Cho g F v L b1 b2 b3 done' W xs':=
 ⟨h.term.keep (KeepF.grown hg hF) hg.size,hg.cell h.c1 (by rintro ⟨⟩;exact h1 rfl),hg.cell h.c2 (by rintro ⟨⟩;exact h2 rfl),hg.cell h.c3 (by rintro ⟨⟩;exact h3 rfl),hr,hf⟩
theorem Cho.below {g:Nat} {F:Nat→Prop} {v:Value} {L:List PV} {b1 b2 b3:Nat} {done:List (Int × Int)} {w W:World} {xs:List Value} (h:Cho g F v L b1 b2 b3 done w xs) (hb:Below w.heap.size w W):Cho g F v L b1 b2 b3 done W xs:=
 ⟨h.term.keep (KeepF.below hb) hb.size,Ext.cell hb h.c1,Ext.cell hb h.c2,Ext.cell hb h.c3,h.row.kept (row:=none) ⟨hb.os,hb.tape,hb.output,hb.size,fun b hl _=>hb.block b hl⟩ (by right;simp [Value.ownBlock]),h.fits⟩
def ChRes (g:Nat) (F:Nat→Prop) (v:Value) (L:List PV) (b1 b2 b3:Nat) (done:List (Int × Int)) (i:Nat) (w:World) (e:Ending) (w':World):Prop:=
 ∃ b xs',e=.returned (.bool b)∧(b=true↔Ext done ((L.map PV.p).drop i))∧Cho g F v L b1 b2 b3 done w' xs'∧w.grownBy w' (some g)
set_option maxRecDepth 100000 in
set_option maxHeartbeats 4000000 in
theorem choose_any (g:Nat) (F:Nat→Prop) (v:Value) (L:List PV) (b1 b2 b3:Nat) (hF:¬ F g) (h1:b1≠g) (h2:b2≠g) (h3:b3≠g) (hv:TV (L.map PV.p)) :
  ∀ (n i:Nat) (done:List (Int × Int)) (xs:List Value) (w:World),i+n=L.length→done.length=i→(∀ k,k<i→(done.getD k (0,0)).1=((L.map PV.p).getD k default).period∧0≤(done.getD k (0,0)).2∧(done.getD k (0,0)).2≤1099511627776)→
   Cho g F v L b1 b2 b3 done w xs→
   Calls Tryz.prog 120 #[.int .i64 i,.pointer (some ⟨b1,0,none⟩),.pointer (some ⟨b2,0,none⟩),.pointer (some ⟨b3,0,none⟩)] w (ChRes g F v L b1 b2 b3 done i w):=by
 intro n
 induction n with
 | zero=>
  intro i done xs w hi hd hpr hc
  have hl1:=hc.term.len
  obtain rfl:i=L.length:=by omega
  obtain ⟨a1,c1,rfl,hx1,hx2,_⟩:=hc.term.row.is
  have k1:=hc.c1
  have HC:=Lib.hid hc
  clear hc hpr hd
  go_enter Tryz.func120,Tryz.ntmps120
  go_wp2_with fail
  go_step3
  go_wp2_with fail
  try rw [Exit.noGoto_ret]
  go_ret
  exact ⟨true,xs,rfl,by rw [List.drop_of_length_le (by simp)];exact ⟨fun _=>trivial,fun _=>rfl⟩,HC.out,⟨rfl,rfl,rfl,Nat.le_refl _,fun _ _ _=>rfl⟩⟩
 | succ n ih=>
  intro i done xs w hi hd hpr hc
  have IH:=Lib.hid ih
  clear ih
  have hl1:=hc.term.len
  have hli:i<L.length:=by omega
  have hiI:(i:Int)<L.length:=by omega
  obtain ⟨a1,cc1,rfl,hx1,hx2,_⟩:=hc.term.row.is
  have k1:=hc.c1
  obtain ⟨tb,o1,x,ha,hx,hxp,hb1,e0,e1,e2,e3⟩:=hc.term.get hli
  subst ha
  have HXP:=Lib.hid hxp
  have hvx:validB x.p=true:=hv _ (by rw [hxp];exact getD_mem' (by simpa using hli))
  have hvv:=(validB_iff x.p).1 hvx
  have hxi:=hx.is.cy
  obtain ⟨xh,xc,xp⟩:=x
  obtain ⟨ax1,nx1,cx1,ax2,nx2,cx2,rfl,rfl⟩:=hx.form
  dsimp only at e0 e1 e2 e3 hxi hvv
  change Hid (xp=_) at HXP
  obtain ⟨⟨ah,ch,he,_,_,hcl⟩,hln,hrg⟩:=hxi
  injection he with he1 he2 he3
  subst he1;subst he2;subst he3
  have f0:=hvv.wf.frm
  have f1:xp.frm≤1099511627776:=hvv.frm
  have p0:=hvv.wf.per
  have p1:xp.period≤1099511627776:=hvv.per
  have HCY:=Lib.hid hvv.wf.cyc
  have HCL:=Lib.hid hcl
  have HC:=Lib.hid hc
  have HPR:=Lib.hid hpr
  have HX:=Lib.hid hx
  have HD:=Lib.hid hd
  have HI:=Lib.hid hi
  have HV:=Lib.hid hv
  clear hcl hc hpr hx hvv hvx hrg hxp hd hv hi
  go_enter Tryz.func120,Tryz.ntmps120
  go_wp2_with fail
  go_step3
  go_wp2_with fail
  go_step3
  go_wp2_with fail
  generalize ((i:Int) == (L.length:Int))=q13
  go_loopw [5,7,8,9,20] (fun _ _ _ _ idx wr=>∃ (j:Nat) (ys:List Value),j≤xp.cycle.length∧idx=.int .i64 j∧Hid (∀ q,q<j→¬ Takes done xp ((L.map PV.p).drop (i+1)) (xp.cycle.getD q 0))∧Hid (Cho g F (.slice (some ⟨tb,o1,none⟩) L.length cc1) L b1 b2 b3 done wr ys)∧Hid (w.grownBy wr (some g))) (fun _ _ _ _ idx _=>xp.cycle.length-(intOf idx).toNat)
  case atStart=>exact ⟨0,xs,by omega,rfl,Lib.hid (fun q hq=>by omega),HC,Lib.hid ⟨rfl,rfl,rfl,Nat.le_refl _,fun _ _ _=>rfl⟩⟩
  case round=>
   obtain ⟨j,ys,hj,rfl,HNO,HCH,HG⟩:=hrel
   by_cases hjl:j<xp.cycle.length
   ·have hjI:(j:Int)<xp.cycle.length:=by omega
    have q1:=HCH.out.c1
    obtain ⟨_,_,y,hay,hy,hyp,hyb,g0,g1,g2,g3⟩:=HCH.out.term.get hli
    cases hay
    obtain ⟨yh,yc,yp⟩:=y
    obtain ⟨ay1,ny1,cy1,ay2,ny2,cy2,rfl,rfl⟩:=hy.form
    obtain rfl:yp=xp:=hyp.trans HXP.out.symm
    dsimp only at g0 g1 g2 g3
    have hcyr:=(HX.out.keep (KeepF.grown HG.out hF)).is.cy
    obtain ⟨⟨ah,ch,he,_,_,hcl⟩,_,_⟩:=hcyr
    injection he with he1 he2 he3
    subst he1;subst he3
    rcases hcl with h0|⟨b4,o4,rfl,hc4⟩
    ·rw [h0] at hjl;simp at hjl
    have c0:=hc4 j hjl
    have hcb:=HCY.out.2 _ (getD_mem' (d:=0) hjl)
    have HJ:Hid (yp.cycle.getD j 0∈yp.cycle):=Lib.hid (getD_mem' hjl)
    generalize hcc:yp.cycle.getD j 0=c at *
    have HCC:=Lib.hid hcc
    have hr:=resP_lt ((validB_iff yp).1 (HV.out _ (by rw [HXP.out];exact getD_mem' (by simpa using hli)))).wf c
    have HRES:=fun W=>mresidue_any (.slice ay1 ny1 cy1) (.slice ay2 ny2 cy2) yp c W f0 (by omega) p0 (by omega) hcb.1 (by omega)
    generalize hrr:resP yp c=r at *
    have HRR:=Lib.hid hrr
    have HYP:=Lib.hid hyp
    clear hc4 hcc hrr hy hyp
    go_wp2_with (go_at_call 121;refine (HRES _).mono ?_;rintro e w1 ⟨rfl,hbr⟩)
    have HC1:=Lib.hid (HCH.out.below hbr)
    have HB1:=Lib.hid hbr
    go_loopw [9,31] (fun _ idx wq=>∃ k:Nat,k≤i∧idx=.int .i64 k∧Hid (AgreeK done yp.period r k)∧Hid (Below w1.heap.size w1 wq)) (fun _ idx _=>i-(intOf idx).toNat)
    case atStart=>exact ⟨0,by omega,rfl,Lib.hid (fun _ h=>absurd h (by omega)),Lib.hid (Below.refl _ _)⟩
    case round=>
     obtain ⟨k,hk,rfl,HAG,HB⟩:=hrel
     have HCQ:=Lib.hid (HC1.out.below HB.out)
     have q1:=HCQ.out.c1
     have q2:=HCQ.out.c2
     by_cases hkl:k<i
     ·have hkI:(k:Int)<i:=by omega
      have q4:=(HCQ.out.row.cellAt k (by omega)).trans (HCQ.out.fits k (by have:=HD.out;omega))
      obtain ⟨hd1,hd2,hd3⟩:=HPR.out k hkl
      obtain ⟨_,_,y,hay,hy,hyp,hyb,g0,g1,g2,g3⟩:=HCQ.out.term.get hli
      cases hay
      obtain ⟨yh,yc,yp'⟩:=y
      obtain ⟨ay1,ny1,cy1,ay2,ny2,cy2,rfl,rfl⟩:=hy.form
      obtain rfl:yp'=yp:=hyp.trans HXP.out.symm
      obtain ⟨_,_,z,hay,hz,hzp,hzb,z0,z1,z2,z3⟩:=HCQ.out.term.get (show k<L.length by omega)
      cases hay
      obtain ⟨zh,zc,zp⟩:=z
      obtain ⟨az1,nz1,dz1,az2,nz2,dz2,rfl,rfl⟩:=hz.form
      dsimp only at g0 g1 g2 g3 z0 z1 z2 z3
      change zp=_ at hzp
      rw [← hzp] at hd1
      have hzv:=(validB_iff zp).1 (HV.out _ (by rw [hzp];exact getD_mem' (by simp;omega)))
      have z5:=hzv.wf.per
      have z6:zp.period≤1099511627776:=hzv.per
      have hgb:=gcd_bound (a:=yp'.period) (b:=zp.period) p0
      have HGC:=fun W=>gcd_any yp'.period zp.period W (by omega) (by omega) (by omega) (by omega)
      have HSUC:Hid ((r-(done.getD k (0,0)).2) % ((Int.gcd yp'.period (done.getD k (0,0)).1:Nat):Int)=0→AgreeK done yp'.period r (k+1)):=Lib.hid HAG.out.succ
      have HFAI:Hid (Agree done yp'.period r→(r-(done.getD k (0,0)).2) % ((Int.gcd yp'.period (done.getD k (0,0)).1:Nat):Int)=0):=Lib.hid fun h=>agree_k.1 h k (by have:=HD.out;omega)
      rw [hd1] at HSUC HFAI
      generalize ((Int.gcd yp'.period zp.period:Nat):Int)=G at *
      generalize (done.getD k (0,0)).2=d2 at *
      have htm:(r-d2).tmod G=0↔(r-d2) % G=0:=by
       constructor
       ·exact fun h=>Int.emod_eq_zero_of_dvd (Int.dvd_of_tmod_eq_zero h)
       ·exact fun h=>Int.tmod_eq_zero_of_dvd (Int.dvd_of_emod_eq_zero h)
      by_cases ha:(r-d2) % G=0
      ·have hT:=htm.2 ha
       have HN:=Lib.hid (HSUC.out ha)
       clear htm ha hy hz hd1 hzv hyp hzp
       go_wp2_with fail
       go_quiet ((go_at_call 77;(first|exact Calls.quiet_of (HGC _)|exact quiet_add (HGC _))))
       go_wp2_with fail
       go_roundw
       case rel=>exact ⟨k+1,by omega,by go_num,HN,Lib.hid (Below.drewN HB.out _)⟩
       case measure=>simp [intOf];omega
      ·have hT:(r-d2).tmod G≠0:=fun h=>ha (htm.1 h)
       have HNT:Hid (¬ Takes done yp' ((L.map PV.p).drop (i+1)) c):=Lib.hid fun h=>ha (HFAI.out (by have:=h.1;rwa [HRR.out] at this))
       clear htm ha hy hz hd1 hzv hyp hzp
       go_wp2_with fail
       go_quiet ((go_at_call 77;(first|exact Calls.quiet_of (HGC _)|exact quiet_add (HGC _))))
       go_wp2_with fail
       go_roundw
       case rel=>exact ⟨j+1,ys,by omega,by go_num,Lib.hid (fun q hq=>by
        by_cases hqj:q<j
        ·exact HNO.out q hqj
        ·obtain rfl:q=j:=by omega
         rw [HCC.out];exact HNT.out),Lib.hid (HCQ.out.below (Below.drewN (Below.refl _ _) _)),Lib.hid (World.grownBy.trans' HG.out (World.grownBy.of_below ((HB1.out.trans ((Below.drewN HB.out _).mono HB1.out.size))) _))⟩
       case measure=>simp [intOf];omega
     ·obtain rfl:k=i:=by omega
      have q5:=(HCQ.out.row.cellAt k (by omega))
      have hyl:ys.length=L.length:=by have:=HCQ.out.row.1;omega
      rw [List.getElem?_eq_getElem (by omega)] at q5
      have q6:=HCQ.out.row.frozenAt k
      have hgr:wr.grownBy (wr.setCell ⟨g,k,none⟩ (.int .i64 r)) (some g):=World.grownBy.set' ⟨rfl,rfl,rfl,Nat.le_refl _,fun _ _ _=>rfl⟩ _
      have HFD:Hid (Fits (ys.set k (.int .i64 r)) (done ++ [(yp.period,r)])):=Lib.hid (by have h:=HCQ.out.fits.snoc (a:=(yp.period,r)) (by rw [HD.out];omega);rwa [HD.out] at h)
      have HST:=Lib.hid (HCQ.out.grow hgr hF h1 h2 h3 (HCQ.out.row.stored k (.int .i64 r)).1 HFD.out)
      have HREC:=IH.out (k+1) (done ++ [(yp.period,r)]) _ _ (by have:=HI.out;omega) (by simp [HD.out]) (fun q hq=>by
       by_cases hqk:q<k
       ·have h:=HPR.out q hqk
        have e:(done ++ [(yp.period,r)]).getD q (0,0)=done.getD q (0,0):=by rw [List.getD_eq_getElem?_getD,List.getElem?_append_left (by have:=HD.out;omega),← List.getD_eq_getElem?_getD]
        rw [e];exact h
       ·obtain rfl:q=k:=by omega
        have e:(done ++ [(yp.period,r)]).getD q (0,0)=(yp.period,r):=by rw [List.getD_eq_getElem?_getD,List.getElem?_append_right (by have:=HD.out;omega),HD.out];simp
        rw [e];exact ⟨by rw [← HXP.out],by omega,by omega⟩) HST.out
      rw [show ((k+1:Nat):Int)=(k:Int)+1 from by omega] at HREC
      have HAG2:Hid (Agree done yp.period r):=Lib.hid (agree_k.2 (by rw [HD.out];exact HAG.out))
      have HGW:=Lib.hid (World.grownBy.trans' HG.out (World.grownBy.of_below (HB1.out.trans (HB.out.mono HB1.out.size)) _))
      have q7:=HST.out.c3
      have q8:=HST.out.c1
      clear hgr
      go_wp2_with (go_at_call 120;refine HREC.mono ?_;rintro e w2 ⟨bb,zs,rfl,hiff,hch2,hg2⟩;have HIF:=Lib.hid hiff;have HC2:=Lib.hid hch2;have HG2:=Lib.hid hg2;clear hiff hch2 hg2;cases bb)
      ·
       go_roundw
       case rel=>exact ⟨j+1,zs,by omega,by go_num,Lib.hid (fun q hq=>by
        by_cases hqj:q<j
        ·exact HNO.out q hqj
        ·obtain rfl:q=j:=by omega
         rw [HCC.out]
         rintro ⟨h7,h8⟩
         rw [HRR.out] at h8
         exact absurd h8 (by simpa using HIF.out)),Lib.hid ⟨HC2.out.term,HC2.out.c1,HC2.out.c2,HC2.out.c3,HC2.out.row,HC2.out.fits.pre⟩,Lib.hid (World.grownBy.trans' (World.grownBy.set' HGW.out _) HG2.out)⟩
       case measure=>simp [intOf];omega
      ·
       try rw [Exit.noGoto_ret]
       go_ret
       refine ⟨true,zs,rfl,?_,⟨HC2.out.term,HC2.out.c1,HC2.out.c2,HC2.out.c3,HC2.out.row,HC2.out.fits.pre⟩,World.grownBy.trans' (World.grownBy.set' HGW.out _) HG2.out⟩
       refine ⟨fun _=>(ext_drop (by simp;omega)).2 ⟨c,?_,?_⟩,fun _=>rfl⟩
       ·rw [← HXP.out];exact HJ.out
       ·rw [← HXP.out];exact ⟨by rw [HRR.out];exact HAG2.out,by rw [HRR.out];exact HIF.out.1 (by first|rfl|trivial|simp)⟩
   ·obtain rfl:j=xp.cycle.length:=by omega
    go_wp2_with fail
    try rw [Exit.noGoto_ret]
    go_ret
    refine ⟨false,ys,rfl,⟨fun h=>absurd h (by decide),fun h=>?_⟩,HCH.out,HG.out⟩
    obtain ⟨c,hc1,hc2⟩:=(ext_drop (by simp;omega)).1 h
    rw [← HXP.out] at hc1 hc2
    obtain ⟨q,hq,rfl⟩:=List.mem_iff_getElem.1 hc1
    exact absurd (by rw [List.getD_eq_getElem?_getD,List.getElem?_eq_getElem hq];exact hc2) (HNO.out q hq)
end Go.Proofs.YthjnojbeimchdaaGreat
namespace Go.Proofs.YthjnojbeimchdaaGreat
open Go.RowKit Go.Maps Kal
theorem Ints.lt {W:World} {v:Value} {l:List Int} (h:Ints W v l) (hl:l≠[]) {k:Nat} (hk:v.ownBlock=some k):k<W.heap.size:=by
 obtain ⟨⟨a,c,rfl,h1,h2,h3⟩,h4,h5⟩:=h
 rcases h3 with h3|⟨b,o,rfl,hc⟩
 ·exact absurd h3 hl
 ·simp [Value.ownBlock] at hk
  subst hk
  exact World.block_lt_of_cell? W _ (hc 0 (List.length_pos_iff.2 hl))
theorem PVok.lt {W:World} {F:Nat→Prop} {x:PV} (h:PVok W F x):PVok W (fun b=>F b∧b<W.heap.size) x:=
 ⟨h.is,h.fr,h.pe,fun e k hk=>⟨h.bh e k hk,h.is.hd.lt e hk⟩,fun e k hk=>⟨h.bc e k hk,h.is.cy.lt e hk⟩⟩
theorem RowR.lt {W:World} {F:Nat→Prop} {v:Value} {n:Nat} {cs:List Value} (h:RowR W F v n cs):RowR W (fun b=>F b∧b<W.heap.size) v n cs:=by
 obtain ⟨a,c,rfl,h1,h2,h3⟩:=h
 refine ⟨a,c,rfl,h1,h2,h3.imp id ?_⟩
 rintro ⟨b,o,rfl,hb,hl,hc⟩
 exact ⟨b,o,rfl,⟨hb,hl⟩,hl,hc⟩
theorem TermL.lt {W:World} {F:Nat→Prop} {v:Value} {L:List PV} (h:TermL W F v L):TermL W (fun b=>F b∧b<W.heap.size) v L:=⟨h.row.lt,h.len,fun x hx=>(h.all x hx).lt⟩
theorem TermR.lt {W:World} {F:Nat→Prop} {v:Value} {t:List Per} (h:TermR W F v t):TermR W (fun b=>F b∧b<W.heap.size) v t:=by
 obtain ⟨L,e,g⟩:=h;exact ⟨L,e,g.lt⟩
theorem MixL.lt {W:World} {F:Nat→Prop} {v:Value} {L:List (Value × List Per)} (h:MixL W F v L):MixL W (fun b=>F b∧b<W.heap.size) v L:=⟨h.row.lt,h.len,fun x hx=>(h.all x hx).lt⟩
theorem MixR.lt {W:World} {F:Nat→Prop} {v:Value} {m:List (List Per)} (h:MixR W F v m):MixR W (fun b=>F b∧b<W.heap.size) v m:=by
 obtain ⟨L,e,g⟩:=h;exact ⟨L,e,g.lt⟩
theorem TV.wf {t:List Per} (h:TV t):∀ p∈t,p.WF:=fun p hp=>((validB_iff p).1 (h p hp)).wf
theorem choose_top (F:Nat→Prop) (v:Value) (L:List PV) (w w3:World) (xs:List Value) (hv:TV (L.map PV.p)) (hT:TermL w (fun b=>F b∧b<w.heap.size) v L) (hb:Below w.heap.size w w3) (hs:w.heap.size+1<w3.heap.size)
  (hc:w3.cell? ⟨w.heap.size,0,none⟩=some v) (ho:w3.ownsRow (w.heap.size+1) 3 1 (.slice (some ⟨w.heap.size+1,0,none⟩) L.length L.length) L.length xs) :
  Calls Tryz.prog 120 #[.int .i64 0,.pointer (some ⟨w.heap.size,0,none⟩),.pointer (some ⟨w3.heap.size,0,none⟩),.pointer (some ⟨w3.heap.size+1,0,none⟩)]
   ((w3.alloc (.cells #[.slice (some ⟨w.heap.size+1,0,none⟩) L.length L.length] 37)).alloc (.cells #[.func (.func 120) #[] #[.pointer (some ⟨w.heap.size,0,none⟩),.pointer (some ⟨w3.heap.size,0,none⟩),.pointer (some ⟨w3.heap.size+1,0,none⟩)]] 111))
   fun e w'=>∃ b,e=.returned (.bool b)∧(b=true↔recT (L.map PV.p))∧Below w.heap.size w w':=by
 have hcho:Cho (w.heap.size+1) (fun b=>F b∧b<w.heap.size) v L w.heap.size w3.heap.size (w3.heap.size+1) []
   ((w3.alloc (.cells #[.slice (some ⟨w.heap.size+1,0,none⟩) L.length L.length] 37)).alloc (.cells #[.func (.func 120) #[] #[.pointer (some ⟨w.heap.size,0,none⟩),.pointer (some ⟨w3.heap.size,0,none⟩),.pointer (some ⟨w3.heap.size+1,0,none⟩)]] 111)) xs:=by
  refine ⟨hT.keep (KeepF.below ((Ea (Ea hb _) _))) (Ea (Ea hb _) _).size,cell_alloc_at (cell_alloc_at hc _) _,cell_alloc_at ?_ _,?_,(ho.alloc _).alloc _,fun k hk=>absurd hk (by simp)⟩
  ·exact ((Bxx.new _ _ _).cells 0).1
  ·have h:=((Bxx.at (w:=w3.alloc (.cells #[.slice (some ⟨w.heap.size+1,0,none⟩) L.length L.length] 37)) (b:=w3.heap.size+1) (c:=#[.func (.func 120) #[] #[.pointer (some ⟨w.heap.size,0,none⟩),.pointer (some ⟨w3.heap.size,0,none⟩),.pointer (some ⟨w3.heap.size+1,0,none⟩)]]) (t:=111) (by rw [World.size_alloc])).cells 0).1
   exact h
 have h:=choose_any (w.heap.size+1) _ v L w.heap.size w3.heap.size (w3.heap.size+1) (by omega) (by omega) (by omega) (by omega) hv L.length 0 [] xs _ (by omega) rfl (fun k hk=>by omega) hcho
 refine h.mono ?_
 rintro e w' ⟨b,zs,rfl,hiff,-,hg⟩
 refine ⟨b,rfl,?_,(Ea (Ea hb _) _).trans (World.grownBy.below' hg (by omega) (by simp [World.size_alloc];omega))⟩
 rw [hiff,List.drop_zero]
 exact rec_iff hv.wf
set_option maxRecDepth 100000 in
set_option maxHeartbeats 2000000 in
theorem recurs_any (F:Nat→Prop) (v:Value) (t:List Per) (w:World) (ht:TermR w F v t) (hv:TV t) :
  Calls Tryz.prog 76 #[v] w fun e w'=>∃ b,e=.returned (.bool b)∧(b=true↔recT t)∧Below w.heap.size w w':=by
 obtain ⟨L,rfl,hL⟩:=ht
 obtain ⟨a1,cc1,rfl,hx1,hx2,_⟩:=hL.row.is
 have hl1:=hL.len
 have HRC:=Lib.hid (rec_iff hv.wf)
 have HT:=fun W (h:Below w.heap.size w W)=>(hL.lt.keep (KeepF.below h) h.size)
 have HV:=Lib.hid hv
 have HTL:=Lib.hid HT
 obtain ⟨bi,hbi,hbz,hbs,hby⟩:=intInfo
 clear hL HT hv
 go_enter Tryz.func76,Tryz.ntmps76
 go_wp2_with (first|(at_make;refine wpList_make_full _ rfl _ _ 37 rfl (w.heap.size+1) 3 bi (.int .i64 0) 1 Tryz.underlying37 hbi hbz hbs .i64 .i64 _ _ L.length rfl rfl rfl rfl (by rw [hby];omega) (by unfold maxLen;omega) (by simp) ?_;intro w3 hown3 hgrow3;have hb3:Below w.heap.size w w3:=(Below.trans (Ea (Er w) _) ((Below.refl _ _).grown hgrow3 (by simp) (fun k e=>by cases e))))|(go_at_call 120;have hs3:=(hown3.lt _ rfl).2;have hc3:=hgrow3.cell ((Bxx.new w _ _).cells 0).1 (by simp);rw [World.size_alloc] at hown3 hs3;refine (choose_top F _ L w w3 _ HV.out (HTL.out w (Er w)) hb3 hs3 hc3 hown3).mono ?_;rintro e w4 ⟨b,rfl,hb4⟩))
 go_ret
 exact ⟨b,rfl,hb4⟩
theorem barren_of {t:List Per} {n:Int} {b:Bool} (hw:∀ p∈t,p.WF) (h:BestE (headS t t.length 0) 0 n b):barrenT t↔b=false∧¬ recT t:=by
 by_cases hne:t=[]
 ·subst hne
  exact ⟨fun h=>absurd (fun p hp=>by simp at hp) (h 0),fun ⟨_,h⟩=>absurd ⟨0,by decide,fun p hp=>by simp at hp⟩ h⟩
 ·rw [barren_iff]
  refine and_congr ?_ Iff.rfl
  have h2:=h.congr (T:=fun x=>tmem t x∧x<startT t) fun x _=>(headS_all hne hw).symm
  rcases h2 with ⟨rfl,h1,h3,_⟩|⟨rfl,rfl,h1⟩
  ·exact ⟨fun g=>absurd h3.1 (g n h3.2),fun g=>absurd g (by decide)⟩
  ·exact ⟨fun _=>rfl,fun _ x hx hm=>h1 x (tmem_nonneg hne hm) ⟨hm,hx⟩⟩
set_option maxRecDepth 100000 in
set_option maxHeartbeats 1000000 in
theorem barren_any (F:Nat→Prop) (v:Value) (t:List Per) (w:World) (ht:TermR w F v t) (hv:TV t) :
  Calls Tryz.prog 75 #[v] w fun e w'=>∃ b,e=.returned (.bool b)∧(b=true↔barrenT t)∧Below w.heap.size w w':=by
 have H1:=early_any F v t 0 w ht hv (by constructor <;> decide)
 have H2:=fun W (h:Below w.heap.size w W)=>recurs_any F v t W (ht.ext h) hv
 have HW:=Lib.hid hv.wf
 obtain ⟨L,rfl,hL⟩:=ht
 obtain ⟨a1,cc1,rfl,hx1,hx2,_⟩:=hL.row.is
 clear hL hv
 go_enter Tryz.func75,Tryz.ntmps75
 go_wp2_with (first|(go_at_call 101;refine H1.mono ?_;rintro e w1 ⟨n,b,rfl,hE,hb1⟩;have HE:=Lib.hid hE;clear hE;cases b)|(go_at_call 76;refine (H2 _ xE).mono ?_;rintro e w2 ⟨r,rfl,hR,hb2⟩;have HR:=Lib.hid hR;clear hR;cases r))
 all_goals go_ret
 all_goals
  refine ⟨_,rfl,?_,xE⟩
  rw [barren_of HW.out HE.out]
  first|(simp;done)|(have:=HR.out;simp at this ⊢;exact this)
end Go.Proofs.YthjnojbeimchdaaGreat
namespace Go.Proofs.YthjnojbeimchdaaGreat
open Go.RowKit Go.Maps Kal
theorem box_setCells {g:Nat} {t:TypeId}:∀ (vs:List Value) (o:Nat) (w:World) (cur:Array Value),Bxx w g cur t→o+vs.length≤cur.size→
  ∃ cur',Bxx (w.setCells g o vs) g cur' t∧cur'.size=cur.size∧(∀ i,i<cur.size→cur'[i]? = if o≤i∧i<o+vs.length then vs[i-o]? else cur[i]?)∧w.grownBy (w.setCells g o vs) (some g)
 | [],o,w,cur,h,_=>⟨cur,h,rfl,fun i hi=>by rw [if_neg (by simp)],⟨rfl,rfl,rfl,Nat.le_refl _,fun _ _ _=>rfl⟩⟩
 | v :: vs,o,w,cur,h,hl=>by
  rw [List.length_cons] at hl
  have h1:Bxx (w.setCell ⟨g,o,none⟩ v) g (cur.setIfInBounds o v) t:=heap_set_at o v h
  obtain ⟨cur',g1,g2,g3,g4⟩:=box_setCells vs (o+1) _ _ h1 (by rw [Array.size_setIfInBounds];omega)
  refine ⟨cur',g1,by rw [g2,Array.size_setIfInBounds],fun i hi=>?_,World.grownBy.trans' (World.grownBy.set' ⟨rfl,rfl,rfl,Nat.le_refl _,fun _ _ _=>rfl⟩ v) g4⟩
  rw [g3 i (by rw [Array.size_setIfInBounds];exact hi)]
  by_cases h5:o=i
  ·subst h5
   rw [if_neg (by omega),if_pos (by simp),Array.getElem?_setIfInBounds_self_of_lt hi];simp
  ·rw [Array.getElem?_setIfInBounds_ne h5]
   by_cases h6:o+1≤i∧i<o+1+vs.length
   ·rw [if_pos h6,if_pos (by simp;omega)]
    obtain ⟨k,rfl⟩:∃ k,i=o+1+k:=⟨i-(o+1),by omega⟩
    rw [show o+1+k-(o+1)=k by omega,show o+1+k-o=k+1 by omega,List.getElem?_cons_succ]
   ·rw [if_neg h6,if_neg (by simp;omega)]
theorem row_deleted {w:World} {g base sz n cap i:Nat} {e:TypeId} {xs:List Value} (h:w.ownsRow base e sz (.slice (some ⟨g,0,none⟩) n cap) n xs) (hi:i<n) (zs:List Value) (hz:zs.length=sz) :
  ((
   w.setCells g (i*sz) (xs.drop ((i+1)*sz))).setCells g ((n-1)*sz) zs).ownsRow base e sz (.slice (some ⟨g,0,none⟩) (n-1) cap) (n-1) (xs.take (i*sz) ++ xs.drop ((i+1)*sz))∧
   w.grownBy ((w.setCells g (i*sz) (xs.drop ((i+1)*sz))).setCells g ((n-1)*sz) zs) (some g):=by
 obtain ⟨hl,h|⟨g',cap',cur,he,hb,hg,hnc,hcm,hcs,ht⟩⟩:=h
 ·cases h.1
 cases he
 obtain ⟨m,rfl⟩:∃ m,n=m+1:=⟨n-1,by omega⟩
 have hb1:i*sz≤m*sz:=Nat.mul_le_mul_right _ (by omega)
 have hb2:(m+1)*sz≤cap*sz:=Nat.mul_le_mul_right _ hnc
 rw [Nat.succ_mul] at hl ht hb2
 rw [Nat.succ_mul,show m+1-1=m from by omega]
 have hmm:(m+1-1)*sz=m*sz:=by rw [show m+1-1=m from by omega]
 generalize i*sz=a at *
 generalize hc:m*sz=c at *
 have hdl:(xs.drop (a+sz)).length=c-a:=by rw [List.length_drop];omega
 obtain ⟨cur1,a1,a2,a3,a4⟩:=box_setCells (xs.drop (a+sz)) a w cur hg (by omega)
 obtain ⟨cur2,b1,b2,b3,b4⟩:=box_setCells zs c _ cur1 a1 (by omega)
 refine ⟨⟨by rw [List.length_append,List.length_take,hdl];omega,.inr ⟨g,cap,cur2,rfl,hb,b1,by omega,hcm,by omega,?_⟩⟩,World.grownBy.trans' a4 b4⟩
 rw [hc]
 refine List.ext_getElem? fun k=>?_
 by_cases hk:k<c
 ·rw [List.getElem?_take_of_lt hk,Array.getElem?_toList,b3 k (by omega),if_neg (by omega),a3 k (by omega)]
  by_cases hka:k<a
  ·rw [if_neg (by omega),List.getElem?_append_left (by rw [List.length_take];omega),List.getElem?_take_of_lt hka,← ht,List.getElem?_take_of_lt (by omega),Array.getElem?_toList]
  ·rw [if_pos (by omega),List.getElem?_append_right (by rw [List.length_take];omega),List.length_take,Nat.min_eq_left (by omega)]
 ·rw [List.getElem?_eq_none (by rw [List.length_take];omega),List.getElem?_eq_none (by rw [List.length_append,List.length_take,hdl];omega)]
theorem run_clear_one {P:Program} (w:World) (t e ty:TypeId) (z:Value) (ht:P.underlying t=some (.slice e)) (hv:∀ w,(zeroValue e).run P w=.ok z w) (h1:∀ v∈z.cells.toList,v.oneCell'=true) (b o c:Nat)
  (hc:∀ j,j<z.cells.size→(w.cell? ⟨b,o+j,none⟩).isSome=true∧w.frozen? ⟨b,o+j,none⟩=false) :
  (Builtin.clear_ #[t] ty #[.slice (some ⟨b,o,none⟩) 1 c]).run P w=.ok (.tuple #[]) (w.setCells b o z.cells.toList):=by
 have hzc:(Builtin.zeroCells z.cells 1).toList=z.cells.toList:=by
  refine List.ext_getElem (by simp [Builtin.zeroCells]) fun i g1 g2=>?_
  have h3:i<z.cells.size:=by simpa using g2
  simp [Builtin.zeroCells,Nat.mod_eq_of_lt h3,h3]
 have hst:=run_storeCells_cells (P:=P) b o z.cells.toList 0 w (fun j hj=>(hc j (by simpa using hj)).1) (fun j hj=>(hc j (by simpa using hj)).2) h1
 simp only [Nat.add_zero] at hst
 simp [Builtin.clear_,run_underlying ht,hv,hzc,hst]
theorem perInfo:∃ i,Tryz.prog.info? 39=some i∧i.zero=some (.agg #[.slice none 0 0,.int .i64 0,.int .i64 0,.slice none 0 0])∧i.size=4∧i.bytes=64:=by
 have h:(Tryz.prog.info? 39).map (fun i=>(i.zero,i.size,i.bytes))=some (some (.agg #[.slice none 0 0,.int .i64 0,.int .i64 0,.slice none 0 0]),4,64):=by kernel_rfl
 obtain ⟨i,hi,h1,h2,h3⟩:=info_parts h
 exact ⟨i,hi,h1,h2,h3⟩
theorem termInfo:∃ i,Tryz.prog.info? 36=some i∧i.zero=some (.slice none 0 0)∧i.size=1∧i.bytes=24:=by
 have h:(Tryz.prog.info? 36).map (fun i=>(i.zero,i.size,i.bytes))=some (some (.slice none 0 0),1,24):=by kernel_rfl
 obtain ⟨i,hi,h1,h2,h3⟩:=info_parts h
 exact ⟨i,hi,h1,h2,h3⟩
theorem run_zeroV {P:Program} {t:TypeId} {i:TypeInfo} {z:Value} (h:P.info? t=some i) (hz:i.zero=some z) (w:World):(zeroValue t).run P w=.ok z w:=by
 simp [zeroValue,typeInfo,h,hz]
set_option maxRecDepth 100000 in
set_option maxHeartbeats 2000000 in
theorem deleteS_any (base g n cap i:Nat) (xs:List Value) (w:World) (h:w.ownsRow base 39 4 (.slice (some ⟨g,0,none⟩) n cap) n xs) (hi:i<n) (h1c:∀ u∈xs,u.oneCell'=true) :
  Calls Tryz.prog 145 #[.slice (some ⟨g,0,none⟩) n cap,.int .i64 i,.int .i64 (i+1)] w fun e w'=>e=.returned (.slice (some ⟨g,0,none⟩) (n-1) cap)∧w'.ownsRow base 39 4 (.slice (some ⟨g,0,none⟩) (n-1) cap) (n-1) (xs.take (i*4) ++ xs.drop ((i+1)*4))∧w.grownBy w' (some g):=by
 obtain ⟨bi,hbi,hbz,hbs,hby⟩:=perInfo
 obtain ⟨hxl,hnc,hcm⟩:xs.length=n*4∧n≤cap∧cap≤9223372036854775807:=by
  obtain ⟨h1,h2|⟨_,_,_,he,_,_,h3,h4,_⟩⟩:=h
  ·cases h2.1
  ·cases he;exact ⟨h1,h3,h4⟩
 have hcl:∀ j,j<n*4→(w.drew.cell? ⟨g,j,none⟩).isSome=true∧w.drew.frozen? ⟨g,j,none⟩=false:=fun j hj=>
  ⟨by have h2:=h.drew.cellAt j hj;rw [List.getElem?_eq_getElem (by omega)] at h2;rw [h2];rfl,h.drew.frozenAt j⟩
 obtain ⟨news,hnews⟩:∃ news,news=xs.drop ((i+1)*4):=⟨_,rfl⟩
 have hlen:news.length=(n-(i+1))*4:=by rw [hnews,List.length_drop,hxl];omega
 obtain ⟨A,hA,hsrc⟩:∃ A:Addr,(if cap=i+1 then some (⟨g,0,none⟩:Addr) else some ⟨g,(i+1)*4,none⟩)=some A∧Hid (∀ t u,news[t]? = some u→w.drew.cell? (A.add t)=some u):=by
  by_cases hc:cap=i+1
  ·refine ⟨⟨g,0,none⟩,by simp [hc],Lib.hid fun t u hu=>?_⟩
   have h0:news.length=0:=by rw [hlen];omega
   rw [List.length_eq_zero_iff.1 h0] at hu
   simp at hu
  ·refine ⟨⟨g,(i+1)*4,none⟩,by simp [hc],Lib.hid fun t u hu=>?_⟩
   have ht:t<(n-(i+1))*4:=by
    have:=(List.getElem?_eq_some_iff.1 hu).1
    omega
   rw [hnews,List.getElem?_drop] at hu
   rw [Addr.add_lit]
   exact (h.drew.cellAt _ (by omega)).trans hu
 have s1:=Lib.hid hlen
 have s2:Hid (∀ u∈news,u.oneCell'=true):=Lib.hid fun u hu=>h1c u (by rw [hnews] at hu;exact List.mem_of_mem_drop hu)
 have s3:Hid (∀ t,t<news.length→(w.drew.cell? ⟨g,0+i*4+t,none⟩).isSome=true∧w.drew.frozen? ⟨g,0+i*4+t,none⟩=false):=Lib.hid fun t ht=>hcl _ (by omega)
 have HRES:=Lib.hid (row_deleted h.drew hi [.slice none 0 0,.int .i64 0,.int .i64 0,.slice none 0 0] rfl)
 obtain ⟨W1,hW1⟩:∃ W1,W1=w.drew.setCells g (0+i*4) news:=⟨_,rfl⟩
 have hcl1:∀ ty c,(Builtin.clear_ #[36] ty #[.slice (some ⟨g,(n-1)*4,none⟩) 1 c]).run Tryz.prog W1=.ok (.tuple #[]) (W1.setCells g ((n-1)*4) [.slice none 0 0,.int .i64 0,.int .i64 0,.slice none 0 0]):=
  fun ty c=>run_clear_one W1 36 39 ty _ rfl (run_zeroV hbi hbz) (by simp [Value.cells];try decide) g ((n-1)*4) c (fun j hj=>by
   have hj2:j<4:=hj
   rw [hW1]
   refine ⟨?_,by rw [World.frozen?_setCells];exact (hcl _ (by omega)).2⟩
   by_cases hin:(n-1)*4+j<i*4+news.length
   ·rw [show (n-1)*4+j=0+i*4+((n-1)*4+j-i*4) by omega,World.cell?_setCells_in g _ _ _ (fun t ht=>(s3.out t ht).1) _ (by omega)];rfl
   ·rw [World.cell?_setCells_out g _ _ _ _ (fun _ _=>.inr (by simp;omega))];exact (hcl _ (by omega)).1)
 have hW:=Lib.hid hW1
 have HN:=Lib.hid hnews
 clear hnews hlen h h1c hxl hcl hW1
 rw [show (i:Int)+1=((i+1:Nat):Int) from rfl]
 obtain ⟨j,hj⟩:∃ j,j=i+1:=⟨_,rfl⟩
 have hclr:∀ ty,(Builtin.clear_ #[36] ty #[.slice (some ⟨g,(i+(n-j))*4,none⟩) (n-(i+(n-j))) (cap-(i+(n-j)))]).run Tryz.prog W1=.ok (.tuple #[]) (W1.setCells g ((n-1)*4) [.slice none 0 0,.int .i64 0,.int .i64 0,.slice none 0 0]):=fun ty=>by
  rw [show i+(n-j)=n-1 by omega,show n-(n-1)=1 by omega];first|exact hcl1 ty _|(have h:=hcl1 ty (cap-(n-1));rw [Nat.mul_one] at h ⊢;exact h)
 rw [← hj] at hA ⊢
 have s3':Hid (news.length=(n-j)*4):=Lib.hid (by rw [hj];exact s1.out)
 have hic:i≤cap:=by omega
 have hjc:j≤cap:=by omega
 have hjn:j≤n:=by omega
 have hij:i<j:=by omega
 have HJ:=Lib.hid hj
 clear hj hcl1
 go_enter Tryz.func145,Tryz.ntmps145
 go_wp2_with fail
 go_region_law (refine step_append_room rfl (.tmp 22) (.tmp 25) 36 rfl 39 bi 4 rfl hbi hbs g 0 i cap (by simp [Act.eval,Act.put]) A (n-j) (cap-j) news (by simp [Act.eval,Act.put]) s3'.out hsrc.out s2.out (by omega) s3.out ?_;rw [← hW.out])
 go_wp2_with fail
 go_ret
 have hj:=HJ.out
 have e1:i+(n-j)=n-1:=by omega
 refine ⟨by rw [e1];rfl,?_⟩
 have h1:=HRES.out
 rw [hW.out,HN.out,Nat.zero_add,hj]
 try simp only [Nat.mul_one] at h1 ⊢
 exact ⟨h1.1,World.grownBy.trans' (World.grownBy.drewR w _) h1.2⟩
set_option maxRecDepth 100000 in
set_option maxHeartbeats 2000000 in
theorem deleteT_any (base g n cap i:Nat) (xs:List Value) (w:World) (h:w.ownsRow base 36 1 (.slice (some ⟨g,0,none⟩) n cap) n xs) (hi:i<n) (h1c:∀ u∈xs,u.oneCell'=true) :
  Calls Tryz.prog 110 #[.slice (some ⟨g,0,none⟩) n cap,.int .i64 i,.int .i64 (i+1)] w fun e w'=>e=.returned (.slice (some ⟨g,0,none⟩) (n-1) cap)∧w'.ownsRow base 36 1 (.slice (some ⟨g,0,none⟩) (n-1) cap) (n-1) (xs.take (i*1) ++ xs.drop ((i+1)*1))∧w.grownBy w' (some g):=by
 obtain ⟨bi,hbi,hbz,hbs,hby⟩:=termInfo
 obtain ⟨hxl,hnc,hcm⟩:xs.length=n*1∧n≤cap∧cap≤9223372036854775807:=by
  obtain ⟨h1,h2|⟨_,_,_,he,_,_,h3,h4,_⟩⟩:=h
  ·cases h2.1
  ·cases he;exact ⟨h1,h3,h4⟩
 have hcl:∀ j,j<n*1→(w.drew.cell? ⟨g,j,none⟩).isSome=true∧w.drew.frozen? ⟨g,j,none⟩=false:=fun j hj=>
  ⟨by have h2:=h.drew.cellAt j hj;rw [List.getElem?_eq_getElem (by omega)] at h2;rw [h2];rfl,h.drew.frozenAt j⟩
 obtain ⟨news,hnews⟩:∃ news,news=xs.drop ((i+1)*1):=⟨_,rfl⟩
 have hlen:news.length=(n-(i+1))*1:=by rw [hnews,List.length_drop,hxl];omega
 obtain ⟨A,hA,hsrc⟩:∃ A:Addr,(if cap=i+1 then some (⟨g,0,none⟩:Addr) else some ⟨g,i+1,none⟩)=some A∧Hid (∀ t u,news[t]? = some u→w.drew.cell? (A.add t)=some u):=by
  by_cases hc:cap=i+1
  ·refine ⟨⟨g,0,none⟩,by simp [hc],Lib.hid fun t u hu=>?_⟩
   have h0:news.length=0:=by rw [hlen];omega
   rw [List.length_eq_zero_iff.1 h0] at hu
   simp at hu
  ·refine ⟨⟨g,(i+1)*1,none⟩,by simp [hc],Lib.hid fun t u hu=>?_⟩
   have ht:t<(n-(i+1))*1:=by
    have:=(List.getElem?_eq_some_iff.1 hu).1
    omega
   rw [hnews,List.getElem?_drop] at hu
   rw [Addr.add_lit]
   exact (h.drew.cellAt _ (by omega)).trans hu
 have s1:=Lib.hid hlen
 have s2:Hid (∀ u∈news,u.oneCell'=true):=Lib.hid fun u hu=>h1c u (by rw [hnews] at hu;exact List.mem_of_mem_drop hu)
 have s3:Hid (∀ t,t<news.length→(w.drew.cell? ⟨g,0+i*1+t,none⟩).isSome=true∧w.drew.frozen? ⟨g,0+i*1+t,none⟩=false):=Lib.hid fun t ht=>hcl _ (by omega)
 have HRES:=Lib.hid (row_deleted h.drew hi [.slice none 0 0] rfl)
 obtain ⟨W1,hW1⟩:∃ W1,W1=w.drew.setCells g (0+i*1) news:=⟨_,rfl⟩
 have hcl1:∀ ty c,(Builtin.clear_ #[26] ty #[.slice (some ⟨g,(n-1)*1,none⟩) 1 c]).run Tryz.prog W1=.ok (.tuple #[]) (W1.setCells g ((n-1)*1) [.slice none 0 0]):=
  fun ty c=>run_clear_one W1 26 36 ty _ rfl (run_zeroV hbi hbz) (by simp [Value.cells];try decide) g ((n-1)*1) c (fun j hj=>by
   have hj2:j<1:=hj
   rw [hW1]
   refine ⟨?_,by rw [World.frozen?_setCells];exact (hcl _ (by omega)).2⟩
   by_cases hin:(n-1)*1+j<i*1+news.length
   ·rw [show (n-1)*1+j=0+i*1+((n-1)*1+j-i*1) by omega,World.cell?_setCells_in g _ _ _ (fun t ht=>(s3.out t ht).1) _ (by omega)];rfl
   ·rw [World.cell?_setCells_out g _ _ _ _ (fun _ _=>.inr (by simp;omega))];exact (hcl _ (by omega)).1)
 have hW:=Lib.hid hW1
 have HN:=Lib.hid hnews
 clear hnews hlen h h1c hxl hcl hW1
 rw [show (i:Int)+1=((i+1:Nat):Int) from rfl]
 obtain ⟨j,hj⟩:∃ j,j=i+1:=⟨_,rfl⟩
 have hclr:∀ ty,(Builtin.clear_ #[26] ty #[.slice (some ⟨g,i+(n-j),none⟩) (n-(i+(n-j))) (cap-(i+(n-j)))]).run Tryz.prog W1=.ok (.tuple #[]) (W1.setCells g ((n-1)*1) [.slice none 0 0]):=fun ty=>by
  rw [show i+(n-j)=n-1 by omega,show n-(n-1)=1 by omega];first|exact hcl1 ty _|(have h:=hcl1 ty (cap-(n-1));rw [Nat.mul_one] at h ⊢;exact h)
 rw [← hj] at hA ⊢
 have s3':Hid (news.length=(n-j)*1):=Lib.hid (by rw [hj];exact s1.out)
 have hic:i≤cap:=by omega
 have hjc:j≤cap:=by omega
 have hjn:j≤n:=by omega
 have hij:i<j:=by omega
 have HJ:=Lib.hid hj
 clear hj hcl1
 go_enter Tryz.func110,Tryz.ntmps110
 go_wp2_with fail
 go_region_law (refine step_append_room rfl (.tmp 22) (.tmp 25) 26 rfl 36 bi 1 rfl hbi hbs g 0 i cap (by simp [Act.eval,Act.put]) A (n-j) (cap-j) news (by simp [Act.eval,Act.put]) s3'.out hsrc.out s2.out (by omega) s3.out ?_;rw [← hW.out])
 go_wp2_with fail
 go_ret
 have hj:=HJ.out
 have e1:i+(n-j)=n-1:=by omega
 refine ⟨by rw [e1];rfl,?_⟩
 have h1:=HRES.out
 rw [hW.out,HN.out,Nat.zero_add,hj]
 try simp only [Nat.mul_one] at h1 ⊢
 exact ⟨h1.1,World.grownBy.trans' (World.grownBy.drewR w _) h1.2⟩
end Go.Proofs.YthjnojbeimchdaaGreat
/- Walks: newPair (package periodic). -/
namespace Go.Proofs.YthjnojbeimchdaaGreat
open Go.RowKit Go.Maps Kal
set_option maxRecDepth 100000 in
set_option maxHeartbeats 4000000 in
theorem newPair_any (h1 c1 h2 c2:Value) (p1 p2 qa qb:Per) (day:Int) (w:World) (hp1:PerIs w h1 c1 p1) (hp2:PerIs w h2 c2 p2) (hw1:p1.WF) (hw2:p2.WF)
  (f1:p1.frm≤562949953421312) (f2:p2.frm≤562949953421312) (t1:p1.period≤562949953421312) (t2:p2.period≤562949953421312) (hqa:IsCanon qa p1.mem) (hqb:IsCanon qb p2.mem) (h0:0≤day) (hd:day≤562949953421312) :
  Calls Tryz.prog 147 #[perV h1 c1 p1.frm p1.period,perV h2 c2 p2.frm p2.period,.int .i64 day] w fun e w'=>∃ (x1 x2 x3 x4 xv yv:Value) (mb:Nat),
   e=.returned (pairV x1 x2 x3 x4 qa qb (max (max qa.frm qb.frm) day) xv yv (Int.gcd qa.period qb.period:Nat) mb)∧PairIn w' w.heap.size w'.heap.size x1 x2 x3 x4 qa qb (max (max qa.frm qb.frm) day) xv yv mb∧Below w.heap.size w w':=by
 have hl1:∀ W,Below w.heap.size w W→PerIs W h1 c1 p1:=fun W hb=>hp1.ext hb
 have hl2:∀ W,Below w.heap.size w W→PerIs W h2 c2 p2:=fun W hb=>hp2.ext hb
 have HW1:=Lib.hid hw1
 have HW2:=Lib.hid hw2
 have HQA:=Lib.hid hqa
 have HQB:=Lib.hid hqb
 obtain ⟨b1,b2,b3,b4,b5⟩:=hqa.smaller hw1
 obtain ⟨d1,d2,d3,d4,d5⟩:=hqb.smaller hw2
 have za0:=hqa.wf.frm
 have zb0:=hqb.wf.frm
 have za1:=hqa.wf.per
 have zb1:=hqb.wf.per
 obtain ⟨a1,m1,a2,m2,rfl,rfl⟩:=hp1.inn.form
 obtain ⟨a3,m3,a4,m4,rfl,rfl⟩:=hp2.inn.form
 clear hp1 hp2 hw1 hw2 hqa hqb b3 d3
 have hmm:=@run_makeMap Tryz.prog
 go_enter Tryz.func147,Tryz.ntmps147
 go_wp2_with fail
 generalize hW0:((w.alloc _).alloc _).alloc _=W0
 have hE:Below w.heap.size w W0:=by rw [← hW0];exact xE
 have hpa:Bxx W0 w.heap.size #[.slice a1 p1.head.length m1,.int .i64 p1.frm,.int .i64 p1.period,.slice a2 p1.cycle.length m2] 39:=by rw [← hW0];exact ((Bxx.at rfl).alloc _).alloc _
 have hpb:Bxx W0 (w.heap.size+1) #[.slice a3 p2.head.length m3,.int .i64 p2.frm,.int .i64 p2.period,.slice a4 p2.cycle.length m4] 39:=by rw [← hW0];exact (Bxx.at (by simp)).alloc _
 have hrb:Bxx W0 (w.heap.size+2) pairZ 139:=by rw [← hW0];exact Bxx.at (by simp)
 have hA0:=(hpa.cells 0).1
 have hA1:=(hpa.cells 1).1
 have hA2:=(hpa.cells 2).1
 have hA3:=(hpa.cells 3).1
 have hB0:=(hpb.cells 0).1
 have hB1:=(hpb.cells 1).1
 have hB2:=(hpb.cells 2).1
 have hB3:=(hpb.cells 3).1
 have hz0:=hrb.lt
 clear hW0 hpa hpb
 refine wp_region_W (w0:=W0) [0,1,2,3,4,5,6] [7] (fun v=>⟨#[perV (.slice a1 p1.head.length m1) (.slice a2 p1.cycle.length m2) p1.frm p1.period,perV (.slice a3 p2.head.length m3) (.slice a4 p2.cycle.length m4) p2.frm p2.period,.int .i64 day,.pointer (some ⟨w.heap.size,0,none⟩),.pointer (some ⟨w.heap.size+1,0,none⟩),undef,.pointer (some ⟨w.heap.size+1+1,0,none⟩),v 6,undef,undef,v 0,v 1,v 2,v 3,v 4,v 5,undef,undef,undef,undef,undef,undef,undef,undef,undef,undef,undef,undef,undef,undef,undef,undef,undef,undef,undef,undef,undef,undef,undef,undef,undef,undef,undef,undef,undef,undef,undef,undef,undef,undef,undef,undef,undef,undef,undef,undef,undef,undef,undef,undef,undef,undef,undef,undef,undef,undef,undef,undef,undef,undef,undef,undef],[]⟩) [perV (.slice a1 p1.head.length m1) (.slice a2 p1.cycle.length m2) p1.frm p1.period,undef,perV (.slice a3 p2.head.length m3) (.slice a4 p2.cycle.length m4) p2.frm p2.period,undef,undef,undef,undef] [1,3,4,5,6] (fun i v lo hi W=>match i with|1=>∃ x1 x2,v 1=perV x1 x2 qa.frm qa.period∧PerAt W (lo 1) (hi 1) x1 x2 qa|3=>∃ x1 x2,v 3=perV x1 x2 qb.frm qb.period∧PerAt W (lo 3) (hi 3) x1 x2 qb|4=>v 4=.map (some (lo 4))∧lo 4<hi 4∧W.heap[lo 4]? = some (.map #[] 0)|5=>∃ x1 x2 x3 x4,v 1=perV x1 x2 qa.frm qa.period∧v 3=perV x3 x4 qb.frm qb.period∧v 5=.agg #[x1,.int .i64 qa.frm,.int .i64 qa.period,x2,x3,.int .i64 qb.frm,.int .i64 qb.period,x4,.int .i64 0,.slice none 0 0,.slice none 0 0,.int .i64 0,.map (some (lo 4))]|6=>v 6=.pointer (some ⟨lo 6,0,none⟩)∧lo 6<hi 6∧Bxx W (lo 6) pairZ 139|_=>True) (fun W=>Below w.heap.size w W∧(W.cell? ⟨w.heap.size,0,none⟩=some (.slice a1 p1.head.length m1)∧W.cell? ⟨w.heap.size,1,none⟩=some (.int .i64 p1.frm)∧W.cell? ⟨w.heap.size,2,none⟩=some (.int .i64 p1.period)∧W.cell? ⟨w.heap.size,3,none⟩=some (.slice a2 p1.cycle.length m2))∧(W.cell? ⟨w.heap.size+1,0,none⟩=some (.slice a3 p2.head.length m3)∧W.cell? ⟨w.heap.size+1,1,none⟩=some (.int .i64 p2.frm)∧W.cell? ⟨w.heap.size+1,2,none⟩=some (.int .i64 p2.period)∧W.cell? ⟨w.heap.size+1,3,none⟩=some (.slice a4 p2.cycle.length m4))) (fun W hb=>⟨by exact xE,⟨cux hA0 hb,cux hA1 hb,cux hA2 hb,cux hA3 hb⟩,cux hB0 hb,cux hB1 hb,cux hB2 hb,cux hB3 hb⟩) ?stab ?loc ?steps ?fin
 case stab=>
  refine ⟨?_,?_,?_,?_,?_,trivial⟩
  ·intro v lo hi W W' h hb
   exact (let ⟨x1,x2,e,hp⟩:=h;⟨x1,x2,e,hp.below hb⟩)
  ·intro v lo hi W W' h hb
   exact (let ⟨x1,x2,e,hp⟩:=h;⟨x1,x2,e,hp.below hb⟩)
  ·intro v lo hi W W' h hb
   exact ⟨h.1,h.2.1,objKeep h.2.2 hb⟩
  ·intro v lo hi W W' h hb
   exact h
  ·intro v lo hi W W' h hb
   exact ⟨h.1,h.2.1,h.2.2.below hb⟩
 case loc=>
  refine ⟨?_,?_,?_,?_,?_,trivial⟩
  ·intro v v' lo lo' hi hi' W hag h
   have q:=hag 1 (.inl rfl)
   (try dsimp only at h ⊢)
   simp only [q.1,q.2.1,q.2.2] at h
   exact h
  ·intro v v' lo lo' hi hi' W hag h
   have q:=hag 3 (.inl rfl)
   (try dsimp only at h ⊢)
   simp only [q.1,q.2.1,q.2.2] at h
   exact h
  ·intro v v' lo lo' hi hi' W hag h
   have q:=hag 4 (.inl rfl)
   (try dsimp only at h ⊢)
   simp only [q.1,q.2.1,q.2.2] at h
   exact h
  ·intro v v' lo lo' hi hi' W hag h
   have q:=hag 5 (.inl rfl)
   have q1:=hag 1 (.inr (Rdp (by kernel_rfl)))
   have q3:=hag 3 (.inr (Rdp (by kernel_rfl)))
   have q4:=hag 4 (.inr (Rdp (by kernel_rfl)))
   (try dsimp only at h ⊢)
   simp only [q.1,q.2.1,q.2.2,q1.1,q1.2.1,q1.2.2,q3.1,q3.2.1,q3.2.2,q4.1,q4.2.1,q4.2.2] at h
   exact h
  ·intro v v' lo lo' hi hi' W hag h
   have q:=hag 6 (.inl rfl)
   (try dsimp only at h ⊢)
   simp only [q.1,q.2.1,q.2.2] at h
   exact h
 case steps=>
  clear hA0 hA1 hA2 hA3 hB0 hB1 hB2 hB3
  refine .c [] [] rfl ?_ (.c [0] [] rfl ?_ (.c [] [] rfl ?_ (.c [2] [1] rfl ?_ (.c [] [] rfl ?_ (.c [] [1,3,4] rfl ?_ (.c [] [] rfl ?_ (.n)))))))
  all_goals try exact stw
  ·rintro v lo hi W hb ⟨hE1,⟨g0,g1,g2,g3⟩,k0,k1,k2,k3⟩ _
   refine .inl ⟨rfl,fun K hK=>?_⟩
   simp only [ov,vat,Nat.reduceBEq,cond_true,cond_false]
   go_wp2_with (go_at_call 88;refine (canon_any _ _ p1 qa _ (hl1 _ xE) HW1.out (by omega) (by omega) HQA.out).mono ?_;rintro e w3 ⟨x1,x2,rfl,ho3,hb3⟩)
   exact acx (hK (perV x1 x2 qa.frm qa.period) w3 hb3 ⟨x1,x2,rfl,ho3.at⟩) (by simp [ov,vat,upd])
  ·rintro v lo hi W hb ⟨hE1,⟨g0,g1,g2,g3⟩,k0,k1,k2,k3⟩ ⟨⟨la1,lb1,D1⟩,_⟩
   refine .inl ⟨rfl,fun K hK=>?_⟩
   simp only [ov,vat,Nat.reduceBEq,cond_true,cond_false]
   (try dsimp only at D1)
   go_wp2_with (go_at_call 88;refine (canon_any _ _ p2 qb _ (hl2 _ xE) HW2.out (by omega) (by omega) HQB.out).mono ?_;rintro e w3 ⟨x1,x2,rfl,ho3,hb3⟩)
   exact acx (hK (perV x1 x2 qb.frm qb.period) w3 hb3 ⟨x1,x2,rfl,ho3.at⟩) (by simp [ov,vat,upd])
  ·rintro v lo hi W hb ⟨hE1,⟨g0,g1,g2,g3⟩,k0,k1,k2,k3⟩ _
   refine .inl ⟨rfl,fun K hK=>?_⟩
   simp only [ov,vat,Nat.reduceBEq,cond_true,cond_false]
   go_wp2_with fail
   exact hK (.map (some W.heap.size)) _ (Ea (Er _) _) ⟨rfl,by simp,World.alloc_heap_new _ _⟩
  ·rintro v lo hi W hb ⟨hE1,⟨g0,g1,g2,g3⟩,k0,k1,k2,k3⟩ ⟨⟨la1,lb1,D1⟩,⟨la3,lb3,D3⟩,⟨la4,lb4,D4⟩,_⟩
   refine .inl ⟨rfl,fun K hK=>?_⟩
   simp only [ov,vat,Nat.reduceBEq,cond_true,cond_false]
   (try dsimp only at D1 D3 D4)
   obtain ⟨x1,x2,e1,P1⟩:=D1
   obtain ⟨x3,x4,e3,P3⟩:=D3
   obtain ⟨e4,_⟩:=D4
   obtain ⟨r1,s1,r2,s2,rfl,rfl⟩:=P1.inn.form
   obtain ⟨r3,s3,r4,s4,rfl,rfl⟩:=P3.inn.form
   (try simp only [e1,e3,e4])
   go_wp2_with fail
   exact acx (hK (.agg #[.slice r1 qa.head.length s1,.int .i64 qa.frm,.int .i64 qa.period,.slice r2 qa.cycle.length s2,.slice r3 qb.head.length s3,.int .i64 qb.frm,.int .i64 qb.period,.slice r4 qb.cycle.length s4,.int .i64 0,.slice none 0 0,.slice none 0 0,.int .i64 0,.map (some (lo 4))]) W (Below.refl _ _) ⟨_,_,_,_,e1,e3,rfl⟩) (by simp [ov,vat,upd,e1,e3,e4])
  ·rintro v lo hi W hb ⟨hE1,⟨g0,g1,g2,g3⟩,k0,k1,k2,k3⟩ _
   refine .inl ⟨rfl,fun K hK=>?_⟩
   simp only [ov,vat,Nat.reduceBEq,cond_true,cond_false]
   go_wp2_with fail
   exact hK (.pointer (some ⟨W.heap.size,0,none⟩)) _ (Ea (Er _) _) ⟨rfl,by simp,Bxx.new _ _ _⟩
 case fin=>
  rintro v lo hi W hb ⟨hE1,_⟩ hf hap
  show wpList _ _ _ [_] _ _
  obtain ⟨l1,l1',l1'',x1,x2,e1,P1,hle1⟩:=hf 1 rfl
  obtain ⟨l3,l3',l3'',x3,x4,e3,P3,hle3⟩:=hf 3 rfl
  obtain ⟨l4,l4',l4'',e4,lt4,hm4⟩:=hf 4 rfl
  obtain ⟨l6,l6',l6'',e6,lt6,hb6⟩:=hf 6 rfl
  obtain ⟨y1,y2,y3,y4,e1',e3',e5⟩:=(hf 5 rfl).2.2.2
  rw [e1] at e1'
  rw [e3] at e3'
  injection e1' with e1';injection e1' with e1';injection e1' with q1 e1';injection e1' with _ e1';injection e1' with _ e1';injection e1' with q2 _
  injection e3' with e3';injection e3' with e3';injection e3' with q3 e3';injection e3' with _ e3';injection e3' with _ e3';injection e3' with q4 _
  subst q1;subst q2;subst q3;subst q4
  have d13:=hap 1 3 rfl rfl (by omega)
  have d14:=hap 1 4 rfl rfl (by omega)
  have d16:=hap 1 6 rfl rfl (by omega)
  have d34:=hap 3 4 rfl rfl (by omega)
  have d36:=hap 3 6 rfl rfl (by omega)
  have d46:=hap 4 6 rfl rfl (by omega)
  have hrb1:=hrb.below hb
  have hzW:=hb.size
  clear hf hap hA0 hA1 hA2 hA3 hB0 hB1 hB2 hB3 hrb
  obtain ⟨r1,s1,r2,s2,rfl,rfl⟩:=P1.form
  obtain ⟨r3,s3,r4,s4,rfl,rfl⟩:=P3.form
  generalize lo 1=lo1 at *
  generalize hi 1=hi1 at *
  generalize lo 3=lo3 at *
  generalize hi 3=hi3 at *
  generalize lo 4=mb at *
  generalize hi 4=hi4 at *
  generalize lo 6=pb at *
  generalize hi 6=hi6 at *
  dsimp only
  rw [e1,e3,e4,e5,e6]
  generalize v 0=v0
  generalize v 2=v2
  have c0:=hb6.cells 0
  have c1:=hb6.cells 1
  have c2:=hb6.cells 2
  have c3:=hb6.cells 3
  have c4:=hb6.cells 4
  have c5:=hb6.cells 5
  have c6:=hb6.cells 6
  have c7:=hb6.cells 7
  have c8:=hb6.cells 8
  have c9:=hb6.cells 9
  have c10:=hb6.cells 10
  have c11:=hb6.cells 11
  have c12:=hb6.cells 12
  clear e1 e3 e4 e5 e6
  obtain ⟨st,hst⟩:∃ st,st=max (max qa.frm qb.frm) day:=⟨_,rfl⟩
  have HSTT:=Lib.hid hst
  have hs0:qa.frm≤st∧qb.frm≤st∧day≤st∧st≤562949953421312:=by omega
  obtain ⟨hs1,hs2,hs3,hs4⟩:=hs0
  have HS5:Hid (st≤qa.frm∨st≤qb.frm∨st≤day):=Lib.hid (by omega)
  clear hst
  go_upto_region 2 with (fail)
  refine wp_abs (F:=fun W2=>Bxx W2 pb #[.slice r1 qa.head.length s1,.int .i64 qa.frm,.int .i64 qa.period,.slice r2 qa.cycle.length s2,.slice r3 qb.head.length s3,.int .i64 qb.frm,.int .i64 qb.period,.slice r4 qb.cycle.length s4,.int .i64 0,.slice none 0 0,.slice none 0 0,.int .i64 0,.map (some mb)] 139∧Bxx W2 (w.heap.size+2) pairZ 139∧PerIn W2 lo1 hi1 (.slice r1 qa.head.length s1) (.slice r2 qa.cycle.length s2) qa∧PerIn W2 lo3 hi3 (.slice r3 qb.head.length s3) (.slice r4 qb.cycle.length s4) qb∧W2.heap[mb]? = some (.map #[] 0)∧Below w.heap.size w W2∧W.heap.size≤W2.heap.size)
   ⟨set13 hb6,by (repeat' (with_reducible first|assumption|refine Bxx.setNe ?_ _ ?_|omega)),by (repeat' (with_reducible first|assumption|refine PerIn.alloc ?_ _ ?_|refine PerIn.drew ?_|refine PerIn.drewN ?_ _|refine PerIn.set ?_ _ ?_|refine PerIn.below ?_ (by assumption) ?_|omega|(simp;done)|(simp;omega))),by (repeat' (with_reducible first|assumption|refine PerIn.alloc ?_ _ ?_|refine PerIn.drew ?_|refine PerIn.drewN ?_ _|refine PerIn.set ?_ _ ?_|refine PerIn.below ?_ (by assumption) ?_|omega|(simp;done)|(simp;omega))),by (repeat' (with_reducible first|assumption|refine obj_set ?_ ?_|omega)),by exact xE,by simp⟩ ?_
  rintro W2 ⟨hbx,hrx,hP1,hP3,hmm4,hE2,hzz⟩
  have c1:=(hbx.cells 1).1
  have c5:=(hbx.cells 5).1
  have c8:=(hbx.cells 8)
  obtain ⟨QQ,hQQ⟩:∃ QQ:Exit→Act→World→Prop,QQ=(fun e a' W'=>e=.normal∧∃ (u16 u17 u18 u19 u20 u21 u22 u23 u24:Value),a'=⟨#[perV (.slice a1 p1.head.length m1) (.slice a2 p1.cycle.length m2) p1.frm p1.period,perV (.slice a3 p2.head.length m3) (.slice a4 p2.cycle.length m4) p2.frm p2.period,.int .i64 day,.pointer (some ⟨w.heap.size,0,none⟩),.pointer (some ⟨w.heap.size+1,0,none⟩),undef,.pointer (some ⟨w.heap.size+1+1,0,none⟩),.pointer (some ⟨pb,0,none⟩),undef,undef,v0,perV (.slice r1 qa.head.length s1) (.slice r2 qa.cycle.length s2) qa.frm qa.period,v2,perV (.slice r3 qb.head.length s3) (.slice r4 qb.cycle.length s4) qb.frm qb.period,.map (some mb),.agg #[.slice r1 qa.head.length s1,.int .i64 qa.frm,.int .i64 qa.period,.slice r2 qa.cycle.length s2,.slice r3 qb.head.length s3,.int .i64 qb.frm,.int .i64 qb.period,.slice r4 qb.cycle.length s4,.int .i64 0,.slice none 0 0,.slice none 0 0,.int .i64 0,.map (some mb)],u16,u17,u18,u19,u20,u21,u22,u23,u24,undef,undef,undef,undef,undef,undef,undef,undef,undef,undef,undef,undef,undef,undef,undef,undef,undef,undef,undef,undef,undef,undef,undef,undef,undef,undef,undef,undef,undef,undef,undef,undef,undef,undef,undef,undef,undef,undef,undef,undef,undef,undef,undef,undef,undef,undef,undef],[]⟩∧W'=W2.setCell ⟨pb,8,none⟩ (.int .i64 st)):=⟨_,rfl⟩
  have HQQ:=Lib.hid hQQ
  clear hQQ
  refine Code.wp_mono (Q:=QQ) ?imp ?reg
  case reg=>
   clear hb6 P1 P3 hm4 hrb1
   go_wp2_with fail
   all_goals first
    | (
     obtain rfl:st=qa.frm:=by have:=HS5.out;omega
     rw [HQQ.out]
     exact ⟨rfl,_,_,_,_,_,_,_,_,_,rfl,rfl⟩)
    | (
     obtain rfl:st=qb.frm:=by have:=HS5.out;omega
     rw [HQQ.out]
     exact ⟨rfl,_,_,_,_,_,_,_,_,_,rfl,rfl⟩)
    | (
     obtain rfl:st=day:=by have:=HS5.out;omega
     rw [HQQ.out]
     exact ⟨rfl,_,_,_,_,_,_,_,_,_,rfl,rfl⟩)
  case imp=>
   intro e a' W3 hq
   rw [HQQ.out] at hq
   obtain ⟨rfl,u16,u17,u18,u19,u20,u21,u22,u23,u24,rfl,rfl⟩:=hq
   go_wp2_with fail
   refine wp_abs (F:=fun W3=>Bxx W3 pb #[.slice r1 qa.head.length s1,.int .i64 qa.frm,.int .i64 qa.period,.slice r2 qa.cycle.length s2,.slice r3 qb.head.length s3,.int .i64 qb.frm,.int .i64 qb.period,.slice r4 qb.cycle.length s4,.int .i64 st,.slice none 0 0,.slice none 0 0,.int .i64 0,.map (some mb)] 139∧Bxx W3 (w.heap.size+2) pairZ 139∧PerIn W3 lo1 hi1 (.slice r1 qa.head.length s1) (.slice r2 qa.cycle.length s2) qa∧PerIn W3 lo3 hi3 (.slice r3 qb.head.length s3) (.slice r4 qb.cycle.length s4) qb∧W3.heap[mb]? = some (.map #[] 0)∧Below w.heap.size w W3∧W.heap.size≤W3.heap.size)
    ⟨set13_8 hbx,hrx.setNe _ (by omega),hP1.set _ (by omega),hP3.set _ (by omega),obj_set hmm4 (by omega),by exact xE,by simpa using hzz⟩ ?_
   clear c1 c5 c8 hbx hrx hP1 hP3 hmm4 hE2 hzz HQQ QQ hb6 P1 P3 hm4 hrb1
   rintro W3 ⟨hbx,hrx,hP1,hP3,hmm4,hE3,hzz⟩
   have hA0:W3.cell? ⟨pb,0,none⟩=some (.slice r1 qa.head.length s1):=(hbx.cells 0).1
   have hA1:W3.cell? ⟨pb,1,none⟩=some (.int .i64 qa.frm):=(hbx.cells 1).1
   have hA2:W3.cell? ⟨pb,2,none⟩=some (.int .i64 qa.period):=(hbx.cells 2).1
   have hA3:W3.cell? ⟨pb,3,none⟩=some (.slice r2 qa.cycle.length s2):=(hbx.cells 3).1
   have hB0:W3.cell? ⟨pb,4,none⟩=some (.slice r3 qb.head.length s3):=(hbx.cells 4).1
   have hB1:W3.cell? ⟨pb,5,none⟩=some (.int .i64 qb.frm):=(hbx.cells 5).1
   have hB2:W3.cell? ⟨pb,6,none⟩=some (.int .i64 qb.period):=(hbx.cells 6).1
   have hB3:W3.cell? ⟨pb,7,none⟩=some (.slice r4 qb.cycle.length s4):=(hbx.cells 7).1
   have hC0:W3.cell? ⟨pb,8,none⟩=some (.int .i64 st):=(hbx.cells 8).1
   have hpbl:=hbx.lt
   have HP1:=Lib.hid hP1
   have HP3:=Lib.hid hP3
   clear hP1 hP3
   have hfld:=run_field3
   have hC9:W3.cell? ⟨pb,9,none⟩=some (.slice none 0 0):=(hbx.cells 9).1
   have hF9:W3.frozen? ⟨pb,9,none⟩=false:=(hbx.cells 9).2
   have hC10:W3.cell? ⟨pb,10,none⟩=some (.slice none 0 0):=(hbx.cells 10).1
   have hF10:W3.frozen? ⟨pb,10,none⟩=false:=(hbx.cells 10).2
   go_region_held3 (fun w'=>w'.cell? ⟨pb,0,none⟩=some (.slice r1 qa.head.length s1)∧w'.cell? ⟨pb,1,none⟩=some (.int .i64 qa.frm)∧w'.cell? ⟨pb,2,none⟩=some (.int .i64 qa.period)∧w'.cell? ⟨pb,3,none⟩=some (.slice r2 qa.cycle.length s2)∧w'.cell? ⟨pb,4,none⟩=some (.slice r3 qb.head.length s3)∧w'.cell? ⟨pb,5,none⟩=some (.int .i64 qb.frm)∧w'.cell? ⟨pb,6,none⟩=some (.int .i64 qb.period)∧w'.cell? ⟨pb,7,none⟩=some (.slice r4 qb.cycle.length s4)∧w'.cell? ⟨pb,8,none⟩=some (.int .i64 st)) ((go_split_ands;repeat' (with_reducible first|assumption|refine cell_set_off ?_ ?_ _|refine cell_set_ne ?_ ?_ _|refine cell_alloc_at ?_ _|refine cell_drew ?_|exact Ext.cell (by assumption) (by assumption)|apply And.intro|(exact Below.cell' (by assumption) (by assumption) (by first|(simp;done)|(simp;omega)|omega))|(refine Below.cell' (by assumption) ?_ (by first|(simp;done)|(simp;omega)|omega))|omega|(simp;done)|(simp;omega))))
    ((go_at_call 136;first|((with_reducible refine (later_any _ _ qa st _ (HP1.out.is.ext xE) HQA.out.wf (by omega) (by omega) (by omega) (by omega)).mono ?_);rintro e w5 ⟨z1,z2,he5,ho5,hb5,_⟩;obtain ⟨t1a,t1b,t2a,t2b,rfl,rfl⟩:=ho5.form;have he5':e=.returned (.agg #[.slice t1a (laterP qa st).head.length t1b,.int .i64 (laterP qa st).frm,.int .i64 (laterP qa st).period,.slice t2a (laterP qa st).cycle.length t2b]):=he5;clear he5;subst he5';obtain ⟨hc5,hf5⟩:=bcell hb5;(try simp only [World.size_alloc,World.size_drew,size_drewN,World.size_setCell] at hc5 hf5);have hz5:=hb5.size;(try simp only [World.size_alloc,World.size_drew,size_drewN,World.size_setCell] at hz5);have hz5':pb<w5.heap.size:=(by omega))|((with_reducible refine (later_any _ _ qb st _ (HP3.out.is.ext xE) HQB.out.wf (by omega) (by omega) (by omega) (by omega)).mono ?_);rintro e w6 ⟨z3,z4,he6,ho6,hb6b,_⟩;obtain ⟨t3a,t3b,t4a,t4b,rfl,rfl⟩:=ho6.form;have he6':e=.returned (.agg #[.slice t3a (laterP qb st).head.length t3b,.int .i64 (laterP qb st).frm,.int .i64 (laterP qb st).period,.slice t4a (laterP qb st).cycle.length t4b]):=he6;clear he6;subst he6';obtain ⟨hc6,hf6⟩:=bcell hb6b;(try simp only [World.size_alloc,World.size_drew,size_drewN,World.size_setCell] at hc6 hf6);have hz6:=hb6b.size;(try simp only [World.size_alloc,World.size_drew,size_drewN,World.size_setCell] at hz6);have hz6':pb<w6.heap.size:=(by omega))))
   have hW4:Below W3.heap.size W3 w5:=by exact xE
   have hW6:Below W3.heap.size W3 w6:=by exact xE
   have hx5:=ho5.cy.inn.below hb6b (Nat.le_refl _)
   have hx6:=ho6.cy.inn
   have hp0:=HP1.out.below hW6 (by omega)
   have hp4:=HP3.out.below hW6 (by omega)
   refine at_abs (F:=fun W4=>Bxx W4 pb #[.slice r1 qa.head.length s1,.int .i64 qa.frm,.int .i64 qa.period,.slice r2 qa.cycle.length s2,.slice r3 qb.head.length s3,.int .i64 qb.frm,.int .i64 qb.period,.slice r4 qb.cycle.length s4,.int .i64 st,.slice t2a (laterP qa st).cycle.length t2b,.slice t4a (laterP qb st).cycle.length t4b,.int .i64 0,.map (some mb)] 139∧Bxx W4 (w.heap.size+2) pairZ 139∧PerIn W4 lo1 hi1 (.slice r1 qa.head.length s1) (.slice r2 qa.cycle.length s2) qa∧PerIn W4 lo3 hi3 (.slice r3 qb.head.length s3) (.slice r4 qb.cycle.length s4) qb∧IntsIn W4 W3.heap.size W4.heap.size (.slice t2a (laterP qa st).cycle.length t2b) (laterP qa st).cycle∧IntsIn W4 W3.heap.size W4.heap.size (.slice t4a (laterP qb st).cycle.length t4b) (laterP qb st).cycle∧W4.heap[mb]? = some (.map #[] 0)∧Below w.heap.size w W4∧W.heap.size≤W4.heap.size)
    ⟨set13_10 (set13_9 (hbx.below hW6)),((hrx.below hW6).setNe _ (by omega)).setNe _ (by omega),(hp0.set _ (by omega)).set _ (by omega),(hp4.set _ (by omega)).set _ (by omega),((hx5.mono (by simp) (by simp;omega)).set _ (by omega)).set _ (by omega),((hx6.mono (by omega) (by simp)).set _ (by omega)).set _ (by omega),obj_set (obj_set (objKeep hmm4 hW6) (by omega)) (by omega),by exact xE,by simp;omega⟩ ?_
   clear hx5 hx6 hp0 hp4 hW4 hW6 hb5 hb6b ho5 ho6 hc5 hf5 hc6 hf6 hA0 hA1 hA2 hA3 hB0 hB1 hB2 hB3 hC0 hC9 hF9 hC10 hF10 hbx hrx hmm4 HP1 HP3
   rintro W4 ⟨hbx,hrx,hP1,hP3,hX5,hX6,hmm4,hE4,hzz4⟩
   have hA2:W4.cell? ⟨pb,2,none⟩=some (.int .i64 qa.period):=(hbx.cells 2).1
   have hB2:W4.cell? ⟨pb,6,none⟩=some (.int .i64 qb.period):=(hbx.cells 6).1
   have hC11:W4.cell? ⟨pb,11,none⟩=some (.int .i64 0):=(hbx.cells 11).1
   have hC10:W4.cell? ⟨pb,10,none⟩=some (.slice t4a (laterP qb st).cycle.length t4b):=(hbx.cells 10).1
   have hF11:W4.frozen? ⟨pb,11,none⟩=false:=(hbx.cells 11).2
   go_wp2_with fail
   go_at_call 77
   refine (gcd_any _ _ _ (by have:=HQA.out.wf.per;omega) (by omega) (by have:=HQB.out.wf.per;omega) (by omega)).mono ?_
   rintro e w7 ⟨rfl,n,rfl⟩
   go_wp2_with fail
   refine wp_abs (F:=fun W5=>Bxx W5 pb #[.slice r1 qa.head.length s1,.int .i64 qa.frm,.int .i64 qa.period,.slice r2 qa.cycle.length s2,.slice r3 qb.head.length s3,.int .i64 qb.frm,.int .i64 qb.period,.slice r4 qb.cycle.length s4,.int .i64 st,.slice t2a (laterP qa st).cycle.length t2b,.slice t4a (laterP qb st).cycle.length t4b,.int .i64 (Int.gcd qa.period qb.period:Nat),.map (some mb)] 139∧Bxx W5 (w.heap.size+2) pairZ 139∧PerIn W5 lo1 hi1 (.slice r1 qa.head.length s1) (.slice r2 qa.cycle.length s2) qa∧PerIn W5 lo3 hi3 (.slice r3 qb.head.length s3) (.slice r4 qb.cycle.length s4) qb∧IntsIn W5 W3.heap.size W4.heap.size (.slice t2a (laterP qa st).cycle.length t2b) (laterP qa st).cycle∧IntsIn W5 W3.heap.size W4.heap.size (.slice t4a (laterP qb st).cycle.length t4b) (laterP qb st).cycle∧W5.heap[mb]? = some (.map #[] 0)∧Below w.heap.size w W5∧W4.heap.size≤W5.heap.size)
    ⟨set13_11 hbx,hrx.setNe _ (by omega),(hP1.drewN _).set _ (by omega),(hP3.drewN _).set _ (by omega),(hX5.drewN _).set _ (by omega),(hX6.drewN _).set _ (by omega),obj_set hmm4 (by omega),by exact xE,by simp⟩ ?_
   clear hA2 hB2 hC10 hC11 hF11 hbx hrx hP1 hP3 hX5 hX6 hmm4
   rintro W5 ⟨hbx,hrx,hP1,hP3,hX5,hX6,hmm4,hE5,hzz5⟩
   have hGa:=gcd_bound (b:=qb.period) za1
   have hGb:=gcd_bound2 (a:=qa.period) zb1
   generalize hG:((Int.gcd qa.period qb.period:Nat):Int)=G at *
   have HG:=Lib.hid hG
   clear hG
   generalize hys:(laterP qb st).cycle=ys at *
   have HYS:=Lib.hid hys
   clear hys
   have hmblt:mb<W5.heap.size:=(Array.getElem?_eq_some_iff.1 hmm4).1
   have hpb5:pb<W5.heap.size:=hbx.lt
   have hC10:W5.cell? ⟨pb,10,none⟩=some (.slice t4a ys.length t4b):=(hbx.cells 10).1
   have hmbW:mb<W3.heap.size:=by omega
   have hylen:ys.length≤17592186044416:=hX6.ints.len
   have hmade:W5.ownsGroups Tryz.prog 3 W5.heap.size 3 .i64 mb 0 (.map []:DataW Unit):=⟨#[],0,hmm4,⟨by simp,MapKept.stamped_empty 0,by simp⟩,Nat.le_refl _,rfl,hmblt,by simp,by simp⟩
   have HX6:=Lib.hid hX6
   have HBX:=Lib.hid hbx
   have HMADE:=Lib.hid hmade
   have HRX:=Lib.hid hrx
   have HP1:=Lib.hid hP1
   have HP3:=Lib.hid hP3
   have HX5:=Lib.hid hX5
   clear hX6 hbx hmade hmm4 hrx hP1 hP3 hX5
   go_wp2_with fail
   go_loopw [50] (fun i wr=>∃ (k n:Nat) (D:DataW Unit),k≤ys.length∧n≤k∧i=.int .i64 k∧wr.ownsGroups Tryz.prog 3 W5.heap.size 3 .i64 mb n D∧MapRd D G (ys.take k)∧W5.grownBy wr (some mb)) (fun i _=>ys.length-(intOf i).toNat)
   case atStart=>exact ⟨0,0,.map [],by omega,by omega,rfl,HMADE.out,MapRd.nil G,World.grownBy.refl _ _⟩
   case round=>
    obtain ⟨k,n,D,hk,hn,rfl,hown,hrd,hgr⟩:=hrel
    have hbx:Bxx wr pb _ _:=(hgr.block pb hpb5 (by simp;omega)).trans HBX.out
    have hX6:=HX6.out.of_blocks (w':=wr) fun j h1 h2=>hgr.block j (by omega) (by simp;omega)
    by_cases hlt:k<ys.length
    ·have hA12:wr.cell? ⟨pb,12,none⟩=some (.map (some mb)):=(hbx.cells 12).1
     have hA11:wr.cell? ⟨pb,11,none⟩=some (.int .i64 G):=(hbx.cells 11).1
     have hyI:=hX6.ints.rng (ys.getD k 0) (getD_mem hlt)
     obtain ⟨⟨⟨a8,c8,he8,_,_,h38⟩,_,_⟩,_⟩:=hX6
     injection he8 with he1 he2 he3
     subst he1;subst he3
     rcases h38 with h38|⟨b8,f8,rfl,hcell⟩
     ·rw [h38] at hlt;simp at hlt
     have hcl:=hcell k hlt
     have hkI:(k:Int)<ys.length:=by omega
     obtain ⟨y,hy⟩:∃ y,y=ys.getD k 0:=⟨_,rfl⟩
     rw [← hy] at hcl hyI
     have hy0:0≤y:=by
      have:=(laterP_ok HQB.out.wf (day:=st) (by omega)).1.cyc.2 y (by rw [HYS.out,hy];exact getD_mem hlt)
      exact this.1
     have hm0:=Int.emod_nonneg y (show G≠0 by omega)
     have hm1:=Int.emod_lt_of_pos y (show 0<G by omega)
     obtain ⟨rv,zs,hlk,hat,ho,hzl,hback⟩:=groups_at hown (by omega) (r:=y % G) ⟨by omega,by omega⟩
     have hz:=hrd.got hat ho
     have hrowlt:∀ j,rv.ownBlock=some j→W5.heap.size≤j∧j<wr.heap.size:=fun j hj=>ho.1.lt j hj
     have hpbrow:some pb≠rv.ownBlock:=fun e=>by have:=hrowlt pb e.symm;omega
     have hmbrow:some mb≠rv.ownBlock:=fun e=>by have:=hrowlt mb e.symm;omega
     have hO:OwnI wr W5.heap.size rv zs:=⟨ho.1,fun x hx=>wf_in (ho.2 x hx),by omega⟩
     have hmbwr:mb<wr.heap.size:=by have:=hgr.size;omega
     have hszgr:=hgr.size
     have hzlen:zs.length+1≤17592186044416:=by omega
     have HO:=Lib.hid hO
     have HBACK:=Lib.hid hback
     have HHO:=Lib.hid ho
     have HZ:=Lib.hid hz
     have HRD:=Lib.hid hrd
     have HBOX:=Lib.hid hbx
     have HGR:=Lib.hid hgr
     have HY:=Lib.hid hy
     clear hO hback ho hz hrd hbx hgr hat hown hcell hy
     go_wp2_with fail
     refine wp_region_row (w0:=wr) (rv.ownBlock) 15 [0,1,2,3,4,5,6,7,8,9,10,11,12,13,14,15] [16] (fun v=>⟨#[perV (.slice a1 p1.head.length m1) (.slice a2 p1.cycle.length m2) p1.frm p1.period,perV (.slice a3 p2.head.length m3) (.slice a4 p2.cycle.length m4) p2.frm p2.period,.int .i64 day,.pointer (some ⟨w.heap.size,0,none⟩),.pointer (some ⟨w.heap.size+1,0,none⟩),undef,.pointer (some ⟨w.heap.size+1+1,0,none⟩),.pointer (some ⟨pb,0,none⟩),undef,.int .i64 y,v0,perV (.slice r1 qa.head.length s1) (.slice r2 qa.cycle.length s2) qa.frm qa.period,v2,perV (.slice r3 qb.head.length s3) (.slice r4 qb.cycle.length s4) qb.frm qb.period,.map (some mb),.agg #[.slice r1 qa.head.length s1,.int .i64 qa.frm,.int .i64 qa.period,.slice r2 qa.cycle.length s2,.slice r3 qb.head.length s3,.int .i64 qb.frm,.int .i64 qb.period,.slice r4 qb.cycle.length s4,.int .i64 0,.slice none 0 0,.slice none 0 0,.int .i64 0,.map (some mb)],u16,u17,u18,u19,u20,u21,u22,u23,u24,.pointer (some ⟨pb,0,none⟩),.agg #[.slice r1 qa.head.length s1,.int .i64 qa.frm,.int .i64 qa.period,.slice r2 qa.cycle.length s2],.pointer (some ⟨pb,8,none⟩),.int .i64 st,.agg #[.slice t1a (laterP qa st).head.length t1b,.int .i64 (laterP qa st).frm,.int .i64 (laterP qa st).period,.slice t2a (laterP qa st).cycle.length t2b],.slice t2a (laterP qa st).cycle.length t2b,.pointer (some ⟨pb,4,none⟩),.agg #[.slice r3 qb.head.length s3,.int .i64 qb.frm,.int .i64 qb.period,.slice r4 qb.cycle.length s4],.pointer (some ⟨pb,8,none⟩),.int .i64 st,.agg #[.slice t3a (laterP qb st).head.length t3b,.int .i64 (laterP qb st).frm,.int .i64 (laterP qb st).period,.slice (some ⟨b8,f8,none⟩) ys.length t4b],.slice (some ⟨b8,f8,none⟩) ys.length t4b,.pointer (some ⟨pb,9,none⟩),.pointer (some ⟨pb,10,none⟩),.pointer (some ⟨pb,0,none⟩),.pointer (some ⟨pb,2,none⟩),.int .i64 qa.period,.pointer (some ⟨pb,4,none⟩),.pointer (some ⟨pb,6,none⟩),.int .i64 qb.period,.int .i64 G,.pointer (some ⟨pb,11,none⟩),.pointer (some ⟨pb,10,none⟩),.slice (some ⟨b8,f8,none⟩) ys.length t4b,.int .i64 ↑ys.length,.int .i64 ↑k,.bool true,.pointer (some ⟨b8,f8+k,none⟩),.int .i64 y,v 0,v 1,v 2,v 3,v 4,v 5,v 6,v 7,v 8,v 9,v 10,v 11,v 12,v 13,v 14,v 15,u70,undef],[]⟩) (fun j=>match j with|0=>u54|1=>u55|2=>u56|3=>u57|4=>u58|5=>u59|6=>u60|7=>u61|8=>u62|9=>u63|10=>u64|11=>u65|12=>u66|13=>u67|14=>u68|15=>u69|_=>undef)
      (fun i v lo hi W=>match i with
       | 0=>v 0=.pointer (some ⟨pb,12,none⟩)
       | 1=>v 1=.map (some mb)
       | 2=>v 2=.int .i64 y
       | 3=>v 3=.pointer (some ⟨pb,11,none⟩)
       | 4=>v 4=.int .i64 G
       | 5=>v 5=.int .i64 (y % G)
       | 6=>v 6=.pointer (some ⟨pb,12,none⟩)
       | 7=>v 7=.map (some mb)
       | 8=>v 8=.int .i64 y
       | 9=>v 9=.pointer (some ⟨pb,11,none⟩)
       | 10=>v 10=.int .i64 G
       | 11=>v 11=.int .i64 (y % G)
       | 12=>v 12=rv
       | 13=>v 13=.int .i64 y
       | 14=>v 14=.slice (some ⟨lo 14,0,none⟩) 1 1∧lo 14<hi 14∧wr.heap.size≤lo 14∧hi 14≤W.heap.size∧Bxx W (lo 14) #[.int .i64 y] 3
       | 15=>∃ g cap,v 15=.slice (some ⟨g,0,none⟩) (zs.length+1) cap∧OwnI W W5.heap.size (v 15) (zs ++ [y])∧(rv.ownBlock=some g∨wr.heap.size≤g)
       | _=>True)
      (fun W=>W.cell? ⟨pb,12,none⟩=some (.map (some mb))∧W.cell? ⟨pb,11,none⟩=some (.int .i64 G)∧W.heap[mb]? = wr.heap[mb]?) rfl (by kernel_rfl) (by decide) rfl ?stab ?loc (fun W hb=>⟨hb.cell hA12 hpbrow,hb.cell hA11 hpbrow,hb.block mb hmbwr hmbrow⟩) ?steps ?fin
     case stab=>
      rintro (_|_|_|_|_|_|_|_|_|_|_|_|_|_|_|_|i) v lo hi W W' h hb
      ·exact h
      ·exact h
      ·exact h
      ·exact h
      ·exact h
      ·exact h
      ·exact h
      ·exact h
      ·exact h
      ·exact h
      ·exact h
      ·exact h
      ·exact h
      ·exact h
      ·rw [if_neg (by decide)] at hb;exact ⟨h.1,h.2.1,h.2.2.1,Nat.le_trans h.2.2.2.1 hb.size,(hb.block (lo 14) (by have:=h.2.1;have:=h.2.2.2.1;omega) (fun e=>by have:=hrowlt _ e.symm;have:=h.2.2.1;omega)).trans h.2.2.2.2⟩
      ·rw [if_pos rfl] at hb;exact (let ⟨g,cap,e,ho,hl⟩:=h;⟨g,cap,e,ho.ext hb,hl⟩)
      ·trivial
     case loc=>
      rintro (_|_|_|_|_|_|_|_|_|_|_|_|_|_|_|_|i) v v' lo lo' hi hi' W hag h
      ·have q:=hag 0 (.inl rfl)
       (try dsimp only at h ⊢);(try simp only [q.1,q.2.1,q.2.2] at h);exact h
      ·have q:=hag 1 (.inl rfl)
       have q0:=hag 0 (.inr (Rdp (by kernel_rfl)))
       (try dsimp only at h ⊢);(try simp only [q.1,q.2.1,q.2.2,q0.1,q0.2.1,q0.2.2] at h);exact h
      ·have q:=hag 2 (.inl rfl)
       (try dsimp only at h ⊢);(try simp only [q.1,q.2.1,q.2.2] at h);exact h
      ·have q:=hag 3 (.inl rfl)
       (try dsimp only at h ⊢);(try simp only [q.1,q.2.1,q.2.2] at h);exact h
      ·have q:=hag 4 (.inl rfl)
       have q3:=hag 3 (.inr (Rdp (by kernel_rfl)))
       (try dsimp only at h ⊢);(try simp only [q.1,q.2.1,q.2.2,q3.1,q3.2.1,q3.2.2] at h);exact h
      ·have q:=hag 5 (.inl rfl)
       have q2:=hag 2 (.inr (Rdp (by kernel_rfl)))
       have q4:=hag 4 (.inr (Rdp (by kernel_rfl)))
       (try dsimp only at h ⊢);(try simp only [q.1,q.2.1,q.2.2,q2.1,q2.2.1,q2.2.2,q4.1,q4.2.1,q4.2.2] at h);exact h
      ·have q:=hag 6 (.inl rfl)
       (try dsimp only at h ⊢);(try simp only [q.1,q.2.1,q.2.2] at h);exact h
      ·have q:=hag 7 (.inl rfl)
       have q6:=hag 6 (.inr (Rdp (by kernel_rfl)))
       (try dsimp only at h ⊢);(try simp only [q.1,q.2.1,q.2.2,q6.1,q6.2.1,q6.2.2] at h);exact h
      ·have q:=hag 8 (.inl rfl)
       (try dsimp only at h ⊢);(try simp only [q.1,q.2.1,q.2.2] at h);exact h
      ·have q:=hag 9 (.inl rfl)
       (try dsimp only at h ⊢);(try simp only [q.1,q.2.1,q.2.2] at h);exact h
      ·have q:=hag 10 (.inl rfl)
       have q9:=hag 9 (.inr (Rdp (by kernel_rfl)))
       (try dsimp only at h ⊢);(try simp only [q.1,q.2.1,q.2.2,q9.1,q9.2.1,q9.2.2] at h);exact h
      ·have q:=hag 11 (.inl rfl)
       have q8:=hag 8 (.inr (Rdp (by kernel_rfl)))
       have q10:=hag 10 (.inr (Rdp (by kernel_rfl)))
       (try dsimp only at h ⊢);(try simp only [q.1,q.2.1,q.2.2,q8.1,q8.2.1,q8.2.2,q10.1,q10.2.1,q10.2.2] at h);exact h
      ·have q:=hag 12 (.inl rfl)
       have q7:=hag 7 (.inr (Rdp (by kernel_rfl)))
       have q11:=hag 11 (.inr (Rdp (by kernel_rfl)))
       (try dsimp only at h ⊢);(try simp only [q.1,q.2.1,q.2.2,q7.1,q7.2.1,q7.2.2,q11.1,q11.2.1,q11.2.2] at h);exact h
      ·have q:=hag 13 (.inl rfl)
       (try dsimp only at h ⊢);(try simp only [q.1,q.2.1,q.2.2] at h);exact h
      ·have q:=hag 14 (.inl rfl)
       have q13:=hag 13 (.inr (Rdp (by kernel_rfl)))
       (try dsimp only at h ⊢);(try simp only [q.1,q.2.1,q.2.2,q13.1,q13.2.1,q13.2.2] at h);exact h
      ·have q:=hag 15 (.inl rfl)
       have q12:=hag 12 (.inr (Rdp (by kernel_rfl)))
       have q14:=hag 14 (.inr (Rdp (by kernel_rfl)))
       (try dsimp only at h ⊢);(try simp only [q.1,q.2.1,q.2.2,q12.1,q12.2.1,q12.2.2,q14.1,q14.2.1,q14.2.2] at h);exact h
      ·trivial
     case steps=>
      refine StepsG.cons rfl ?_ (StepsG.cons rfl ?_ (StepsG.cons rfl ?_ (StepsG.cons rfl ?_ (StepsG.cons rfl ?_ (StepsG.cons rfl ?_ (StepsG.cons rfl ?_ (StepsG.cons rfl ?_ (StepsG.cons rfl ?_ (StepsG.cons rfl ?_ (StepsG.cons rfl ?_ (StepsG.cons rfl ?_ (StepsG.cons rfl ?_ (StepsG.cons rfl ?_ (StepsG.cons rfl ?_ (StepsG.cons rfl ?_ StepsG.nil)))))))))))))))
      ·rintro v lo hi W hb hkx ⟨g12,g11,gmb⟩ hd K hK
       replace hK:=fun x W' (h:Below W.heap.size W W')=>hK x W' (by rw [if_neg (by decide)];exact h)
       clear hkx
       clear hd
       dsimp only
       go_wp2_with fail
       exact acx (hK (.pointer (some ⟨pb,12,none⟩)) W (Below.refl _ _) rfl) (by simp)
      ·rintro v lo hi W hb hkx ⟨g12,g11,gmb⟩ hd K hK
       replace hK:=fun x W' (h:Below W.heap.size W W')=>hK x W' (by rw [if_neg (by decide)];exact h)
       clear hkx
       have e0:v 0=.pointer (some ⟨pb,12,none⟩):=(hd 0 (Rdp (by kernel_rfl))).2.2
       clear hd
       dsimp only
       (try simp only [e0])
       go_wp2_with fail
       exact acx (hK (.map (some mb)) W (Below.refl _ _) rfl) (by simp [e0])
      ·rintro v lo hi W hb hkx ⟨g12,g11,gmb⟩ hd K hK
       replace hK:=fun x W' (h:Below W.heap.size W W')=>hK x W' (by rw [if_neg (by decide)];exact h)
       clear hkx
       clear hd
       dsimp only
       go_wp2_with fail
       exact acx (hK (.int .i64 y) W (Below.refl _ _) rfl) (by simp)
      ·rintro v lo hi W hb hkx ⟨g12,g11,gmb⟩ hd K hK
       replace hK:=fun x W' (h:Below W.heap.size W W')=>hK x W' (by rw [if_neg (by decide)];exact h)
       clear hkx
       clear hd
       dsimp only
       go_wp2_with fail
       exact acx (hK (.pointer (some ⟨pb,11,none⟩)) W (Below.refl _ _) rfl) (by simp)
      ·rintro v lo hi W hb hkx ⟨g12,g11,gmb⟩ hd K hK
       replace hK:=fun x W' (h:Below W.heap.size W W')=>hK x W' (by rw [if_neg (by decide)];exact h)
       clear hkx
       have e3:v 3=.pointer (some ⟨pb,11,none⟩):=(hd 3 (Rdp (by kernel_rfl))).2.2
       clear hd
       dsimp only
       (try simp only [e3])
       go_wp2_with fail
       exact acx (hK (.int .i64 G) W (Below.refl _ _) rfl) (by simp [e3])
      ·rintro v lo hi W hb hkx ⟨g12,g11,gmb⟩ hd K hK
       replace hK:=fun x W' (h:Below W.heap.size W W')=>hK x W' (by rw [if_neg (by decide)];exact h)
       clear hkx
       have e2:v 2=.int .i64 y:=(hd 2 (Rdp (by kernel_rfl))).2.2
       have e4:v 4=.int .i64 G:=(hd 4 (Rdp (by kernel_rfl))).2.2
       clear hd
       dsimp only
       (try simp only [e2,e4])
       go_wp2_with fail
       exact acx (hK (.int .i64 (y % G)) W (Below.refl _ _) rfl) (by simp [e2,e4])
      ·rintro v lo hi W hb hkx ⟨g12,g11,gmb⟩ hd K hK
       replace hK:=fun x W' (h:Below W.heap.size W W')=>hK x W' (by rw [if_neg (by decide)];exact h)
       clear hkx
       clear hd
       dsimp only
       go_wp2_with fail
       exact acx (hK (.pointer (some ⟨pb,12,none⟩)) W (Below.refl _ _) rfl) (by simp)
      ·rintro v lo hi W hb hkx ⟨g12,g11,gmb⟩ hd K hK
       replace hK:=fun x W' (h:Below W.heap.size W W')=>hK x W' (by rw [if_neg (by decide)];exact h)
       clear hkx
       have e6:v 6=.pointer (some ⟨pb,12,none⟩):=(hd 6 (Rdp (by kernel_rfl))).2.2
       clear hd
       dsimp only
       (try simp only [e6])
       go_wp2_with fail
       exact acx (hK (.map (some mb)) W (Below.refl _ _) rfl) (by simp [e6])
      ·rintro v lo hi W hb hkx ⟨g12,g11,gmb⟩ hd K hK
       replace hK:=fun x W' (h:Below W.heap.size W W')=>hK x W' (by rw [if_neg (by decide)];exact h)
       clear hkx
       clear hd
       dsimp only
       go_wp2_with fail
       exact acx (hK (.int .i64 y) W (Below.refl _ _) rfl) (by simp)
      ·rintro v lo hi W hb hkx ⟨g12,g11,gmb⟩ hd K hK
       replace hK:=fun x W' (h:Below W.heap.size W W')=>hK x W' (by rw [if_neg (by decide)];exact h)
       clear hkx
       clear hd
       dsimp only
       go_wp2_with fail
       exact acx (hK (.pointer (some ⟨pb,11,none⟩)) W (Below.refl _ _) rfl) (by simp)
      ·rintro v lo hi W hb hkx ⟨g12,g11,gmb⟩ hd K hK
       replace hK:=fun x W' (h:Below W.heap.size W W')=>hK x W' (by rw [if_neg (by decide)];exact h)
       clear hkx
       have e9:v 9=.pointer (some ⟨pb,11,none⟩):=(hd 9 (Rdp (by kernel_rfl))).2.2
       clear hd
       dsimp only
       (try simp only [e9])
       go_wp2_with fail
       exact acx (hK (.int .i64 G) W (Below.refl _ _) rfl) (by simp [e9])
      ·rintro v lo hi W hb hkx ⟨g12,g11,gmb⟩ hd K hK
       replace hK:=fun x W' (h:Below W.heap.size W W')=>hK x W' (by rw [if_neg (by decide)];exact h)
       clear hkx
       have e8:v 8=.int .i64 y:=(hd 8 (Rdp (by kernel_rfl))).2.2
       have e10:v 10=.int .i64 G:=(hd 10 (Rdp (by kernel_rfl))).2.2
       clear hd
       dsimp only
       (try simp only [e8,e10])
       go_wp2_with fail
       exact acx (hK (.int .i64 (y % G)) W (Below.refl _ _) rfl) (by simp [e8,e10])
      ·rintro v lo hi W hb hkx ⟨g12,g11,gmb⟩ hd K hK
       replace hK:=fun x W' (h:Below W.heap.size W W')=>hK x W' (by rw [if_neg (by decide)];exact h)
       clear hkx
       have e7:v 7=.map (some mb):=(hd 7 (Rdp (by kernel_rfl))).2.2
       have e11:v 11=.int .i64 (y % G):=(hd 11 (Rdp (by kernel_rfl))).2.2
       clear hd
       dsimp only
       (try simp only [e7,e11])
       have hlk9:=hlk W gmb
       go_wp2_with fail
       exact acx (hK rv W (Below.refl _ _) rfl) (by simp [e7,e11])
      ·rintro v lo hi W hb hkx ⟨g12,g11,gmb⟩ hd K hK
       replace hK:=fun x W' (h:Below W.heap.size W W')=>hK x W' (by rw [if_neg (by decide)];exact h)
       clear hkx
       clear hd
       dsimp only
       go_wp2_with fail
       exact acx (hK (.int .i64 y) W (Below.refl _ _) rfl) (by simp)
      ·rintro v lo hi W hb hkx ⟨g12,g11,gmb⟩ hd K hK
       replace hK:=fun x W' (h:Below W.heap.size W W')=>hK x W' (by rw [if_neg (by decide)];exact h)
       clear hkx
       have e13:v 13=.int .i64 y:=(hd 13 (Rdp (by kernel_rfl))).2.2
       clear hd
       dsimp only
       (try simp only [e13])
       go_wp2_with fail
       exact acx (hK (.slice (some ⟨W.heap.size,0,none⟩) 1 1) _ (Ea (Er _) _) ⟨rfl,by simp,hb.size,by simp,Bxx.new _ _ _⟩) (by simp [e13])
      ·rintro v lo hi W hb hkx ⟨g12,g11,gmb⟩ hd K hK
       replace hK:=fun x W' (h:W.grownBy W' (rv.ownBlock))=>hK x W' (by rw [if_pos rfl];exact h)
       replace hkx:=hkx rfl
       have e12:v 12=rv:=(hd 12 (Rdp (by kernel_rfl))).2.2
       obtain ⟨la14,lb14,D14⟩:=hd 14 (Rdp (by kernel_rfl))
       clear hd
       dsimp only
       (try simp only [e12])
       obtain ⟨e14,h14a,h14b,h14c,h14d⟩:=D14
       refine append_wp W _ _ (by rfl) W5.heap.size rv zs y (by first|rfl|exact e12) (HO.out.ext hkx) (lo 14) 1 (by first|exact e14|(simp [e14];done)) (h14d.cells 0).1 hyI hzlen (by have h8:=hkx.size;omega) ?_
       intro g cap w1 hown1 hgrow1 hloc1
       exact acx (hK (.slice (some ⟨g,0,none⟩) (zs.length+1) cap) w1 hgrow1 ⟨g,cap,rfl,hown1,hloc1.imp id (fun e=>by rw [e];exact hb.size)⟩) (by simp only [e12];rfl)
     case fin=>
      rintro v lo hi W hb ⟨g12,g11,gmb⟩ hf hap
      show wpList _ _ _ [_] _ _
      have e1:v 1=.map (some mb):=(hf 1 rfl).2.2.2
      have e5:v 5=.int .i64 (y % G):=(hf 5 rfl).2.2.2
      obtain ⟨_,_,_,gb,cap,e15,ho15,hl15⟩:=hf 15 rfl
      clear hf hap
      rw [e15] at ho15
      have hown':W.ownsInts W5.heap.size 3 .i64 (.slice (some ⟨gb,0,none⟩) (zs.length+1) cap) (zs ++ [y]):=⟨ho15.row,fun z hz=>WalkArith.wf_i64 (ho15.rng z hz)⟩
      have hput:=HRD.out.put (y:=y) (v:=.slice (some ⟨gb,0,none⟩) (zs.length+1) cap) (w:=W) (base:=W5.heap.size) (e:=3) (by rw [← HZ.out];exact hown')
      rw [← HZ.out] at hput
      have HOWN':=Lib.hid hown'
      have HPUT:=Lib.hid hput
      have HLOC:Hid ((Value.slice (some ⟨gb,0,none⟩) (zs.length+1) cap).ownBlock=rv.ownBlock∨∃ g,(Value.slice (some ⟨gb,0,none⟩) (zs.length+1) cap).ownBlock=some g∧wr.heap.size≤g):=Lib.hid (hl15.elim (fun e=>.inl e.symm) (fun h=>.inr ⟨gb,rfl,h⟩))
      have HB:=Lib.hid hb
      clear hown' hput hl15 ho15 hb
      dsimp only
      rw [e1,e5,e15]
      clear e1 e5 e15
      refine wpList_mapUpdate_back _ rfl _ _ _ 137 rfl HBACK.out rfl rfl rfl HB.out HOWN'.out (by simp;omega) HLOC.out ?_
      intro w2 hown2 hgrow2
      go_wp2_with fail
      go_roundw
      case rel=>
       refine ⟨k+1,n+1,_,by omega,by omega,by go_num,hown2,?_,(HGR.out.andThen HB.out (fun j hj=>.inl (hrowlt j hj).1)).trans hgrow2⟩
       have ht:ys.take (k+1)=ys.take k ++ [y]:=by rw [List.take_succ_eq_append_getElem hlt,HY.out];simp [hlt]
       rw [ht];exact HPUT.out
      case measure=>simp [intOf];omega
    ·obtain rfl:k=ys.length:=by omega
     have hszg:=hgr.size
     have hPr1:=HP1.out.of_blocks (w':=wr) fun j h1 h2=>hgr.block j (by omega) (by simp;omega)
     have hPr3:=HP3.out.of_blocks (w':=wr) fun j h1 h2=>hgr.block j (by omega) (by simp;omega)
     have hX5r:=HX5.out.of_blocks (w':=wr) fun j h1 h2=>hgr.block j (by omega) (by simp;omega)
     rw [List.take_length] at hrd
     have hMI:=MapIn.of_groups hown hmblt (by omega) hrd
     have hrx:Bxx wr (w.heap.size+2) _ _:=(hgr.block (w.heap.size+2) HRX.out.lt (by simp;omega)).trans HRX.out
     have hEr:Below w.heap.size w wr:=⟨hgr.os.trans hE5.os,hgr.tape.trans hE5.tape,hgr.output.trans hE5.output,by have:=hE5.size;omega,fun j hj=>(hgr.block j (by have:=hE5.size;omega) (by simp;omega)).trans (hE5.block j hj)⟩
     have c0:=(hbx.cells 0).1
     have c1:=(hbx.cells 1).1
     have c2:=(hbx.cells 2).1
     have c3:=(hbx.cells 3).1
     have c4:=(hbx.cells 4).1
     have c5:=(hbx.cells 5).1
     have c6:=(hbx.cells 6).1
     have c7:=(hbx.cells 7).1
     have c8:=(hbx.cells 8).1
     have c9:=(hbx.cells 9).1
     have c10:=(hbx.cells 10).1
     have c11:=(hbx.cells 11).1
     have c12:=(hbx.cells 12).1
     have k0:=(hrx.cells 0)
     have k1:=(hrx.cells 1)
     have k2:=(hrx.cells 2)
     have k3:=(hrx.cells 3)
     have k4:=(hrx.cells 4)
     have k5:=(hrx.cells 5)
     have k6:=(hrx.cells 6)
     have k7:=(hrx.cells 7)
     have k8:=(hrx.cells 8)
     have k9:=(hrx.cells 9)
     have k10:=(hrx.cells 10)
     have k11:=(hrx.cells 11)
     have k12:=(hrx.cells 12)
     have HPR1:=Lib.hid hPr1
     have HPR3:=Lib.hid hPr3
     have HX5R:=Lib.hid hX5r
     have HX6R:=Lib.hid hX6
     have HMI:=Lib.hid hMI
     have HRXR:=Lib.hid hrx
     have HER:=Lib.hid hEr
     clear hPr1 hPr3 hX5r hX6 hMI hrx hEr hown hrd hgr hbx
     go_wp2_with fail
     refine at_abs (F:=fun Wf=>Bxx Wf (w.heap.size+2) #[.slice r1 qa.head.length s1,.int .i64 qa.frm,.int .i64 qa.period,.slice r2 qa.cycle.length s2,.slice r3 qb.head.length s3,.int .i64 qb.frm,.int .i64 qb.period,.slice r4 qb.cycle.length s4,.int .i64 st,.slice t2a (laterP qa st).cycle.length t2b,.slice t4a ys.length t4b,.int .i64 G,.map (some mb)] 139∧(∀ k,k≠w.heap.size+2→Wf.heap[k]? = wr.heap[k]?)∧Below w.heap.size w Wf∧wr.heap.size≤Wf.heap.size)
      ⟨set13 HRXR.out,fun k hk=>set13_ne hk,by have hEr:=HER.out;exact xE,by simp⟩ ?_
     clear c0 c1 c2 c3 c4 c5 c6 c7 c8 c9 c10 c11 c12 k0 k1 k2 k3 k4 k5 k6 k7 k8 k9 k10 k11 k12
     rintro Wf ⟨hbf,hkf,hEf,hzf⟩
     have k0:=(hbf.cells 0).1
     have k1:=(hbf.cells 1).1
     have k2:=(hbf.cells 2).1
     have k3:=(hbf.cells 3).1
     have k4:=(hbf.cells 4).1
     have k5:=(hbf.cells 5).1
     have k6:=(hbf.cells 6).1
     have k7:=(hbf.cells 7).1
     have k8:=(hbf.cells 8).1
     have k9:=(hbf.cells 9).1
     have k10:=(hbf.cells 10).1
     have k11:=(hbf.cells 11).1
     have k12:=(hbf.cells 12).1
     have hcyc:∀ (q:Per),q.frm≤st→(laterP q st).cycle=isort (cycL q st):=fun q hq=>by show isort (cycL q (max q.frm st))=_;rw [Int.max_eq_right hq]
     have g1:PerIn Wf w.heap.size Wf.heap.size (.slice r1 qa.head.length s1) (.slice r2 qa.cycle.length s2) qa:=(HPR1.out.of_blocks fun j h1 h2=>hkf j (by omega)).mono (by omega) (by omega)
     have g2:PerIn Wf w.heap.size Wf.heap.size (.slice r3 qb.head.length s3) (.slice r4 qb.cycle.length s4) qb:=(HPR3.out.of_blocks fun j h1 h2=>hkf j (by omega)).mono (by omega) (by omega)
     have g3:IntsIn Wf w.heap.size Wf.heap.size (.slice t2a (laterP qa st).cycle.length t2b) (laterP qa st).cycle:=(HX5R.out.of_blocks fun j h1 h2=>hkf j (by omega)).mono (by omega) (by omega)
     have g4:IntsIn Wf w.heap.size Wf.heap.size (.slice t4a ys.length t4b) ys:=(HX6R.out.of_blocks fun j h1 h2=>hkf j (by omega)).mono (by omega) (by omega)
     have g5:=(HMI.out.of_blocks (w':=Wf) fun j h1 h2=>hkf j (by omega)).mono_hi hzf
     rw [hcyc qa (by omega)] at g3
     rw [← HYS.out,hcyc qb (by omega)] at g4 g5
     rw [← HG.out] at g5
     exact bodyPost_ret (v:=pairV (.slice r1 qa.head.length s1) (.slice r2 qa.cycle.length s2) (.slice r3 qb.head.length s3) (.slice r4 qb.cycle.length s4) qa qb st (.slice t2a (laterP qa st).cycle.length t2b) (.slice t4a ys.length t4b) G mb) (by simp [results,Tryz.results147,go_sem, *]) rfl
      ⟨_,_,_,_,.slice t2a (isort (cycL qa st)).length t2b,.slice t4a (isort (cycL qb st)).length t4b,mb,by rw [HG.out,← HSTT.out,← hcyc qa (by omega),← hcyc qb (by omega),HYS.out],by rw [← HSTT.out];exact ⟨g1,g2,g3,g4,g5,by omega⟩,hEf⟩
end Go.Proofs.YthjnojbeimchdaaGreat
