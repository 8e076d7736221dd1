/- Part 5 of what the claims of this seat rest on. -/
import Derived.Test.YthjnojbeimchdaaGreatB4
import Derived.Laws.EntriesVeiled
import Derived.Deep.RegionLaw
import Derived.Lib.SliceRun
set_option linter.unusedVariables false
set_option linter.unusedSimpArgs false
namespace Kal
instance:Inhabited Per:=⟨⟨[],0,0,[]⟩⟩
noncomputable def canonC (S:Int→Prop):Per:=Classical.epsilon fun c=>IsCanon c S
theorem canonC_is {S:Int→Prop} (h:∃ c,IsCanon c S):IsCanon (canonC S) S:=Classical.epsilon_spec h
theorem canonC_eq {S:Int→Prop} {c:Per} (h:IsCanon c S):canonC S=c:=(canonC_is ⟨c,h⟩).unique h
theorem canon_of_pfrom {S:Int→Prop} {f d:Int} (hf:0≤f) (hd:1≤d) (hS0:∀ n,S n→0≤n) (hp:PFrom S f d):∃ c,IsCanon c S:=by
 have h:=per_of_list (S:=S) (f:=f) (d:=d) (hl:=sel S 0 f) (cl:=sel (fun n=>S (f+n)) 0 d) hf hd hS0 hp (sel_rise (Int.le_refl _)) (sel_rise (Int.le_refl _))
  (fun n h1 h2=>by rw [sel_mem (Int.le_refl _)];exact ⟨fun h=>h.2.2,fun h=>⟨h1,h2,h⟩⟩) (fun n h1 h2=>by rw [sel_mem (Int.le_refl _)];exact ⟨fun h=>h.2.2,fun h=>⟨h1,h2,h⟩⟩)
 obtain ⟨q,hq⟩:=exists_canon h.1
 exact ⟨q,hq.congr h.2⟩
structure Fac (s:Int) (p:Per):Prop where
 wf:p.WF
 low:∀ n,p.mem n→s≤n
 frm:p.frm≤s+9
 dvd:p.period∣27720
theorem Fac.per {s:Int} {p:Per} (h:Fac s p):p.period≤27720:=Int.le_of_dvd (by decide) h.dvd
theorem fac_canon {s f d:Int} {S:Int→Prop} {c:Per} (h:IsCanon c S) (hlow:∀ n,S n→s≤n) (hf:0≤f) (hfs:f≤s+9) (hd:1≤d) (hdv:d∣27720) (hp:PFrom S f d):Fac s c:=
 ⟨h.wf,fun n hn=>hlow n ((h.mem n).1 hn),Int.le_trans (h.frm_le hf hd hp) hfs,Int.dvd_trans (h.dvd hd hp.ev) hdv⟩
theorem Fac.canon {s:Int} {p:Per} (h:Fac s p):IsCanon (canonC p.mem) p.mem∧Fac s (canonC p.mem):=by
 have h1:=canonC_is (exists_canon h.wf)
 exact ⟨h1,fac_canon h1 h.low h.wf.frm h.frm h.wf.per h.dvd h.wf.pfrom⟩
theorem Fac.op {s:Int} {p q:Per} (hp:Fac s p) (hq:Fac s q) {U:Int→Prop} (g:Prop→Prop→Prop) (hU:∀ n,U n↔g (p.mem n) (q.mem n)) (hlow:∀ n,U n→s≤n) (h0:∀ n,U n→0≤n):IsCanon (canonC U) U∧Fac s (canonC U)∧PFrom U (max p.frm q.frm) (lcmI p.period q.period)∧lcmI p.period q.period∣27720:=by
 have a1:=hp.wf.per
 have b1:=hq.wf.per
 have f1:=hp.wf.frm
 have hl:=lcmI_pos a1 b1
 have hdv:lcmI p.period q.period∣27720:=by
  rw [lcmI_eq a1 b1]
  have h1:p.period.natAbs∣27720:=Int.natAbs_dvd_natAbs.2 hp.dvd
  have h2:q.period.natAbs∣27720:=Int.natAbs_dvd_natAbs.2 hq.dvd
  exact Int.natCast_dvd_natCast.2 (Nat.lcm_dvd h1 h2)
 have hpf:PFrom U (max p.frm q.frm) (lcmI p.period q.period):=((hp.wf.pfrom.mono (show p.frm≤max p.frm q.frm by omega)).of_dvd a1 hl lcmI_dvd_left).op ((hq.wf.pfrom.mono (show q.frm≤max p.frm q.frm by omega)).of_dvd b1 hl lcmI_dvd_right) g (fun n _=>hU n) (by omega)
 have hc:=canonC_is (canon_of_pfrom (show 0≤max p.frm q.frm by omega) hl h0 hpf)
 exact ⟨hc,fac_canon hc hlow (by omega) (by have:=hp.frm;have:=hq.frm;omega) hl hdv hpf,hpf,hdv⟩
noncomputable def andP (p q:Per):Per:=canonC fun n=>p.mem n∧q.mem n
noncomputable def orP (p q:Per):Per:=canonC fun n=>p.mem n∨q.mem n
noncomputable def minusP (p q:Per):Per:=canonC fun n=>p.mem n∧¬ q.mem n
theorem Fac.and {s:Int} {p q:Per} (hp:Fac s p) (hq:Fac s q):IsCanon (andP p q) (fun n=>p.mem n∧q.mem n)∧Fac s (andP p q):=by
 have h:=hp.op hq And (fun n=>Iff.rfl) (fun n h=>hp.low n h.1) (fun n h=>h.1.1)
 exact ⟨h.1,h.2.1⟩
theorem Fac.or {s:Int} {p q:Per} (hp:Fac s p) (hq:Fac s q):IsCanon (orP p q) (fun n=>p.mem n∨q.mem n)∧Fac s (orP p q):=by
 have h:=hp.op hq Or (fun n=>Iff.rfl) (fun n h=>h.elim (hp.low n) (hq.low n)) (fun n h=>h.elim (fun h=>h.1) (fun h=>h.1))
 exact ⟨h.1,h.2.1⟩
theorem Fac.minus {s:Int} {p q:Per} (hp:Fac s p) (hq:Fac s q):IsCanon (minusP p q) (fun n=>p.mem n∧¬ q.mem n)∧Fac s (minusP p q):=by
 have h:=hp.op hq (fun a b=>a∧¬ b) (fun n=>Iff.rfl) (fun n h=>hp.low n h.1) (fun n h=>h.1.1)
 exact ⟨h.1,h.2.1⟩
structure FirstPair (P:Nat→Nat→Prop) (n i j:Nat):Prop where
 lt:i<j
 lim:j<n
 is:P i j
 rows:∀ i' j',i'<i→i'<j'→j'<n→¬ P i' j'
 row:∀ j',i<j'→j'<j→¬ P i j'
def NoPair (P:Nat→Nat→Prop) (n:Nat):Prop:=∀ i j,i<j→j<n→¬ P i j
theorem FirstPair.unique {P:Nat→Nat→Prop} {n i j i' j':Nat} (h:FirstPair P n i j) (g:FirstPair P n i' j'):i=i'∧j=j':=by
 have hi:i=i':=by
  rcases Nat.lt_trichotomy i i' with h1|h1|h1
  ·exact absurd h.is (g.rows i j h1 h.lt h.lim)
  ·exact h1
  ·exact absurd g.is (h.rows i' j' h1 g.lt g.lim)
 subst hi
 refine ⟨rfl,?_⟩
 rcases Nat.lt_trichotomy j j' with h1|h1|h1
 ·exact absurd h.is (g.row j h.lt h1)
 ·exact h1
 ·exact absurd g.is (h.row j' g.lt h1)
theorem FirstPair.no {P:Nat→Nat→Prop} {n i j:Nat} (h:FirstPair P n i j) (g:NoPair P n):False:=g i j h.lt h.lim h.is
def divB (p q:Per):Bool:=p.period % q.period == 0 || q.period % p.period == 0
def divAt (t:List Per) (i j:Nat):Prop:=divB (t.getD i default) (t.getD j default)=true
noncomputable def mergeAt (t:List Per) (i j:Nat):List Per:=(t.set i (andP (t.getD i default) (t.getD j default))).eraseIdx j
inductive MergeTo:List Per→List Per→Prop
 | done {t:List Per} (h:NoPair (divAt t) t.length):MergeTo t t
 | step {t u:List Per} {i j:Nat} (h:FirstPair (divAt t) t.length i j) (hu:MergeTo (mergeAt t i j) u):MergeTo t u
theorem MergeTo.unique {t u v:List Per} (h:MergeTo t u) (g:MergeTo t v):u=v:=by
 induction h generalizing v with
 | done h=>
  cases g with
  | done _=>rfl
  | step g _=>exact (g.no h).elim
 | step h _ ih=>
  cases g with
  | done g=>exact (h.no g).elim
  | step g gu=>
   obtain ⟨rfl,rfl⟩:=h.unique g
   exact ih gu
structure CFac (s:Int) (p:Per):Prop where
 fac:Fac s p
 can:IsCanon p p.mem
theorem CFac.canonC {s:Int} {p:Per} (h:CFac s p):Kal.canonC p.mem=p:=canonC_eq h.can
theorem Fac.ccanon {s:Int} {p:Per} (h:Fac s p):CFac s (Kal.canonC p.mem):=⟨h.canon.2,h.canon.1.congr fun n=>(h.canon.1.mem n).symm⟩
theorem Fac.cand {s:Int} {p q:Per} (hp:Fac s p) (hq:Fac s q):CFac s (andP p q):=⟨(hp.and hq).2,(hp.and hq).1.congr fun n=>((hp.and hq).1.mem n).symm⟩
theorem Fac.cor {s:Int} {p q:Per} (hp:Fac s p) (hq:Fac s q):CFac s (orP p q):=⟨(hp.or hq).2,(hp.or hq).1.congr fun n=>((hp.or hq).1.mem n).symm⟩
theorem mem_getD {α:Type} {l:List α} {i:Nat} {d:α} (h:i<l.length):l.getD i d∈l:=by
 rw [List.getD_eq_getElem?_getD,List.getElem?_eq_getElem h];exact List.getElem_mem h
theorem mem_erase_set {α:Type} {l:List α} {i j:Nat} {v x:α} (h:x∈(l.set i v).eraseIdx j):x=v∨x∈l:=by
 have h1:=List.mem_of_mem_eraseIdx h
 rcases List.mem_or_eq_of_mem_set h1 with h2|h2
 ·exact .inr h2
 ·exact .inl h2
theorem erase_split {α:Type} {l:List α} {i j:Nat} {d:α} (hij:i<j) (hj:j<l.length) (v:α) (x:α):x∈(l.set i v).eraseIdx j↔x=v∨∃ k,k<l.length∧k≠i∧k≠j∧x=l.getD k d:=by
 rw [List.mem_eraseIdx_iff_getElem]
 constructor
 ·rintro ⟨k,hk,hkj,rfl⟩
  rw [List.length_set] at hk
  by_cases e:k=i
  ·subst e;left;rw [List.getElem_set_self]
  ·right;exact ⟨k,hk,e,hkj,by rw [List.getElem_set_ne (fun h=>e h.symm),List.getD_eq_getElem?_getD,List.getElem?_eq_getElem hk];rfl⟩
 ·rintro (rfl|⟨k,hk,h1,h2,rfl⟩)
  ·exact ⟨i,by rw [List.length_set];omega,by omega,by rw [List.getElem_set_self]⟩
  ·exact ⟨k,by rw [List.length_set];exact hk,h2,by rw [List.getElem_set_ne (fun h=>h1 h.symm),List.getD_eq_getElem?_getD,List.getElem?_eq_getElem hk];rfl⟩
theorem mem_iff_getD {α:Type} {l:List α} {d x:α}:x∈l↔∃ k,k<l.length∧x=l.getD k d:=by
 rw [List.mem_iff_getElem]
 constructor
 ·rintro ⟨k,hk,rfl⟩;exact ⟨k,hk,by rw [List.getD_eq_getElem?_getD,List.getElem?_eq_getElem hk];rfl⟩
 ·rintro ⟨k,hk,rfl⟩;exact ⟨k,hk,by rw [List.getD_eq_getElem?_getD,List.getElem?_eq_getElem hk];rfl⟩
theorem mergeAt_length {t:List Per} {i j:Nat} (h:j<t.length):(mergeAt t i j).length=t.length-1:=by
 unfold mergeAt;rw [List.length_eraseIdx,List.length_set,if_pos h]
theorem mergeAt_mem {s:Int} {t:List Per} {i j:Nat} (hij:i<j) (hj:j<t.length) (hf:∀ p∈t,Fac s p) (n:Int):tmem (mergeAt t i j) n↔tmem t n:=by
 have fi:=hf _ (mem_getD (d:=default) (show i<t.length by omega))
 have fj:=hf _ (mem_getD (d:=default) hj)
 have hc:=(fi.and fj).1
 unfold tmem mergeAt
 constructor
 ·intro h p hp
  obtain ⟨k,hk,rfl⟩:=(mem_iff_getD (d:=default)).1 hp
  have h1:=(hc.mem n).1 (h _ ((erase_split (d:=default) hij hj _ _).2 (.inl rfl)))
  by_cases e1:k=i
  ·subst e1;exact h1.1
  ·by_cases e2:k=j
   ·subst e2;exact h1.2
   ·exact h _ ((erase_split (d:=default) hij hj _ _).2 (.inr ⟨k,hk,e1,e2,rfl⟩))
 ·intro h p hp
  rcases (erase_split (d:=default) hij hj _ _).1 hp with rfl|⟨k,hk,_,_,rfl⟩
  ·exact (hc.mem n).2 ⟨h _ (mem_getD (by omega)),h _ (mem_getD hj)⟩
  ·exact h _ (mem_getD hk)
theorem mergeAt_fac {s:Int} {t:List Per} {i j:Nat} (hij:i<j) (hj:j<t.length) (hf:∀ p∈t,CFac s p):∀ p∈mergeAt t i j,CFac s p:=fun p hp=>by
 rcases mem_erase_set hp with rfl|hp
 ·exact (hf _ (mem_getD (by omega))).fac.cand (hf _ (mem_getD hj)).fac
 ·exact hf p hp
theorem MergeTo.ok {s:Int} {t u:List Per} (h:MergeTo t u) (hf:∀ p∈t,CFac s p):(∀ p∈u,CFac s p)∧(∀ n,tmem u n↔tmem t n)∧u.length≤t.length∧(t≠[]→u≠[]):=by
 induction h with
 | done h=>exact ⟨hf,fun n=>Iff.rfl,Nat.le_refl _,id⟩
 | @step t u i j h _ ih=>
  have h1:=mergeAt_fac h.lt h.lim hf
  obtain ⟨a,b,c,d⟩:=ih h1
  have hl:=mergeAt_length (t:=t) (i:=i) h.lim
  refine ⟨a,fun n=>(b n).trans (mergeAt_mem h.lt h.lim (fun p hp=>(hf p hp).fac) n),by omega,fun _=>d fun e=>?_⟩
  rw [e] at hl
  have:=h.lt;have:=h.lim
  simp at hl;omega
end Kal
namespace Kal
def CTerm (s:Int) (t:List Per):Prop:=t≠[]∧∀ p∈t,CFac s p
def FTerm (s:Int) (t:List Per):Prop:=t≠[]∧∀ p∈t,Fac s p
def MergedTo (t u:List Per):Prop:=MergeTo (t.map fun p=>canonC p.mem) u
theorem MergedTo.unique {t u v:List Per} (h:MergedTo t u) (g:MergedTo t v):u=v:=MergeTo.unique h g
theorem MergedTo.ok {s:Int} {t u:List Per} (h:MergedTo t u) (hf:FTerm s t):CTerm s u∧(∀ n,tmem u n↔tmem t n)∧u.length≤t.length:=by
 obtain ⟨h1,h2,h3,h4⟩:=MergeTo.ok h (s:=s) fun p hp=>by
  obtain ⟨q,hq,rfl⟩:=List.mem_map.1 hp
  exact (hf.2 q hq).ccanon
 refine ⟨⟨h4 fun e=>hf.1 (List.map_eq_nil_iff.1 e),h1⟩,fun n=>(h2 n).trans ?_,by simpa using h3⟩
 unfold tmem
 constructor
 ·intro h p hp
  exact ((hf.2 p hp).canon.1.mem n).1 (h _ (List.mem_map.2 ⟨p,hp,rfl⟩))
 ·intro h p hp
  obtain ⟨q,hq,rfl⟩:=List.mem_map.1 hp
  exact ((hf.2 q hq).canon.1.mem n).2 (h q hq)
inductive MergeAll:List (List Per)→List (List Per)→Prop
 | nil:MergeAll [] []
 | skip {t u:List Per} {L l:List (List Per)} (h:MergedTo t u) (hb:barrenT u) (hl:MergeAll L l):MergeAll (t :: L) l
 | keep {t u:List Per} {L l:List (List Per)} (h:MergedTo t u) (hb:¬ barrenT u) (hl:MergeAll L l):MergeAll (t :: L) (u :: l)
theorem MergeAll.app {L l L' l':List (List Per)} (h:MergeAll L l) (g:MergeAll L' l'):MergeAll (L ++ L') (l ++ l'):=by
 induction h with
 | nil=>exact g
 | skip h hb _ ih=>exact .skip h hb ih
 | keep h hb _ ih=>exact .keep h hb ih
theorem MergeAll.skip1 {L l:List (List Per)} {t u:List Per} (h:MergeAll L l) (g:MergedTo t u) (hb:barrenT u):MergeAll (L ++ [t]) l:=by
 have:=h.app (.skip g hb .nil);rwa [List.append_nil] at this
theorem MergeAll.keep1 {L l:List (List Per)} {t u:List Per} (h:MergeAll L l) (g:MergedTo t u) (hb:¬ barrenT u):MergeAll (L ++ [t]) (l ++ [u]):=h.app (.keep g hb .nil)
theorem MergeAll.unique {L l m:List (List Per)} (h:MergeAll L l) (g:MergeAll L m):l=m:=by
 induction h generalizing m with
 | nil=>cases g;rfl
 | skip h hb _ ih=>
  cases g with
  | skip g gb gl=>exact ih gl
  | keep g gb gl=>rw [h.unique g] at hb;exact absurd hb gb
 | keep h hb _ ih=>
  cases g with
  | skip g gb gl=>rw [h.unique g] at hb;exact absurd gb hb
  | keep g gb gl=>rw [h.unique g,ih gl]
theorem mmem_cons {t:List Per} {L:List (List Per)} {n:Int}:mmem (t :: L) n↔tmem t n∨mmem L n:=by
 unfold mmem;simp
theorem mmem_nil {n:Int}:¬ mmem [] n:=by unfold mmem;simp
theorem mmem_append {L M:List (List Per)} {n:Int}:mmem (L ++ M) n↔mmem L n∨mmem M n:=by
 unfold mmem
 constructor
 ·rintro ⟨t,ht,h⟩
  rcases List.mem_append.1 ht with ht|ht
  ·exact .inl ⟨t,ht,h⟩
  ·exact .inr ⟨t,ht,h⟩
 ·rintro (⟨t,ht,h⟩|⟨t,ht,h⟩)
  ·exact ⟨t,List.mem_append_left _ ht,h⟩
  ·exact ⟨t,List.mem_append_right _ ht,h⟩
theorem MergeAll.ok {s:Int} {L l:List (List Per)} (h:MergeAll L l) (hf:∀ t∈L,FTerm s t):(∀ t∈l,CTerm s t∧¬ barrenT t)∧(∀ n,mmem l n↔mmem L n)∧l.length≤L.length∧∀ K:Nat,(∀ t∈L,t.length≤K)→∀ t∈l,t.length≤K:=by
 induction h with
 | nil=>exact ⟨by simp,fun n=>Iff.rfl,Nat.le_refl _,fun K h=>h⟩
 | skip h hb _ ih=>
  obtain ⟨a,b,c,d⟩:=ih fun t ht=>hf t (by simp [ht])
  obtain ⟨h1,h2,h3⟩:=h.ok (hf _ (by simp))
  refine ⟨a,fun n=>?_,by simp;omega,fun K hK=>d K fun t ht=>hK t (by simp [ht])⟩
  rw [mmem_cons,b n,← h2 n]
  exact ⟨.inr,fun h=>h.elim (fun h=>absurd h (hb n)) id⟩
 | keep h hb _ ih=>
  obtain ⟨a,b,c,d⟩:=ih fun t ht=>hf t (by simp [ht])
  obtain ⟨h1,h2,h3⟩:=h.ok (hf _ (by simp))
  refine ⟨fun t ht=>?_,fun n=>?_,by simp;omega,fun K hK t ht=>?_⟩
  ·rcases List.mem_cons.1 ht with rfl|ht
   ·exact ⟨h1,hb⟩
   ·exact a t ht
  ·rw [mmem_cons,mmem_cons,b n,h2 n]
  ·rcases List.mem_cons.1 ht with rfl|ht
   ·exact Nat.le_trans h3 (hK _ (by simp))
   ·exact d K (fun t ht=>hK t (by simp [ht])) t ht
def joinable (l:List (List Per)) (i j:Nat):Prop:=(l.getD i []).length=1∧(l.getD j []).length=1∧divB ((l.getD i []).getD 0 default) ((l.getD j []).getD 0 default)=true
noncomputable def joinAt (l:List (List Per)) (i j:Nat):List (List Per):=(l.set i [orP ((l.getD i []).getD 0 default) ((l.getD j []).getD 0 default)]).eraseIdx j
inductive JoinTo:List (List Per)→List (List Per)→Prop
 | done {l:List (List Per)} (h:NoPair (joinable l) l.length):JoinTo l l
 | step {l m:List (List Per)} {i j:Nat} (h:FirstPair (joinable l) l.length i j) (hm:JoinTo (joinAt l i j) m):JoinTo l m
theorem JoinTo.unique {t u v:List (List Per)} (h:JoinTo t u) (g:JoinTo t v):u=v:=by
 induction h generalizing v with
 | done h=>
  cases g with
  | done _=>rfl
  | step g _=>exact (g.no h).elim
 | step h _ ih=>
  cases g with
  | done g=>exact (h.no g).elim
  | step g gu=>
   obtain ⟨rfl,rfl⟩:=h.unique g
   exact ih gu
theorem one_get {t:List Per} (h:t.length=1):t=[t.getD 0 default]:=by
 match t,h with
 | [p],_=>rfl
theorem tmem_one {p:Per} {n:Int}:tmem [p] n↔p.mem n:=by unfold tmem;simp
theorem joinAt_ok {s:Int} {l:List (List Per)} {i j:Nat} (hij:i<j) (hj:j<l.length) (hJ:joinable l i j) (hf:∀ t∈l,CTerm s t∧¬ barrenT t):(∀ t∈joinAt l i j,CTerm s t∧¬ barrenT t)∧(∀ n,mmem (joinAt l i j) n↔mmem l n):=by
 obtain ⟨h1,h2,h3⟩:=hJ
 have mi:=mem_getD (l:=l) (d:=[]) (show i<l.length by omega)
 have mj:=mem_getD (l:=l) (d:=[]) hj
 have fi:=(hf _ mi).1.2 _ (mem_getD (d:=default) (show 0<(l.getD i []).length by omega))
 have fj:=(hf _ mj).1.2 _ (mem_getD (d:=default) (show 0<(l.getD j []).length by omega))
 have ei:=one_get h1
 have ej:=one_get h2
 have hc:=fi.fac.or fj.fac
 unfold joinAt
 generalize hp:(l.getD i []).getD 0 default=p at *
 generalize hq:(l.getD j []).getD 0 default=q at *
 refine ⟨fun t ht=>?_,fun n=>?_⟩
 ·rcases mem_erase_set ht with rfl|ht
  ·refine ⟨⟨by simp,fun r hr=>?_⟩,fun hb=>?_⟩
   ·obtain rfl:r=orP p q:=by simpa using hr
    exact fi.fac.cor fj.fac
   ·refine (hf _ mi).2 fun n hn=>hb n ?_
    rw [ei,tmem_one] at hn
    rw [tmem_one]
    exact (hc.1.mem n).2 (.inl hn)
  ·exact hf t ht
 ·unfold mmem
  constructor
  ·rintro ⟨t,ht,hn⟩
   rcases (erase_split (d:=[]) hij hj _ _).1 ht with rfl|⟨k,hk,_,_,rfl⟩
   ·rw [tmem_one,hc.1.mem n] at hn
    rcases hn with hn|hn
    ·exact ⟨_,mi,by rw [ei,tmem_one];exact hn⟩
    ·exact ⟨_,mj,by rw [ej,tmem_one];exact hn⟩
   ·exact ⟨_,mem_getD hk,hn⟩
  ·rintro ⟨t,ht,hn⟩
   obtain ⟨k,hk,rfl⟩:=(mem_iff_getD (d:=[])).1 ht
   by_cases e1:k=i
   ·subst e1
    refine ⟨_,(erase_split (d:=[]) hij hj _ _).2 (.inl rfl),?_⟩
    rw [ei,tmem_one] at hn
    rw [tmem_one];exact (hc.1.mem n).2 (.inl hn)
   ·by_cases e2:k=j
    ·subst e2
     refine ⟨_,(erase_split (d:=[]) hij hj _ _).2 (.inl rfl),?_⟩
     rw [ej,tmem_one] at hn
     rw [tmem_one];exact (hc.1.mem n).2 (.inr hn)
    ·exact ⟨_,(erase_split (d:=[]) hij hj _ _).2 (.inr ⟨k,hk,e1,e2,rfl⟩),hn⟩
theorem joinAt_length {l:List (List Per)} {i j:Nat} (h:j<l.length):(joinAt l i j).length=l.length-1:=by
 unfold joinAt;rw [List.length_eraseIdx,List.length_set,if_pos h]
theorem joinAt_len {l:List (List Per)} {i j K:Nat} (hK:1≤K) (h:∀ t∈l,t.length≤K):∀ t∈joinAt l i j,t.length≤K:=fun t ht=>by
 rcases mem_erase_set ht with rfl|ht
 ·simpa using hK
 ·exact h t ht
theorem JoinTo.ok {s:Int} {l m:List (List Per)} (h:JoinTo l m) (hf:∀ t∈l,CTerm s t∧¬ barrenT t):(∀ t∈m,CTerm s t∧¬ barrenT t)∧(∀ n,mmem m n↔mmem l n)∧m.length≤l.length∧∀ K:Nat,1≤K→(∀ t∈l,t.length≤K)→∀ t∈m,t.length≤K:=by
 induction h with
 | done h=>exact ⟨hf,fun n=>Iff.rfl,Nat.le_refl _,fun K _ h=>h⟩
 | @step l m i j h _ ih=>
  obtain ⟨h1,h2⟩:=joinAt_ok h.lt h.lim h.is hf
  obtain ⟨a,b,c,d⟩:=ih h1
  have hl:=joinAt_length (l:=l) (i:=i) h.lim
  exact ⟨a,fun n=>(b n).trans (h2 n),by omega,fun K hK hh=>d K hK (joinAt_len hK hh)⟩
open Classical in
noncomputable def dd1 (out:List (List Per)) (t:List Per):List (List Per):=if t∈out then out else out ++ [t]
noncomputable def ddL (out l:List (List Per)):List (List Per):=l.foldl dd1 out
theorem ddL_snoc {out l:List (List Per)} {t:List Per}:ddL out (l ++ [t])=dd1 (ddL out l) t:=by unfold ddL;rw [List.foldl_append];rfl
theorem dd1_in {out:List (List Per)} {t:List Per} (h:t∈out):dd1 out t=out:=if_pos h
theorem dd1_not {out:List (List Per)} {t:List Per} (h:t ∉ out):dd1 out t=out ++ [t]:=if_neg h
theorem mem_dd1 {out:List (List Per)} {t x:List Per}:x∈dd1 out t↔x∈out∨x=t:=by
 by_cases h:t∈out
 ·rw [dd1_in h];exact ⟨.inl,fun g=>g.elim id fun e=>e ▸ h⟩
 ·rw [dd1_not h];simp
theorem mem_ddL:∀ {l out:List (List Per)} {x:List Per},x∈ddL out l↔x∈out∨x∈l
 | [],out,x=>by simp [ddL]
 | t :: l,out,x=>by
  show x∈ddL (dd1 out t) l↔_
  rw [mem_ddL,mem_dd1,List.mem_cons,or_assoc]
theorem ddL_length:∀ {l out:List (List Per)},(ddL out l).length≤out.length+l.length
 | [],out=>by simp [ddL]
 | t :: l,out=>by
  have h1:=ddL_length (l:=l) (out:=dd1 out t)
  have h2:(dd1 out t).length≤out.length+1:=by
   by_cases h:t∈out
   ·rw [dd1_in h];omega
   ·rw [dd1_not h];simp
  show (ddL (dd1 out t) l).length≤_
  simp;omega
def NormTo (L m:List (List Per)):Prop:=∃ l k,MergeAll L l∧JoinTo l k∧m=ddL [] k
theorem NormTo.unique {L m m':List (List Per)} (h:NormTo L m) (g:NormTo L m'):m=m':=by
 obtain ⟨l,k,h1,h2,rfl⟩:=h
 obtain ⟨l',k',g1,g2,rfl⟩:=g
 obtain rfl:=h1.unique g1
 rw [h2.unique g2]
theorem NormTo.ok {s:Int} {L m:List (List Per)} (h:NormTo L m) (hf:∀ t∈L,FTerm s t):(∀ t∈m,CTerm s t∧¬ barrenT t)∧(∀ n,mmem m n↔mmem L n)∧m.length≤L.length∧∀ K:Nat,1≤K→(∀ t∈L,t.length≤K)→∀ t∈m,t.length≤K:=by
 obtain ⟨l,k,h1,h2,rfl⟩:=h
 obtain ⟨a1,a2,a3,a4⟩:=h1.ok hf
 obtain ⟨b1,b2,b3,b4⟩:=h2.ok a1
 have hm:∀ x,x∈ddL [] k↔x∈k:=fun x=>by rw [mem_ddL];simp
 refine ⟨fun t ht=>b1 t ((hm t).1 ht),fun n=>?_,?_,fun K hK hh t ht=>b4 K hK (a4 K hh) t ((hm t).1 ht)⟩
 ·rw [← a2 n,← b2 n]
  unfold mmem
  exact ⟨fun ⟨t,ht,h⟩=>⟨t,(hm t).1 ht,h⟩,fun ⟨t,ht,h⟩=>⟨t,(hm t).2 ht,h⟩⟩
 ·have:=ddL_length (l:=k) (out:=[])
  simp at this;omega
def NormOk (m:List (List Per)):Prop:=m.length≤64∧∀ t∈m,t.length≤4
end Kal
namespace Kal
def NextF (F:Int) (S:Int→Prop) (f n:Int) (b:Bool):Prop:=(b=true∧f≤n∧n≤F∧S n∧∀ x,f≤x→x<n→¬ S x)∨(b=false∧n=0∧∀ x,f≤x→x≤F→¬ S x)
theorem NextF.unique {F f n m:Int} {S:Int→Prop} {b c:Bool} (h:NextF F S f n b) (g:NextF F S f m c):n=m∧b=c:=by
 rcases h with ⟨rfl,h1,h2,h3,h4⟩|⟨rfl,rfl,h1⟩ <;> rcases g with ⟨rfl,g1,g2,g3,g4⟩|⟨rfl,rfl,g1⟩
 ·refine ⟨?_,rfl⟩
  rcases Int.lt_trichotomy n m with h|h|h
  ·exact absurd h3 (g4 n h1 h)
  ·exact h
  ·exact absurd g3 (h4 m g1 h)
 ·exact absurd h3 (g1 n h1 h2)
 ·exact absurd g3 (h1 m g1 g2)
 ·exact ⟨rfl,rfl⟩
theorem NextF.congr {F f n:Int} {S T:Int→Prop} {b:Bool} (h:NextF F S f n b) (hs:∀ x,f≤x→x≤F→(T x↔S x)):NextF F T f n b:=by
 rcases h with ⟨rfl,h1,h2,h3,h4⟩|⟨rfl,rfl,h1⟩
 ·exact .inl ⟨rfl,h1,h2,(hs n h1 h2).2 h3,fun x a c=>by rw [hs x a (by omega)];exact h4 x a c⟩
 ·exact .inr ⟨rfl,rfl,fun x a c=>by rw [hs x a c];exact h1 x a c⟩
def BestE (S:Int→Prop) (f n:Int) (b:Bool):Prop:=(b=true∧f≤n∧S n∧∀ x,f≤x→x<n→¬ S x)∨(b=false∧n=0∧∀ x,f≤x→¬ S x)
theorem BestE.start {f:Int}:BestE (fun _=>False) f 0 false:=.inr ⟨rfl,rfl,fun _ _ h=>h⟩
theorem BestE.congr {f n:Int} {S T:Int→Prop} {b:Bool} (h:BestE S f n b) (hs:∀ x,f≤x→(T x↔S x)):BestE T f n b:=by
 rcases h with ⟨rfl,h1,h3,h4⟩|⟨rfl,rfl,h1⟩
 ·exact .inl ⟨rfl,h1,(hs n h1).2 h3,fun x a c=>by rw [hs x a];exact h4 x a c⟩
 ·exact .inr ⟨rfl,rfl,fun x a=>by rw [hs x a];exact h1 x a⟩
theorem BestE.take {f n d:Int} {S:Int→Prop} {b:Bool} (h:BestE S f n b) (h1:f≤d) (h2:b=false∨d<n):BestE (fun x=>S x∨x=d) f d true:=by
 refine .inl ⟨rfl,h1,.inr rfl,fun x a c e=>?_⟩
 rcases e with e|rfl
 ·rcases h with ⟨rfl,g1,g2,g3⟩|⟨rfl,rfl,g1⟩
  ·rcases h2 with h2|h2
   ·cases h2
   ·exact g3 x a (by omega) e
  ·exact g1 x a e
 ·omega
theorem BestE.pass {f n d:Int} {S:Int→Prop} {b:Bool} (h:BestE S f n b) (h1:¬ (f≤d∧(b=false∨d<n))):BestE (fun x=>S x∨x=d) f n b:=by
 rcases h with ⟨rfl,g1,g2,g3⟩|⟨rfl,rfl,g1⟩
 ·refine .inl ⟨rfl,g1,.inl g2,fun x a c e=>?_⟩
  rcases e with e|rfl
  ·exact g3 x a c e
  ·exact h1 ⟨a,.inr c⟩
 ·refine .inr ⟨rfl,rfl,fun x a e=>?_⟩
  rcases e with e|rfl
  ·exact g1 x a e
  ·exact h1 ⟨a,.inl rfl⟩
def headS (t:List Per) (i k:Nat) (x:Int):Prop:=tmem t x∧((∃ p∈t.take i,x∈p.head)∨x∈((t.getD i default).head.take k))
theorem headS_zero {t:List Per} {x:Int}:headS t 0 0 x↔False:=by simp [headS]
theorem headS_row {t:List Per} {i:Nat} (hi:i<t.length) {x:Int}:headS t (i+1) 0 x↔headS t i (t.getD i default).head.length x:=by
 unfold headS
 have e:t.getD i default=t[i]:=by rw [List.getD_eq_getElem?_getD,List.getElem?_eq_getElem hi];rfl
 rw [List.take_succ_eq_append_getElem hi,List.take_length,e]
 constructor
 ·rintro ⟨h1,⟨p,hp,hx⟩|hx⟩
  ·rcases List.mem_append.1 hp with hp|hp
   ·exact ⟨h1,.inl ⟨p,hp,hx⟩⟩
   ·obtain rfl:p=t[i]:=by simpa using hp
    exact ⟨h1,.inr hx⟩
  ·simp at hx
 ·rintro ⟨h1,⟨p,hp,hx⟩|hx⟩
  ·exact ⟨h1,.inl ⟨p,List.mem_append_left _ hp,hx⟩⟩
  ·exact ⟨h1,.inl ⟨t[i],List.mem_append_right _ (by simp),hx⟩⟩
theorem headS_succ {t:List Per} {i k:Nat} (hk:k<(t.getD i default).head.length) {x:Int}:headS t i (k+1) x↔headS t i k x∨(x=(t.getD i default).head.getD k 0∧tmem t x):=by
 unfold headS
 rw [List.take_succ_eq_append_getElem hk,List.mem_append]
 have e:(t.getD i default).head.getD k 0=(t.getD i default).head[k]:=by rw [List.getD_eq_getElem?_getD,List.getElem?_eq_getElem hk];rfl
 rw [e]
 simp only [List.mem_singleton]
 constructor
 ·rintro ⟨h1,h2|h2|h2⟩
  ·exact .inl ⟨h1,.inl h2⟩
  ·exact .inl ⟨h1,.inr h2⟩
  ·exact .inr ⟨h2,h1⟩
 ·rintro (⟨h1,h2|h2⟩|⟨h1,h2⟩)
  ·exact ⟨h1,.inl h2⟩
  ·exact ⟨h1,.inr (.inl h2)⟩
  ·exact ⟨h2,.inr (.inr h1)⟩
theorem headS_all {t:List Per} (hne:t≠[]) (hw:∀ p∈t,p.WF) {x:Int}:headS t t.length 0 x↔tmem t x∧x<startT t:=by
 unfold headS
 rw [List.take_length]
 constructor
 ·rintro ⟨h1,⟨p,hp,hx⟩|h2⟩
  ·exact ⟨h1,head_early hw hp hx⟩
  ·simp at h2
 ·rintro ⟨h1,h2⟩
  exact ⟨h1,.inl (early_head hne h1 h2)⟩
def EarlyIs (t:List Per) (f n:Int) (b:Bool):Prop:=BestE (fun x=>tmem t x∧x<startT t) f n b
def ClsS (t:List Per) (at_ step x:Int):Prop:=x % step=at_∧∀ p∈t,∃ c∈p.cycle,x % p.period=resP p c
def BestL (F:Int) (S:Int→Prop) (f n:Int) (b:Bool):Prop:=(b=true∧f≤n∧n≤F∧S n∧∀ x,f≤x→x<n→¬ S x)∨(b=false∧n=F∧∀ x,f≤x→x≤F→¬ S x)
theorem BestL.start {F f:Int}:BestL F (fun _=>False) f F false:=.inr ⟨rfl,rfl,fun _ _ _ h=>h⟩
theorem BestL.le {F f n:Int} {S:Int→Prop} {b:Bool} (h:BestL F S f n b):n≤F:=by
 rcases h with ⟨_,_,h,_⟩|⟨_,h,_⟩ <;> omega
theorem BestL.congr {F f n:Int} {S T:Int→Prop} {b:Bool} (h:BestL F S f n b) (hs:∀ x,f≤x→(T x↔S x)):BestL F T f n b:=by
 rcases h with ⟨rfl,h1,h2,h3,h4⟩|⟨rfl,rfl,h1⟩
 ·exact .inl ⟨rfl,h1,h2,(hs n h1).2 h3,fun x a c=>by rw [hs x a];exact h4 x a c⟩
 ·exact .inr ⟨rfl,rfl,fun x a c=>by rw [hs x a];exact h1 x a c⟩
theorem BestL.next {F f n:Int} {S:Int→Prop} {b:Bool} (h:BestL F S f n b):NextF F S f (if b=true then n else 0) b:=by
 rcases h with ⟨rfl,h1,h2,h3,h4⟩|⟨rfl,rfl,h1⟩
 ·exact .inl ⟨rfl,h1,h2,h3,h4⟩
 ·exact .inr ⟨rfl,rfl,h1⟩
def upTo (f at_ step:Int):Int:=if at_<f then at_+(f-at_+step-1) / step*step else at_
theorem upTo_ok {f at_ step:Int} (hs:1≤step) (h0:0≤at_) (h1:at_<step) (hf:0≤f):f≤upTo f at_ step∧upTo f at_ step<f+step∧upTo f at_ step % step=at_∧(∀ x,f≤x→x % step=at_→upTo f at_ step≤x):=by
 have key:f≤upTo f at_ step∧upTo f at_ step<f+step∧upTo f at_ step % step=at_:=by
  unfold upTo
  split
  ·rename_i h
   have e:=Int.emod_add_mul_ediv (f-at_+step-1) step
   have e0:=Int.emod_nonneg (f-at_+step-1) (show step≠0 by omega)
   have e1:=Int.emod_lt_of_pos (f-at_+step-1) (show 0<step by omega)
   rw [Int.mul_comm step] at e
   refine ⟨by omega,by omega,?_⟩
   rw [Int.add_mul_emod_self_right,Int.emod_eq_of_lt h0 h1]
  ·exact ⟨by omega,by omega,Int.emod_eq_of_lt h0 h1⟩
 refine ⟨key.1,key.2.1,key.2.2,fun x hx he=>?_⟩
 obtain ⟨k1,k2,k3⟩:=key
 generalize upTo f at_ step=u at *
 rcases Int.lt_or_le x u with h|h
 ·have hd:step∣u-x:=dvd_sub_of_emod (k3.trans he.symm)
  have:=Int.le_of_dvd (by omega) hd
  omega
 ·exact h
theorem BestL.leaf {F f n at_ step:Int} {S:Int→Prop} {b:Bool} (h:BestL F S f n b) (hs:1≤step) (h0:0≤at_) (h1:at_<step) (hf:0≤f) :
  (upTo f at_ step≤n→BestL F (fun x=>S x∨x % step=at_) f (upTo f at_ step) true)∧(n<upTo f at_ step→BestL F (fun x=>S x∨x % step=at_) f n b):=by
 obtain ⟨k1,k2,k3,k4⟩:=upTo_ok hs h0 h1 hf
 have hle:=h.le
 generalize upTo f at_ step=u at *
 constructor
 ·intro hu
  refine .inl ⟨rfl,k1,by omega,.inr k3,fun x a c e=>?_⟩
  rcases e with e|e
  ·rcases h with ⟨_,g1,g2,g3,g4⟩|⟨_,rfl,g1⟩
   ·exact g4 x a (by omega) e
   ·exact g1 x a (by omega) e
  ·have:=k4 x a e;omega
 ·intro hu
  rcases h with ⟨rfl,g1,g2,g3,g4⟩|⟨rfl,rfl,g1⟩
  ·refine .inl ⟨rfl,g1,g2,.inl g3,fun x a c e=>?_⟩
   rcases e with e|e
   ·exact g4 x a c e
   ·have:=k4 x a e;omega
  ·refine .inr ⟨rfl,rfl,fun x a c e=>?_⟩
   rcases e with e|e
   ·exact g1 x a c e
   ·have:=k4 x a e;omega
def MeetIs (at_ step r P:Int) (a2 s2:Int) (b:Bool):Prop:=(b=true∧s2=lcmI step P∧IsSol at_ step r P a2)∨(b=false∧a2=0∧s2=0∧∀ x,¬ (x % step=at_ % step∧x % P=r % P))
theorem clsS_cons {t:List Per} {p:Per} {at_ step x:Int}:ClsS (p :: t) at_ step x↔∃ c∈p.cycle,x % p.period=resP p c∧ClsS t at_ step x:=by
 unfold ClsS
 constructor
 ·rintro ⟨h1,h2⟩
  obtain ⟨c,hc,he⟩:=h2 p (by simp)
  exact ⟨c,hc,he,h1,fun q hq=>h2 q (by simp [hq])⟩
 ·rintro ⟨c,hc,he,h1,h2⟩
  refine ⟨h1,fun q hq=>?_⟩
  rcases List.mem_cons.1 hq with rfl|hq
  ·exact ⟨c,hc,he⟩
  ·exact h2 q hq
theorem MeetIs.cls {t:List Per} {p:Per} (hw:p.WF) {at_ step a2 s2 c:Int} {b:Bool} (hs:1≤step) (h0:0≤at_) (h1:at_<step) (h:MeetIs at_ step (resP p c) p.period a2 s2 b) (x:Int) :
  (x % p.period=resP p c∧ClsS t at_ step x)↔b=true∧ClsS t a2 s2 x:=by
 have hr:=resP_lt hw c
 have er:=Int.emod_eq_of_lt hr.1 hr.2
 have ea:=Int.emod_eq_of_lt h0 h1
 have hP:=hw.per
 rcases h with ⟨rfl,rfl,hsol⟩|⟨rfl,rfl,rfl,hno⟩
 ·have hc:=isSol_congr (x:=x) hs hP hsol
  rw [er,ea] at hc
  unfold ClsS
  constructor
  ·rintro ⟨g1,g2,g3⟩;exact ⟨rfl,hc.1 ⟨g2,g1⟩,g3⟩
  ·rintro ⟨_,g2,g3⟩
   obtain ⟨k1,k2⟩:=hc.2 g2
   exact ⟨k2,k1,g3⟩
 ·refine ⟨fun ⟨g1,g2,_⟩=>absurd ?_ (hno x),fun h=>by cases h.1⟩
  rw [er,ea];exact ⟨g2,g1⟩
theorem clsS_start {t:List Per} (hw:∀ p∈t,p.WF) {x:Int} (hx:startT t≤x):ClsS t 0 1 x↔tmem t x:=by
 unfold ClsS tmem
 have hs:=(startT_ge (t:=t)).2
 constructor
 ·rintro ⟨_,h⟩ p hp
  exact (mem_resP (hw p hp) (by have:=hs p hp;omega)).2 (h p hp)
 ·intro h
  exact ⟨by omega,fun p hp=>(mem_resP (hw p hp) (by have:=hs p hp;omega)).1 (h p hp)⟩
theorem term_next {F f:Int} {t:List Per} (hne:t≠[]) (hw:∀ p∈t,p.WF) (hF:startT t≤F) {n:Int} {b:Bool} (h:EarlyIs t f n b) :
  (b=true→NextF F (tmem t) f n true)∧(b=false→(F<f∨¬ recT t)→NextF F (tmem t) f 0 false)∧(b=false→∀ m c,NextF F (tmem t) (max f (startT t)) m c→NextF F (tmem t) f m c):=by
 refine ⟨fun hb=>?_,fun hb hno=>?_,fun hb m c hm=>?_⟩
 ·subst hb
  rcases h with ⟨_,h1,h2,h3⟩|⟨h,_⟩
  ·exact .inl ⟨rfl,h1,by omega,h2.1,fun x a c e=>h3 x a c ⟨e,by omega⟩⟩
  ·cases h
 ·subst hb
  rcases h with ⟨h,_⟩|⟨_,_,h1⟩
  ·cases h
  ·refine .inr ⟨rfl,rfl,fun x a c e=>?_⟩
   by_cases hx:x<startT t
   ·exact h1 x a ⟨e,hx⟩
   ·rcases hno with h2|h2
    ·omega
    ·exact h2 ⟨x,by omega,e⟩
 ·subst hb
  rcases h with ⟨h,_⟩|⟨_,_,h1⟩
  ·cases h
  ·have low:∀ x,f≤x→x<max f (startT t)→¬ tmem t x:=fun x a c e=>h1 x a ⟨e,by omega⟩
   rcases hm with ⟨rfl,g1,g2,g3,g4⟩|⟨rfl,rfl,g1⟩
   ·refine .inl ⟨rfl,by omega,g2,g3,fun x a c=>?_⟩
    by_cases hx:x<max f (startT t)
    ·exact low x a hx
    ·exact g4 x (by omega) c
   ·refine .inr ⟨rfl,rfl,fun x a c=>?_⟩
    by_cases hx:x<max f (startT t)
    ·exact low x a hx
    ·exact g1 x (by omega) c
theorem least_step {F f n m:Int} {S T:Int→Prop} {b c:Bool} (h:NextF F S f n b) (g:NextF F T f m c) :
  NextF F (fun x=>S x∨T x) f (if c=true∧(b=false∨m<n) then m else n) (b || c):=by
 rcases h with ⟨rfl,h1,h2,h3,h4⟩|⟨rfl,rfl,h1⟩ <;> rcases g with ⟨rfl,g1,g2,g3,g4⟩|⟨rfl,rfl,g1⟩
 ·by_cases hm:m<n
  ·rw [if_pos ⟨rfl,.inr hm⟩]
   exact .inl ⟨rfl,g1,g2,.inr g3,fun x a c e=>e.elim (h4 x a (by omega)) (g4 x a c)⟩
  ·rw [if_neg (fun e=>by rcases e.2 with e|e;cases e;exact hm e)]
   exact .inl ⟨rfl,h1,h2,.inl h3,fun x a c e=>e.elim (h4 x a c) (g4 x a (by omega))⟩
 ·rw [if_neg (fun e=>by cases e.1)]
  exact .inl ⟨rfl,h1,h2,.inl h3,fun x a c e=>e.elim (h4 x a c) (g1 x a (by omega))⟩
 ·rw [if_pos ⟨rfl,.inl rfl⟩]
  exact .inl ⟨rfl,g1,g2,.inr g3,fun x a c e=>e.elim (h1 x a (by omega)) (g4 x a c)⟩
 ·rw [if_neg (fun e=>by cases e.1)]
  exact .inr ⟨rfl,rfl,fun x a c e=>e.elim (h1 x a c) (g1 x a c)⟩
end Kal
namespace Kal
def pairsL (a b:List (List Per)):List (List Per):=a.flatMap fun s=>b.map fun t=>s ++ t
theorem tmem_append {s t:List Per} {n:Int}:tmem (s ++ t) n↔tmem s n∧tmem t n:=by
 unfold tmem
 constructor
 ·exact fun h=>⟨fun p hp=>h p (List.mem_append_left _ hp),fun p hp=>h p (List.mem_append_right _ hp)⟩
 ·rintro ⟨h1,h2⟩ p hp
  rcases List.mem_append.1 hp with hp|hp
  ·exact h1 p hp
  ·exact h2 p hp
theorem mem_pairsL {a b:List (List Per)} {u:List Per}:u∈pairsL a b↔∃ s∈a,∃ t∈b,u=s ++ t:=by
 unfold pairsL
 rw [List.mem_flatMap]
 constructor
 ·rintro ⟨s,hs,h⟩
  obtain ⟨t,ht,rfl⟩:=List.mem_map.1 h
  exact ⟨s,hs,t,ht,rfl⟩
 ·rintro ⟨s,hs,t,ht,rfl⟩
  exact ⟨s,hs,List.mem_map.2 ⟨t,ht,rfl⟩⟩
theorem mmem_pairs {a b:List (List Per)} {n:Int}:mmem (pairsL a b) n↔mmem a n∧mmem b n:=by
 unfold mmem
 constructor
 ·rintro ⟨u,hu,h⟩
  obtain ⟨s,hs,t,ht,rfl⟩:=mem_pairsL.1 hu
  rw [tmem_append] at h
  exact ⟨⟨s,hs,h.1⟩,t,ht,h.2⟩
 ·rintro ⟨⟨s,hs,h1⟩,t,ht,h2⟩
  exact ⟨_,mem_pairsL.2 ⟨s,hs,t,ht,rfl⟩,tmem_append.2 ⟨h1,h2⟩⟩
theorem pairs_fterm {s:Int} {a b:List (List Per)} (ha:∀ t∈a,FTerm s t) (hb:∀ t∈b,FTerm s t):∀ t∈pairsL a b,FTerm s t:=fun u hu=>by
 obtain ⟨x,hx,y,hy,rfl⟩:=mem_pairsL.1 hu
 refine ⟨fun e=>(ha x hx).1 (List.append_eq_nil_iff.1 e).1,fun p hp=>?_⟩
 rcases List.mem_append.1 hp with hp|hp
 ·exact (ha x hx).2 p hp
 ·exact (hb y hy).2 p hp
noncomputable def wiP (s:List Per) (f:Per):List Per:=match s with|[]=>[]|p :: r=>minusP p f :: r
noncomputable def minL (m:List (List Per)) (t:List Per):List (List Per):=m.flatMap fun s=>t.map fun f=>wiP s f
theorem mem_minL {m:List (List Per)} {t u:List Per}:u∈minL m t↔∃ s∈m,∃ f∈t,u=wiP s f:=by
 unfold minL
 rw [List.mem_flatMap]
 constructor
 ·rintro ⟨s,hs,h⟩
  obtain ⟨f,hf,rfl⟩:=List.mem_map.1 h
  exact ⟨s,hs,f,hf,rfl⟩
 ·rintro ⟨s,hs,f,hf,rfl⟩
  exact ⟨s,hs,List.mem_map.2 ⟨f,hf,rfl⟩⟩
theorem wiP_ok {s:Int} {u:List Per} {f:Per} (hu:FTerm s u) (hf:Fac s f):FTerm s (wiP u f)∧∀ n,tmem (wiP u f) n↔tmem u n∧¬ f.mem n:=by
 cases u with
 | nil=>exact absurd rfl hu.1
 | cons p r=>
  have hp:=hu.2 p (by simp)
  have hm:=hp.minus hf
  refine ⟨⟨by simp [wiP],fun q hq=>?_⟩,fun n=>?_⟩
  ·rcases List.mem_cons.1 hq with rfl|hq
   ·exact hm.2
   ·exact hu.2 q (by simp [hq])
  ·show tmem (minusP p f :: r) n↔_
   unfold tmem
   simp only [List.forall_mem_cons]
   rw [hm.1.mem n]
   exact ⟨fun ⟨⟨a,b⟩,c⟩=>⟨⟨a,c⟩,b⟩,fun ⟨⟨a,c⟩,b⟩=>⟨⟨a,b⟩,c⟩⟩
theorem minL_fterm {s:Int} {m:List (List Per)} {t:List Per} (hm:∀ u∈m,FTerm s u) (ht:∀ p∈t,Fac s p):∀ u∈minL m t,FTerm s u:=fun u hu=>by
 obtain ⟨x,hx,f,hf,rfl⟩:=mem_minL.1 hu
 exact (wiP_ok (hm x hx) (ht f hf)).1
theorem mmem_minL {s:Int} {m:List (List Per)} {t:List Per} (hm:∀ u∈m,FTerm s u) (ht:∀ p∈t,Fac s p) {n:Int}:mmem (minL m t) n↔mmem m n∧¬ tmem t n:=by
 unfold mmem
 constructor
 ·rintro ⟨u,hu,h⟩
  obtain ⟨x,hx,f,hf,rfl⟩:=mem_minL.1 hu
  have h2:=((wiP_ok (hm x hx) (ht f hf)).2 n).1 h
  exact ⟨⟨x,hx,h2.1⟩,fun g=>h2.2 (g f hf)⟩
 ·rintro ⟨⟨x,hx,h1⟩,h2⟩
  have h3:∃ f∈t,¬ f.mem n:=Classical.byContradiction fun h=>h2 fun f hf=>Classical.byContradiction fun g=>h ⟨f,hf,g⟩
  obtain ⟨f,hf,h4⟩:=h3
  exact ⟨_,mem_minL.2 ⟨x,hx,f,hf,rfl⟩,((wiP_ok (hm x hx) (ht f hf)).2 n).2 ⟨h1,h4⟩⟩
inductive MinTo:List (List Per)→List (List Per)→Option (List (List Per))→Prop
 | nil {m:List (List Per)}:MinTo m [] (some m)
 | big {m m' b:List (List Per)} {t:List Per} (h:NormTo (minL m t) m') (hb:¬ NormOk m'):MinTo m (t :: b) none
 | step {m m' b:List (List Per)} {t:List Per} {r:Option (List (List Per))} (h:NormTo (minL m t) m') (hb:NormOk m') (hr:MinTo m' b r):MinTo m (t :: b) r
theorem MinTo.unique {m b:List (List Per)} {r r':Option (List (List Per))} (h:MinTo m b r) (g:MinTo m b r'):r=r':=by
 induction h generalizing r' with
 | nil=>cases g;rfl
 | big h hb=>
  cases g with
  | big _ _=>rfl
  | step g gb _=>rw [h.unique g] at hb;exact absurd gb hb
 | step h hb _ ih=>
  cases g with
  | big g gb=>rw [h.unique g] at hb;exact absurd hb gb
  | step g gb gr=>obtain rfl:=h.unique g;exact ih gr
def MinusTo (a b:List (List Per)) (r:Option (List (List Per))):Prop:=∃ m,NormTo a m∧((NormOk m∧MinTo m b r)∨(¬ NormOk m∧r=none))
theorem MinusTo.unique {a b:List (List Per)} {r r':Option (List (List Per))} (h:MinusTo a b r) (g:MinusTo a b r'):r=r':=by
 obtain ⟨m,h1,h2⟩:=h
 obtain ⟨m',g1,g2⟩:=g
 obtain rfl:=h1.unique g1
 rcases h2 with ⟨h2,h3⟩|⟨h2,rfl⟩ <;> rcases g2 with ⟨g2,g3⟩|⟨g2,rfl⟩
 ·exact h3.unique g3
 ·exact absurd h2 g2
 ·exact absurd g2 h2
 ·rfl
structure NForm (s:Int) (m:List (List Per)):Prop where
 terms:∀ t∈m,CTerm s t∧¬ barrenT t
 ok:NormOk m
theorem CTerm.fterm {s:Int} {t:List Per} (h:CTerm s t):FTerm s t:=⟨h.1,fun p hp=>(h.2 p hp).fac⟩
theorem NForm.fterm {s:Int} {m:List (List Per)} (h:NForm s m):∀ t∈m,FTerm s t:=fun t ht=>(h.terms t ht).1.fterm
theorem MinTo.ok {s:Int} {m b:List (List Per)} {r:Option (List (List Per))} (h:MinTo m b r) (hm:NForm s m) (hb:∀ t∈b,FTerm s t):∀ k,r=some k→NForm s k∧∀ n,mmem k n↔mmem m n∧¬ mmem b n:=by
 induction h with
 | nil=>
  rintro k rfl2
  cases rfl2
  exact ⟨hm,fun n=>⟨fun h=>⟨h,mmem_nil⟩,fun h=>h.1⟩⟩
 | big h hn=>intro k e;cases e
 | @step m m' b t r h hn hr ih=>
  intro k e
  have ht:=hb t (by simp)
  have f1:=minL_fterm hm.fterm ht.2
  obtain ⟨a1,a2,a3,a4⟩:=h.ok f1
  obtain ⟨c1,c2⟩:=ih ⟨a1,hn⟩ (fun t ht=>hb t (by simp [ht])) k e
  refine ⟨c1,fun n=>?_⟩
  rw [c2 n,a2 n,mmem_minL hm.fterm ht.2,mmem_cons]
  exact ⟨fun ⟨⟨x,y⟩,z⟩=>⟨x,fun e=>e.elim y z⟩,fun ⟨x,y⟩=>⟨⟨x,fun e=>y (.inl e)⟩,fun e=>y (.inr e)⟩⟩
theorem MinusTo.ok {s:Int} {a b k:List (List Per)} (h:MinusTo a b (some k)) (ha:∀ t∈a,FTerm s t) (hb:∀ t∈b,FTerm s t):NForm s k∧∀ n,mmem k n↔mmem a n∧¬ mmem b n:=by
 obtain ⟨m,h1,⟨h2,h3⟩|⟨_,h⟩⟩:=h
 ·obtain ⟨a1,a2,_,_⟩:=h1.ok ha
  obtain ⟨c1,c2⟩:=h3.ok ⟨a1,h2⟩ hb k rfl
  exact ⟨c1,fun n=>by rw [c2 n,a2 n]⟩
 ·cases h
noncomputable def andL (p:Per) (t:List Per):Per:=t.foldl andP p
noncomputable def termP (t:List Per):Per:=match t with|[]=>default|p :: r=>andL p r
noncomputable def joinF (all:Per) (m:List (List Per)):Per:=m.foldl (fun a t=>orP a (termP t)) all
theorem andL_ok {s:Int}:∀ {t:List Per} {p:Per},Fac s p→(∀ q∈t,Fac s q)→Fac s (andL p t)∧∀ n,(andL p t).mem n↔p.mem n∧tmem t n
 | [],p,hp,_=>⟨hp,fun n=>by simp [andL,tmem]⟩
 | q :: t,p,hp,ht=>by
  have hc:=hp.and (ht q (by simp))
  obtain ⟨a,b⟩:=andL_ok (t:=t) hc.2 fun r hr=>ht r (by simp [hr])
  refine ⟨a,fun n=>?_⟩
  show (andL (andP p q) t).mem n↔_
  rw [b n,hc.1.mem n]
  unfold tmem
  rw [List.forall_mem_cons,and_assoc]
theorem termP_ok {s:Int} {t:List Per} (ht:FTerm s t):Fac s (termP t)∧∀ n,(termP t).mem n↔tmem t n:=by
 cases t with
 | nil=>exact absurd rfl ht.1
 | cons p r=>
  obtain ⟨a,b⟩:=andL_ok (t:=r) (ht.2 p (by simp)) fun q hq=>ht.2 q (by simp [hq])
  refine ⟨a,fun n=>(b n).trans ?_⟩
  unfold tmem;rw [List.forall_mem_cons]
theorem joinF_ok {s:Int}:∀ {m:List (List Per)} {all:Per},Fac s all→(∀ t∈m,FTerm s t)→Fac s (joinF all m)∧(∀ n,(joinF all m).mem n↔all.mem n∨mmem m n)∧((m=[]→IsCanon all all.mem)→IsCanon (joinF all m) (joinF all m).mem)
 | [],all,ha,_=>⟨ha,fun n=>by simp [joinF,mmem],fun h=>h rfl⟩
 | t :: m,all,ha,hm=>by
  obtain ⟨f1,f2⟩:=termP_ok (hm t (by simp))
  have hc:=ha.or f1
  obtain ⟨a,b,c⟩:=joinF_ok (m:=m) hc.2 fun u hu=>hm u (by simp [hu])
  refine ⟨a,fun n=>?_,fun _=>c fun _=>(ha.cor f1).can⟩
  show (joinF (orP all (termP t)) m).mem n↔_
  rw [b n,hc.1.mem n,f2 n,mmem_cons,or_assoc]
def shS (p:Per) (b:Int) (n:Int):Prop:=0≤n∧p.mem (n-b)
noncomputable def shP (p:Per) (b:Int):Per:=canonC (shS p b)
noncomputable def shL (m:List (List Per)) (b:Int):List (List Per):=m.map fun t=>t.map fun p=>shP p b
end Kal
namespace Go.Proofs.YthjnojbeimchdaaGreat
open Go.RowKit Go.Maps Kal
set_option maxRecDepth 100000 in
set_option maxHeartbeats 1000000 in
theorem has1_any (F:Nat→Prop) (v:Value) (t:List Per) (n:Int) (db:Nat) (w:World) (ht:TermR w F v t) (hc:w.cell? ⟨db,0,none⟩=some (.int .i64 n)) (hn:InI n) :
  Calls Tryz.prog 66 #[v,.pointer (some ⟨db,0,none⟩)] w fun e w'=>e=.returned (.bool (inB t n))∧Below w.heap.size w w':=by
 have H:=in_any F v t n w ht hn
 have hlt:=World.block_lt_of_cell? w _ hc
 clear ht
 generalize inB t n=b at H ⊢
 go_enter Tryz.func66,Tryz.ntmps66
 go_wp2_with (go_at_call 59;refine H.mono ?_;rintro e w1 ⟨rfl,hb1⟩)
 go_ret
 exact ⟨rfl,by (repeat' (with_reducible first|assumption|apply Er|apply Ea|apply Ed|apply En|(refine Es ?_ (by first|(simp<;>omega)|omega) _)|refine Et ?_ (by assumption)))⟩
theorem has1_pred (F:Nat→Prop) (L:List (Value × List Per)) (n:Int) (db:Nat) (w:World) (hL:∀ x∈L,TermR w F x.1 x.2) (hc:w.cell? ⟨db,0,none⟩=some (.int .i64 n)) (hn:InI n) :
  PredT 66 #[.pointer (some ⟨db,0,none⟩)] L (fun x=>inB x.2 n) w:=fun W x hW hx=>by
 have h:=has1_any F x.1 x.2 n db W ((hL x hx).ext hW) (Ext.cell hW hc) hn
 have e:(#[x.1] ++ #[Value.pointer (some ⟨db,0,none⟩)])=#[x.1,.pointer (some ⟨db,0,none⟩)]:=by simp
 rw [e]
 exact h.mono fun e w' ⟨h1,h2⟩=>⟨h1,hW.trans (h2.mono hW.size)⟩
theorem any_has (F:Nat→Prop) (v:Value) (m:List (List Per)) (n:Int) (db:Nat) (w:World) (hm:MixR w F v m) (hc:w.cell? ⟨db,0,none⟩=some (.int .i64 n)) (hn:InI n) :
  Calls Tryz.prog 57 #[v,.func (.func 66) #[] #[.pointer (some ⟨db,0,none⟩)]] w fun e w'=>e=.returned (.bool (m.any fun t=>inB t n))∧Below w.heap.size w w':=by
 obtain ⟨L,rfl,hL⟩:=hm
 have h:=containsFuncT F v L (fun x=>inB x.2 n) 66 #[.pointer (some ⟨db,0,none⟩)] (enters_of Tryz.func66 (by kernel_rfl) rfl) w hL.row hL.len (has1_pred F L n db w hL.all hc hn)
 have he:((L.map Prod.snd).any fun t=>inB t n)=L.any fun x=>inB x.2 n:=by rw [List.any_map];rfl
 rw [he];exact h
set_option maxRecDepth 100000 in
set_option maxHeartbeats 1000000 in
theorem mhas_any (F:Nat→Prop) (v:Value) (m:List (List Per)) (n:Int) (w:World) (hm:MixR w F v m) (hn:InI n) :
  Calls Tryz.prog 19 #[.agg #[v],.int .i64 n] w fun e w'=>e=.returned (.bool (hasM m n))∧Below w.heap.size w w':=by
 have HV:=fun W h=>mvalid_any F v m W (hm.ext h)
 have HA:=fun W h db hc=>any_has F v m n db W (hm.ext h) hc hn
 unfold hasM
 obtain ⟨L,_,hL⟩:=hm
 obtain ⟨a,c,rfl,_⟩:=hL.row
 clear hL
 generalize (m.any fun t=>inB t n)=y at *
 cases hq:validM m with
 | false=>
  rw [hq] at HV
  clear hq
  go_enter Tryz.func19,Tryz.ntmps19
  go_wp2_with (go_at_call 18;refine (HV _ (by (repeat' (with_reducible first|assumption|apply Er|apply Ea|apply Ed|apply En|(refine Es ?_ (by first|(simp<;>omega)|omega) _)|refine Et ?_ (by assumption))))).mono ?_;rintro e w1 ⟨rfl,hb1⟩)
  go_ret
  exact ⟨rfl,by (repeat' (with_reducible first|assumption|apply Er|apply Ea|apply Ed|apply En|(refine Es ?_ (by first|(simp<;>omega)|omega) _)|refine Et ?_ (by assumption)))⟩
 | true=>
  rw [hq] at HV
  clear hq
  go_enter Tryz.func19,Tryz.ntmps19
  go_wp2_with (first|(go_at_call 18;refine (HV _ (by (repeat' (with_reducible first|assumption|apply Er|apply Ea|apply Ed|apply En|(refine Es ?_ (by first|(simp<;>omega)|omega) _)|refine Et ?_ (by assumption))))).mono ?_;rintro e w1 ⟨rfl,hb1⟩;obtain ⟨hc1,hf1⟩:=bcell hb1;(try simp only [World.size_alloc,World.size_drew,size_drewN,World.size_setCell] at hc1 hf1))|(go_at_call 57;refine (HA _ (by (repeat' (with_reducible first|assumption|apply Er|apply Ea|apply Ed|apply En|(refine Es ?_ (by first|(simp<;>omega)|omega) _)|refine Et ?_ (by assumption)))) (w.heap.size+1) (by rw [hc1 _ _ (by omega)];simp)).mono ?_;rintro e w2 ⟨rfl,hb2⟩))
  go_ret
  exact ⟨rfl,by (repeat' (with_reducible first|assumption|apply Er|apply Ea|apply Ed|apply En|(refine Es ?_ (by first|(simp<;>omega)|omega) _)|refine Et ?_ (by assumption)))⟩
set_option maxRecDepth 100000 in
set_option maxHeartbeats 1000000 in
theorem divides_any (x y:PV) (w:World) (hx:1≤x.p.period) (hx1:x.p.period≤1099511627776) (hy:1≤y.p.period) (hy1:y.p.period≤1099511627776) :
  Calls Tryz.prog 109 #[x.val,y.val] w fun e w'=>e=.returned (.bool (divB x.p y.p))∧Below w.heap.size w w':=by
 have n1:x.p.period≠0:=by omega
 have n2:y.p.period≠0:=by omega
 have b1:=Int.emod_nonneg x.p.period n2
 have b2:=Int.emod_lt_of_pos x.p.period (show 0<y.p.period by omega)
 have b3:=Int.emod_nonneg y.p.period n1
 have b4:=Int.emod_lt_of_pos y.p.period (show 0<x.p.period by omega)
 go_enter Tryz.func109,Tryz.ntmps109
 go_wp2_with fail
 all_goals
  go_ret
  refine ⟨ret_bool ?_,by (repeat' (with_reducible first|assumption|apply Er|apply Ea|apply Ed|apply En|(refine Es ?_ (by first|(simp<;>omega)|omega) _)|refine Et ?_ (by assumption)))⟩
  unfold divB
  first|rfl|(simp_all;done)
end Go.Proofs.YthjnojbeimchdaaGreat
namespace Go.Proofs.YthjnojbeimchdaaGreat
open Go.RowKit Go.Maps Kal
set_option maxRecDepth 100000 in
set_option maxHeartbeats 1000000 in
theorem mequal_any (F G:Nat→Prop) (x y:PV) (w:World) (hx:PVok w F x) (hy:PVok w G y) :
  Calls Tryz.prog 113 #[x.val,y.val] w fun e w'=>e=.returned (.bool (sameB x.p y.p))∧Below w.heap.size w w':=by
 have H1:=fun W (h:Below w.heap.size w W)=>equal_any x.h y.h x.p.head y.p.head W (hx.is.hd.ext h) (hy.is.hd.ext h)
 have H2:=fun W (h:Below w.heap.size w W)=>equal_any x.c y.c x.p.cycle y.p.cycle W (hx.is.cy.ext h) (hy.is.cy.ext h)
 clear hx hy
 obtain ⟨xh,xc,xp⟩:=x
 obtain ⟨yh,yc,yp⟩:=y
 change Calls _ _ #[perV xh xc xp.frm xp.period,perV yh yc yp.frm yp.period] _ fun e w'=>e=.returned (.bool (sameB xp yp))∧_
 change ∀ W,_→Calls _ _ #[xh,yh] W fun e w'=>e=.returned (.bool (decide (xp.head=yp.head)))∧_ at H1
 change ∀ W,_→Calls _ _ #[xc,yc] W fun e w'=>e=.returned (.bool (decide (xp.cycle=yp.cycle)))∧_ at H2
 by_cases h1:xp.frm=yp.frm
 ·by_cases h2:xp.period=yp.period
  ·by_cases h3:xp.head=yp.head
   ·rw [decide_eq_true h3] at H1
    have e:sameB xp yp=decide (xp.cycle=yp.cycle):=by unfold sameB;simp [h1,h2,h3]
    rw [e]
    clear e h3
    generalize decide (xp.cycle=yp.cycle)=b at *
    go_enter Tryz.func113,Tryz.ntmps113
    go_wp2_with (go_at_call 89;first|((with_reducible refine (H1 _ (by (repeat' (with_reducible first|assumption|apply Er|apply Ea|apply Ed|apply En|(refine Es ?_ (by first|(simp<;>omega)|omega) _)|refine Et ?_ (by assumption))))).mono ?_);rintro e w1 ⟨rfl,n1,rfl⟩)|((with_reducible refine (H2 _ (by (repeat' (with_reducible first|assumption|apply Er|apply Ea|apply Ed|apply En|(refine Es ?_ (by first|(simp<;>omega)|omega) _)|refine Et ?_ (by assumption))))).mono ?_);rintro e w1 ⟨rfl,n1,rfl⟩))
    go_ret
    exact ⟨rfl,by (repeat' (with_reducible first|assumption|apply Er|apply Ea|apply Ed|apply En|(refine Es ?_ (by first|(simp<;>omega)|omega) _)|refine Et ?_ (by assumption)))⟩
   ·rw [decide_eq_false h3] at H1
    have e:sameB xp yp=false:=by unfold sameB;simp [h3]
    rw [e]
    clear e h3
    go_enter Tryz.func113,Tryz.ntmps113
    go_wp2_with (go_at_call 89;first|((with_reducible refine (H1 _ (by (repeat' (with_reducible first|assumption|apply Er|apply Ea|apply Ed|apply En|(refine Es ?_ (by first|(simp<;>omega)|omega) _)|refine Et ?_ (by assumption))))).mono ?_);rintro e w1 ⟨rfl,n1,rfl⟩)|((with_reducible refine (H2 _ (by (repeat' (with_reducible first|assumption|apply Er|apply Ea|apply Ed|apply En|(refine Es ?_ (by first|(simp<;>omega)|omega) _)|refine Et ?_ (by assumption))))).mono ?_);rintro e w1 ⟨rfl,n1,rfl⟩))
    go_ret
    exact ⟨rfl,by (repeat' (with_reducible first|assumption|apply Er|apply Ea|apply Ed|apply En|(refine Es ?_ (by first|(simp<;>omega)|omega) _)|refine Et ?_ (by assumption)))⟩
  ·have e:sameB xp yp=false:=by unfold sameB;simp [h2]
   rw [e]
   clear e
   go_enter Tryz.func113,Tryz.ntmps113
   go_wp2_with fail
   go_ret
   exact ⟨rfl,by (repeat' (with_reducible first|assumption|apply Er|apply Ea|apply Ed|apply En|(refine Es ?_ (by first|(simp<;>omega)|omega) _)|refine Et ?_ (by assumption)))⟩
 ·have e:sameB xp yp=false:=by unfold sameB;simp [h1]
  rw [e]
  clear e
  go_enter Tryz.func113,Tryz.ntmps113
  go_wp2_with fail
  go_ret
  exact ⟨rfl,by (repeat' (with_reducible first|assumption|apply Er|apply Ea|apply Ed|apply En|(refine Es ?_ (by first|(simp<;>omega)|omega) _)|refine Et ?_ (by assumption)))⟩
open Classical in
noncomputable def sameT (t u:List Per):Bool:=decide (t=u)
theorem sameT_true {t u:List Per} (h:t=u):sameT t u=true:=by unfold sameT;simp [h]
theorem sameT_false {t u:List Per} (h:t≠u):sameT t u=false:=by unfold sameT;simp [h]
theorem PVok.form {F:Nat→Prop} {w:World} {h c:Value} {p:Per} (hx:PVok w F ⟨h,c,p⟩):∃ a1 n1 c1 a2 n2 c2,h=.slice a1 n1 c1∧c=.slice a2 n2 c2:=by
 obtain ⟨⟨⟨⟨a1,c1,h1,_⟩,_,_⟩,⟨a2,c2,h2,_⟩,_,_⟩,_,_,_,_⟩:=hx
 exact ⟨a1,_,c1,a2,_,c2,h1,h2⟩
theorem TermL.get {F:Nat→Prop} {w:World} {a:Option Addr} {n c:Nat} {L:List PV} (h:TermL w F (.slice a n c) L) {k:Nat} (hk:k<L.length) :
  ∃ b o x,a=some ⟨b,o,none⟩∧PVok w F x∧x.p=(L.map PV.p).getD k default∧b<w.heap.size∧w.cell? ⟨b,o+k*4,none⟩=some x.h∧w.cell? ⟨b,o+k*4+1,none⟩=some (.int .i64 x.p.frm)∧
   w.cell? ⟨b,o+k*4+2,none⟩=some (.int .i64 x.p.period)∧w.cell? ⟨b,o+k*4+3,none⟩=some x.c:=by
 obtain ⟨a',c',he,h1,h2,h3⟩:=h.row
 injection he with e1 _ e2
 subst e1;subst e2
 rcases h3 with h3|⟨b,o,rfl,hF,hl,hc⟩
 ·omega
 ·exact ⟨b,o,L.getD k default,rfl,h.all _ (getD_mem' hk),by simp [List.getD_eq_getElem?_getD,hk],hl,hc (k*4+0) _ (flat_get hk rfl),hc (k*4+1) _ (flat_get hk rfl),hc (k*4+2) _ (flat_get hk rfl),hc (k*4+3) _ (flat_get hk rfl)⟩
set_option maxRecDepth 100000 in
set_option maxHeartbeats 1000000 in
theorem equalFunc_any (F G:Nat→Prop) (v1 v2:Value) (t u:List Per) (w:World) (h1:TermR w F v1 t) (h2:TermR w G v2 u) :
  Calls Tryz.prog 112 #[v1,v2,.func (.func 113) #[] #[]] w fun e w'=>e=.returned (.bool (sameT t u))∧Below w.heap.size w w':=by
 obtain ⟨L,hLt,hL⟩:=h1
 obtain ⟨M,hMu,hM⟩:=h2
 obtain ⟨a1,c1,rfl,_⟩:=hL.row
 obtain ⟨a2,c2,rfl,_⟩:=hM.row
 have HL:=Lib.hid hL
 have HM:=Lib.hid hM
 have hl1:=hL.len
 have hl2:=hM.len
 have ht:t.length=L.length:=by rw [← hLt,List.length_map]
 have hu:u.length=M.length:=by rw [← hMu,List.length_map]
 have HT:=Lib.hid ht
 have HU:=Lib.hid hu
 have HLT:=Lib.hid hLt
 have HMU:=Lib.hid hMu
 clear hL hM ht hu hLt hMu
 have eg:∀ args w,(callFunc 113 args).run Tryz.prog w=.ok (.enter 113 args) w:=enters_of Tryz.func113 (by kernel_rfl) rfl
 by_cases hne:L.length=M.length
 ·have HNE:=Lib.hid hne
  rw [← hne]
  clear hne hl2
  go_enter Tryz.func112,Tryz.ntmps112
  go_wp2_with fail
  go_loopw [6,7,8,9,17] (fun _ _ _ _ i wr=>∃ k:Nat,k≤L.length∧i=.int .i64 k∧(∀ j,j<k→t.getD j default=u.getD j default)∧Below w.heap.size w wr) (fun _ _ _ _ i _=>L.length-(intOf i).toNat)
  case atStart=>exact ⟨0,by omega,rfl,by intro j hj;omega,by (repeat' (with_reducible first|assumption|apply Er|apply Ea|apply Ed|apply En|(refine Es ?_ (by first|(simp<;>omega)|omega) _)|refine Et ?_ (by assumption)))⟩
  case round=>
   obtain ⟨k,hk,rfl,hpre,hb⟩:=hrel
   have HPRE:=Lib.hid hpre
   clear hpre
   by_cases hlt:k<L.length
   ·have hlI:(k:Int)<L.length:=by omega
    obtain ⟨b1,o1,x,rfl,hx,hxp,hb1,e0,e1,e2,e3⟩:=(HL.out.keep (KeepF.below hb) hb.size).get hlt
    obtain ⟨b2,o2,y,rfl,hy,hyp,hb2,g0,g1,g2,g3⟩:=(HM.out.keep (KeepF.below hb) hb.size).get (show k<M.length by have:=HNE.out;omega)
    rw [HLT.out] at hxp
    rw [HMU.out] at hyp
    have HE:=fun W (h:Below wr.heap.size wr W)=>mequal_any F G x y W (hx.keep (KeepF.below h)) (hy.keep (KeepF.below h))
    have HXP:=Lib.hid hxp
    have HYP:=Lib.hid hyp
    obtain ⟨xh,xc,xp⟩:=x
    obtain ⟨yh,yc,yp⟩:=y
    obtain ⟨ax1,nx1,cx1,ax2,nx2,cx2,rfl,rfl⟩:=hx.form
    obtain ⟨ay1,ny1,cy1,ay2,ny2,cy2,rfl,rfl⟩:=hy.form
    clear hxp hyp hx hy
    change ∀ W,_→Calls _ _ #[perV (.slice ax1 nx1 cx1) (.slice ax2 nx2 cx2) xp.frm xp.period,perV (.slice ay1 ny1 cy1) (.slice ay2 ny2 cy2) yp.frm yp.period] W fun e w'=>e=.returned (.bool (sameB xp yp))∧_ at HE
    change Hid (xp=_) at HXP
    change Hid (yp=_) at HYP
    dsimp only at e0 e1 e2 e3 g0 g1 g2 g3
    cases hq:sameB xp yp with
    | true=>
     rw [hq] at HE
     have HQ:=Lib.hid hq
     clear hq
     go_wp2_with (go_at_fn 113;refine (HE _ (by (repeat' (with_reducible first|assumption|apply Er|apply Ea|apply Ed|apply En|(refine Es ?_ (by first|(simp<;>omega)|omega) _)|refine Et ?_ (by assumption))))).mono ?_;rintro e w1 ⟨rfl,hb3⟩)
     go_roundw
     case rel=>
      refine ⟨k+1,by omega,by go_num,?_,by (repeat' (with_reducible first|assumption|apply Er|apply Ea|apply Ed|apply En|(refine Es ?_ (by first|(simp<;>omega)|omega) _)|refine Et ?_ (by assumption)))⟩
      intro j hj
      by_cases h:j<k
      ·exact HPRE.out j h
      ·obtain rfl:j=k:=by omega
       rw [← HXP.out,← HYP.out];exact (sameB_iff _ _).1 HQ.out
     case measure=>simp [intOf];omega
    | false=>
     rw [hq] at HE
     have HQ:=Lib.hid hq
     clear hq
     go_wp2_with (go_at_fn 113;refine (HE _ (by (repeat' (with_reducible first|assumption|apply Er|apply Ea|apply Ed|apply En|(refine Es ?_ (by first|(simp<;>omega)|omega) _)|refine Et ?_ (by assumption))))).mono ?_;rintro e w1 ⟨rfl,hb3⟩)
     go_ret
     refine ⟨ret_bool (sameT_false ?_).symm,by (repeat' (with_reducible first|assumption|apply Er|apply Ea|apply Ed|apply En|(refine Es ?_ (by first|(simp<;>omega)|omega) _)|refine Et ?_ (by assumption)))⟩
     rintro rfl
     have:=HQ.out
     rw [(sameB_iff _ _).2 (HXP.out.trans HYP.out.symm)] at this
     exact absurd this (by decide)
   ·obtain rfl:k=L.length:=by omega
    go_wp2_with fail
    go_ret
    refine ⟨ret_bool (sameT_true ?_).symm,by (repeat' (with_reducible first|assumption|apply Er|apply Ea|apply Ed|apply En|(refine Es ?_ (by first|(simp<;>omega)|omega) _)|refine Et ?_ (by assumption)))⟩
    refine List.ext_getElem (by have:=HT.out;have:=HU.out;have:=HNE.out;omega) fun j h1 h2=>?_
    have:=HPRE.out j (by have:=HT.out;omega)
    rw [List.getD_eq_getElem?_getD,List.getD_eq_getElem?_getD,List.getElem?_eq_getElem h1,List.getElem?_eq_getElem h2] at this
    exact this
 ·have hneI:¬ (L.length:Int)=M.length:=by omega
  go_enter Tryz.func112,Tryz.ntmps112
  go_wp2_with fail
  go_ret
  refine ⟨ret_bool (sameT_false ?_).symm,by (repeat' (with_reducible first|assumption|apply Er|apply Ea|apply Ed|apply En|(refine Es ?_ (by first|(simp<;>omega)|omega) _)|refine Et ?_ (by assumption)))⟩
  rintro rfl
  have:=HT.out;have:=HU.out;omega
end Go.Proofs.YthjnojbeimchdaaGreat
namespace Go.Proofs.YthjnojbeimchdaaGreat
open Go.RowKit Go.Maps Kal
theorem startF_snoc (a:Int) (t:List Per) (p:Per):startF a (t ++ [p])=max (startF a t) p.frm:=by unfold startF;rw [List.foldl_append];rfl
set_option maxRecDepth 100000 in
set_option maxHeartbeats 1000000 in
theorem start_any (F:Nat→Prop) (v:Value) (t:List Per) (w:World) (ht:TermR w F v t) :
  Calls Tryz.prog 141 #[v] w fun e w'=>e=.returned (.int .i64 (startT t))∧Below w.heap.size w w':=by
 obtain ⟨L,hLt,hL⟩:=ht
 obtain ⟨a1,c1,rfl,_⟩:=hL.row
 have HL:=Lib.hid hL
 have hl1:=hL.len
 have htl:t.length=L.length:=by rw [← hLt,List.length_map]
 have HT:=Lib.hid htl
 have HLT:=Lib.hid hLt
 clear hL htl hLt
 go_enter Tryz.func141,Tryz.ntmps141
 go_wp2_with fail
 go_loopw [3,5,8] (fun m _ i wr=>∃ k:Nat,k≤L.length∧i=.int .i64 k∧m=.int .i64 (startF 0 (t.take k))∧Below w.heap.size w wr) (fun _ _ i _=>L.length-(intOf i).toNat)
 case atStart=>exact ⟨0,by omega,rfl,by simp [startF],by (repeat' (with_reducible first|assumption|apply Er|apply Ea|apply Ed|apply En|(refine Es ?_ (by first|(simp<;>omega)|omega) _)|refine Et ?_ (by assumption)))⟩
 case round=>
  obtain ⟨k,hk,rfl,rfl,hb⟩:=hrel
  by_cases hlt:k<L.length
  ·have hlI:(k:Int)<L.length:=by omega
   obtain ⟨b1,o1,x,rfl,hx,hxp,hb1,e0,e1,e2,e3⟩:=(HL.out.keep (KeepF.below hb) hb.size).get hlt
   rw [HLT.out] at hxp
   have hS:startF 0 (t.take (k+1))=max (startF 0 (t.take k)) x.p.frm:=by
    have htk:k<t.length:=by have:=HT.out;omega
    rw [List.take_succ_eq_append_getElem htk,startF_snoc,hxp,List.getD_eq_getElem?_getD,List.getElem?_eq_getElem htk];rfl
   have HS:=Lib.hid hS
   have hfr:=hx.fr
   obtain ⟨xh,xc,xp⟩:=x
   obtain ⟨ax1,nx1,cx1,ax2,nx2,cx2,rfl,rfl⟩:=hx.form
   dsimp only at e0 e1 e2 e3 hfr HS
   clear hxp hx hS
   generalize startF 0 (t.take k)=s0 at *
   go_wp2_with fail
   all_goals
    go_roundw
    case rel=>exact ⟨k+1,by omega,by go_num,by rw [HS.out],by (repeat' (with_reducible first|assumption|apply Er|apply Ea|apply Ed|apply En|(refine Es ?_ (by first|(simp<;>omega)|omega) _)|refine Et ?_ (by assumption)))⟩
    case measure=>simp [intOf];omega
  ·obtain rfl:k=L.length:=by omega
   go_wp2_with fail
   go_ret
   refine ⟨?_,by (repeat' (with_reducible first|assumption|apply Er|apply Ea|apply Ed|apply En|(refine Es ?_ (by first|(simp<;>omega)|omega) _)|refine Et ?_ (by assumption)))⟩
   have:=HT.out
   rw [List.take_of_length_le (by omega)];rfl
end Go.Proofs.YthjnojbeimchdaaGreat
namespace Go.Proofs.YthjnojbeimchdaaGreat
open Go.RowKit Go.Maps Kal
set_option maxRecDepth 100000 in
set_option maxHeartbeats 1000000 in
theorem mresidue_any (h c:Value) (p:Per) (n:Int) (w:World) (hf:0≤p.frm) (hf1:p.frm≤1125899906842624) (hp:1≤p.period) (hp1:p.period≤1125899906842624) (hn:0≤n) (hn1:n≤1125899906842624) :
  Calls Tryz.prog 121 #[perV h c p.frm p.period,.int .i64 n] w fun e w'=>e=.returned (.int .i64 (resP p n))∧Below w.heap.size w w':=by
 have n1:p.period≠0:=by omega
 have b1:=Int.emod_nonneg p.frm n1
 have b2:=Int.emod_lt_of_pos p.frm (show 0<p.period by omega)
 have q1:p.frm.tmod p.period=p.frm % p.period:=Int.tmod_eq_emod_of_nonneg hf
 have q2:(p.frm % p.period+n).tmod p.period=(p.frm % p.period+n) % p.period:=Int.tmod_eq_emod_of_nonneg (by omega)
 unfold resP
 generalize p.frm % p.period=r at *
 have HR:Hid (0≤(r+n) % p.period∧(r+n) % p.period<p.period):=Lib.hid ⟨Int.emod_nonneg _ n1,Int.emod_lt_of_pos _ (by omega)⟩
 go_enter Tryz.func121,Tryz.ntmps121
 go_wp2_with fail
 go_region
 go_wp2_with fail
 go_ret
 exact ⟨rfl,by (repeat' (with_reducible first|assumption|apply Er|apply Ea|apply Ed|apply En|(refine Es ?_ (by first|(simp<;>omega)|omega) _)|refine Et ?_ (by assumption)))⟩
end Go.Proofs.YthjnojbeimchdaaGreat
namespace Go.Proofs.YthjnojbeimchdaaGreat
open Go.RowKit Go.Maps Kal
def TV (t:List Per):Prop:=∀ p∈t,validB p=true
theorem hasB_iff {p:Per} {n:Int} (h:validB p=true):hasB p n=true↔p.mem n:=by
 unfold hasB
 rw [h,Bool.true_and,Bool.and_eq_true,decide_eq_true_iff]
 exact ⟨fun ⟨h0,h1⟩=>(memB_iff h0).1 h1,fun h1=>⟨h1.1,(memB_iff h1.1).2 h1⟩⟩
theorem inB_iff {t:List Per} {n:Int} (h:TV t):inB t n=true↔tmem t n:=by
 unfold inB tmem
 rw [List.all_eq_true]
 exact ⟨fun g p hp=>(hasB_iff (h p hp)).1 (g p hp),fun g p hp=>(hasB_iff (h p hp)).2 (g p hp)⟩
theorem best_take {t:List Per} {f n d:Int} {b:Bool} {S T:Int→Prop} (h:BestE S f n b) (hs:∀ x,T x↔S x∨(x=d∧tmem t x)) (h1:f≤d) (h2:b=false∨d<n) (h3:tmem t d):BestE T f d true:=
 (h.take h1 h2).congr fun x _=>by rw [hs];exact or_congr Iff.rfl ⟨fun g=>g.1,fun g=>⟨g,g ▸ h3⟩⟩
theorem best_pass {t:List Per} {f n d:Int} {b:Bool} {S T:Int→Prop} (h:BestE S f n b) (hs:∀ x,T x↔S x∨(x=d∧tmem t x)) (h1:¬ (f≤d∧(b=false∨d<n)∧tmem t d)):BestE T f n b:=by
 by_cases h3:tmem t d
 ·exact (h.pass fun g=>h1 ⟨g.1,g.2,h3⟩).congr fun x _=>by rw [hs];exact or_congr Iff.rfl ⟨fun g=>g.1,fun g=>⟨g,g ▸ h3⟩⟩
 ·exact h.congr fun x _=>by rw [hs];exact ⟨fun g=>g.elim id fun g=>absurd (g.1 ▸ g.2) h3,.inl⟩
set_option maxRecDepth 100000 in
set_option maxHeartbeats 2000000 in
theorem early_any (F:Nat→Prop) (v:Value) (t:List Per) (f:Int) (w:World) (ht:TermR w F v t) (hv:TV t) (hf:InI f) :
  Calls Tryz.prog 101 #[v,.int .i64 f] w fun e w'=>∃ (n:Int) (b:Bool),e=.returned (.tuple #[.int .i64 n,.bool b])∧BestE (headS t t.length 0) f n b∧Below w.heap.size w w':=by
 have HIN:=fun W d (h:Below w.heap.size w W) (hd:InI d)=>in_any F v t d W (ht.ext h) hd
 obtain ⟨L,hLt,hL⟩:=ht
 obtain ⟨a1,c1,rfl,_⟩:=hL.row
 have HL:=Lib.hid hL
 have hl1:=hL.len
 have htl:t.length=L.length:=by rw [← hLt,List.length_map]
 have HT:=Lib.hid htl
 have HLT:=Lib.hid hLt
 have HV:=Lib.hid hv
 clear hL htl hLt hv
 go_enter Tryz.func101,Tryz.ntmps101
 go_wp2_with fail
 go_loopw [6,7,9,11,14] (fun nv bv _ _ i wr=>∃ (k:Nat) (n:Int) (b:Bool),k≤L.length∧i=.int .i64 k∧nv=.int .i64 n∧bv=.bool b∧Hid (BestE (headS t k 0) f n b)∧Below w.heap.size w wr) (fun _ _ _ _ i _=>L.length-(intOf i).toNat)
 case atStart=>exact ⟨0,0,false,by omega,rfl,rfl,rfl,Lib.hid (BestE.start.congr fun x _=>headS_zero),by (repeat' (with_reducible first|assumption|apply Er|apply Ea|apply Ed|apply En|(refine Es ?_ (by first|(simp<;>omega)|omega) _)|refine Et ?_ (by assumption)))⟩
 case round=>
  obtain ⟨k,n,b,hk,rfl,rfl,rfl,HBE,hb⟩:=hrel
  by_cases hlt:k<L.length
  ·have hlI:(k:Int)<L.length:=by omega
   obtain ⟨b1,o1,x,rfl,hx,hxp,hb1,e0,e1,e2,e3⟩:=(HL.out.keep (KeepF.below hb) hb.size).get hlt
   rw [HLT.out] at hxp
   have hkt:k<t.length:=by have:=HT.out;omega
   have HXP:=Lib.hid hxp
   have hxi:=hx.is.hd
   obtain ⟨xh,xc,xp⟩:=x
   obtain ⟨ax1,nx1,cx1,ax2,nx2,cx2,rfl,rfl⟩:=hx.form
   dsimp only at e0 e1 e2 e3 hxi
   change Hid (xp=_) at HXP
   obtain ⟨⟨ah,ch,he,_,_,hcl⟩,hln,hrg⟩:=hxi
   injection he with he1 he2 he3
   subst he1;subst he2;subst he3
   have HCL:=Lib.hid hcl
   have HRG:=Lib.hid hrg
   have HB:=Lib.hid hb
   clear hcl hrg hxp hx
   go_wp2_with fail
   go_loopw [6,7,11,21] (fun nv bv _ i wq=>∃ (j:Nat) (n:Int) (b:Bool),j≤xp.head.length∧i=.int .i64 j∧nv=.int .i64 n∧bv=.bool b∧Hid (BestE (headS t k j) f n b)∧Below wr.heap.size wr wq) (fun _ _ _ i _=>xp.head.length-(intOf i).toNat)
   case atStart=>exact ⟨0,n,b,by omega,rfl,rfl,rfl,HBE,by (repeat' (with_reducible first|assumption|apply Er|apply Ea|apply Ed|apply En|(refine Es ?_ (by first|(simp<;>omega)|omega) _)|refine Et ?_ (by assumption)))⟩
   case round=>
    obtain ⟨j,n,b,hj,rfl,rfl,rfl,HBE2,hb2⟩:=hrel
    by_cases hjl:j<xp.head.length
    ·have hjI:(j:Int)<xp.head.length:=by omega
     rcases HCL.out with h0|⟨b4,o4,rfl,hc4⟩
     ·rw [h0] at hjl;simp at hjl
     have c0:=Ext.cell hb2 (hc4 j hjl)
     have hd:=HRG.out _ (getD_mem' (d:=0) hjl)
     have HS:=fun x=>headS_succ (t:=t) (i:=k) (k:=j) (x:=x) (by rw [← HXP.out];exact hjl)
     rw [← HXP.out] at HS
     have HS:=Lib.hid HS
     generalize xp.head.getD j 0=d at *
     by_cases h1:f≤d
     ·cases b with
      | false=>
       cases hq:inB t d with
       | true=>
        have HI:=fun W h=>HIN W d h hd
        rw [hq] at HI
        have HTM:=Lib.hid ((inB_iff HV.out).1 hq)
        clear hq
        go_wp2_with (go_at_call 59;refine (HI _ (by (repeat' (with_reducible first|assumption|apply Er|apply Ea|apply Ed|apply En|(refine Es ?_ (by first|(simp<;>omega)|omega) _)|refine Et ?_ (by assumption))))).mono ?_;rintro e w1 ⟨rfl,hb3⟩)
        go_roundw
        case rel=>exact ⟨j+1,d,true,by omega,by go_num,rfl,rfl,Lib.hid (best_take HBE2.out HS.out h1 (by first|exact .inl rfl|exact .inr (by assumption)) HTM.out),by (repeat' (with_reducible first|assumption|apply Er|apply Ea|apply Ed|apply En|(refine Es ?_ (by first|(simp<;>omega)|omega) _)|refine Et ?_ (by assumption)))⟩
        case measure=>simp [intOf];omega
       | false=>
        have HI:=fun W h=>HIN W d h hd
        rw [hq] at HI
        have HTM:Hid (¬ tmem t d):=Lib.hid fun g=>by rw [(inB_iff HV.out).2 g] at hq;exact absurd hq (by decide)
        clear hq
        go_wp2_with (go_at_call 59;refine (HI _ (by (repeat' (with_reducible first|assumption|apply Er|apply Ea|apply Ed|apply En|(refine Es ?_ (by first|(simp<;>omega)|omega) _)|refine Et ?_ (by assumption))))).mono ?_;rintro e w1 ⟨rfl,hb3⟩)
        go_roundw
        case rel=>exact ⟨j+1,n,_,by omega,by go_num,rfl,rfl,Lib.hid (best_pass HBE2.out HS.out fun g=>HTM.out g.2.2),by (repeat' (with_reducible first|assumption|apply Er|apply Ea|apply Ed|apply En|(refine Es ?_ (by first|(simp<;>omega)|omega) _)|refine Et ?_ (by assumption)))⟩
        case measure=>simp [intOf];omega
      | true=>
       by_cases h2:d<n
       ·
        cases hq:inB t d with
        | true=>
         have HI:=fun W h=>HIN W d h hd
         rw [hq] at HI
         have HTM:=Lib.hid ((inB_iff HV.out).1 hq)
         clear hq
         go_wp2_with (go_at_call 59;refine (HI _ (by (repeat' (with_reducible first|assumption|apply Er|apply Ea|apply Ed|apply En|(refine Es ?_ (by first|(simp<;>omega)|omega) _)|refine Et ?_ (by assumption))))).mono ?_;rintro e w1 ⟨rfl,hb3⟩)
         go_roundw
         case rel=>exact ⟨j+1,d,true,by omega,by go_num,rfl,rfl,Lib.hid (best_take HBE2.out HS.out h1 (by first|exact .inl rfl|exact .inr (by assumption)) HTM.out),by (repeat' (with_reducible first|assumption|apply Er|apply Ea|apply Ed|apply En|(refine Es ?_ (by first|(simp<;>omega)|omega) _)|refine Et ?_ (by assumption)))⟩
         case measure=>simp [intOf];omega
        | false=>
         have HI:=fun W h=>HIN W d h hd
         rw [hq] at HI
         have HTM:Hid (¬ tmem t d):=Lib.hid fun g=>by rw [(inB_iff HV.out).2 g] at hq;exact absurd hq (by decide)
         clear hq
         go_wp2_with (go_at_call 59;refine (HI _ (by (repeat' (with_reducible first|assumption|apply Er|apply Ea|apply Ed|apply En|(refine Es ?_ (by first|(simp<;>omega)|omega) _)|refine Et ?_ (by assumption))))).mono ?_;rintro e w1 ⟨rfl,hb3⟩)
         go_roundw
         case rel=>exact ⟨j+1,n,_,by omega,by go_num,rfl,rfl,Lib.hid (best_pass HBE2.out HS.out fun g=>HTM.out g.2.2),by (repeat' (with_reducible first|assumption|apply Er|apply Ea|apply Ed|apply En|(refine Es ?_ (by first|(simp<;>omega)|omega) _)|refine Et ?_ (by assumption)))⟩
         case measure=>simp [intOf];omega
       ·go_wp2_with fail
        go_roundw
        case rel=>exact ⟨j+1,n,true,by omega,by go_num,rfl,rfl,Lib.hid (best_pass HBE2.out HS.out fun g=>g.2.1.elim (fun g=>absurd g (by decide)) h2),by (repeat' (with_reducible first|assumption|apply Er|apply Ea|apply Ed|apply En|(refine Es ?_ (by first|(simp<;>omega)|omega) _)|refine Et ?_ (by assumption)))⟩
        case measure=>simp [intOf];omega
     ·go_wp2_with fail
      go_roundw
      case rel=>exact ⟨j+1,n,b,by omega,by go_num,rfl,rfl,Lib.hid (best_pass HBE2.out HS.out fun g=>h1 g.1),by (repeat' (with_reducible first|assumption|apply Er|apply Ea|apply Ed|apply En|(refine Es ?_ (by first|(simp<;>omega)|omega) _)|refine Et ?_ (by assumption)))⟩
      case measure=>simp [intOf];omega
    ·obtain rfl:j=xp.head.length:=by omega
     go_wp2_with fail
     go_roundw
     case rel=>exact ⟨k+1,n,b,by omega,by go_num,rfl,rfl,Lib.hid (HBE2.out.congr fun x _=>by rw [headS_row hkt,← HXP.out]),by (repeat' (with_reducible first|assumption|apply Er|apply Ea|apply Ed|apply En|(refine Es ?_ (by first|(simp<;>omega)|omega) _)|refine Et ?_ (by assumption)))⟩
     case measure=>simp [intOf];omega
  ·obtain rfl:k=L.length:=by omega
   go_wp2_with fail
   go_ret2
   exact ⟨n,b,rfl,by rw [HT.out];exact HBE.out,by (repeat' (with_reducible first|assumption|apply Er|apply Ea|apply Ed|apply En|(refine Es ?_ (by first|(simp<;>omega)|omega) _)|refine Et ?_ (by assumption)))⟩
end Go.Proofs.YthjnojbeimchdaaGreat
namespace Go.Proofs.YthjnojbeimchdaaGreat
open Go.RowKit Go.Maps Kal
theorem KeepF.grown {F:Nat→Prop} {W W':World} {g:Nat} (h:W.grownBy W' (some g)) (hF:¬ F g):KeepF F W W':=fun b hb hl=>h.block b hl (by rintro ⟨⟩;exact hF hb)
theorem World.grownBy.trans' {A B C:World} {r:Option Nat} (h:A.grownBy B r) (k:B.grownBy C r):A.grownBy C r:=
 ⟨k.os.trans h.os,k.tape.trans h.tape,k.output.trans h.output,Nat.le_trans h.size k.size,fun b hb hn=>(k.block b (Nat.lt_of_lt_of_le hb h.size) hn).trans (h.block b hb hn)⟩
theorem World.grownBy.set' {A B:World} {g i:Nat} (h:A.grownBy B (some g)) (v:Value):A.grownBy (B.setCell ⟨g,i,none⟩ v) (some g):=
 ⟨h.os,h.tape,h.output,by rw [World.size_setCell];exact h.size,fun b hb hn=>(Below.heap_setCell B ⟨g,i,none⟩ v b (by rintro rfl;exact hn rfl)).trans (h.block b hb hn)⟩
theorem World.grownBy.below' {A B:World} {g B0:Nat} (h:A.grownBy B (some g)) (hg:B0≤g) (hB:B0≤A.heap.size):Below B0 A B:=
 ⟨h.os,h.tape,h.output,h.size,fun b hb=>h.block b (by omega) (by rintro ⟨⟩;omega)⟩
def Fits (xs:List Value) (done:List (Int × Int)):Prop:=∀ k,k<done.length→xs[k]? = some (.int .i64 (done.getD k (0,0)).2)
theorem Fits.snoc {xs:List Value} {done:List (Int × Int)} {a:Int × Int} (h:Fits xs done) (hl:done.length<xs.length):Fits (xs.set done.length (.int .i64 a.2)) (done ++ [a]):=by
 intro k hk
 rw [List.length_append] at hk
 simp only [List.length_singleton] at hk
 by_cases hk2:k<done.length
 ·rw [List.getElem?_set_ne (by omega),h k hk2,List.getD_eq_getElem?_getD,List.getD_eq_getElem?_getD,List.getElem?_append_left hk2]
 ·obtain rfl:k=done.length:=by omega
  rw [List.getElem?_set_self hl,List.getD_eq_getElem?_getD,List.getElem?_append_right (by omega)];simp
theorem Fits.pre {xs:List Value} {done:List (Int × Int)} {a:Int × Int} (h:Fits xs (done ++ [a])):Fits xs done:=fun k hk=>by
 have:=h k (by simp;omega)
 rwa [List.getD_eq_getElem?_getD,List.getElem?_append_left hk,← List.getD_eq_getElem?_getD] at this
def Takes (done:List (Int × Int)) (p:Per) (t:List Per) (c:Int):Prop:=Agree done p.period (resP p c)∧Ext (done ++ [(p.period,resP p c)]) t
theorem ext_drop {t:List Per} {i:Nat} {done:List (Int × Int)} (h:i<t.length):Ext done (t.drop i)↔∃ c∈(t.getD i default).cycle,Takes done (t.getD i default) (t.drop (i+1)) c:=by
 rw [List.drop_eq_getElem_cons h,List.getD_eq_getElem?_getD,List.getElem?_eq_getElem h];rfl
def AgreeK (done:List (Int × Int)) (P r:Int) (k:Nat):Prop:=∀ j,j<k→(r-(done.getD j (0,0)).2) % ((Int.gcd P (done.getD j (0,0)).1:Nat):Int)=0
theorem agree_k {done:List (Int × Int)} {P r:Int}:Agree done P r↔AgreeK done P r done.length:=by
 constructor
 ·exact fun h j hj=>h _ (getD_mem' hj)
 ·intro h x hx
  obtain ⟨j,hj,rfl⟩:=List.mem_iff_getElem.1 hx
  have:=h j hj
  rwa [List.getD_eq_getElem?_getD,List.getElem?_eq_getElem hj] at this
theorem AgreeK.succ {done:List (Int × Int)} {P r:Int} {k:Nat} (h:AgreeK done P r k) (h1:(r-(done.getD k (0,0)).2) % ((Int.gcd P (done.getD k (0,0)).1:Nat):Int)=0):AgreeK done P r (k+1):=fun j hj=>by
 by_cases hj2:j<k
 ·exact h j hj2
 ·obtain rfl:j=k:=by omega
  exact h1
structure Cho (g:Nat) (F:Nat→Prop) (v:Value) (L:List PV) (b1 b2 b3:Nat) (done:List (Int × Int)) (w:World) (xs:List Value):Prop where
 term:TermL w F v L
 c1:w.cell? ⟨b1,0,none⟩=some v
 c2:w.cell? ⟨b2,0,none⟩=some (.slice (some ⟨g,0,none⟩) L.length L.length)
 c3:w.cell? ⟨b3,0,none⟩=some (.func (.func 120) #[] #[.pointer (some ⟨b1,0,none⟩),.pointer (some ⟨b2,0,none⟩),.pointer (some ⟨b3,0,none⟩)])
 row:w.ownsRow g 3 1 (.slice (some ⟨g,0,none⟩) L.length L.length) L.length xs
 fits:Fits xs done
theorem Cho.grow {g:Nat} {F:Nat→Prop} {v:Value} {L:List PV} {b1 b2 b3:Nat} {done done':List (Int × Int)} {w W:World} {xs xs':List Value} (h:Cho g F v L b1 b2 b3 done w xs) (hg:w.grownBy W (some g)) (hF:¬ F g) (h1:b1≠g) (h2:b2≠g) (h3:b3≠g)
  (hr:W.ownsRow g 3 1 (.slice (some ⟨g,0,none⟩) L.length L.length) L.length xs') (hf:Fits xs' done'):Cho g F v L b1 b2 b3 done' W xs':=
 ⟨h.term.keep (KeepF.grown hg hF) hg.size,hg.cell h.c1 (by rintro ⟨⟩;exact h1 rfl),hg.cell h.c2 (by rintro ⟨⟩;exact h2 rfl),hg.cell h.c3 (by rintro ⟨⟩;exact h3 rfl),hr,hf⟩
theorem Cho.below {g:Nat} {F:Nat→Prop} {v:Value} {L:List PV} {b1 b2 b3:Nat} {done:List (Int × Int)} {w W:World} {xs:List Value} (h:Cho g F v L b1 b2 b3 done w xs) (hb:Below w.heap.size w W):Cho g F v L b1 b2 b3 done W xs:=
 ⟨h.term.keep (KeepF.below hb) hb.size,Ext.cell hb h.c1,Ext.cell hb h.c2,Ext.cell hb h.c3,h.row.kept (row:=none) ⟨hb.os,hb.tape,hb.output,hb.size,fun b hl _=>hb.block b hl⟩ (by right;simp [Value.ownBlock]),h.fits⟩
def ChRes (g:Nat) (F:Nat→Prop) (v:Value) (L:List PV) (b1 b2 b3:Nat) (done:List (Int × Int)) (i:Nat) (w:World) (e:Ending) (w':World):Prop:=
 ∃ b xs',e=.returned (.bool b)∧(b=true↔Ext done ((L.map PV.p).drop i))∧Cho g F v L b1 b2 b3 done w' xs'∧w.grownBy w' (some g)
set_option maxRecDepth 100000 in
set_option maxHeartbeats 4000000 in
theorem choose_any (g:Nat) (F:Nat→Prop) (v:Value) (L:List PV) (b1 b2 b3:Nat) (hF:¬ F g) (h1:b1≠g) (h2:b2≠g) (h3:b3≠g) (hv:TV (L.map PV.p)) :
  ∀ (n i:Nat) (done:List (Int × Int)) (xs:List Value) (w:World),i+n=L.length→done.length=i→(∀ k,k<i→(done.getD k (0,0)).1=((L.map PV.p).getD k default).period∧0≤(done.getD k (0,0)).2∧(done.getD k (0,0)).2≤1099511627776)→
   Cho g F v L b1 b2 b3 done w xs→
   Calls Tryz.prog 120 #[.int .i64 i,.pointer (some ⟨b1,0,none⟩),.pointer (some ⟨b2,0,none⟩),.pointer (some ⟨b3,0,none⟩)] w (ChRes g F v L b1 b2 b3 done i w):=by
 intro n
 induction n with
 | zero=>
  intro i done xs w hi hd hpr hc
  have hl1:=hc.term.len
  obtain rfl:i=L.length:=by omega
  obtain ⟨a1,c1,rfl,hx1,hx2,_⟩:=hc.term.row.is
  have k1:=hc.c1
  have HC:=Lib.hid hc
  clear hc hpr hd
  go_enter Tryz.func120,Tryz.ntmps120
  go_wp2_with fail
  go_step3
  go_wp2_with fail
  try rw [Exit.noGoto_ret]
  go_ret
  exact ⟨true,xs,rfl,by rw [List.drop_of_length_le (by simp)];exact ⟨fun _=>trivial,fun _=>rfl⟩,HC.out,⟨rfl,rfl,rfl,Nat.le_refl _,fun _ _ _=>rfl⟩⟩
 | succ n ih=>
  intro i done xs w hi hd hpr hc
  have IH:=Lib.hid ih
  clear ih
  have hl1:=hc.term.len
  have hli:i<L.length:=by omega
  have hiI:(i:Int)<L.length:=by omega
  obtain ⟨a1,cc1,rfl,hx1,hx2,_⟩:=hc.term.row.is
  have k1:=hc.c1
  obtain ⟨tb,o1,x,ha,hx,hxp,hb1,e0,e1,e2,e3⟩:=hc.term.get hli
  subst ha
  have HXP:=Lib.hid hxp
  have hvx:validB x.p=true:=hv _ (by rw [hxp];exact getD_mem' (by simpa using hli))
  have hvv:=(validB_iff x.p).1 hvx
  have hxi:=hx.is.cy
  obtain ⟨xh,xc,xp⟩:=x
  obtain ⟨ax1,nx1,cx1,ax2,nx2,cx2,rfl,rfl⟩:=hx.form
  dsimp only at e0 e1 e2 e3 hxi hvv
  change Hid (xp=_) at HXP
  obtain ⟨⟨ah,ch,he,_,_,hcl⟩,hln,hrg⟩:=hxi
  injection he with he1 he2 he3
  subst he1;subst he2;subst he3
  have f0:=hvv.wf.frm
  have f1:xp.frm≤1099511627776:=hvv.frm
  have p0:=hvv.wf.per
  have p1:xp.period≤1099511627776:=hvv.per
  have HCY:=Lib.hid hvv.wf.cyc
  have HCL:=Lib.hid hcl
  have HC:=Lib.hid hc
  have HPR:=Lib.hid hpr
  have HX:=Lib.hid hx
  have HD:=Lib.hid hd
  have HI:=Lib.hid hi
  have HV:=Lib.hid hv
  clear hcl hc hpr hx hvv hvx hrg hxp hd hv hi
  go_enter Tryz.func120,Tryz.ntmps120
  go_wp2_with fail
  go_step3
  go_wp2_with fail
  go_step3
  go_wp2_with fail
  generalize ((i:Int) == (L.length:Int))=q13
  go_loopw [5,7,8,9,20] (fun _ _ _ _ idx wr=>∃ (j:Nat) (ys:List Value),j≤xp.cycle.length∧idx=.int .i64 j∧Hid (∀ q,q<j→¬ Takes done xp ((L.map PV.p).drop (i+1)) (xp.cycle.getD q 0))∧Hid (Cho g F (.slice (some ⟨tb,o1,none⟩) L.length cc1) L b1 b2 b3 done wr ys)∧Hid (w.grownBy wr (some g))) (fun _ _ _ _ idx _=>xp.cycle.length-(intOf idx).toNat)
  case atStart=>exact ⟨0,xs,by omega,rfl,Lib.hid (fun q hq=>by omega),HC,Lib.hid ⟨rfl,rfl,rfl,Nat.le_refl _,fun _ _ _=>rfl⟩⟩
  case round=>
   obtain ⟨j,ys,hj,rfl,HNO,HCH,HG⟩:=hrel
   by_cases hjl:j<xp.cycle.length
   ·have hjI:(j:Int)<xp.cycle.length:=by omega
    have q1:=HCH.out.c1
    obtain ⟨_,_,y,hay,hy,hyp,hyb,g0,g1,g2,g3⟩:=HCH.out.term.get hli
    cases hay
    obtain ⟨yh,yc,yp⟩:=y
    obtain ⟨ay1,ny1,cy1,ay2,ny2,cy2,rfl,rfl⟩:=hy.form
    obtain rfl:yp=xp:=hyp.trans HXP.out.symm
    dsimp only at g0 g1 g2 g3
    have hcyr:=(HX.out.keep (KeepF.grown HG.out hF)).is.cy
    obtain ⟨⟨ah,ch,he,_,_,hcl⟩,_,_⟩:=hcyr
    injection he with he1 he2 he3
    subst he1;subst he3
    rcases hcl with h0|⟨b4,o4,rfl,hc4⟩
    ·rw [h0] at hjl;simp at hjl
    have c0:=hc4 j hjl
    have hcb:=HCY.out.2 _ (getD_mem' (d:=0) hjl)
    have HJ:Hid (yp.cycle.getD j 0∈yp.cycle):=Lib.hid (getD_mem' hjl)
    generalize hcc:yp.cycle.getD j 0=c at *
    have HCC:=Lib.hid hcc
    have hr:=resP_lt ((validB_iff yp).1 (HV.out _ (by rw [HXP.out];exact getD_mem' (by simpa using hli)))).wf c
    have HRES:=fun W=>mresidue_any (.slice ay1 ny1 cy1) (.slice ay2 ny2 cy2) yp c W f0 (by omega) p0 (by omega) hcb.1 (by omega)
    generalize hrr:resP yp c=r at *
    have HRR:=Lib.hid hrr
    have HYP:=Lib.hid hyp
    clear hc4 hcc hrr hy hyp
    go_wp2_with (go_at_call 121;refine (HRES _).mono ?_;rintro e w1 ⟨rfl,hbr⟩)
    have HC1:=Lib.hid (HCH.out.below hbr)
    have HB1:=Lib.hid hbr
    go_loopw [9,31] (fun _ idx wq=>∃ k:Nat,k≤i∧idx=.int .i64 k∧Hid (AgreeK done yp.period r k)∧Hid (Below w1.heap.size w1 wq)) (fun _ idx _=>i-(intOf idx).toNat)
    case atStart=>exact ⟨0,by omega,rfl,Lib.hid (fun _ h=>absurd h (by omega)),Lib.hid (Below.refl _ _)⟩
    case round=>
     obtain ⟨k,hk,rfl,HAG,HB⟩:=hrel
     have HCQ:=Lib.hid (HC1.out.below HB.out)
     have q1:=HCQ.out.c1
     have q2:=HCQ.out.c2
     by_cases hkl:k<i
     ·have hkI:(k:Int)<i:=by omega
      have q4:=(HCQ.out.row.cellAt k (by omega)).trans (HCQ.out.fits k (by have:=HD.out;omega))
      obtain ⟨hd1,hd2,hd3⟩:=HPR.out k hkl
      obtain ⟨_,_,y,hay,hy,hyp,hyb,g0,g1,g2,g3⟩:=HCQ.out.term.get hli
      cases hay
      obtain ⟨yh,yc,yp'⟩:=y
      obtain ⟨ay1,ny1,cy1,ay2,ny2,cy2,rfl,rfl⟩:=hy.form
      obtain rfl:yp'=yp:=hyp.trans HXP.out.symm
      obtain ⟨_,_,z,hay,hz,hzp,hzb,z0,z1,z2,z3⟩:=HCQ.out.term.get (show k<L.length by omega)
      cases hay
      obtain ⟨zh,zc,zp⟩:=z
      obtain ⟨az1,nz1,dz1,az2,nz2,dz2,rfl,rfl⟩:=hz.form
      dsimp only at g0 g1 g2 g3 z0 z1 z2 z3
      change zp=_ at hzp
      rw [← hzp] at hd1
      have hzv:=(validB_iff zp).1 (HV.out _ (by rw [hzp];exact getD_mem' (by simp;omega)))
      have z5:=hzv.wf.per
      have z6:zp.period≤1099511627776:=hzv.per
      have hgb:=gcd_bound (a:=yp'.period) (b:=zp.period) p0
      have HGC:=fun W=>gcd_any yp'.period zp.period W (by omega) (by omega) (by omega) (by omega)
      have HSUC:Hid ((r-(done.getD k (0,0)).2) % ((Int.gcd yp'.period (done.getD k (0,0)).1:Nat):Int)=0→AgreeK done yp'.period r (k+1)):=Lib.hid HAG.out.succ
      have HFAI:Hid (Agree done yp'.period r→(r-(done.getD k (0,0)).2) % ((Int.gcd yp'.period (done.getD k (0,0)).1:Nat):Int)=0):=Lib.hid fun h=>agree_k.1 h k (by have:=HD.out;omega)
      rw [hd1] at HSUC HFAI
      generalize ((Int.gcd yp'.period zp.period:Nat):Int)=G at *
      generalize (done.getD k (0,0)).2=d2 at *
      have htm:(r-d2).tmod G=0↔(r-d2) % G=0:=by
       constructor
       ·exact fun h=>Int.emod_eq_zero_of_dvd (Int.dvd_of_tmod_eq_zero h)
       ·exact fun h=>Int.tmod_eq_zero_of_dvd (Int.dvd_of_emod_eq_zero h)
      by_cases ha:(r-d2) % G=0
      ·have hT:=htm.2 ha
       have HN:=Lib.hid (HSUC.out ha)
       clear htm ha hy hz hd1 hzv hyp hzp
       go_wp2_with fail
       go_quiet ((go_at_call 77;(first|exact Calls.quiet_of (HGC _)|exact quiet_add (HGC _))))
       go_wp2_with fail
       go_roundw
       case rel=>exact ⟨k+1,by omega,by go_num,HN,Lib.hid (Below.drewN HB.out _)⟩
       case measure=>simp [intOf];omega
      ·have hT:(r-d2).tmod G≠0:=fun h=>ha (htm.1 h)
       have HNT:Hid (¬ Takes done yp' ((L.map PV.p).drop (i+1)) c):=Lib.hid fun h=>ha (HFAI.out (by have:=h.1;rwa [HRR.out] at this))
       clear htm ha hy hz hd1 hzv hyp hzp
       go_wp2_with fail
       go_quiet ((go_at_call 77;(first|exact Calls.quiet_of (HGC _)|exact quiet_add (HGC _))))
       go_wp2_with fail
       go_roundw
       case rel=>exact ⟨j+1,ys,by omega,by go_num,Lib.hid (fun q hq=>by
        by_cases hqj:q<j
        ·exact HNO.out q hqj
        ·obtain rfl:q=j:=by omega
         rw [HCC.out];exact HNT.out),Lib.hid (HCQ.out.below (Below.drewN (Below.refl _ _) _)),Lib.hid (World.grownBy.trans' HG.out (World.grownBy.of_below ((HB1.out.trans ((Below.drewN HB.out _).mono HB1.out.size))) _))⟩
       case measure=>simp [intOf];omega
     ·obtain rfl:k=i:=by omega
      have q5:=(HCQ.out.row.cellAt k (by omega))
      have hyl:ys.length=L.length:=by have:=HCQ.out.row.1;omega
      rw [List.getElem?_eq_getElem (by omega)] at q5
      have q6:=HCQ.out.row.frozenAt k
      have hgr:wr.grownBy (wr.setCell ⟨g,k,none⟩ (.int .i64 r)) (some g):=World.grownBy.set' ⟨rfl,rfl,rfl,Nat.le_refl _,fun _ _ _=>rfl⟩ _
      have HFD:Hid (Fits (ys.set k (.int .i64 r)) (done ++ [(yp.period,r)])):=Lib.hid (by have h:=HCQ.out.fits.snoc (a:=(yp.period,r)) (by rw [HD.out];omega);rwa [HD.out] at h)
      have HST:=Lib.hid (HCQ.out.grow hgr hF h1 h2 h3 (HCQ.out.row.stored k (.int .i64 r)).1 HFD.out)
      have HREC:=IH.out (k+1) (done ++ [(yp.period,r)]) _ _ (by have:=HI.out;omega) (by simp [HD.out]) (fun q hq=>by
       by_cases hqk:q<k
       ·have h:=HPR.out q hqk
        have e:(done ++ [(yp.period,r)]).getD q (0,0)=done.getD q (0,0):=by rw [List.getD_eq_getElem?_getD,List.getElem?_append_left (by have:=HD.out;omega),← List.getD_eq_getElem?_getD]
        rw [e];exact h
       ·obtain rfl:q=k:=by omega
        have e:(done ++ [(yp.period,r)]).getD q (0,0)=(yp.period,r):=by rw [List.getD_eq_getElem?_getD,List.getElem?_append_right (by have:=HD.out;omega),HD.out];simp
        rw [e];exact ⟨by rw [← HXP.out],by omega,by omega⟩) HST.out
      rw [show ((k+1:Nat):Int)=(k:Int)+1 from by omega] at HREC
      have HAG2:Hid (Agree done yp.period r):=Lib.hid (agree_k.2 (by rw [HD.out];exact HAG.out))
      have HGW:=Lib.hid (World.grownBy.trans' HG.out (World.grownBy.of_below (HB1.out.trans (HB.out.mono HB1.out.size)) _))
      have q7:=HST.out.c3
      have q8:=HST.out.c1
      clear hgr
      go_wp2_with (go_at_call 120;refine HREC.mono ?_;rintro e w2 ⟨bb,zs,rfl,hiff,hch2,hg2⟩;have HIF:=Lib.hid hiff;have HC2:=Lib.hid hch2;have HG2:=Lib.hid hg2;clear hiff hch2 hg2;cases bb)
      ·
       go_roundw
       case rel=>exact ⟨j+1,zs,by omega,by go_num,Lib.hid (fun q hq=>by
        by_cases hqj:q<j
        ·exact HNO.out q hqj
        ·obtain rfl:q=j:=by omega
         rw [HCC.out]
         rintro ⟨h7,h8⟩
         rw [HRR.out] at h8
         exact absurd h8 (by simpa using HIF.out)),Lib.hid ⟨HC2.out.term,HC2.out.c1,HC2.out.c2,HC2.out.c3,HC2.out.row,HC2.out.fits.pre⟩,Lib.hid (World.grownBy.trans' (World.grownBy.set' HGW.out _) HG2.out)⟩
       case measure=>simp [intOf];omega
      ·
       try rw [Exit.noGoto_ret]
       go_ret
       refine ⟨true,zs,rfl,?_,⟨HC2.out.term,HC2.out.c1,HC2.out.c2,HC2.out.c3,HC2.out.row,HC2.out.fits.pre⟩,World.grownBy.trans' (World.grownBy.set' HGW.out _) HG2.out⟩
       refine ⟨fun _=>(ext_drop (by simp;omega)).2 ⟨c,?_,?_⟩,fun _=>rfl⟩
       ·rw [← HXP.out];exact HJ.out
       ·rw [← HXP.out];exact ⟨by rw [HRR.out];exact HAG2.out,by rw [HRR.out];exact HIF.out.1 (by first|rfl|trivial|simp)⟩
   ·obtain rfl:j=xp.cycle.length:=by omega
    go_wp2_with fail
    try rw [Exit.noGoto_ret]
    go_ret
    refine ⟨false,ys,rfl,⟨fun h=>absurd h (by decide),fun h=>?_⟩,HCH.out,HG.out⟩
    obtain ⟨c,hc1,hc2⟩:=(ext_drop (by simp;omega)).1 h
    rw [← HXP.out] at hc1 hc2
    obtain ⟨q,hq,rfl⟩:=List.mem_iff_getElem.1 hc1
    exact absurd (by rw [List.getD_eq_getElem?_getD,List.getElem?_eq_getElem hq];exact hc2) (HNO.out q hq)
end Go.Proofs.YthjnojbeimchdaaGreat
namespace Go.Proofs.YthjnojbeimchdaaGreat
open Go.RowKit Go.Maps Kal
theorem Ints.lt {W:World} {v:Value} {l:List Int} (h:Ints W v l) (hl:l≠[]) {k:Nat} (hk:v.ownBlock=some k):k<W.heap.size:=by
 obtain ⟨⟨a,c,rfl,h1,h2,h3⟩,h4,h5⟩:=h
 rcases h3 with h3|⟨b,o,rfl,hc⟩
 ·exact absurd h3 hl
 ·simp [Value.ownBlock] at hk
  subst hk
  exact World.block_lt_of_cell? W _ (hc 0 (List.length_pos_iff.2 hl))
theorem PVok.lt {W:World} {F:Nat→Prop} {x:PV} (h:PVok W F x):PVok W (fun b=>F b∧b<W.heap.size) x:=
 ⟨h.is,h.fr,h.pe,fun e k hk=>⟨h.bh e k hk,h.is.hd.lt e hk⟩,fun e k hk=>⟨h.bc e k hk,h.is.cy.lt e hk⟩⟩
theorem RowR.lt {W:World} {F:Nat→Prop} {v:Value} {n:Nat} {cs:List Value} (h:RowR W F v n cs):RowR W (fun b=>F b∧b<W.heap.size) v n cs:=by
 obtain ⟨a,c,rfl,h1,h2,h3⟩:=h
 refine ⟨a,c,rfl,h1,h2,h3.imp id ?_⟩
 rintro ⟨b,o,rfl,hb,hl,hc⟩
 exact ⟨b,o,rfl,⟨hb,hl⟩,hl,hc⟩
theorem TermL.lt {W:World} {F:Nat→Prop} {v:Value} {L:List PV} (h:TermL W F v L):TermL W (fun b=>F b∧b<W.heap.size) v L:=⟨h.row.lt,h.len,fun x hx=>(h.all x hx).lt⟩
theorem TermR.lt {W:World} {F:Nat→Prop} {v:Value} {t:List Per} (h:TermR W F v t):TermR W (fun b=>F b∧b<W.heap.size) v t:=by
 obtain ⟨L,e,g⟩:=h;exact ⟨L,e,g.lt⟩
theorem MixL.lt {W:World} {F:Nat→Prop} {v:Value} {L:List (Value × List Per)} (h:MixL W F v L):MixL W (fun b=>F b∧b<W.heap.size) v L:=⟨h.row.lt,h.len,fun x hx=>(h.all x hx).lt⟩
theorem MixR.lt {W:World} {F:Nat→Prop} {v:Value} {m:List (List Per)} (h:MixR W F v m):MixR W (fun b=>F b∧b<W.heap.size) v m:=by
 obtain ⟨L,e,g⟩:=h;exact ⟨L,e,g.lt⟩
theorem TV.wf {t:List Per} (h:TV t):∀ p∈t,p.WF:=fun p hp=>((validB_iff p).1 (h p hp)).wf
theorem choose_top (F:Nat→Prop) (v:Value) (L:List PV) (w w3:World) (xs:List Value) (hv:TV (L.map PV.p)) (hT:TermL w (fun b=>F b∧b<w.heap.size) v L) (hb:Below w.heap.size w w3) (hs:w.heap.size+1<w3.heap.size)
  (hc:w3.cell? ⟨w.heap.size,0,none⟩=some v) (ho:w3.ownsRow (w.heap.size+1) 3 1 (.slice (some ⟨w.heap.size+1,0,none⟩) L.length L.length) L.length xs) :
  Calls Tryz.prog 120 #[.int .i64 0,.pointer (some ⟨w.heap.size,0,none⟩),.pointer (some ⟨w3.heap.size,0,none⟩),.pointer (some ⟨w3.heap.size+1,0,none⟩)]
   ((w3.alloc (.cells #[.slice (some ⟨w.heap.size+1,0,none⟩) L.length L.length] 37)).alloc (.cells #[.func (.func 120) #[] #[.pointer (some ⟨w.heap.size,0,none⟩),.pointer (some ⟨w3.heap.size,0,none⟩),.pointer (some ⟨w3.heap.size+1,0,none⟩)]] 111))
   fun e w'=>∃ b,e=.returned (.bool b)∧(b=true↔recT (L.map PV.p))∧Below w.heap.size w w':=by
 have hcho:Cho (w.heap.size+1) (fun b=>F b∧b<w.heap.size) v L w.heap.size w3.heap.size (w3.heap.size+1) []
   ((w3.alloc (.cells #[.slice (some ⟨w.heap.size+1,0,none⟩) L.length L.length] 37)).alloc (.cells #[.func (.func 120) #[] #[.pointer (some ⟨w.heap.size,0,none⟩),.pointer (some ⟨w3.heap.size,0,none⟩),.pointer (some ⟨w3.heap.size+1,0,none⟩)]] 111)) xs:=by
  refine ⟨hT.keep (KeepF.below ((Ea (Ea hb _) _))) (Ea (Ea hb _) _).size,cell_alloc_at (cell_alloc_at hc _) _,cell_alloc_at ?_ _,?_,(ho.alloc _).alloc _,fun k hk=>absurd hk (by simp)⟩
  ·exact ((Bxx.new _ _ _).cells 0).1
  ·have h:=((Bxx.at (w:=w3.alloc (.cells #[.slice (some ⟨w.heap.size+1,0,none⟩) L.length L.length] 37)) (b:=w3.heap.size+1) (c:=#[.func (.func 120) #[] #[.pointer (some ⟨w.heap.size,0,none⟩),.pointer (some ⟨w3.heap.size,0,none⟩),.pointer (some ⟨w3.heap.size+1,0,none⟩)]]) (t:=111) (by rw [World.size_alloc])).cells 0).1
   exact h
 have h:=choose_any (w.heap.size+1) _ v L w.heap.size w3.heap.size (w3.heap.size+1) (by omega) (by omega) (by omega) (by omega) hv L.length 0 [] xs _ (by omega) rfl (fun k hk=>by omega) hcho
 refine h.mono ?_
 rintro e w' ⟨b,zs,rfl,hiff,-,hg⟩
 refine ⟨b,rfl,?_,(Ea (Ea hb _) _).trans (World.grownBy.below' hg (by omega) (by simp [World.size_alloc];omega))⟩
 rw [hiff,List.drop_zero]
 exact rec_iff hv.wf
set_option maxRecDepth 100000 in
set_option maxHeartbeats 2000000 in
theorem recurs_any (F:Nat→Prop) (v:Value) (t:List Per) (w:World) (ht:TermR w F v t) (hv:TV t) :
  Calls Tryz.prog 76 #[v] w fun e w'=>∃ b,e=.returned (.bool b)∧(b=true↔recT t)∧Below w.heap.size w w':=by
 obtain ⟨L,rfl,hL⟩:=ht
 obtain ⟨a1,cc1,rfl,hx1,hx2,_⟩:=hL.row.is
 have hl1:=hL.len
 have HRC:=Lib.hid (rec_iff hv.wf)
 have HT:=fun W (h:Below w.heap.size w W)=>(hL.lt.keep (KeepF.below h) h.size)
 have HV:=Lib.hid hv
 have HTL:=Lib.hid HT
 obtain ⟨bi,hbi,hbz,hbs,hby⟩:=intInfo
 clear hL HT hv
 go_enter Tryz.func76,Tryz.ntmps76
 go_wp2_with (first|(at_make;refine wpList_make_full _ rfl _ _ 37 rfl (w.heap.size+1) 3 bi (.int .i64 0) 1 Tryz.underlying37 hbi hbz hbs .i64 .i64 _ _ L.length rfl rfl rfl rfl (by rw [hby];omega) (by unfold maxLen;omega) (by simp) ?_;intro w3 hown3 hgrow3;have hb3:Below w.heap.size w w3:=(Below.trans (Ea (Er w) _) ((Below.refl _ _).grown hgrow3 (by simp) (fun k e=>by cases e))))|(go_at_call 120;have hs3:=(hown3.lt _ rfl).2;have hc3:=hgrow3.cell ((Bxx.new w _ _).cells 0).1 (by simp);rw [World.size_alloc] at hown3 hs3;refine (choose_top F _ L w w3 _ HV.out (HTL.out w (Er w)) hb3 hs3 hc3 hown3).mono ?_;rintro e w4 ⟨b,rfl,hb4⟩))
 go_ret
 exact ⟨b,rfl,hb4⟩
theorem barren_of {t:List Per} {n:Int} {b:Bool} (hw:∀ p∈t,p.WF) (h:BestE (headS t t.length 0) 0 n b):barrenT t↔b=false∧¬ recT t:=by
 by_cases hne:t=[]
 ·subst hne
  exact ⟨fun h=>absurd (fun p hp=>by simp at hp) (h 0),fun ⟨_,h⟩=>absurd ⟨0,by decide,fun p hp=>by simp at hp⟩ h⟩
 ·rw [barren_iff]
  refine and_congr ?_ Iff.rfl
  have h2:=h.congr (T:=fun x=>tmem t x∧x<startT t) fun x _=>(headS_all hne hw).symm
  rcases h2 with ⟨rfl,h1,h3,_⟩|⟨rfl,rfl,h1⟩
  ·exact ⟨fun g=>absurd h3.1 (g n h3.2),fun g=>absurd g (by decide)⟩
  ·exact ⟨fun _=>rfl,fun _ x hx hm=>h1 x (tmem_nonneg hne hm) ⟨hm,hx⟩⟩
set_option maxRecDepth 100000 in
set_option maxHeartbeats 1000000 in
theorem barren_any (F:Nat→Prop) (v:Value) (t:List Per) (w:World) (ht:TermR w F v t) (hv:TV t) :
  Calls Tryz.prog 75 #[v] w fun e w'=>∃ b,e=.returned (.bool b)∧(b=true↔barrenT t)∧Below w.heap.size w w':=by
 have H1:=early_any F v t 0 w ht hv (by constructor <;> decide)
 have H2:=fun W (h:Below w.heap.size w W)=>recurs_any F v t W (ht.ext h) hv
 have HW:=Lib.hid hv.wf
 obtain ⟨L,rfl,hL⟩:=ht
 obtain ⟨a1,cc1,rfl,hx1,hx2,_⟩:=hL.row.is
 clear hL hv
 go_enter Tryz.func75,Tryz.ntmps75
 go_wp2_with (first|(go_at_call 101;refine H1.mono ?_;rintro e w1 ⟨n,b,rfl,hE,hb1⟩;have HE:=Lib.hid hE;clear hE;cases b)|(go_at_call 76;refine (H2 _ (by (repeat' (with_reducible first|assumption|apply Er|apply Ea|apply Ed|apply En|(refine Es ?_ (by first|(simp<;>omega)|omega) _)|refine Et ?_ (by assumption))))).mono ?_;rintro e w2 ⟨r,rfl,hR,hb2⟩;have HR:=Lib.hid hR;clear hR;cases r))
 all_goals go_ret
 all_goals
  refine ⟨_,rfl,?_,by (repeat' (with_reducible first|assumption|apply Er|apply Ea|apply Ed|apply En|(refine Es ?_ (by first|(simp<;>omega)|omega) _)|refine Et ?_ (by assumption)))⟩
  rw [barren_of HW.out HE.out]
  first|(simp;done)|(have:=HR.out;simp at this ⊢;exact this)
end Go.Proofs.YthjnojbeimchdaaGreat
namespace Go.Proofs.YthjnojbeimchdaaGreat
open Go.RowKit Go.Maps Kal
theorem box_setCells {g:Nat} {t:TypeId}:∀ (vs:List Value) (o:Nat) (w:World) (cur:Array Value),Bxx w g cur t→o+vs.length≤cur.size→
  ∃ cur',Bxx (w.setCells g o vs) g cur' t∧cur'.size=cur.size∧(∀ i,i<cur.size→cur'[i]? = if o≤i∧i<o+vs.length then vs[i-o]? else cur[i]?)∧w.grownBy (w.setCells g o vs) (some g)
 | [],o,w,cur,h,_=>⟨cur,h,rfl,fun i hi=>by rw [if_neg (by simp)],⟨rfl,rfl,rfl,Nat.le_refl _,fun _ _ _=>rfl⟩⟩
 | v :: vs,o,w,cur,h,hl=>by
  rw [List.length_cons] at hl
  have h1:Bxx (w.setCell ⟨g,o,none⟩ v) g (cur.setIfInBounds o v) t:=heap_set_at o v h
  obtain ⟨cur',g1,g2,g3,g4⟩:=box_setCells vs (o+1) _ _ h1 (by rw [Array.size_setIfInBounds];omega)
  refine ⟨cur',g1,by rw [g2,Array.size_setIfInBounds],fun i hi=>?_,World.grownBy.trans' (World.grownBy.set' ⟨rfl,rfl,rfl,Nat.le_refl _,fun _ _ _=>rfl⟩ v) g4⟩
  rw [g3 i (by rw [Array.size_setIfInBounds];exact hi)]
  by_cases h5:o=i
  ·subst h5
   rw [if_neg (by omega),if_pos (by simp),Array.getElem?_setIfInBounds_self_of_lt hi];simp
  ·rw [Array.getElem?_setIfInBounds_ne h5]
   by_cases h6:o+1≤i∧i<o+1+vs.length
   ·rw [if_pos h6,if_pos (by simp;omega)]
    obtain ⟨k,rfl⟩:∃ k,i=o+1+k:=⟨i-(o+1),by omega⟩
    rw [show o+1+k-(o+1)=k by omega,show o+1+k-o=k+1 by omega,List.getElem?_cons_succ]
   ·rw [if_neg h6,if_neg (by simp;omega)]
theorem row_deleted {w:World} {g base sz n cap i:Nat} {e:TypeId} {xs:List Value} (h:w.ownsRow base e sz (.slice (some ⟨g,0,none⟩) n cap) n xs) (hi:i<n) (zs:List Value) (hz:zs.length=sz) :
  ((
   w.setCells g (i*sz) (xs.drop ((i+1)*sz))).setCells g ((n-1)*sz) zs).ownsRow base e sz (.slice (some ⟨g,0,none⟩) (n-1) cap) (n-1) (xs.take (i*sz) ++ xs.drop ((i+1)*sz))∧
   w.grownBy ((w.setCells g (i*sz) (xs.drop ((i+1)*sz))).setCells g ((n-1)*sz) zs) (some g):=by
 obtain ⟨hl,h|⟨g',cap',cur,he,hb,hg,hnc,hcm,hcs,ht⟩⟩:=h
 ·cases h.1
 cases he
 obtain ⟨m,rfl⟩:∃ m,n=m+1:=⟨n-1,by omega⟩
 have hb1:i*sz≤m*sz:=Nat.mul_le_mul_right _ (by omega)
 have hb2:(m+1)*sz≤cap*sz:=Nat.mul_le_mul_right _ hnc
 rw [Nat.succ_mul] at hl ht hb2
 rw [Nat.succ_mul,show m+1-1=m from by omega]
 have hmm:(m+1-1)*sz=m*sz:=by rw [show m+1-1=m from by omega]
 generalize i*sz=a at *
 generalize hc:m*sz=c at *
 have hdl:(xs.drop (a+sz)).length=c-a:=by rw [List.length_drop];omega
 obtain ⟨cur1,a1,a2,a3,a4⟩:=box_setCells (xs.drop (a+sz)) a w cur hg (by omega)
 obtain ⟨cur2,b1,b2,b3,b4⟩:=box_setCells zs c _ cur1 a1 (by omega)
 refine ⟨⟨by rw [List.length_append,List.length_take,hdl];omega,.inr ⟨g,cap,cur2,rfl,hb,b1,by omega,hcm,by omega,?_⟩⟩,World.grownBy.trans' a4 b4⟩
 rw [hc]
 refine List.ext_getElem? fun k=>?_
 by_cases hk:k<c
 ·rw [List.getElem?_take_of_lt hk,Array.getElem?_toList,b3 k (by omega),if_neg (by omega),a3 k (by omega)]
  by_cases hka:k<a
  ·rw [if_neg (by omega),List.getElem?_append_left (by rw [List.length_take];omega),List.getElem?_take_of_lt hka,← ht,List.getElem?_take_of_lt (by omega),Array.getElem?_toList]
  ·rw [if_pos (by omega),List.getElem?_append_right (by rw [List.length_take];omega),List.length_take,Nat.min_eq_left (by omega)]
 ·rw [List.getElem?_eq_none (by rw [List.length_take];omega),List.getElem?_eq_none (by rw [List.length_append,List.length_take,hdl];omega)]
theorem run_clear_one {P:Program} (w:World) (t e ty:TypeId) (z:Value) (ht:P.underlying t=some (.slice e)) (hv:∀ w,(zeroValue e).run P w=.ok z w) (h1:∀ v∈z.cells.toList,v.oneCell'=true) (b o c:Nat)
  (hc:∀ j,j<z.cells.size→(w.cell? ⟨b,o+j,none⟩).isSome=true∧w.frozen? ⟨b,o+j,none⟩=false) :
  (Builtin.clear_ #[t] ty #[.slice (some ⟨b,o,none⟩) 1 c]).run P w=.ok (.tuple #[]) (w.setCells b o z.cells.toList):=by
 have hzc:(Builtin.zeroCells z.cells 1).toList=z.cells.toList:=by
  refine List.ext_getElem (by simp [Builtin.zeroCells]) fun i g1 g2=>?_
  have h3:i<z.cells.size:=by simpa using g2
  simp [Builtin.zeroCells,Nat.mod_eq_of_lt h3,h3]
 have hst:=run_storeCells_cells (P:=P) b o z.cells.toList 0 w (fun j hj=>(hc j (by simpa using hj)).1) (fun j hj=>(hc j (by simpa using hj)).2) h1
 simp only [Nat.add_zero] at hst
 simp [Builtin.clear_,run_underlying ht,hv,hzc,hst]
theorem perInfo:∃ i,Tryz.prog.info? 39=some i∧i.zero=some (.agg #[.slice none 0 0,.int .i64 0,.int .i64 0,.slice none 0 0])∧i.size=4∧i.bytes=64:=by
 have h:(Tryz.prog.info? 39).map (fun i=>(i.zero,i.size,i.bytes))=some (some (.agg #[.slice none 0 0,.int .i64 0,.int .i64 0,.slice none 0 0]),4,64):=by kernel_rfl
 obtain ⟨i,hi,h1,h2,h3⟩:=info_parts h
 exact ⟨i,hi,h1,h2,h3⟩
theorem termInfo:∃ i,Tryz.prog.info? 36=some i∧i.zero=some (.slice none 0 0)∧i.size=1∧i.bytes=24:=by
 have h:(Tryz.prog.info? 36).map (fun i=>(i.zero,i.size,i.bytes))=some (some (.slice none 0 0),1,24):=by kernel_rfl
 obtain ⟨i,hi,h1,h2,h3⟩:=info_parts h
 exact ⟨i,hi,h1,h2,h3⟩
theorem run_zeroV {P:Program} {t:TypeId} {i:TypeInfo} {z:Value} (h:P.info? t=some i) (hz:i.zero=some z) (w:World):(zeroValue t).run P w=.ok z w:=by
 simp [zeroValue,typeInfo,h,hz]
set_option maxRecDepth 100000 in
set_option maxHeartbeats 2000000 in
theorem deleteS_any (base g n cap i:Nat) (xs:List Value) (w:World) (h:w.ownsRow base 39 4 (.slice (some ⟨g,0,none⟩) n cap) n xs) (hi:i<n) (h1c:∀ u∈xs,u.oneCell'=true) :
  Calls Tryz.prog 145 #[.slice (some ⟨g,0,none⟩) n cap,.int .i64 i,.int .i64 (i+1)] w fun e w'=>e=.returned (.slice (some ⟨g,0,none⟩) (n-1) cap)∧w'.ownsRow base 39 4 (.slice (some ⟨g,0,none⟩) (n-1) cap) (n-1) (xs.take (i*4) ++ xs.drop ((i+1)*4))∧w.grownBy w' (some g):=by
 obtain ⟨bi,hbi,hbz,hbs,hby⟩:=perInfo
 obtain ⟨hxl,hnc,hcm⟩:xs.length=n*4∧n≤cap∧cap≤9223372036854775807:=by
  obtain ⟨h1,h2|⟨_,_,_,he,_,_,h3,h4,_⟩⟩:=h
  ·cases h2.1
  ·cases he;exact ⟨h1,h3,h4⟩
 have hcl:∀ j,j<n*4→(w.drew.cell? ⟨g,j,none⟩).isSome=true∧w.drew.frozen? ⟨g,j,none⟩=false:=fun j hj=>
  ⟨by have h2:=h.drew.cellAt j hj;rw [List.getElem?_eq_getElem (by omega)] at h2;rw [h2];rfl,h.drew.frozenAt j⟩
 obtain ⟨news,hnews⟩:∃ news,news=xs.drop ((i+1)*4):=⟨_,rfl⟩
 have hlen:news.length=(n-(i+1))*4:=by rw [hnews,List.length_drop,hxl];omega
 obtain ⟨A,hA,hsrc⟩:∃ A:Addr,(if cap=i+1 then some (⟨g,0,none⟩:Addr) else some ⟨g,(i+1)*4,none⟩)=some A∧Hid (∀ t u,news[t]? = some u→w.drew.cell? (A.add t)=some u):=by
  by_cases hc:cap=i+1
  ·refine ⟨⟨g,0,none⟩,by simp [hc],Lib.hid fun t u hu=>?_⟩
   have h0:news.length=0:=by rw [hlen];omega
   rw [List.length_eq_zero_iff.1 h0] at hu
   simp at hu
  ·refine ⟨⟨g,(i+1)*4,none⟩,by simp [hc],Lib.hid fun t u hu=>?_⟩
   have ht:t<(n-(i+1))*4:=by
    have:=(List.getElem?_eq_some_iff.1 hu).1
    omega
   rw [hnews,List.getElem?_drop] at hu
   rw [Addr.add_lit]
   exact (h.drew.cellAt _ (by omega)).trans hu
 have s1:=Lib.hid hlen
 have s2:Hid (∀ u∈news,u.oneCell'=true):=Lib.hid fun u hu=>h1c u (by rw [hnews] at hu;exact List.mem_of_mem_drop hu)
 have s3:Hid (∀ t,t<news.length→(w.drew.cell? ⟨g,0+i*4+t,none⟩).isSome=true∧w.drew.frozen? ⟨g,0+i*4+t,none⟩=false):=Lib.hid fun t ht=>hcl _ (by omega)
 have HRES:=Lib.hid (row_deleted h.drew hi [.slice none 0 0,.int .i64 0,.int .i64 0,.slice none 0 0] rfl)
 obtain ⟨W1,hW1⟩:∃ W1,W1=w.drew.setCells g (0+i*4) news:=⟨_,rfl⟩
 have hcl1:∀ ty c,(Builtin.clear_ #[36] ty #[.slice (some ⟨g,(n-1)*4,none⟩) 1 c]).run Tryz.prog W1=.ok (.tuple #[]) (W1.setCells g ((n-1)*4) [.slice none 0 0,.int .i64 0,.int .i64 0,.slice none 0 0]):=
  fun ty c=>run_clear_one W1 36 39 ty _ rfl (run_zeroV hbi hbz) (by simp [Value.cells];try decide) g ((n-1)*4) c (fun j hj=>by
   have hj2:j<4:=hj
   rw [hW1]
   refine ⟨?_,by rw [World.frozen?_setCells];exact (hcl _ (by omega)).2⟩
   by_cases hin:(n-1)*4+j<i*4+news.length
   ·rw [show (n-1)*4+j=0+i*4+((n-1)*4+j-i*4) by omega,World.cell?_setCells_in g _ _ _ (fun t ht=>(s3.out t ht).1) _ (by omega)];rfl
   ·rw [World.cell?_setCells_out g _ _ _ _ (fun _ _=>.inr (by simp;omega))];exact (hcl _ (by omega)).1)
 have hW:=Lib.hid hW1
 have HN:=Lib.hid hnews
 clear hnews hlen h h1c hxl hcl hW1
 rw [show (i:Int)+1=((i+1:Nat):Int) from rfl]
 obtain ⟨j,hj⟩:∃ j,j=i+1:=⟨_,rfl⟩
 have hclr:∀ ty,(Builtin.clear_ #[36] ty #[.slice (some ⟨g,(i+(n-j))*4,none⟩) (n-(i+(n-j))) (cap-(i+(n-j)))]).run Tryz.prog W1=.ok (.tuple #[]) (W1.setCells g ((n-1)*4) [.slice none 0 0,.int .i64 0,.int .i64 0,.slice none 0 0]):=fun ty=>by
  rw [show i+(n-j)=n-1 by omega,show n-(n-1)=1 by omega];first|exact hcl1 ty _|(have h:=hcl1 ty (cap-(n-1));rw [Nat.mul_one] at h ⊢;exact h)
 rw [← hj] at hA ⊢
 have s3':Hid (news.length=(n-j)*4):=Lib.hid (by rw [hj];exact s1.out)
 have hic:i≤cap:=by omega
 have hjc:j≤cap:=by omega
 have hjn:j≤n:=by omega
 have hij:i<j:=by omega
 have HJ:=Lib.hid hj
 clear hj hcl1
 go_enter Tryz.func145,Tryz.ntmps145
 go_wp2_with fail
 go_region_law (refine step_append_room rfl (.tmp 22) (.tmp 25) 36 rfl 39 bi 4 rfl hbi hbs g 0 i cap (by simp [Act.eval,Act.put]) A (n-j) (cap-j) news (by simp [Act.eval,Act.put]) s3'.out hsrc.out s2.out (by omega) s3.out ?_;rw [← hW.out])
 go_wp2_with fail
 go_ret
 have hj:=HJ.out
 have e1:i+(n-j)=n-1:=by omega
 refine ⟨by rw [e1];rfl,?_⟩
 have h1:=HRES.out
 rw [hW.out,HN.out,Nat.zero_add,hj]
 try simp only [Nat.mul_one] at h1 ⊢
 exact ⟨h1.1,World.grownBy.trans' (World.grownBy.drewR w _) h1.2⟩
set_option maxRecDepth 100000 in
set_option maxHeartbeats 2000000 in
theorem deleteT_any (base g n cap i:Nat) (xs:List Value) (w:World) (h:w.ownsRow base 36 1 (.slice (some ⟨g,0,none⟩) n cap) n xs) (hi:i<n) (h1c:∀ u∈xs,u.oneCell'=true) :
  Calls Tryz.prog 110 #[.slice (some ⟨g,0,none⟩) n cap,.int .i64 i,.int .i64 (i+1)] w fun e w'=>e=.returned (.slice (some ⟨g,0,none⟩) (n-1) cap)∧w'.ownsRow base 36 1 (.slice (some ⟨g,0,none⟩) (n-1) cap) (n-1) (xs.take (i*1) ++ xs.drop ((i+1)*1))∧w.grownBy w' (some g):=by
 obtain ⟨bi,hbi,hbz,hbs,hby⟩:=termInfo
 obtain ⟨hxl,hnc,hcm⟩:xs.length=n*1∧n≤cap∧cap≤9223372036854775807:=by
  obtain ⟨h1,h2|⟨_,_,_,he,_,_,h3,h4,_⟩⟩:=h
  ·cases h2.1
  ·cases he;exact ⟨h1,h3,h4⟩
 have hcl:∀ j,j<n*1→(w.drew.cell? ⟨g,j,none⟩).isSome=true∧w.drew.frozen? ⟨g,j,none⟩=false:=fun j hj=>
  ⟨by have h2:=h.drew.cellAt j hj;rw [List.getElem?_eq_getElem (by omega)] at h2;rw [h2];rfl,h.drew.frozenAt j⟩
 obtain ⟨news,hnews⟩:∃ news,news=xs.drop ((i+1)*1):=⟨_,rfl⟩
 have hlen:news.length=(n-(i+1))*1:=by rw [hnews,List.length_drop,hxl];omega
 obtain ⟨A,hA,hsrc⟩:∃ A:Addr,(if cap=i+1 then some (⟨g,0,none⟩:Addr) else some ⟨g,i+1,none⟩)=some A∧Hid (∀ t u,news[t]? = some u→w.drew.cell? (A.add t)=some u):=by
  by_cases hc:cap=i+1
  ·refine ⟨⟨g,0,none⟩,by simp [hc],Lib.hid fun t u hu=>?_⟩
   have h0:news.length=0:=by rw [hlen];omega
   rw [List.length_eq_zero_iff.1 h0] at hu
   simp at hu
  ·refine ⟨⟨g,(i+1)*1,none⟩,by simp [hc],Lib.hid fun t u hu=>?_⟩
   have ht:t<(n-(i+1))*1:=by
    have:=(List.getElem?_eq_some_iff.1 hu).1
    omega
   rw [hnews,List.getElem?_drop] at hu
   rw [Addr.add_lit]
   exact (h.drew.cellAt _ (by omega)).trans hu
 have s1:=Lib.hid hlen
 have s2:Hid (∀ u∈news,u.oneCell'=true):=Lib.hid fun u hu=>h1c u (by rw [hnews] at hu;exact List.mem_of_mem_drop hu)
 have s3:Hid (∀ t,t<news.length→(w.drew.cell? ⟨g,0+i*1+t,none⟩).isSome=true∧w.drew.frozen? ⟨g,0+i*1+t,none⟩=false):=Lib.hid fun t ht=>hcl _ (by omega)
 have HRES:=Lib.hid (row_deleted h.drew hi [.slice none 0 0] rfl)
 obtain ⟨W1,hW1⟩:∃ W1,W1=w.drew.setCells g (0+i*1) news:=⟨_,rfl⟩
 have hcl1:∀ ty c,(Builtin.clear_ #[26] ty #[.slice (some ⟨g,(n-1)*1,none⟩) 1 c]).run Tryz.prog W1=.ok (.tuple #[]) (W1.setCells g ((n-1)*1) [.slice none 0 0]):=
  fun ty c=>run_clear_one W1 26 36 ty _ rfl (run_zeroV hbi hbz) (by simp [Value.cells];try decide) g ((n-1)*1) c (fun j hj=>by
   have hj2:j<1:=hj
   rw [hW1]
   refine ⟨?_,by rw [World.frozen?_setCells];exact (hcl _ (by omega)).2⟩
   by_cases hin:(n-1)*1+j<i*1+news.length
   ·rw [show (n-1)*1+j=0+i*1+((n-1)*1+j-i*1) by omega,World.cell?_setCells_in g _ _ _ (fun t ht=>(s3.out t ht).1) _ (by omega)];rfl
   ·rw [World.cell?_setCells_out g _ _ _ _ (fun _ _=>.inr (by simp;omega))];exact (hcl _ (by omega)).1)
 have hW:=Lib.hid hW1
 have HN:=Lib.hid hnews
 clear hnews hlen h h1c hxl hcl hW1
 rw [show (i:Int)+1=((i+1:Nat):Int) from rfl]
 obtain ⟨j,hj⟩:∃ j,j=i+1:=⟨_,rfl⟩
 have hclr:∀ ty,(Builtin.clear_ #[26] ty #[.slice (some ⟨g,i+(n-j),none⟩) (n-(i+(n-j))) (cap-(i+(n-j)))]).run Tryz.prog W1=.ok (.tuple #[]) (W1.setCells g ((n-1)*1) [.slice none 0 0]):=fun ty=>by
  rw [show i+(n-j)=n-1 by omega,show n-(n-1)=1 by omega];first|exact hcl1 ty _|(have h:=hcl1 ty (cap-(n-1));rw [Nat.mul_one] at h ⊢;exact h)
 rw [← hj] at hA ⊢
 have s3':Hid (news.length=(n-j)*1):=Lib.hid (by rw [hj];exact s1.out)
 have hic:i≤cap:=by omega
 have hjc:j≤cap:=by omega
 have hjn:j≤n:=by omega
 have hij:i<j:=by omega
 have HJ:=Lib.hid hj
 clear hj hcl1
 go_enter Tryz.func110,Tryz.ntmps110
 go_wp2_with fail
 go_region_law (refine step_append_room rfl (.tmp 22) (.tmp 25) 26 rfl 36 bi 1 rfl hbi hbs g 0 i cap (by simp [Act.eval,Act.put]) A (n-j) (cap-j) news (by simp [Act.eval,Act.put]) s3'.out hsrc.out s2.out (by omega) s3.out ?_;rw [← hW.out])
 go_wp2_with fail
 go_ret
 have hj:=HJ.out
 have e1:i+(n-j)=n-1:=by omega
 refine ⟨by rw [e1];rfl,?_⟩
 have h1:=HRES.out
 rw [hW.out,HN.out,Nat.zero_add,hj]
 try simp only [Nat.mul_one] at h1 ⊢
 exact ⟨h1.1,World.grownBy.trans' (World.grownBy.drewR w _) h1.2⟩
end Go.Proofs.YthjnojbeimchdaaGreat
