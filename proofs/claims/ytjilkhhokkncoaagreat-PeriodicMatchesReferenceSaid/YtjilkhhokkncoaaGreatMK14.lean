/- Contract: sanity answers true. -/
import Derived.Test.YtjilkhhokkncoaaGreatMK13
import Derived.Test.YtjilkhhokkncoaaGreatMK12
import Derived.Test.YtjilkhhokkncoaaGreatMK5
import Derived.Test.YtjilkhhokkncoaaGreatMK2
set_option linter.unusedVariables false
set_option linter.unusedSimpArgs false
/- Walks: sanity (package kalendslaw04). -/
namespace Go.Proofs.YtjilkhhokkncoaaGreat
open Go.RowKit Go.Maps Kal
theorem Ints.lit' {w:World} {b:Nat} {l:List Int} {t:TypeId} (h:Bxx w b (l.map (Value.int .i64)).toArray t) (hl:decide (l.length≤10)=true) (hr:(l.all fun x=>decide (0≤x∧x≤1000))=true):Ints w (.slice (some ⟨b,0,none⟩) l.length l.length) l:=
 Ints.lit h (by have:=of_decide_eq_true hl;omega) fun x hx=>by
  have:=of_decide_eq_true (List.all_eq_true.1 hr x hx)
  unfold InI;omega
theorem cnt_small {S:Int→Prop} {n:Nat} (h:decide (n≤1048576)=true):cnt S n≤1048576:=by
 have h1:=cnt_bound S n
 have h2:=of_decide_eq_true h
 omega
def SetV (W:World) (x:Value) (p:Per):Prop:=∃ h c,x=perV h c p.frm p.period∧PerIs W h c p
theorem SetV.below {W W':World} {x:Value} {p:Per} (h:SetV W x p) (hb:Below W.heap.size W W'):SetV W' x p:=by
 obtain ⟨h,c,e,s⟩:=h;exact ⟨h,c,e,s.ext hb⟩
def SetB (W:World) (b:Nat) (p:Per):Prop:=∃ h c,SetAt W b h c p
theorem SetB.below {W W':World} {b:Nat} {p:Per} (h:SetB W b p) (hb:Below W.heap.size W W'):SetB W' b p:=by
 obtain ⟨h,c,s⟩:=h;exact ⟨h,c,s.below hb⟩
def Sets (W:World) (L:List (Nat × Per)):Prop:=∀ x∈L,SetB W x.1 x.2
theorem Sets.below {W W':World} {L:List (Nat × Per)} (h:Sets W L) (hb:Below W.heap.size W W'):Sets W' L:=fun x hx=>(h x hx).below hb
theorem Sets.nil (W:World):Sets W []:=fun x hx=>nomatch hx
theorem Sets.cons {W:World} {L:List (Nat × Per)} {b:Nat} {p:Per} (h1:SetB W b p) (h:Sets W L):Sets W ((b,p) :: L):=fun x hx=>by
 rcases List.mem_cons.1 hx with rfl|hx
 ·exact h1
 ·exact h x hx
theorem Sets.at {W:World} {L:List (Nat × Per)} (h:Sets W L) (i:Nat) {b:Nat} {p:Per} (e:L[i]? = some (b,p)):SetB W b p:=h (b,p) (List.mem_of_getElem? e)
theorem ev_valid {m n:Int} (h0:0≤m) (h1:m<n) (h2:n≤1099511627776):Valid (ev m n):=⟨ev_wf h0 h1,by show (0:Int)≤_;omega,h2,by show 0+1≤_;omega⟩
theorem odd_valid:Valid odd:=(validB_iff _).1 (by decide)
set_option maxRecDepth 100000 in
set_option maxHeartbeats 4000000 in
theorem sanity_any (w:World) :
  Calls Tryz.prog 5 #[] w fun e w'=>e=.returned (.bool true)∧Below w.heap.size w w':=by
 go_enter Tryz.func5,Tryz.ntmps5
 go_upto_region 4 with (fail)
 refine wp_abs (F:=fun U=>Sets U [(w.heap.size+1+1,odd),(w.heap.size+1+1+1+1,nine),(w.heap.size+1+1+1+1+1+1+1,zer)]∧Below w.heap.size w U)
  ⟨Sets.cons ⟨.slice (some ⟨w.heap.size,0,none⟩) 2 2,.slice (some ⟨w.heap.size+1,0,none⟩) 2 2,by (repeat' (first|(refine Bxx.at ?_;simp;done)|apply Bxx.alloc)),Ints.lit' (l:=[1,3]) (by (repeat' (first|(refine Bxx.at ?_;simp;done)|apply Bxx.alloc))) (by decide) (by decide),Ints.lit' (l:=[1,3]) (by (repeat' (first|(refine Bxx.at ?_;simp;done)|apply Bxx.alloc))) (by decide) (by decide)⟩
   (Sets.cons ⟨.slice (some ⟨w.heap.size+1+1+1,0,none⟩) 2 2,.slice none 0 0,by (repeat' (first|(refine Bxx.at ?_;simp;done)|apply Bxx.alloc)),Ints.lit' (l:=[2,9]) (by (repeat' (first|(refine Bxx.at ?_;simp;done)|apply Bxx.alloc))) (by decide) (by decide),Ints.nil _⟩
   (Sets.cons ⟨.slice (some ⟨w.heap.size+1+1+1+1+1,0,none⟩) 1 1,.slice (some ⟨w.heap.size+1+1+1+1+1+1,0,none⟩) 1 1,by (repeat' (first|(refine Bxx.at ?_;simp;done)|apply Bxx.alloc)),Ints.lit' (l:=[0]) (by (repeat' (first|(refine Bxx.at ?_;simp;done)|apply Bxx.alloc))) (by decide) (by decide),Ints.lit' (l:=[1]) (by (repeat' (first|(refine Bxx.at ?_;simp;done)|apply Bxx.alloc))) (by decide) (by decide)⟩ (Sets.nil _))),by (repeat' (with_reducible first|assumption|apply Er|apply Ea|apply Ed|apply En|(refine Es ?_ (by first|(simp<;>omega)|omega) _)|refine Et ?_ (by assumption)))⟩ ?_
 rintro W1 ⟨hS1,hE1⟩
 refine wp_region_factsH (w0:=W1) [0,1,2,3,4,5,6,7,8,9,10,11,12,13,14,15,16,17,18] [19] (fun v=>⟨#[.bool false,.pointer (some ⟨w.heap.size+1+1,0,none⟩),.pointer (some ⟨w.heap.size+1+1+1+1,0,none⟩),.pointer (some ⟨w.heap.size+1+1+1+1+1+1+1,0,none⟩),undef,undef,undef,undef,undef,undef,undef,undef,undef,undef,undef,undef,undef,undef,undef,undef,undef,undef,undef,undef,undef,.slice (some ⟨w.heap.size,0,none⟩) 2 2,.slice (some ⟨w.heap.size+1,0,none⟩) 2 2,.agg #[.slice (some ⟨w.heap.size,0,none⟩) 2 2,.int .i64 4,.int .i64 4,.slice (some ⟨w.heap.size+1,0,none⟩) 2 2],.slice (some ⟨w.heap.size+1+1+1,0,none⟩) 2 2,.agg #[.slice (some ⟨w.heap.size+1+1+1,0,none⟩) 2 2,.int .i64 30,.int .i64 3,.slice none 0 0],.slice (some ⟨w.heap.size+1+1+1+1+1,0,none⟩) 1 1,.slice (some ⟨w.heap.size+1+1+1+1+1+1,0,none⟩) 1 1,.agg #[.slice (some ⟨w.heap.size+1+1+1+1+1,0,none⟩) 1 1,.int .i64 1,.int .i64 3,.slice (some ⟨w.heap.size+1+1+1+1+1+1,0,none⟩) 1 1],v 0,v 1,v 2,v 3,v 4,v 5,v 6,v 7,v 8,v 9,v 10,v 11,v 12,v 13,v 14,v 15,v 16,v 17,v 18,undef,undef,undef,undef,undef,undef,undef,undef,undef,undef,undef,undef,undef,undef,undef,undef,undef,undef,undef,undef,undef,undef,undef,undef,undef,undef,undef,undef,undef,undef,undef,undef,undef,undef,undef,undef,undef,undef,undef,undef,undef,undef,undef,undef,undef,undef,undef,undef,undef,undef,undef,undef,undef,undef,undef,undef,undef,undef,undef,undef,undef,undef,undef,undef,undef,undef,undef,undef,undef,undef,undef,undef,undef,undef,undef,undef,undef,undef,undef,undef,undef,undef,undef,undef,undef,undef,undef,undef,undef,undef,undef,undef,undef,undef,undef,undef,undef,undef,undef,undef,undef,undef,undef,undef,undef,undef,undef,undef,undef,undef,undef,undef,undef,undef,undef,undef,undef,undef,undef,undef,undef,undef,undef,undef,undef,undef,undef,undef,undef,undef,undef,undef,undef,undef,undef],[]⟩) (fun _=>undef)
  (fun i v lo hi W=>match i with
   | 0=>SetV W (v 0) odd
   | 1=>SetV W (v 1) (ev 1 2)
   | 2=>v 2=.bool true
   | 3=>v 3=.bool true
   | 4=>SetV W (v 4) ⟨[],5,7,[]⟩
   | 5=>SetV W (v 5) ⟨[],0,1,[]⟩
   | 6=>v 6=.bool true
   | 7=>v 7=.bool true
   | 8=>v 8=.bool true
   | 9=>SetV W (v 9) nine
   | 10=>(∃ a,v 10=.slice a 2 2∧Ints W (.slice a 2 2) [2,9])
   | 11=>SetV W (v 11) ⟨[2,9],10,1,[]⟩
   | 12=>v 12=.bool true
   | 13=>v 13=.bool true
   | 14=>v 14=.bool true
   | 15=>SetV W (v 15) zer
   | 16=>SetV W (v 16) zer
   | 17=>v 17=.bool true
   | 18=>v 18=.bool true
   | _=>True)
  (fun W=>Sets W [(w.heap.size+1+1,odd),(w.heap.size+1+1+1+1,nine),(w.heap.size+1+1+1+1+1+1+1,zer)]) rfl (by kernel_rfl) (by decide) rfl ?stab ?loc (fun W hb=>hS1.below hb) ?steps ?fin
 case stab=>
  rintro (_|_|_|_|_|_|_|_|_|_|_|_|_|_|_|_|_|_|_|i) v lo hi W W' h hb
  ·exact h.below hb
  ·exact h.below hb
  ·exact h
  ·exact h
  ·exact h.below hb
  ·exact h.below hb
  ·exact h
  ·exact h
  ·exact h
  ·exact h.below hb
  ·exact (by obtain ⟨a,e,s⟩:=h;exact ⟨a,e,s.ext hb⟩)
  ·exact h.below hb
  ·exact h
  ·exact h
  ·exact h
  ·exact h.below hb
  ·exact h.below hb
  ·exact h
  ·exact h
  ·trivial
 case loc=>
  rintro (_|_|_|_|_|_|_|_|_|_|_|_|_|_|_|_|_|_|_|i) v v' lo lo' hi hi' W hag h
  ·have q:=hag 0 (.inl rfl)
   (try dsimp only at h ⊢);(try simp only [q.1,q.2.1,q.2.2] at h);exact h
  ·have q:=hag 1 (.inl rfl)
   (try dsimp only at h ⊢);(try simp only [q.1,q.2.1,q.2.2] at h);exact h
  ·have q:=hag 2 (.inl rfl)
   have q0:=hag 0 (.inr (Rdp (by kernel_rfl)))
   have q1:=hag 1 (.inr (Rdp (by kernel_rfl)))
   (try dsimp only at h ⊢);(try simp only [q.1,q.2.1,q.2.2,q0.1,q0.2.1,q0.2.2,q1.1,q1.2.1,q1.2.2] at h);exact h
  ·have q:=hag 3 (.inl rfl)
   have q2:=hag 2 (.inr (Rdp (by kernel_rfl)))
   (try dsimp only at h ⊢);(try simp only [q.1,q.2.1,q.2.2,q2.1,q2.2.1,q2.2.2] at h);exact h
  ·have q:=hag 4 (.inl rfl)
   have q3:=hag 3 (.inr (Rdp (by kernel_rfl)))
   (try dsimp only at h ⊢);(try simp only [q.1,q.2.1,q.2.2,q3.1,q3.2.1,q3.2.2] at h);exact h
  ·have q:=hag 5 (.inl rfl)
   have q3:=hag 3 (.inr (Rdp (by kernel_rfl)))
   (try dsimp only at h ⊢);(try simp only [q.1,q.2.1,q.2.2,q3.1,q3.2.1,q3.2.2] at h);exact h
  ·have q:=hag 6 (.inl rfl)
   have q3:=hag 3 (.inr (Rdp (by kernel_rfl)))
   have q4:=hag 4 (.inr (Rdp (by kernel_rfl)))
   have q5:=hag 5 (.inr (Rdp (by kernel_rfl)))
   (try dsimp only at h ⊢);(try simp only [q.1,q.2.1,q.2.2,q3.1,q3.2.1,q3.2.2,q4.1,q4.2.1,q4.2.2,q5.1,q5.2.1,q5.2.2] at h);exact h
  ·have q:=hag 7 (.inl rfl)
   have q3:=hag 3 (.inr (Rdp (by kernel_rfl)))
   have q6:=hag 6 (.inr (Rdp (by kernel_rfl)))
   (try dsimp only at h ⊢);(try simp only [q.1,q.2.1,q.2.2,q3.1,q3.2.1,q3.2.2,q6.1,q6.2.1,q6.2.2] at h);exact h
  ·have q:=hag 8 (.inl rfl)
   have q6:=hag 6 (.inr (Rdp (by kernel_rfl)))
   have q7:=hag 7 (.inr (Rdp (by kernel_rfl)))
   (try dsimp only at h ⊢);(try simp only [q.1,q.2.1,q.2.2,q6.1,q6.2.1,q6.2.2,q7.1,q7.2.1,q7.2.2] at h);exact h
  ·have q:=hag 9 (.inl rfl)
   have q8:=hag 8 (.inr (Rdp (by kernel_rfl)))
   (try dsimp only at h ⊢);(try simp only [q.1,q.2.1,q.2.2,q8.1,q8.2.1,q8.2.2] at h);exact h
  ·have q:=hag 10 (.inl rfl)
   have q8:=hag 8 (.inr (Rdp (by kernel_rfl)))
   (try dsimp only at h ⊢);(try simp only [q.1,q.2.1,q.2.2,q8.1,q8.2.1,q8.2.2] at h);exact h
  ·have q:=hag 11 (.inl rfl)
   have q8:=hag 8 (.inr (Rdp (by kernel_rfl)))
   have q10:=hag 10 (.inr (Rdp (by kernel_rfl)))
   (try dsimp only at h ⊢);(try simp only [q.1,q.2.1,q.2.2,q8.1,q8.2.1,q8.2.2,q10.1,q10.2.1,q10.2.2] at h);exact h
  ·have q:=hag 12 (.inl rfl)
   have q8:=hag 8 (.inr (Rdp (by kernel_rfl)))
   have q9:=hag 9 (.inr (Rdp (by kernel_rfl)))
   have q11:=hag 11 (.inr (Rdp (by kernel_rfl)))
   (try dsimp only at h ⊢);(try simp only [q.1,q.2.1,q.2.2,q8.1,q8.2.1,q8.2.2,q9.1,q9.2.1,q9.2.2,q11.1,q11.2.1,q11.2.2] at h);exact h
  ·have q:=hag 13 (.inl rfl)
   have q8:=hag 8 (.inr (Rdp (by kernel_rfl)))
   have q12:=hag 12 (.inr (Rdp (by kernel_rfl)))
   (try dsimp only at h ⊢);(try simp only [q.1,q.2.1,q.2.2,q8.1,q8.2.1,q8.2.2,q12.1,q12.2.1,q12.2.2] at h);exact h
  ·have q:=hag 14 (.inl rfl)
   have q12:=hag 12 (.inr (Rdp (by kernel_rfl)))
   have q13:=hag 13 (.inr (Rdp (by kernel_rfl)))
   (try dsimp only at h ⊢);(try simp only [q.1,q.2.1,q.2.2,q12.1,q12.2.1,q12.2.2,q13.1,q13.2.1,q13.2.2] at h);exact h
  ·have q:=hag 15 (.inl rfl)
   have q14:=hag 14 (.inr (Rdp (by kernel_rfl)))
   (try dsimp only at h ⊢);(try simp only [q.1,q.2.1,q.2.2,q14.1,q14.2.1,q14.2.2] at h);exact h
  ·have q:=hag 16 (.inl rfl)
   have q14:=hag 14 (.inr (Rdp (by kernel_rfl)))
   (try dsimp only at h ⊢);(try simp only [q.1,q.2.1,q.2.2,q14.1,q14.2.1,q14.2.2] at h);exact h
  ·have q:=hag 17 (.inl rfl)
   have q14:=hag 14 (.inr (Rdp (by kernel_rfl)))
   have q15:=hag 15 (.inr (Rdp (by kernel_rfl)))
   have q16:=hag 16 (.inr (Rdp (by kernel_rfl)))
   (try dsimp only at h ⊢);(try simp only [q.1,q.2.1,q.2.2,q14.1,q14.2.1,q14.2.2,q15.1,q15.2.1,q15.2.2,q16.1,q16.2.1,q16.2.2] at h);exact h
  ·have q:=hag 18 (.inl rfl)
   have q14:=hag 14 (.inr (Rdp (by kernel_rfl)))
   have q17:=hag 17 (.inr (Rdp (by kernel_rfl)))
   (try dsimp only at h ⊢);(try simp only [q.1,q.2.1,q.2.2,q14.1,q14.2.1,q14.2.2,q17.1,q17.2.1,q17.2.2] at h);exact h
  ·trivial
 case steps=>
  refine StepsH.cons rfl ?_ (StepsH.cons rfl ?_ (StepsH.cons rfl ?_ (StepsH.cons rfl ?_ (StepsH.cons rfl ?_ (StepsH.cons rfl ?_ (StepsH.cons rfl ?_ (StepsH.cons rfl ?_ (StepsH.cons rfl ?_ (StepsH.cons rfl ?_ (StepsH.cons rfl ?_ (StepsH.cons rfl ?_ (StepsH.cons rfl ?_ (StepsH.cons rfl ?_ (StepsH.cons rfl ?_ (StepsH.cons rfl ?_ (StepsH.cons rfl ?_ (StepsH.cons rfl ?_ (StepsH.cons rfl ?_ StepsH.nil))))))))))))))))))
  ·rintro v lo hi W hb hS hd
   clear hd
   refine ⟨rfl,?_⟩
   intro K hK
   dsimp only
   obtain ⟨h,c,g⟩:=hS.at 0 rfl
   have q0:=(g.box.cells 0).1
   have q1:=(g.box.cells 1).1
   have q2:=(g.box.cells 2).1
   have q3:=(g.box.cells 3).1
   go_wp2_with fail
   exact acx (hK (perV h c odd.frm odd.period) W (Below.refl _ _) ⟨h,c,rfl,g.is⟩) (by simp [ite_true])
  ·rintro v lo hi W hb hS hd
   clear hd
   refine ⟨rfl,?_⟩
   intro K hK
   dsimp only
   go_wp2_with (go_at_call 39;refine (every_any _ _ _ ⟨by omega,by omega⟩).mono ?_;rintro e w9 ⟨h,c,rfl,hs,hb9⟩)
   exact acx (hK (perV h c 0 2) w9 hb9 ⟨h,c,rfl,hs⟩) (by simp [ite_true])
  ·rintro v lo hi W hb hS hd
   obtain ⟨la0,lb0,D0⟩:=hd 0 (Rdp (by kernel_rfl))
   obtain ⟨la1,lb1,D1⟩:=hd 1 (Rdp (by kernel_rfl))
   clear hd
   refine ⟨rfl,?_⟩
   intro K hK
   dsimp only
   obtain ⟨h0,c0,e0,s0⟩:=D0
   obtain ⟨h1,c1,e1,s1⟩:=D1
   simp only [e0,e1]
   go_wp2_with (go_at_call 38;refine (canonical_true h0 c0 h1 c1 odd (ev 1 2) _ s0 s1 odd_valid Kal.s1).mono ?_;rintro e w9 ⟨rfl,hb9⟩)
   exact acx (hK (.bool true) w9 hb9 rfl) (by simp [ite_true,e0,e1])
  ·rintro v lo hi W hb hS hd
   have e2:v 2=.bool true:=(hd 2 (Rdp (by kernel_rfl))).2.2
   clear hd
   refine ⟨rfl,?_⟩
   intro K hK
   dsimp only
   (try simp only [e2])
   go_wp2_with fail
   exact acx (hK (.bool true) W (Below.refl _ _) rfl) (by simp [e2])
  ·rintro v lo hi W hb hS hd
   have e3:v 3=.bool true:=(hd 3 (Rdp (by kernel_rfl))).2.2
   clear hd
   refine ⟨(by show (match some (v 3) with|some (Value.bool b)=>some b|_=>none) == some true;rw [e3];rfl),?_⟩
   intro K hK
   dsimp only
   (try simp only [e3])
   go_wp2_with fail
   exact acx (hK (perV (.slice none 0 0) (.slice none 0 0) 5 7) W (Below.refl _ _) ⟨_,_,rfl,Ints.nil _,Ints.nil _⟩) (by simp [e3])
  ·rintro v lo hi W hb hS hd
   have e3:v 3=.bool true:=(hd 3 (Rdp (by kernel_rfl))).2.2
   clear hd
   refine ⟨(by show (match some (v 3) with|some (Value.bool b)=>some b|_=>none) == some true;rw [e3];rfl),?_⟩
   intro K hK
   dsimp only
   (try simp only [e3])
   go_wp2_with fail
   exact acx (hK (perV (.slice none 0 0) (.slice none 0 0) 0 1) W (Below.refl _ _) ⟨_,_,rfl,Ints.nil _,Ints.nil _⟩) (by simp [e3])
  ·rintro v lo hi W hb hS hd
   have e3:v 3=.bool true:=(hd 3 (Rdp (by kernel_rfl))).2.2
   obtain ⟨la4,lb4,D4⟩:=hd 4 (Rdp (by kernel_rfl))
   obtain ⟨la5,lb5,D5⟩:=hd 5 (Rdp (by kernel_rfl))
   clear hd
   refine ⟨(by show (match some (v 3) with|some (Value.bool b)=>some b|_=>none) == some true;rw [e3];rfl),?_⟩
   intro K hK
   dsimp only
   (try simp only [e3])
   obtain ⟨h0,c0,e0,s0⟩:=D4
   obtain ⟨h1,c1,e1,s1⟩:=D5
   simp only [e0,e1]
   go_wp2_with (go_at_call 38;refine (canonical_true h0 c0 h1 c1 ⟨[],5,7,[]⟩ ⟨[],0,1,[]⟩ _ s0 s1 ((validB_iff _).1 (by decide)) s2).mono ?_;rintro e w9 ⟨rfl,hb9⟩)
   exact acx (hK (.bool true) w9 hb9 rfl) (by simp [e3,e0,e1])
  ·rintro v lo hi W hb hS hd
   have e3:v 3=.bool true:=(hd 3 (Rdp (by kernel_rfl))).2.2
   have e6:v 6=.bool true:=(hd 6 (Rdp (by kernel_rfl))).2.2
   clear hd
   refine ⟨rfl,?_⟩
   intro K hK
   dsimp only
   (try simp only [e3,e6])
   go_wp2_with fail
   exact acx (hK (.bool true) W (Below.refl _ _) rfl) (by simp [e3,e6])
  ·rintro v lo hi W hb hS hd
   have e6:v 6=.bool true:=(hd 6 (Rdp (by kernel_rfl))).2.2
   have e7:v 7=.bool true:=(hd 7 (Rdp (by kernel_rfl))).2.2
   clear hd
   refine ⟨rfl,?_⟩
   intro K hK
   dsimp only
   (try simp only [e6,e7])
   go_wp2_with fail
   exact acx (hK (.bool true) W (Below.refl _ _) rfl) (by simp [e6,e7])
  ·rintro v lo hi W hb hS hd
   have e8:v 8=.bool true:=(hd 8 (Rdp (by kernel_rfl))).2.2
   clear hd
   refine ⟨(by show (match some (v 8) with|some (Value.bool b)=>some b|_=>none) == some true;rw [e8];rfl),?_⟩
   intro K hK
   dsimp only
   (try simp only [e8])
   obtain ⟨h,c,g⟩:=hS.at 1 rfl
   have q0:=(g.box.cells 0).1
   have q1:=(g.box.cells 1).1
   have q2:=(g.box.cells 2).1
   have q3:=(g.box.cells 3).1
   go_wp2_with fail
   exact acx (hK (perV h c nine.frm nine.period) W (Below.refl _ _) ⟨h,c,rfl,g.is⟩) (by simp [e8])
  ·rintro v lo hi W hb hS hd
   have e8:v 8=.bool true:=(hd 8 (Rdp (by kernel_rfl))).2.2
   clear hd
   refine ⟨(by show (match some (v 8) with|some (Value.bool b)=>some b|_=>none) == some true;rw [e8];rfl),?_⟩
   intro K hK
   dsimp only
   (try simp only [e8])
   go_wp2_with fail
   exact acx (hK (.slice (some ⟨W.heap.size,0,none⟩) 2 2) _ (Ea (Er _) _) ⟨_,rfl,Ints.lit' (l:=[2,9]) (Bxx.at rfl) (by decide) (by decide)⟩) (by simp [e8])
  ·rintro v lo hi W hb hS hd
   have e8:v 8=.bool true:=(hd 8 (Rdp (by kernel_rfl))).2.2
   obtain ⟨la10,lb10,D10⟩:=hd 10 (Rdp (by kernel_rfl))
   clear hd
   refine ⟨(by show (match some (v 8) with|some (Value.bool b)=>some b|_=>none) == some true;rw [e8];rfl),?_⟩
   intro K hK
   dsimp only
   (try simp only [e8])
   obtain ⟨a,e0,s0⟩:=D10
   simp only [e0]
   go_wp2_with fail
   exact acx (hK (perV (.slice a 2 2) (.slice none 0 0) 10 1) W (Below.refl _ _) ⟨_,_,rfl,s0,Ints.nil _⟩) (by simp [e8,e0])
  ·rintro v lo hi W hb hS hd
   have e8:v 8=.bool true:=(hd 8 (Rdp (by kernel_rfl))).2.2
   obtain ⟨la9,lb9,D9⟩:=hd 9 (Rdp (by kernel_rfl))
   obtain ⟨la11,lb11,D11⟩:=hd 11 (Rdp (by kernel_rfl))
   clear hd
   refine ⟨(by show (match some (v 8) with|some (Value.bool b)=>some b|_=>none) == some true;rw [e8];rfl),?_⟩
   intro K hK
   dsimp only
   (try simp only [e8])
   obtain ⟨h0,c0,e0,s0⟩:=D9
   obtain ⟨h1,c1,e1,s1⟩:=D11
   simp only [e0,e1]
   go_wp2_with (go_at_call 38;refine (canonical_true h0 c0 h1 c1 nine ⟨[2,9],10,1,[]⟩ _ s0 s1 ((validB_iff _).1 (by decide)) s3).mono ?_;rintro e w9 ⟨rfl,hb9⟩)
   exact acx (hK (.bool true) w9 hb9 rfl) (by simp [e8,e0,e1])
  ·rintro v lo hi W hb hS hd
   have e8:v 8=.bool true:=(hd 8 (Rdp (by kernel_rfl))).2.2
   have e12:v 12=.bool true:=(hd 12 (Rdp (by kernel_rfl))).2.2
   clear hd
   refine ⟨rfl,?_⟩
   intro K hK
   dsimp only
   (try simp only [e8,e12])
   go_wp2_with fail
   exact acx (hK (.bool true) W (Below.refl _ _) rfl) (by simp [e8,e12])
  ·rintro v lo hi W hb hS hd
   have e12:v 12=.bool true:=(hd 12 (Rdp (by kernel_rfl))).2.2
   have e13:v 13=.bool true:=(hd 13 (Rdp (by kernel_rfl))).2.2
   clear hd
   refine ⟨rfl,?_⟩
   intro K hK
   dsimp only
   (try simp only [e12,e13])
   go_wp2_with fail
   exact acx (hK (.bool true) W (Below.refl _ _) rfl) (by simp [e12,e13])
  ·rintro v lo hi W hb hS hd
   have e14:v 14=.bool true:=(hd 14 (Rdp (by kernel_rfl))).2.2
   clear hd
   refine ⟨(by show (match some (v 14) with|some (Value.bool b)=>some b|_=>none) == some true;rw [e14];rfl),?_⟩
   intro K hK
   dsimp only
   (try simp only [e14])
   obtain ⟨h,c,g⟩:=hS.at 2 rfl
   have q0:=(g.box.cells 0).1
   have q1:=(g.box.cells 1).1
   have q2:=(g.box.cells 2).1
   have q3:=(g.box.cells 3).1
   go_wp2_with fail
   exact acx (hK (perV h c zer.frm zer.period) W (Below.refl _ _) ⟨h,c,rfl,g.is⟩) (by simp [e14])
  ·rintro v lo hi W hb hS hd
   have e14:v 14=.bool true:=(hd 14 (Rdp (by kernel_rfl))).2.2
   clear hd
   refine ⟨(by show (match some (v 14) with|some (Value.bool b)=>some b|_=>none) == some true;rw [e14];rfl),?_⟩
   intro K hK
   dsimp only
   (try simp only [e14])
   obtain ⟨h,c,g⟩:=hS.at 2 rfl
   have q0:=(g.box.cells 0).1
   have q1:=(g.box.cells 1).1
   have q2:=(g.box.cells 2).1
   have q3:=(g.box.cells 3).1
   go_wp2_with fail
   exact acx (hK (perV h c zer.frm zer.period) W (Below.refl _ _) ⟨h,c,rfl,g.is⟩) (by simp [e14])
  ·rintro v lo hi W hb hS hd
   have e14:v 14=.bool true:=(hd 14 (Rdp (by kernel_rfl))).2.2
   obtain ⟨la15,lb15,D15⟩:=hd 15 (Rdp (by kernel_rfl))
   obtain ⟨la16,lb16,D16⟩:=hd 16 (Rdp (by kernel_rfl))
   clear hd
   refine ⟨(by show (match some (v 14) with|some (Value.bool b)=>some b|_=>none) == some true;rw [e14];rfl),?_⟩
   intro K hK
   dsimp only
   (try simp only [e14])
   obtain ⟨h0,c0,e0,s0⟩:=D15
   obtain ⟨h1,c1,e1,s1⟩:=D16
   simp only [e0,e1]
   go_wp2_with (go_at_call 38;refine (canonical_true h0 c0 h1 c1 zer zer _ s0 s1 ((validB_iff _).1 (by decide)) s4).mono ?_;rintro e w9 ⟨rfl,hb9⟩)
   exact acx (hK (.bool true) w9 hb9 rfl) (by simp [e14,e0,e1])
  ·rintro v lo hi W hb hS hd
   have e14:v 14=.bool true:=(hd 14 (Rdp (by kernel_rfl))).2.2
   have e17:v 17=.bool true:=(hd 17 (Rdp (by kernel_rfl))).2.2
   clear hd
   refine ⟨rfl,?_⟩
   intro K hK
   dsimp only
   (try simp only [e14,e17])
   go_wp2_with fail
   exact acx (hK (.bool true) W (Below.refl _ _) rfl) (by simp [e14,e17])
 case fin=>
  rintro v lo hi W2 hb2 _ hf _
  show wpList _ _ _ [_] _ _
  have f18:v 18=.bool true:=(hf 18 rfl).2.2.2
  clear hf
  dsimp only
  rw [f18]
  clear f18
  generalize v 0=x0
  generalize v 1=x1
  generalize v 2=x2
  generalize v 3=x3
  generalize v 4=x4
  generalize v 5=x5
  generalize v 6=x6
  generalize v 7=x7
  generalize v 8=x8
  generalize v 9=x9
  generalize v 10=x10
  generalize v 11=x11
  generalize v 12=x12
  generalize v 13=x13
  generalize v 14=x14
  generalize v 15=x15
  generalize v 16=x16
  generalize v 17=x17
  go_upto_region 5 with (fail)
  refine wp_abs (F:=fun U=>Sets U [(w.heap.size+1+1,odd),(w.heap.size+1+1+1+1,nine),(w.heap.size+1+1+1+1+1+1+1,zer)]∧Below w.heap.size w U) ⟨hS1.below (by (repeat' (with_reducible first|assumption|apply Er|apply Ea|apply Ed|apply En|(refine Es ?_ (by first|(simp<;>omega)|omega) _)|refine Et ?_ (by assumption)))),by (repeat' (with_reducible first|assumption|apply Er|apply Ea|apply Ed|apply En|(refine Es ?_ (by first|(simp<;>omega)|omega) _)|refine Et ?_ (by assumption)))⟩ ?_
  clear hS1 hE1 hb2
  have I0:InI 0:=⟨by omega,by omega⟩
  have I1:InI 1:=⟨by omega,by omega⟩
  have I2:InI 2:=⟨by omega,by omega⟩
  rintro W4 ⟨hS,hE⟩
  go_upto_region 6 with (first|(go_at_call 39;(with_reducible refine (every_any 0 2 _ I0).mono ?_);rintro e uA ⟨hA_5,cA_5,rfl,sA,kA⟩)|(go_at_call 39;(with_reducible refine (every_any 0 3 _ I0).mono ?_);rintro e uB ⟨hB_5,cB_5,rfl,sB,kB⟩)|(go_at_call 24;refine (And_ok hA_5 cA_5 hB_5 cB_5 (ev 0 2) (ev 0 3) (ev 0 2) (ev 0 3) (ev 0 6) _ (sA.ext (by (repeat' (with_reducible first|assumption|apply Er|apply Ea|apply Ed|apply En|(refine Es ?_ (by first|(simp<;>omega)|omega) _)|refine Et ?_ (by assumption))))) sB (ev_valid (by omega) (by omega) (by omega)) (ev_valid (by omega) (by omega) (by omega)) (ev_canon (by omega) (by omega)) (ev_canon (by omega) (by omega)) (by decide) (by decide) (by decide) Kal.s5 (cnt_small (by decide))).mono ?_;rintro e uR ⟨hR_5,cR_5,rfl,oR,kR⟩;have sR:=oR.is;obtain ⟨x1_5,y1_5,x2_5,y2_5,rfl,rfl⟩:=oR.form;clear oR))
  refine wp_abs (F:=fun U=>Sets U ((uR.heap.size,(ev 0 6)) :: [(w.heap.size+1+1,odd),(w.heap.size+1+1+1+1,nine),(w.heap.size+1+1+1+1+1+1+1,zer)])∧Below w.heap.size w U) ⟨Sets.cons ⟨.slice x1_5 ((ev 0 6):Per).head.length y1_5,.slice x2_5 ((ev 0 6):Per).cycle.length y2_5,by (repeat' (first|(refine Bxx.at ?_;simp;done)|apply Bxx.alloc)),sR.ext (by (repeat' (with_reducible first|assumption|apply Er|apply Ea|apply Ed|apply En|(refine Es ?_ (by first|(simp<;>omega)|omega) _)|refine Et ?_ (by assumption))))⟩ (hS.below (by (repeat' (with_reducible first|assumption|apply Er|apply Ea|apply Ed|apply En|(refine Es ?_ (by first|(simp<;>omega)|omega) _)|refine Et ?_ (by assumption))))),by (repeat' (with_reducible first|assumption|apply Er|apply Ea|apply Ed|apply En|(refine Es ?_ (by first|(simp<;>omega)|omega) _)|refine Et ?_ (by assumption)))⟩ ?_
  clear hS hE sR kR sA kA sB kB
  generalize uR.heap.size=b5 at *
  rintro W5 ⟨hS,hE⟩
  go_upto_region 7 with (first|(go_at_call 39;(with_reducible refine (every_any 0 2 _ I0).mono ?_);rintro e uA ⟨hA_6,cA_6,rfl,sA,kA⟩)|(go_at_call 39;(with_reducible refine (every_any 0 3 _ I0).mono ?_);rintro e uB ⟨hB_6,cB_6,rfl,sB,kB⟩)|(go_at_call 28;refine (Minus_ok hA_6 cA_6 hB_6 cB_6 (ev 0 2) (ev 0 3) (ev 0 2) (ev 0 3) ⟨[],0,6,[2,4]⟩ _ (sA.ext (by (repeat' (with_reducible first|assumption|apply Er|apply Ea|apply Ed|apply En|(refine Es ?_ (by first|(simp<;>omega)|omega) _)|refine Et ?_ (by assumption))))) sB (ev_valid (by omega) (by omega) (by omega)) (ev_valid (by omega) (by omega) (by omega)) (ev_canon (by omega) (by omega)) (ev_canon (by omega) (by omega)) (by decide) Kal.s6 (cnt_small (by decide))).mono ?_;rintro e uR ⟨hR_6,cR_6,rfl,oR,kR⟩;have sR:=oR.is;obtain ⟨x1_6,y1_6,x2_6,y2_6,rfl,rfl⟩:=oR.form;clear oR))
  refine wp_abs (F:=fun U=>Sets U ((uR.heap.size,⟨[],0,6,[2,4]⟩) :: [(b5,(ev 0 6)),(w.heap.size+1+1,odd),(w.heap.size+1+1+1+1,nine),(w.heap.size+1+1+1+1+1+1+1,zer)])∧Below w.heap.size w U) ⟨Sets.cons ⟨.slice x1_6 (⟨[],0,6,[2,4]⟩:Per).head.length y1_6,.slice x2_6 (⟨[],0,6,[2,4]⟩:Per).cycle.length y2_6,by (repeat' (first|(refine Bxx.at ?_;simp;done)|apply Bxx.alloc)),sR.ext (by (repeat' (with_reducible first|assumption|apply Er|apply Ea|apply Ed|apply En|(refine Es ?_ (by first|(simp<;>omega)|omega) _)|refine Et ?_ (by assumption))))⟩ (hS.below (by (repeat' (with_reducible first|assumption|apply Er|apply Ea|apply Ed|apply En|(refine Es ?_ (by first|(simp<;>omega)|omega) _)|refine Et ?_ (by assumption))))),by (repeat' (with_reducible first|assumption|apply Er|apply Ea|apply Ed|apply En|(refine Es ?_ (by first|(simp<;>omega)|omega) _)|refine Et ?_ (by assumption)))⟩ ?_
  clear hS hE sR kR sA kA sB kB
  generalize uR.heap.size=b6 at *
  rintro W6 ⟨hS,hE⟩
  go_upto_region 8 with (first|(go_at_call 39;(with_reducible refine (every_any 0 3 _ I0).mono ?_);rintro e uA ⟨hA_7,cA_7,rfl,sA,kA⟩)|(go_at_call 8;refine (Shift_ok hA_7 cA_7 (ev 0 3) (ev 2 3) 2 _ sA (ev_valid (by omega) (by omega) (by omega)) (by omega) (by omega) Kal.s7).mono ?_;rintro e uR ⟨hOK,_⟩;obtain ⟨hR_7,cR_7,rfl,oR,kR⟩:=hOK (by decide);clear hOK;have sR:=oR.is;obtain ⟨x1_7,y1_7,x2_7,y2_7,rfl,rfl⟩:=oR.form;clear oR))
  refine wp_abs (F:=fun U=>Sets U ((uR.heap.size,(ev 2 3)) :: [(b6,⟨[],0,6,[2,4]⟩),(b5,(ev 0 6)),(w.heap.size+1+1,odd),(w.heap.size+1+1+1+1,nine),(w.heap.size+1+1+1+1+1+1+1,zer)])∧Below w.heap.size w U) ⟨Sets.cons ⟨.slice x1_7 ((ev 2 3):Per).head.length y1_7,.slice x2_7 ((ev 2 3):Per).cycle.length y2_7,by (repeat' (first|(refine Bxx.at ?_;simp;done)|apply Bxx.alloc)),sR.ext (by (repeat' (with_reducible first|assumption|apply Er|apply Ea|apply Ed|apply En|(refine Es ?_ (by first|(simp<;>omega)|omega) _)|refine Et ?_ (by assumption))))⟩ (hS.below (by (repeat' (with_reducible first|assumption|apply Er|apply Ea|apply Ed|apply En|(refine Es ?_ (by first|(simp<;>omega)|omega) _)|refine Et ?_ (by assumption))))),by (repeat' (with_reducible first|assumption|apply Er|apply Ea|apply Ed|apply En|(refine Es ?_ (by first|(simp<;>omega)|omega) _)|refine Et ?_ (by assumption)))⟩ ?_
  clear hS hE sR kR sA kA
  generalize uR.heap.size=b7 at *
  rintro W7 ⟨hS,hE⟩
  obtain ⟨hL_8,cL_8,gL⟩:=hS.at 0 rfl
  have q0:=(gL.box.cells 0).1
  have q1:=(gL.box.cells 1).1
  have q2:=(gL.box.cells 2).1
  have q3:=(gL.box.cells 3).1
  go_upto_region 9 with ((go_at_call 8;refine (Shift_ok hL_8 cL_8 (ev 2 3) (ev 1 3) (-4) _ (gL.is.ext (by (repeat' (with_reducible first|assumption|apply Er|apply Ea|apply Ed|apply En|(refine Es ?_ (by first|(simp<;>omega)|omega) _)|refine Et ?_ (by assumption))))) (ev_valid (by omega) (by omega) (by omega)) (by omega) (by omega) Kal.s8).mono ?_;rintro e uR ⟨hOK,_⟩;obtain ⟨hR_8,cR_8,rfl,oR,kR⟩:=hOK (by decide);clear hOK;have sR:=oR.is;obtain ⟨x1_8,y1_8,x2_8,y2_8,rfl,rfl⟩:=oR.form;clear oR))
  refine wp_abs (F:=fun U=>Sets U ((uR.heap.size,(ev 1 3)) :: [(b7,(ev 2 3)),(b6,⟨[],0,6,[2,4]⟩),(b5,(ev 0 6)),(w.heap.size+1+1,odd),(w.heap.size+1+1+1+1,nine),(w.heap.size+1+1+1+1+1+1+1,zer)])∧Below w.heap.size w U) ⟨Sets.cons ⟨.slice x1_8 ((ev 1 3):Per).head.length y1_8,.slice x2_8 ((ev 1 3):Per).cycle.length y2_8,by (repeat' (first|(refine Bxx.at ?_;simp;done)|apply Bxx.alloc)),sR.ext (by (repeat' (with_reducible first|assumption|apply Er|apply Ea|apply Ed|apply En|(refine Es ?_ (by first|(simp<;>omega)|omega) _)|refine Et ?_ (by assumption))))⟩ (hS.below (by (repeat' (with_reducible first|assumption|apply Er|apply Ea|apply Ed|apply En|(refine Es ?_ (by first|(simp<;>omega)|omega) _)|refine Et ?_ (by assumption))))),by (repeat' (with_reducible first|assumption|apply Er|apply Ea|apply Ed|apply En|(refine Es ?_ (by first|(simp<;>omega)|omega) _)|refine Et ?_ (by assumption)))⟩ ?_
  clear hS hE sR kR gL q0 q1 q2 q3
  generalize uR.heap.size=b8 at *
  rintro W8 ⟨hS,hE⟩
  obtain ⟨hL_9,cL_9,gL⟩:=hS.at 4 rfl
  have q0:=(gL.box.cells 0).1
  have q1:=(gL.box.cells 1).1
  have q2:=(gL.box.cells 2).1
  have q3:=(gL.box.cells 3).1
  go_upto_region 10 with ((go_at_call 40;refine (Cut_win hL_9 cL_9 odd ⟨[5,7],8,1,[]⟩ 4 9 _ (gL.is.ext (by (repeat' (with_reducible first|assumption|apply Er|apply Ea|apply Ed|apply En|(refine Es ?_ (by first|(simp<;>omega)|omega) _)|refine Et ?_ (by assumption))))) odd_valid (by omega) (by omega) (by omega) (by decide) Kal.s9).mono ?_;rintro e uR ⟨hR_9,cR_9,rfl,oR,kR⟩;have sR:=oR.is;obtain ⟨x1_9,y1_9,x2_9,y2_9,rfl,rfl⟩:=oR.form;clear oR))
  refine wp_abs (F:=fun U=>Sets U ((uR.heap.size,⟨[5,7],8,1,[]⟩) :: [(b8,(ev 1 3)),(b7,(ev 2 3)),(b6,⟨[],0,6,[2,4]⟩),(b5,(ev 0 6)),(w.heap.size+1+1,odd),(w.heap.size+1+1+1+1,nine),(w.heap.size+1+1+1+1+1+1+1,zer)])∧Below w.heap.size w U) ⟨Sets.cons ⟨.slice x1_9 (⟨[5,7],8,1,[]⟩:Per).head.length y1_9,.slice x2_9 (⟨[5,7],8,1,[]⟩:Per).cycle.length y2_9,by (repeat' (first|(refine Bxx.at ?_;simp;done)|apply Bxx.alloc)),sR.ext (by (repeat' (with_reducible first|assumption|apply Er|apply Ea|apply Ed|apply En|(refine Es ?_ (by first|(simp<;>omega)|omega) _)|refine Et ?_ (by assumption))))⟩ (hS.below (by (repeat' (with_reducible first|assumption|apply Er|apply Ea|apply Ed|apply En|(refine Es ?_ (by first|(simp<;>omega)|omega) _)|refine Et ?_ (by assumption))))),by (repeat' (with_reducible first|assumption|apply Er|apply Ea|apply Ed|apply En|(refine Es ?_ (by first|(simp<;>omega)|omega) _)|refine Et ?_ (by assumption)))⟩ ?_
  clear hS hE sR kR gL q0 q1 q2 q3
  generalize uR.heap.size=b9 at *
  rintro W9 ⟨hS,hE⟩
  obtain ⟨hL_10,cL_10,gL⟩:=hS.at 5 rfl
  have q0:=(gL.box.cells 0).1
  have q1:=(gL.box.cells 1).1
  have q2:=(gL.box.cells 2).1
  have q3:=(gL.box.cells 3).1
  go_upto_region 11 with ((go_at_call 40;refine (Cut_tail hL_10 cL_10 odd ⟨[],4,2,[1]⟩ 4 _ (gL.is.ext (by (repeat' (with_reducible first|assumption|apply Er|apply Ea|apply Ed|apply En|(refine Es ?_ (by first|(simp<;>omega)|omega) _)|refine Et ?_ (by assumption))))) odd_valid (by omega) (by omega) Kal.s10).mono ?_;rintro e uR ⟨hR_10,cR_10,rfl,oR,kR⟩;have sR:=oR.is;obtain ⟨x1_10,y1_10,x2_10,y2_10,rfl,rfl⟩:=oR.form;clear oR))
  refine wp_abs (F:=fun U=>Sets U ((uR.heap.size,⟨[],4,2,[1]⟩) :: [(b9,⟨[5,7],8,1,[]⟩),(b8,(ev 1 3)),(b7,(ev 2 3)),(b6,⟨[],0,6,[2,4]⟩),(b5,(ev 0 6)),(w.heap.size+1+1,odd),(w.heap.size+1+1+1+1,nine),(w.heap.size+1+1+1+1+1+1+1,zer)])∧Below w.heap.size w U) ⟨Sets.cons ⟨.slice x1_10 (⟨[],4,2,[1]⟩:Per).head.length y1_10,.slice x2_10 (⟨[],4,2,[1]⟩:Per).cycle.length y2_10,by (repeat' (first|(refine Bxx.at ?_;simp;done)|apply Bxx.alloc)),sR.ext (by (repeat' (with_reducible first|assumption|apply Er|apply Ea|apply Ed|apply En|(refine Es ?_ (by first|(simp<;>omega)|omega) _)|refine Et ?_ (by assumption))))⟩ (hS.below (by (repeat' (with_reducible first|assumption|apply Er|apply Ea|apply Ed|apply En|(refine Es ?_ (by first|(simp<;>omega)|omega) _)|refine Et ?_ (by assumption))))),by (repeat' (with_reducible first|assumption|apply Er|apply Ea|apply Ed|apply En|(refine Es ?_ (by first|(simp<;>omega)|omega) _)|refine Et ?_ (by assumption)))⟩ ?_
  clear hS hE sR kR gL q0 q1 q2 q3
  generalize uR.heap.size=b10 at *
  rintro W10 ⟨hS,hE⟩
  go_upto_region 12 with (fail)
  refine wp_abs (F:=fun U=>Sets U ((W10.heap.size+1,far) :: [(b10,⟨[],4,2,[1]⟩),(b9,⟨[5,7],8,1,[]⟩),(b8,(ev 1 3)),(b7,(ev 2 3)),(b6,⟨[],0,6,[2,4]⟩),(b5,(ev 0 6)),(w.heap.size+1+1,odd),(w.heap.size+1+1+1+1,nine),(w.heap.size+1+1+1+1+1+1+1,zer)])∧Below w.heap.size w U) ⟨Sets.cons ⟨.slice none 0 0,.slice (some ⟨W10.heap.size,0,none⟩) 1 1,by (repeat' (first|(refine Bxx.at ?_;simp;done)|apply Bxx.alloc)),Ints.nil _,Ints.lit' (l:=[5]) (by (repeat' (first|(refine Bxx.at ?_;simp;done)|apply Bxx.alloc))) (by decide) (by decide)⟩ (hS.below (by (repeat' (with_reducible first|assumption|apply Er|apply Ea|apply Ed|apply En|(refine Es ?_ (by first|(simp<;>omega)|omega) _)|refine Et ?_ (by assumption))))),by (repeat' (with_reducible first|assumption|apply Er|apply Ea|apply Ed|apply En|(refine Es ?_ (by first|(simp<;>omega)|omega) _)|refine Et ?_ (by assumption)))⟩ ?_
  clear hS hE
  generalize W10.heap.size+1=b11 at *
  rintro W11 ⟨hS,hE⟩
  refine wp_region_factsH (w0:=W11) [0,1,2,3,4,5,6] [7] (fun v=>⟨#[.bool false,.pointer (some ⟨w.heap.size+1+1,0,none⟩),.pointer (some ⟨w.heap.size+1+1+1+1,0,none⟩),.pointer (some ⟨w.heap.size+1+1+1+1+1+1+1,0,none⟩),.bool true,.pointer (some ⟨b5,0,none⟩),.int .i64 0,.pointer (some ⟨b6,0,none⟩),.int .i64 0,.pointer (some ⟨b7,0,none⟩),.int .i64 0,.pointer (some ⟨b8,0,none⟩),.int .i64 0,.pointer (some ⟨b9,0,none⟩),.int .i64 0,.pointer (some ⟨b10,0,none⟩),.int .i64 0,.pointer (some ⟨b11,0,none⟩),v 6,undef,undef,undef,undef,undef,undef,.slice (some ⟨w.heap.size,0,none⟩) 2 2,.slice (some ⟨w.heap.size+1,0,none⟩) 2 2,.agg #[.slice (some ⟨w.heap.size,0,none⟩) 2 2,.int .i64 4,.int .i64 4,.slice (some ⟨w.heap.size+1,0,none⟩) 2 2],.slice (some ⟨w.heap.size+1+1+1,0,none⟩) 2 2,.agg #[.slice (some ⟨w.heap.size+1+1+1,0,none⟩) 2 2,.int .i64 30,.int .i64 3,.slice none 0 0],.slice (some ⟨w.heap.size+1+1+1+1+1,0,none⟩) 1 1,.slice (some ⟨w.heap.size+1+1+1+1+1+1,0,none⟩) 1 1,.agg #[.slice (some ⟨w.heap.size+1+1+1+1+1,0,none⟩) 1 1,.int .i64 1,.int .i64 3,.slice (some ⟨w.heap.size+1+1+1+1+1+1,0,none⟩) 1 1],x0,x1,x2,x3,x4,x5,x6,x7,x8,x9,x10,x11,x12,x13,x14,x15,x16,x17,.bool true,.tuple #[perV (.slice x1_5 0 y1_5) (.slice x2_5 1 y2_5) 0 6,.int .i64 0],perV hA_5 cA_5 0 2,perV hB_5 cB_5 0 3,.tuple #[perV (.slice x1_5 0 y1_5) (.slice x2_5 1 y2_5) 0 6,.int .i64 0],perV (.slice x1_5 0 y1_5) (.slice x2_5 1 y2_5) 0 6,.int .i64 0,.tuple #[perV (.slice x1_6 0 y1_6) (.slice x2_6 2 y2_6) 0 6,.int .i64 0],perV hA_6 cA_6 0 2,perV hB_6 cB_6 0 3,.tuple #[perV (.slice x1_6 0 y1_6) (.slice x2_6 2 y2_6) 0 6,.int .i64 0],perV (.slice x1_6 0 y1_6) (.slice x2_6 2 y2_6) 0 6,.int .i64 0,.tuple #[perV (.slice x1_7 0 y1_7) (.slice x2_7 1 y2_7) 0 3,.int .i64 0],perV hA_7 cA_7 0 3,.tuple #[perV (.slice x1_7 0 y1_7) (.slice x2_7 1 y2_7) 0 3,.int .i64 0],perV (.slice x1_7 0 y1_7) (.slice x2_7 1 y2_7) 0 3,.int .i64 0,.tuple #[perV (.slice x1_8 0 y1_8) (.slice x2_8 1 y2_8) 0 3,.int .i64 0],.agg #[hL_8,.int .i64 0,.int .i64 3,cL_8],.tuple #[perV (.slice x1_8 0 y1_8) (.slice x2_8 1 y2_8) 0 3,.int .i64 0],perV (.slice x1_8 0 y1_8) (.slice x2_8 1 y2_8) 0 3,.int .i64 0,.tuple #[perV (.slice x1_9 2 y1_9) (.slice x2_9 0 y2_9) 8 1,.int .i64 0],.agg #[hL_9,.int .i64 4,.int .i64 4,cL_9],.tuple #[perV (.slice x1_9 2 y1_9) (.slice x2_9 0 y2_9) 8 1,.int .i64 0],perV (.slice x1_9 2 y1_9) (.slice x2_9 0 y2_9) 8 1,.int .i64 0,.tuple #[perV (.slice x1_10 0 y1_10) (.slice x2_10 1 y2_10) 4 2,.int .i64 0],.agg #[hL_10,.int .i64 4,.int .i64 4,cL_10],.tuple #[perV (.slice x1_10 0 y1_10) (.slice x2_10 1 y2_10) 4 2,.int .i64 0],perV (.slice x1_10 0 y1_10) (.slice x2_10 1 y2_10) 4 2,.int .i64 0,.slice (some ⟨W10.heap.size,0,none⟩) 1 1,.agg #[.slice none 0 0,.int .i64 0,.int .i64 549755813888,.slice (some ⟨W10.heap.size,0,none⟩) 1 1],v 3,v 0,v 1,v 2,v 4,v 5,undef,undef,undef,undef,undef,undef,undef,undef,undef,undef,undef,undef,undef,undef,undef,undef,undef,undef,undef,undef,undef,undef,undef,undef,undef,undef,undef,undef,undef,undef,undef,undef,undef,undef,undef,undef,undef,undef,undef,undef,undef,undef,undef,undef,undef,undef,undef,undef,undef,undef,undef,undef,undef,undef,undef,undef,undef,undef,undef,undef,undef,undef,undef,undef,undef,undef,undef,undef,undef,undef,undef,undef,undef,undef,undef,undef,undef,undef,undef,undef,undef,undef,undef,undef,undef,undef,undef,undef,undef,undef,undef,undef,undef,undef,undef],[]⟩) (fun _=>undef)
   (fun i v lo hi W=>match i with
    | 0=>SetV W (v 0) far
    | 1=>SetV W (v 1) (ev 2 3)
    | 2=>v 2=.tuple #[.int .i64 1649267441669,.bool true]
    | 3=>v 3=.tuple #[.int .i64 1649267441669,.bool true]
    | 4=>v 4=.int .i64 1649267441669
    | 5=>v 5=.bool true
    | 6=>v 6=.int .i64 1649267441669
    | _=>True)
   (fun W=>Sets W [(b11,far),(b10,⟨[],4,2,[1]⟩),(b9,⟨[5,7],8,1,[]⟩),(b8,(ev 1 3)),(b7,(ev 2 3)),(b6,⟨[],0,6,[2,4]⟩),(b5,(ev 0 6)),(w.heap.size+1+1,odd),(w.heap.size+1+1+1+1,nine),(w.heap.size+1+1+1+1+1+1+1,zer)]) rfl (by kernel_rfl) (by decide) rfl ?stab ?loc (fun W hb=>hS.below hb) ?steps ?fin
  case stab=>
   rintro (_|_|_|_|_|_|_|i) v lo hi W W' h hb
   ·exact h.below hb
   ·exact h.below hb
   ·exact h
   ·exact h
   ·exact h
   ·exact h
   ·exact h
   ·trivial
  case loc=>
   rintro (_|_|_|_|_|_|_|i) v v' lo lo' hi hi' W hag h
   ·have q:=hag 0 (.inl rfl)
    (try dsimp only at h ⊢);(try simp only [q.1,q.2.1,q.2.2] at h);exact h
   ·have q:=hag 1 (.inl rfl)
    (try dsimp only at h ⊢);(try simp only [q.1,q.2.1,q.2.2] at h);exact h
   ·have q:=hag 2 (.inl rfl)
    have q0:=hag 0 (.inr (Rdp (by kernel_rfl)))
    have q1:=hag 1 (.inr (Rdp (by kernel_rfl)))
    (try dsimp only at h ⊢);(try simp only [q.1,q.2.1,q.2.2,q0.1,q0.2.1,q0.2.2,q1.1,q1.2.1,q1.2.2] at h);exact h
   ·have q:=hag 3 (.inl rfl)
    have q2:=hag 2 (.inr (Rdp (by kernel_rfl)))
    (try dsimp only at h ⊢);(try simp only [q.1,q.2.1,q.2.2,q2.1,q2.2.1,q2.2.2] at h);exact h
   ·have q:=hag 4 (.inl rfl)
    have q3:=hag 3 (.inr (Rdp (by kernel_rfl)))
    (try dsimp only at h ⊢);(try simp only [q.1,q.2.1,q.2.2,q3.1,q3.2.1,q3.2.2] at h);exact h
   ·have q:=hag 5 (.inl rfl)
    have q3:=hag 3 (.inr (Rdp (by kernel_rfl)))
    (try dsimp only at h ⊢);(try simp only [q.1,q.2.1,q.2.2,q3.1,q3.2.1,q3.2.2] at h);exact h
   ·have q:=hag 6 (.inl rfl)
    have q0:=hag 0 (.inr (Rdp (by kernel_rfl)))
    have q1:=hag 1 (.inr (Rdp (by kernel_rfl)))
    have q2:=hag 2 (.inr (Rdp (by kernel_rfl)))
    have q3:=hag 3 (.inr (Rdp (by kernel_rfl)))
    have q4:=hag 4 (.inr (Rdp (by kernel_rfl)))
    (try dsimp only at h ⊢);(try simp only [q.1,q.2.1,q.2.2,q0.1,q0.2.1,q0.2.2,q1.1,q1.2.1,q1.2.2,q2.1,q2.2.1,q2.2.2,q3.1,q3.2.1,q3.2.2,q4.1,q4.2.1,q4.2.2] at h);exact h
   ·trivial
  case steps=>
   refine StepsH.cons rfl ?_ (StepsH.cons rfl ?_ (StepsH.cons rfl ?_ (StepsH.cons rfl ?_ (StepsH.cons rfl ?_ (StepsH.cons rfl ?_ (StepsH.cons rfl ?_ StepsH.nil))))))
   ·rintro v lo hi W hb hS hd
    clear hd
    refine ⟨rfl,?_⟩
    intro K hK
    dsimp only
    obtain ⟨h,c,g⟩:=hS.at 0 rfl
    have q0:=(g.box.cells 0).1
    have q1:=(g.box.cells 1).1
    have q2:=(g.box.cells 2).1
    have q3:=(g.box.cells 3).1
    go_wp2_with fail
    exact acx (hK (perV h c (far:Per).frm (far:Per).period) W (Below.refl _ _) ⟨h,c,rfl,g.is⟩) (by simp [ite_true])
   ·rintro v lo hi W hb hS hd
    clear hd
    refine ⟨rfl,?_⟩
    intro K hK
    dsimp only
    go_wp2_with (go_at_call 39;refine (every_any _ _ _ ⟨by omega,by omega⟩).mono ?_;rintro e w9 ⟨h,c,rfl,hs,hb9⟩)
    exact acx (hK (perV h c 0 3) w9 hb9 ⟨h,c,rfl,hs⟩) (by simp [ite_true])
   ·rintro v lo hi W hb hS hd
    obtain ⟨la0,lb0,D0⟩:=hd 0 (Rdp (by kernel_rfl))
    obtain ⟨la1,lb1,D1⟩:=hd 1 (Rdp (by kernel_rfl))
    clear hd
    refine ⟨rfl,?_⟩
    intro K hK
    dsimp only
    obtain ⟨h0,c0,e0,s0⟩:=D0
    obtain ⟨h1,c1,e1,s1⟩:=D1
    simp only [e0,e1]
    go_wp2_with (go_at_call 30;refine (first_ok h0 c0 h1 c1 far (ev 2 3) far (ev 2 3) 6 _ s0 s1 (ev_valid (by omega) (by omega) (by omega)) (ev_valid (by omega) (by omega) (by omega)) far_canon (ev_canon (by omega) (by omega)) (by decide) (by omega) (by omega)).mono ?_;rintro e w9 ⟨n,b,rfl,hF,hb9⟩;obtain ⟨rfl,rfl⟩:=hF.unique Kal.s11)
    exact acx (hK (.tuple #[.int .i64 1649267441669,.bool true]) w9 hb9 rfl) (by simp [ite_true,e0,e1])
   ·rintro v lo hi W hb hS hd
    have e2:v 2=.tuple #[.int .i64 1649267441669,.bool true]:=(hd 2 (Rdp (by kernel_rfl))).2.2
    clear hd
    refine ⟨rfl,?_⟩
    intro K hK
    dsimp only
    (try simp only [e2])
    go_wp2_with fail
    exact acx (hK (.tuple #[.int .i64 1649267441669,.bool true]) W (Below.refl _ _) rfl) (by simp [e2])
   ·rintro v lo hi W hb hS hd
    have e3:v 3=.tuple #[.int .i64 1649267441669,.bool true]:=(hd 3 (Rdp (by kernel_rfl))).2.2
    clear hd
    refine ⟨rfl,?_⟩
    intro K hK
    dsimp only
    (try simp only [e3])
    go_wp2_with fail
    exact acx (hK (.int .i64 1649267441669) W (Below.refl _ _) rfl) (by simp [e3])
   ·rintro v lo hi W hb hS hd
    have e3:v 3=.tuple #[.int .i64 1649267441669,.bool true]:=(hd 3 (Rdp (by kernel_rfl))).2.2
    clear hd
    refine ⟨rfl,?_⟩
    intro K hK
    dsimp only
    (try simp only [e3])
    go_wp2_with fail
    exact acx (hK (.bool true) W (Below.refl _ _) rfl) (by simp [e3])
   ·rintro v lo hi W hb hS hd
    obtain ⟨la0,lb0,D0⟩:=hd 0 (Rdp (by kernel_rfl))
    obtain ⟨la1,lb1,D1⟩:=hd 1 (Rdp (by kernel_rfl))
    have e2:v 2=.tuple #[.int .i64 1649267441669,.bool true]:=(hd 2 (Rdp (by kernel_rfl))).2.2
    have e3:v 3=.tuple #[.int .i64 1649267441669,.bool true]:=(hd 3 (Rdp (by kernel_rfl))).2.2
    have e4:v 4=.int .i64 1649267441669:=(hd 4 (Rdp (by kernel_rfl))).2.2
    clear hd
    refine ⟨rfl,?_⟩
    intro K hK
    dsimp only
    (try simp only [e2,e3,e4])
    go_wp2_with fail
    exact acx (hK (.int .i64 1649267441669) W (Below.refl _ _) rfl) (by simp [e2,e3,e4])
  case fin=>
   rintro v lo hi W2 hb2 _ hf _
   show wpList _ _ _ [_] _ _
   have f5:v 5=.bool true:=(hf 5 rfl).2.2.2
   have f6:v 6=.int .i64 1649267441669:=(hf 6 rfl).2.2.2
   clear hf
   dsimp only
   rw [f5,f6]
   clear f5 f6
   generalize v 0=y0
   generalize v 1=y1
   generalize v 2=y2
   generalize v 3=y3
   generalize v 4=y4
   go_upto_region 13 with (fail)
   refine wp_abs (F:=fun U=>Sets U [(b11,far),(b10,⟨[],4,2,[1]⟩),(b9,⟨[5,7],8,1,[]⟩),(b8,(ev 1 3)),(b7,(ev 2 3)),(b6,⟨[],0,6,[2,4]⟩),(b5,(ev 0 6)),(w.heap.size+1+1,odd),(w.heap.size+1+1+1+1,nine),(w.heap.size+1+1+1+1+1+1+1,zer)]∧Below w.heap.size w U) ⟨hS.below (by (repeat' (with_reducible first|assumption|apply Er|apply Ea|apply Ed|apply En|(refine Es ?_ (by first|(simp<;>omega)|omega) _)|refine Et ?_ (by assumption)))),by (repeat' (with_reducible first|assumption|apply Er|apply Ea|apply Ed|apply En|(refine Es ?_ (by first|(simp<;>omega)|omega) _)|refine Et ?_ (by assumption)))⟩ ?_
   clear hS hE hb2
   rintro W12 ⟨hS,hE⟩
   refine Code.wp_mono (Q:=fun e a' W'=>e=.normal∧(∃ (ob:Nat) (z0 z1 z2 z3 z4 z5:Value),a'=⟨#[.bool false,.pointer (some ⟨w.heap.size+1+1,0,none⟩),.pointer (some ⟨w.heap.size+1+1+1+1,0,none⟩),.pointer (some ⟨w.heap.size+1+1+1+1+1+1+1,0,none⟩),.bool true,.pointer (some ⟨b5,0,none⟩),.int .i64 0,.pointer (some ⟨b6,0,none⟩),.int .i64 0,.pointer (some ⟨b7,0,none⟩),.int .i64 0,.pointer (some ⟨b8,0,none⟩),.int .i64 0,.pointer (some ⟨b9,0,none⟩),.int .i64 0,.pointer (some ⟨b10,0,none⟩),.int .i64 0,.pointer (some ⟨b11,0,none⟩),.int .i64 1649267441669,.bool true,.pointer (some ⟨ob,0,none⟩),.int .i64 2,undef,undef,undef,.slice (some ⟨w.heap.size,0,none⟩) 2 2,.slice (some ⟨w.heap.size+1,0,none⟩) 2 2,.agg #[.slice (some ⟨w.heap.size,0,none⟩) 2 2,.int .i64 4,.int .i64 4,.slice (some ⟨w.heap.size+1,0,none⟩) 2 2],.slice (some ⟨w.heap.size+1+1+1,0,none⟩) 2 2,.agg #[.slice (some ⟨w.heap.size+1+1+1,0,none⟩) 2 2,.int .i64 30,.int .i64 3,.slice none 0 0],.slice (some ⟨w.heap.size+1+1+1+1+1,0,none⟩) 1 1,.slice (some ⟨w.heap.size+1+1+1+1+1+1,0,none⟩) 1 1,.agg #[.slice (some ⟨w.heap.size+1+1+1+1+1,0,none⟩) 1 1,.int .i64 1,.int .i64 3,.slice (some ⟨w.heap.size+1+1+1+1+1+1,0,none⟩) 1 1],x0,x1,x2,x3,x4,x5,x6,x7,x8,x9,x10,x11,x12,x13,x14,x15,x16,x17,.bool true,.tuple #[perV (.slice x1_5 0 y1_5) (.slice x2_5 1 y2_5) 0 6,.int .i64 0],perV hA_5 cA_5 0 2,perV hB_5 cB_5 0 3,.tuple #[perV (.slice x1_5 0 y1_5) (.slice x2_5 1 y2_5) 0 6,.int .i64 0],perV (.slice x1_5 0 y1_5) (.slice x2_5 1 y2_5) 0 6,.int .i64 0,.tuple #[perV (.slice x1_6 0 y1_6) (.slice x2_6 2 y2_6) 0 6,.int .i64 0],perV hA_6 cA_6 0 2,perV hB_6 cB_6 0 3,.tuple #[perV (.slice x1_6 0 y1_6) (.slice x2_6 2 y2_6) 0 6,.int .i64 0],perV (.slice x1_6 0 y1_6) (.slice x2_6 2 y2_6) 0 6,.int .i64 0,.tuple #[perV (.slice x1_7 0 y1_7) (.slice x2_7 1 y2_7) 0 3,.int .i64 0],perV hA_7 cA_7 0 3,.tuple #[perV (.slice x1_7 0 y1_7) (.slice x2_7 1 y2_7) 0 3,.int .i64 0],perV (.slice x1_7 0 y1_7) (.slice x2_7 1 y2_7) 0 3,.int .i64 0,.tuple #[perV (.slice x1_8 0 y1_8) (.slice x2_8 1 y2_8) 0 3,.int .i64 0],.agg #[hL_8,.int .i64 0,.int .i64 3,cL_8],.tuple #[perV (.slice x1_8 0 y1_8) (.slice x2_8 1 y2_8) 0 3,.int .i64 0],perV (.slice x1_8 0 y1_8) (.slice x2_8 1 y2_8) 0 3,.int .i64 0,.tuple #[perV (.slice x1_9 2 y1_9) (.slice x2_9 0 y2_9) 8 1,.int .i64 0],.agg #[hL_9,.int .i64 4,.int .i64 4,cL_9],.tuple #[perV (.slice x1_9 2 y1_9) (.slice x2_9 0 y2_9) 8 1,.int .i64 0],perV (.slice x1_9 2 y1_9) (.slice x2_9 0 y2_9) 8 1,.int .i64 0,.tuple #[perV (.slice x1_10 0 y1_10) (.slice x2_10 1 y2_10) 4 2,.int .i64 0],.agg #[hL_10,.int .i64 4,.int .i64 4,cL_10],.tuple #[perV (.slice x1_10 0 y1_10) (.slice x2_10 1 y2_10) 4 2,.int .i64 0],perV (.slice x1_10 0 y1_10) (.slice x2_10 1 y2_10) 4 2,.int .i64 0,.slice (some ⟨W10.heap.size,0,none⟩) 1 1,.agg #[.slice none 0 0,.int .i64 0,.int .i64 549755813888,.slice (some ⟨W10.heap.size,0,none⟩) 1 1],y3,y0,y1,y2,y4,.bool true,z3,z0,z1,z2,z4,z5,undef,undef,undef,undef,undef,undef,undef,undef,undef,undef,undef,undef,undef,undef,undef,undef,undef,undef,undef,undef,undef,undef,undef,undef,undef,undef,undef,undef,undef,undef,undef,undef,undef,undef,undef,undef,undef,undef,undef,undef,undef,undef,undef,undef,undef,undef,undef,undef,undef,undef,undef,undef,undef,undef,undef,undef,undef,undef,undef,undef,undef,undef,undef,undef,undef,undef,undef,undef,undef,undef,undef,undef,undef,undef,undef,undef,undef,undef,undef,undef,undef,undef,undef,undef,undef,undef,undef,undef,undef],[]⟩)∧Below W12.heap.size W12 W') ?imp ?reg
   case reg=>
    refine wp_region_factsX (w0:=W12) [0,1,2,3,4,5,6] 5 7 [8] (fun v=>⟨#[.bool false,.pointer (some ⟨w.heap.size+1+1,0,none⟩),.pointer (some ⟨w.heap.size+1+1+1+1,0,none⟩),.pointer (some ⟨w.heap.size+1+1+1+1+1+1+1,0,none⟩),.bool true,.pointer (some ⟨b5,0,none⟩),.int .i64 0,.pointer (some ⟨b6,0,none⟩),.int .i64 0,.pointer (some ⟨b7,0,none⟩),.int .i64 0,.pointer (some ⟨b8,0,none⟩),.int .i64 0,.pointer (some ⟨b9,0,none⟩),.int .i64 0,.pointer (some ⟨b10,0,none⟩),.int .i64 0,.pointer (some ⟨b11,0,none⟩),.int .i64 1649267441669,.bool true,v 6,undef,undef,undef,undef,.slice (some ⟨w.heap.size,0,none⟩) 2 2,.slice (some ⟨w.heap.size+1,0,none⟩) 2 2,.agg #[.slice (some ⟨w.heap.size,0,none⟩) 2 2,.int .i64 4,.int .i64 4,.slice (some ⟨w.heap.size+1,0,none⟩) 2 2],.slice (some ⟨w.heap.size+1+1+1,0,none⟩) 2 2,.agg #[.slice (some ⟨w.heap.size+1+1+1,0,none⟩) 2 2,.int .i64 30,.int .i64 3,.slice none 0 0],.slice (some ⟨w.heap.size+1+1+1+1+1,0,none⟩) 1 1,.slice (some ⟨w.heap.size+1+1+1+1+1+1,0,none⟩) 1 1,.agg #[.slice (some ⟨w.heap.size+1+1+1+1+1,0,none⟩) 1 1,.int .i64 1,.int .i64 3,.slice (some ⟨w.heap.size+1+1+1+1+1+1,0,none⟩) 1 1],x0,x1,x2,x3,x4,x5,x6,x7,x8,x9,x10,x11,x12,x13,x14,x15,x16,x17,.bool true,.tuple #[perV (.slice x1_5 0 y1_5) (.slice x2_5 1 y2_5) 0 6,.int .i64 0],perV hA_5 cA_5 0 2,perV hB_5 cB_5 0 3,.tuple #[perV (.slice x1_5 0 y1_5) (.slice x2_5 1 y2_5) 0 6,.int .i64 0],perV (.slice x1_5 0 y1_5) (.slice x2_5 1 y2_5) 0 6,.int .i64 0,.tuple #[perV (.slice x1_6 0 y1_6) (.slice x2_6 2 y2_6) 0 6,.int .i64 0],perV hA_6 cA_6 0 2,perV hB_6 cB_6 0 3,.tuple #[perV (.slice x1_6 0 y1_6) (.slice x2_6 2 y2_6) 0 6,.int .i64 0],perV (.slice x1_6 0 y1_6) (.slice x2_6 2 y2_6) 0 6,.int .i64 0,.tuple #[perV (.slice x1_7 0 y1_7) (.slice x2_7 1 y2_7) 0 3,.int .i64 0],perV hA_7 cA_7 0 3,.tuple #[perV (.slice x1_7 0 y1_7) (.slice x2_7 1 y2_7) 0 3,.int .i64 0],perV (.slice x1_7 0 y1_7) (.slice x2_7 1 y2_7) 0 3,.int .i64 0,.tuple #[perV (.slice x1_8 0 y1_8) (.slice x2_8 1 y2_8) 0 3,.int .i64 0],.agg #[hL_8,.int .i64 0,.int .i64 3,cL_8],.tuple #[perV (.slice x1_8 0 y1_8) (.slice x2_8 1 y2_8) 0 3,.int .i64 0],perV (.slice x1_8 0 y1_8) (.slice x2_8 1 y2_8) 0 3,.int .i64 0,.tuple #[perV (.slice x1_9 2 y1_9) (.slice x2_9 0 y2_9) 8 1,.int .i64 0],.agg #[hL_9,.int .i64 4,.int .i64 4,cL_9],.tuple #[perV (.slice x1_9 2 y1_9) (.slice x2_9 0 y2_9) 8 1,.int .i64 0],perV (.slice x1_9 2 y1_9) (.slice x2_9 0 y2_9) 8 1,.int .i64 0,.tuple #[perV (.slice x1_10 0 y1_10) (.slice x2_10 1 y2_10) 4 2,.int .i64 0],.agg #[hL_10,.int .i64 4,.int .i64 4,cL_10],.tuple #[perV (.slice x1_10 0 y1_10) (.slice x2_10 1 y2_10) 4 2,.int .i64 0],perV (.slice x1_10 0 y1_10) (.slice x2_10 1 y2_10) 4 2,.int .i64 0,.slice (some ⟨W10.heap.size,0,none⟩) 1 1,.agg #[.slice none 0 0,.int .i64 0,.int .i64 549755813888,.slice (some ⟨W10.heap.size,0,none⟩) 1 1],y3,y0,y1,y2,y4,.bool true,v 3,v 0,v 1,v 2,v 4,v 5,undef,undef,undef,undef,undef,undef,undef,undef,undef,undef,undef,undef,undef,undef,undef,undef,undef,undef,undef,undef,undef,undef,undef,undef,undef,undef,undef,undef,undef,undef,undef,undef,undef,undef,undef,undef,undef,undef,undef,undef,undef,undef,undef,undef,undef,undef,undef,undef,undef,undef,undef,undef,undef,undef,undef,undef,undef,undef,undef,undef,undef,undef,undef,undef,undef,undef,undef,undef,undef,undef,undef,undef,undef,undef,undef,undef,undef,undef,undef,undef,undef,undef,undef,undef,undef,undef,undef,undef,undef],[]⟩) (fun _=>undef)
     (fun i v lo hi W=>match i with
      | 0=>SetV W (v 0) far
      | 1=>SetV W (v 1) (ev 2 3)
      | 2=>v 2=.tuple #[perV (.slice none 0 0) (.slice none 0 0) 0 0,.int .i64 2]
      | 3=>v 3=.tuple #[perV (.slice none 0 0) (.slice none 0 0) 0 0,.int .i64 2]
      | 4=>v 4=perV (.slice none 0 0) (.slice none 0 0) 0 0
      | 5=>v 5=.int .i64 2
      | 6=>v 6=.pointer (some ⟨lo 6,0,none⟩)∧lo 6<hi 6∧Bxx W (lo 6) #[.slice none 0 0,.int .i64 0,.int .i64 0,.slice none 0 0] 24
      | _=>True)
     (fun W=>Sets W [(b11,far),(b10,⟨[],4,2,[1]⟩),(b9,⟨[5,7],8,1,[]⟩),(b8,(ev 1 3)),(b7,(ev 2 3)),(b6,⟨[],0,6,[2,4]⟩),(b5,(ev 0 6)),(w.heap.size+1+1,odd),(w.heap.size+1+1+1+1,nine),(w.heap.size+1+1+1+1+1+1+1,zer)]) rfl (by kernel_rfl) (by decide) rfl ?stab ?loc (fun W hb=>hS.below hb) ?steps ?fin ?fin2
    case stab=>
     rintro (_|_|_|_|_|_|_|i) v lo hi W W' h hb
     ·exact h.below hb
     ·exact h.below hb
     ·exact h
     ·exact h
     ·exact h
     ·exact h
     ·exact ⟨h.1,h.2.1,h.2.2.below hb⟩
     ·trivial
    case loc=>
     rintro (_|_|_|_|_|_|_|i) v v' lo lo' hi hi' W hag h
     ·have q:=hag 0 (.inl rfl)
      (try dsimp only at h ⊢);(try simp only [q.1,q.2.1,q.2.2] at h);exact h
     ·have q:=hag 1 (.inl rfl)
      (try dsimp only at h ⊢);(try simp only [q.1,q.2.1,q.2.2] at h);exact h
     ·have q:=hag 2 (.inl rfl)
      have q0:=hag 0 (.inr (Rdp (by kernel_rfl)))
      have q1:=hag 1 (.inr (Rdp (by kernel_rfl)))
      (try dsimp only at h ⊢);(try simp only [q.1,q.2.1,q.2.2,q0.1,q0.2.1,q0.2.2,q1.1,q1.2.1,q1.2.2] at h);exact h
     ·have q:=hag 3 (.inl rfl)
      have q2:=hag 2 (.inr (Rdp (by kernel_rfl)))
      (try dsimp only at h ⊢);(try simp only [q.1,q.2.1,q.2.2,q2.1,q2.2.1,q2.2.2] at h);exact h
     ·have q:=hag 4 (.inl rfl)
      have q3:=hag 3 (.inr (Rdp (by kernel_rfl)))
      (try dsimp only at h ⊢);(try simp only [q.1,q.2.1,q.2.2,q3.1,q3.2.1,q3.2.2] at h);exact h
     ·have q:=hag 5 (.inl rfl)
      have q3:=hag 3 (.inr (Rdp (by kernel_rfl)))
      (try dsimp only at h ⊢);(try simp only [q.1,q.2.1,q.2.2,q3.1,q3.2.1,q3.2.2] at h);exact h
     ·have q:=hag 6 (.inl rfl)
      (try dsimp only at h ⊢);(try simp only [q.1,q.2.1,q.2.2] at h);exact h
     ·trivial
    case steps=>
     refine StepsH.cons rfl ?_ (StepsH.cons rfl ?_ (StepsH.cons rfl ?_ (StepsH.cons rfl ?_ (StepsH.cons rfl ?_ (StepsH.cons rfl ?_ (StepsH.cons rfl ?_ StepsH.nil))))))
     ·rintro v lo hi W hb hS hd
      clear hd
      refine ⟨rfl,?_⟩
      intro K hK
      dsimp only
      obtain ⟨h,c,g⟩:=hS.at 0 rfl
      have q0:=(g.box.cells 0).1
      have q1:=(g.box.cells 1).1
      have q2:=(g.box.cells 2).1
      have q3:=(g.box.cells 3).1
      go_wp2_with fail
      exact acx (hK (perV h c (far:Per).frm (far:Per).period) W (Below.refl _ _) ⟨h,c,rfl,g.is⟩) (by simp [ite_true])
     ·rintro v lo hi W hb hS hd
      clear hd
      refine ⟨rfl,?_⟩
      intro K hK
      dsimp only
      go_wp2_with (go_at_call 39;refine (every_any _ _ _ ⟨by omega,by omega⟩).mono ?_;rintro e w9 ⟨h,c,rfl,hs,hb9⟩)
      exact acx (hK (perV h c 0 3) w9 hb9 ⟨h,c,rfl,hs⟩) (by simp [ite_true])
     ·rintro v lo hi W hb hS hd
      obtain ⟨la0,lb0,D0⟩:=hd 0 (Rdp (by kernel_rfl))
      obtain ⟨la1,lb1,D1⟩:=hd 1 (Rdp (by kernel_rfl))
      clear hd
      refine ⟨rfl,?_⟩
      intro K hK
      dsimp only
      obtain ⟨h0,c0,e0,s0⟩:=D0
      obtain ⟨h1,c1,e1,s1⟩:=D1
      simp only [e0,e1]
      go_wp2_with (go_at_call 24;refine (And_err h0 c0 h1 c1 0 549755813888 0 3 2 _ (fun U hU=>operate_big h0 c0 h1 c1 far (ev 2 3) far (ev 2 3) 0 U (s0.ext hU) (s1.ext hU) (ev_valid (by omega) (by omega) (by omega)) (ev_valid (by omega) (by omega) (by omega)) far_canon (ev_canon (by omega) (by omega)) (by decide))).mono ?_;rintro e w9 ⟨rfl,hb9⟩)
      exact acx (hK (.tuple #[perV (.slice none 0 0) (.slice none 0 0) 0 0,.int .i64 2]) w9 hb9 rfl) (by simp [ite_true,e0,e1])
     ·rintro v lo hi W hb hS hd
      have e2:v 2=.tuple #[perV (.slice none 0 0) (.slice none 0 0) 0 0,.int .i64 2]:=(hd 2 (Rdp (by kernel_rfl))).2.2
      clear hd
      refine ⟨rfl,?_⟩
      intro K hK
      dsimp only
      (try simp only [e2])
      go_wp2_with fail
      exact acx (hK (.tuple #[perV (.slice none 0 0) (.slice none 0 0) 0 0,.int .i64 2]) W (Below.refl _ _) rfl) (by simp [e2])
     ·rintro v lo hi W hb hS hd
      have e3:v 3=.tuple #[perV (.slice none 0 0) (.slice none 0 0) 0 0,.int .i64 2]:=(hd 3 (Rdp (by kernel_rfl))).2.2
      clear hd
      refine ⟨rfl,?_⟩
      intro K hK
      dsimp only
      (try simp only [e3])
      go_wp2_with fail
      exact acx (hK (perV (.slice none 0 0) (.slice none 0 0) 0 0) W (Below.refl _ _) rfl) (by simp [e3])
     ·rintro v lo hi W hb hS hd
      have e3:v 3=.tuple #[perV (.slice none 0 0) (.slice none 0 0) 0 0,.int .i64 2]:=(hd 3 (Rdp (by kernel_rfl))).2.2
      clear hd
      refine ⟨rfl,?_⟩
      intro K hK
      dsimp only
      (try simp only [e3])
      go_wp2_with fail
      exact acx (hK (.int .i64 2) W (Below.refl _ _) rfl) (by simp [e3])
     ·rintro v lo hi W hb hS hd
      clear hd
      refine ⟨rfl,?_⟩
      intro K hK
      dsimp only
      go_wp2_with fail
      exact acx (hK (.pointer (some ⟨W.heap.size,0,none⟩)) _ (Ea (Er _) _) ⟨rfl,by simp,Bxx.new _ _ _⟩) (by simp [ite_true])
    case fin=>
     rintro v lo hi W2 hb2 _ hf _
     show wpList _ _ _ [_,_] _ _
     have f4:v 4=perV (.slice none 0 0) (.slice none 0 0) 0 0:=(hf 4 rfl).2.2.2
     have f5:v 5=.int .i64 2:=(hf 5 rfl).2.2.2
     obtain ⟨l6,_,k6,e6,lt6,hob⟩:=hf 6 rfl
     clear hf
     generalize lo 6=ob at *
     generalize hi 6=hi6 at *
     dsimp only
     rw [f4,f5,e6]
     clear f4 f5 e6
     generalize v 0=z0
     generalize v 1=z1
     generalize v 2=z2
     generalize v 3=z3
     have g0:=hob.cells 0
     have g1:=hob.cells 1
     have g2:=hob.cells 2
     have g3:=hob.cells 3
     go_wp2_with fail
     (repeat' (with_reducible first|assumption|apply Er|apply Ea|apply Ed|apply En|(refine Es ?_ (by first|(simp<;>omega)|omega) _)|refine Et ?_ (by assumption)))
    case fin2=>
     rintro v lo hi W2 hb2 _ hf _
     have f3:v 3=.tuple #[perV (.slice none 0 0) (.slice none 0 0) 0 0,.int .i64 2]:=(hf 3 rfl (by decide)).2.2.2
     have f4:v 4=perV (.slice none 0 0) (.slice none 0 0) 0 0:=(hf 4 rfl (by decide)).2.2.2
     obtain ⟨l6,_,k6,e6,lt6,hob⟩:=hf 6 rfl (by decide)
     clear hf
     generalize lo 6=ob at *
     generalize hi 6=hi6 at *
     constructor
     ·show wpList _ _ _ [_,_,_] _ _
      dsimp only
      rw [f3,f4,e6]
      clear f3 f4 e6
      generalize v 0=z0
      generalize v 1=z1
      generalize v 2=z2
      generalize v 5=z5
      have g0:=hob.cells 0
      have g1:=hob.cells 1
      have g2:=hob.cells 2
      have g3:=hob.cells 3
      go_wp2_with fail
      (repeat' (with_reducible first|assumption|apply Er|apply Ea|apply Ed|apply En|(refine Es ?_ (by first|(simp<;>omega)|omega) _)|refine Et ?_ (by assumption)))
     ·show wpList _ _ _ [_,_,_] _ _
      dsimp only
      rw [f3,f4,e6]
      clear f3 f4 e6
      generalize v 0=z0
      generalize v 1=z1
      generalize v 2=z2
      generalize v 5=z5
      have g0:=hob.cells 0
      have g1:=hob.cells 1
      have g2:=hob.cells 2
      have g3:=hob.cells 3
      go_wp2_with fail
      (repeat' (with_reducible first|assumption|apply Er|apply Ea|apply Ed|apply En|(refine Es ?_ (by first|(simp<;>omega)|omega) _)|refine Et ?_ (by assumption)))
   case imp=>
    rintro e a' W2 ⟨rfl,⟨ob,z0,z1,z2,z3,z4,z5,rfl⟩,hb2⟩
    go_upto_region 14 with (fail)
    refine wp_abs (F:=fun U=>Sets U [(b11,far),(b10,⟨[],4,2,[1]⟩),(b9,⟨[5,7],8,1,[]⟩),(b8,(ev 1 3)),(b7,(ev 2 3)),(b6,⟨[],0,6,[2,4]⟩),(b5,(ev 0 6)),(w.heap.size+1+1,odd),(w.heap.size+1+1+1+1,nine),(w.heap.size+1+1+1+1+1+1+1,zer)]∧Below w.heap.size w U) ⟨hS.below (by (repeat' (with_reducible first|assumption|apply Er|apply Ea|apply Ed|apply En|(refine Es ?_ (by first|(simp<;>omega)|omega) _)|refine Et ?_ (by assumption)))),by (repeat' (with_reducible first|assumption|apply Er|apply Ea|apply Ed|apply En|(refine Es ?_ (by first|(simp<;>omega)|omega) _)|refine Et ?_ (by assumption)))⟩ ?_
    clear hS hE hb2
    rintro W13 ⟨hS,hE⟩
    have hres:resL (ev 1 6) 4=[1,3]:=by decide
    have HRES:=Lib.hid hres
    clear hres
    go_upto_region 15 with (first|(go_at_call 39;(with_reducible refine (every_any 1 6 _ I1).mono ?_);rintro e uA ⟨hA_14,cA_14,rfl,sA,kA⟩)|(go_at_call 41;refine (Residues_ok hA_14 cA_14 (ev 1 6) 4 _ sA (ev_valid (by omega) (by omega) (by omega)) (by omega) (by omega)).mono ?_;rintro e uR ⟨rv,rfl,hrv,kR⟩;rw [HRES.out] at hrv))
    refine wp_abs (F:=fun U=>Sets U [(b11,far),(b10,⟨[],4,2,[1]⟩),(b9,⟨[5,7],8,1,[]⟩),(b8,(ev 1 3)),(b7,(ev 2 3)),(b6,⟨[],0,6,[2,4]⟩),(b5,(ev 0 6)),(w.heap.size+1+1,odd),(w.heap.size+1+1+1+1,nine),(w.heap.size+1+1+1+1+1+1+1,zer)]∧Ints U rv [1,3]∧Below w.heap.size w U) ⟨hS.below (by (repeat' (with_reducible first|assumption|apply Er|apply Ea|apply Ed|apply En|(refine Es ?_ (by first|(simp<;>omega)|omega) _)|refine Et ?_ (by assumption)))),hrv.ext (by (repeat' (with_reducible first|assumption|apply Er|apply Ea|apply Ed|apply En|(refine Es ?_ (by first|(simp<;>omega)|omega) _)|refine Et ?_ (by assumption)))),by (repeat' (with_reducible first|assumption|apply Er|apply Ea|apply Ed|apply En|(refine Es ?_ (by first|(simp<;>omega)|omega) _)|refine Et ?_ (by assumption)))⟩ ?_
    clear hS hE kA kR hrv sA
    rintro W14 ⟨hS,hI,hE⟩
    have HI:=Lib.hid hI
    clear hI
    refine wp_region_factsH (w0:=W14) [0,1,2,3,4,5,6,7,8,9,10,11,12,13,14,15,16,17,18,19,20,21,22,23,24,25,26,27,28,29,30] [31] (fun v=>⟨#[.bool false,.pointer (some ⟨w.heap.size+1+1,0,none⟩),.pointer (some ⟨w.heap.size+1+1+1+1,0,none⟩),.pointer (some ⟨w.heap.size+1+1+1+1+1+1+1,0,none⟩),.bool true,.pointer (some ⟨b5,0,none⟩),.int .i64 0,.pointer (some ⟨b6,0,none⟩),.int .i64 0,.pointer (some ⟨b7,0,none⟩),.int .i64 0,.pointer (some ⟨b8,0,none⟩),.int .i64 0,.pointer (some ⟨b9,0,none⟩),.int .i64 0,.pointer (some ⟨b10,0,none⟩),.int .i64 0,.pointer (some ⟨b11,0,none⟩),.int .i64 1649267441669,.bool true,.pointer (some ⟨ob,0,none⟩),.int .i64 2,rv,.int .i64 0,undef,.slice (some ⟨w.heap.size,0,none⟩) 2 2,.slice (some ⟨w.heap.size+1,0,none⟩) 2 2,.agg #[.slice (some ⟨w.heap.size,0,none⟩) 2 2,.int .i64 4,.int .i64 4,.slice (some ⟨w.heap.size+1,0,none⟩) 2 2],.slice (some ⟨w.heap.size+1+1+1,0,none⟩) 2 2,.agg #[.slice (some ⟨w.heap.size+1+1+1,0,none⟩) 2 2,.int .i64 30,.int .i64 3,.slice none 0 0],.slice (some ⟨w.heap.size+1+1+1+1+1,0,none⟩) 1 1,.slice (some ⟨w.heap.size+1+1+1+1+1+1,0,none⟩) 1 1,.agg #[.slice (some ⟨w.heap.size+1+1+1+1+1,0,none⟩) 1 1,.int .i64 1,.int .i64 3,.slice (some ⟨w.heap.size+1+1+1+1+1+1,0,none⟩) 1 1],x0,x1,x2,x3,x4,x5,x6,x7,x8,x9,x10,x11,x12,x13,x14,x15,x16,x17,.bool true,.tuple #[perV (.slice x1_5 0 y1_5) (.slice x2_5 1 y2_5) 0 6,.int .i64 0],perV hA_5 cA_5 0 2,perV hB_5 cB_5 0 3,.tuple #[perV (.slice x1_5 0 y1_5) (.slice x2_5 1 y2_5) 0 6,.int .i64 0],perV (.slice x1_5 0 y1_5) (.slice x2_5 1 y2_5) 0 6,.int .i64 0,.tuple #[perV (.slice x1_6 0 y1_6) (.slice x2_6 2 y2_6) 0 6,.int .i64 0],perV hA_6 cA_6 0 2,perV hB_6 cB_6 0 3,.tuple #[perV (.slice x1_6 0 y1_6) (.slice x2_6 2 y2_6) 0 6,.int .i64 0],perV (.slice x1_6 0 y1_6) (.slice x2_6 2 y2_6) 0 6,.int .i64 0,.tuple #[perV (.slice x1_7 0 y1_7) (.slice x2_7 1 y2_7) 0 3,.int .i64 0],perV hA_7 cA_7 0 3,.tuple #[perV (.slice x1_7 0 y1_7) (.slice x2_7 1 y2_7) 0 3,.int .i64 0],perV (.slice x1_7 0 y1_7) (.slice x2_7 1 y2_7) 0 3,.int .i64 0,.tuple #[perV (.slice x1_8 0 y1_8) (.slice x2_8 1 y2_8) 0 3,.int .i64 0],.agg #[hL_8,.int .i64 0,.int .i64 3,cL_8],.tuple #[perV (.slice x1_8 0 y1_8) (.slice x2_8 1 y2_8) 0 3,.int .i64 0],perV (.slice x1_8 0 y1_8) (.slice x2_8 1 y2_8) 0 3,.int .i64 0,.tuple #[perV (.slice x1_9 2 y1_9) (.slice x2_9 0 y2_9) 8 1,.int .i64 0],.agg #[hL_9,.int .i64 4,.int .i64 4,cL_9],.tuple #[perV (.slice x1_9 2 y1_9) (.slice x2_9 0 y2_9) 8 1,.int .i64 0],perV (.slice x1_9 2 y1_9) (.slice x2_9 0 y2_9) 8 1,.int .i64 0,.tuple #[perV (.slice x1_10 0 y1_10) (.slice x2_10 1 y2_10) 4 2,.int .i64 0],.agg #[hL_10,.int .i64 4,.int .i64 4,cL_10],.tuple #[perV (.slice x1_10 0 y1_10) (.slice x2_10 1 y2_10) 4 2,.int .i64 0],perV (.slice x1_10 0 y1_10) (.slice x2_10 1 y2_10) 4 2,.int .i64 0,.slice (some ⟨W10.heap.size,0,none⟩) 1 1,.agg #[.slice none 0 0,.int .i64 0,.int .i64 549755813888,.slice (some ⟨W10.heap.size,0,none⟩) 1 1],y3,y0,y1,y2,y4,.bool true,z3,z0,z1,z2,z4,z5,.tuple #[rv,.int .i64 0],perV hA_14 cA_14 0 6,.tuple #[rv,.int .i64 0],rv,.int .i64 0,v 0,v 1,v 2,v 3,v 4,v 5,v 6,v 7,v 8,v 9,v 10,v 11,v 12,v 13,v 14,v 15,v 16,v 17,v 18,v 19,v 20,v 21,v 22,v 23,v 24,v 25,v 26,v 27,v 28,v 29,v 30,undef,undef,undef,undef,undef,undef,undef,undef,undef,undef,undef,undef,undef,undef,undef,undef,undef,undef,undef,undef,undef,undef,undef,undef,undef,undef,undef,undef,undef,undef,undef,undef,undef,undef,undef,undef,undef,undef,undef,undef,undef,undef,undef,undef,undef,undef,undef,undef,undef,undef,undef,undef,undef],[]⟩) (fun _=>undef)
     (fun i v lo hi W=>match i with
      | 0=>SetV W (v 0) (ev 0 6)
      | 1=>SetV W (v 1) (ev 0 6)
      | 2=>v 2=.bool true
      | 3=>v 3=.bool true
      | 4=>SetV W (v 4) ⟨[],0,6,[2,4]⟩
      | 5=>(∃ a,v 5=.slice a 2 2∧Ints W (.slice a 2 2) [2,4])
      | 6=>SetV W (v 6) ⟨[],0,6,[2,4]⟩
      | 7=>v 7=.bool true
      | 8=>v 8=.bool true
      | 9=>v 9=.bool true
      | 10=>SetV W (v 10) (ev 2 3)
      | 11=>SetV W (v 11) (ev 2 3)
      | 12=>v 12=.bool true
      | 13=>v 13=.bool true
      | 14=>v 14=.bool true
      | 15=>SetV W (v 15) (ev 1 3)
      | 16=>SetV W (v 16) (ev 1 3)
      | 17=>v 17=.bool true
      | 18=>v 18=.bool true
      | 19=>v 19=.bool true
      | 20=>SetV W (v 20) ⟨[5,7],8,1,[]⟩
      | 21=>(∃ a,v 21=.slice a 2 2∧Ints W (.slice a 2 2) [5,7])
      | 22=>SetV W (v 22) ⟨[5,7],8,1,[]⟩
      | 23=>v 23=.bool true
      | 24=>v 24=.bool true
      | 25=>v 25=.bool true
      | 26=>SetV W (v 26) ⟨[],4,2,[1]⟩
      | 27=>(∃ a,v 27=.slice a 1 1∧Ints W (.slice a 1 1) [1])
      | 28=>SetV W (v 28) ⟨[],4,2,[1]⟩
      | 29=>v 29=.bool true
      | 30=>v 30=.bool true
      | _=>True)
     (fun W=>Sets W [(b11,far),(b10,⟨[],4,2,[1]⟩),(b9,⟨[5,7],8,1,[]⟩),(b8,(ev 1 3)),(b7,(ev 2 3)),(b6,⟨[],0,6,[2,4]⟩),(b5,(ev 0 6)),(w.heap.size+1+1,odd),(w.heap.size+1+1+1+1,nine),(w.heap.size+1+1+1+1+1+1+1,zer)]) rfl (by kernel_rfl) (by decide) rfl ?stab ?loc (fun W hb=>hS.below hb) ?steps ?fin
    case stab=>
     rintro (_|_|_|_|_|_|_|_|_|_|_|_|_|_|_|_|_|_|_|_|_|_|_|_|_|_|_|_|_|_|_|i) v lo hi W W' h hb
     ·exact h.below hb
     ·exact h.below hb
     ·exact h
     ·exact h
     ·exact h.below hb
     ·exact (by obtain ⟨a,e,s⟩:=h;exact ⟨a,e,s.ext hb⟩)
     ·exact h.below hb
     ·exact h
     ·exact h
     ·exact h
     ·exact h.below hb
     ·exact h.below hb
     ·exact h
     ·exact h
     ·exact h
     ·exact h.below hb
     ·exact h.below hb
     ·exact h
     ·exact h
     ·exact h
     ·exact h.below hb
     ·exact (by obtain ⟨a,e,s⟩:=h;exact ⟨a,e,s.ext hb⟩)
     ·exact h.below hb
     ·exact h
     ·exact h
     ·exact h
     ·exact h.below hb
     ·exact (by obtain ⟨a,e,s⟩:=h;exact ⟨a,e,s.ext hb⟩)
     ·exact h.below hb
     ·exact h
     ·exact h
     ·trivial
    case loc=>
     rintro (_|_|_|_|_|_|_|_|_|_|_|_|_|_|_|_|_|_|_|_|_|_|_|_|_|_|_|_|_|_|_|i) v v' lo lo' hi hi' W hag h
     ·have q:=hag 0 (.inl rfl)
      (try dsimp only at h ⊢);(try simp only [q.1,q.2.1,q.2.2] at h);exact h
     ·have q:=hag 1 (.inl rfl)
      (try dsimp only at h ⊢);(try simp only [q.1,q.2.1,q.2.2] at h);exact h
     ·have q:=hag 2 (.inl rfl)
      have q0:=hag 0 (.inr (Rdp (by kernel_rfl)))
      have q1:=hag 1 (.inr (Rdp (by kernel_rfl)))
      (try dsimp only at h ⊢);(try simp only [q.1,q.2.1,q.2.2,q0.1,q0.2.1,q0.2.2,q1.1,q1.2.1,q1.2.2] at h);exact h
     ·have q:=hag 3 (.inl rfl)
      have q2:=hag 2 (.inr (Rdp (by kernel_rfl)))
      (try dsimp only at h ⊢);(try simp only [q.1,q.2.1,q.2.2,q2.1,q2.2.1,q2.2.2] at h);exact h
     ·have q:=hag 4 (.inl rfl)
      have q3:=hag 3 (.inr (Rdp (by kernel_rfl)))
      (try dsimp only at h ⊢);(try simp only [q.1,q.2.1,q.2.2,q3.1,q3.2.1,q3.2.2] at h);exact h
     ·have q:=hag 5 (.inl rfl)
      have q3:=hag 3 (.inr (Rdp (by kernel_rfl)))
      (try dsimp only at h ⊢);(try simp only [q.1,q.2.1,q.2.2,q3.1,q3.2.1,q3.2.2] at h);exact h
     ·have q:=hag 6 (.inl rfl)
      have q3:=hag 3 (.inr (Rdp (by kernel_rfl)))
      have q5:=hag 5 (.inr (Rdp (by kernel_rfl)))
      (try dsimp only at h ⊢);(try simp only [q.1,q.2.1,q.2.2,q3.1,q3.2.1,q3.2.2,q5.1,q5.2.1,q5.2.2] at h);exact h
     ·have q:=hag 7 (.inl rfl)
      have q3:=hag 3 (.inr (Rdp (by kernel_rfl)))
      have q4:=hag 4 (.inr (Rdp (by kernel_rfl)))
      have q6:=hag 6 (.inr (Rdp (by kernel_rfl)))
      (try dsimp only at h ⊢);(try simp only [q.1,q.2.1,q.2.2,q3.1,q3.2.1,q3.2.2,q4.1,q4.2.1,q4.2.2,q6.1,q6.2.1,q6.2.2] at h);exact h
     ·have q:=hag 8 (.inl rfl)
      have q3:=hag 3 (.inr (Rdp (by kernel_rfl)))
      have q7:=hag 7 (.inr (Rdp (by kernel_rfl)))
      (try dsimp only at h ⊢);(try simp only [q.1,q.2.1,q.2.2,q3.1,q3.2.1,q3.2.2,q7.1,q7.2.1,q7.2.2] at h);exact h
     ·have q:=hag 9 (.inl rfl)
      have q7:=hag 7 (.inr (Rdp (by kernel_rfl)))
      have q8:=hag 8 (.inr (Rdp (by kernel_rfl)))
      (try dsimp only at h ⊢);(try simp only [q.1,q.2.1,q.2.2,q7.1,q7.2.1,q7.2.2,q8.1,q8.2.1,q8.2.2] at h);exact h
     ·have q:=hag 10 (.inl rfl)
      have q9:=hag 9 (.inr (Rdp (by kernel_rfl)))
      (try dsimp only at h ⊢);(try simp only [q.1,q.2.1,q.2.2,q9.1,q9.2.1,q9.2.2] at h);exact h
     ·have q:=hag 11 (.inl rfl)
      have q9:=hag 9 (.inr (Rdp (by kernel_rfl)))
      (try dsimp only at h ⊢);(try simp only [q.1,q.2.1,q.2.2,q9.1,q9.2.1,q9.2.2] at h);exact h
     ·have q:=hag 12 (.inl rfl)
      have q9:=hag 9 (.inr (Rdp (by kernel_rfl)))
      have q10:=hag 10 (.inr (Rdp (by kernel_rfl)))
      have q11:=hag 11 (.inr (Rdp (by kernel_rfl)))
      (try dsimp only at h ⊢);(try simp only [q.1,q.2.1,q.2.2,q9.1,q9.2.1,q9.2.2,q10.1,q10.2.1,q10.2.2,q11.1,q11.2.1,q11.2.2] at h);exact h
     ·have q:=hag 13 (.inl rfl)
      have q9:=hag 9 (.inr (Rdp (by kernel_rfl)))
      have q12:=hag 12 (.inr (Rdp (by kernel_rfl)))
      (try dsimp only at h ⊢);(try simp only [q.1,q.2.1,q.2.2,q9.1,q9.2.1,q9.2.2,q12.1,q12.2.1,q12.2.2] at h);exact h
     ·have q:=hag 14 (.inl rfl)
      have q12:=hag 12 (.inr (Rdp (by kernel_rfl)))
      have q13:=hag 13 (.inr (Rdp (by kernel_rfl)))
      (try dsimp only at h ⊢);(try simp only [q.1,q.2.1,q.2.2,q12.1,q12.2.1,q12.2.2,q13.1,q13.2.1,q13.2.2] at h);exact h
     ·have q:=hag 15 (.inl rfl)
      have q14:=hag 14 (.inr (Rdp (by kernel_rfl)))
      (try dsimp only at h ⊢);(try simp only [q.1,q.2.1,q.2.2,q14.1,q14.2.1,q14.2.2] at h);exact h
     ·have q:=hag 16 (.inl rfl)
      have q14:=hag 14 (.inr (Rdp (by kernel_rfl)))
      (try dsimp only at h ⊢);(try simp only [q.1,q.2.1,q.2.2,q14.1,q14.2.1,q14.2.2] at h);exact h
     ·have q:=hag 17 (.inl rfl)
      have q14:=hag 14 (.inr (Rdp (by kernel_rfl)))
      have q15:=hag 15 (.inr (Rdp (by kernel_rfl)))
      have q16:=hag 16 (.inr (Rdp (by kernel_rfl)))
      (try dsimp only at h ⊢);(try simp only [q.1,q.2.1,q.2.2,q14.1,q14.2.1,q14.2.2,q15.1,q15.2.1,q15.2.2,q16.1,q16.2.1,q16.2.2] at h);exact h
     ·have q:=hag 18 (.inl rfl)
      have q14:=hag 14 (.inr (Rdp (by kernel_rfl)))
      have q17:=hag 17 (.inr (Rdp (by kernel_rfl)))
      (try dsimp only at h ⊢);(try simp only [q.1,q.2.1,q.2.2,q14.1,q14.2.1,q14.2.2,q17.1,q17.2.1,q17.2.2] at h);exact h
     ·have q:=hag 19 (.inl rfl)
      have q17:=hag 17 (.inr (Rdp (by kernel_rfl)))
      have q18:=hag 18 (.inr (Rdp (by kernel_rfl)))
      (try dsimp only at h ⊢);(try simp only [q.1,q.2.1,q.2.2,q17.1,q17.2.1,q17.2.2,q18.1,q18.2.1,q18.2.2] at h);exact h
     ·have q:=hag 20 (.inl rfl)
      have q19:=hag 19 (.inr (Rdp (by kernel_rfl)))
      (try dsimp only at h ⊢);(try simp only [q.1,q.2.1,q.2.2,q19.1,q19.2.1,q19.2.2] at h);exact h
     ·have q:=hag 21 (.inl rfl)
      have q19:=hag 19 (.inr (Rdp (by kernel_rfl)))
      (try dsimp only at h ⊢);(try simp only [q.1,q.2.1,q.2.2,q19.1,q19.2.1,q19.2.2] at h);exact h
     ·have q:=hag 22 (.inl rfl)
      have q19:=hag 19 (.inr (Rdp (by kernel_rfl)))
      have q21:=hag 21 (.inr (Rdp (by kernel_rfl)))
      (try dsimp only at h ⊢);(try simp only [q.1,q.2.1,q.2.2,q19.1,q19.2.1,q19.2.2,q21.1,q21.2.1,q21.2.2] at h);exact h
     ·have q:=hag 23 (.inl rfl)
      have q19:=hag 19 (.inr (Rdp (by kernel_rfl)))
      have q20:=hag 20 (.inr (Rdp (by kernel_rfl)))
      have q22:=hag 22 (.inr (Rdp (by kernel_rfl)))
      (try dsimp only at h ⊢);(try simp only [q.1,q.2.1,q.2.2,q19.1,q19.2.1,q19.2.2,q20.1,q20.2.1,q20.2.2,q22.1,q22.2.1,q22.2.2] at h);exact h
     ·have q:=hag 24 (.inl rfl)
      have q19:=hag 19 (.inr (Rdp (by kernel_rfl)))
      have q23:=hag 23 (.inr (Rdp (by kernel_rfl)))
      (try dsimp only at h ⊢);(try simp only [q.1,q.2.1,q.2.2,q19.1,q19.2.1,q19.2.2,q23.1,q23.2.1,q23.2.2] at h);exact h
     ·have q:=hag 25 (.inl rfl)
      have q23:=hag 23 (.inr (Rdp (by kernel_rfl)))
      have q24:=hag 24 (.inr (Rdp (by kernel_rfl)))
      (try dsimp only at h ⊢);(try simp only [q.1,q.2.1,q.2.2,q23.1,q23.2.1,q23.2.2,q24.1,q24.2.1,q24.2.2] at h);exact h
     ·have q:=hag 26 (.inl rfl)
      have q25:=hag 25 (.inr (Rdp (by kernel_rfl)))
      (try dsimp only at h ⊢);(try simp only [q.1,q.2.1,q.2.2,q25.1,q25.2.1,q25.2.2] at h);exact h
     ·have q:=hag 27 (.inl rfl)
      have q25:=hag 25 (.inr (Rdp (by kernel_rfl)))
      (try dsimp only at h ⊢);(try simp only [q.1,q.2.1,q.2.2,q25.1,q25.2.1,q25.2.2] at h);exact h
     ·have q:=hag 28 (.inl rfl)
      have q25:=hag 25 (.inr (Rdp (by kernel_rfl)))
      have q27:=hag 27 (.inr (Rdp (by kernel_rfl)))
      (try dsimp only at h ⊢);(try simp only [q.1,q.2.1,q.2.2,q25.1,q25.2.1,q25.2.2,q27.1,q27.2.1,q27.2.2] at h);exact h
     ·have q:=hag 29 (.inl rfl)
      have q25:=hag 25 (.inr (Rdp (by kernel_rfl)))
      have q26:=hag 26 (.inr (Rdp (by kernel_rfl)))
      have q28:=hag 28 (.inr (Rdp (by kernel_rfl)))
      (try dsimp only at h ⊢);(try simp only [q.1,q.2.1,q.2.2,q25.1,q25.2.1,q25.2.2,q26.1,q26.2.1,q26.2.2,q28.1,q28.2.1,q28.2.2] at h);exact h
     ·have q:=hag 30 (.inl rfl)
      have q25:=hag 25 (.inr (Rdp (by kernel_rfl)))
      have q29:=hag 29 (.inr (Rdp (by kernel_rfl)))
      (try dsimp only at h ⊢);(try simp only [q.1,q.2.1,q.2.2,q25.1,q25.2.1,q25.2.2,q29.1,q29.2.1,q29.2.2] at h);exact h
     ·trivial
    case steps=>
     refine StepsH.cons rfl ?_ (StepsH.cons rfl ?_ (StepsH.cons rfl ?_ (StepsH.cons rfl ?_ (StepsH.cons rfl ?_ (StepsH.cons rfl ?_ (StepsH.cons rfl ?_ (StepsH.cons rfl ?_ (StepsH.cons rfl ?_ (StepsH.cons rfl ?_ (StepsH.cons rfl ?_ (StepsH.cons rfl ?_ (StepsH.cons rfl ?_ (StepsH.cons rfl ?_ (StepsH.cons rfl ?_ (StepsH.cons rfl ?_ (StepsH.cons rfl ?_ (StepsH.cons rfl ?_ (StepsH.cons rfl ?_ (StepsH.cons rfl ?_ (StepsH.cons rfl ?_ (StepsH.cons rfl ?_ (StepsH.cons rfl ?_ (StepsH.cons rfl ?_ (StepsH.cons rfl ?_ (StepsH.cons rfl ?_ (StepsH.cons rfl ?_ (StepsH.cons rfl ?_ (StepsH.cons rfl ?_ (StepsH.cons rfl ?_ (StepsH.cons rfl ?_ StepsH.nil))))))))))))))))))))))))))))))
     ·rintro v lo hi W hb hS hd
      clear hd
      refine ⟨rfl,?_⟩
      intro K hK
      dsimp only
      obtain ⟨h,c,g⟩:=hS.at 6 rfl
      have q0:=(g.box.cells 0).1
      have q1:=(g.box.cells 1).1
      have q2:=(g.box.cells 2).1
      have q3:=(g.box.cells 3).1
      go_wp2_with fail
      exact acx (hK (perV h c ((ev 0 6):Per).frm ((ev 0 6):Per).period) W (Below.refl _ _) ⟨h,c,rfl,g.is⟩) (by simp [ite_true])
     ·rintro v lo hi W hb hS hd
      clear hd
      refine ⟨rfl,?_⟩
      intro K hK
      dsimp only
      go_wp2_with (go_at_call 39;refine (every_any _ _ _ ⟨by omega,by omega⟩).mono ?_;rintro e w9 ⟨h,c,rfl,hs,hb9⟩)
      exact acx (hK (perV h c 0 6) w9 hb9 ⟨h,c,rfl,hs⟩) (by simp [ite_true])
     ·rintro v lo hi W hb hS hd
      obtain ⟨la0,lb0,D0⟩:=hd 0 (Rdp (by kernel_rfl))
      obtain ⟨la1,lb1,D1⟩:=hd 1 (Rdp (by kernel_rfl))
      clear hd
      refine ⟨rfl,?_⟩
      intro K hK
      dsimp only
      obtain ⟨h0,c0,e0,s0⟩:=D0
      obtain ⟨h1,c1,e1,s1⟩:=D1
      simp only [e0,e1]
      go_wp2_with (go_at_call 14;refine (Equal_any h0 c0 h1 c1 (ev 0 6) (ev 0 6) _ s0 s1).mono ?_;rintro e w9 ⟨he,hb9⟩;rw [decide_eq_true rfl] at he;subst he)
      exact acx (hK (.bool true) w9 hb9 rfl) (by simp [ite_true,e0,e1])
     ·rintro v lo hi W hb hS hd
      have e2:v 2=.bool true:=(hd 2 (Rdp (by kernel_rfl))).2.2
      clear hd
      refine ⟨rfl,?_⟩
      intro K hK
      dsimp only
      (try simp only [e2])
      go_wp2_with fail
      exact acx (hK (.bool true) W (Below.refl _ _) rfl) (by simp [e2])
     ·rintro v lo hi W hb hS hd
      have e3:v 3=.bool true:=(hd 3 (Rdp (by kernel_rfl))).2.2
      clear hd
      refine ⟨(by show (match some (v 3) with|some (Value.bool b)=>some b|_=>none) == some true;rw [e3];rfl),?_⟩
      intro K hK
      dsimp only
      (try simp only [e3])
      obtain ⟨h,c,g⟩:=hS.at 5 rfl
      have q0:=(g.box.cells 0).1
      have q1:=(g.box.cells 1).1
      have q2:=(g.box.cells 2).1
      have q3:=(g.box.cells 3).1
      go_wp2_with fail
      exact acx (hK (perV h c (⟨[],0,6,[2,4]⟩:Per).frm (⟨[],0,6,[2,4]⟩:Per).period) W (Below.refl _ _) ⟨h,c,rfl,g.is⟩) (by simp [e3])
     ·rintro v lo hi W hb hS hd
      have e3:v 3=.bool true:=(hd 3 (Rdp (by kernel_rfl))).2.2
      clear hd
      refine ⟨(by show (match some (v 3) with|some (Value.bool b)=>some b|_=>none) == some true;rw [e3];rfl),?_⟩
      intro K hK
      dsimp only
      (try simp only [e3])
      go_wp2_with fail
      exact acx (hK (.slice (some ⟨W.heap.size,0,none⟩) 2 2) _ (Ea (Er _) _) ⟨_,rfl,Ints.lit' (l:=[2,4]) (Bxx.at rfl) (by decide) (by decide)⟩) (by simp [e3])
     ·rintro v lo hi W hb hS hd
      have e3:v 3=.bool true:=(hd 3 (Rdp (by kernel_rfl))).2.2
      obtain ⟨la5,lb5,D5⟩:=hd 5 (Rdp (by kernel_rfl))
      clear hd
      refine ⟨(by show (match some (v 3) with|some (Value.bool b)=>some b|_=>none) == some true;rw [e3];rfl),?_⟩
      intro K hK
      dsimp only
      (try simp only [e3])
      obtain ⟨a,e0,s0⟩:=D5
      simp only [e0]
      go_wp2_with fail
      exact acx (hK (perV (.slice none 0 0) (.slice a 2 2) 0 6) W (Below.refl _ _) ⟨_,_,rfl,Ints.nil _,s0⟩) (by simp [e3,e0])
     ·rintro v lo hi W hb hS hd
      have e3:v 3=.bool true:=(hd 3 (Rdp (by kernel_rfl))).2.2
      obtain ⟨la4,lb4,D4⟩:=hd 4 (Rdp (by kernel_rfl))
      obtain ⟨la6,lb6,D6⟩:=hd 6 (Rdp (by kernel_rfl))
      clear hd
      refine ⟨(by show (match some (v 3) with|some (Value.bool b)=>some b|_=>none) == some true;rw [e3];rfl),?_⟩
      intro K hK
      dsimp only
      (try simp only [e3])
      obtain ⟨h0,c0,e0,s0⟩:=D4
      obtain ⟨h1,c1,e1,s1⟩:=D6
      simp only [e0,e1]
      go_wp2_with (go_at_call 14;refine (Equal_any h0 c0 h1 c1 ⟨[],0,6,[2,4]⟩ ⟨[],0,6,[2,4]⟩ _ s0 s1).mono ?_;rintro e w9 ⟨he,hb9⟩;rw [decide_eq_true rfl] at he;subst he)
      exact acx (hK (.bool true) w9 hb9 rfl) (by simp [e3,e0,e1])
     ·rintro v lo hi W hb hS hd
      have e3:v 3=.bool true:=(hd 3 (Rdp (by kernel_rfl))).2.2
      have e7:v 7=.bool true:=(hd 7 (Rdp (by kernel_rfl))).2.2
      clear hd
      refine ⟨rfl,?_⟩
      intro K hK
      dsimp only
      (try simp only [e3,e7])
      go_wp2_with fail
      exact acx (hK (.bool true) W (Below.refl _ _) rfl) (by simp [e3,e7])
     ·rintro v lo hi W hb hS hd
      have e7:v 7=.bool true:=(hd 7 (Rdp (by kernel_rfl))).2.2
      have e8:v 8=.bool true:=(hd 8 (Rdp (by kernel_rfl))).2.2
      clear hd
      refine ⟨rfl,?_⟩
      intro K hK
      dsimp only
      (try simp only [e7,e8])
      go_wp2_with fail
      exact acx (hK (.bool true) W (Below.refl _ _) rfl) (by simp [e7,e8])
     ·rintro v lo hi W hb hS hd
      have e9:v 9=.bool true:=(hd 9 (Rdp (by kernel_rfl))).2.2
      clear hd
      refine ⟨(by show (match some (v 9) with|some (Value.bool b)=>some b|_=>none) == some true;rw [e9];rfl),?_⟩
      intro K hK
      dsimp only
      (try simp only [e9])
      obtain ⟨h,c,g⟩:=hS.at 4 rfl
      have q0:=(g.box.cells 0).1
      have q1:=(g.box.cells 1).1
      have q2:=(g.box.cells 2).1
      have q3:=(g.box.cells 3).1
      go_wp2_with fail
      exact acx (hK (perV h c ((ev 2 3):Per).frm ((ev 2 3):Per).period) W (Below.refl _ _) ⟨h,c,rfl,g.is⟩) (by simp [e9])
     ·rintro v lo hi W hb hS hd
      have e9:v 9=.bool true:=(hd 9 (Rdp (by kernel_rfl))).2.2
      clear hd
      refine ⟨(by show (match some (v 9) with|some (Value.bool b)=>some b|_=>none) == some true;rw [e9];rfl),?_⟩
      intro K hK
      dsimp only
      (try simp only [e9])
      go_wp2_with (go_at_call 39;refine (every_any _ _ _ ⟨by omega,by omega⟩).mono ?_;rintro e w9 ⟨h,c,rfl,hs,hb9⟩)
      exact acx (hK (perV h c 0 3) w9 hb9 ⟨h,c,rfl,hs⟩) (by simp [e9])
     ·rintro v lo hi W hb hS hd
      have e9:v 9=.bool true:=(hd 9 (Rdp (by kernel_rfl))).2.2
      obtain ⟨la10,lb10,D10⟩:=hd 10 (Rdp (by kernel_rfl))
      obtain ⟨la11,lb11,D11⟩:=hd 11 (Rdp (by kernel_rfl))
      clear hd
      refine ⟨(by show (match some (v 9) with|some (Value.bool b)=>some b|_=>none) == some true;rw [e9];rfl),?_⟩
      intro K hK
      dsimp only
      (try simp only [e9])
      obtain ⟨h0,c0,e0,s0⟩:=D10
      obtain ⟨h1,c1,e1,s1⟩:=D11
      simp only [e0,e1]
      go_wp2_with (go_at_call 14;refine (Equal_any h0 c0 h1 c1 (ev 2 3) (ev 2 3) _ s0 s1).mono ?_;rintro e w9 ⟨he,hb9⟩;rw [decide_eq_true rfl] at he;subst he)
      exact acx (hK (.bool true) w9 hb9 rfl) (by simp [e9,e0,e1])
     ·rintro v lo hi W hb hS hd
      have e9:v 9=.bool true:=(hd 9 (Rdp (by kernel_rfl))).2.2
      have e12:v 12=.bool true:=(hd 12 (Rdp (by kernel_rfl))).2.2
      clear hd
      refine ⟨rfl,?_⟩
      intro K hK
      dsimp only
      (try simp only [e9,e12])
      go_wp2_with fail
      exact acx (hK (.bool true) W (Below.refl _ _) rfl) (by simp [e9,e12])
     ·rintro v lo hi W hb hS hd
      have e12:v 12=.bool true:=(hd 12 (Rdp (by kernel_rfl))).2.2
      have e13:v 13=.bool true:=(hd 13 (Rdp (by kernel_rfl))).2.2
      clear hd
      refine ⟨rfl,?_⟩
      intro K hK
      dsimp only
      (try simp only [e12,e13])
      go_wp2_with fail
      exact acx (hK (.bool true) W (Below.refl _ _) rfl) (by simp [e12,e13])
     ·rintro v lo hi W hb hS hd
      have e14:v 14=.bool true:=(hd 14 (Rdp (by kernel_rfl))).2.2
      clear hd
      refine ⟨(by show (match some (v 14) with|some (Value.bool b)=>some b|_=>none) == some true;rw [e14];rfl),?_⟩
      intro K hK
      dsimp only
      (try simp only [e14])
      obtain ⟨h,c,g⟩:=hS.at 3 rfl
      have q0:=(g.box.cells 0).1
      have q1:=(g.box.cells 1).1
      have q2:=(g.box.cells 2).1
      have q3:=(g.box.cells 3).1
      go_wp2_with fail
      exact acx (hK (perV h c ((ev 1 3):Per).frm ((ev 1 3):Per).period) W (Below.refl _ _) ⟨h,c,rfl,g.is⟩) (by simp [e14])
     ·rintro v lo hi W hb hS hd
      have e14:v 14=.bool true:=(hd 14 (Rdp (by kernel_rfl))).2.2
      clear hd
      refine ⟨(by show (match some (v 14) with|some (Value.bool b)=>some b|_=>none) == some true;rw [e14];rfl),?_⟩
      intro K hK
      dsimp only
      (try simp only [e14])
      go_wp2_with (go_at_call 39;refine (every_any _ _ _ ⟨by omega,by omega⟩).mono ?_;rintro e w9 ⟨h,c,rfl,hs,hb9⟩)
      exact acx (hK (perV h c 0 3) w9 hb9 ⟨h,c,rfl,hs⟩) (by simp [e14])
     ·rintro v lo hi W hb hS hd
      have e14:v 14=.bool true:=(hd 14 (Rdp (by kernel_rfl))).2.2
      obtain ⟨la15,lb15,D15⟩:=hd 15 (Rdp (by kernel_rfl))
      obtain ⟨la16,lb16,D16⟩:=hd 16 (Rdp (by kernel_rfl))
      clear hd
      refine ⟨(by show (match some (v 14) with|some (Value.bool b)=>some b|_=>none) == some true;rw [e14];rfl),?_⟩
      intro K hK
      dsimp only
      (try simp only [e14])
      obtain ⟨h0,c0,e0,s0⟩:=D15
      obtain ⟨h1,c1,e1,s1⟩:=D16
      simp only [e0,e1]
      go_wp2_with (go_at_call 14;refine (Equal_any h0 c0 h1 c1 (ev 1 3) (ev 1 3) _ s0 s1).mono ?_;rintro e w9 ⟨he,hb9⟩;rw [decide_eq_true rfl] at he;subst he)
      exact acx (hK (.bool true) w9 hb9 rfl) (by simp [e14,e0,e1])
     ·rintro v lo hi W hb hS hd
      have e14:v 14=.bool true:=(hd 14 (Rdp (by kernel_rfl))).2.2
      have e17:v 17=.bool true:=(hd 17 (Rdp (by kernel_rfl))).2.2
      clear hd
      refine ⟨rfl,?_⟩
      intro K hK
      dsimp only
      (try simp only [e14,e17])
      go_wp2_with fail
      exact acx (hK (.bool true) W (Below.refl _ _) rfl) (by simp [e14,e17])
     ·rintro v lo hi W hb hS hd
      have e17:v 17=.bool true:=(hd 17 (Rdp (by kernel_rfl))).2.2
      have e18:v 18=.bool true:=(hd 18 (Rdp (by kernel_rfl))).2.2
      clear hd
      refine ⟨rfl,?_⟩
      intro K hK
      dsimp only
      (try simp only [e17,e18])
      go_wp2_with fail
      exact acx (hK (.bool true) W (Below.refl _ _) rfl) (by simp [e17,e18])
     ·rintro v lo hi W hb hS hd
      have e19:v 19=.bool true:=(hd 19 (Rdp (by kernel_rfl))).2.2
      clear hd
      refine ⟨(by show (match some (v 19) with|some (Value.bool b)=>some b|_=>none) == some true;rw [e19];rfl),?_⟩
      intro K hK
      dsimp only
      (try simp only [e19])
      obtain ⟨h,c,g⟩:=hS.at 2 rfl
      have q0:=(g.box.cells 0).1
      have q1:=(g.box.cells 1).1
      have q2:=(g.box.cells 2).1
      have q3:=(g.box.cells 3).1
      go_wp2_with fail
      exact acx (hK (perV h c (⟨[5,7],8,1,[]⟩:Per).frm (⟨[5,7],8,1,[]⟩:Per).period) W (Below.refl _ _) ⟨h,c,rfl,g.is⟩) (by simp [e19])
     ·rintro v lo hi W hb hS hd
      have e19:v 19=.bool true:=(hd 19 (Rdp (by kernel_rfl))).2.2
      clear hd
      refine ⟨(by show (match some (v 19) with|some (Value.bool b)=>some b|_=>none) == some true;rw [e19];rfl),?_⟩
      intro K hK
      dsimp only
      (try simp only [e19])
      go_wp2_with fail
      exact acx (hK (.slice (some ⟨W.heap.size,0,none⟩) 2 2) _ (Ea (Er _) _) ⟨_,rfl,Ints.lit' (l:=[5,7]) (Bxx.at rfl) (by decide) (by decide)⟩) (by simp [e19])
     ·rintro v lo hi W hb hS hd
      have e19:v 19=.bool true:=(hd 19 (Rdp (by kernel_rfl))).2.2
      obtain ⟨la21,lb21,D21⟩:=hd 21 (Rdp (by kernel_rfl))
      clear hd
      refine ⟨(by show (match some (v 19) with|some (Value.bool b)=>some b|_=>none) == some true;rw [e19];rfl),?_⟩
      intro K hK
      dsimp only
      (try simp only [e19])
      obtain ⟨a,e0,s0⟩:=D21
      simp only [e0]
      go_wp2_with fail
      exact acx (hK (perV (.slice a 2 2) (.slice none 0 0) 8 1) W (Below.refl _ _) ⟨_,_,rfl,s0,Ints.nil _⟩) (by simp [e19,e0])
     ·rintro v lo hi W hb hS hd
      have e19:v 19=.bool true:=(hd 19 (Rdp (by kernel_rfl))).2.2
      obtain ⟨la20,lb20,D20⟩:=hd 20 (Rdp (by kernel_rfl))
      obtain ⟨la22,lb22,D22⟩:=hd 22 (Rdp (by kernel_rfl))
      clear hd
      refine ⟨(by show (match some (v 19) with|some (Value.bool b)=>some b|_=>none) == some true;rw [e19];rfl),?_⟩
      intro K hK
      dsimp only
      (try simp only [e19])
      obtain ⟨h0,c0,e0,s0⟩:=D20
      obtain ⟨h1,c1,e1,s1⟩:=D22
      simp only [e0,e1]
      go_wp2_with (go_at_call 14;refine (Equal_any h0 c0 h1 c1 ⟨[5,7],8,1,[]⟩ ⟨[5,7],8,1,[]⟩ _ s0 s1).mono ?_;rintro e w9 ⟨he,hb9⟩;rw [decide_eq_true rfl] at he;subst he)
      exact acx (hK (.bool true) w9 hb9 rfl) (by simp [e19,e0,e1])
     ·rintro v lo hi W hb hS hd
      have e19:v 19=.bool true:=(hd 19 (Rdp (by kernel_rfl))).2.2
      have e23:v 23=.bool true:=(hd 23 (Rdp (by kernel_rfl))).2.2
      clear hd
      refine ⟨rfl,?_⟩
      intro K hK
      dsimp only
      (try simp only [e19,e23])
      go_wp2_with fail
      exact acx (hK (.bool true) W (Below.refl _ _) rfl) (by simp [e19,e23])
     ·rintro v lo hi W hb hS hd
      have e23:v 23=.bool true:=(hd 23 (Rdp (by kernel_rfl))).2.2
      have e24:v 24=.bool true:=(hd 24 (Rdp (by kernel_rfl))).2.2
      clear hd
      refine ⟨rfl,?_⟩
      intro K hK
      dsimp only
      (try simp only [e23,e24])
      go_wp2_with fail
      exact acx (hK (.bool true) W (Below.refl _ _) rfl) (by simp [e23,e24])
     ·rintro v lo hi W hb hS hd
      have e25:v 25=.bool true:=(hd 25 (Rdp (by kernel_rfl))).2.2
      clear hd
      refine ⟨(by show (match some (v 25) with|some (Value.bool b)=>some b|_=>none) == some true;rw [e25];rfl),?_⟩
      intro K hK
      dsimp only
      (try simp only [e25])
      obtain ⟨h,c,g⟩:=hS.at 1 rfl
      have q0:=(g.box.cells 0).1
      have q1:=(g.box.cells 1).1
      have q2:=(g.box.cells 2).1
      have q3:=(g.box.cells 3).1
      go_wp2_with fail
      exact acx (hK (perV h c (⟨[],4,2,[1]⟩:Per).frm (⟨[],4,2,[1]⟩:Per).period) W (Below.refl _ _) ⟨h,c,rfl,g.is⟩) (by simp [e25])
     ·rintro v lo hi W hb hS hd
      have e25:v 25=.bool true:=(hd 25 (Rdp (by kernel_rfl))).2.2
      clear hd
      refine ⟨(by show (match some (v 25) with|some (Value.bool b)=>some b|_=>none) == some true;rw [e25];rfl),?_⟩
      intro K hK
      dsimp only
      (try simp only [e25])
      go_wp2_with fail
      exact acx (hK (.slice (some ⟨W.heap.size,0,none⟩) 1 1) _ (Ea (Er _) _) ⟨_,rfl,Ints.lit' (l:=[1]) (Bxx.at rfl) (by decide) (by decide)⟩) (by simp [e25])
     ·rintro v lo hi W hb hS hd
      have e25:v 25=.bool true:=(hd 25 (Rdp (by kernel_rfl))).2.2
      obtain ⟨la27,lb27,D27⟩:=hd 27 (Rdp (by kernel_rfl))
      clear hd
      refine ⟨(by show (match some (v 25) with|some (Value.bool b)=>some b|_=>none) == some true;rw [e25];rfl),?_⟩
      intro K hK
      dsimp only
      (try simp only [e25])
      obtain ⟨a,e0,s0⟩:=D27
      simp only [e0]
      go_wp2_with fail
      exact acx (hK (perV (.slice none 0 0) (.slice a 1 1) 4 2) W (Below.refl _ _) ⟨_,_,rfl,Ints.nil _,s0⟩) (by simp [e25,e0])
     ·rintro v lo hi W hb hS hd
      have e25:v 25=.bool true:=(hd 25 (Rdp (by kernel_rfl))).2.2
      obtain ⟨la26,lb26,D26⟩:=hd 26 (Rdp (by kernel_rfl))
      obtain ⟨la28,lb28,D28⟩:=hd 28 (Rdp (by kernel_rfl))
      clear hd
      refine ⟨(by show (match some (v 25) with|some (Value.bool b)=>some b|_=>none) == some true;rw [e25];rfl),?_⟩
      intro K hK
      dsimp only
      (try simp only [e25])
      obtain ⟨h0,c0,e0,s0⟩:=D26
      obtain ⟨h1,c1,e1,s1⟩:=D28
      simp only [e0,e1]
      go_wp2_with (go_at_call 14;refine (Equal_any h0 c0 h1 c1 ⟨[],4,2,[1]⟩ ⟨[],4,2,[1]⟩ _ s0 s1).mono ?_;rintro e w9 ⟨he,hb9⟩;rw [decide_eq_true rfl] at he;subst he)
      exact acx (hK (.bool true) w9 hb9 rfl) (by simp [e25,e0,e1])
     ·rintro v lo hi W hb hS hd
      have e25:v 25=.bool true:=(hd 25 (Rdp (by kernel_rfl))).2.2
      have e29:v 29=.bool true:=(hd 29 (Rdp (by kernel_rfl))).2.2
      clear hd
      refine ⟨rfl,?_⟩
      intro K hK
      dsimp only
      (try simp only [e25,e29])
      go_wp2_with fail
      exact acx (hK (.bool true) W (Below.refl _ _) rfl) (by simp [e25,e29])
    case fin=>
     rintro v lo hi W2 hb2 _ hf _
     show wpList _ _ _ [_] _ _
     have f30:v 30=.bool true:=(hf 30 rfl).2.2.2
     clear hf
     dsimp only
     rw [f30]
     clear f30
     generalize v 0=t0
     generalize v 1=t1
     generalize v 2=t2
     generalize v 3=t3
     generalize v 4=t4
     generalize v 5=t5
     generalize v 6=t6
     generalize v 7=t7
     generalize v 8=t8
     generalize v 9=t9
     generalize v 10=t10
     generalize v 11=t11
     generalize v 12=t12
     generalize v 13=t13
     generalize v 14=t14
     generalize v 15=t15
     generalize v 16=t16
     generalize v 17=t17
     generalize v 18=t18
     generalize v 19=t19
     generalize v 20=t20
     generalize v 21=t21
     generalize v 22=t22
     generalize v 23=t23
     generalize v 24=t24
     generalize v 25=t25
     generalize v 26=t26
     generalize v 27=t27
     generalize v 28=t28
     generalize v 29=t29
     go_upto_region 16 with (fail)
     refine wp_abs (F:=fun U=>Ints U rv [1,3]∧Below w.heap.size w U) ⟨HI.out.ext (by (repeat' (with_reducible first|assumption|apply Er|apply Ea|apply Ed|apply En|(refine Es ?_ (by first|(simp<;>omega)|omega) _)|refine Et ?_ (by assumption)))),by (repeat' (with_reducible first|assumption|apply Er|apply Ea|apply Ed|apply En|(refine Es ?_ (by first|(simp<;>omega)|omega) _)|refine Et ?_ (by assumption)))⟩ ?_
     clear hS hE hb2 HI
     rintro W15 ⟨hI,hE⟩
     have HI:=Lib.hid hI
     clear hI
     go_wp2_with (first|(go_at_call 42;refine (numbers_any rv (.slice (some ⟨_,0,none⟩) 2 2) [1,3] [1,3] _ (HI.out.ext (by (repeat' (with_reducible first|assumption|apply Er|apply Ea|apply Ed|apply En|(refine Es ?_ (by first|(simp<;>omega)|omega) _)|refine Et ?_ (by assumption))))) (Ints.lit' (l:=[1,3]) (by (repeat' (first|(refine Bxx.at ?_;simp;done)|apply Bxx.alloc))) (by decide) (by decide))).mono ?_;rintro e u1 ⟨he,hu1⟩;rw [decide_eq_true rfl] at he;subst he)|(go_at_call 15;refine (valid_any (.slice none 0 0) (.slice none 0 0) ⟨[],0,0,[]⟩ _ ⟨Ints.nil _,Ints.nil _⟩).mono ?_;rintro e u2 ⟨he,hu2⟩;rw [show validB ⟨[],0,0,[]⟩=false from by decide] at he;subst he))
     go_ret
     exact ⟨rfl,by (repeat' (with_reducible first|assumption|apply Er|apply Ea|apply Ed|apply En|(refine Es ?_ (by first|(simp<;>omega)|omega) _)|refine Et ?_ (by assumption)))⟩
end Go.Proofs.YtjilkhhokkncoaaGreat
