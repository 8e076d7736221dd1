/- Walk: the law MixedFiniteSets. -/
import Derived.Test.YthjnojbeimchdaaGreatBxSupWalkLd
set_option linter.unusedVariables false
set_option linter.unusedSimpArgs false
namespace Go.Proofs.YthjnojbeimchdaaGreat
open Go.RowKit Go.Maps Kal
theorem lcm_near {a p:Int} (ha:1≤a) (had:a∣27720) (hp:1≤p) (hpd:p∣27720):lcmV a p=.tuple #[.int .i64 (lcmI a p),.int .i64 0]∧1≤lcmI a p∧lcmI a p∣27720:=by
 have h1:=lcmI_pos ha hp
 have h2:=lcmI_dvd ha hp had hpd
 have h3:=Int.le_of_dvd (by decide) h2
 exact ⟨by unfold lcmV;rw [if_pos (by omega)],h1,h2⟩
structure CmA (m:List (List Per)) (T:List Per) (i k:Nat) (c:Int):Prop where
 pos:1≤c
 dvd:c∣27720
 all:∀ j,j<i→∀ p∈m.getD j [],p.period∣c
 cur:∀ j,j<k→(T.getD j default).period∣c
theorem CmA.nil {m:List (List Per)}:CmA m [] 0 0 1:=⟨by omega,⟨27720,by omega⟩,fun j hj=>by omega,fun j hj=>by omega⟩
theorem CmA.turn {m:List (List Per)} {T U:List Per} {i:Nat} {c:Int} (h:CmA m T i 0 c):CmA m U i 0 c:=⟨h.pos,h.dvd,h.all,fun j hj=>by omega⟩
theorem CmA.le {m:List (List Per)} {T:List Per} {i k:Nat} {c:Int} (h:CmA m T i k c):c≤27720:=Int.le_of_dvd (by decide) h.dvd
theorem CmA.next {m:List (List Per)} {T:List Per} {i k:Nat} {c pr:Int} (h:CmA m T i k c) (hp:(T.getD k default).period=pr) (h1:1≤pr) (h2:pr∣27720):CmA m T i (k+1) (lcmI c pr):=by
 obtain ⟨_,h3,h4⟩:=lcm_near h.pos h.dvd h1 h2
 refine ⟨h3,h4,fun j hj p hm=>Int.dvd_trans (h.all j hj p hm) lcmI_dvd_left,fun j hj=>?_⟩
 rcases Nat.lt_or_ge j k with h5|h5
 ·exact Int.dvd_trans (h.cur j h5) lcmI_dvd_left
 ·obtain rfl:j=k:=by omega
  rw [hp];exact lcmI_dvd_right
theorem CmA.shut {m:List (List Per)} {T:List Per} {i k:Nat} {c:Int} (h:CmA m T i k c) (hT:m.getD i []=T) (hk:T.length≤k):CmA m [] (i+1) 0 c:=by
 refine ⟨h.pos,h.dvd,fun j hj p hp=>?_,fun j hj=>by omega⟩
 rcases Nat.lt_or_ge j i with h5|h5
 ·exact h.all j h5 p hp
 ·obtain rfl:j=i:=by omega
  rw [hT] at hp
  obtain ⟨n,hn,rfl⟩:=List.getElem_of_mem hp
  have h6:=h.cur n (by omega)
  rwa [List.getD_eq_getElem?_getD,List.getElem?_eq_getElem hn] at h6
theorem CmA.done {m:List (List Per)} {T:List Per} {i k:Nat} {c:Int} (h:CmA m T i k c) (hi:m.length≤i):∀ t∈m,∀ p∈t,p.period∣c:=fun t ht p hp=>by
 obtain ⟨n,hn,rfl⟩:=List.getElem_of_mem ht
 refine h.all n (by omega) p ?_
 rw [List.getD_eq_getElem?_getD,List.getElem?_eq_getElem hn];exact hp
theorem fin_later {m:List (List Per)} (h:MadeM m) {fr n:Int} {so:Bool} (h0:9≤fr) (h1:fr≤4294967304) (hn:NextF FarI (mmem m) fr n so):(∀ t∈m,¬ recT t)↔(!so)=true:=by
 constructor
 ·intro hf
  cases so
  ·rfl
  ·exfalso
   rcases hn with ⟨_,h2,_,⟨t,ht,hx⟩,_⟩|⟨h2,_⟩
   ·exact hf t ht ⟨n,by have:=made_start h ht;omega,hx⟩
   ·cases h2
 ·intro hs t ht ⟨x,hs1,hx⟩
  cases so
  ·have hno:=next_none hn
   have e0:=Int.emod_nonneg (x-fr) (show (27720:Int)≠0 by decide)
   have e1:=Int.emod_lt_of_pos (x-fr) (show (0:Int)<27720 by decide)
   have e2:=Int.emod_add_mul_ediv (x-fr) 27720
   refine hno (fr+(x-fr) % 27720) (by omega) (by omega) ⟨t,ht,fun p hp=>?_⟩
   have hf:=h.fac t ht p hp
   have hfr:=hf.frm
   have h5:=startT_ge.2 p hp
   exact (mem_mod hf.wf (show p.frm≤x by omega) (by omega) (Int.dvd_trans hf.dvd ⟨(x-fr) / 27720,by omega⟩)).1 (hx p hp)
  ·cases hs
theorem has_again {m:List (List Per)} (h:MadeM m) {fr cm:Int} (h0:9≤fr) (hc:1≤cm) (hall:∀ t∈m,∀ p∈t,p.period∣cm):hasM m (fr+cm)=hasM m fr:=by
 refine Bool.eq_iff_iff.2 ((hasM_iff h.mv).trans (Iff.trans ?_ (hasM_iff h.mv).symm))
 have key:∀ t∈m,(tmem t (fr+cm)↔tmem t fr):=fun t ht=>by
  refine forall_congr' fun p=>forall_congr' fun hp=>?_
  have hf:=h.fac t ht p hp
  have hfr:=hf.frm
  exact mem_mod hf.wf (by omega) (by omega) (by rw [show fr+cm-fr=cm by omega];exact hall t ht p hp)
 exact ⟨fun ⟨t,ht,hx⟩=>⟨t,ht,(key t ht).1 hx⟩,fun ⟨t,ht,hx⟩=>⟨t,ht,(key t ht).2 hx⟩⟩
theorem mixR_get {F:Nat→Prop} {w:World} {a:Option Addr} {c:Nat} {m:List (List Per)} (h:MixR w F (.slice a m.length c) m) {i:Nat} (hi:i<m.length) :
  ∃ b o ta tc,a=some ⟨b,o,none⟩∧w.cell? ⟨b,o+i,none⟩=some (.slice ta (m.getD i []).length tc)∧TermR w F (.slice ta (m.getD i []).length tc) (m.getD i []):=by
 obtain ⟨L,rfl,hL⟩:=h
 obtain ⟨b,o,tv,ha,hc,ht⟩:=hL.get (k:=i) (by simpa using hi)
 obtain ⟨ta,tc,rfl,_⟩:=ht.form
 exact ⟨b,o,ta,tc,ha,hc,ht⟩
theorem termR_get {F:Nat→Prop} {w:World} {a:Option Addr} {c:Nat} {t:List Per} (h:TermR w F (.slice a t.length c) t) {k:Nat} (hk:k<t.length) :
  ∃ b o,a=some ⟨b,o,none⟩∧w.cell? ⟨b,o+k*4+2,none⟩=some (.int .i64 (t.getD k default).period):=by
 obtain ⟨L,rfl,hL⟩:=h
 obtain ⟨b,o,x,ha,_,hx,_,_,_,hc,_⟩:=hL.get (k:=k) (by simpa using hk)
 exact ⟨b,o,ha,by rw [hc,hx]⟩
set_option maxRecDepth 100000 in
set_option maxHeartbeats 4000000 in
theorem MixedFiniteSets_any (v0:Value) (n0:Nat) (dy:Int) (w:World) (h0:ByteRows w v0 n0) (f0:0≤dy) (f1:dy≤4294967295) :
  Calls Tryz.prog 7 #[v0,.int .u32 dy] w fun e w'=>e=.returned (.bool true)∧Below w.heap.size w w':=by
 have H0:=Lib.hid h0
 clear h0
 go_enter Tryz.func7,Tryz.ntmps7
 go_upto_region 3 with (first|(go_at_call 13;refine (sanity_any _).mono ?_;rintro e u1 ⟨rfl,k1⟩)|(go_at_call 14;(with_reducible refine (Made_any v0 n0 _ (H0.out.ext (by (repeat' (with_reducible first|assumption|apply Er|apply Ea|apply Ed|apply En|(refine Es ?_ (by first|(simp<;>omega)|omega) _)|refine Et ?_ (by assumption)))))).mono ?_);rintro e u2 ⟨m,aA,cA,rfl,xA,dA,k2⟩))
 refine wp_abs (F:=fun U=>MSets U [(u2.heap.size,m.length,m)]∧Below w.heap.size w U) ⟨MSets.cons ⟨aA,cA,by (repeat' (first|(refine Bxx.at ?_;simp;done)|refine Bxx.alloc ?_ _)),(xA.mono fun _ _=>trivial).ext (by (repeat' (with_reducible first|assumption|apply Er|apply Ea|apply Ed|apply En|(refine Es ?_ (by first|(simp<;>omega)|omega) _)|refine Et ?_ (by assumption))))⟩ (MSets.nil _),by (repeat' (with_reducible first|assumption|apply Er|apply Ea|apply Ed|apply En|(refine Es ?_ (by first|(simp<;>omega)|omega) _)|refine Et ?_ (by assumption)))⟩ ?_
 clear k1 k2 xA
 have HA:=Lib.hid dA
 clear dA
 generalize u2.heap.size=b8 at *
 rintro W3 ⟨hS,hE⟩
 obtain ⟨a8,c8,g8,x8⟩:=hS.at 0 rfl
 have G8:=Lib.hid g8
 have X8:=Lib.hid x8
 have HE:=Lib.hid hE
 have q8:=g8.c0
 clear hS g8 x8 hE
 have hml:=HA.out.len
 go_wp2_with fail
 go_loopw [7,8,9,10,11] (fun cv iv _ _ _ wr=>∃ (cm:Int) (i:Nat),i≤m.length∧cv=.int .i64 cm∧iv=.int .i64 i∧Hid (CmA m [] i 0 cm)∧Hid (Below W3.heap.size W3 wr)) (fun _ iv _ _ _ _=>m.length-(intOf iv).toNat)
 case atStart=>exact ⟨1,0,by omega,rfl,rfl,Lib.hid CmA.nil,Lib.hid (Er _)⟩
 case round=>
  obtain ⟨cm,i,hi,rfl,rfl,HC,HB⟩:=hrel
  have q9:=(G8.out.below HB.out).c0
  by_cases hin:i<m.length
  ·obtain ⟨rb,ro,ta,tc,rfl,hrc,htr⟩:=mixR_get (X8.out.ext HB.out) hin
   have htl:=HA.out.tlen (m.getD i []) (getD_mem' hin)
   have HF:=Lib.hid (HA.out.fac (m.getD i []) (getD_mem' hin))
   have HTR:=Lib.hid htr
   clear htr
   generalize hT:m.getD i []=T at *
   have HT:=Lib.hid hT
   clear hT
   go_wp2_with fail
   go_loopw [7,9,10,11] (fun cv kv _ _ wr2=>∃ (c:Int) (k:Nat),k≤T.length∧cv=.int .i64 c∧kv=.int .i64 k∧Hid (CmA m T i k c)∧Hid (Below wr.heap.size wr wr2)) (fun _ kv _ _ _=>T.length-(intOf kv).toNat)
   case atStart=>exact ⟨cm,0,by omega,rfl,rfl,Lib.hid HC.out.turn,Lib.hid (Er _)⟩
   case round=>
    obtain ⟨c,k,hk,rfl,rfl,HC2,HB2⟩:=hrel
    have HBB:=Lib.hid (Et HB.out HB2.out)
    have q10:=(G8.out.below HBB.out).c0
    have hrc2:=Ext.cell HB2.out hrc
    by_cases hkn:k<T.length
    ·obtain ⟨tb,to',rfl,htc⟩:=termR_get (HTR.out.ext HB2.out) hkn
     have hpf:=HF.out (T.getD k default) (getD_mem' hkn)
     have hp1:=hpf.wf.per
     have hp2:=hpf.per
     have HPD:=Lib.hid hpf.dvd
     generalize hpr:(T.getD k default).period=pr at *
     have HPR:=Lib.hid hpr
     clear hpr hpf
     have hc1:=HC2.out.pos
     have hc2:=HC2.out.le
     have HL:=Lib.hid (fun W=>lcm_any c pr W hc1 (by omega) hp1 (by omega))
     rw [(lcm_near hc1 HC2.out.dvd hp1 HPD.out).1] at HL
     go_wp2_with (go_at_call 29;refine (HL.out _).mono ?_;rintro e u ⟨rfl,nn,rfl⟩)
     go_roundw
     case rel=>exact ⟨lcmI c pr,k+1,by omega,rfl,by go_num,Lib.hid (HC2.out.next HPR.out hp1 HPD.out),Lib.hid (by have h:=HB2.out;(repeat' (with_reducible first|assumption|apply Er|apply Ea|apply Ed|apply En|(refine Es ?_ (by first|(simp<;>omega)|omega) _)|refine Et ?_ (by assumption))))⟩
     case measure=>simp [intOf];omega
    ·go_wp2_with fail
     go_roundw
     case rel=>exact ⟨c,i+1,by omega,rfl,by go_num,Lib.hid (HC2.out.shut HT.out (by omega)),HBB⟩
     case measure=>simp [intOf];omega
  ·obtain rfl:i=m.length:=by omega
   have hc1:=HC.out.pos
   have hc2:=HC.out.le
   have HAG:=Lib.hid (has_again HA.out (show 9≤9+dy by omega) hc1 (HC.out.done (Nat.le_refl _)))
   have HNX:=mnext_any 0 _ (.slice a8 m.length c8) m (9+dy) wr (X8.out.ext HB.out) HA.out.mv ⟨by omega,by omega⟩
   rw [show max (9+dy) 0=9+dy by omega] at HNX
   have HNX:=Lib.hid HNX
   go_upto_region 16 with (go_at_call 16;(with_reducible refine HNX.out.mono ?_);rintro e w4 ⟨c,so,rfl,hn,k4⟩;have HN:=Lib.hid hn;have HB4:=Lib.hid (Et HB.out k4);have r8:=(G8.out.below HB4.out).c0;clear hn k4)
   obtain ⟨bE,tE⟩:=boolOf (∀ t∈m,barrenT t)
   have hEF:bE=true→so=false:=fun h=>by
    have h9:=(fin_later HA.out (by omega) (by omega) HN.out).1 (barren_rec (tE.1 h))
    simpa using h9
   have HEM:=Lib.hid (fun W (h:Below W3.heap.size W3 W)=>(mempty_any _ (.slice a8 m.length c8) m W (X8.out.ext h)).mono (fun e u ⟨b,he,hb,k⟩=>(show e=Ending.returned (.bool bE)∧Below W.heap.size W u from ⟨by rw [he,show b=bE from Bool.eq_iff_iff.2 (by rw [hb,tE];exact ⟨fun h=>h.2,fun h=>⟨HA.out.mv.val,h⟩⟩)],k⟩)))
   have HFN:=Lib.hid (fun W (h:Below W3.heap.size W3 W)=>(mfinite_any _ (.slice a8 m.length c8) m W (X8.out.ext h)).mono (fun e u ⟨b,he,hb,k⟩=>(show e=Ending.returned (.bool (!so))∧Below W.heap.size W u from ⟨by rw [he,show b=(!so) from Bool.eq_iff_iff.2 (by rw [hb,← fin_later HA.out (by omega) (by omega) HN.out];exact ⟨fun h=>h.2,fun h=>⟨HA.out.mv.val,h⟩⟩)],k⟩)))
   have HH1:=Lib.hid (fun W (h:Below W3.heap.size W3 W)=>mhas_any _ (.slice a8 m.length c8) m (9+dy) W (X8.out.ext h) ⟨by omega,by omega⟩)
   have HH2:=fun W (h:Below W3.heap.size W3 W)=>mhas_any _ (.slice a8 m.length c8) m (9+dy+cm) W (X8.out.ext h) ⟨by omega,by omega⟩
   rw [HAG.out] at HH2
   have HWR:=Lib.hid (wrapI (x:=9+dy+cm) ⟨by omega,by omega⟩)
   have HH2:=Lib.hid HH2
   generalize hasM m (9+dy)=bh at *
   clear HNX HN HAG tE
   have HBZ:=HB4.out
   clear HB
   have hEF2:bE=false∨(bE=true∧so=false):=by
    cases bE
    ·exact .inl rfl
    ·exact .inr ⟨rfl,hEF rfl⟩
   clear hEF
   rcases hEF2 with rfl|⟨rfl,rfl⟩
   ·go_wp2_with fail
    refine wp_region_factsS (w0:=w4) [0,1,2,3,4,5,6,7,8,9,10,11,12,13,14,15,16,17,18,19,20,21,22,23,24,25,26,27] [28] (fun v=>⟨#[v0,Value.int IntKind.u32 dy,undef,undef,u4,.bool true,.pointer (some ⟨b8,0,none⟩),.int .i64 cm,.int .i64 ↑m.length,u9,u10,u11,.int .i64 (9+dy),.int .i64 c,.bool so,.bool true,v0,.agg #[.slice aA m.length cA],.int .i64 ↑m.length,.pointer (some ⟨b8,0,none⟩),.slice a8 m.length c8,.int .i64 ↑m.length,.bool false,u23,u24,u25,u26,u27,u28,u29,u30,u31,u32,u33,u34,u35,u36,u37,u38,u39,u40,u41,u42,u43,u44,u45,u46,u47,u48,u49,u50,u51,Value.int IntKind.u32 dy,.int .i64 dy,.int .i64 (9+dy),.tuple #[.int .i64 c,.bool so],.agg #[.slice a8 m.length c8],.int .i64 (9+dy),.tuple #[.int .i64 c,.bool so],.int .i64 c,.bool so,v 0,v 1,v 2,v 3,v 4,v 5,v 6,v 7,v 8,v 9,v 10,v 11,v 12,v 13,v 14,v 15,v 16,v 17,v 18,v 19,v 20,v 21,v 22,v 23,v 24,v 25,v 26,v 27],[]⟩) (fun _=>undef)
     (fun i v lo hi W=>match i with
      | 0=>v 0=.bool true
      | 1=>v 1=.bool true
      | 2=>v 2=.agg #[.slice a8 m.length c8]
      | 3=>v 3=.bool (!so)
      | 4=>v 4=.bool so
      | 5=>v 5=.bool (!so)
      | 6=>v 6=.bool true
      | 7=>v 7=.bool true
      | 8=>v 8=.bool true
      | 9=>v 9=.agg #[.slice a8 m.length c8]
      | 10=>v 10=.int .i64 (9+dy)
      | 11=>v 11=.bool bh
      | 12=>v 12=.agg #[.slice a8 m.length c8]
      | 13=>v 13=.int .i64 (9+dy)
      | 14=>v 14=.int .i64 cm
      | 15=>v 15=.int .i64 (9+dy+cm)
      | 16=>v 16=.bool bh
      | 17=>v 17=.bool true
      | 18=>v 18=.bool true
      | 19=>v 19=.bool true
      | 20=>v 20=.agg #[.slice a8 m.length c8]
      | 21=>v 21=.bool false
      | 22=>v 22=.bool true
      | 23=>v 23=.bool true
      | 24=>v 24=undef
      | 25=>v 25=undef
      | 26=>v 26=.bool true
      | 27=>v 27=.bool true
      | _=>True)
     (fun W=>W.cell? ⟨b8,0,none⟩=some (.slice a8 m.length c8)∧Below W3.heap.size W3 W) rfl (by kernel_rfl) (by decide) rfl ?stab ?loc (fun W hb=>⟨(G8.out.below (Et HBZ hb)).c0,Et HBZ hb⟩) ?steps ?fin
    case stab=>
     rintro (_|_|_|_|_|_|_|_|_|_|_|_|_|_|_|_|_|_|_|_|_|_|_|_|_|_|_|_|i) v lo hi W W' h hb
     ·exact h
     ·exact h
     ·exact h
     ·exact h
     ·exact h
     ·exact h
     ·exact h
     ·exact h
     ·exact h
     ·exact h
     ·exact h
     ·exact h
     ·exact h
     ·exact h
     ·exact h
     ·exact h
     ·exact h
     ·exact h
     ·exact h
     ·exact h
     ·exact h
     ·exact h
     ·exact h
     ·exact h
     ·exact h
     ·exact h
     ·exact h
     ·exact h
     ·trivial
    case loc=>
     rintro (_|_|_|_|_|_|_|_|_|_|_|_|_|_|_|_|_|_|_|_|_|_|_|_|_|_|_|_|i) v v' lo lo' hi hi' W hag h
     ·exact (hag 0 (.inl rfl)).1 ▸ h
     ·exact (hag 1 (.inl rfl)).1 ▸ h
     ·exact (hag 2 (.inl rfl)).1 ▸ h
     ·exact (hag 3 (.inl rfl)).1 ▸ h
     ·exact (hag 4 (.inl rfl)).1 ▸ h
     ·exact (hag 5 (.inl rfl)).1 ▸ h
     ·exact (hag 6 (.inl rfl)).1 ▸ h
     ·exact (hag 7 (.inl rfl)).1 ▸ h
     ·exact (hag 8 (.inl rfl)).1 ▸ h
     ·exact (hag 9 (.inl rfl)).1 ▸ h
     ·exact (hag 10 (.inl rfl)).1 ▸ h
     ·exact (hag 11 (.inl rfl)).1 ▸ h
     ·exact (hag 12 (.inl rfl)).1 ▸ h
     ·exact (hag 13 (.inl rfl)).1 ▸ h
     ·exact (hag 14 (.inl rfl)).1 ▸ h
     ·exact (hag 15 (.inl rfl)).1 ▸ h
     ·exact (hag 16 (.inl rfl)).1 ▸ h
     ·exact (hag 17 (.inl rfl)).1 ▸ h
     ·exact (hag 18 (.inl rfl)).1 ▸ h
     ·exact (hag 19 (.inl rfl)).1 ▸ h
     ·exact (hag 20 (.inl rfl)).1 ▸ h
     ·exact (hag 21 (.inl rfl)).1 ▸ h
     ·exact (hag 22 (.inl rfl)).1 ▸ h
     ·exact (hag 23 (.inl rfl)).1 ▸ h
     ·exact (hag 24 (.inl rfl)).1 ▸ h
     ·exact (hag 25 (.inl rfl)).1 ▸ h
     ·exact (hag 26 (.inl rfl)).1 ▸ h
     ·exact (hag 27 (.inl rfl)).1 ▸ h
     ·trivial
    case steps=>
     clear r8 q9
     refine StepsS.cons rfl ?_ (StepsS.cons rfl ?_ (StepsS.cons rfl ?_ (StepsS.cons rfl ?_ (StepsS.cons rfl ?_ (StepsS.cons rfl ?_ (StepsS.cons rfl ?_ (StepsS.cons rfl ?_ (StepsS.cons rfl ?_ (StepsS.cons rfl ?_ (StepsS.cons rfl ?_ (StepsS.cons rfl ?_ (StepsS.cons rfl ?_ (StepsS.cons rfl ?_ (StepsS.cons rfl ?_ (StepsS.cons rfl ?_ (StepsS.cons rfl ?_ (StepsS.cons rfl ?_ (StepsS.cons rfl ?_ (StepsS.cons rfl ?_ (StepsS.cons rfl ?_ (StepsS.cons rfl ?_ (StepsS.cons rfl ?_ (StepsS.cons rfl ?_ (StepsS.cons rfl ?_ (StepsS.cons rfl ?_ (StepsS.cons rfl ?_ (StepsS.cons rfl ?_ StepsS.nil)))))))))))))))))))))))))))
     ·rintro v lo hi W hb ⟨g0,g1⟩ hd
      clear hd
      refine .inl ⟨rfl,?_⟩
      intro K hK
      dsimp only
      go_wp2_with fail
      exact acx (hK (.bool true) W (Below.refl _ _) rfl) (by simp)
     ·rintro v lo hi W hb ⟨g0,g1⟩ hd
      have e0:v 0=.bool true:=(hd 0 (Rdp (by kernel_rfl))).2.2
      clear hd
      refine .inl ⟨rfl,?_⟩
      intro K hK
      dsimp only
      (try simp only [e0])
      go_wp2_with fail
      exact acx (hK (.bool true) W (Below.refl _ _) rfl) (by simp [e0])
     ·rintro v lo hi W hb ⟨g0,g1⟩ hd
      have e1:v 1=.bool true:=(hd 1 (Rdp (by kernel_rfl))).2.2
      clear hd
      refine .inl ⟨(by show ((match some (v 1) with|some (Value.bool b)=>some b|_=>none) == some true)=true;rw [e1];rfl),?_⟩
      intro K hK
      dsimp only
      (try simp only [e1])
      go_wp2_with fail
      exact acx (hK (.agg #[.slice a8 m.length c8]) W (Below.refl _ _) rfl) (by simp [e1])
     ·rintro v lo hi W hb ⟨g0,g1⟩ hd
      have e1:v 1=.bool true:=(hd 1 (Rdp (by kernel_rfl))).2.2
      have e2:v 2=.agg #[.slice a8 m.length c8]:=(hd 2 (Rdp (by kernel_rfl))).2.2
      clear hd
      refine .inl ⟨(by show ((match some (v 1) with|some (Value.bool b)=>some b|_=>none) == some true)=true;rw [e1];rfl),?_⟩
      intro K hK
      dsimp only
      (try simp only [e1,e2])
      go_wp2_with (go_at_call 26;(with_reducible refine (HFN.out _ g1).mono ?_);rintro e w9 ⟨rfl,hb9⟩)
      exact acx (hK (.bool (!so)) w9 hb9 rfl) (by simp [e1,e2])
     ·rintro v lo hi W hb ⟨g0,g1⟩ hd
      have e1:v 1=.bool true:=(hd 1 (Rdp (by kernel_rfl))).2.2
      clear hd
      refine .inl ⟨(by show ((match some (v 1) with|some (Value.bool b)=>some b|_=>none) == some true)=true;rw [e1];rfl),?_⟩
      intro K hK
      dsimp only
      (try simp only [e1])
      go_wp2_with fail
      exact acx (hK (.bool so) W (Below.refl _ _) rfl) (by simp [e1])
     ·rintro v lo hi W hb ⟨g0,g1⟩ hd
      have e1:v 1=.bool true:=(hd 1 (Rdp (by kernel_rfl))).2.2
      have e4:v 4=.bool so:=(hd 4 (Rdp (by kernel_rfl))).2.2
      clear hd
      refine .inl ⟨(by show ((match some (v 1) with|some (Value.bool b)=>some b|_=>none) == some true)=true;rw [e1];rfl),?_⟩
      intro K hK
      dsimp only
      (try simp only [e1,e4])
      go_wp2_with fail
      exact acx (hK (.bool (!so)) W (Below.refl _ _) rfl) (by simp [e1,e4])
     ·rintro v lo hi W hb ⟨g0,g1⟩ hd
      have e1:v 1=.bool true:=(hd 1 (Rdp (by kernel_rfl))).2.2
      have e3:v 3=.bool (!so):=(hd 3 (Rdp (by kernel_rfl))).2.2
      have e5:v 5=.bool (!so):=(hd 5 (Rdp (by kernel_rfl))).2.2
      clear hd
      refine .inl ⟨(by show ((match some (v 1) with|some (Value.bool b)=>some b|_=>none) == some true)=true;rw [e1];rfl),?_⟩
      intro K hK
      dsimp only
      (try simp only [e1,e3,e5])
      go_wp2_with fail
      exact acx (hK (.bool true) W (Below.refl _ _) rfl) (by simp [e1,e3,e5])
     ·rintro v lo hi W hb ⟨g0,g1⟩ hd
      have e1:v 1=.bool true:=(hd 1 (Rdp (by kernel_rfl))).2.2
      have e6:v 6=.bool true:=(hd 6 (Rdp (by kernel_rfl))).2.2
      clear hd
      refine .inl ⟨rfl,?_⟩
      intro K hK
      dsimp only
      (try simp only [e1,e6])
      go_wp2_with fail
      exact acx (hK (.bool true) W (Below.refl _ _) rfl) (by simp [e1,e6])
     ·rintro v lo hi W hb ⟨g0,g1⟩ hd
      have e7:v 7=.bool true:=(hd 7 (Rdp (by kernel_rfl))).2.2
      clear hd
      refine .inl ⟨rfl,?_⟩
      intro K hK
      dsimp only
      (try simp only [e7])
      go_wp2_with fail
      exact acx (hK (.bool true) W (Below.refl _ _) rfl) (by simp [e7])
     ·rintro v lo hi W hb ⟨g0,g1⟩ hd
      have e8:v 8=.bool true:=(hd 8 (Rdp (by kernel_rfl))).2.2
      clear hd
      refine .inl ⟨(by show ((match some (v 8) with|some (Value.bool b)=>some b|_=>none) == some true)=true;rw [e8];rfl),?_⟩
      intro K hK
      dsimp only
      (try simp only [e8])
      go_wp2_with fail
      exact acx (hK (.agg #[.slice a8 m.length c8]) W (Below.refl _ _) rfl) (by simp [e8])
     ·rintro v lo hi W hb ⟨g0,g1⟩ hd
      have e8:v 8=.bool true:=(hd 8 (Rdp (by kernel_rfl))).2.2
      clear hd
      refine .inl ⟨(by show ((match some (v 8) with|some (Value.bool b)=>some b|_=>none) == some true)=true;rw [e8];rfl),?_⟩
      intro K hK
      dsimp only
      (try simp only [e8])
      go_wp2_with fail
      exact acx (hK (.int .i64 (9+dy)) W (Below.refl _ _) rfl) (by simp [e8])
     ·rintro v lo hi W hb ⟨g0,g1⟩ hd
      have e8:v 8=.bool true:=(hd 8 (Rdp (by kernel_rfl))).2.2
      have e9:v 9=.agg #[.slice a8 m.length c8]:=(hd 9 (Rdp (by kernel_rfl))).2.2
      have e10:v 10=.int .i64 (9+dy):=(hd 10 (Rdp (by kernel_rfl))).2.2
      clear hd
      refine .inl ⟨(by show ((match some (v 8) with|some (Value.bool b)=>some b|_=>none) == some true)=true;rw [e8];rfl),?_⟩
      intro K hK
      dsimp only
      (try simp only [e8,e9,e10])
      go_wp2_with (go_at_call 19;(with_reducible refine (HH1.out _ g1).mono ?_);rintro e w9 ⟨rfl,hb9⟩)
      exact acx (hK (.bool bh) w9 hb9 rfl) (by simp [e8,e9,e10])
     ·rintro v lo hi W hb ⟨g0,g1⟩ hd
      have e8:v 8=.bool true:=(hd 8 (Rdp (by kernel_rfl))).2.2
      clear hd
      refine .inl ⟨(by show ((match some (v 8) with|some (Value.bool b)=>some b|_=>none) == some true)=true;rw [e8];rfl),?_⟩
      intro K hK
      dsimp only
      (try simp only [e8])
      go_wp2_with fail
      exact acx (hK (.agg #[.slice a8 m.length c8]) W (Below.refl _ _) rfl) (by simp [e8])
     ·rintro v lo hi W hb ⟨g0,g1⟩ hd
      have e8:v 8=.bool true:=(hd 8 (Rdp (by kernel_rfl))).2.2
      clear hd
      refine .inl ⟨(by show ((match some (v 8) with|some (Value.bool b)=>some b|_=>none) == some true)=true;rw [e8];rfl),?_⟩
      intro K hK
      dsimp only
      (try simp only [e8])
      go_wp2_with fail
      exact acx (hK (.int .i64 (9+dy)) W (Below.refl _ _) rfl) (by simp [e8])
     ·rintro v lo hi W hb ⟨g0,g1⟩ hd
      have e8:v 8=.bool true:=(hd 8 (Rdp (by kernel_rfl))).2.2
      clear hd
      refine .inl ⟨(by show ((match some (v 8) with|some (Value.bool b)=>some b|_=>none) == some true)=true;rw [e8];rfl),?_⟩
      intro K hK
      dsimp only
      (try simp only [e8])
      go_wp2_with fail
      exact acx (hK (.int .i64 cm) W (Below.refl _ _) rfl) (by simp [e8])
     ·rintro v lo hi W hb ⟨g0,g1⟩ hd
      have e8:v 8=.bool true:=(hd 8 (Rdp (by kernel_rfl))).2.2
      have e13:v 13=.int .i64 (9+dy):=(hd 13 (Rdp (by kernel_rfl))).2.2
      have e14:v 14=.int .i64 cm:=(hd 14 (Rdp (by kernel_rfl))).2.2
      clear hd
      refine .inl ⟨(by show ((match some (v 8) with|some (Value.bool b)=>some b|_=>none) == some true)=true;rw [e8];rfl),?_⟩
      intro K hK
      dsimp only
      (try simp only [e8,e13,e14])
      have hwr:=HWR.out
      go_wp2_with fail
      exact acx (hK (.int .i64 (9+dy+cm)) W (Below.refl _ _) rfl) (by simp [e8,e13,e14])
     ·rintro v lo hi W hb ⟨g0,g1⟩ hd
      have e8:v 8=.bool true:=(hd 8 (Rdp (by kernel_rfl))).2.2
      have e12:v 12=.agg #[.slice a8 m.length c8]:=(hd 12 (Rdp (by kernel_rfl))).2.2
      have e15:v 15=.int .i64 (9+dy+cm):=(hd 15 (Rdp (by kernel_rfl))).2.2
      clear hd
      refine .inl ⟨(by show ((match some (v 8) with|some (Value.bool b)=>some b|_=>none) == some true)=true;rw [e8];rfl),?_⟩
      intro K hK
      dsimp only
      (try simp only [e8,e12,e15])
      go_wp2_with (go_at_call 19;(with_reducible refine (HH2.out _ g1).mono ?_);rintro e w9 ⟨rfl,hb9⟩)
      exact acx (hK (.bool bh) w9 hb9 rfl) (by simp [e8,e12,e15])
     ·rintro v lo hi W hb ⟨g0,g1⟩ hd
      have e8:v 8=.bool true:=(hd 8 (Rdp (by kernel_rfl))).2.2
      have e11:v 11=.bool bh:=(hd 11 (Rdp (by kernel_rfl))).2.2
      have e16:v 16=.bool bh:=(hd 16 (Rdp (by kernel_rfl))).2.2
      clear hd
      refine .inl ⟨(by show ((match some (v 8) with|some (Value.bool b)=>some b|_=>none) == some true)=true;rw [e8];rfl),?_⟩
      intro K hK
      dsimp only
      (try simp only [e8,e11,e16])
      go_wp2_with fail
      exact acx (hK (.bool true) W (Below.refl _ _) rfl) (by simp [e8,e11,e16])
     ·rintro v lo hi W hb ⟨g0,g1⟩ hd
      have e8:v 8=.bool true:=(hd 8 (Rdp (by kernel_rfl))).2.2
      have e17:v 17=.bool true:=(hd 17 (Rdp (by kernel_rfl))).2.2
      clear hd
      refine .inl ⟨rfl,?_⟩
      intro K hK
      dsimp only
      (try simp only [e8,e17])
      go_wp2_with fail
      exact acx (hK (.bool true) W (Below.refl _ _) rfl) (by simp [e8,e17])
     ·rintro v lo hi W hb ⟨g0,g1⟩ hd
      have e18:v 18=.bool true:=(hd 18 (Rdp (by kernel_rfl))).2.2
      clear hd
      refine .inl ⟨rfl,?_⟩
      intro K hK
      dsimp only
      (try simp only [e18])
      go_wp2_with fail
      exact acx (hK (.bool true) W (Below.refl _ _) rfl) (by simp [e18])
     ·rintro v lo hi W hb ⟨g0,g1⟩ hd
      have e19:v 19=.bool true:=(hd 19 (Rdp (by kernel_rfl))).2.2
      clear hd
      refine .inl ⟨(by show ((match some (v 19) with|some (Value.bool b)=>some b|_=>none) == some true)=true;rw [e19];rfl),?_⟩
      intro K hK
      dsimp only
      (try simp only [e19])
      go_wp2_with fail
      exact acx (hK (.agg #[.slice a8 m.length c8]) W (Below.refl _ _) rfl) (by simp [e19])
     ·rintro v lo hi W hb ⟨g0,g1⟩ hd
      have e19:v 19=.bool true:=(hd 19 (Rdp (by kernel_rfl))).2.2
      have e20:v 20=.agg #[.slice a8 m.length c8]:=(hd 20 (Rdp (by kernel_rfl))).2.2
      clear hd
      refine .inl ⟨(by show ((match some (v 19) with|some (Value.bool b)=>some b|_=>none) == some true)=true;rw [e19];rfl),?_⟩
      intro K hK
      dsimp only
      (try simp only [e19,e20])
      go_wp2_with (go_at_call 25;(with_reducible refine (HEM.out _ g1).mono ?_);rintro e w9 ⟨rfl,hb9⟩)
      exact acx (hK (.bool false) w9 hb9 rfl) (by simp [e19,e20])
     ·rintro v lo hi W hb ⟨g0,g1⟩ hd
      have e19:v 19=.bool true:=(hd 19 (Rdp (by kernel_rfl))).2.2
      have e21:v 21=.bool false:=(hd 21 (Rdp (by kernel_rfl))).2.2
      clear hd
      refine .inl ⟨(by show ((match some (v 19) with|some (Value.bool b)=>some b|_=>none) == some true)=true;rw [e19];rfl),?_⟩
      intro K hK
      dsimp only
      (try simp only [e19,e21])
      go_wp2_with fail
      exact acx (hK (.bool true) W (Below.refl _ _) rfl) (by simp [e19,e21])
     ·rintro v lo hi W hb ⟨g0,g1⟩ hd
      have e19:v 19=.bool true:=(hd 19 (Rdp (by kernel_rfl))).2.2
      have e22:v 22=.bool true:=(hd 22 (Rdp (by kernel_rfl))).2.2
      clear hd
      refine .inl ⟨(by show ((match some (v 19) with|some (Value.bool b)=>some b|_=>none) == some true)=true;rw [e19];rfl),?_⟩
      intro K hK
      dsimp only
      (try simp only [e19,e22])
      go_wp2_with fail
      exact acx (hK (.bool true) W (Below.refl _ _) rfl) (by simp [e19,e22])
     ·rintro v lo hi W hb ⟨g0,g1⟩ hd
      have e23:v 23=.bool true:=(hd 23 (Rdp (by kernel_rfl))).2.2
      clear hd
      refine .inr ⟨(by show ((match some (v 23) with|some (Value.bool b)=>some b|_=>none) == some false)=false;rw [e23];rfl),?_⟩
      intro K hK
      exact acx (hK undef W (Below.refl _ _) rfl) (by simp [Act.put])
     ·rintro v lo hi W hb ⟨g0,g1⟩ hd
      have e23:v 23=.bool true:=(hd 23 (Rdp (by kernel_rfl))).2.2
      have e24:v 24=undef:=(hd 24 (Rdp (by kernel_rfl))).2.2
      clear hd
      refine .inr ⟨(by show ((match some (v 23) with|some (Value.bool b)=>some b|_=>none) == some false)=false;rw [e23];rfl),?_⟩
      intro K hK
      exact acx (hK undef W (Below.refl _ _) rfl) (by simp [Act.put])
     ·rintro v lo hi W hb ⟨g0,g1⟩ hd
      have e19:v 19=.bool true:=(hd 19 (Rdp (by kernel_rfl))).2.2
      have e23:v 23=.bool true:=(hd 23 (Rdp (by kernel_rfl))).2.2
      have e25:v 25=undef:=(hd 25 (Rdp (by kernel_rfl))).2.2
      clear hd
      refine .inl ⟨(by show ((match some (v 19) with|some (Value.bool b)=>some b|_=>none) == some true)=true;rw [e19];rfl),?_⟩
      intro K hK
      dsimp only
      (try simp only [e19,e23,e25])
      go_wp2_with fail
      exact acx (hK (.bool true) W (Below.refl _ _) rfl) (by simp [e19,e23,e25])
     ·rintro v lo hi W hb ⟨g0,g1⟩ hd
      have e19:v 19=.bool true:=(hd 19 (Rdp (by kernel_rfl))).2.2
      have e26:v 26=.bool true:=(hd 26 (Rdp (by kernel_rfl))).2.2
      clear hd
      refine .inl ⟨rfl,?_⟩
      intro K hK
      dsimp only
      (try simp only [e19,e26])
      go_wp2_with fail
      exact acx (hK (.bool true) W (Below.refl _ _) rfl) (by simp [e19,e26])
    case fin=>
     rintro v lo hi W2 hb2 ⟨g0,g1⟩ hf _
     show wpList _ _ _ [_] _ _
     have f27:v 27=.bool true:=(hf 27 rfl).2.2.2
     clear hf
     dsimp only
     rw [f27]
     clear f27
     generalize v 0=y0
     generalize v 1=y1
     generalize v 2=y2
     generalize v 3=y3
     generalize v 4=y4
     generalize v 5=y5
     generalize v 6=y6
     generalize v 7=y7
     generalize v 8=y8
     generalize v 9=y9
     generalize v 10=y10
     generalize v 11=y11
     generalize v 12=y12
     generalize v 13=y13
     generalize v 14=y14
     generalize v 15=y15
     generalize v 16=y16
     generalize v 17=y17
     generalize v 18=y18
     generalize v 19=y19
     generalize v 20=y20
     generalize v 21=y21
     generalize v 22=y22
     generalize v 23=y23
     generalize v 24=y24
     generalize v 25=y25
     generalize v 26=y26
     go_wp2_with fail
     go_ret
     exact ⟨rfl,Et HE.out g1⟩
   ·cases bh
    all_goals
     go_region_held3 (fun w'=>w'.cell? ⟨b8,0,none⟩=some (.slice a8 m.length c8)∧Below W3.heap.size W3 w') ((go_split_ands;refine ⟨(G8.out.below (by (repeat' (with_reducible first|assumption|apply Er|apply Ea|apply Ed|apply En|(refine Es ?_ (by first|(simp<;>omega)|omega) _)|refine Et ?_ (by assumption))))).c0,by (repeat' (with_reducible first|assumption|apply Er|apply Ea|apply Ed|apply En|(refine Es ?_ (by first|(simp<;>omega)|omega) _)|refine Et ?_ (by assumption)))⟩))
      (first|(go_at_call 19;first|((with_reducible refine (HH1.out _ (by go_split_ands;(repeat' (with_reducible first|assumption|apply Er|apply Ea|apply Ed|apply En|(refine Es ?_ (by first|(simp<;>omega)|omega) _)|refine Et ?_ (by assumption))))).mono ?_);rintro e u ⟨rfl,k⟩)|((rw [HWR.out]);(with_reducible refine (HH2.out _ (by go_split_ands;(repeat' (with_reducible first|assumption|apply Er|apply Ea|apply Ed|apply En|(refine Es ?_ (by first|(simp<;>omega)|omega) _)|refine Et ?_ (by assumption))))).mono ?_);rintro e u ⟨rfl,k⟩))|(go_at_call 26;(with_reducible refine (HFN.out _ (by go_split_ands;(repeat' (with_reducible first|assumption|apply Er|apply Ea|apply Ed|apply En|(refine Es ?_ (by first|(simp<;>omega)|omega) _)|refine Et ?_ (by assumption))))).mono ?_);rintro e u ⟨rfl,k⟩)|(go_at_call 25;(with_reducible refine (HEM.out _ (by go_split_ands;(repeat' (with_reducible first|assumption|apply Er|apply Ea|apply Ed|apply En|(refine Es ?_ (by first|(simp<;>omega)|omega) _)|refine Et ?_ (by assumption))))).mono ?_);rintro e u ⟨rfl,k⟩))
    all_goals
     go_wp2_with fail
     go_ret
     exact ⟨rfl,Et HE.out (by go_split_ands;(repeat' (with_reducible first|assumption|apply Er|apply Ea|apply Ed|apply En|(refine Es ?_ (by first|(simp<;>omega)|omega) _)|refine Et ?_ (by assumption))))⟩
end Go.Proofs.YthjnojbeimchdaaGreat
