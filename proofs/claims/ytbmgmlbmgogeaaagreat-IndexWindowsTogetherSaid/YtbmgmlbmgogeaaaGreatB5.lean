/- Part 5 of the proof of the laws. -/
import Derived.Test.YtbmgmlbmgogeaaaGreatB4
import Derived.Test.YtbmgmlbmgogeaaaGreatB1
import Derived.Laws.EntriesVeiled
import Derived.Deep.RegionLaw
import Derived.Lib.SliceRun
import Derived.ScopeJumps
import Derived.Test.YtbmgmlbmgogeaaaGreatB2
set_option linter.unusedVariables false
set_option linter.unusedSimpArgs false
set_option maxRecDepth 100000
set_option maxHeartbeats 4000000
section
variable {b:Bool}{F P a at_ d f r s step x y:Int}{m out:List (List Kal.Per)}{l:List Int}{L:List Go.Proofs.YtbmgmlbmgogeaaaGreat.PV}{t u:List Kal.Per}{cs xs:List Go.Value}{B base c cap g hi j k lo n sz:Nat}{row:Option Nat}{p q:Kal.Per}{h v v':Go.Value}{A C W W' w:Go.World}
namespace Go.Proofs.YtbmgmlbmgogeaaaGreat
section
open Go.RowKit Go.Maps Kal
def hasB (p:Per) (n:Int):Bool:=validB p && decide (0<=n) && bW p n
def inB (t:List Per) (n:Int):Bool:=t.all λp=>hasB p n
def gM (t:List Per):Bool:=decide (1<=t.length) && decide (t.length<=4) && t.all validB
def dU (m:List (List Per)):Bool:=decide (m.length<=64) && m.all gM
def oT (m:List (List Per)) (n:Int):Bool:=dU m && m.any λt=>inB t n
theorem WX {α:Type} (l:List α) (p:α->Bool):(!l.any λx=>!p x)=l.all p:=by
 induction l with
 | nil=>rfl
 | cons a l ih=>simp only [List.any_cons,List.all_cons,<- ih];cases p a <;> simp
theorem zd_ (F:Nat->Prop) (x:PV) (n:Int) (db:Nat) (w:World) (hx:bp w F x) (hc:w.cell? ⟨db,0,none⟩=some (.int .i64 n)) (hn:aP n) :
  Calls Tryz.prog 214 #[x.val,.pointer (some ⟨db,0,none⟩)] w λe w'=>e=.returned (.bool (!hasB x.p n))/\Below w.heap.size w w':=by
 have H:=λW (h:Below w.heap.size w W)=>za_ x.h x.c x.p n W (hx.is.ext h) hn;have hlt:=World.block_lt_of_cell? w _ hc;have e0:∀ o,(w.alloc o).cell? ⟨db,0,none⟩=some (.int .i64 n):=λo=>fy hc o;change ∀ W,_->Calls _ _ _ _ λe w'=>e=.returned (.bool (hasB x.p n))/\_ at H;clear hc hx;generalize hasB x.p n=b at H ⊢
 go_in
 go_wp2_with (go_at_call 215;refine (H _ xE).mono ?_;rintro e w1 ⟨rfl,hb1⟩)
 go_ret;exact ⟨rfl,xE⟩
theorem x9_ (F:Nat->Prop) (L:List PV) (n:Int) (db:Nat) (w:World) (hL:∀ x∈L,bp w F x) (hc:w.cell? ⟨db,0,none⟩=some (.int .i64 n)) (hn:aP n) :
  JZ 214 #[.pointer (some ⟨db,0,none⟩)] L (λx=>!hasB x.p n) w:=λW x hW hx=>by
 have h:=zd_ F x n db W ((hL x hx).keep (aN.below hW)) (al.cell hW hc) hn;have e:(#[x.val] ++ #[Value.pointer (some ⟨db,0,none⟩)])=#[x.val,.pointer (some ⟨db,0,none⟩)]:=by simp
 rw [e];exact h.mono λe w' ⟨h1,h2⟩=>⟨h1,hW.trans (h2.mono hW.size)⟩
theorem XE (F:Nat->Prop) (v:Value) (t:List Per) (n:Int) (w:World) (ht:bG w F v t) (hn:aP n) :
  Calls Tryz.prog 180 #[v,.int .i64 n] w λe w'=>e=.returned (.bool (inB t n))/\Below w.heap.size w w':=by
 obtain ⟨L,rfl,hL⟩:=ht;have hb0:Below w.heap.size w (w.alloc (.cells #[.int .i64 n] 3)):=by exact xE
 have h0:=Ul F v L (λx=>!hasB x.p n) 214 #[.pointer (some ⟨w.heap.size,0,none⟩)] (enters_of Tryz.func214 (by kernel_rfl) rfl) (w.alloc (.cells #[.int .i64 n] 3)) (hL.row.keep (aN.below hb0) hb0.size) hL.len
  (x9_ F L n w.heap.size _ (λx hx=>(hL.all x hx).keep (aN.below hb0)) ag hn)
 have he:inB (L.map PV.p) n=!(L.any λx=>!hasB x.p n):=by rw [WX];unfold inB;rw [List.all_map];rfl
 rw [he];clear hL he hb0;generalize (L.any λx=>!hasB x.p n)=b at h0 ⊢
 go_in
 go_wp2_with (go_at_call 90;refine h0.mono ?_;rintro e w1 ⟨rfl,hb1⟩)
 go_ret;exact ⟨rfl,xE⟩
theorem tr_ (F:Nat->Prop) (x:PV) (w:World) (hx:bp w F x) :
  Calls Tryz.prog 91 #[x.val] w λe w'=>e=.returned (.bool (!validB x.p))/\Below w.heap.size w w':=by
 have H:=λW (h:Below w.heap.size w W)=>qO x.h x.c x.p W (hx.is.ext h);clear hx;generalize validB x.p=b at H ⊢
 go_in
 go_wp2_with (go_at_call 92;refine (H _ xE).mono ?_;rintro e w1 ⟨rfl,hb1⟩)
 go_ret;exact ⟨rfl,xE⟩
theorem qp_ (F:Nat->Prop) (L:List PV) (w:World) (hL:∀ x∈L,bp w F x):JZ 91 #[] L (λx=>!validB x.p) w:=λW x hW hx=>by
 have h:=tr_ F x W ((hL x hx).keep (aN.below hW));have e:(#[x.val] ++ (#[]:Array Value))=#[x.val]:=by simp
 rw [e];exact h.mono λe w' ⟨h1,h2⟩=>⟨h1,hW.trans (h2.mono hW.size)⟩
theorem wk_ (F:Nat->Prop) (v:Value) (t:List Per) (w:World) (ht:bG w F v t) :
  Calls Tryz.prog 90 #[v,.func (.func 91) #[] #[]] w λe w'=>e=.returned (.bool (!t.all validB))/\Below w.heap.size w w':=by
 obtain ⟨L,rfl,hL⟩:=ht;have h:=Ul F v L (λx=>!validB x.p) 91 #[] (enters_of Tryz.func91 (by kernel_rfl) rfl) w hL.row hL.len (qp_ F L w hL.all);have he:(!(L.map PV.p).all validB)=L.any λx=>!validB x.p:=by
  rw [List.all_map,<- Bool.not_not (L.any _),WX];rfl
 rw [he];exact h
theorem P_ {α:Type} {l:List α} {d:α} {p:α->Bool} (h:k<l.length):(l.take (k+1)).all p=((l.take k).all p && p (l.getD k d)):=by
 rw [List.take_succ_eq_append_getElem h,List.all_append,List.getD_eq_getElem?_getD,List.getElem?_eq_getElem h];simp
theorem all_false {α:Type} {l:List α} {d:α} {p:α->Bool} (h:k<l.length) (hp:p (l.getD k d)=false):l.all p=false:=by
 rw [List.all_eq_false];exact ⟨_,dz (d:=d) h,by rw [hp];decide⟩
theorem bG.form {F:Nat->Prop} (h:bG W F v t):∃ a c,v=.slice a t.length c/\t.length<=17592186044416:=by
 obtain ⟨L,rfl,hL⟩:=h;obtain ⟨a,c,rfl,_⟩:=hL.row;exact ⟨a,c,by rw [List.length_map],by rw [List.length_map];exact hL.len⟩
theorem cE.get {F:Nat->Prop} {a:Option Addr} {L:List (Value × List Per)} (h:cE w F (.slice a n c) L) (hk:k<L.length) :
  ∃ b o tv,a=some ⟨b,o,none⟩/\w.cell? ⟨b,o+k,none⟩=some tv/\bG w F tv ((L.map Prod.snd).getD k []):=by
 obtain ⟨a',c',he,h1,h2,h3⟩:=h.row;injection he with e1 _ e2
 subst e1;subst e2;rcases h3 with h3|⟨b,o,rfl,hF,hl,hc⟩
 .omega
 refine ⟨b,o,(L.getD k default).1,rfl,hc k _ ?_,?_⟩
 .rw [List.getElem?_map,List.getD_eq_getElem?_getD,List.getElem?_eq_getElem hk];rfl
 have:=h.all _ (dz (d:=default) hk);rw [show (L.map Prod.snd).getD k []=(L.getD k default).2 by simp [List.getD_eq_getElem?_getD,hk]];exact this
theorem sI (F:Nat->Prop) (v:Value) (m:List (List Per)) (w:World) (hm:aA w F v m) :
  Calls Tryz.prog 49 #[.agg #[v]] w λe w'=>e=.returned (.bool (dU m))/\Below w.heap.size w w':=by
 obtain ⟨L,zC,hL⟩:=hm;obtain ⟨a,c,rfl,_⟩:=hL.row;have HL:=ad hL;have hlen:=hL.len;have dt:m.length=L.length:=by rw [<- zC];exact List.length_map _
 have qo:=ad zC;have HM:=ad dt;clear hL zC dt
 go_in
 go_wp2_with fail
 .rename_i I1;go_ret;refine ⟨bT ?_,xE⟩;have:=HM.o;unfold dU;rw [decide_eq_false aa];rfl
 rename_i I1;go_loopw [4,12] (λ_ i wr=>∃ k:Nat,k<=L.length/\i=.int .i64 k/\(m.take k).all gM=true/\Below w.heap.size w wr) (λ_ i _=>L.length-(intOf i).toNat)
 .exact ⟨0,aa,rfl,rfl,xE⟩
 obtain ⟨k,hk,rfl,hpre,hb⟩:=hrel;have HB:=ad hb;have cM:=ad hpre;clear hpre;by_cases hlt:k<L.length
 .have dh:(k:Int)<L.length:=aa;obtain ⟨b8,f8,tv,rfl,hcell,hT⟩:=(HL.o.keep (aN.below hb) hb.size).get hlt;rw [qo.o] at hT;have HT:=ad hT;have gY:Hid ((m.take (k+1)).all gM=((m.take k).all gM && gM (m.getD k []))):=ad (P_ (by have:=HM.o;omega));have HF:Hid (gM (m.getD k [])=false->dU m=false):=ad λh=>by unfold dU;rw [all_false (d:=[]) (by have:=HM.o;omega) h,Bool.and_false]
  generalize m.getD k []=t at *;obtain ⟨a2,c2,rfl,Pv⟩:=hT.form;have xQ:=λW h=>wk_ F _ t W (HT.o.ext h);clear hT;by_cases h1:t.length<1
  .have IA:(t.length:Int)<1:=aa;go_wp2;go_ret;refine ⟨bT (HF.o ?_).symm,HB.o⟩;unfold gM;rw [decide_eq_false aa];rfl
  by_cases h2:4<t.length
  .have Nw:4<(t.length:Int):=aa;go_wp2;go_ret;refine ⟨bT (HF.o ?_).symm,HB.o⟩;unfold gM;rw [decide_eq_false (p:=t.length<=4) aa,Bool.and_false];rfl
  have IA:¬ (t.length:Int)<1:=aa;have Nw:¬ 4<(t.length:Int):=aa;cases hq:t.all validB with
  | false=>
   rw [hq] at xQ;have HQ:=ad hq;clear hq;go_wp2_with (go_at_call 90;refine (xQ _ xE).mono ?_;rintro e w1 ⟨rfl,hb1⟩);go_ret;refine ⟨bT (HF.o ?_).symm,xE⟩;unfold gM;rw [HQ.o,Bool.and_false]
  | true=>
   rw [hq] at xQ;have HQ:=ad hq;clear hq;go_wp2_with (go_at_call 90;refine (xQ _ xE).mono ?_;rintro e w1 ⟨rfl,hb1⟩);go_roundw
   .refine ⟨k+1,aa,by go_num,?_,xE⟩;rw [gY.o,cM.o];unfold gM;rw [HQ.o,decide_eq_true aa,decide_eq_true aa];rfl
   simp [intOf];omega
 obtain rfl:k=L.length:=aa;go_wp2;go_ret;refine ⟨bT ?_,HB.o⟩;have:=cM.o;rw [<- HM.o,List.take_length] at this;unfold dU;rw [this,decide_eq_true (by have:=HM.o;omega)];rfl
end
end Go.Proofs.YtbmgmlbmgogeaaaGreat
namespace Kal
section
theorem q5_ {a b d:Nat} (nY:0<d) (hd:d∣Nat.lcm a b):d∣Nat.lcm (Nat.gcd d a) (Nat.gcd d b):=by
 have hg:0<Nat.gcd (Nat.gcd d a) (Nat.gcd d b):=Nat.gcd_pos_of_pos_left _ (Nat.gcd_pos_of_pos_left _ nY);have e1:Nat.gcd (Nat.gcd d a) (Nat.gcd d b)*Nat.lcm (Nat.gcd d a) (Nat.gcd d b)=Nat.gcd d a*Nat.gcd d b:=Nat.gcd_mul_lcm _ _;refine Nat.dvd_of_mul_dvd_mul_left hg ?_;rw [e1];have g1:Nat.gcd (Nat.gcd d a) (Nat.gcd d b)∣d:=Nat.dvd_trans (Nat.gcd_dvd_left _ _) (Nat.gcd_dvd_left _ _);have g2:Nat.gcd (Nat.gcd d a) (Nat.gcd d b)∣a:=Nat.dvd_trans (Nat.gcd_dvd_left _ _) (Nat.gcd_dvd_right _ _);have g3:Nat.gcd (Nat.gcd d a) (Nat.gcd d b)∣b:=Nat.dvd_trans (Nat.gcd_dvd_right _ _) (Nat.gcd_dvd_right _ _);generalize Nat.gcd (Nat.gcd d a) (Nat.gcd d b)=g at *;rw [<- Nat.gcd_mul_left];refine Nat.dvd_gcd ?_ ?_
 .rw [Nat.mul_comm (Nat.gcd d a),Nat.mul_comm g];exact Nat.mul_dvd_mul_left _ (Nat.dvd_gcd g1 g2)
 rw [<- Nat.gcd_mul_right];refine Nat.dvd_gcd ?_ ?_
 .rw [Nat.mul_comm g];exact Nat.mul_dvd_mul_left _ g3
 have h:=Nat.mul_dvd_mul (Nat.dvd_gcd g2 g3) hd;rwa [Nat.gcd_mul_lcm] at h
def cK (l:List Nat):Nat:=l.foldr Nat.lcm 1
theorem Qp:∀ {l:List Nat},(∀ a∈l,0<a)->0<cK l
 | [],_=>by decide
 | a :: l,h=>Nat.lcm_pos (h a ag) (Qp λb hb=>h b (by simp [hb]))
theorem Qo:∀ {l:List Nat} {a:Nat},a∈l->a∣cK l
 | b :: l,a,h=>by
  rcases List.mem_cons.1 h with rfl|h
  .exact Nat.dvd_lcm_left _ _
  exact Nat.dvd_trans (Qo h) (Nat.dvd_lcm_right _ _)
theorem Uu {m z:Nat} (hm:0<m):∀ {l:List Nat},(∀ a∈l,Nat.gcd m a∣z)->Nat.gcd m (cK l)∣z
 | [],_=>by simp [cK]
 | a :: l,h=>by
  have ih:=Uu hm (l:=l) λb hb=>h b (by simp [hb]);have ha:=h a ag;have nY:0<Nat.gcd m (cK (a :: l)):=Nat.gcd_pos_of_pos_left _ hm;have hd:Nat.gcd m (cK (a :: l))∣Nat.lcm a (cK l):=Nat.gcd_dvd_right _ _;have pQ:Nat.gcd m (cK (a :: l))∣m:=Nat.gcd_dvd_left _ _;generalize Nat.gcd m (cK (a :: l))=d at *;refine Nat.dvd_trans (q5_ nY hd) (Nat.lcm_dvd (Nat.dvd_trans ?_ ha) (Nat.dvd_trans ?_ ih))
  .exact Nat.dvd_gcd (Nat.dvd_trans (Nat.gcd_dvd_left _ _) pQ) (Nat.gcd_dvd_right _ _)
  exact Nat.dvd_gcd (Nat.dvd_trans (Nat.gcd_dvd_left _ _) pQ) (Nat.gcd_dvd_right _ _)
theorem uf {m:Int} (h:x % m=y % m):m∣x-y:=Int.dvd_of_emod_eq_zero (Int.emod_eq_emod_iff_emod_sub_eq_zero.1 h)
theorem uh {m:Int} (h:m∣x-y):x % m=y % m:=Int.emod_eq_emod_iff_emod_sub_eq_zero.2 (Int.emod_eq_zero_of_dvd h)
theorem Wc:∀ (l:List (Int × Int)),(∀ x∈l,1<=x.1)->l.Pairwise (λx y=>((Int.gcd x.1 y.1:Nat):Int)∣x.2-y.2)->∃ n:Int,∀ x∈l,n % x.1=x.2 % x.1
 | [],_,_=>⟨0,ag⟩
 | (m,r) :: l,h,hp=>by
  obtain ⟨n,hn⟩:=Wc l (λx hx=>h x (by simp [hx])) (List.pairwise_cons.1 hp).2;have hm:1<=m:=h (m,r) ag;have hL:0<cK (l.map λx=>x.1.natAbs):=Qp λa ha=>by
   obtain ⟨x,hx,rfl⟩:=List.mem_map.1 ha;have:=h x (by simp [hx]);omega
  have key:Nat.gcd m.natAbs (cK (l.map λx=>x.1.natAbs))∣(r-n).natAbs:=Uu aa λa ha=>by
   obtain ⟨x,hx,rfl⟩:=List.mem_map.1 ha;have h1:((Int.gcd m x.1:Nat):Int)∣r-x.2:=(List.pairwise_cons.1 hp).1 x hx;have h2:x.1∣n-x.2:=uf (hn x hx);have h3:((Int.gcd m x.1:Nat):Int)∣n-x.2:=Int.dvd_trans (Int.gcd_dvd_right _ _) h2;have h4:((Int.gcd m x.1:Nat):Int)∣r-n:=by
    have:=Int.dvd_sub h1 h3;rwa [show r-x.2-(n-x.2)=r-n from by omega] at this
   exact Int.natCast_dvd_natCast.1 (Int.dvd_natAbs.2 h4)
  have AP:r % (Int.gcd m (cK (l.map λx=>x.1.natAbs)):Nat)=n % (Int.gcd m (cK (l.map λx=>x.1.natAbs)):Nat):=uh (Int.dvd_natAbs.1 (Int.natCast_dvd_natCast.2 (by simpa [Int.gcd] using key)));obtain ⟨v,hv⟩:∃ v,uA r m n (cK (l.map λx=>x.1.natAbs)) v:=⟨_,Hy hm aa AP⟩;refine ⟨v,λx hx=>?_⟩;rcases List.mem_cons.1 hx with rfl|hx
  .exact hv.2.2.1
  rw [<- hn x hx];have h5:((cK (l.map λx=>x.1.natAbs):Nat):Int)∣v-n:=uf hv.2.2.2;have h6:x.1∣((cK (l.map λx=>x.1.natAbs):Nat):Int):=by
   have h7:x.1.natAbs∣cK (l.map λx=>x.1.natAbs):=Qo (List.mem_map.2 ⟨x,hx,rfl⟩);exact Int.natAbs_dvd.1 (Int.natCast_dvd_natCast.2 h7)
  exact uh (Int.dvd_trans h6 h5)
def ba (t:List Per) (n:Int):Prop:=∀ p∈t,p.mem n
def aT (m:List (List Per)) (n:Int):Prop:=∃ t∈m,ba t n
def kI (a:Int) (t:List Per):Int:=t.foldl (λa p=>max a p.frm) a
def fH (t:List Per):Int:=kI 0 t
theorem VY:∀ (t:List Per) (a:Int),a<=kI a t/\∀ p∈t,p.frm<=kI a t
 | [],a=>⟨Int.le_refl _,ag⟩
 | q :: t,a=>by
  obtain ⟨h1,h2⟩:=VY t (max a q.frm);refine ⟨by show a<=kI (max a q.frm) t;omega,λp hp=>?_⟩;show p.frm<=kI (max a q.frm) t;rcases List.mem_cons.1 hp with rfl|hp
  .omega
  exact h2 p hp
theorem P6:∀ (t:List Per) (a:Int),kI a t=a\/∃ p∈t,kI a t=p.frm
 | [],a=>.inl rfl
 | q :: t,a=>by
  rcases P6 t (max a q.frm) with h|⟨p,hp,h⟩
  .by_cases hq:q.frm<=a
   .left;show kI (max a q.frm) t=a;omega
   right;exact ⟨q,ag,by show kI (max a q.frm) t=q.frm;omega⟩
  exact .inr ⟨p,by simp [hp],h⟩
theorem Ek:0<=fH t/\∀ p∈t,p.frm<=fH t:=VY t 0
theorem nb_ {b:Int} (h0:a<=b) (h:∀ p∈t,p.frm<=b):kI a t<=b:=by
 rcases P6 t a with h1|⟨p,hp,h1⟩
 .omega
 have:=h p hp;omega
def cA (p:Per) (c:Int):Int:=(p.frm % p.period+c) % p.period
theorem JB (h:p.WF) {n:Int} (hn:p.frm<=n):p.mem n↔∃ c∈p.cycle,n % p.period=cA p c:=by
 have h0:=h.frm;have h1:=h.per;rw [Per.mem_hi aa hn];constructor
 .intro hm;refine ⟨_,hm,?_⟩;unfold cA;rw [<- Int.add_emod,show p.frm+(n-p.frm)=n from by omega]
 rintro ⟨c,hc,he⟩;have hb:=h.cyc.2 c hc;unfold cA at he;rw [show (p.frm % p.period+c) % p.period=(p.frm+c) % p.period from by rw [Int.add_emod,Int.emod_emod,<- Int.add_emod]] at he;have hd:(n-p.frm) % p.period=c:=by
  have h2:p.period∣n-(p.frm+c):=uf he;have h3:(n-p.frm) % p.period=c % p.period:=uh (by rw [show n-p.frm-c=n-(p.frm+c) from by omega];exact h2);rw [h3,Int.emod_eq_of_lt hb.1 hb.2]
 rw [hd];exact hc
theorem JJ (h:p.WF) (c:Int):0<=cA p c/\cA p c<p.period:=
 ⟨Int.emod_nonneg _ (by have:=h.per;omega),Int.emod_lt_of_pos _ (by have:=h.per;omega)⟩
def GH (done:List (Int × Int)) (P r:Int):Prop:=∀ x∈done,(r-x.2) % ((Int.gcd P x.1:Nat):Int)=0
def al:List (Int × Int)->List Per->Prop
 | _,[]=>True
 | done,p :: t=>∃ c∈p.cycle,GH done p.period (cA p c)/\al (done ++ [(p.period,cA p c)]) t
theorem XC {n:Int}:∀ (t:List Per) (done:List (Int × Int)),(∀ x∈done,x.2=n % x.1)->(∀ p∈t,p.WF/\p.frm<=n/\p.mem n)->al done t
 | [],_,_,_=>trivial
 | p :: t,done,hd,ht=>by
  obtain ⟨hw,hf,hm⟩:=ht p ag;obtain ⟨c,hc,he⟩:=(JB hw hf).1 hm;refine ⟨c,hc,λx hx=>?_,XC t _ (λx hx=>?_) (λq hq=>ht q (by simp [hq]))⟩
  .rw [hd x hx,<- he];have h1:((Int.gcd p.period x.1:Nat):Int)∣n % p.period-n:=by
    have:=Int.emod_add_mul_ediv n p.period;refine Int.dvd_trans (Int.gcd_dvd_left _ _) ⟨-(n / p.period),?_⟩;rw [Int.mul_neg];omega
   have h2:((Int.gcd p.period x.1:Nat):Int)∣n % x.1-n:=by
    have:=Int.emod_add_mul_ediv n x.1;refine Int.dvd_trans (Int.gcd_dvd_right _ _) ⟨-(n / x.1),?_⟩;rw [Int.mul_neg];omega
   have:=Int.dvd_sub h1 h2;exact Int.emod_eq_zero_of_dvd (by rwa [show n % p.period-n-(n % x.1-n)=n % p.period-n % x.1 from by omega] at this)
  rcases List.mem_append.1 hx with hx|hx
  .exact hd x hx
  obtain rfl:x=(p.period,cA p c):=by simpa using hx
  exact he.symm
theorem XP:∀ (t:List Per) (done:List (Int × Int)),al done t->done.Pairwise (λx y=>((Int.gcd x.1 y.1:Nat):Int)∣x.2-y.2)->(∀ x∈done,1<=x.1)->(∀ p∈t,1<=p.period)->
  ∃ L:List (Int × Int),L.Pairwise (λx y=>((Int.gcd x.1 y.1:Nat):Int)∣x.2-y.2)/\(∀ x∈L,1<=x.1)/\(∀ x∈done,x∈L)/\∀ p∈t,∃ c∈p.cycle,(p.period,cA p c)∈L
 | [],done,_,hp,h1,_=>⟨done,hp,h1,λx hx=>hx,ag⟩
 | p :: t,done,⟨c,hc,ha,he⟩,hp,h1,h2=>by
  obtain ⟨L,l1,l2,l3,l4⟩:=XP t _ he (List.pairwise_append.2 ⟨hp,List.pairwise_singleton _ _,λx hx y hy=>by
   obtain rfl:y=(p.period,cA p c):=by simpa using hy
   have h3:=Int.dvd_of_emod_eq_zero (ha x hx);rw [Int.gcd_comm];have h4:=Int.dvd_neg.2 h3;rwa [show -(cA p c-x.2)=x.2-cA p c from by omega] at h4⟩) (λx hx=>by
   rcases List.mem_append.1 hx with hx|hx
   .exact h1 x hx
   obtain rfl:x=(p.period,cA p c):=by simpa using hx
   exact h2 p ag) (λq hq=>h2 q (by simp [hq]))
  refine ⟨L,l1,l2,λx hx=>l3 x (by simp [hx]),λq hq=>?_⟩;rcases List.mem_cons.1 hq with rfl|hq
  .exact ⟨c,hc,l3 _ ag⟩
  exact l4 q hq
def lK (t:List Per):Prop:=∃ n,fH t<=n/\ba t n
theorem Xp (hw:∀ p∈t,p.WF):al [] t↔lK t:=by
 constructor
 .intro h;obtain ⟨L,l1,l2,_,l4⟩:=XP t [] h List.Pairwise.nil ag (λp hp=>(hw p hp).per);obtain ⟨n,hn⟩:=Wc L l2 l1;have hL:0<cK (L.map λx=>x.1.natAbs):=Qp λa ha=>by
   obtain ⟨x,hx,rfl⟩:=List.mem_map.1 ha;have:=l2 x hx;omega
  obtain ⟨k,hk,_⟩:=Nf (cK (L.map λx=>x.1.natAbs)) (fH t-n) aa;refine ⟨n+k*(cK (L.map λx=>x.1.natAbs):Nat),aa,λp hp=>?_⟩;have hs:=(Ek (t:=t)).2 p hp;obtain ⟨c,hc,hm⟩:=l4 p hp;refine (JB (hw p hp) aa).2 ⟨c,hc,?_⟩;have h1:=hn _ hm;have h2:p.period∣((cK (L.map λx=>x.1.natAbs):Nat):Int):=by
   have h7:p.period.natAbs∣cK (L.map λx=>x.1.natAbs):=Qo (List.mem_map.2 ⟨_,hm,rfl⟩);exact Int.natAbs_dvd.1 (Int.natCast_dvd_natCast.2 h7)
  have h3:=JJ (hw p hp) c;rw [Int.emod_eq_of_lt h3.1 h3.2] at h1;rw [<- h1];exact uh (by rw [show n+(k:Int)*(cK (L.map λx=>x.1.natAbs):Nat)-n=k*(cK (L.map λx=>x.1.natAbs):Nat) from by omega];exact Int.dvd_trans h2 (Int.dvd_mul_left _ _))
 rintro ⟨n,h1,h2⟩;exact XC t [] ag λp hp=>⟨hw p hp,by have:=(Ek (t:=t)).2 p hp;omega,h2 p hp⟩
theorem UR (hne:t≠[]) {n:Int} (h:ba t n):0<=n:=by
 cases t with
 | nil=>exact absurd rfl hne
 | cons p t=>exact (h p ag).1
theorem sa_ (hne:t≠[]) {n:Int} (h:ba t n) (hn:n<fH t):∃ p∈t,n∈p.head:=by
 have h0:=UR hne h;rcases P6 t 0 with h1|⟨p,hp,h1⟩
 .have:fH t=0:=h1;omega
 have h2:fH t=p.frm:=h1;exact ⟨p,hp,(Per.mem_lo h0 aa).1 (h p hp)⟩
theorem sl_ (hw:∀ p∈t,p.WF) (hp:p∈t) {n:Int} (h:n∈p.head):n<fH t:=by
 have h1:=(hw p hp).head.2 n h;have h2:=(Ek (t:=t)).2 p hp;omega
def jk (t:List Per):Prop:=∀ n,¬ ba t n
theorem rv_:jk t↔(∀ n,n<fH t->¬ ba t n)/\¬ lK t:=by
 constructor
 .exact λh=>⟨λn _=>h n,λ⟨n,_,hn⟩=>h n hn⟩
 rintro ⟨h1,h2⟩ n hn;by_cases h:n<fH t
 .exact h1 n h hn
 exact h2 ⟨n,aa,hn⟩
instance:Inhabited Per:=⟨⟨[],0,0,[]⟩⟩
noncomputable def canonC (S:Int->Prop):Per:=Classical.epsilon λc=>bP c S
theorem Ec {S:Int->Prop} (h:∃ c,bP c S):bP (canonC S) S:=Classical.epsilon_spec h
theorem u7_ {S:Int->Prop} {c:Per} (h:bP c S):canonC S=c:=(Ec ⟨c,h⟩).unique h
theorem M_ {S:Int->Prop} (hf:0<=f) (hd:1<=d) (BO:∀ n,S n->0<=n) (hp:cH S f d):∃ c,bP c S:=by
 have h:=Ic (S:=S) (f:=f) (d:=d) (hl:=bC S 0 f) (cl:=bC (λn=>S (f+n)) 0 d) hf hd BO hp (ff (Int.le_refl _)) (ff (Int.le_refl _))
  (λn h1 h2=>by rw [dN (Int.le_refl _)];exact ⟨λh=>h.2.2,λh=>⟨h1,h2,h⟩⟩) (λn h1 h2=>by rw [dN (Int.le_refl _)];exact ⟨λh=>h.2.2,λh=>⟨h1,h2,h⟩⟩)
 obtain ⟨q,hq⟩:=Uv h.1;exact ⟨q,hq.congr h.2⟩
structure dK (s:Int) (p:Per):Prop where
 wf:p.WF
 low:∀ n,p.mem n->s<=n
 frm:p.frm<=s+9
 dvd:p.period∣27720
theorem dK.per (h:dK s p):p.period<=27720:=Int.le_of_dvd aF h.dvd
theorem Ir {S:Int->Prop} {c:Per} (h:bP c S) (fo:∀ n,S n->s<=n) (hf:0<=f) (Tx:f<=s+9) (hd:1<=d) (BU:d∣27720) (hp:cH S f d):dK s c:=
 ⟨h.wf,λn hn=>fo n ((h.mem n).1 hn),Int.le_trans (h.frm_le hf hd hp) Tx,Int.dvd_trans (h.dvd hd hp.ev) BU⟩
theorem dK.canon (h:dK s p):bP (canonC p.mem) p.mem/\dK s (canonC p.mem):=by
 have h1:=Ec (Uv h.wf);exact ⟨h1,Ir h1 h.low h.wf.frm h.frm h.wf.per h.dvd h.wf.pfrom⟩
theorem dK.op (hp:dK s p) (hq:dK s q) {U:Int->Prop} (g:Prop->Prop->Prop) (hU:∀ n,U n↔g (p.mem n) (q.mem n)) (fo:∀ n,U n->s<=n) (h0:∀ n,U n->0<=n):bP (canonC U) U/\dK s (canonC U)/\cH U (max p.frm q.frm) (aS p.period q.period)/\aS p.period q.period∣27720:=by
 have a1:=hp.wf.per;have b1:=hq.wf.per;have f1:=hp.wf.frm;have hl:=yX a1 b1;have BU:aS p.period q.period∣27720:=by
  rw [Xg a1 b1];have h1:p.period.natAbs∣27720:=Int.natAbs_dvd_natAbs.2 hp.dvd;have h2:q.period.natAbs∣27720:=Int.natAbs_dvd_natAbs.2 hq.dvd;exact Int.natCast_dvd_natCast.2 (Nat.lcm_dvd h1 h2)
 have gS:cH U (max p.frm q.frm) (aS p.period q.period):=((hp.wf.pfrom.mono (show p.frm<=max p.frm q.frm by omega)).of_dvd a1 hl DX).op ((hq.wf.pfrom.mono (show q.frm<=max p.frm q.frm by omega)).of_dvd b1 hl Hv) g (λn _=>hU n) aa;have hc:=Ec (M_ (show 0<=max p.frm q.frm by omega) hl h0 gS);exact ⟨hc,Ir hc fo aa (by have:=hp.frm;have:=hq.frm;omega) hl BU gS,gS,BU⟩
noncomputable def kZ (p q:Per):Per:=canonC λn=>p.mem n/\q.mem n
noncomputable def vG (p q:Per):Per:=canonC λn=>p.mem n\/q.mem n
theorem dK.and (hp:dK s p) (hq:dK s q):bP (kZ p q) (λn=>p.mem n/\q.mem n)/\dK s (kZ p q):=by
 have h:=hp.op hq And (λn=>Iff.rfl) (λn h=>hp.low n h.1) (λn h=>h.1.1);exact ⟨h.1,h.2.1⟩
theorem dK.or (hp:dK s p) (hq:dK s q):bP (vG p q) (λn=>p.mem n\/q.mem n)/\dK s (vG p q):=by
 have h:=hp.op hq Or (λn=>Iff.rfl) (λn h=>h.elim (hp.low n) (hq.low n)) (λn h=>h.elim (λh=>h.1) (λh=>h.1));exact ⟨h.1,h.2.1⟩
structure wm (P:Nat->Nat->Prop) (n i j:Nat):Prop where
 lt:i<j
 lim:j<n
 is:P i j
 rows:∀ i' j',i'<i->i'<j'->j'<n->¬ P i' j'
 row:∀ j',i<j'->j'<j->¬ P i j'
def GC (P:Nat->Nat->Prop) (n:Nat):Prop:=∀ i j,i<j->j<n->¬ P i j
theorem wm.unique {P:Nat->Nat->Prop} {i i' j':Nat} (h:wm P n i j) (g:wm P n i' j'):i=i'/\j=j':=by
 have hi:i=i':=by
  rcases Nat.lt_trichotomy i i' with h1|h1|h1
  .exact absurd h.is (g.rows i j h1 h.lt h.lim)
  .exact h1
  exact absurd g.is (h.rows i' j' h1 g.lt g.lim)
 subst hi;refine ⟨rfl,?_⟩;rcases Nat.lt_trichotomy j j' with h1|h1|h1
 .exact absurd h.is (g.row j h.lt h1)
 .exact h1
 exact absurd g.is (h.row j' g.lt h1)
theorem wm.no {P:Nat->Nat->Prop} {i:Nat} (h:wm P n i j) (g:GC P n):False:=g i j h.lt h.lim h.is
def js (p q:Per):Bool:=p.period % q.period == 0 || q.period % p.period == 0
def Av (t:List Per) (i j:Nat):Prop:=js (t.getD i default) (t.getD j default)=true
noncomputable def uj (t:List Per) (i j:Nat):List Per:=(t.set i (kZ (t.getD i default) (t.getD j default))).eraseIdx j
inductive mK:List Per->List Per->Prop
 | done {t:List Per} (h:GC (Av t) t.length):mK t t
 | step {t u:List Per} {i j:Nat} (h:wm (Av t) t.length i j) (hu:mK (uj t i j) u):mK t u
theorem mK.unique {v:List Per} (h:mK t u) (g:mK t v):u=v:=by
 induction h generalizing v with
 | done h=>
  cases g with
  | done _=>rfl
  | step g _=>exact (g.no h).elim
 | step h _ ih=>
  cases g with
  | done g=>exact (h.no g).elim
  | step g gu=>
   obtain ⟨rfl,rfl⟩:=h.unique g;exact ih gu
structure eD (s:Int) (p:Per):Prop where
 fac:dK s p
 can:bP p p.mem
theorem eD.canonC (h:eD s p):Kal.canonC p.mem=p:=u7_ h.can
theorem dK.ccanon (h:dK s p):eD s (Kal.canonC p.mem):=⟨h.canon.2,h.canon.1.congr λn=>(h.canon.1.mem n).symm⟩
theorem dK.cand (hp:dK s p) (hq:dK s q):eD s (kZ p q):=⟨(hp.and hq).2,(hp.and hq).1.congr λn=>((hp.and hq).1.mem n).symm⟩
theorem dK.cor (hp:dK s p) (hq:dK s q):eD s (vG p q):=⟨(hp.or hq).2,(hp.or hq).1.congr λn=>((hp.or hq).1.mem n).symm⟩
theorem pC {α:Type} {l:List α} {i:Nat} {d:α} (h:i<l.length):l.getD i d∈l:=by
 rw [List.getD_eq_getElem?_getD,List.getElem?_eq_getElem h];exact List.getElem_mem h
theorem Ng {α:Type} {l:List α} {i:Nat} {v x:α} (h:x∈(l.set i v).eraseIdx j):x=v\/x∈l:=by
 have h1:=List.mem_of_mem_eraseIdx h;rcases List.mem_or_eq_of_mem_set h1 with h2|h2
 .exact .inr h2
 exact .inl h2
theorem yT {α:Type} {l:List α} {i:Nat} {d:α} (gD:i<j) (hj:j<l.length) (v:α) (x:α):x∈(l.set i v).eraseIdx j↔x=v\/∃ k,k<l.length/\k≠i/\k≠j/\x=l.getD k d:=by
 rw [List.mem_eraseIdx_iff_getElem];constructor
 .rintro ⟨k,hk,hkj,rfl⟩;rw [List.length_set] at hk;by_cases e:k=i
  .subst e;left;rw [List.getElem_set_self]
  right;exact ⟨k,hk,e,hkj,by rw [List.getElem_set_ne (λh=>e h.symm),List.getD_eq_getElem?_getD,List.getElem?_eq_getElem hk];rfl⟩
 rintro (rfl|⟨k,hk,h1,h2,rfl⟩)
 .exact ⟨i,by rw [List.length_set];omega,aa,by rw [List.getElem_set_self]⟩
 exact ⟨k,by rw [List.length_set];exact hk,h2,by rw [List.getElem_set_ne (λh=>h1 h.symm),List.getD_eq_getElem?_getD,List.getElem?_eq_getElem hk];rfl⟩
theorem Uy {α:Type} {l:List α} {d x:α}:x∈l↔∃ k,k<l.length/\x=l.getD k d:=by
 rw [List.mem_iff_getElem];constructor
 .rintro ⟨k,hk,rfl⟩;exact ⟨k,hk,by rw [List.getD_eq_getElem?_getD,List.getElem?_eq_getElem hk];rfl⟩
 rintro ⟨k,hk,rfl⟩;exact ⟨k,hk,by rw [List.getD_eq_getElem?_getD,List.getElem?_eq_getElem hk];rfl⟩
theorem Ti {i:Nat} (h:j<t.length):(uj t i j).length=t.length-1:=by
 unfold uj;rw [List.length_eraseIdx,List.length_set,if_pos h]
theorem qa_ {i:Nat} (gD:i<j) (hj:j<t.length) (hf:∀ p∈t,dK s p) (n:Int):ba (uj t i j) n↔ba t n:=by
 have fi:=hf _ (pC (d:=default) (show i<t.length by omega));have fj:=hf _ (pC (d:=default) hj);have hc:=(fi.and fj).1;unfold ba uj;constructor
 .intro h p hp;obtain ⟨k,hk,rfl⟩:=(Uy (d:=default)).1 hp;have h1:=(hc.mem n).1 (h _ ((yT (d:=default) gD hj _ _).2 (.inl rfl)));by_cases e1:k=i
  .subst e1;exact h1.1
  by_cases e2:k=j
  .subst e2;exact h1.2
  exact h _ ((yT (d:=default) gD hj _ _).2 (.inr ⟨k,hk,e1,e2,rfl⟩))
 intro h p hp;rcases (yT (d:=default) gD hj _ _).1 hp with rfl|⟨k,hk,_,_,rfl⟩
 .exact (hc.mem n).2 ⟨h _ (pC aa),h _ (pC hj)⟩
 exact h _ (pC hk)
theorem q9_ {i:Nat} (gD:i<j) (hj:j<t.length) (hf:∀ p∈t,eD s p):∀ p∈uj t i j,eD s p:=λp hp=>by
 rcases Ng hp with rfl|hp
 .exact (hf _ (pC aa)).fac.cand (hf _ (pC hj)).fac
 exact hf p hp
theorem mK.ok (h:mK t u) (hf:∀ p∈t,eD s p):(∀ p∈u,eD s p)/\(∀ n,ba u n↔ba t n)/\u.length<=t.length/\(t≠[]->u≠[]):=by
 induction h with
 | done h=>exact ⟨hf,λn=>Iff.rfl,Nat.le_refl _,id⟩
 | @step t u i j h _ ih=>
  have h1:=q9_ h.lt h.lim hf;obtain ⟨a,b,c,d⟩:=ih h1;have hl:=Ti (t:=t) (i:=i) h.lim;refine ⟨a,λn=>(b n).trans (qa_ h.lt h.lim (λp hp=>(hf p hp).fac) n),aa,λ_=>d λe=>?_⟩;rw [e] at hl;have:=h.lt;have:=h.lim;simp at hl;omega
def zS (s:Int) (t:List Per):Prop:=t≠[]/\∀ p∈t,eD s p
def pJ (s:Int) (t:List Per):Prop:=t≠[]/\∀ p∈t,dK s p
def oM (t u:List Per):Prop:=mK (t.map λp=>canonC p.mem) u
theorem oM.unique {v:List Per} (h:oM t u) (g:oM t v):u=v:=mK.unique h g
theorem oM.ok (h:oM t u) (hf:pJ s t):zS s u/\(∀ n,ba u n↔ba t n)/\u.length<=t.length:=by
 obtain ⟨h1,h2,h3,h4⟩:=mK.ok h (s:=s) λp hp=>by
  obtain ⟨q,hq,rfl⟩:=List.mem_map.1 hp;exact (hf.2 q hq).ccanon
 refine ⟨⟨h4 λe=>hf.1 (List.map_eq_nil_iff.1 e),h1⟩,λn=>(h2 n).trans ?_,by simpa using h3⟩;unfold ba;constructor
 .intro h p hp;exact ((hf.2 p hp).canon.1.mem n).1 (h _ (List.mem_map.2 ⟨p,hp,rfl⟩))
 intro h p hp;obtain ⟨q,hq,rfl⟩:=List.mem_map.1 hp;exact ((hf.2 q hq).canon.1.mem n).2 (h q hq)
inductive g_:List (List Per)->List (List Per)->Prop
 | nil:g_ [] []
 | skip {t u:List Per} {L l:List (List Per)} (h:oM t u) (hb:jk u) (hl:g_ L l):g_ (t :: L) l
 | keep {t u:List Per} {L l:List (List Per)} (h:oM t u) (hb:¬ jk u) (hl:g_ L l):g_ (t :: L) (u :: l)
theorem g_.app {L l L' l':List (List Per)} (h:g_ L l) (g:g_ L' l'):g_ (L ++ L') (l ++ l'):=by
 induction h with
 | nil=>exact g
 | skip h hb _ ih=>exact .skip h hb ih
 | keep h hb _ ih=>exact .keep h hb ih
theorem g_.skip1 {L l:List (List Per)} (h:g_ L l) (g:oM t u) (hb:jk u):g_ (L ++ [t]) l:=by
 have:=h.app (.skip g hb .nil);rwa [List.append_nil] at this
theorem g_.keep1 {L l:List (List Per)} (h:g_ L l) (g:oM t u) (hb:¬ jk u):g_ (L ++ [t]) (l ++ [u]):=h.app (.keep g hb .nil)
theorem g_.unique {L l:List (List Per)} (h:g_ L l) (g:g_ L m):l=m:=by
 induction h generalizing m with
 | nil=>cases g;rfl
 | skip h hb _ ih=>
  cases g with
  | skip g gb gl=>exact ih gl
  | keep g gb gl=>rw [h.unique g] at hb;exact absurd hb gb
 | keep h hb _ ih=>
  cases g with
  | skip g gb gl=>rw [h.unique g] at hb;exact absurd gb hb
  | keep g gb gl=>rw [h.unique g,ih gl]
theorem P0 {L:List (List Per)} {n:Int}:aT (t :: L) n↔ba t n\/aT L n:=by
 unfold aT;simp
theorem Wy {n:Int}:¬ aT [] n:=by unfold aT;simp
theorem qb_ {L M:List (List Per)} {n:Int}:aT (L ++ M) n↔aT L n\/aT M n:=by
 unfold aT;constructor
 .rintro ⟨t,ht,h⟩;rcases List.mem_append.1 ht with ht|ht
  .exact .inl ⟨t,ht,h⟩
  exact .inr ⟨t,ht,h⟩
 rintro (⟨t,ht,h⟩|⟨t,ht,h⟩)
 .exact ⟨t,List.mem_append_left _ ht,h⟩
 exact ⟨t,List.mem_append_right _ ht,h⟩
theorem g_.ok {L l:List (List Per)} (h:g_ L l) (hf:∀ t∈L,pJ s t):(∀ t∈l,zS s t/\¬ jk t)/\(∀ n,aT l n↔aT L n)/\l.length<=L.length/\∀ K:Nat,(∀ t∈L,t.length<=K)->∀ t∈l,t.length<=K:=by
 induction h with
 | nil=>exact ⟨ag,λn=>Iff.rfl,Nat.le_refl _,λK h=>h⟩
 | skip h hb _ ih=>
  obtain ⟨a,b,c,d⟩:=ih λt ht=>hf t (by simp [ht]);obtain ⟨h1,h2,h3⟩:=h.ok (hf _ ag);refine ⟨a,λn=>?_,aO,λK hK=>d K λt ht=>hK t (by simp [ht])⟩;rw [P0,b n,<- h2 n];exact ⟨.inr,λh=>h.elim (λh=>absurd h (hb n)) id⟩
 | keep h hb _ ih=>
  obtain ⟨a,b,c,d⟩:=ih λt ht=>hf t (by simp [ht]);obtain ⟨h1,h2,h3⟩:=h.ok (hf _ ag);refine ⟨λt ht=>?_,λn=>?_,aO,λK hK t ht=>?_⟩
  .rcases List.mem_cons.1 ht with rfl|ht
   .exact ⟨h1,hb⟩
   exact a t ht
  .rw [P0,P0,b n,h2 n]
  rcases List.mem_cons.1 ht with rfl|ht
  .exact Nat.le_trans h3 (hK _ ag)
  exact d K (λt ht=>hK t (by simp [ht])) t ht
def oN (l:List (List Per)) (i j:Nat):Prop:=(l.getD i []).length=1/\(l.getD j []).length=1/\js ((l.getD i []).getD 0 default) ((l.getD j []).getD 0 default)=true
noncomputable def qQ (l:List (List Per)) (i j:Nat):List (List Per):=(l.set i [vG ((l.getD i []).getD 0 default) ((l.getD j []).getD 0 default)]).eraseIdx j
inductive ld:List (List Per)->List (List Per)->Prop
 | done {l:List (List Per)} (h:GC (oN l) l.length):ld l l
 | step {l m:List (List Per)} {i j:Nat} (h:wm (oN l) l.length i j) (hm:ld (qQ l i j) m):ld l m
theorem ld.unique {t u v:List (List Per)} (h:ld t u) (g:ld t v):u=v:=by
 induction h generalizing v with
 | done h=>
  cases g with
  | done _=>rfl
  | step g _=>exact (g.no h).elim
 | step h _ ih=>
  cases g with
  | done g=>exact (h.no g).elim
  | step g gu=>
   obtain ⟨rfl,rfl⟩:=h.unique g;exact ih gu
theorem Xn (h:t.length=1):t=[t.getD 0 default]:=by
 match t,h with
 | [p],_=>rfl
theorem ui {n:Int}:ba [p] n↔p.mem n:=by unfold ba;simp
theorem v0_ {l:List (List Per)} {i:Nat} (gD:i<j) (hj:j<l.length) (hJ:oN l i j) (hf:∀ t∈l,zS s t/\¬ jk t):(∀ t∈qQ l i j,zS s t/\¬ jk t)/\(∀ n,aT (qQ l i j) n↔aT l n):=by
 obtain ⟨h1,h2,h3⟩:=hJ;have mi:=pC (l:=l) (d:=[]) (show i<l.length by omega);have mj:=pC (l:=l) (d:=[]) hj;have fi:=(hf _ mi).1.2 _ (pC (d:=default) (show 0<(l.getD i []).length by omega));have fj:=(hf _ mj).1.2 _ (pC (d:=default) (show 0<(l.getD j []).length by omega));have ei:=Xn h1;have ej:=Xn h2;have hc:=fi.fac.or fj.fac;unfold qQ;generalize hp:(l.getD i []).getD 0 default=p at *;generalize hq:(l.getD j []).getD 0 default=q at *;refine ⟨λt ht=>?_,λn=>?_⟩
 .rcases Ng ht with rfl|ht
  .refine ⟨⟨ag,λr hr=>?_⟩,λhb=>?_⟩
   .obtain rfl:r=vG p q:=by simpa using hr
    exact fi.fac.cor fj.fac
   refine (hf _ mi).2 λn hn=>hb n ?_;rw [ei,ui] at hn;rw [ui];exact (hc.1.mem n).2 (.inl hn)
  exact hf t ht
 unfold aT;constructor
 .rintro ⟨t,ht,hn⟩;rcases (yT (d:=[]) gD hj _ _).1 ht with rfl|⟨k,hk,_,_,rfl⟩
  .rw [ui,hc.1.mem n] at hn;rcases hn with hn|hn
   .exact ⟨_,mi,by rw [ei,ui];exact hn⟩
   exact ⟨_,mj,by rw [ej,ui];exact hn⟩
  exact ⟨_,pC hk,hn⟩
 rintro ⟨t,ht,hn⟩;obtain ⟨k,hk,rfl⟩:=(Uy (d:=[])).1 ht;by_cases e1:k=i
 .subst e1;refine ⟨_,(yT (d:=[]) gD hj _ _).2 (.inl rfl),?_⟩;rw [ei,ui] at hn;rw [ui];exact (hc.1.mem n).2 (.inl hn)
 by_cases e2:k=j
 .subst e2;refine ⟨_,(yT (d:=[]) gD hj _ _).2 (.inl rfl),?_⟩;rw [ej,ui] at hn;rw [ui];exact (hc.1.mem n).2 (.inr hn)
 exact ⟨_,(yT (d:=[]) gD hj _ _).2 (.inr ⟨k,hk,e1,e2,rfl⟩),hn⟩
theorem nn_ {l:List (List Per)} {i:Nat} (h:j<l.length):(qQ l i j).length=l.length-1:=by
 unfold qQ;rw [List.length_eraseIdx,List.length_set,if_pos h]
theorem st_ {l:List (List Per)} {i K:Nat} (hK:1<=K) (h:∀ t∈l,t.length<=K):∀ t∈qQ l i j,t.length<=K:=λt ht=>by
 rcases Ng ht with rfl|ht
 .simpa using hK
 exact h t ht
theorem ld.ok {l:List (List Per)} (h:ld l m) (hf:∀ t∈l,zS s t/\¬ jk t):(∀ t∈m,zS s t/\¬ jk t)/\(∀ n,aT m n↔aT l n)/\m.length<=l.length/\∀ K:Nat,1<=K->(∀ t∈l,t.length<=K)->∀ t∈m,t.length<=K:=by
 induction h with
 | done h=>exact ⟨hf,λn=>Iff.rfl,Nat.le_refl _,λK _ h=>h⟩
 | @step l m i j h _ ih=>
  obtain ⟨h1,h2⟩:=v0_ h.lt h.lim h.is hf;obtain ⟨a,b,c,d⟩:=ih h1;have hl:=nn_ (l:=l) (i:=i) h.lim;exact ⟨a,λn=>(b n).trans (h2 n),aa,λK hK hh=>d K hK (st_ hK hh)⟩
open Classical in
noncomputable def sM (out:List (List Per)) (t:List Per):List (List Per):=if t∈out then out else out ++ [t]
noncomputable def mR (out l:List (List Per)):List (List Per):=l.foldl sM out
theorem wv_ {l:List (List Per)}:mR out (l ++ [t])=sM (mR out l) t:=by unfold mR;rw [List.foldl_append];rfl
theorem QT (h:t∈out):sM out t=out:=if_pos h
theorem QE (h:t ∉ out):sM out t=out ++ [t]:=if_neg h
theorem zm_ {x:List Per}:x∈sM out t↔x∈out\/x=t:=by
 by_cases h:t∈out
 .rw [QT h];exact ⟨.inl,λg=>g.elim id λe=>e ▸ h⟩
 rw [QE h];simp
theorem QJ:∀ {l out:List (List Per)} {x:List Per},x∈mR out l↔x∈out\/x∈l
 | [],out,x=>by simp [mR]
 | t :: l,out,x=>by
  show x∈mR (sM out t) l↔_;rw [QJ,zm_,List.mem_cons,or_assoc]
theorem U1:∀ {l out:List (List Per)},(mR out l).length<=out.length+l.length
 | [],out=>by simp [mR]
 | t :: l,out=>by
  have h1:=U1 (l:=l) (out:=sM out t);have h2:(sM out t).length<=out.length+1:=by
   by_cases h:t∈out
   .rw [QT h];omega
   rw [QE h];simp
  show (mR (sM out t) l).length<=_;simp;omega
def pG (L m:List (List Per)):Prop:=∃ l k,g_ L l/\ld l k/\m=mR [] k
theorem pG.unique {L m':List (List Per)} (h:pG L m) (g:pG L m'):m=m':=by
 obtain ⟨l,k,h1,h2,rfl⟩:=h;obtain ⟨l',k',g1,g2,rfl⟩:=g;obtain rfl:=h1.unique g1;rw [h2.unique g2]
theorem pG.ok {L:List (List Per)} (h:pG L m) (hf:∀ t∈L,pJ s t):(∀ t∈m,zS s t/\¬ jk t)/\(∀ n,aT m n↔aT L n)/\m.length<=L.length/\∀ K:Nat,1<=K->(∀ t∈L,t.length<=K)->∀ t∈m,t.length<=K:=by
 obtain ⟨l,k,h1,h2,rfl⟩:=h;obtain ⟨a1,a2,a3,a4⟩:=h1.ok hf;obtain ⟨b1,b2,b3,b4⟩:=h2.ok a1;have hm:∀ x,x∈mR [] k↔x∈k:=λx=>by rw [QJ];simp
 refine ⟨λt ht=>b1 t ((hm t).1 ht),λn=>?_,?_,λK hK hh t ht=>b4 K hK (a4 K hh) t ((hm t).1 ht)⟩
 .rw [<- a2 n,<- b2 n];unfold aT;exact ⟨λ⟨t,ht,h⟩=>⟨t,(hm t).1 ht,h⟩,λ⟨t,ht,h⟩=>⟨t,(hm t).2 ht,h⟩⟩
 have:=U1 (l:=k) (out:=[]);simp at this;omega
def zk (m:List (List Per)):Prop:=m.length<=64/\∀ t∈m,t.length<=4
def dV (F:Int) (S:Int->Prop) (f n:Int) (b:Bool):Prop:=(b=true/\f<=n/\n<=F/\S n/\∀ x,f<=x->x<n->¬ S x)\/(b=false/\n=0/\∀ x,f<=x->x<=F->¬ S x)
theorem dV.unique {n m:Int} {S:Int->Prop} {c:Bool} (h:dV F S f n b) (g:dV F S f m c):n=m/\b=c:=by
 rcases h with ⟨rfl,h1,h2,h3,h4⟩|⟨rfl,rfl,h1⟩ <;> rcases g with ⟨rfl,g1,g2,g3,g4⟩|⟨rfl,rfl,g1⟩
 .refine ⟨?_,rfl⟩;rcases Int.lt_trichotomy n m with h|h|h
  .exact absurd h3 (g4 n h1 h)
  .exact h
  exact absurd g3 (h4 m g1 h)
 .exact absurd h3 (g1 n h1 h2)
 .exact absurd g3 (h1 m g1 g2)
 exact ⟨rfl,rfl⟩
theorem dV.congr {n:Int} {S T:Int->Prop} (h:dV F S f n b) (hs:∀ x,f<=x->x<=F->(T x↔S x)):dV F T f n b:=by
 rcases h with ⟨rfl,h1,h2,h3,h4⟩|⟨rfl,rfl,h1⟩
 .exact .inl ⟨rfl,h1,h2,(hs n h1 h2).2 h3,λx a c=>by rw [hs x a aa];exact h4 x a c⟩
 exact .inr ⟨rfl,rfl,λx a c=>by rw [hs x a c];exact h1 x a c⟩
theorem WB (F f:Int) (S:Int->Prop):∃ n b,dV F S f n b:=by
 by_cases h:∃ x,f<=x/\x<=F/\S x
 .obtain ⟨x,h1,h2,h3⟩:=h;have key:∀ k:Nat,∀ x,(x-f).toNat=k->f<=x->x<=F->S x->∃ n,f<=n/\n<=F/\S n/\∀ y,f<=y->y<n->¬ S y:=by
   intro k;induction k using Nat.strongRecOn with
   | _ k ih=>
    intro x hk a1 a2 a3;by_cases hy:∃ y,f<=y/\y<x/\S y
    .obtain ⟨y,b1,b2,b3⟩:=hy;exact ih _ aa y rfl b1 aa b3
    exact ⟨x,a1,a2,a3,λy c1 c2 c3=>hy ⟨y,c1,c2,c3⟩⟩
  obtain ⟨n,g1,g2,g3,g4⟩:=key _ x rfl h1 h2 h3;exact ⟨n,true,.inl ⟨rfl,g1,g2,g3,g4⟩⟩
 exact ⟨0,false,.inr ⟨rfl,rfl,λx a b c=>h ⟨x,a,b,c⟩⟩⟩
def iS (S:Int->Prop) (f n:Int) (b:Bool):Prop:=(b=true/\f<=n/\S n/\∀ x,f<=x->x<n->¬ S x)\/(b=false/\n=0/\∀ x,f<=x->¬ S x)
theorem iS.start:iS (λ_=>False) f 0 false:=.inr ⟨rfl,rfl,λ_ _ h=>h⟩
theorem iS.congr {n:Int} {S T:Int->Prop} (h:iS S f n b) (hs:∀ x,f<=x->(T x↔S x)):iS T f n b:=by
 rcases h with ⟨rfl,h1,h3,h4⟩|⟨rfl,rfl,h1⟩
 .exact .inl ⟨rfl,h1,(hs n h1).2 h3,λx a c=>by rw [hs x a];exact h4 x a c⟩
 exact .inr ⟨rfl,rfl,λx a=>by rw [hs x a];exact h1 x a⟩
theorem iS.take {n:Int} {S:Int->Prop} (h:iS S f n b) (h1:f<=d) (h2:b=false\/d<n):iS (λx=>S x\/x=d) f d true:=by
 refine .inl ⟨rfl,h1,.inr rfl,λx a c e=>?_⟩;rcases e with e|rfl
 .rcases h with ⟨rfl,g1,g2,g3⟩|⟨rfl,rfl,g1⟩
  .rcases h2 with h2|h2
   .cases h2
   exact g3 x a aa e
  exact g1 x a e
 omega
theorem iS.pass {n:Int} {S:Int->Prop} (h:iS S f n b) (h1:¬ (f<=d/\(b=false\/d<n))):iS (λx=>S x\/x=d) f n b:=by
 rcases h with ⟨rfl,g1,g2,g3⟩|⟨rfl,rfl,g1⟩
 .refine .inl ⟨rfl,g1,.inl g2,λx a c e=>?_⟩;rcases e with e|rfl
  .exact g3 x a c e
  exact h1 ⟨a,.inr c⟩
 refine .inr ⟨rfl,rfl,λx a e=>?_⟩;rcases e with e|rfl
 .exact g1 x a e
 exact h1 ⟨a,.inl rfl⟩
def mP (t:List Per) (i k:Nat) (x:Int):Prop:=ba t x/\((∃ p∈t.take i,x∈p.head)\/x∈((t.getD i default).head.take k))
theorem sk_:mP t 0 0 x↔False:=by simp [mP]
theorem ut_ {i:Nat} (hi:i<t.length):mP t (i+1) 0 x↔mP t i (t.getD i default).head.length x:=by
 unfold mP;have e:t.getD i default=t[i]:=by rw [List.getD_eq_getElem?_getD,List.getElem?_eq_getElem hi];rfl
 rw [List.take_succ_eq_append_getElem hi,List.take_length,e];constructor
 .rintro ⟨h1,⟨p,hp,hx⟩|hx⟩
  .rcases List.mem_append.1 hp with hp|hp
   .exact ⟨h1,.inl ⟨p,hp,hx⟩⟩
   obtain rfl:p=t[i]:=by simpa using hp
   exact ⟨h1,.inr hx⟩
  simp at hx
 rintro ⟨h1,⟨p,hp,hx⟩|hx⟩
 .exact ⟨h1,.inl ⟨p,List.mem_append_left _ hp,hx⟩⟩
 exact ⟨h1,.inl ⟨t[i],List.mem_append_right _ ag,hx⟩⟩
theorem sj_ {i:Nat} (hk:k<(t.getD i default).head.length):mP t i (k+1) x↔mP t i k x\/(x=(t.getD i default).head.getD k 0/\ba t x):=by
 unfold mP;rw [List.take_succ_eq_append_getElem hk,List.mem_append];have e:(t.getD i default).head.getD k 0=(t.getD i default).head[k]:=by rw [List.getD_eq_getElem?_getD,List.getElem?_eq_getElem hk];rfl
 rw [e];simp only [List.mem_singleton];constructor
 .rintro ⟨h1,h2|h2|h2⟩
  .exact .inl ⟨h1,.inl h2⟩
  .exact .inl ⟨h1,.inr h2⟩
  exact .inr ⟨h2,h1⟩
 rintro (⟨h1,h2|h2⟩|⟨h1,h2⟩)
 .exact ⟨h1,.inl h2⟩
 .exact ⟨h1,.inr (.inl h2)⟩
 exact ⟨h2,.inr (.inr h1)⟩
theorem VE (hne:t≠[]) (hw:∀ p∈t,p.WF):mP t t.length 0 x↔ba t x/\x<fH t:=by
 unfold mP;rw [List.take_length];constructor
 .rintro ⟨h1,⟨p,hp,hx⟩|h2⟩
  .exact ⟨h1,sl_ hw hp hx⟩
  simp at h2
 rintro ⟨h1,h2⟩;exact ⟨h1,.inl (sa_ hne h1 h2)⟩
def WR (t:List Per) (f n:Int) (b:Bool):Prop:=iS (λx=>ba t x/\x<fH t) f n b
def eE (t:List Per) (at_ step x:Int):Prop:=x % step=at_/\∀ p∈t,∃ c∈p.cycle,x % p.period=cA p c
def j8 (F:Int) (S:Int->Prop) (f n:Int) (b:Bool):Prop:=(b=true/\f<=n/\n<=F/\S n/\∀ x,f<=x->x<n->¬ S x)\/(b=false/\n=F/\∀ x,f<=x->x<=F->¬ S x)
theorem j8.start:j8 F (λ_=>False) f F false:=.inr ⟨rfl,rfl,λ_ _ _ h=>h⟩
theorem j8.le {n:Int} {S:Int->Prop} (h:j8 F S f n b):n<=F:=by
 rcases h with ⟨_,_,h,_⟩|⟨_,h,_⟩ <;> omega
theorem j8.congr {n:Int} {S T:Int->Prop} (h:j8 F S f n b) (hs:∀ x,f<=x->(T x↔S x)):j8 F T f n b:=by
 rcases h with ⟨rfl,h1,h2,h3,h4⟩|⟨rfl,rfl,h1⟩
 .exact .inl ⟨rfl,h1,h2,(hs n h1).2 h3,λx a c=>by rw [hs x a];exact h4 x a c⟩
 exact .inr ⟨rfl,rfl,λx a c=>by rw [hs x a];exact h1 x a c⟩
theorem j8.next {n:Int} {S:Int->Prop} (h:j8 F S f n b):dV F S f (if b=true then n else 0) b:=by
 rcases h with ⟨rfl,h1,h2,h3,h4⟩|⟨rfl,rfl,h1⟩
 .exact .inl ⟨rfl,h1,h2,h3,h4⟩
 exact .inr ⟨rfl,rfl,h1⟩
def upTo (f at_ step:Int):Int:=if at_<f then at_+(f-at_+step-1) / step*step else at_
theorem Mn (hs:1<=step) (h0:0<=at_) (h1:at_<step) (hf:0<=f):f<=upTo f at_ step/\upTo f at_ step<f+step/\upTo f at_ step % step=at_/\(∀ x,f<=x->x % step=at_->upTo f at_ step<=x):=by
 have key:f<=upTo f at_ step/\upTo f at_ step<f+step/\upTo f at_ step % step=at_:=by
  unfold upTo
  split
  .rename_i h;have e:=Int.emod_add_mul_ediv (f-at_+step-1) step;have e0:=Int.emod_nonneg (f-at_+step-1) (show step≠0 by omega);have e1:=Int.emod_lt_of_pos (f-at_+step-1) (show 0<step by omega);rw [Int.mul_comm step] at e;refine ⟨aa,aa,?_⟩;rw [Int.add_mul_emod_self_right,Int.emod_eq_of_lt h0 h1]
  exact ⟨aa,aa,Int.emod_eq_of_lt h0 h1⟩
 refine ⟨key.1,key.2.1,key.2.2,λx hx he=>?_⟩;obtain ⟨k1,k2,k3⟩:=key;generalize upTo f at_ step=u at *;rcases Int.lt_or_le x u with h|h
 .have hd:step∣u-x:=uf (k3.trans he.symm);have:=Int.le_of_dvd aa hd;omega
 exact h
theorem j8.leaf {n:Int} {S:Int->Prop} (h:j8 F S f n b) (hs:1<=step) (h0:0<=at_) (h1:at_<step) (hf:0<=f) :
  (upTo f at_ step<=n->j8 F (λx=>S x\/x % step=at_) f (upTo f at_ step) true)/\(n<upTo f at_ step->j8 F (λx=>S x\/x % step=at_) f n b):=by
 obtain ⟨k1,k2,k3,k4⟩:=Mn hs h0 h1 hf;have hle:=h.le;generalize upTo f at_ step=u at *;constructor
 .intro hu;refine .inl ⟨rfl,k1,aa,.inr k3,λx a c e=>?_⟩;rcases e with e|e
  .rcases h with ⟨_,g1,g2,g3,g4⟩|⟨_,rfl,g1⟩
   .exact g4 x a aa e
   exact g1 x a aa e
  have:=k4 x a e;omega
 intro hu;rcases h with ⟨rfl,g1,g2,g3,g4⟩|⟨rfl,rfl,g1⟩
 .refine .inl ⟨rfl,g1,g2,.inl g3,λx a c e=>?_⟩;rcases e with e|e
  .exact g4 x a c e
  have:=k4 x a e;omega
 refine .inr ⟨rfl,rfl,λx a c e=>?_⟩;rcases e with e|e
 .exact g1 x a c e
 have:=k4 x a e;omega
def mM (at_ step r P:Int) (a2 s2:Int) (b:Bool):Prop:=(b=true/\s2=aS step P/\uA at_ step r P a2)\/(b=false/\a2=0/\s2=0/\∀ x,¬ (x % step=at_ % step/\x % P=r % P))
theorem u9_:eE (p :: t) at_ step x↔∃ c∈p.cycle,x % p.period=cA p c/\eE t at_ step x:=by
 unfold eE;constructor
 .rintro ⟨h1,h2⟩;obtain ⟨c,hc,he⟩:=h2 p ag;exact ⟨c,hc,he,h1,λq hq=>h2 q (by simp [hq])⟩
 rintro ⟨c,hc,he,h1,h2⟩;refine ⟨h1,λq hq=>?_⟩;rcases List.mem_cons.1 hq with rfl|hq
 .exact ⟨c,hc,he⟩
 exact h2 q hq
theorem mM.cls (hw:p.WF) {a2 s2 c:Int} (hs:1<=step) (h0:0<=at_) (h1:at_<step) (h:mM at_ step (cA p c) p.period a2 s2 b) (x:Int) :
  (x % p.period=cA p c/\eE t at_ step x)↔b=true/\eE t a2 s2 x:=by
 have hr:=JJ hw c;have er:=Int.emod_eq_of_lt hr.1 hr.2;have ea:=Int.emod_eq_of_lt h0 h1;have hP:=hw.per;rcases h with ⟨rfl,rfl,ki⟩|⟨rfl,rfl,rfl,hno⟩
 .have hc:=UM (x:=x) hs hP ki;rw [er,ea] at hc;unfold eE;constructor
  .rintro ⟨g1,g2,g3⟩;exact ⟨rfl,hc.1 ⟨g2,g1⟩,g3⟩
  rintro ⟨_,g2,g3⟩;obtain ⟨k1,k2⟩:=hc.2 g2;exact ⟨k2,k1,g3⟩
 refine ⟨λ⟨g1,g2,_⟩=>absurd ?_ (hno x),λh=>by cases h.1⟩;rw [er,ea];exact ⟨g2,g1⟩
theorem s3_ (hw:∀ p∈t,p.WF) (hx:fH t<=x):eE t 0 1 x↔ba t x:=by
 unfold eE ba;have hs:=(Ek (t:=t)).2;constructor
 .rintro ⟨_,h⟩ p hp;exact (JB (hw p hp) (by have:=hs p hp;omega)).2 (h p hp)
 intro h;exact ⟨aa,λp hp=>(JB (hw p hp) (by have:=hs p hp;omega)).1 (h p hp)⟩
theorem vx_ (hne:t≠[]) (hw:∀ p∈t,p.WF) (hF:fH t<=F) {n:Int} (h:WR t f n b) :
  (b=true->dV F (ba t) f n true)/\(b=false->(F<f\/¬ lK t)->dV F (ba t) f 0 false)/\(b=false->∀ m c,dV F (ba t) (max f (fH t)) m c->dV F (ba t) f m c):=by
 refine ⟨λhb=>?_,λhb hno=>?_,λhb m c hm=>?_⟩
 .subst hb;rcases h with ⟨_,h1,h2,h3⟩|⟨h,_⟩
  .exact .inl ⟨rfl,h1,aa,h2.1,λx a c e=>h3 x a c ⟨e,aa⟩⟩
  cases h
 .subst hb;rcases h with ⟨h,_⟩|⟨_,_,h1⟩
  .cases h
  refine .inr ⟨rfl,rfl,λx a c e=>?_⟩;by_cases hx:x<fH t
  .exact h1 x a ⟨e,hx⟩
  rcases hno with h2|h2
  .omega
  exact h2 ⟨x,aa,e⟩
 subst hb;rcases h with ⟨h,_⟩|⟨_,_,h1⟩
 .cases h
 have low:∀ x,f<=x->x<max f (fH t)->¬ ba t x:=λx a c e=>h1 x a ⟨e,aa⟩;rcases hm with ⟨rfl,g1,g2,g3,g4⟩|⟨rfl,rfl,g1⟩
 .refine .inl ⟨rfl,aa,g2,g3,λx a c=>?_⟩;by_cases hx:x<max f (fH t)
  .exact low x a hx
  exact g4 x aa c
 refine .inr ⟨rfl,rfl,λx a c=>?_⟩;by_cases hx:x<max f (fH t)
 .exact low x a hx
 exact g1 x aa c
theorem Vc {n m:Int} {S T:Int->Prop} {c:Bool} (h:dV F S f n b) (g:dV F T f m c) :
  dV F (λx=>S x\/T x) f (if c=true/\(b=false\/m<n) then m else n) (b || c):=by
 rcases h with ⟨rfl,h1,h2,h3,h4⟩|⟨rfl,rfl,h1⟩ <;> rcases g with ⟨rfl,g1,g2,g3,g4⟩|⟨rfl,rfl,g1⟩
 .by_cases hm:m<n
  .rw [if_pos ⟨rfl,.inr hm⟩];exact .inl ⟨rfl,g1,g2,.inr g3,λx a c e=>e.elim (h4 x a aa) (g4 x a c)⟩
  rw [if_neg (λe=>by rcases e.2 with e|e;cases e;exact hm e)];exact .inl ⟨rfl,h1,h2,.inl h3,λx a c e=>e.elim (h4 x a c) (g4 x a aa)⟩
 .rw [if_neg (λe=>by cases e.1)];exact .inl ⟨rfl,h1,h2,.inl h3,λx a c e=>e.elim (h4 x a c) (g1 x a aa)⟩
 .rw [if_pos ⟨rfl,.inl rfl⟩];exact .inl ⟨rfl,g1,g2,.inr g3,λx a c e=>e.elim (h1 x a aa) (g4 x a c)⟩
 rw [if_neg (λe=>by cases e.1)];exact .inr ⟨rfl,rfl,λx a c e=>e.elim (h1 x a c) (g1 x a c)⟩
def dO (a b:List (List Per)):List (List Per):=a.flatMap λs=>b.map λt=>s ++ t
theorem a1l_ {s:List Per} {n:Int}:ba (s ++ t) n↔ba s n/\ba t n:=by
 unfold ba;constructor
 .exact λh=>⟨λp hp=>h p (List.mem_append_left _ hp),λp hp=>h p (List.mem_append_right _ hp)⟩
 rintro ⟨h1,h2⟩ p hp;rcases List.mem_append.1 hp with hp|hp
 .exact h1 p hp
 exact h2 p hp
theorem Ii {a b:List (List Per)}:u∈dO a b↔∃ s∈a,∃ t∈b,u=s ++ t:=by
 unfold dO;rw [List.mem_flatMap];constructor
 .rintro ⟨s,hs,h⟩;obtain ⟨t,ht,rfl⟩:=List.mem_map.1 h;exact ⟨s,hs,t,ht,rfl⟩
 rintro ⟨s,hs,t,ht,rfl⟩;exact ⟨s,hs,List.mem_map.2 ⟨t,ht,rfl⟩⟩
theorem a1p_ {a b:List (List Per)} {n:Int}:aT (dO a b) n↔aT a n/\aT b n:=by
 unfold aT;constructor
 .rintro ⟨u,hu,h⟩;obtain ⟨s,hs,t,ht,rfl⟩:=Ii.1 hu;rw [a1l_] at h;exact ⟨⟨s,hs,h.1⟩,t,ht,h.2⟩
 rintro ⟨⟨s,hs,h1⟩,t,ht,h2⟩;exact ⟨_,Ii.2 ⟨s,hs,t,ht,rfl⟩,a1l_.2 ⟨h1,h2⟩⟩
theorem qf_ {a b:List (List Per)} (ha:∀ t∈a,pJ s t) (hb:∀ t∈b,pJ s t):∀ t∈dO a b,pJ s t:=λu hu=>by
 obtain ⟨x,hx,y,hy,rfl⟩:=Ii.1 hu;refine ⟨λe=>(ha x hx).1 (List.append_eq_nil_iff.1 e).1,λp hp=>?_⟩;rcases List.mem_append.1 hp with hp|hp
 .exact (ha x hx).2 p hp
 exact (hb y hy).2 p hp
def ti (p:Per) (b:Int) (n:Int):Prop:=0<=n/\p.mem (n-b)
noncomputable def iK (p:Per) (b:Int):Per:=canonC (ti p b)
theorem QX {b:Int} (h:dK 0 p):bP (iK p b) (ti p b)/\dK (max b 0) (iK p b):=by
 have hf:=h.wf.frm;have hp:=h.wf.per;have gS:cH (ti p b) (max (p.frm+b) 0) p.period:=λn hn=>by
  unfold ti;have:=h.wf.pfrom (n-b) aa;rw [this,show n-b+p.period=n+p.period-b from by omega];constructor <;> rintro ⟨_,h⟩ <;> exact ⟨aa,h⟩
 have hc:=Ec (M_ (S:=ti p b) (f:=max (p.frm+b) 0) aa hp (λn hn=>hn.1) gS);refine ⟨hc,Ir hc (λn hn=>?_) aa (by have:=h.frm;omega) hp h.dvd gS⟩;have:=hn.1;have:=hn.2.1;omega
noncomputable def lN (m:List (List Per)) (b:Int):List (List Per):=m.map λt=>t.map λp=>iK p b
theorem MQ {b:Int} (h:∀ t∈m,pJ 0 t):(∀ t∈lN m b,pJ (max b 0) t)/\∀ n,aT (lN m b) n↔0<=n/\aT m (n-b):=by
 refine ⟨λt ht=>?_,λn=>?_⟩
 .obtain ⟨u,hu,rfl⟩:=List.mem_map.1 ht;refine ⟨λe=>(h u hu).1 (List.map_eq_nil_iff.1 e),λp hp=>?_⟩;obtain ⟨q,hq,rfl⟩:=List.mem_map.1 hp;exact (QX ((h u hu).2 q hq)).2
 unfold aT lN;constructor
 .rintro ⟨t,ht,hn⟩;obtain ⟨u,hu,rfl⟩:=List.mem_map.1 ht;have key:∀ q∈u,0<=n/\q.mem (n-b):=λq hq=>((QX ((h u hu).2 q hq)).1.mem n).1 (hn _ (List.mem_map.2 ⟨q,hq,rfl⟩));obtain ⟨p,hp⟩:=List.exists_mem_of_ne_nil _ (h u hu).1;exact ⟨(key p hp).1,u,hu,λq hq=>(key q hq).2⟩
 rintro ⟨h0,u,hu,hn⟩;refine ⟨_,List.mem_map.2 ⟨u,hu,rfl⟩,λp hp=>?_⟩;obtain ⟨q,hq,rfl⟩:=List.mem_map.1 hp;exact ((QX ((h u hu).2 q hq)).1.mem n).2 ⟨h0,hn q hq⟩
end
end Kal
namespace Go.Proofs.YtbmgmlbmgogeaaaGreat
section
open Go.RowKit Go.Maps Kal
theorem x6_ (F:Nat->Prop) (v:Value) (t:List Per) (n:Int) (db:Nat) (w:World) (ht:bG w F v t) (hc:w.cell? ⟨db,0,none⟩=some (.int .i64 n)) (hn:aP n) :
  Calls Tryz.prog 179 #[v,.pointer (some ⟨db,0,none⟩)] w λe w'=>e=.returned (.bool (inB t n))/\Below w.heap.size w w':=by
 have H:=XE F v t n w ht hn;have hlt:=World.block_lt_of_cell? w _ hc;clear ht;generalize inB t n=b at H ⊢
 go_in
 go_wp2_with (go_at_call 180;refine H.mono ?_;rintro e w1 ⟨rfl,hb1⟩)
 go_ret;exact ⟨rfl,xE⟩
theorem us_ (F:Nat->Prop) (L:List (Value × List Per)) (n:Int) (db:Nat) (w:World) (hL:∀ x∈L,bG w F x.1 x.2) (hc:w.cell? ⟨db,0,none⟩=some (.int .i64 n)) (hn:aP n) :
  Q3 179 #[.pointer (some ⟨db,0,none⟩)] L (λx=>inB x.2 n) w:=λW x hW hx=>by
 have h:=x6_ F x.1 x.2 n db W ((hL x hx).ext hW) (al.cell hW hc) hn;have e:(#[x.1] ++ #[Value.pointer (some ⟨db,0,none⟩)])=#[x.1,.pointer (some ⟨db,0,none⟩)]:=by simp
 rw [e];exact h.mono λe w' ⟨h1,h2⟩=>⟨h1,hW.trans (h2.mono hW.size)⟩
theorem z2_ (F:Nat->Prop) (v:Value) (m:List (List Per)) (n:Int) (db:Nat) (w:World) (hm:aA w F v m) (hc:w.cell? ⟨db,0,none⟩=some (.int .i64 n)) (hn:aP n) :
  Calls Tryz.prog 107 #[v,.func (.func 179) #[] #[.pointer (some ⟨db,0,none⟩)]] w λe w'=>e=.returned (.bool (m.any λt=>inB t n))/\Below w.heap.size w w':=by
 obtain ⟨L,rfl,hL⟩:=hm;have h:=Nc F v L (λx=>inB x.2 n) 179 #[.pointer (some ⟨db,0,none⟩)] (enters_of Tryz.func179 (by kernel_rfl) rfl) w hL.row hL.len (us_ F L n db w hL.all hc hn);have he:((L.map Prod.snd).any λt=>inB t n)=L.any λx=>inB x.2 n:=by rw [List.any_map];rfl
 rw [he];exact h
theorem xs_ (F:Nat->Prop) (v:Value) (m:List (List Per)) (n:Int) (w:World) (hm:aA w F v m) (hn:aP n) :
  Calls Tryz.prog 132 #[.agg #[v],.int .i64 n] w λe w'=>e=.returned (.bool (oT m n))/\Below w.heap.size w w':=by
 have HV:=λW h=>sI F v m W (hm.ext h);have HA:=λW h db hc=>z2_ F v m n db W (hm.ext h) hc hn;unfold oT;obtain ⟨L,_,hL⟩:=hm;obtain ⟨a,c,rfl,_⟩:=hL.row;clear hL;generalize (m.any λt=>inB t n)=y at *;cases hq:dU m with
 | false=>
  rw [hq] at HV;clear hq
  go_in
  go_wp2_with (go_at_call 49;refine (HV _ xE).mono ?_;rintro e w1 ⟨rfl,hb1⟩)
  go_ret;exact ⟨rfl,xE⟩
 | true=>
  rw [hq] at HV;clear hq
  go_in
  go_wp2_with (first|(go_at_call 49;refine (HV _ xE).mono ?_;rintro e w1 ⟨rfl,hb1⟩;obtain ⟨hc1,gh⟩:=fJ hb1;(try simp only [World.size_alloc,World.size_drew,fE,World.size_setCell] at hc1 gh))|(go_at_call 107;refine (HA _ xE (w.heap.size+1) (by rw [hc1 _ _ aa];simp)).mono ?_;rintro e w2 ⟨rfl,hb2⟩))
  go_ret;exact ⟨rfl,xE⟩
theorem UI (x y:PV) (w:World) (hx:1<=x.p.period) (hx1:x.p.period<=1099511627776) (hy:1<=y.p.period) (hy1:y.p.period<=1099511627776) :
  Calls Tryz.prog 140 #[x.val,y.val] w λe w'=>e=.returned (.bool (js x.p y.p))/\Below w.heap.size w w':=by
 have n1:x.p.period≠0:=aa;have n2:y.p.period≠0:=aa;have b1:=Int.emod_nonneg x.p.period n2;have b2:=Int.emod_lt_of_pos x.p.period (show 0<y.p.period by omega);have b3:=Int.emod_nonneg y.p.period n1;have b4:=Int.emod_lt_of_pos y.p.period (show 0<x.p.period by omega)
 go_in
 go_wp2_with fail
 all_goals
  go_ret;refine ⟨bT ?_,xE⟩;unfold js
  first|rfl|(simp_all;done)
theorem t3_ (F G:Nat->Prop) (x y:PV) (w:World) (hx:bp w F x) (hy:bp w G y) :
  Calls Tryz.prog 145 #[x.val,y.val] w λe w'=>e=.returned (.bool (nR x.p y.p))/\Below w.heap.size w w':=by
 have H1:=λW (h:Below w.heap.size w W)=>VD x.h y.h x.p.head y.p.head W (hx.is.hd.ext h) (hy.is.hd.ext h);have H2:=λW (h:Below w.heap.size w W)=>VD x.c y.c x.p.cycle y.p.cycle W (hx.is.cy.ext h) (hy.is.cy.ext h);clear hx hy;obtain ⟨xh,xc,xp⟩:=x;obtain ⟨yh,yc,yp⟩:=y;change Calls _ _ #[an xh xc xp.frm xp.period,an yh yc yp.frm yp.period] _ λe w'=>e=.returned (.bool (nR xp yp))/\_;change ∀ W,_->Calls _ _ #[xh,yh] W λe w'=>e=.returned (.bool (decide (xp.head=yp.head)))/\_ at H1;change ∀ W,_->Calls _ _ #[xc,yc] W λe w'=>e=.returned (.bool (decide (xp.cycle=yp.cycle)))/\_ at H2;by_cases h1:xp.frm=yp.frm
 .by_cases h2:xp.period=yp.period
  .by_cases h3:xp.head=yp.head
   .rw [decide_eq_true h3] at H1;have e:nR xp yp=decide (xp.cycle=yp.cycle):=by unfold nR;simp [h1,h2,h3]
    rw [e];clear e h3;generalize decide (xp.cycle=yp.cycle)=b at *
    go_in
    go_wp2_with (go_at_call 191;first|((with_reducible refine (H1 _ xE).mono ?_);rintro e w1 ⟨rfl,n1,rfl⟩)|((with_reducible refine (H2 _ xE).mono ?_);rintro e w1 ⟨rfl,n1,rfl⟩))
    go_ret;exact ⟨rfl,xE⟩
   rw [decide_eq_false h3] at H1;have e:nR xp yp=false:=by unfold nR;simp [h3]
   rw [e];clear e h3
   go_in
   go_wp2_with (go_at_call 191;first|((with_reducible refine (H1 _ xE).mono ?_);rintro e w1 ⟨rfl,n1,rfl⟩)|((with_reducible refine (H2 _ xE).mono ?_);rintro e w1 ⟨rfl,n1,rfl⟩))
   go_ret;exact ⟨rfl,xE⟩
  have e:nR xp yp=false:=by unfold nR;simp [h2]
  rw [e];clear e
  go_in
  go_wp2
  go_ret;exact ⟨rfl,xE⟩
 have e:nR xp yp=false:=by unfold nR;simp [h1]
 rw [e];clear e
 go_in
 go_wp2
 go_ret;exact ⟨rfl,xE⟩
open Classical in
noncomputable def wI (t u:List Per):Bool:=decide (t=u)
theorem Vl (h:t=u):wI t u=true:=by unfold wI;simp [h]
theorem Ns (h:t≠u):wI t u=false:=by unfold wI;simp [h]
theorem bp.form {F:Nat->Prop} {c:Value} (hx:bp w F ⟨h,c,p⟩):∃ a1 n1 c1 a2 n2 c2,h=.slice a1 n1 c1/\c=.slice a2 n2 c2:=by
 obtain ⟨⟨⟨⟨a1,c1,h1,_⟩,_,_⟩,⟨a2,c2,h2,_⟩,_,_⟩,_,_,_,_⟩:=hx;exact ⟨a1,_,c1,a2,_,c2,h1,h2⟩
theorem gy.get {F:Nat->Prop} {a:Option Addr} (h:gy w F (.slice a n c) L) (hk:k<L.length) :
  ∃ b o x,a=some ⟨b,o,none⟩/\bp w F x/\x.p=(L.map PV.p).getD k default/\b<w.heap.size/\w.cell? ⟨b,o+k*4,none⟩=some x.h/\w.cell? ⟨b,o+k*4+1,none⟩=some (.int .i64 x.p.frm)/\
   w.cell? ⟨b,o+k*4+2,none⟩=some (.int .i64 x.p.period)/\w.cell? ⟨b,o+k*4+3,none⟩=some x.c:=by
 obtain ⟨a',c',he,h1,h2,h3⟩:=h.row;injection he with e1 _ e2
 subst e1;subst e2;rcases h3 with h3|⟨b,o,rfl,hF,hl,hc⟩
 .omega
 exact ⟨b,o,L.getD k default,rfl,h.all _ (dz hk),by simp [List.getD_eq_getElem?_getD,hk],hl,hc (k*4+0) _ (mJ hk rfl),hc (k*4+1) _ (mJ hk rfl),hc (k*4+2) _ (mJ hk rfl),hc (k*4+3) _ (mJ hk rfl)⟩
theorem nl_ (F G:Nat->Prop) (v1 v2:Value) (t u:List Per) (w:World) (h1:bG w F v1 t) (h2:bG w G v2 u) :
  Calls Tryz.prog 144 #[v1,v2,.func (.func 145) #[] #[]] w λe w'=>e=.returned (.bool (wI t u))/\Below w.heap.size w w':=by
 obtain ⟨L,qZ,hL⟩:=h1;obtain ⟨M,N0,hM⟩:=h2;obtain ⟨a1,c1,rfl,_⟩:=hL.row;obtain ⟨a2,c2,rfl,_⟩:=hM.row;have HL:=ad hL;have HM:=ad hM;have fA:=hL.len;have hl2:=hM.len;have ht:t.length=L.length:=by rw [<- qZ,List.length_map]
 have hu:u.length=M.length:=by rw [<- N0,List.length_map]
 have HT:=ad ht;have HU:=ad hu;have b6:=ad qZ;have K4:=ad N0;clear hL hM ht hu qZ N0;have eg:∀ args w,(callFunc 145 args).run Tryz.prog w=.ok (.enter 145 args) w:=enters_of Tryz.func145 (by kernel_rfl) rfl;by_cases hne:L.length=M.length
 .have jE:=ad hne;rw [<- hne];clear hne hl2
  go_in
  go_wp2
  go_loopw [6,7,8,9,17] (λ_ _ _ _ i wr=>∃ k:Nat,k<=L.length/\i=.int .i64 k/\(∀ j,j<k->t.getD j default=u.getD j default)/\Below w.heap.size w wr) (λ_ _ _ _ i _=>L.length-(intOf i).toNat)
  .exact ⟨0,aa,rfl,by intro j hj;omega,xE⟩
  obtain ⟨k,hk,rfl,hpre,hb⟩:=hrel;have cM:=ad hpre;clear hpre;by_cases hlt:k<L.length
  .have dh:(k:Int)<L.length:=aa;obtain ⟨b1,o1,x,rfl,hx,cS,hb1,e0,e1,e2,e3⟩:=(HL.o.keep (aN.below hb) hb.size).get hlt;obtain ⟨b2,o2,y,rfl,hy,hyp,hb2,g0,g1,g2,g3⟩:=(HM.o.keep (aN.below hb) hb.size).get (show k<M.length by have:=jE.o;omega);rw [b6.o] at cS;rw [K4.o] at hyp;have HE:=λW (h:Below wr.heap.size wr W)=>t3_ F G x y W (hx.keep (aN.below h)) (hy.keep (aN.below h));have jf:=ad cS;have Ho:=ad hyp;obtain ⟨xh,xc,xp⟩:=x;obtain ⟨yh,yc,yp⟩:=y;obtain ⟨d_,eh,ed,eH,eR,dP,rfl,rfl⟩:=hx.form;obtain ⟨kF,kP,kK,kG,kQ,kL,rfl,rfl⟩:=hy.form;clear cS hyp hx hy;change ∀ W,_->Calls _ _ #[an (.slice d_ eh ed) (.slice eH eR dP) xp.frm xp.period,an (.slice kF kP kK) (.slice kG kQ kL) yp.frm yp.period] W λe w'=>e=.returned (.bool (nR xp yp))/\_ at HE;change Hid (xp=_) at jf;change Hid (yp=_) at Ho;dsimp only at e0 e1 e2 e3 g0 g1 g2 g3;cases hq:nR xp yp with
   | true=>
    rw [hq] at HE;have HQ:=ad hq;clear hq;go_wp2_with (go_at_fn 145;refine (HE _ xE).mono ?_;rintro e w1 ⟨rfl,hb3⟩);go_roundw
    .refine ⟨k+1,aa,by go_num,?_,xE⟩;intro j hj;by_cases h:j<k
     .exact cM.o j h
     obtain rfl:j=k:=aa;rw [<- jf.o,<- Ho.o];exact (VX _ _).1 HQ.o
    simp [intOf];omega
   | false=>
    rw [hq] at HE;have HQ:=ad hq;clear hq;go_wp2_with (go_at_fn 145;refine (HE _ xE).mono ?_;rintro e w1 ⟨rfl,hb3⟩);go_ret;refine ⟨bT (Ns ?_).symm,xE⟩;rintro rfl;have:=HQ.o;rw [(VX _ _).2 (jf.o.trans Ho.o.symm)] at this;exact absurd this aF
  obtain rfl:k=L.length:=aa;go_wp2;go_ret;refine ⟨bT (Vl ?_).symm,xE⟩;refine List.ext_getElem (by have:=HT.o;have:=HU.o;have:=jE.o;omega) λj h1 h2=>?_;have:=cM.o j (by have:=HT.o;omega);rw [List.getD_eq_getElem?_getD,List.getD_eq_getElem?_getD,List.getElem?_eq_getElem h1,List.getElem?_eq_getElem h2] at this;exact this
 have hneI:¬ (L.length:Int)=M.length:=aa
 go_in
 go_wp2
 go_ret;refine ⟨bT (Ns ?_).symm,xE⟩;rintro rfl;have:=HT.o;have:=HU.o;omega
theorem qn_ (a:Int) (t:List Per) (p:Per):kI a (t ++ [p])=max (kI a t) p.frm:=by unfold kI;rw [List.foldl_append];rfl
theorem vs_ (F:Nat->Prop) (v:Value) (t:List Per) (w:World) (ht:bG w F v t) :
  Calls Tryz.prog 184 #[v] w λe w'=>e=.returned (.int .i64 (fH t))/\Below w.heap.size w w':=by
 obtain ⟨L,qZ,hL⟩:=ht;obtain ⟨a1,c1,rfl,_⟩:=hL.row;have HL:=ad hL;have fA:=hL.len;have gT:t.length=L.length:=by rw [<- qZ,List.length_map]
 have HT:=ad gT;have b6:=ad qZ;clear hL gT qZ
 go_in
 go_wp2
 go_loopw [3,5,8] (λm _ i wr=>∃ k:Nat,k<=L.length/\i=.int .i64 k/\m=.int .i64 (kI 0 (t.take k))/\Below w.heap.size w wr) (λ_ _ i _=>L.length-(intOf i).toNat)
 .exact ⟨0,aa,rfl,by simp [kI],xE⟩
 obtain ⟨k,hk,rfl,rfl,hb⟩:=hrel;by_cases hlt:k<L.length
 .have dh:(k:Int)<L.length:=aa;obtain ⟨b1,o1,x,rfl,hx,cS,hb1,e0,e1,e2,e3⟩:=(HL.o.keep (aN.below hb) hb.size).get hlt;rw [b6.o] at cS;have hS:kI 0 (t.take (k+1))=max (kI 0 (t.take k)) x.p.frm:=by
   have oj:k<t.length:=by have:=HT.o;omega
   rw [List.take_succ_eq_append_getElem oj,qn_,cS,List.getD_eq_getElem?_getD,List.getElem?_eq_getElem oj];rfl
  have HS:=ad hS;have hfr:=hx.fr;obtain ⟨xh,xc,xp⟩:=x;obtain ⟨d_,eh,ed,eH,eR,dP,rfl,rfl⟩:=hx.form;dsimp only at e0 e1 e2 e3 hfr HS;clear cS hx hS;generalize kI 0 (t.take k)=s0 at *;go_wp2_with fail;all_goals
   go_roundw
   .exact ⟨k+1,aa,by go_num,by rw [HS.o],xE⟩
   simp [intOf];omega
 obtain rfl:k=L.length:=aa;go_wp2;go_ret;refine ⟨?_,xE⟩;have:=HT.o;rw [List.take_of_length_le aa];rfl
theorem Uz (h c:Value) (p:Per) (n:Int) (w:World) (hf:0<=p.frm) (gh:p.frm<=1125899906842624) (hp:1<=p.period) (fs:p.period<=1125899906842624) (hn:0<=n) (mf:n<=1125899906842624) :
  Calls Tryz.prog 183 #[an h c p.frm p.period,.int .i64 n] w λe w'=>e=.returned (.int .i64 (cA p n))/\Below w.heap.size w w':=by
 have n1:p.period≠0:=aa;have b1:=Int.emod_nonneg p.frm n1;have b2:=Int.emod_lt_of_pos p.frm (show 0<p.period by omega);have q1:p.frm.tmod p.period=p.frm % p.period:=Int.tmod_eq_emod_of_nonneg hf;have q2:(p.frm % p.period+n).tmod p.period=(p.frm % p.period+n) % p.period:=Int.tmod_eq_emod_of_nonneg aa;unfold cA;generalize p.frm % p.period=r at *;have HR:Hid (0<=(r+n) % p.period/\(r+n) % p.period<p.period):=ad ⟨Int.emod_nonneg _ n1,Int.emod_lt_of_pos _ aa⟩
 go_in
 go_wp2_with fail
 go_region
 go_wp2
 go_ret;exact ⟨rfl,xE⟩
def TV (t:List Per):Prop:=∀ p∈t,validB p=true
theorem Wo {n:Int} (h:validB p=true):hasB p n=true↔p.mem n:=by
 unfold hasB;rw [h,Bool.true_and,Bool.and_eq_true,decide_eq_true_iff];exact ⟨λ⟨h0,h1⟩=>(Ep h0).1 h1,λh1=>⟨h1.1,(Ep h1.1).2 h1⟩⟩
theorem BH {n:Int} (h:TV t):inB t n=true↔ba t n:=by
 unfold inB ba;rw [List.all_eq_true];exact ⟨λg p hp=>(Wo (h p hp)).1 (g p hp),λg p hp=>(Wo (h p hp)).2 (g p hp)⟩
theorem Vw {n:Int} {S T:Int->Prop} (h:iS S f n b) (hs:∀ x,T x↔S x\/(x=d/\ba t x)) (h1:f<=d) (h2:b=false\/d<n) (h3:ba t d):iS T f d true:=
 (h.take h1 h2).congr λx _=>by rw [hs];exact or_congr Iff.rfl ⟨λg=>g.1,λg=>⟨g,g ▸ h3⟩⟩
theorem Ip {n:Int} {S T:Int->Prop} (h:iS S f n b) (hs:∀ x,T x↔S x\/(x=d/\ba t x)) (h1:¬ (f<=d/\(b=false\/d<n)/\ba t d)):iS T f n b:=by
 by_cases h3:ba t d
 .exact (h.pass λg=>h1 ⟨g.1,g.2,h3⟩).congr λx _=>by rw [hs];exact or_congr Iff.rfl ⟨λg=>g.1,λg=>⟨g,g ▸ h3⟩⟩
 exact h.congr λx _=>by rw [hs];exact ⟨λg=>g.elim id λg=>absurd (g.1 ▸ g.2) h3,.inl⟩
theorem VC (F:Nat->Prop) (v:Value) (t:List Per) (f:Int) (w:World) (ht:bG w F v t) (hv:TV t) (hf:aP f) :
  Calls Tryz.prog 134 #[v,.int .i64 f] w λe w'=>∃ (n:Int) (b:Bool),e=.returned (.tuple #[.int .i64 n,.bool b])/\iS (mP t t.length 0) f n b/\Below w.heap.size w w':=by
 have dL:=λW d (h:Below w.heap.size w W) (hd:aP d)=>XE F v t d W (ht.ext h) hd;obtain ⟨L,qZ,hL⟩:=ht;obtain ⟨a1,c1,rfl,_⟩:=hL.row;have HL:=ad hL;have fA:=hL.len;have gT:t.length=L.length:=by rw [<- qZ,List.length_map]
 have HT:=ad gT;have b6:=ad qZ;have HV:=ad hv;clear hL gT qZ hv
 go_in
 go_wp2
 go_loopw [6,7,9,11,14] (λnv bv _ _ i wr=>∃ (k:Nat) (n:Int) (b:Bool),k<=L.length/\i=.int .i64 k/\nv=.int .i64 n/\bv=.bool b/\Hid (iS (mP t k 0) f n b)/\Below w.heap.size w wr) (λ_ _ _ _ i _=>L.length-(intOf i).toNat)
 .exact ⟨0,0,false,aa,rfl,rfl,rfl,ad (iS.start.congr λx _=>sk_),xE⟩
 obtain ⟨k,n,b,hk,rfl,rfl,rfl,ij,hb⟩:=hrel;by_cases hlt:k<L.length
 .have dh:(k:Int)<L.length:=aa;obtain ⟨b1,o1,x,rfl,hx,cS,hb1,e0,e1,e2,e3⟩:=(HL.o.keep (aN.below hb) hb.size).get hlt;rw [b6.o] at cS;have hkt:k<t.length:=by have:=HT.o;omega
  have jf:=ad cS;have pV:=hx.is.hd;obtain ⟨xh,xc,xp⟩:=x;obtain ⟨d_,eh,ed,eH,eR,dP,rfl,rfl⟩:=hx.form;dsimp only at e0 e1 e2 e3 pV;change Hid (xp=_) at jf;obtain ⟨⟨ah,ch,he,_,_,hcl⟩,ni,hrg⟩:=pV;injection he with cI eB dk
  subst cI;subst eB;subst dk;have dw:=ad hcl;have qA:=ad hrg;have HB:=ad hb;clear hcl hrg cS hx;go_wp2;go_loopw [6,7,11,21] (λnv bv _ i wq=>∃ (j:Nat) (n:Int) (b:Bool),j<=xp.head.length/\i=.int .i64 j/\nv=.int .i64 n/\bv=.bool b/\Hid (iS (mP t k j) f n b)/\Below wr.heap.size wr wq) (λ_ _ _ i _=>xp.head.length-(intOf i).toNat)
  .exact ⟨0,n,b,aa,rfl,rfl,rfl,ij,xE⟩
  obtain ⟨j,n,b,hj,rfl,rfl,rfl,mq,hb2⟩:=hrel;by_cases dr:j<xp.head.length
  .have rD:(j:Int)<xp.head.length:=aa;rcases dw.o with h0|⟨b4,o4,rfl,hc4⟩
   .rw [h0] at dr;simp at dr
   have c0:=al.cell hb2 (hc4 j dr);have hd:=qA.o _ (dz (d:=0) dr);have HS:=λx=>sj_ (t:=t) (i:=k) (k:=j) (x:=x) (by rw [<- jf.o];exact dr);rw [<- jf.o] at HS;have HS:=ad HS;generalize xp.head.getD j 0=d at *;by_cases h1:f<=d
   .cases b with
    | false=>
     cases hq:inB t d with
     | true=>
      have HI:=λW h=>dL W d h hd;rw [hq] at HI;have sF:=ad ((BH HV.o).1 hq);clear hq;go_wp2_with (go_at_call 180;refine (HI _ xE).mono ?_;rintro e w1 ⟨rfl,hb3⟩);go_roundw
      .exact ⟨j+1,d,true,aa,by go_num,rfl,rfl,ad (Vw mq.o HS.o h1 (by first|exact .inl rfl|exact .inr (by assumption)) sF.o),xE⟩
      simp [intOf];omega
     | false=>
      have HI:=λW h=>dL W d h hd;rw [hq] at HI;have sF:Hid (¬ ba t d):=ad λg=>by rw [(BH HV.o).2 g] at hq;exact absurd hq aF
      clear hq;go_wp2_with (go_at_call 180;refine (HI _ xE).mono ?_;rintro e w1 ⟨rfl,hb3⟩);go_roundw
      .exact ⟨j+1,n,_,aa,by go_num,rfl,rfl,ad (Ip mq.o HS.o λg=>sF.o g.2.2),xE⟩
      simp [intOf];omega
    | true=>
     by_cases h2:d<n
     .
      cases hq:inB t d with
      | true=>
       have HI:=λW h=>dL W d h hd;rw [hq] at HI;have sF:=ad ((BH HV.o).1 hq);clear hq;go_wp2_with (go_at_call 180;refine (HI _ xE).mono ?_;rintro e w1 ⟨rfl,hb3⟩);go_roundw
       .exact ⟨j+1,d,true,aa,by go_num,rfl,rfl,ad (Vw mq.o HS.o h1 (by first|exact .inl rfl|exact .inr (by assumption)) sF.o),xE⟩
       simp [intOf];omega
      | false=>
       have HI:=λW h=>dL W d h hd;rw [hq] at HI;have sF:Hid (¬ ba t d):=ad λg=>by rw [(BH HV.o).2 g] at hq;exact absurd hq aF
       clear hq;go_wp2_with (go_at_call 180;refine (HI _ xE).mono ?_;rintro e w1 ⟨rfl,hb3⟩);go_roundw
       .exact ⟨j+1,n,_,aa,by go_num,rfl,rfl,ad (Ip mq.o HS.o λg=>sF.o g.2.2),xE⟩
       simp [intOf];omega
     go_wp2
     go_roundw
     .exact ⟨j+1,n,true,aa,by go_num,rfl,rfl,ad (Ip mq.o HS.o λg=>g.2.1.elim (λg=>absurd g aF) h2),xE⟩
     simp [intOf];omega
   go_wp2
   go_roundw
   .exact ⟨j+1,n,b,aa,by go_num,rfl,rfl,ad (Ip mq.o HS.o λg=>h1 g.1),xE⟩
   simp [intOf];omega
  obtain rfl:j=xp.head.length:=aa;go_wp2;go_roundw
  .exact ⟨k+1,n,b,aa,by go_num,rfl,rfl,ad (mq.o.congr λx _=>by rw [ut_ hkt,<- jf.o]),xE⟩
  simp [intOf];omega
 obtain rfl:k=L.length:=aa;go_wp2;go_ret2;exact ⟨n,b,rfl,by rw [HT.o];exact ij.o,xE⟩
theorem aN.grown {F:Nat->Prop} (h:W.grownBy W' (some g)) (hF:¬ F g):aN F W W':=λb hb hl=>h.block b hl (by rintro ⟨⟩;exact hF hb)
theorem World.grownBy.trans' {B:World} {r:Option Nat} (h:A.grownBy B r) (k:B.grownBy C r):A.grownBy C r:=
 ⟨k.os.trans h.os,k.tape.trans h.tape,k.output.trans h.output,Nat.le_trans h.size k.size,λb hb hn=>(k.block b (Nat.lt_of_lt_of_le hb h.size) hn).trans (h.block b hb hn)⟩
theorem World.grownBy.set' {B:World} {i:Nat} (h:A.grownBy B (some g)) (v:Value):A.grownBy (B.setCell ⟨g,i,none⟩ v) (some g):=
 ⟨h.os,h.tape,h.output,by rw [World.size_setCell];exact h.size,λb hb hn=>(Below.heap_setCell B ⟨g,i,none⟩ v b (by rintro rfl;exact hn rfl)).trans (h.block b hb hn)⟩
theorem World.grownBy.below' {B:World} {B0:Nat} (h:A.grownBy B (some g)) (hg:B0<=g) (hB:B0<=A.heap.size):Below B0 A B:=
 ⟨h.os,h.tape,h.output,h.size,λb hb=>h.block b aa (by rintro ⟨⟩;omega)⟩
def Fits (xs:List Value) (done:List (Int × Int)):Prop:=∀ k,k<done.length->xs[k]? = some (.int .i64 (done.getD k (0,0)).2)
theorem Fits.snoc {done:List (Int × Int)} {a:Int × Int} (h:Fits xs done) (hl:done.length<xs.length):Fits (xs.set done.length (.int .i64 a.2)) (done ++ [a]):=by
 intro k hk;rw [List.length_append] at hk;simp only [List.length_singleton] at hk;by_cases hk2:k<done.length
 .rw [List.getElem?_set_ne aa,h k hk2,List.getD_eq_getElem?_getD,List.getD_eq_getElem?_getD,List.getElem?_append_left hk2]
 obtain rfl:k=done.length:=aa;rw [List.getElem?_set_self hl,List.getD_eq_getElem?_getD,List.getElem?_append_right aa];simp
theorem Fits.pre {done:List (Int × Int)} {a:Int × Int} (h:Fits xs (done ++ [a])):Fits xs done:=λk hk=>by
 have:=h k aO;rwa [List.getD_eq_getElem?_getD,List.getElem?_append_left hk,<- List.getD_eq_getElem?_getD] at this
def Q6 (done:List (Int × Int)) (p:Per) (t:List Per) (c:Int):Prop:=GH done p.period (cA p c)/\al (done ++ [(p.period,cA p c)]) t
theorem Wk {i:Nat} {done:List (Int × Int)} (h:i<t.length):al done (t.drop i)↔∃ c∈(t.getD i default).cycle,Q6 done (t.getD i default) (t.drop (i+1)) c:=by
 rw [List.drop_eq_getElem_cons h,List.getD_eq_getElem?_getD,List.getElem?_eq_getElem h];rfl
def BJ (done:List (Int × Int)) (P r:Int) (k:Nat):Prop:=∀ j,j<k->(r-(done.getD j (0,0)).2) % ((Int.gcd P (done.getD j (0,0)).1:Nat):Int)=0
theorem WW {done:List (Int × Int)}:GH done P r↔BJ done P r done.length:=by
 constructor
 .exact λh j hj=>h _ (dz hj)
 intro h x hx;obtain ⟨j,hj,rfl⟩:=List.mem_iff_getElem.1 hx;have:=h j hj;rwa [List.getD_eq_getElem?_getD,List.getElem?_eq_getElem hj] at this
theorem BJ.succ {done:List (Int × Int)} (h:BJ done P r k) (h1:(r-(done.getD k (0,0)).2) % ((Int.gcd P (done.getD k (0,0)).1:Nat):Int)=0):BJ done P r (k+1):=λj hj=>by
 by_cases FH:j<k
 .exact h j FH
 obtain rfl:j=k:=aa;exact h1
structure sn (g:Nat) (F:Nat->Prop) (v:Value) (L:List PV) (b1 b2 b3:Nat) (done:List (Int × Int)) (w:World) (xs:List Value):Prop where
 term:gy w F v L
 c1:w.cell? ⟨b1,0,none⟩=some v
 c2:w.cell? ⟨b2,0,none⟩=some (.slice (some ⟨g,0,none⟩) L.length L.length)
 c3:w.cell? ⟨b3,0,none⟩=some (.func (.func 182) #[] #[.pointer (some ⟨b1,0,none⟩),.pointer (some ⟨b2,0,none⟩),.pointer (some ⟨b3,0,none⟩)])
 row:w.ownsRow g 3 1 (.slice (some ⟨g,0,none⟩) L.length L.length) L.length xs
 fits:Fits xs done
theorem sn.grow {F:Nat->Prop} {b1 b2 b3:Nat} {done done':List (Int × Int)} {xs':List Value} (h:sn g F v L b1 b2 b3 done w xs) (hg:w.grownBy W (some g)) (hF:¬ F g) (h1:b1≠g) (h2:b2≠g) (h3:b3≠g)
  (hr:W.ownsRow g 3 1 (.slice (some ⟨g,0,none⟩) L.length L.length) L.length xs') (hf:Fits xs' done'):sn g F v L b1 b2 b3 done' W xs':=
 ⟨h.term.keep (aN.grown hg hF) hg.size,hg.cell h.c1 (by rintro ⟨⟩;exact h1 rfl),hg.cell h.c2 (by rintro ⟨⟩;exact h2 rfl),hg.cell h.c3 (by rintro ⟨⟩;exact h3 rfl),hr,hf⟩
theorem sn.below {F:Nat->Prop} {b1 b2 b3:Nat} {done:List (Int × Int)} (h:sn g F v L b1 b2 b3 done w xs) (hb:Below w.heap.size w W):sn g F v L b1 b2 b3 done W xs:=
 ⟨h.term.keep (aN.below hb) hb.size,al.cell hb h.c1,al.cell hb h.c2,al.cell hb h.c3,h.row.kept (row:=none) ⟨hb.os,hb.tape,hb.output,hb.size,λb hl _=>hb.block b hl⟩ (by right;simp [Value.ownBlock]),h.fits⟩
def MS (g:Nat) (F:Nat->Prop) (v:Value) (L:List PV) (b1 b2 b3:Nat) (done:List (Int × Int)) (i:Nat) (w:World) (e:Ending) (w':World):Prop:=
 ∃ b xs',e=.returned (.bool b)/\(b=true↔al done ((L.map PV.p).drop i))/\sn g F v L b1 b2 b3 done w' xs'/\w.grownBy w' (some g)
theorem rz_ (g:Nat) (F:Nat->Prop) (v:Value) (L:List PV) (b1 b2 b3:Nat) (hF:¬ F g) (h1:b1≠g) (h2:b2≠g) (h3:b3≠g) (hv:TV (L.map PV.p)) :
  ∀ (n i:Nat) (done:List (Int × Int)) (xs:List Value) (w:World),i+n=L.length->done.length=i->(∀ k,k<i->(done.getD k (0,0)).1=((L.map PV.p).getD k default).period/\0<=(done.getD k (0,0)).2/\(done.getD k (0,0)).2<=1099511627776)->
   sn g F v L b1 b2 b3 done w xs->
   Calls Tryz.prog 182 #[.int .i64 i,.pointer (some ⟨b1,0,none⟩),.pointer (some ⟨b2,0,none⟩),.pointer (some ⟨b3,0,none⟩)] w (MS g F v L b1 b2 b3 done i w):=by
 intro n;induction n with
 | zero=>
  intro i done xs w hi hd Ji hc;have fA:=hc.term.len;obtain rfl:i=L.length:=aa;obtain ⟨a1,c1,rfl,hx1,hx2,_⟩:=hc.term.row.is;have k1:=hc.c1;have HC:=ad hc;clear hc Ji hd
  go_in
  go_wp2_with fail
  go_step3
  go_wp2_with fail
  try rw [Exit.noGoto_ret]
  go_ret;exact ⟨true,xs,rfl,by rw [List.drop_of_length_le ag];exact ⟨λ_=>trivial,λ_=>rfl⟩,HC.o,⟨rfl,rfl,rfl,Nat.le_refl _,λ_ _ _=>rfl⟩⟩
 | succ n ih=>
  intro i done xs w hi hd Ji hc;have IH:=ad ih;clear ih;have fA:=hc.term.len;have sW:i<L.length:=aa;have z_:(i:Int)<L.length:=aa;obtain ⟨a1,M1,rfl,hx1,hx2,_⟩:=hc.term.row.is;have k1:=hc.c1;obtain ⟨tb,o1,x,ha,hx,cS,hb1,e0,e1,e2,e3⟩:=hc.term.get sW;subst ha;have jf:=ad cS;have T3:validB x.p=true:=hv _ (by rw [cS];exact dz (by simpa using sW));have AH:=(oL x.p).1 T3;have pV:=hx.is.cy;obtain ⟨xh,xc,xp⟩:=x;obtain ⟨d_,eh,ed,eH,eR,dP,rfl,rfl⟩:=hx.form;dsimp only at e0 e1 e2 e3 pV AH;change Hid (xp=_) at jf;obtain ⟨⟨ah,ch,he,_,_,hcl⟩,ni,hrg⟩:=pV;injection he with cI eB dk
  subst cI;subst eB;subst dk;have f0:=AH.wf.frm;have f1:xp.frm<=1099511627776:=AH.frm;have p0:=AH.wf.per;have p1:xp.period<=1099511627776:=AH.per;have xW:=ad AH.wf.cyc;have dw:=ad hcl;have HC:=ad hc;have qz:=ad Ji;have HX:=ad hx;have HD:=ad hd;have HI:=ad hi;have HV:=ad hv;clear hcl hc Ji hx AH T3 hrg cS hd hv hi
  go_in
  go_wp2_with fail
  go_step3
  go_wp2_with fail
  go_step3
  go_wp2_with fail
  generalize ((i:Int) == (L.length:Int))=pY;go_loopw [5,7,8,9,20] (λ_ _ _ _ idx wr=>∃ (j:Nat) (ys:List Value),j<=xp.cycle.length/\idx=.int .i64 j/\Hid (∀ q,q<j->¬ Q6 done xp ((L.map PV.p).drop (i+1)) (xp.cycle.getD q 0))/\Hid (sn g F (.slice (some ⟨tb,o1,none⟩) L.length M1) L b1 b2 b3 done wr ys)/\Hid (w.grownBy wr (some g))) (λ_ _ _ _ idx _=>xp.cycle.length-(intOf idx).toNat)
  .exact ⟨0,xs,aa,rfl,ad (λq hq=>aa),HC,ad ⟨rfl,rfl,rfl,Nat.le_refl _,λ_ _ _=>rfl⟩⟩
  obtain ⟨j,ys,hj,rfl,gX,AW,HG⟩:=hrel;by_cases dr:j<xp.cycle.length
  .have rD:(j:Int)<xp.cycle.length:=aa;have q1:=AW.o.c1;obtain ⟨_,_,y,Fe,hy,hyp,hyb,g0,g1,g2,g3⟩:=AW.o.term.get sW;cases Fe;obtain ⟨yh,yc,yp⟩:=y;obtain ⟨kF,kP,kK,kG,kQ,kL,rfl,rfl⟩:=hy.form;obtain rfl:yp=xp:=hyp.trans jf.o.symm;dsimp only at g0 g1 g2 g3;have Ov:=(HX.o.keep (aN.grown HG.o hF)).is.cy;obtain ⟨⟨ah,ch,he,_,_,hcl⟩,_,_⟩:=Ov;injection he with cI eB dk
   subst cI;subst dk;rcases hcl with h0|⟨b4,o4,rfl,hc4⟩
   .rw [h0] at dr;simp at dr
   have c0:=hc4 j dr;have hcb:=xW.o.2 _ (dz (d:=0) dr);have HJ:Hid (yp.cycle.getD j 0∈yp.cycle):=ad (dz dr);generalize hcc:yp.cycle.getD j 0=c at *;have CF:=ad hcc;have hr:=JJ ((oL yp).1 (HV.o _ (by rw [jf.o];exact dz (by simpa using sW)))).wf c;have iu:=λW=>Uz (.slice kF kP kK) (.slice kG kQ kL) yp c W f0 aa p0 aa hcb.1 aa;generalize Jk:cA yp c=r at *;have Bg:=ad Jk;have Ho:=ad hyp;clear hc4 hcc Jk hy hyp;go_wp2_with (go_at_call 183;refine (iu _).mono ?_;rintro e w1 ⟨rfl,hbr⟩);have qh:=ad (AW.o.below hbr);have bo:=ad hbr;go_loopw [9,31] (λ_ idx wq=>∃ k:Nat,k<=i/\idx=.int .i64 k/\Hid (BJ done yp.period r k)/\Hid (Below w1.heap.size w1 wq)) (λ_ idx _=>i-(intOf idx).toNat)
   .exact ⟨0,aa,rfl,ad (λ_ h=>absurd h aa),ad (Below.refl _ _)⟩
   obtain ⟨k,hk,rfl,RG,HB⟩:=hrel;have lP:=ad (qh.o.below HB.o);have q1:=lP.o.c1;have q2:=lP.o.c2;by_cases ng:k<i
   .have fM:(k:Int)<i:=aa;have q4:=(lP.o.row.cellAt k aa).trans (lP.o.fits k (by have:=HD.o;omega));obtain ⟨fm,kM,uV⟩:=qz.o k ng;obtain ⟨_,_,y,Fe,hy,hyp,hyb,g0,g1,g2,g3⟩:=lP.o.term.get sW;cases Fe;obtain ⟨yh,yc,vL⟩:=y;obtain ⟨kF,kP,kK,kG,kQ,kL,rfl,rfl⟩:=hy.form;obtain rfl:vL=yp:=hyp.trans jf.o.symm;obtain ⟨_,_,z,Fe,hz,Gt,hzb,z0,z1,z2,z3⟩:=lP.o.term.get (show k<L.length by omega);cases Fe;obtain ⟨zh,zc,zp⟩:=z;obtain ⟨az1,nz1,dz1,az2,nz2,dz2,rfl,rfl⟩:=hz.form;dsimp only at g0 g1 g2 g3 z0 z1 z2 z3;change zp=_ at Gt;rw [<- Gt] at fm;have Jz:=(oL zp).1 (HV.o _ (by rw [Gt];exact dz aO));have z5:=Jz.wf.per;have z6:zp.period<=1099511627776:=Jz.per;have hgb:=nL (a:=vL.period) (b:=zp.period) p0;have G0:=λW=>zf vL.period zp.period W aa aa aa aa;have qB:Hid ((r-(done.getD k (0,0)).2) % ((Int.gcd vL.period (done.getD k (0,0)).1:Nat):Int)=0->BJ done vL.period r (k+1)):=ad RG.o.succ;have CT:Hid (GH done vL.period r->(r-(done.getD k (0,0)).2) % ((Int.gcd vL.period (done.getD k (0,0)).1:Nat):Int)=0):=ad λh=>WW.1 h k (by have:=HD.o;omega);rw [fm] at qB CT;generalize ((Int.gcd vL.period zp.period:Nat):Int)=G at *;generalize (done.getD k (0,0)).2=d2 at *;have jR:(r-d2).tmod G=0↔(r-d2) % G=0:=by
     constructor
     .exact λh=>Int.emod_eq_zero_of_dvd (Int.dvd_of_tmod_eq_zero h)
     exact λh=>Int.tmod_eq_zero_of_dvd (Int.dvd_of_emod_eq_zero h)
    by_cases ha:(r-d2) % G=0
    .have hT:=jR.2 ha;have HN:=ad (qB.o ha);clear jR ha hy hz fm Jz hyp Gt;go_wp2_with fail;go_quiet ((go_at_call 176;(first|exact Calls.quiet_of (G0 _)|exact Iw (G0 _))))
     go_wp2
     go_roundw
     .exact ⟨k+1,aa,by go_num,HN,ad (Below.drewN HB.o _)⟩
     simp [intOf];omega
    have hT:(r-d2).tmod G≠0:=λh=>ha (jR.1 h);have K8:Hid (¬ Q6 done vL ((L.map PV.p).drop (i+1)) c):=ad λh=>ha (CT.o (by have:=h.1;rwa [Bg.o] at this));clear jR ha hy hz fm Jz hyp Gt;go_wp2_with fail;go_quiet ((go_at_call 176;(first|exact Calls.quiet_of (G0 _)|exact Iw (G0 _))))
    go_wp2
    go_roundw
    .exact ⟨j+1,ys,aa,by go_num,ad (λq hq=>by
     by_cases hqj:q<j
     .exact gX.o q hqj
     obtain rfl:q=j:=aa;rw [CF.o];exact K8.o),ad (lP.o.below (Below.drewN (Below.refl _ _) _)),ad (World.grownBy.trans' HG.o (World.grownBy.of_below ((bo.o.trans ((Below.drewN HB.o _).mono bo.o.size))) _))⟩
    simp [intOf];omega
   obtain rfl:k=i:=aa;have q5:=(lP.o.row.cellAt k aa);have xA:ys.length=L.length:=by have:=lP.o.row.1;omega
   rw [List.getElem?_eq_getElem aa] at q5;have q6:=lP.o.row.frozenAt k;have hgr:wr.grownBy (wr.setCell ⟨g,k,none⟩ (.int .i64 r)) (some g):=World.grownBy.set' ⟨rfl,rfl,rfl,Nat.le_refl _,λ_ _ _=>rfl⟩ _;have YI:Hid (Fits (ys.set k (.int .i64 r)) (done ++ [(yp.period,r)])):=ad (by have h:=lP.o.fits.snoc (a:=(yp.period,r)) (by rw [HD.o];omega);rwa [HD.o] at h);have HST:=ad (lP.o.grow hgr hF h1 h2 h3 (lP.o.row.stored k (.int .i64 r)).1 YI.o);have DA:=IH.o (k+1) (done ++ [(yp.period,r)]) _ _ (by have:=HI.o;omega) (by simp [HD.o]) (λq hq=>by
    by_cases hqk:q<k
    .have h:=qz.o q hqk;have e:(done ++ [(yp.period,r)]).getD q (0,0)=done.getD q (0,0):=by rw [List.getD_eq_getElem?_getD,List.getElem?_append_left (by have:=HD.o;omega),<- List.getD_eq_getElem?_getD]
     rw [e];exact h
    obtain rfl:q=k:=aa;have e:(done ++ [(yp.period,r)]).getD q (0,0)=(yp.period,r):=by rw [List.getD_eq_getElem?_getD,List.getElem?_append_right (by have:=HD.o;omega),HD.o];simp
    rw [e];exact ⟨by rw [<- jf.o],aa,aa⟩) HST.o
   rw [show ((k+1:Nat):Int)=(k:Int)+1 from by omega] at DA;have Ka:Hid (GH done yp.period r):=ad (WW.2 (by rw [HD.o];exact RG.o));have RW:=ad (World.grownBy.trans' HG.o (World.grownBy.of_below (bo.o.trans (HB.o.mono bo.o.size)) _));have q7:=HST.o.c3;have q8:=HST.o.c1;clear hgr;go_wp2_with (go_at_call 182;refine DA.mono ?_;rintro e w2 ⟨bb,zs,rfl,jx,Fu,hg2⟩;have RZ:=ad jx;have kS:=ad Fu;have lR:=ad hg2;clear jx Fu hg2;cases bb)
   .
    go_roundw
    .exact ⟨j+1,zs,aa,by go_num,ad (λq hq=>by
     by_cases hqj:q<j
     .exact gX.o q hqj
     obtain rfl:q=j:=aa;rw [CF.o];rintro ⟨h7,h8⟩;rw [Bg.o] at h8;exact absurd h8 (by simpa using RZ.o)),ad ⟨kS.o.term,kS.o.c1,kS.o.c2,kS.o.c3,kS.o.row,kS.o.fits.pre⟩,ad (World.grownBy.trans' (World.grownBy.set' RW.o _) lR.o)⟩
    simp [intOf];omega
   
   try rw [Exit.noGoto_ret]
   go_ret;refine ⟨true,zs,rfl,?_,⟨kS.o.term,kS.o.c1,kS.o.c2,kS.o.c3,kS.o.row,kS.o.fits.pre⟩,World.grownBy.trans' (World.grownBy.set' RW.o _) lR.o⟩;refine ⟨λ_=>(Wk aO).2 ⟨c,?_,?_⟩,λ_=>rfl⟩
   .rw [<- jf.o];exact HJ.o
   rw [<- jf.o];exact ⟨by rw [Bg.o];exact Ka.o,by rw [Bg.o];exact RZ.o.1 (by first|rfl|trivial|simp)⟩
  obtain rfl:j=xp.cycle.length:=aa;go_wp2_with fail;try rw [Exit.noGoto_ret]
  go_ret;refine ⟨false,ys,rfl,⟨λh=>absurd h aF,λh=>?_⟩,AW.o,HG.o⟩;obtain ⟨c,hc1,hc2⟩:=(Wk aO).1 h;rw [<- jf.o] at hc1 hc2;obtain ⟨q,hq,rfl⟩:=List.mem_iff_getElem.1 hc1;exact absurd (by rw [List.getD_eq_getElem?_getD,List.getElem?_eq_getElem hq];exact hc2) (gX.o q hq)
theorem Ints.lt (h:Ints W v l) (hl:l≠[]) (hk:v.ownBlock=some k):k<W.heap.size:=by
 obtain ⟨⟨a,c,rfl,h1,h2,h3⟩,h4,h5⟩:=h;rcases h3 with h3|⟨b,o,rfl,hc⟩
 .exact absurd h3 hl
 simp [Value.ownBlock] at hk;subst hk;exact World.block_lt_of_cell? W _ (hc 0 (List.length_pos_iff.2 hl))
theorem bp.lt {F:Nat->Prop} {x:PV} (h:bp W F x):bp W (λb=>F b/\b<W.heap.size) x:=
 ⟨h.is,h.fr,h.pe,λe k hk=>⟨h.bh e k hk,h.is.hd.lt e hk⟩,λe k hk=>⟨h.bc e k hk,h.is.cy.lt e hk⟩⟩
theorem bS.lt {F:Nat->Prop} (h:bS W F v n cs):bS W (λb=>F b/\b<W.heap.size) v n cs:=by
 obtain ⟨a,c,rfl,h1,h2,h3⟩:=h;refine ⟨a,c,rfl,h1,h2,h3.imp id ?_⟩;rintro ⟨b,o,rfl,hb,hl,hc⟩;exact ⟨b,o,rfl,⟨hb,hl⟩,hl,hc⟩
theorem gy.lt {F:Nat->Prop} (h:gy W F v L):gy W (λb=>F b/\b<W.heap.size) v L:=⟨h.row.lt,h.len,λx hx=>(h.all x hx).lt⟩
theorem bG.lt {F:Nat->Prop} (h:bG W F v t):bG W (λb=>F b/\b<W.heap.size) v t:=by
 obtain ⟨L,e,g⟩:=h;exact ⟨L,e,g.lt⟩
theorem cE.lt {F:Nat->Prop} {L:List (Value × List Per)} (h:cE W F v L):cE W (λb=>F b/\b<W.heap.size) v L:=⟨h.row.lt,h.len,λx hx=>(h.all x hx).lt⟩
theorem aA.lt {F:Nat->Prop} (h:aA W F v m):aA W (λb=>F b/\b<W.heap.size) v m:=by
 obtain ⟨L,e,g⟩:=h;exact ⟨L,e,g.lt⟩
theorem TV.wf (h:TV t):∀ p∈t,p.WF:=λp hp=>((oL p).1 (h p hp)).wf
theorem s0_ (F:Nat->Prop) (v:Value) (L:List PV) (w w3:World) (xs:List Value) (hv:TV (L.map PV.p)) (hT:gy w (λb=>F b/\b<w.heap.size) v L) (hb:Below w.heap.size w w3) (hs:w.heap.size+1<w3.heap.size)
  (hc:w3.cell? ⟨w.heap.size,0,none⟩=some v) (ho:w3.ownsRow (w.heap.size+1) 3 1 (.slice (some ⟨w.heap.size+1,0,none⟩) L.length L.length) L.length xs) :
  Calls Tryz.prog 182 #[.int .i64 0,.pointer (some ⟨w.heap.size,0,none⟩),.pointer (some ⟨w3.heap.size,0,none⟩),.pointer (some ⟨w3.heap.size+1,0,none⟩)]
   ((w3.alloc (.cells #[.slice (some ⟨w.heap.size+1,0,none⟩) L.length L.length] 35)).alloc (.cells #[.func (.func 182) #[] #[.pointer (some ⟨w.heap.size,0,none⟩),.pointer (some ⟨w3.heap.size,0,none⟩),.pointer (some ⟨w3.heap.size+1,0,none⟩)]] 168))
   λe w'=>∃ b,e=.returned (.bool b)/\(b=true↔lK (L.map PV.p))/\Below w.heap.size w w':=by
 have Oo:sn (w.heap.size+1) (λb=>F b/\b<w.heap.size) v L w.heap.size w3.heap.size (w3.heap.size+1) []
   ((w3.alloc (.cells #[.slice (some ⟨w.heap.size+1,0,none⟩) L.length L.length] 35)).alloc (.cells #[.func (.func 182) #[] #[.pointer (some ⟨w.heap.size,0,none⟩),.pointer (some ⟨w3.heap.size,0,none⟩),.pointer (some ⟨w3.heap.size+1,0,none⟩)]] 168)) xs:=by
  refine ⟨hT.keep (aN.below ((Ea (Ea hb _) _))) (Ea (Ea hb _) _).size,fy (fy hc _) _,fy ?_ _,?_,(ho.alloc _).alloc _,λk hk=>absurd hk ag⟩
  .exact ((af.new _ _ _).cells 0).1
  have h:=((af.at (w:=w3.alloc (.cells #[.slice (some ⟨w.heap.size+1,0,none⟩) L.length L.length] 35)) (b:=w3.heap.size+1) (c:=#[.func (.func 182) #[] #[.pointer (some ⟨w.heap.size,0,none⟩),.pointer (some ⟨w3.heap.size,0,none⟩),.pointer (some ⟨w3.heap.size+1,0,none⟩)]]) (t:=168) (by rw [World.size_alloc])).cells 0).1;exact h
 have h:=rz_ (w.heap.size+1) _ v L w.heap.size w3.heap.size (w3.heap.size+1) aa aa aa aa hv L.length 0 [] xs _ aa rfl (λk hk=>aa) Oo;refine h.mono ?_;rintro e w' ⟨b,zs,rfl,jx,-,hg⟩;refine ⟨b,rfl,?_,(Ea (Ea hb _) _).trans (World.grownBy.below' hg aa (by simp [World.size_alloc];omega))⟩;rw [jx,List.drop_zero];exact Xp hv.wf
theorem Vh (F:Nat->Prop) (v:Value) (t:List Per) (w:World) (ht:bG w F v t) (hv:TV t) :
  Calls Tryz.prog 135 #[v] w λe w'=>∃ b,e=.returned (.bool b)/\(b=true↔lK t)/\Below w.heap.size w w':=by
 obtain ⟨L,rfl,hL⟩:=ht;obtain ⟨a1,M1,rfl,hx1,hx2,_⟩:=hL.row.is;have fA:=hL.len;have HRC:=ad (Xp hv.wf);have HT:=λW (h:Below w.heap.size w W)=>(hL.lt.keep (aN.below h) h.size);have HV:=ad hv;have vZ:=ad HT;obtain ⟨bi,oU,kc,ju,hby⟩:=wB;clear hL HT hv
 go_in
 go_wp2_with (first|(at_make;refine wpList_make_full _ rfl _ _ 35 rfl (w.heap.size+1) 3 bi (.int .i64 0) 1 Tryz.underlying35 oU kc ju .i64 .i64 _ _ L.length rfl rfl rfl rfl (by rw [hby];omega) (by unfold maxLen;omega) ag ?_;intro w3 cQ cO;have hb3:Below w.heap.size w w3:=(Below.trans (Ea (Er w) _) ((Below.refl _ _).grown cO ag (λk e=>by cases e))))|(go_at_call 182;have hs3:=(cQ.lt _ rfl).2;have hc3:=cO.cell ((af.new w _ _).cells 0).1 ag;rw [World.size_alloc] at cQ hs3;refine (s0_ F _ L w w3 _ HV.o (vZ.o w (Er w)) hb3 hs3 hc3 cQ).mono ?_;rintro e w4 ⟨b,rfl,hb4⟩))
 go_ret;exact ⟨b,rfl,hb4⟩
theorem u4_ {n:Int} (hw:∀ p∈t,p.WF) (h:iS (mP t t.length 0) 0 n b):jk t↔b=false/\¬ lK t:=by
 by_cases hne:t=[]
 .subst hne;exact ⟨λh=>absurd (λp hp=>by simp at hp) (h 0),λ⟨_,h⟩=>absurd ⟨0,aF,λp hp=>by simp at hp⟩ h⟩
 rw [rv_];refine and_congr ?_ Iff.rfl;have h2:=h.congr (T:=λx=>ba t x/\x<fH t) λx _=>(VE hne hw).symm;rcases h2 with ⟨rfl,h1,h3,_⟩|⟨rfl,rfl,h1⟩
 .exact ⟨λg=>absurd h3.1 (g n h3.2),λg=>absurd g aF⟩
 exact ⟨λ_=>rfl,λ_ x hx hm=>h1 x (UR hne hm) ⟨hm,hx⟩⟩
theorem UX (F:Nat->Prop) (v:Value) (t:List Per) (w:World) (ht:bG w F v t) (hv:TV t) :
  Calls Tryz.prog 109 #[v] w λe w'=>∃ b,e=.returned (.bool b)/\(b=true↔jk t)/\Below w.heap.size w w':=by
 have H1:=VC F v t 0 w ht hv (by constructor <;> decide);have H2:=λW (h:Below w.heap.size w W)=>Vh F v t W (ht.ext h) hv;have HW:=ad hv.wf;obtain ⟨L,rfl,hL⟩:=ht;obtain ⟨a1,M1,rfl,hx1,hx2,_⟩:=hL.row.is;clear hL hv
 go_in
 go_wp2_with (first|(go_at_call 134;refine H1.mono ?_;rintro e w1 ⟨n,b,rfl,hE,hb1⟩;have HE:=ad hE;clear hE;cases b)|(go_at_call 135;refine (H2 _ xE).mono ?_;rintro e w2 ⟨r,rfl,hR,hb2⟩;have HR:=ad hR;clear hR;cases r))
 all_goals go_ret
 all_goals
  refine ⟨_,rfl,?_,xE⟩;rw [u4_ HW.o HE.o]
  first|(simp;done)|(have:=HR.o;simp at this ⊢;exact this)
theorem Nk {t:TypeId}:∀ (vs:List Value) (o:Nat) (w:World) (cur:Array Value),af w g cur t->o+vs.length<=cur.size->
  ∃ cur',af (w.setCells g o vs) g cur' t/\cur'.size=cur.size/\(∀ i,i<cur.size->cur'[i]? = if o<=i/\i<o+vs.length then vs[i-o]? else cur[i]?)/\w.grownBy (w.setCells g o vs) (some g)
 | [],o,w,cur,h,_=>⟨cur,h,rfl,λi hi=>by rw [if_neg ag],⟨rfl,rfl,rfl,Nat.le_refl _,λ_ _ _=>rfl⟩⟩
 | v :: vs,o,w,cur,h,hl=>by
  rw [List.length_cons] at hl;have h1:af (w.setCell ⟨g,o,none⟩ v) g (cur.setIfInBounds o v) t:=br o v h;obtain ⟨cur',g1,g2,g3,g4⟩:=Nk vs (o+1) _ _ h1 (by rw [Array.size_setIfInBounds];omega);refine ⟨cur',g1,by rw [g2,Array.size_setIfInBounds],λi hi=>?_,World.grownBy.trans' (World.grownBy.set' ⟨rfl,rfl,rfl,Nat.le_refl _,λ_ _ _=>rfl⟩ v) g4⟩;rw [g3 i (by rw [Array.size_setIfInBounds];exact hi)];by_cases h5:o=i
  .subst h5;rw [if_neg aa,if_pos ag,Array.getElem?_setIfInBounds_self_of_lt hi];simp
  rw [Array.getElem?_setIfInBounds_ne h5];by_cases h6:o+1<=i/\i<o+1+vs.length
  .rw [if_pos h6,if_pos aO];obtain ⟨k,rfl⟩:∃ k,i=o+1+k:=⟨i-(o+1),aa⟩;rw [show o+1+k-(o+1)=k by omega,show o+1+k-o=k+1 by omega,List.getElem?_cons_succ]
  rw [if_neg h6,if_neg aO]
theorem UQ {i:Nat} {e:TypeId} (h:w.ownsRow base e sz (.slice (some ⟨g,0,none⟩) n cap) n xs) (hi:i<n) (zs:List Value) (hz:zs.length=sz) :
  ((
   w.setCells g (i*sz) (xs.drop ((i+1)*sz))).setCells g ((n-1)*sz) zs).ownsRow base e sz (.slice (some ⟨g,0,none⟩) (n-1) cap) (n-1) (xs.take (i*sz) ++ xs.drop ((i+1)*sz))/\
   w.grownBy ((w.setCells g (i*sz) (xs.drop ((i+1)*sz))).setCells g ((n-1)*sz) zs) (some g):=by
 obtain ⟨hl,h|⟨g',cap',cur,he,hb,hg,Jd,hcm,hcs,ht⟩⟩:=h
 .cases h.1
 cases he;obtain ⟨m,rfl⟩:∃ m,n=m+1:=⟨n-1,aa⟩;have hb1:i*sz<=m*sz:=Nat.mul_le_mul_right _ aa;have hb2:(m+1)*sz<=cap*sz:=Nat.mul_le_mul_right _ Jd;rw [Nat.succ_mul] at hl ht hb2;rw [Nat.succ_mul,show m+1-1=m from by omega];have hmm:(m+1-1)*sz=m*sz:=by rw [show m+1-1=m from by omega]
 generalize i*sz=a at *;generalize hc:m*sz=c at *;have rA:(xs.drop (a+sz)).length=c-a:=by rw [List.length_drop];omega
 obtain ⟨M3,a1,a2,a3,a4⟩:=Nk (xs.drop (a+sz)) a w cur hg aa;obtain ⟨M4,b1,b2,b3,b4⟩:=Nk zs c _ M3 a1 aa;refine ⟨⟨by rw [List.length_append,List.length_take,rA];omega,.inr ⟨g,cap,M4,rfl,hb,b1,aa,hcm,aa,?_⟩⟩,World.grownBy.trans' a4 b4⟩;rw [hc];refine List.ext_getElem? λk=>?_;by_cases hk:k<c
 .rw [List.getElem?_take_of_lt hk,Array.getElem?_toList,b3 k aa,if_neg aa,a3 k aa];by_cases hka:k<a
  .rw [if_neg aa,List.getElem?_append_left (by rw [List.length_take];omega),List.getElem?_take_of_lt hka,<- ht,List.getElem?_take_of_lt aa,Array.getElem?_toList]
  rw [if_pos aa,List.getElem?_append_right (by rw [List.length_take];omega),List.length_take,Nat.min_eq_left aa]
 rw [List.getElem?_eq_none (by rw [List.length_take];omega),List.getElem?_eq_none (by rw [List.length_append,List.length_take,rA];omega)]
theorem Ur {P:Program} (w:World) (t e ty:TypeId) (z:Value) (ht:P.underlying t=some (.slice e)) (hv:∀ w,(zeroValue e).run P w=.ok z w) (h1:∀ v∈z.cells.toList,v.oneCell'=true) (b o c:Nat)
  (hc:∀ j,j<z.cells.size->(w.cell? ⟨b,o+j,none⟩).isSome=true/\w.frozen? ⟨b,o+j,none⟩=false) :
  (Builtin.clear_ #[t] ty #[.slice (some ⟨b,o,none⟩) 1 c]).run P w=.ok (.tuple #[]) (w.setCells b o z.cells.toList):=by
 have hzc:(Builtin.zeroCells z.cells 1).toList=z.cells.toList:=by
  refine List.ext_getElem (by simp [Builtin.zeroCells]) λi g1 g2=>?_;have h3:i<z.cells.size:=by simpa using g2
  simp [Builtin.zeroCells,Nat.mod_eq_of_lt h3,h3]
 have hst:=run_storeCells_cells (P:=P) b o z.cells.toList 0 w (λj hj=>(hc j (by simpa using hj)).1) (λj hj=>(hc j (by simpa using hj)).2) h1;simp only [Nat.add_zero] at hst;simp [Builtin.clear_,run_underlying ht,hv,hzc,hst]
theorem zg:∃ i,Tryz.prog.info? 80=some i/\i.zero=some (.agg #[.slice none 0 0,.int .i64 0,.int .i64 0,.slice none 0 0])/\i.size=4/\i.bytes=64:=by
 have h:(Tryz.prog.info? 80).map (λi=>(i.zero,i.size,i.bytes))=some (some (.agg #[.slice none 0 0,.int .i64 0,.int .i64 0,.slice none 0 0]),4,64):=by kernel_rfl
 obtain ⟨i,hi,h1,h2,h3⟩:=info_parts h;exact ⟨i,hi,h1,h2,h3⟩
theorem JE:∃ i,Tryz.prog.info? 78=some i/\i.zero=some (.slice none 0 0)/\i.size=1/\i.bytes=24:=by
 have h:(Tryz.prog.info? 78).map (λi=>(i.zero,i.size,i.bytes))=some (some (.slice none 0 0),1,24):=by kernel_rfl
 obtain ⟨i,hi,h1,h2,h3⟩:=info_parts h;exact ⟨i,hi,h1,h2,h3⟩
theorem VW {P:Program} {t:TypeId} {i:TypeInfo} {z:Value} (h:P.info? t=some i) (hz:i.zero=some z) (w:World):(zeroValue t).run P w=.ok z w:=by
 simp [zeroValue,typeInfo,h,hz]
theorem q1_ (base g n cap i:Nat) (xs:List Value) (w:World) (h:w.ownsRow base 80 4 (.slice (some ⟨g,0,none⟩) n cap) n xs) (hi:i<n) (h1c:∀ u∈xs,u.oneCell'=true) :
  Calls Tryz.prog 189 #[.slice (some ⟨g,0,none⟩) n cap,.int .i64 i,.int .i64 (i+1)] w λe w'=>e=.returned (.slice (some ⟨g,0,none⟩) (n-1) cap)/\w'.ownsRow base 80 4 (.slice (some ⟨g,0,none⟩) (n-1) cap) (n-1) (xs.take (i*4) ++ xs.drop ((i+1)*4))/\w.grownBy w' (some g):=by
 obtain ⟨bi,oU,kc,ju,hby⟩:=zg;obtain ⟨nw,Jd,hcm⟩:xs.length=n*4/\n<=cap/\cap<=9223372036854775807:=by
  obtain ⟨h1,h2|⟨_,_,_,he,_,_,h3,h4,_⟩⟩:=h
  .cases h2.1
  cases he;exact ⟨h1,h3,h4⟩
 have hcl:∀ j,j<n*4->(w.drew.cell? ⟨g,j,none⟩).isSome=true/\w.drew.frozen? ⟨g,j,none⟩=false:=λj hj=>
  ⟨by have h2:=h.drew.cellAt j hj;rw [List.getElem?_eq_getElem aa] at h2;rw [h2];rfl,h.drew.frozenAt j⟩
 obtain ⟨news,hnews⟩:∃ news,news=xs.drop ((i+1)*4):=⟨_,rfl⟩;have hlen:news.length=(n-(i+1))*4:=by rw [hnews,List.length_drop,nw];omega
 obtain ⟨A,hA,AB⟩:∃ A:Addr,(if cap=i+1 then some (⟨g,0,none⟩:Addr) else some ⟨g,(i+1)*4,none⟩)=some A/\Hid (∀ t u,news[t]? = some u->w.drew.cell? (A.add t)=some u):=by
  by_cases hc:cap=i+1
  .refine ⟨⟨g,0,none⟩,by simp [hc],ad λt u hu=>?_⟩;have h0:news.length=0:=by rw [hlen];omega
   rw [List.length_eq_zero_iff.1 h0] at hu;simp at hu
  refine ⟨⟨g,(i+1)*4,none⟩,by simp [hc],ad λt u hu=>?_⟩;have ht:t<(n-(i+1))*4:=by
   have:=(List.getElem?_eq_some_iff.1 hu).1;omega
  rw [hnews,List.getElem?_drop] at hu;rw [Addr.add_lit];exact (h.drew.cellAt _ aa).trans hu
 have s1:=ad hlen;have s2:Hid (∀ u∈news,u.oneCell'=true):=ad λu hu=>h1c u (by rw [hnews] at hu;exact List.mem_of_mem_drop hu);have s3:Hid (∀ t,t<news.length->(w.drew.cell? ⟨g,0+i*4+t,none⟩).isSome=true/\w.drew.frozen? ⟨g,0+i*4+t,none⟩=false):=ad λt ht=>hcl _ aa;have iu:=ad (UQ h.drew hi [.slice none 0 0,.int .i64 0,.int .i64 0,.slice none 0 0] rfl);obtain ⟨W1,hW1⟩:∃ W1,W1=w.drew.setCells g (0+i*4) news:=⟨_,rfl⟩;have lr:∀ ty c,(Builtin.clear_ #[78] ty #[.slice (some ⟨g,(n-1)*4,none⟩) 1 c]).run Tryz.prog W1=.ok (.tuple #[]) (W1.setCells g ((n-1)*4) [.slice none 0 0,.int .i64 0,.int .i64 0,.slice none 0 0]):=
  λty c=>Ur W1 78 80 ty _ rfl (VW oU kc) (by simp [Value.cells];try decide) g ((n-1)*4) c (λj hj=>by
   have FH:j<4:=hj;rw [hW1];refine ⟨?_,by rw [World.frozen?_setCells];exact (hcl _ aa).2⟩;by_cases hin:(n-1)*4+j<i*4+news.length
   .rw [show (n-1)*4+j=0+i*4+((n-1)*4+j-i*4) by omega,World.cell?_setCells_in g _ _ _ (λt ht=>(s3.o t ht).1) _ aa];rfl
   rw [World.cell?_setCells_out g _ _ _ _ (λ_ _=>.inr aO)];exact (hcl _ aa).1)
 have hW:=ad hW1;have HN:=ad hnews;clear hnews hlen h h1c nw hcl hW1;rw [show (i:Int)+1=((i+1:Nat):Int) from rfl];obtain ⟨j,hj⟩:∃ j,j=i+1:=⟨_,rfl⟩;have Ou:∀ ty,(Builtin.clear_ #[78] ty #[.slice (some ⟨g,(i+(n-j))*4,none⟩) (n-(i+(n-j))) (cap-(i+(n-j)))]).run Tryz.prog W1=.ok (.tuple #[]) (W1.setCells g ((n-1)*4) [.slice none 0 0,.int .i64 0,.int .i64 0,.slice none 0 0]):=λty=>by
  rw [show i+(n-j)=n-1 by omega,show n-(n-1)=1 by omega];first|exact lr ty _|(have h:=lr ty (cap-(n-1));rw [Nat.mul_one] at h ⊢;exact h)
 rw [<- hj] at hA ⊢;have Q7:Hid (news.length=(n-j)*4):=ad (by rw [hj];exact s1.o);have hic:i<=cap:=aa;have hjc:j<=cap:=aa;have hjn:j<=n:=aa;have gD:i<j:=aa;have HJ:=ad hj;clear hj lr
 go_in
 go_wp2_with fail
 go_region_law (refine step_append_room rfl (.tmp 22) (.tmp 25) 78 rfl 80 bi 4 rfl oU ju g 0 i cap (by simp [Act.eval,Act.put]) A (n-j) (cap-j) news (by simp [Act.eval,Act.put]) Q7.o AB.o s2.o aa s3.o ?_;rw [<- hW.o])
 go_wp2
 go_ret;have hj:=HJ.o;have e1:i+(n-j)=n-1:=aa;refine ⟨by rw [e1];rfl,?_⟩;have h1:=iu.o;rw [hW.o,HN.o,Nat.zero_add,hj];try simp only [Nat.mul_one] at h1 ⊢
 exact ⟨h1.1,World.grownBy.trans' (World.grownBy.drewR w _) h1.2⟩
theorem q2_ (base g n cap i:Nat) (xs:List Value) (w:World) (h:w.ownsRow base 78 1 (.slice (some ⟨g,0,none⟩) n cap) n xs) (hi:i<n) (h1c:∀ u∈xs,u.oneCell'=true) :
  Calls Tryz.prog 142 #[.slice (some ⟨g,0,none⟩) n cap,.int .i64 i,.int .i64 (i+1)] w λe w'=>e=.returned (.slice (some ⟨g,0,none⟩) (n-1) cap)/\w'.ownsRow base 78 1 (.slice (some ⟨g,0,none⟩) (n-1) cap) (n-1) (xs.take (i*1) ++ xs.drop ((i+1)*1))/\w.grownBy w' (some g):=by
 obtain ⟨bi,oU,kc,ju,hby⟩:=JE;obtain ⟨nw,Jd,hcm⟩:xs.length=n*1/\n<=cap/\cap<=9223372036854775807:=by
  obtain ⟨h1,h2|⟨_,_,_,he,_,_,h3,h4,_⟩⟩:=h
  .cases h2.1
  cases he;exact ⟨h1,h3,h4⟩
 have hcl:∀ j,j<n*1->(w.drew.cell? ⟨g,j,none⟩).isSome=true/\w.drew.frozen? ⟨g,j,none⟩=false:=λj hj=>
  ⟨by have h2:=h.drew.cellAt j hj;rw [List.getElem?_eq_getElem aa] at h2;rw [h2];rfl,h.drew.frozenAt j⟩
 obtain ⟨news,hnews⟩:∃ news,news=xs.drop ((i+1)*1):=⟨_,rfl⟩;have hlen:news.length=(n-(i+1))*1:=by rw [hnews,List.length_drop,nw];omega
 obtain ⟨A,hA,AB⟩:∃ A:Addr,(if cap=i+1 then some (⟨g,0,none⟩:Addr) else some ⟨g,i+1,none⟩)=some A/\Hid (∀ t u,news[t]? = some u->w.drew.cell? (A.add t)=some u):=by
  by_cases hc:cap=i+1
  .refine ⟨⟨g,0,none⟩,by simp [hc],ad λt u hu=>?_⟩;have h0:news.length=0:=by rw [hlen];omega
   rw [List.length_eq_zero_iff.1 h0] at hu;simp at hu
  refine ⟨⟨g,(i+1)*1,none⟩,by simp [hc],ad λt u hu=>?_⟩;have ht:t<(n-(i+1))*1:=by
   have:=(List.getElem?_eq_some_iff.1 hu).1;omega
  rw [hnews,List.getElem?_drop] at hu;rw [Addr.add_lit];exact (h.drew.cellAt _ aa).trans hu
 have s1:=ad hlen;have s2:Hid (∀ u∈news,u.oneCell'=true):=ad λu hu=>h1c u (by rw [hnews] at hu;exact List.mem_of_mem_drop hu);have s3:Hid (∀ t,t<news.length->(w.drew.cell? ⟨g,0+i*1+t,none⟩).isSome=true/\w.drew.frozen? ⟨g,0+i*1+t,none⟩=false):=ad λt ht=>hcl _ aa;have iu:=ad (UQ h.drew hi [.slice none 0 0] rfl);obtain ⟨W1,hW1⟩:∃ W1,W1=w.drew.setCells g (0+i*1) news:=⟨_,rfl⟩;have lr:∀ ty c,(Builtin.clear_ #[55] ty #[.slice (some ⟨g,(n-1)*1,none⟩) 1 c]).run Tryz.prog W1=.ok (.tuple #[]) (W1.setCells g ((n-1)*1) [.slice none 0 0]):=
  λty c=>Ur W1 55 78 ty _ rfl (VW oU kc) (by simp [Value.cells];try decide) g ((n-1)*1) c (λj hj=>by
   have FH:j<1:=hj;rw [hW1];refine ⟨?_,by rw [World.frozen?_setCells];exact (hcl _ aa).2⟩;by_cases hin:(n-1)*1+j<i*1+news.length
   .rw [show (n-1)*1+j=0+i*1+((n-1)*1+j-i*1) by omega,World.cell?_setCells_in g _ _ _ (λt ht=>(s3.o t ht).1) _ aa];rfl
   rw [World.cell?_setCells_out g _ _ _ _ (λ_ _=>.inr aO)];exact (hcl _ aa).1)
 have hW:=ad hW1;have HN:=ad hnews;clear hnews hlen h h1c nw hcl hW1;rw [show (i:Int)+1=((i+1:Nat):Int) from rfl];obtain ⟨j,hj⟩:∃ j,j=i+1:=⟨_,rfl⟩;have Ou:∀ ty,(Builtin.clear_ #[55] ty #[.slice (some ⟨g,i+(n-j),none⟩) (n-(i+(n-j))) (cap-(i+(n-j)))]).run Tryz.prog W1=.ok (.tuple #[]) (W1.setCells g ((n-1)*1) [.slice none 0 0]):=λty=>by
  rw [show i+(n-j)=n-1 by omega,show n-(n-1)=1 by omega];first|exact lr ty _|(have h:=lr ty (cap-(n-1));rw [Nat.mul_one] at h ⊢;exact h)
 rw [<- hj] at hA ⊢;have Q7:Hid (news.length=(n-j)*1):=ad (by rw [hj];exact s1.o);have hic:i<=cap:=aa;have hjc:j<=cap:=aa;have hjn:j<=n:=aa;have gD:i<j:=aa;have HJ:=ad hj;clear hj lr
 go_in
 go_wp2_with fail
 go_region_law (refine step_append_room rfl (.tmp 22) (.tmp 25) 55 rfl 78 bi 1 rfl oU ju g 0 i cap (by simp [Act.eval,Act.put]) A (n-j) (cap-j) news (by simp [Act.eval,Act.put]) Q7.o AB.o s2.o aa s3.o ?_;rw [<- hW.o])
 go_wp2
 go_ret;have hj:=HJ.o;have e1:i+(n-j)=n-1:=aa;refine ⟨by rw [e1];rfl,?_⟩;have h1:=iu.o;rw [hW.o,HN.o,Nat.zero_add,hj];try simp only [Nat.mul_one] at h1 ⊢
 exact ⟨h1.1,World.grownBy.trans' (World.grownBy.drewR w _) h1.2⟩
end
end Go.Proofs.YtbmgmlbmgogeaaaGreat
namespace Kal
section
theorem dK.of (h:p.WF) (hf:p.frm<=9) (hd:p.period∣27720):dK 0 p:=⟨h,λn hn=>hn.1,aa,hd⟩
theorem uy {m n:Int} (h0:0<=m) (h1:m<n) (hd:n∣27720):eD 0 (ev m n):=⟨dK.of (Q8 h0 h1) (by show (0:Int)<=9;omega) hd,Qe h0 h1⟩
theorem x1:eD 0 (ev 1 4):=uy aa aa ⟨6930,aF⟩
theorem x2:eD 0 (ev 3 6):=uy aa aa ⟨4620,aF⟩
theorem x3:eD 0 (ev 2 6):=uy aa aa ⟨4620,aF⟩
theorem x4:eD 0 (ev 0 2):=uy aa aa ⟨13860,aF⟩
theorem x5:eD 0 (ev 0 6):=uy aa aa ⟨4620,aF⟩
theorem ok_one (h:t.length<=4):zk [t]:=⟨ag,λu hu=>by simp at hu;subst hu;exact h⟩
def tri:Per:=⟨[0,2,4],5,1,[]⟩
end
end Kal
namespace Go.Proofs.YtbmgmlbmgogeaaaGreat
section
open Go.RowKit Go.Maps Kal
structure FV (s:Int) (p:Per):Prop where
 fac:dK s p
 far:p.frm<=1099511627776
theorem FV.valid (h:FV s p):Valid p:=by
 have hw:=h.fac.wf;have hf:=h.fac.frm;have h0:=hw.frm;have hp:=hw.per;have vp:=h.fac.per;have h3:=hw.cyc.length_le (show (0:Int)<=p.period by omega);have h4:(p.head.length:Int)<=9:=by
  by_cases hs:s<=p.frm
  .by_cases h0s:0<=s
   .have hr:aG s p.frm p.head:=⟨hw.head.1,λx hx=>⟨h.fac.low x ((hw.head_mem x).1 hx).2.2,(hw.head.2 x hx).2⟩⟩;have:=hr.length_le hs;omega
   have:=hw.head.length_le h0;omega
  have:p.head=[]:=List.eq_nil_iff_forall_not_mem.2 λx hx=>by
   have h1:=h.fac.low x ((hw.head_mem x).1 hx).2.2;have h2:=(hw.head.2 x hx).2;omega
  rw [this];simp
 exact ⟨hw,h.far,aa,aa⟩
theorem FV.validB (h:FV s p):validB p=true:=(oL p).2 h.valid
theorem FV.canon (h:FV s p):bP (canonC p.mem) p.mem/\FV s (canonC p.mem):=
 ⟨h.fac.canon.1,h.fac.canon.2,Int.le_trans (h.fac.canon.1.frm_le h.fac.wf.frm h.fac.wf.per h.fac.wf.pfrom) h.far⟩
theorem z7_ {S:Int->Prop} (hs:∀ x,S x->s<=x) (n:Nat):cnt S n<=max (n-s) 0:=by
 induction n with
 | zero=>simp [cnt];omega
 | succ n ih=>
  simp only [cnt]
  split
  .rename_i h;have:=hs _ h;omega
  omega
theorem FV.op (hp:FV s p) (hq:FV s q) {U:Int->Prop} (g:Prop->Prop->Prop) (hU:∀ n,U n↔g (p.mem n) (q.mem n)) (fo:∀ n,U n->s<=n) (h0:∀ n,U n->0<=n) :
  bP (canonC U) U/\FV s (canonC U)/\aS (canonC p.mem).period (canonC q.mem).period<=27720/\cnt U (max (canonC p.mem).frm (canonC q.mem).frm+aS (canonC p.mem).period (canonC q.mem).period).toNat<=1048576:=by
 obtain ⟨ca,fa⟩:=hp.canon;obtain ⟨cb,fb⟩:=hq.canon;have hop:=fa.fac.op fb.fac g (U:=U) (λn=>by rw [hU,ca.mem,cb.mem]) fo h0;have hl:=Int.le_of_dvd aF hop.2.2.2;have dX:=yX fa.fac.wf.per fb.fac.wf.per;refine ⟨hop.1,⟨hop.2.1,?_⟩,hl,?_⟩
 .exact Int.le_trans (hop.1.frm_le (by have:=fa.fac.wf.frm;omega) dX hop.2.2.1) (by have:=fa.far;have:=fb.far;omega)
 have h1:=z7_ fo (max (canonC p.mem).frm (canonC q.mem).frm+aS (canonC p.mem).period (canonC q.mem).period).toNat;have a1:=fa.fac.frm;have b1:=fb.fac.frm;have a0:=fa.fac.wf.frm;omega
theorem FV.and (hp:FV s p) (hq:FV s q):FV s (kZ p q):=(hp.op hq And (λn=>Iff.rfl) (λn h=>hp.fac.low n h.1) (λn h=>h.1.1)).2.1
theorem FV.or (hp:FV s p) (hq:FV s q):FV s (vG p q):=(hp.op hq Or (λn=>Iff.rfl) (λn h=>h.elim (hp.fac.low n) (hq.fac.low n)) (λn h=>h.elim (λh=>h.1) (λh=>h.1))).2.1
theorem V2 (s:Int) (h c:Value) (p:Per) (w:World) (hp:bX w h c p) (hv:FV s p):Calls Tryz.prog 98 #[an h c p.frm p.period] w (mO (canonC p.mem) w):=
 w5_ h c p _ w hp hv.valid hv.canon.1
theorem Mr (s:Int) (h1 c1 h2 c2:Value) (p1 p2:Per) (w:World) (fs:bX w h1 c1 p1) (eO:bX w h2 c2 p2) (v1:FV s p1) (v2:FV s p2) :
  Calls Tryz.prog 188 #[an h1 c1 p1.frm p1.period,an h2 c2 p2.frm p2.period] w (mO (kZ p1 p2) w):=by
 have h:=v1.op v2 And (λn=>Iff.rfl) (λn h=>v1.fac.low n h.1) (λn h=>h.1.1);have a:=v1.canon.2.fac.per;have b:=v2.canon.2.fac.per;exact Ms h1 c1 h2 c2 p1 p2 _ _ _ w fs eO v1.valid v2.valid v1.canon.1 v2.canon.1 aa aa aa h.1 h.2.2.2
theorem MU (s:Int) (h1 c1 h2 c2:Value) (p1 p2:Per) (w:World) (fs:bX w h1 c1 p1) (eO:bX w h2 c2 p2) (v1:FV s p1) (v2:FV s p2) :
  Calls Tryz.prog 141 #[an h1 c1 p1.frm p1.period,an h2 c2 p2.frm p2.period] w (mO (vG p1 p2) w):=by
 have h:=v1.op v2 Or (λn=>Iff.rfl) (λn h=>h.elim (v1.fac.low n) (v2.fac.low n)) (λn h=>h.elim (λh=>h.1) (λh=>h.1));have a:=v1.canon.2.fac.per;have b:=v2.canon.2.fac.per;exact MW h1 c1 h2 c2 p1 p2 _ _ _ w fs eO v1.valid v2.valid v1.canon.1 v2.canon.1 aa h.1 h.2.2.2
theorem jg.pv {c:Value} (hp:jg w base h c p) (hv:FV s p):bp w (λb=>base<=b/\b<w.heap.size) ⟨h,c,p⟩:=by
 have h1:=hv.valid;have h2:=h1.wf.frm;have h3:p.frm<=1099511627776:=h1.frm;have h4:=h1.wf.per;have h5:p.period<=1099511627776:=h1.per;exact ⟨hp.is,⟨by show _<=p.frm;omega,by show p.frm<=_;omega⟩,⟨by show _<=p.period;omega,by show p.period<=_;omega⟩,λ_ k hk=>hp.hd.lt k hk,λ_ k hk=>hp.cy.lt k hk⟩
theorem PV.enc_one (x:PV) (hh:x.h.oneCell'=true) (hc:x.c.oneCell'=true):∀ u∈x.enc,u.oneCell'=true:=by
 intro u hu;simp only [PV.enc,List.mem_cons,List.not_mem_nil,or_false] at hu;rcases hu with rfl|rfl|rfl|rfl
 .exact hh
 .rfl
 .rfl
 exact hc
theorem bp.one {F:Nat->Prop} {x:PV} (h:bp w F x):∀ u∈x.enc,u.oneCell'=true:=by
 obtain ⟨xh,xc,xp⟩:=x;obtain ⟨_,_,_,_,_,_,rfl,rfl⟩:=h.form;exact PV.enc_one _ rfl rfl
theorem uo_:∀ {j:Nat},(L.flatMap PV.enc).take (j*4)=(L.take j).flatMap PV.enc:=by
 induction L with
 | nil=>intro j;simp
 | cons x L ih=>
  intro j;cases j with
  | zero=>simp
  | succ j=>rw [List.take_succ_cons,List.flatMap_cons,List.flatMap_cons,List.take_append,List.take_of_length_le (by rw [PV.enc_len];omega),PV.enc_len,show (j+1)*4-4=j*4 by omega,ih]
theorem un_:∀ {j:Nat},(L.flatMap PV.enc).drop (j*4)=(L.drop j).flatMap PV.enc:=by
 induction L with
 | nil=>intro j;simp
 | cons x L ih=>
  intro j;cases j with
  | zero=>simp
  | succ j=>rw [List.drop_succ_cons,List.flatMap_cons,List.drop_append,List.drop_of_length_le (by rw [PV.enc_len];omega),PV.enc_len,show (j+1)*4-4=j*4 by omega,ih,List.nil_append]
theorem BA:(L.flatMap PV.enc).length=L.length*4:=by
 induction L with
 | nil=>rfl
 | cons x L ih=>rw [List.flatMap_cons,List.length_append,ih,PV.enc_len,List.length_cons];omega
theorem sg_:(L.flatMap PV.enc).take (j*4) ++ (L.flatMap PV.enc).drop ((j+1)*4)=(L.eraseIdx j).flatMap PV.enc:=by
 rw [uo_,un_,<- List.flatMap_append,List.eraseIdx_eq_take_drop_succ]
theorem x2_ {x:PV}:∀ {j:Nat},j<L.length->((((L.flatMap PV.enc).set (j*4) x.h).set (j*4+1) (.int .i64 x.p.frm)).set (j*4+2) (.int .i64 x.p.period)).set (j*4+3) x.c=(L.set j x).flatMap PV.enc:=by
 induction L with
 | nil=>intro j h;simp at h
 | cons y L ih=>
  intro j h;cases j with
  | zero=>simp [PV.enc]
  | succ j=>
   have e:∀ (l:List Value) (i:Nat) (v:Value),(y.enc ++ l).set (i+4) v=y.enc ++ l.set i v:=λl i v=>by rw [List.set_append_right _ _ (by rw [PV.enc_len];omega),PV.enc_len,Nat.add_sub_cancel]
   rw [List.flatMap_cons,List.set_cons_succ,List.flatMap_cons,<- ih (by simpa using h),show (j+1)*4=j*4+4 by omega,e,show j*4+4+1=j*4+1+4 by omega,e,show j*4+4+2=j*4+2+4 by omega,e,show j*4+4+3=j*4+3+4 by omega,e]
structure cu (B g cap:Nat) (W:World) (L:List PV):Prop where
 row:W.ownsRow B 80 4 (.slice (some ⟨g,0,none⟩) L.length cap) L.length (L.flatMap PV.enc)
 all:∀ x∈L,bp W (λb=>B<=b/\b≠g) x
 len:L.length<=cap
 cap:cap<=17592186044416
theorem cu.le (h:cu B g cap W L):B<=g/\g<W.heap.size:=h.row.lt g rfl
theorem cu.below (h:cu B g cap W L) (hb:Below W.heap.size W W'):cu B g cap W' L:=
 ⟨h.row.kept (row:=none) (World.grownBy.of_below hb _) (by right;simp [Value.ownBlock]),λx hx=>(h.all x hx).keep (aN.below hb),h.len,h.cap⟩
theorem cu.set (h:cu B g cap W L) (hj:j<L.length) {x:PV} (hx:bp W (λb=>B<=b/\b≠g) x) :
  cu B g cap ((((W.setCell ⟨g,j*4,none⟩ x.h).setCell ⟨g,j*4+1,none⟩ (.int .i64 x.p.frm)).setCell ⟨g,j*4+2,none⟩ (.int .i64 x.p.period)).setCell ⟨g,j*4+3,none⟩ x.c) (L.set j x):=by
 have hg:W.grownBy ((((W.setCell ⟨g,j*4,none⟩ x.h).setCell ⟨g,j*4+1,none⟩ (.int .i64 x.p.frm)).setCell ⟨g,j*4+2,none⟩ (.int .i64 x.p.period)).setCell ⟨g,j*4+3,none⟩ x.c) (some g):=
  World.grownBy.set' (World.grownBy.set' (World.grownBy.set' (World.grownBy.set' ⟨rfl,rfl,rfl,Nat.le_refl _,λ_ _ _=>rfl⟩ _) _) _) _
 refine ⟨?_,λy hy=>?_,by rw [List.length_set];exact h.len,h.cap⟩
 .rw [List.length_set,<- x2_ hj];exact ((((h.row.stored _ _).1.stored _ _).1.stored _ _).1.stored _ _).1
 refine bp.keep ?_ (aN.grown hg λh=>h.2 rfl);rcases List.mem_or_eq_of_mem_set hy with hy|rfl
 .exact h.all y hy
 exact hx
theorem cu.erase (h:cu B g cap W L) (hj:j<L.length) (hr:W'.ownsRow B 80 4 (.slice (some ⟨g,0,none⟩) (L.length-1) cap) (L.length-1) ((L.flatMap PV.enc).take (j*4) ++ (L.flatMap PV.enc).drop ((j+1)*4))) (hg:W.grownBy W' (some g)):cu B g cap W' (L.eraseIdx j):=by
 have hl:(L.eraseIdx j).length=L.length-1:=by rw [List.length_eraseIdx_of_lt hj]
 refine ⟨by rw [hl,<- sg_];exact hr,λx hx=>(h.all x (List.mem_of_mem_eraseIdx hx)).keep (aN.grown hg λh=>h.2 rfl),by rw [hl];have:=h.len;omega,h.cap⟩
theorem cu.get (h:cu B g cap W L) (hk:k<L.length) :
  bp W (λb=>B<=b/\b≠g) (L.getD k default)/\W.cell? ⟨g,k*4,none⟩=some (L.getD k default).h/\W.cell? ⟨g,k*4+1,none⟩=some (.int .i64 (L.getD k default).p.frm)/\
   W.cell? ⟨g,k*4+2,none⟩=some (.int .i64 (L.getD k default).p.period)/\W.cell? ⟨g,k*4+3,none⟩=some (L.getD k default).c/\∀ i,W.frozen? ⟨g,i,none⟩=false:=by
 have c:=λi (hi:i<4)=>h.row.cellAt (k*4+i) aa;refine ⟨h.all _ (dz hk),(c 0 aa).trans (mJ hk rfl),(c 1 aa).trans (mJ hk rfl),(c 2 aa).trans (mJ hk rfl),(c 3 aa).trans (mJ hk rfl),λi=>h.row.frozenAt i⟩
theorem cu.term (h:cu B g cap W L):gy W (λb=>B<=b) (.slice (some ⟨g,0,none⟩) L.length cap) L:=by
 refine ⟨⟨_,_,rfl,h.len,Nat.le_trans h.cap aa,.inr ⟨g,0,rfl,h.le.1,h.le.2,λi u hi=>?_⟩⟩,Nat.le_trans h.len h.cap,λx hx=>(h.all x hx).mono λb hb=>hb.1⟩;rw [Nat.zero_add];have:=(List.getElem?_eq_some_iff.1 hi).1;rw [BA] at this;exact (h.row.cellAt i this).trans hi
theorem cu.one (h:cu B g cap W L):∀ u∈L.flatMap PV.enc,u.oneCell'=true:=λu hu=>by
 obtain ⟨x,hx,hu⟩:=List.mem_flatMap.1 hu;exact (h.all x hx).one u hu
theorem U2 (W:World) (F:Nat->Prop):bp W F default:=
 ⟨⟨Ints.nil W,Ints.nil W⟩,by constructor <;> decide,by constructor <;> decide,λh=>absurd rfl h,λh=>absurd rfl h⟩
theorem mg_ {P:Program} {a:Act} {Q:Exit->Act->World->Prop} {x y rest:Code} (l:Nat) (J:Act->World->Prop) (μ:Act->World->Nat) (hf:findLabel (x.seq (y.seq ((Code.label l).seq rest))) l=some (Code.skip.seq rest))
  (first:x.wp P (Exit.then (λa w=>y.wp P (Exit.then J (Exit.jump l J Q)) a w) (Exit.jump l J Q)) a w)
  (pass:∀ a w,J a w->rest.wp P (Exit.jump l (λa' w'=>J a' w'/\μ a' w'<μ a w) Q) a w):(Code.scope (x.seq (y.seq ((Code.label l).seq rest)))).wp P Q a w:=by
 refine wp_scope_jumps l J μ hf (wp_seq (wp_mono first λe a w h=>?_)) λa w h=>wp_seq (wp_skip (pass a w h));cases e <;> first|exact h|skip
 refine wp_seq (wp_mono h λe a w h=>?_);cases e <;> first|exact h|skip
 refine wp_seq (wp_label ?_);refine wp_mono (pass a w h) λe a w h=>?_;cases e <;> first|exact h|exact ⟨h.1,h.2.1⟩
theorem Xi (n:Nat):(madeCells (Value.agg #[.slice none 0 0,.int .i64 0,.int .i64 0,.slice none 0 0]).cells (n*4)).toList=(List.replicate n (default:PV)).flatMap PV.enc:=by
 refine List.ext_getElem? λi=>?_;by_cases hi:i<n*4
 .have h1:i=i / 4*4+i % 4:=aa;have h2:i % 4<4:=aa;have h3:(List.replicate n (default:PV)).getD (i / 4) default=default:=by
   rw [List.getD_eq_getElem?_getD,List.getElem?_replicate];split <;> rfl
  have h4:(default:PV).enc[i % 4]? = some ((default:PV).enc[i % 4]'h2):=List.getElem?_eq_getElem h2;have h5:=mJ (L:=List.replicate n (default:PV)) (j:=i / 4) (i:=i % 4) (u:=(default:PV).enc[i % 4]'h2) aO (by rw [h3];exact h4);rw [<- h1] at h5;rw [h5,Array.getElem?_toList];have h6:∀ r (hr:r<4),(Value.agg #[.slice none 0 0,.int .i64 0,.int .i64 0,.slice none 0 0]).cells[r]! = (default:PV).enc[r]'hr:=by
   intro r hr
   match r,hr with
   | 0,_=>rfl
   | 1,_=>rfl
   | 2,_=>rfl
   | 3,_=>rfl
  rw [<- h6];unfold madeCells;simp [hi,Value.cells]
 rw [List.getElem?_eq_none (by simp [madeCells];omega),List.getElem?_eq_none (by rw [BA];simp;omega)]
structure Mb (w:World) (s:Int) (L:List PV) (g cap:Nat) (M:List PV) (W:World):Prop where
 row:cu w.heap.size g cap W M
 bel:Below w.heap.size w W
 fv:∀ x∈M,FV s x.p
 tom:∀ u,mK (M.map PV.p) u->oM (L.map PV.p) u
def MJ (w:World) (s:Int) (L:List PV) (g cap:Nat) (v:Value) (a:Act) (W:World):Prop:=
 ∃ (M:List PV) (n:Nat) (u1 u4 u5 u6 u7 u8 u9 u10 u11 u12 u13 u14 u15 u16 u17 u18 u19 u20 u21 u22 u23 u24 u25 u26 u27 u28 u29 u30 u31 u32 u33 u34 u35 u36 u37 u38 u39 u40 u41 u42 u43 u44 u45 u46 u47 u48 u49 u50 u51 u52 u53 u54 u55 u56 u57 u58 u59 u60 u61 u62 u63 u64 u65 u66 u67 u68 u69 u70 u71 u72 u73 u74 u75 u76:Value),a=⟨#[v,u1,.slice none 0 0,.slice (some ⟨g,0,none⟩) n cap,u4,u5,u6,u7,u8,u9,u10,u11,u12,u13,u14,u15,u16,u17,u18,u19,u20,u21,u22,u23,u24,u25,u26,u27,u28,u29,u30,u31,u32,u33,u34,u35,u36,u37,u38,u39,u40,u41,u42,u43,u44,u45,u46,u47,u48,u49,u50,u51,u52,u53,u54,u55,u56,u57,u58,u59,u60,u61,u62,u63,u64,u65,u66,u67,u68,u69,u70,u71,u72,u73,u74,u75,u76],[]⟩/\n=M.length/\Mb w s L g cap M W
structure wg (B:Nat) (q:Per) (nb:Nat) (h c:Value) (W:World):Prop where
 ok:bp W (λb=>B<=b/\b≠B) ⟨h,c,q⟩
 ne:nb≠B
 c0:W.cell? ⟨nb,0,none⟩=some h
 c1:W.cell? ⟨nb,1,none⟩=some (.int .i64 q.frm)
 c2:W.cell? ⟨nb,2,none⟩=some (.int .i64 q.period)
 c3:W.cell? ⟨nb,3,none⟩=some c
theorem wg.of {nb:Nat} {c:Value} (hp:cU W lo hi h c q) (hv:FV s q) (hB:B<lo) (hb:af W nb #[.slice none 0 0,.int .i64 0,.int .i64 0,.slice none 0 0] 80) (hn:nb<lo\/hi<=nb) (hne:nb≠B) :
  wg B q nb h c ((((W.setCell ⟨nb,0,none⟩ h).setCell ⟨nb,1,none⟩ (.int .i64 q.frm)).setCell ⟨nb,2,none⟩ (.int .i64 q.period)).setCell ⟨nb,3,none⟩ c):=by
 have h1:=(((hp.set (i:=0) h hn).set (i:=1) (.int .i64 q.frm) hn).set (i:=2) (.int .i64 q.period) hn).set (i:=3) c hn;have h2:=BI hb (x':=h) (y':=.int .i64 q.frm) (z':=.int .i64 q.period) (u':=c);have v1:=hv.valid;have v2:=v1.wf.frm;have v3:q.frm<=1099511627776:=v1.frm;have v4:=v1.wf.per;have v5:q.period<=1099511627776:=v1.per;refine ⟨⟨h1.is,⟨by show _<=q.frm;omega,by show q.frm<=_;omega⟩,⟨by show _<=q.period;omega,by show q.period<=_;omega⟩,λhh k hk=>?_,λhh k hk=>?_⟩,hne,(af.cells h2 0).1,(af.cells h2 1).1,(af.cells h2 2).1,(af.cells h2 3).1⟩
 .have:=h1.hd.blk hh k hk;omega
 have:=h1.cy.blk hh k hk;omega
theorem tf_ (B g cap jj:Nat) (M:List PV) (W:World) (h:cu B g cap W M) (hj:jj<M.length) :
  Calls Tryz.prog 189 #[.slice (some ⟨g,0,none⟩) M.length cap,.int .i64 jj,.int .i64 (jj+1)] W λe w'=>e=.returned (.slice (some ⟨g,0,none⟩) (M.length-1) cap)/\cu B g cap w' (M.eraseIdx jj)/\W.grownBy w' (some g):=
 (q1_ B g M.length cap jj _ W h.row hj h.one).mono λe w' ⟨h1,h2,h3⟩=>⟨h1,h.erase hj h2 h3,h3⟩
theorem map_merge {M:List PV} {ii jj:Nat} {x:PV} (hi:ii<M.length) (hj:jj<M.length) (hx:x.p=kZ ((M.map PV.p).getD ii default) ((M.map PV.p).getD jj default)):((M.set ii x).eraseIdx jj).map PV.p=uj (M.map PV.p) ii jj:=by
 unfold uj;rw [<- hx,<- List.map_set];simp [List.eraseIdx_eq_take_drop_succ]
theorem UY {i:Nat} (W:World) (h:B<=g) (v0 v1 v2 v3:Value):Below B W ((((W.setCell ⟨g,i,none⟩ v0).setCell ⟨g,i+1,none⟩ v1).setCell ⟨g,i+2,none⟩ v2).setCell ⟨g,i+3,none⟩ v3):=
 ((((Below.refl B W).setCell (p:=⟨g,i,none⟩) h v0).setCell (p:=⟨g,i+1,none⟩) h v1).setCell (p:=⟨g,i+2,none⟩) h v2).setCell (p:=⟨g,i+3,none⟩) h v3
def QB:Value->Nat|.slice _ n _=>n|_=>0
theorem t5_ (F:Nat->Prop) (s:Int) (v:Value) (t:List Per) (w:World) (ht:bG w F v t) (hv:∀ p∈t,FV s p) (hn:t.length<=1000000) :
  Calls Tryz.prog 139 #[v] w λe w'=>∃ (v':Value) (u:List Per),e=.returned v'/\oM t u/\(∀ p∈u,FV s p)/\bG w' (λb=>w.heap.size<=b) v' u/\Below w.heap.size w w':=by
 obtain ⟨L,rfl,hL⟩:=ht;obtain ⟨a1,c1,rfl,hx1,hx2,_⟩:=hL.row.is;have fA:=hL.len;obtain ⟨bi,oU,kc,ju,hby⟩:=zg;rw [List.length_map] at hn;have HL:=ad hL;have HV:=ad hv;clear hL hv
 go_in
 go_wp2_with fail
 refine mg_ 0 (MJ w s L w.heap.size L.length (.slice a1 L.length c1)) (λa _=>QB (a.tmps.getD 3 undef)) rfl ?first ?pass
 case first=>
  go_wp2_with (at_make;refine wpList_make_full _ rfl _ _ 78 rfl w.heap.size 80 bi (.agg #[.slice none 0 0,.int .i64 0,.int .i64 0,.slice none 0 0]) 4 Tryz.underlying78 oU kc ju .i64 .i64 _ _ L.length rfl rfl rfl rfl (by rw [hby];omega) (by unfold maxLen;omega) ag ?_;intro w3 cQ cO;have hb3:Below w.heap.size w w3:=((Below.refl _ _).grown cO ag (λk e=>by cases e)))
  rw [Xi] at cQ;have lG:cu w.heap.size w.heap.size L.length w3 (List.replicate L.length (default:PV)):=⟨by rw [List.length_replicate];exact cQ,λx hx=>by rw [List.eq_of_mem_replicate hx];exact U2 _ _,ag,fA⟩;have sC:=ad lG;have ks:=ad hb3;clear cQ cO lG hb3;go_loopw [4,5,15] (λ_ _ i wr=>∃ (k:Nat) (M:List PV),k<=L.length/\i=.int .i64 k/\Hid (M.length=L.length)/\Hid (∀ q,q<k->(M.getD q default).p=canonC (L.getD q default).p.mem)/\Hid (cu w.heap.size w.heap.size L.length wr M)/\Hid (Below w.heap.size w wr)) (λ_ _ i _=>L.length-(intOf i).toNat)
  .exact ⟨0,_,aa,rfl,ad ag,ad (λq h=>absurd h aa),sC,ks⟩
  obtain ⟨k,M,hk,rfl,jC,HP,HR,HB⟩:=hrel;by_cases hlt:k<L.length
  .have dh:(k:Int)<L.length:=aa;obtain ⟨b1,o1,x,ha,hx,cS,hb1,e0,e1,e2,e3⟩:=(HL.o.keep (aN.below HB.o) HB.o.size).get hlt;subst ha;have gO:FV s x.p:=HV.o _ (by rw [cS];exact dz (by simpa using hlt));have Au:(L.getD k default).p=x.p:=by rw [cS];simp [List.getD_eq_getElem?_getD,hlt]
   obtain ⟨xh,xc,xp⟩:=x;obtain ⟨d_,eh,ed,eH,eR,dP,rfl,rfl⟩:=hx.form;dsimp only at e0 e1 e2 e3 gO Au;have HX:=ad hx;have Sf:=ad Au;have HC:=λW (h:Below _ _ W)=>V2 s _ _ xp W (hx.is.ext h) gO;have nB:=ad gO;dsimp only at HC;clear hx cS Au gO;have hle:=HR.o.le;go_wp2_with (go_at_call 98;refine (HC _ xE).mono ?_;rintro e w2 ⟨h',c',rfl,ho,hb2⟩;obtain ⟨a5,m5,a6,m6,rfl,rfl⟩:=ho.form;have xj:=HR.o.below (show Below wr.heap.size wr w2 by exact xE);obtain ⟨-,g0,g1,g2,g3,g4⟩:=xj.get (show k<M.length by have:=jC.o;omega);obtain ⟨hc2,hf2⟩:=fJ hb2;(try simp only [World.size_alloc,World.size_drew,fE,World.size_setCell] at hc2 hf2);have yE:=ad xj;have HO:=ad ho;have bj:=ad (show Below wr.heap.size wr w2 by exact xE);clear xj ho);have cq:Below w.heap.size w w2:=Et HB.o bj.o;go_roundw
   .refine ⟨k+1,M.set k ⟨.slice a5 (canonC xp.mem).head.length m5,.slice a6 (canonC xp.mem).cycle.length m6,canonC xp.mem⟩,aa,by go_num,ad (by rw [List.length_set];exact jC.o),ad (λq hq=>?_),ad (yE.o.set (x:=⟨_,_,canonC xp.mem⟩) (by have:=jC.o;omega) ?_),ad xE⟩
    .by_cases hqk:q=k
     .subst hqk;rw [Sf.o,List.getD_eq_getElem?_getD,List.getElem?_set_self (by have:=jC.o;omega)];rfl
     rw [List.getD_eq_getElem?_getD,List.getElem?_set_ne aa,<- List.getD_eq_getElem?_getD];exact HP.o q aa
    refine (HO.o.pv nB.o.canon.2).mono λb hb=>?_;have:=hb.1;have:=HB.o.size;simp [World.size_alloc] at *;omega
   simp [intOf];omega
  obtain rfl:k=L.length:=aa;go_wp2_with fail;have hmap:M.map PV.p=(L.map PV.p).map λp=>canonC p.mem:=List.ext_getElem (by simp [jC.o]) λi h1 h2=>by
   have h3:=HP.o i (by simpa using h2);have h4:i<M.length:=by simpa using h1
   have h5:i<L.length:=by simpa using h2
   rw [List.getD_eq_getElem?_getD,List.getD_eq_getElem?_getD,List.getElem?_eq_getElem h4,List.getElem?_eq_getElem h5] at h3;simpa using h3
  refine ⟨M,_,_,_,_,_,_,_,_,_,_,_,_,_,_,_,_,_,_,_,_,_,_,_,_,_,_,_,_,_,_,_,_,_,_,_,_,_,_,_,_,_,_,_,_,_,_,_,_,_,_,_,_,_,_,_,_,_,_,_,_,_,_,_,_,_,_,_,_,_,_,_,_,_,_,_,rfl,jC.o.symm,HR.o,HB.o,λx hx=>?_,λu hu=>?_⟩
  .have h1:x.p∈M.map PV.p:=List.mem_map.2 ⟨x,hx,rfl⟩;rw [hmap] at h1;obtain ⟨p,hp,he⟩:=List.mem_map.1 h1;rw [<- he];exact (HV.o p hp).canon.2
  unfold oM;rw [<- hmap];exact hu
 case pass=>
  rintro a W ⟨M,n,u1,u4,u5,u6,u7,u8,u9,u10,u11,u12,u13,u14,u15,u16,u17,u18,u19,u20,u21,u22,u23,u24,u25,u26,u27,u28,u29,u30,u31,u32,u33,u34,u35,u36,u37,u38,u39,u40,u41,u42,u43,u44,u45,u46,u47,u48,u49,u50,u51,u52,u53,u54,u55,u56,u57,u58,u59,u60,u61,u62,u63,u64,u65,u66,u67,u68,u69,u70,u71,u72,u73,u74,u75,u76,rfl,rfl,hinv⟩;have hrow:=hinv.row;have hM:=hrow.len;have HI:=ad hinv;have HR:=ad hrow;clear hinv hrow;go_wp2;go_loopw [3,6,7,8,9,31] (λs3 _ _ _ _ idx wr=>∃ ii:Nat,ii<=M.length/\s3=.slice (some ⟨w.heap.size,0,none⟩) M.length L.length/\idx=.int .i64 ii/\Hid (∀ i' j',i'<ii->i'<j'->j'<M.length->¬ Av (M.map PV.p) i' j')/\Hid (cu w.heap.size w.heap.size L.length wr M)/\Hid (Below w.heap.size w wr)) (λ_ _ _ _ _ idx _=>M.length-(intOf idx).toNat)
  .exact ⟨0,aa,rfl,rfl,ad (λ_ _ h=>absurd h aa),HR,ad HI.o.bel⟩
  obtain ⟨ii,hi,rfl,rfl,px,kB,bj⟩:=hrel;by_cases hlt:ii<M.length
  .have z_:(ii:Int)<M.length:=aa;go_wp2;go_loopw [3,7,8,9] (λs3 jv _ _ wr=>∃ jj:Nat,ii<jj/\jj<=M.length/\s3=.slice (some ⟨w.heap.size,0,none⟩) M.length L.length/\jv=.int .i64 jj/\Hid (∀ j',ii<j'->j'<jj->¬ Av (M.map PV.p) ii j')/\Hid (cu w.heap.size w.heap.size L.length wr M)/\Hid (Below w.heap.size w wr)) (λ_ jv _ _ _=>M.length-(intOf jv).toNat)
   .exact ⟨ii+1,aa,aa,rfl,by go_num,ad (λ_ h1 h2=>absurd h2 aa),kB,bj⟩
   obtain ⟨jj,gD,hj,rfl,rfl,qu,Bf,cm⟩:=hrel;by_cases dr:jj<M.length
   .have rD:(jj:Int)<M.length:=aa;obtain ⟨hx,i0,i1,i2,i3,hfz⟩:=Bf.o.get hlt;obtain ⟨hy,j0,j1,j2,j3,-⟩:=Bf.o.get dr;have gO:=HI.o.fv _ (dz (d:=default) hlt);have rB:=HI.o.fv _ (dz (d:=default) dr);have me:(M.map PV.p).getD ii default=(M.getD ii default).p:=by simp [List.getD_eq_getElem?_getD,hlt]
    have ke:(M.map PV.p).getD jj default=(M.getD jj default).p:=by simp [List.getD_eq_getElem?_getD,dr]
    generalize M.getD ii default=x at *;generalize M.getD jj default=y at *;obtain ⟨xh,xc,xp⟩:=x;obtain ⟨yh,yc,yp⟩:=y;obtain ⟨d_,eh,ed,eH,eR,dP,rfl,rfl⟩:=hx.form;obtain ⟨kF,kP,kK,kG,kQ,kL,rfl,rfl⟩:=hy.form;dsimp only at i0 i1 i2 i3 j0 j1 j2 j3 gO rB me ke;have mw:=λW=>UI ⟨.slice d_ eh ed,.slice eH eR dP,xp⟩ ⟨.slice kF kP kK,.slice kG kQ kL,yp⟩ W gO.valid.wf.per gO.valid.per rB.valid.wf.per rB.valid.per;change ∀ W,Calls _ _ #[an _ _ xp.frm xp.period,an _ _ yp.frm yp.period] W λe w'=>e=.returned (.bool (js xp yp))/\_ at mw;have RJ:Hid (Av (M.map PV.p) ii jj↔js xp yp=true):=ad (by unfold Av;rw [me,ke]);have nB:=ad gO;have CV:=ad rB;have HX:=ad hx;have HY:=ad hy;have RM:=ad me;have GV:=ad ke;generalize js xp yp=dd at *;clear gO rB hx hy me ke;go_wp2_with fail;refine oK (w0:=wr) [0,1,2,3,4,5,6,7,8] [9] (λv=>⟨#[.slice a1 L.length c1,u1,.slice none 0 0,.slice (some ⟨w.heap.size,0,none⟩) M.length L.length,u4,u5,.int .i64 ↑ii,.int .i64 ↑jj,u8,u9,u10,u11,u12,u13,u14,u15,u16,u17,u18,u19,u20,u21,u22,u23,u24,u25,u26,u27,u28,.slice (some ⟨w.heap.size,0,none⟩) M.length L.length,.int .i64 ↑M.length,.int .i64 ↑ii,.bool true,.int .i64 ↑ii,.int .i64 ↑ii,.int .i64 (↑ii+1),.int .i64 ↑jj,.slice (some ⟨w.heap.size,0,none⟩) M.length L.length,.int .i64 ↑M.length,.bool true,u40,u41,v 0,v 1,v 2,v 3,v 4,v 5,v 6,v 7,v 8,u51,u52,u53,u54,u55,u56,u57,u58,u59,u60,u61,u62,u63,u64,u65,u66,u67,u68,u69,u70,u71,u72,u73,u74,u75,u76],[]⟩) [.slice (some ⟨w.heap.size,0,none⟩) M.length L.length,.int .i64 ii,.pointer (some ⟨w.heap.size,ii*4,none⟩),an (.slice d_ eh ed) (.slice eH eR dP) xp.frm xp.period,.slice (some ⟨w.heap.size,0,none⟩) M.length L.length,.int .i64 jj,.pointer (some ⟨w.heap.size,jj*4,none⟩),an (.slice kF kP kK) (.slice kG kQ kL) yp.frm yp.period,.bool dd] [] (λ_ _ _ _ _=>True) (λW=>cu w.heap.size w.heap.size L.length W M/\(W.cell? ⟨w.heap.size,ii*4,none⟩=some (.slice d_ eh ed)/\W.cell? ⟨w.heap.size,ii*4+1,none⟩=some (.int .i64 xp.frm)/\W.cell? ⟨w.heap.size,ii*4+2,none⟩=some (.int .i64 xp.period)/\W.cell? ⟨w.heap.size,ii*4+3,none⟩=some (.slice eH eR dP))/\(W.cell? ⟨w.heap.size,jj*4,none⟩=some (.slice kF kP kK)/\W.cell? ⟨w.heap.size,jj*4+1,none⟩=some (.int .i64 yp.frm)/\W.cell? ⟨w.heap.size,jj*4+2,none⟩=some (.int .i64 yp.period)/\W.cell? ⟨w.heap.size,jj*4+3,none⟩=some (.slice kG kQ kL))) (λW hb=>⟨Bf.o.below hb,⟨bF i0 hb,bF i1 hb,bF i2 hb,bF i3 hb⟩,bF j0 hb,bF j1 hb,bF j2 hb,bF j3 hb⟩) trivial trivial ?steps ?fin (λj=>match j with|0=>u42|1=>u43|2=>u44|3=>u45|4=>u46|5=>u47|6=>u48|7=>u49|8=>u50|_=>undef)
    case steps=>
     refine .c [] [] rfl ?_ (.c [] [] rfl ?_ (.c [0,1] [] rfl ?_ (.c [2] [] rfl ?_ (.c [] [] rfl ?_ (.c [] [] rfl ?_ (.c [4,5] [] rfl ?_ (.c [6] [] rfl ?_ (.c [3,7] [] rfl ?_ (.n)))))))));all_goals try exact pj
     rintro v lo hi W hb ⟨hR,⟨g0,g1,g2,g3⟩,k0,k1,k2,k3⟩ _;refine .inl ⟨rfl,λK hK=>?_⟩;simp only [ov,aD,Nat.reduceBEq,cond_true,cond_false];go_wp2_with (go_at_call 140;refine (mw _).mono ?_;rintro e w9 ⟨rfl,bg⟩);exact aU (hK w9 bg) (by simp [ov,aD,upd])
    case fin=>
     rintro v lo gC W2 hb ⟨hR,⟨g0,g1,g2,g3⟩,k0,k1,k2,k3⟩ hf hap;show wpList _ _ _ [_] _ _;have e8:v 8=.bool dd:=(hf 8 rfl).2.2.2;clear hf hap;dsimp only;rw [e8];clear e8;generalize v 0=y0,v 1=y1,v 2=y2,v 3=y3,v 4=y4,v 5=y5,v 6=y6,v 7=y7;have cD:=ad hb;clear hb;cases dd with
     | false=>
      have yE:=ad hR;clear hR g0 g1 g2 g3 k0 k1 k2 k3;go_wp2;go_roundw
      .exact ⟨jj+1,aa,aa,rfl,by go_num,ad (λj' h1 h2=>by
       by_cases h3:j'<jj
       .exact qu.o j' h1 h3
       obtain rfl:j'=jj:=aa;rw [RJ.o];decide),yE,ad (Et cm.o cD.o)⟩
      simp [intOf];omega
     | true=>
      obtain ⟨q,hq⟩:∃ q,q=kZ xp yp:=⟨_,rfl⟩;have HQ:=ad hq;have x_:Hid (FV s q):=ad (by rw [hq];exact nB.o.and CV.o);have HAND:∀ W,Below W2.heap.size W2 W->Calls Tryz.prog 188 #[an (.slice d_ eh ed) (.slice eH eR dP) xp.frm xp.period,an (.slice kF kP kK) (.slice kG kQ kL) yp.frm yp.period] W (mO q W):=λW h=>by
       rw [hq];exact Mr s _ _ _ _ xp yp W (HX.o.is.ext (Et cD.o h)) (HY.o.is.ext (Et cD.o h)) nB.o CV.o
      clear hq;have yE:=ad hR;have hW2:=cD.o.size;have hle:=hR.le;go_wp2_with fail;refine Code.wp_mono (Q:=λe a' W'=>e=.normal/\(∃ (nb:Nat) (h c:Value) (X5 z53 X6 X7 X8 X9 X_ z59 Ya Yb Yc Yd:Value),a'=⟨#[.slice a1 L.length c1,u1,.slice none 0 0,.slice (some ⟨w.heap.size,0,none⟩) M.length L.length,u4,u5,.int .i64 ↑ii,.int .i64 ↑jj,.pointer (some ⟨nb,0,none⟩),.int .i64 0,u10,u11,u12,u13,u14,u15,u16,u17,u18,u19,u20,u21,u22,u23,u24,u25,u26,u27,u28,.slice (some ⟨w.heap.size,0,none⟩) M.length L.length,.int .i64 ↑M.length,.int .i64 ↑ii,.bool true,.int .i64 ↑ii,.int .i64 ↑ii,.int .i64 (↑ii+1),.int .i64 ↑jj,.slice (some ⟨w.heap.size,0,none⟩) M.length L.length,.int .i64 ↑M.length,.bool true,u40,u41,y0,y1,y2,y3,y4,y5,y6,y7,.bool true,.bool false,X5,z53,X6,X7,X8,X9,X_,z59,Ya,Yb,Yc,Yd,u64,u65,u66,u67,u68,u69,u70,u71,u72,u73,u74,u75,u76],[]⟩/\wg w.heap.size q nb h c W')/\Below W2.heap.size W2 W') ?imp ?reg
      case reg=>
       refine Ny (w0:=W2) [0,1,2,3,4,5,6,7,8,9,10,11,12] 11 13 [14] (λv=>⟨#[.slice a1 L.length c1,u1,.slice none 0 0,.slice (some ⟨w.heap.size,0,none⟩) M.length L.length,u4,u5,.int .i64 ↑ii,.int .i64 ↑jj,v 12,u9,u10,u11,u12,u13,u14,u15,u16,u17,u18,u19,u20,u21,u22,u23,u24,u25,u26,u27,u28,.slice (some ⟨w.heap.size,0,none⟩) M.length L.length,.int .i64 ↑M.length,.int .i64 ↑ii,.bool true,.int .i64 ↑ii,.int .i64 ↑ii,.int .i64 (↑ii+1),.int .i64 ↑jj,.slice (some ⟨w.heap.size,0,none⟩) M.length L.length,.int .i64 ↑M.length,.bool true,u40,u41,y0,y1,y2,y3,y4,y5,y6,y7,.bool true,.bool false,v 9,v 0,v 1,v 2,v 3,v 4,v 5,v 6,v 7,v 8,v 10,v 11,u64,u65,u66,u67,u68,u69,u70,u71,u72,u73,u74,u75,u76],[]⟩) [.slice (some ⟨w.heap.size,0,none⟩) M.length L.length,.int .i64 ii,.pointer (some ⟨w.heap.size,ii*4,none⟩),an (.slice d_ eh ed) (.slice eH eR dP) xp.frm xp.period,.slice (some ⟨w.heap.size,0,none⟩) M.length L.length,.int .i64 jj,.pointer (some ⟨w.heap.size,jj*4,none⟩),an (.slice kF kP kK) (.slice kG kQ kL) yp.frm yp.period,undef,undef,undef,.int .i64 0,undef] [8,9,10,12] (λi v lo hi W=>match i with|8=>∃ h c,v 8=.tuple #[an h c q.frm q.period,.int .i64 0]/\wG W (lo 8) (hi 8) h c q|9=>v 9=v 8/\∃ h c,v 9=.tuple #[an h c q.frm q.period,.int .i64 0]|10=>∃ h c,v 9=.tuple #[an h c q.frm q.period,.int .i64 0]/\v 10=an h c q.frm q.period|12=>v 12=.pointer (some ⟨lo 12,0,none⟩)/\lo 12<hi 12/\af W (lo 12) #[.slice none 0 0,.int .i64 0,.int .i64 0,.slice none 0 0] 80|_=>True) (λW=>cu w.heap.size w.heap.size L.length W M/\(W.cell? ⟨w.heap.size,ii*4,none⟩=some (.slice d_ eh ed)/\W.cell? ⟨w.heap.size,ii*4+1,none⟩=some (.int .i64 xp.frm)/\W.cell? ⟨w.heap.size,ii*4+2,none⟩=some (.int .i64 xp.period)/\W.cell? ⟨w.heap.size,ii*4+3,none⟩=some (.slice eH eR dP))/\(W.cell? ⟨w.heap.size,jj*4,none⟩=some (.slice kF kP kK)/\W.cell? ⟨w.heap.size,jj*4+1,none⟩=some (.int .i64 yp.frm)/\W.cell? ⟨w.heap.size,jj*4+2,none⟩=some (.int .i64 yp.period)/\W.cell? ⟨w.heap.size,jj*4+3,none⟩=some (.slice kG kQ kL))) (λW hb=>⟨hR.below hb,⟨bF g0 hb,bF g1 hb,bF g2 hb,bF g3 hb⟩,bF k0 hb,bF k1 hb,bF k2 hb,bF k3 hb⟩) ?stab ?loc ?steps ?fin ?fin2 (λj=>match j with|0=>u53|1=>u54|2=>u55|3=>u56|4=>u57|5=>u58|6=>u59|7=>u60|8=>u61|9=>u52|10=>u62|11=>u63|12=>u8|_=>undef)
       case stab=>
        refine ⟨?_,?_,?_,?_,trivial⟩
        .intro v lo hi W W' h hb;exact (let ⟨x1,x2,e,hp⟩:=h;⟨x1,x2,e,hp.below hb⟩)
        .intro v lo hi W W' h hb;exact h
        .intro v lo hi W W' h hb;exact h
        intro v lo hi W W' h hb;exact ⟨h.1,h.2.1,h.2.2.below hb⟩
       case loc=>
        refine ⟨?_,?_,?_,?_,trivial⟩
        .intro v v' lo lo' hi hi' W aC h;have q:=aC 8 (.inl rfl)
         (try dsimp only at h ⊢)
         simp only [q.1,q.2.1,q.2.2] at h;exact h
        .intro v v' lo lo' hi hi' W aC h;have q:=aC 9 (.inl rfl);have q8:=aC 8 (.inr (bI (by kernel_rfl)))
         (try dsimp only at h ⊢)
         simp only [q.1,q.2.1,q.2.2,q8.1,q8.2.1,q8.2.2] at h;exact h
        .intro v v' lo lo' hi hi' W aC h;have q:=aC 10 (.inl rfl);have q9:=aC 9 (.inr (bI (by kernel_rfl)))
         (try dsimp only at h ⊢)
         simp only [q.1,q.2.1,q.2.2,q9.1,q9.2.1,q9.2.2] at h;exact h
        intro v v' lo lo' hi hi' W aC h;have q:=aC 12 (.inl rfl)
        (try dsimp only at h ⊢)
        simp only [q.1,q.2.1,q.2.2] at h;exact h
       case steps=>
        clear hR g0 g1 g2 g3 k0 k1 k2 k3;refine .c [] [] rfl ?_ (.c [] [] rfl ?_ (.c [0,1] [] rfl ?_ (.c [2] [] rfl ?_ (.c [] [] rfl ?_ (.c [] [] rfl ?_ (.c [4,5] [] rfl ?_ (.c [6] [] rfl ?_ (.c [3,7] [] rfl ?_ (.c [] [8] rfl ?_ (.c [] [9] rfl ?_ (.c [] [9] rfl ?_ (.c [] [] rfl ?_ (.n)))))))))))));all_goals try exact Q_
        .rintro v lo hi W hb ⟨_,⟨g0,g1,g2,g3⟩,k0,k1,k2,k3⟩ _;refine ⟨rfl,λK hK=>?_⟩;simp only [ov,aD,Nat.reduceBEq,cond_true,cond_false];go_wp2_with (go_at_call 188;refine (HAND _ xE).mono ?_;rintro e w9 ⟨h',c',rfl,ho,bg⟩);exact aU (hK (.tuple #[an h' c' q.frm q.period,.int .i64 0]) w9 bg ⟨h',c',rfl,ho.at⟩) (by simp [ov,aD,upd])
        .rintro v lo hi W hb ⟨_,⟨g0,g1,g2,g3⟩,k0,k1,k2,k3⟩ ⟨⟨la8,lb8,D8⟩,_⟩;refine ⟨rfl,λK hK=>?_⟩;simp only [ov,aD,Nat.reduceBEq,cond_true,cond_false]
         (try dsimp only at D8)
         obtain ⟨h8,c8,e8,_⟩:=D8;go_wp2;exact aU (hK (v 8) W (Below.refl _ _) ⟨rfl,h8,c8,e8⟩) (by simp [ov,aD,upd,e8])
        .rintro v lo hi W hb ⟨_,⟨g0,g1,g2,g3⟩,k0,k1,k2,k3⟩ ⟨⟨la9,lb9,D9⟩,_⟩;refine ⟨rfl,λK hK=>?_⟩;simp only [ov,aD,Nat.reduceBEq,cond_true,cond_false]
         (try dsimp only at D9)
         obtain ⟨-,h9,c9,e9⟩:=D9;simp only [e9];go_wp2;exact aU (hK (an h9 c9 q.frm q.period) W (Below.refl _ _) ⟨h9,c9,e9,rfl⟩) (by simp [ov,aD,upd,e9])
        .rintro v lo hi W hb ⟨_,⟨g0,g1,g2,g3⟩,k0,k1,k2,k3⟩ ⟨⟨la9,lb9,D9⟩,_⟩;refine ⟨rfl,λK hK=>?_⟩;simp only [ov,aD,Nat.reduceBEq,cond_true,cond_false]
         (try dsimp only at D9)
         obtain ⟨-,h9,c9,e9⟩:=D9;simp only [e9];go_wp2;exact aU (hK W (Below.refl _ _)) (by simp [ov,aD,upd,e9])
        rintro v lo hi W hb ⟨_,⟨g0,g1,g2,g3⟩,k0,k1,k2,k3⟩ _;refine ⟨rfl,λK hK=>?_⟩;simp only [ov,aD,Nat.reduceBEq,cond_true,cond_false];go_wp2;exact hK (.pointer (some ⟨W.heap.size,0,none⟩)) _ (Ea (Er _) _) ⟨rfl,ag,af.new _ _ _⟩
       case fin=>
        rintro v lo gC W5 hb5 ⟨N3,-,-⟩ hf hap;show wpList _ _ _ [_,_] _ _;obtain ⟨l8,-,h8,h,c,e8,rP⟩:=hf 8 rfl;obtain ⟨-,-,-,e9,-⟩:=hf 9 rfl;obtain ⟨-,-,-,h',c',mU,h_⟩:=hf 10 rfl;have e11:v 11=.int .i64 0:=(hf 11 rfl).2.2.2;obtain ⟨sd,-,nT,fL,iJ,hbox⟩:=hf 12 rfl;have hd:=hap 8 12 rfl rfl aF;clear hf hap;rw [e9,e8] at mU;obtain ⟨rfl,rfl⟩:h=h'/\c=c':=by simpa [an] using mU
        dsimp only;rw [h_,e11,fL];clear h_ e11 fL e9 mU e8;obtain ⟨nb,jP⟩:∃ nb,nb=lo 12:=⟨_,rfl⟩;rw [<- jP] at hd hbox sd iJ ⊢;have np:=rP.inn;generalize lo 8=AQ at *;generalize gC 8=NB at *;generalize gC 12=zr at *;clear jP rP;obtain ⟨a5,m5,a6,m6,rfl,rfl⟩:=np.form;have g0:=hbox.cells 0;have g1:=hbox.cells 1;have g2:=hbox.cells 2;have g3:=hbox.cells 3;have tJ:=ad (wg.of np x_.o (show w.heap.size<AQ by omega) hbox aa aa);have cr:=ad hb5;clear hbox np hd N3;generalize v 0=z0,v 1=z1,v 2=z2,v 3=z3,v 4=z4,v 5=z5,v 6=z6,v 7=z7,v 8=z8,v 9=z9;go_wp2;exact ⟨⟨_,_,tJ.o⟩,by have hb5:=cr.o;exact xE⟩
       case fin2=>
        rintro v lo gC W5 hb5 ⟨N3,-,-⟩ hf hap;obtain ⟨l8,-,h8,h,c,e8,rP⟩:=hf 8 rfl aF;obtain ⟨-,-,-,e9,-⟩:=hf 9 rfl aF;obtain ⟨-,-,-,h',c',mU,h_⟩:=hf 10 rfl aF;obtain ⟨sd,-,nT,fL,iJ,hbox⟩:=hf 12 rfl aF;have hd:=hap 8 12 rfl rfl aF aF aF;clear hf hap;rw [e9,e8] at mU;obtain ⟨rfl,rfl⟩:h=h'/\c=c':=by simpa [an] using mU
        have D0:=e9.trans e8;dsimp only;rw [h_,fL,D0];clear h_ fL e9 mU e8 D0;obtain ⟨nb,jP⟩:∃ nb,nb=lo 12:=⟨_,rfl⟩;rw [<- jP] at hd hbox sd iJ ⊢;have np:=rP.inn;generalize lo 8=AQ at *;generalize gC 8=NB at *;generalize gC 12=zr at *;clear jP rP;obtain ⟨a5,m5,a6,m6,rfl,rfl⟩:=np.form;have g0:=hbox.cells 0;have g1:=hbox.cells 1;have g2:=hbox.cells 2;have g3:=hbox.cells 3;have tJ:=ad (wg.of np x_.o (show w.heap.size<AQ by omega) hbox aa aa);have cr:=ad hb5;clear hbox np hd N3;generalize v 0=z0,v 1=z1,v 2=z2,v 3=z3,v 4=z4,v 5=z5,v 6=z6,v 7=z7,v 8=z8,v 11=xM;constructor
        .show wpList _ _ _ [_,_,_] _ _;go_wp2;exact ⟨⟨_,_,tJ.o⟩,by have hb5:=cr.o;exact xE⟩
        show wpList _ _ _ [_,_,_] _ _;go_wp2;exact ⟨⟨_,_,tJ.o⟩,by have hb5:=cr.o;exact xE⟩
      case imp=>
       rintro e a' W6 ⟨rfl,⟨nb,h,c,X5,z53,X6,X7,X8,X9,X_,z59,Ya,Yb,Yc,Yd,rfl,hP⟩,bD⟩;obtain ⟨a5,n5,m5,a6,n6,m6,rfl,rfl⟩:=hP.ok.form;have p0:=hP.c0;have p1:=hP.c1;have p2:=hP.c2;have p3:=hP.c3;have hrow:=yE.o.below bD;obtain ⟨-,r0,r1,r2,r3,r4⟩:=hrow.get hlt;have cd:=hrow.set (x:=⟨_,_,q⟩) hlt hP.ok;have hdel:=tf_ _ _ _ jj _ _ cd (by rw [List.length_set];exact dr);rw [List.length_set] at hdel;have hgr:=UY W6 (i:=ii*4) (Nat.le_refl w.heap.size) (.slice a5 n5 m5) (.int .i64 q.frm) (.int .i64 q.period) (.slice a6 n6 m6);have A6:=ad hgr;have bO:=ad bD;clear hP hrow cd hgr bD;go_wp2_with (go_at_call 189;refine hdel.mono ?_;rintro e w8 ⟨rfl,nr,iX⟩)
       go_step3
       have ee:Below w.heap.size w w8:=by
        have h1:Below w.heap.size w W6:=Et (Et cm.o cD.o) bO.o;exact h1.trans (A6.o.trans (World.grownBy.below' iX (Nat.le_refl _) (h1.trans A6.o).size))
       refine ⟨rfl,⟨_,_,_,_,_,_,_,_,_,_,_,_,_,_,_,_,_,_,_,_,_,_,_,_,_,_,_,_,_,_,_,_,_,_,_,_,_,_,_,_,_,_,_,_,_,_,_,_,_,_,_,_,_,_,_,_,_,_,_,_,_,_,_,_,_,_,_,_,_,_,_,_,_,_,_,_,rfl,?_,nr,ee,?_,?_⟩,?_⟩
       .rw [List.length_eraseIdx_of_lt (by rw [List.length_set];exact dr),List.length_set]
       .intro z hz;have h1:=List.mem_of_mem_eraseIdx hz;rcases List.mem_or_eq_of_mem_set h1 with h2|rfl
        .exact HI.o.fv z h2
        exact x_.o
       .intro u hu;refine HI.o.tom u (mK.step (i:=ii) (j:=jj) ⟨gD,by rw [List.length_map];exact dr,(by have:=RJ.o;simpa using this),λi' j' h1 h2 h3=>px.o i' j' h1 h2 (by rwa [List.length_map] at h3),qu.o⟩ ?_);rw [<- map_merge hlt dr (x:=⟨.slice a5 n5 m5,.slice a6 n6 m6,q⟩) (by rw [RM.o,GV.o];exact HQ.o)];exact hu
       show M.length-1<M.length;omega
   obtain rfl:jj=M.length:=aa;go_wp2;go_roundw
   .exact ⟨ii+1,aa,rfl,by go_num,ad (λi' j' h1 h2 h3=>by
    by_cases h4:i'<ii
    .exact px.o i' j' h4 h2 h3
    obtain rfl:i'=ii:=aa;exact qu.o j' h2 h3),Bf,cm⟩
   simp [intOf];omega
  obtain rfl:ii=M.length:=aa;go_wp2_with fail;simp only [Exit.jump];go_ret;refine ⟨_,M.map PV.p,rfl,HI.o.tom _ (mK.done λi' j' h1 h2=>px.o i' j' (by rw [List.length_map] at h2;omega) h1 (by rwa [List.length_map] at h2)),λp hp=>?_,⟨M,rfl,kB.o.term⟩,bj.o⟩;obtain ⟨z,hz,rfl⟩:=List.mem_map.1 hp;exact HI.o.fv z hz
end
end Go.Proofs.YtbmgmlbmgogeaaaGreat
end
namespace Go
section
open Go.RowKit
variable {P:Program}
def DT {α:Type} (P:Program) (g:Nat) (lb:Array Value) (encs:α->Array Value) (Kp:World->World->Prop) (x:Option Nat) (Ey:List α->α->World->Prop) (Fin:List α->Prop) (w:World):Prop:=
 ∀ (l:Nat) (J:List α->World->Prop) (W:World),Below w.heap.size w W->Ez x J->
  (∀ pre y W1,J pre W1->Ey pre y W1->YieldAt Fence.wide 0 P l (encs y) W1 λe W'=>e=.returned (.bool true)/\J (pre ++ [y]) W'/\Kp W1 W')->
  J [] W->
  CallsIn Fence.wide 0 P g (#[.func (.yield l) #[] #[]] ++ lb) W λe W'=>(∃ v,e=.returned v)/\∃ xs,Fin xs/\J xs W'
def J3 (B:Nat) (Kp:World->World->Prop) (I:World->Prop) (W:World):Exit->Act->World->Prop
 | .normal,_,W3=>KeepsFrom B W W3/\Kp W W3/\I W3
 | _,_,_=>False
theorem UV {α:Type} {g:Operand} {ps:Array Tmp} {assign body:Code} {Q:Exit->Act->World->Prop} {a:Act} {w:World}
  {gf:Nat} {lb:Array Value} (hg:a.eval g=.func (.func gf) #[] lb) (eg:∀ args w,(callFunc gf args).run P w=.ok (.enter gf args) w)
  {encs:α->Array Value} {Kp:World->World->Prop} {x:Option Nat} {Ey:List α->α->World->Prop} {Fin:List α->Prop} (hseq:DT P gf lb encs Kp x Ey Fin w)
  (hKt:∀ {A B C:World},Kp A B->Kp B C->Kp A C) (hKb:∀ (W:World) (l:Nat) (o o':Obj),w.heap.size<=l->W.heap[l]? = some o->o.isCells=false->Kp W (W.putObj l o')) (oZ:∀ y,(encs y).size=ps.size)
  (I:List α->World->Prop) (hI:e_ w.heap.size x I) (uI:∀ pre y (W:World) (l:Nat) (o o':Obj),W.heap[l]? = some o->o.isCells=false->Ey pre y W->Ey pre y (W.putObj l o')) (h0:I [] w) (a₁:α->Act)
  (hassign:∀ (l:Nat) (y:α) (W:World) (K:Act->World->Prop),K (a₁ y) W->
   assign.wpIn (Fence.wide.inRound l) 0 P (Exit.then K (λ_ _ _=>False)) { tmps:=(ps.zip (encs y)).foldl (λt (p,v)=>t.setIfInBounds p v) a.tmps,defers:=[] } W)
  (hbody:∀ (l:Nat) (pre:List α) (y:α) (W:World),I pre W->Ey pre y W->body.wpIn (Fence.wide.inRound l) 0 P (J3 w.heap.size Kp (I (pre ++ [y])) W) (a₁ y) W)
  (hdone:∀ (D:Nat) (xs:List α) (W:World),w.heap.size<=D->Fin xs->I xs W->W.heap[D]? = some (.deferred (some []))->Q .normal { a with defers:={ target:=.collected D,args:=#[] } :: a.defers } W) :
  (Code.rangeFunc g ps assign body).wpIn Fence.wide 0 P Q a w:=by
 refine wpIn_rangeFunc ?_;intro fn hfn;obtain ⟨rec,bL⟩:∃ rec:LoopState->Option Code->Loop,rec=λst pe=>{ state:=st,pending:=pe,fn,tmps:=a.tmps,params:=ps,assign,body,defers:=w.heap.size }:=⟨_,rfl⟩;obtain ⟨W1,hW1⟩:∃ W1,(w.alloc (.deferred (some []))).alloc (.loop (rec .ready none))=W1:=⟨_,rfl⟩;have fO:W1.heap[w.heap.size+1]? = some (.loop (rec .ready none)):=by
  rw [<- hW1];have:=World.alloc_heap_new (w.alloc (.deferred (some []))) (.loop (rec .ready none));rwa [World.size_alloc] at this
 have EK:W1.heap[w.heap.size]? = some (.deferred (some [])):=by
  rw [<- hW1];exact (Below.heap_alloc _ _ _ ag).trans (World.alloc_heap_new w _)
 have EH:I [] W1:=by rw [<- hW1];exact hI.alloc _ (hI.alloc _ h0)
 have hb1:Below w.heap.size w W1:=by
  rw [<- hW1];exact (((Below.refl _ w).alloc (Nat.le_refl _) _).alloc ag _)
 refine ⟨w.heap.size+1,[{ target:=.collected w.heap.size,args:=#[] }],W1,{ target:=.fn (.func gf) lb,args:=#[.func (.yield (w.heap.size+1)) #[] #[]] },W1,gf,
  #[.func (.yield (w.heap.size+1)) #[] #[]] ++ lb,W1,?_,?_,?_,?_,(λh=>by cases h),?_⟩
 .rw [<- hW1,bL];exact run_enterLoop_outer _ _ _ _ _
 .simp only [resolve,hg];simp [go_sem]
 .intro f' _;trivial
 .simp [invoke,go_sem,eg]
 have dQ:∀ {A B:World} {row:Option Nat} {l:Nat} {o:Obj},A.grownBy B row->(∀ r,row=some r->x=some r/\∃ o:Obj,A.heap[r]? = some o/\o.isCells=true)->A.heap[l]? = some o->o.isCells=false->B.heap[l]? = some o:=
  λ{A B row l o} eL hr hl ho=>by
   refine (eL.block l (Array.getElem?_eq_some_iff.1 hl).1 λe=>?_).trans hl;obtain ⟨_,o2,ho2,hc⟩:=hr l e.symm;rw [hl] at ho2;cases ho2;rw [ho] at hc;cases hc
 refine (hseq (w.heap.size+1)
  (λpre W=>I pre W/\W.heap[w.heap.size+1]? = some (.loop (rec .ready none))/\W.heap[w.heap.size]? = some (.deferred (some [])))
  W1 hb1
  (λs A B row hs eL hr=>⟨hI s A B row hs.1 eL (λr e=>.inl (hr r e)),dQ eL hr hs.2.1 rfl,dQ eL hr hs.2.2 rfl⟩)
  ?_ ⟨EH,fO,EK⟩).mono ?_
 .rintro pre y W ⟨hi,hl,hk⟩ hlen;have hlt:w.heap.size+1<W.heap.size:=(Array.getElem?_eq_some_iff.1 hl).1;have hy:=run_yield (P:=P) (args:=encs y) hl (by rw [bL];exact oZ y);rw [bL] at hy;refine ⟨fn,_,assign,body,hy,roundIn_of_wpIn hfn (hassign _ y W _ ?_)⟩;clear hy;refine ⟨_,run_beginRound hl (by rw [bL]),?_⟩;have hl2:(W.putObj (w.heap.size+1) (.loop { rec .ready none with state:=.busy })).heap[w.heap.size+1]? = some (.loop { rec .ready none with state:=.busy }):=World.putObj_heap_same hlt;have hk2:(W.putObj (w.heap.size+1) (.loop { rec .ready none with state:=.busy })).heap[w.heap.size]? = some (.deferred (some [])):=(World.putObj_heap_other aa).trans hk;have hw2:Kp W (W.putObj (w.heap.size+1) (.loop { rec .ready none with state:=.busy })):=hKb _ _ _ _ aa hl rfl;refine wpIn_mono (hbody _ pre y _ (hI.putObj _ hi aa hl rfl) (uI _ _ _ _ _ _ hl rfl hlen)) ?_;have fin:∀ (jump:Option Code) (W3:World),KeepsFrom w.heap.size (W.putObj (w.heap.size+1) (.loop { rec .ready none with state:=.busy })) W3->
    (Instr.endRound (w.heap.size+1) jump).run P W3=.ok (.bool jump.isNone) (W3.putObj (w.heap.size+1) (.loop (rec (if jump.isNone then .ready else .done) jump)))/\
    W3.heap[w.heap.size+1]? = some (.loop { rec .ready none with state:=.busy })/\
    (W3.putObj (w.heap.size+1) (.loop (rec (if jump.isNone then .ready else .done) jump))).heap[w.heap.size+1]? = some (.loop (rec (if jump.isNone then .ready else .done) jump))/\
    (W3.putObj (w.heap.size+1) (.loop (rec (if jump.isNone then .ready else .done) jump))).heap[w.heap.size]? = some (.deferred (some [])):=λjump W3 hk3=>by
   have hl3:=hk3.same _ _ aa hl2 rfl;have:=run_endRound (P:=P) jump hl3;rw [bL] at this ⊢;exact ⟨this,by rw [bL] at hl3;exact hl3,World.putObj_heap_same (Array.getElem?_eq_some_iff.1 hl3).1,(World.putObj_heap_other aa).trans (hk3.same _ _ (Nat.le_refl _) hk2 rfl)⟩
  rintro e a3 W3 hp;cases e with
  | normal=>
   obtain ⟨hk3,rG,gP⟩:=hp;obtain ⟨hr,hl3,hl4,hk4⟩:=fin none W3 hk3;exact ⟨_,_,hr,rfl,⟨hI.putObj _ gP aa hl3 rfl,hl4,hk4⟩,hKt (hKt hw2 rG) (hKb _ _ _ _ aa hl3 rfl)⟩
  | _=>exact hp.elim
 rintro e W2 ⟨⟨v,rfl⟩,xs,hS,hi,hl,hk⟩;exact ⟨none,_,by have:=run_endLoop (P:=P) hl (by rw [bL];simp);rw [bL] at this;exact this,hdone _ xs _ (Nat.le_refl _) hS (hI.putObj _ hi aa hl rfl) ((World.putObj_heap_other aa).trans hk)⟩
end
end Go
section
variable {b:Bool}{F P a at_ d f r s step x y:Int}{m out:List (List Kal.Per)}{l:List Int}{L:List Go.Proofs.YtbmgmlbmgogeaaaGreat.PV}{t u:List Kal.Per}{cs xs:List Go.Value}{B base c cap g hi j k lo n sz:Nat}{row:Option Nat}{p q:Kal.Per}{h v v':Go.Value}{A C W W' w:Go.World}
namespace Go.Proofs.YtbmgmlbmgogeaaaGreat
section
open Go.RowKit Go.Shelf Kal
attribute [local go_sem] Oper.semAt_some
theorem bS.keep2 {F:Nat->Prop} (h:bS W F v n cs) (hk:aN F W W'):bS W' F v n cs:=by
 obtain ⟨a,c,rfl,h1,h2,h3⟩:=h;refine ⟨a,c,rfl,h1,h2,h3.imp id ?_⟩;rintro ⟨b,o,rfl,hF,hl,hc⟩;refine ⟨b,o,rfl,hF,?_,λi u hi=>(World.cell?_of_block (hk b hF hl)).trans (hc i u hi)⟩;have h1:=hk b hF hl;rw [Array.getElem?_eq_getElem hl] at h1;exact (Array.getElem?_eq_some_iff.1 h1).1
theorem gy.keep2 {F:Nat->Prop} (h:gy W F v L) (hk:aN F W W'):gy W' F v L:=⟨h.row.keep2 hk,h.len,λx hx=>(h.all x hx).keep hk⟩
theorem bG.keep2 {F:Nat->Prop} (h:bG W F v t) (hk:aN F W W'):bG W' F v t:=by
 obtain ⟨L,e,g⟩:=h;exact ⟨L,e,g.keep2 hk⟩
theorem cE.keep2 {F:Nat->Prop} {L:List (Value × List Per)} (h:cE W F v L) (hk:aN F W W'):cE W' F v L:=⟨h.row.keep2 hk,h.len,λx hx=>(h.all x hx).keep2 hk⟩
def zY (W:World) (b:Nat):Prop:=∃ o:Obj,W.heap[b]? = some o/\o.isCells=true
theorem Jc {b o:Nat} {u:Value} (h:W.cell? ⟨b,o,none⟩=some u):zY W b:=by
 unfold World.cell? at h;cases hb:W.heap[b]? with
 | none=>simp [hb] at h
 | some x=>
  simp only [hb] at h;cases x with
  | cells c t f=>exact ⟨_,hb,rfl⟩
  | _=>simp at h
theorem Ints.cellB (h:Ints W v l) (hl:l≠[]) (hk:v.ownBlock=some k):zY W k:=by
 obtain ⟨⟨a,c,rfl,h1,h2,h3⟩,h4,h5⟩:=h;rcases h3 with h3|⟨b,o,rfl,hc⟩
 .exact absurd h3 hl
 simp [Value.ownBlock] at hk;subst hk;exact Jc (hc 0 (List.length_pos_iff.2 hl))
theorem bp.cellB {F:Nat->Prop} {x:PV} (h:bp W F x):bp W (zY W) x:=
 ⟨h.is,h.fr,h.pe,λe k hk=>h.is.hd.cellB e hk,λe k hk=>h.is.cy.cellB e hk⟩
theorem gy.cellB {F:Nat->Prop} (h:gy W F v L):gy W (zY W) v L:=by
 refine ⟨?_,h.len,λx hx=>(h.all x hx).cellB⟩;obtain ⟨a,c,rfl,h1,h2,h3⟩:=h.row;refine ⟨a,c,rfl,h1,h2,?_⟩;by_cases hL:L.length=0
 .exact .inl hL
 rcases h3 with h3|⟨b,o,rfl,hb,hl,hc⟩
 .exact .inl h3
 exact .inr ⟨b,o,rfl,Jc (hc (0*4+0) _ (mJ aa rfl)),hl,hc⟩
theorem bG.put {F:Nat->Prop} {l:Nat} {o o':Obj} (h:bG W F v t) (hl:W.heap[l]? = some o) (ho:o.isCells=false):bG (W.putObj l o') (zY W) v t:=by
 obtain ⟨L,e,g⟩:=h;refine ⟨L,e,g.cellB.keep2 λb hb _=>World.putObj_heap_other ?_⟩;obtain ⟨x,hx,hc⟩:=hb;rintro rfl;rw [hl] at hx;cases hx;rw [ho] at hc;cases hc
def sk (y:Value × List Per):Array Value:=#[y.1]
def vP (T:List (List Per)) (pre:List (Value × List Per)) (y:Value × List Per) (W:World):Prop:=(∃ r,T=pre.map Prod.snd ++ y.2 :: r)/\∃ F,bG W F y.1 y.2
def J9 (T:List (List Per)) (xs:List (Value × List Per)):Prop:=xs.map Prod.snd=T
def JY (g:Nat) (lb:Array Value) (T:List (List Per)) (w:World):Prop:=
 (∀ args w,(callFunc g args).run Tryz.prog w=.ok (.enter g args) w)/\∀ W,Below w.heap.size w W->DT Tryz.prog g lb sk (cX λk=>k<w.heap.size) none (vP T) (J9 T) W
theorem Vo (v:Value) (w:World) (hv:∃ a n c,v=.slice a n c) :
  Calls Tryz.prog 110 #[v] w λe w'=>e=.returned (.func (.func 147) #[] #[.pointer (some ⟨w.heap.size,0,none⟩)])/\w'=w.alloc (.cells #[v] 55):=by
 obtain ⟨a,n,c,rfl⟩:=hv
 go_in
 go_wp2;go_ret;exact ⟨rfl,rfl⟩
theorem nr_ {L:List (Value × List Per)} {T:List (List Per)} (hT:L.map Prod.snd=T) (hk:k<L.length):T=T.take k ++ (L.getD k default).2 :: T.drop (k+1)/\T.take (k+1)=T.take k ++ [(L.getD k default).2]:=by
 subst hT;have h1:k<(L.map Prod.snd).length:=by simpa using hk
 have h2:(L.getD k default).2=(L.map Prod.snd)[k]:=by simp [List.getD_eq_getElem?_getD,hk]
 rw [h2];exact ⟨by rw [<- List.drop_eq_getElem_cons h1,List.take_append_drop],List.take_succ_eq_append_getElem h1⟩
theorem Vp (F:Nat->Prop) (v:Value) (T:List (List Per)) (b:Nat) (w:World) (hm:aA w F v T) (hb:w.cell? ⟨b,0,none⟩=some v) :
  JY 147 #[.pointer (some ⟨b,0,none⟩)] T w:=by
 refine ⟨enters_of Tryz.func147 (by kernel_rfl) rfl,λW0 hW0=>?_⟩;obtain ⟨L,S2,hL⟩:=hm;intro l' J W hW hJ hY qY;have hlt:=World.block_lt_of_cell? w _ hb;have wN:Below w.heap.size w W:=hW0.trans (hW.mono hW0.size);have hb1:=al.cell wN hb;obtain ⟨a1,c1,rfl,hx1,hx2,_⟩:=hL.row.is;have fA:=hL.len;have HL:Hid (∀ wr,cX (λk=>k<w.heap.size) W wr->cE wr (λb=>F b/\b<w.heap.size) (.slice a1 L.length c1) L):=ad λwr h=>hL.lt.keep2 λb hb _=>(h b hb.2).trans (wN.block b hb.2);have b6:=ad S2;have HJ:=ad hJ;have HY:=ad hY;clear hL S2 hJ hY hb;refine callsIn_of_wp Tryz.func147 rfl trivial ?_ rfl;simp only [Tryz.ntmps147,List.size_toArray,List.length_cons,List.length_nil,Nat.reduceAdd,Nat.reduceSub,Array.replicate_succ,Array.replicate_zero,List.push_toArray,List.append_toArray,List.nil_append,List.cons_append];gi_wp2_with fail;gi_loopw [4,7] (λ_ i wr=>∃ (k:Nat) (pre:List (Value × List Per)),k<=L.length/\i=.int .i64 k/\Hid (pre.map Prod.snd=T.take k)/\J pre wr/\cX (λk=>k<w.heap.size) W wr) (λ_ i _=>L.length-(intOf i).toNat)
 .exact ⟨0,[],aa,rfl,ad rfl,qY,λ_ _=>rfl⟩
 obtain ⟨k,pre,hk,rfl,HP,dC,hK⟩:=hrel;have HK:=ad hK;have jd:=ad dC;have dt:=HL.o wr hK;clear hK dC;by_cases hlt2:k<L.length
 .have dh:(k:Int)<L.length:=aa;obtain ⟨a',c',he,_,_,h3⟩:=dt.row.is;injection he with e1 e2 e3
  subst e1;subst e3;rcases h3 with h0|⟨b8,f8,rfl,hF,ee,hcell⟩
  .omega
  have e0:wr.cell? ⟨b8,f8+k,none⟩=some (L.getD k default).1:=hcell k _ (by rw [List.getElem?_map,List.getD_eq_getElem?_getD,List.getElem?_eq_getElem hlt2];rfl);have ko:=dt.all _ (dz (d:=default) hlt2);obtain ⟨t1,t2⟩:=nr_ b6.o hlt2;have T2:=ad t2;generalize L.getD k default=y at *;have uI:vP T pre y wr:=⟨⟨_,by rw [HP.o];exact t1⟩,_,ko⟩;obtain ⟨fn,tmps,assign,body,iF,hR⟩:=HY.o pre y wr jd.o uI;clear hcell ko t1 t2 uI dt;unfold sk at iF
  gi_wp2
  refine ⟨rfl,hR.mono ?_⟩;rintro e W' ⟨rfl,gz,eC⟩
  gi_wp2
  go_roundw
  .exact ⟨k+1,pre ++ [y],aa,by go_num,ad (by rw [List.map_append,HP.o,T2.o];rfl),gz,HK.o.trans eC⟩
  simp [intOf];omega
 obtain rfl:k=L.length:=aa;clear dt
 gi_wp2
 refine bodyPost_end (results_none rfl _ _ _) rfl ?_;refine ⟨⟨_,rfl⟩,pre,?_,jd.o⟩;show _=T;rw [HP.o,<- b6.o,List.take_of_length_le ag]
end
section
open Go.RowKit Go.Maps Kal
def cN (B:Nat) (A:Nat->Prop) (v:Value) (b:Nat):Prop:=B<=b/\¬ A b/\v.ownBlock≠some b
structure aY (B:Nat) (A:Nat->Prop) (W:World) (v:Value) (L:List (Value × List Per)):Prop where
 row:W.ownsRow B 78 1 v L.length (L.map Prod.fst)
 all:∀ x∈L,bG W (cN B A v) x.1 x.2
 ne:∀ g,v.ownBlock=some g->¬ A g
 len:L.length<=1000000
theorem aY.nil (B:Nat) (A:Nat->Prop) (W:World):aY B A W (.slice none 0 0) []:=⟨World.ownsRow_nil W B 78 1,ag,by simp [Value.ownBlock],ag⟩
theorem aY.form {A:Nat->Prop} {L:List (Value × List Per)} (h:aY B A W v L):∃ a c,v=.slice a L.length c/\L.length<=c/\c<=9223372036854775807/\(L.length=0\/∃ g,a=some ⟨g,0,none⟩):=by
 obtain ⟨_,⟨rfl,h2⟩|⟨g,cap,cur,rfl,_,_,h3,h4,_⟩⟩:=h.row
 .exact ⟨none,0,by rw [h2],aa,aa,.inl h2⟩
 exact ⟨_,cap,rfl,h3,h4,.inr ⟨g,rfl⟩⟩
theorem aY.below {A:Nat->Prop} {L:List (Value × List Per)} (h:aY B A W v L) (hb:Below W.heap.size W W'):aY B A W' v L:=
 ⟨h.row.kept (row:=none) (World.grownBy.of_below hb _) (by cases v.ownBlock <;> simp),λx hx=>(h.all x hx).ext hb,h.ne,h.len⟩
theorem aY.box {A:Nat->Prop} {L:List (Value × List Per)} (h:aY B A W v L) (hg:W.grownBy W' (some k)) (hA:A k):aY B A W' v L:=
 ⟨h.row.kept hg (.inr λe=>h.ne k e hA),λx hx=>(h.all x hx).keep (aN.grown hg λhf=>hf.2.1 hA) hg.size,h.ne,h.len⟩
theorem aY.mono {A A':Nat->Prop} {L:List (Value × List Per)} (h:aY B A W v L) (hs:∀ k,A' k->A k\/W.heap.size<=k):aY B A' W v L:=
 ⟨h.row,λx hx=>((h.all x hx).lt).mono λb hb=>⟨hb.1.1,λha=>(hs b ha).elim hb.1.2.1 λhl=>by have:=hb.2;omega,hb.1.2.2⟩,λg hg ha=>(hs g ha).elim (h.ne g hg) λhl=>by have:=(h.row.lt g hg).2;omega,h.len⟩
theorem aY.push {A:Nat->Prop} {L:List (Value × List Per)} {y:Value × List Per} (h:aY B A W v L) (hy:bG W (cN B A v) y.1 y.2) (hr:W'.ownsRow B 78 1 v' (L.length+1) (L.map Prod.fst ++ [y.1])) (hg:W.grownBy W' v.ownBlock)
  (hb:v'.ownBlock=v.ownBlock\/v'.ownBlock=some W.heap.size) (hA:¬ A W.heap.size) (hl:L.length<1000000):aY B A W' v' (L ++ [y]):=by
 have key:∀ {u:Value} {t:List Per},bG W (cN B A v) u t->bG W' (cN B A v') u t:=λht=>by
  refine (ht.lt.keep (λb hb hl=>hg.block b hl λe=>hb.1.2.2 e.symm) hg.size).mono λb hb'=>⟨hb'.1.1,hb'.1.2.1,?_⟩;rcases hb with e|e
  .rw [e];exact hb'.1.2.2
  rw [e];rintro ⟨⟩;have:=hb'.2;omega
 refine ⟨by rw [List.length_append,List.map_append];exact hr,λx hx=>?_,λg eL=>?_,aO⟩
 .rcases List.mem_append.1 hx with hx|hx
  .exact key (h.all x hx)
  obtain rfl:x=y:=by simpa using hx
  exact key hy
 rcases hb with e|e
 .exact h.ne g (e ▸ eL)
 rw [e] at eL;cases eL;exact hA
theorem aY.get {A:Nat->Prop} {L:List (Value × List Per)} (h:aY B A W v L) (hv:v=.slice (some ⟨g,0,none⟩) n c) (hk:k<L.length) :
  bG W (cN B A v) (L.getD k default).1 (L.getD k default).2/\W.cell? ⟨g,k,none⟩=some (L.getD k default).1/\∀ i,W.frozen? ⟨g,i,none⟩=false:=by
 have hn:n=L.length:=by
  obtain ⟨_,_,e,_⟩:=h.form;rw [hv] at e;cases e;rfl
 subst hn;subst hv;refine ⟨h.all _ (dz hk),(h.row.cellAt k aa).trans ?_,λi=>h.row.frozenAt i⟩;rw [List.getElem?_map,List.getD_eq_getElem?_getD,List.getElem?_eq_getElem hk];rfl
theorem aY.set {A:Nat->Prop} {L:List (Value × List Per)} {y:Value × List Per} (h:aY B A W (.slice (some ⟨g,0,none⟩) n c) L) (k:Nat) (hy:bG W (cN B A (.slice (some ⟨g,0,none⟩) n c)) y.1 y.2) :
  aY B A (W.setCell ⟨g,k,none⟩ y.1) (.slice (some ⟨g,0,none⟩) n c) (L.set k y):=by
 have hn:n=L.length:=by
  obtain ⟨_,_,e,_⟩:=h.form;cases e;rfl
 subst hn;have hg:W.grownBy (W.setCell ⟨g,k,none⟩ y.1) (some g):=World.grownBy.set' ⟨rfl,rfl,rfl,Nat.le_refl _,λ_ _ _=>rfl⟩ _;have key:∀ {u:Value} {t:List Per},bG W (cN B A (.slice (some ⟨g,0,none⟩) L.length c)) u t->bG (W.setCell ⟨g,k,none⟩ y.1) (cN B A (.slice (some ⟨g,0,none⟩) L.length c)) u t:=λht=>ht.keep (aN.grown hg λhf=>hf.2.2 rfl) hg.size;refine ⟨?_,λx hx=>?_,h.ne,by rw [List.length_set];exact h.len⟩
 .rw [List.length_set,List.map_set];exact (h.row.stored k y.1).1
 rcases List.mem_or_eq_of_mem_set hx with hx|rfl
 .exact key (h.all x hx)
 exact key hy
theorem bG.one {F:Nat->Prop} (h:bG W F v t):v.oneCell'=true:=by
 obtain ⟨L,_,hL⟩:=h;obtain ⟨a,c,rfl,_⟩:=hL.row.is;rfl
theorem qj_ (B:Nat) (A:Nat->Prop) (g n c jj:Nat) (L:List (Value × List Per)) (W:World) (h:aY B A W (.slice (some ⟨g,0,none⟩) n c) L) (hj:jj<L.length) :
  Calls Tryz.prog 142 #[.slice (some ⟨g,0,none⟩) n c,.int .i64 jj,.int .i64 (jj+1)] W λe w'=>e=.returned (.slice (some ⟨g,0,none⟩) (L.length-1) c)/\aY B A w' (.slice (some ⟨g,0,none⟩) (L.length-1) c) (L.eraseIdx jj)/\W.grownBy w' (some g):=by
 have hn:n=L.length:=by
  obtain ⟨_,_,e,_⟩:=h.form;cases e;rfl
 subst hn;refine (q2_ B g L.length c jj _ W h.row hj λu hu=>?_).mono λe w' ⟨h1,h2,h3⟩=>⟨h1,⟨?_,λx hx=>?_,h.ne,?_⟩,h3⟩
 .obtain ⟨x,hx,rfl⟩:=List.mem_map.1 hu;exact (h.all x hx).one
 .have hl:(L.eraseIdx jj).length=L.length-1:=List.length_eraseIdx_of_lt hj;have hm:(L.eraseIdx jj).map Prod.fst=(L.map Prod.fst).take (jj*1) ++ (L.map Prod.fst).drop ((jj+1)*1):=by
   rw [List.eraseIdx_eq_take_drop_succ,List.map_append,List.map_take,List.map_drop,Nat.mul_one,Nat.mul_one]
  rw [hl,hm];exact h2
 .exact (h.all x (List.mem_of_mem_eraseIdx hx)).keep (aN.grown h3 λhf=>hf.2.2 rfl) h3.size
 have:=h.len;have:=List.length_eraseIdx_of_lt hj;omega
theorem bG.cellF {F:Nat->Prop} (h:bG W F v t):bG W (λb=>F b/\zY W b) v t:=by
 obtain ⟨L,e,g⟩:=h;refine ⟨L,e,?_,g.len,λx hx=>⟨(g.all x hx).is,(g.all x hx).fr,(g.all x hx).pe,λe k hk=>⟨(g.all x hx).bh e k hk,(g.all x hx).is.hd.cellB e hk⟩,λe k hk=>⟨(g.all x hx).bc e k hk,(g.all x hx).is.cy.cellB e hk⟩⟩⟩;obtain ⟨a,c,rfl,h1,h2,h3⟩:=g.row;refine ⟨a,c,rfl,h1,h2,?_⟩;by_cases hL:L.length=0
 .exact .inl hL
 rcases h3 with h3|⟨b,o,rfl,hb,hl,hc⟩
 .exact .inl h3
 exact .inr ⟨b,o,rfl,⟨hb,Jc (hc (0*4+0) _ (mJ aa rfl))⟩,hl,hc⟩
theorem aY.grow {A:Nat->Prop} {L:List (Value × List Per)} (h:aY B A W v L) (hg:W.grownBy W' row) (hr:∀ r,row=some r->∃ o:Obj,W.heap[r]? = some o/\o.isCells=false):aY B A W' v L:=by
 refine ⟨h.row.kept hg ?_,λx hx=>((h.all x hx).cellF.keep (λb hb hl=>hg.block b hl ?_) hg.size).mono λb hb=>hb.1,h.ne,h.len⟩
 .rcases cG:v.ownBlock with _|g
  .exact .inl rfl
  refine .inr λe=>?_;obtain ⟨o,h1,h2⟩:=hr g e.symm;obtain ⟨_,⟨rfl,_⟩|⟨g',cap,cur,rfl,_,hh,_⟩⟩:=h.row
  .simp [Value.ownBlock] at cG
  simp [Value.ownBlock] at cG;subst cG;rw [hh] at h1;cases h1;cases h2
 rintro e;obtain ⟨o,h1,h2⟩:=hr b e.symm;obtain ⟨o',h3,h4⟩:=hb.2;rw [h1] at h3;cases h3;rw [h2] at h4;cases h4
theorem aY.mix {A:Nat->Prop} {L:List (Value × List Per)} (h:aY B A W v L):cE W (λb=>B<=b) v L:=by
 refine ⟨?_,by have:=h.len;omega,λx hx=>(h.all x hx).mono λb hb=>hb.1⟩;obtain ⟨hl,⟨rfl,h2⟩|⟨g,cap,cur,rfl,hb,hg,h3,h4,h5,h6⟩⟩:=h.row
 .rw [h2];exact ⟨none,0,rfl,aa,aa,.inl rfl⟩
 refine ⟨_,cap,rfl,h3,h4,.inr ⟨g,0,rfl,hb,(h.row.lt g rfl).2,λi u hi=>?_⟩⟩;rw [Nat.zero_add];have:=(List.getElem?_eq_some_iff.1 hi).1;rw [List.length_map] at this;exact (h.row.cellAt i aa).trans hi
theorem aY.shut {C:Nat} {A:Nat->Prop} {L:List (Value × List Per)} (h:aY B A W v L) (hs:Q4 C W W'):aY B A W' v L:=by
 refine ⟨⟨h.row.1,?_⟩,λx hx=>((h.all x hx).cellF.keep2 λb hb _=>?_).mono λb hb=>hb.1,h.ne,h.len⟩
 .rcases h.row.2 with h2|⟨g,cap,cur,e,hb,hg,rest⟩
  .exact .inl h2
  exact .inr ⟨g,cap,cur,e,hb,hs.cells _ _ hg rfl,rest⟩
 obtain ⟨o,h1,h2⟩:=hb.2;exact (hs.cells _ _ h1 h2).trans h1.symm
theorem qd_ (F G:Nat->Prop) (v tv:Value) (t u:List Per) (tb:Nat) (w:World) (hv:bG w F v t) (ht:bG w G tv u) (hc:w.cell? ⟨tb,0,none⟩=some tv) :
  Calls Tryz.prog 143 #[v,.pointer (some ⟨tb,0,none⟩)] w λe w'=>e=.returned (.bool (wI t u))/\Below w.heap.size w w':=by
 have H:=nl_ F G v tv t u w hv ht;have hlt:=World.block_lt_of_cell? w _ hc;obtain ⟨a1,c1,rfl,_⟩:=hv.form;obtain ⟨a2,c2,rfl,_⟩:=ht.form;clear hv ht;generalize wI t u=b at H ⊢
 go_in
 go_wp2_with (go_at_call 144;refine H.mono ?_;rintro e w1 ⟨rfl,hb1⟩)
 go_ret;exact ⟨rfl,xE⟩
theorem nk_ (F G:Nat->Prop) (ov:Value) (LO:List (Value × List Per)) (tv:Value) (u:List Per) (tb:Nat) (w:World) (hL:cE w F ov LO) (ht:bG w G tv u) (hc:w.cell? ⟨tb,0,none⟩=some tv) :
  Calls Tryz.prog 107 #[ov,.func (.func 143) #[] #[.pointer (some ⟨tb,0,none⟩)]] w λe w'=>∃ b,e=.returned (.bool b)/\(b=true↔u∈LO.map Prod.snd)/\Below w.heap.size w w':=by
 have h:=Nc F ov LO (λx=>wI x.2 u) 143 #[.pointer (some ⟨tb,0,none⟩)] (enters_of Tryz.func143 (by kernel_rfl) rfl) w hL.row hL.len (λW x hW hx=>by
  have h:=qd_ F G x.1 tv x.2 u tb W ((hL.all x hx).ext hW) (ht.ext hW) (al.cell hW hc);have e:(#[x.1] ++ #[Value.pointer (some ⟨tb,0,none⟩)])=#[x.1,.pointer (some ⟨tb,0,none⟩)]:=by simp
  rw [e];exact h.mono λe w' ⟨h1,h2⟩=>⟨h1,hW.trans (h2.mono hW.size)⟩)
 refine h.mono λe w' ⟨h1,h2⟩=>⟨_,h1,?_,h2⟩;rw [List.any_eq_true,List.mem_map];constructor
 .rintro ⟨x,hx,hs⟩;refine ⟨x,hx,?_⟩;by_cases he:x.2=u
  .exact he
  rw [Ns he] at hs;cases hs
 rintro ⟨x,hx,he⟩;exact ⟨x,hx,Vl he⟩
end
end Go.Proofs.YtbmgmlbmgogeaaaGreat
end
