/- Part 6 of the proof of the laws. -/
import Derived.Test.YtkclokcenllhmaaGreatM5
import Derived.Test.YtkclokcenllhmaaGreatM4
import Derived.Test.YtkclokcenllhmaaGreatM3
import Derived.Test.YtkclokcenllhmaaGreatM2
import Derived.Shelf.SlGeneric
import Derived.Shelf.SlSortCmp.NoneTotal
import Derived.Ground.SlsfProg
import Derived.Test.YtkclokcenllhmaaGreatProg
set_option linter.unusedVariables false
set_option linter.unusedSimpArgs false
set_option maxRecDepth 100000
set_option maxHeartbeats 4000000
section
variable {a b f x y:Int}{l:List Int}{B i j k n:Nat}{v:Go.Value}{W:Go.World}
namespace Kal
noncomputable def linW (d:List Ent) (a b:Int):List a4_:=if a<b then ct_ d a b else []
theorem dt_:linW [] a b=[]:=by unfold linW;split <;> rfl
theorem f2_ {d:List Ent} {e:Ent} {D:List Inst} (h:a<b->au_ e.s a b D) (h0:¬ a<b->D=[]):linW (d ++ [e]) a b=linW d a b ++ D.map (ai_ e):=by
 unfold linW;by_cases hl:a<b
 ·rw [if_pos hl,if_pos hl,nm_,(h hl).eq]
 ·rw [if_neg hl,if_neg hl,h0 hl];rfl
theorem c1_ {α β:Type} {D:List α} {f:α->β} {d:α} (hk:k<D.length):(D.take (k+1)).map f=(D.take k).map f ++ [f (D.getD k d)]:=by
 rw [List.take_succ_eq_append_getElem hk,List.map_append,a6_ hk];rfl
theorem ki_ {d:List Ent} (hw:a<b->∀ e∈d,∃ D,au_ e.s a b D) (t:Int):SpM ((linW d a b).map (b2_ a b)) t↔a≤t∧t<b∧bx_ d t:=by
 unfold linW;by_cases hl:a<b
 ·rw [if_pos hl];exact r6_ (hw hl) t
 ·rw [if_neg hl];exact ⟨fun ⟨s,hs,_⟩=>(by cases hs),fun h=>oq_⟩
theorem g5_ {d:List Ent} {l:a4_} (hw:a<b->∀ e∈d,∃ D,au_ e.s a b D) (h:l∈linW d a b):a<b∧∃ e∈d,∃ y,IsI e.s y∧ae_ y.frm y.fin a b∧l=ai_ e y:=by
 unfold linW at h;by_cases hl:a<b
 ·rw [if_pos hl] at h;exact ⟨hl,(g7_ (hw hl)).1 h⟩
 ·rw [if_neg hl] at h;cases h
end Kal
end
namespace Go.Proofs.YtkclokcenllhmaaGreat
open Go.RowKit Go.Shelf Go.Maps Kal
attribute [local go_sem] Oper.semAt_some
theorem bz_ {F:Fence} {N:Nat} {w:World} {ops:Array Oper} {rest:List Oper} {o:Oper} {a:Act} {Q:Exit->Act->World->Prop} (hgd:o.guard=none) (s x:Operand) (t e:TypeId)
  (ho:o.op=.call { callee:=.builtin .append,args:=#[s,x],argTypes:=#[t,t] }) (i:TypeInfo) (z:Value) (sz bytes:Nat) (ht:Tryz.prog.underlying t=some (.slice e)) (hi:Tryz.prog.info? e=some i) (h1:i.zero=some z) (h2:i.size=sz) (h3:i.bytes=bytes) (hzs:z.cells.size=sz) (hsz:0<sz) (hby:bytes≤1000)
  (base:Nat) (v:Value) (n:Nat) (xs:List Value) (ys:List Value) (hys:ys.length=sz) (hs:a.eval s=v) (hown:w.ownsRow base e sz v n xs)
  (blk c:Nat) (hx:a.eval x=.slice (some ⟨blk,0,none⟩) 1 c) (hnew:∀ j u,ys[j]? = some u->w.cell? ⟨blk,j,none⟩=some u) (h1c:∀ u∈ys,u.oneCell'=true) (hlen:n+1≤1000000) (hbase:base≤w.heap.size)
  (h:∀ v' w',w'.ownsRow base e sz v' (n+1) (xs ++ ys)->w.grownBy w' v.ownBlock->(v'.ownBlock=v.ownBlock∨v'.ownBlock=some w.heap.size)->wpListIn F N Tryz.prog ops Q rest (a.put o.dst v') w') :
  wpListIn F N Tryz.prog ops Q (o :: rest) a w:=by
 refine wpListIn_plain hgd fun K hK=>?_;obtain ⟨v',w',hrun,k2,k3,_,k5⟩:=run_append_own_at (P:=Tryz.prog) w base t o.type e i z sz bytes ht hi h1 h2 h3 hzs hsz v n xs hown ⟨blk,0,none⟩ 1 c ys (by rw [hys,Nat.one_mul])
  (fun j u hu=>by rw [show (⟨blk,0,none⟩:Addr).add j=⟨blk,j,none⟩ from by
   rcases Nat.eq_zero_or_pos j with h0|h0
   ·subst h0;simp [Addr.add]
   ·simp [Addr.add];omega];exact hnew j u hu) h1c (by unfold maxLen;omega) (by
    have:(n+1)*bytes≤1000000*1000:=Nat.mul_le_mul hlen hby;omega) hbase
 unfold Oper.wpIn;refine ⟨?_,?_⟩
 ·simp [Oper.about,ho,resolve,Target.leads,Sem.run_pure]
 ·rw [Oper.semAt_plain F _ _ (by rw [ho];intro c hc';cases hc')];simp [execOp,ho,resolve,invoke,builtin,hs,hx,hrun,Result.andThen];exact hK _ _ (h v' w' k2 k3 k5)
def xd_ (s:Str) (a b:Int) (w:World) (e:Ending) (w':World):Prop:=
 ∃ (v:Value) (D:List Inst),e=.returned (.tuple #[v,.int .i64 0])∧Below w.heap.size w w'∧ExtL w' (fun b=>w.heap.size≤b) v D∧D.length≤100∧(a<b->au_ s a b D)∧(¬ a<b->D=[])∧∀ y∈D,InIn y
structure WinB (a b:Int):Prop where
 lo:-2251799813685248≤a
 hi:b≤2251799813685248
 le:a≤b
 sz:b-a≤30000
theorem nc_ (F:Nat->Prop) (cv ev:Value) (s:Str) (a b:Int) (w:World) (h:StrR w F cv ev s) (hs:SmS s) (hw:WinB a b) :
  Calls Tryz.prog 31 #[.agg #[cv,.int .i64 s.len,ev],.agg #[.int .i64 a,.int .i64 b]] w (xd_ s a b w):=by
 refine (kl_ F cv ev s a b w h hs.ms hw.lo hw.hi hw.le (by have:=hw.sz;omega)).mono ?_;rintro e w' ⟨v,D,k,rfl,hb,h0,h1,hl,hk⟩;have hn:=ln_ (a:=a) (b:=b) (k:=30000) hw.sz;have hn2:NW a b≤31:=oq_;have hl2:D.length≤100:=by
  have h2:=hs.nc;have h3:=hs.nx;have h4:s.cls.length*NW a b≤3*31:=Nat.mul_le_mul h2 hn2;omega
 rcases hk with ⟨_,rfl,hx⟩|⟨h4,_⟩
 ·have hle:=hw.le;refine ⟨v,D,rfl,hb,hx,hl2,fun hlt=>⟨(h1 hlt).1,(h1 hlt).2⟩,fun hlt=>h0 oq_,fun y hy=>?_⟩;by_cases hlt:a<b
  ·exact (((h1 hlt).2 y).1 hy).inn hs.ms
  ·rw [h0 oq_] at hy;cases hy
 ·omega
abbrev lnBs (w:World) (a b:Int):List (Nat × Array Value × TypeId):=[(w.heap.size,#[.int .i64 a,.int .i64 b],28),(w.heap.size+1,#[.slice none 0 0],100),(w.heap.size+1+1,#[.int .i64 0],32)]
abbrev LnW (w:World) (a b:Int) (lv:Value) (R:List a4_) (W:World):Prop:=AccW 106 5 lenc (fun _ _ x=>LnI x) w (lnBs w a b) (w.heap.size+1+1+1) 100 (fun _=>False) lv R W
section
variable {w A:World} {a b:Int} {lv:Value} {R:List a4_}
theorem LnW.b0 (h:LnW w a b lv R A):Bxx A w.heap.size #[.int .i64 a,.int .i64 b] 28:=h.bx (_,_,_) (List.mem_cons_self ..)
theorem LnW.b1 (h:LnW w a b lv R A):Bxx A (w.heap.size+1) #[.slice none 0 0] 100:=h.bx (_,_,_) (List.mem_cons_of_mem _ (List.mem_cons_self ..))
theorem LnW.b2 (h:LnW w a b lv R A):Bxx A (w.heap.size+1+1) #[.int .i64 0] 32:=h.bx (_,_,_) (List.mem_cons_of_mem _ (List.mem_cons_of_mem _ (List.mem_cons_self ..)))
end
theorem OwnG.neBox {α:Type} {e t:TypeId} {sz:Nat} {enc:α->List Value} {R:World->(Nat->Prop)->α->Prop} {B b:Nat} {A:Nat->Prop} {W:World} {v:Value} {D:List α} {c:Array Value} (h:OwnG e sz enc R B A W v D) (hb:Bxx W b c t) (ht:t≠e):v.ownBlock≠some b:=fun hv=>by
 obtain ⟨_,⟨rfl,_⟩|⟨g,cap,cur,rfl,_,hg,_⟩⟩:=h.row
 ·cases hv
 ·obtain rfl:g=b:=by injection hv
  rw [hb] at hg;injection hg with hg
  injection hg with _ hg _
  exact ht hg
section
variable {α:Type} {e:TypeId} {sz:Nat} {enc:α->List Value} {p:α->Prop} {B:Nat} {A:Nat->Prop} {W W':World} {v:Value} {D:List α}
theorem OwnG.shut {n:Nat} (h:OwnG e sz enc (fun _ _ x=>p x) B A W v D) (hs:vv_ n W W'):OwnG e sz enc (fun _ _ x=>p x) B A W' v D:=by
 refine ⟨?_,h.all,h.ne,h.len⟩;obtain ⟨hl,h1|⟨g,cap,cur,h1,h2,h3,h4⟩⟩:=h.row
 ·exact ⟨hl,.inl h1⟩
 ·exact ⟨hl,.inr ⟨g,cap,cur,h1,h2,hs.cells _ _ h3 rfl,h4⟩⟩
theorem OwnG.setO {q i:Nat} (h:OwnG e sz enc (fun _ _ x=>p x) B A W v D) (u:Value) (hq:v.ownBlock≠some q):OwnG e sz enc (fun _ _ x=>p x) B A (W.setCell ⟨q,i,none⟩ u) v D:=
 ⟨h.row.kept (World.grownBy.set' (g:=q) ⟨rfl,rfl,rfl,Nat.le_refl _,fun _ _ _=>rfl⟩ u) (.inr hq),h.all,h.ne,h.len⟩
theorem aa_:bd_ (fun (_:World) (_:Nat->Prop) (x:α)=>p x):=⟨fun h _ _=>h,fun h=>h,fun h _=>h⟩
end
abbrev entA (id rk:Int) (fm:Bool) (x1:Option Addr) (n1 d1:Nat) (ln:Int) (x2:Option Addr) (n2 d2:Nat):Array Value:=#[.int .i64 id,.bool fm,.int .i64 rk,.slice x1 n1 d1,.int .i64 ln,.slice x2 n2 d2]
def fm_ (n b:Nat) (y:EntV) (W:World):Prop:=n≤b∧Bxx W b y.enc.toArray 57
theorem fm_.put {n b:Nat} {y:EntV} {W:World} {l:Nat} {o o':Obj} (h:fm_ n b y W) (hl:W.heap[l]? = some o) (ho:o.isCells=false):fm_ n b y (W.putObj l o'):=
 ⟨h.1,(World.putObj_heap_other (fun e=>by subst e;rw [h.2] at hl;cases hl;cases ho)).trans h.2⟩
def tm_ (S:List EntV) (a b:Int) (w:World) (e:Ending) (w':World):Prop:=
 ∃ v,e=.returned (.tuple #[v,.int .i64 0])∧OwnG 106 5 lenc (fun _ _ x=>LnI x) w.heap.size (fun _=>False) w' v (linW (S.map EntV.ent) a b)∧(linW (S.map EntV.ent) a b).length≤100*S.length∧(a<b->∀ e∈S.map EntV.ent,∃ D,au_ e.s a b D)∧Below w.heap.size w w'
theorem kp_ (pb:Nat->Prop) (g:Nat) (lb:Array Value) (S:List EntV) (a b:Int) (w:World) (hit:d9_ pb g lb S w) (hpb:∀ k,pb k->k<w.heap.size) (eg:∀ args w,(callFunc g args).run Tryz.prog w=.ok (.enter g args) w) (hS:∀ x∈S,SmS x.s∧InI x.id) (hSl:S.length≤1000) (hw:WinB a b) :
  Calls Tryz.prog 54 #[.func (.func g) #[] lb,.agg #[.int .i64 a,.int .i64 b]] w (tm_ S a b w):=by
 have HS:=hq_ hS;have HW:=hq_ hw;have HPB:=hq_ hpb;obtain ⟨iL,iL1,iL2,iL3,iL4⟩:=wt_;have HIL:=hq_ (And.intro iL1 (And.intro iL2 (And.intro iL3 iL4)));clear hS hpb iL1 iL2 iL3 iL4;refine callsIn_wide (n:=0).1 ?_;refine callsIn_of_wp_marks Tryz.func54 rfl trivial ?_ rfl;simp only [Tryz.ntmps54,List.size_toArray,List.length_cons,List.length_nil,Nat.reduceAdd,Nat.reduceSub,Array.replicate_succ,Array.replicate_zero,List.push_toArray,List.append_toArray,List.nil_append,List.cons_append];gi_wp2_with fail
 generalize hW0:(((w.alloc _).alloc _).alloc _).alloc _=W0;have hE:Below w.heap.size w W0:=by rw [<- hW0];exact xE
 have hA0:LnW w a b (.slice none 0 0) [] W0:=by
  refine ⟨hE,fun t ht=>?_,?_,oq_,fun t ht=>?_,OwnG.nil⟩
  ·rcases List.mem_cons.1 ht with rfl|ht
   ·rw [<- hW0];exact (((Bxx.at rfl).alloc _).alloc _).alloc _
   ·rcases List.mem_cons.1 ht with rfl|ht
    ·rw [<- hW0];exact ((Bxx.at sq_).alloc _).alloc _
    ·obtain rfl:=List.mem_singleton.1 ht;rw [<- hW0];exact (Bxx.at sq_).alloc _
  ·rw [<- hW0];exact Bxx.at sq_
  ·rcases List.mem_cons.1 ht with rfl|ht
   ·show w.heap.size≠_;omega
   ·rcases List.mem_cons.1 ht with rfl|ht
    ·show w.heap.size+1≠_;omega
    ·obtain rfl:=List.mem_singleton.1 ht;show w.heap.size+1+1≠_;omega
 have hsz:=hE.size;have HSZ4:=hq_ (show W0.heap.size=w.heap.size+4 by rw [<- hW0];simp);have HIT:=hq_ (show d9_ pb g lb S W0 from fun l J Jx W1 hW=>hit l J Jx W1 (Et hE hW));have HA0:=hq_ hA0;clear hW0 hit hA0 hE;refine bf_ (α:=EntV) (x:=none) (gf:=g) (lb:=lb) rfl eg HIT.out
  (fun h k=>h.trans k) (fun W1 l o o' hl ho hc=>KpB.putObj (fun q h=>Nat.lt_of_lt_of_le (HPB.out q h) hsz) W1 l o o' hl ho hc) (fun W1 W2 hn hg q hq=>hg.block q (by have:=HPB.out q hq;omega) sq_) (fun y=>rfl)
  (fun pre W'=>∃ lv,LnW w a b lv (linW (pre.map EntV.ent) a b) W'∧Hid ((linW (pre.map EntV.ent) a b).length≤100*pre.length)∧Hid (a<b->∀ e∈pre.map EntV.ent,∃ D,au_ e.s a b D)∧KeepsOthers W0 W')
  (fun _ _ _=>False)
  (fun pre A' C row hI hg hr=>by
   have hr':∀ r,row=some r->W0.heap.size≤r∧∃ o:Obj,A'.heap[r]? = some o∧o.isCells=false:=fun r e=>by
    rcases hr r e with ⟨h,_⟩|h
    ·cases h
    ·exact h
   obtain ⟨lv,h1,h2,h3,h4⟩:=hI;exact ⟨lv,AccW.grow h1 hg fun r e=>⟨by have:=(hr' r e).1;omega,(hr' r e).2⟩,h2,h3,KeepsOthers.grow h4 hg fun r e=>(hr' r e).1⟩)
  (fun c' pre A' C row hI hg hr=>hI)
  (fun pre y W1 l o o' hl ho h=>EyE.put pre y W1 l o o' hl ho h) (fun pre y W1 W2 hg h=>EyE.grown pre y W1 W2 hg h) ⟨_,by rw [List.map_nil,dt_];exact HA0.out,hq_ (by rw [List.map_nil,dt_];simp),hq_ sq_,KeepsOthers.refl _⟩
  (fun y a' W1=>∃ eb,a'=⟨#[.func (.func g) #[] lb,.agg #[.int .i64 a,.int .i64 b],undef,.pointer (some ⟨w.heap.size,0,none⟩),.pointer (some ⟨w.heap.size+1,0,none⟩),.pointer (some ⟨w.heap.size+1+1,0,none⟩),.pointer (some ⟨w.heap.size+1+1+1,0,none⟩),.pointer (some ⟨eb,0,none⟩),undef,undef,undef,undef,undef,.func (.func g) #[] lb,y.val,undef,undef,undef,undef,undef,undef,undef,undef,undef,undef,undef,undef,undef,undef,undef,undef,undef,undef,undef,undef,undef,undef,undef,undef,undef,undef,undef,undef,undef,undef,undef,undef],[]⟩∧fm_ W0.heap.size eb y W1)
  (fun y a' W1 l o o' _ hl ho h=>⟨h.choose,h.choose_spec.1,h.choose_spec.2.put hl ho⟩) ?assign ?body ?done ?stop
 case assign=>
  rintro l pre ⟨id,fm,rk,cv,ev,s⟩ W' K hW' _ ⟨-,hst,-,-⟩ hK;obtain ⟨x1,d1,x2,d2,hcv,hev⟩:=hst.form;dsimp only at hcv hev;subst hcv;subst hev;dsimp only [EntV.val] at hK ⊢
  gi_wp2
  exact hK _ _ (World.grownBy_alloc _ _ _) ⟨W'.heap.size,rfl,hW',Bxx.at rfl⟩
 case body=>
  rintro l pre ⟨id,fm,rk,cv,ev,s⟩ _ W' ⟨lv,hA,HL,HWN,hKO⟩ ⟨⟨r,hr⟩,hst,hid,hrk⟩ ⟨eb,rfl,hnb,hbx⟩;obtain ⟨x1,d1,x2,d2,hcv,hev⟩:=hst.form;dsimp only at hcv hev hst hid hrk;subst hcv;subst hev;obtain ⟨hsm,-⟩:=HS.out _ (show (⟨id,fm,rk,.slice x1 s.cls.length d1,.slice x2 s.ext.length d2,s⟩:EntV)∈S by rw [hr];simp);dsimp only at hsm;have hprl:pre.length+1≤1000:=by rw [hr] at hSl;simp at hSl;omega
  dsimp only [EntV.val];change Bxx W' eb (entA id rk fm x1 s.cls.length d1 s.len x2 s.ext.length d2) _ at hbx;have q3:=(hbx.cells 3).1;have q4:=(hbx.cells 4).1;have q5:=(hbx.cells 5).1;have q6:=(hA.b0.cells 0).1;have q7:=(hA.b0.cells 1).1;have HLI:=hq_ (nc_ _ _ _ s a b W' hst hsm HW.out);have hws:=hA.below.size;have heb:=hbx.lt;have HA:=hq_ hA;have HBX:=hq_ hbx;have HKO:=hq_ hKO;have HPR:=hq_ hprl;have HID:=hq_ hid;obtain ⟨E,hEe⟩:∃ E:Ent,E=⟨id,fm,rk,s⟩:=⟨_,rfl⟩;have HEE:=hq_ hEe;clear hA hbx hKO hprl hid hst hsm hr hrk hEe;cases fm
  ·
   gi_wp2_with (refine ⟨trivial,rfl,?_⟩;gi_at_call 31;refine (CallsIn.inRound l (callsIn_wide.2 HLI.out)).mono ?_;rintro e w5 ⟨v,D,rfl,hb5,hx5,hD1,hD2,hD3,hD4⟩;obtain ⟨va,vc,rfl⟩:=hx5.form;have HB5:=hq_ hb5;have hx6:=HBX.out.below hb5;have q1:=(hx6.cells 1).1;have HX6:=hq_ hx6;have HX5:=hq_ hx5.lt;have HD1:=hq_ hD1;have HD2:=hq_ hD2;have HD3:=hq_ hD3;have HD4:=hq_ hD4;have HA5:=hq_ ((HA.out.mono b1_ (E':=fun q=>W'.heap.size≤q∧q<w5.heap.size) fun q hq=>.inr hq.1).ext b1_ hb5);have hz5:=hb5.size;clear hb5 hx6 hx5 hD1 hD2 hD3 hD4)
   clear q1 q3 q4 q5 q6 q7;obtain ⟨M,hM⟩:∃ M,M=linW (pre.map EntV.ent) a b:=⟨_,rfl⟩;rw [<- hM] at HA5 HL;have HM:=hq_ hM;clear hM;gi_loopw [12,29] (fun _ iv wq=>∃ (k:Nat) (lv2:Value),k≤D.length∧iv=.int .i64 k∧Hid (AccW 106 5 lenc (fun _ _ x=>LnI x) w (lnBs w a b) (w.heap.size+1+1+1) 100 (fun q=>W'.heap.size≤q∧q<w5.heap.size) lv2 (M ++ (D.take k).map (ai_ E)) wq)∧Hid (Bxx wq eb (entA id rk _ x1 s.cls.length d1 s.len x2 s.ext.length d2) 57)∧Hid (ExtL wq (fun q=>W'.heap.size≤q∧q<w5.heap.size) (.slice va D.length vc) D)∧Hid (KeepsOthers W' wq)∧Hid (KpB pb W' wq)∧w5.heap.size≤wq.heap.size) (fun _ iv _=>D.length-(intOf iv).toNat)
   case atStart=>exact ⟨0,lv,oq_,rfl,by rw [List.take_zero,List.map_nil,List.append_nil];exact HA5,HX6,HX5,hq_ (KeepsOthers.of_below HB5.out),hq_ (fun q hq=>HB5.out.block q (by have:=HPB.out q hq;omega)),Nat.le_refl _⟩
   case round=>
    obtain ⟨k,lv2,hk,rfl,HAQ,HXQ,HDQ,HKQ,HPQ,hwq⟩:=hrel;have hd1:=HD1.out;obtain ⟨oa,oc,rfl,-⟩:=HAQ.out.row.form;obtain ⟨O,hO⟩:∃ O,O=M ++ (D.take k).map (ai_ E):=⟨_,rfl⟩;rw [<- hO] at HAQ;have HOO:=hq_ hO;have hOl:O.length+1≤1000000:=by
     rw [hO,List.length_append,List.length_map,List.length_take];have h1:=HL.out;have h2:=HPR.out;have h3:=HD1.out;omega
    have HOL:=hq_ hOl;clear hO hOl;by_cases hlt:k<D.length
    ·have hlI:(k:Int)<D.length:=oq_;have HLT:=hq_ (show k+1≤D.length by omega);obtain ⟨b8,f8,y,rfl,hb8,hy,hyi,e0,e1,e2⟩:=HDQ.out.get hlt;have HMO:=hq_ (c1_ (f:=ai_ E) (d:=default) hlt);rw [hy] at HMO;have HYI:=hq_ hyi;have HAX:=hq_ (HAQ.out.ext b1_ (Ea (Er wr) (.cells #[.int .i64 y.day,.int .i64 y.frm,.int .i64 y.fin] 77)));have q0:=((HXQ.out.alloc (.cells #[.int .i64 y.day,.int .i64 y.frm,.int .i64 y.fin] 77)).cells 0).1;have q1:=(HAX.out.b6.cells 0).1;have hln:∀ kd:Int,InI kd->LnI ⟨y.frm,y.fin,kd,id,y.day⟩:=fun kd h=>⟨hyi.frm,hyi.fin,h,HID.out,hyi.day⟩;have HLN:=hq_ hln;have hbo:=HAQ.out.b6.lt;clear hy hyi hlt hln;gi_wp2_with (have HAZ:=hq_ (HAX.out.ext b1_ (Ea (Er _) (.cells #[.int .i64 y.frm,.int .i64 y.fin,.int .i64 1,.int .i64 id,.int .i64 y.day] 106)));refine bz_ rq_ _ _ _ _ rq_ iL _ 5 40 Tryz.underlying100 HIL.out.1 HIL.out.2.1 HIL.out.2.2.1 HIL.out.2.2.2 rfl dq_ dq_ w.heap.size (.slice oa O.length oc) O.length (O.flatMap lenc) (lenc ⟨y.frm,y.fin,1,id,y.day⟩) rfl rq_ HAZ.out.row.row (wr.heap.size+1) 1 rq_ (al_ (Bxx.at sq_)) (cj_ _) HOL.out (by have:=HAZ.out.below.size;exact this) ?_;intro v' w9 hown9 hgrow9 hloc9;obtain ⟨na,nc,rfl⟩:=a5_ hown9;have d2:=(HAZ.out.b6.grown hgrow9 fun e=>HAZ.out.row.ne _ e.symm (.inr (.inl rfl))).cells 0;have d3:=d2.1;have d4:=d2.2;have HP9:=hq_ (HAZ.out.push b1_ (y:=⟨y.frm,y.fin,1,id,y.day⟩) (HLN.out _ ⟨oq_,oq_⟩) hown9 hgrow9 hloc9 tq_ (by have:=HOL.out;omega));have HG9:=hq_ hgrow9;clear hown9 hgrow9 hloc9 d2)
     go_roundw
     case rel=>
      have hwq2:=HG9.out.size;have hsz4:=HSZ4.out;have hZ:Below wr.heap.size wr ((wr.alloc (.cells #[.int .i64 y.day,.int .i64 y.frm,.int .i64 y.fin] 77)).alloc (.cells #[.int .i64 y.frm,.int .i64 y.fin,.int .i64 1,.int .i64 id,.int .i64 y.day] 106)):=by exact xE
      have hK9:=(KeepsOthers.grown_cells (KeepsOthers.of_below hZ) HG9.out HAZ.out.row.cells).trans (KeepsOthers.setCell w9 ⟨w.heap.size+1+1+1,0,none⟩ (.slice na (O.length+1) nc));have hkp:∀ q,q<w.heap.size∨(W'.heap.size≤q∧q<w5.heap.size)->(w9.setCell ⟨w.heap.size+1+1+1,0,none⟩ (.slice na (O.length+1) nc)).heap[q]? = wr.heap[q]?:=fun q hq=>(HAZ.out.kept HG9.out (k:=q) tq_ (hq.elim .inl fun h=>.inr (.inr h)) oq_).trans (hZ.block q oq_);have hbz:=HXQ.out.below hZ;have hz9:wr.heap.size≤(w9.setCell ⟨w.heap.size+1+1+1,0,none⟩ (.slice na (O.length+1) nc)).heap.size:=by rw [World.size_setCell];exact Nat.le_trans hZ.size HG9.out.size
      have hle:ai_ E y=⟨y.frm,y.fin,1,id,y.day⟩:=by rw [HEE.out];rfl
      exact ⟨k+1,_,HLT.out,by go_num,hq_ (by rw [HMO.out,<- List.append_assoc,<- HOO.out,hle];exact HP9.out),hq_ ((hbz.grown HG9.out fun e=>HAZ.out.row.neBox hbz dq_ e.symm).setNe _ oq_),hq_ (HDQ.out.keep (fun q hq _=>hkp q (.inr hq)) hz9),hq_ (HKQ.out.trans hK9),hq_ (fun q hq=>(hkp q (.inl (HPB.out q hq))).trans (HPQ.out q hq)),Nat.le_trans hwq hz9⟩
     case measure=>have:=HLT.out;simp [intOf];omega
    ·obtain rfl:k=D.length:=oq_;have hkI:¬ (D.length:Int)<D.length:=oq_;gi_wp2_with fail
     have hsn:linW (pre.map EntV.ent ++ [E]) a b=M ++ D.map (ai_ E):=by rw [HM.out];exact f2_ (fun h=>by rw [HEE.out];exact HD2.out h) (fun h=>HD3.out oq_)
     have hA9:=HAQ.out;have hl9:(linW (pre.map EntV.ent ++ [E]) a b).length≤100*(pre.length+1):=by
      have h1:=HL.out;have h2:=HD1.out;rw [hsn,List.length_append,List.length_map];omega
     have hw9:a<b->∀ e∈pre.map EntV.ent ++ [E],∃ D,au_ e.s a b D:=fun hlt e he=>by
      rcases List.mem_append.1 he with he|he
      ·exact HWN.out hlt e he
      ·rw [List.mem_singleton.1 he,HEE.out];exact ⟨D,HD2.out hlt⟩
     rw [HOO.out,List.take_length,<- hsn] at hA9;rw [HEE.out] at hA9 hl9 hw9;have hpe:((pre ++ [⟨id,false,rk,.slice x1 s.cls.length d1,.slice x2 s.ext.length d2,s⟩]:List EntV)).map EntV.ent=pre.map EntV.ent ++ [⟨id,false,rk,s⟩]:=by rw [List.map_append];rfl
     rw [<- hpe] at hA9;refine ⟨HKQ.out.from _,HPQ.out,⟨_,hA9.mono b1_ fun q hq=>hq.elim⟩,?_,?_,HKO.out.trans HKQ.out⟩
     ·exact hq_ (by rw [hpe,List.length_append];exact hl9)
     ·exact hq_ fun hlt y hy=>hw9 hlt y.ent (by rw [<- hpe];exact List.mem_map.2 ⟨y,hy,rfl⟩)
  ·
   gi_wp2_with (refine ⟨trivial,rfl,?_⟩;gi_at_call 31;refine (CallsIn.inRound l (callsIn_wide.2 HLI.out)).mono ?_;rintro e w5 ⟨v,D,rfl,hb5,hx5,hD1,hD2,hD3,hD4⟩;obtain ⟨va,vc,rfl⟩:=hx5.form;have HB5:=hq_ hb5;have hx6:=HBX.out.below hb5;have q1:=(hx6.cells 1).1;have HX6:=hq_ hx6;have HX5:=hq_ hx5.lt;have HD1:=hq_ hD1;have HD2:=hq_ hD2;have HD3:=hq_ hD3;have HD4:=hq_ hD4;have HA5:=hq_ ((HA.out.mono b1_ (E':=fun q=>W'.heap.size≤q∧q<w5.heap.size) fun q hq=>.inr hq.1).ext b1_ hb5);have hz5:=hb5.size;clear hb5 hx6 hx5 hD1 hD2 hD3 hD4)
   clear q1 q3 q4 q5 q6 q7;obtain ⟨M,hM⟩:∃ M,M=linW (pre.map EntV.ent) a b:=⟨_,rfl⟩;rw [<- hM] at HA5 HL;have HM:=hq_ hM;clear hM;gi_loopw [12,29] (fun _ iv wq=>∃ (k:Nat) (lv2:Value),k≤D.length∧iv=.int .i64 k∧Hid (AccW 106 5 lenc (fun _ _ x=>LnI x) w (lnBs w a b) (w.heap.size+1+1+1) 100 (fun q=>W'.heap.size≤q∧q<w5.heap.size) lv2 (M ++ (D.take k).map (ai_ E)) wq)∧Hid (Bxx wq eb (entA id rk _ x1 s.cls.length d1 s.len x2 s.ext.length d2) 57)∧Hid (ExtL wq (fun q=>W'.heap.size≤q∧q<w5.heap.size) (.slice va D.length vc) D)∧Hid (KeepsOthers W' wq)∧Hid (KpB pb W' wq)∧w5.heap.size≤wq.heap.size) (fun _ iv _=>D.length-(intOf iv).toNat)
   case atStart=>exact ⟨0,lv,oq_,rfl,by rw [List.take_zero,List.map_nil,List.append_nil];exact HA5,HX6,HX5,hq_ (KeepsOthers.of_below HB5.out),hq_ (fun q hq=>HB5.out.block q (by have:=HPB.out q hq;omega)),Nat.le_refl _⟩
   case round=>
    obtain ⟨k,lv2,hk,rfl,HAQ,HXQ,HDQ,HKQ,HPQ,hwq⟩:=hrel;have hd1:=HD1.out;obtain ⟨oa,oc,rfl,-⟩:=HAQ.out.row.form;obtain ⟨O,hO⟩:∃ O,O=M ++ (D.take k).map (ai_ E):=⟨_,rfl⟩;rw [<- hO] at HAQ;have HOO:=hq_ hO;have hOl:O.length+1≤1000000:=by
     rw [hO,List.length_append,List.length_map,List.length_take];have h1:=HL.out;have h2:=HPR.out;have h3:=HD1.out;omega
    have HOL:=hq_ hOl;clear hO hOl;by_cases hlt:k<D.length
    ·have hlI:(k:Int)<D.length:=oq_;have HLT:=hq_ (show k+1≤D.length by omega);obtain ⟨b8,f8,y,rfl,hb8,hy,hyi,e0,e1,e2⟩:=HDQ.out.get hlt;have HMO:=hq_ (c1_ (f:=ai_ E) (d:=default) hlt);rw [hy] at HMO;have HYI:=hq_ hyi;have HAX:=hq_ (HAQ.out.ext b1_ (Ea (Er wr) (.cells #[.int .i64 y.day,.int .i64 y.frm,.int .i64 y.fin] 77)));have q0:=((HXQ.out.alloc (.cells #[.int .i64 y.day,.int .i64 y.frm,.int .i64 y.fin] 77)).cells 0).1;have q1:=(HAX.out.b6.cells 0).1;have hln:∀ kd:Int,InI kd->LnI ⟨y.frm,y.fin,kd,id,y.day⟩:=fun kd h=>⟨hyi.frm,hyi.fin,h,HID.out,hyi.day⟩;have HLN:=hq_ hln;have hbo:=HAQ.out.b6.lt;clear hy hyi hlt hln;gi_wp2_with (have HAZ:=hq_ (HAX.out.ext b1_ (Ea (Er _) (.cells #[.int .i64 y.frm,.int .i64 y.fin,.int .i64 2,.int .i64 id,.int .i64 y.day] 106)));refine bz_ rq_ _ _ _ _ rq_ iL _ 5 40 Tryz.underlying100 HIL.out.1 HIL.out.2.1 HIL.out.2.2.1 HIL.out.2.2.2 rfl dq_ dq_ w.heap.size (.slice oa O.length oc) O.length (O.flatMap lenc) (lenc ⟨y.frm,y.fin,2,id,y.day⟩) rfl rq_ HAZ.out.row.row (wr.heap.size+1) 1 rq_ (al_ (Bxx.at sq_)) (cj_ _) HOL.out (by have:=HAZ.out.below.size;exact this) ?_;intro v' w9 hown9 hgrow9 hloc9;obtain ⟨na,nc,rfl⟩:=a5_ hown9;have d2:=(HAZ.out.b6.grown hgrow9 fun e=>HAZ.out.row.ne _ e.symm (.inr (.inl rfl))).cells 0;have d3:=d2.1;have d4:=d2.2;have HP9:=hq_ (HAZ.out.push b1_ (y:=⟨y.frm,y.fin,2,id,y.day⟩) (HLN.out _ ⟨oq_,oq_⟩) hown9 hgrow9 hloc9 tq_ (by have:=HOL.out;omega));have HG9:=hq_ hgrow9;clear hown9 hgrow9 hloc9 d2)
     go_roundw
     case rel=>
      have hwq2:=HG9.out.size;have hsz4:=HSZ4.out;have hZ:Below wr.heap.size wr ((wr.alloc (.cells #[.int .i64 y.day,.int .i64 y.frm,.int .i64 y.fin] 77)).alloc (.cells #[.int .i64 y.frm,.int .i64 y.fin,.int .i64 2,.int .i64 id,.int .i64 y.day] 106)):=by exact xE
      have hK9:=(KeepsOthers.grown_cells (KeepsOthers.of_below hZ) HG9.out HAZ.out.row.cells).trans (KeepsOthers.setCell w9 ⟨w.heap.size+1+1+1,0,none⟩ (.slice na (O.length+1) nc));have hkp:∀ q,q<w.heap.size∨(W'.heap.size≤q∧q<w5.heap.size)->(w9.setCell ⟨w.heap.size+1+1+1,0,none⟩ (.slice na (O.length+1) nc)).heap[q]? = wr.heap[q]?:=fun q hq=>(HAZ.out.kept HG9.out (k:=q) tq_ (hq.elim .inl fun h=>.inr (.inr h)) oq_).trans (hZ.block q oq_);have hbz:=HXQ.out.below hZ;have hz9:wr.heap.size≤(w9.setCell ⟨w.heap.size+1+1+1,0,none⟩ (.slice na (O.length+1) nc)).heap.size:=by rw [World.size_setCell];exact Nat.le_trans hZ.size HG9.out.size
      have hle:ai_ E y=⟨y.frm,y.fin,2,id,y.day⟩:=by rw [HEE.out];rfl
      exact ⟨k+1,_,HLT.out,by go_num,hq_ (by rw [HMO.out,<- List.append_assoc,<- HOO.out,hle];exact HP9.out),hq_ ((hbz.grown HG9.out fun e=>HAZ.out.row.neBox hbz dq_ e.symm).setNe _ oq_),hq_ (HDQ.out.keep (fun q hq _=>hkp q (.inr hq)) hz9),hq_ (HKQ.out.trans hK9),hq_ (fun q hq=>(hkp q (.inl (HPB.out q hq))).trans (HPQ.out q hq)),Nat.le_trans hwq hz9⟩
     case measure=>have:=HLT.out;simp [intOf];omega
    ·obtain rfl:k=D.length:=oq_;have hkI:¬ (D.length:Int)<D.length:=oq_;gi_wp2_with fail
     have hsn:linW (pre.map EntV.ent ++ [E]) a b=M ++ D.map (ai_ E):=by rw [HM.out];exact f2_ (fun h=>by rw [HEE.out];exact HD2.out h) (fun h=>HD3.out oq_)
     have hA9:=HAQ.out;have hl9:(linW (pre.map EntV.ent ++ [E]) a b).length≤100*(pre.length+1):=by
      have h1:=HL.out;have h2:=HD1.out;rw [hsn,List.length_append,List.length_map];omega
     have hw9:a<b->∀ e∈pre.map EntV.ent ++ [E],∃ D,au_ e.s a b D:=fun hlt e he=>by
      rcases List.mem_append.1 he with he|he
      ·exact HWN.out hlt e he
      ·rw [List.mem_singleton.1 he,HEE.out];exact ⟨D,HD2.out hlt⟩
     rw [HOO.out,List.take_length,<- hsn] at hA9;rw [HEE.out] at hA9 hl9 hw9;have hpe:((pre ++ [⟨id,true,rk,.slice x1 s.cls.length d1,.slice x2 s.ext.length d2,s⟩]:List EntV)).map EntV.ent=pre.map EntV.ent ++ [⟨id,true,rk,s⟩]:=by rw [List.map_append];rfl
     rw [<- hpe] at hA9;refine ⟨HKQ.out.from _,HPQ.out,⟨_,hA9.mono b1_ fun q hq=>hq.elim⟩,?_,?_,HKO.out.trans HKQ.out⟩
     ·exact hq_ (by rw [hpe,List.length_append];exact hl9)
     ·exact hq_ fun hlt y hy=>hw9 hlt y.ent (by rw [<- hpe];exact List.mem_map.2 ⟨y,hy,rfl⟩)
 case done=>
  rintro D xs W' hD rfl ⟨lv,hA,HL,HWN,hKO⟩ hdef;have HM:Hid (aj_ w.heap.size [{ target:=.collected D,args:=#[] }] W'):=hq_ (bt_ oq_ hdef);have q1:=(hA.b6.cells 0).1;have z1:=hA.b1.cells 0;have z2:=hA.b2.cells 0;have z3:=z1.1;have z4:=z1.2;have z5:=z2.1;have z6:=z2.2;have hws2:=hA.below.size;have h5:=hA.b1.lt;have h6:=hA.b6.lt;have HA:=hq_ hA;obtain ⟨R,hR⟩:∃ R,R=linW (xs.map EntV.ent) a b:=⟨_,rfl⟩;rw [<- hR] at HA HL;have HR:=hq_ hR;obtain ⟨oa,oc,rfl,-⟩:=HA.out.row.form;clear hA hKO hdef z1 z2 hR;gi_wp2_with fail
  have hn1:=HA.out.row.ne;have hrow:=((HA.out.row.setO (q:=w.heap.size+1) (i:=0) (.slice oa R.length oc) (fun e=>hn1 _ e (.inl ⟨_,List.mem_cons_of_mem _ (List.mem_cons_self ..),rfl⟩))).setO (q:=w.heap.size+1+1) (i:=0) (.int .i64 0) (fun e=>hn1 _ e (.inl ⟨_,List.mem_cons_of_mem _ (List.mem_cons_of_mem _ (List.mem_cons_self ..)),rfl⟩)));refine ah_ (B:=w.heap.size) _ _ (HM.out.keep (((KeepsOthers.setCell W' ⟨w.heap.size+1,0,none⟩ (.slice oa R.length oc)).trans (KeepsOthers.setCell _ ⟨w.heap.size+1+1,0,none⟩ (.int .i64 0))).from _)) fun w' hs=>?_;have hb1:=Bxx.setNe (t:=100) (c:=#[.slice oa R.length oc]) (k:=w.heap.size+1+1) (i:=0) (a0_ 0 (.slice oa R.length oc) HA.out.b1) (.int .i64 0) sq_;have hb2:=a0_ 0 (.int .i64 0) (HA.out.b2.setNe (k:=w.heap.size+1) (i:=0) (.slice oa R.length oc) sq_);have hc1:=Bxx.c0 (hs.cells _ _ hb1 rfl);have hc2:=Bxx.c0 (hs.cells _ _ hb2 rfl);refine ⟨.tuple #[.slice oa R.length oc,.int .i64 0],by simp [results,Tryz.results54,go_sem,hc1,hc2],.slice oa R.length oc,rfl,?_,by rw [<- HR.out];exact HL.out,HWN.out,((HA.out.below.setCell (p:=⟨w.heap.size+1,0,none⟩) sq_ _).setCell (p:=⟨w.heap.size+1+1,0,none⟩) tq_ _).trans hs.below⟩;rw [<- HR.out];exact (hrow.shut hs).mono b1_ fun k hk=>hk.elim
 case stop=>
  intro D' c' pre W' hD' h;exact h.elim
end Go.Proofs.YtkclokcenllhmaaGreat
namespace Kal
structure AtD (d:List Ent) (m:Int) (k:Nat) (b:Bool):Prop where
 le:k≤d.length
 lo:∀ t,t<k->(d.getD t default).id<m
 hi:∀ t,k≤t->t<d.length->m≤(d.getD t default).id
 at_:b=true↔k<d.length∧(d.getD k default).id=m
section
variable {d:List Ent} {m:Int} {k:Nat} {b:Bool} {e:Ent}
theorem AtD.gt (h:AtD d m k b) (ha:AscD d) {t:Nat} (h1:k<t) (h2:t<d.length):m<(d.getD t default).id:=by
 have h3:=h.hi k (Nat.le_refl _) oq_;have h4:=List.pairwise_iff_getElem.1 ha k t oq_ h2 h1;rw [<- a6_ (d:=default),<- a6_ (d:=default)] at h4;omega
theorem AtD.iff (h:AtD d m k b) (ha:AscD d) {t:Nat} (ht:t<d.length):(d.getD t default).id=m↔t=k∧b=true:=by
 constructor
 ·intro e;rcases Nat.lt_trichotomy t k with g|g|g
  ·have:=h.lo t g;omega
  ·subst g;exact ⟨rfl,h.at_.2 ⟨ht,e⟩⟩
  ·have:=h.gt ha g ht;omega
 ·rintro ⟨rfl,hb⟩;exact (h.at_.1 hb).2
theorem fi_ {α:Type} {l:List α} {p:α->Bool} {d:α} (h:∀ t,t<l.length->p (l.getD t d)=true):l.filter p=l:=List.filter_eq_self.2 fun x hx=>by
 obtain ⟨t,ht,rfl⟩:=b6_ (d:=d) hx;exact h t ht
theorem filter_none {α:Type} {l:List α} {p:α->Bool} {d:α} (h:∀ t,t<l.length->p (l.getD t d)=false):l.filter p=[]:=List.filter_eq_nil_iff.2 fun x hx=>by
 obtain ⟨t,ht,rfl⟩:=b6_ (d:=d) hx;rw [h t ht];simp
theorem getD_take {α:Type} {l:List α} {k t:Nat} {d:α} (h:t<k):(l.take k).getD t d=l.getD t d:=by
 rw [List.getD_eq_getElem?_getD,List.getD_eq_getElem?_getD,List.getElem?_take,if_pos h]
theorem getD_drop {α:Type} {l:List α} {k t:Nat} {d:α}:(l.drop k).getD t d=l.getD (k+t) d:=by
 rw [List.getD_eq_getElem?_getD,List.getD_eq_getElem?_getD,List.getElem?_drop]
theorem AtD.put (h:AtD d e.id k b) (ha:AscD d):putD d e=d.take k ++ e :: d.drop (if b then k+1 else k):=by
 have e1:d.filter (fun x=>decide (x.id<e.id))=d.take k:=by
  conv=>lhs;rw [<- List.take_append_drop k d]
  rw [List.filter_append,fi_ (d:=default) (l:=d.take k) fun t ht=>?p,filter_none (d:=default) (l:=d.drop k) fun t ht=>?q,List.append_nil]
  case p=>
   rw [List.length_take] at ht;rw [getD_take oq_];exact decide_eq_true (h.lo t oq_)
  case q=>
   rw [List.length_drop] at ht;rw [getD_drop];have:=h.hi (k+t) oq_ oq_;exact decide_eq_false oq_
 have e2:d.filter (fun x=>decide (e.id<x.id))=d.drop (if b then k+1 else k):=by
  have hk:(if b then k+1 else k)≤d.length:=by
   split
   ·rename_i hb;exact (h.at_.1 hb).1
   ·exact h.le
  conv=>lhs;rw [<- List.take_append_drop (if b then k+1 else k) d]
  rw [List.filter_append,filter_none (d:=default) (l:=d.take (if b then k+1 else k)) fun t ht=>?p2,fi_ (d:=default) (l:=d.drop (if b then k+1 else k)) fun t ht=>?q2,List.nil_append]
  case p2=>
   rw [List.length_take] at ht;rw [getD_take oq_];have hle:(d.getD t default).id≤e.id:=by
    by_cases g:t<k
    ·have:=h.lo t g;omega
    ·cases b with
     | true=>
      have h2:=h.at_.1 rfl;have:t=k:=by simp at ht;omega
      subst this;omega
     | false=>simp at ht;omega
   exact decide_eq_false oq_
  case q2=>
   rw [List.length_drop] at ht;rw [getD_drop];have hlt:e.id<(d.getD ((if b then k+1 else k)+t) default).id:=by
    cases b with
    | true=>exact h.gt ha tq_ oq_
    | false=>
     simp only [Bool.false_eq_true,if_false] at *;have h1:=h.hi (k+t) oq_ oq_;have h2:¬ (d.getD (k+t) default).id=e.id:=fun g=>by
      have:=((h.iff ha oq_).1 g).2;cases this
     omega
   exact decide_eq_true hlt
 unfold putD;rw [e1,e2]
theorem AtD.set (h:AtD d e.id k true) (ha:AscD d):putD d e=d.set k e:=by
 have hk:=(h.at_.1 rfl).1;rw [h.put ha,List.set_eq_take_append_cons_drop,if_pos hk];rfl
end
end Kal
section
variable {a b f x y:Int}{l:List Int}{B i j k n:Nat}{v:Go.Value}{W:Go.World}
namespace Go.Proofs.YtkclokcenllhmaaGreat
open Go.RowKit Go.Maps Kal
noncomputable def hm_ (e:Ent):Bool:=decide (1≤e.id) && (decide (e.id≤1099511627776) && (decide (0≤e.rank) && (decide (e.rank≤100) && et_ ak_ e.s)))
theorem gy_ {e:Ent}:hm_ e=true↔e9_ ak_ e:=by
 unfold hm_;simp only [Bool.and_eq_true,decide_eq_true_eq,ca_];exact ⟨fun ⟨h1,h2,h3,h4,h5⟩=>⟨⟨h1,h2⟩,⟨h3,h4⟩,h5⟩,fun ⟨⟨h1,h2⟩,⟨h3,h4⟩,h5⟩=>⟨h1,h2,h3,h4,h5⟩⟩
theorem gb_ (F:Nat->Prop) (x:EntV) (w:World) (h:REnt w F x) :
  Calls Tryz.prog 65 #[x.val] w fun e w'=>e=.returned (.bool (hm_ x.ent))∧Below w.heap.size w w':=by
 have HV:=fun W (hb:Below w.heap.size w W)=>cq_ F x.cv x.ev x.s W (h.1.ext hb);obtain ⟨a1,c1,a2,c2,e1,e2⟩:=h.1.form;obtain ⟨id,fm,rank,cv,ev,s⟩:=x;dsimp only at e1 e2 HV;subst e1;subst e2;unfold EntV.ent hm_;dsimp only;generalize et_ ak_ s=bv at *;have HV:=hq_ (HV _ (Ea (Er w) (.cells #[.int .i64 id,.bool fm,.int .i64 rank,.slice a1 s.cls.length c1,.int .i64 s.len,.slice a2 s.ext.length c2] 57)));clear h;show Calls _ _ #[.agg #[.int .i64 id,.bool fm,.int .i64 rank,.slice a1 s.cls.length c1,.int .i64 s.len,.slice a2 s.ext.length c2]] _ _;by_cases h1:1≤id
 ·by_cases h2:id≤1099511627776
  ·by_cases h3:0≤rank
   ·by_cases h4:rank≤100
    ·go_enter Tryz.func65,Tryz.ntmps65
     go_wp2_with (go_at_call 75;refine HV.out.mono ?_;rintro e w1 ⟨rfl,hb1⟩;have HB1:=hq_ (Et (Ea (Er w) _) hb1);clear hb1)
     go_ret;exact ⟨a1_ (by simp [h1,h2,h3,h4]),HB1.out⟩
    ·go_enter Tryz.func65,Tryz.ntmps65
     go_wp2;go_ret;exact ⟨a1_ (by first|(simp [h4];done)|(simp;intros;omega)),xE⟩
   ·go_enter Tryz.func65,Tryz.ntmps65
    go_wp2;go_ret;exact ⟨a1_ (by first|(simp [h3];done)|(simp;intros;omega)),xE⟩
  ·go_enter Tryz.func65,Tryz.ntmps65
   go_wp2;go_ret;exact ⟨a1_ (by first|(simp [h2];done)|(simp;intros;omega)),xE⟩
 ·go_enter Tryz.func65,Tryz.ntmps65
  go_wp2;go_ret;exact ⟨a1_ (by first|(simp [h1];done)|(simp;intros;omega)),xE⟩
def qx_ (d:List Ent) (i:Nat):Prop:=hm_ (d.getD i default)=true∧∀ j,i=j+1->(d.getD j default).id<(d.getD i default).id
structure gp_ (d:List Ent):Prop where
 len:d.length≤4096
 all:∀ i,i<d.length->qx_ d i
open Classical in
noncomputable def ha_ (d:List Ent):Bool:=decide (gp_ d)
theorem c9_ {d:List Ent}:ha_ d=true↔gp_ d:=by simp [ha_]
theorem hb_ {d:List Ent} (h:¬ gp_ d):ha_ d=false:=by simp [ha_,h]
theorem ta_ {d:List Ent} (h1:d.length≤4096) (h2:∀ e∈d,e9_ ak_ e) (h3:AscD d):gp_ d:=
 ⟨h1,fun i hi=>⟨by rw [a6_ hi];exact gy_.2 (h2 _ (List.getElem_mem hi)),fun j e=>by
  subst e;rw [a6_ hi,a6_ (show j<d.length by omega)];exact List.pairwise_iff_getElem.1 h3 j (j+1) oq_ hi oq_⟩⟩
theorem SmD.valid {d:List Ent} (h:SmD d):gp_ d:=ta_ (by have:=h.len;omega) (fun e he=>(h.good e he).1) h.asc
theorem cp_ (F:Nat->Prop) (v:Value) (L:List EntV) (w:World) (h:DiaL w F v L) :
  Calls Tryz.prog 40 #[v] w fun e w'=>e=.returned (.bool (ha_ (L.map EntV.ent)))∧Below w.heap.size w w':=by
 obtain ⟨a0,c0,rfl⟩:=h.form;have hll:=h.len;have hml:(L.map EntV.ent).length=L.length:=List.length_map _;have HML:=hq_ hml;have HD:=hq_ h;clear h hml;by_cases hbig:4096<L.length
 ·have hbI:(4096:Int)<L.length:=oq_
  go_enter Tryz.func40,Tryz.ntmps40
  go_wp2;go_ret;exact ⟨a1_ (hb_ fun g=>by have:=g.len;rw [HML.out] at this;omega).symm,xE⟩
 have hbI:¬ (4096:Int)<L.length:=oq_
 go_enter Tryz.func40,Tryz.ntmps40
 go_wp2_with fail
 go_loopw [3,4,10] (fun _ _ iv wr=>∃ k:Nat,k≤L.length∧iv=.int .i64 k∧Hid (∀ j,j<k->qx_ (L.map EntV.ent) j)∧Hid (Below w.heap.size w wr)) (fun _ _ iv _=>L.length-(intOf iv).toNat)
 case atStart=>exact ⟨0,oq_,rfl,hq_ (by intro j hj;omega),hq_ (Below.refl _ _)⟩
 case round=>
  obtain ⟨k,hk,rfl,HK,HB⟩:=hrel;by_cases hlt:k<L.length
  ·have hlI:(k:Int)<L.length:=oq_;obtain ⟨b,o,x,x1,d1,x2,d2,rfl,hbb,hx,hxm,hxr,hcv,hev,e0,e1,e2,e3,e4,e5⟩:=(HD.out.ext HB.out).get hlt;have hgx:(L.map EntV.ent).getD k default=x.ent:=by rw [<- hx,List.getD_eq_getElem?_getD,List.getElem?_map,List.getD_eq_getElem?_getD,List.getElem?_eq_getElem hlt];rfl
   have HPM:Hid (∀ j,k=j+1->∃ pm,wr.cell? ⟨b,o+j*6,none⟩=some (.int .i64 pm)∧((L.map EntV.ent).getD j default).id=pm):=hq_ fun j hj=>by
    have hj2:j<L.length:=oq_;obtain ⟨b',o',y,_,_,_,_,hbo,_,hy,_,_,_,_,g0,_⟩:=(HD.out.ext HB.out).get hj2;injection hbo with hbo
    injection hbo with q1 q2
    subst q1 q2;exact ⟨y.id,g0,by rw [<- hy,List.getD_eq_getElem?_getD,List.getElem?_map,List.getD_eq_getElem?_getD,List.getElem?_eq_getElem hj2];rfl⟩
   have HGX:=hq_ hgx;have hval:x.val=.agg #[.int .i64 x.id,.bool x.firm,.int .i64 x.rank,.slice x1 x.s.cls.length d1,.int .i64 x.s.len,.slice x2 x.s.ext.length d2]:=by rw [EntV.val,hcv,hev]
   have HVAL:=hq_ hval;have HXR:=hq_ hxr;have HXI:Hid (x.ent.id=x.id):=hq_ rfl;clear hgx hcv hev hxm hx;go_upto_region 6 with (fail)
   generalize hW:wr.alloc _=w2;have hE2:Below wr.heap.size wr w2:=by rw [<- hW];exact xE
   have hbx:Bxx w2 wr.heap.size #[.int .i64 x.id,.bool x.firm,.int .i64 x.rank,.slice x1 x.s.cls.length d1,.int .i64 x.s.len,.slice x2 x.s.ext.length d2] 57:=by rw [<- hW];exact Bxx.at rfl
   have x0:=(hbx.cells 0).1;have y1:=(hbx.cells 1).1;have y2:=(hbx.cells 2).1;have y3:=(hbx.cells 3).1;have y4:=(hbx.cells 4).1;have y5:=(hbx.cells 5).1;have HV:=fun W (g:Below w2.heap.size w2 W)=>gb_ F x W ((hxr.ext hE2).ext g);rw [hval] at HV;have HE:=hq_ (Et HB.out hE2);have HE2:=hq_ hE2;clear hW hbx hxr e0 e1 e2 e3 e4 e5 hE2 hval;cases hg:hm_ x.ent with
   | false=>
    rw [hg] at HV;have HG:=hq_ hg;clear hg;refine a9_ (w0:=w2) [0,1,2,3,4,5,6,7,8,9,10,11,12,13,14,15,16,17] [] [15,16,17,18,19,20,21,22,23,24,25,26,27,28,29,30,31,32] [.agg #[.int .i64 x.id,.bool x.firm,.int .i64 x.rank,.slice x1 x.s.cls.length d1,.int .i64 x.s.len,.slice x2 x.s.ext.length d2],.bool false,.bool true,.bool true,undef,undef,undef,undef,undef,undef,undef,undef,undef,undef,undef,undef,undef,.bool true] [[],[0],[1],[2],[3],[3,4],[3,5],[6],[6],[6,8],[6,7,9],[6,10],[6,11],[6],[6,13],[6,12,14],[3,6,15],[3,16]] (.a x0 (.a y1 (.a y2 (.a y3 (.a y4 (.a y5 (.b))))))) ?steps ?fin
    case steps=>
     repeat' first|exact .n|refine .c ?_ ?_|fail
     all_goals try exact stp
     all_goals
      rintro v W hb ⟨g0,g1,g2,g3,g4,g5,g6⟩;refine .inl ⟨rfl,fun K hK=>?_⟩;simp only [ov,vat,Nat.reduceBEq,cond_true,cond_false];go_wp2_with (go_at_call 65;(with_reducible refine (HV _ g6).mono ?_);rintro e w9 ⟨rfl,hb9⟩)
      exact acx (hK w9 hb9) (by simp [ov,vat])
    case fin=>
     rintro W3 hb3 ⟨g0,g1,g2,g3,g4,g5,g6⟩;show wpList _ _ _ [] _ _;simp only [vat];go_wp2_with fail
     go_ret;refine ⟨a1_ (hb_ fun g=>?_).symm,Et HE.out hb3⟩;have g3:=(g.all k (by rw [HML.out];omega)).1;rw [HGX.out,HG.out] at g3;cases g3
   | true=>
    rw [hg] at HV;have HG:=hq_ hg;clear hg;rcases Nat.eq_zero_or_pos k with rfl|hpos
    ·
     refine a9_ (w0:=w2) [0,1,2,3,4,5,6,7,8,9,10,11,12,13,14,15,16,17] [] [15,16,17,18,19,20,21,22,23,24,25,26,27,28,29,30,31,32] [.agg #[.int .i64 x.id,.bool x.firm,.int .i64 x.rank,.slice x1 x.s.cls.length d1,.int .i64 x.s.len,.slice x2 x.s.ext.length d2],.bool true,.bool false,.bool false,.int .i64 0,.bool false,.bool false,undef,undef,undef,undef,undef,undef,undef,undef,undef,.bool false,.bool false] [[],[0],[1],[2],[3],[3,4],[3,5],[6],[6],[6,8],[6,7,9],[6,10],[6,11],[6],[6,13],[6,12,14],[3,6,15],[3,16]] (.a x0 (.a y1 (.a y2 (.a y3 (.a y4 (.a y5 (.b))))))) ?steps ?fin
     case steps=>
      repeat' first|exact .n|refine .c ?_ ?_|fail
      all_goals try exact stp
      all_goals
       rintro v W hb ⟨g0,g1,g2,g3,g4,g5,g6⟩;refine .inl ⟨rfl,fun K hK=>?_⟩;simp only [ov,vat,Nat.reduceBEq,cond_true,cond_false];go_wp2_with (go_at_call 65;(with_reducible refine (HV _ g6).mono ?_);rintro e w9 ⟨rfl,hb9⟩)
       exact acx (hK w9 hb9) (by simp [ov,vat])
     case fin=>
      rintro W3 hb3 ⟨g0,g1,g2,g3,g4,g5,g6⟩;show wpList _ _ _ [] _ _;simp only [vat];go_wp2_with fail
      go_roundw
      case rel=>
       refine ⟨1,oq_,by go_num,hq_ fun j hj=>?_,hq_ (Et HE.out hb3)⟩;obtain rfl:j=0:=oq_;exact ⟨by rw [HGX.out];exact HG.out,fun j e=>oq_⟩
      case measure=>simp [intOf];omega
    ·obtain ⟨j,rfl⟩:∃ j,k=j+1:=⟨k-1,oq_⟩;obtain ⟨pm,p1,hpm⟩:=HPM.out j rfl;have p1:=Ext.cell HE2.out p1;have HPM2:=hq_ hpm;clear hpm;obtain ⟨bd,hbd⟩:∃ bd,decide (x.id≤pm)=bd:=⟨_,rfl⟩;rw [show (((j+1:Nat)):Int)=(j:Int)+1 from rfl];refine a9_ (w0:=w2) [0,1,2,3,4,5,6,7,8,9,10,11,12,13,14,15,16,17] [] [15,16,17,18,19,20,21,22,23,24,25,26,27,28,29,30,31,32] [.agg #[.int .i64 x.id,.bool x.firm,.int .i64 x.rank,.slice x1 x.s.cls.length d1,.int .i64 x.s.len,.slice x2 x.s.ext.length d2],.bool true,.bool false,.bool false,.int .i64 ((j:Int)+1),.bool true,.bool true,.slice (some ⟨b,o,none⟩) L.length c0,.int .i64 ((j:Int)+1),.int .i64 (j:Int),.pointer (some ⟨b,o+j*6,none⟩),.pointer (some ⟨b,o+j*6,none⟩),.int .i64 pm,.pointer (some ⟨wr.heap.size,0,none⟩),.int .i64 x.id,.bool bd,.bool bd,.bool bd] [[],[0],[1],[2],[3],[3,4],[3,5],[6],[6],[6,8],[6,7,9],[6,10],[6,11],[6],[6,13],[6,12,14],[3,6,15],[3,16]] (.a p1 (.a x0 (.a y1 (.a y2 (.a y3 (.a y4 (.a y5 (.b)))))))) ?steps ?fin
     case steps=>
      repeat' first|exact .n|refine .c ?_ ?_|fail
      all_goals try exact stp
      all_goals
       rintro v W hb ⟨g7,g0,g1,g2,g3,g4,g5,g6⟩;refine .inl ⟨rfl,fun K hK=>?_⟩;simp only [ov,vat,Nat.reduceBEq,cond_true,cond_false];go_wp2_with (go_at_call 65;(with_reducible refine (HV _ g6).mono ?_);rintro e w9 ⟨rfl,hb9⟩)
       exact acx (hK w9 hb9) (by simp [ov,vat])
     case fin=>
      rintro W3 hb3 ⟨g7,g0,g1,g2,g3,g4,g5,g6⟩;show wpList _ _ _ [] _ _;simp only [vat];have HBD:=hq_ hbd;clear hbd;cases bd
      ·go_wp2_with fail
       go_roundw
       case rel=>
        refine ⟨j+1+1,oq_,by go_num,hq_ fun i hi=>?_,hq_ (Et HE.out hb3)⟩;by_cases hij:i<j+1
        ·exact HK.out i hij
        ·obtain rfl:i=j+1:=oq_;refine ⟨by rw [HGX.out];exact HG.out,fun j' e=>?_⟩;obtain rfl:j'=j:=oq_;rw [HGX.out,HPM2.out];have:=of_decide_eq_false HBD.out;show pm<x.id;omega
       case measure=>simp [intOf];omega
      ·go_wp2_with fail
       go_ret;refine ⟨a1_ (hb_ fun g=>?_).symm,Et HE.out hb3⟩;have g3:=(g.all (j+1) (by rw [HML.out];omega)).2 j rfl;rw [HGX.out,HPM2.out] at g3;have:=of_decide_eq_true HBD.out;have:pm<x.id:=g3;omega
  ·obtain rfl:k=L.length:=oq_;have hkI:¬ (L.length:Int)<L.length:=oq_;go_wp2_with fail
   go_ret;exact ⟨a1_ (c9_.2 ⟨by rw [HML.out];omega,fun i hi=>HK.out i (by rw [HML.out] at hi;exact hi)⟩).symm,HB.out⟩
def ll_ (L:List EntV) (m:Int) (k:Nat) (b:Bool):Prop:=k≤L.length∧(∀ t,t<k->(L.getD t default).id<m)∧(∀ t,k≤t->t<L.length->m≤(L.getD t default).id)∧(b=true↔k<L.length∧(L.getD k default).id=m)
theorem ch_ (L:List EntV) (t:Nat):(L.map EntV.ent).getD t default=(L.getD t default).ent:=by
 rw [List.getD_eq_getElem?_getD,List.getElem?_map,List.getD_eq_getElem?_getD];cases L[t]? <;> rfl
theorem ll_.at {L:List EntV} {m:Int} {b:Bool} (h:ll_ L m k b):AtD (L.map EntV.ent) m k b:=by
 obtain ⟨h1,h2,h3,h4⟩:=h;refine ⟨by rw [List.length_map];exact h1,fun t ht=>?_,fun t g1 g2=>?_,?_⟩
 ·rw [ch_];exact h2 t ht
 ·rw [ch_];rw [List.length_map] at g2;exact h3 t g1 g2
 ·rw [ch_,List.length_map];exact h4
theorem wh_:cmpI x y<0↔x<y:=by unfold cmpI;split <;> (try split) <;> omega
theorem wg_:cmpI x y=0↔x=y:=by unfold cmpI;split <;> (try split) <;> omega
theorem ro_ (a1 a2:Option Addr) (n1 c1 n2 c2:Nat) (id rank len m:Int) (fm:Bool) (w:World) :
  Calls Tryz.prog 111 #[.agg #[.int .i64 id,.bool fm,.int .i64 rank,.slice a1 n1 c1,.int .i64 len,.slice a2 n2 c2],.int .i64 m] w fun e w'=>e=.returned (.int .i64 (cmpI id m))∧Below w.heap.size w w':=by
 have HC:=hq_ (fun W=>av_ id m W);generalize cmpI id m=q at *
 go_enter Tryz.func111,Tryz.ntmps111
 go_wp2_with (go_at_call 59;refine (HC.out _).mono ?_;rintro e w1 ⟨rfl,rfl⟩)
 go_ret;exact ⟨rfl,xE⟩
theorem AscD.at {L:List EntV} (h:AscD (L.map EntV.ent)) (hij:i≤j) (hj:j<L.length):(L.getD i default).id≤(L.getD j default).id:=by
 rcases Nat.lt_or_eq_of_le hij with g|rfl
 ·have:=List.pairwise_iff_getElem.1 h i j (by rw [List.length_map];omega) (by rw [List.length_map];exact hj) g;rw [List.getElem_map,List.getElem_map] at this;rw [a6_ hj,a6_ (show i<L.length by omega)];exact Int.le_of_lt this
 ·exact Int.le_refl _
theorem ly_ (F:Nat->Prop) (v:Value) (L:List EntV) (m:Int) (w:World) (h:DiaL w F v L) (ha:AscD (L.map EntV.ent)) (hl:L.length≤5000) :
  Calls Tryz.prog 110 #[v,.int .i64 m,.func (.func 111) #[] #[]] w fun e w'=>∃ k b,e=.returned (.tuple #[.int .i64 (k:Nat),.bool b])∧ll_ L m k b∧Below w.heap.size w w':=by
 obtain ⟨a0,c0,rfl⟩:=h.form;have HD:=hq_ h;have HA:=hq_ ha;have HF1:=hq_ (fun a1 a2 n1 c1 n2 c2 id rank len fm W=>ro_ a1 a2 n1 c1 n2 c2 id rank len m fm W);clear h ha
 go_enter Tryz.func110,Tryz.ntmps110
 go_wp2_with fail
 go_loopw [9,10,11] (fun s9 s10 _ wr=>∃ lo hi:Nat,s9=.int .i64 lo∧s10=.int .i64 hi∧lo≤hi∧hi≤L.length∧Hid ((∀ t,t<lo->(L.getD t default).id<m)∧(∀ t,hi≤t->t<L.length->m≤(L.getD t default).id))∧Hid (Below w.heap.size w wr)) (fun s9 s10 _ _=>(intOf s10).toNat-(intOf s9).toNat)
 case atStart=>exact ⟨0,L.length,rfl,rfl,oq_,oq_,hq_ ⟨oq_,oq_⟩,hq_ (Below.refl _ _)⟩
 case round=>
  obtain ⟨lo,hi,rfl,rfl,hlh,hin,HI,HB⟩:=hrel;by_cases hlt:lo<hi
  ·have hlI:(lo:Int)<hi:=oq_;have hmid:(lo+hi) / 2<L.length:=oq_;obtain ⟨b,o,x,x1,d1,x2,d2,rfl,hbb,hx,hxm,hxr,hcv,hev,e0,e1,e2,e3,e4,e5⟩:=(HD.out.ext HB.out).get hmid;have HX:=hq_ hx;have hc:=HF1.out x1 x2 x.s.cls.length d1 x.s.ext.length d2 x.id x.rank x.s.len x.firm wr;have hsgn:cmpI x.id m<0↔x.id<m:=wh_;have HS:=hq_ hsgn;generalize cmpI x.id m=q at *;clear hx hxm hxr hcv hev hsgn;have HC:=hq_ hc;clear hc;by_cases hq:q<0
   ·have HQ:=hq_ (HS.out.1 hq);go_wp2_with (refine HC.out.mono ?_;rintro e w1 ⟨rfl,hb1⟩;have HB1:=hq_ (Et HB.out hb1);clear hb1)
    go_roundw
    case rel=>exact ⟨(lo+hi) / 2+1,hi,by rw [show ((lo:Int)+(hi:Int)) / 2+1=(((lo+hi) / 2+1:Nat):Int) by omega],rfl,oq_,hin,hq_ ⟨fun t ht=>by have:=AscD.at HA.out (show t≤(lo+hi) / 2 by omega) hmid;rw [HX.out] at this;have:=HQ.out;omega,HI.out.2⟩,HB1⟩
    case measure=>simp [intOf];omega
   ·have HQ:=hq_ (show m≤x.id by have:¬ x.id<m:=fun h=>hq (HS.out.2 h);omega);go_wp2_with (refine HC.out.mono ?_;rintro e w1 ⟨rfl,hb1⟩;have HB1:=hq_ (Et HB.out hb1);clear hb1)
    go_roundw
    case rel=>exact ⟨lo,(lo+hi) / 2,rfl,by rw [show ((lo:Int)+(hi:Int)) / 2=(((lo+hi) / 2:Nat):Int) by omega],oq_,oq_,hq_ ⟨HI.out.1,fun t h1 h2=>by have:=AscD.at HA.out h1 h2;rw [HX.out] at this;have:=HQ.out;omega⟩,HB1⟩
    case measure=>simp [intOf];omega
  ·obtain rfl:hi=lo:=oq_;have hnI:¬ (hi:Int)<hi:=oq_;by_cases hn:hi<L.length
   ·have hlI:(hi:Int)<L.length:=oq_;obtain ⟨b,o,x,x1,d1,x2,d2,rfl,hbb,hx,hxm,hxr,hcv,hev,e0,e1,e2,e3,e4,e5⟩:=(HD.out.ext HB.out).get hn;have HX:=hq_ hx;have hc:=HF1.out x1 x2 x.s.cls.length d1 x.s.ext.length d2 x.id x.rank x.s.len x.firm wr;have hsgn:cmpI x.id m=0↔x.id=m:=wg_;have HS:=hq_ hsgn;generalize cmpI x.id m=q at *;clear hx hxm hxr hcv hev hsgn;have HC:=hq_ hc;clear hc;obtain ⟨bq,hbq⟩:∃ bq,(q == 0)=bq:=⟨_,rfl⟩;have HBQ:Hid (bq=true↔hi<L.length∧(L.getD hi default).id=m):=hq_ (by rw [<- hbq,beq_iff_eq,HS.out,HX.out];exact ⟨fun h=>⟨hn,h⟩,fun h=>h.2⟩);go_wp2_with (refine HC.out.mono ?_;rintro e w1 ⟨rfl,hb1⟩;have HB1:=hq_ (Et HB.out hb1);clear hb1)
    go_ret2;exact ⟨hi,bq,by first|rfl|(rw [<- hbq]),⟨oq_,HI.out.1,HI.out.2,HBQ.out⟩,HB1.out⟩
   ·have hlI:¬ (hi:Int)<L.length:=oq_;go_wp2_with fail
    go_ret2;exact ⟨hi,.inl ⟨rfl,⟨hin,HI.out.1,HI.out.2,tq_⟩,HB.out⟩⟩
theorem rc_ (F:Nat->Prop) (v:Value) (L:List EntV) (m:Int) (w:World) (h:DiaL w F v L) (ha:AscD (L.map EntV.ent)) (hl:L.length≤5000) :
  Calls Tryz.prog 66 #[v,.int .i64 m] w fun e w'=>∃ k b,e=.returned (.tuple #[.int .i64 (k:Nat),.bool b])∧ll_ L m k b∧Below w.heap.size w w':=by
 have HB:=hq_ (ly_ F v L m w h ha hl);obtain ⟨a0,c0,rfl⟩:=h.form;clear h ha
 go_enter Tryz.func66,Tryz.ntmps66
 go_wp2_with (go_at_call 110;refine HB.out.mono ?_;rintro e w1 ⟨k,b,rfl,hf,hb1⟩;have HF:=hq_ hf;clear hf)
 go_ret2;exact ⟨k,b,rfl,HF.out,hb1⟩
end Go.Proofs.YtkclokcenllhmaaGreat
end
namespace Kal
structure ClI (Q:List (Ent × Ent)) (R:List bk_):Prop where
 err:errD Q=0
 hit:d3_ (ee_ Q) R
theorem id_ {Q r:List (Ent × Ent)} (h:errD Q=0):errD (Q ++ r)=errD r:=by
 unfold errD at *;rw [List.map_append,m7_ h]
theorem ie_ {q:Ent × Ent} {r:List (Ent × Ent)}:errD (q :: r)=if mErr q.1.s q.2.s=0 then errD r else mErr q.1.s q.2.s:=rfl
theorem jd_ {Q:List (Ent × Ent)} {q:Ent × Ent}:ee_ (Q ++ [q])=ee_ Q ++ if mYes q.1.s q.2.s=true then [q] else []:=by
 unfold ee_;rw [List.filter_append,List.filter_cons,List.filter_nil]
theorem ClI.nil:ClI [] []:=⟨rfl,.nil⟩
section
variable {Q:List (Ent × Ent)} {R:List bk_} {q:Ent × Ent}
theorem ClI.hit' (h:ClI Q R) {p:bk_} (h0:mErr q.1.s q.2.s=0) (hy:mYes q.1.s q.2.s=true) (hp:j1_ q p):ClI (Q ++ [q]) (R ++ [p]):=
 ⟨by rw [id_ h.err,ie_,if_pos h0];rfl,by rw [jd_,if_pos hy];exact h.hit.snoc hp⟩
theorem ClI.pass (h:ClI Q R) (h0:mErr q.1.s q.2.s=0) (hy:mYes q.1.s q.2.s=false):ClI (Q ++ [q]) R:=
 ⟨by rw [id_ h.err,ie_,if_pos h0];rfl,by rw [jd_,if_neg (by simp [hy]),List.append_nil];exact h.hit⟩
theorem ClI.stop (h:ClI Q R) {l r:List (Ent × Ent)} (h0:mErr q.1.s q.2.s≠0) (hl:l=Q ++ q :: r):errD l=mErr q.1.s q.2.s:=by
 rw [hl,id_ h.err,ie_,if_neg h0]
theorem ClI.done {d:List Ent} (h:ClI (cu_ d) R):ej_ d R 0:=⟨h.err.symm,.inl ⟨rfl,h.hit⟩⟩
theorem ClI.fail {d:List Ent} {r:List (Ent × Ent)} (h:ClI Q R) (h0:mErr q.1.s q.2.s≠0) (hl:cu_ d=Q ++ q :: r):ej_ d [] (mErr q.1.s q.2.s):=⟨(h.stop h0 hl).symm,.inr ⟨h0,rfl⟩⟩
end
def dl_ (d:List Ent) (l:List Ent):List (Ent × Ent):=l.flatMap fun a=>(e3_ d a).map fun b=>(a,b)
theorem nq_ {d l:List Ent} {a:Ent}:dl_ d (l ++ [a])=dl_ d l ++ (e3_ d a).map fun b=>(a,b):=by
 unfold dl_;rw [List.flatMap_append];simp
theorem jj_ {d:List Ent}:dl_ d (ec_ d)=cu_ d:=rfl
theorem sm_ {d pre r pre' r':List Ent} {a b:Ent} (h:ec_ d=pre ++ a :: r) (h':e3_ d a=pre' ++ b :: r'):∃ s,cu_ d=(dl_ d pre ++ pre'.map fun b=>(a,b)) ++ (a,b) :: s:=by
 refine ⟨r'.map (fun b=>(a,b)) ++ dl_ d r,?_⟩;rw [<- jj_,h];unfold dl_;rw [List.flatMap_append,List.flatMap_cons,h'];simp
structure AdI (X:List Ent) (e:Ent) (o:List Int) (st:Bool):Prop where
 err:errA X e=0
 out:o=(c2_ X e).map (·.id)
 str:st=cs_ X e
theorem ib_ {X r:List Ent} {e:Ent} (h:errA X e=0):errA (X ++ r) e=errA r e:=by
 unfold errA at *;rw [List.map_append,m7_ h]
theorem ic_ {x:Ent} {r:List Ent} {e:Ent}:errA (x :: r) e=if mErr e.s x.s=0 then errA r e else mErr e.s x.s:=rfl
theorem dz_ {X:List Ent} {x e:Ent}:c2_ (X ++ [x]) e=c2_ X e ++ if mYes e.s x.s=true then [x] else []:=by
 unfold c2_;rw [List.filter_append,List.filter_cons,List.filter_nil]
section
variable {X:List Ent} {e x:Ent} {o:List Int} {st:Bool}
theorem AdI.nil:AdI [] e [] false:=⟨rfl,rfl,rfl⟩
theorem AdI.hit (h:AdI X e o st) (h0:mErr e.s x.s=0) (hy:mYes e.s x.s=true):AdI (X ++ [x]) e (o ++ [x.id]) (st || decide (x.rank ≥ e.rank)):=
 ⟨by rw [ib_ h.err,ic_,if_pos h0];rfl,by rw [dz_,if_pos hy,List.map_append,<- h.out];rfl,by unfold cs_;rw [dz_,if_pos hy,List.any_append,h.str];simp [cs_]⟩
theorem AdI.pass (h:AdI X e o st) (h0:mErr e.s x.s=0) (hy:mYes e.s x.s=false):AdI (X ++ [x]) e o st:=
 ⟨by rw [ib_ h.err,ic_,if_pos h0];rfl,by rw [dz_,if_neg (by simp [hy]),List.append_nil];exact h.out,by unfold cs_;rw [dz_,if_neg (by simp [hy]),List.append_nil];exact h.str⟩
theorem AdI.fail {d r:List Ent} (h:AdI X e o st) (h0:mErr e.s x.s≠0) (hl:ba_ d e=X ++ x :: r):admK d e=mErr e.s x.s∧admL d e=[]:=by
 have h1:errA (ba_ d e) e=mErr e.s x.s:=by rw [hl,ib_ h.err,ic_,if_neg h0]
 have h2:admK d e=mErr e.s x.s:=by unfold admK;rw [h1,if_pos h0]
 exact ⟨h2,by unfold admL;rw [h2,if_neg h0]⟩
theorem AdI.strong {d:List Ent} (h:AdI (ba_ d e) e o true):admK d e=15∧admL d e=[]:=by
 have h2:admK d e=15:=by unfold admK;rw [if_neg (by simp [h.err]),if_pos h.str.symm]
 exact ⟨h2,by unfold admL;rw [h2,if_neg dq_]⟩
theorem AdI.done {d:List Ent} (h:AdI (ba_ d e) e o false):admK d e=0∧admL d e=o:=by
 have h2:admK d e=0:=by unfold admK;rw [if_neg (by simp [h.err]),if_neg (by rw [<- h.str];simp)]
 exact ⟨h2,by unfold admL;rw [if_pos h2,h.out]⟩
end
def PutI (d:List Ent) (e:Ent) (i:Nat) (done:Bool) (o:List Ent):Prop:=
 (done=false∧o=d.take i∧∀ x∈d.take i,x.id<e.id)∨(done=true∧o=putD (d.take i) e∧∃ j,j<i∧j<d.length∧e.id≤(d.getD j default).id)
theorem PutI.nil {d:List Ent} {e:Ent}:PutI d e 0 false []:=.inl ⟨rfl,rfl,sq_⟩
theorem is_ {l:List Ent} {e:Ent} (h:∀ x∈l,x.id<e.id):putD l e=l ++ [e]:=by
 unfold putD;rw [List.filter_eq_self.2 (fun x hx=>by simpa using h x hx),List.filter_eq_nil_iff.2 (fun x hx=>by have:=h x hx;simp;omega)]
theorem kr_ {l:List Ent} {x e:Ent} (h:e.id<x.id):putD (l ++ [x]) e=putD l e ++ [x]:=by
 unfold putD;rw [List.filter_append,List.filter_append,List.filter_cons_of_neg tq_,List.filter_cons_of_pos tq_];simp
theorem so_ {l:List Ent} {x e:Ent} (h:e.id=x.id):putD (l ++ [x]) e=putD l e:=by
 unfold putD;rw [List.filter_append,List.filter_append,List.filter_cons_of_neg tq_,List.filter_cons_of_neg tq_];simp
theorem e6_ {α:Type} {l:List α} {d:α} {i:Nat} (hi:i<l.length):l.take (i+1)=l.take i ++ [l.getD i d]:=by
 rw [List.take_succ_eq_append_getElem hi,a6_ hi]
section
variable {d:List Ent} {e:Ent} {i:Nat} {done:Bool} {o:List Ent}
theorem PutI.low (h:PutI d e i false o) (hi:i<d.length) (hx:(d.getD i default).id<e.id):PutI d e (i+1) false (o ++ [d.getD i default]):=by
 rcases h with ⟨_,rfl,h2⟩|⟨h,_⟩
 ·refine .inl ⟨rfl,(e6_ hi).symm,fun x hx'=>?_⟩;rw [e6_ (d:=default) hi] at hx';rcases List.mem_append.1 hx' with g|g
  ·exact h2 x g
  ·rw [List.mem_singleton.1 g];exact hx
 ·cases h
theorem PutI.here (h:PutI d e i false o) (hi:i<d.length) (hx:(d.getD i default).id=e.id):PutI d e (i+1) true (o ++ [e]):=by
 rcases h with ⟨_,rfl,h2⟩|⟨h,_⟩
 ·exact .inr ⟨rfl,by rw [e6_ (d:=default) hi,so_ hx.symm,is_ h2],i,oq_,hi,oq_⟩
 ·cases h
theorem PutI.past (h:PutI d e i false o) (hi:i<d.length) (hx:e.id<(d.getD i default).id):PutI d e (i+1) true (o ++ [e] ++ [d.getD i default]):=by
 rcases h with ⟨_,rfl,h2⟩|⟨h,_⟩
 ·exact .inr ⟨rfl,by rw [e6_ (d:=default) hi,kr_ hx,is_ h2],i,oq_,hi,oq_⟩
 ·cases h
theorem PutI.gt (h:PutI d e i true o) (ha:AscD d) (hi:i<d.length):e.id<(d.getD i default).id:=by
 rcases h with ⟨h,_⟩|⟨_,_,j,hj,hjl,hje⟩
 ·cases h
 ·have:=List.pairwise_iff_getElem.1 ha j i hjl hi hj;rw [a6_ hjl] at hje;rw [a6_ hi];omega
theorem PutI.rest (h:PutI d e i true o) (ha:AscD d) (hi:i<d.length):PutI d e (i+1) true (o ++ [d.getD i default]):=by
 have hg:=h.gt ha hi;rcases h with ⟨h,_⟩|⟨_,rfl,j,hj,hjl,hje⟩
 ·cases h
 ·exact .inr ⟨rfl,by rw [e6_ (d:=default) hi,kr_ hg],j,oq_,hjl,hje⟩
theorem PutI.end1 (h:PutI d e d.length true o):o=putD d e:=by
 rcases h with ⟨h,_⟩|⟨_,rfl,_⟩
 ·cases h
 ·rw [List.take_length]
theorem PutI.end0 (h:PutI d e d.length false o):o ++ [e]=putD d e:=by
 rcases h with ⟨_,rfl,h2⟩|⟨h,_⟩
 ·rw [List.take_length] at h2 ⊢;rw [is_ h2]
 ·cases h
theorem PutI.len (h:PutI d e i done o):o.length≤i+1:=by
 rcases h with ⟨_,rfl,_⟩|⟨_,rfl,_⟩
 ·rw [List.length_take];omega
 ·unfold putD;have h1:=List.length_filter_le (fun x:Ent=>decide (x.id<e.id)) (d.take i);have h2:((d.take i).filter (fun x=>decide (x.id<e.id))).length+((d.take i).filter (fun x=>decide (e.id<x.id))).length≤(d.take i).length:=by
   induction d.take i with
   | nil=>simp
   | cons x l ih=>
    rw [List.filter_cons,List.filter_cons];by_cases g:x.id<e.id
    ·have:¬ e.id<x.id:=oq_;simp [g,this];omega
    ·by_cases g2:e.id<x.id
     ·simp [g,g2];omega
     ·simp [g,g2];omega
  rw [List.length_append,List.length_cons];rw [List.length_take] at h2;omega
end
end Kal
namespace Go.Proofs.YtkclokcenllhmaaGreat
open Go.RowKit Go.Shelf Go.Maps Kal
attribute [local go_sem] Oper.semAt_some
def eb_ (A B:Str):Prop:=∀ (F G:Nat->Prop) (cva eva cvb evb:Value) (w:World),StrR w F cva eva A->StrR w G cvb evb B->
  Calls Tryz.prog 70 #[.agg #[cva,.int .i64 A.len,eva],.agg #[cvb,.int .i64 B.len,evb]] w fun e w'=>e=.returned (.tuple #[.bool (mYes A B),.int .i64 (mErr A B)])∧Below w.heap.size w w'
def dj_ (i:Int):List Value:=[.int .i64 i]
theorem s0_ (i:Int):(dj_ i).length=1:=rfl
theorem gz_ (i:Int):∀ u∈dj_ i,u.oneCell'=true:=fun u hu=>by
 obtain rfl:=List.mem_singleton.1 hu;rfl
theorem b8_:bd_ (fun (_:World) (_:Nat->Prop) (i:Int)=>InI i):=⟨fun h _ _=>h,fun h=>h,fun h _=>h⟩
section
variable {α:Type} {e:TypeId} {sz:Nat} {enc:α->List Value} {p:α->Prop} {w:World} {bs:List (Nat × Array Value × TypeId)} {ob:Nat} {ot:TypeId} {E:Nat->Prop} {lv:Value} {D:List α} {A:World}
theorem AccW.setB (h:AccW e sz enc (fun _ _ x=>p x) w bs ob ot E lv D A) {q i:Nat} (v:Value) (hE:E q) (h1:w.heap.size≤q) (h2:q≠ob) (h3:∀ t∈bs,t.1≠q):AccW e sz enc (fun _ _ x=>p x) w bs ob ot E lv D (A.setCell ⟨q,i,none⟩ v):=by
 have hg:World.grownBy A (A.setCell ⟨q,i,none⟩ v) (some q):=World.grownBy.set' ⟨rfl,rfl,rfl,Nat.le_refl _,fun _ _ _=>rfl⟩ v;refine ⟨h.below.setCell (p:=⟨q,i,none⟩) h1 _,fun t ht=>(h.bx t ht).setNe _ (h3 t ht),h.b6.setNe _ h2.symm,h.ge,h.ne,⟨h.row.row.kept hg (.inr fun e=>h.row.ne _ e (.inr (.inr hE))),h.row.all,h.row.ne,h.row.len⟩⟩
end
theorem dh_ {L:List EntV} {p:EntV->Bool} {q:Ent->Bool} (h:∀ x,p x=q x.ent):(L.filter p).map EntV.ent=(L.map EntV.ent).filter q:=by
 induction L with
 | nil=>rfl
 | cons x L ih=>
  rw [List.filter_cons,List.map_cons,List.filter_cons,<- h x]
  split
  ·rw [List.map_cons,ih]
  ·exact ih
abbrev adBs (w:World) (ev:Array Value):List (Nat × Array Value × TypeId):=[(w.heap.size,ev,57),(w.heap.size+1,#[.slice none 0 0],36),(w.heap.size+1+1,#[.int .i64 0],32)]
abbrev AdW (w:World) (ev:Array Value) (ob:Nat) (E:Nat->Prop) (lv:Value) (o:List Int) (W:World):Prop:=AccW 3 1 dj_ (fun _ _ i=>InI i) w (adBs w ev) ob 36 E lv o W
section
variable {w A:World} {ev:Array Value} {ob:Nat} {E:Nat->Prop} {lv:Value} {o:List Int}
theorem AdW.b0 (h:AdW w ev ob E lv o A):Bxx A w.heap.size ev 57:=h.bx (_,_,_) (List.mem_cons_self ..)
theorem AdW.b1 (h:AdW w ev ob E lv o A):Bxx A (w.heap.size+1) #[.slice none 0 0] 36:=h.bx (_,_,_) (List.mem_cons_of_mem _ (List.mem_cons_self ..))
theorem AdW.b2 (h:AdW w ev ob E lv o A):Bxx A (w.heap.size+1+1) #[.int .i64 0] 32:=h.bx (_,_,_) (List.mem_cons_of_mem _ (List.mem_cons_of_mem _ (List.mem_cons_self ..)))
end
def xb_ (d:List Ent) (x:Ent) (w:World) (e:Ending) (w':World):Prop:=
 ∃ v,e=.returned (.tuple #[v,.int .i64 (admK d x)])∧OwnG 3 1 dj_ (fun _ _ i=>InI i) w.heap.size (fun _=>False) w' v (admL d x)∧Below w.heap.size w w'
theorem ez_ (F G:Nat->Prop) (v:Value) (L:List EntV) (x:EntV) (w:World) (h:DiaL w F v L) (hd:SmD (L.map EntV.ent)) (hx:REnt w G x) (hgx:e9_ ak_ x.ent) (hM:∀ y∈L,eb_ x.s y.s) :
  Calls Tryz.prog 28 #[v,x.val] w (xb_ (L.map EntV.ent) x.ent w):=by
 have h:=h.lt;have hx:=ad_.lt hx;obtain ⟨a0,c0,rfl⟩:=h.form;have hll:L.length≤1000:=by have:=hd.len;rwa [List.length_map] at this
 have HV:=hq_ (fun W (hb:Below w.heap.size w W)=>cp_ _ _ L W (h.ext hb));rw [c9_.2 hd.valid] at HV;have HPP:=fun W (hb:Below w.heap.size w W)=>gb_ _ x W (hx.ext hb);rw [gy_.2 hgx] at HPP;have HD:=hq_ h;have HSD:=hq_ hd;have HXR:=hq_ hx;obtain ⟨iI,iI1,iI2,iI3,iI4⟩:=dr_;have HII:=hq_ (And.intro iI1 (And.intro iI2 (And.intro iI3 iI4)));obtain ⟨q1,p1,q2,p2,hcx,hex⟩:=hx.1.form;obtain ⟨xe,hxe⟩:∃ xe,xe=x.ent:=⟨_,rfl⟩;obtain ⟨xid,xfm,xrk,xcv,xev,xs⟩:=x;dsimp only at hcx hex hM;subst hcx;subst hex;dsimp only [EntV.val] at HPP ⊢;have HPP:=hq_ HPP;rw [<- hxe];have hid:xe.id=xid:=by rw [hxe];rfl
 have hrk:xe.rank=xrk:=by rw [hxe];rfl
 have hst:xe.s=xs:=by rw [hxe];rfl
 have HID:=hq_ (And.intro hid (And.intro hrk hst));have HMK:=hq_ hM;clear h hd hx hgx iI1 iI2 iI3 iI4 hxe hid hrk hst hM;refine callsIn_wide (n:=0).1 ?_;refine callsIn_of_wp_marks Tryz.func28 rfl trivial ?_ rfl;simp only [Tryz.ntmps28,List.size_toArray,List.length_cons,List.length_nil,Nat.reduceAdd,Nat.reduceSub,Array.replicate_succ,Array.replicate_zero,List.push_toArray,List.append_toArray,List.nil_append,List.cons_append];obtain ⟨bv,hbv⟩:∃ bv:Array Value,bv=#[.int .i64 xid,.bool xfm,.int .i64 xrk,.slice q1 xs.cls.length p1,.int .i64 xs.len,.slice q2 xs.ext.length p2]:=⟨_,rfl⟩;have hB0:Below w.heap.size w (((w.alloc (.cells #[.int .i64 xid,.bool xfm,.int .i64 xrk,.slice q1 xs.cls.length p1,.int .i64 xs.len,.slice q2 xs.ext.length p2] 57)).alloc (.cells #[.slice none 0 0] 36)).alloc (.cells #[.int .i64 0] 32)):=by exact xE
 have hx0:Bxx (((w.alloc (.cells #[.int .i64 xid,.bool xfm,.int .i64 xrk,.slice q1 xs.cls.length p1,.int .i64 xs.len,.slice q2 xs.ext.length p2] 57)).alloc (.cells #[.slice none 0 0] 36)).alloc (.cells #[.int .i64 0] 32)) w.heap.size #[.int .i64 xid,.bool xfm,.int .i64 xrk,.slice q1 xs.cls.length p1,.int .i64 xs.len,.slice q2 xs.ext.length p2] 57:=((Bxx.at rfl).alloc _).alloc _;have hx1:Bxx (((w.alloc (.cells #[.int .i64 xid,.bool xfm,.int .i64 xrk,.slice q1 xs.cls.length p1,.int .i64 xs.len,.slice q2 xs.ext.length p2] 57)).alloc (.cells #[.slice none 0 0] 36)).alloc (.cells #[.int .i64 0] 32)) (w.heap.size+1) #[.slice none 0 0] 36:=(Bxx.at sq_).alloc _;have hx2:Bxx (((w.alloc (.cells #[.int .i64 xid,.bool xfm,.int .i64 xrk,.slice q1 xs.cls.length p1,.int .i64 xs.len,.slice q2 xs.ext.length p2] 57)).alloc (.cells #[.slice none 0 0] 36)).alloc (.cells #[.int .i64 0] 32)) (w.heap.size+1+1) #[.int .i64 0] 32:=Bxx.at sq_;have HB0:=hq_ hB0;have HX0:=hq_ hx0;have HX1:=hq_ hx1;have HX2:=hq_ hx2;clear hB0 hx0 hx1 hx2 hbv;gi_wp2_with (first
  | (refine ⟨trivial,rfl,?_⟩;gi_at_call 40;(with_reducible refine (callsIn_wide.2 (HV.out _ HB0.out)).mono ?_);rintro e w1 ⟨rfl,hb1⟩;have HB1:=hq_ (Et HB0.out hb1);have hx0:=HX0.out.below hb1;have HX0:=hq_ hx0;have HX1:=hq_ (HX1.out.below hb1);have HX2:=hq_ (HX2.out.below hb1);have r0:=(hx0.cells 0).1;have r1:=(hx0.cells 1).1;have r2:=(hx0.cells 2).1;have r3:=(hx0.cells 3).1;have r4:=(hx0.cells 4).1;have r5:=(hx0.cells 5).1;clear hb1 hx0)
  | (refine ⟨trivial,rfl,?_⟩;gi_at_call 65;(with_reducible refine (callsIn_wide.2 (HPP.out _ HB1.out)).mono ?_);rintro e w2 ⟨rfl,hb2⟩;have HB2:=hq_ (Et HB1.out hb2);have HX0:=hq_ (HX0.out.below hb2);have HX1:=hq_ (HX1.out.below hb2);have HX2:=hq_ (HX2.out.below hb2);clear hb2 r0 r1 r2 r3 r4 r5)
  | (refine ⟨trivial,rfl,?_⟩;gi_at_call 50;obtain ⟨U,hU⟩:∃ U,U=(w2.alloc (.cells #[.slice none 0 0] 36)).alloc (.cells #[.bool false] 4):=⟨_,rfl⟩;rw [<- hU];refine (callsIn_wide.2 (cn_ a0 L.length c0 72 #[.pointer (some ⟨w.heap.size,0,none⟩)] U)).mono ?_;rintro e w4 ⟨rfl,hw4⟩;obtain ⟨W0,rfl⟩:∃ W0,W0=w4:=⟨_,rfl⟩;have HW4:=hq_ hw4;have HU:=hq_ hU;clear hw4 hU)
  | (refine ⟨trivial,?_⟩;apply_assumption))
 have hw4:=HW4.out;have hU:=HU.out;have hUs:U.heap.size=w2.heap.size+1+1:=by rw [hU];simp
 have hws:w.heap.size+3≤w2.heap.size:=by have:=HX2.out.lt;omega
 have hEU:Below w2.heap.size w2 U:=by rw [hU];exact xE
 have hEW:Below U.heap.size U W0:=by rw [hw4];exact xE
 have hE:Below w2.heap.size w2 W0:=Et hEU hEW;have hsz:W0.heap.size=U.heap.size+2:=by rw [hw4];simp
 have hob:Bxx W0 w2.heap.size #[.slice none 0 0] 36:=Bxx.below (by rw [hU];exact (Bxx.at rfl).alloc _) hEW;have hsb:Bxx W0 (w2.heap.size+1) #[.bool false] 4:=Bxx.below (by rw [hU];exact Bxx.at sq_) hEW;have hdb:Bxx W0 U.heap.size #[.slice a0 L.length c0] 25:=by rw [hw4];exact (Bxx.at rfl).alloc _
 have hpb:Bxx W0 (U.heap.size+1) #[.func (.func 72) #[] #[.pointer (some ⟨w.heap.size,0,none⟩)]] 88:=by rw [hw4];exact Bxx.at sq_
 have hxb:Bxx W0 w.heap.size _ _:=HX0.out.below hE;have hA0:AdW w #[.int .i64 xid,.bool xfm,.int .i64 xrk,.slice q1 xs.cls.length p1,.int .i64 xs.len,.slice q2 xs.ext.length p2] w2.heap.size (fun q=>q=w2.heap.size+1∨(U.heap.size≤q∧q<U.heap.size+2)) (.slice none 0 0) [] W0:=by
  refine ⟨Et HB2.out hE,fun t ht=>?_,hob,oq_,fun t ht=>?_,OwnG.nil⟩
  ·rcases List.mem_cons.1 ht with rfl|ht
   ·exact hxb
   ·rcases List.mem_cons.1 ht with rfl|ht
    ·exact HX1.out.below hE
    ·obtain rfl:=List.mem_singleton.1 ht;exact HX2.out.below hE
  ·rcases List.mem_cons.1 ht with rfl|ht
   ·show w.heap.size≠_;omega
   ·rcases List.mem_cons.1 ht with rfl|ht
    ·show w.heap.size+1≠_;omega
    ·obtain rfl:=List.mem_singleton.1 ht;show w.heap.size+1+1≠_;omega
 have hwW:Below w.heap.size w W0:=Et HB2.out hE;obtain ⟨S,hS⟩:∃ S,S=L.filter fun y=>y.firm && decide (y.id≠xid):=⟨_,rfl⟩;have hit:d9_ (fun k=>k≤w.heap.size∨(U.heap.size≤k∧k<U.heap.size+2)) 94 #[.pointer (some ⟨U.heap.size,0,none⟩),.pointer (some ⟨U.heap.size+1,0,none⟩)] S W0:=by
  rw [hS];refine dm_ _ _ a0 c0 U.heap.size (U.heap.size+1) L _ _ _ W0 (HD.out.ext hwW) (fun k hk=>.inl (by have:=hk.2;omega)) (fun k hk=>oq_) hdb hpb (.inr ⟨oq_,oq_⟩) (.inr ⟨oq_,oq_⟩) (enters_of Tryz.func72 (by kernel_rfl) rfl) fun W y hk hy=>?_;obtain ⟨y1,d1,y2,d2,hcv,hev⟩:=(HD.out.all y hy).1.form;have hc:=KpB.cell (A:=W0) hk (a:=⟨w.heap.size,0,none⟩) (.inl (Nat.le_refl _)) ((hxb.cells 0).1);have:=p7_ y1 y2 y.s.cls.length d1 y.s.ext.length d2 y.id y.rank y.s.len y.firm w.heap.size xid W hc;rw [EntV.val,hcv,hev];exact this
 have hSe:S.map EntV.ent=ba_ (L.map EntV.ent) xe:=by
  rw [hS];unfold ba_;rw [HID.out.1];exact dh_ fun y=>rfl
 have hSm:∀ y∈S,eb_ xs y.s∧InI y.id∧InI y.rank:=fun y hy=>by
  rw [hS] at hy;have hm:=(List.mem_filter.1 hy).1;exact ⟨HMK.out y hm,(HD.out.all y hm).2⟩
 have hSl:S.length≤1000:=by rw [hS];have:=List.length_filter_le (fun y:EntV=>y.firm && decide (y.id≠xid)) L;omega
 have HIT:=hq_ hit;have HA0:=hq_ hA0;have HSB:=hq_ hsb;have HSE:=hq_ hSe;have HSM:=hq_ hSm;have HSL:=hq_ hSl;have HWW:=hq_ hwW;have HUS:=hq_ hUs;clear hUs hw4 hU hEU hEW hE hob hsb hdb hpb hxb hA0 hit hSe hSm hSl hwW hS;refine bf_ (α:=EntV) (x:=none) (gf:=94) (lb:=#[.pointer (some ⟨U.heap.size,0,none⟩),.pointer (some ⟨U.heap.size+1,0,none⟩)]) rfl (enters_of Tryz.func94 (by kernel_rfl) rfl) HIT.out
  (fun h k=>h.trans k) (fun W1 l o o' hl ho hc=>KpB.putObj (fun q h=>by have:=HUS.out;omega) W1 l o o' hl ho hc) (fun W1 W2 hn hg q hq=>hg.block q (by have:=HUS.out;omega) sq_) (fun y=>rfl)
  (fun pre W'=>∃ lv o st,AdI (pre.map EntV.ent) xe o st∧AdW w #[.int .i64 xid,.bool xfm,.int .i64 xrk,.slice q1 xs.cls.length p1,.int .i64 xs.len,.slice q2 xs.ext.length p2] w2.heap.size (fun q=>q=w2.heap.size+1∨(U.heap.size≤q∧q<U.heap.size+2)) lv o W'∧Bxx W' (w2.heap.size+1) #[.bool st] 4∧o.length≤pre.length∧KeepsOthers W0 W')
  (fun c' _ W'=>c'=.ret∧∃ k,admK (L.map EntV.ent) xe=k∧admL (L.map EntV.ent) xe=[]∧Bxx W' (w.heap.size+1) #[.slice none 0 0] 36∧Bxx W' (w.heap.size+1+1) #[.int .i64 k] 32∧Below w.heap.size w W'∧KeepsOthers W0 W')
  (fun pre A' C row hI hg hr=>by
   have hr':∀ r,row=some r->W0.heap.size≤r∧∃ o:Obj,A'.heap[r]? = some o∧o.isCells=false:=fun r e=>by
    rcases hr r e with ⟨h,_⟩|h
    ·cases h
    ·exact h
   obtain ⟨lv,o,st,h1,h2,h3,h4,h5⟩:=hI;exact ⟨lv,o,st,h1,AccW.grow h2 hg fun r e=>⟨by have:=(hr' r e).1;have:=HUS.out;omega,(hr' r e).2⟩,h3.grown hg fun e=>by have:=(hr' _ e.symm).1;have:=HUS.out;omega,h4,KeepsOthers.grow h5 hg fun r e=>(hr' r e).1⟩)
  (fun c' pre A' C row hI hg hr=>by
   have hr':∀ r,row=some r->W0.heap.size≤r∧∃ o:Obj,A'.heap[r]? = some o∧o.isCells=false:=fun r e=>by
    rcases hr r e with ⟨h,_⟩|h
    ·cases h
    ·exact h
   obtain ⟨h0,k,h1,h2,h3,h4,h5,h6⟩:=hI;exact ⟨h0,k,h1,h2,h3.grown hg fun e=>by have:=(hr' _ e.symm).1;have:=HUS.out;omega,h4.grown hg fun e=>by have:=(hr' _ e.symm).1;have:=HUS.out;omega,h5.grown hg h5.size fun r e=>by have:=(hr' r e).1;have:=HUS.out;omega,KeepsOthers.grow h6 hg fun r e=>(hr' r e).1⟩)
  (fun pre y W1 l o o' hl ho h=>EyE.put pre y W1 l o o' hl ho h) (fun pre y W1 W2 hg h=>EyE.grown pre y W1 W2 hg h) ⟨_,[],false,AdI.nil,HA0.out,HSB.out,sq_,KeepsOthers.refl _⟩
  (fun y a' W1=>∃ eb,a'=⟨#[.slice a0 L.length c0,.agg #[.int .i64 xid,.bool xfm,.int .i64 xrk,.slice q1 xs.cls.length p1,.int .i64 xs.len,.slice q2 xs.ext.length p2],undef,.pointer (some ⟨w.heap.size,0,none⟩),.pointer (some ⟨w.heap.size+1,0,none⟩),.pointer (some ⟨w.heap.size+1+1,0,none⟩),.pointer (some ⟨w2.heap.size,0,none⟩),.pointer (some ⟨w2.heap.size+1,0,none⟩),.pointer (some ⟨eb,0,none⟩),undef,undef,.slice a0 L.length c0,.bool true,.bool false,.bool false,.agg #[.int .i64 xid,.bool xfm,.int .i64 xrk,.slice q1 xs.cls.length p1,.int .i64 xs.len,.slice q2 xs.ext.length p2],.bool true,.bool false,.bool false,.slice a0 L.length c0,.func (.func 72) #[] #[.pointer (some ⟨w.heap.size,0,none⟩)],.func (.func 94) #[] #[.pointer (some ⟨U.heap.size,0,none⟩),.pointer (some ⟨U.heap.size+1,0,none⟩)],y.val,undef,undef,undef,undef,undef,undef,undef,undef,undef,undef,undef,undef,undef,undef,undef,undef,undef,undef,undef,undef,undef,undef,undef,undef,undef,undef,undef],[]⟩∧fm_ W0.heap.size eb y W1)
  (fun y a' W1 l o o' _ hl ho h=>⟨h.choose,h.choose_spec.1,h.choose_spec.2.put hl ho⟩) ?assign ?body ?done ?stop
 case assign=>
  rintro l pre ⟨id,fm,rk,cv,ev,s⟩ W' K hW' _ ⟨-,hst,-,-⟩ hK;obtain ⟨x1,d1,x2,d2,hcv,hev⟩:=hst.form;dsimp only at hcv hev;subst hcv;subst hev;dsimp only [EntV.val] at hK ⊢
  gi_wp2
  exact hK _ _ (World.grownBy_alloc _ _ _) ⟨W'.heap.size,rfl,hW',Bxx.at rfl⟩
 case body=>
  rintro l pre ⟨id,fm,rk,cv,ev,s⟩ _ W' ⟨lv,o,st,hI,hA,hB,hol,hKO⟩ ⟨⟨r,hr⟩,hst,-,-⟩ ⟨eb,rfl,hnb,hbx⟩;obtain ⟨x1,d1,x2,d2,hcv,hev⟩:=hst.form;dsimp only at hcv hev hst;subst hcv;subst hev;obtain ⟨hsm,hid,hrk⟩:=HSM.out _ (show (⟨id,fm,rk,.slice x1 s.cls.length d1,.slice x2 s.ext.length d2,s⟩:EntV)∈S by rw [hr];simp);dsimp only at hsm hid hrk;have hprl:pre.length+1≤1000:=by have:=HSL.out;rw [hr] at this;simp at this;omega
  dsimp only [EntV.val];change Bxx W' eb (entA id rk fm x1 s.cls.length d1 s.len x2 s.ext.length d2) _ at hbx;obtain ⟨E,hEe⟩:∃ E:Ent,E=⟨id,fm,rk,s⟩:=⟨_,rfl⟩;have hoth:ba_ (L.map EntV.ent) xe=pre.map EntV.ent ++ E :: r.map EntV.ent:=by rw [<- HSE.out,hr,List.map_append,List.map_cons,hEe];rfl
  have q3:=(hbx.cells 3).1;have q4:=(hbx.cells 4).1;have q5:=(hbx.cells 5).1;have r3:=(hA.b0.cells 3).1;have r4:=(hA.b0.cells 4).1;have r5:=(hA.b0.cells 5).1;have HMT:=hsm _ _ (.slice q1 xs.cls.length p1) (.slice q2 xs.ext.length p2) (.slice x1 s.cls.length d1) (.slice x2 s.ext.length d2) W' (HXR.out.1.ext hA.below) hst;obtain ⟨ky,hky⟩:∃ ky,mYes xs s=ky:=⟨_,rfl⟩;obtain ⟨kk,hkk⟩:∃ kk,mErr xs s=kk:=⟨_,rfl⟩;have hkc:=jg_ xs s;rw [hky,hkk] at HMT hkc;have HMT:=hq_ HMT;have hky2:mYes xe.s E.s=ky:=by rw [HID.out.2.2,hEe];exact hky
  have hkk2:mErr xe.s E.s=kk:=by rw [HID.out.2.2,hEe];exact hkk
  have hws2:=hA.below.size;have hw0:=hKO.size;have r2:=(hA.b0.cells 2).1;have heb:=hbx.lt;have hpe:((pre ++ [⟨id,fm,rk,.slice x1 s.cls.length d1,.slice x2 s.ext.length d2,s⟩]:List EntV)).map EntV.ent=pre.map EntV.ent ++ [E]:=by rw [List.map_append,hEe];rfl
  have HA:=hq_ hA;have HB:=hq_ hB;have HBX:=hq_ hbx;have HKO:=hq_ hKO;have HI:=hq_ hI;have HPE:=hq_ hpe;have HKY:=hq_ hky2;have HKK:=hq_ hkk2;have HOT:=hq_ hoth;have HOL:=hq_ hol;have HPR:=hq_ hprl;have HIDR:=hq_ (And.intro hid hrk);have HEE:=hq_ hEe;clear hA hB hbx hKO hI hpe hky2 hkk2 hoth hol hprl hid hrk hEe hsm hst hr hky hkk;rcases hkc with hkc|⟨hkc,hky⟩
  ·subst hkc;cases ky with
   | false=>
    have HP:=hq_ (HI.out.pass HKK.out HKY.out);clear r2;gi_wp2_with (refine ⟨trivial,rfl,?_⟩;gi_at_call 70;refine (CallsIn.inRound l (callsIn_wide.2 HMT.out)).mono ?_;rintro e w5 ⟨rfl,hb5⟩;have HA5:=hq_ (HA.out.ext b8_ hb5);have HB5:=hq_ hb5;clear hb5)
    exact ⟨(KeepsOthers.of_below HB5.out).from _,fun q hq=>HB5.out.block q (by have:=HUS.out;omega),lv,o,st,by rw [HPE.out];exact HP.out,HA5.out,HB.out.below HB5.out,by have:=HOL.out;simp;omega,HKO.out.trans (KeepsOthers.of_below HB5.out)⟩
   | true=>
    have HP:=HI.out.hit HKK.out HKY.out;rw [show E.rank=rk by rw [HEE.out],show E.id=id by rw [HEE.out],HID.out.2.1] at HP;have HPP2:=hq_ HP;have hhit:∀ sv:Bool,(st || decide (rk ≥ xrk))=sv->Hid (AdI (pre.map EntV.ent ++ [E]) xe (o ++ [id]) sv):=fun sv h=>hq_ (by rw [<- h];exact HPP2.out);have HIDI:Hid (InI id):=hq_ HIDR.out.1;obtain ⟨oa,oc,rfl,-⟩:=HA.out.row.form;have HOO:Hid (o.length+1≤1000000):=hq_ (by have h1:=HOL.out;have h2:=HPR.out;omega);clear HP;cases st with
    | true=>
     have HH:=hhit true sq_;clear hhit r2;gi_wp2_with (first
      | (refine ⟨trivial,rfl,?_⟩;gi_at_call 70;refine (CallsIn.inRound l (callsIn_wide.2 HMT.out)).mono ?_;rintro e w5 ⟨rfl,hb5⟩;have hUs:=HUS.out;have HA5:=hq_ (HA.out.ext b8_ hb5);have HB5:=hq_ hb5;have hbx5:=HBX.out.below hb5;have HS5:=hq_ (HB.out.below hb5);have c0:=HS5.out.cells 0;have c1:=c0.1;have c2:=c0.2;skip;skip;have hsx:=HS5.out.lt;have HA6:=hq_ (HA5.out.setB (q:=w2.heap.size+1) (i:=0) (.bool true) (.inl rfl) oq_ oq_ (fun t ht=>by rcases List.mem_cons.1 ht with rfl|ht;(show w.heap.size≠_;omega);rcases List.mem_cons.1 ht with rfl|ht;(show w.heap.size+1≠_;omega);obtain rfl:=List.mem_singleton.1 ht;show w.heap.size+1+1≠_;omega));have o1:=(HA6.out.b6.cells 0).1;have o2:=((hbx5.setNe (k:=w2.heap.size+1) (i:=0) (.bool true) oq_).cells 0).1;have HA7:=hq_ (HA6.out.ext b8_ (Ea (Er _) (.cells #[.int .i64 id] 3)));have hz5:=hb5.size;clear hb5 hbx5 c0 hUs)
      | ((refine bz_ rq_ _ _ _ _ rq_ iI _ 1 8 Tryz.underlying36 HII.out.1 HII.out.2.1 HII.out.2.2.1 HII.out.2.2.2 rfl dq_ dq_ w.heap.size (.slice oa o.length oc) o.length (o.flatMap dj_) (dj_ id) rfl rq_ HA7.out.row.row w5.heap.size 1 rq_ (al_ (Bxx.at sq_)) (gz_ id) HOO.out tq_ ?_);intro v' w9 hown9 hgrow9 hloc9;obtain ⟨na,nc,rfl⟩:=a5_ hown9;have d2:=(HA7.out.b6.grown hgrow9 fun e=>HA7.out.row.ne _ e.symm (.inr (.inl rfl))).cells 0;have d3:=d2.1;have d4:=d2.2;have HO9:=hq_ hown9;have HG9:=hq_ hgrow9;have HL9:=hq_ hloc9;clear hown9 hgrow9 hloc9 d2))
     have hUs:=HUS.out;have HP9:=HA7.out.push b8_ HIDI.out HO9.out HG9.out HL9.out tq_ (by have:=HOO.out;omega);have hs6:Bxx _ (w2.heap.size+1) #[.bool true] 4:=a0_ 0 (.bool true) HS5.out;have hs7:=hs6.alloc (.cells #[.int .i64 id] 3);have hKO9:=(KeepsOthers.grown_cells (((KeepsOthers.of_below HB5.out).trans (KeepsOthers.setCell w5 ⟨w2.heap.size+1,0,none⟩ (.bool true))).trans (KeepsOthers.of_below (Ea (Er _) (.cells #[.int .i64 id] 3)))) HG9.out HA7.out.row.cells).trans (KeepsOthers.setCell w9 ⟨w2.heap.size,0,none⟩ (.slice na (o.length+1) nc));refine ⟨hKO9.from _,fun q hq=>?_,_,_,true,by rw [HPE.out];exact HH.out,HP9,(hs7.grown HG9.out fun e=>HA7.out.row.ne _ e.symm (.inr (.inr (.inl rfl)))).setNe _ oq_,by have:=HOL.out;simp;omega,HKO.out.trans hKO9⟩;have hq5:q<w5.heap.size:=oq_;refine (HA7.out.kept HG9.out (k:=q) tq_ ?_ oq_).trans ?_
     ·rcases hq with hq|hq
      ·rcases Nat.lt_or_eq_of_le hq with hq|hq
       ·exact .inl hq
       ·exact .inr (.inl ⟨_,List.mem_cons_self ..,hq⟩)
      ·exact .inr (.inr (.inr hq))
     ·exact (Below.heap_alloc _ _ q tq_).trans ((Below.heap_setCell w5 ⟨w2.heap.size+1,0,none⟩ _ q (by show q≠w2.heap.size+1;omega)).trans (HB5.out.block q oq_))
    | false=>
     by_cases hge:xrk≤rk
     ·have HH:=hhit true (by simp;exact hge);have hge2:decide (xrk≤rk)=true:=decide_eq_true hge;clear hhit;gi_wp2_with (first
       | (refine ⟨trivial,rfl,?_⟩;gi_at_call 70;refine (CallsIn.inRound l (callsIn_wide.2 HMT.out)).mono ?_;rintro e w5 ⟨rfl,hb5⟩;have hUs:=HUS.out;have HA5:=hq_ (HA.out.ext b8_ hb5);have HB5:=hq_ hb5;have hbx5:=HBX.out.below hb5;have HS5:=hq_ (HB.out.below hb5);have c0:=HS5.out.cells 0;have c1:=c0.1;have c2:=c0.2;have q2:=(hbx5.cells 2).1;have r2:=((AdW.b0 HA5.out).cells 2).1;have hsx:=HS5.out.lt;have HA6:=hq_ (HA5.out.setB (q:=w2.heap.size+1) (i:=0) (.bool true) (.inl rfl) oq_ oq_ (fun t ht=>by rcases List.mem_cons.1 ht with rfl|ht;(show w.heap.size≠_;omega);rcases List.mem_cons.1 ht with rfl|ht;(show w.heap.size+1≠_;omega);obtain rfl:=List.mem_singleton.1 ht;show w.heap.size+1+1≠_;omega));have o1:=(HA6.out.b6.cells 0).1;have o2:=((hbx5.setNe (k:=w2.heap.size+1) (i:=0) (.bool true) oq_).cells 0).1;have HA7:=hq_ (HA6.out.ext b8_ (Ea (Er _) (.cells #[.int .i64 id] 3)));have hz5:=hb5.size;clear hb5 hbx5 c0 hUs)
       | ((refine bz_ rq_ _ _ _ _ rq_ iI _ 1 8 Tryz.underlying36 HII.out.1 HII.out.2.1 HII.out.2.2.1 HII.out.2.2.2 rfl dq_ dq_ w.heap.size (.slice oa o.length oc) o.length (o.flatMap dj_) (dj_ id) rfl rq_ HA7.out.row.row w5.heap.size 1 rq_ (al_ (Bxx.at sq_)) (gz_ id) HOO.out tq_ ?_);intro v' w9 hown9 hgrow9 hloc9;obtain ⟨na,nc,rfl⟩:=a5_ hown9;have d2:=(HA7.out.b6.grown hgrow9 fun e=>HA7.out.row.ne _ e.symm (.inr (.inl rfl))).cells 0;have d3:=d2.1;have d4:=d2.2;have HO9:=hq_ hown9;have HG9:=hq_ hgrow9;have HL9:=hq_ hloc9;clear hown9 hgrow9 hloc9 d2))
      have hUs:=HUS.out;have HP9:=HA7.out.push b8_ HIDI.out HO9.out HG9.out HL9.out tq_ (by have:=HOO.out;omega);have hs6:Bxx _ (w2.heap.size+1) #[.bool true] 4:=a0_ 0 (.bool true) HS5.out;have hs7:=hs6.alloc (.cells #[.int .i64 id] 3);have hKO9:=(KeepsOthers.grown_cells (((KeepsOthers.of_below HB5.out).trans (KeepsOthers.setCell w5 ⟨w2.heap.size+1,0,none⟩ (.bool true))).trans (KeepsOthers.of_below (Ea (Er _) (.cells #[.int .i64 id] 3)))) HG9.out HA7.out.row.cells).trans (KeepsOthers.setCell w9 ⟨w2.heap.size,0,none⟩ (.slice na (o.length+1) nc));refine ⟨hKO9.from _,fun q hq=>?_,_,_,true,by rw [HPE.out];exact HH.out,HP9,(hs7.grown HG9.out fun e=>HA7.out.row.ne _ e.symm (.inr (.inr (.inl rfl)))).setNe _ oq_,by have:=HOL.out;simp;omega,HKO.out.trans hKO9⟩;have hq5:q<w5.heap.size:=oq_;refine (HA7.out.kept HG9.out (k:=q) tq_ ?_ oq_).trans ?_
      ·rcases hq with hq|hq
       ·rcases Nat.lt_or_eq_of_le hq with hq|hq
        ·exact .inl hq
        ·exact .inr (.inl ⟨_,List.mem_cons_self ..,hq⟩)
       ·exact .inr (.inr (.inr hq))
      ·exact (Below.heap_alloc _ _ q tq_).trans ((Below.heap_setCell w5 ⟨w2.heap.size+1,0,none⟩ _ q (by show q≠w2.heap.size+1;omega)).trans (HB5.out.block q oq_))
     ·have HH:=hhit false tq_;have hge2:decide (xrk≤rk)=false:=decide_eq_false hge;clear hhit;gi_wp2_with (first
       | (refine ⟨trivial,rfl,?_⟩;gi_at_call 70;refine (CallsIn.inRound l (callsIn_wide.2 HMT.out)).mono ?_;rintro e w5 ⟨rfl,hb5⟩;have hUs:=HUS.out;have HA5:=hq_ (HA.out.ext b8_ hb5);have HB5:=hq_ hb5;have hbx5:=HBX.out.below hb5;have HS5:=hq_ (HB.out.below hb5);have c0:=HS5.out.cells 0;have c1:=c0.1;have c2:=c0.2;have q2:=(hbx5.cells 2).1;have r2:=((AdW.b0 HA5.out).cells 2).1;have hsx:=HS5.out.lt;have HA6:=hq_ (HA5.out.setB (q:=w2.heap.size+1) (i:=0) (.bool false) (.inl rfl) oq_ oq_ (fun t ht=>by rcases List.mem_cons.1 ht with rfl|ht;(show w.heap.size≠_;omega);rcases List.mem_cons.1 ht with rfl|ht;(show w.heap.size+1≠_;omega);obtain rfl:=List.mem_singleton.1 ht;show w.heap.size+1+1≠_;omega));have o1:=(HA6.out.b6.cells 0).1;have o2:=((hbx5.setNe (k:=w2.heap.size+1) (i:=0) (.bool false) oq_).cells 0).1;have HA7:=hq_ (HA6.out.ext b8_ (Ea (Er _) (.cells #[.int .i64 id] 3)));have hz5:=hb5.size;clear hb5 hbx5 c0 hUs)
       | ((refine bz_ rq_ _ _ _ _ rq_ iI _ 1 8 Tryz.underlying36 HII.out.1 HII.out.2.1 HII.out.2.2.1 HII.out.2.2.2 rfl dq_ dq_ w.heap.size (.slice oa o.length oc) o.length (o.flatMap dj_) (dj_ id) rfl rq_ HA7.out.row.row w5.heap.size 1 rq_ (al_ (Bxx.at sq_)) (gz_ id) HOO.out tq_ ?_);intro v' w9 hown9 hgrow9 hloc9;obtain ⟨na,nc,rfl⟩:=a5_ hown9;have d2:=(HA7.out.b6.grown hgrow9 fun e=>HA7.out.row.ne _ e.symm (.inr (.inl rfl))).cells 0;have d3:=d2.1;have d4:=d2.2;have HO9:=hq_ hown9;have HG9:=hq_ hgrow9;have HL9:=hq_ hloc9;clear hown9 hgrow9 hloc9 d2))
      have hUs:=HUS.out;have HP9:=HA7.out.push b8_ HIDI.out HO9.out HG9.out HL9.out tq_ (by have:=HOO.out;omega);have hs6:Bxx _ (w2.heap.size+1) #[.bool false] 4:=a0_ 0 (.bool false) HS5.out;have hs7:=hs6.alloc (.cells #[.int .i64 id] 3);have hKO9:=(KeepsOthers.grown_cells (((KeepsOthers.of_below HB5.out).trans (KeepsOthers.setCell w5 ⟨w2.heap.size+1,0,none⟩ (.bool false))).trans (KeepsOthers.of_below (Ea (Er _) (.cells #[.int .i64 id] 3)))) HG9.out HA7.out.row.cells).trans (KeepsOthers.setCell w9 ⟨w2.heap.size,0,none⟩ (.slice na (o.length+1) nc));refine ⟨hKO9.from _,fun q hq=>?_,_,_,false,by rw [HPE.out];exact HH.out,HP9,(hs7.grown HG9.out fun e=>HA7.out.row.ne _ e.symm (.inr (.inr (.inl rfl)))).setNe _ oq_,by have:=HOL.out;simp;omega,HKO.out.trans hKO9⟩;have hq5:q<w5.heap.size:=oq_;refine (HA7.out.kept HG9.out (k:=q) tq_ ?_ oq_).trans ?_
      ·rcases hq with hq|hq
       ·rcases Nat.lt_or_eq_of_le hq with hq|hq
        ·exact .inl hq
        ·exact .inr (.inl ⟨_,List.mem_cons_self ..,hq⟩)
       ·exact .inr (.inr (.inr hq))
      ·exact (Below.heap_alloc _ _ q tq_).trans ((Below.heap_setCell w5 ⟨w2.heap.size+1,0,none⟩ _ q (by show q≠w2.heap.size+1;omega)).trans (HB5.out.block q oq_))
  ·subst hkc;subst hky;clear r2;gi_wp2_with (refine ⟨trivial,rfl,?_⟩;gi_at_call 70;refine (CallsIn.inRound l (callsIn_wide.2 HMT.out)).mono ?_;rintro e w5 ⟨rfl,hb5⟩;have HA5:=hq_ (HA.out.ext b8_ hb5);have HB5:=hq_ hb5;have z1:=(AdW.b1 HA5.out).cells 0;have z2:=(AdW.b2 HA5.out).cells 0;have z3:=z1.1;have z4:=z1.2;have z5:=z2.1;have z6:=z2.2;clear hb5)
   obtain ⟨h1,h2⟩:=HI.out.fail (by rw [HKK.out];decide) HOT.out;have h5:=(AdW.b1 HA5.out).lt;refine ⟨((KeepsOthers.of_below HB5.out).trans ((KeepsOthers.setCell w5 ⟨w.heap.size+1,0,none⟩ (.slice none 0 0)).trans (KeepsOthers.setCell _ ⟨w.heap.size+1+1,0,none⟩ (.int .i64 2)))).from _,rfl,2,by rw [h1,HKK.out],h2,?_,?_,?_,HKO.out.trans ((KeepsOthers.of_below HB5.out).trans ((KeepsOthers.setCell w5 ⟨w.heap.size+1,0,none⟩ (.slice none 0 0)).trans (KeepsOthers.setCell _ ⟨w.heap.size+1+1,0,none⟩ (.int .i64 2))))⟩
   ·exact Bxx.setNe (t:=36) (c:=#[.slice none 0 0]) (a0_ 0 (.slice none 0 0) (AdW.b1 HA5.out)) _ sq_
   ·exact a0_ 0 (.int .i64 2) ((AdW.b2 HA5.out).setNe (k:=w.heap.size+1) (i:=0) (.slice none 0 0) sq_)
   ·exact (HA5.out.below.setCell (p:=⟨w.heap.size+1,0,none⟩) sq_ _).setCell (p:=⟨w.heap.size+1+1,0,none⟩) tq_ _
 case done=>
  rintro D xs2 W' hD rfl ⟨lv,o,st,hI,hA,hB,hol,hKO⟩ hdef;rw [HSE.out] at hI;have HM:Hid (aj_ w.heap.size [{ target:=.collected D,args:=#[] }] W'):=hq_ (bt_ (by have:=HWW.out.size;omega) hdef);have q0:=(hB.cells 0).1;have q1:=(hA.b6.cells 0).1;have z1:=hA.b1.cells 0;have z2:=hA.b2.cells 0;have z3:=z1.1;have z4:=z1.2;have z5:=z2.1;have z6:=z2.2;have hws2:=hA.below.size;have h5:=hA.b1.lt;have h6:=hA.b6.lt;have HA:=hq_ hA;have HI:=hq_ hI;clear hI hA hB hol hKO hdef z1 z2;cases st with
  | true=>
   gi_wp2_with fail
   obtain ⟨h1,h2⟩:=HI.out.strong;refine ah_ (B:=w.heap.size) _ _ (HM.out.keep (((KeepsOthers.setCell W' ⟨w.heap.size+1,0,none⟩ (.slice none 0 0)).trans (KeepsOthers.setCell _ ⟨w.heap.size+1+1,0,none⟩ (.int .i64 15))).from _)) fun w' hs=>?_;have hb1:=Bxx.setNe (t:=36) (c:=#[.slice none 0 0]) (k:=w.heap.size+1+1) (i:=0) (a0_ 0 (.slice none 0 0) (AdW.b1 HA.out)) (.int .i64 15) sq_;have hb2:=a0_ 0 (.int .i64 15) ((AdW.b2 HA.out).setNe (k:=w.heap.size+1) (i:=0) (.slice none 0 0) sq_);have hc1:=Bxx.c0 (hs.cells _ _ hb1 rfl);have hc2:=Bxx.c0 (hs.cells _ _ hb2 rfl);exact ⟨.tuple #[.slice none 0 0,.int .i64 15],by simp [results,Tryz.results28,go_sem,hc1,hc2],.slice none 0 0,by rw [h1],by rw [h2];exact OwnG.nil,((HA.out.below.setCell (p:=⟨w.heap.size+1,0,none⟩) sq_ _).setCell (p:=⟨w.heap.size+1+1,0,none⟩) tq_ _).trans hs.below⟩
  | false=>
   obtain ⟨oa,oc,rfl,-⟩:=HA.out.row.form;gi_wp2_with fail
   obtain ⟨h1,h2⟩:=HI.out.done;have hn1:=HA.out.row.ne;have hrow:=((HA.out.row.setO (q:=w.heap.size+1) (i:=0) (.slice oa o.length oc) (fun e=>hn1 _ e (.inl ⟨_,List.mem_cons_of_mem _ (List.mem_cons_self ..),rfl⟩))).setO (q:=w.heap.size+1+1) (i:=0) (.int .i64 0) (fun e=>hn1 _ e (.inl ⟨_,List.mem_cons_of_mem _ (List.mem_cons_of_mem _ (List.mem_cons_self ..)),rfl⟩)));refine ah_ (B:=w.heap.size) _ _ (HM.out.keep (((KeepsOthers.setCell W' ⟨w.heap.size+1,0,none⟩ (.slice oa o.length oc)).trans (KeepsOthers.setCell _ ⟨w.heap.size+1+1,0,none⟩ (.int .i64 0))).from _)) fun w' hs=>?_;have hb1:=Bxx.setNe (t:=36) (c:=#[.slice oa o.length oc]) (k:=w.heap.size+1+1) (i:=0) (a0_ 0 (.slice oa o.length oc) (AdW.b1 HA.out)) (.int .i64 0) sq_;have hb2:=a0_ 0 (.int .i64 0) ((AdW.b2 HA.out).setNe (k:=w.heap.size+1) (i:=0) (.slice oa o.length oc) sq_);have hc1:=Bxx.c0 (hs.cells _ _ hb1 rfl);have hc2:=Bxx.c0 (hs.cells _ _ hb2 rfl);exact ⟨.tuple #[.slice oa o.length oc,.int .i64 0],by simp [results,Tryz.results28,go_sem,hc1,hc2],.slice oa o.length oc,by rw [h1],by rw [h2];exact (hrow.shut hs).mono b8_ fun k hk=>hk.elim,((HA.out.below.setCell (p:=⟨w.heap.size+1,0,none⟩) sq_ _).setCell (p:=⟨w.heap.size+1+1,0,none⟩) tq_ _).trans hs.below⟩
 case stop=>
  rintro D c' pre W' hD ⟨rfl,k,h1,h2,h3,h4,h5,h6⟩ hdef;have HM:Hid (aj_ w.heap.size [{ target:=.collected D,args:=#[] }] W'):=hq_ (bt_ (by have:=HWW.out.size;omega) hdef);have H1:=hq_ h1;have H2:=hq_ h2;have H3:=hq_ h3;have H4:=hq_ h4;have H5:=hq_ h5;clear h1 h2 h3 h4 h5 h6 hdef;gi_wp2_with fail
  refine ah_ (B:=w.heap.size) _ _ HM.out fun w' hs=>?_;have hc1:=Bxx.c0 (hs.cells _ _ H3.out rfl);have hc2:=Bxx.c0 (hs.cells _ _ H4.out rfl);exact ⟨.tuple #[.slice none 0 0,.int .i64 k],by simp [results,Tryz.results28,go_sem,hc1,hc2],.slice none 0 0,by rw [H1.out],by rw [H2.out];exact OwnG.nil,H5.out.trans hs.below⟩
end Go.Proofs.YtkclokcenllhmaaGreat
namespace Go.Proofs.YtkclokcenllhmaaGreat
open Go.RowKit Go.Shelf Go.Maps Kal
attribute [local go_sem] Oper.semAt_some
def penc (p:bk_):List Value:=[.int .i64 p.a,.int .i64 p.b,.int .i64 p.x.day,.int .i64 p.x.frm,.int .i64 p.x.fin,.int .i64 p.y.day,.int .i64 p.y.frm,.int .i64 p.y.fin]
theorem v0_ (p:bk_):∀ u∈penc p,u.oneCell'=true:=fun u hu=>by
 unfold penc at hu;simp at hu;rcases hu with rfl|rfl|rfl|rfl|rfl|rfl|rfl|rfl <;> rfl
structure InPr (p:bk_):Prop where
 a:InI p.a
 b:InI p.b
 x:InIn p.x
 y:InIn p.y
theorem uy_:∃ i,Tryz.prog.info? 79=some i∧i.zero=some (.agg #[.int .i64 0,.int .i64 0,.int .i64 0,.int .i64 0,.int .i64 0,.int .i64 0,.int .i64 0,.int .i64 0])∧i.size=8∧i.bytes=64:=by
 have h:(Tryz.prog.info? 79).map (fun i=>(i.zero,i.size,i.bytes))=some (some (.agg #[.int .i64 0,.int .i64 0,.int .i64 0,.int .i64 0,.int .i64 0,.int .i64 0,.int .i64 0,.int .i64 0]),8,64):=by kernel_rfl
 obtain ⟨i,hi,h1,h2,h3⟩:=info_parts h;exact ⟨i,hi,h1,h2,h3⟩
theorem rp_ {A B:Str} {x y:Inst} {b:Bool} (hA:MStr A) (hB:MStr B) (h:bm_ (ColS A B lq_) lq_ x y b):InIn x∧InIn y:=by
 rcases h with ⟨_,⟨h1,h2,h3⟩,_⟩|⟨_,rfl,rfl,_⟩
 ·obtain ⟨_,_,h4⟩:=h3;unfold atF at h4;exact ⟨WinS.inn (a:=x.frm) (b:=x.fin) hA ⟨h1,by unfold ae_;omega⟩,WinS.inn (a:=y.frm) (b:=y.fin) hB ⟨h2,by unfold ae_;omega⟩⟩
 ·have h0:InI 0:=⟨oq_,oq_⟩;exact ⟨⟨h0,h0,h0⟩,⟨h0,h0,h0⟩⟩
def fa_ (A B:Str):Prop:=∀ (F G:Nat->Prop) (cva eva cvb evb:Value) (w:World),StrR w F cva eva A->StrR w G cvb evb B->
  Calls Tryz.prog 71 #[.agg #[cva,.int .i64 A.len,eva],.agg #[cvb,.int .i64 B.len,evb],.int .i64 (-2251799813685248)] w (kd_ A B (-2251799813685248) w)
abbrev clBs (w:World) (dv:Value):List (Nat × Array Value × TypeId):=[(w.heap.size,#[dv],25),(w.heap.size+1,#[.slice none 0 0],61),(w.heap.size+1+1,#[.int .i64 0],32)]
abbrev ClW (w:World) (dv:Value) (ob:Nat) (E:Nat->Prop) (lv:Value) (R:List bk_) (W:World):Prop:=AccW 79 8 penc (fun _ _ p=>InPr p) w (clBs w dv) ob 61 E lv R W
section
variable {w A:World} {dv:Value} {ob:Nat} {E:Nat->Prop} {lv:Value} {R:List bk_}
theorem ClW.b0 (h:ClW w dv ob E lv R A):Bxx A w.heap.size #[dv] 25:=h.bx (_,_,_) (List.mem_cons_self ..)
theorem ClW.b1 (h:ClW w dv ob E lv R A):Bxx A (w.heap.size+1) #[.slice none 0 0] 61:=h.bx (_,_,_) (List.mem_cons_of_mem _ (List.mem_cons_self ..))
theorem ClW.b2 (h:ClW w dv ob E lv R A):Bxx A (w.heap.size+1+1) #[.int .i64 0] 32:=h.bx (_,_,_) (List.mem_cons_of_mem _ (List.mem_cons_of_mem _ (List.mem_cons_self ..)))
end
section
variable {α:Type} {e:TypeId} {sz:Nat} {enc:α->List Value} {p:α->Prop} {w:World} {bs:List (Nat × Array Value × TypeId)} {ob:Nat} {ot:TypeId} {E:Nat->Prop} {lv:Value} {D:List α} {A:World}
theorem AccW.addB (h:AccW e sz enc (fun _ _ x=>p x) w bs ob ot E lv D A) {b:Nat} {c:Array Value} {t:TypeId} (hb:Bxx A b c t) (ht:t≠e):AccW e sz enc (fun _ _ x=>p x) w bs ob ot (fun k=>E k∨k=b) lv D A:=
 ⟨h.below,h.bx,h.b6,h.ge,h.ne,⟨h.row.row,h.row.all,fun g hg=>by
  rintro (h1|h1|h1|h1)
  ·exact h.row.ne g hg (.inl h1)
  ·exact h.row.ne g hg (.inr (.inl h1))
  ·exact h.row.ne g hg (.inr (.inr h1))
  ·exact h.row.neBox hb ht (by rw [hg,h1]),h.row.len⟩⟩
end
def tj_ (d:List Ent) (w:World) (e:Ending) (w':World):Prop:=
 ∃ v R k,e=.returned (.tuple #[v,.int .i64 k])∧ej_ d R k∧OwnG 79 8 penc (fun _ _ p=>InPr p) w.heap.size (fun _=>False) w' v R∧Below w.heap.size w w'
def gk_ (d:List Ent) (w W0 W:World):Prop:=∃ k,ej_ d [] k∧Bxx W (w.heap.size+1) #[.slice none 0 0] 61∧Bxx W (w.heap.size+1+1) #[.int .i64 k] 32∧Below w.heap.size w W∧KeepsOthers W0 W
theorem gk_.grow {d:List Ent} {w W0 A C:World} {row:Option Nat} (h:gk_ d w W0 A) (hg:A.grownBy C row) (h0:w.heap.size+3≤W0.heap.size) (hr:∀ r,row=some r->W0.heap.size≤r∧∃ o:Obj,A.heap[r]? = some o∧o.isCells=false):gk_ d w W0 C:=by
 obtain ⟨k,h1,h3,h4,h5,h6⟩:=h;exact ⟨k,h1,h3.grown hg fun e=>by have:=(hr _ e.symm).1;omega,h4.grown hg fun e=>by have:=(hr _ e.symm).1;omega,h5.grown hg h5.size fun r e=>by have:=(hr r e).1;omega,KeepsOthers.grow h6 hg fun r e=>(hr r e).1⟩
theorem hx_ (F:Nat->Prop) (v:Value) (L:List EntV) (w:World) (h:DiaL w F v L) (hd:SmD (L.map EntV.ent)) (hL:L.length≤900) (hK:∀ x∈L,∀ y∈L,eb_ x.s y.s∧fa_ x.s y.s) :
  Calls Tryz.prog 27 #[v] w (tj_ (L.map EntV.ent) w):=by
 have h:=h.lt;obtain ⟨a0,c0,rfl⟩:=h.form;have HV:=hq_ (fun W (hb:Below w.heap.size w W)=>cp_ _ _ L W (h.ext hb));rw [c9_.2 hd.valid] at HV;have HD:=hq_ h;have HSD:=hq_ hd;have HLL:=hq_ hL;obtain ⟨iP,iP1,iP2,iP3,iP4⟩:=uy_;have HIP:=hq_ (And.intro iP1 (And.intro iP2 (And.intro iP3 iP4)));have HKK0:=hq_ hK;clear h hd hL hK iP1 iP2 iP3 iP4;refine callsIn_wide (n:=0).1 ?_;refine callsIn_of_wp_marks Tryz.func27 rfl trivial ?_ rfl;simp only [Tryz.ntmps27,List.size_toArray,List.length_cons,List.length_nil,Nat.reduceAdd,Nat.reduceSub,Array.replicate_succ,Array.replicate_zero,List.push_toArray,List.append_toArray,List.nil_append,List.cons_append];have hB0:Below w.heap.size w (((w.alloc (.cells #[.slice a0 L.length c0] 25)).alloc (.cells #[.slice none 0 0] 61)).alloc (.cells #[.int .i64 0] 32)):=by exact xE
 have hx0:Bxx (((w.alloc (.cells #[.slice a0 L.length c0] 25)).alloc (.cells #[.slice none 0 0] 61)).alloc (.cells #[.int .i64 0] 32)) w.heap.size #[.slice a0 L.length c0] 25:=((Bxx.at rfl).alloc _).alloc _;have hx1:Bxx (((w.alloc (.cells #[.slice a0 L.length c0] 25)).alloc (.cells #[.slice none 0 0] 61)).alloc (.cells #[.int .i64 0] 32)) (w.heap.size+1) #[.slice none 0 0] 61:=(Bxx.at sq_).alloc _;have hx2:Bxx (((w.alloc (.cells #[.slice a0 L.length c0] 25)).alloc (.cells #[.slice none 0 0] 61)).alloc (.cells #[.int .i64 0] 32)) (w.heap.size+1+1) #[.int .i64 0] 32:=Bxx.at sq_;have HB0:=hq_ hB0;have HX0:=hq_ hx0;have HX1:=hq_ hx1;have HX2:=hq_ hx2;clear hB0 hx0 hx1 hx2;gi_wp2_with (first
  | (refine ⟨trivial,rfl,?_⟩;gi_at_call 40;(with_reducible refine (callsIn_wide.2 (HV.out _ HB0.out)).mono ?_);rintro e w1 ⟨rfl,hb1⟩;have HB1:=hq_ (Et HB0.out hb1);have hx0:=HX0.out.below hb1;have HX0:=hq_ hx0;have HX1:=hq_ (HX1.out.below hb1);have HX2:=hq_ (HX2.out.below hb1);have r0:=(hx0.cells 0).1;have r1:=((hx0.alloc (.cells #[.slice none 0 0] 61)).cells 0).1;clear hb1 hx0)
  | (refine ⟨trivial,rfl,?_⟩;gi_at_call 50;obtain ⟨U,hU⟩:∃ U,U=w1.alloc (.cells #[.slice none 0 0] 61):=⟨_,rfl⟩;rw [<- hU];refine (callsIn_wide.2 (cn_ a0 L.length c0 61 #[] U)).mono ?_;rintro e w4 ⟨rfl,hw4⟩;obtain ⟨W0,rfl⟩:∃ W0,W0=w4:=⟨_,rfl⟩;have HW4:=hq_ hw4;have HU:=hq_ hU;clear hw4 hU)
  | (refine ⟨trivial,?_⟩;apply_assumption))
 have hw4:=HW4.out;have hU:=HU.out;have hUs:U.heap.size=w1.heap.size+1:=by rw [hU];simp
 have hws:w.heap.size+3≤w1.heap.size:=by have:=HX2.out.lt;omega
 have hEU:Below w1.heap.size w1 U:=by rw [hU];exact xE
 have hEW:Below U.heap.size U W0:=by rw [hw4];exact xE
 have hE:Below w1.heap.size w1 W0:=Et hEU hEW;have hsz:W0.heap.size=U.heap.size+2:=by rw [hw4];simp
 have hob:Bxx W0 w1.heap.size #[.slice none 0 0] 61:=Bxx.below (by rw [hU];exact Bxx.at rfl) hEW;have hdb:Bxx W0 U.heap.size #[.slice a0 L.length c0] 25:=by rw [hw4];exact (Bxx.at rfl).alloc _
 have hpb:Bxx W0 (U.heap.size+1) #[.func (.func 61) #[] #[]] 88:=by rw [hw4];exact Bxx.at sq_
 have hA0:ClW w (.slice a0 L.length c0) w1.heap.size (fun q=>U.heap.size≤q∧q<U.heap.size+2) (.slice none 0 0) [] W0:=by
  refine ⟨Et HB1.out hE,fun t ht=>?_,hob,oq_,fun t ht=>?_,OwnG.nil⟩
  ·rcases List.mem_cons.1 ht with rfl|ht
   ·exact HX0.out.below hE
   ·rcases List.mem_cons.1 ht with rfl|ht
    ·exact HX1.out.below hE
    ·obtain rfl:=List.mem_singleton.1 ht;exact HX2.out.below hE
  ·rcases List.mem_cons.1 ht with rfl|ht
   ·show w.heap.size≠_;omega
   ·rcases List.mem_cons.1 ht with rfl|ht
    ·show w.heap.size+1≠_;omega
    ·obtain rfl:=List.mem_singleton.1 ht;show w.heap.size+1+1≠_;omega
 have hwW:Below w.heap.size w W0:=Et HB1.out hE;obtain ⟨S,hS⟩:∃ S,S=L.filter fun y=>y.firm:=⟨_,rfl⟩;have hit:d9_ (fun k=>k<w.heap.size∨(U.heap.size≤k∧k<U.heap.size+2)) 94 #[.pointer (some ⟨U.heap.size,0,none⟩),.pointer (some ⟨U.heap.size+1,0,none⟩)] S W0:=by
  rw [hS];refine dm_ _ _ a0 c0 U.heap.size (U.heap.size+1) L _ _ _ W0 (HD.out.ext hwW) (fun k hk=>.inl hk.2) (fun k hk=>oq_) hdb hpb (.inr ⟨oq_,oq_⟩) (.inr ⟨oq_,oq_⟩) (enters_of Tryz.func61 (by kernel_rfl) rfl) fun W y hk hy=>?_;obtain ⟨y1,d1,y2,d2,hcv,hev⟩:=(HD.out.all y hy).1.form;have:=kk_ y1 y2 y.s.cls.length d1 y.s.ext.length d2 y.id y.rank y.s.len y.firm W;rw [EntV.val,hcv,hev];exact this
 have hSe:ec_ (L.map EntV.ent)=S.map EntV.ent:=by
  rw [hS];exact (dh_ fun y=>rfl).symm
 have hSm:∀ y∈L,SmS y.s∧InI y.id:=fun y hy=>⟨(HSD.out.good y.ent (List.mem_map.2 ⟨y,hy,rfl⟩)).2,(HD.out.all y hy).2.1⟩;have hSs:∀ y∈S,y∈L:=fun y hy=>by rw [hS] at hy;exact (List.mem_filter.1 hy).1
 have hSl:S.length≤900:=by rw [hS];have:=List.length_filter_le (fun y:EntV=>y.firm) L;have:=HLL.out;omega
 have HIT:=hq_ hit;have HA0:=hq_ hA0;have HSE:=hq_ hSe;have HSM:=hq_ hSm;have HSS:=hq_ hSs;have HSL:=hq_ hSl;have HWW:=hq_ hwW;have HUS:=hq_ hUs;clear hUs hw4 hU hEU hEW hE hob hdb hpb hA0 hit hSe hSm hSs hSl hwW hS r0 r1;refine n6_ (α:=EntV) (x:=none) (gf:=94) (lb:=#[.pointer (some ⟨U.heap.size,0,none⟩),.pointer (some ⟨U.heap.size+1,0,none⟩)]) rfl (enters_of Tryz.func94 (by kernel_rfl) rfl) HIT.out
  (fun h k=>h.trans k) (fun W1 l o o' hl ho hc=>KpB.putObj (fun q h=>by have hUs:=HUS.out;omega) W1 l o o' hl ho hc) (fun W1 W2 hn hg q hq=>hg.block q (by have hUs:=HUS.out;omega) sq_) (fun y=>rfl)
  (fun pre W'=>∃ lv R,ClI (dl_ (L.map EntV.ent) (pre.map EntV.ent)) R∧ClW w (.slice a0 L.length c0) w1.heap.size (fun q=>U.heap.size≤q∧q<U.heap.size+2) lv R W'∧R.length≤900*pre.length∧KeepsOthers W0 W')
  (fun c' _ W'=>c'=.ret∧gk_ (L.map EntV.ent) w W0 W')
  (fun pre A' C row hI hg hr=>by
   have hr':∀ r,row=some r->W0.heap.size≤r∧∃ o:Obj,A'.heap[r]? = some o∧o.isCells=false:=fun r e=>by
    rcases hr r e with ⟨h,_⟩|h
    ·cases h
    ·exact h
   obtain ⟨lv,R,h1,h2,h3,h4⟩:=hI;exact ⟨lv,R,h1,AccW.grow h2 hg fun r e=>⟨by have:=(hr' r e).1;have hUs:=HUS.out;omega,(hr' r e).2⟩,h3,KeepsOthers.grow h4 hg fun r e=>(hr' r e).1⟩)
  (fun c' pre A' C row hI hg hr=>by
   have hr':∀ r,row=some r->W0.heap.size≤r∧∃ o:Obj,A'.heap[r]? = some o∧o.isCells=false:=fun r e=>by
    rcases hr r e with ⟨h,_⟩|h
    ·cases h
    ·exact h
   exact ⟨hI.1,hI.2.grow hg (by have hUs:=HUS.out;omega) hr'⟩)
  (fun pre y W1 l o o' hl ho h=>EyE.put pre y W1 l o o' hl ho h) (fun pre y W1 W2 hg h=>EyE.grown pre y W1 W2 hg h) ⟨_,[],ClI.nil,HA0.out,sq_,KeepsOthers.refl _⟩
  (fun y a' W1=>∃ ab,a'=⟨#[.slice a0 L.length c0,.pointer (some ⟨w.heap.size,0,none⟩),.pointer (some ⟨w.heap.size+1,0,none⟩),.pointer (some ⟨w.heap.size+1+1,0,none⟩),.pointer (some ⟨w1.heap.size,0,none⟩),.pointer (some ⟨ab,0,none⟩),undef,undef,undef,undef,undef,undef,.slice a0 L.length c0,.bool true,.bool false,.slice a0 L.length c0,.func (.func 94) #[] #[.pointer (some ⟨U.heap.size,0,none⟩),.pointer (some ⟨U.heap.size+1,0,none⟩)],y.val,undef,undef,undef,undef,undef,undef,undef,undef,undef,undef,undef,undef,undef,undef,undef,undef,undef,undef,undef,undef,undef,undef,undef,undef,undef,undef,undef,undef,undef,undef,undef,undef,undef,undef,undef,undef],[]⟩∧fm_ W0.heap.size ab y W1)
  (fun y a' W1 l o o' _ hl ho h=>⟨h.choose,h.choose_spec.1,h.choose_spec.2.put hl ho⟩) ?assign ?body ?done ?stop
 case assign=>
  rintro l pre ⟨id,fm,rk,cv,ev,s⟩ W' K hW' _ ⟨-,hst,-,-⟩ hK;obtain ⟨x1,d1,x2,d2,hcv,hev⟩:=hst.form;dsimp only at hcv hev;subst hcv;subst hev;dsimp only [EntV.val] at hK ⊢
  gi_wp2
  exact hK _ _ (World.grownBy_alloc _ _ _) ⟨W'.heap.size,rfl,hW',Bxx.at rfl⟩
 case body=>
  rintro l pre ⟨id,fm,rk,cv,ev,s⟩ _ W' hl0 ⟨lp,hlp⟩ ⟨lv,R,hI,hA,hRl,hKO⟩ ⟨⟨r,hr⟩,hst,-,-⟩ ⟨ab,rfl,hnb,hbx⟩;obtain ⟨x1,d1,x2,d2,hcv,hev⟩:=hst.form;dsimp only at hcv hev hst;subst hcv;subst hev;have hyL:=HSS.out _ (show (⟨id,fm,rk,.slice x1 s.cls.length d1,.slice x2 s.ext.length d2,s⟩:EntV)∈S by rw [hr];simp);obtain ⟨hsm,hid⟩:=HSM.out _ hyL;dsimp only at hsm hid;have hprl:pre.length+1≤900:=by have:=HSL.out;rw [hr] at this;simp at this;omega
  dsimp only [EntV.val];change Bxx W' ab (entA id rk fm x1 s.cls.length d1 s.len x2 s.ext.length d2) _ at hbx;obtain ⟨E,hEe⟩:∃ E:Ent,E=⟨id,fm,rk,s⟩:=⟨_,rfl⟩;have hfd:ec_ (L.map EntV.ent)=pre.map EntV.ent ++ E :: r.map EntV.ent:=by rw [HSE.out,hr,List.map_append,List.map_cons,hEe];rfl
  have hpe:((pre ++ [⟨id,fm,rk,.slice x1 s.cls.length d1,.slice x2 s.ext.length d2,s⟩]:List EntV)).map EntV.ent=pre.map EntV.ent ++ [E]:=by rw [List.map_append,hEe];rfl
  have r0:=(hA.b0.cells 0).1;have hw0:=hKO.size;have hab:=hbx.lt;have hwA:=hA.below.size;have HA:=hq_ hA;have HBX:=hq_ hbx;have HKO:=hq_ hKO;have HI:=hq_ hI;have HFD:=hq_ hfd;have HPE:=hq_ hpe;have HRL:=hq_ hRl;have HPR:=hq_ hprl;have HSMA:=hq_ hsm;have HKA:Hid (∀ y∈L,eb_ s y.s∧fa_ s y.s):=hq_ (HKK0.out _ hyL);have HIDA:=hq_ hid;have HEE:=hq_ hEe;have HLP:=hq_ hlp;have HSA:=hq_ (fun W (hb:Below w.heap.size w W)=>((HD.out.all _ hyL).1.ext hb:StrR W _ (.slice x1 s.cls.length d1) (.slice x2 s.ext.length d2) s));clear hA hbx hKO hI hfd hpe hRl hprl hsm hid hEe hlp hst hr hyL;gi_wp2_with (refine ⟨trivial,rfl,?_⟩;gi_at_call 50;refine (CallsIn.inRound l (callsIn_wide.2 (cn_ a0 L.length c0 69 #[.pointer (some ⟨ab,0,none⟩)] W'))).mono ?_;rintro e w4 ⟨rfl,hw4⟩;obtain ⟨Wi,rfl⟩:∃ Wi,Wi=w4:=⟨_,rfl⟩;have HWI:=hq_ hw4;clear hw4)
  have hw4:=HWI.out;obtain ⟨V,hV⟩:∃ V,V=W':=⟨_,rfl⟩;have hEV:Below V.heap.size V Wi:=by rw [hV,hw4];exact xE
  have HEV0:Hid (Below W'.heap.size W' Wi):=hq_ (by rw [<- hV];exact hEV);have HKV0:Hid (KeepsOthers W' Wi):=hq_ (KeepsOthers.of_below HEV0.out);have hsz2:Wi.heap.size=V.heap.size+2:=by rw [hV,hw4];simp
  have hdb:Bxx Wi V.heap.size #[.slice a0 L.length c0] 25:=by rw [hV,hw4];exact (Bxx.at rfl).alloc _
  have hpb:Bxx Wi (V.heap.size+1) #[.func (.func 69) #[] #[.pointer (some ⟨ab,0,none⟩)]] 88:=by rw [hV,hw4];exact Bxx.at sq_
  have HKO0:=HKO;have HVE:=hq_ hV;rw [<- hV] at HA HBX HKO HLP hab hwA hw0 ⊢;have hEV:=hEV;clear hw4 hV r0;have hA2:ClW w (.slice a0 L.length c0) w1.heap.size (fun q=>((U.heap.size≤q∧q<U.heap.size+2)∨q=ab)∨(V.heap.size≤q∧q<V.heap.size+2)) lv R Wi:=((AccW.addB HA.out HBX.out dq_).mono aa_ (E':=(fun q=>((U.heap.size≤q∧q<U.heap.size+2)∨q=ab)∨(V.heap.size≤q∧q<V.heap.size+2))) fun k hk=>hk.imp (fun h=>h) (fun h=>h.1)).ext aa_ hEV;have hab2:Bxx Wi ab _ _:=HBX.out.below hEV;have hli:Wi.heap[l]? = some (.loop lp):=(hEV.block l (Array.getElem?_eq_some_iff.1 HLP.out).1).trans HLP.out;obtain ⟨S2,hS2⟩:∃ S2,S2=L.filter fun y=>y.firm && decide (y.id > id):=⟨_,rfl⟩;have hwWi:Below w.heap.size w Wi:=hA2.below;have hit2:d9_ (fun k=>k<w.heap.size∨k=ab∨(V.heap.size≤k∧k<V.heap.size+2)) 94 #[.pointer (some ⟨V.heap.size,0,none⟩),.pointer (some ⟨V.heap.size+1,0,none⟩)] S2 Wi:=by
   rw [hS2];refine dm_ _ _ a0 c0 V.heap.size (V.heap.size+1) L _ _ _ Wi (HD.out.ext hwWi) (fun k hk=>.inl hk.2) (fun k hk=>by have hUs:=HUS.out;omega) hdb hpb (.inr (.inr ⟨by have hUs:=HUS.out;omega,by have hUs:=HUS.out;omega⟩)) (.inr (.inr ⟨by have hUs:=HUS.out;omega,by have hUs:=HUS.out;omega⟩)) (enters_of Tryz.func69 (by kernel_rfl) rfl) fun W y hk hy=>?_;obtain ⟨y1,d1,y2,d2,hcv,hev⟩:=(HD.out.all y hy).1.form;have hc:=KpB.cell (A:=Wi) hk (a:=⟨ab,0,none⟩) (.inr (.inl rfl)) ((hab2.cells 0).1);have:=m1_ y1 y2 y.s.cls.length d1 y.s.ext.length d2 y.id y.rank y.s.len y.firm ab id W hc;rw [EntV.val,hcv,hev];exact this
  have hS2e:e3_ (L.map EntV.ent) E=S2.map EntV.ent:=by
   rw [hS2,HEE.out];exact (dh_ fun y=>rfl).symm
  have hS2s:∀ y∈S2,y∈L:=fun y hy=>by rw [hS2] at hy;exact (List.mem_filter.1 hy).1
  have hS2l:S2.length≤900:=by rw [hS2];have:=List.length_filter_le (fun y:EntV=>y.firm && decide (y.id > id)) L;have:=HLL.out;omega
  have HIT2:=hq_ hit2;have HA2:=hq_ hA2;have HAB2:=hq_ hab2;have HLI:=hq_ hli;have HS2E:=hq_ hS2e;have HS2S:=hq_ hS2s;have HS2L:=hq_ hS2l;have HKV:=hq_ (KeepsOthers.of_below hEV);have HEV:=hq_ hEV;clear hEV hdb hpb hA2 hab2 hli hS2 hwWi hit2 hS2e hS2s hS2l;refine n7_ (α:=EntV) (x:=none) HLI.out (gf:=94) (lb:=#[.pointer (some ⟨V.heap.size,0,none⟩),.pointer (some ⟨V.heap.size+1,0,none⟩)]) rfl (enters_of Tryz.func94 (by kernel_rfl) rfl) HIT2.out
   (fun h k=>h.trans k) (fun W1 l o o' hl ho hc=>KpB.putObj (fun q h=>by have hUs:=HUS.out;omega) W1 l o o' hl ho hc) (fun W1 W2 hn hg q hq=>hg.block q (by have hUs:=HUS.out;omega) sq_) (fun y=>rfl)
   (fun pre2 W2=>∃ lv R,ClI (dl_ (L.map EntV.ent) (pre.map EntV.ent) ++ (pre2.map EntV.ent).map fun b=>(E,b)) R∧ClW w (.slice a0 L.length c0) w1.heap.size (fun q=>((U.heap.size≤q∧q<U.heap.size+2)∨q=ab)∨(V.heap.size≤q∧q<V.heap.size+2)) lv R W2∧R.length≤900*pre.length+pre2.length∧KeepsOthers Wi W2∧Bxx W2 ab (entA id rk fm x1 s.cls.length d1 s.len x2 s.ext.length d2) 57∧KpB (fun k=>k<w.heap.size∨(U.heap.size≤k∧k<U.heap.size+2)) Wi W2)
   (fun c' _ W2=>c'=.ret∧gk_ (L.map EntV.ent) w Wi W2)
   (fun pre A' C row hI hg hr=>by
   have hr':∀ r,row=some r->Wi.heap.size≤r∧∃ o:Obj,A'.heap[r]? = some o∧o.isCells=false:=fun r e=>by
    rcases hr r e with ⟨h,_⟩|h
    ·cases h
    ·exact h
   obtain ⟨lv,R,h1,h2,h3,h4,h5,h6⟩:=hI;exact ⟨lv,R,h1,AccW.grow h2 hg fun r e=>⟨by have:=(hr' r e).1;have hUs:=HUS.out;omega,(hr' r e).2⟩,h3,KeepsOthers.grow h4 hg fun r e=>(hr' r e).1,h5.grown hg (fun e=>by have:=(hr' _ e.symm).1;have hUs:=HUS.out;omega),fun q hq=>(hg.block q (by have:=h4.size;omega) fun e=>by have:=(hr' _ e.symm).1;have hUs:=HUS.out;omega).trans (h6 q hq)⟩)
   (fun c' pre A' C row hI hg hr=>by
   have hr':∀ r,row=some r->Wi.heap.size≤r∧∃ o:Obj,A'.heap[r]? = some o∧o.isCells=false:=fun r e=>by
    rcases hr r e with ⟨h,_⟩|h
    ·cases h
    ·exact h
   exact ⟨hI.1,hI.2.grow hg (by have hUs:=HUS.out;omega) hr'⟩)
   (fun pre y W1 l o o' hl ho h=>EyE.put pre y W1 l o o' hl ho h) (fun pre y W1 W2 hg h=>EyE.grown pre y W1 W2 hg h) ⟨lv,R,by rw [List.map_nil,List.map_nil,List.append_nil];exact HI.out,HA2.out,by have:=HRL.out;simpa using this,KeepsOthers.refl _,HAB2.out,KpB.refl _ _⟩
   (fun y a' W1=>∃ bb,a'=⟨#[.slice a0 L.length c0,.pointer (some ⟨w.heap.size,0,none⟩),.pointer (some ⟨w.heap.size+1,0,none⟩),.pointer (some ⟨w.heap.size+1+1,0,none⟩),.pointer (some ⟨w1.heap.size,0,none⟩),.pointer (some ⟨ab,0,none⟩),.pointer (some ⟨bb,0,none⟩),undef,undef,undef,undef,undef,.slice a0 L.length c0,.bool true,.bool false,.slice a0 L.length c0,.func (.func 94) #[] #[.pointer (some ⟨U.heap.size,0,none⟩),.pointer (some ⟨U.heap.size+1,0,none⟩)],.agg #[.int .i64 id,.bool fm,.int .i64 rk,.slice x1 s.cls.length d1,.int .i64 s.len,.slice x2 s.ext.length d2],.slice a0 L.length c0,.func (.func 69) #[] #[.pointer (some ⟨ab,0,none⟩)],.func (.func 94) #[] #[.pointer (some ⟨V.heap.size,0,none⟩),.pointer (some ⟨V.heap.size+1,0,none⟩)],y.val,undef,undef,undef,undef,undef,undef,undef,undef,undef,undef,undef,undef,undef,undef,undef,undef,undef,undef,undef,undef,undef,undef,undef,undef,undef,undef,undef,undef,undef,undef,undef,undef],[]⟩∧fm_ Wi.heap.size bb y W1)
   (fun y a' W1 l o o' _ hl ho h=>⟨h.choose,h.choose_spec.1,h.choose_spec.2.put hl ho⟩) ?assign2 ?body2 ?done2 ?stop2
  case assign2=>
   rintro l pre ⟨id,fm,rk,cv,ev,s⟩ W' K hW' _ ⟨-,hst,-,-⟩ hK;obtain ⟨x1,d1,x2,d2,hcv,hev⟩:=hst.form;dsimp only at hcv hev;subst hcv;subst hev;dsimp only [EntV.val] at hK ⊢
   gi_wp2
   exact hK _ _ (World.grownBy_alloc _ _ _) ⟨W'.heap.size,rfl,hW',Bxx.at rfl⟩
  case body2=>
   rintro l2 pre2 ⟨jd,gm,sk,cv,ev,t⟩ _ W2 hl2 _ ⟨lv2,R2,hI2,hA3,hRl2,hKO2,hab3,hkp⟩ ⟨⟨r2,hr2⟩,hst2,-,-⟩ ⟨bb,rfl,hnb2,hbx2⟩;obtain ⟨y1,f1,y2,f2,hcv,hev⟩:=hst2.form;dsimp only at hcv hev;subst hcv;subst hev;have hzL:=HS2S.out _ (show (⟨jd,gm,sk,.slice y1 t.cls.length f1,.slice y2 t.ext.length f2,t⟩:EntV)∈S2 by rw [hr2];simp);obtain ⟨hsm2,hjd⟩:=HSM.out _ hzL;dsimp only at hsm2 hjd;have hpr2:pre2.length+1≤900:=by have:=HS2L.out;rw [hr2] at this;simp at this;omega
   dsimp only [EntV.val];change Bxx W2 bb (entA jd sk gm y1 t.cls.length f1 t.len y2 t.ext.length f2) _ at hbx2;obtain ⟨G,hGe⟩:∃ G:Ent,G=⟨jd,gm,sk,t⟩:=⟨_,rfl⟩;have haf:e3_ (L.map EntV.ent) E=pre2.map EntV.ent ++ G :: r2.map EntV.ent:=by rw [HS2E.out,hr2,List.map_append,List.map_cons,hGe];rfl
   have hpe2:((pre2 ++ [⟨jd,gm,sk,.slice y1 t.cls.length f1,.slice y2 t.ext.length f2,t⟩]:List EntV)).map EntV.ent=pre2.map EntV.ent ++ [G]:=by rw [List.map_append,hGe];rfl
   have p3:=(hab3.cells 3).1;have p4:=(hab3.cells 4).1;have p5:=(hab3.cells 5).1;have q3:=(hbx2.cells 3).1;have q4:=(hbx2.cells 4).1;have q5:=(hbx2.cells 5).1;have HSB:=hq_ (fun W (hb:Below w.heap.size w W)=>((HD.out.all _ hzL).1.ext hb:StrR W _ (.slice y1 t.cls.length f1) (.slice y2 t.ext.length f2) t));obtain ⟨hmk,hfk⟩:eb_ s t∧fa_ s t:=HKA.out _ hzL;have HMT:=hmk _ _ (.slice x1 s.cls.length d1) (.slice x2 s.ext.length d2) (.slice y1 t.cls.length f1) (.slice y2 t.ext.length f2) W2 (HSA.out _ hA3.below) (HSB.out _ hA3.below);have HFS:=hq_ (fun W (hb:Below w.heap.size w W)=>hfk _ _ (.slice x1 s.cls.length d1) (.slice x2 s.ext.length d2) (.slice y1 t.cls.length f1) (.slice y2 t.ext.length f2) W (HSA.out _ hb) (HSB.out _ hb));obtain ⟨ky,hky⟩:∃ ky,mYes s t=ky:=⟨_,rfl⟩;obtain ⟨kk,hkk⟩:∃ kk,mErr s t=kk:=⟨_,rfl⟩;have hkc:=jg_ s t;rw [hky,hkk] at HMT hkc;have HMT:=hq_ HMT;have hky2:mYes (E,G).1.s (E,G).2.s=ky:=by rw [HEE.out,hGe];exact hky
   have hkk2:mErr (E,G).1.s (E,G).2.s=kk:=by rw [HEE.out,hGe];exact hkk
   have hws2:=hA3.below.size;have hw2:=hKO2.size;have hbb:=hbx2.lt;have HA3:=hq_ hA3;have HAB3:=hq_ hab3;have HBX2:=hq_ hbx2;have HKO2:=hq_ hKO2;have HI2:=hq_ hI2;have HPE2:=hq_ hpe2;have HKY:=hq_ hky2;have HKK:=hq_ hkk2;have HAF:=hq_ haf;have HRL2:=hq_ hRl2;have HPR2:=hq_ hpr2;have HSM2:=hq_ hsm2;have HJD:=hq_ hjd;have HKP:=hq_ hkp;have HGE:=hq_ hGe;clear hkp hA3 hab3 hbx2 hKO2 hI2 hpe2 hky2 hkk2 haf hRl2 hpr2 hsm2 hjd hGe hst2 hr2 hky hkk hzL hmk hfk;rcases hkc with hkc|⟨hkc,hky⟩
   ·subst hkc;cases ky with
    | false=>
     have HP:=hq_ (HI2.out.pass HKK.out HKY.out);gi_wp2_with (refine ⟨trivial,rfl,?_⟩;gi_at_call 70;refine (CallsIn.inRound l2 (callsIn_wide.2 HMT.out)).mono ?_;rintro e w5 ⟨rfl,hb5⟩;have HA5:=hq_ (HA3.out.ext aa_ hb5);have HB5:=hq_ hb5;clear hb5)
     exact ⟨(KeepsOthers.of_below HB5.out).from _,fun q hq=>HB5.out.block q (by have hUs:=HUS.out;omega),lv2,R2,by rw [HPE2.out,List.map_append,<- List.append_assoc];exact HP.out,HA5.out,by have:=HRL2.out;simp;omega,HKO2.out.trans (KeepsOthers.of_below HB5.out),HAB3.out.below HB5.out,fun q hq=>(HB5.out.block q (by have hUs:=HUS.out;omega)).trans (HKP.out q hq)⟩
    | true=>
     obtain ⟨oa,oc,rfl,-⟩:=HA3.out.row.form;have HRR:Hid (R2.length+1≤1000000):=hq_ (by have h1:=HRL2.out;have h2:=HPR2.out;have h3:=HPR.out;omega);gi_wp2_with (first
      | (refine ⟨trivial,rfl,?_⟩;gi_at_call 70;refine (CallsIn.inRound l2 (callsIn_wide.2 HMT.out)).mono ?_;rintro e w5 ⟨rfl,hb5⟩;have HA5:=hq_ (HA3.out.ext aa_ hb5);have HB5:=hq_ hb5;clear p3 p4 p5 q3 q4 q5;have ha5:=HAB3.out.below hb5;have hb6:=HBX2.out.below hb5;have p3:=(ha5.cells 3).1;have p4:=(ha5.cells 4).1;have p5:=(ha5.cells 5).1;have q3:=(hb6.cells 3).1;have q4:=(hb6.cells 4).1;have q5:=(hb6.cells 5).1;have HAB5:=hq_ ha5;have HBB5:=hq_ hb6;clear hb5 ha5 hb6)
      | (refine ⟨trivial,rfl,?_⟩;gi_at_call 71;refine (CallsIn.inRound l2 (callsIn_wide.2 (HFS.out _ HA5.out.below))).mono ?_;rintro e w6 ⟨⟨xd,xf,xt⟩,⟨yd,yf,yt⟩,fb,rfl,hF,hb6⟩;have HB6:=hq_ (Et HB5.out hb6);clear p3 p4 p5 q3 q4 q5;have hE7:Below w6.heap.size w6 ((w6.alloc (.cells #[.int .i64 xd,.int .i64 xf,.int .i64 xt] 77)).alloc (.cells #[.int .i64 yd,.int .i64 yf,.int .i64 yt] 77)):=xE;have hE8:=Et hb6 hE7;have HA7:=hq_ (HA5.out.ext aa_ hE8);have p0:=((HAB5.out.below hE8).cells 0).1;have q0:=((HBB5.out.below hE8).cells 0).1;have o0:=(HA7.out.b6.cells 0).1;have HA8:=hq_ (HA7.out.ext aa_ (Ea (Er _) (.cells #[.int .i64 id,.int .i64 jd,.int .i64 xd,.int .i64 xf,.int .i64 xt,.int .i64 yd,.int .i64 yf,.int .i64 yt] 79)));have HF:=hq_ hF;have hz6:=hb6.size;have hz5:=HB5.out.size;clear hF hb6 hE7 hE8)
      | (refine bz_ rq_ _ _ _ _ rq_ iP _ 8 64 Tryz.underlying61 HIP.out.1 HIP.out.2.1 HIP.out.2.2.1 HIP.out.2.2.2 rfl dq_ dq_ w.heap.size (.slice oa R2.length oc) R2.length (R2.flatMap penc) (penc ⟨id,jd,⟨xd,xf,xt⟩,⟨yd,yf,yt⟩⟩) rfl rq_ HA8.out.row.row (w6.heap.size+1+1) 1 rq_ (al_ (Bxx.at sq_)) (v0_ _) HRR.out (by have hUs:=HUS.out;simp;omega) ?_;intro v' w9 hown9 hgrow9 hloc9;obtain ⟨na,nc,rfl⟩:=a5_ hown9;have d2:=(HA8.out.b6.grown hgrow9 fun e=>HA8.out.row.ne _ e.symm (.inr (.inl rfl))).cells 0;have d3:=d2.1;have d4:=d2.2;have HO9:=hq_ hown9;have HG9:=hq_ hgrow9;have HL9:=hq_ hloc9;clear hown9 hgrow9 hloc9 d2))
     have hpi:j1_ (E,G) ⟨id,jd,⟨xd,xf,xt⟩,⟨yd,yf,yt⟩⟩:=⟨by rw [HEE.out],by rw [HGE.out],fb,by rw [HEE.out,HGE.out];exact HF.out⟩;obtain ⟨hix,hiy⟩:=rp_ HSMA.out.ms HSM2.out.ms HF.out;have HP:=HI2.out.hit' HKK.out HKY.out hpi;have HP9:=HA8.out.push aa_ (y:=⟨id,jd,⟨xd,xf,xt⟩,⟨yd,yf,yt⟩⟩) ⟨HIDA.out,HJD.out,hix,hiy⟩ HO9.out HG9.out HL9.out (by have hUs:=HUS.out;simp;omega) (by have:=HRR.out;omega);have hE8:Below w6.heap.size w6 (((w6.alloc (.cells #[.int .i64 xd,.int .i64 xf,.int .i64 xt] 77)).alloc (.cells #[.int .i64 yd,.int .i64 yf,.int .i64 yt] 77)).alloc (.cells #[.int .i64 id,.int .i64 jd,.int .i64 xd,.int .i64 xf,.int .i64 xt,.int .i64 yd,.int .i64 yf,.int .i64 yt] 79)):=by exact xE
     have hE9:=Et HB6.out hE8;have hKO9:=(KeepsOthers.grown_cells (KeepsOthers.of_below hE9) HG9.out HA8.out.row.cells).trans (KeepsOthers.setCell w9 ⟨w1.heap.size,0,none⟩ (.slice na (R2.length+1) nc));have hab9:=HAB3.out.below hE9;have hkeep:∀ q,q<w.heap.size∨(U.heap.size≤q∧q<U.heap.size+2)∨q=ab∨(V.heap.size≤q∧q<V.heap.size+2)->(w9.setCell ⟨w1.heap.size,0,none⟩ (.slice na (R2.length+1) nc)).heap[q]? = W2.heap[q]?:=fun q hq=>by
      refine (HA8.out.kept HG9.out (k:=q) (by have hUs:=HUS.out;simp;omega) ?_ (by have hUs:=HUS.out;omega)).trans (hE9.block q (by have hUs:=HUS.out;omega));rcases hq with hq|hq|hq|hq
      ·exact .inl hq
      ·exact .inr (.inr (.inl (.inl hq)))
      ·exact .inr (.inr (.inl (.inr hq)))
      ·exact .inr (.inr (.inr hq))
     exact ⟨hKO9.from _,fun q hq=>hkeep q (hq.elim .inl fun h=>.inr (.inr h)),_,_,by rw [HPE2.out,List.map_append,<- List.append_assoc];exact HP,HP9,by have:=HRL2.out;simp;omega,HKO2.out.trans hKO9,(hab9.grown HG9.out fun e=>HA8.out.row.ne _ e.symm (.inr (.inr (.inl (.inr rfl))))).setNe _ (by have hUs:=HUS.out;omega),fun q hq=>(hkeep q (hq.elim .inl fun h=>.inr (.inl h))).trans (HKP.out q hq)⟩
   ·subst hkc;subst hky;gi_wp2_with (refine ⟨trivial,rfl,?_⟩;gi_at_call 70;refine (CallsIn.inRound l2 (callsIn_wide.2 HMT.out)).mono ?_;rintro e w5 ⟨rfl,hb5⟩;have HA5:=hq_ (HA3.out.ext aa_ hb5);have HB5:=hq_ hb5;have z1:=(ClW.b1 HA5.out).cells 0;have z2:=(ClW.b2 HA5.out).cells 0;have z3:=z1.1;have z4:=z1.2;have z5:=z2.1;have z6:=z2.2;clear hb5 z1 z2)
    obtain ⟨u,hu⟩:=sm_ HFD.out HAF.out;have hfail:=HI2.out.fail (by rw [HKK.out];decide) hu;rw [HKK.out] at hfail;have h5:=(ClW.b1 HA5.out).lt;have hK:=((KeepsOthers.of_below HB5.out).trans ((KeepsOthers.setCell w5 ⟨w.heap.size+1,0,none⟩ (.slice none 0 0)).trans (KeepsOthers.setCell _ ⟨w.heap.size+1+1,0,none⟩ (.int .i64 2))));refine ⟨hK.from _,rfl,2,hfail,?_,?_,?_,HKO2.out.trans hK⟩
    ·exact Bxx.setNe (t:=61) (c:=#[.slice none 0 0]) (a0_ 0 (.slice none 0 0) (ClW.b1 HA5.out)) _ sq_
    ·exact a0_ 0 (.int .i64 2) ((ClW.b2 HA5.out).setNe (k:=w.heap.size+1) (i:=0) (.slice none 0 0) sq_)
    ·exact (HA5.out.below.setCell (p:=⟨w.heap.size+1,0,none⟩) sq_ _).setCell (p:=⟨w.heap.size+1+1,0,none⟩) (by have hUs:=HUS.out;simp;omega) _
  case done2=>
   rintro xs2 W2 rfl ⟨lv2,R2,hI2,hA3,hRl2,hKO2,hab3,hkp⟩;rw [<- HS2E.out,<- nq_] at hI2;have HI2:=hq_ hI2;have HA3:=hq_ hA3;have HRL2:=hq_ hRl2;have HKO2:=hq_ hKO2;have HKP:=hq_ hkp;clear hI2 hA3 hRl2 hKO2 hab3 hkp;gi_wp2_with fail
   have hK:=HKV0.out.trans HKO2.out;exact ⟨hK.from _,fun q hq=>(HKP.out q hq).trans ((HEV.out.block q (by have hUs:=HUS.out;omega)).trans (by rw [HVE.out])),lv2,R2,by rw [HPE.out];exact HI2.out,HA3.out.mono aa_ fun q hq=>.inl (.inl (.inl hq)),by have h1:=HRL2.out;have h2:=HS2L.out;simp;omega,HKO0.out.trans hK⟩
  case stop2=>
   rintro c' pre2 W2 ⟨rfl,hf⟩;have HF:=hq_ hf;clear hf;gi_wp2_with fail
   obtain ⟨k,h1,h2,h3,h4,h5⟩:=HF.out;have hK:=HKV0.out.trans h5;exact ⟨hK.from _,rfl,k,h1,h2,h3,h4,HKO0.out.trans hK⟩
 case done=>
  rintro D xs2 W' hD rfl ⟨lv,R,hI,hA,hRl,hKO⟩ hdef;rw [<- HSE.out] at hI;have HM:Hid (aj_ w.heap.size [{ target:=.collected D,args:=#[] }] W'):=hq_ (bt_ (by have:=HWW.out.size;omega) hdef);have q1:=(hA.b6.cells 0).1;have z1:=hA.b1.cells 0;have z2:=hA.b2.cells 0;have z3:=z1.1;have z4:=z1.2;have z5:=z2.1;have z6:=z2.2;have hws2:=hA.below.size;have h5:=hA.b1.lt;have h6:=hA.b6.lt;have HA:=hq_ hA;have HI:=hq_ hI;obtain ⟨oa,oc,rfl,-⟩:=HA.out.row.form;clear hI hA hRl hKO hdef z1 z2;gi_wp2_with fail
  have hn1:=HA.out.row.ne;have hrow:=((HA.out.row.setO (q:=w.heap.size+1) (i:=0) (.slice oa R.length oc) (fun e=>hn1 _ e (.inl ⟨_,List.mem_cons_of_mem _ (List.mem_cons_self ..),rfl⟩))).setO (q:=w.heap.size+1+1) (i:=0) (.int .i64 0) (fun e=>hn1 _ e (.inl ⟨_,List.mem_cons_of_mem _ (List.mem_cons_of_mem _ (List.mem_cons_self ..)),rfl⟩)));refine ah_ (B:=w.heap.size) _ _ (HM.out.keep (((KeepsOthers.setCell W' ⟨w.heap.size+1,0,none⟩ (.slice oa R.length oc)).trans (KeepsOthers.setCell _ ⟨w.heap.size+1+1,0,none⟩ (.int .i64 0))).from _)) fun w' hs=>?_;have hb1:=Bxx.setNe (t:=61) (c:=#[.slice oa R.length oc]) (k:=w.heap.size+1+1) (i:=0) (a0_ 0 (.slice oa R.length oc) (ClW.b1 HA.out)) (.int .i64 0) sq_;have hb2:=a0_ 0 (.int .i64 0) ((ClW.b2 HA.out).setNe (k:=w.heap.size+1) (i:=0) (.slice oa R.length oc) sq_);have hc1:=Bxx.c0 (hs.cells _ _ hb1 rfl);have hc2:=Bxx.c0 (hs.cells _ _ hb2 rfl);exact ⟨.tuple #[.slice oa R.length oc,.int .i64 0],by simp [results,Tryz.results27,go_sem,hc1,hc2],.slice oa R.length oc,R,0,rfl,ClI.done (by rw [<- jj_];exact HI.out),(hrow.shut hs).mono aa_ fun k hk=>hk.elim,((HA.out.below.setCell (p:=⟨w.heap.size+1,0,none⟩) sq_ _).setCell (p:=⟨w.heap.size+1+1,0,none⟩) (by have hUs:=HUS.out;simp;omega) _).trans hs.below⟩
 case stop=>
  rintro D c' pre W' hD ⟨rfl,k,h1,h3,h4,h5,h6⟩ hdef;have HM:Hid (aj_ w.heap.size [{ target:=.collected D,args:=#[] }] W'):=hq_ (bt_ (by have:=HWW.out.size;omega) hdef);have H1:=hq_ h1;have H3:=hq_ h3;have H4:=hq_ h4;have H5:=hq_ h5;clear h1 h3 h4 h5 h6 hdef;gi_wp2_with fail
  refine ah_ (B:=w.heap.size) _ _ HM.out fun w' hs=>?_;have hc1:=Bxx.c0 (hs.cells _ _ H3.out rfl);have hc2:=Bxx.c0 (hs.cells _ _ H4.out rfl);exact ⟨.tuple #[.slice none 0 0,.int .i64 k],by simp [results,Tryz.results27,go_sem,hc1,hc2],.slice none 0 0,[],k,rfl,H1.out,OwnG.nil,H5.out.trans hs.below⟩
end Go.Proofs.YtkclokcenllhmaaGreat
namespace Go.Proofs.YtkclokcenllhmaaGreat
open Go.RowKit Go.Maps Kal
def senc (x:Spn):List Value:=[.int .i64 x.1,.int .i64 x.2]
abbrev sval (x:Spn):Value:=.agg #[.int .i64 x.1,.int .i64 x.2]
theorem er_ (x:Spn):(senc x).length=2:=rfl
theorem d2_ {x:Spn}:∀ u∈senc x,u.oneCell'=true:=fun u hu=>by
 unfold senc at hu;simp at hu;rcases hu with rfl|rfl <;> rfl
def InS (x:Spn):Prop:=InI x.1∧InI x.2
def RSpn (W:World) (F:Nat->Prop) (x:Spn):Prop:=InS x
theorem a8_:bd_ RSpn:=⟨fun h _ _=>h,fun h=>h,fun h _=>h⟩
theorem fl_:∃ i,Tryz.prog.info? 28=some i∧i.zero=some (.agg #[.int .i64 0,.int .i64 0])∧i.size=2∧i.bytes=16:=by
 have h:(Tryz.prog.info? 28).map (fun i=>(i.zero,i.size,i.bytes))=some (some (.agg #[.int .i64 0,.int .i64 0]),2,16):=by kernel_rfl
 obtain ⟨i,hi,h1,h2,h3⟩:=info_parts h;exact ⟨i,hi,h1,h2,h3⟩
abbrev OwnS:=OwnG 28 2 senc RSpn
structure SpnL (W:World) (F:Nat->Prop) (v:Value) (l:List Spn):Prop where
 row:RowR W F v l.length (l.flatMap senc)
 len:l.length≤17592186044416
 all:∀ x∈l,InS x
section
variable {W W':World} {F G:Nat->Prop} {v:Value} {l:List Spn}
theorem SpnL.keep (h:SpnL W F v l) (hk:a3_ F W W') (hs:W.heap.size≤W'.heap.size):SpnL W' F v l:=⟨h.row.keep hk hs,h.len,h.all⟩
theorem SpnL.mono (h:SpnL W F v l) (hF:∀ b,F b->G b):SpnL W G v l:=⟨h.row.mono hF,h.len,h.all⟩
theorem SpnL.lt (h:SpnL W F v l):SpnL W (fun b=>F b∧b<W.heap.size) v l:=⟨h.row.lt,h.len,h.all⟩
theorem SpnL.ext (h:SpnL W F v l) (hb:Below W.heap.size W W'):SpnL W' F v l:=h.keep (a3_.below hb) hb.size
theorem SpnL.form (h:SpnL W F v l):∃ a c,v=.slice a l.length c:=by obtain ⟨a,c,rfl,_⟩:=h.row.is;exact ⟨a,c,rfl⟩
theorem SpnL.nil (W:World) (F:Nat->Prop):SpnL W F (.slice none 0 0) []:=⟨⟨none,0,rfl,sq_,oq_,.inl rfl⟩,sq_,sq_⟩
theorem OwnG.spnL {B:Nat} {A:Nat->Prop} (h:OwnS B A W v l):SpnL W (fun b=>B≤b∧¬ A b) v l:=
 ⟨h.rowR,by have:=h.len;omega,fun x hx=>h.all x hx⟩
theorem SpnL.get {a:Option Addr} {n c:Nat} (h:SpnL W F (.slice a n c) l) {k:Nat} (hk:k<l.length) :
  ∃ b o x y,a=some ⟨b,o,none⟩∧b<W.heap.size∧l.getD k default=(x,y)∧InI x∧InI y∧W.cell? ⟨b,o+k*2,none⟩=some (.int .i64 x)∧W.cell? ⟨b,o+k*2+1,none⟩=some (.int .i64 y):=by
 obtain ⟨a',c',he,h1,h2,h3⟩:=h.row.is;injection he with e1 _ e2
 subst e1;subst e2;rcases h3 with h3|⟨b,o,rfl,hF,hl,hc⟩
 ·omega
 ·have hm:=h.all _ (ac_ (d:=default) hk);exact ⟨b,o,(l.getD k default).1,(l.getD k default).2,rfl,hl,rfl,hm.1,hm.2,hc (k*2+0) _ (a7_ er_ default hk rfl),hc (k*2+1) _ (a7_ er_ default hk rfl)⟩
end
theorem ge_ (t:Int) (w:World) :
  Calls Tryz.prog 104 #[.int .i64 t] w fun e w'=>e=.returned (.bool (decide (t < -2251799813685248∨t > 2251799813685248)))∧w=w':=by
 by_cases h1:t < -2251799813685248
 ·go_enter Tryz.func104,Tryz.ntmps104
  go_wp2;go_ret;exact ⟨a1_ (by first|(simp [h1];done)|(simp [h1];omega)),rfl⟩
 ·go_enter Tryz.func104,Tryz.ntmps104
  go_wp2;go_ret;exact ⟨a1_ (by first|(simp [h1];done)|(simp [h1];omega)),rfl⟩
def farS (x:Spn):Bool:=decide (x.1 < -2251799813685248∨x.1 > 2251799813685248) || decide (x.2 < -2251799813685248∨x.2 > 2251799813685248)
theorem nr_ (x:Spn) (w:World) :
  Calls Tryz.prog 144 #[sval x] w fun e w'=>e=.returned (.bool (farS x))∧Below w.heap.size w w':=by
 obtain ⟨a,b⟩:=x;have HA:=fun W=>ge_ a W;have HB:=fun W=>ge_ b W;unfold farS;dsimp only;generalize decide (a < -2251799813685248∨a > 2251799813685248)=u at *;generalize decide (b < -2251799813685248∨b > 2251799813685248)=v at *;show Calls _ _ #[.agg #[.int .i64 a,.int .i64 b]] _ _;cases u;all_goals
  go_enter Tryz.func144,Tryz.ntmps144
  go_wp2_with (go_at_call 104;first|((with_reducible refine (HA _).mono ?_);rintro e w1 ⟨rfl,rfl⟩)|((with_reducible refine (HB _).mono ?_);rintro e w1 ⟨rfl,rfl⟩))
  go_ret;exact ⟨a1_ sq_,xE⟩
def vu_ (g:Nat) (lb:Array Value) (l:List Spn) (p:Spn->Bool) (w:World):Prop:=
 ∀ (W:World) (x:Spn),Below w.heap.size w W->x∈l->Calls Tryz.prog g (#[sval x] ++ lb) W fun e w'=>e=.returned (.bool (p x))∧Below w.heap.size w w'
theorem py_ (F:Nat->Prop) (v:Value) (l:List Spn) (p:Spn->Bool) (g:Nat) (lb:Array Value) (eg:∀ args w,(callFunc g args).run Tryz.prog w=.ok (.enter g args) w) (w:World) (hv:SpnL w F v l) (hp:vu_ g lb l p w) :
  Calls Tryz.prog 145 #[v,.func (.func g) #[] lb] w fun e w'=>∃ i:Int,e=.returned (.int .i64 i)∧decide (0≤i)=l.any p∧Below w.heap.size w w':=by
 have HPP:=hq_ hp;obtain ⟨a1,c1,rfl⟩:=hv.form;have hlen:=hv.len;have HC:=hq_ hv;clear hp hv
 go_enter Tryz.func145,Tryz.ntmps145
 go_wp2_with fail
 go_loopw [5,8] (fun _ i wr=>∃ k:Nat,k≤l.length∧i=.int .i64 k∧(l.take k).any p=false∧Below w.heap.size w wr) (fun _ i _=>l.length-(intOf i).toNat)
 case atStart=>exact ⟨0,oq_,rfl,rfl,Below.refl _ _⟩
 case round=>
  obtain ⟨k,hk,rfl,hpre,hb⟩:=hrel;have HB:=hq_ hb;have HPRE:=hq_ hpre;clear hpre;by_cases hlt:k<l.length
  ·have hlI:(k:Int)<l.length:=oq_;obtain ⟨b8,f8,y1,y2,rfl,hb8,hy,_,_,e0,e1⟩:=(HC.out.ext hb).get hlt;have hcall:=HPP.out wr (y1,y2) hb (hy ▸ ac_ hlt);have HSU:Hid ((l.take (k+1)).any p=((l.take k).any p || p (y1,y2))):=hq_ (hy ▸ fs_ hlt);have HMEM:Hid ((y1,y2)∈l):=hq_ (hy ▸ ac_ hlt);clear hb hy;cases hq:p (y1,y2) with
   | true=>
    rw [hq] at hcall;have HQ:=hq_ hq;clear hq;go_wp2_with (go_at_fn g;refine hcall.mono ?_;rintro e w' ⟨rfl,hb'⟩)
    go_ret;refine ⟨_,rfl,?_,hb'⟩;rw [decide_eq_true oq_];exact (List.any_eq_true.2 ⟨(y1,y2),HMEM.out,HQ.out⟩).symm
   | false=>
    rw [hq] at hcall;have HQ:=hq_ hq;clear hq;go_wp2_with (go_at_fn g;refine hcall.mono ?_;rintro e w' ⟨rfl,hb'⟩)
    go_roundw
    case rel=>exact ⟨k+1,oq_,by go_num,by rw [HSU.out,HPRE.out,HQ.out];rfl,hb'⟩
    case measure=>simp [intOf];omega
  ·obtain rfl:k=l.length:=oq_;go_wp2_with fail
   go_ret;refine ⟨_,rfl,?_,HB.out⟩;have:=HPRE.out;rw [List.take_length] at this;rw [this];rfl
theorem l8_ (F:Nat->Prop) (v:Value) (l:List Spn) (p:Spn->Bool) (g:Nat) (lb:Array Value) (eg:∀ args w,(callFunc g args).run Tryz.prog w=.ok (.enter g args) w) (w:World) (hv:SpnL w F v l) (hp:vu_ g lb l p w) :
  Calls Tryz.prog 91 #[v,.func (.func g) #[] lb] w fun e w'=>e=.returned (.bool (l.any p))∧Below w.heap.size w w':=by
 have HV:=hq_ hv;have HPP:=hq_ hp;clear hp hv
 go_enter Tryz.func91,Tryz.ntmps91
 go_wp2_with (go_at_call 145;refine (py_ F v l p g lb eg _ HV.out HPP.out).mono ?_;rintro e w1 ⟨i,rfl,hi,hb1⟩;have HI:=hq_ hi;clear hi)
 go_ret;exact ⟨a1_ HI.out,hb1⟩
theorem jm_ (F:Nat->Prop) (v:Value) (l:List Spn) (w:World) (h:SpnL w F v l) :
  Calls Tryz.prog 90 #[v] w fun e w'=>e=.returned (.bool (!(l.any farS)))∧Below w.heap.size w w':=by
 have HC:=hq_ (l8_ F v l farS 144 #[] (enters_of Tryz.func144 (by kernel_rfl) rfl) w h (fun W x hb _=>(nr_ x W).mono fun e w' ⟨he,hb'⟩=>⟨he,Et hb hb'⟩));clear h
 go_enter Tryz.func90,Tryz.ntmps90
 go_wp2_with (go_at_call 91;refine HC.out.mono ?_;rintro e w1 ⟨rfl,hb1⟩)
 go_ret;exact ⟨rfl,hb1⟩
end Go.Proofs.YtkclokcenllhmaaGreat
section
variable {a b f x y:Int}{l:List Int}{B i j k n:Nat}{v:Go.Value}{W:Go.World}
namespace Go.Proofs.YtkclokcenllhmaaGreat
open Go.RowKit Go.Maps Kal
theorem ci_ {id rk t:Int} {fm:Bool} (h1:1≤id∧id≤1000) (h2:0≤rk∧rk≤100) (h3:0≤f∧f<t∧t≤10000):e9_ ak_ ⟨id,fm,rk,oneS f t⟩∧SmS (oneS f t):=by
 have hv:bi_ ak_ (oneS f t):=by
  refine ⟨by simp [oneS],⟨by simp [oneS],by simp [oneS]⟩,by simp [oneS],fun i hi=>by simp [oneS] at hi,fun i hi=>?_⟩;have hi0:i=0:=by simp [oneS] at hi;exact hi
  subst hi0;refine ⟨?_,fun j hj=>oq_⟩;show br_ ⟨0,f,t⟩;unfold br_;dsimp only;omega
 exact ⟨⟨⟨by show 1≤id;omega,by show id≤1099511627776;omega⟩,h2,hv⟩,⟨hv,fun c hc=>by simp [oneS] at hc⟩,by simp [oneS],by simp [oneS]⟩
theorem va_:SmD dia0:=by
 refine ⟨x2_,fun e he=>?_,by simp [dia0]⟩;simp only [dia0,List.mem_cons,List.not_mem_nil,or_false] at he;rcases he with rfl|rfl|rfl <;> exact ci_ oq_ oq_ oq_
theorem mx_:SmD [ent3,ent4,ent7 true]:=by
 refine ⟨by simp [AscD,ent3,ent4,ent7],fun e he=>?_,sq_⟩;simp only [List.mem_cons,List.not_mem_nil,or_false] at he;rcases he with rfl|rfl|rfl <;> exact ci_ oq_ oq_ oq_
theorem OwnG.ints1 {A:Nat->Prop} (h:OwnG 3 1 dj_ (fun _ _ i=>InI i) B A W v l):Ints W v l:=by
 obtain ⟨a,c,rfl,h1,h2,h3⟩:=h.rowR.is;refine ⟨⟨a,c,rfl,h1,h2,?_⟩,by have:=h.len;omega,h.all⟩;rcases h3 with h3|⟨b,o,rfl,_,hl,hc⟩
 ·exact .inl (List.length_eq_zero_iff.1 h3)
 ·exact .inr ⟨b,o,rfl,fun i hi=>hc i _ (by have:=a7_ s0_ (0:Int) hi (i:=0) rfl;simpa using this)⟩
theorem SpnL.lit {b:Nat} {l:List Spn} {t:TypeId} (h:Bxx W b (l.flatMap senc).toArray t) (hn:n=l.length) (hl:l.length≤1000) (hr:∀ x∈l,InS x):SpnL W (fun _=>True) (.slice (some ⟨b,0,none⟩) n n) l:=by
 subst hn;exact ⟨hs_ h (Nat.le_refl _) oq_ trivial,oq_,hr⟩
theorem il_ (h:0≤a∧a≤1000∧0≤b∧b≤1000):InS (a,b):=⟨⟨by dsimp only;omega,by dsimp only;omega⟩,⟨by dsimp only;omega,by dsimp only;omega⟩⟩
theorem xm_ {F:Nat->Prop} {p q:bk_} (h:RowR W F v 2 ([p,q].flatMap penc)):∃ g f c,v=.slice (some ⟨g,f,none⟩) 2 c∧g<W.heap.size∧W.cell? ⟨g,f,none⟩=some (.int .i64 p.a)∧W.cell? ⟨g,f+1,none⟩=some (.int .i64 p.b)∧W.cell? ⟨g,f+8,none⟩=some (.int .i64 q.a)∧W.cell? ⟨g,f+9,none⟩=some (.int .i64 q.b):=by
 obtain ⟨a,c,rfl,h1,h2,h3⟩:=h.is;rcases h3 with h3|⟨b,o,rfl,hF,hl,hc⟩
 ·cases h3
 ·exact ⟨b,o,c,rfl,hl,hc 0 _ rfl,hc 1 _ rfl,hc 8 _ rfl,hc 9 _ rfl⟩
structure lk_ (x:Ent):Prop where
 good:e9_ ak_ x
 sm:SmS x.s
 id:1≤x.id∧x.id≤12
 rank:0≤x.rank∧x.rank≤5
 near:∀ y∈x.s.ext,-10000≤y.frm
structure p2_ (d:List Ent):Prop where
 asc:AscD d
 ok:∀ e∈d,lk_ e
 len:d.length≤4
theorem p2_.sm {d:List Ent} (h:p2_ d):SmD d:=⟨h.asc,fun e he=>⟨(h.ok e he).good,(h.ok e he).sm⟩,by have:=h.len;omega⟩
theorem v1_ {d:List Ent} (h:AscD d) (x:Ent):(putD d x).length≤d.length+1:=by
 unfold putD;rw [List.length_append,List.length_cons];have key:∀ l:List Ent,(l.filter fun y=>decide (y.id<x.id)).length+(l.filter fun y=>decide (x.id<y.id)).length≤l.length:=by
  intro l;induction l with
  | nil=>simp
  | cons a l ih=>
   simp only [List.filter_cons];by_cases h1:a.id<x.id
   ·have h2:¬ x.id<a.id:=oq_;simp [h1,h2];omega
   ·by_cases h2:x.id<a.id
    ·simp [h1,h2];omega
    ·simp [h1,h2];omega
 have:=key d;omega
structure ex_ (k:Nat) (d:List Ent):Prop where
 asc:AscD d
 ok:∀ e∈d,lk_ e
 len:d.length≤k
theorem ex_.sm {d:List Ent} (h:ex_ k d) (hk:k≤100):SmD d:=⟨h.asc,fun e he=>⟨(h.ok e he).good,(h.ok e he).sm⟩,by have:=h.len;omega⟩
theorem ex_.put {d:List Ent} {x:Ent} (h:ex_ k d) (hx:lk_ x):ex_ (k+1) (putD d x):=
 ⟨h.asc.put x,fun e he=>by rcases up_.1 he with rfl|he;exact hx;exact h.ok e he.1,by have:=v1_ h.asc x;have:=h.len;omega⟩
theorem ex_.nil:ex_ 0 []:=⟨.nil,sq_,sq_⟩
theorem hf_.sms {s:Str} (h:hf_ s):SmS s:=⟨h.ms,h.ncls,h.next⟩
end Go.Proofs.YtkclokcenllhmaaGreat
namespace Go.Proofs
open Go.Shelf
def Tryz.sortB_ren:Go.Shelf.Ren:=⟨fun|6=>222|15=>101|14=>256|28=>159|29=>160|20=>289|21=>290|22=>291|23=>292|24=>293|25=>294|26=>295|27=>296|46=>319|47=>201|48=>202|49=>320|50=>321|57=>337|n=>n,fun|22=>223|24=>226|25=>261|3=>3|39=>149|0=>0|53=>207|55=>209|4=>4|46=>201|45=>200|50=>115|5=>5|9=>9|66=>242|70=>246|76=>272|77=>273|n=>n,fun|n=>n⟩
theorem Tryz.sortB:Go.Proofs.SlLaysF0.n6 Tryz.prog Tryz.sortB_ren:={
 mixed:=by kernel_rfl
 f6:=⟨Tryz.f222.name,dq_,Tryz.func222.trans (congrArg some (by kernel_rfl))⟩
 f14:=⟨Tryz.f256.name,dq_,Tryz.func256.trans (congrArg some (by kernel_rfl))⟩
 f15:=Tryz.func101.trans (congrArg some (by kernel_rfl))
 f20:=⟨Tryz.f289.name,dq_,Tryz.func289.trans (congrArg some (by kernel_rfl))⟩
 f21:=⟨Tryz.f290.name,dq_,Tryz.func290.trans (congrArg some (by kernel_rfl))⟩
 f22:=⟨Tryz.f291.name,dq_,Tryz.func291.trans (congrArg some (by kernel_rfl))⟩
 f23:=⟨Tryz.f292.name,dq_,Tryz.func292.trans (congrArg some (by kernel_rfl))⟩
 f24:=⟨Tryz.f293.name,dq_,Tryz.func293.trans (congrArg some (by kernel_rfl))⟩
 f25:=⟨Tryz.f294.name,dq_,Tryz.func294.trans (congrArg some (by kernel_rfl))⟩
 f26:=⟨Tryz.f295.name,dq_,Tryz.func295.trans (congrArg some (by kernel_rfl))⟩
 f27:=⟨Tryz.f296.name,dq_,Tryz.func296.trans (congrArg some (by kernel_rfl))⟩
 f28:=Tryz.func159.trans (congrArg some (by kernel_rfl))
 f29:=Tryz.func160.trans (congrArg some (by kernel_rfl))
 f46:=⟨Tryz.f319.name,dq_,Tryz.func319.trans (congrArg some (by kernel_rfl))⟩
 f47:=Tryz.func201.trans (congrArg some (by kernel_rfl))
 f48:=Tryz.func202.trans (congrArg some (by kernel_rfl))
 f49:=⟨Tryz.f320.name,dq_,Tryz.func320.trans (congrArg some (by kernel_rfl))⟩
 f50:=⟨Tryz.f321.name,dq_,Tryz.func321.trans (congrArg some (by kernel_rfl))⟩
 f57:=⟨Tryz.f337.name,dq_,Tryz.func337.trans (congrArg some (by kernel_rfl))⟩
 t0:=Tryz.underlying0
 a0:=Tryz.isAgg0
 z0:=Tryz.sizeOf0
 v0:=Tryz.zeroValue0
 t3:=Tryz.underlying3
 a3:=Tryz.isAgg3
 z3:=Tryz.sizeOf3
 v3:=Tryz.zeroValue3
 t4:=Tryz.underlying4
 a4:=Tryz.isAgg4
 z4:=Tryz.sizeOf4
 v4:=Tryz.zeroValue4
 t5:=Tryz.underlying5
 a5:=Tryz.isAgg5
 z5:=Tryz.sizeOf5
 v5:=Tryz.zeroValue5
 t9:=Tryz.underlying9
 a9:=Tryz.isAgg9
 z9:=Tryz.sizeOf9
 v9:=Tryz.zeroValue9
 t22:=Tryz.underlying223
 a22:=Tryz.isAgg223
 z22:=Tryz.sizeOf223
 v22:=Tryz.zeroValue223
 t25:=Tryz.underlying261
 a25:=Tryz.isAgg261
 z25:=Tryz.sizeOf261
 v25:=Tryz.zeroValue261
 t39:=Tryz.underlying149
 a39:=Tryz.isAgg149
 z39:=Tryz.sizeOf149
 v39:=Tryz.zeroValue149
 t45:=Tryz.underlying200
 a45:=Tryz.isAgg200
 z45:=Tryz.sizeOf200
 v45:=Tryz.zeroValue200
 t46:=Tryz.underlying201
 a46:=Tryz.isAgg201
 z46:=Tryz.sizeOf201
 v46:=Tryz.zeroValue201
 t50:=Tryz.underlying115
 a50:=Tryz.isAgg115
 z50:=Tryz.sizeOf115
 v50:=Tryz.zeroValue115
 t53:=Tryz.underlying207
 a53:=Tryz.isAgg207
 z53:=Tryz.sizeOf207
 v53:=Tryz.zeroValue207
 t55:=Tryz.underlying209
 a55:=Tryz.isAgg209
 z55:=Tryz.sizeOf209
 v55:=Tryz.zeroValue209
 t66:=Tryz.underlying242
 a66:=Tryz.isAgg242
 z66:=Tryz.sizeOf242
 v66:=Tryz.zeroValue242
 t70:=Tryz.underlying246
 a70:=Tryz.isAgg246
 z70:=Tryz.sizeOf246
 v70:=Tryz.zeroValue246
 t76:=Tryz.underlying272
 a76:=Tryz.isAgg272
 z76:=Tryz.sizeOf272
 v76:=Tryz.zeroValue272
 t77:=Tryz.underlying273
 a77:=Tryz.isAgg273
 z77:=Tryz.sizeOf273
 v77:=Tryz.zeroValue273 }
end Go.Proofs
namespace Go.Proofs.YtkclokcenllhmaaGreat
open Go.RowKit Go.Maps Kal Go.Sort Go.Shelf
instance:Inhabited Bnd:=⟨⟨0,0,0⟩⟩
def benc (x:Bnd):List Value:=[.int .i64 x.p,.int .i64 x.k,.int .i64 x.d]
abbrev bval (x:Bnd):Value:=.agg #[.int .i64 x.p,.int .i64 x.k,.int .i64 x.d]
theorem fu_ (x:Bnd):(benc x).length=3:=rfl
theorem tv_ (x:Bnd):∀ u∈benc x,u.oneCell'=true:=fun u hu=>by
 unfold benc at hu;simp at hu;rcases hu with rfl|rfl|rfl <;> rfl
def RBnd (W:World) (F:Nat->Prop) (x:Bnd):Prop:=InI x.p
theorem d5_:bd_ RBnd:=⟨fun h _ _=>h,fun h=>h,fun h _=>h⟩
theorem wc_:∃ i,Tryz.prog.info? 226=some i∧i.zero=some (.agg #[.int .i64 0,.int .i64 0,.int .i64 0])∧i.size=3∧i.bytes=24:=by
 have h:(Tryz.prog.info? 226).map (fun i=>(i.zero,i.size,i.bytes))=some (some (.agg #[.int .i64 0,.int .i64 0,.int .i64 0]),3,24):=by kernel_rfl
 obtain ⟨i,hi,h1,h2,h3⟩:=info_parts h;exact ⟨i,hi,h1,h2,h3⟩
abbrev OwnB:=OwnG 226 3 benc RBnd
theorem tu_ (x y:Bnd) (w:World) :
  Calls Tryz.prog 223 #[bval x,bval y] w fun e w'=>e=.returned (.int .i64 (cmpI x.p y.p))∧GrN w w':=by
 have HC:=hq_ (fun W=>av_ x.p y.p W);obtain ⟨xp,xk,xd⟩:=x;obtain ⟨yp,yk,yd⟩:=y;show Calls _ _ #[.agg #[.int .i64 xp,.int .i64 xk,.int .i64 xd],.agg #[.int .i64 yp,.int .i64 yk,.int .i64 yd]] _ fun e w'=>e=.returned (.int .i64 (cmpI xp yp))∧_;dsimp only at HC;generalize cmpI xp yp=q at *
 go_enter Tryz.func223,Tryz.ntmps223
 go_wp2_with (go_at_call 59;refine (HC.out _).mono ?_;rintro e w1 ⟨rfl,rfl⟩)
 go_ret;exact ⟨rfl,((GrN.refl w).alloc _).alloc _⟩
theorem x5_:SWO (ltOf fun x y:Bnd=>cmpI x.p y.p) where
 irrefl x:=by unfold ltOf;exact decide_eq_false (by rw [show (cmpI x.p x.p<0)↔x.p<x.p by unfold cmpI;split <;> (try split) <;> omega];omega)
 trans x y z h1 h2:=by
  unfold ltOf at *;have k:∀ a b:Int,cmpI a b<0↔a<b:=fun a b=>by unfold cmpI;split <;> (try split) <;> omega
  simp only [decide_eq_true_eq,k] at *;omega
 ntrans x y z h1 h2:=by
  unfold ltOf at *;have k:∀ a b:Int,cmpI a b<0↔a<b:=fun a b=>by unfold cmpI;split <;> (try split) <;> omega
  simp only [decide_eq_false_iff_not,k] at *;omega
theorem t1_ (v:Value) (D:List Bnd) (B:Nat) (w:World) (h:w.ownsRow B 226 3 v D.length (D.flatMap benc)) (hn:D.length≤1000000) :
  Calls Tryz.prog 222 #[v,.func (.func 223) #[] #[]] w fun e w'=>e=.returned (.tuple #[])∧∃ D',D'.Perm D∧SrtB D'∧RowR w' (fun b=>B≤b∧v.ownBlock=some b) v D.length (D'.flatMap benc)∧w.grownBy w' v.ownBlock:=by
 have hcon:=kx_ Tryz.sortB Tryz.isAgg226 Tryz.sizeOf226 fu_ dq_ tv_ (fun x y:Bnd=>cmpI x.p y.p) x5_ 223 #[] (enters_of Tryz.func223 (by kernel_rfl) rfl) v h hn (fun U x y _=>tu_ x y U);change Calls Tryz.prog 222 _ _ _ at hcon;refine hcon.mono fun e w' ⟨he,D',hp,hs,hr,hg⟩=>⟨he,D',hp,hs.imp fun {x y} hxy=>?_,hr,hg⟩;unfold ltOf at hxy;have k:∀ a b:Int,cmpI a b<0↔a<b:=fun a b=>by unfold cmpI;split <;> (try split) <;> omega
 simp only [decide_eq_false_iff_not,k] at hxy;omega
def qv_ (a b:List Spn) (w:World) (e:Ending) (w':World):Prop:=
 ∃ v D,e=.returned v∧D.Perm (bndL 0 a ++ bndL 1 b)∧SrtB D∧(∀ x∈D,InI x.p)∧D.length≤2*(a.length+b.length)∧RowR w' (fun k=>w.heap.size≤k) v D.length (D.flatMap benc)∧Below w.heap.size w w'
theorem fv_ (k:Int) (l:List Spn):(bndL k l).length≤2*l.length:=by
 induction l with
 | nil=>simp [bndL]
 | cons s l ih=>
  have e:bndL k (s :: l)=(if s.1<s.2 then [⟨s.1,k,1⟩,⟨s.2,k,-1⟩] else []) ++ bndL k l:=rfl;rw [e,List.length_append,List.length_cons]
  split <;> simp <;> omega
theorem r1_ {k:Int} {l:List Spn} (hi:i<l.length):bndL k (l.take (i+1))=bndL k (l.take i) ++ if (l.getD i default).1<(l.getD i default).2 then [⟨(l.getD i default).1,k,1⟩,⟨(l.getD i default).2,k,-1⟩] else []:=by
 unfold bndL;rw [List.take_succ_eq_append_getElem hi,List.flatMap_append,List.flatMap_singleton,List.getD_eq_getElem?_getD,List.getElem?_eq_getElem hi,Option.getD_some]
theorem ok_ {k:Int} {l:List Spn} (h:∀ x∈l,InS x):∀ b∈bndL k l,InI b.p:=fun b hb=>by
 obtain ⟨s,hs,hb⟩:=List.mem_flatMap.1 hb;have:=h s hs
 split at hb
 ·simp at hb;rcases hb with rfl|rfl
  ·exact this.1
  ·exact this.2
 ·cases hb
theorem pa_ (F G:Nat->Prop) (v1 v2:Value) (l1 l2:List Spn) (w:World) (h1:SpnL w F v1 l1) (h2:SpnL w G v2 l2) (hn:l1.length+l2.length≤400000) :
  Calls Tryz.prog 176 #[v1,v2] w (qv_ l1 l2 w):=by
 obtain ⟨a1,c1,rfl⟩:=h1.form;obtain ⟨a2,c2,rfl⟩:=h2.form;have H1:=hq_ h1;have H2:=hq_ h2;obtain ⟨iB,iB1,iB2,iB3,iB4⟩:=wc_;have HIB:=hq_ (And.intro iB1 (And.intro iB2 (And.intro iB3 iB4)));clear h1 h2 iB1 iB2 iB3 iB4;have HN:=hq_ hn
 go_enter Tryz.func176,Tryz.ntmps176
 go_wp2_with fail
 have hbx:Bxx (w.alloc (.cells #[.slice a1 l1.length c1,.slice a2 l2.length c2] 31)) w.heap.size #[.slice a1 l1.length c1,.slice a2 l2.length c2] 31:=Bxx.new _ _ _;have HBX:=hq_ hbx;clear hbx;go_loopw [5,6,7,9,14] (fun ov _ _ _ iv wr=>∃ (i:Nat) (D:List Bnd),i≤2∧iv=.int .i64 i∧Hid ((i=0->D=[])∧(i=1->D=bndL 0 l1)∧(i=2->D=bndL 0 l1 ++ bndL 1 l2))∧Hid (OwnB (w.heap.size+1) (fun _=>False) wr ov D)∧Hid (Below (w.heap.size+1) (w.alloc (.cells #[.slice a1 l1.length c1,.slice a2 l2.length c2] 31)) wr)) (fun _ _ _ _ iv _=>2-(intOf iv).toNat)
 case atStart=>exact ⟨0,[],oq_,rfl,hq_ ⟨fun _=>rfl,oq_,oq_⟩,hq_ OwnG.nil,hq_ (Below.refl _ _)⟩
 case round=>
  obtain ⟨i,D0,hi,rfl,HD,HO,HB⟩:=hrel;obtain ⟨oa,oc,rfl,-⟩:=HO.out.form;have HBW:Hid (Below w.heap.size w wr):=hq_ ((Ea (Er w) _).trans (HB.out.mono oq_));have hwr:w.heap.size+1≤wr.heap.size:=by have:=HB.out.size;simpa using this
  by_cases hlt:i<2
  ·have hlI:(i:Int)<2:=oq_;have hxb:=HBX.out.upto HB.out oq_;obtain ⟨a,c,l,hcell,hl,hl0,hl1⟩:∃ a c,∃ l:List Spn,wr.cell? ⟨w.heap.size,i,none⟩=some (.slice a l.length c)∧SpnL wr (fun b=>b<w.heap.size) (.slice a l.length c) l∧(i=0->l=l1)∧(i=1->l=l2):=by
    have e:i=0∨i=1:=oq_;rcases e with rfl|rfl
    ·exact ⟨a1,c1,l1,(hxb.cells 0).1,(H1.out.lt.ext HBW.out).mono fun _ h=>h.2,fun _=>rfl,oq_⟩
    ·exact ⟨a2,c2,l2,(hxb.cells 1).1,(H2.out.lt.ext HBW.out).mono fun _ h=>h.2,oq_,fun _=>rfl⟩
   have hll:l.length≤400000:=by
    have e:i=0∨i=1:=oq_;rcases e with e|e
    ·rw [hl0 e];have:=HN.out;omega
    ·rw [hl1 e];have:=HN.out;omega
   have hD0:D0.length+2*l.length≤800000:=by
    have e:i=0∨i=1:=oq_;rcases e with e|e
    ·rw [HD.out.1 e,hl0 e];have:=HN.out;simp;omega
    ·rw [HD.out.2.1 e,hl1 e];have:=fv_ 0 l1;have:=HN.out;omega
   have HL:=hq_ hl;have HL01:=hq_ (And.intro hl0 hl1);have HD0:=hq_ hD0;have HLT:=hq_ hlt;clear hl hl0 hl1 hD0 hlt hxb;go_wp2_with fail
   clear hcell;obtain ⟨wo,hwo⟩:∃ x,x=wr:=⟨_,rfl⟩;subst hwo;go_loopw [5,9,21] (fun ov _ jv wr=>∃ (j:Nat) (D:List Bnd),j≤l.length∧jv=.int .i64 j∧Hid (D=D0 ++ bndL i (l.take j))∧Hid (OwnB (w.heap.size+1) (fun _=>False) wr ov D)∧Hid (Below (w.heap.size+1) wo wr)) (fun _ _ jv _=>l.length-(intOf jv).toNat)
   case atStart=>exact ⟨0,D0,oq_,rfl,hq_ (by simp [bndL]),HO,hq_ (Below.refl _ _)⟩
   case round=>
    obtain ⟨j,D,hj,rfl,HDJ,HOJ,HBJ⟩:=hrel;obtain ⟨ja,jc,rfl,-⟩:=HOJ.out.form;have hwj:w.heap.size+1≤wr.heap.size:=by have:=HBJ.out.size;omega
    by_cases hlt2:j<l.length
    ·have hlI2:(j:Int)<l.length:=oq_;obtain ⟨b,o,x,y,rfl,hb,hxy,hxi,hyi,e0,e1⟩:=(HL.out.keep (W':=wr) (a3_.belowB HBJ.out fun b hb=>oq_) HBJ.out.size).get hlt2;have HSN:=hq_ (r1_ (k:=(i:Int)) hlt2);rw [hxy] at HSN;dsimp only at HSN;have HXI:=hq_ (And.intro hxi hyi);have hDl:D.length≤D0.length+2*j:=by
      rw [HDJ.out,List.length_append];have:=fv_ (i:Int) (l.take j);rw [List.length_take] at this;omega
     have HDL:Hid (D.length+2≤1000000):=hq_ (by have:=HD0.out;omega);have HLT2:=hq_ (show j+1≤l.length by omega);clear hxy hxi hyi hDl hlt2;by_cases hxy:x<y
     ·have HXY:=hq_ hxy;have hrow:RowR ((wr.alloc (.cells #[.int .i64 x,.int .i64 y] 28)).alloc (.cells #[.int .i64 x,.int .i64 i,.int .i64 1,.int .i64 y,.int .i64 i,.int .i64 (-1)] 226)) (fun _=>True) (.slice (some ⟨wr.heap.size+1,0,none⟩) 2 2) 2 (([⟨x,i,1⟩,⟨y,i,-1⟩]:List Bnd).flatMap benc):=hs_ (Bxx.at sq_) oq_ oq_ trivial;have HROW:=hq_ hrow;clear hrow;go_wp2_with (at_builtin;(refine b3_ rq_ _ _ _ _ rq_ iB _ 3 24 Tryz.underlying223 HIB.out.1 HIB.out.2.1 HIB.out.2.2.1 HIB.out.2.2.2 rfl dq_ dq_ (w.heap.size+1) (.slice ja D.length jc) (.slice (some ⟨wr.heap.size+1,0,none⟩) 2 2) D.length 2 (D.flatMap benc) (([⟨x,i,1⟩,⟨y,i,-1⟩]:List Bnd).flatMap benc) (fun _=>True) rq_ ((HOJ.out.below d5_ (Ea (Er _) _)).below d5_ (Ea (Er _) _)).row rq_ HROW.out rq_ (by simp [benc,Value.oneCell']) HDL.out tq_ ?_);intro v' w9 hown9 hgrow9 hloc9;obtain ⟨na,nc,rfl⟩:=a5_ hown9;have HO9:=hq_ (OwnG.pushL (ys:=[⟨x,i,1⟩,⟨y,i,-1⟩]) d5_ ((HOJ.out.below d5_ (Ea (Er _) _)).below d5_ (Ea (Er _) _)) (by intro z hz;simp at hz;rcases hz with rfl|rfl;exact HXI.out.1;exact HXI.out.2) hown9 hgrow9 hloc9 (fun h=>h) HDL.out);have HB9:=hq_ (((HBJ.out.alloc hwj _).alloc tq_ _).grown hgrow9 tq_ fun q e=>(HOJ.out.row.lt q e).1);clear hown9 hgrow9 hloc9)
      go_roundw
      case rel=>exact ⟨j+1,D ++ [⟨x,i,1⟩,⟨y,i,-1⟩],HLT2.out,by go_num,hq_ (by rw [HSN.out,if_pos HXY.out,HDJ.out,List.append_assoc]),HO9,HB9⟩
      case measure=>have:=HLT2.out;simp [intOf];omega
     ·have HXY:=hq_ hxy;go_wp2_with fail
      go_roundw
      case rel=>exact ⟨j+1,D,HLT2.out,by go_num,hq_ (by rw [HSN.out,if_neg HXY.out,HDJ.out,List.append_nil]),hq_ (HOJ.out.below d5_ (Ea (Er _) _)),hq_ (HBJ.out.alloc hwj _)⟩
      case measure=>have:=HLT2.out;simp [intOf];omega
    ·obtain rfl:j=l.length:=oq_;have hjI:¬ (l.length:Int)<l.length:=oq_;go_wp2_with fail
     go_roundw
     case rel=>
      have hD:=HDJ.out;rw [List.take_length] at hD;have hi2:=HLT.out;refine ⟨i+1,D,oq_,by go_num,hq_ ⟨oq_,fun e=>?_,fun e=>?_⟩,HOJ,hq_ (HB.out.trans HBJ.out)⟩
      ·obtain rfl:i=0:=oq_;rw [hD,HD.out.1 rfl,HL01.out.1 rfl];rfl
      ·obtain rfl:i=1:=oq_;rw [hD,HD.out.2.1 rfl,HL01.out.2 rfl];rfl
     case measure=>have:=HLT.out;simp [intOf];omega
  ·obtain rfl:i=2:=oq_;have hD:=HD.out.2.2 rfl;have HDD:=hq_ hD;have hlen:D0.length≤2*(l1.length+l2.length):=by
    rw [hD,List.length_append];have:=fv_ 0 l1;have:=fv_ 1 l2;omega
   have HLE:=hq_ hlen;have HIN:Hid (∀ x∈D0,InI x.p):=hq_ (fun x hx=>by
    rw [hD] at hx;rcases List.mem_append.1 hx with hx|hx
    ·exact ok_ H1.out.all x hx
    ·exact ok_ H2.out.all x hx)
   have HSO:=hq_ (t1_ _ D0 _ wr HO.out.row (by have:=HN.out;omega));clear hD hlen;go_wp2_with (go_at_call 222;(with_reducible refine HSO.out.mono ?_);rintro e w5 ⟨rfl,D',hp,hs,hr,hg⟩;have HP:=hq_ hp;have HS:=hq_ hs;have HR:=hq_ hr;have HG:=hq_ hg;clear hp hs hr hg)
   go_ret;refine ⟨_,D',rfl,by rw [<- HDD.out];exact HP.out,HS.out,fun x hx=>HIN.out x (HP.out.mem_iff.1 hx),by rw [HP.out.length_eq];exact HLE.out,?_,(HBW.out.grown HG.out HBW.out.size fun q e=>by have:=(HO.out.row.lt q e).1;omega)⟩;rw [HP.out.length_eq];exact HR.out.mono fun b hb=>oq_
end Go.Proofs.YtkclokcenllhmaaGreat
namespace Go.Proofs
open Go.Shelf
def Tryz.sortL_ren:Go.Shelf.Ren:=⟨fun|6=>56|15=>101|14=>100|28=>159|29=>160|20=>151|21=>152|22=>153|23=>154|24=>155|25=>156|26=>157|27=>158|46=>200|47=>201|48=>202|49=>203|50=>204|57=>239|n=>n,fun|22=>100|24=>106|25=>108|3=>3|39=>149|0=>0|53=>207|55=>209|4=>4|46=>201|45=>200|50=>115|5=>5|9=>9|66=>242|70=>246|76=>272|77=>273|n=>n,fun|n=>n⟩
theorem Tryz.sortL:Go.Proofs.SlLaysF0.n6 Tryz.prog Tryz.sortL_ren:={
 mixed:=by kernel_rfl
 f6:=⟨Tryz.f56.name,dq_,Tryz.func56.trans (congrArg some (by kernel_rfl))⟩
 f14:=⟨Tryz.f100.name,dq_,Tryz.func100.trans (congrArg some (by kernel_rfl))⟩
 f15:=Tryz.func101.trans (congrArg some (by kernel_rfl))
 f20:=⟨Tryz.f151.name,dq_,Tryz.func151.trans (congrArg some (by kernel_rfl))⟩
 f21:=⟨Tryz.f152.name,dq_,Tryz.func152.trans (congrArg some (by kernel_rfl))⟩
 f22:=⟨Tryz.f153.name,dq_,Tryz.func153.trans (congrArg some (by kernel_rfl))⟩
 f23:=⟨Tryz.f154.name,dq_,Tryz.func154.trans (congrArg some (by kernel_rfl))⟩
 f24:=⟨Tryz.f155.name,dq_,Tryz.func155.trans (congrArg some (by kernel_rfl))⟩
 f25:=⟨Tryz.f156.name,dq_,Tryz.func156.trans (congrArg some (by kernel_rfl))⟩
 f26:=⟨Tryz.f157.name,dq_,Tryz.func157.trans (congrArg some (by kernel_rfl))⟩
 f27:=⟨Tryz.f158.name,dq_,Tryz.func158.trans (congrArg some (by kernel_rfl))⟩
 f28:=Tryz.func159.trans (congrArg some (by kernel_rfl))
 f29:=Tryz.func160.trans (congrArg some (by kernel_rfl))
 f46:=⟨Tryz.f200.name,dq_,Tryz.func200.trans (congrArg some (by kernel_rfl))⟩
 f47:=Tryz.func201.trans (congrArg some (by kernel_rfl))
 f48:=Tryz.func202.trans (congrArg some (by kernel_rfl))
 f49:=⟨Tryz.f203.name,dq_,Tryz.func203.trans (congrArg some (by kernel_rfl))⟩
 f50:=⟨Tryz.f204.name,dq_,Tryz.func204.trans (congrArg some (by kernel_rfl))⟩
 f57:=⟨Tryz.f239.name,dq_,Tryz.func239.trans (congrArg some (by kernel_rfl))⟩
 t0:=Tryz.underlying0
 a0:=Tryz.isAgg0
 z0:=Tryz.sizeOf0
 v0:=Tryz.zeroValue0
 t3:=Tryz.underlying3
 a3:=Tryz.isAgg3
 z3:=Tryz.sizeOf3
 v3:=Tryz.zeroValue3
 t4:=Tryz.underlying4
 a4:=Tryz.isAgg4
 z4:=Tryz.sizeOf4
 v4:=Tryz.zeroValue4
 t5:=Tryz.underlying5
 a5:=Tryz.isAgg5
 z5:=Tryz.sizeOf5
 v5:=Tryz.zeroValue5
 t9:=Tryz.underlying9
 a9:=Tryz.isAgg9
 z9:=Tryz.sizeOf9
 v9:=Tryz.zeroValue9
 t22:=Tryz.underlying100
 a22:=Tryz.isAgg100
 z22:=Tryz.sizeOf100
 v22:=Tryz.zeroValue100
 t25:=Tryz.underlying108
 a25:=Tryz.isAgg108
 z25:=Tryz.sizeOf108
 v25:=Tryz.zeroValue108
 t39:=Tryz.underlying149
 a39:=Tryz.isAgg149
 z39:=Tryz.sizeOf149
 v39:=Tryz.zeroValue149
 t45:=Tryz.underlying200
 a45:=Tryz.isAgg200
 z45:=Tryz.sizeOf200
 v45:=Tryz.zeroValue200
 t46:=Tryz.underlying201
 a46:=Tryz.isAgg201
 z46:=Tryz.sizeOf201
 v46:=Tryz.zeroValue201
 t50:=Tryz.underlying115
 a50:=Tryz.isAgg115
 z50:=Tryz.sizeOf115
 v50:=Tryz.zeroValue115
 t53:=Tryz.underlying207
 a53:=Tryz.isAgg207
 z53:=Tryz.sizeOf207
 v53:=Tryz.zeroValue207
 t55:=Tryz.underlying209
 a55:=Tryz.isAgg209
 z55:=Tryz.sizeOf209
 v55:=Tryz.zeroValue209
 t66:=Tryz.underlying242
 a66:=Tryz.isAgg242
 z66:=Tryz.sizeOf242
 v66:=Tryz.zeroValue242
 t70:=Tryz.underlying246
 a70:=Tryz.isAgg246
 z70:=Tryz.sizeOf246
 v70:=Tryz.zeroValue246
 t76:=Tryz.underlying272
 a76:=Tryz.isAgg272
 z76:=Tryz.sizeOf272
 v76:=Tryz.zeroValue272
 t77:=Tryz.underlying273
 a77:=Tryz.isAgg273
 z77:=Tryz.sizeOf273
 v77:=Tryz.zeroValue273 }
end Go.Proofs
namespace Go.Proofs.YtkclokcenllhmaaGreat
open Go.RowKit Go.Maps Kal Go.Sort Go.Shelf
def orL:List Int->Int
 | []=>0
 | x :: r=>if x≠0 then x else orL r
theorem ux_ (h:∀ x∈l,x=0):orL l=0:=by
 induction l with
 | nil=>rfl
 | cons x l ih=>unfold orL;rw [if_neg (by have:=h x sq_;simpa using this)];exact ih fun y hy=>h y (by simp [hy])
theorem xl_ (hk:k<l.length) (h:∀ x∈l.take k,x=0) (h0:l.getD k 0≠0):orL l=l.getD k 0:=by
 induction l generalizing k with
 | nil=>simp at hk
 | cons x l ih=>
  cases k with
  | zero=>unfold orL;rw [if_pos (by simpa using h0)];rfl
  | succ k=>
   unfold orL;rw [if_neg (by have:=h x sq_;simpa using this)];exact ih (by simpa using hk) (fun y hy=>h y (by simp [hy])) (by simpa using h0)
theorem uw_ (b c:Nat) (l:List Int) (w:World) (hl:l.length≤100) (hb:∀ k,k<l.length->w.cell? ⟨b,k,none⟩=some (.int .i64 (l.getD k 0))) :
  Calls Tryz.prog 58 #[.slice (some ⟨b,0,none⟩) l.length c] w fun e w'=>e=.returned (.int .i64 (orL l))∧w'=w:=by
 have HB:=hq_ hb;clear hb
 go_enter Tryz.func58,Tryz.ntmps58
 go_wp2_with fail
 go_loopw [8] (fun i wr=>∃ k:Nat,k≤l.length∧i=.int .i64 k∧Hid (∀ x∈l.take k,x=0)∧wr=w) (fun i _=>l.length-(intOf i).toNat)
 case atStart=>exact ⟨0,oq_,rfl,hq_ sq_,rfl⟩
 case round=>
  obtain ⟨k,hk,rfl,HK,rfl⟩:=hrel;by_cases hlt:k<l.length
  ·have hlI:(k:Int)<l.length:=oq_;have hcell:=HB.out k hlt;obtain ⟨u,hu⟩:∃ u,u=l.getD k 0:=⟨_,rfl⟩;rw [<- hu] at hcell;have HU:=hq_ hu;have HLT:=hq_ hlt;clear hu;by_cases h0:u=0
   ·have e0:(u == 0)=true:=by simpa using h0
    have e1:(u != 0)=false:=by simp [h0]
    have H0:=hq_ h0;clear h0 hlt;go_wp2_with fail
    go_roundw
    case rel=>
     refine ⟨k+1,by have:=HLT.out;omega,by go_num,hq_ fun x hx=>?_,by first|rfl|trivial⟩;rw [List.take_succ_eq_append_getElem HLT.out] at hx;rcases List.mem_append.1 hx with hx|hx
     ·exact HK.out x hx
     ·rw [List.mem_singleton.1 hx,<- a6_ (d:=0) HLT.out,<- HU.out];exact H0.out
    case measure=>have:=HLT.out;simp [intOf];omega
   ·have e0:(u == 0)=false:=by simpa using h0
    have e1:(u != 0)=true:=by simp [h0]
    have H0:=hq_ h0;clear h0 hlt;go_wp2_with fail
    go_ret;exact ⟨dw_ (by rw [xl_ HLT.out HK.out (by rw [<- HU.out];exact H0.out),<- HU.out]),rfl⟩
  ·obtain rfl:k=l.length:=oq_;have hkI:¬ (l.length:Int)<l.length:=oq_;go_wp2_with fail
   go_ret;exact ⟨dw_ (ux_ fun x hx=>HK.out x (by rw [List.take_length];exact hx)).symm,rfl⟩
def linC (x y:a4_):Int:=orL [cmpI x.frm y.frm,cmpI x.fin y.fin,cmpI x.id y.id,cmpI x.day y.day]
theorem fy_:cmpI a b<0↔a<b:=by unfold cmpI;split <;> (try split) <;> omega
theorem cg_:cmpI a b=0↔a=b:=by unfold cmpI;split <;> (try split) <;> omega
theorem hn_ {x y:a4_}:linC x y<0↔LtL x y:=by
 unfold linC orL orL orL orL orL LtL;by_cases h1:x.frm=y.frm
 ·rw [if_neg (by simpa [cg_] using h1)];by_cases h2:x.fin=y.fin
  ·rw [if_neg (by simpa [cg_] using h2)];by_cases h3:x.id=y.id
   ·rw [if_neg (by simpa [cg_] using h3)];by_cases h4:x.day=y.day
    ·rw [if_neg (by simpa [cg_] using h4)];omega
    ·rw [if_pos (by simpa [cg_] using h4),fy_];omega
   ·rw [if_pos (by simpa [cg_] using h3),fy_];omega
  ·rw [if_pos (by simpa [cg_] using h2),fy_];omega
 ·rw [if_pos (by simpa [cg_] using h1),fy_];omega
theorem x6_:SWO (ltOf linC) where
 irrefl x:=by unfold ltOf;exact decide_eq_false (by rw [hn_];unfold LtL;omega)
 trans x y z h1 h2:=by
  unfold ltOf at *;simp only [decide_eq_true_eq,hn_] at *;unfold LtL at *;omega
 ntrans x y z h1 h2:=by
  unfold ltOf at *;simp only [decide_eq_false_iff_not,hn_] at *;unfold LtL at *;omega
theorem sa_ (x y:a4_) (w:World) :
  Calls Tryz.prog 57 #[.agg (lenc x).toArray,.agg (lenc y).toArray] w fun e w'=>e=.returned (.int .i64 (linC x y))∧GrN w w':=by
 obtain ⟨xf,xt,xk,xi,xd⟩:=x;obtain ⟨yf,yt,yk,yi,yd⟩:=y;have H1:=hq_ (fun W=>av_ xf yf W);have H2:=hq_ (fun W=>av_ xt yt W);have H3:=hq_ (fun W=>av_ xi yi W);have H4:=hq_ (fun W=>av_ xd yd W);show Calls _ _ #[.agg #[.int .i64 xf,.int .i64 xt,.int .i64 xk,.int .i64 xi,.int .i64 xd],.agg #[.int .i64 yf,.int .i64 yt,.int .i64 yk,.int .i64 yi,.int .i64 yd]] _ fun e w'=>e=.returned (.int .i64 (orL [cmpI xf yf,cmpI xt yt,cmpI xi yi,cmpI xd yd]))∧_;generalize cmpI xf yf=p at *;generalize cmpI xt yt=q at *;generalize cmpI xi yi=r at *;generalize cmpI xd yd=s at *;have HO:=hq_ (fun b c W (h:∀ i,W.cell? ⟨b,i,none⟩=(#[Value.int .i64 p,.int .i64 q,.int .i64 r,.int .i64 s]:Array Value)[i]?)=>uw_ b c [p,q,r,s] W sq_ fun k hk=>by
  rw [h k]
  match k,hk with
  | 0,_=>rfl
  | 1,_=>rfl
  | 2,_=>rfl
  | 3,_=>rfl)
 go_enter Tryz.func57,Tryz.ntmps57
 go_upto_region 1 with (fail)
 generalize hW:(w.alloc _).alloc _=w2;have hbx:Bxx w2 w.heap.size #[.int .i64 xf,.int .i64 xt,.int .i64 xk,.int .i64 xi,.int .i64 xd] 106:=by rw [<- hW];exact (Bxx.at rfl).alloc _
 have hby:Bxx w2 (w.heap.size+1) #[.int .i64 yf,.int .i64 yt,.int .i64 yk,.int .i64 yi,.int .i64 yd] 106:=by rw [<- hW];exact Bxx.at sq_
 have x0:w2.cell? ⟨w.heap.size,0,none⟩=some (.int .i64 xf):=(hbx.cells 0).1;have x1:w2.cell? ⟨w.heap.size,1,none⟩=some (.int .i64 xt):=(hbx.cells 1).1;have x3:w2.cell? ⟨w.heap.size,3,none⟩=some (.int .i64 xi):=(hbx.cells 3).1;have x4:w2.cell? ⟨w.heap.size,4,none⟩=some (.int .i64 xd):=(hbx.cells 4).1;have y0:w2.cell? ⟨w.heap.size+1,0,none⟩=some (.int .i64 yf):=(hby.cells 0).1;have y1:w2.cell? ⟨w.heap.size+1,1,none⟩=some (.int .i64 yt):=(hby.cells 1).1;have y3:w2.cell? ⟨w.heap.size+1,3,none⟩=some (.int .i64 yi):=(hby.cells 3).1;have y4:w2.cell? ⟨w.heap.size+1,4,none⟩=some (.int .i64 yd):=(hby.cells 4).1;have HW:=hq_ hW;clear hW hbx hby;go_region_held3 (fun w'=>GrN w2 w'∧w'.cell? ⟨w.heap.size,0,none⟩=some (.int .i64 xf)∧w'.cell? ⟨w.heap.size,1,none⟩=some (.int .i64 xt)∧w'.cell? ⟨w.heap.size,3,none⟩=some (.int .i64 xi)∧w'.cell? ⟨w.heap.size,4,none⟩=some (.int .i64 xd)∧w'.cell? ⟨w.heap.size+1,0,none⟩=some (.int .i64 yf)∧w'.cell? ⟨w.heap.size+1,1,none⟩=some (.int .i64 yt)∧w'.cell? ⟨w.heap.size+1,3,none⟩=some (.int .i64 yi)∧w'.cell? ⟨w.heap.size+1,4,none⟩=some (.int .i64 yd))
  ((go_split_ands;repeat' (with_reducible first|assumption|exact GrN.refl _|refine GrN.drew ?_|refine GrN.alloc ?_ _|refine kh_ ?_|refine a2_ ?_ _|apply And.intro)))
  (first|(go_at_call 58;(refine (HO.out _ _ _ (fun i=>((Bxx.drewB (Bxx.new _ _ _)).cells i).1)).mono ?_);rintro e w5 ⟨rfl,rfl⟩)|(go_at_call 59;(with_reducible refine (H1.out _).mono ?_);rintro e w3 ⟨rfl,rfl⟩)|(go_at_call 59;(with_reducible refine (H2.out _).mono ?_);rintro e w3 ⟨rfl,rfl⟩)|(go_at_call 59;(with_reducible refine (H3.out _).mono ?_);rintro e w3 ⟨rfl,rfl⟩)|(go_at_call 59;(with_reducible refine (H4.out _).mono ?_);rintro e w3 ⟨rfl,rfl⟩))
 go_wp2_with fail
 go_ret;have h2:GrN w w2:=by rw [<- HW.out];exact ((GrN.refl w).alloc _).alloc _
 refine ⟨rfl,h2.trans ?_⟩
 repeat' (with_reducible first|assumption|exact GrN.refl _|refine GrN.drew ?_|refine GrN.alloc ?_ _)
theorem sb_ (B:Nat) (v:Value) (R:List a4_) (w:World) (h:w.ownsRow B 106 5 v R.length (R.flatMap lenc)) (hn:R.length≤1000000) :
  Calls Tryz.prog 56 #[v,.func (.func 57) #[] #[]] w fun e w'=>e=.returned (.tuple #[])∧∃ R':List a4_,R'.Perm R∧(R'.Pairwise fun x y=>¬ LtL y x)∧RowR w' (fun b=>B≤b∧v.ownBlock=some b) v R.length (R'.flatMap lenc)∧w.grownBy w' v.ownBlock:=by
 have hcon:=kx_ Tryz.sortL Tryz.isAgg106 Tryz.sizeOf106 bp_ dq_ cj_ linC x6_ 57 #[] (enters_of Tryz.func57 (by kernel_rfl) rfl) v h hn (fun U x y _=>sa_ x y U);change Calls Tryz.prog 56 _ _ _ at hcon;refine hcon.mono fun e w' ⟨he,D',hp,hs,hr,hg⟩=>⟨he,D',hp,hs.imp fun {x y} hxy=>?_,hr,hg⟩;unfold ltOf at hxy;simpa only [decide_eq_false_iff_not,hn_] using hxy
end Go.Proofs.YtkclokcenllhmaaGreat
namespace Kal
def p6_ (l:List Bnd):Prop:=∀ b∈l,(b.k=0∨b.k=1)∧(b.d=1∨b.d=-1)
theorem n3_ {k:Int} (hk:k=0∨k=1) (l:List Spn):p6_ (bndL k l):=fun b hb=>by
 unfold bndL at hb;obtain ⟨s,_,hb⟩:=List.mem_flatMap.1 hb
 split at hb
 ·simp at hb;rcases hb with rfl|rfl
  ·exact ⟨hk,.inl rfl⟩
  ·exact ⟨hk,.inr rfl⟩
 ·cases hb
theorem vh_ {a b:List Spn} {l:List Bnd} (h:l.Perm (bndL 0 a ++ bndL 1 b)):p6_ l:=fun x hx=>by
 rcases List.mem_append.1 (h.mem_iff.1 hx) with g|g
 ·exact n3_ (.inl rfl) a x g
 ·exact n3_ (.inr rfl) b x g
theorem sj_ {k:Int}:∀ {l:List Bnd},p6_ l->-(l.length:Int)≤opn l k∧opn l k≤l.length
 | [],_=>by simp [opn]
 | b :: l,h=>by
  have h1:=sj_ (k:=k) (l:=l) fun x hx=>h x (by simp [hx]);have h2:=(h b sq_).2;rw [opn,List.length_cons];push_cast
  split <;> omega
theorem mp_ {l:List Bnd} {b:Bnd} (h:l[i]? = some b) (k:Int):opn (l.take (i+1)) k=opn (l.take i) k+if b.k=k then b.d else 0:=by
 obtain ⟨hi,e⟩:=List.getElem?_eq_some_iff.1 h;rw [List.take_succ_eq_append_getElem hi,k8_,e];simp [opn]
end Kal
end
