/- Walks: gcd, below, Count (package kalendsref04). -/
import Derived.Test.YtjilkhhokkncoaaGreatMWalkRh
set_option linter.unusedVariables false
set_option linter.unusedSimpArgs false
namespace Go.Proofs.YtjilkhhokkncoaaGreat
open Go.RowKit Go.Maps Kal
set_option maxHeartbeats 1000000 in
theorem Rgcd_any (a b:Int) (w:World) (ha:1≤a) (ha1:a≤9223372036854775807) (hb:0≤b) (hb1:b≤9223372036854775807) :
  Calls Tryz.prog 91 #[.int .i64 a,.int .i64 b] w fun e w'=>e=.returned (.int .i64 (Int.gcd a b:Nat))∧w=w':=by
 obtain ⟨g,hg⟩:∃ g,g=((Int.gcd a b:Nat):Int):=⟨_,rfl⟩
 rw [← hg]
 have HG:=Lib.hid hg.symm
 clear hg
 go_enter Tryz.func91,Tryz.ntmps91
 go_wp2_with fail
 go_loop [0,1] (fun vx vy=>∃ x y:Int,vx=.int .i64 x∧vy=.int .i64 y∧0≤x∧x≤9223372036854775807∧0≤y∧y≤9223372036854775807∧Int.gcd x y=Int.gcd a b) (fun _ vy=>(intOf vy).toNat)
 case atStart=>exact ⟨a,b,rfl,rfl,by omega,ha1,hb,hb1,rfl⟩
 case round=>
  obtain ⟨x,y,rfl,rfl,hx0,hx1,hy0,hy1,hgxy⟩:=hrel
  have HX:=Lib.hid hgxy
  clear hgxy
  by_cases hz:y=0
  ·have hxg:x=g:=by have:=gcd_zero hx0;rw [hz] at HX;rw [HX.out,HG.out] at this;exact this.symm
   have HXG:=Lib.hid hxg
   have hzb:(y != 0)=false:=by simp [hz]
   clear hxg hz
   go_wp2_with fail
   go_ret
   exact ⟨ret_int HXG.out,rfl⟩
  ·have hypos:0<y:=by omega
   have hs:=gcd_step hx0 hypos
   rw [HX.out] at hs
   have HS:=Lib.hid hs
   clear hs
   have hm0:=Int.emod_nonneg x (show y≠0 by omega)
   have hm1:=Int.emod_lt_of_pos x (show 0<y by omega)
   have hzb:(y != 0)=true:=by rw [bne_iff_ne];omega
   go_wp2_with fail
   go_round
   case rel=>exact ⟨y,x % y,rfl,rfl,hy0,hy1,hm0,by omega,HS.out⟩
   case measure=>simp [intOf];omega
end Go.Proofs.YtjilkhhokkncoaaGreat
