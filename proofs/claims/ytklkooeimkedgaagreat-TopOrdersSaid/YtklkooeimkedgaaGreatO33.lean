/- Parts of the walk of TopOrders: Rec1. -/
import Derived.Test.YtklkooeimkedgaaGreatO0
import Derived.Test.YtklkooeimkedgaaGreatO26
import Derived.Test.YtklkooeimkedgaaGreatO32
set_option linter.unusedVariables false
set_option linter.unusedSimpArgs false
namespace Go.Proofs.YtklkooeimkedgaaGreat
open Go.RowKit
set_option maxRecDepth 8000
set_option maxHeartbeats 1000000 in
theorem qP (v : Value) (zs : List Int) (n : Int) (hn : aA n) (base : Nat) (w : World) (hz : bf w base v zs) (hl : (zs.length : Int) <= 140737488355000) (hb : base <= w.heap.size) :
  Calls Tryz.prog 190 #[v,.int .i64 n] w λe w'=>∃ v',e = .returned v' /\ bf w' base v' (zs ++ aD (kS n)) /\ Below base w w':=by
 have zg:=λw=>V8 n hn w
 have hu:=sV hn
 have pt:=λw=>nL (kS n) hu w
 have hln:=dK hu
 rw [← eu] at hln
 generalize aD (kS n) = ys at *
 generalize kS n = z at *
 go_enter Tryz.func190,Tryz.ntmps190
 go_wp2_with fail
 refine (zg _).mono ?_;rintro e w1 ⟨rfl,rfl⟩
 go_wp2_with fail
 refine (pt _).mono ?_;rintro e w1 ⟨v1,rfl,ho1,hb1⟩
 obtain ⟨a,c,rfl,hba,hac⟩:=ho1.bytes
 have hs1:=hb1.size
 have HO:=ahZ (hz.below hb1)
 have HB:=ahZ (hb1.mono hb)
 clear hz ho1 hb1
 go_wp2_with (at_builtin;refine bG _ rfl (.tmp 5) (.tmp 8) rfl base _ zs rfl HO.out a ys.length c ys rfl hba hac (by omega) (by omega) ?_)
 intro v2 w2 ho2 hg2
 have HB2 : Hid (Below base w w2):=ahZ (HB.out.grown hg2 (by omega) (λj e=>(HO.out.lt j e).1))
 have bT:=ahZ ho2
 clear ho2 hg2 HO
 go_wp2
 go_ret
 exact ⟨v2,rfl,bT.out,HB2.out⟩
end Go.Proofs.YtklkooeimkedgaaGreat
