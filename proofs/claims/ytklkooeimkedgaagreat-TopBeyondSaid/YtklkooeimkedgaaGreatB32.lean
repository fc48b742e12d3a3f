/- Walk of TopBeyond. -/
import Derived.Test.YtklkooeimkedgaaGreatB21
import Derived.Test.YtklkooeimkedgaaGreatB31
set_option linter.unusedVariables false
set_option linter.unusedSimpArgs false
namespace Go.Proofs.YtklkooeimkedgaaGreat
open Go.RowKit
set_option maxRecDepth 8000
set_option maxHeartbeats 1000000 in
theorem qQ (v : Value) (zs : List Int) (n : Int) (hn : ay n) (base : Nat) (w : World) (hz : aY w base v zs) (hl : (zs.length : Int) <= 140737488355000) (hb : base <= w.heap.size) :
 Calls Tryz.prog 190 #[v,.int .i64 n] w λe w'=>∃ v',e = .returned v' /\ aY w' base v' (zs ++ aF (kU n)) /\ Below base w w':=by
 have zg:=λw=>VY n hn w
 have hu:=sV hn
 have pt:=λw=>nH (kU n) hu w
 have hln:=dJ hu
 rw [← d9] at hln
 generalize aF (kU n) = ys at *
 generalize kU n = z at *
 go_enter Tryz.func190,Tryz.ntmps190
 go_wp2_with fail
 refine (zg _).mono ?_;rintro e w1 ⟨rfl,rfl⟩
 go_wp2_with fail
 refine (pt _).mono ?_;rintro e w1 ⟨v1,rfl,ho1,hb1⟩
 obtain ⟨a,c,rfl,hba,hac⟩:=ho1.bytes
 have hs1:=hb1.size;have HO:=aiS (hz.below hb1);have HB:=aiS (hb1.mono hb);clear hz ho1 hb1
 go_wp2_with (at_builtin;refine bF _ rfl (.tmp 5) (.tmp 8) rfl base _ zs rfl HO.out a ys.length c ys rfl hba hac (by omega) (by omega) ?_)
 intro v2 w2 ho2 hg2
 have HB2 : Hid (Below base w w2):=aiS (HB.out.grown hg2 (by omega) (λj e=>(HO.out.lt j e).1))
 have bQ:=aiS ho2;clear ho2 hg2 HO
 go_wp2
 go_ret
 exact ⟨v2,rfl,bQ.out,HB2.out⟩
end Go.Proofs.YtklkooeimkedgaaGreat
