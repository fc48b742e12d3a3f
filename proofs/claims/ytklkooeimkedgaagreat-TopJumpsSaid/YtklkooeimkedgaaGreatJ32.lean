/- Parts of the walk of TopJumps: Rec1. -/
import Derived.Test.YtklkooeimkedgaaGreatJ24
import Derived.Test.YtklkooeimkedgaaGreatJ31
set_option linter.unusedVariables false
set_option linter.unusedSimpArgs false
namespace Go.Proofs.YtklkooeimkedgaaGreat
open Go.RowKit
set_option maxRecDepth 8000
set_option maxHeartbeats 1000000 in
theorem number_f (v : Value) (zs : List Int) (n : Int) (hn : I64 n) (base : Nat) (w : World) (hz : OwnB w base v zs) (hl : (zs.length : Int) ≤ 140737488355000) (hb : base ≤ w.heap.size) :
  Calls Tryz.prog 190 #[v,.int .i64 n] w fun e w'=>∃ v',e = .returned v' ∧ OwnB w' base v' (zs ++ vputF (zigF n)) ∧ Below base w w':=by
 have zg:=fun w=>zig_f n hn w
 have hu:=zigF_u64 hn
 have pt:=fun w=>vput_f (zigF n) hu w
 have hln:=vsize_le hu
 rw [← vputF_len] at hln
 generalize vputF (zigF n) = ys at *
 generalize zigF n = z at *
 go_enter Tryz.func190,Tryz.ntmps190
 go_wp2_with fail
 refine (zg _).mono ?_;rintro e w1 ⟨rfl,rfl⟩
 go_wp2_with fail
 refine (pt _).mono ?_;rintro e w1 ⟨v1,rfl,ho1,hb1⟩
 obtain ⟨a,c,rfl,hba,hac⟩:=ho1.bytes
 have hs1:=hb1.size
 have HO:=Lib.hid (hz.below hb1)
 have HB:=Lib.hid (hb1.mono hb)
 clear hz ho1 hb1
 go_wp2_with (at_builtin;refine wpList_app_bytes _ rfl (.tmp 5) (.tmp 8) rfl base _ zs rfl HO.out a ys.length c ys rfl hba hac (by omega) (by omega) ?_)
 intro v2 w2 ho2 hg2
 have HB2 : Hid (Below base w w2):=Lib.hid (HB.out.grown hg2 (by omega) (fun j e=>(HO.out.lt j e).1))
 have HO2:=Lib.hid ho2
 clear ho2 hg2 HO
 go_wp2
 go_ret
 exact ⟨v2,rfl,HO2.out,HB2.out⟩
end Go.Proofs.YtklkooeimkedgaaGreat
