/- Walk of TopExact. -/
import Derived.Below
import Derived.BigRegion
import Derived.Deep.RegionWith
import Derived.RegionTactic
import Derived.Test.YtklkooeimkedgaaGreatE6
set_option linter.unusedVariables false
set_option linter.unusedSimpArgs false
namespace Go.Proofs.YtklkooeimkedgaaGreat
open Go.RowKit
abbrev v3 (a b c : Int) : Value:=.agg #[.int .i64 a,.int .i64 b,.int .i64 c]
abbrev v6 (a b c d e f : Int) : Value:=.agg #[.int .i64 a,.int .i64 b,.int .i64 c,.int .i64 d,.int .i64 e,.int .i64 f]
abbrev v2 (a b : Int) : Value:=.agg #[.int .i64 a,.int .i64 b]
abbrev t3 (a b c : Bool) : Value:=.agg #[.bool a,.bool b,.bool c]
theorem Jd (w : World) (n : Nat) : Below w.heap.size w (w.drewN n):=below_drewN ah8 n
@[go_sem] theorem XU (w : World) (n : Nat) (p : Addr) (v : Value) : (w.drewN n).setCell p v = (w.setCell p v).drewN n:=by
 unfold World.setCell
 simp only [World.heap_drewN]
 split <;> rfl
def FM (w : World) (xs : Array Value) (ta : TypeId) (ys : Array Value) (tb : TypeId) (z0 z1 z2 z3 : Array Value) (tc : TypeId) (i : Value) (wr : World) : Prop :=
 ∃ n : Nat,(i = .int .i64 0 /\ wr = ((((w.alloc (.cells xs ta)).alloc (.cells ys tb)).alloc (.cells z0 tc)).alloc (.cells z0 tc)).drewN n) \/
  (i = .int .i64 1 /\ wr = ((((w.alloc (.cells xs ta)).alloc (.cells ys tb)).alloc (.cells z0 tc)).alloc (.cells z1 tc)).drewN n) \/
  (i = .int .i64 2 /\ wr = ((((w.alloc (.cells xs ta)).alloc (.cells ys tb)).alloc (.cells z0 tc)).alloc (.cells z2 tc)).drewN n) \/
  (i = .int .i64 3 /\ wr = ((((w.alloc (.cells xs ta)).alloc (.cells ys tb)).alloc (.cells z0 tc)).alloc (.cells z3 tc)).drewN n)
set_option maxHeartbeats 1000000 in
theorem Pk (a0 a1 a2 b0 b1 b2 : Int) (h0 : ay a0) (h1 : ay a1) (h2 : ay a2) (k0 : ay b0) (k1 : ay b1) (k2 : ay b2) (w : World) :
 Calls Tryz.prog 178 #[v3 a0 a1 a2,v3 b0 b1 b2,.func (.func 28) #[] #[]] w λe w' =>
  e = .returned (v3 (bJ a0 b0) (bJ a1 b1) (bJ a2 b2)) /\ Below w.heap.size w w':=by
 have c0:=uZ a0 b0 h0 k0;have c1:=uZ a1 b1 h1 k1;have c2:=uZ a2 b2 h2 k2;clear h0 h1 h2 k0 k1 k2
 generalize bJ a0 b0 = r0 at *
 generalize bJ a1 b1 = r1 at *
 generalize bJ a2 b2 = r2 at *
 go_enter Tryz.func178,Tryz.ntmps178
 go_wp2_with fail
 go_loopw [9] (λi wr=>FM w #[.int .i64 a0,.int .i64 a1,.int .i64 a2] 22 #[.int .i64 b0,.int .i64 b1,.int .i64 b2] 22 #[.int .i64 0,.int .i64 0,.int .i64 0] #[.int .i64 r0,.int .i64 0,.int .i64 0] #[.int .i64 r0,.int .i64 r1,.int .i64 0] #[.int .i64 r0,.int .i64 r1,.int .i64 r2] 22 i wr) (λi _=>3 - (intOf i).toNat)
 case atStart=>exact ⟨0,.inl ⟨rfl,rfl⟩⟩
 case round =>
  obtain ⟨n,⟨rfl,rfl⟩ | ⟨rfl,rfl⟩ | ⟨rfl,rfl⟩ | ⟨rfl,rfl⟩⟩:=hrel
  ·go_wp2_with fail
   go_region_with (go_at_call 28;refine (c0 _).mono ?_;rintro e w' ⟨rfl,rfl⟩)
   all_goals go_wp2_with fail
   all_goals go_roundw
   all_goals first | exact ⟨_,.inr (.inl ⟨rfl,rfl⟩)⟩ | decide
  ·go_wp2_with fail
   go_region_with (go_at_call 28;refine (c1 _).mono ?_;rintro e w' ⟨rfl,rfl⟩)
   all_goals go_wp2_with fail
   all_goals go_roundw
   all_goals first | exact ⟨_,.inr (.inr (.inl ⟨rfl,rfl⟩))⟩ | decide
  ·go_wp2_with fail
   go_region_with (go_at_call 28;refine (c2 _).mono ?_;rintro e w' ⟨rfl,rfl⟩)
   all_goals go_wp2_with fail
   all_goals go_roundw
   all_goals first | exact ⟨_,.inr (.inr (.inr ⟨rfl,rfl⟩))⟩ | decide
  ·go_wp2_with fail
   exact bodyPost_ret (v:=v3 r0 r1 r2) (by simp [results,Tryz.results178,go_sem]) rfl ⟨rfl,by (repeat (first | exact Below.refl _ _ | assumption | (refine Below.drew ?_) | (refine below_drewN ?_ _) | (refine Below.alloc ?_ (by simp <;> omega) _) | (refine Below.setCell ?_ (by simp <;> omega) _)))⟩
set_option maxHeartbeats 1000000 in
theorem Pm (a0 a1 a2 b0 b1 b2 : Int) (h0 : ay a0) (h1 : ay a1) (h2 : ay a2) (k0 : ay b0) (k1 : ay b1) (k2 : ay b2) (w : World) :
 Calls Tryz.prog 178 #[v3 a0 a1 a2,v3 b0 b1 b2,.func (.func 29) #[] #[]] w λe w' =>
  e = .returned (v3 (aQ a0 b0) (aQ a1 b1) (aQ a2 b2)) /\ Below w.heap.size w w':=by
 have c0:=rJ a0 b0 h0 k0;have c1:=rJ a1 b1 h1 k1;have c2:=rJ a2 b2 h2 k2;clear h0 h1 h2 k0 k1 k2
 generalize aQ a0 b0 = r0 at *
 generalize aQ a1 b1 = r1 at *
 generalize aQ a2 b2 = r2 at *
 go_enter Tryz.func178,Tryz.ntmps178
 go_wp2_with fail
 go_loopw [9] (λi wr=>FM w #[.int .i64 a0,.int .i64 a1,.int .i64 a2] 22 #[.int .i64 b0,.int .i64 b1,.int .i64 b2] 22 #[.int .i64 0,.int .i64 0,.int .i64 0] #[.int .i64 r0,.int .i64 0,.int .i64 0] #[.int .i64 r0,.int .i64 r1,.int .i64 0] #[.int .i64 r0,.int .i64 r1,.int .i64 r2] 22 i wr) (λi _=>3 - (intOf i).toNat)
 case atStart=>exact ⟨0,.inl ⟨rfl,rfl⟩⟩
 case round =>
  obtain ⟨n,⟨rfl,rfl⟩ | ⟨rfl,rfl⟩ | ⟨rfl,rfl⟩ | ⟨rfl,rfl⟩⟩:=hrel
  ·go_wp2_with fail
   go_region_with (go_at_call 29;refine (c0 _).mono ?_;rintro e w' ⟨rfl,rfl⟩)
   all_goals go_wp2_with fail
   all_goals go_roundw
   all_goals first | exact ⟨_,.inr (.inl ⟨rfl,rfl⟩)⟩ | decide
  ·go_wp2_with fail
   go_region_with (go_at_call 29;refine (c1 _).mono ?_;rintro e w' ⟨rfl,rfl⟩)
   all_goals go_wp2_with fail
   all_goals go_roundw
   all_goals first | exact ⟨_,.inr (.inr (.inl ⟨rfl,rfl⟩))⟩ | decide
  ·go_wp2_with fail
   go_region_with (go_at_call 29;refine (c2 _).mono ?_;rintro e w' ⟨rfl,rfl⟩)
   all_goals go_wp2_with fail
   all_goals go_roundw
   all_goals first | exact ⟨_,.inr (.inr (.inr ⟨rfl,rfl⟩))⟩ | decide
  ·go_wp2_with fail
   exact bodyPost_ret (v:=v3 r0 r1 r2) (by simp [results,Tryz.results178,go_sem]) rfl ⟨rfl,by (repeat (first | exact Below.refl _ _ | assumption | (refine Below.drew ?_) | (refine below_drewN ?_ _) | (refine Below.alloc ?_ (by simp <;> omega) _) | (refine Below.setCell ?_ (by simp <;> omega) _)))⟩
theorem FN (x y num den : Int) (hx : ay x) (hy : ay y) (h : iL num den = true) (bn bd : Nat) (w : World) (hn : w.cell? ⟨bn,0,none⟩ = some (.int .i64 num)) (hd : w.cell? ⟨bd,0,none⟩ = some (.int .i64 den)) :
 Calls Tryz.prog 257 #[.int .i64 x,.int .i64 y,.pointer (some ⟨bn,0,none⟩),.pointer (some ⟨bd,0,none⟩)] w λe w'=>e = .returned (.int .i64 (cK x y num den)) /\ ∃ k,w' = w.drewN k:=by
 have c:=OM x y num den hx hy h;clear h
 generalize cK x y num den = r at *
 go_enter Tryz.func257,Tryz.ntmps257
 go_wp2_with fail
 refine (c _).mono ?_;rintro e w' ⟨rfl,k,rfl⟩
 go_wp2
 go_ret
 exact ⟨rfl,k,rfl⟩
set_option maxHeartbeats 1000000 in
theorem Nj (a0 a1 a2 b0 b1 b2 num den : Int) (h0 : ay a0) (h1 : ay a1) (h2 : ay a2) (k0 : ay b0) (k1 : ay b1) (k2 : ay b2) (hf : iL num den = true) (bn bd : Nat) (w : World) (hn : w.cell? ⟨bn,0,none⟩ = some (.int .i64 num)) (hd : w.cell? ⟨bd,0,none⟩ = some (.int .i64 den)) :
 Calls Tryz.prog 178 #[v3 a0 a1 a2,v3 b0 b1 b2,.func (.func 257) #[] #[.pointer (some ⟨bn,0,none⟩),.pointer (some ⟨bd,0,none⟩)]] w λe w' =>
  e = .returned (v3 (cK a0 b0 num den) (cK a1 b1 num den) (cK a2 b2 num den)) /\ Below w.heap.size w w':=by
 have ln:=World.block_lt_of_cell? w _ hn;have ld:=World.block_lt_of_cell? w _ hd
 have c0:=λw' (hb : Below w.heap.size w w')=>FN a0 b0 num den h0 k0 hf bn bd w' ((hb.cell (p:=⟨bn,0,none⟩) ln).trans hn) ((hb.cell (p:=⟨bd,0,none⟩) ld).trans hd)
 have c1:=λw' (hb : Below w.heap.size w w')=>FN a1 b1 num den h1 k1 hf bn bd w' ((hb.cell (p:=⟨bn,0,none⟩) ln).trans hn) ((hb.cell (p:=⟨bd,0,none⟩) ld).trans hd)
 have c2:=λw' (hb : Below w.heap.size w w')=>FN a2 b2 num den h2 k2 hf bn bd w' ((hb.cell (p:=⟨bn,0,none⟩) ln).trans hn) ((hb.cell (p:=⟨bd,0,none⟩) ld).trans hd)
 clear h0 h1 h2 k0 k1 k2 hf hn hd ln ld
 generalize cK a0 b0 num den = r0 at *
 generalize cK a1 b1 num den = r1 at *
 generalize cK a2 b2 num den = r2 at *
 go_enter Tryz.func178,Tryz.ntmps178
 go_wp2_with fail
 go_loopw [9] (λi wr=>FM w #[.int .i64 a0,.int .i64 a1,.int .i64 a2] 22 #[.int .i64 b0,.int .i64 b1,.int .i64 b2] 22 #[.int .i64 0,.int .i64 0,.int .i64 0] #[.int .i64 r0,.int .i64 0,.int .i64 0] #[.int .i64 r0,.int .i64 r1,.int .i64 0] #[.int .i64 r0,.int .i64 r1,.int .i64 r2] 22 i wr) (λi _=>3 - (intOf i).toNat)
 case atStart=>exact ⟨0,.inl ⟨rfl,rfl⟩⟩
 case round =>
  obtain ⟨n,⟨rfl,rfl⟩ | ⟨rfl,rfl⟩ | ⟨rfl,rfl⟩ | ⟨rfl,rfl⟩⟩:=hrel
  ·go_wp2_with fail
   go_region_with (go_at_call 257;refine (c0 _ ?hb).mono ?_;(case hb=>(repeat (first | exact Below.refl _ _ | assumption | (refine Below.drew ?_) | (refine below_drewN ?_ _) | (refine Below.alloc ?_ (by simp <;> omega) _) | (refine Below.setCell ?_ (by simp <;> omega) _))));rintro e w' ⟨rfl,k,rfl⟩)
   all_goals go_wp2_with fail
   all_goals go_roundw
   all_goals first | exact ⟨_,.inr (.inl ⟨rfl,rfl⟩)⟩ | decide
  ·go_wp2_with fail
   go_region_with (go_at_call 257;refine (c1 _ ?hb).mono ?_;(case hb=>(repeat (first | exact Below.refl _ _ | assumption | (refine Below.drew ?_) | (refine below_drewN ?_ _) | (refine Below.alloc ?_ (by simp <;> omega) _) | (refine Below.setCell ?_ (by simp <;> omega) _))));rintro e w' ⟨rfl,k,rfl⟩)
   all_goals go_wp2_with fail
   all_goals go_roundw
   all_goals first | exact ⟨_,.inr (.inr (.inl ⟨rfl,rfl⟩))⟩ | decide
  ·go_wp2_with fail
   go_region_with (go_at_call 257;refine (c2 _ ?hb).mono ?_;(case hb=>(repeat (first | exact Below.refl _ _ | assumption | (refine Below.drew ?_) | (refine below_drewN ?_ _) | (refine Below.alloc ?_ (by simp <;> omega) _) | (refine Below.setCell ?_ (by simp <;> omega) _))));rintro e w' ⟨rfl,k,rfl⟩)
   all_goals go_wp2_with fail
   all_goals go_roundw
   all_goals first | exact ⟨_,.inr (.inr (.inr ⟨rfl,rfl⟩))⟩ | decide
  ·go_wp2_with fail
   exact bodyPost_ret (v:=v3 r0 r1 r2) (by simp [results,Tryz.results178,go_sem]) rfl ⟨rfl,by (repeat (first | exact Below.refl _ _ | assumption | (refine Below.drew ?_) | (refine below_drewN ?_ _) | (refine Below.alloc ?_ (by simp <;> omega) _) | (refine Below.setCell ?_ (by simp <;> omega) _)))⟩
end Go.Proofs.YtklkooeimkedgaaGreat
