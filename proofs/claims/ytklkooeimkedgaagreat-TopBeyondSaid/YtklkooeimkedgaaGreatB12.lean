/- Walk of TopBeyond. -/
import Derived.Below
import Derived.BigRegion
import Derived.Deep.RegionWith
import Derived.RegionTactic
import Derived.Test.YtklkooeimkedgaaGreatB6
set_option linter.unusedVariables false
set_option linter.unusedSimpArgs false
namespace Go.Proofs.YtklkooeimkedgaaGreat
open Go.RowKit
abbrev v3 (a b c : Int) : Value:=.agg #[.int .i64 a,.int .i64 b,.int .i64 c]
abbrev v6 (a b c d e f : Int) : Value:=.agg #[.int .i64 a,.int .i64 b,.int .i64 c,.int .i64 d,.int .i64 e,.int .i64 f]
abbrev v2 (a b : Int) : Value:=.agg #[.int .i64 a,.int .i64 b]
abbrev t3 (a b c : Bool) : Value:=.agg #[.bool a,.bool b,.bool c]
theorem Jh (w : World) (n : Nat) : Below w.heap.size w (w.drewN n):=below_drewN aiU n
@[go_sem] theorem Yx (w : World) (n : Nat) (p : Addr) (v : Value) : (w.drewN n).setCell p v = (w.setCell p v).drewN n:=by
 unfold World.setCell
 simp only [World.heap_drewN]
 split <;> rfl
def Cy (w : World) (xs : Array Value) (ta : TypeId) (ys : Array Value) (tb : TypeId) (z0 z1 z2 z3 : Array Value) (tc : TypeId) (i : Value) (wr : World) : Prop :=
 ∃ n : Nat,(i = .int .i64 0 /\ wr = ((((w.alloc (.cells xs ta)).alloc (.cells ys tb)).alloc (.cells z0 tc)).alloc (.cells z0 tc)).drewN n) \/
  (i = .int .i64 1 /\ wr = ((((w.alloc (.cells xs ta)).alloc (.cells ys tb)).alloc (.cells z0 tc)).alloc (.cells z1 tc)).drewN n) \/
  (i = .int .i64 2 /\ wr = ((((w.alloc (.cells xs ta)).alloc (.cells ys tb)).alloc (.cells z0 tc)).alloc (.cells z2 tc)).drewN n) \/
  (i = .int .i64 3 /\ wr = ((((w.alloc (.cells xs ta)).alloc (.cells ys tb)).alloc (.cells z0 tc)).alloc (.cells z3 tc)).drewN n)
def kP (x y d : Int) : Bool:=decide (max x y - min x y <= d)
set_option maxHeartbeats 1000000 in
theorem PV (a0 a1 a2 b0 b1 b2 : Int) (h0 : ay a0) (h1 : ay a1) (h2 : ay a2) (k0 : ay b0) (k1 : ay b1) (k2 : ay b2) (w : World) :
 Calls Tryz.prog 178 #[v3 a0 a1 a2,v3 b0 b1 b2,.func (.func 28) #[] #[]] w λe w' =>
  e = .returned (v3 (aU a0 b0) (aU a1 b1) (aU a2 b2)) /\ Below w.heap.size w w':=by
 have c0:=tO a0 b0 h0 k0;have c1:=tO a1 b1 h1 k1;have c2:=tO a2 b2 h2 k2;clear h0 h1 h2 k0 k1 k2
 generalize aU a0 b0 = r0 at *
 generalize aU a1 b1 = r1 at *
 generalize aU a2 b2 = r2 at *
 go_enter Tryz.func178,Tryz.ntmps178
 go_wp2_with fail
 go_loopw [9] (λi wr=>Cy w #[.int .i64 a0,.int .i64 a1,.int .i64 a2] 22 #[.int .i64 b0,.int .i64 b1,.int .i64 b2] 22 #[.int .i64 0,.int .i64 0,.int .i64 0] #[.int .i64 r0,.int .i64 0,.int .i64 0] #[.int .i64 r0,.int .i64 r1,.int .i64 0] #[.int .i64 r0,.int .i64 r1,.int .i64 r2] 22 i wr) (λi _=>3 - (intOf i).toNat)
 case atStart=>exact ⟨0,.inl ⟨rfl,rfl⟩⟩
 case round =>
  obtain ⟨n,⟨rfl,rfl⟩ | ⟨rfl,rfl⟩ | ⟨rfl,rfl⟩ | ⟨rfl,rfl⟩⟩:=hrel
  ·go_wp2_with fail
   go_region_with (go_at_call 28;refine (c0 _).mono ?_;rintro e w' ⟨rfl,rfl⟩)
   all_goals go_wp2_with fail
   all_goals go_roundw
   all_goals first | exact ⟨_,.inr (.inl ⟨rfl,rfl⟩)⟩ | decide
  ·go_wp2_with fail
   go_region_with (go_at_call 28;refine (c1 _).mono ?_;rintro e w' ⟨rfl,rfl⟩)
   all_goals go_wp2_with fail
   all_goals go_roundw
   all_goals first | exact ⟨_,.inr (.inr (.inl ⟨rfl,rfl⟩))⟩ | decide
  ·go_wp2_with fail
   go_region_with (go_at_call 28;refine (c2 _).mono ?_;rintro e w' ⟨rfl,rfl⟩)
   all_goals go_wp2_with fail
   all_goals go_roundw
   all_goals first | exact ⟨_,.inr (.inr (.inr ⟨rfl,rfl⟩))⟩ | decide
  ·go_wp2_with fail
   exact bodyPost_ret (v:=v3 r0 r1 r2) (by simp [results,Tryz.results178,go_sem]) rfl ⟨rfl,by (repeat (first | exact Below.refl _ _ | assumption | (refine Below.drew ?_) | (refine below_drewN ?_ _) | (refine Below.alloc ?_ (by simp <;> omega) _) | (refine Below.setCell ?_ (by simp <;> omega) _)))⟩
set_option maxHeartbeats 1000000 in
theorem PW (a0 a1 a2 b0 b1 b2 : Int) (h0 : ay a0) (h1 : ay a1) (h2 : ay a2) (k0 : ay b0) (k1 : ay b1) (k2 : ay b2) (w : World) :
 Calls Tryz.prog 178 #[v3 a0 a1 a2,v3 b0 b1 b2,.func (.func 29) #[] #[]] w λe w' =>
  e = .returned (v3 (aN a0 b0) (aN a1 b1) (aN a2 b2)) /\ Below w.heap.size w w':=by
 have c0:=qH a0 b0 h0 k0;have c1:=qH a1 b1 h1 k1;have c2:=qH a2 b2 h2 k2;clear h0 h1 h2 k0 k1 k2
 generalize aN a0 b0 = r0 at *
 generalize aN a1 b1 = r1 at *
 generalize aN a2 b2 = r2 at *
 go_enter Tryz.func178,Tryz.ntmps178
 go_wp2_with fail
 go_loopw [9] (λi wr=>Cy w #[.int .i64 a0,.int .i64 a1,.int .i64 a2] 22 #[.int .i64 b0,.int .i64 b1,.int .i64 b2] 22 #[.int .i64 0,.int .i64 0,.int .i64 0] #[.int .i64 r0,.int .i64 0,.int .i64 0] #[.int .i64 r0,.int .i64 r1,.int .i64 0] #[.int .i64 r0,.int .i64 r1,.int .i64 r2] 22 i wr) (λi _=>3 - (intOf i).toNat)
 case atStart=>exact ⟨0,.inl ⟨rfl,rfl⟩⟩
 case round =>
  obtain ⟨n,⟨rfl,rfl⟩ | ⟨rfl,rfl⟩ | ⟨rfl,rfl⟩ | ⟨rfl,rfl⟩⟩:=hrel
  ·go_wp2_with fail
   go_region_with (go_at_call 29;refine (c0 _).mono ?_;rintro e w' ⟨rfl,rfl⟩)
   all_goals go_wp2_with fail
   all_goals go_roundw
   all_goals first | exact ⟨_,.inr (.inl ⟨rfl,rfl⟩)⟩ | decide
  ·go_wp2_with fail
   go_region_with (go_at_call 29;refine (c1 _).mono ?_;rintro e w' ⟨rfl,rfl⟩)
   all_goals go_wp2_with fail
   all_goals go_roundw
   all_goals first | exact ⟨_,.inr (.inr (.inl ⟨rfl,rfl⟩))⟩ | decide
  ·go_wp2_with fail
   go_region_with (go_at_call 29;refine (c2 _).mono ?_;rintro e w' ⟨rfl,rfl⟩)
   all_goals go_wp2_with fail
   all_goals go_roundw
   all_goals first | exact ⟨_,.inr (.inr (.inr ⟨rfl,rfl⟩))⟩ | decide
  ·go_wp2_with fail
   exact bodyPost_ret (v:=v3 r0 r1 r2) (by simp [results,Tryz.results178,go_sem]) rfl ⟨rfl,by (repeat (first | exact Below.refl _ _ | assumption | (refine Below.drew ?_) | (refine below_drewN ?_ _) | (refine Below.alloc ?_ (by simp <;> omega) _) | (refine Below.setCell ?_ (by simp <;> omega) _)))⟩
theorem FT (x y num den : Int) (hx : ay x) (hy : ay y) (h : iJ num den = true) (bn bd : Nat) (w : World) (hn : w.cell? ⟨bn,0,none⟩ = some (.int .i64 num)) (hd : w.cell? ⟨bd,0,none⟩ = some (.int .i64 den)) :
 Calls Tryz.prog 257 #[.int .i64 x,.int .i64 y,.pointer (some ⟨bn,0,none⟩),.pointer (some ⟨bd,0,none⟩)] w λe w'=>e = .returned (.int .i64 (cO x y num den)) /\ ∃ k,w' = w.drewN k:=by
 have c:=Pf x y num den hx hy h;clear h
 generalize cO x y num den = r at *
 go_enter Tryz.func257,Tryz.ntmps257
 go_wp2_with fail
 refine (c _).mono ?_;rintro e w' ⟨rfl,k,rfl⟩
 go_wp2
 go_ret
 exact ⟨rfl,k,rfl⟩
set_option maxHeartbeats 1000000 in
theorem Nu (a0 a1 a2 b0 b1 b2 num den : Int) (h0 : ay a0) (h1 : ay a1) (h2 : ay a2) (k0 : ay b0) (k1 : ay b1) (k2 : ay b2) (hf : iJ num den = true) (bn bd : Nat) (w : World) (hn : w.cell? ⟨bn,0,none⟩ = some (.int .i64 num)) (hd : w.cell? ⟨bd,0,none⟩ = some (.int .i64 den)) :
 Calls Tryz.prog 178 #[v3 a0 a1 a2,v3 b0 b1 b2,.func (.func 257) #[] #[.pointer (some ⟨bn,0,none⟩),.pointer (some ⟨bd,0,none⟩)]] w λe w' =>
  e = .returned (v3 (cO a0 b0 num den) (cO a1 b1 num den) (cO a2 b2 num den)) /\ Below w.heap.size w w':=by
 have ln:=World.block_lt_of_cell? w _ hn;have ld:=World.block_lt_of_cell? w _ hd
 have c0:=λw' (hb : Below w.heap.size w w')=>FT a0 b0 num den h0 k0 hf bn bd w' ((hb.cell (p:=⟨bn,0,none⟩) ln).trans hn) ((hb.cell (p:=⟨bd,0,none⟩) ld).trans hd)
 have c1:=λw' (hb : Below w.heap.size w w')=>FT a1 b1 num den h1 k1 hf bn bd w' ((hb.cell (p:=⟨bn,0,none⟩) ln).trans hn) ((hb.cell (p:=⟨bd,0,none⟩) ld).trans hd)
 have c2:=λw' (hb : Below w.heap.size w w')=>FT a2 b2 num den h2 k2 hf bn bd w' ((hb.cell (p:=⟨bn,0,none⟩) ln).trans hn) ((hb.cell (p:=⟨bd,0,none⟩) ld).trans hd)
 clear h0 h1 h2 k0 k1 k2 hf hn hd ln ld
 generalize cO a0 b0 num den = r0 at *
 generalize cO a1 b1 num den = r1 at *
 generalize cO a2 b2 num den = r2 at *
 go_enter Tryz.func178,Tryz.ntmps178
 go_wp2_with fail
 go_loopw [9] (λi wr=>Cy w #[.int .i64 a0,.int .i64 a1,.int .i64 a2] 22 #[.int .i64 b0,.int .i64 b1,.int .i64 b2] 22 #[.int .i64 0,.int .i64 0,.int .i64 0] #[.int .i64 r0,.int .i64 0,.int .i64 0] #[.int .i64 r0,.int .i64 r1,.int .i64 0] #[.int .i64 r0,.int .i64 r1,.int .i64 r2] 22 i wr) (λi _=>3 - (intOf i).toNat)
 case atStart=>exact ⟨0,.inl ⟨rfl,rfl⟩⟩
 case round =>
  obtain ⟨n,⟨rfl,rfl⟩ | ⟨rfl,rfl⟩ | ⟨rfl,rfl⟩ | ⟨rfl,rfl⟩⟩:=hrel
  ·go_wp2_with fail
   go_region_with (go_at_call 257;refine (c0 _ ?hb).mono ?_;(case hb=>(repeat (first | exact Below.refl _ _ | assumption | (refine Below.drew ?_) | (refine below_drewN ?_ _) | (refine Below.alloc ?_ (by simp <;> omega) _) | (refine Below.setCell ?_ (by simp <;> omega) _))));rintro e w' ⟨rfl,k,rfl⟩)
   all_goals go_wp2_with fail
   all_goals go_roundw
   all_goals first | exact ⟨_,.inr (.inl ⟨rfl,rfl⟩)⟩ | decide
  ·go_wp2_with fail
   go_region_with (go_at_call 257;refine (c1 _ ?hb).mono ?_;(case hb=>(repeat (first | exact Below.refl _ _ | assumption | (refine Below.drew ?_) | (refine below_drewN ?_ _) | (refine Below.alloc ?_ (by simp <;> omega) _) | (refine Below.setCell ?_ (by simp <;> omega) _))));rintro e w' ⟨rfl,k,rfl⟩)
   all_goals go_wp2_with fail
   all_goals go_roundw
   all_goals first | exact ⟨_,.inr (.inr (.inl ⟨rfl,rfl⟩))⟩ | decide
  ·go_wp2_with fail
   go_region_with (go_at_call 257;refine (c2 _ ?hb).mono ?_;(case hb=>(repeat (first | exact Below.refl _ _ | assumption | (refine Below.drew ?_) | (refine below_drewN ?_ _) | (refine Below.alloc ?_ (by simp <;> omega) _) | (refine Below.setCell ?_ (by simp <;> omega) _))));rintro e w' ⟨rfl,k,rfl⟩)
   all_goals go_wp2_with fail
   all_goals go_roundw
   all_goals first | exact ⟨_,.inr (.inr (.inr ⟨rfl,rfl⟩))⟩ | decide
  ·go_wp2_with fail
   exact bodyPost_ret (v:=v3 r0 r1 r2) (by simp [results,Tryz.results178,go_sem]) rfl ⟨rfl,by (repeat (first | exact Below.refl _ _ | assumption | (refine Below.drew ?_) | (refine below_drewN ?_ _) | (refine Below.alloc ?_ (by simp <;> omega) _) | (refine Below.setCell ?_ (by simp <;> omega) _)))⟩
theorem FZ (x y d : Int) (hx : ay x) (hy : ay y) (d0 : 0 <= d) (d1 : d <= 9223372036854775807) (bd : Nat) (w : World) (hd : w.cell? ⟨bd,0,none⟩ = some (.int .i64 d)) :
 Calls Tryz.prog 63 #[.int .i64 x,.int .i64 y,.pointer (some ⟨bd,0,none⟩)] w λe w'=>e = .returned (.bool (kP x y d)) /\ w = w':=by
 obtain ⟨x1,x2⟩:=hx
 obtain ⟨y1,y2⟩:=hy
 obtain ⟨q,hq⟩ : ∃ q,IntKind.u64.wrap (wrap64 (max x y - min x y)) = q:=⟨_,rfl⟩
 have HE : Hid (decide (q <= d) = kP x y d):=by
  refine aiS ?_
  have : q = max x y - min x y:=by rw [← hq,IntKind.wrap_u64];unfold wrap64;omega
  rw [this];rfl
 go_enter Tryz.func63,Tryz.ntmps63
 go_wp2
 go_ret
 refine ⟨?_,rfl⟩
 rw [← HE.out];rfl
set_option maxHeartbeats 1000000 in
theorem NA (a0 a1 a2 b0 b1 b2 d : Int) (h0 : ay a0) (h1 : ay a1) (h2 : ay a2) (k0 : ay b0) (k1 : ay b1) (k2 : ay b2) (d0 : 0 <= d) (d1 : d <= 9223372036854775807) (bd : Nat) (w : World) (hd : w.cell? ⟨bd,0,none⟩ = some (.int .i64 d)) :
 Calls Tryz.prog 62 #[v3 a0 a1 a2,v3 b0 b1 b2,.func (.func 63) #[] #[.pointer (some ⟨bd,0,none⟩)]] w λe w' =>
  e = .returned (t3 (kP a0 b0 d) (kP a1 b1 d) (kP a2 b2 d)) /\ Below w.heap.size w w':=by
 have ld:=World.block_lt_of_cell? w _ hd
 have c0:=λw' (hb : Below w.heap.size w w')=>FZ a0 b0 d h0 k0 d0 d1 bd w' ((hb.cell (p:=⟨bd,0,none⟩) ld).trans hd)
 have c1:=λw' (hb : Below w.heap.size w w')=>FZ a1 b1 d h1 k1 d0 d1 bd w' ((hb.cell (p:=⟨bd,0,none⟩) ld).trans hd)
 have c2:=λw' (hb : Below w.heap.size w w')=>FZ a2 b2 d h2 k2 d0 d1 bd w' ((hb.cell (p:=⟨bd,0,none⟩) ld).trans hd)
 clear h0 h1 h2 k0 k1 k2 hd ld d0 d1
 generalize kP a0 b0 d = r0 at *
 generalize kP a1 b1 d = r1 at *
 generalize kP a2 b2 d = r2 at *
 go_enter Tryz.func62,Tryz.ntmps62
 go_wp2_with fail
 go_loopw [9] (λi wr=>Cy w #[.int .i64 a0,.int .i64 a1,.int .i64 a2] 22 #[.int .i64 b0,.int .i64 b1,.int .i64 b2] 22 #[.bool false,.bool false,.bool false] #[.bool r0,.bool false,.bool false] #[.bool r0,.bool r1,.bool false] #[.bool r0,.bool r1,.bool r2] 121 i wr) (λi _=>3 - (intOf i).toNat)
 case atStart=>exact ⟨0,.inl ⟨rfl,rfl⟩⟩
 case round =>
  obtain ⟨n,⟨rfl,rfl⟩ | ⟨rfl,rfl⟩ | ⟨rfl,rfl⟩ | ⟨rfl,rfl⟩⟩:=hrel
  ·go_wp2_with fail
   go_region_with (go_at_call 63;refine (c0 _ ?hb).mono ?_;(case hb=>(repeat (first | exact Below.refl _ _ | assumption | (refine Below.drew ?_) | (refine below_drewN ?_ _) | (refine Below.alloc ?_ (by simp <;> omega) _) | (refine Below.setCell ?_ (by simp <;> omega) _))));rintro e w' ⟨rfl,rfl⟩)
   all_goals go_wp2_with fail
   all_goals go_roundw
   all_goals first | exact ⟨_,.inr (.inl ⟨rfl,rfl⟩)⟩ | decide
  ·go_wp2_with fail
   go_region_with (go_at_call 63;refine (c1 _ ?hb).mono ?_;(case hb=>(repeat (first | exact Below.refl _ _ | assumption | (refine Below.drew ?_) | (refine below_drewN ?_ _) | (refine Below.alloc ?_ (by simp <;> omega) _) | (refine Below.setCell ?_ (by simp <;> omega) _))));rintro e w' ⟨rfl,rfl⟩)
   all_goals go_wp2_with fail
   all_goals go_roundw
   all_goals first | exact ⟨_,.inr (.inr (.inl ⟨rfl,rfl⟩))⟩ | decide
  ·go_wp2_with fail
   go_region_with (go_at_call 63;refine (c2 _ ?hb).mono ?_;(case hb=>(repeat (first | exact Below.refl _ _ | assumption | (refine Below.drew ?_) | (refine below_drewN ?_ _) | (refine Below.alloc ?_ (by simp <;> omega) _) | (refine Below.setCell ?_ (by simp <;> omega) _))));rintro e w' ⟨rfl,rfl⟩)
   all_goals go_wp2_with fail
   all_goals go_roundw
   all_goals first | exact ⟨_,.inr (.inr (.inr ⟨rfl,rfl⟩))⟩ | decide
  ·go_wp2_with fail
   exact bodyPost_ret (v:=t3 r0 r1 r2) (by simp [results,Tryz.results62,go_sem]) rfl ⟨rfl,by (repeat (first | exact Below.refl _ _ | assumption | (refine Below.drew ?_) | (refine below_drewN ?_ _) | (refine Below.alloc ?_ (by simp <;> omega) _) | (refine Below.setCell ?_ (by simp <;> omega) _)))⟩
end Go.Proofs.YtklkooeimkedgaaGreat
