/- Walk of TopBeyond. -/
import Derived.Deep.RegionHeld3
import Derived.Test.YtklkooeimkedgaaGreatB29
set_option linter.unusedVariables false
set_option linter.unusedSimpArgs false
namespace Go.Proofs.YtklkooeimkedgaaGreat
open Go.RowKit
theorem abL (u : Int) (h0 : 0 <= u) (h1 : u <= 65536) (w : World) :
 Calls Tryz.prog 252 #[.int .i64 u] w λe w'=>e = .returned (v3 (qP u) (kI u) (ng u)) /\ Below w.heap.size w w' :=
 (abK u h0 h1 w).mono λe w' ⟨h1,h2⟩=>⟨h1,by rw [h2];exact aiT⟩
set_option maxRecDepth 100000 in
set_option maxHeartbeats 2000000 in
theorem DW (a v b z num den : Int) (ha : ay a) (hv : ay v) (hb : ay b) (hz : ay z) (h : iJ num den = true) (w : World) :
 Calls Tryz.prog 250 #[.int .i64 a,.int .i64 v,.int .i64 b,.int .i64 z,.int .i64 num,.int .i64 den] w λe w'=>e = .returned (.tuple #[.int .i64 (dQ a v b z num den),.int .i64 0]) /\ Below w.heap.size w w':=by
 have c:=LU num den h
 obtain ⟨d1,d2,n1,n2⟩:=qW.1 h
 by_cases g0 : num = 0
 ·have HE : Hid (dQ a v b z num den = a):=aiS (by unfold dQ;rw [if_pos g0])
  generalize dQ a v b z num den = r at *
  subst g0
  clear h
  go_enter Tryz.func250,Tryz.ntmps250
  go_wp2_with fail
  refine (c _).mono ?_;rintro e w' ⟨rfl,k,rfl⟩
  go_wp2
  go_ret2
  exact ⟨zy HE.out.symm rfl,Jh _ _⟩
 ·by_cases g1 : num = den
  ·have HE : Hid (dQ a v b z num den = b):=aiS (by unfold dQ;rw [if_neg g0,if_pos g1])
   generalize dQ a v b z num den = r at *
   subst g1
   have e0 : (num == 0) = false:=by simpa using g0
   clear h g0
   go_enter Tryz.func250,Tryz.ntmps250
   go_wp2_with fail
   refine (c _).mono ?_;rintro e w' ⟨rfl,k,rfl⟩
   go_wp2
   go_ret2
   exact ⟨zy HE.out.symm rfl,Jh _ _⟩
  ·obtain ⟨u0,u1⟩:=Aq h
   have HE : Hid (dQ a v b z num den = rH (xw a (qP (rJ num den)) (aK b a) (kI (rJ num den)) (aN v den) (ng (rJ num den)) (aN z den)) a b):=aiS (by unfold dQ;rw [if_neg g0,if_neg g1])
   generalize dQ a v b z num den = r at *
   generalize rJ num den = u at *
   have hden : ay den:=uD _ (by omega)
   have Jt:=abL u u0 u1
   obtain ⟨_,_,_,_,s4,s5,s6,s7,s8,s9⟩:=pK u0 u1
   have x1:=tQ b a hb ha;have x2:=qH v den hv hden;have x3:=qH z den hz hden
   have SM:=aiS (λbk w hh=>YX a (qP u) (aK b a) (kI u) (aN v den) (ng u) (aN z den) ha (uD _ (by omega)) (jq _ _) (uD _ (by omega)) (lQ _ _) (uD _ (by omega)) (lQ _ _) bk w hh)
   have cl:=LQ (xw a (qP u) (aK b a) (kI u) (aN v den) (ng u) (aN z den)) a b
   generalize rH (xw a (qP u) (aK b a) (kI u) (aN v den) (ng u) (aN z den)) a b = rr at *
   generalize xw a (qP u) (aK b a) (kI u) (aN v den) (ng u) (aN z den) = sm3 at *
   generalize qP u = f1 at *
   generalize kI u = f2 at *
   generalize ng u = f3 at *
   generalize aK b a = j1 at *
   generalize aN v den = j2 at *
   generalize aN z den = j3 at *
   have e0 : (num == 0) = false:=by simpa using g0
   have e1 : (num == den) = false:=by simpa using g1
   clear h g0 g1 s4 s5 s6 s7 s8 s9 u0 u1 ha hv hb hz hden d1 d2 n1 n2
   go_enter Tryz.func250,Tryz.ntmps250
   go_wp2_with fail
   refine (c _).mono ?_;rintro e w' ⟨rfl,k,rfl⟩
   go_wp2_with fail
   refine (Jt _).mono ?_;rintro e w1 ⟨rfl,hb1⟩
   have hB1 : Below w.heap.size w w1:=Below.trans (by (repeat (first | exact Below.refl _ _ | assumption | (refine Below.drew ?_) | (refine below_drewN ?_ _) | (refine Below.alloc ?_ (by simp <;> omega) _) | (refine Below.setCell ?_ (by simp <;> omega) _)))) hb1
   have SW:=aiS (SM.out (w1.heap.size + 1) ((w1.alloc (.cells #[.int .i64 f1,.int .i64 f2,.int .i64 f3] 344)).alloc (.cells #[.int .i64 f1,.int .i64 j1,.int .i64 f2,.int .i64 j2,.int .i64 f3,.int .i64 j3] 348)).drew (by have e:=(ak.new (w1.alloc (.cells #[.int .i64 f1,.int .i64 f2,.int .i64 f3] 344)) #[.int .i64 f1,.int .i64 j1,.int .i64 f2,.int .i64 j2,.int .i64 f3,.int .i64 j3] 348);simp at e;exact e.draws 1))
   have hB2 : Below w.heap.size w ((w1.alloc (.cells #[.int .i64 f1,.int .i64 f2,.int .i64 f3] 344)).alloc (.cells #[.int .i64 f1,.int .i64 j1,.int .i64 f2,.int .i64 j2,.int .i64 f3,.int .i64 j3] 348)):=(hB1.alloc hB1.size _).alloc (by have:=hB1.size;simp;omega) _
   have hlt2 : w1.heap.size < ((w1.alloc (.cells #[.int .i64 f1,.int .i64 f2,.int .i64 f3] 344)).alloc (.cells #[.int .i64 f1,.int .i64 j1,.int .i64 f2,.int .i64 j2,.int .i64 f3,.int .i64 j3] 348)).heap.size:=by simp <;> omega
   have hB:=hB1.alloc hB1.size (.cells #[.int .i64 f1,.int .i64 f2,.int .i64 f3] 344)
   have hlt : w1.heap.size < (w1.alloc (.cells #[.int .i64 f1,.int .i64 f2,.int .i64 f3] 344)).heap.size:=by simp
   have hsz:=hB1.size;clear hb1 SM hB1 c Jt
   go_wp2_with fail
   go_region_held3 (λw'=>(w'.cell? ⟨w1.heap.size,0,none⟩ = some (.int .i64 f1) /\ w'.cell? ⟨w1.heap.size,1,none⟩ = some (.int .i64 f2) /\ w'.cell? ⟨w1.heap.size,2,none⟩ = some (.int .i64 f3)) /\ w1.heap.size < w'.heap.size /\ Below w.heap.size w w')
    (first | (go_keep;done) | (((try dsimp only);repeat' apply And.intro) <;> (first | assumption | exact Below.drew (by assumption) | exact Below.alloc (by assumption) (Below.size (by assumption)) _ | go_keep | (simp <;> omega))) | (go_split_ands;exact ⟨⟨(hbk.cell (p:=⟨w1.heap.size,0,none⟩) (by assumption)).trans (by assumption),(hbk.cell (p:=⟨w1.heap.size,1,none⟩) (by assumption)).trans (by assumption),(hbk.cell (p:=⟨w1.heap.size,2,none⟩) (by assumption)).trans (by assumption)⟩,Nat.lt_of_lt_of_le (by assumption) hbk.size,Below.trans (by assumption) (hbk.mono (Below.size (by assumption)))⟩))
    ((first
      | (go_at_call 27;((with_reducible refine (x1 _).mono ?_);rintro e wx ⟨rfl,rfl⟩))
      | (go_at_call 29;((with_reducible refine (x2 _).mono ?_);rintro e wx ⟨rfl,rfl⟩))
      | (go_at_call 29;((with_reducible refine (x3 _).mono ?_);rintro e wx ⟨rfl,rfl⟩))
      | (go_at_call 253;((with_reducible refine SW.out.mono ?_);rintro e wx ⟨rfl,hbk⟩))))
   all_goals
    rename_i hH
    obtain ⟨_,_,hZ⟩:=hH
    go_wp2_with fail
    refine (cl _).mono ?_;rintro e w' ⟨rfl,rfl⟩
    go_wp2
    go_ret2
    exact ⟨zy HE.out.symm rfl,hZ⟩
set_option maxRecDepth 100000 in
set_option maxHeartbeats 4000000 in
theorem YZ (a0 a1 a2 v0 v1 v2 b0 b1 b2 z0 z1 z2 num den : Int) (ha0 : ay a0) (ha1 : ay a1) (ha2 : ay a2) (hv0 : ay v0) (hv1 : ay v1) (hv2 : ay v2) (hb0 : ay b0) (hb1 : ay b1) (hb2 : ay b2) (hz0 : ay z0) (hz1 : ay z1) (hz2 : ay z2) (h : iJ num den = true) (w : World) :
 Calls Tryz.prog 249 #[v3 a0 a1 a2,v3 v0 v1 v2,v3 b0 b1 b2,v3 z0 z1 z2,.int .i64 num,.int .i64 den] w λe w'=>e = .returned (.tuple #[v3 (dQ a0 v0 b0 z0 num den) (dQ a1 v1 b1 z1 num den) (dQ a2 v2 b2 z2 num den),.int .i64 0]) /\ Below w.heap.size w w':=by
 have c0:=DW a0 v0 b0 z0 num den ha0 hv0 hb0 hz0 h;have c1:=DW a1 v1 b1 z1 num den ha1 hv1 hb1 hz1 h;have c2:=DW a2 v2 b2 z2 num den ha2 hv2 hb2 hz2 h
 generalize dQ a0 v0 b0 z0 num den = r0 at *
 generalize dQ a1 v1 b1 z1 num den = r1 at *
 generalize dQ a2 v2 b2 z2 num den = r2 at *
 clear h ha0 ha1 ha2 hv0 hv1 hv2 hb0 hb1 hb2 hz0 hz1 hz2
 have Ba : cB ((((((w.alloc (.cells #[.int .i64 a0,.int .i64 a1,.int .i64 a2] 22)).alloc (.cells #[.int .i64 v0,.int .i64 v1,.int .i64 v2] 22)).alloc (.cells #[.int .i64 b0,.int .i64 b1,.int .i64 b2] 22)).alloc (.cells #[.int .i64 z0,.int .i64 z1,.int .i64 z2] 22)).alloc (.cells #[.int .i64 0,.int .i64 0,.int .i64 0] 22)).alloc (.cells #[.int .i64 0,.int .i64 0,.int .i64 0] 22)) (w.heap.size) a0 a1 a2:=by simpa using ((((((ak.new w #[.int .i64 a0,.int .i64 a1,.int .i64 a2] 22).alloc (.cells #[.int .i64 v0,.int .i64 v1,.int .i64 v2] 22)).alloc (.cells #[.int .i64 b0,.int .i64 b1,.int .i64 b2] 22)).alloc (.cells #[.int .i64 z0,.int .i64 z1,.int .i64 z2] 22)).alloc (.cells #[.int .i64 0,.int .i64 0,.int .i64 0] 22)).alloc (.cells #[.int .i64 0,.int .i64 0,.int .i64 0] 22))
 have Bv : cB ((((((w.alloc (.cells #[.int .i64 a0,.int .i64 a1,.int .i64 a2] 22)).alloc (.cells #[.int .i64 v0,.int .i64 v1,.int .i64 v2] 22)).alloc (.cells #[.int .i64 b0,.int .i64 b1,.int .i64 b2] 22)).alloc (.cells #[.int .i64 z0,.int .i64 z1,.int .i64 z2] 22)).alloc (.cells #[.int .i64 0,.int .i64 0,.int .i64 0] 22)).alloc (.cells #[.int .i64 0,.int .i64 0,.int .i64 0] 22)) (w.heap.size + 1) v0 v1 v2:=by simpa using (((((ak.new (w.alloc (.cells #[.int .i64 a0,.int .i64 a1,.int .i64 a2] 22)) #[.int .i64 v0,.int .i64 v1,.int .i64 v2] 22).alloc (.cells #[.int .i64 b0,.int .i64 b1,.int .i64 b2] 22)).alloc (.cells #[.int .i64 z0,.int .i64 z1,.int .i64 z2] 22)).alloc (.cells #[.int .i64 0,.int .i64 0,.int .i64 0] 22)).alloc (.cells #[.int .i64 0,.int .i64 0,.int .i64 0] 22))
 have Bb : cB ((((((w.alloc (.cells #[.int .i64 a0,.int .i64 a1,.int .i64 a2] 22)).alloc (.cells #[.int .i64 v0,.int .i64 v1,.int .i64 v2] 22)).alloc (.cells #[.int .i64 b0,.int .i64 b1,.int .i64 b2] 22)).alloc (.cells #[.int .i64 z0,.int .i64 z1,.int .i64 z2] 22)).alloc (.cells #[.int .i64 0,.int .i64 0,.int .i64 0] 22)).alloc (.cells #[.int .i64 0,.int .i64 0,.int .i64 0] 22)) (w.heap.size + 1 + 1) b0 b1 b2:=by simpa using ((((ak.new ((w.alloc (.cells #[.int .i64 a0,.int .i64 a1,.int .i64 a2] 22)).alloc (.cells #[.int .i64 v0,.int .i64 v1,.int .i64 v2] 22)) #[.int .i64 b0,.int .i64 b1,.int .i64 b2] 22).alloc (.cells #[.int .i64 z0,.int .i64 z1,.int .i64 z2] 22)).alloc (.cells #[.int .i64 0,.int .i64 0,.int .i64 0] 22)).alloc (.cells #[.int .i64 0,.int .i64 0,.int .i64 0] 22))
 have Bz : cB ((((((w.alloc (.cells #[.int .i64 a0,.int .i64 a1,.int .i64 a2] 22)).alloc (.cells #[.int .i64 v0,.int .i64 v1,.int .i64 v2] 22)).alloc (.cells #[.int .i64 b0,.int .i64 b1,.int .i64 b2] 22)).alloc (.cells #[.int .i64 z0,.int .i64 z1,.int .i64 z2] 22)).alloc (.cells #[.int .i64 0,.int .i64 0,.int .i64 0] 22)).alloc (.cells #[.int .i64 0,.int .i64 0,.int .i64 0] 22)) (w.heap.size + 1 + 1 + 1) z0 z1 z2:=by simpa using (((ak.new (((w.alloc (.cells #[.int .i64 a0,.int .i64 a1,.int .i64 a2] 22)).alloc (.cells #[.int .i64 v0,.int .i64 v1,.int .i64 v2] 22)).alloc (.cells #[.int .i64 b0,.int .i64 b1,.int .i64 b2] 22)) #[.int .i64 z0,.int .i64 z1,.int .i64 z2] 22).alloc (.cells #[.int .i64 0,.int .i64 0,.int .i64 0] 22)).alloc (.cells #[.int .i64 0,.int .i64 0,.int .i64 0] 22))
 have Br : cB ((((((w.alloc (.cells #[.int .i64 a0,.int .i64 a1,.int .i64 a2] 22)).alloc (.cells #[.int .i64 v0,.int .i64 v1,.int .i64 v2] 22)).alloc (.cells #[.int .i64 b0,.int .i64 b1,.int .i64 b2] 22)).alloc (.cells #[.int .i64 z0,.int .i64 z1,.int .i64 z2] 22)).alloc (.cells #[.int .i64 0,.int .i64 0,.int .i64 0] 22)).alloc (.cells #[.int .i64 0,.int .i64 0,.int .i64 0] 22)) (w.heap.size + 1 + 1 + 1 + 1) 0 0 0:=by simpa using ((ak.new ((((w.alloc (.cells #[.int .i64 a0,.int .i64 a1,.int .i64 a2] 22)).alloc (.cells #[.int .i64 v0,.int .i64 v1,.int .i64 v2] 22)).alloc (.cells #[.int .i64 b0,.int .i64 b1,.int .i64 b2] 22)).alloc (.cells #[.int .i64 z0,.int .i64 z1,.int .i64 z2] 22)) #[.int .i64 0,.int .i64 0,.int .i64 0] 22).alloc (.cells #[.int .i64 0,.int .i64 0,.int .i64 0] 22))
 have Bx : cB ((((((w.alloc (.cells #[.int .i64 a0,.int .i64 a1,.int .i64 a2] 22)).alloc (.cells #[.int .i64 v0,.int .i64 v1,.int .i64 v2] 22)).alloc (.cells #[.int .i64 b0,.int .i64 b1,.int .i64 b2] 22)).alloc (.cells #[.int .i64 z0,.int .i64 z1,.int .i64 z2] 22)).alloc (.cells #[.int .i64 0,.int .i64 0,.int .i64 0] 22)).alloc (.cells #[.int .i64 0,.int .i64 0,.int .i64 0] 22)) (w.heap.size + 1 + 1 + 1 + 1 + 1) 0 0 0:=by simpa using (ak.new (((((w.alloc (.cells #[.int .i64 a0,.int .i64 a1,.int .i64 a2] 22)).alloc (.cells #[.int .i64 v0,.int .i64 v1,.int .i64 v2] 22)).alloc (.cells #[.int .i64 b0,.int .i64 b1,.int .i64 b2] 22)).alloc (.cells #[.int .i64 z0,.int .i64 z1,.int .i64 z2] 22)).alloc (.cells #[.int .i64 0,.int .i64 0,.int .i64 0] 22)) #[.int .i64 0,.int .i64 0,.int .i64 0] 22)
 have hB : Below w.heap.size w ((((((w.alloc (.cells #[.int .i64 a0,.int .i64 a1,.int .i64 a2] 22)).alloc (.cells #[.int .i64 v0,.int .i64 v1,.int .i64 v2] 22)).alloc (.cells #[.int .i64 b0,.int .i64 b1,.int .i64 b2] 22)).alloc (.cells #[.int .i64 z0,.int .i64 z1,.int .i64 z2] 22)).alloc (.cells #[.int .i64 0,.int .i64 0,.int .i64 0] 22)).alloc (.cells #[.int .i64 0,.int .i64 0,.int .i64 0] 22)):=by (repeat (first | exact Below.refl _ _ | assumption | (refine Below.drew ?_) | (refine below_drewN ?_ _) | (refine Below.alloc ?_ (by simp <;> omega) _) | (refine Below.setCell ?_ (by simp <;> omega) _)))
 have START:=aiS (And.intro Bx (And.intro Ba (And.intro Bv (And.intro Bb (And.intro Bz (And.intro Br hB))))));clear Bx Ba Bv Bb Bz Br hB
 go_enter Tryz.func249,Tryz.ntmps249
 go_wp2_with fail
 go_loopw [18] (λi wr=>((i = .int .i64 0 /\ cB wr (w.heap.size + 1 + 1 + 1 + 1 + 1) 0 0 0) \/ (i = .int .i64 1 /\ cB wr (w.heap.size + 1 + 1 + 1 + 1 + 1) r0 0 0) \/ (i = .int .i64 2 /\ cB wr (w.heap.size + 1 + 1 + 1 + 1 + 1) r0 r1 0) \/ (i = .int .i64 3 /\ cB wr (w.heap.size + 1 + 1 + 1 + 1 + 1) r0 r1 r2)) /\ cB wr (w.heap.size) a0 a1 a2 /\ cB wr (w.heap.size + 1) v0 v1 v2 /\ cB wr (w.heap.size + 1 + 1) b0 b1 b2 /\ cB wr (w.heap.size + 1 + 1 + 1) z0 z1 z2 /\ cB wr (w.heap.size + 1 + 1 + 1 + 1) 0 0 0 /\ Below w.heap.size w wr) (λi _=>3 - (intOf i).toNat)
 case atStart=>exact ⟨.inl ⟨rfl,START.out.1⟩,START.out.2⟩
 case round =>
  rename_i wr
  clear START
  obtain ⟨hi,Ba,Bv,Bb,Bz,Br,hB⟩:=hrel
  rcases hi with ⟨rfl,Bx⟩ | ⟨rfl,Bx⟩ | ⟨rfl,Bx⟩ | ⟨rfl,Bx⟩
  ·obtain ⟨L6,L8,L9⟩:=bH Ba
   obtain ⟨Qj,Qk,Ql⟩:=bH Bv
   obtain ⟨Qm,Qn,Qo⟩:=bH Bb
   obtain ⟨Qp,Qq,Qr⟩:=bH Bz
   go_wp2_with fail
   go_region_held3 (λw'=>(w'.cell? ⟨w.heap.size,0,none⟩ = some (.int .i64 a0) /\ w'.cell? ⟨w.heap.size,1,none⟩ = some (.int .i64 a1) /\ w'.cell? ⟨w.heap.size,2,none⟩ = some (.int .i64 a2)) /\ (w'.cell? ⟨w.heap.size + 1,0,none⟩ = some (.int .i64 v0) /\ w'.cell? ⟨w.heap.size + 1,1,none⟩ = some (.int .i64 v1) /\ w'.cell? ⟨w.heap.size + 1,2,none⟩ = some (.int .i64 v2)) /\ (w'.cell? ⟨w.heap.size + 1 + 1,0,none⟩ = some (.int .i64 b0) /\ w'.cell? ⟨w.heap.size + 1 + 1,1,none⟩ = some (.int .i64 b1) /\ w'.cell? ⟨w.heap.size + 1 + 1,2,none⟩ = some (.int .i64 b2)) /\ (w'.cell? ⟨w.heap.size + 1 + 1 + 1,0,none⟩ = some (.int .i64 z0) /\ w'.cell? ⟨w.heap.size + 1 + 1 + 1,1,none⟩ = some (.int .i64 z1) /\ w'.cell? ⟨w.heap.size + 1 + 1 + 1,2,none⟩ = some (.int .i64 z2)) /\ cB w' (w.heap.size) a0 a1 a2 /\ cB w' (w.heap.size + 1) v0 v1 v2 /\ cB w' (w.heap.size + 1 + 1) b0 b1 b2 /\ cB w' (w.heap.size + 1 + 1 + 1) z0 z1 z2 /\ cB w' (w.heap.size + 1 + 1 + 1 + 1) 0 0 0 /\ cB w' (w.heap.size + 1 + 1 + 1 + 1 + 1) 0 0 0 /\ Below w.heap.size w w')
    (first | (go_keep;done) | (((try dsimp only);repeat' apply And.intro) <;> (first | assumption | exact Below.drew (by assumption) | go_keep)) | (go_split_ands;exact ⟨bH (ak.below (b:=w.heap.size) (by assumption) hbk (ak.lt (b:=w.heap.size) (by assumption))),bH (ak.below (b:=w.heap.size + 1) (by assumption) hbk (ak.lt (b:=w.heap.size + 1) (by assumption))),bH (ak.below (b:=w.heap.size + 1 + 1) (by assumption) hbk (ak.lt (b:=w.heap.size + 1 + 1) (by assumption))),bH (ak.below (b:=w.heap.size + 1 + 1 + 1) (by assumption) hbk (ak.lt (b:=w.heap.size + 1 + 1 + 1) (by assumption))),ak.below (b:=w.heap.size) (by assumption) hbk (ak.lt (b:=w.heap.size) (by assumption)),ak.below (b:=w.heap.size + 1) (by assumption) hbk (ak.lt (b:=w.heap.size + 1) (by assumption)),ak.below (b:=w.heap.size + 1 + 1) (by assumption) hbk (ak.lt (b:=w.heap.size + 1 + 1) (by assumption)),ak.below (b:=w.heap.size + 1 + 1 + 1) (by assumption) hbk (ak.lt (b:=w.heap.size + 1 + 1 + 1) (by assumption)),ak.below (b:=w.heap.size + 1 + 1 + 1 + 1) (by assumption) hbk (ak.lt (b:=w.heap.size + 1 + 1 + 1 + 1) (by assumption)),ak.below (b:=w.heap.size + 1 + 1 + 1 + 1 + 1) (by assumption) hbk (ak.lt (b:=w.heap.size + 1 + 1 + 1 + 1 + 1) (by assumption)),Below.trans (by assumption) (hbk.mono (Below.size (by assumption)))⟩))
    ((first | (go_at_call 250;((with_reducible refine (c0 _).mono ?_);rintro e wx ⟨rfl,hbk⟩))))
   all_goals
    rename_i hH
    clear Ba Bv Bb Bz Br Bx hB L6 L8 L9 Qj Qk Ql Qm Qn Qo Qp Qq Qr
    obtain ⟨_,_,_,_,Ba,Bv,Bb,Bz,Br,Bx,hB⟩:=hH
    obtain ⟨Y0,Y1,Y2⟩:=bH Bx
    obtain ⟨Y3,Y4,Y5⟩:=sZ Bx
    have BX:=ak.set Bx 0 (.int .i64 r0);simp at BX
    have BA:=ak.far Ba (p:=⟨w.heap.size + 1 + 1 + 1 + 1 + 1,0,none⟩) (by simp only [ne_eq];omega) (.int .i64 r0)
    have BV:=ak.far Bv (p:=⟨w.heap.size + 1 + 1 + 1 + 1 + 1,0,none⟩) (by simp only [ne_eq];omega) (.int .i64 r0)
    have BB:=ak.far Bb (p:=⟨w.heap.size + 1 + 1 + 1 + 1 + 1,0,none⟩) (by simp only [ne_eq];omega) (.int .i64 r0)
    have BZ:=ak.far Bz (p:=⟨w.heap.size + 1 + 1 + 1 + 1 + 1,0,none⟩) (by simp only [ne_eq];omega) (.int .i64 r0)
    have BR:=ak.far Br (p:=⟨w.heap.size + 1 + 1 + 1 + 1 + 1,0,none⟩) (by simp only [ne_eq];omega) (.int .i64 r0)
    have HB:=hB.setCell (p:=⟨w.heap.size + 1 + 1 + 1 + 1 + 1,0,none⟩) (by show w.heap.size <= w.heap.size + 1 + 1 + 1 + 1 + 1;omega) (.int .i64 r0)
    have ALL:=aiS (And.intro BX (And.intro BA (And.intro BV (And.intro BB (And.intro BZ (And.intro BR HB))))));clear BX BA BV BB BZ BR HB Ba Bv Bb Bz Br Bx hB
    go_wp2_with fail
    go_roundw
    case rel=>exact ⟨.inr (.inl ⟨rfl,ALL.out.1⟩),ALL.out.2⟩
    case measure=>decide
  ·obtain ⟨L6,L8,L9⟩:=bH Ba
   obtain ⟨Qj,Qk,Ql⟩:=bH Bv
   obtain ⟨Qm,Qn,Qo⟩:=bH Bb
   obtain ⟨Qp,Qq,Qr⟩:=bH Bz
   go_wp2_with fail
   go_region_held3 (λw'=>(w'.cell? ⟨w.heap.size,0,none⟩ = some (.int .i64 a0) /\ w'.cell? ⟨w.heap.size,1,none⟩ = some (.int .i64 a1) /\ w'.cell? ⟨w.heap.size,2,none⟩ = some (.int .i64 a2)) /\ (w'.cell? ⟨w.heap.size + 1,0,none⟩ = some (.int .i64 v0) /\ w'.cell? ⟨w.heap.size + 1,1,none⟩ = some (.int .i64 v1) /\ w'.cell? ⟨w.heap.size + 1,2,none⟩ = some (.int .i64 v2)) /\ (w'.cell? ⟨w.heap.size + 1 + 1,0,none⟩ = some (.int .i64 b0) /\ w'.cell? ⟨w.heap.size + 1 + 1,1,none⟩ = some (.int .i64 b1) /\ w'.cell? ⟨w.heap.size + 1 + 1,2,none⟩ = some (.int .i64 b2)) /\ (w'.cell? ⟨w.heap.size + 1 + 1 + 1,0,none⟩ = some (.int .i64 z0) /\ w'.cell? ⟨w.heap.size + 1 + 1 + 1,1,none⟩ = some (.int .i64 z1) /\ w'.cell? ⟨w.heap.size + 1 + 1 + 1,2,none⟩ = some (.int .i64 z2)) /\ cB w' (w.heap.size) a0 a1 a2 /\ cB w' (w.heap.size + 1) v0 v1 v2 /\ cB w' (w.heap.size + 1 + 1) b0 b1 b2 /\ cB w' (w.heap.size + 1 + 1 + 1) z0 z1 z2 /\ cB w' (w.heap.size + 1 + 1 + 1 + 1) 0 0 0 /\ cB w' (w.heap.size + 1 + 1 + 1 + 1 + 1) r0 0 0 /\ Below w.heap.size w w')
    (first | (go_keep;done) | (((try dsimp only);repeat' apply And.intro) <;> (first | assumption | exact Below.drew (by assumption) | go_keep)) | (go_split_ands;exact ⟨bH (ak.below (b:=w.heap.size) (by assumption) hbk (ak.lt (b:=w.heap.size) (by assumption))),bH (ak.below (b:=w.heap.size + 1) (by assumption) hbk (ak.lt (b:=w.heap.size + 1) (by assumption))),bH (ak.below (b:=w.heap.size + 1 + 1) (by assumption) hbk (ak.lt (b:=w.heap.size + 1 + 1) (by assumption))),bH (ak.below (b:=w.heap.size + 1 + 1 + 1) (by assumption) hbk (ak.lt (b:=w.heap.size + 1 + 1 + 1) (by assumption))),ak.below (b:=w.heap.size) (by assumption) hbk (ak.lt (b:=w.heap.size) (by assumption)),ak.below (b:=w.heap.size + 1) (by assumption) hbk (ak.lt (b:=w.heap.size + 1) (by assumption)),ak.below (b:=w.heap.size + 1 + 1) (by assumption) hbk (ak.lt (b:=w.heap.size + 1 + 1) (by assumption)),ak.below (b:=w.heap.size + 1 + 1 + 1) (by assumption) hbk (ak.lt (b:=w.heap.size + 1 + 1 + 1) (by assumption)),ak.below (b:=w.heap.size + 1 + 1 + 1 + 1) (by assumption) hbk (ak.lt (b:=w.heap.size + 1 + 1 + 1 + 1) (by assumption)),ak.below (b:=w.heap.size + 1 + 1 + 1 + 1 + 1) (by assumption) hbk (ak.lt (b:=w.heap.size + 1 + 1 + 1 + 1 + 1) (by assumption)),Below.trans (by assumption) (hbk.mono (Below.size (by assumption)))⟩))
    ((first | (go_at_call 250;((with_reducible refine (c1 _).mono ?_);rintro e wx ⟨rfl,hbk⟩))))
   all_goals
    rename_i hH
    clear Ba Bv Bb Bz Br Bx hB L6 L8 L9 Qj Qk Ql Qm Qn Qo Qp Qq Qr
    obtain ⟨_,_,_,_,Ba,Bv,Bb,Bz,Br,Bx,hB⟩:=hH
    obtain ⟨Y0,Y1,Y2⟩:=bH Bx
    obtain ⟨Y3,Y4,Y5⟩:=sZ Bx
    have BX:=ak.set Bx 1 (.int .i64 r1);simp at BX
    have BA:=ak.far Ba (p:=⟨w.heap.size + 1 + 1 + 1 + 1 + 1,1,none⟩) (by simp only [ne_eq];omega) (.int .i64 r1)
    have BV:=ak.far Bv (p:=⟨w.heap.size + 1 + 1 + 1 + 1 + 1,1,none⟩) (by simp only [ne_eq];omega) (.int .i64 r1)
    have BB:=ak.far Bb (p:=⟨w.heap.size + 1 + 1 + 1 + 1 + 1,1,none⟩) (by simp only [ne_eq];omega) (.int .i64 r1)
    have BZ:=ak.far Bz (p:=⟨w.heap.size + 1 + 1 + 1 + 1 + 1,1,none⟩) (by simp only [ne_eq];omega) (.int .i64 r1)
    have BR:=ak.far Br (p:=⟨w.heap.size + 1 + 1 + 1 + 1 + 1,1,none⟩) (by simp only [ne_eq];omega) (.int .i64 r1)
    have HB:=hB.setCell (p:=⟨w.heap.size + 1 + 1 + 1 + 1 + 1,1,none⟩) (by show w.heap.size <= w.heap.size + 1 + 1 + 1 + 1 + 1;omega) (.int .i64 r1)
    have ALL:=aiS (And.intro BX (And.intro BA (And.intro BV (And.intro BB (And.intro BZ (And.intro BR HB))))));clear BX BA BV BB BZ BR HB Ba Bv Bb Bz Br Bx hB
    go_wp2_with fail
    go_roundw
    case rel=>exact ⟨.inr (.inr (.inl ⟨rfl,ALL.out.1⟩)),ALL.out.2⟩
    case measure=>decide
  ·obtain ⟨L6,L8,L9⟩:=bH Ba
   obtain ⟨Qj,Qk,Ql⟩:=bH Bv
   obtain ⟨Qm,Qn,Qo⟩:=bH Bb
   obtain ⟨Qp,Qq,Qr⟩:=bH Bz
   go_wp2_with fail
   go_region_held3 (λw'=>(w'.cell? ⟨w.heap.size,0,none⟩ = some (.int .i64 a0) /\ w'.cell? ⟨w.heap.size,1,none⟩ = some (.int .i64 a1) /\ w'.cell? ⟨w.heap.size,2,none⟩ = some (.int .i64 a2)) /\ (w'.cell? ⟨w.heap.size + 1,0,none⟩ = some (.int .i64 v0) /\ w'.cell? ⟨w.heap.size + 1,1,none⟩ = some (.int .i64 v1) /\ w'.cell? ⟨w.heap.size + 1,2,none⟩ = some (.int .i64 v2)) /\ (w'.cell? ⟨w.heap.size + 1 + 1,0,none⟩ = some (.int .i64 b0) /\ w'.cell? ⟨w.heap.size + 1 + 1,1,none⟩ = some (.int .i64 b1) /\ w'.cell? ⟨w.heap.size + 1 + 1,2,none⟩ = some (.int .i64 b2)) /\ (w'.cell? ⟨w.heap.size + 1 + 1 + 1,0,none⟩ = some (.int .i64 z0) /\ w'.cell? ⟨w.heap.size + 1 + 1 + 1,1,none⟩ = some (.int .i64 z1) /\ w'.cell? ⟨w.heap.size + 1 + 1 + 1,2,none⟩ = some (.int .i64 z2)) /\ cB w' (w.heap.size) a0 a1 a2 /\ cB w' (w.heap.size + 1) v0 v1 v2 /\ cB w' (w.heap.size + 1 + 1) b0 b1 b2 /\ cB w' (w.heap.size + 1 + 1 + 1) z0 z1 z2 /\ cB w' (w.heap.size + 1 + 1 + 1 + 1) 0 0 0 /\ cB w' (w.heap.size + 1 + 1 + 1 + 1 + 1) r0 r1 0 /\ Below w.heap.size w w')
    (first | (go_keep;done) | (((try dsimp only);repeat' apply And.intro) <;> (first | assumption | exact Below.drew (by assumption) | go_keep)) | (go_split_ands;exact ⟨bH (ak.below (b:=w.heap.size) (by assumption) hbk (ak.lt (b:=w.heap.size) (by assumption))),bH (ak.below (b:=w.heap.size + 1) (by assumption) hbk (ak.lt (b:=w.heap.size + 1) (by assumption))),bH (ak.below (b:=w.heap.size + 1 + 1) (by assumption) hbk (ak.lt (b:=w.heap.size + 1 + 1) (by assumption))),bH (ak.below (b:=w.heap.size + 1 + 1 + 1) (by assumption) hbk (ak.lt (b:=w.heap.size + 1 + 1 + 1) (by assumption))),ak.below (b:=w.heap.size) (by assumption) hbk (ak.lt (b:=w.heap.size) (by assumption)),ak.below (b:=w.heap.size + 1) (by assumption) hbk (ak.lt (b:=w.heap.size + 1) (by assumption)),ak.below (b:=w.heap.size + 1 + 1) (by assumption) hbk (ak.lt (b:=w.heap.size + 1 + 1) (by assumption)),ak.below (b:=w.heap.size + 1 + 1 + 1) (by assumption) hbk (ak.lt (b:=w.heap.size + 1 + 1 + 1) (by assumption)),ak.below (b:=w.heap.size + 1 + 1 + 1 + 1) (by assumption) hbk (ak.lt (b:=w.heap.size + 1 + 1 + 1 + 1) (by assumption)),ak.below (b:=w.heap.size + 1 + 1 + 1 + 1 + 1) (by assumption) hbk (ak.lt (b:=w.heap.size + 1 + 1 + 1 + 1 + 1) (by assumption)),Below.trans (by assumption) (hbk.mono (Below.size (by assumption)))⟩))
    ((first | (go_at_call 250;((with_reducible refine (c2 _).mono ?_);rintro e wx ⟨rfl,hbk⟩))))
   all_goals
    rename_i hH
    clear Ba Bv Bb Bz Br Bx hB L6 L8 L9 Qj Qk Ql Qm Qn Qo Qp Qq Qr
    obtain ⟨_,_,_,_,Ba,Bv,Bb,Bz,Br,Bx,hB⟩:=hH
    obtain ⟨Y0,Y1,Y2⟩:=bH Bx
    obtain ⟨Y3,Y4,Y5⟩:=sZ Bx
    have BX:=ak.set Bx 2 (.int .i64 r2);simp at BX
    have BA:=ak.far Ba (p:=⟨w.heap.size + 1 + 1 + 1 + 1 + 1,2,none⟩) (by simp only [ne_eq];omega) (.int .i64 r2)
    have BV:=ak.far Bv (p:=⟨w.heap.size + 1 + 1 + 1 + 1 + 1,2,none⟩) (by simp only [ne_eq];omega) (.int .i64 r2)
    have BB:=ak.far Bb (p:=⟨w.heap.size + 1 + 1 + 1 + 1 + 1,2,none⟩) (by simp only [ne_eq];omega) (.int .i64 r2)
    have BZ:=ak.far Bz (p:=⟨w.heap.size + 1 + 1 + 1 + 1 + 1,2,none⟩) (by simp only [ne_eq];omega) (.int .i64 r2)
    have BR:=ak.far Br (p:=⟨w.heap.size + 1 + 1 + 1 + 1 + 1,2,none⟩) (by simp only [ne_eq];omega) (.int .i64 r2)
    have HB:=hB.setCell (p:=⟨w.heap.size + 1 + 1 + 1 + 1 + 1,2,none⟩) (by show w.heap.size <= w.heap.size + 1 + 1 + 1 + 1 + 1;omega) (.int .i64 r2)
    have ALL:=aiS (And.intro BX (And.intro BA (And.intro BV (And.intro BB (And.intro BZ (And.intro BR HB))))));clear BX BA BV BB BZ BR HB Ba Bv Bb Bz Br Bx hB
    go_wp2_with fail
    go_roundw
    case rel=>exact ⟨.inr (.inr (.inr (⟨rfl,ALL.out.1⟩))),ALL.out.2⟩
    case measure=>decide
  ·obtain ⟨Y0,Y1,Y2⟩:=bH Bx
   obtain ⟨Y3,Y4,Y5⟩:=sZ Bx
   obtain ⟨qr0,qr1,qr2⟩:=bH Br
   obtain ⟨fr0,fr1,xu⟩:=sZ Br
   clear c0 c1 c2
   go_wp2
   exact bodyPost_ret (v:=.tuple #[v3 r0 r1 r2,.int .i64 0]) (by simp [results,Tryz.results249,go_sem, *]) rfl ⟨rfl,by (repeat (first | exact Below.refl _ _ | assumption | (refine Below.drew ?_) | (refine below_drewN ?_ _) | (refine Below.alloc ?_ (by simp <;> omega) _) | (refine Below.setCell ?_ (by simp <;> omega) _)))⟩
end Go.Proofs.YtklkooeimkedgaaGreat
