/- Walk of TopBeyond. -/
import Derived.BigQuiet
import Derived.BigRegion
import Derived.Deep.QuietTactic
import Derived.Deep.RegionWith
import Derived.LoopTactic
import Derived.RegionTactic
import Derived.Test.YtklkooeimkedgaaGreatB2
import Derived.Test.YtklkooeimkedgaaGreatB6
import Derived.Test.YtklkooeimkedgaaGreatB8
set_option linter.unusedVariables false
set_option linter.unusedSimpArgs false
namespace Go.Proofs.YtklkooeimkedgaaGreat
open Go.RowKit
def iC (w : World) (s : Option Addr) (len : Nat) (K T : Nat -> Int) (E : Nat -> Option Addr × Nat × Nat) : Prop :=
 len = 0 \/ ∃ b off,s = some ⟨b,off,none⟩ /\ b < w.heap.size /\ ∀ i,i < len ->
  w.cell? ⟨b,off + i * 3,none⟩ = some (.int .i64 (K i)) /\ w.cell? ⟨b,off + i * 3 + 1,none⟩ = some (.int .i64 (T i)) /\ w.cell? ⟨b,off + i * 3 + 2,none⟩ = some (.slice (E i).1 (E i).2.1 (E i).2.2)
def mq (T : Nat -> Int) : Nat -> Nat -> Int
 | 0,_=>0
 | n + 1,i=>if T i < -2305843009213693952 \/ 2305843009213693952 < T i then 3 else if 0 < i /\ T i <= T (i - 1) then 10 else mq T n (i + 1)
def eD (T : Nat -> Int) (len : Nat) : Int:=mq T len 0
set_option maxHeartbeats 1000000 in
theorem DR (s : Option Addr) (len cap : Nat) (K T : Nat -> Int) (E : Nat -> Option Addr × Nat × Nat) (w : World) (h : iC w s len K T E) (hlen : (len : Int) <= 4611686018427387904) :
 Calls Tryz.prog 91 #[.slice s len cap] w λe w'=>e = .returned (.int .i64 (eD T len)) /\ Below w.heap.size w w':=by
 rcases h with hz | ⟨b,off,rfl,hb,hc⟩
 all_goals
  go_enter Tryz.func91,Tryz.ntmps91
  go_wp2_with fail
  go_loopw [7] (λi wr=>∃ k : Nat,k <= len /\ i = .int .i64 k /\ eD T len = mq T (len - k) k /\ Below w.heap.size w wr) (λi _=>len - (intOf i).toNat)
  case atStart=>exact ⟨0,Nat.zero_le _,rfl,rfl,Below.refl _ _⟩
  case round =>
   rename_i wr
   obtain ⟨k,hk,rfl,hch,hB⟩:=hrel
   by_cases hlt : k < len
   ·first
    | (exfalso;omega)
    | (obtain ⟨n,hn⟩ : ∃ n,len - k = n + 1:=⟨len - k - 1,by omega⟩
       have hn2 : len - (k + 1) = n:=by omega
       rw [hn] at hch
       have c0:=(hB.cell (p:=⟨b,off + k * 3,none⟩) hb).trans (hc k hlt).1;have c1:=(hB.cell (p:=⟨b,off + k * 3 + 1,none⟩) hb).trans (hc k hlt).2.1;have c2:=(hB.cell (p:=⟨b,off + k * 3 + 2,none⟩) hb).trans (hc k hlt).2.2
       have iN:=aiS (show eD T len = if T k < -2305843009213693952 \/ 2305843009213693952 < T k then 3 else if 0 < k /\ T k <= T (k - 1) then 10 else mq T n (k + 1) from hch)
       have HC:=aiS hc;have HB:=aiS hB
       have hlt' : (k : Int) < len:=by omega
       clear hch hc hn
       by_cases hr : T k < -2305843009213693952 \/ 2305843009213693952 < T k
       ·have HE : Hid (eD T len = 3):=aiS (by rw [iN.out,if_pos hr])
        clear iN
        generalize E k = ek at *;obtain ⟨ea,el,ec⟩:=ek
        dsimp only at c2
        generalize K k = tk at *
        generalize T k = t at *
        rcases hr with r1 | r1
        ·go_wp2
         go_ret
         exact ⟨aR HE.out.symm,hB.alloc hB.size _⟩
        ·have r2 : decide (t < -2305843009213693952) = false:=decide_eq_false (by omega)
         go_wp2
         go_ret
         exact ⟨aR HE.out.symm,hB.alloc hB.size _⟩
       ·have HE : Hid (eD T len = if 0 < k /\ T k <= T (k - 1) then 10 else mq T n (k + 1)):=aiS (by rw [iN.out,if_neg hr])
        clear iN
        have r1 : decide (T k < -2305843009213693952) = false:=decide_eq_false (by omega)
        have r2 : decide (2305843009213693952 < T k) = false:=decide_eq_false (by omega)
        clear hr
        generalize E k = ek at *;obtain ⟨ea,el,ec⟩:=ek
        dsimp only at c2
        generalize K k = tk at *
        by_cases k0 : k = 0
        ·have HF : Hid (eD T len = mq T n (k + 1)):=aiS (by rw [HE.out,if_neg (by omega)])
         have g0 : decide ((0 : Int) < (k : Int)) = false:=decide_eq_false (by omega)
         have gn : decide (0 < k) = false:=decide_eq_false (by omega)
         clear k0 HE
         generalize T k = t at *
         go_wp2_with fail
         go_quiet (fail)
         go_wp2_with fail
         go_roundw
         case rel=>exact ⟨k + 1,by omega,by go_num,by rw [hn2];exact HF.out,below_drewN (hB.alloc hB.size _) nq⟩
         case measure=>simp [intOf];omega
        ·have hbw : b < wr.heap.size:=Nat.lt_of_lt_of_le hb hB.size
         obtain ⟨j,hj⟩ : ∃ j,k = j + 1:=⟨k - 1,by omega⟩
         have d1:=(HB.out.cell (p:=⟨b,off + j * 3 + 1,none⟩) hb).trans (HC.out j (by omega)).2.1
         rw [show k - 1 = j by omega] at HE
         have hw : IntKind.i64.wrap ((k : Int) - 1) = (j : Int):=by rw [IntKind.wrap_i64];omega
         have g0 : decide ((0 : Int) < (k : Int)) = true:=decide_eq_true (by omega)
         have gn : decide (0 < k) = true:=decide_eq_true (by omega)
         have g1 : (j : Int) < len:=by omega
         generalize T j = u at *
         generalize T k = t at *
         by_cases hu : t <= u
         ·have HF : Hid (eD T len = 10):=aiS (by rw [HE.out,if_pos ⟨by omega,hu⟩])
          clear HE hj k0
          go_wp2_with fail
          go_quiet (fail)
          go_wp2
          go_ret
          exact ⟨aR HF.out.symm,below_drewN (hB.alloc hB.size _) nq⟩
         ·have HF : Hid (eD T len = mq T n (k + 1)):=aiS (by rw [HE.out,if_neg (by omega)])
          have hu2 : decide (t <= u) = false:=decide_eq_false hu
          clear HE hj k0 hu
          go_wp2_with fail
          go_quiet (fail)
          go_wp2_with fail
          go_roundw
          case rel=>exact ⟨k + 1,by omega,by go_num,by rw [hn2];exact HF.out,below_drewN (hB.alloc hB.size _) nq⟩
          case measure=>simp [intOf];omega)
   ·have hke : len - k = 0:=by omega
    rw [hke] at hch
    have iN:=aiS (show eD T len = 0 from hch)
    clear hch hke
    go_wp2
    go_ret
    exact ⟨aR iN.out.symm,hB⟩
def bS (T : Nat -> Int) (t : Int) : Nat -> Nat
 | 0=>0
 | n + 1=>if T n <= t then n + 1 else bS T t n
def pI (T : Nat -> Int) (t : Int) (len : Nat) : Int:=if eD T len = 0 then (if bS T t len = 0 then 0 else (bS T t len : Int) - 1) else 0
def iT (T : Nat -> Int) (t : Int) (len : Nat) : Int:=if eD T len = 0 then (if bS T t len = 0 then 0 else if bS T t len = len then -1 else (bS T t len : Int)) else 0
def iL (T : Nat -> Int) (t : Int) (len : Nat) : Int:=if eD T len = 0 then (if bS T t len = 0 then 5 else 0) else eD T len
theorem AP (T : Nat -> Int) (t : Int) : ∀ n,bS T t n <= n
 | 0=>Nat.le_refl _
 | n + 1=>by
   unfold bS;split
   ·exact Nat.le_refl _
   ·exact Nat.le_succ_of_le (AP T t n)
theorem yw (T : Nat -> Int) (t : Int) : ∀ n m,m <= n -> (∀ i,m <= i -> i < n -> t < T i) -> bS T t n = bS T t m
 | 0,m,h,_=>by
   have : m = 0:=by omega
   rw [this]
 | n + 1,m,h,k=>by
   by_cases e : m = n + 1
   ·rw [e]
   ·have:=k n (by omega) (by omega)
    rw [bS,if_neg (by omega)]
    exact yw T t n m (by omega) (λi h1 h2=>k i h1 (by omega))
theorem Qd {T : Nat -> Int} {t : Int} {n : Nat} (h : T n <= t) : bS T t (n + 1) = n + 1:=by rw [bS,if_pos h]
theorem tT {T : Nat -> Int} {t : Int} : ∀ {n},bS T t n ≠ 0 -> T (bS T t n - 1) <= t
 | 0,h=>absurd rfl h
 | n + 1,h=>by
   rw [bS] at h ⊢
   split
   ·assumption
   ·rename_i hh;rw [if_neg hh] at h;exact tT h
theorem zF {T : Nat -> Int} : ∀ {n i},mq T n i = 0 -> ∀ j,i <= j -> j < i + n -> (-2305843009213693952 <= T j /\ T j <= 2305843009213693952) /\ (0 < j -> T (j - 1) < T j)
 | 0,i,_,j,h1,h2=>by omega
 | n + 1,i,h,j,h1,h2=>by
   rw [mq] at h
   split at h
   ·exact absurd h (by decide)
   ·rename_i ha
    split at h
    ·exact absurd h (by decide)
    ·rename_i hb
     by_cases e : j = i
     ·subst e
      exact ⟨by omega,λk=>by omega⟩
     ·exact zF h j (by omega) (by omega)
theorem rO {T : Nat -> Int} {len : Nat} (h : eD T len = 0) {j : Nat} (hj : j < len) : -2305843009213693952 <= T j /\ T j <= 2305843009213693952:=(zF h j (by omega) (by omega)).1
theorem Jo {T : Nat -> Int} {len : Nat} (h : eD T len = 0) : ∀ {i j : Nat},i < j -> j < len -> T i < T j
 | i,0,h1,_=>by omega
 | i,j + 1,h1,h2=>by
   have h3:=(zF h (j + 1) (by omega) (by omega)).2 (by omega)
   rw [Nat.add_sub_cancel] at h3
   by_cases e : i = j
   ·rw [e];exact h3
   ·exact Int.lt_trans (Jo h (show i < j by omega) (by omega)) h3
end Go.Proofs.YtklkooeimkedgaaGreat
