/- Walk of TopBeyond. -/
import Derived.Test.YtklkooeimkedgaaGreatB0
import Derived.Below
import Derived.Laws.Rows
import Derived.WalkKit
import Derived.WalkSmall
set_option linter.unusedVariables false
set_option linter.unusedSimpArgs false
namespace Go.Proofs.YtklkooeimkedgaaGreat
open Go.RowKit
def ak (w : World) (b : Nat) (cs : Array Value) (t : TypeId) : Prop:=w.heap[b]? = some (.cells cs t (0,0))
theorem ak.lt {w : World} {b : Nat} {cs : Array Value} {t : TypeId} (h : ak w b cs t) : b < w.heap.size:=by
 rcases Nat.lt_or_ge b w.heap.size with h' | h'
 ·exact h'
 ·unfold ak at h;simp [Array.getElem?_eq_none h'] at h
theorem ak.cell {w : World} {b : Nat} {cs : Array Value} {t : TypeId} (h : ak w b cs t) (i : Nat) : w.cell? ⟨b,i,none⟩ = cs[i]?:=by
 unfold ak at h;simp [World.cell?,h]
theorem ak.free {w : World} {b : Nat} {cs : Array Value} {t : TypeId} (h : ak w b cs t) (i : Nat) : w.frozen? ⟨b,i,none⟩ = false:=by
 unfold ak at h;simp [World.frozen?,h]
theorem ak.set {w : World} {b : Nat} {cs : Array Value} {t : TypeId} (h : ak w b cs t) (i : Nat) (v : Value) : ak (w.setCell ⟨b,i,none⟩ v) b (cs.setIfInBounds i v) t:=by
 unfold ak at *;exact heap_setCell_same w b i cs t v h
theorem ak.far {w : World} {b : Nat} {cs : Array Value} {t : TypeId} (h : ak w b cs t) {p : Addr} (hp : b ≠ p.block) (v : Value) : ak (w.setCell p v) b cs t:=by
 unfold ak at *;rw [Below.heap_setCell _ _ _ _ hp];exact h
theorem ak.alloc {w : World} {b : Nat} {cs : Array Value} {t : TypeId} (h : ak w b cs t) (o : Obj) : ak (w.alloc o) b cs t:=by
 have hl:=h.lt
 unfold ak at *;rw [Below.heap_alloc _ _ _ hl];exact h
theorem ak.draws {w : World} {b : Nat} {cs : Array Value} {t : TypeId} (h : ak w b cs t) (n : Nat) : ak (w.drewN n) b cs t:=h
theorem ak.below {w w' : World} {b B : Nat} {cs : Array Value} {t : TypeId} (h : ak w b cs t) (hb : Below B w w') (hB : b < B) : ak w' b cs t:=by
 unfold ak at *;rw [hb.block b hB];exact h
theorem ak.new (w : World) (cs : Array Value) (t : TypeId) : ak (w.alloc (.cells cs t)) w.heap.size cs t:=by
 unfold ak
 show (w.heap.push _)[w.heap.size]? = _
 simp
structure Only (S : Nat -> Prop) (w w' : World) : Prop where
 os : w'.os = w.os
 tape : w'.tape = w.tape
 output : w'.output = w.output
 size : w.heap.size <= w'.heap.size
 block : ∀ k,k < w.heap.size -> ¬ S k -> w'.heap[k]? = w.heap[k]?
variable {S T : Nat -> Prop} {w w1 w2 : World}
theorem Only.refl (S : Nat -> Prop) (w : World) : Only S w w:=⟨rfl,rfl,rfl,Nat.le_refl _,λ_ _ _=>rfl⟩
theorem Only.trans (h : Only S w w1) (k : Only S w1 w2) : Only S w w2 :=
 ⟨k.os.trans h.os,k.tape.trans h.tape,k.output.trans h.output,Nat.le_trans h.size k.size,
  λi hi hs=>(k.block i (Nat.lt_of_lt_of_le hi h.size) hs).trans (h.block i hi hs)⟩
theorem Only.weaken (h : Only S w w1) (hST : ∀ k,k < w.heap.size -> S k -> T k) : Only T w w1 :=
 ⟨h.os,h.tape,h.output,h.size,λi hi ht=>h.block i hi (λhs=>ht (hST i hi hs))⟩
theorem Only.draws (h : Only S w w1) (n : Nat) : Only S w (w1.drewN n):=⟨h.os,h.tape,h.output,h.size,h.block⟩
theorem Only.alloc (h : Only S w w1) (o : Obj) : Only S w (w1.alloc o) :=
 h.trans ⟨rfl,rfl,rfl,by simp,λk hk _=>Below.heap_alloc _ _ _ hk⟩
theorem Only.setCell (h : Only S w w1) {p : Addr} (hp : S p.block \/ w.heap.size <= p.block) (v : Value) : Only S w (w1.setCell p v) :=
 ⟨h.os,h.tape,h.output,by have:=h.size;simpa [World.setCell] using this,λk hk hs=>by
  rw [Below.heap_setCell]
  ·exact h.block k hk hs
  ·rintro rfl
   rcases hp with hp | hp
   ·exact hs hp
   ·omega⟩
theorem Only.of_below (h : Below w.heap.size w w1) : Only S w w1:=⟨h.os,h.tape,h.output,h.size,λk hk _=>h.block k hk⟩
theorem Only.eX (h : Only S w w1) (k : Below w1.heap.size w1 w2) : Only S w w2:=h.trans (Only.of_below k)
theorem Only.blk (h : Only S w w1) {b : Nat} {cs : Array Value} {t : TypeId} (hb : ak w b cs t) (hs : ¬ S b) : ak w1 b cs t:=by
 have hl:=hb.lt
 unfold ak at *;rw [h.block b hl hs];exact hb
theorem Only.below (h : Only S w w1) {B : Nat} (hB : B <= w.heap.size) (hs : ∀ k,S k -> B <= k) : Below B w w1 :=
 ⟨h.os,h.tape,h.output,h.size,λk hk=>h.block k (by omega) (λhk2=>by have:=hs k hk2;omega)⟩
theorem Only.aW (h : Only S w w1) (k : Only T w1 w2) (hST : ∀ i,i < w.heap.size -> T i -> S i) : Only S w w2 :=
 ⟨k.os.trans h.os,k.tape.trans h.tape,k.output.trans h.output,Nat.le_trans h.size k.size,
  λi hi hs=>(k.block i (Nat.lt_of_lt_of_le hi h.size) (λht=>hs (hST i hi ht))).trans (h.block i hi hs)⟩
end Go.Proofs.YtklkooeimkedgaaGreat
namespace Go.Proofs.YtklkooeimkedgaaGreat
open Go.RowKit
def jT (k : IntKind) (w : World) (a : Option Addr) (len : Nat) (zs : List Int) : Prop :=
 zs.length = len /\ (∀ z ∈ zs,(Lit.int k z).wf = true) /\ (len = 0 \/ ∃ b off,a = some ⟨b,off,none⟩ /\ b < w.heap.size /\ ∀ i,i < len -> w.cell? ⟨b,off + i,none⟩ = some (.int k (zs.getD i 0)))
end Go.Proofs.YtklkooeimkedgaaGreat
