/- Walk of TopBeyond. -/
import Derived.Test.YtklkooeimkedgaaGreatB0
import Derived.Below
import Derived.Deep.Slices
import Derived.ProofKit
import Derived.SizedLaws
set_option linter.unusedVariables false
set_option linter.unusedSimpArgs false
namespace Go.Proofs.YtklkooeimkedgaaGreat
open Go.RowKit Go.ChangeShapes Go.WideShapes Go.Deep
theorem Pj {H : Type} {enc : TypeId × Value -> H} {P : Program} {W : World} {base : Nat} {spare : Nat -> Bool} {held : Bool} {t e : TypeId} {a : Option Addr} {len cap : Nat} {d : DataW H} {ps : List MemPlace} {ts : List TypeId} {ds : List (DataW H)} {j B : Nat}
 (hsz : (DataW.weightsEach P ts ds).all (· <= reachBytes) = true) (ht : ts[j]? = some t) (hd : ds[j]? = some d) (hu : P.underlying t = some (.slice e)) (hB : P.bytesOf e = B)
 (h : DataW.Trod enc P W base spare held t (.slice a len cap) d ps) : len * B <= 140737488351232:=by
 obtain ⟨fuel,hf⟩:=h
 rcases open_slice hu hf with ⟨hcs,_⟩ | ⟨x,l,c,m,n,D,Pl,hcs,_,hl,hm,hmm,hx,_⟩
 ·simp [Value.cells] at hcs
  obtain ⟨rfl,rfl,rfl⟩:=hcs
  simp
 ·simp [Value.cells] at hcs
  obtain ⟨rfl,rfl,rfl⟩:=hcs
  have hx1:=congrArg Prod.fst hx
  simp only at hx1
  subst hx1
  have z:=sized_slice hsz ht hd hu
  rw [hB] at z
  simp only [List.length_map,List.length_range] at z
  have hr : reachBytes = 140737488351232:=by decide
  rw [hr] at z
  exact Nat.le_trans (Nat.mul_le_mul_right B (Nat.le_add_right _ _)) z
end Go.Proofs.YtklkooeimkedgaaGreat
