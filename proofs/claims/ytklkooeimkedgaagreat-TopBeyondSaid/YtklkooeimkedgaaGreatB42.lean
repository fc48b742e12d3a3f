/- Walk of TopBeyond. -/
import Derived.Deep.RegionLaw
import Derived.Laws.Externs
import Derived.Laws.NewBlocks
import Derived.Lib.AppendZerosOnto
import Derived.Lib.Overlaps
import Derived.Shelf.Spec.SlicesInsert
import Derived.Test.YtklkooeimkedgaaGreatB41
set_option linter.unusedVariables false
set_option linter.unusedSimpArgs false
namespace Go.Proofs.YtklkooeimkedgaaGreat
open Go.RowKit
set_option maxRecDepth 100000
theorem Lr (W : World) (g b : Nat) (o lb cb : Nat) (cs cur : Array Value) (hg : ak W g cs bL) (hb : ak W b cur bL) (hne : g ≠ b) (hc : cur.size ≠ 0) (hcs : cs.size = 4) :
 (callFunc 176 #[.slice (some ⟨g,0,none⟩) 1 1,.slice (some ⟨b,o,none⟩) lb cb]).run Tryz.prog W = .ok (.value (.bool false)) W:=by
 have hsg : W.shape? g = some (bL,cs.size):=by unfold World.shape?;rw [show W.heap[g]? = _ from hg]
 have hsb : W.shape? b = some (bL,cur.size):=by unfold World.shape?;rw [show W.heap[b]? = _ from hb]
 rw [run_callFunc_extern Tryz.func176 (by kernel_rfl) (by kernel_rfl) (by kernel_rfl) (e:=Extern.SlicesOverlaps.overlaps #[193,193] #[4]) (by kernel_rfl),
  Lib.run_overlaps_apart W 193 4 bL Tryz.underlying193 4 Tryz.sizeOf221 ⟨g,0,none⟩ ⟨b,o,none⟩ 1 1 lb cb hne bL bL cs.size cur.size hsg hsb hc (hg.free 0) (hg.free _)]
 rfl
set_option maxRecDepth 100000
def BH (cur : List Value) (n i : Nat) (vs : List Value) : List Value :=
 let r:=cur.take ((i + 1) * 4) ++ (cur.drop (i * 4)).take ((n - i) * 4) ++ cur.drop ((i + 1) * 4 + (n - i) * 4)
 r.take (i * 4) ++ vs ++ r.drop (i * 4 + 4)
set_option maxHeartbeats 4000000 in
theorem Ls (g0 cap n i : Nat) (cur : Array Value) (hi : i < n) (hn : n <= 64) (hroom : n + 1 <= cap) (hcap : cap <= maxLen) (hcur : cur.size = cap * 4) (h1c : ∀ v ∈ (cur.toList.drop (i * 4)).take ((n - i) * 4),v.oneCell' = true)
 (g : Nat) (vs : Array Value) (hvs : vs.size = 4) (h1v : ∀ v ∈ vs.toList,v.oneCell' = true) (hne : g ≠ g0) (w : World) (h0 : ak w g0 cur bL) (hg : ak w g vs bL) :
 Calls Tryz.prog 120 #[.slice (some ⟨g0,0,none⟩) n cap,.int .i64 (i : Nat),.slice (some ⟨g,0,none⟩) 1 1] w λe w'=>e = .returned (.slice (some ⟨g0,0,none⟩) (n + 1) cap) /\ w' = (w.drew.setRow g0 (BH cur.toList n i vs.toList).toArray):=by
 have hov:=λo lb cb=>Lr w g g0 o lb cb vs cur hg h0 hne (by rw [hcur];omega) hvs
 have hw1 : IntKind.i64.wrap ((i : Int) + 1) = (i : Int) + 1:=by rw [IntKind.wrap_i64];omega
 have hw2 : wrap64 ((i : Int) + 1) = (i : Int) + 1:=by unfold wrap64;omega
 have hw3 : IntKind.i64.wrap ((n : Int) + 1) = (n : Int) + 1:=by rw [IntKind.wrap_i64];omega
 have hw4 : wrap64 ((n : Int) + 1) = (n : Int) + 1:=by unfold wrap64;omega
 have hb1 : (0 : Int) <= (i : Int) + 1:=by omega
 have hb2 : ¬ (cap = i + 1):=by omega
 have hb3 : (i : Int) <= (n : Int) + 1:=by omega
 have hb4 : ¬ (cap = i):=by omega
 have hin : i <= n:=by omega
 have hin2 : (i : Int) <= (n : Int):=by omega
 have hne2 : ¬ ((i : Int) = (n : Int)):=by omega
 have hr2 : ¬ ((cap : Int) < (n : Int) + 1):=by omega
 have ht1 : ((i : Int) + 1).toNat = i + 1:=by omega
 have ht2 : ((n : Int) + 1).toNat = n + 1:=by omega
 have hi0 : (0 : Int) <= (i : Int):=by omega
 have hn0 : (0 : Int) <= (n : Int) + 1:=by omega
 have hr3 : (n : Int) + 1 <= (cap : Int):=by omega
 have hr4 : (i : Int) + 1 <= (n : Int) + 1:=by omega
 have hsz : (Tryz.prog.info? bL).map (·.size) = some 4:=by
  obtain ⟨i0,e0,e1,e2,e3⟩:=info_parts CU
  rw [e0];simp [e2]
 have Fb:=Tryz.underlying193
 have hcl : ∀ j v,cur.toList[j]? = some v -> w.cell? ⟨g0,j,none⟩ = some v:=λj v hj=>by rw [h0.cell j];simpa using hj
 have hx1 : ((cur.toList.drop (i * 4)).take ((n - i) * 4)).length = (n - i) * 4:=by
  rw [List.length_take,List.length_drop,Array.length_toList,hcur];omega
 obtain ⟨r1,hr1⟩ : ∃ r1,r1 = cur.toList.take ((i + 1) * 4) ++ (cur.toList.drop (i * 4)).take ((n - i) * 4) ++ cur.toList.drop ((i + 1) * 4 + (n - i) * 4):=⟨_,rfl⟩
 have Kg : r1.length = cap * 4:=by
  rw [hr1,List.length_append,List.length_append,hx1,List.length_take,List.length_drop,Array.length_toList,hcur];omega
 have hcp1 : ∀ ty dc sc,(Builtin.copy_ #[193,193] ty #[.slice (some ⟨g0,(i + 1) * 4,none⟩) (n - i) dc,.slice (some ⟨g0,i * 4,none⟩) (n + 1 - i) sc]).run Tryz.prog w.drew = .ok (goInt ((n - i : Nat) : Int)) (w.drew.setRow g0 r1.toArray):=λty dc sc=>by
  have h:=qL (P:=Tryz.prog) w.drew 193 193 ty bL 4 g0 ((i + 1) * 4) (n - i) dc ⟨g0,i * 4,none⟩ (n + 1 - i) sc cur bL ((cur.toList.drop (i * 4)).take ((n - i) * 4)) (n - i) Fb hsz h0 (by simp only [Nat.min_def];split <;> omega) hx1
   (λj v hj=>by
     have e : (⟨g0,i * 4,none⟩ : Addr).add j = ⟨g0,i * 4 + j,none⟩:=by unfold Addr.add;split <;> simp_all
     rw [e]
     rw [List.getElem?_take] at hj
     split at hj
     ·rw [List.getElem?_drop] at hj;exact hcl _ _ hj
     ·cases hj)
   (by rw [hx1,hcur];omega) h1c
  rw [hx1] at h
  rw [h,hr1]
 obtain ⟨W1,hW1⟩ : ∃ W1,W1 = w.drew.setRow g0 r1.toArray:=⟨_,rfl⟩
 have hb1' : ak W1 g0 r1.toArray bL:=by rw [hW1];exact setRow_heap w.drew g0 _ _ bL _ h0
 have hg1 : ak W1 g vs bL:=by
  rw [hW1]
  have:=setRow_other w.drew g0 g r1.toArray hne
  unfold ak
  rw [this];exact hg
 have hcp2 : ∀ ty dc,(Builtin.copy_ #[193,193] ty #[.slice (some ⟨g0,i * 4,none⟩) (n + 1 - i) dc,.slice (some ⟨g,0,none⟩) 1 1]).run Tryz.prog W1 = .ok (goInt (1 : Nat)) (W1.setRow g0 (r1.take (i * 4) ++ vs.toList ++ r1.drop (i * 4 + 4)).toArray):=λty dc=>by
  have h:=qL (P:=Tryz.prog) W1 193 193 ty bL 4 g0 (i * 4) (n + 1 - i) dc ⟨g,0,none⟩ 1 1 r1.toArray bL vs.toList 1 Fb hsz hb1' (by simp only [Nat.min_def];split <;> omega) (by simp [hvs])
   (λj v hj=>by
     have e : (⟨g,0,none⟩ : Addr).add j = ⟨g,j,none⟩:=by unfold Addr.add;split <;> simp_all
     rw [e,hg1.cell j];simpa using hj)
   (by simp [hvs,Kg];omega) h1v
  rw [h]
  simp [hvs]
 rw [← hW1] at hcp1
 have mixed : Tryz.prog.follows .mixedOrders = true:=by kernel_rfl
 have HR1:=aiS hr1;have HW1:=aiS hW1;clear hr1 hW1 hcl hx1 Kg hb1' hg1 h1c h1v h0 hg
 go_enter Tryz.func120,Tryz.ntmps120
 go_wp2_with (simp only [hov])
 go_region_law_o (refine step_copy_runI rfl _ _ 193 193 rfl _ _ (by simp [Act.eval,Act.put]) (by simp [Act.eval,Act.put]) (hcp1 _ _ _) ?_)
 go_wp2_with (at_builtin;refine wpList_copy_runI _ rfl _ _ 193 193 rfl _ _ rfl rfl (hcp2 _ _) ?_)
 refine bodyPost_ret (v:=.slice (some ⟨g0,0,none⟩) (n + 1) cap) (by simp [results,Tryz.results120,go_sem]) rfl ⟨rfl,?_⟩
 rw [HW1.out,setRow_setRow,HR1.out]
 simp only [BH,List.append_assoc]
set_option maxRecDepth 100000
set_option maxHeartbeats 4000000 in
theorem Lu (g0 cap n i : Nat) (cur : Array Value) (hi : i < n) (hn : n <= 64) (hroom : cap < n + 1) (hnc : n <= cap) (hcur : cur.size = cap * 4) (h1c : ∀ v ∈ (cur.toList.drop (i * 4)).take ((n - i) * 4),v.oneCell' = true)
 (g : Nat) (vs : Array Value) (hvs : vs.size = 4) (h1v : ∀ v ∈ vs.toList,v.oneCell' = true) (w : World) (h0 : ak w g0 cur bL) (hg : ak w g vs bL) :
 Calls Tryz.prog 120 #[.slice (some ⟨g0,0,none⟩) n cap,.int .i64 (i : Nat),.slice (some ⟨g,0,none⟩) 1 1] w λe w'=>∃ (G : Nat) (R : Array Value),e = .returned (.slice (some ⟨w.heap.size,0,none⟩) (n + 1) G) /\ ak w' w.heap.size R bL /\ n + 1 <= G /\ G <= maxLen /\ R.size = G * 4 /\ R.toList.take ((n + 1) * 4) = cur.toList.take (i * 4) ++ vs.toList ++ (cur.toList.drop (i * 4)).take ((n - i) * 4) /\ Below w.heap.size w w':=by
 have hw1 : IntKind.i64.wrap ((i : Int) + 1) = (i : Int) + 1:=by rw [IntKind.wrap_i64];omega
 have hw2 : wrap64 ((i : Int) + 1) = (i : Int) + 1:=by unfold wrap64;omega
 have hw3 : IntKind.i64.wrap ((n : Int) + 1) = (n : Int) + 1:=by rw [IntKind.wrap_i64];omega
 have hw4 : wrap64 ((n : Int) + 1) = (n : Int) + 1:=by unfold wrap64;omega
 have qC : wrap64 ((n : Int) + 1 - (i : Int)) = (n : Int) + 1 - (i : Int):=by unfold wrap64;omega
 have Q0 : IntKind.i64.wrap ((n : Int) + 1 - (i : Int)) = (n : Int) + 1 - (i : Int):=by rw [IntKind.wrap_i64];omega
 have hb1 : (0 : Int) <= (i : Int) + 1:=by omega
 have hci : ¬ (cap = i):=by omega
 have hin : i <= n:=by omega
 have hin2 : (i : Int) <= (n : Int):=by omega
 have ah1 : (i : Int) <= (cap : Int):=by omega
 have hb3 : (i : Int) <= (n : Int) + 1:=by omega
 have hne2 : ¬ ((i : Int) = (n : Int)):=by omega
 have hr2 : (cap : Int) < (n : Int) + 1:=by omega
 have ht1 : ((i : Int) + 1).toNat = i + 1:=by omega
 have hi1 : (0 : Int) <= (i : Int):=by omega
 have hr4 : (i : Int) + 1 <= (n : Int) + 1:=by omega
 obtain ⟨i0,hi0,hz0,hzs,hzb⟩:=info_parts CU
 have hsz : (Tryz.prog.info? bL).map (·.size) = some 4:=by rw [hi0];simp [hzs]
 have Fb:=Tryz.underlying193
 have hcl : ∀ j v,cur.toList[j]? = some v -> w.cell? ⟨g0,j,none⟩ = some v:=λj v hj=>by rw [h0.cell j];simpa using hj
 have hold : (Builtin.firstCells i0.size i (.slice (some ⟨g0,0,none⟩) i cap)).run Tryz.prog w.drew = .ok (cur.toList.take (i * 4)).toArray w.drew:=by
  rw [hzs]
  exact run_firstCells_some w.drew 4 i ⟨g0,0,none⟩ i cap (cur.toList.take (i * 4)) (by rw [List.length_take,Array.length_toList,hcur];omega) (λj v hj=>by
   have e : (⟨g0,0,none⟩ : Addr).add j = ⟨g0,j,none⟩:=by unfold Addr.add;split <;> simp_all
   rw [e]
   rw [List.getElem?_take] at hj
   split at hj
   ·exact hcl j v hj
   ·cases hj)
 obtain ⟨G,hG⟩ : ∃ G,G = grownCap w (n + 1) cap bL:=⟨_,rfl⟩
 have hGn : n + 1 <= G:=by rw [hG];exact grownCap_ge w _ _ _
 have ZE : G <= maxLen:=by rw [hG];exact grownCap_le_maxLen w (n + 1) cap bL (by unfold maxLen;omega)
 obtain ⟨ROW,hROW⟩ : ∃ ROW : Array Value,ROW = (cur.toList.take (i * 4)).toArray ++ Builtin.zeroCells (Value.agg #[.int .i64 0,.int .i64 0,.int .i64 0,.slice none 0 0]).cells (n + 1 - i) ++ Builtin.zeroCells (Value.agg #[.int .i64 0,.int .i64 0,.int .i64 0,.slice none 0 0]).cells (G - (n + 1)):=⟨_,rfl⟩
 have hRs : ROW.size = G * 4:=by
  rw [hROW]
  simp [Builtin.zeroCells,Value.cells,hcur]
  omega
 have hRt : ROW.toList.take (i * 4) = cur.toList.take (i * 4):=by
  rw [hROW,Array.toList_append,Array.toList_append,List.append_assoc,List.take_append_of_le_length (by simp [hcur];omega)]
  simp [List.take_take]
 have hrz : ∀ ty,(Builtin.append_ #[193,3] ty #[.slice (some ⟨g0,0,none⟩) i cap,.int .i64 ((n : Int) + 1 - (i : Int))]).run Tryz.prog w =
  .ok (.slice (some ⟨w.heap.size,0,none⟩) (n + 1) G) (w.drew.alloc (.cells ROW bL)):=λty=>by
  have h:=Lib.run_append_grow_zeros w 193 3 ty bL i0 _ .i64 .i64 Fb Tryz.underlying3 hi0 hz0 (some ⟨g0,0,none⟩) i cap (cur.toList.take (i * 4)) hold (n + 1 - i) (by omega) (by rw [hzs];decide) (by omega) (by omega) (by rw [hzb];omega) (by rw [hzb,show i + (n + 1 - i) = n + 1 by omega];exact growslice_fits hroom (by omega))
  rw [show i + (n + 1 - i) = n + 1 by omega,← hG,← hROW] at h
  rw [show (n : Int) + 1 - (i : Int) = ((n + 1 - i : Nat) : Int) by omega]
  exact h
 obtain ⟨W1,hW1⟩ : ∃ W1,W1 = w.drew.alloc (.cells ROW bL):=⟨_,rfl⟩
 have hB1 : Below w.heap.size w W1:=by rw [hW1];exact Below.alloc (Below.drew aiU) (by show w.heap.size <= w.drew.heap.size;exact Nat.le_refl _) _
 have hbR : ak W1 w.heap.size ROW bL:=by rw [hW1];exact ak.new w.drew ROW bL
 have hg1 : ak W1 g vs bL:=hg.below hB1 hg.lt
 have h01 : ak W1 g0 cur bL:=h0.below hB1 h0.lt
 rw [← hW1] at hrz
 obtain ⟨R2,hR2⟩ : ∃ R2,R2 = ROW.toList.take (i * 4) ++ vs.toList ++ ROW.toList.drop (i * 4 + 4):=⟨_,rfl⟩
 have UM : R2.length = G * 4:=by rw [hR2];simp [hvs,hRs];omega
 have hcp2 : ∀ ty dc,(Builtin.copy_ #[193,193] ty #[.slice (some ⟨w.heap.size,i * 4,none⟩) (n + 1 - i) dc,.slice (some ⟨g,0,none⟩) 1 1]).run Tryz.prog W1 = .ok (goInt (1 : Nat)) (W1.setRow w.heap.size R2.toArray):=λty dc=>by
  have h:=qL (P:=Tryz.prog) W1 193 193 ty bL 4 w.heap.size (i * 4) (n + 1 - i) dc ⟨g,0,none⟩ 1 1 ROW bL vs.toList 1 Fb hsz hbR (by simp only [Nat.min_def];split <;> omega) (by simp [hvs])
   (λj v hj=>by
     have e : (⟨g,0,none⟩ : Addr).add j = ⟨g,j,none⟩:=by unfold Addr.add;split <;> simp_all
     rw [e,hg1.cell j];simpa using hj)
   (by simp [hvs,hRs];omega) h1v
  rw [h,hR2]
  simp [hvs]
 obtain ⟨W2,hW2⟩ : ∃ W2,W2 = W1.setRow w.heap.size R2.toArray:=⟨_,rfl⟩
 have hb2 : ak W2 w.heap.size R2.toArray bL:=by rw [hW2];exact setRow_heap W1 w.heap.size _ _ bL _ hbR
 have h02 : ak W2 g0 cur bL:=by
  rw [hW2]
  have:=setRow_other W1 w.heap.size g0 R2.toArray (Nat.ne_of_lt h0.lt)
  unfold ak
  rw [this];exact h01
 have hB2 : Below w.heap.size w W2:=by rw [hW2];exact below_setRow hB1 (Nat.le_refl _) _
 rw [← hW2] at hcp2
 have hx1 : ((cur.toList.drop (i * 4)).take ((n - i) * 4)).length = (n - i) * 4:=by
  rw [List.length_take,List.length_drop,Array.length_toList,hcur];omega
 obtain ⟨R3,kJ⟩ : ∃ R3,R3 = R2.take ((i + 1) * 4) ++ (cur.toList.drop (i * 4)).take ((n - i) * 4) ++ R2.drop ((i + 1) * 4 + (n - i) * 4):=⟨_,rfl⟩
 have hcp1 : ∀ ty dc sc,(Builtin.copy_ #[193,193] ty #[.slice (some ⟨w.heap.size,(i + 1) * 4,none⟩) (n - i) dc,.slice (some ⟨g0,i * 4,none⟩) (n - i) sc]).run Tryz.prog W2.drew = .ok (goInt ((n - i : Nat) : Int)) (W2.drew.setRow w.heap.size R3.toArray):=λty dc sc=>by
  have h:=qL (P:=Tryz.prog) W2.drew 193 193 ty bL 4 w.heap.size ((i + 1) * 4) (n - i) dc ⟨g0,i * 4,none⟩ (n - i) sc R2.toArray bL ((cur.toList.drop (i * 4)).take ((n - i) * 4)) (n - i) Fb hsz hb2 (by simp only [Nat.min_def];split <;> omega) hx1
   (λj v hj=>by
     have e : (⟨g0,i * 4,none⟩ : Addr).add j = ⟨g0,i * 4 + j,none⟩:=by unfold Addr.add;split <;> simp_all
     rw [e]
     rw [List.getElem?_take] at hj
     split at hj
     ·rw [List.getElem?_drop] at hj
      show W2.cell? _ = _
      rw [h02.cell];simpa using hj
     ·cases hj)
   (by rw [hx1];simp [UM];omega) h1c
  rw [hx1] at h
  rw [h,kJ]
 have hfin : R3.length = G * 4 /\ R3.take ((n + 1) * 4) = cur.toList.take (i * 4) ++ vs.toList ++ (cur.toList.drop (i * 4)).take ((n - i) * 4):=by
  have ht : R2.take ((i + 1) * 4) = cur.toList.take (i * 4) ++ vs.toList:=by
   rw [hR2,hRt,List.take_append_of_le_length (by simp [hvs,hcur];omega),List.take_of_length_le (by simp [hvs,hcur];omega)]
  refine ⟨by rw [kJ,List.length_append,List.length_append,hx1,List.length_take,List.length_drop,UM];omega,?_⟩
  rw [kJ,ht,List.take_append_of_le_length (by rw [List.length_append,hx1];simp [hvs,hcur];omega),List.take_of_length_le (by rw [List.length_append,hx1];simp [hvs,hcur];omega)]
 have hpost : ak (W2.drew.setRow w.heap.size R3.toArray) w.heap.size R3.toArray bL /\ Below w.heap.size w (W2.drew.setRow w.heap.size R3.toArray):=⟨setRow_heap W2.drew w.heap.size _ _ bL _ hb2,below_setRow (Below.drew hB2) (Nat.le_refl _) _⟩
 have HP : Hid (∃ (G' : Nat) (R : Array Value),(Ending.returned (.slice (some ⟨w.heap.size,0,none⟩) (n + 1) G) = .returned (.slice (some ⟨w.heap.size,0,none⟩) (n + 1) G')) /\ ak (W2.drew.setRow w.heap.size R3.toArray) w.heap.size R bL /\ n + 1 <= G' /\ G' <= maxLen /\ R.size = G' * 4 /\ R.toList.take ((n + 1) * 4) = cur.toList.take (i * 4) ++ vs.toList ++ (cur.toList.drop (i * 4)).take ((n - i) * 4) /\ Below w.heap.size w (W2.drew.setRow w.heap.size R3.toArray)) :=
  aiS ⟨G,R3.toArray,rfl,hpost.1,hGn,ZE,by simpa using hfin.1,by simpa using hfin.2,hpost.2⟩
 obtain ⟨W3,hW3⟩ : ∃ W3,W3 = W2.drew.setRow w.heap.size R3.toArray:=⟨_,rfl⟩
 rw [← hW3] at hcp1 HP
 have hG63 : G <= 9223372036854775807:=ZE
 have hGi : ¬ (G = i):=Nat.ne_of_gt (Nat.lt_of_lt_of_le (Nat.lt_succ_of_lt hi) hGn)
 have hGim : ¬ (G = i + 1):=Nat.ne_of_gt (Nat.lt_of_lt_of_le (Nat.succ_lt_succ hi) hGn)
 have mixed : Tryz.prog.follows .mixedOrders = true:=by kernel_rfl
 clear hpost hfin kJ hx1 hB2 h02 hb2 hW2 UM hR2 h01 hg1 hbR hB1 hW1 hW3 hRt hRs hROW ZE hGn hG hold hcl h0 hg h1c h1v hi0 hz0 hzs hzb
 go_enter Tryz.func120,Tryz.ntmps120
 go_wp2_with (first
  | (at_builtin;refine Lib.wpList_append_run _ rfl _ _ _ _ rfl _ _ rfl rfl _ _ (hrz _) ?_)
  | (at_builtin;refine wpList_copy_runI _ rfl _ _ 193 193 rfl _ _ rfl rfl (hcp2 _ _) ?_))
 go_region_law_o (refine step_copy_runI rfl _ _ 193 193 rfl _ _ (by simp [Act.eval,Act.put]) (by simp [Act.eval,Act.put]) (hcp1 _ _ _) ?_)
 go_wp2
 exact bodyPost_ret (v:=.slice (some ⟨w.heap.size,0,none⟩) (n + 1) G) (by simp [results,Tryz.results120,go_sem]) rfl HP.out
set_option maxRecDepth 100000
theorem Gg {w w' : World} {r : Option Nat} (h : Below w.heap.size w w') : w.grownBy w' r:=⟨h.os,h.tape,h.output,h.size,λk hk _=>h.block k hk⟩
theorem Kh (w : World) (g : Nat) (cs : Array Value) : w.grownBy (w.drew.setRow g cs) (some g) :=
 ⟨rfl,rfl,rfl,by simp [World.setRow],λk _ hk=>setRow_other w.drew g k cs (λe=>hk (by rw [e]))⟩
theorem Lv {cur xs vs : List Value} {n i cap : Nat} (hcap : n + 1 <= cap) (hcur : cur.length = cap * 4) (hx : cur.take (n * 4) = xs) (hi : i < n) (hvs : vs.length = 4) :
 (BH cur n i vs).length = cap * 4 /\ (BH cur n i vs).take ((n + 1) * 4) = xs.take (i * 4) ++ vs ++ xs.drop (i * 4):=by
 have hxl : xs.length = n * 4:=by rw [← hx,List.length_take,hcur];omega
 have h1 : cur.take (i * 4) = xs.take (i * 4):=by rw [← hx,List.take_take];congr 1;omega
 have h2 : (cur.drop (i * 4)).take ((n - i) * 4) = xs.drop (i * 4):=by
  rw [← hx,List.drop_take];congr 1;omega
 have h3 : (cur.take ((i + 1) * 4)).length = (i + 1) * 4:=by rw [List.length_take,hcur];omega
 have h4 : (xs.drop (i * 4)).length = (n - i) * 4:=by rw [List.length_drop,hxl];omega
 have hr1 : (cur.take ((i + 1) * 4) ++ xs.drop (i * 4) ++ cur.drop ((i + 1) * 4 + (n - i) * 4)).take (i * 4) = xs.take (i * 4):=by
  rw [List.append_assoc,List.take_append_of_le_length (by rw [h3];omega),List.take_take,← h1];congr 1;omega
 have hr2 : (cur.take ((i + 1) * 4) ++ xs.drop (i * 4) ++ cur.drop ((i + 1) * 4 + (n - i) * 4)).drop (i * 4 + 4) = xs.drop (i * 4) ++ cur.drop ((i + 1) * 4 + (n - i) * 4):=by
  rw [List.append_assoc,show i * 4 + 4 = (cur.take ((i + 1) * 4)).length by rw [h3];omega,List.drop_left]
 have h5 : (xs.take (i * 4)).length = i * 4:=by rw [List.length_take,hxl];omega
 unfold BH
 simp only [h2]
 rw [hr1,hr2]
 constructor
 ·simp only [List.length_append,h5,hvs,h4,List.length_drop,hcur];omega
 ·rw [← List.append_assoc,List.take_append_of_le_length (by simp only [List.length_append,h5,hvs,h4];omega),List.take_of_length_le (by simp only [List.length_append,h5,hvs,h4];omega)]
theorem abS (a : Option Addr) (cap n i : Nat) (xs : List Value) (hi : i <= n) (g : Nat) (k t m : Int) (s : Value) (hs : s.oneCell' = true) (w : World) (hrow : w.ownsRow 0 bL 4 (.slice a n cap) n xs) (h1 : ∀ u ∈ xs,u.oneCell' = true) (hg : ak w g #[.int .i64 k,.int .i64 t,.int .i64 m,s] bL) (hne : (Value.slice a n cap).ownBlock ≠ some g) (hn : n <= 64) :
 Calls Tryz.prog 120 #[.slice a n cap,.int .i64 (i : Nat),.slice (some ⟨g,0,none⟩) 1 1] w λe w'=>∃ v',e = .returned v' /\ w'.ownsRow 0 bL 4 v' (n + 1) (xs.take (i * 4) ++ [.int .i64 k,.int .i64 t,.int .i64 m,s] ++ xs.drop (i * 4)) /\ w.grownBy w' (Value.slice a n cap).ownBlock /\ (v'.ownBlock = (Value.slice a n cap).ownBlock \/ v'.ownBlock = some w.heap.size):=by
 have hxl:=hrow.1
 have hvs : ∀ u ∈ (#[Value.int .i64 k,.int .i64 t,.int .i64 m,s] : Array Value).toList,u.oneCell' = true:=by
  intro u hu;simp at hu;rcases hu with rfl | rfl | rfl | rfl <;> first | rfl | exact hs
 rcases Nat.lt_or_eq_of_le hi with hlt | rfl
 ·obtain ⟨_,⟨hv,hn0⟩ | ⟨g0,cap',cur,hv,q1,q2,q3,q4,q5,q6⟩⟩:=hrow
  ·omega
  ·injection hv with e1 e2 e3
   subst e1;subst e3
   have hgg : g ≠ g0:=λe=>hne (by rw [e];rfl)
   have hmid : (cur.toList.drop (i * 4)).take ((n - i) * 4) = xs.drop (i * 4):=by rw [← q6,List.drop_take];congr 1;omega
   have h1c : ∀ v ∈ (cur.toList.drop (i * 4)).take ((n - i) * 4),v.oneCell' = true:=λv hv=>h1 v (by rw [hmid] at hv;exact List.mem_of_mem_drop hv)
   have htk : cur.toList.take (i * 4) = xs.take (i * 4):=by rw [← q6,List.take_take];congr 1;omega
   by_cases hroom : n + 1 <= cap
   ·refine (Ls g0 cap n i cur hlt hn hroom q4 q5 h1c g _ rfl hvs hgg w q2 hg).mono ?_
    rintro e w' ⟨rfl,rfl⟩
    have hr:=Lv (vs:=[.int .i64 k,.int .i64 t,.int .i64 m,s]) hroom (by rw [Array.length_toList];exact q5) q6 hlt rfl
    refine ⟨_,rfl,⟨?_,.inr ⟨g0,cap,_,rfl,Nat.zero_le _,setRow_heap w.drew g0 _ _ bL _ q2,hroom,q4,?_,hr.2⟩⟩,Kh _ _ _,.inl rfl⟩
    ·simp only [List.length_append,List.length_take,List.length_drop,hxl,List.length_cons,List.length_nil];omega
    ·rw [List.size_toArray];exact hr.1
   ·refine (Lu g0 cap n i cur hlt hn (by omega) q3 q5 h1c g _ rfl hvs w q2 hg).mono ?_
    rintro e w' ⟨G,R,rfl,p1,p2,p3,p4,p5,p6⟩
    rw [hmid,htk] at p5
    refine ⟨_,rfl,⟨?_,.inr ⟨w.heap.size,G,R,rfl,Nat.zero_le _,p1,p2,p3,p4,p5⟩⟩,Gg p6,.inr rfl⟩
    simp only [List.length_append,List.length_take,List.length_drop,hxl,List.length_cons,List.length_nil];omega
 ·have hcap : i <= cap:=by
   obtain ⟨_,⟨hv,hn0⟩ | ⟨g0,cap',cur,hv,q1,q2,q3,q4,q5,q6⟩⟩:=hrow
   ·omega
   ·injection hv with e1 e2 e3
    subst e3;exact q3
  have h:=UL a cap i xs hcap g k t m s hs w hrow hg hn
  rw [List.take_of_length_le (by rw [hxl];exact Nat.le_refl _),List.drop_of_length_le (by rw [hxl];exact Nat.le_refl _),List.append_nil]
  exact h
set_option maxRecDepth 100000
theorem D8 {P : Program} {ops : Array Oper} {o : Oper} {a : Act} {w : World} {K : Act -> World -> Prop} {Q : Exit -> Act -> World -> Prop} {E : Prop}
 (hg : o.guard = none) (d x : Operand) (dT sT : TypeId) (hop : o.op = Op.call { callee:=Callee.builtin Builtin.append,args:=#[d,x],argTypes:=#[dT,sT] })
 (v u : Value) (hd : a.eval d = v) (hx : a.eval x = u) {v' : Value} {w' : World} (hr : (Builtin.append_ #[dT,sT] o.type #[v,u]).run P w = .ok v' w') (hK : K (a.put o.dst v') w') :
 if Region.wanted o (yielded ops a.tmps) = true then Oper.wp P o a w K Q else E:=by
 have hw : Region.wanted o (yielded ops a.tmps) = true:=by simp [Region.wanted,hg]
 rw [if_pos hw]
 unfold Oper.wp
 simp [execOp,hop,resolve,invoke,builtin,hd,hx,hr,Result.andThen]
 exact hK
def BI : Value:=.agg #[.int .i64 0,.int .i64 0,.int .i64 0,.slice none 0 0]
theorem UN (W : World) : (zeroValue bL).run Tryz.prog W = .ok BI W:=by kernel_rfl
def BK (cur : List Value) (n : Nat) : List Value :=
 let r:=(cur.drop 4).take ((n - 1) * 4) ++ cur.drop ((n - 1) * 4)
 r.take ((n - 1) * 4) ++ BI.cells.toList ++ r.drop ((n - 1) * 4 + 4)
set_option maxHeartbeats 4000000 in
theorem abT (g0 cap n : Nat) (cur : Array Value) (h2 : 2 <= n) (hn : n <= 65) (hnc : n <= cap) (hcap : cap <= maxLen) (hcur : cur.size = cap * 4) (h1c : ∀ v ∈ (cur.toList.drop 4).take ((n - 1) * 4),v.oneCell' = true) (w : World) (h0 : ak w g0 cur bL) :
 Calls Tryz.prog 121 #[.slice (some ⟨g0,0,none⟩) n cap,.int .i64 0,.int .i64 1] w λe w'=>e = .returned (.slice (some ⟨g0,0,none⟩) (n - 1) cap) /\ w' = w.drew.setRow g0 (BK cur.toList n).toArray:=by
 obtain ⟨i0,hi0,hz0,hzs,hzb⟩:=info_parts CU
 have Fb:=Tryz.underlying193
 have hcl : ∀ j v,cur.toList[j]? = some v -> w.cell? ⟨g0,j,none⟩ = some v:=λj v hj=>by rw [h0.cell j];simpa using hj
 have hx1 : ((cur.toList.drop 4).take ((n - 1) * 4)).length = (n - 1) * 4:=by
  rw [List.length_take,List.length_drop,Array.length_toList,hcur];omega
 obtain ⟨r1,hr1⟩ : ∃ r1,r1 = (cur.toList.drop 4).take ((n - 1) * 4) ++ cur.toList.drop ((n - 1) * 4):=⟨_,rfl⟩
 have Kg : r1.length = cap * 4:=by
  rw [hr1,List.length_append,hx1,List.length_drop,Array.length_toList,hcur];omega
 have hap : ∀ ty sc,(Builtin.append_ #[193,193] ty #[.slice (some ⟨g0,0,none⟩) 0 cap,.slice (some ⟨g0,4,none⟩) (n - 1) sc]).run Tryz.prog w.drew = .ok (.slice (some ⟨g0,0,none⟩) (n - 1) cap) (w.drew.setRow g0 r1.toArray):=λty sc=>by
  have h:=run_append_room (P:=Tryz.prog) w.drew 193 ty bL i0 Fb hi0 g0 0 cap cur h0 ⟨g0,4,none⟩ (n - 1) sc ((cur.toList.drop 4).take ((n - 1) * 4)) (by rw [hx1,hzs])
   (λj v hj=>by
     have e : (⟨g0,4,none⟩ : Addr).add j = ⟨g0,4 + j,none⟩:=by unfold Addr.add;split <;> simp_all
     rw [e]
     rw [List.getElem?_take] at hj
     split at hj
     ·rw [List.getElem?_drop] at hj;exact hcl _ _ hj
     ·cases hj) h1c (by omega) (by rw [hx1,hcur];omega)
  rw [hx1] at h
  simp only [Nat.zero_add,Nat.zero_mul,List.take_zero,List.nil_append] at h
  rw [h,hr1]
 obtain ⟨W1,hW1⟩ : ∃ W1,W1 = w.drew.setRow g0 r1.toArray:=⟨_,rfl⟩
 have hb1 : ak W1 g0 r1.toArray bL:=by rw [hW1];exact setRow_heap w.drew g0 _ _ bL _ h0
 have aeX : ∀ ty c,(Builtin.clear_ #[193] ty #[.slice (some ⟨g0,(n - 1) * 4,none⟩) (n - (n - 1)) c]).run Tryz.prog W1 = .ok (.tuple #[]) (W1.setRow g0 (r1.take ((n - 1) * 4) ++ BI.cells.toList ++ r1.drop ((n - 1) * 4 + 4)).toArray):=λty c=>by
  rw [show n - (n - 1) = 1 by omega]
  have hz1 : (Builtin.zeroCells BI.cells 1).toList = BI.cells.toList:=by kernel_rfl
  have h:=Gf (P:=Tryz.prog) W1 193 ty bL g0 ((n - 1) * 4) 1 c BI r1.toArray bL Fb UN (by decide) hb1 (by show (n - 1) * 4 + 1 * 4 <= r1.toArray.size;rw [List.size_toArray,Kg];omega) (by rw [hz1];decide)
  rw [h,hz1]
  rfl
 rw [← hW1] at hap
 obtain ⟨W2,hW2⟩ : ∃ W2,W2 = W1.setRow g0 (r1.take ((n - 1) * 4) ++ BI.cells.toList ++ r1.drop ((n - 1) * 4 + 4)).toArray:=⟨_,rfl⟩
 rw [← hW2] at aeX
 have mixed : Tryz.prog.follows .mixedOrders = true:=by kernel_rfl
 have b1 : ¬ (cap = 1):=by omega
 have b2 : ¬ (cap = n - 1):=by omega
 have b3 : (1 : Int) <= (n : Int):=by omega
 have b4 : (n : Int) <= (cap : Int):=by omega
 have b5 : (((n - 1 : Nat) : Int)) <= (n : Int):=by omega
 have b6 : 1 <= n:=by omega
 have b7 : n - 1 <= n:=by omega
 have b8 : ¬ (cap = 0):=by omega
 have HW2 : Hid (W2 = w.drew.setRow g0 (BK cur.toList n).toArray):=aiS (by rw [hW2,hW1,setRow_setRow,hr1];rfl)
 clear hr1 hW1 hW2 hcl hx1 Kg hb1 h1c h0 hi0 hz0 hzs hzb
 go_enter Tryz.func121,Tryz.ntmps121
 go_wp2_with fail
 go_region_law_o (refine D8 rfl (.tmp 22) (.tmp 25) 193 193 rfl _ _ (by simp [Act.eval,Act.put]) (by simp [Act.eval,Act.put]) (hap _ (cap - 1)) ?_)
 go_wp2
 exact bodyPost_ret (v:=.slice (some ⟨g0,0,none⟩) (n - 1) cap) (by simp [results,Tryz.results121,go_sem]) rfl ⟨rfl,HW2.out⟩
theorem Lx {cur xs : List Value} {n cap : Nat} (h2 : 2 <= n) (hnc : n <= cap) (hcur : cur.length = cap * 4) (hx : cur.take (n * 4) = xs) :
 (BK cur n).length = cap * 4 /\ (BK cur n).take ((n - 1) * 4) = xs.drop 4:=by
 have h1 : (cur.drop 4).take ((n - 1) * 4) = xs.drop 4:=by rw [← hx,List.drop_take];congr 1;omega
 have hxl : xs.length = n * 4:=by rw [← hx,List.length_take,hcur];omega
 have h3 : (xs.drop 4).length = (n - 1) * 4:=by rw [List.length_drop,hxl];omega
 have hz : BI.cells.toList.length = 4:=rfl
 unfold BK
 simp only [h1]
 have h4 : (xs.drop 4 ++ cur.drop ((n - 1) * 4)).take ((n - 1) * 4) = xs.drop 4:=by rw [← h3,List.take_left]
 rw [h4]
 constructor
 ·simp only [List.length_append,List.length_drop,h3,hxl,hz,hcur];omega
 ·rw [List.append_assoc,List.take_append_of_le_length (by rw [h3];exact Nat.le_refl _),List.take_of_length_le (by rw [h3];exact Nat.le_refl _)]
theorem UO (a : Option Addr) (cap n : Nat) (xs : List Value) (h2 : 2 <= n) (hn : n <= 65) (h1 : ∀ u ∈ xs,u.oneCell' = true) (w : World) (hrow : w.ownsRow 0 bL 4 (.slice a n cap) n xs) :
 Calls Tryz.prog 121 #[.slice a n cap,.int .i64 0,.int .i64 1] w λe w'=>e = .returned (.slice a (n - 1) cap) /\ w'.ownsRow 0 bL 4 (.slice a (n - 1) cap) (n - 1) (xs.drop 4) /\ w.grownBy w' (Value.slice a n cap).ownBlock:=by
 obtain ⟨hxl,⟨hv,hn0⟩ | ⟨g0,cap',cur,hv,q1,q2,q3,q4,q5,q6⟩⟩:=hrow
 ·omega
 ·injection hv with e1 e2 e3
  subst e1;subst e3
  refine (abT g0 cap n cur h2 hn q3 q4 q5 (λv hv=>h1 v (by rw [← q6];rw [show (cur.toList.drop 4).take ((n - 1) * 4) = (cur.toList.take (n * 4)).drop 4 by rw [List.drop_take];congr 1;omega] at hv;exact List.mem_of_mem_drop hv)) w q2).mono ?_
  rintro e w' ⟨rfl,rfl⟩
  have hr:=Lx h2 q3 (by rw [Array.length_toList];exact q5) q6
  refine ⟨rfl,⟨by rw [List.length_drop,hxl];omega,.inr ⟨g0,cap,_,rfl,Nat.zero_le _,setRow_heap w.drew g0 _ _ bL _ q2,by omega,q4,by rw [List.size_toArray];exact hr.1,hr.2⟩⟩,?_⟩
  exact ⟨rfl,rfl,rfl,by simp [World.setRow],λk _ hk=>setRow_other w.drew g0 k _ (λe=>hk (by rw [e];rfl))⟩
end Go.Proofs.YtklkooeimkedgaaGreat
