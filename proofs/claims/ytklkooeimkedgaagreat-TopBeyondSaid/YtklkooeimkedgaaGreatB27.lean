/- Walk of TopBeyond. -/
import Derived.RegionIn
import Derived.Test.YtklkooeimkedgaaGreatB26
set_option linter.unusedVariables false
set_option linter.unusedSimpArgs false
namespace Go.Proofs.YtklkooeimkedgaaGreat
open Go.RowKit Go.Shelf
attribute [local go_sem] Oper.semAt_some
theorem kW {β : Type} (B : Nat) (t : TypeId) (f : β -> Array Value) : Own (λs W=>ak W B (f s) t):=λs X Y row hs hg hrow=>by
 unfold ak at *
 exact (grownBy_keeps_cells hg hrow hs rfl).trans hs
def AQ (pre : List Nat) : Int:=match pre.getLast? with
 | none=>-1
 | some i=>i
theorem zG (pre : List Nat) (x : Nat) : AQ (pre ++ [x]) = x:=by simp [AQ]
set_option maxRecDepth 100000 in
set_option maxHeartbeats 4000000 in
theorem Xv (au : Int) (s : Option Addr) (len cap : Nat) (K T : Nat -> Int) (E : Nat -> Option Addr × Nat × Nat) (w : World) (h : iC w s len K T E) (hlen : (len : Int) <= 4611686018427387904) (hc : eD T len = 0) :
 Calls Tryz.prog 46 #[.int .i64 au,.slice s len cap] w λe w'=>e = .returned (.tuple #[.int .i64 (pI T au len),.int .i64 (iT T au len),.int .i64 (iL T au len)]) /\ Below w.heap.size w w':=by
 have CK:=λw' hb=>DR s len cap K T E w' (h.below hb) hlen
 rw [hc] at CK
 have PA : Hid (pI T au len = if bS T au len = 0 then 0 else (bS T au len : Int) - 1):=aiS (by unfold pI;rw [if_pos hc])
 have PB : Hid (iT T au len = if bS T au len = 0 then 0 else if bS T au len = len then -1 else (bS T au len : Int)):=aiS (by unfold iT;rw [if_pos hc])
 have PE : Hid (iL T au len = if bS T au len = 0 then 5 else 0):=aiS (by unfold iL;rw [if_pos hc])
 generalize pI T au len = pa at *
 generalize iT T au len = pb at *
 generalize iL T au len = pe at *
 refine (callsIn_wide (n:=9)).1 ?_
 refine callsIn_of_wp_marks Tryz.func46 rfl trivial ?_ rfl
 simp only [Tryz.ntmps46,List.size_toArray,List.length_cons,List.length_nil,Nat.reduceAdd,Nat.reduceSub,Array.replicate_succ,Array.replicate_zero,List.push_toArray,List.append_toArray,List.nil_append,List.cons_append]
 gi_wp2_with (first
  | (refine ⟨trivial,?_⟩;gi_at_call 91;refine (callsIn_wide.2 (CK _ (by (repeat (first | exact Below.refl _ _ | assumption | (refine Below.drew ?_) | (refine below_drewN ?_ _) | (refine Below.alloc ?_ (by simp <;> omega) _) | (refine Below.setCell ?_ (by simp <;> omega) _)))))).mono ?_;rintro e w1 ⟨rfl,hb1⟩)
  | (refine ⟨trivial,?_⟩;gi_at_call 92;refine (Xu Fence.wide _ trivial rfl _ _ _ _).mono ?_;rintro e w' ⟨rfl,rfl⟩))
 have hsz1 : w.heap.size + 1 + 1 + 1 + 1 <= w1.heap.size:=by have:=hb1.size;simpa using this
 have B2 : ak w1 w.heap.size #[.int .i64 au] 2:=((((ak.new w #[.int .i64 au] 2).alloc (.cells #[.int .i64 0] 3)).alloc (.cells #[.int .i64 0] 3)).alloc (.cells #[.int .i64 0] 25)).below hb1 (by simp;omega)
 have B4 : ak w1 (w.heap.size + 1) #[.int .i64 0] 3:=by
  have e:=((ak.new (w.alloc (.cells #[.int .i64 au] 2)) #[.int .i64 0] 3).alloc (.cells #[.int .i64 0] 3)).alloc (.cells #[.int .i64 0] 25);simp at e
  exact e.below hb1 (by simp)
 have B5 : ak w1 (w.heap.size + 1 + 1) #[.int .i64 0] 3:=by
  have e:=(ak.new ((w.alloc (.cells #[.int .i64 au] 2)).alloc (.cells #[.int .i64 0] 3)) #[.int .i64 0] 3).alloc (.cells #[.int .i64 0] 25);simp at e
  exact e.below hb1 (by simp)
 have B6 : ak w1 (w.heap.size + 1 + 1 + 1) #[.int .i64 0] 25:=by
  have e:=ak.new (((w.alloc (.cells #[.int .i64 au] 2)).alloc (.cells #[.int .i64 0] 3)).alloc (.cells #[.int .i64 0] 3)) #[.int .i64 0] 25;simp at e
  exact e.below hb1 (by simp)
 have hB1 : Below w.heap.size w w1:=Below.trans (by (repeat (first | exact Below.refl _ _ | assumption | (refine Below.drew ?_) | (refine below_drewN ?_ _) | (refine Below.alloc ?_ (by simp <;> omega) _) | (refine Below.setCell ?_ (by simp <;> omega) _)))) (hb1.mono (by simp;omega))
 clear hb1;have C2:=(B2.alloc (.cells #[.int .i64 (-1)] 3)).alloc (.cells #[.slice s len cap] 54);have C4:=(B4.alloc (.cells #[.int .i64 (-1)] 3)).alloc (.cells #[.slice s len cap] 54);have C5:=(B5.alloc (.cells #[.int .i64 (-1)] 3)).alloc (.cells #[.slice s len cap] 54);have C6:=(B6.alloc (.cells #[.int .i64 (-1)] 3)).alloc (.cells #[.slice s len cap] 54);have C8:=(ak.new w1 #[.int .i64 (-1)] 3).alloc (.cells #[.slice s len cap] 54);have CS:=ak.new (w1.alloc (.cells #[.int .i64 (-1)] 3)) #[.slice s len cap] 54
 rw [World.size_alloc] at CS
 have HB0 : Below w.heap.size w ((w1.alloc (.cells #[.int .i64 (-1)] 3)).alloc (.cells #[.slice s len cap] 54)):=(hB1.alloc hB1.size _).alloc (by simp;omega) _
 have hsz : ((w1.alloc (.cells #[.int .i64 (-1)] 3)).alloc (.cells #[.slice s len cap] 54)).heap.size = w1.heap.size + 1 + 1:=by simp
 obtain ⟨W0,hW0⟩ : ∃ W0,(w1.alloc (.cells #[.int .i64 (-1)] 3)).alloc (.cells #[.slice s len cap] 54) = W0:=⟨_,rfl⟩
 rw [hW0] at C2 C4 C5 C6 C8 CS HB0 hsz ⊢
 clear hW0 B2 B4 B5 B6 hB1
 obtain ⟨nx,hnx⟩ : ∃ n,w1.heap.size = n:=⟨_,rfl⟩
 rw [hnx] at C8 CS hsz hsz1 ⊢
 clear hnx CK
 obtain ⟨s0,hs0⟩ : ∃ n,w.heap.size = n:=⟨_,rfl⟩
 rw [hs0] at C2 C4 C5 C6 HB0 hsz1 ⊢
 refine wpIn_rangeFunc_ownH rfl (by omega) (gf:=132) (lb:=#[.pointer (some ⟨nx + 1,0,none⟩)]) rfl trivial (enters_of Tryz.func132 (by kernel_rfl) rfl)
  (Nz Fence.wide 8 trivial rfl (by omega) (nx + 1) s0 s len cap K T E hlen W0 w (by omega) (by omega) (CS.cell 0) hs0 h HB0) (λh k=>h.trans k) (pJ.putObj (by omega) (by omega)) aiU (λ_=>rfl)
  (λpre W=>((((((ak W s0 #[.int .i64 au] 2 /\ ak W (s0 + 1) #[.int .i64 0] 3) /\ ak W (s0 + 1 + 1) #[.int .i64 0] 3) /\ ak W (s0 + 1 + 1 + 1) #[.int .i64 0] 25) /\ ak W nx #[.int .i64 (AQ pre)] 3) /\ ak W (nx + 1) #[.slice s len cap] 54) /\ (∀ i ∈ pre,au < T i)) /\ Below s0 w W)
  (λc pre W=>((((c = .ret /\ ∃ LZ i,pre = LZ ++ [i] /\ T i <= au /\ ∀ j ∈ LZ,au < T j) /\ ak W (s0 + 1) #[.int .i64 (AQ pre)] 3) /\ ak W (s0 + 1 + 1) #[.int .i64 (AQ pre.dropLast)] 3) /\ ak W (s0 + 1 + 1 + 1) #[.int .i64 0] 25) /\ Below s0 w W)
  (OwnFrom.and (OwnFrom.and (OwnFrom.and (OwnFrom.and (OwnFrom.and (OwnFrom.and (OwnFrom.and (Own.from (kW _ _ (λ_=>#[.int .i64 au])) _) (Own.from (kW _ _ (λ_=>#[.int .i64 0])) _)) (Own.from (kW _ _ (λ_=>#[.int .i64 0])) _)) (Own.from (kW _ _ (λ_=>#[.int .i64 0])) _)) (Own.from (kW _ _ (λpre=>#[.int .i64 (AQ pre)])) _)) (Own.from (kW _ _ (λ_=>#[.slice s len cap])) _)) (ownFrom_pure _ (λpre=>∀ i ∈ pre,au < T i))) (ownFrom_below (by omega) (by omega)))
  (λc=>OwnFrom.and (OwnFrom.and (OwnFrom.and (OwnFrom.and (ownFrom_pure _ (λpre=>c = .ret /\ ∃ LZ i,pre = LZ ++ [i] /\ T i <= au /\ ∀ j ∈ LZ,au < T j)) (Own.from (kW _ _ (λpre=>#[.int .i64 (AQ pre)])) _)) (Own.from (kW _ _ (λ(pre : List Nat)=>#[.int .i64 (AQ pre.dropLast)])) _)) (Own.from (kW _ _ (λ_=>#[.int .i64 0])) _)) (ownFrom_below (by omega) (by omega)))
  ⟨⟨⟨⟨⟨⟨⟨C2,C4⟩,C5⟩,C6⟩,C8⟩,CS⟩,by simp⟩,HB0⟩
  (λx a' W=>∃ Bx,nx + 1 < Bx /\ ak W Bx #[.int .i64 (K x),.int .i64 (T x),.slice (E x).1 (E x).2.1 (E x).2.2] 36 /\ a' = { tmps:=#[.int .i64 au,.slice s len cap,.pointer (some ⟨s0,0,none⟩),undef,.pointer (some ⟨s0 + 1,0,none⟩),.pointer (some ⟨s0 + 1 + 1,0,none⟩),.pointer (some ⟨s0 + 1 + 1 + 1,0,none⟩),.int .i64 0,.pointer (some ⟨nx,0,none⟩),.int .i64 (x : Int),.pointer (some ⟨Bx,0,none⟩),.slice s len cap,.int .i64 0,.int .i64 0,.bool false,undef,.slice s len cap,.func (.func 132) #[] #[.pointer (some ⟨nx + 1,0,none⟩)],.int .i64 (x : Int),.agg #[.int .i64 (K x),.int .i64 (T x),.slice (E x).1 (E x).2.1 (E x).2.2],undef,undef,undef,undef,undef,undef,undef],defers:=[] })
  (λx a' _ X Y row hs hg hr=>by obtain ⟨Bx,h1,h2,h3⟩:=hs;exact ⟨Bx,h1,kW Bx 36 (λ(_ : Unit)=>#[.int .i64 (K x),.int .i64 (T x),.slice (E x).1 (E x).2.1 (E x).2.2]) () X Y row h2 hg (λr e=>(hr r e).2),h3⟩)
  ?assign ?body ?done ?stop
 case assign =>
  rintro l pre x W KK ⟨⟨⟨⟨⟨⟨⟨c2,c4⟩,c5⟩,c6⟩,c8⟩,cS⟩,hp⟩,hB⟩ hK
  have qo : s0 <= W.heap.size:=by have:=hB.size;omega
  unfold IK
  gi_wp2
  exact hK _ _ ((KeepsOthers.alloc _ _).from _) ⟨(Below.refl _ W).alloc qo _,(cS.alloc _).trans cS.symm⟩ ⟨⟨⟨⟨⟨⟨⟨c2.alloc _,c4.alloc _⟩,c5.alloc _⟩,c6.alloc _⟩,c8.alloc _⟩,cS.alloc _⟩,hp⟩,hB.alloc qo _⟩ ⟨W.heap.size,cS.lt,ak.new W _ _,rfl⟩
 case body =>
  rintro l pre x a' W hl ⟨r,hr⟩ ⟨⟨⟨⟨⟨⟨⟨c2,c4⟩,c5⟩,c6⟩,c8⟩,cS⟩,hp⟩,hB⟩ ⟨Bx,hBx,bX,rfl⟩ hlt
  have qo : s0 <= W.heap.size:=by have:=hB.size;omega
  have q2:=c2.cell 0;have q8:=c8.cell 0;have x1:=bX.cell 1
  have q4:=c4.cell 0;have q5:=c5.cell 0;have q6:=c6.cell 0
  have f4:=c4.free 0;have f5:=c5.free 0;have f6:=c6.free 0;have f8:=c8.free 0
  simp at q2 q8 x1 f4 f5 f6 f8 q4 q5 q6
  by_cases hT : T x <= au
  ·have hmx : Tryz.prog.follows .mixedOrders = true:=by kernel_rfl
   gi_wp2
   gi_region_with_o (fail)
   all_goals gi_wp2
   all_goals (try go_bits)
   all_goals
    refine ⟨((((KeepsOthers.setCell _ _ _).trans (KeepsOthers.setCell _ _ _)).trans (KeepsOthers.setCell _ _ _)).trans (KeepsOthers.drew _)).from _,⟨⟨⟨⟨rfl,pre,x,rfl,hT,hp⟩,?_⟩,?_⟩,?_⟩,?_⟩
    ·rw [zG]
     exact (((c4.set 0 (.int .i64 x)).far (by simp) _).far (by simp) _).draws 1
    ·rw [List.dropLast_concat]
     exact (((c5.far (p:=⟨s0 + 1,0,none⟩) (by simp <;> omega) _).set 0 (.int .i64 (AQ pre))).far (p:=⟨s0 + 1 + 1 + 1,0,none⟩) (by simp <;> omega) _).draws 1
    ·exact (((c6.far (p:=⟨s0 + 1,0,none⟩) (by simp <;> omega) _).far (p:=⟨s0 + 1 + 1,0,none⟩) (by simp <;> omega) _).set 0 (.int .i64 0)).draws 1
    ·exact (((hB.setCell (p:=⟨s0 + 1,0,none⟩) (by simp) _).setCell (p:=⟨s0 + 1 + 1,0,none⟩) (by simp <;> omega) _).setCell (p:=⟨s0 + 1 + 1 + 1,0,none⟩) (by simp <;> omega) _).drew
  ·have hT2 : decide (T x <= au) = false:=decide_eq_false hT
   gi_wp2
   refine ⟨(KeepsOthers.setCell _ _ _).from _,⟨(Below.refl s0 W).setCell (p:=⟨nx,0,none⟩) (by show s0 <= nx;omega) _,(cS.far (p:=⟨nx,0,none⟩) (by simp) _).trans cS.symm⟩,⟨⟨⟨⟨⟨⟨⟨c2.far (by simp only [ne_eq];omega) _,c4.far (by simp only [ne_eq];omega) _⟩,c5.far (by simp only [ne_eq];omega) _⟩,c6.far (by simp only [ne_eq];omega) _⟩,by rw [zG];exact c8.set 0 _⟩,cS.far (by simp) _⟩,?_⟩,hB.setCell (p:=⟨nx,0,none⟩) (by show s0 <= nx;omega) _⟩⟩
   intro i hi
   rcases List.mem_append.1 hi with hi | hi
   ·exact hp i hi
   ·simp at hi;subst hi;omega
 case done =>
  rintro D ys W hD rfl ⟨⟨⟨⟨⟨⟨⟨c2,c4⟩,c5⟩,c6⟩,c8⟩,cS⟩,hp⟩,hB⟩ hK
  have hz : bS T au len = 0:=yw T au len 0 (Nat.zero_le _) (λi _ hi=>hp i (by
   simp only [dn,List.mem_map,List.mem_range];exact ⟨len - 1 - i,by omega,by omega⟩))
  have YQ : pa = 0:=by rw [PA.out,if_pos hz]
  have YR : pb = 0:=by rw [PB.out,if_pos hz]
  have YS : pe = 5:=by rw [PE.out,if_pos hz]
  subst YQ;subst YR;subst YS
  have q4:=c4.cell 0;have q5:=c5.cell 0;have q6:=c6.cell 0
  have f4:=c4.free 0;have f5:=c5.free 0;have f6:=c6.free 0
  simp at f4 f5 f6 q4 q5 q6
  gi_wp2
  have Da:=(((KeepsOthers.setCell W ⟨s0 + 1,0,none⟩ (.int .i64 0)).trans (KeepsOthers.setCell _ ⟨s0 + 1 + 1,0,none⟩ (.int .i64 0))).trans (KeepsOthers.setCell _ ⟨s0 + 1 + 1 + 1,0,none⟩ (.int .i64 5))).same D _ hK rfl
  refine ⟨by simp,.inl ⟨_,_,rfl,run_takeDeferred Da,?_⟩⟩
  have r4:=cell_kept ((((c4.set 0 (.int .i64 0)).far (p:=⟨s0 + 1 + 1,0,none⟩) (by simp) (.int .i64 0)).far (p:=⟨s0 + 1 + 1 + 1,0,none⟩) (by simp) (.int .i64 5)).cell 0) (grownBy_putObj' _ D (.deferred none)) (λr e=>by cases e;exact ⟨_,Da,rfl⟩)
  have r5:=cell_kept ((((c5.far (p:=⟨s0 + 1,0,none⟩) (by simp <;> omega) (.int .i64 0)).set 0 (.int .i64 0)).far (p:=⟨s0 + 1 + 1 + 1,0,none⟩) (by simp <;> omega) (.int .i64 5)).cell 0) (grownBy_putObj' _ D (.deferred none)) (λr e=>by cases e;exact ⟨_,Da,rfl⟩)
  have r6:=cell_kept ((((c6.far (p:=⟨s0 + 1,0,none⟩) (by simp <;> omega) (.int .i64 0)).far (p:=⟨s0 + 1 + 1,0,none⟩) (by simp <;> omega) (.int .i64 0)).set 0 (.int .i64 5)).cell 0) (grownBy_putObj' _ D (.deferred none)) (λr e=>by cases e;exact ⟨_,Da,rfl⟩)
  simp at r4 r5 r6
  refine ⟨.tuple #[.int .i64 0,.int .i64 0,.int .i64 5],?_,rfl,by rw [hs0];exact (((hB.setCell (p:=⟨s0 + 1,0,none⟩) (by simp) _).setCell (p:=⟨s0 + 1 + 1,0,none⟩) (by simp <;> omega) _).setCell (p:=⟨s0 + 1 + 1 + 1,0,none⟩) (by simp <;> omega) _).trans (belowK_b (w:=w) (by omega) _ D _ _ (by omega) Da rfl rfl)⟩
  simp [results,Tryz.f46,go_sem,r4,r5,r6]
 case stop =>
  rintro D c pre W hD ⟨k,hk,rfl⟩ ⟨⟨⟨⟨⟨rfl,LZ,i,e1,e2,e3⟩,c4⟩,c5⟩,c6⟩,hB⟩ hK
  obtain ⟨k',rfl⟩ : ∃ k',k = k' + 1:=by
   cases k with
   | zero=>simp [dn] at e1
   | succ k'=>exact ⟨k',rfl⟩
  rw [yP] at e1
  obtain ⟨rfl,e5⟩:=List.append_inj' e1 rfl
  obtain rfl : len - 1 - k' = i:=by simpa using e5
  rw [yP,zG] at c4
  rw [yP,List.dropLast_concat] at c5
  have hl : bS T au len = len - 1 - k' + 1:=by
   rw [yw T au len (len - 1 - k' + 1) (by omega) (λi h1 h2=>e3 i (by
    simp only [dn,List.mem_map,List.mem_range];exact ⟨len - 1 - i,by omega,by omega⟩)),Qd e2]
  have hn0 : ¬ bS T au len = 0:=by omega
  have YQ : pa = ((len - 1 - k' : Nat) : Int):=by rw [PA.out,if_neg hn0,hl];omega
  have YR : pb = AQ (dn len k'):=by
   rw [PB.out,if_neg hn0,hl]
   cases k' with
   | zero=>rw [if_pos (by omega)];rfl
   | succ k2=>rw [if_neg (by omega),yP,zG];omega
  have YS : pe = 0:=by rw [PE.out,if_neg hn0]
  subst YQ;subst YR;subst YS
  gi_wp2
  refine ⟨by simp,.inl ⟨_,_,rfl,run_takeDeferred hK,?_⟩⟩
  have r4:=cell_kept (c4.cell 0) (grownBy_putObj' _ D (.deferred none)) (λr e=>by cases e;exact ⟨_,hK,rfl⟩)
  have r5:=cell_kept (c5.cell 0) (grownBy_putObj' _ D (.deferred none)) (λr e=>by cases e;exact ⟨_,hK,rfl⟩)
  have r6:=cell_kept (c6.cell 0) (grownBy_putObj' _ D (.deferred none)) (λr e=>by cases e;exact ⟨_,hK,rfl⟩)
  refine ⟨.tuple #[.int .i64 ((len - 1 - k' : Nat) : Int),.int .i64 (AQ (dn len k')),.int .i64 0],?_,rfl,by (try rw [hs0]);exact hB.trans (belowK_b (w:=w) (by omega) _ D _ _ (by omega) hK rfl rfl)⟩
  simp at r4 r5 r6
  simp [results,Tryz.f46,go_sem,r4,r5,r6]
end Go.Proofs.YtklkooeimkedgaaGreat
namespace Go.Proofs.YtklkooeimkedgaaGreat
open Go.RowKit
def two {α : Type} (a b : α) : Nat -> α
 | 0=>a
 | _=>b
theorem Qf (w : World) (k0 t0 k1 t1 : Int) (ea fa : Option Addr) (el ec fl fc : Nat) :
 iC (w.alloc (.cells #[.int .i64 k0,.int .i64 t0,.slice ea el ec,.int .i64 k1,.int .i64 t1,.slice fa fl fc] 36)) (some ⟨w.heap.size,0,none⟩) 2 (two k0 k1) (two t0 t1) (two (ea,el,ec) (fa,fl,fc)):=by
 refine .inr ⟨w.heap.size,0,rfl,by simp,λi hi=>?_⟩
 have b:=ak.new w #[.int .i64 k0,.int .i64 t0,.slice ea el ec,.int .i64 k1,.int .i64 t1,.slice fa fl fc] 36
 match i,hi with
 | 0,_=>exact ⟨b.cell 0,b.cell 1,b.cell 2⟩
 | 1,_=>exact ⟨b.cell 3,b.cell 4,b.cell 5⟩
theorem Qg (w : World) (k0 t0 : Int) (ea : Option Addr) (el ec : Nat) :
 iC (w.alloc (.cells #[.int .i64 k0,.int .i64 t0,.slice ea el ec] 36)) (some ⟨w.heap.size,0,none⟩) 1 (λ_=>k0) (λ_=>t0) (λ_=>(ea,el,ec)):=by
 refine .inr ⟨w.heap.size,0,rfl,by simp,λi hi=>?_⟩
 have b:=ak.new w #[.int .i64 k0,.int .i64 t0,.slice ea el ec] 36
 match i,hi with
 | 0,_=>exact ⟨b.cell 0,b.cell 1,b.cell 2⟩
def jh (a b t : Int) : Int:=if eD (two a b) 2 = 0 then (if t < a \/ b < t then 3 else 0) else eD (two a b) 2
def tV (a b t : Int) : Int:=if jh a b t = 0 then t - a else 0
def tX (a b t : Int) : Int:=if jh a b t = 0 then b - a else 0
def kV (a t : Int) : Int:=if eD (λ_=>a) 1 = 0 then (if t < a then 3 else 0) else eD (λ_=>a) 1
def zH (a t : Int) : Int:=if kV a t = 0 then aK t a else 0
theorem Jq (s : Option Addr) (len cap : Nat) (K T : Nat -> Int) (E : Nat -> Option Addr × Nat × Nat) (w : World) (h : iC w s len K T E) (hlen : (len : Int) <= 4611686018427387904) :
 Calls Tryz.prog 91 #[.slice s len cap] w λe w'=>e = .returned (.int .i64 (eD T len)) /\ Below w.heap.size w w':=DR s len cap K T E w h hlen
set_option maxRecDepth 100000 in
set_option maxHeartbeats 2000000 in
theorem FW (k0 t0 k1 t1 au : Int) (ea fa : Option Addr) (el ec fl fc : Nat) (w : World) :
 Calls Tryz.prog 96 #[.agg #[.int .i64 k0,.int .i64 t0,.slice ea el ec],.agg #[.int .i64 k1,.int .i64 t1,.slice fa fl fc],.int .i64 au] w λe w'=>e = .returned (.tuple #[.int .i64 (tV t0 t1 au),.int .i64 (tX t0 t1 au),.int .i64 (jh t0 t1 au)]) /\ Below w.heap.size w w':=by
 have CK:=Jq (some ⟨w.heap.size + 1 + 1,0,none⟩) 2 2 (two k0 k1) (two t0 t1) (two (ea,el,ec) (fa,fl,fc)) (((w.alloc (.cells #[.int .i64 k0,.int .i64 t0,.slice ea el ec] 36)).alloc (.cells #[.int .i64 k1,.int .i64 t1,.slice fa fl fc] 36)).alloc (.cells #[.int .i64 k0,.int .i64 t0,.slice ea el ec,.int .i64 k1,.int .i64 t1,.slice fa fl fc] 36)) (by have e:=Qf ((w.alloc (.cells #[.int .i64 k0,.int .i64 t0,.slice ea el ec] 36)).alloc (.cells #[.int .i64 k1,.int .i64 t1,.slice fa fl fc] 36)) k0 t0 k1 t1 ea fa el ec fl fc;simpa using e) (by decide)
 have XA : Hid (ak (((w.alloc (.cells #[.int .i64 k0,.int .i64 t0,.slice ea el ec] 36)).alloc (.cells #[.int .i64 k1,.int .i64 t1,.slice fa fl fc] 36)).alloc (.cells #[.int .i64 k0,.int .i64 t0,.slice ea el ec,.int .i64 k1,.int .i64 t1,.slice fa fl fc] 36)) w.heap.size #[.int .i64 k0,.int .i64 t0,.slice ea el ec] 36):=aiS (((ak.new w _ _).alloc _).alloc _)
 have XB : Hid (ak (((w.alloc (.cells #[.int .i64 k0,.int .i64 t0,.slice ea el ec] 36)).alloc (.cells #[.int .i64 k1,.int .i64 t1,.slice fa fl fc] 36)).alloc (.cells #[.int .i64 k0,.int .i64 t0,.slice ea el ec,.int .i64 k1,.int .i64 t1,.slice fa fl fc] 36)) (w.heap.size + 1) #[.int .i64 k1,.int .i64 t1,.slice fa fl fc] 36):=aiS (by have e:=(ak.new (w.alloc (.cells #[.int .i64 k0,.int .i64 t0,.slice ea el ec] 36)) #[.int .i64 k1,.int .i64 t1,.slice fa fl fc] 36).alloc (.cells #[.int .i64 k0,.int .i64 t0,.slice ea el ec,.int .i64 k1,.int .i64 t1,.slice fa fl fc] 36);simpa using e)
 have HB : Hid (Below w.heap.size w (((w.alloc (.cells #[.int .i64 k0,.int .i64 t0,.slice ea el ec] 36)).alloc (.cells #[.int .i64 k1,.int .i64 t1,.slice fa fl fc] 36)).alloc (.cells #[.int .i64 k0,.int .i64 t0,.slice ea el ec,.int .i64 k1,.int .i64 t1,.slice fa fl fc] 36))):=aiS (by (repeat (first | exact Below.refl _ _ | assumption | (refine Below.drew ?_) | (refine below_drewN ?_ _) | (refine Below.alloc ?_ (by simp <;> omega) _) | (refine Below.setCell ?_ (by simp <;> omega) _))))
 by_cases hc : eD (two t0 t1) 2 = 0
 ·have ⟨b1,b2⟩:=rO hc (j:=0) (by omega)
  have ⟨b3,b4⟩:=rO hc (j:=1) (by omega)
  simp only [two] at b1 b2 b3 b4
  have PE : Hid (jh t0 t1 au = if au < t0 \/ t1 < au then 3 else 0):=aiS (by unfold jh;rw [if_pos hc])
  have PN : Hid (tV t0 t1 au = if jh t0 t1 au = 0 then au - t0 else 0):=aiS rfl
  have PD : Hid (tX t0 t1 au = if jh t0 t1 au = 0 then t1 - t0 else 0):=aiS rfl
  rw [hc] at CK
  clear hc
  generalize jh t0 t1 au = pe at *
  generalize tV t0 t1 au = pn at *
  generalize tX t0 t1 au = pd at *
  by_cases h1 : au < t0 \/ t1 < au
  ·have e1 : pe = 3:=by rw [PE.out,if_pos h1]
   have e2 : pn = 0:=by rw [PN.out,e1];rfl
   have e3 : pd = 0:=by rw [PD.out,e1];rfl
   subst e2;subst e3;subst e1
   have h2 : decide (au < t0) = false -> decide (t1 < au) = true:=λh=>by simp at h;simp;omega
   clear PE PN PD b1 b2 b3 b4
   rcases h1 with h1 | h1
   ·go_enter Tryz.func96,Tryz.ntmps96
    go_wp2_with fail
    refine CK.mono ?_;rintro e w1 ⟨rfl,hb1⟩
    have HB1 : Hid (Below w.heap.size w w1):=aiS (HB.out.trans (hb1.mono HB.out.size))
    have qa:=(XA.out.below hb1 XA.out.lt).cell 1;have qb:=(XB.out.below hb1 XB.out.lt).cell 1;simp at qa qb;clear hb1 HB XA XB
    go_wp2
    exact bodyPost_ret (v:=.tuple #[.int .i64 0,.int .i64 0,.int .i64 3]) (by simp [results,Tryz.results96,go_sem]) rfl ⟨rfl,HB1.out⟩
   ·by_cases h3 : au < t0
    ·go_enter Tryz.func96,Tryz.ntmps96
     go_wp2_with fail
     refine CK.mono ?_;rintro e w1 ⟨rfl,hb1⟩
     have HB1 : Hid (Below w.heap.size w w1):=aiS (HB.out.trans (hb1.mono HB.out.size))
     have qa:=(XA.out.below hb1 XA.out.lt).cell 1;have qb:=(XB.out.below hb1 XB.out.lt).cell 1;simp at qa qb;clear hb1 HB XA XB
     go_wp2
     exact bodyPost_ret (v:=.tuple #[.int .i64 0,.int .i64 0,.int .i64 3]) (by simp [results,Tryz.results96,go_sem]) rfl ⟨rfl,HB1.out⟩
    ·go_enter Tryz.func96,Tryz.ntmps96
     go_wp2_with fail
     refine CK.mono ?_;rintro e w1 ⟨rfl,hb1⟩
     have HB1 : Hid (Below w.heap.size w w1):=aiS (HB.out.trans (hb1.mono HB.out.size))
     have qa:=(XA.out.below hb1 XA.out.lt).cell 1;have qb:=(XB.out.below hb1 XB.out.lt).cell 1;simp at qa qb;clear hb1 HB XA XB
     go_wp2
     exact bodyPost_ret (v:=.tuple #[.int .i64 0,.int .i64 0,.int .i64 3]) (by simp [results,Tryz.results96,go_sem]) rfl ⟨rfl,HB1.out⟩
  ·have e1 : pe = 0:=by rw [PE.out,if_neg h1]
   have e2 : pn = au - t0:=by rw [PN.out,e1];rfl
   have e3 : pd = t1 - t0:=by rw [PD.out,e1];rfl
   subst e2;subst e3;subst e1
   have h2 : decide (au < t0) = false:=decide_eq_false (by omega)
   have h3 : decide (t1 < au) = false:=decide_eq_false (by omega)
   have h4 : t0 <= au:=by omega
   have h5 : au <= t1:=by omega
   clear PE PN PD h1
   go_enter Tryz.func96,Tryz.ntmps96
   go_wp2_with fail
   refine CK.mono ?_;rintro e w1 ⟨rfl,hb1⟩
   have HB1 : Hid (Below w.heap.size w w1):=aiS (HB.out.trans (hb1.mono HB.out.size))
   have qa:=(XA.out.below hb1 XA.out.lt).cell 1;have qb:=(XB.out.below hb1 XB.out.lt).cell 1;simp at qa qb;clear hb1 HB XA XB
   go_wp2_with fail
   go_quiet (fail)
   go_wp2
   exact bodyPost_ret (v:=.tuple #[.int .i64 (au - t0),.int .i64 (t1 - t0),.int .i64 0]) (by simp [results,Tryz.results96,go_sem]) rfl ⟨rfl,below_drewN HB1.out nq⟩
 ·have PE : Hid (jh t0 t1 au = eD (two t0 t1) 2):=aiS (by unfold jh;rw [if_neg hc])
  have PN : Hid (tV t0 t1 au = 0):=aiS (by unfold tV;rw [PE.out,if_neg hc])
  have PD : Hid (tX t0 t1 au = 0):=aiS (by unfold tX;rw [PE.out,if_neg hc])
  rw [PE.out,PN.out,PD.out]
  clear PE PN PD
  generalize eD (two t0 t1) 2 = c at *
  have hc2 : (c != 0) = true:=by simpa using hc
  go_enter Tryz.func96,Tryz.ntmps96
  go_wp2_with fail
  refine CK.mono ?_;rintro e w1 ⟨rfl,hb1⟩
  have HB1 : Hid (Below w.heap.size w w1):=aiS (HB.out.trans (hb1.mono HB.out.size))
  have qa:=(XA.out.below hb1 XA.out.lt).cell 1;have qb:=(XB.out.below hb1 XB.out.lt).cell 1;simp at qa qb;clear hb1 HB XA XB
  go_wp2
  exact bodyPost_ret (v:=.tuple #[.int .i64 0,.int .i64 0,.int .i64 c]) (by simp [results,Tryz.results96,go_sem]) rfl ⟨rfl,HB1.out⟩
set_option maxRecDepth 100000 in
set_option maxHeartbeats 2000000 in
theorem IL (k0 t0 au : Int) (ea : Option Addr) (el ec : Nat) (ht : ay t0) (ha : ay au) (w : World) :
 Calls Tryz.prog 93 #[.agg #[.int .i64 k0,.int .i64 t0,.slice ea el ec],.int .i64 au] w λe w'=>e = .returned (.tuple #[.int .i64 (zH t0 au),.int .i64 (kV t0 au)]) /\ Below w.heap.size w w':=by
 have CK:=Jq (some ⟨w.heap.size + 1,0,none⟩) 1 1 (λ_=>k0) (λ_=>t0) (λ_=>(ea,el,ec)) ((w.alloc (.cells #[.int .i64 k0,.int .i64 t0,.slice ea el ec] 36)).alloc (.cells #[.int .i64 k0,.int .i64 t0,.slice ea el ec] 36)) (by have e:=Qg (w.alloc (.cells #[.int .i64 k0,.int .i64 t0,.slice ea el ec] 36)) k0 t0 ea el ec;simpa using e) (by decide)
 have XA : Hid (ak ((w.alloc (.cells #[.int .i64 k0,.int .i64 t0,.slice ea el ec] 36)).alloc (.cells #[.int .i64 k0,.int .i64 t0,.slice ea el ec] 36)) w.heap.size #[.int .i64 k0,.int .i64 t0,.slice ea el ec] 36):=aiS ((ak.new w _ _).alloc _)
 have HB : Hid (Below w.heap.size w ((w.alloc (.cells #[.int .i64 k0,.int .i64 t0,.slice ea el ec] 36)).alloc (.cells #[.int .i64 k0,.int .i64 t0,.slice ea el ec] 36))):=aiS (by (repeat (first | exact Below.refl _ _ | assumption | (refine Below.drew ?_) | (refine below_drewN ?_ _) | (refine Below.alloc ?_ (by simp <;> omega) _) | (refine Below.setCell ?_ (by simp <;> omega) _))))
 have sb:=tQ au t0 ha ht
 by_cases hc : eD (λ_=>t0) 1 = 0
 ·have PE : Hid (kV t0 au = if au < t0 then 3 else 0):=aiS (by unfold kV;rw [if_pos hc])
  have PN : Hid (zH t0 au = if kV t0 au = 0 then aK au t0 else 0):=aiS rfl
  rw [hc] at CK
  clear hc
  generalize kV t0 au = pe at *
  generalize zH t0 au = pn at *
  generalize aK au t0 = sx at *
  by_cases h1 : au < t0
  ·have e1 : pe = 3:=by rw [PE.out,if_pos h1]
   have e2 : pn = 0:=by rw [PN.out,e1];rfl
   subst e2;subst e1
   clear PE PN ht ha
   go_enter Tryz.func93,Tryz.ntmps93
   go_wp2_with fail
   refine CK.mono ?_;rintro e w1 ⟨rfl,hb1⟩
   have HB1 : Hid (Below w.heap.size w w1):=aiS (HB.out.trans (hb1.mono HB.out.size))
   have qa:=(XA.out.below hb1 XA.out.lt).cell 1;simp at qa;clear hb1 HB XA
   go_wp2
   exact bodyPost_ret (v:=.tuple #[.int .i64 0,.int .i64 3]) (by simp [results,Tryz.results93,go_sem]) rfl ⟨rfl,HB1.out⟩
  ·have e1 : pe = 0:=by rw [PE.out,if_neg h1]
   have e2 : pn = sx:=by rw [PN.out,e1];rfl
   subst e2;subst e1
   have h2 : decide (au < t0) = false:=decide_eq_false h1
   clear PE PN ht ha h1
   go_enter Tryz.func93,Tryz.ntmps93
   go_wp2_with fail
   refine CK.mono ?_;rintro e w1 ⟨rfl,hb1⟩
   have HB1 : Hid (Below w.heap.size w w1):=aiS (HB.out.trans (hb1.mono HB.out.size))
   have qa:=(XA.out.below hb1 XA.out.lt).cell 1;simp at qa;clear hb1 HB XA
   go_wp2_with fail
   refine (sb _).mono ?_;rintro e w' ⟨rfl,rfl⟩
   go_wp2
   exact bodyPost_ret (v:=.tuple #[.int .i64 pn,.int .i64 0]) (by simp [results,Tryz.results93,go_sem]) rfl ⟨rfl,HB1.out⟩
 ·have PE : Hid (kV t0 au = eD (λ_=>t0) 1):=aiS (by unfold kV;rw [if_neg hc])
  have PN : Hid (zH t0 au = 0):=aiS (by unfold zH;rw [PE.out,if_neg hc])
  rw [PE.out,PN.out]
  clear PE PN
  generalize eD (λ_=>t0) 1 = c at *
  have hc2 : (c != 0) = true:=by simpa using hc
  clear ht ha
  go_enter Tryz.func93,Tryz.ntmps93
  go_wp2_with fail
  refine CK.mono ?_;rintro e w1 ⟨rfl,hb1⟩
  have HB1 : Hid (Below w.heap.size w w1):=aiS (HB.out.trans (hb1.mono HB.out.size))
  have qa:=(XA.out.below hb1 XA.out.lt).cell 1;simp at qa;clear hb1 HB XA
  go_wp2
  exact bodyPost_ret (v:=.tuple #[.int .i64 0,.int .i64 c]) (by simp [results,Tryz.results93,go_sem]) rfl ⟨rfl,HB1.out⟩
set_option maxRecDepth 100000 in
set_option maxHeartbeats 1000000 in
theorem T9 (au : Int) (s : Option Addr) (len cap : Nat) (K T : Nat -> Int) (E : Nat -> Option Addr × Nat × Nat) (w : World) (h : iC w s len K T E) (hlen : (len : Int) <= 4611686018427387904) (hc : eD T len ≠ 0) :
 Calls Tryz.prog 46 #[.int .i64 au,.slice s len cap] w λe w'=>e = .returned (.tuple #[.int .i64 (pI T au len),.int .i64 (iT T au len),.int .i64 (iL T au len)]) /\ Below w.heap.size w w':=by
 have CK:=λw' hb=>DR s len cap K T E w' (h.below hb) hlen
 rw [show pI T au len = 0 by unfold pI;rw [if_neg hc],show iT T au len = 0 by unfold iT;rw [if_neg hc],show iL T au len = eD T len by unfold iL;rw [if_neg hc]]
 generalize eD T len = c at *
 have hc2 : (c != 0) = true:=by simpa using hc
 have BX : ∀ w1,Below (w.heap.size + 1 + 1 + 1 + 1) ((((w.alloc (.cells #[.int .i64 au] 2)).alloc (.cells #[.int .i64 0] 3)).alloc (.cells #[.int .i64 0] 3)).alloc (.cells #[.int .i64 0] 25)) w1 -> ak w1 (w.heap.size + 1) #[.int .i64 0] 3 /\ ak w1 (w.heap.size + 1 + 1) #[.int .i64 0] 3 /\ ak w1 (w.heap.size + 1 + 1 + 1) #[.int .i64 0] 25 /\ Below w.heap.size w w1:=λw1 hb1=>by
  refine ⟨?_,?_,?_,Below.trans (by (repeat (first | exact Below.refl _ _ | assumption | (refine Below.drew ?_) | (refine below_drewN ?_ _) | (refine Below.alloc ?_ (by simp <;> omega) _) | (refine Below.setCell ?_ (by simp <;> omega) _)))) (hb1.mono (by omega))⟩
  ·have e:=((ak.new (w.alloc (.cells #[.int .i64 au] 2)) #[.int .i64 0] 3).alloc (.cells #[.int .i64 0] 3)).alloc (.cells #[.int .i64 0] 25)
   simp at e
   exact e.below hb1 (by omega)
  ·have e:=(ak.new ((w.alloc (.cells #[.int .i64 au] 2)).alloc (.cells #[.int .i64 0] 3)) #[.int .i64 0] 3).alloc (.cells #[.int .i64 0] 25)
   simp at e
   exact e.below hb1 (by omega)
  ·have e:=ak.new (((w.alloc (.cells #[.int .i64 au] 2)).alloc (.cells #[.int .i64 0] 3)).alloc (.cells #[.int .i64 0] 3)) #[.int .i64 0] 25
   simp at e
   exact e.below hb1 (by omega)
 have BX:=aiS BX
 go_enter Tryz.func46,Tryz.ntmps46
 go_wp2_with fail
 refine (CK _ (by (repeat (first | exact Below.refl _ _ | assumption | (refine Below.drew ?_) | (refine below_drewN ?_ _) | (refine Below.alloc ?_ (by simp <;> omega) _) | (refine Below.setCell ?_ (by simp <;> omega) _))))).mono ?_;rintro e w1 ⟨rfl,hb1⟩
 obtain ⟨B4,B5,B6,hB⟩:=BX.out w1 (by simpa using hb1)
 clear hb1 CK BX
 have q4:=B4.cell 0;have q5:=B5.cell 0;have q6:=B6.cell 0
 have f4:=B4.free 0;have f5:=B5.free 0;have f6:=B6.free 0
 simp at q4 q5 q6
 go_wp2
 exact bodyPost_ret (v:=.tuple #[.int .i64 0,.int .i64 0,.int .i64 c]) (by simp [results,Tryz.results46,go_sem, *]) rfl ⟨rfl,by (repeat (first | exact Below.refl _ _ | assumption | (refine Below.drew ?_) | (refine below_drewN ?_ _) | (refine Below.alloc ?_ (by simp <;> omega) _) | (refine Below.setCell ?_ (by simp <;> omega) _)))⟩
theorem Jr (au : Int) (s : Option Addr) (len cap : Nat) (K T : Nat -> Int) (E : Nat -> Option Addr × Nat × Nat) (w : World) (h : iC w s len K T E) (hlen : (len : Int) <= 4611686018427387904) :
 Calls Tryz.prog 46 #[.int .i64 au,.slice s len cap] w λe w'=>e = .returned (.tuple #[.int .i64 (pI T au len),.int .i64 (iT T au len),.int .i64 (iL T au len)]) /\ Below w.heap.size w w':=by
 by_cases hc : eD T len = 0
 ·exact Xv au s len cap K T E w h hlen hc
 ·exact T9 au s len cap K T E w h hlen hc
end Go.Proofs.YtklkooeimkedgaaGreat
