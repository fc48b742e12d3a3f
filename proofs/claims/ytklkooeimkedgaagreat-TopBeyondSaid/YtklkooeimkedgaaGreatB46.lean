/- Walk of TopBeyond. -/
import Derived.Test.YtklkooeimkedgaaGreatB8
import Derived.Test.YtklkooeimkedgaaGreatB45
set_option linter.unusedVariables false
set_option linter.unusedSimpArgs false
namespace Go.Proofs.YtklkooeimkedgaaGreat
open Go.RowKit
set_option maxRecDepth 8000
theorem U2 (y x : Int) (w : World) :
 Calls Tryz.prog 124 #[.int .i64 y,.int .i64 x] w λe w'=>e = .returned (.bool (!xW y x)) /\ w = w':=by
 have HE : Hid (decide (y > x) = !xW y x):=aiS (by unfold xW;simp [← decide_not])
 go_enter Tryz.func124,Tryz.ntmps124
 go_wp2
 go_ret
 exact ⟨by rw [← HE.out];rfl,rfl⟩
theorem U3 (y x : Int) (w : World) :
 Calls Tryz.prog 125 #[.int .i64 y,.int .i64 x] w λe w'=>e = .returned (.bool (!Ce y x)) /\ w = w':=by
 have HE : Hid (decide (y < x) = !Ce y x):=aiS (by unfold Ce;simp [← decide_not])
 go_enter Tryz.func125,Tryz.ntmps125
 go_wp2
 go_ret
 exact ⟨by rw [← HE.out];rfl,rfl⟩
theorem Ia {w : World} {b off cap : Nat} {m : Int} {M : List Int} (h : eO w (.slice (some ⟨b,off,none⟩) (m :: M).length cap) (m :: M) (some b)) (hc : M.length + 1 <= cap) :
 eO w (.slice (some (if cap = 1 then ⟨b,off,none⟩ else ⟨b,off + 1,none⟩)) M.length (cap - 1)) M (if cap = 1 then none else some b):=by
 rcases h with ⟨h,_⟩ | ⟨b',off',cap',cur,h1,h2,h3,h4,h5,h6,h7,h8⟩
 ·cases h
 ·cases h1
  have e : off' = off /\ cap' = cap:=by simp at h2;omega
  obtain ⟨rfl,rfl⟩:=e
  by_cases hh : cap' = 1
  ·simp only [hh,if_true]
   have : M = []:=List.length_eq_zero_iff.1 (by omega)
   subst this
   exact .inl ⟨rfl,rfl,_,rfl⟩
  ·simp only [if_neg hh]
   refine .inr ⟨b,off' + 1,cap' - 1,cur,rfl,rfl,by omega,by omega,by omega,h6,by omega,λi u hu=>?_⟩
   have:=h8 (i + 1) u (by simpa using hu)
   rw [← this]
   congr 1
   omega
theorem RY (m : Int) (M : List Int) (x : Int) (v : Value) (g : Option Nat) (w : World) (h : eO w v (m :: M) g) :
 ∃ v' g',Calls Tryz.prog 122 #[v,.int .i64 x] w (λe w'=>e = .returned v' /\ w = w') /\ eO w v' (if m = x then M else m :: M) g' /\ ∀ b,g' = some b -> g = some b:=by
 rcases h with ⟨_,h,_⟩ | h'
 ·cases h
 obtain ⟨b,off,cap,cur,rfl,rfl,h3,h4,h5,h6,h7,h8⟩:=id h'
 have c0 : w.cell? ⟨b,off,none⟩ = some (.int .i64 m):=by
  have:=h8 0 m rfl
  simp [World.cell?,h6] at this ⊢
  exact this
 have H : eO w (.slice (some ⟨b,off,none⟩) (m :: M).length cap) (m :: M) (some b):=.inr h'
 simp only [List.length_cons] at h3
 have HT:=aiS (Ia H (by omega))
 have HH:=aiS H;clear h' H h8 h6
 have hz : 0 < M.length + 1:=by omega
 simp only [List.length_cons] at *
 generalize hL : M.length = len at *
 by_cases hx : m = x
 ·subst hx
  by_cases hc : cap = 1
  ·have ht:=HT.out
   rw [if_pos hc,if_pos hc] at ht
   have HT2:=aiS ht;clear ht HT
   subst hc
   obtain rfl : len = 0:=by omega
   refine ⟨_,none,?_,by rw [if_pos rfl];exact HT2.out,λk e=>by cases e⟩
   go_enter Tryz.func122,Tryz.ntmps122
   go_wp2
   go_ret
   exact ⟨rfl,rfl⟩
  ·have ht:=HT.out
   rw [if_neg hc,if_neg hc] at ht
   have HT2:=aiS ht;clear ht HT
   refine ⟨_,some b,?_,by rw [if_pos rfl];exact HT2.out,λk e=>e⟩
   go_enter Tryz.func122,Tryz.ntmps122
   go_wp2
   go_ret
   exact ⟨rfl,rfl⟩
 ·refine ⟨_,some b,?_,by rw [if_neg hx];exact HH.out,λk e=>e⟩
  go_enter Tryz.func122,Tryz.ntmps122
  go_wp2
  go_ret
  exact ⟨rfl,rfl⟩
def IW : Value -> Nat
 | .slice _ n _=>n
 | _=>0
theorem Cg {w : World} {v : Value} {g : Option Nat} (h : eO w v [] g) : ∃ a cap,v = .slice a 0 cap:=by
 rcases h with ⟨_,_,ao,h⟩ | ⟨b,off,cap,cur,h1,h2,_⟩
 ·exact ⟨ao,0,h⟩
 ·exact ⟨_,_,h2⟩
theorem U4 {w : World} {v : Value} {M : List Int} {k : Nat} {g : Option Nat} (hk : k < M.length) (h : eO w v (M.take (k + 1)) g) :
 ∃ b off cap,g = some b /\ v = .slice (some ⟨b,off,none⟩) (k + 1) cap /\ k + 1 <= cap /\ cap <= maxLen /\ w.cell? ⟨b,off + k,none⟩ = some (.int .i64 (M.getD k 0)) /\ eO w (.slice (some ⟨b,off,none⟩) k cap) (M.take k) g:=by
 have hl : (M.take (k + 1)).length = k + 1:=by rw [List.length_take];omega
 have hl2 : (M.take k).length = k:=by rw [List.length_take];omega
 rcases h with ⟨_,h,_⟩ | ⟨b,off,cap,cur,rfl,rfl,h3,h4,h5,h6,h7,h8⟩
 ·rw [h] at hl;simp at hl
 ·rw [hl] at h3 ⊢
  refine ⟨b,off,cap,rfl,rfl,h3,h5,?_,.inr ⟨b,off,cap,cur,rfl,by rw [hl2],by omega,h4,h5,h6,h7,λi u hu=>?_⟩⟩
  ·have:=h8 k (M.getD k 0) (by rw [List.getElem?_take,if_pos (by omega),List.getD_eq_getElem?_getD,List.getElem?_eq_getElem hk];rfl)
   simp [World.cell?,h6,this]
  ·have hi:=(List.getElem?_eq_some_iff.1 hu).1
   rw [hl2] at hi
   exact h8 i u (by rw [List.getElem?_take,if_pos (by omega)] at hu ⊢;exact hu)
set_option maxHeartbeats 1000000 in
theorem RZ (r : Int -> Int -> Bool) (F : Nat) (hE : ∀ args w,Sem.run Tryz.prog (callFunc F args) w = .ok (.enter F args) w) (hF : ∀ y x w,Calls Tryz.prog F #[.int .i64 y,.int .i64 x] w λe w'=>e = .returned (.bool (!r y x)) /\ w = w') (o : Ord r) (M : List Int) (hp : M.Pairwise (λa b=>r a b = true)) (x : Int) (v : Value) (g : Option Nat) (w : World) (h : eO w v M g) (hb : M.length <= 1000000) :
 Calls Tryz.prog 123 #[v,.int .i64 x,.func (.func F) #[] #[]] w λe w'=>∃ v',e = .returned v' /\ ∃ g',eO w' v' (M.filter (λy=>r y x) ++ [x]) g' /\ Only (λk=>g = some k) w w' /\ ∀ b,g' = some b -> g = some b \/ w.heap.size <= b:=by
 have HF:=aiS (λk hk h1 h2=>LB o hp x (k:=k) hk h1 h2)
 clear hp o
 go_enter Tryz.func123,Tryz.ntmps123
 go_wp2_with fail
 go_loopw [0] (λrow wr=>∃ k : Nat,k <= M.length /\ IW row = k /\ eO w row (M.take k) g /\ (∀ i,k <= i -> i < M.length -> r (M.getD i 0) x = false) /\ w = wr) (λrow _=>IW row)
 case atStart =>
  refine ⟨M.length,Nat.le_refl _,?_,by rw [List.take_length];exact h,λi h1 h2=>by omega,rfl⟩
  rcases h with ⟨_,rfl,ao,rfl⟩ | ⟨b,off,cap,cur,h1,rfl,_⟩ <;> rfl
 case round =>
  obtain ⟨k,hk,hs,hrow,hun,hw⟩:=hrel
  subst hw
  have app : ∀ (k : Nat),k <= M.length -> (k = 0 \/ r (M.getD (k - 1) 0) x = true) -> (∀ i,k <= i -> i < M.length -> r (M.getD i 0) x = false) -> M.take k = M.filter (λy=>r y x):=λk a b c=>(HF.out k a b c).symm
  cases k with
  | zero =>
    obtain ⟨a,cap,rfl⟩:=Cg (by simpa using hrow)
    have HA:=aiS (app 0 (by omega) (.inl rfl) hun)
    have HR:=aiS hrow;clear hrow app hun HF h
    go_wp2_with (at_builtin;refine jV rfl (.tmp 26) (.tmp 28) rfl _ (M.take 0) g rfl (HR.out.only ((Only.refl (λ_=>False) _).alloc _) (λ_ _ hf=>hf)) x ⟨w.heap.size,0,none⟩ rfl ?c1 ?c2 ?_)
    case c1=>simp
    case c2=>simp
    intro v' w1 g' h1 h2 h3
    have H1 : Hid (eO w1 v' (M.filter (λy=>r y x) ++ [x]) g'):=aiS (by rw [← HA.out];exact h1)
    have H2:=aiS (((Only.refl (λk=>g = some k) _).alloc _).trans h2)
    have H3:=aiS h3;clear h1 h2 h3
    go_wp2
    go_ret
    exact ⟨_,rfl,g',H1.out,H2.out,λb e=>(H3.out b e).imp id (Nat.le_trans (by simp))⟩
  | succ k =>
    obtain ⟨b,off,cap,rfl,rfl,c1,c2,c3,c5⟩:=U4 (by omega) hrow
    have f1:=hF (M.getD k 0) x w
    cases hr : r (M.getD k 0) x with
    | false =>
      rw [hr] at f1
      have R8 : Hid (∀ i,k <= i -> i < M.length -> r (M.getD i 0) x = false):=aiS λi h1 h2=>by
       rcases Nat.eq_or_lt_of_le h1 with rfl | h1
       ·exact hr
       ·exact hun i h1 h2
      have C5:=aiS c5;clear hun app hr hrow hF HF h c5
      generalize M.getD k 0 = y at *
      go_wp2_with fail
      refine f1.mono ?_;rintro e w1 ⟨rfl,rfl⟩
      go_wp2
      go_roundw
      case rel=>exact ⟨k,by omega,by simp [IW],C5.out,R8.out,by first | rfl | trivial⟩
      case measure=>simp [IW]
    | true =>
      rw [hr] at f1
      have HA:=aiS (app (k + 1) (by omega) (.inr (by simpa using hr)) hun)
      have HR:=aiS hrow;clear hun app hr hrow hF HF h c5
      generalize M.getD k 0 = y at *
      go_wp2_with fail
      refine f1.mono ?_;rintro e w1 ⟨rfl,rfl⟩
      go_wp2_with (at_builtin;refine jV rfl (.tmp 26) (.tmp 28) rfl _ (M.take (k + 1)) (some b) rfl (HR.out.only ((Only.refl (λ_=>False) _).alloc _) (λ_ _ hf=>hf)) x ⟨w.heap.size,0,none⟩ rfl ?c1 ?c2 ?_)
      case c1=>simp
      case c2=>have:=List.length_take_le (k + 1) M;omega
      intro v' w1 g' h1 h2 h3
      have H1 : Hid (eO w1 v' (M.filter (λy=>r y x) ++ [x]) g'):=aiS (by rw [← HA.out];exact h1)
      have H2:=aiS (((Only.refl (λk=>some b = some k) w).alloc (.cells #[.int .i64 x] 2)).trans (by simpa using h2))
      have H3:=aiS h3;clear h1 h2 h3
      go_wp2
      go_ret
      exact ⟨_,rfl,g',H1.out,H2.out,λb e=>(H3.out b e).imp (λhh=>by simpa using hh) (λhh=>Nat.le_trans (Nat.le_succ _) hh)⟩
theorem Ec (M : List Int) (hp : M.Pairwise (λa b=>xW a b = true)) (x : Int) (v : Value) (g : Option Nat) (w : World) (h : eO w v M g) (hb : M.length <= 1000000) :
 Calls Tryz.prog 123 #[v,.int .i64 x,.func (.func 124) #[] #[]] w λe w'=>∃ v',e = .returned v' /\ ∃ g',eO w' v' (M.filter (λy=>xW y x) ++ [x]) g' /\ Only (λk=>g = some k) w w' /\ ∀ b,g' = some b -> g = some b \/ w.heap.size <= b :=
 RZ xW _ (λargs w=>by rfl) U2 zS M hp x v g w h hb
theorem Ed (M : List Int) (hp : M.Pairwise (λa b=>Ce a b = true)) (x : Int) (v : Value) (g : Option Nat) (w : World) (h : eO w v M g) (hb : M.length <= 1000000) :
 Calls Tryz.prog 123 #[v,.int .i64 x,.func (.func 125) #[] #[]] w λe w'=>∃ v',e = .returned v' /\ ∃ g',eO w' v' (M.filter (λy=>Ce y x) ++ [x]) g' /\ Only (λk=>g = some k) w w' /\ ∀ b,g' = some b -> g = some b \/ w.heap.size <= b :=
 RZ Ce _ (λargs w=>by rfl) U3 Fu M hp x v g w h hb
end Go.Proofs.YtklkooeimkedgaaGreat
