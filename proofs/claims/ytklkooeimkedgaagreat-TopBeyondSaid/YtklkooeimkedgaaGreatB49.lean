/- Walk of TopBeyond. -/
import Derived.Defers
import Derived.Test.YtklkooeimkedgaaGreatB48
set_option linter.unusedVariables false
set_option linter.unusedSimpArgs false
namespace Go.Proofs.YtklkooeimkedgaaGreat
open Go.RowKit
def nG (now s : Int) : Int:=max 0 now + (max 0 s - max 0 now) / 16
theorem U5 {now s : Int} (h : 0 <= now /\ now <= 9223372036854775807) (hs : s <= 9223372036854775807) : 0 <= nG now s /\ nG now s <= 9223372036854775807:=by
 unfold nG;omega
theorem X5 (now s : Int) (hn : ay now) (hs : ay s) (w : World) :
 Calls Tryz.prog 128 #[.int .i64 now,.int .i64 s] w λe w'=>e = .returned (.int .i64 (nG now s)) /\ w = w':=by
 obtain ⟨n1,n2⟩:=hn
 obtain ⟨s1,s2⟩:=hs
 have HJ : Hid (nG now s = max 0 now + (max 0 s - max 0 now) / 16):=aiS rfl
 generalize nG now s = r at *
 obtain ⟨a,ha⟩ : ∃ a,max 0 now = a:=⟨_,rfl⟩
 obtain ⟨b,hb⟩ : ∃ b,max 0 s = b:=⟨_,rfl⟩
 have a0 : 0 <= a /\ a <= 9223372036854775807:=by omega
 have b0 : 0 <= b /\ b <= 9223372036854775807:=by omega
 rw [ha,hb] at HJ
 go_enter Tryz.func128,Tryz.ntmps128
 go_wp2
 go_ret
 exact ⟨by rw [HJ.out];rfl,rfl⟩
theorem Si (W : World) (k : Nat) (hk : W.heap.size = k) (v : Value) (t : TypeId) : (W.alloc (.cells #[v] t)).drew.cell? ⟨k,0,none⟩ = some v:=by
 subst hk
 show (W.alloc (.cells #[v] t)).cell? ⟨W.heap.size,0,none⟩ = some v
 simp
abbrev xX (w : World) (b : Nat) (now cnt : Int) : Prop:=ak w b #[.int .i64 now,.int .i64 cnt] 192
theorem aae (w : World) :
 Calls Tryz.prog 68 #[] w λe w'=>e = .returned (.pointer (some ⟨w.heap.size,0,none⟩)) /\ w' = w.alloc (.cells #[.int .i64 0,.int .i64 0] 192):=by
 go_enter Tryz.func68,Tryz.ntmps68
 go_wp2
 go_ret
 exact ⟨rfl,rfl⟩
theorem aaf (b : Nat) (now cnt : Int) (w : World) (h : xX w b now cnt) :
 Calls Tryz.prog 85 #[.pointer (some ⟨b,0,none⟩)] w λe w'=>e = .returned (.int .i64 now) /\ w = w':=by
 have q0:=h.cell 0;simp at q0;clear h
 go_enter Tryz.func85,Tryz.ntmps85
 go_wp2
 go_ret
 exact ⟨rfl,rfl⟩
theorem U6 (a b : Nat) (now cnt : Int) (u : FrameMode) (w : World) (ha : w.cell? ⟨a,0,none⟩ = some (.pointer (some ⟨b,0,none⟩))) (h : xX w b now cnt) (h0 : 0 <= cnt) (h1 : cnt <= 4611686018427387904) :
 CallsD Tryz.prog 127 #[.pointer (some ⟨a,0,none⟩)] u w λe u' w'=>u' = u /\ (e = .returned (.tuple #[]) /\ w' = w.setCell ⟨b,1,none⟩ (.int .i64 (cnt + 1))):=by
 have q1:=h.cell 1;have f1:=h.free 1;simp at q1;clear h
 have hw : IntKind.i64.wrap (cnt + 1) = cnt + 1:=by rw [IntKind.wrap_i64];omega
 have hw2 : wrap64 (cnt + 1) = cnt + 1:=by unfold wrap64;omega
 go_enter_d Tryz.func127,Tryz.ntmps127
 go_wp2
 go_end0
 exact ⟨rfl,rfl⟩
set_option maxRecDepth 8000 in
set_option maxHeartbeats 1000000 in
theorem aag (b : Nat) (now cnt s : Int) (w : World) (h : xX w b now cnt) (hn : ay now) (hs : ay s) (h0 : 0 <= cnt) (h1 : cnt <= 4611686018427387904) :
 Calls Tryz.prog 83 #[.pointer (some ⟨b,0,none⟩),.int .i64 s] w λe w'=>e = .returned (.int .i64 0) /\ xX w' b (nG now s) (cnt + 1) /\ Only (· = b) w w':=by
 have st:=X5 now s hn hs
 have q0:=h.cell 0;have q1:=h.cell 1
 have f0:=h.free 0;have f1:=h.free 1
 simp at q0 q1;have lb:=h.lt;have H:=aiS h;have H0:=aiS h0;have H1:=aiS h1
 have hne : w.heap.size ≠ b:=by omega
 have hne2 : b ≠ w.heap.size:=by omega
 clear h hn hs h0 h1
 generalize nG now s = j at *
 have hmf : ∀ (fn : Fn) (first cap : Array Value) (w : World),(Instr.makeFunc fn first cap).run Tryz.prog w = .ok (.func fn first cap) w:=λ_ _ _ _=>rfl
 go_enter_defers Tryz.func83,Tryz.ntmps83
 go_wp2_with fail
 (refine kF 9 (by kernel_rfl) (by kernel_rfl) ?_;simp only [List.take_succ_cons,List.take_zero,List.drop_succ_cons,List.drop_zero];(repeat still_step);(try refine wpStill_nil ?_))
 (still_call (qO (st _));(repeat still_step);(try refine wpStill_nil ?_))
 go_wp2
 have HJ : xX ((w.setCell ⟨b,0,none⟩ (.int .i64 j)).alloc (.cells #[.pointer (some ⟨b,0,none⟩)] 134)).drew b j cnt:=by
  have:=((H.out.set 0 (.int .i64 j)).alloc (.cells #[.pointer (some ⟨b,0,none⟩)] 134)).draws 1
  exact this
 refine leaves_cons (f:=127) (args:=#[.pointer (some ⟨w.heap.size,0,none⟩)]) (by simp) (by simp [go_sem]) ?_
 refine (U6 w.heap.size b j cnt .returning _ (Si _ _ (by simp) _ _) HJ H0.out H1.out).mono ?_
 rintro e u' w'' ⟨rfl,rfl,rfl⟩
 refine ⟨_,results_tmp rfl _ _ _,rfl,?_,?_⟩
 ·exact HJ.set 1 (.int .i64 (cnt + 1))
 ·exact ((((Only.refl (· = b) w).setCell (.inl rfl) _).alloc _).draws 1).setCell (.inl rfl) _
theorem Ya (most : Int) (h1 : 1 <= most) (h2 : most <= 64) (w : World) :
 Calls Tryz.prog 65 #[.int .i64 most] w λe w'=>e = .returned (.tuple #[.pointer (some ⟨w.heap.size,0,none⟩),.int .i64 0]) /\ w' = w.alloc (.cells #[.int .i64 most,.slice none 0 0,.slice none 0 0,.slice none 0 0] 185):=by
 go_enter Tryz.func65,Tryz.ntmps65
 go_wp2
 all_goals first
  | (go_ret2;exact ⟨rfl,rfl⟩)
  | (exfalso;omega)
theorem Yb (most : Int) (w : World) : mg (w.alloc (.cells #[.int .i64 most,.slice none 0 0,.slice none 0 0,.slice none 0 0] 185)) w.heap.size most [] (λk=>k = w.heap.size) :=
 ⟨_,_,_,none,none,none,ak.new _ _ _,eO.nil _,eO.nil _,eO.nil _,rfl,λk e=>(by cases e),λk e=>(by cases e),λk e=>(by cases e),λk e=>(by cases e),λk e=>(by cases e),λk e=>(by cases e)⟩
def dR (L : List Int) : Int:=(gJ xW L).headD 0
theorem LC {L : List Int} (h : L ≠ []) : dR L ∈ L /\ ∀ x ∈ L,dR L <= x:=by
 obtain ⟨m,M,h1,h2,h3⟩:=ug zS L h
 unfold dR
 rw [h1]
 refine ⟨h2,λx hx=>?_⟩
 have:=h3 x hx
 simpa [xW] using this
theorem Yc (v : Value) (L : List Int) (g : Option Nat) (w : World) (h : eO w v (gJ xW L) g) :
 Calls Tryz.prog 126 #[v] w λe w'=>e = .returned (.tuple #[.int .i64 (dR L),.bool (decide (L ≠ []))]) /\ w = w':=by
 by_cases hL : L = []
 ·subst hL
  obtain ⟨a,cap,rfl⟩:=Cg h
  go_enter Tryz.func126,Tryz.ntmps126
  go_wp2
  go_ret2
  exact ⟨rfl,rfl⟩
 ·obtain ⟨m,M,h1,h2,h3⟩:=ug zS L hL
  have HE : Hid ((Ending.returned (.tuple #[.int .i64 m,.bool true])) = .returned (.tuple #[.int .i64 (dR L),.bool (decide (L ≠ []))])):=aiS (by unfold dR;rw [h1];simp [hL])
  rw [h1] at h
  rcases h with ⟨_,h,_⟩ | ⟨b,off,cap,cur,rfl,rfl,t1,t2,t3,t4,t5,t6⟩
  ·cases h
  have c0 : w.cell? ⟨b,off,none⟩ = some (.int .i64 m):=by
   have:=t6 0 m rfl
   simp [World.cell?,t4] at this ⊢
   exact this
  rw [← HE.out]
  have hz : 0 < M.length + 1:=by omega
  simp only [List.length_cons] at *
  generalize M.length = len at *
  clear h1 h2 h3 t4 t5 t6 HE hL
  go_enter Tryz.func126,Tryz.ntmps126
  go_wp2
  go_ret2
  exact ⟨rfl,rfl⟩
theorem KC (b : Nat) (most : Int) (L : List Int) (S : Nat -> Prop) (w : World) (h : mg w b most L S) :
 Calls Tryz.prog 82 #[.pointer (some ⟨b,0,none⟩)] w λe w'=>e = .returned (.tuple #[.int .i64 (dR L),.bool (decide (L ≠ []))]) /\ w = w':=by
 obtain ⟨v1,v2,v3,g1,g2,g3,h⟩:=h
 have q2:=h.blk.cell 2;simp at q2;have c:=Yc v2 L g2 w h.low
 obtain ⟨a,n,cap,rfl⟩:=jR h.low
 clear h
 generalize decide (L ≠ []) = t at *
 generalize dR L = m at *
 go_enter Tryz.func82,Tryz.ntmps82
 go_wp2_with fail
 refine c.mono ?_;rintro e w' ⟨rfl,rfl⟩
 go_wp2
 go_ret2
 exact ⟨rfl,rfl⟩
end Go.Proofs.YtklkooeimkedgaaGreat
