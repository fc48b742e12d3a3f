/- Parts of the walk of TopJumps: Ring4, Ring5, Store1. -/
import Derived.Maps.AppendAt
import Derived.Test.YtklkooeimkedgaaGreatJ27
import Derived.Test.YtklkooeimkedgaaGreatJ36
import Derived.Test.YtklkooeimkedgaaGreatJ41
set_option linter.unusedVariables false
set_option linter.unusedSimpArgs false
namespace Go.Proofs.YtklkooeimkedgaaGreat
open Go.RowKit
set_option maxRecDepth 100000
theorem infoOne : (Tryz.prog.info? 221).map (fun i => (i.zero, i.size, i.bytes)) = some (some (.agg #[.int .i64 0, .int .i64 0, .int .i64 0, .slice none 0 0]), 4, 48) := by kernel_rfl
theorem wpList_app_oneAt {ops : Array Oper} {rest : List Oper} {o : Oper} {a : Act} {Q : Exit → Act → World → Prop} (w : World) (hgd : o.guard = none) (s x : Operand) (tS tE : TypeId)
    (ho : o.op = .call { callee := .builtin .append, args := #[s, x], argTypes := #[tS, tS] })
    (base : Nat) (z : Value) (k bytes : Nat) (ht : Tryz.prog.underlying tS = some (.slice tE)) (hinfo : (Tryz.prog.info? tE).map (fun i => (i.zero, i.size, i.bytes)) = some (some z, k, bytes)) (hzs : z.cells.size = k) (hk : 0 < k)
    (v : Value) (n : Nat) (xs : List Value) (hs : a.eval s = v) (hown : w.ownsRow base tE k v n xs)
    (g : Nat) (cs : Array Value) (hx : a.eval x = .slice (some ⟨g, 0, none⟩) 1 1) (hb : Blk w g cs tE) (hcs : cs.size = k) (h1 : ∀ u ∈ cs.toList, u.oneCell' = true)
    (h63 : n + 1 ≤ maxLen) (hbytes : (n + 1) * bytes ≤ 140737488355328) (hbase : base ≤ w.heap.size)
    (h : ∀ v' w', w'.ownsRow base tE k v' (n + 1) (xs ++ cs.toList) → w.grownBy w' v.ownBlock → (v'.ownBlock = v.ownBlock ∨ v'.ownBlock = some w.heap.size) → wpList Tryz.prog ops Q rest (a.put o.dst v') w') : wpList Tryz.prog ops Q (o :: rest) a w := by
  obtain ⟨i0, hi, hz0, hz1, hz2⟩ := info_parts hinfo
  refine wpList_append_own_at w hgd s x tS ho base tE i0 z k bytes ht hi hz0 hz1 hz2 hzs hk v n xs hs hown ⟨g, 0, none⟩ 1 1 cs.toList hx (by simp [hcs]) ?_ h1 h63 hbytes hbase (fun v' w' h2 h3 _ h4 => h v' w' h2 h3 h4)
  intro j u hj
  have e : (⟨g, 0, none⟩ : Addr).add j = ⟨g, j, none⟩ := by unfold Addr.add; split <;> simp_all
  rw [e, hb.cell j]
  simpa using hj
set_option maxHeartbeats 1000000 in
theorem insEnd_f (a : Option Addr) (cap n : Nat) (xs : List Value) (hcap : n ≤ cap) (g : Nat) (k t m : Int) (s : Value) (hs : s.oneCell' = true) (w : World) (hrow : w.ownsRow 0 oneT 4 (.slice a n cap) n xs) (hg : Blk w g #[.int .i64 k, .int .i64 t, .int .i64 m, s] oneT) (hn : n ≤ 64) :
    Calls Tryz.prog 120 #[.slice a n cap, .int .i64 (n : Nat), .slice (some ⟨g, 0, none⟩) 1 1] w fun e w' => ∃ v', e = .returned v' ∧ w'.ownsRow 0 oneT 4 v' (n + 1) (xs ++ [.int .i64 k, .int .i64 t, .int .i64 m, s]) ∧ w.grownBy w' (Value.slice a n cap).ownBlock ∧ (v'.ownBlock = (Value.slice a n cap).ownBlock ∨ v'.ownBlock = some w.heap.size) := by
  have HROW := Lib.hid hrow
  have HG := Lib.hid hg
  have HC : Hid (cap = cap) := Lib.hid rfl
  have a1 : ¬ (n : Int) < 0 := by omega
  have a2 : ¬ (cap : Int) < n := by omega
  have a3 : (n : Int) ≤ cap := by omega
  clear hrow hg
  go_enter Tryz.func120, Tryz.ntmps120
  go_wp2_with (at_builtin; refine wpList_app_oneAt w rfl (.tmp 23) (.tmp 24) 193 oneT rfl 0 _ 4 48 Tryz.underlying193 infoOne rfl (by decide) _ n xs rfl HROW.out g _ rfl HG.out rfl ?c1 ?c2 ?c3 (Nat.zero_le _) ?_)
  all_goals first
    | exact ⟨rfl, rfl, rfl⟩
    | (unfold maxLen; omega)
    | omega
    | (intro v' w' h1 h2 h3
       have HV := Lib.hid (And.intro h1 (And.intro h2 h3))
       clear h1 h2 h3
       go_wp2_with fail
       exact bodyPost_ret (v := v') (by simp [results, Tryz.results120, go_sem]) rfl ⟨v', rfl, by first | exact HV.out | (rw [show cap = n by omega]; exact HV.out)⟩)
set_option maxRecDepth 100000
def LyI (w : World) (R X : Nat) (v : Value) (n : Nat) (xs : List Value) (most floor : Int) (gone : Bool) (k t m : Int) (s : Value) (ys : List Value) : List Value → World → Prop
 | [],W=>Blk W R #[v,.int .i64 most,.int .i64 floor,.bool gone] ringT ∧ Blk W X #[.int .i64 t,.int .i64 m,s] 36 ∧ Only (fun j=>v.ownBlock = some j) w W ∧ W.ownsRow 0 oneT 4 v n xs
 | [u],W=>Blk W R #[v,.int .i64 most,.int .i64 floor,.bool gone] ringT ∧ Blk W X #[.int .i64 t,.int .i64 m,s] 36 ∧ Only (fun j=>v.ownBlock = some j) w W ∧ W.ownsRow 0 oneT 4 v n xs ∧ ∃ g,u = .slice (some ⟨g,0,none⟩) 1 1 ∧ Blk W g #[.int .i64 k,.int .i64 t,.int .i64 m,s] oneT
 | [u,v'],W=>Blk W R #[v,.int .i64 most,.int .i64 floor,.bool gone] ringT ∧ Blk W X #[.int .i64 t,.int .i64 m,s] 36 ∧ Only (fun j=>v.ownBlock = some j) w W ∧ W.ownsRow 0 oneT 4 v' (n + 1) ys ∧ (v'.ownBlock = v.ownBlock ∨ ∃ j,v'.ownBlock = some j ∧ w.heap.size ≤ j ∧ j < W.heap.size)
 | _,_=>False
theorem LyI.ring {w : World} {R X : Nat} {v : Value} {n : Nat} {xs : List Value} {most floor : Int} {gone : Bool} {k t m : Int} {s : Value} {ys : List Value} {b : List Value} {W : World} (h : LyI w R X v n xs most floor gone k t m s ys b W) : Blk W R #[v,.int .i64 most,.int .i64 floor,.bool gone] ringT ∧ Blk W X #[.int .i64 t,.int .i64 m,s] 36:=by
 unfold LyI at h
 split at h
 ·exact ⟨h.1,h.2.1⟩
 ·exact ⟨h.1,h.2.1⟩
 ·exact ⟨h.1,h.2.1⟩
 ·exact h.elim
theorem RingP.weaken {w : World} {R : Nat} {l : List Kpt} {most floor : Int} {gone : Bool} {S S' : Nat → Prop} {v : Value} (h : RingP w R l most floor gone S v) (hs : ∀ k,S k → S' k) : RingP w R l most floor gone S' v :=
 ⟨h.blk,h.row,h.ents,hs _ h.sR,fun j e=>hs _ (h.sv j e),fun k hk j e=>hs _ (h.se k hk j e),h.up,h.len⟩
theorem RingAt.weaken {w : World} {R : Nat} {l : List Kpt} {most floor : Int} {gone : Bool} {S S' : Nat → Prop} (h : RingAt w R l most floor gone S) (hs : ∀ k,S k → S' k) : RingAt w R l most floor gone S':=by
 obtain ⟨v,h⟩:=h;exact ⟨v,h.weaken hs⟩
theorem rowsApart {w : World} {base base' k k' n n' : Nat} {e e' : TypeId} {v v' : Value} {xs xs' : List Value} (h : w.ownsRow base e k v n xs) (h' : w.ownsRow base' e' k' v' n' xs') (ht : e ≠ e') {j : Nat} (hj : v.ownBlock = some j) (hj' : v'.ownBlock = some j) : False:=by
 obtain ⟨_,⟨rfl,_⟩ | ⟨g,cap,cur,rfl,_,hh,_⟩⟩:=h
 ·cases hj
 obtain ⟨_,⟨rfl,_⟩ | ⟨g',cap',cur',rfl,_,hh',_⟩⟩:=h'
 ·cases hj'
 cases hj;cases hj'
 rw [hh] at hh'
 cases hh'
 exact ht rfl
theorem ring_put {w0 w1 WD : World} {R : Nat} {l l2 : List Kpt} {most floor : Int} {gone : Bool} {S : Nat → Prop} {v v2 : Value} (hP : RingP w1 R l most floor gone S v) (hB1 : Below w0.heap.size w0 w1)
  (hb : Blk WD R #[v,.int .i64 most,.int .i64 floor,.bool gone] ringT) (ho : Only (fun j=>v.ownBlock = some j) w1 WD) (hr : WD.ownsRow 0 oneT 4 v2 l2.length (l2.flatMap kpL)) (hv : v2.ownBlock = v.ownBlock ∨ ∃ j,v2.ownBlock = some j ∧ w0.heap.size ≤ j ∧ j < WD.heap.size)
  (hents : ∀ k ∈ l2,k ∈ l ∨ (OwnE w1 0 (kpS k) k.sn.ents ∧ (∀ e ∈ k.sn.ents,e.Ok) ∧ ∀ j,(kpS k).ownBlock = some j → S j)) (hup : keysUp l2) (hlen : (l2.length : Int) ≤ 64) :
  RingAt (WD.setCell ⟨R,0,none⟩ v2) R l2 most floor gone (fun k=>S k ∨ (w0.heap.size ≤ k ∧ k < WD.heap.size)) ∧ Only S w0 (WD.setCell ⟨R,0,none⟩ v2):=by
 have hRv : v2.ownBlock ≠ some R:=ownsApart hr hb (by decide)
 have hall : ∀ k ∈ l2,OwnE w1 0 (kpS k) k.sn.ents ∧ (∀ e ∈ k.sn.ents,e.Ok) ∧ ∀ j,(kpS k).ownBlock = some j → S j:=fun k hk=>by
  rcases hents k hk with h | h
  ·exact ⟨(hP.ents k h).1,(hP.ents k h).2,hP.se k h⟩
  ·exact h
 have hset : Only (fun k=>k = R) WD (WD.setCell ⟨R,0,none⟩ v2):=Only.setCell (S:=fun k=>k = R) (p:=⟨R,0,none⟩) (Only.refl _ _) (.inl rfl) v2
 have hO : Only S w0 (WD.setCell ⟨R,0,none⟩ v2):=by
  have h1 : Only S w0 WD:=(Only.of_below hB1).trans (ho.weaken (fun k _ hk=>hP.sv k hk))
  exact h1.trans (hset.weaken (fun k _ hk=>by rw [hk];exact hP.sR))
 refine ⟨⟨v2,?_,?_,?_,.inl hP.sR,?_,?_,hup,hlen⟩,hO⟩
 ·have:=hb.set 0 v2
  simpa using this
 ·exact ownsOnly hr hset (fun j hj hk=>hRv (by rw [hj,hk]))
 ·intro k hk
  obtain ⟨a1,a2,a3⟩:=hall k hk
  refine ⟨?_,a2⟩
  have b1 : OwnE WD 0 (kpS k) k.sn.ents:=a1.only ho (fun j hj hv'=>rowsApart a1 hP.row (by decide) hj hv')
  refine b1.only hset (fun j hj hk'=>?_)
  exact ownsApart b1 hb (by decide) (by rw [hj,hk'])
 ·intro j hj
  rcases hv with h | ⟨j',h1,h2,h3⟩
  ·exact .inl (hP.sv j (by rw [← h];exact hj))
  ·rw [h1] at hj;cases hj;exact .inr ⟨h2,h3⟩
 ·intro k hk j hj
  exact .inl ((hall k hk).2.2 j hj)
theorem cntK_all {l : List Kpt} {key : Int} (h : ∀ k ∈ l,k.key < key) : cntK l key = l.length:=by
 induction l with
 | nil=>rfl
 | cons y l ih =>
  unfold cntK at *
  rw [List.takeWhile_cons_of_pos (by simpa using h y (by simp))]
  simp only [List.length_cons]
  rw [ih (fun k hk=>h k (by simp [hk]))]
theorem hasK_all {l : List Kpt} {key : Int} (h : ∀ k ∈ l,k.key < key) : hasK l key = false:=by
 unfold hasK
 rw [cntK_all h,List.getElem?_eq_none (Nat.le_refl _)];rfl
set_option maxHeartbeats 2000000 in
theorem rlay_end (R : Nat) (l : List Kpt) (most floor : Int) (gone : Bool) (S : Nat → Prop) (x : Kpt) (w : World) (h : RingAt w R l most floor gone S)
  (hx : OwnE w 0 (kpS x) x.sn.ents) (hok : ∀ e ∈ x.sn.ents,e.Ok) (hsx : ∀ j,(kpS x).ownBlock = some j → S j) (hlast : ∀ k ∈ l,k.key < x.key) (hroom : (l.length : Int) < most) (hmost : most ≤ 64) (hfl : gone = true → floor < x.key) :
  Calls Tryz.prog 78 #[.pointer (some ⟨R,0,none⟩),.int .i64 x.key,.agg #[.int .i64 x.sn.tick,.int .i64 x.sn.time,kpS x]] w fun e w'=>e = .returned (.tuple #[.int .i64 0,.bool false,.int .i64 0]) ∧ RingAt w' R (l ++ [x]) most floor gone (fun k=>S k ∨ (w.heap.size ≤ k ∧ k < w'.heap.size)) ∧ Only S w w':=by
 obtain ⟨w0,hw0⟩ : ∃ w0,w.alloc (.cells #[.int .i64 x.sn.tick,.int .i64 x.sn.time,kpS x] 36) = w0:=⟨_,rfl⟩
 have HB0 : Hid (Below w.heap.size w w0):=Lib.hid (by rw [← hw0];exact (Below.refl _ _).alloc (Nat.le_refl _) _)
 have HX0 : Hid (Blk w0 w.heap.size #[.int .i64 x.sn.tick,.int .i64 x.sn.time,kpS x] 36):=Lib.hid (by rw [← hw0];exact Blk.new _ _ _)
 have HSZ : Hid (w0.heap.size = w.heap.size + 1):=Lib.hid (by rw [← hw0];simp)
 have HR0:=Lib.hid (h.below HB0.out)
 have HOK:=Lib.hid hok
 have HSX:=Lib.hid hsx
 have HL:=Lib.hid hlast
 have HFL:=Lib.hid hfl
 have HXE:=Lib.hid hx
 have pl:=fun w h=>rplace_f R l most floor gone S x.key w h
 rw [cntK_all hlast,hasK_all hlast] at pl
 clear h hx hok hsx hlast hfl
 go_enter Tryz.func78,Tryz.ntmps78
 go_wp2_with fail
 clear hw0
 refine (pl w0 HR0.out).mono ?_
 rintro e w1 ⟨rfl,hB1⟩
 have HB1:=Lib.hid (HB0.out.trans (hB1.mono HB0.out.size))
 have HX1:=Lib.hid (HX0.out.below hB1 HX0.out.lt)
 have HW1 : Hid (w.heap.size < w1.heap.size):=Lib.hid (Nat.lt_of_lt_of_le (by rw [HSZ.out];omega) hB1.size)
 obtain ⟨v,hP⟩:=HR0.out.below hB1
 have HP:=Lib.hid hP
 obtain ⟨a,c,rfl,_,hlc⟩:=hP.slice
 have c0:=hP.blk.cell 0
 have c1:=hP.blk.cell 1
 have c2:=hP.blk.cell 2
 have c3:=hP.blk.cell 3
 simp at c0 c1 c2 c3
 have HLC:=Lib.hid hlc
 clear hB1 HB0 HX0 HR0 pl hP hlc HSZ
 have n1 : ¬ (l.length : Int) = most:=by omega
 have n2 : wrap64 ((l.length : Int) + 1) = (l.length + 1 : Nat):=by unfold wrap64;omega
 have n3 : ((l.length : Int) == most) = false:=by simpa using n1
 have n5 : gone = true → (decide (x.key ≤ floor)) = false:=fun hg=>decide_eq_false (by have:=HFL.out hg;omega)
 rcases Nat.eq_zero_or_pos l.length with hz | hz
 ·obtain rfl : l = []:=List.eq_nil_of_length_eq_zero hz
  clear hz n1 n3
  have e2 : ¬ (0 : Int) = most:=by omega
  have e3 : ((0 : Int) == most) = false:=by simpa using e2
  cases gone
  ·clear n5
   go_wp2_with fail
   refine wp_region_calm 12 (by kernel_rfl) (by kernel_rfl) ?_
   simp only [List.take_succ_cons,List.take_zero,List.drop_succ_cons,List.drop_zero]
   repeat (apply wpCalm_step;(next=>(intro W hW K hK;have y0:=hW.cell c0;have y1:=hW.cell c1;have y2:=hW.cell c2;have y3:=hW.cell c3;go_simp;first | exact ⟨hW,hK⟩ | exact hK));(next=>exact CalmI.self _);(try go_simp))
   refine wpCalm_nil ?_
   intro WC hWC
   have hWB : Below w1.heap.size w1 WC:=hWC
   have HI : Hid (LyI WC R w.heap.size (.slice a ([] : List Kpt).length c) ([] : List Kpt).length (([] : List Kpt).flatMap kpL) most floor false x.key x.sn.tick x.sn.time (kpS x) (([] : List Kpt).flatMap kpL ++ [.int .i64 x.key,.int .i64 x.sn.tick,.int .i64 x.sn.time,kpS x]) [] WC.drew):=Lib.hid
    ⟨HP.out.blk.below (Below.drew hWB) HP.out.blk.lt,HX1.out.below (Below.drew hWB) HX1.out.lt,Only.of_below (Below.drew (Below.refl _ _)),ownsOnly HP.out.row (Only.of_below (S:=fun _=>False) (Below.drew hWB)) (fun _ _ h=>h)⟩
   have HB2:=Lib.hid (HB1.out.trans (Below.mono hWC HB1.out.size))
   have HWC:=Lib.hid hWB
   clear hWC hWB c0 c1 c2 c3
   go_wp2_with fail
   apply wp_region_chain 11 [9,10] (LyI WC R w.heap.size (.slice a ([] : List Kpt).length c) ([] : List Kpt).length (([] : List Kpt).flatMap kpL) most floor false x.key x.sn.tick x.sn.time (kpS x) (([] : List Kpt).flatMap kpL ++ [.int .i64 x.key,.int .i64 x.sn.tick,.int .i64 x.sn.time,kpS x]))
   case hm=>kernel_rfl
   case hB=>kernel_rfl
   case hp=>kernel_rfl
   case hI=>exact HI.out
   simp only [List.take_succ_cons,List.take_zero,List.drop_succ_cons,List.drop_zero]
   repeat (apply wpChain_fix;(next=>rfl);(next=>(intro b W hW K hK;have y0:=(LyI.ring hW).1.cell 0;have y1:=(LyI.ring hW).2.cell 0;have y2:=(LyI.ring hW).2.cell 1;have y3:=(LyI.ring hW).2.cell 2;simp at y0 y1 y2 y3;go_simp;first | exact ⟨hW,hK⟩ | exact hK));(next=>exact ⟨_,HI.out⟩);(try go_simp))
   apply wpChain_one (s:=fun _=>True)
   case hk=>rfl
   case hne=>exact ⟨undef,trivial⟩
   case hw=>rfl
   case h =>
    intro W hW
    obtain ⟨h1,h2,h3,h4⟩:=hW
    have HN:=Lib.hid (show LyI WC R w.heap.size (.slice a ([] : List Kpt).length c) ([] : List Kpt).length (([] : List Kpt).flatMap kpL) most floor false x.key x.sn.tick x.sn.time (kpS x) (([] : List Kpt).flatMap kpL ++ [.int .i64 x.key,.int .i64 x.sn.tick,.int .i64 x.sn.time,kpS x]) [.slice (some ⟨W.heap.size,0,none⟩) 1 1] (W.alloc (.cells #[.int .i64 x.key,.int .i64 x.sn.tick,.int .i64 x.sn.time,kpS x] oneT)) from ⟨h1.alloc _,h2.alloc _,h3.alloc _,h4.alloc _,_,rfl,Blk.new _ _ _⟩)
    clear h1 h2 h3 h4
    go_simp
    first | exact HN.out | exact ⟨trivial,HN.out⟩
   intro u1 _
   repeat (apply wpChain_fix;(next=>rfl);(next=>(intro b W hW K hK;have y0:=(LyI.ring hW).1.cell 0;have y1:=(LyI.ring hW).2.cell 0;have y2:=(LyI.ring hW).2.cell 1;have y3:=(LyI.ring hW).2.cell 2;simp at y0 y1 y2 y3;go_simp;first | exact ⟨hW,hK⟩ | exact hK));(next=>exact ⟨_,HI.out⟩);(try go_simp))
   apply wpChain_one (s:=fun _=>True)
   case hk=>rfl
   case hne=>exact ⟨undef,trivial⟩
   case hw=>rfl
   case h =>
    intro W hW
    obtain ⟨h1,h2,h3,h4,g,rfl,h5⟩:=hW
    go_simp
    refine (insEnd_f a c ([] : List Kpt).length (([] : List Kpt).flatMap kpL) HLC.out g x.key x.sn.tick x.sn.time (kpS x) rfl W h4 h5 (by omega)).mono ?_
    rintro e w2 ⟨v2,rfl,i1,i2,i3⟩
    first | refine ⟨v2,rfl,?_⟩ | refine ⟨v2,rfl,trivial,?_⟩
    have ne1:=ownsApart h4 h1 (by decide)
    have ne2:=ownsApart h4 h2 (by decide)
    refine ⟨h1.grown i2 ne1,h2.grown i2 ne2,h3.trans (onlyGrown i2),i1,?_⟩
    rcases i3 with i3 | i3
    ·exact .inl i3
    ·exact .inr ⟨_,i3,h3.size,(i1.lt _ i3).2⟩
   intro v2 _
   repeat (apply wpChain_fix;(next=>rfl);(next=>(intro b W hW K hK;have y0:=(LyI.ring hW).1.cell 0;have y1:=(LyI.ring hW).2.cell 0;have y2:=(LyI.ring hW).2.cell 1;have y3:=(LyI.ring hW).2.cell 2;simp at y0 y1 y2 y3;go_simp;first | exact ⟨hW,hK⟩ | exact hK));(next=>exact ⟨_,HI.out⟩);(try go_simp))
   refine wpChain_nil ?_
   intro WD hWD
   obtain ⟨g1,g2,g3,g4,g5⟩:=hWD
   obtain ⟨hkeys,hlen2⟩ : keysUp (([] : List Kpt) ++ [x]) ∧ ((([] : List Kpt) ++ [x]).length : Int) ≤ 64:=by
    refine ⟨List.pairwise_append.2 ⟨HP.out.up,List.pairwise_singleton _ _,fun k hk y hy=>by simp at hy;subst hy;exact HL.out k hk⟩,?_⟩
    rw [List.length_append];simp only [List.length_singleton];omega
   have HF:=Lib.hid (ring_put (l2:=([] : List Kpt) ++ [x]) (v2:=v2) HP.out HB1.out g1 (Only.trans (Only.of_below HWC.out) g3) (by rw [List.length_append,List.flatMap_append];simpa [kpL] using g4) (g5.imp id (fun ⟨j,q1,q2,q3⟩=>⟨j,q1,Nat.le_trans HB2.out.size q2,q3⟩)) (fun k hk=>by
    rcases List.mem_append.1 hk with hk | hk
    ·exact .inl hk
    ·simp at hk;subst hk;exact .inr ⟨HXE.out.below HB1.out,HOK.out,HSX.out⟩) hkeys hlen2)
   obtain ⟨a2,c2',rfl,hc2⟩ : ∃ a2 c2',v2 = .slice a2 (([] : List Kpt).length + 1) c2' ∧ ([] : List Kpt).length + 1 ≤ c2':=by
    obtain ⟨_,⟨rfl,hn⟩ | ⟨g,cap,cur,rfl,q1,q2,q3⟩⟩:=g4
    ·omega
    ·exact ⟨_,_,rfl,q3.1⟩
   have r0:=g1.cell 0
   have r1:=(g1.set 0 (.slice a2 (([] : List Kpt).length + 1) c2')).cell 0
   have r2:=(g1.set 0 (.slice a2 (([] : List Kpt).length + 1) c2')).cell 1
   have f0:=g1.free 0
   simp at r0 r1 r2 f0
   have m1 : ((([] : List Kpt).length + 1 : Nat) : Int) ≤ most:=by omega
   clear g1 g2 g3 g4 g5 hkeys hlen2
   go_wp2_with fail
   have HSE : Hid ((WD.setCell ⟨R,0,none⟩ (.slice a2 (([] : List Kpt).length + 1) c2')).heap.size = WD.heap.size):=Lib.hid (by simp [World.setCell])
   generalize hWE : WD.setCell ⟨R,0,none⟩ (.slice a2 (([] : List Kpt).length + 1) c2') = WE at *
   clear hWE
   refine wp_region_calm 9 (by kernel_rfl) (by kernel_rfl) ?_
   simp only [List.take_succ_cons,List.take_zero,List.drop_succ_cons,List.drop_zero]
   repeat (apply wpCalm_step;(next=>(intro W hW K hK;have y0:=hW.cell r1;have y1:=hW.cell r2;go_simp;first | exact ⟨hW,hK⟩ | exact hK));(next=>exact CalmI.self _);(try go_simp))
   refine wpCalm_nil ?_
   intro WF hWC
   have hWFB : Below WE.heap.size WE WF:=hWC
   have HWF:=Lib.hid hWFB
   clear hWC hWFB r0 r1 r2 f0
   go_wp2_with fail
   exact bodyPost_ret (v:=.tuple #[.int .i64 0,.bool false,.int .i64 0]) (by simp [results,Tryz.results78,go_sem]) rfl ⟨rfl,(HF.out.1.below HWF.out).weaken (fun k hk=>hk.imp id (fun ⟨q1,q2⟩=>⟨q1,Nat.lt_of_lt_of_le (Nat.lt_of_lt_of_eq q2 HSE.out.symm) HWF.out.size⟩)),HF.out.2.then_below HWF.out⟩
  ·have n6 : ¬ x.key ≤ floor:=by have:=HFL.out rfl;omega
   clear n5
   go_wp2_with fail
   refine wp_region_calm 12 (by kernel_rfl) (by kernel_rfl) ?_
   simp only [List.take_succ_cons,List.take_zero,List.drop_succ_cons,List.drop_zero]
   repeat (apply wpCalm_step;(next=>(intro W hW K hK;have y0:=hW.cell c0;have y1:=hW.cell c1;have y2:=hW.cell c2;have y3:=hW.cell c3;go_simp;first | exact ⟨hW,hK⟩ | exact hK));(next=>exact CalmI.self _);(try go_simp))
   refine wpCalm_nil ?_
   intro WC hWC
   have hWB : Below w1.heap.size w1 WC:=hWC
   have HI : Hid (LyI WC R w.heap.size (.slice a ([] : List Kpt).length c) ([] : List Kpt).length (([] : List Kpt).flatMap kpL) most floor true x.key x.sn.tick x.sn.time (kpS x) (([] : List Kpt).flatMap kpL ++ [.int .i64 x.key,.int .i64 x.sn.tick,.int .i64 x.sn.time,kpS x]) [] WC.drew):=Lib.hid
    ⟨HP.out.blk.below (Below.drew hWB) HP.out.blk.lt,HX1.out.below (Below.drew hWB) HX1.out.lt,Only.of_below (Below.drew (Below.refl _ _)),ownsOnly HP.out.row (Only.of_below (S:=fun _=>False) (Below.drew hWB)) (fun _ _ h=>h)⟩
   have HB2:=Lib.hid (HB1.out.trans (Below.mono hWC HB1.out.size))
   have HWC:=Lib.hid hWB
   clear hWC hWB c0 c1 c2 c3
   go_wp2_with fail
   apply wp_region_chain 11 [9,10] (LyI WC R w.heap.size (.slice a ([] : List Kpt).length c) ([] : List Kpt).length (([] : List Kpt).flatMap kpL) most floor true x.key x.sn.tick x.sn.time (kpS x) (([] : List Kpt).flatMap kpL ++ [.int .i64 x.key,.int .i64 x.sn.tick,.int .i64 x.sn.time,kpS x]))
   case hm=>kernel_rfl
   case hB=>kernel_rfl
   case hp=>kernel_rfl
   case hI=>exact HI.out
   simp only [List.take_succ_cons,List.take_zero,List.drop_succ_cons,List.drop_zero]
   repeat (apply wpChain_fix;(next=>rfl);(next=>(intro b W hW K hK;have y0:=(LyI.ring hW).1.cell 0;have y1:=(LyI.ring hW).2.cell 0;have y2:=(LyI.ring hW).2.cell 1;have y3:=(LyI.ring hW).2.cell 2;simp at y0 y1 y2 y3;go_simp;first | exact ⟨hW,hK⟩ | exact hK));(next=>exact ⟨_,HI.out⟩);(try go_simp))
   apply wpChain_one (s:=fun _=>True)
   case hk=>rfl
   case hne=>exact ⟨undef,trivial⟩
   case hw=>rfl
   case h =>
    intro W hW
    obtain ⟨h1,h2,h3,h4⟩:=hW
    have HN:=Lib.hid (show LyI WC R w.heap.size (.slice a ([] : List Kpt).length c) ([] : List Kpt).length (([] : List Kpt).flatMap kpL) most floor true x.key x.sn.tick x.sn.time (kpS x) (([] : List Kpt).flatMap kpL ++ [.int .i64 x.key,.int .i64 x.sn.tick,.int .i64 x.sn.time,kpS x]) [.slice (some ⟨W.heap.size,0,none⟩) 1 1] (W.alloc (.cells #[.int .i64 x.key,.int .i64 x.sn.tick,.int .i64 x.sn.time,kpS x] oneT)) from ⟨h1.alloc _,h2.alloc _,h3.alloc _,h4.alloc _,_,rfl,Blk.new _ _ _⟩)
    clear h1 h2 h3 h4
    go_simp
    first | exact HN.out | exact ⟨trivial,HN.out⟩
   intro u1 _
   repeat (apply wpChain_fix;(next=>rfl);(next=>(intro b W hW K hK;have y0:=(LyI.ring hW).1.cell 0;have y1:=(LyI.ring hW).2.cell 0;have y2:=(LyI.ring hW).2.cell 1;have y3:=(LyI.ring hW).2.cell 2;simp at y0 y1 y2 y3;go_simp;first | exact ⟨hW,hK⟩ | exact hK));(next=>exact ⟨_,HI.out⟩);(try go_simp))
   apply wpChain_one (s:=fun _=>True)
   case hk=>rfl
   case hne=>exact ⟨undef,trivial⟩
   case hw=>rfl
   case h =>
    intro W hW
    obtain ⟨h1,h2,h3,h4,g,rfl,h5⟩:=hW
    go_simp
    refine (insEnd_f a c ([] : List Kpt).length (([] : List Kpt).flatMap kpL) HLC.out g x.key x.sn.tick x.sn.time (kpS x) rfl W h4 h5 (by omega)).mono ?_
    rintro e w2 ⟨v2,rfl,i1,i2,i3⟩
    first | refine ⟨v2,rfl,?_⟩ | refine ⟨v2,rfl,trivial,?_⟩
    have ne1:=ownsApart h4 h1 (by decide)
    have ne2:=ownsApart h4 h2 (by decide)
    refine ⟨h1.grown i2 ne1,h2.grown i2 ne2,h3.trans (onlyGrown i2),i1,?_⟩
    rcases i3 with i3 | i3
    ·exact .inl i3
    ·exact .inr ⟨_,i3,h3.size,(i1.lt _ i3).2⟩
   intro v2 _
   repeat (apply wpChain_fix;(next=>rfl);(next=>(intro b W hW K hK;have y0:=(LyI.ring hW).1.cell 0;have y1:=(LyI.ring hW).2.cell 0;have y2:=(LyI.ring hW).2.cell 1;have y3:=(LyI.ring hW).2.cell 2;simp at y0 y1 y2 y3;go_simp;first | exact ⟨hW,hK⟩ | exact hK));(next=>exact ⟨_,HI.out⟩);(try go_simp))
   refine wpChain_nil ?_
   intro WD hWD
   obtain ⟨g1,g2,g3,g4,g5⟩:=hWD
   obtain ⟨hkeys,hlen2⟩ : keysUp (([] : List Kpt) ++ [x]) ∧ ((([] : List Kpt) ++ [x]).length : Int) ≤ 64:=by
    refine ⟨List.pairwise_append.2 ⟨HP.out.up,List.pairwise_singleton _ _,fun k hk y hy=>by simp at hy;subst hy;exact HL.out k hk⟩,?_⟩
    rw [List.length_append];simp only [List.length_singleton];omega
   have HF:=Lib.hid (ring_put (l2:=([] : List Kpt) ++ [x]) (v2:=v2) HP.out HB1.out g1 (Only.trans (Only.of_below HWC.out) g3) (by rw [List.length_append,List.flatMap_append];simpa [kpL] using g4) (g5.imp id (fun ⟨j,q1,q2,q3⟩=>⟨j,q1,Nat.le_trans HB2.out.size q2,q3⟩)) (fun k hk=>by
    rcases List.mem_append.1 hk with hk | hk
    ·exact .inl hk
    ·simp at hk;subst hk;exact .inr ⟨HXE.out.below HB1.out,HOK.out,HSX.out⟩) hkeys hlen2)
   obtain ⟨a2,c2',rfl,hc2⟩ : ∃ a2 c2',v2 = .slice a2 (([] : List Kpt).length + 1) c2' ∧ ([] : List Kpt).length + 1 ≤ c2':=by
    obtain ⟨_,⟨rfl,hn⟩ | ⟨g,cap,cur,rfl,q1,q2,q3⟩⟩:=g4
    ·omega
    ·exact ⟨_,_,rfl,q3.1⟩
   have r0:=g1.cell 0
   have r1:=(g1.set 0 (.slice a2 (([] : List Kpt).length + 1) c2')).cell 0
   have r2:=(g1.set 0 (.slice a2 (([] : List Kpt).length + 1) c2')).cell 1
   have f0:=g1.free 0
   simp at r0 r1 r2 f0
   have m1 : ((([] : List Kpt).length + 1 : Nat) : Int) ≤ most:=by omega
   clear g1 g2 g3 g4 g5 hkeys hlen2
   go_wp2_with fail
   have HSE : Hid ((WD.setCell ⟨R,0,none⟩ (.slice a2 (([] : List Kpt).length + 1) c2')).heap.size = WD.heap.size):=Lib.hid (by simp [World.setCell])
   generalize hWE : WD.setCell ⟨R,0,none⟩ (.slice a2 (([] : List Kpt).length + 1) c2') = WE at *
   clear hWE
   refine wp_region_calm 9 (by kernel_rfl) (by kernel_rfl) ?_
   simp only [List.take_succ_cons,List.take_zero,List.drop_succ_cons,List.drop_zero]
   repeat (apply wpCalm_step;(next=>(intro W hW K hK;have y0:=hW.cell r1;have y1:=hW.cell r2;go_simp;first | exact ⟨hW,hK⟩ | exact hK));(next=>exact CalmI.self _);(try go_simp))
   refine wpCalm_nil ?_
   intro WF hWC
   have hWFB : Below WE.heap.size WE WF:=hWC
   have HWF:=Lib.hid hWFB
   clear hWC hWFB r0 r1 r2 f0
   go_wp2_with fail
   exact bodyPost_ret (v:=.tuple #[.int .i64 0,.bool false,.int .i64 0]) (by simp [results,Tryz.results78,go_sem]) rfl ⟨rfl,(HF.out.1.below HWF.out).weaken (fun k hk=>hk.imp id (fun ⟨q1,q2⟩=>⟨q1,Nat.lt_of_lt_of_le (Nat.lt_of_lt_of_eq q2 HSE.out.symm) HWF.out.size⟩)),HF.out.2.then_below HWF.out⟩
 ·have e0 : ¬ (l.length : Int) = 0:=by omega
  have e1 : ((l.length : Int) == 0) = false:=by simpa using e0
  cases gone
  ·clear n5
   go_wp2_with fail
   refine wp_region_calm 12 (by kernel_rfl) (by kernel_rfl) ?_
   simp only [List.take_succ_cons,List.take_zero,List.drop_succ_cons,List.drop_zero]
   repeat (apply wpCalm_step;(next=>(intro W hW K hK;have y0:=hW.cell c0;have y1:=hW.cell c1;have y2:=hW.cell c2;have y3:=hW.cell c3;go_simp;first | exact ⟨hW,hK⟩ | exact hK));(next=>exact CalmI.self _);(try go_simp))
   refine wpCalm_nil ?_
   intro WC hWC
   have hWB : Below w1.heap.size w1 WC:=hWC
   have HI : Hid (LyI WC R w.heap.size (.slice a l.length c) l.length (l.flatMap kpL) most floor false x.key x.sn.tick x.sn.time (kpS x) (l.flatMap kpL ++ [.int .i64 x.key,.int .i64 x.sn.tick,.int .i64 x.sn.time,kpS x]) [] WC.drew):=Lib.hid
    ⟨HP.out.blk.below (Below.drew hWB) HP.out.blk.lt,HX1.out.below (Below.drew hWB) HX1.out.lt,Only.of_below (Below.drew (Below.refl _ _)),ownsOnly HP.out.row (Only.of_below (S:=fun _=>False) (Below.drew hWB)) (fun _ _ h=>h)⟩
   have HB2:=Lib.hid (HB1.out.trans (Below.mono hWC HB1.out.size))
   have HWC:=Lib.hid hWB
   clear hWC hWB c0 c1 c2 c3
   go_wp2_with fail
   apply wp_region_chain 11 [9,10] (LyI WC R w.heap.size (.slice a l.length c) l.length (l.flatMap kpL) most floor false x.key x.sn.tick x.sn.time (kpS x) (l.flatMap kpL ++ [.int .i64 x.key,.int .i64 x.sn.tick,.int .i64 x.sn.time,kpS x]))
   case hm=>kernel_rfl
   case hB=>kernel_rfl
   case hp=>kernel_rfl
   case hI=>exact HI.out
   simp only [List.take_succ_cons,List.take_zero,List.drop_succ_cons,List.drop_zero]
   repeat (apply wpChain_fix;(next=>rfl);(next=>(intro b W hW K hK;have y0:=(LyI.ring hW).1.cell 0;have y1:=(LyI.ring hW).2.cell 0;have y2:=(LyI.ring hW).2.cell 1;have y3:=(LyI.ring hW).2.cell 2;simp at y0 y1 y2 y3;go_simp;first | exact ⟨hW,hK⟩ | exact hK));(next=>exact ⟨_,HI.out⟩);(try go_simp))
   apply wpChain_one (s:=fun _=>True)
   case hk=>rfl
   case hne=>exact ⟨undef,trivial⟩
   case hw=>rfl
   case h =>
    intro W hW
    obtain ⟨h1,h2,h3,h4⟩:=hW
    have HN:=Lib.hid (show LyI WC R w.heap.size (.slice a l.length c) l.length (l.flatMap kpL) most floor false x.key x.sn.tick x.sn.time (kpS x) (l.flatMap kpL ++ [.int .i64 x.key,.int .i64 x.sn.tick,.int .i64 x.sn.time,kpS x]) [.slice (some ⟨W.heap.size,0,none⟩) 1 1] (W.alloc (.cells #[.int .i64 x.key,.int .i64 x.sn.tick,.int .i64 x.sn.time,kpS x] oneT)) from ⟨h1.alloc _,h2.alloc _,h3.alloc _,h4.alloc _,_,rfl,Blk.new _ _ _⟩)
    clear h1 h2 h3 h4
    go_simp
    first | exact HN.out | exact ⟨trivial,HN.out⟩
   intro u1 _
   repeat (apply wpChain_fix;(next=>rfl);(next=>(intro b W hW K hK;have y0:=(LyI.ring hW).1.cell 0;have y1:=(LyI.ring hW).2.cell 0;have y2:=(LyI.ring hW).2.cell 1;have y3:=(LyI.ring hW).2.cell 2;simp at y0 y1 y2 y3;go_simp;first | exact ⟨hW,hK⟩ | exact hK));(next=>exact ⟨_,HI.out⟩);(try go_simp))
   apply wpChain_one (s:=fun _=>True)
   case hk=>rfl
   case hne=>exact ⟨undef,trivial⟩
   case hw=>rfl
   case h =>
    intro W hW
    obtain ⟨h1,h2,h3,h4,g,rfl,h5⟩:=hW
    go_simp
    refine (insEnd_f a c l.length (l.flatMap kpL) HLC.out g x.key x.sn.tick x.sn.time (kpS x) rfl W h4 h5 (by omega)).mono ?_
    rintro e w2 ⟨v2,rfl,i1,i2,i3⟩
    first | refine ⟨v2,rfl,?_⟩ | refine ⟨v2,rfl,trivial,?_⟩
    have ne1:=ownsApart h4 h1 (by decide)
    have ne2:=ownsApart h4 h2 (by decide)
    refine ⟨h1.grown i2 ne1,h2.grown i2 ne2,h3.trans (onlyGrown i2),i1,?_⟩
    rcases i3 with i3 | i3
    ·exact .inl i3
    ·exact .inr ⟨_,i3,h3.size,(i1.lt _ i3).2⟩
   intro v2 _
   repeat (apply wpChain_fix;(next=>rfl);(next=>(intro b W hW K hK;have y0:=(LyI.ring hW).1.cell 0;have y1:=(LyI.ring hW).2.cell 0;have y2:=(LyI.ring hW).2.cell 1;have y3:=(LyI.ring hW).2.cell 2;simp at y0 y1 y2 y3;go_simp;first | exact ⟨hW,hK⟩ | exact hK));(next=>exact ⟨_,HI.out⟩);(try go_simp))
   refine wpChain_nil ?_
   intro WD hWD
   obtain ⟨g1,g2,g3,g4,g5⟩:=hWD
   obtain ⟨hkeys,hlen2⟩ : keysUp (l ++ [x]) ∧ ((l ++ [x]).length : Int) ≤ 64:=by
    refine ⟨List.pairwise_append.2 ⟨HP.out.up,List.pairwise_singleton _ _,fun k hk y hy=>by simp at hy;subst hy;exact HL.out k hk⟩,?_⟩
    rw [List.length_append];simp only [List.length_singleton];omega
   have HF:=Lib.hid (ring_put (l2:=l ++ [x]) (v2:=v2) HP.out HB1.out g1 (Only.trans (Only.of_below HWC.out) g3) (by rw [List.length_append,List.flatMap_append];simpa [kpL] using g4) (g5.imp id (fun ⟨j,q1,q2,q3⟩=>⟨j,q1,Nat.le_trans HB2.out.size q2,q3⟩)) (fun k hk=>by
    rcases List.mem_append.1 hk with hk | hk
    ·exact .inl hk
    ·simp at hk;subst hk;exact .inr ⟨HXE.out.below HB1.out,HOK.out,HSX.out⟩) hkeys hlen2)
   obtain ⟨a2,c2',rfl,hc2⟩ : ∃ a2 c2',v2 = .slice a2 (l.length + 1) c2' ∧ l.length + 1 ≤ c2':=by
    obtain ⟨_,⟨rfl,hn⟩ | ⟨g,cap,cur,rfl,q1,q2,q3⟩⟩:=g4
    ·omega
    ·exact ⟨_,_,rfl,q3.1⟩
   have r0:=g1.cell 0
   have r1:=(g1.set 0 (.slice a2 (l.length + 1) c2')).cell 0
   have r2:=(g1.set 0 (.slice a2 (l.length + 1) c2')).cell 1
   have f0:=g1.free 0
   simp at r0 r1 r2 f0
   have m1 : ((l.length + 1 : Nat) : Int) ≤ most:=by omega
   clear g1 g2 g3 g4 g5 hkeys hlen2
   go_wp2_with fail
   have HSE : Hid ((WD.setCell ⟨R,0,none⟩ (.slice a2 (l.length + 1) c2')).heap.size = WD.heap.size):=Lib.hid (by simp [World.setCell])
   generalize hWE : WD.setCell ⟨R,0,none⟩ (.slice a2 (l.length + 1) c2') = WE at *
   clear hWE
   refine wp_region_calm 9 (by kernel_rfl) (by kernel_rfl) ?_
   simp only [List.take_succ_cons,List.take_zero,List.drop_succ_cons,List.drop_zero]
   repeat (apply wpCalm_step;(next=>(intro W hW K hK;have y0:=hW.cell r1;have y1:=hW.cell r2;go_simp;first | exact ⟨hW,hK⟩ | exact hK));(next=>exact CalmI.self _);(try go_simp))
   refine wpCalm_nil ?_
   intro WF hWC
   have hWFB : Below WE.heap.size WE WF:=hWC
   have HWF:=Lib.hid hWFB
   clear hWC hWFB r0 r1 r2 f0
   go_wp2_with fail
   exact bodyPost_ret (v:=.tuple #[.int .i64 0,.bool false,.int .i64 0]) (by simp [results,Tryz.results78,go_sem]) rfl ⟨rfl,(HF.out.1.below HWF.out).weaken (fun k hk=>hk.imp id (fun ⟨q1,q2⟩=>⟨q1,Nat.lt_of_lt_of_le (Nat.lt_of_lt_of_eq q2 HSE.out.symm) HWF.out.size⟩)),HF.out.2.then_below HWF.out⟩
  ·have n6 : ¬ x.key ≤ floor:=by have:=HFL.out rfl;omega
   clear n5
   go_wp2_with fail
   refine wp_region_calm 12 (by kernel_rfl) (by kernel_rfl) ?_
   simp only [List.take_succ_cons,List.take_zero,List.drop_succ_cons,List.drop_zero]
   repeat (apply wpCalm_step;(next=>(intro W hW K hK;have y0:=hW.cell c0;have y1:=hW.cell c1;have y2:=hW.cell c2;have y3:=hW.cell c3;go_simp;first | exact ⟨hW,hK⟩ | exact hK));(next=>exact CalmI.self _);(try go_simp))
   refine wpCalm_nil ?_
   intro WC hWC
   have hWB : Below w1.heap.size w1 WC:=hWC
   have HI : Hid (LyI WC R w.heap.size (.slice a l.length c) l.length (l.flatMap kpL) most floor true x.key x.sn.tick x.sn.time (kpS x) (l.flatMap kpL ++ [.int .i64 x.key,.int .i64 x.sn.tick,.int .i64 x.sn.time,kpS x]) [] WC.drew):=Lib.hid
    ⟨HP.out.blk.below (Below.drew hWB) HP.out.blk.lt,HX1.out.below (Below.drew hWB) HX1.out.lt,Only.of_below (Below.drew (Below.refl _ _)),ownsOnly HP.out.row (Only.of_below (S:=fun _=>False) (Below.drew hWB)) (fun _ _ h=>h)⟩
   have HB2:=Lib.hid (HB1.out.trans (Below.mono hWC HB1.out.size))
   have HWC:=Lib.hid hWB
   clear hWC hWB c0 c1 c2 c3
   go_wp2_with fail
   apply wp_region_chain 11 [9,10] (LyI WC R w.heap.size (.slice a l.length c) l.length (l.flatMap kpL) most floor true x.key x.sn.tick x.sn.time (kpS x) (l.flatMap kpL ++ [.int .i64 x.key,.int .i64 x.sn.tick,.int .i64 x.sn.time,kpS x]))
   case hm=>kernel_rfl
   case hB=>kernel_rfl
   case hp=>kernel_rfl
   case hI=>exact HI.out
   simp only [List.take_succ_cons,List.take_zero,List.drop_succ_cons,List.drop_zero]
   repeat (apply wpChain_fix;(next=>rfl);(next=>(intro b W hW K hK;have y0:=(LyI.ring hW).1.cell 0;have y1:=(LyI.ring hW).2.cell 0;have y2:=(LyI.ring hW).2.cell 1;have y3:=(LyI.ring hW).2.cell 2;simp at y0 y1 y2 y3;go_simp;first | exact ⟨hW,hK⟩ | exact hK));(next=>exact ⟨_,HI.out⟩);(try go_simp))
   apply wpChain_one (s:=fun _=>True)
   case hk=>rfl
   case hne=>exact ⟨undef,trivial⟩
   case hw=>rfl
   case h =>
    intro W hW
    obtain ⟨h1,h2,h3,h4⟩:=hW
    have HN:=Lib.hid (show LyI WC R w.heap.size (.slice a l.length c) l.length (l.flatMap kpL) most floor true x.key x.sn.tick x.sn.time (kpS x) (l.flatMap kpL ++ [.int .i64 x.key,.int .i64 x.sn.tick,.int .i64 x.sn.time,kpS x]) [.slice (some ⟨W.heap.size,0,none⟩) 1 1] (W.alloc (.cells #[.int .i64 x.key,.int .i64 x.sn.tick,.int .i64 x.sn.time,kpS x] oneT)) from ⟨h1.alloc _,h2.alloc _,h3.alloc _,h4.alloc _,_,rfl,Blk.new _ _ _⟩)
    clear h1 h2 h3 h4
    go_simp
    first | exact HN.out | exact ⟨trivial,HN.out⟩
   intro u1 _
   repeat (apply wpChain_fix;(next=>rfl);(next=>(intro b W hW K hK;have y0:=(LyI.ring hW).1.cell 0;have y1:=(LyI.ring hW).2.cell 0;have y2:=(LyI.ring hW).2.cell 1;have y3:=(LyI.ring hW).2.cell 2;simp at y0 y1 y2 y3;go_simp;first | exact ⟨hW,hK⟩ | exact hK));(next=>exact ⟨_,HI.out⟩);(try go_simp))
   apply wpChain_one (s:=fun _=>True)
   case hk=>rfl
   case hne=>exact ⟨undef,trivial⟩
   case hw=>rfl
   case h =>
    intro W hW
    obtain ⟨h1,h2,h3,h4,g,rfl,h5⟩:=hW
    go_simp
    refine (insEnd_f a c l.length (l.flatMap kpL) HLC.out g x.key x.sn.tick x.sn.time (kpS x) rfl W h4 h5 (by omega)).mono ?_
    rintro e w2 ⟨v2,rfl,i1,i2,i3⟩
    first | refine ⟨v2,rfl,?_⟩ | refine ⟨v2,rfl,trivial,?_⟩
    have ne1:=ownsApart h4 h1 (by decide)
    have ne2:=ownsApart h4 h2 (by decide)
    refine ⟨h1.grown i2 ne1,h2.grown i2 ne2,h3.trans (onlyGrown i2),i1,?_⟩
    rcases i3 with i3 | i3
    ·exact .inl i3
    ·exact .inr ⟨_,i3,h3.size,(i1.lt _ i3).2⟩
   intro v2 _
   repeat (apply wpChain_fix;(next=>rfl);(next=>(intro b W hW K hK;have y0:=(LyI.ring hW).1.cell 0;have y1:=(LyI.ring hW).2.cell 0;have y2:=(LyI.ring hW).2.cell 1;have y3:=(LyI.ring hW).2.cell 2;simp at y0 y1 y2 y3;go_simp;first | exact ⟨hW,hK⟩ | exact hK));(next=>exact ⟨_,HI.out⟩);(try go_simp))
   refine wpChain_nil ?_
   intro WD hWD
   obtain ⟨g1,g2,g3,g4,g5⟩:=hWD
   obtain ⟨hkeys,hlen2⟩ : keysUp (l ++ [x]) ∧ ((l ++ [x]).length : Int) ≤ 64:=by
    refine ⟨List.pairwise_append.2 ⟨HP.out.up,List.pairwise_singleton _ _,fun k hk y hy=>by simp at hy;subst hy;exact HL.out k hk⟩,?_⟩
    rw [List.length_append];simp only [List.length_singleton];omega
   have HF:=Lib.hid (ring_put (l2:=l ++ [x]) (v2:=v2) HP.out HB1.out g1 (Only.trans (Only.of_below HWC.out) g3) (by rw [List.length_append,List.flatMap_append];simpa [kpL] using g4) (g5.imp id (fun ⟨j,q1,q2,q3⟩=>⟨j,q1,Nat.le_trans HB2.out.size q2,q3⟩)) (fun k hk=>by
    rcases List.mem_append.1 hk with hk | hk
    ·exact .inl hk
    ·simp at hk;subst hk;exact .inr ⟨HXE.out.below HB1.out,HOK.out,HSX.out⟩) hkeys hlen2)
   obtain ⟨a2,c2',rfl,hc2⟩ : ∃ a2 c2',v2 = .slice a2 (l.length + 1) c2' ∧ l.length + 1 ≤ c2':=by
    obtain ⟨_,⟨rfl,hn⟩ | ⟨g,cap,cur,rfl,q1,q2,q3⟩⟩:=g4
    ·omega
    ·exact ⟨_,_,rfl,q3.1⟩
   have r0:=g1.cell 0
   have r1:=(g1.set 0 (.slice a2 (l.length + 1) c2')).cell 0
   have r2:=(g1.set 0 (.slice a2 (l.length + 1) c2')).cell 1
   have f0:=g1.free 0
   simp at r0 r1 r2 f0
   have m1 : ((l.length + 1 : Nat) : Int) ≤ most:=by omega
   clear g1 g2 g3 g4 g5 hkeys hlen2
   go_wp2_with fail
   have HSE : Hid ((WD.setCell ⟨R,0,none⟩ (.slice a2 (l.length + 1) c2')).heap.size = WD.heap.size):=Lib.hid (by simp [World.setCell])
   generalize hWE : WD.setCell ⟨R,0,none⟩ (.slice a2 (l.length + 1) c2') = WE at *
   clear hWE
   refine wp_region_calm 9 (by kernel_rfl) (by kernel_rfl) ?_
   simp only [List.take_succ_cons,List.take_zero,List.drop_succ_cons,List.drop_zero]
   repeat (apply wpCalm_step;(next=>(intro W hW K hK;have y0:=hW.cell r1;have y1:=hW.cell r2;go_simp;first | exact ⟨hW,hK⟩ | exact hK));(next=>exact CalmI.self _);(try go_simp))
   refine wpCalm_nil ?_
   intro WF hWC
   have hWFB : Below WE.heap.size WE WF:=hWC
   have HWF:=Lib.hid hWFB
   clear hWC hWFB r0 r1 r2 f0
   go_wp2_with fail
   exact bodyPost_ret (v:=.tuple #[.int .i64 0,.bool false,.int .i64 0]) (by simp [results,Tryz.results78,go_sem]) rfl ⟨rfl,(HF.out.1.below HWF.out).weaken (fun k hk=>hk.imp id (fun ⟨q1,q2⟩=>⟨q1,Nat.lt_of_lt_of_le (Nat.lt_of_lt_of_eq q2 HSE.out.symm) HWF.out.size⟩)),HF.out.2.then_below HWF.out⟩
set_option maxRecDepth 100000
structure StAt (w : World) (T R : Nat) (l : List Kpt) (most floor : Int) (gone : Bool) (S : Nat → Prop) : Prop where
 blk : ∃ cs : List Int,cs.length = 18 ∧ Blk w T (#[.pointer (some ⟨R,0,none⟩),.int .i64 most] ++ (cs.map (Value.int .i64)).toArray) 145
 ring : RingAt w R l most floor gone S
 sT : S T
theorem StAt.cells {w : World} {T R : Nat} {l : List Kpt} {most floor : Int} {gone : Bool} {S : Nat → Prop} (h : StAt w T R l most floor gone S) : w.cell? ⟨T,0,none⟩ = some (.pointer (some ⟨R,0,none⟩)) ∧ w.cell? ⟨T,1,none⟩ = some (.int .i64 most):=by
 obtain ⟨⟨cs,hcs,hb⟩,_,_⟩:=h
 have h0:=hb.cell 0
 have h1:=hb.cell 1
 simp at h0 h1
 exact ⟨h0,h1⟩
theorem StAt.only {w w' : World} {T R : Nat} {l : List Kpt} {most floor : Int} {gone : Bool} {S U : Nat → Prop} (h : StAt w T R l most floor gone S) (ho : Only U w w') (hd : ∀ k,S k → ¬ U k) : StAt w' T R l most floor gone S:=by
 obtain ⟨⟨cs,hcs,hb⟩,h2,h3⟩:=h
 exact ⟨⟨cs,hcs,ho.blk hb (hd _ h3)⟩,h2.only ho hd,h3⟩
theorem StAt.below {w w' : World} {T R : Nat} {l : List Kpt} {most floor : Int} {gone : Bool} {S : Nat → Prop} (h : StAt w T R l most floor gone S) (hb : Below w.heap.size w w') : StAt w' T R l most floor gone S :=
 h.only (Only.of_below (S:=fun _=>False) hb) (fun _ _ h=>h)
theorem stzero (p m : Value) : #[p,m] ++ ((List.replicate 18 (0 : Int)).map (Value.int .i64)).toArray = #[p,m,.int .i64 0,.int .i64 0,.int .i64 0,.int .i64 0,.int .i64 0,.int .i64 0,.int .i64 0,.int .i64 0,.int .i64 0,.int .i64 0,.int .i64 0,.int .i64 0,.int .i64 0,.int .i64 0,.int .i64 0,.int .i64 0,.int .i64 0,.int .i64 0]:=by simp [List.replicate]
set_option maxHeartbeats 1000000 in
theorem stnew_ok (most : Int) (h1 : 1 ≤ most) (h2 : most ≤ 64) (w : World) :
  Calls Tryz.prog 33 #[.int .i64 most] w fun e w'=>∃ T,e = .returned (.tuple #[.pointer (some ⟨T,0,none⟩),.int .i64 0]) ∧ StAt w' T w.heap.size [] most 0 false (fun k=>w.heap.size ≤ k ∧ k < w'.heap.size) ∧ Below w.heap.size w w' ∧ w.heap.size ≤ T ∧ T < w'.heap.size:=by
 have rn:=rgnew_ok most h1 h2
 go_enter Tryz.func33,Tryz.ntmps33
 go_wp2_with fail
 refine (rn _).mono ?_
 rintro e w1 ⟨rfl,hR,hB,hlt⟩
 have HF:=Lib.hid (show StAt (w1.alloc (.cells #[.pointer (some ⟨w.heap.size,0,none⟩),.int .i64 most,.int .i64 0,.int .i64 0,.int .i64 0,.int .i64 0,.int .i64 0,.int .i64 0,.int .i64 0,.int .i64 0,.int .i64 0,.int .i64 0,.int .i64 0,.int .i64 0,.int .i64 0,.int .i64 0,.int .i64 0,.int .i64 0,.int .i64 0,.int .i64 0] 145)) w1.heap.size w.heap.size [] most 0 false (fun k=>w.heap.size ≤ k ∧ k < w1.heap.size + 1) from
  ⟨⟨List.replicate 18 0,List.length_replicate,by rw [stzero];exact Blk.new _ _ _⟩,(hR.below ((Below.refl _ _).alloc (Nat.le_refl _) _)).weaken (fun k hk=>by subst hk;omega),by omega⟩)
 have HB:=Lib.hid (show Below w.heap.size w (w1.alloc (.cells #[.pointer (some ⟨w.heap.size,0,none⟩),.int .i64 most,.int .i64 0,.int .i64 0,.int .i64 0,.int .i64 0,.int .i64 0,.int .i64 0,.int .i64 0,.int .i64 0,.int .i64 0,.int .i64 0,.int .i64 0,.int .i64 0,.int .i64 0,.int .i64 0,.int .i64 0,.int .i64 0,.int .i64 0,.int .i64 0] 145)) from hB.alloc hB.size _)
 have HLT:=Lib.hid hlt
 clear rn hR hB hlt
 go_wp2_with fail
 exact bodyPost_ret (v:=.tuple #[.pointer (some ⟨w1.heap.size,0,none⟩),.int .i64 0]) (by simp [results,Tryz.results33,go_sem]) rfl ⟨w1.heap.size,rfl,by simpa using HF.out,HB.out,by have:=HLT.out;omega,by simp⟩
theorem EntsL.own {w : World} {a : Option Addr} {es : List Ent} (h : EntsL w a es) (hm : es ≠ []) : ∃ b off,a = some ⟨b,off,none⟩ ∧ ∀ j u,(es.flatMap entL)[j]? = some u → w.cell? ⟨b,off + j,none⟩ = some u:=by
 obtain ⟨h1,h2⟩:=h
 rcases h2 with h2 | ⟨b,off,rfl,hb,hc⟩
 ·exact absurd (List.eq_nil_of_length_eq_zero h2) hm
 refine ⟨b,off,rfl,fun j u hj=>?_⟩
 have hlen : (es.flatMap entL).length = es.length * 9:=flatEnc_len (fun _=>rfl) es
 have hjl : j < es.length * 9:=by rw [← hlen];exact (List.getElem?_eq_some_iff.1 hj).1
 have hi : j / 9 < es.length:=by omega
 have hx : es[j / 9]? = some (es.getD (j / 9) ent0):=by
  rw [List.getElem?_eq_getElem hi];simp [List.getD,hi]
 have hf:=flatEnc (enc:=entL) (fun _=>rfl) es (j / 9) _ hx (j % 9) (by omega)
 rw [show j / 9 * 9 + j % 9 = j by omega,hj] at hf
 have hcc : EntCells w b (off + j / 9 * 9) (es.getD (j / 9) ent0):=hc (j / 9) hi
 obtain ⟨c0,c1,c2,c3,c4,c5,c6,c7,c8⟩:=hcc
 generalize es.getD (j / 9) ent0 = e at *
 have hr : j % 9 < 9:=by omega
 have e9 : off + j = off + j / 9 * 9 + j % 9:=by omega
 rw [e9]
 generalize j % 9 = r at *
 match r,hr with
 | 0,_=>cases hf;exact c0
 | 1,_=>cases hf;exact c1
 | 2,_=>cases hf;exact c2
 | 3,_=>cases hf;exact c3
 | 4,_=>cases hf;exact c4
 | 5,_=>cases hf;exact c5
 | 6,_=>cases hf;exact c6
 | 7,_=>cases hf;exact c7
 | 8,_=>cases hf;exact c8
end Go.Proofs.YtklkooeimkedgaaGreat
