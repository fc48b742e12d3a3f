/- Walk of TopBeyond. -/
import Derived.Maps.RangeRun
import Derived.Test.YtklkooeimkedgaaGreatB37
set_option linter.unusedVariables false
set_option linter.unusedSimpArgs false
namespace Go.Proofs.YtklkooeimkedgaaGreat
open Go.RowKit Go.Shelf
set_option maxRecDepth 100000
attribute [local go_sem] Oper.semAt_some
def yB : Value -> aB
 | .agg cs=>match cs.toList with
   | [.int _ a,.int _ b,.int _ c,.int _ d,.int _ e,.int _ f,.int _ g,.int _ h,.int _ i]=>⟨a,b,c,d,e,f,g,h,i⟩
   | _=>bK
 | _=>bK
theorem DY (e : aB) : yB (bM e) = e:=rfl
theorem ME {es : List MapEntry} {l : List aB} (h : es.map (λx=>(x.key,x.val)) = l.map vE) : es.map (λx=>yB x.val) = l /\ ∀ x ∈ es,∃ e,x.val = bM e /\ x.key = .int .i64 e.id:=by
 induction es generalizing l with
 | nil=>cases l with
   | nil=>exact ⟨rfl,by simp⟩
   | cons=>simp at h
 | cons x es ih=>cases l with
   | nil=>simp at h
   | cons e l =>
     simp only [List.map_cons,List.cons.injEq,vE,Prod.mk.injEq] at h
     obtain ⟨⟨hk,hv⟩,ht⟩:=h
     obtain ⟨i1,i2⟩:=ih ht
     refine ⟨by rw [List.map_cons,hv,DY,i1],λy hy=>?_⟩
     rcases List.mem_cons.1 hy with rfl | hy
     ·exact ⟨e,hv,hk⟩
     ·exact i2 y hy
theorem Bq (e : MapEntry) (seen : Array Nat) (hs : seen.contains e.born = false) : ∀ (es : List MapEntry),(es.map (·.born)).Nodup -> e ∈ es ->
 (es.filter (λx=>!seen.contains x.born)).Perm (e :: es.filter (λx=>!(seen.push e.born).contains x.born))
 | [],_,h=>by simp at h
 | x :: es,hn,h=>by
   rw [List.map_cons,List.nodup_cons] at hn
   by_cases hx : x = e
   ·subst hx
    rw [List.filter_cons_of_pos (by simpa using hs),List.filter_cons_of_neg (by simp [contains_push])]
    refine List.Perm.cons _ (List.Perm.of_eq (List.filter_congr λy hy=>?_))
    have hne : (y.born == x.born) = false:=by
     simp only [beq_eq_false_iff_ne,ne_eq]
     exact λhh=>hn.1 (hh ▸ List.mem_map_of_mem hy)
    rw [contains_push,hne,Bool.or_false]
   ·have he : e ∈ es:=by
     rcases List.mem_cons.1 h with h | h
     ·exact absurd h.symm hx
     ·exact h
    have hne : (x.born == e.born) = false:=by
     simp only [beq_eq_false_iff_ne,ne_eq]
     exact λhh=>hn.1 (hh ▸ List.mem_map_of_mem he)
    have hc : (seen.push e.born).contains x.born = seen.contains x.born:=by rw [contains_push,hne,Bool.or_false]
    have ih:=Bq e seen hs es hn.2 he
    by_cases hk : seen.contains x.born = true
    ·rw [List.filter_cons_of_neg (by simpa using hk),List.filter_cons_of_neg (by rw [hc];simpa using hk)]
     exact ih
    ·rw [List.filter_cons_of_pos (by simpa using hk),List.filter_cons_of_pos (by rw [hc];simpa using hk)]
     exact (List.Perm.cons _ ih).trans (List.Perm.swap _ _ _)
theorem values_in (F : Fence) (n : Nat) (hf : F.fn 172) (hro : F.round = none) (mb : Option Nat) (w : World) :
 CallsIn F n Tryz.prog 172 #[.map mb] w λe w'=>e = .returned (.func (.func 202) #[] #[.pointer (some ⟨w.heap.size,0,none⟩)]) /\ w' = w.alloc (.cells #[.map mb] lV):=by
 refine callsIn_of_wp Tryz.func172 rfl hf ?_ hro
 simp only [Tryz.ntmps172,List.size_toArray,List.length_cons,List.length_nil,Nat.reduceAdd,Nat.reduceSub,Array.replicate_succ,Array.replicate_zero,List.push_toArray,List.append_toArray,List.nil_append,List.cons_append]
 gi_wp2
 go_ret
 exact ⟨rfl,rfl⟩
set_option maxHeartbeats 2000000 in
theorem Oc (F : Fence) (n : Nat) (Dm : F.fn 202) (hro : F.round = none) (hn : 1 <= n) (l Bs b : Nat) (es : Array MapEntry) (clock : Nat) (ls : List aB) (J Jx : List aB -> World -> Prop)
 (W : World) (hJ : AbidesFrom W.heap.size J) (hb : W.heap[b]? = some (.map es clock)) (he : es.toList.map (λx=>(x.key,x.val)) = ls.map vE) (hnd : (es.toList.map (·.born)).Nodup) (hold : ∀ x ∈ es.toList,x.born < clock)
 (hY : ∀ pre x W,J pre W -> pre.length < ls.length -> YieldAt F (n - 1) Tryz.prog l #[bM x] W λe W' =>
   (e = .returned (.bool true) /\ J (pre ++ [x]) W' /\ KeepsWalks W W') \/ (e = .returned (.bool false) /\ Jx (pre ++ [x]) W'))
 (qo : W.cell? ⟨Bs,0,none⟩ = some (.map (some b))) (h0 : J [] W) :
 CallsIn F n Tryz.prog 202 #[.func (.yield l) #[] #[],.pointer (some ⟨Bs,0,none⟩)] W λe W'=>(∃ v,e = .returned v) /\
  ((∃ xs,xs.Perm ls /\ J xs W') \/ (∃ pre,True /\ Jx pre W')):=by
 have hrange:=run_range_map (P:=Tryz.prog) W lV 3 33 b es clock Tryz.underlying90 hb
 obtain ⟨hvl,hvs⟩:=ME he
 have hbl : b < W.heap.size:=(Array.getElem?_eq_some_iff.1 hb).1
 refine callsIn_of_wp Tryz.func202 rfl Dm ?_ hro
 simp only [Tryz.ntmps202,List.size_toArray,List.length_cons,List.length_nil,Nat.reduceAdd,Nat.reduceSub,Array.replicate_succ,Array.replicate_zero,List.push_toArray,List.append_toArray,List.nil_append,List.cons_append]
 gi_wp2
 clear hrange
 have hsz0 : (W.alloc (.mapIter (some b) clock #[] clock)).heap.size = W.heap.size + 1:=by simp
 have hJ0 : J [] (W.alloc (.mapIter (some b) clock #[] clock)):=hJ [] W _ none h0 (World.grownBy_alloc W _ none) (λr e=>by cases e)
 have hb0 : (W.alloc (.mapIter (some b) clock #[] clock)).heap[b]? = some (.map es clock):=(Below.heap_alloc _ _ _ hbl).trans hb
 have hi0 : (W.alloc (.mapIter (some b) clock #[] clock)).heap[W.heap.size]? = some (.mapIter (some b) clock #[] clock):=Go.heap_alloc_new W _
 have HN : Hid (∀ x ∈ es.toList,x.born < clock):=aiS hold
 have HV:=aiS hvs;have Bt:=aiS hnd
 gi_loopw [4] (λ_ wr=>∃ (seen : Array Nat) (pre : List aB),wr.heap[b]? = some (.map es clock) /\ wr.heap[W.heap.size]? = some (.mapIter (some b) clock seen clock) /\ (pre ++ (leftOf es seen).toList.map (λx=>yB x.val)).Perm ls /\ J pre wr)
  (λ_ wr=>match wr.heap[W.heap.size]? with | some (.mapIter _ _ seen _)=>(leftOf es seen).size | _=>0)
 case atStart=>exact ⟨#[],[],hb0,hi0,by
  have : (leftOf es #[]).toList = es.toList:=by unfold leftOf;simp
  rw [this,hvl];exact List.Perm.refl _,hJ0⟩
 case round =>
  rename_i wr
  obtain ⟨seen,pre,hbw,hiw,hp,hJw⟩:=hrel
  rcases (λty=>run_next_at (P:=Tryz.prog) wr ty W.heap.size b clock clock seen es clock hiw hbw HN.out (Nat.le_refl _)) with hnx
  rcases hnx 0 with ⟨hl0,hrun⟩ | ⟨e,hem,w1,hw1,hrun⟩
  ·have hJe : J pre wr:=hJw
   have hpe : pre.Perm ls:=by
    have : (leftOf es seen).toList = []:=by
     apply List.eq_nil_of_length_eq_zero;simpa using hl0
    rw [this] at hp
    simpa using hp
   clear hnx
   gi_wp2
   go_end0
   exact ⟨⟨_,rfl⟩,.inl ⟨pre,hpe,hJe⟩⟩
  ·obtain ⟨hes,hns⟩:=mem_left hem
   obtain ⟨x,hx,hkx⟩:=HV.out e hes
   have V8 : yB e.val = x:=by rw [hx,DY]
   obtain ⟨w2,hw2⟩ : ∃ w2,ChangeMaps.setBlock w1 W.heap.size (.mapIter (some b) clock (seen.push e.born) clock) = w2:=⟨_,rfl⟩
   have hs1 : w1.heap.size = wr.heap.size:=by rcases hw1 with rfl | rfl <;> rfl
   have hil : W.heap.size < wr.heap.size:=(Array.getElem?_eq_some_iff.1 hiw).1
   have hbw2 : w2.heap[b]? = some (.map es clock):=by
    rw [← hw2]
    show (w1.heap.setIfInBounds _ _)[b]? = _
    rw [Array.getElem?_setIfInBounds_ne (by omega)]
    rcases hw1 with rfl | rfl <;> exact hbw
   have Bu : w2.heap[W.heap.size]? = some (.mapIter (some b) clock (seen.push e.born) clock):=by
    rw [← hw2]
    show (w1.heap.setIfInBounds _ _)[W.heap.size]? = _
    rw [Array.getElem?_setIfInBounds_self_of_lt (by omega)]
   have hgr : wr.grownBy w2 (some W.heap.size):=by
    rw [← hw2]
    refine ⟨?_,?_,?_,?_,λk hk hne=>?_⟩
    ·rcases hw1 with rfl | rfl <;> rfl
    ·rcases hw1 with rfl | rfl <;> rfl
    ·rcases hw1 with rfl | rfl <;> rfl
    ·show wr.heap.size <= (w1.heap.setIfInBounds _ _).size;simp;omega
    ·show (w1.heap.setIfInBounds _ _)[k]? = _
     rw [Array.getElem?_setIfInBounds_ne (λh=>hne (by rw [h]))]
     rcases hw1 with rfl | rfl <;> rfl
   have hJ2 : J pre w2:=hJ _ wr w2 (some W.heap.size) hJw hgr (λr e=>by cases e;exact ⟨Nat.le_refl _,_,hiw,rfl⟩)
   have hent:=run_entry_at (P:=Tryz.prog) w2 W.heap.size b clock seen es clock e Bu hbw2 hes Bt.out
   have hp2 : ((pre ++ [x]) ++ (leftOf es (seen.push e.born)).toList.map (λx=>yB x.val)).Perm ls:=by
    refine List.Perm.trans ?_ hp
    have h1:=Bq e seen hns es.toList Bt.out hes
    have h2:=List.Perm.map (λx=>yB x.val) h1
    unfold leftOf
    rw [Array.toList_filter,Array.toList_filter,List.append_assoc]
    refine List.Perm.append_left _ ?_
    rw [List.map_cons,V8] at h2
    exact h2.symm
   have hlen : pre.length < ls.length:=by
    have:=hp2.length_eq
    simp at this
    omega
   have hlt : (leftOf es (seen.push e.born)).size < (leftOf es seen).size:=left_shrinks es seen e hem
   rw [hw2] at hrun
   rw [hx] at hrun hent
   have hJ3 : J pre (w2.alloc (.cells #[.int .i64 x.id,.int .i64 x.px,.int .i64 x.py,.int .i64 x.pz,.int .i64 x.vx,.int .i64 x.vy,.int .i64 x.vz,.int .u16 x.aJ,.int .u8 x.gen] 33)):=hJ _ w2 _ none hJ2 (World.grownBy_alloc w2 _ none) (λr e=>by cases e)
   obtain ⟨fn,tmps,assign,body,hy,hR⟩:=hY pre x _ hJ3 hlen
   have UC : b < w2.heap.size:=(Array.getElem?_eq_some_iff.1 hbw2).1
   have aeM : W.heap.size < w2.heap.size:=(Array.getElem?_eq_some_iff.1 Bu).1
   have aeN:=(Below.heap_alloc w2 (.cells #[.int .i64 x.id,.int .i64 x.px,.int .i64 x.py,.int .i64 x.pz,.int .i64 x.vx,.int .i64 x.vy,.int .i64 x.vz,.int .u16 x.aJ,.int .u8 x.gen] 33) b UC).trans hbw2;have aeO:=(Below.heap_alloc w2 (.cells #[.int .i64 x.id,.int .i64 x.px,.int .i64 x.py,.int .i64 x.pz,.int .i64 x.vx,.int .i64 x.vy,.int .i64 x.vz,.int .u16 x.aJ,.int .u8 x.gen] 33) W.heap.size aeM).trans Bu;have HI:=aiS hiw;have yO:=aiS hp2;have dI:=aiS hlt;clear hnx hp hp2 hgr hJ2 hem hlen hiw hbw hw1 hs1 hlt
   unfold bM at hrun hent hy
   gi_wp2
   refine hR.mono ?_
   rintro e' W3 (⟨rfl,hJ4,hk3⟩ | ⟨rfl,hJx3⟩)
   ·have hb4:=hk3.same b _ aeN rfl
    have hi4:=hk3.same W.heap.size _ aeO rfl
    gi_wp2
    go_roundw
    case rel=>exact ⟨seen.push e.born,pre ++ [x],hb4,hi4,yO.out,hJ4⟩
    case measure=>simp only [hi4,HI.out];exact dI.out
   ·gi_wp2
    refine bodyPost_ret (results_none rfl _ _ _) rfl ?_
    exact ⟨⟨_,rfl⟩,.inr ⟨_,trivial,hJx3⟩⟩
theorem values_stops (F : Fence) (n : Nat) (Dm : F.fn 202) (hro : F.round = none) (hn : 1 <= n) (Bs b : Nat) (ls : List aB) (w : World) (qo : Bs < w.heap.size) (hm : w.cell? ⟨Bs,0,none⟩ = some (.map (some b))) (hM : bW w b ls) :
 SeqStopsK F n Tryz.prog 202 #[.pointer (some ⟨Bs,0,none⟩)] (λe=>#[bM e]) KeepsWalks (λxs=>xs.Perm ls) (λ_=>True) ls.length w:=λl J Jx W hW hJ _ hY h0=>by
 have hbl:=hM.lt
 obtain ⟨es,clock,hb,he,hnd,hold,_⟩:=hM
 exact Oc F n Dm hro hn l Bs b es clock ls J Jx W hJ ((hW.block b hbl).trans hb) he hnd hold hY ((hW.cell (p:=⟨Bs,0,none⟩) qo).trans hm) h0
end Go.Proofs.YtklkooeimkedgaaGreat
namespace Go.Proofs.YtklkooeimkedgaaGreat
open Go.RowKit Go.Shelf
set_option maxRecDepth 100000
attribute [local go_sem] Oper.semAt_some
def jZ (e : aB) : List Value:=[.int .i64 e.id,.int .i64 e.px,.int .i64 e.py,.int .i64 e.pz,.int .i64 e.vx,.int .i64 e.vy,.int .i64 e.vz,.int .u16 e.aJ,.int .u8 e.gen]
abbrev bN (e : aB) : Array Value:=#[.int .i64 e.id,.int .i64 e.px,.int .i64 e.py,.int .i64 e.pz,.int .i64 e.vx,.int .i64 e.vy,.int .i64 e.vz,.int .u16 e.aJ,.int .u8 e.gen]
def aM (w : World) (base : Nat) (v : Value) (es : List aB) : Prop:=w.ownsRow base 33 9 v es.length (es.flatMap jZ)
theorem aM.nil (w : World) (base : Nat) : aM w base (.slice none 0 0) []:=World.ownsRow_nil _ _ _ _
theorem aM.only {w w' : World} {base : Nat} {v : Value} {es : List aB} {S : Nat -> Prop} (h : aM w base v es) (ho : Only S w w') (hS : ∀ j,v.ownBlock = some j -> ¬ S j) : aM w' base v es:=by
 have hlt:=h.lt
 obtain ⟨h1,h2⟩:=h
 refine ⟨h1,?_⟩
 rcases h2 with h2 | ⟨g,cap,cur,rfl,a,b,c⟩
 ·exact .inl h2
 ·exact .inr ⟨g,cap,cur,rfl,a,by rw [ho.block g (hlt g rfl).2 (hS g rfl)];exact b,c⟩
theorem aM.below {w w' : World} {base : Nat} {v : Value} {es : List aB} (h : aM w base v es) (hb : Below w.heap.size w w') : aM w' base v es :=
 h.only (Only.of_below (S:=λ_=>False) hb) (λ_ _ h=>h)
theorem aM.kept {w w' : World} {base : Nat} {v : Value} {es : List aB} {row : Option Nat} (h : aM w base v es) (hg : w.grownBy w' row) (hrow : ∀ r,row = some r -> ∃ o : Obj,w.heap[r]? = some o /\ o.isCells = false) : aM w' base v es:=by
 obtain ⟨h1,h2⟩:=h
 refine ⟨h1,?_⟩
 rcases h2 with h2 | ⟨g,cap,cur,rfl,a,b,c⟩
 ·exact .inl h2
 ·exact .inr ⟨g,cap,cur,rfl,a,by rw [grownBy_keeps_cells hg hrow b rfl];exact b,c⟩
theorem MF : (Tryz.prog.info? 33).map (λi=>(i.zero,i.size,i.bytes)) = some (some (.agg #[.int .i64 0,.int .i64 0,.int .i64 0,.int .i64 0,.int .i64 0,.int .i64 0,.int .i64 0,.int .u16 0,.int .u8 0]),9,64):=by kernel_rfl
theorem UD (e : aB) : ∀ u ∈ jZ e,u.oneCell' = true:=by intro u hu;simp [jZ] at hu;rcases hu with rfl | rfl | rfl | rfl | rfl | rfl | rfl | rfl | rfl <;> rfl
theorem CZ {w w' : World} {row : Option Nat} (hg : w.grownBy w' row) (hrow : ∀ j,row = some j -> ∃ o : Obj,w.heap[j]? = some o /\ o.isCells = true) : KeepsOthers w w' :=
 ⟨hg.size,λk o hk ho=>by
  rw [hg.block k (Array.getElem?_eq_some_iff.1 hk).1 (λe=>?_)]
  ·exact hk
  ·obtain ⟨o',h1,h2⟩:=hrow k e.symm
   rw [hk] at h1;cases h1;rw [ho] at h2;cases h2⟩
theorem aM.isCells {w : World} {base : Nat} {v : Value} {es : List aB} (h : aM w base v es) : ∀ j,v.ownBlock = some j -> ∃ o : Obj,w.heap[j]? = some o /\ o.isCells = true:=by
 intro j hj
 obtain ⟨_,⟨rfl,_⟩ | ⟨g,cap,cur,rfl,a,b,c⟩⟩:=h
 ·cases hj
 ·cases hj;exact ⟨_,b,rfl⟩
theorem aM.slice {w : World} {base : Nat} {v : Value} {es : List aB} (h : aM w base v es) : ∃ a c,v = .slice a es.length c /\ (a = none -> c = 0):=by
 obtain ⟨_,⟨rfl,hn⟩ | ⟨g,cap,cur,rfl,a,b,c⟩⟩:=h
 ·exact ⟨none,0,by rw [hn],λ_=>rfl⟩
 ·exact ⟨_,_,rfl,λh=>by cases h⟩
set_option maxHeartbeats 2000000 in
theorem Lp (Bs b : Nat) (ls : List aB) (hls : ls.length <= 1000000) (w : World) (qo : Bs < w.heap.size) (hm : w.cell? ⟨Bs,0,none⟩ = some (.map (some b))) (hM : bW w b ls) :
 Calls Tryz.prog 211 #[.slice none 0 0,.func (.func 202) #[] #[.pointer (some ⟨Bs,0,none⟩)]] w λe w'=>∃ v xs,e = .returned v /\ xs.Perm ls /\ aM w' w.heap.size v xs /\ Below w.heap.size w w':=by
 refine (callsIn_wide (n:=9)).1 ?_
 refine callsIn_of_wp_marks Tryz.func211 rfl trivial ?_ rfl
 simp only [Tryz.ntmps211,List.size_toArray,List.length_cons,List.length_nil,Nat.reduceAdd,Nat.reduceSub,Array.replicate_succ,Array.replicate_zero,List.push_toArray,List.append_toArray,List.nil_append,List.cons_append]
 gi_wp2
 obtain ⟨i0,hi,hz0,hz1,hz2⟩:=info_parts MF
 have hB0 : Below w.heap.size w (w.alloc (.cells #[.slice none 0 0] 34)):=aiT
 have hS0:=ak.new w #[.slice none 0 0] 34
 have hsz : (w.alloc (.cells #[.slice none 0 0] 34)).heap.size = w.heap.size + 1:=by simp
 have hm0 : (w.alloc (.cells #[.slice none 0 0] 34)).cell? ⟨Bs,0,none⟩ = some (.map (some b)):=(hB0.cell (p:=⟨Bs,0,none⟩) qo).trans hm
 have hM0:=hM.below hB0 hM.lt
 obtain ⟨W0,hW0⟩ : ∃ W0,w.alloc (.cells #[.slice none 0 0] 34) = W0:=⟨_,rfl⟩
 rw [hW0] at hB0 hS0 hsz hm0 hM0 ⊢
 obtain ⟨s0,hs0⟩ : ∃ n,w.heap.size = n:=⟨_,rfl⟩
 have ahZ : Bs < s0:=by omega
 rw [hs0] at hB0 hS0 hsz ⊢
 refine wpIn_rangeFunc_ownH rfl (by omega) (gf:=202) (lb:=#[.pointer (some ⟨Bs,0,none⟩)]) rfl trivial (enters_of Tryz.func202 (by kernel_rfl) rfl)
  (values_stops Fence.wide 8 trivial rfl (by omega) Bs b ls W0 (by omega) hm0 hM0) (λh k=>h.trans k) (λW l o o' _ h1 _ h3=>⟨by simp,λk ob hk ho=>by
    by_cases e : k = l
    ·subst e;rw [h1] at hk;cases hk;rw [h3] at ho;cases ho
    ·exact (World.putObj_heap_other e).trans hk⟩) aiU (λ_=>rfl)
  (λpre W=>∃ v,ak W s0 #[v] 34 /\ aM W s0 v pre /\ Below s0 w W)
  (λ_ _ _=>False)
  (λpre X Y row hs hg hr=>by
    obtain ⟨v,h1,h2,h3⟩:=hs
    exact ⟨v,kW s0 34 (λ(_ : Unit)=>#[v]) () X Y row h1 hg (λr e=>(hr r e).2),h2.kept hg (λr e=>(hr r e).2),h3.grown hg (Nat.le_trans (by omega) h3.size) (λk e=>Nat.le_trans (by omega) (hr k e).1)⟩)
  (λ_ _ _ _ _ h _ _=>h.elim)
  ⟨.slice none 0 0,hS0,aM.nil _ _,hB0⟩
  (λx a' W=>∃ Bx,ak W Bx (bN x) 33 /\ a' = { tmps:=#[.slice none 0 0,.func (.func 202) #[] #[.pointer (some ⟨Bs,0,none⟩)],.pointer (some ⟨s0,0,none⟩),undef,.slice none 0 0,.pointer (some ⟨Bx,0,none⟩),.func (.func 202) #[] #[.pointer (some ⟨Bs,0,none⟩)],.agg (bN x),undef,undef,undef,undef,undef],defers:=[] })
  (λx a' _ X Y row hs hg hr=>by obtain ⟨Bx,h1,h3⟩:=hs;exact ⟨Bx,kW Bx 33 (λ(_ : Unit)=>bN x) () X Y row h1 hg (λr e=>(hr r e).2),h3⟩)
  ?assign ?body ?done ?stop
 case assign =>
  rintro l pre x W KK ⟨v,hs,ho,hB⟩ hK
  have qo : s0 <= W.heap.size:=by have:=hB.size;omega
  unfold bM
  gi_wp2
  exact hK _ _ ((KeepsOthers.alloc _ _).from _) (KeepsWalks.alloc _ _) ⟨v,hs.alloc _,ho.below (aiT),hB.alloc qo _⟩ ⟨W.heap.size,ak.new W _ _,rfl⟩
 case body =>
  rintro l pre x a' W hl ⟨r,hr⟩ ⟨v,hs,ho,hB⟩ ⟨Bx,bX,rfl⟩ hlt
  have qo : s0 <= W.heap.size:=by have:=hB.size;omega
  have q2:=hs.cell 0;have f2:=hs.free 0;have x0:=bX.cell 0;have x1:=bX.cell 1;have x2:=bX.cell 2;have x3:=bX.cell 3;have x4:=bX.cell 4;have x5:=bX.cell 5;have x6:=bX.cell 6;have x7:=bX.cell 7;have x8:=bX.cell 8;simp at q2 x0 x1 x2 x3 x4 x5 x6 x7 x8
  have hlt2 : pre.length <= 1000000:=by omega
  have hoA : aM (W.alloc (.cells (bN x) 33)) s0 v pre:=ho.below (aiT)
  have hsA:=hs.alloc (.cells (bN x) 33)
  have MG : Below s0 w (W.alloc (.cells (bN x) 33)):=hB.alloc qo _
  have hKA : KeepsOthers W (W.alloc (.cells (bN x) 33)):=KeepsOthers.alloc _ _
  have HC:=aiS (show aM (W.alloc (.cells (bN x) 33)) s0 v pre /\ ak (W.alloc (.cells (bN x) 33)) s0 #[v] 34 /\ Below s0 w (W.alloc (.cells (bN x) 33)) /\ KeepsOthers W (W.alloc (.cells (bN x) 33)) from ⟨hoA,hsA,MG,hKA⟩)
  have zi:=aiS hs0
  have GY:=aiS (show pre.length + 1 <= maxLen /\ (pre.length + 1) * 64 <= 140737488355328 by unfold maxLen;omega)
  have hin : ∀ (j : Nat) (u : Value),(jZ x)[j]? = some u -> (W.alloc (.cells (bN x) 33)).cell? ((⟨W.heap.size,0,none⟩ : Addr).add j) = some u:=by
   intro j u hj
   have e : (⟨W.heap.size,0,none⟩ : Addr).add j = ⟨W.heap.size,j,none⟩:=by unfold Addr.add;split <;> simp_all
   rw [e,(ak.new W (bN x) 33).cell j]
   simpa [jZ] using hj
  have hszA : s0 <= (W.alloc (.cells (bN x) 33)).heap.size:=by simp;omega
  clear hoA hsA MG hKA hs ho hB hs0
  gi_wp2_with (gi_at_builtin;refine wpListIn_append_own _ rfl (.tmp 8) (.tmp 10) 34 rfl s0 33 i0 (.agg #[.int .i64 0,.int .i64 0,.int .i64 0,.int .i64 0,.int .i64 0,.int .i64 0,.int .i64 0,.int .u16 0,.int .u8 0]) 9 64 Tryz.underlying34 hi hz0 hz1 hz2 rfl (by decide) v pre.length (pre.flatMap jZ) rfl HC.out.1 ⟨W.heap.size,0,none⟩ 1 1 (jZ x) rfl rfl hin (UD x) GY.out.1 GY.out.2 hszA ?_)
  intro v' w' h1 h2 h3
  have hE : aM w' s0 v' (pre ++ [x]):=by unfold aM;rw [List.length_append,List.flatMap_append];simpa using h1
  have hs':=HC.out.2.1.grown h2 (bJ HC.out.1 HC.out.2.1 (by decide))
  have hB' : Below s0 w w':=HC.out.2.2.1.grown h2 hszA (λj e=>(HC.out.1.lt j e).1)
  have hK':=HC.out.2.2.2.trans (CZ h2 HC.out.1.isCells)
  obtain ⟨av,cv,rfl,_⟩:=hE.slice
  have q3:=hs'.cell 0;have f3:=hs'.free 0;simp at q3
  have hne:=bJ hE hs' (by decide)
  have HF:=aiS (show KeepsOthers W (w'.setCell ⟨s0,0,none⟩ (.slice av (pre ++ [x]).length cv)) /\ ak (w'.setCell ⟨s0,0,none⟩ (.slice av (pre ++ [x]).length cv)) s0 #[.slice av (pre ++ [x]).length cv] 34 /\ aM (w'.setCell ⟨s0,0,none⟩ (.slice av (pre ++ [x]).length cv)) s0 (.slice av (pre ++ [x]).length cv) (pre ++ [x]) /\ Below s0 w (w'.setCell ⟨s0,0,none⟩ (.slice av (pre ++ [x]).length cv)) from
   ⟨hK'.trans (KeepsOthers.setCell _ _ _),by simpa using hs'.set 0 (.slice av (pre ++ [x]).length cv),hE.only ((Only.refl (λk=>k = s0) w').setCell (p:=⟨s0,0,none⟩) (.inl rfl) _) (λj e h=>hne (by rw [e,h])),hB'.setCell (p:=⟨s0,0,none⟩) (Nat.le_refl _) _⟩)
  have HLP : Hid ((pre ++ [x]).length = pre.length + 1):=aiS (by simp)
  rw [HLP.out] at HF
  clear hE hs' hB' hK' hne h1 h2 h3 HC hin
  simp only [HLP.out]
  gi_wp2
  exact ⟨HF.out.1.from _,HF.out.1.walks,⟨_,HF.out.2.1,HF.out.2.2.1,HF.out.2.2.2⟩⟩
 case done =>
  rintro D ys W hD hperm ⟨v,hs,ho,hB⟩ hK
  have q2:=hs.cell 0;simp at q2
  gi_wp2
  refine ⟨by simp,.inl ⟨_,_,rfl,run_takeDeferred hK,?_⟩⟩
  refine ⟨v,?_,v,ys,rfl,hperm,?_,?_⟩
  ·simp [results,Tryz.f211,go_sem]
  ·rw [hs0];exact ho.kept (grownBy_putObj' _ D (.deferred none)) (λr e=>by cases e;exact ⟨_,hK,rfl⟩)
  ·rw [hs0];exact hB.trans (belowK_b (w:=w) (by omega) _ D _ _ (by omega) hK rfl rfl)
 case stop =>
  rintro D c pre W hD _ h hK
  exact h.elim
end Go.Proofs.YtklkooeimkedgaaGreat
