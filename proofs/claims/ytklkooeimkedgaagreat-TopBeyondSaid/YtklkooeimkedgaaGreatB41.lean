/- Walk of TopBeyond. -/
import Derived.Laws.CopyOwn
import Derived.Maps.AppendAt
import Derived.Test.YtklkooeimkedgaaGreatB40
set_option linter.unusedVariables false
set_option linter.unusedSimpArgs false
namespace Go.Proofs.YtklkooeimkedgaaGreat
open Go.RowKit
set_option maxRecDepth 100000
theorem CU : (Tryz.prog.info? 221).map (λi=>(i.zero,i.size,i.bytes)) = some (some (.agg #[.int .i64 0,.int .i64 0,.int .i64 0,.slice none 0 0]),4,48):=by kernel_rfl
theorem D7 {ops : Array Oper} {rest : List Oper} {o : Oper} {a : Act} {Q : Exit -> Act -> World -> Prop} (w : World) (hgd : o.guard = none) (s x : Operand) (tS tE : TypeId)
 (ho : o.op = .call { callee:=.builtin .append,args:=#[s,x],argTypes:=#[tS,tS] })
 (base : Nat) (z : Value) (k bytes : Nat) (ht : Tryz.prog.underlying tS = some (.slice tE)) (hinfo : (Tryz.prog.info? tE).map (λi=>(i.zero,i.size,i.bytes)) = some (some z,k,bytes)) (hzs : z.cells.size = k) (hk : 0 < k)
 (v : Value) (n : Nat) (xs : List Value) (hs : a.eval s = v) (hown : w.ownsRow base tE k v n xs)
 (g : Nat) (cs : Array Value) (hx : a.eval x = .slice (some ⟨g,0,none⟩) 1 1) (hb : ak w g cs tE) (hcs : cs.size = k) (h1 : ∀ u ∈ cs.toList,u.oneCell' = true)
 (h63 : n + 1 <= maxLen) (hbytes : (n + 1) * bytes <= 140737488355328) (hbase : base <= w.heap.size)
 (h : ∀ v' w',w'.ownsRow base tE k v' (n + 1) (xs ++ cs.toList) -> w.grownBy w' v.ownBlock -> (v'.ownBlock = v.ownBlock \/ v'.ownBlock = some w.heap.size) -> wpList Tryz.prog ops Q rest (a.put o.dst v') w') : wpList Tryz.prog ops Q (o :: rest) a w:=by
 obtain ⟨i0,hi,hz0,hz1,hz2⟩:=info_parts hinfo
 refine wpList_append_own_at w hgd s x tS ho base tE i0 z k bytes ht hi hz0 hz1 hz2 hzs hk v n xs hs hown ⟨g,0,none⟩ 1 1 cs.toList hx (by simp [hcs]) ?_ h1 h63 hbytes hbase (λv' w' h2 h3 _ h4=>h v' w' h2 h3 h4)
 intro j u hj
 have e : (⟨g,0,none⟩ : Addr).add j = ⟨g,j,none⟩:=by unfold Addr.add;split <;> simp_all
 rw [e,hb.cell j]
 simpa using hj
set_option maxHeartbeats 1000000 in
theorem UL (a : Option Addr) (cap n : Nat) (xs : List Value) (hcap : n <= cap) (g : Nat) (k t m : Int) (s : Value) (hs : s.oneCell' = true) (w : World) (hrow : w.ownsRow 0 bL 4 (.slice a n cap) n xs) (hg : ak w g #[.int .i64 k,.int .i64 t,.int .i64 m,s] bL) (hn : n <= 64) :
 Calls Tryz.prog 120 #[.slice a n cap,.int .i64 (n : Nat),.slice (some ⟨g,0,none⟩) 1 1] w λe w'=>∃ v',e = .returned v' /\ w'.ownsRow 0 bL 4 v' (n + 1) (xs ++ [.int .i64 k,.int .i64 t,.int .i64 m,s]) /\ w.grownBy w' (Value.slice a n cap).ownBlock /\ (v'.ownBlock = (Value.slice a n cap).ownBlock \/ v'.ownBlock = some w.heap.size):=by
 have aeW:=aiS hrow;have HG:=aiS hg
 have HC : Hid (cap = cap):=aiS rfl
 have a1 : ¬ (n : Int) < 0:=by omega
 have a2 : ¬ (cap : Int) < n:=by omega
 have a3 : (n : Int) <= cap:=by omega
 clear hrow hg
 go_enter Tryz.func120,Tryz.ntmps120
 go_wp2_with (at_builtin;refine D7 w rfl (.tmp 23) (.tmp 24) 193 bL rfl 0 _ 4 48 Tryz.underlying193 CU rfl (by decide) _ n xs rfl aeW.out g _ rfl HG.out rfl ?c1 ?c2 ?c3 (Nat.zero_le _) ?_)
 all_goals first
  | exact ⟨rfl,rfl,rfl⟩
  | (unfold maxLen;omega)
  | omega
  | (intro v' w' h1 h2 h3
     have HV:=aiS (And.intro h1 (And.intro h2 h3));clear h1 h2 h3
     go_wp2_with fail
     exact bodyPost_ret (v:=v') (by simp [results,Tryz.results120,go_sem]) rfl ⟨v',rfl,by first | exact HV.out | (rw [show cap = n by omega];exact HV.out)⟩)
set_option maxRecDepth 100000
theorem qL {P : Program} (w : World) (dT sT ty elem : TypeId) (k g o dLen dCap : Nat) (a : Addr) (sLen sCap : Nat) (cur : Array Value) (t : TypeId) (cs : List Value) (m : Nat)
 (hu : P.underlying dT = some (.slice elem)) (hs : (P.info? elem).map (·.size) = some k)
 (hg : w.heap[g]? = some (.cells cur t (0,0))) (hm : m = Nat.min sLen dLen) (hn : cs.length = m * k)
 (hsrc : ∀ j v,cs[j]? = some v -> w.cell? (a.add j) = some v) (hfit : o + cs.length <= cur.size) (h1 : ∀ v ∈ cs,v.oneCell' = true) :
 (Builtin.copy_ #[dT,sT] ty #[.slice (some ⟨g,o,none⟩) dLen dCap,.slice (some a) sLen sCap]).run P w =
   .ok (goInt m) (w.setRow g (cur.toList.take o ++ cs ++ cur.toList.drop (o + cs.length)).toArray):=by
 have hl:=run_loadCells_list (P:=P) w a cs hsrc
 have hst:=run_storeCells_at P g o t cs 0 cur w hg (by simpa using hfit) h1
 cases hq : P.info? elem with
 | none=>simp [hq] at hs
 | some i =>
   have hi : i.size = k:=by simpa [hq] using hs
   simp [Builtin.copy_,run_underlying hu,Builtin.lenOf,Builtin.firstCells,sizeOf,typeInfo,hq,hi,← hm,← hn,hl,hst]
theorem Gf {P : Program} (w : World) (dT ty elem : TypeId) (g o n c : Nat) (z : Value) (cur : Array Value) (t : TypeId)
 (hu : P.underlying dT = some (.slice elem)) (hz : ∀ W,(zeroValue elem).run P W = .ok z W) (hn : n ≠ 0)
 (hg : w.heap[g]? = some (.cells cur t (0,0))) (hfit : o + n * z.cells.size <= cur.size) (h1 : ∀ v ∈ (Builtin.zeroCells z.cells n).toList,v.oneCell' = true) :
 (Builtin.clear_ #[dT] ty #[.slice (some ⟨g,o,none⟩) n c]).run P w =
   .ok (.tuple #[]) (w.setRow g (cur.toList.take o ++ (Builtin.zeroCells z.cells n).toList ++ cur.toList.drop (o + (Builtin.zeroCells z.cells n).toList.length)).toArray):=by
 have hlen : (Builtin.zeroCells z.cells n).toList.length = n * z.cells.size:=by simp [Builtin.zeroCells]
 have hst:=run_storeCells_at P g o t (Builtin.zeroCells z.cells n).toList 0 cur w hg (by rw [hlen];simpa using hfit) h1
 cases n with
 | zero=>exact absurd rfl hn
 | succ n=>simp [Builtin.clear_,run_underlying hu,hz,hst]
end Go.Proofs.YtklkooeimkedgaaGreat
