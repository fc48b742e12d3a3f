/- The law TopJumps: it returns true at every input, and leaves what came in as it was. No condition. -/
import Derived.Test.YtklkooeimkedgaaGreatRows
import Derived.Test.YtklkooeimkedgaaGreatJ1
import Derived.Test.YtklkooeimkedgaaGreatJ53
set_option linter.unusedVariables false
set_option linter.unusedSimpArgs false
namespace Go.Proofs.YtklkooeimkedgaaGreat.topJumps
open Go.ChangeShapes Go.WideShapes Go.ChangeAt Go.RowKit
theorem own : ownKnob Tryz.prog.godebug = none:=by kernel_rfl
theorem laidOut : laidOutB Tryz.prog = true:=by kernel_rfl
theorem ct22 : Tryz.prog.cellsOf 22 = 3:=by kernel_rfl
theorem cy22 : Tryz.prog.cellTypes Tryz.prog.depth 22 = some [2,2,2]:=by kernel_rfl
set_option maxRecDepth 100000 in
set_option maxHeartbeats 4000000 in
theorem lifted (os : Os) (started : os.Started) (H : Type) (enc : TypeId × Value → H) :
  ReturnsInHanded {} Tryz.checked os 3 .any (Rows.topJumpsSpec.pre6 enc Tryz.prog Tryz.f3 Rows.topJumpsRow.domain false) (Rows.topJumpsSpec.post enc Tryz.prog Tryz.f3 false true false false):=by
 refine returnsInHanded_of_change (C:=Tryz.checked) own started (by kernel_rfl) Tryz.func3
  (ChangeSpec.witness6 (enc:=enc) (C:=Tryz.checked) false ⟨#[],#[.agg #[.int .i64 0,.int .i64 0,.int .i64 0],.agg #[.int .i64 0,.int .i64 0,.int .i64 0],.int .u8 0],[]⟩ 8 (by kernel_rfl) (by kernel_rfl) (by kernel_rfl) (by kernel_rfl)) ?_
 intro W base args ds gs before hval0 hW hcnd _
 have hval : ∀ (j : Nat) t v,Tryz.f3.params[j]? = some t → args[j]? = some v → Value.okWide Tryz.prog W .any base t v:=hval0
 have hW':=hW
 obtain ⟨p,q,hA0,hV,rfl,hfz,hnd⟩:=hW
 have hA : DataW.TrodAll enc Tryz.prog W 0 (fun _=>true) true Tryz.f3.params.toList args.toList ds p:=hA0
 rw [Tryz.params3] at hA hval
 obtain ⟨v0,vs0,d0,ds0,p0,q0,hargs,rfl,rfl,h0,r0⟩:=trodAll_cons hA
 obtain ⟨v1,vs1,d1,ds1,p1,q1,rfl,rfl,rfl,h1,r1⟩:=trodAll_cons r0
 obtain ⟨v2,vs2,d2,ds2,p2,q2,rfl,rfl,rfl,h2,r2⟩:=trodAll_cons r1
 obtain ⟨rfl,rfl,rfl⟩:=trodAll_nil r2
 obtain rfl : args = #[v0,v1,v2]:=by cases args;simp_all
 obtain ⟨rfl,rfl⟩:=trodVars_none hV
 have k0:=h0
 have lt0 : ∀ x ∈ p0,x.block < W.heap.size:=by obtain ⟨m,hm⟩:=k0;exact DataW.trod_lt m _ _ _ hm
 obtain ⟨cs0,rfl,hs0,hc0⟩:=agg_cells (ts:=[2,2,2]) (n:=3) (.inr ⟨_,_,Tryz.underlying22⟩) ct22 cy22 (hval 0 22 v0 rfl rfl)
 obtain ⟨c0_0,c0_1,c0_2,rfl⟩:=arr3 hs0
 obtain ⟨u0_0,hu0_0,hw0_0⟩:=hc0 0 c0_0 rfl
 obtain rfl : 2 = u0_0:=by simpa using hu0_0
 obtain ⟨a0_0,rfl,w0_0⟩:=cell_int Tryz.underlying2 hw0_0
 obtain ⟨u0_1,hu0_1,hw0_1⟩:=hc0 1 c0_1 rfl
 obtain rfl : 2 = u0_1:=by simpa using hu0_1
 obtain ⟨a0_1,rfl,w0_1⟩:=cell_int Tryz.underlying2 hw0_1
 obtain ⟨u0_2,hu0_2,hw0_2⟩:=hc0 2 c0_2 rfl
 obtain rfl : 2 = u0_2:=by simpa using hu0_2
 obtain ⟨a0_2,rfl,w0_2⟩:=cell_int Tryz.underlying2 hw0_2
 clear hc0
 have k1:=h1
 have lt1 : ∀ x ∈ p1,x.block < W.heap.size:=by obtain ⟨m,hm⟩:=k1;exact DataW.trod_lt m _ _ _ hm
 obtain ⟨cs1,rfl,hs1,hc1⟩:=agg_cells (ts:=[2,2,2]) (n:=3) (.inr ⟨_,_,Tryz.underlying22⟩) ct22 cy22 (hval 1 22 v1 rfl rfl)
 obtain ⟨c1_0,c1_1,c1_2,rfl⟩:=arr3 hs1
 obtain ⟨u1_0,hu1_0,hw1_0⟩:=hc1 0 c1_0 rfl
 obtain rfl : 2 = u1_0:=by simpa using hu1_0
 obtain ⟨a1_0,rfl,w1_0⟩:=cell_int Tryz.underlying2 hw1_0
 obtain ⟨u1_1,hu1_1,hw1_1⟩:=hc1 1 c1_1 rfl
 obtain rfl : 2 = u1_1:=by simpa using hu1_1
 obtain ⟨a1_1,rfl,w1_1⟩:=cell_int Tryz.underlying2 hw1_1
 obtain ⟨u1_2,hu1_2,hw1_2⟩:=hc1 2 c1_2 rfl
 obtain rfl : 2 = u1_2:=by simpa using hu1_2
 obtain ⟨a1_2,rfl,w1_2⟩:=cell_int Tryz.underlying2 hw1_2
 clear hc1
 have k2:=h2
 have lt2 : ∀ x ∈ p2,x.block < W.heap.size:=by obtain ⟨m,hm⟩:=k2;exact DataW.trod_lt m _ _ _ hm
 have ok2:=(hval 2 5 v2 rfl rfl)
 have ok2 : Cell.okWide Tryz.prog W .any base 5 v2:=by simpa only [Value.okWide,Tryz.underlying5] using ok2
 obtain ⟨a2,rfl,w2⟩:=cell_int Tryz.underlying5 ok2
 clear hA0 hval0
 refine (topJumps_walk a0_0 a0_1 a0_2 a1_0 a1_1 a1_2 a2 (wf_i64 w0_0) (wf_i64 w0_1) (wf_i64 w0_2) (wf_i64 w1_0) (wf_i64 w1_1) (wf_i64 w1_2) (wf_u8 w2) W).mono fun e W' ⟨he,bel⟩=>?_
 subst he
 exact ⟨_,rfl,_,_,_,[],_,[],hW',trodAll_mk1 (shut_bool Tryz.underlying4 _),(trodAll_cons_mk (Below.trod laidOut (by kernel_rfl) (of_decide_eq_true (by kernel_rfl)) k0 bel lt0) (trodAll_cons_mk (Below.trod laidOut (by kernel_rfl) (of_decide_eq_true (by kernel_rfl)) k1 bel lt1) (trodAll_cons_mk (Below.trod laidOut (by kernel_rfl) (of_decide_eq_true (by kernel_rfl)) k2 bel lt2) trodAll_mk0))),rfl,bel.frame _,fun h=>by cases h⟩
theorem over : Rows.topJumpsRow.holds Tryz.pinned (OpenSpec.ofChange Rows.topJumpsSpec) :=
 OpenClaim.holds_of_wide 3 Tryz.f3 rfl rfl rfl rfl rfl rfl rfl ⟨rfl,rfl,rfl,rfl,rfl⟩ rfl rfl rfl rfl rfl (by kernel_rfl) Tryz.func3 (by kernel_rfl)
  (of_decide_eq_true (by kernel_rfl)) (by unfold Func.isWrapper;first | (rw [if_pos (by decide +kernel)];kernel_rfl) | (rw [if_neg (by decide +kernel)];exact ⟨rfl,rfl⟩))
  (fun os started H enc _=>lifted os started H enc)
theorem proved : Rows.TopJumpsSaid:=over
#print axioms proved
end Go.Proofs.YtklkooeimkedgaaGreat.topJumps
namespace Go.Proofs.YtklkooeimkedgaaGreat
theorem topJumps_holds : Rows.TopJumpsSaid:=topJumps.proved
end Go.Proofs.YtklkooeimkedgaaGreat
