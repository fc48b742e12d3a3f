/- The law TopOrders: it returns true at every input, and leaves what came in as it was. No condition. -/
import Derived.Test.YtklkooeimkedgaaGreatRows
import Derived.Test.YtklkooeimkedgaaGreatO1
import Derived.Test.YtklkooeimkedgaaGreatO2
import Derived.Test.YtklkooeimkedgaaGreatO10
import Derived.Test.YtklkooeimkedgaaGreatO11
import Derived.Test.YtklkooeimkedgaaGreatO54
set_option linter.unusedVariables false
set_option linter.unusedSimpArgs false
namespace Go.Proofs.YtklkooeimkedgaaGreat.topOrders
open Go.ChangeShapes Go.WideShapes Go.ChangeAt Go.RowKit
theorem own : ownKnob Tryz.prog.godebug = none:=by kernel_rfl
theorem laidOut : laidOutB Tryz.prog = true:=by kernel_rfl
set_option maxRecDepth 100000 in
set_option maxHeartbeats 4000000 in
theorem lifted (os : Os) (started : os.Started) (H : Type) (enc : TypeId × Value -> H) :
  ReturnsInHanded {} Tryz.checked os 4 .any (Rows.topOrdersSpec.pre6 enc Tryz.prog Tryz.f4 Rows.topOrdersRow.domain false) (Rows.topOrdersSpec.post enc Tryz.prog Tryz.f4 false true false false):=by
 refine returnsInHanded_of_change_sized (C:=Tryz.checked) own started (by kernel_rfl) Tryz.func4
  (ChangeSpec.witness6 (enc:=enc) (C:=Tryz.checked) false ⟨#[],#[.slice none 0 0,.slice none 0 0,.int .i64 0],[]⟩ 8 (by kernel_rfl) (by kernel_rfl) (by kernel_rfl) (by kernel_rfl)) ?_
 intro W base args ds gs before hval0 hW hcnd hsz0 _
 have hsz : (DataW.weightsEach Tryz.prog (Tryz.f4.params.toList ++ Rows.topOrdersSpec.plain.varTypes Tryz.prog) (ds ++ gs)).all (· <= reachBytes) = true:=hsz0
 have hval : ∀ (j : Nat) t v,Tryz.f4.params[j]? = some t -> args[j]? = some v -> Value.okWide Tryz.prog W .any base t v:=hval0
 have hW':=hW
 obtain ⟨p,q,mE,hV,rfl,hfz,hnd⟩:=hW
 have hA : DataW.TrodAll enc Tryz.prog W 0 (λ_=>true) true Tryz.f4.params.toList args.toList ds p:=mE
 rw [Tryz.params4] at hA hval hsz
 obtain ⟨v0,vs0,d0,ds0,p0,q0,hargs,rfl,rfl,h0,r0⟩:=trodAll_cons hA
 obtain ⟨v1,vs1,d1,ds1,p1,q1,rfl,rfl,rfl,h1,r1⟩:=trodAll_cons r0
 obtain ⟨v2,vs2,d2,ds2,p2,q2,rfl,rfl,rfl,h2,r2⟩:=trodAll_cons r1
 obtain ⟨rfl,rfl,rfl⟩:=trodAll_nil r2
 obtain rfl : args = #[v0,v1,v2]:=by cases args;simp_all
 obtain ⟨rfl,rfl⟩:=trodVars_none hV
 have k0:=h0
 have lt0 : ∀ x ∈ p0,x.block < W.heap.size:=by obtain ⟨m,hm⟩:=k0;exact DataW.trod_lt m _ _ _ hm
 obtain ⟨a0,yM,cap0,rfl⟩:=okWide_slice Tryz.underlying54 (hval 0 54 v0 rfl rfl)
 obtain ⟨K0,T0,E0,EE0,w0,x0⟩:=N8 h0
 have y0 : yM * 40 <= 140737488351232:=GU hsz (j:=0) (t:=54) rfl rfl Tryz.underlying54 (by kernel_rfl) h0
 have k1:=h1
 have lt1 : ∀ x ∈ p1,x.block < W.heap.size:=by obtain ⟨m,hm⟩:=k1;exact DataW.trod_lt m _ _ _ hm
 obtain ⟨a1,len1,tK,rfl⟩:=okWide_slice Tryz.underlying42 (hval 1 42 v1 rfl rfl)
 obtain ⟨z1,w1⟩ : ∃ zs,abz .u8 W a1 len1 tK zs:=by
  obtain ⟨fuel,hf⟩:=h1
  rcases open_ints Tryz.underlying42 Tryz.underlying5 (by kernel_rfl) hf with ⟨hcs,_⟩ | ⟨x,l,c,zs,hcs,_,hl,hm,hz,_,hcell,hwz⟩
  ·simp [Value.cells] at hcs
   obtain ⟨rfl,rfl,rfl⟩:=hcs
   exact ⟨[],.inl ⟨rfl,rfl,rfl,rfl⟩⟩
  ·simp [Value.cells] at hcs
   obtain ⟨rfl,rfl,rfl⟩:=hcs
   exact ⟨zs,.inr ⟨_,rfl,hl,hm,by simpa using hz,hcell,hwz⟩⟩
 have y1 : len1 * 1 <= 140737488351232:=GU hsz (j:=1) (t:=42) rfl rfl Tryz.underlying42 (by kernel_rfl) h1
 have k2:=h2
 have lt2 : ∀ x ∈ p2,x.block < W.heap.size:=by obtain ⟨m,hm⟩:=k2;exact DataW.trod_lt m _ _ _ hm
 have ok2:=(hval 2 2 v2 rfl rfl)
 have ok2 : Cell.okWide Tryz.prog W .any base 2 v2:=by simpa only [Value.okWide,Tryz.underlying2] using ok2
 obtain ⟨a2,rfl,w2⟩:=Ue Tryz.underlying2 ok2
 clear mE hval0 hsz0 hsz
 refine (topOrders_walk a0 yM cap0 K0 T0 E0 EE0 a1 len1 tK (z1.take len1) a2 W w0 x0 y0 (iI.of w1) y1 (wf_i64 w2)).mono λe W' ⟨he,Xj⟩=>?_
 subst he
 exact ⟨_,rfl,_,_,_,[],_,[],hW',trodAll_mk1 (shut_bool Tryz.underlying4 _),(trodAll_cons_mk (Below.trod laidOut (by kernel_rfl) (of_decide_eq_true (by kernel_rfl)) k0 Xj lt0) (trodAll_cons_mk (Below.trod laidOut (by kernel_rfl) (of_decide_eq_true (by kernel_rfl)) k1 Xj lt1) (trodAll_cons_mk (Below.trod laidOut (by kernel_rfl) (of_decide_eq_true (by kernel_rfl)) k2 Xj lt2) trodAll_mk0))),rfl,Xj.frame _,λh=>by cases h⟩
theorem over : Rows.topOrdersRow.holds Tryz.pinned (OpenSpec.ofChange Rows.topOrdersSpec) :=
 OpenClaim.holds_of_wide 4 Tryz.f4 rfl rfl rfl rfl rfl rfl rfl ⟨rfl,rfl,rfl,rfl,rfl⟩ rfl rfl rfl rfl rfl (by kernel_rfl) Tryz.func4 (by kernel_rfl)
  (of_decide_eq_true (by kernel_rfl)) (by unfold Func.isWrapper;first | (rw [if_pos (by decide +kernel)];kernel_rfl) | (rw [if_neg (by decide +kernel)];exact ⟨rfl,rfl⟩))
  (λos started H enc _=>lifted os started H enc)
theorem proved : Rows.TopOrdersSaid:=over
#print axioms proved
end Go.Proofs.YtklkooeimkedgaaGreat.topOrders
namespace Go.Proofs.YtklkooeimkedgaaGreat
theorem topOrders_holds : Rows.TopOrdersSaid:=topOrders.proved
end Go.Proofs.YtklkooeimkedgaaGreat
