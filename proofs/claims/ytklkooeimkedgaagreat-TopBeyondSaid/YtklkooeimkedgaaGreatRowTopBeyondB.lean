/- The law TopBeyond: it returns true at every input, and leaves what came in as it was. No condition. -/
import Derived.Test.YtklkooeimkedgaaGreatRows
import Derived.Test.YtklkooeimkedgaaGreatB54
set_option linter.unusedVariables false
set_option linter.unusedSimpArgs false
namespace Go.Proofs.YtklkooeimkedgaaGreat.topBeyond
open Go.ChangeShapes Go.WideShapes Go.ChangeAt Go.RowKit
theorem own : ownKnob Tryz.prog.godebug = none:=by kernel_rfl
theorem laidOut : laidOutB Tryz.prog = true:=by kernel_rfl
theorem afr : Tryz.prog.cellsOf 29 = 11:=by kernel_rfl
theorem afs : Tryz.prog.cellTypes Tryz.prog.depth 29 = some [3,3,2,2,2,2,2,2,2,2,4]:=by kernel_rfl
set_option maxRecDepth 100000 in
set_option maxHeartbeats 4000000 in
theorem lifted (os : Os) (started : os.Started) (H : Type) (enc : TypeId × Value -> H) :
 ReturnsInHanded {} Tryz.checked os 7 .any (Rows.topBeyondSpec.pre6 enc Tryz.prog Tryz.f7 Rows.topBeyondRow.domain false) (Rows.topBeyondSpec.post enc Tryz.prog Tryz.f7 false true false false):=by
 refine returnsInHanded_of_change_sized (C:=Tryz.checked) own started (by kernel_rfl) Tryz.func7
  (ChangeSpec.witness6 (enc:=enc) (C:=Tryz.checked) false ⟨#[],#[.agg #[.int .i64 0,.int .i64 0,.int .i64 0,.int .i64 0,.int .i64 0,.int .i64 0,.int .i64 0,.int .i64 0,.int .i64 0,.int .i64 0,.bool false],.slice none 0 0],[]⟩ 8 (by kernel_rfl) (by kernel_rfl) (by kernel_rfl) (by kernel_rfl)) ?_
 intro W base args ds gs before hval0 hW hcnd hsz0 _
 have hsz : (DataW.weightsEach Tryz.prog (Tryz.f7.params.toList ++ Rows.topBeyondSpec.plain.varTypes Tryz.prog) (ds ++ gs)).all (· <= reachBytes) = true:=hsz0
 have hval : ∀ (j : Nat) t v,Tryz.f7.params[j]? = some t -> args[j]? = some v -> Value.okWide Tryz.prog W .any base t v:=hval0
 have hW':=hW
 obtain ⟨p,q,mI,hV,rfl,hfz,hnd⟩:=hW
 have hA : DataW.TrodAll enc Tryz.prog W 0 (λ_=>true) true Tryz.f7.params.toList args.toList ds p:=mI
 rw [Tryz.params7] at hA hval hsz
 obtain ⟨v0,vs0,d0,ds0,p0,q0,hargs,rfl,rfl,h0,r0⟩:=trodAll_cons hA
 obtain ⟨v1,vs1,d1,ds1,p1,q1,rfl,rfl,rfl,h1,r1⟩:=trodAll_cons r0
 obtain ⟨rfl,rfl,rfl⟩:=trodAll_nil r1
 obtain rfl : args = #[v0,v1]:=by cases args;simp_all
 obtain ⟨rfl,rfl⟩:=trodVars_none hV
 have k0:=h0
 have lt0 : ∀ x ∈ p0,x.block < W.heap.size:=by obtain ⟨m,hm⟩:=k0;exact DataW.trod_lt m _ _ _ hm
 obtain ⟨cs0,rfl,hs0,hc0⟩:=O5 (ts:=[3,3,2,2,2,2,2,2,2,2,4]) (n:=11) (.inl ⟨_,Tryz.underlying29⟩) afr afs (hval 0 29 v0 rfl rfl)
 obtain ⟨aft,afu,afv,afw,afx,afy,afz,afA,afB,afC,acg,rfl⟩:=abB hs0
 obtain ⟨afD,ach,aci⟩:=hc0 0 aft rfl
 obtain rfl : 3 = afD:=by simpa using ach
 obtain ⟨afE,rfl,afF⟩:=lN Tryz.underlying3 aci
 obtain ⟨afG,acj,acn⟩:=hc0 1 afu rfl
 obtain rfl : 3 = afG:=by simpa using acj
 obtain ⟨afH,rfl,afI⟩:=lN Tryz.underlying3 acn
 obtain ⟨afJ,aco,acp⟩:=hc0 2 afv rfl
 obtain rfl : 2 = afJ:=by simpa using aco
 obtain ⟨afK,rfl,afL⟩:=lN Tryz.underlying2 acp
 obtain ⟨afM,acr,acs⟩:=hc0 3 afw rfl
 obtain rfl : 2 = afM:=by simpa using acr
 obtain ⟨afN,rfl,afO⟩:=lN Tryz.underlying2 acs
 obtain ⟨afP,acu,acv⟩:=hc0 4 afx rfl
 obtain rfl : 2 = afP:=by simpa using acu
 obtain ⟨afQ,rfl,afR⟩:=lN Tryz.underlying2 acv
 obtain ⟨afS,acw,acy⟩:=hc0 5 afy rfl
 obtain rfl : 2 = afS:=by simpa using acw
 obtain ⟨afT,rfl,afU⟩:=lN Tryz.underlying2 acy
 obtain ⟨afV,acz,acA⟩:=hc0 6 afz rfl
 obtain rfl : 2 = afV:=by simpa using acz
 obtain ⟨afW,rfl,afX⟩:=lN Tryz.underlying2 acA
 obtain ⟨afY,acB,acC⟩:=hc0 7 afA rfl
 obtain rfl : 2 = afY:=by simpa using acB
 obtain ⟨afZ,rfl,af0⟩:=lN Tryz.underlying2 acC
 obtain ⟨af2,acD,acE⟩:=hc0 8 afB rfl
 obtain rfl : 2 = af2:=by simpa using acD
 obtain ⟨af3,rfl,af4⟩:=lN Tryz.underlying2 acE
 obtain ⟨af5,acF,acG⟩:=hc0 9 afC rfl
 obtain rfl : 2 = af5:=by simpa using acF
 obtain ⟨af6,rfl,af7⟩:=lN Tryz.underlying2 acG
 obtain ⟨acH,abx,aby⟩:=hc0 10 acg rfl
 obtain rfl : 4 = acH:=by simpa using abx
 obtain ⟨acI,rfl⟩:=OZ Tryz.underlying4 aby
 clear hc0;have k1:=h1
 have lt1 : ∀ x ∈ p1,x.block < W.heap.size:=by obtain ⟨m,hm⟩:=k1;exact DataW.trod_lt m _ _ _ hm
 obtain ⟨a1,len1,Eh,rfl⟩:=okWide_slice Tryz.underlying66 (hval 1 66 v1 rfl rfl)
 obtain ⟨K1,T1,E1,Z1,w1,x1⟩:=TK h1 (abC hsz (j:=1) rfl rfl)
 have y1 : len1 * 40 <= 140737488351232:=Pj hsz (j:=1) (t:=66) rfl rfl Tryz.underlying66 (by kernel_rfl) h1
 clear mI hval0 hsz0 hsz
 refine (topBeyond_walk afE afH afK afN afQ afT afW afZ af3 af6 acI a1 len1 Eh K1 T1 E1 Z1 W (wf_i64 afF) (wf_i64 afI) (wf_i64 afL) (wf_i64 afO) (wf_i64 afR) (wf_i64 afU) (wf_i64 afX) (wf_i64 af0) (wf_i64 af4) (wf_i64 af7) w1 x1 y1).mono λe W' ⟨he,oC⟩=>?_
 subst he
 exact ⟨_,rfl,_,_,_,[],_,[],hW',trodAll_mk1 (shut_bool Tryz.underlying4 _),(trodAll_cons_mk (Below.trod laidOut (by kernel_rfl) (of_decide_eq_true (by kernel_rfl)) k0 oC lt0) (trodAll_cons_mk (Below.trod laidOut (by kernel_rfl) (of_decide_eq_true (by kernel_rfl)) k1 oC lt1) trodAll_mk0)),rfl,oC.frame _,λh=>by cases h⟩
theorem over : Rows.topBeyondRow.holds Tryz.pinned (OpenSpec.ofChange Rows.topBeyondSpec) :=
 OpenClaim.holds_of_wide 7 Tryz.f7 rfl rfl rfl rfl rfl rfl rfl ⟨rfl,rfl,rfl,rfl,rfl⟩ rfl rfl rfl rfl rfl (by kernel_rfl) Tryz.func7 (by kernel_rfl)
  (of_decide_eq_true (by kernel_rfl)) (by unfold Func.isWrapper;first | (rw [if_pos (by decide +kernel)];kernel_rfl) | (rw [if_neg (by decide +kernel)];exact ⟨rfl,rfl⟩))
  (λos started H enc _=>lifted os started H enc)
theorem proved : Rows.TopBeyondSaid:=over
#print axioms proved
end Go.Proofs.YtklkooeimkedgaaGreat.topBeyond
namespace Go.Proofs.YtklkooeimkedgaaGreat
theorem topBeyond_holds : Rows.TopBeyondSaid:=topBeyond.proved
end Go.Proofs.YtklkooeimkedgaaGreat
