/- The law TopExact: it returns true at every input, and leaves what came in as it was. No condition. -/
import Derived.Test.YtklkooeimkedgaaGreatRows
import Derived.Test.YtklkooeimkedgaaGreatE54
set_option linter.unusedVariables false
set_option linter.unusedSimpArgs false
namespace Go.Proofs.YtklkooeimkedgaaGreat.topExact
open Go.ChangeShapes Go.WideShapes Go.ChangeAt Go.RowKit
theorem own : ownKnob Tryz.prog.godebug = none:=by kernel_rfl
theorem laidOut : laidOutB Tryz.prog = true:=by kernel_rfl
theorem aeJ : Tryz.prog.cellsOf 29 = 11:=by kernel_rfl
theorem aeK : Tryz.prog.cellTypes Tryz.prog.depth 29 = some [3,3,2,2,2,2,2,2,2,2,4]:=by kernel_rfl
set_option maxRecDepth 100000 in
set_option maxHeartbeats 4000000 in
theorem lifted (os : Os) (started : os.Started) (H : Type) (enc : TypeId × Value -> H) :
 ReturnsInHanded {} Tryz.checked os 6 .any (Rows.topExactSpec.pre6 enc Tryz.prog Tryz.f6 Rows.topExactRow.domain false) (Rows.topExactSpec.post enc Tryz.prog Tryz.f6 false true false false):=by
 refine returnsInHanded_of_change_sized (C:=Tryz.checked) own started (by kernel_rfl) Tryz.func6
  (ChangeSpec.witness6 (enc:=enc) (C:=Tryz.checked) false ⟨#[],#[.agg #[.int .i64 0,.int .i64 0,.int .i64 0,.int .i64 0,.int .i64 0,.int .i64 0,.int .i64 0,.int .i64 0,.int .i64 0,.int .i64 0,.bool false],.slice none 0 0],[]⟩ 8 (by kernel_rfl) (by kernel_rfl) (by kernel_rfl) (by kernel_rfl)) ?_
 intro W base args ds gs before hval0 hW hcnd hsz0 _
 have hsz : (DataW.weightsEach Tryz.prog (Tryz.f6.params.toList ++ Rows.topExactSpec.plain.varTypes Tryz.prog) (ds ++ gs)).all (· <= reachBytes) = true:=hsz0
 have hval : ∀ (j : Nat) t v,Tryz.f6.params[j]? = some t -> args[j]? = some v -> Value.okWide Tryz.prog W .any base t v:=hval0
 have hW':=hW
 obtain ⟨p,q,mG,hV,rfl,hfz,hnd⟩:=hW
 have hA : DataW.TrodAll enc Tryz.prog W 0 (λ_=>true) true Tryz.f6.params.toList args.toList ds p:=mG
 rw [Tryz.params6] at hA hval hsz
 obtain ⟨v0,vs0,d0,ds0,p0,q0,hargs,rfl,rfl,h0,r0⟩:=trodAll_cons hA
 obtain ⟨v1,vs1,d1,ds1,p1,q1,rfl,rfl,rfl,h1,r1⟩:=trodAll_cons r0
 obtain ⟨rfl,rfl,rfl⟩:=trodAll_nil r1
 obtain rfl : args = #[v0,v1]:=by cases args;simp_all
 obtain ⟨rfl,rfl⟩:=trodVars_none hV
 have k0:=h0
 have lt0 : ∀ x ∈ p0,x.block < W.heap.size:=by obtain ⟨m,hm⟩:=k0;exact DataW.trod_lt m _ _ _ hm
 obtain ⟨cs0,rfl,hs0,hc0⟩:=OD (ts:=[3,3,2,2,2,2,2,2,2,2,4]) (n:=11) (.inl ⟨_,Tryz.underlying29⟩) aeJ aeK (hval 0 29 v0 rfl rfl)
 obtain ⟨aeL,aeM,aeN,aeO,aeP,aeQ,aeR,aeS,aeT,aeU,abv,rfl⟩:=aaR hs0
 obtain ⟨aeV,abw,abx⟩:=hc0 0 aeL rfl
 obtain rfl : 3 = aeV:=by simpa using abw
 obtain ⟨aeW,rfl,aeX⟩:=lN Tryz.underlying3 abx
 obtain ⟨aeY,aby,abz⟩:=hc0 1 aeM rfl
 obtain rfl : 3 = aeY:=by simpa using aby
 obtain ⟨aeZ,rfl,ae0⟩:=lN Tryz.underlying3 abz
 obtain ⟨ae1,abA,abB⟩:=hc0 2 aeN rfl
 obtain rfl : 2 = ae1:=by simpa using abA
 obtain ⟨ae2,rfl,ae3⟩:=lN Tryz.underlying2 abB
 obtain ⟨ae4,abC,abD⟩:=hc0 3 aeO rfl
 obtain rfl : 2 = ae4:=by simpa using abC
 obtain ⟨ae5,rfl,ae6⟩:=lN Tryz.underlying2 abD
 obtain ⟨ae7,abE,abF⟩:=hc0 4 aeP rfl
 obtain rfl : 2 = ae7:=by simpa using abE
 obtain ⟨ae8,rfl,ae9⟩:=lN Tryz.underlying2 abF
 obtain ⟨afa,abG,abH⟩:=hc0 5 aeQ rfl
 obtain rfl : 2 = afa:=by simpa using abG
 obtain ⟨afb,rfl,afc⟩:=lN Tryz.underlying2 abH
 obtain ⟨afd,abI,abJ⟩:=hc0 6 aeR rfl
 obtain rfl : 2 = afd:=by simpa using abI
 obtain ⟨afe,rfl,aff⟩:=lN Tryz.underlying2 abJ
 obtain ⟨afg,abK,abL⟩:=hc0 7 aeS rfl
 obtain rfl : 2 = afg:=by simpa using abK
 obtain ⟨afh,rfl,afi⟩:=lN Tryz.underlying2 abL
 obtain ⟨afj,abM,abN⟩:=hc0 8 aeT rfl
 obtain rfl : 2 = afj:=by simpa using abM
 obtain ⟨afk,rfl,afl⟩:=lN Tryz.underlying2 abN
 obtain ⟨afm,abO,abP⟩:=hc0 9 aeU rfl
 obtain rfl : 2 = afm:=by simpa using abO
 obtain ⟨afn,rfl,afo⟩:=lN Tryz.underlying2 abP
 obtain ⟨abQ,aaN,aaO⟩:=hc0 10 abv rfl
 obtain rfl : 4 = abQ:=by simpa using aaN
 obtain ⟨abR,rfl⟩:=OC Tryz.underlying4 aaO
 clear hc0;have k1:=h1
 have lt1 : ∀ x ∈ p1,x.block < W.heap.size:=by obtain ⟨m,hm⟩:=k1;exact DataW.trod_lt m _ _ _ hm
 obtain ⟨a1,len1,Ea,rfl⟩:=okWide_slice Tryz.underlying66 (hval 1 66 v1 rfl rfl)
 obtain ⟨K1,T1,E1,Z1,w1,x1⟩:=Tg h1 (aaS hsz (j:=1) rfl rfl)
 have y1 : len1 * 40 <= 140737488351232:=OT hsz (j:=1) (t:=66) rfl rfl Tryz.underlying66 (by kernel_rfl) h1
 clear mG hval0 hsz0 hsz
 refine (topExact_walk aeW aeZ ae2 ae5 ae8 afb afe afh afk afn abR a1 len1 Ea K1 T1 E1 Z1 W (wf_i64 aeX) (wf_i64 ae0) (wf_i64 ae3) (wf_i64 ae6) (wf_i64 ae9) (wf_i64 afc) (wf_i64 aff) (wf_i64 afi) (wf_i64 afl) (wf_i64 afo) w1 x1 y1).mono λe W' ⟨he,qg⟩=>?_
 subst he
 exact ⟨_,rfl,_,_,_,[],_,[],hW',trodAll_mk1 (shut_bool Tryz.underlying4 _),(trodAll_cons_mk (Below.trod laidOut (by kernel_rfl) (of_decide_eq_true (by kernel_rfl)) k0 qg lt0) (trodAll_cons_mk (Below.trod laidOut (by kernel_rfl) (of_decide_eq_true (by kernel_rfl)) k1 qg lt1) trodAll_mk0)),rfl,qg.frame _,λh=>by cases h⟩
theorem over : Rows.topExactRow.holds Tryz.pinned (OpenSpec.ofChange Rows.topExactSpec) :=
 OpenClaim.holds_of_wide 6 Tryz.f6 rfl rfl rfl rfl rfl rfl rfl ⟨rfl,rfl,rfl,rfl,rfl⟩ rfl rfl rfl rfl rfl (by kernel_rfl) Tryz.func6 (by kernel_rfl)
  (of_decide_eq_true (by kernel_rfl)) (by unfold Func.isWrapper;first | (rw [if_pos (by decide +kernel)];kernel_rfl) | (rw [if_neg (by decide +kernel)];exact ⟨rfl,rfl⟩))
  (λos started H enc _=>lifted os started H enc)
theorem proved : Rows.TopExactSaid:=over
#print axioms proved
end Go.Proofs.YtklkooeimkedgaaGreat.topExact
namespace Go.Proofs.YtklkooeimkedgaaGreat
theorem topExact_holds : Rows.TopExactSaid:=topExact.proved
end Go.Proofs.YtklkooeimkedgaaGreat
