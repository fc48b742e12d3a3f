/- The law TopDeltas: it returns true at every input, and leaves what came in as it was. No condition. -/
import Derived.Test.YtklkooeimkedgaaGreatRows
import Derived.Test.YtklkooeimkedgaaGreatD10
import Derived.Test.YtklkooeimkedgaaGreatD11
import Derived.Test.YtklkooeimkedgaaGreatD54
set_option linter.unusedVariables false
set_option linter.unusedSimpArgs false
namespace Go.Proofs.YtklkooeimkedgaaGreat.topDeltas
open Go.ChangeShapes Go.WideShapes Go.ChangeAt Go.RowKit
theorem own : ownKnob Tryz.prog.godebug = none:=by kernel_rfl
theorem laidOut : laidOutB Tryz.prog = true:=by kernel_rfl
theorem agb : Tryz.prog.cellsOf 29 = 11:=by kernel_rfl
theorem agc : Tryz.prog.cellTypes Tryz.prog.depth 29 = some [3,3,2,2,2,2,2,2,2,2,4]:=by kernel_rfl
set_option maxRecDepth 100000 in
set_option maxHeartbeats 4000000 in
theorem lifted (os : Os) (started : os.Started) (H : Type) (enc : TypeId × Value -> H) :
 ReturnsInHanded {} Tryz.checked os 5 .any (Rows.topDeltasSpec.pre6 enc Tryz.prog Tryz.f5 Rows.topDeltasRow.domain false) (Rows.topDeltasSpec.post enc Tryz.prog Tryz.f5 false true false false):=by
 refine returnsInHanded_of_change_sized (C:=Tryz.checked) own started (by kernel_rfl) Tryz.func5
  (ChangeSpec.witness6 (enc:=enc) (C:=Tryz.checked) false ⟨#[],#[.agg #[.int .i64 0,.int .i64 0,.int .i64 0,.int .i64 0,.int .i64 0,.int .i64 0,.int .i64 0,.int .i64 0,.int .i64 0,.int .i64 0,.bool false],.slice none 0 0,.slice none 0 0],[]⟩ 8 (by kernel_rfl) (by kernel_rfl) (by kernel_rfl) (by kernel_rfl)) ?_
 intro W base args ds gs before hval0 hW hcnd hsz0 _
 have hsz : (DataW.weightsEach Tryz.prog (Tryz.f5.params.toList ++ Rows.topDeltasSpec.plain.varTypes Tryz.prog) (ds ++ gs)).all (· <= reachBytes) = true:=hsz0
 have hval : ∀ (j : Nat) t v,Tryz.f5.params[j]? = some t -> args[j]? = some v -> Value.okWide Tryz.prog W .any base t v:=hval0
 have hW':=hW
 obtain ⟨p,q,mP,hV,rfl,hfz,hnd⟩:=hW
 have hA : DataW.TrodAll enc Tryz.prog W 0 (λ_=>true) true Tryz.f5.params.toList args.toList ds p:=mP
 rw [Tryz.params5] at hA hval hsz
 obtain ⟨v0,vs0,d0,ds0,p0,q0,hargs,rfl,rfl,h0,r0⟩:=trodAll_cons hA
 obtain ⟨v1,vs1,d1,ds1,p1,q1,rfl,rfl,rfl,h1,r1⟩:=trodAll_cons r0
 obtain ⟨v2,vs2,d2,ds2,p2,q2,rfl,rfl,rfl,h2,r2⟩:=trodAll_cons r1
 obtain ⟨rfl,rfl,rfl⟩:=trodAll_nil r2
 obtain rfl : args = #[v0,v1,v2]:=by cases args;simp_all
 obtain ⟨rfl,rfl⟩:=trodVars_none hV
 have k0:=h0
 have lt0 : ∀ x ∈ p0,x.block < W.heap.size:=by obtain ⟨m,hm⟩:=k0;exact DataW.trod_lt m _ _ _ hm
 obtain ⟨cs0,rfl,hs0,hc0⟩:=Qz (ts:=[3,3,2,2,2,2,2,2,2,2,4]) (n:=11) (.inl ⟨_,Tryz.underlying29⟩) agb agc (hval 0 29 v0 rfl rfl)
 obtain ⟨agd,agf,agh,agi,agj,agk,agl,agm,agn,agp,ac9,rfl⟩:=acw hs0
 obtain ⟨agq,ada,adb⟩:=hc0 0 agd rfl
 obtain rfl : 3 = agq:=by simpa using ada
 obtain ⟨agr,rfl,ags⟩:=lZ Tryz.underlying3 adb
 obtain ⟨agt,ade,adf⟩:=hc0 1 agf rfl
 obtain rfl : 3 = agt:=by simpa using ade
 obtain ⟨agu,rfl,agv⟩:=lZ Tryz.underlying3 adf
 obtain ⟨agw,adg,adh⟩:=hc0 2 agh rfl
 obtain rfl : 2 = agw:=by simpa using adg
 obtain ⟨agx,rfl,agy⟩:=lZ Tryz.underlying2 adh
 obtain ⟨agz,adi,adj⟩:=hc0 3 agi rfl
 obtain rfl : 2 = agz:=by simpa using adi
 obtain ⟨agA,rfl,agB⟩:=lZ Tryz.underlying2 adj
 obtain ⟨agC,adk,adl⟩:=hc0 4 agj rfl
 obtain rfl : 2 = agC:=by simpa using adk
 obtain ⟨agD,rfl,agE⟩:=lZ Tryz.underlying2 adl
 obtain ⟨agF,adn,ado⟩:=hc0 5 agk rfl
 obtain rfl : 2 = agF:=by simpa using adn
 obtain ⟨agG,rfl,agH⟩:=lZ Tryz.underlying2 ado
 obtain ⟨agI,adp,adq⟩:=hc0 6 agl rfl
 obtain rfl : 2 = agI:=by simpa using adp
 obtain ⟨agJ,rfl,agK⟩:=lZ Tryz.underlying2 adq
 obtain ⟨agL,adr,ads⟩:=hc0 7 agm rfl
 obtain rfl : 2 = agL:=by simpa using adr
 obtain ⟨agM,rfl,agN⟩:=lZ Tryz.underlying2 ads
 obtain ⟨agO,adt,adu⟩:=hc0 8 agn rfl
 obtain rfl : 2 = agO:=by simpa using adt
 obtain ⟨agP,rfl,agQ⟩:=lZ Tryz.underlying2 adu
 obtain ⟨agR,adw,adx⟩:=hc0 9 agp rfl
 obtain rfl : 2 = agR:=by simpa using adw
 obtain ⟨agS,rfl,agT⟩:=lZ Tryz.underlying2 adx
 obtain ⟨ady,acr,acs⟩:=hc0 10 ac9 rfl
 obtain rfl : 4 = ady:=by simpa using acr
 obtain ⟨adz,rfl⟩:=Qy Tryz.underlying4 acs
 clear hc0;have k1:=h1
 have lt1 : ∀ x ∈ p1,x.block < W.heap.size:=by obtain ⟨m,hm⟩:=k1;exact DataW.trod_lt m _ _ _ hm
 obtain ⟨a1,len1,zi,rfl⟩:=okWide_slice Tryz.underlying54 (hval 1 54 v1 rfl rfl)
 obtain ⟨K1,T1,E1,EE1,w1,x1⟩:=OP h1
 have y1 : len1 * 40 <= 140737488351232:=Ih hsz (j:=1) (t:=54) rfl rfl Tryz.underlying54 (by kernel_rfl) h1
 have k2:=h2
 have lt2 : ∀ x ∈ p2,x.block < W.heap.size:=by obtain ⟨m,hm⟩:=k2;exact DataW.trod_lt m _ _ _ hm
 obtain ⟨a2,len2,cap2,rfl⟩:=okWide_slice Tryz.underlying42 (hval 2 42 v2 rfl rfl)
 obtain ⟨z2,w2⟩ : ∃ zs,acy .u8 W a2 len2 cap2 zs:=by
  obtain ⟨fuel,hf⟩:=h2
  rcases open_ints Tryz.underlying42 Tryz.underlying5 (by kernel_rfl) hf with ⟨hcs,_⟩ | ⟨x,l,c,zs,hcs,_,hl,hm,hz,_,hcell,hwz⟩
  ·simp [Value.cells] at hcs
   obtain ⟨rfl,rfl,rfl⟩:=hcs
   exact ⟨[],.inl ⟨rfl,rfl,rfl,rfl⟩⟩
  ·simp [Value.cells] at hcs
   obtain ⟨rfl,rfl,rfl⟩:=hcs
   exact ⟨zs,.inr ⟨_,rfl,hl,hm,by simpa using hz,hcell,hwz⟩⟩
 have y2 : len2 * 1 <= 140737488351232:=Ih hsz (j:=2) (t:=42) rfl rfl Tryz.underlying42 (by kernel_rfl) h2
 clear mP hval0 hsz0 hsz
 refine (topDeltas_walk agr agu agx agA agD agG agJ agM agP agS adz a1 len1 zi K1 T1 E1 EE1 a2 len2 cap2 (z2.take len2) W (wf_i64 ags) (wf_i64 agv) (wf_i64 agy) (wf_i64 agB) (wf_i64 agE) (wf_i64 agH) (wf_i64 agK) (wf_i64 agN) (wf_i64 agQ) (wf_i64 agT) w1 x1 y1 (iI.of w2) y2).mono λe W' ⟨he,mZ⟩=>?_
 subst he
 exact ⟨_,rfl,_,_,_,[],_,[],hW',trodAll_mk1 (shut_bool Tryz.underlying4 _),(trodAll_cons_mk (Below.trod laidOut (by kernel_rfl) (of_decide_eq_true (by kernel_rfl)) k0 mZ lt0) (trodAll_cons_mk (Below.trod laidOut (by kernel_rfl) (of_decide_eq_true (by kernel_rfl)) k1 mZ lt1) (trodAll_cons_mk (Below.trod laidOut (by kernel_rfl) (of_decide_eq_true (by kernel_rfl)) k2 mZ lt2) trodAll_mk0))),rfl,mZ.frame _,λh=>by cases h⟩
theorem over : Rows.topDeltasRow.holds Tryz.pinned (OpenSpec.ofChange Rows.topDeltasSpec) :=
 OpenClaim.holds_of_wide 5 Tryz.f5 rfl rfl rfl rfl rfl rfl rfl ⟨rfl,rfl,rfl,rfl,rfl⟩ rfl rfl rfl rfl rfl (by kernel_rfl) Tryz.func5 (by kernel_rfl)
  (of_decide_eq_true (by kernel_rfl)) (by unfold Func.isWrapper;first | (rw [if_pos (by decide +kernel)];kernel_rfl) | (rw [if_neg (by decide +kernel)];exact ⟨rfl,rfl⟩))
  (λos started H enc _=>lifted os started H enc)
theorem proved : Rows.TopDeltasSaid:=over
#print axioms proved
end Go.Proofs.YtklkooeimkedgaaGreat.topDeltas
namespace Go.Proofs.YtklkooeimkedgaaGreat
theorem topDeltas_holds : Rows.TopDeltasSaid:=topDeltas.proved
end Go.Proofs.YtklkooeimkedgaaGreat
