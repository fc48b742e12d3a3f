/- Walk of TopBeyond. -/
import Derived.BigQuiet
import Derived.Deep.QuietTactic
import Derived.Test.YtklkooeimkedgaaGreatB12
import Derived.Test.YtklkooeimkedgaaGreatB16
import Derived.Test.YtklkooeimkedgaaGreatB20
set_option linter.unusedVariables false
set_option linter.unusedSimpArgs false
namespace Go.Proofs.YtklkooeimkedgaaGreat
open Go.RowKit
set_option maxRecDepth 8000
abbrev aI:=List Int × Int
def bq (w : World) (R B0 : Nat) (s : aI) : Prop :=
 ∃ a len cap zs,∃ at' : Nat,ak w R #[.slice a len cap,.int .i64 at',.int .i64 s.2] 298 /\ BytesAt w a len zs /\ (∀ x,a = some x -> x.block ≠ R /\ x.block < B0) /\ len <= cap /\ at' <= len /\ (len : Int) <= 140737488355000 /\ s.1 = zs.drop at' /\ 0 <= s.2 /\ s.2 <= 17
section
variable {B0 : Nat}
theorem jT.only {k : IntKind} {w w' : World} {a : Option Addr} {len : Nat} {zs : List Int} {S : Nat -> Prop} (h : jT k w a len zs) (ho : Only S w w') (hS : ∀ x,a = some x -> ¬ S x.block) : jT k w' a len zs:=by
 obtain ⟨h1,h2,h3⟩:=h
 refine ⟨h1,h2,?_⟩
 rcases h3 with h3 | ⟨b,off,e,hl,hc⟩
 ·exact .inl h3
 ·refine .inr ⟨b,off,e,Nat.lt_of_lt_of_le hl ho.size,λi hi=>?_⟩
  have:=ho.block b hl (hS _ e)
  rw [← hc i hi]
  simp [World.cell?,this]
theorem bq.below {w w' : World} {R : Nat} {s : aI} (h : bq w R B0 s) (hb : Below w.heap.size w w') : bq w' R B0 s:=by
 obtain ⟨a,len,cap,zs,at',h1,h2,h3⟩:=h
 exact ⟨a,len,cap,zs,at',h1.below hb h1.lt,h2.below hb,h3⟩
theorem bq.cZ {w : World} {R : Nat} {s : aI} (h : bq w R B0 s) {p : Addr} (hR : R ≠ p.block) (hp : B0 <= p.block) (v : Value) : bq (w.setCell p v) R B0 s:=by
 obtain ⟨a,len,cap,zs,at',h1,h2,h3,h4⟩:=h
 refine ⟨a,len,cap,zs,at',h1.far hR v,?_,h3,h4⟩
 exact h2.only ((Only.refl (· = p.block) w).setCell (.inl rfl) v) (λx hx hS=>by have:=(h3 x hx).2;omega)
theorem bq.lt {w : World} {R : Nat} {s : aI} (h : bq w R B0 s) : R < w.heap.size:=by
 obtain ⟨a,len,cap,zs,at',h1,_⟩:=h
 exact h1.lt
theorem yL (R : Nat) (s : aI) (w : World) (h : bq w R B0 s) :
 Calls Tryz.prog 198 #[.pointer (some ⟨R,0,none⟩)] w λe w'=>e = .returned (.int .i64 s.2) /\ w = w':=by
 obtain ⟨a,len,cap,zs,at',h1,h2,h3,h4,h5,h6,h7,h8⟩:=h
 have c0:=h1.cell 2;simp at c0
 go_enter Tryz.func198,Tryz.ntmps198
 go_wp2
 go_ret
 exact ⟨rfl,rfl⟩
theorem FQ (R : Nat) (s : aI) (w : World) (h : bq w R B0 s) :
 Calls Tryz.prog 199 #[.pointer (some ⟨R,0,none⟩)] w λe w'=>e = .returned (.int .i64 (s.1.length : Nat)) /\ Below w.heap.size w w':=by
 obtain ⟨a,len,cap,zs,at',h1,h2,h3,h4,h5,h6,h7,h8⟩:=h
 have c0:=h1.cell 0;have c1:=h1.cell 1;have hl:=h2.1;simp at c0 c1
 have HE : Hid ((s.1.length : Int) = (len : Int) - at'):=aiS (by rw [h7,List.length_drop];omega)
 go_enter Tryz.func199,Tryz.ntmps199
 go_wp2_with fail
 go_quiet (fail)
 go_wp2
 go_ret
 exact ⟨aR HE.out.symm,below_drewN aiU _⟩
theorem bq.rest {w : World} {R : Nat} {s : aI} (h : bq w R B0 s) (hn : s.1 ≠ []) :
 ∃ b off len cap,∃ at' : Nat,ak w R #[.slice (some ⟨b,off,none⟩) len cap,.int .i64 at',.int .i64 s.2] 298 /\ b ≠ R /\ at' < len /\ len <= cap /\ (len : Int) <= 140737488355000 /\ s.1.length = len - at' /\ BytesAt w (some ⟨b,off + at',none⟩) (len - at') s.1 /\
  ∀ w' (n : Nat) e,n <= len - at' -> 0 <= e -> e <= 17 -> Only (· = R) w w' -> ak w' R #[.slice (some ⟨b,off,none⟩) len cap,.int .i64 ((at' : Int) + n),.int .i64 e] 298 -> bq w' R B0 (s.1.drop n,e):=by
 obtain ⟨a,len,cap,zs,at',h1,h2,h3,h4,h5,h6,h7,h8⟩:=h
 have hl:=h2.1
 have hlt : at' < len:=by
  rcases Nat.lt_or_ge at' len with h | h
  ·exact h
  ·exfalso;apply hn;rw [h7];exact List.drop_eq_nil_of_le (by omega)
 obtain ⟨b,off,rfl⟩ : ∃ b off,a = some ⟨b,off,none⟩:=by
  rcases h2.2.2 with h | ⟨b,off,e,_⟩
  ·omega
  ·exact ⟨b,off,e⟩
 refine ⟨b,off,len,cap,at',h1,(h3 _ rfl).1,hlt,h4,h6,by rw [h7,List.length_drop];omega,by rw [h7];exact h2.drop h5,?_⟩
 intro w' n e hn' h0 Pw hO hB
 refine ⟨_,len,cap,zs,at' + n,by simpa using hB,h2.only hO (λx hx hR=>?_),h3,h4,by omega,h6,by rw [h7,List.drop_drop],h0,Pw⟩
 cases hx
 exact (h3 _ rfl).1 hR
theorem yM (R : Nat) (s : aI) (e : Int) (he : 0 <= e /\ e <= 17) (w : World) (h : bq w R B0 s) :
 Calls Tryz.prog 194 #[.pointer (some ⟨R,0,none⟩),.int .i64 e] w λx w'=>x = .returned (.tuple #[]) /\ bq w' R B0 (s.1,if s.2 = 0 then e else s.2) /\ Only (· = R) w w':=by
 have er:=yL R s w h;have h':=h
 obtain ⟨a,len,cap,zs,at',h1,h2,h3,h4,h5,h6,h7,h8⟩:=h'
 have c0:=h1.cell 2;have f0:=h1.free 2;simp at c0
 obtain ⟨l,s⟩:=s
 simp only at *
 by_cases hs : s = 0
 ·subst hs
  go_enter Tryz.func194,Tryz.ntmps194
  go_wp2_with fail
  refine er.mono ?_;rintro x w1 ⟨rfl,rfl⟩
  go_wp2
  have hO:=(Only.refl (· = R) w).setCell (p:=⟨R,2,none⟩) (.inl rfl) (.int .i64 e)
  refine bodyPost_end (v:=.tuple #[]) (by simp [results,Tryz.results194,go_sem]) rfl ⟨rfl,?_,hO⟩
  refine ⟨a,len,cap,zs,at',by simpa using h1.set 2 (.int .i64 e),h2.only hO (λx hx hR=>(h3 x hx).1 hR),h3,h4,h5,h6,by first | exact h7 | simp [h7],?_,?_⟩ <;> simp <;> omega
 ·have hs' : (s == 0) = false:=by simpa using hs
  rw [if_neg hs]
  go_enter Tryz.func194,Tryz.ntmps194
  go_wp2_with fail
  refine er.mono ?_;rintro x w1 ⟨rfl,rfl⟩
  go_wp2
  exact bodyPost_end (v:=.tuple #[]) (by simp [results,Tryz.results194,go_sem]) rfl ⟨rfl,h,Only.refl _ _⟩
end
end Go.Proofs.YtklkooeimkedgaaGreat
namespace Go.Proofs.YtklkooeimkedgaaGreat
open Go.RowKit
set_option maxRecDepth 8000
def iK (off : List Int -> Int × Nat × Int) (s : aI) : Int × aI :=
 if s.2 ≠ 0 then (0,s) else if s.1 = [] then (0,(s.1,6)) else
 if (off s.1).2.2 ≠ 0 then (0,(s.1,(off s.1).2.2)) else ((off s.1).1,(s.1.drop (off s.1).2.1,0))
def jW (zs : List Int) : Int × Nat × Int:=(zs.getD 0 0,1,0)
def iR (most : Int) (zs : List Int) : Int × Nat × Int:=((gW zs).1,(gW zs).2.1,if (gW zs).2.2 = 0 /\ most < (gW zs).1 then 3 else (gW zs).2.2)
section
variable {B0 : Nat}
theorem Xl (a : Option Addr) (len cap : Nat) (zs : List Int) (w : World) (hz : BytesAt w a len zs) (hn : zs ≠ []) :
 Calls Tryz.prog 209 #[.slice a len cap] w λe w'=>e = .returned (.tuple #[.int .u8 (jW zs).1,.int .i64 (jW zs).2.1,.int .i64 (jW zs).2.2]) /\ w = w':=by
 obtain ⟨hl,_,h | ⟨b,off,rfl,hb,hc⟩⟩:=hz
 ·exfalso;apply hn;exact List.eq_nil_of_length_eq_zero (by omega)
 ·have hp : 0 < len:=by
   rcases Nat.eq_zero_or_pos len with h | h
   ·exfalso;apply hn;exact List.eq_nil_of_length_eq_zero (by omega)
   ·exact h
  have c0:=hc 0 hp
  have hp' : (0 : Int) < len:=by omega
  rw [Nat.add_zero] at c0
  show Calls Tryz.prog 209 #[.slice (some ⟨b,off,none⟩) len cap] w λe w'=>e = .returned (.tuple #[.int .u8 (zs.getD 0 0),.int .i64 1,.int .i64 0]) /\ w = w'
  generalize zs.getD 0 0 = z at *
  clear hc
  go_enter Tryz.func209,Tryz.ntmps209
  go_wp2
  exact bodyPost_ret (v:=.tuple #[.int .u8 z,.int .i64 1,.int .i64 0]) (by simp [results,Tryz.results209,go_sem]) rfl ⟨rfl,rfl⟩
theorem Xm (C : Nat) (most : Int) (a : Option Addr) (len cap : Nat) (zs : List Int) (w : World) (hC : ak w C #[.int .u64 most] 114) (hz : BytesAt w a len zs) (hl : (len : Int) <= 140737488355000) :
 Calls Tryz.prog 206 #[.slice a len cap,.pointer (some ⟨C,0,none⟩)] w λe w'=>e = .returned (.tuple #[.int .u64 (iR most zs).1,.int .i64 (iR most zs).2.1,.int .i64 (iR most zs).2.2]) /\ w = w':=by
 have vg:=YG a len cap zs w hz hl;have c0:=hC.cell 0;simp at c0
 unfold iR
 generalize gW zs = g at *
 obtain ⟨x,n,e⟩:=g
 simp only at *
 by_cases he : e = 0
 ·subst he
  by_cases hm : most < x
  ·rw [if_pos ⟨rfl,hm⟩]
   go_enter Tryz.func206,Tryz.ntmps206
   go_wp2_with fail
   refine vg.mono ?_;rintro e w1 ⟨rfl,rfl⟩
   go_wp2
   exact bodyPost_ret (v:=.tuple #[.int .u64 x,.int .i64 n,.int .i64 3]) (by simp [results,Tryz.results206,go_sem]) rfl ⟨rfl,rfl⟩
  ·rw [if_neg (by simp [hm])]
   go_enter Tryz.func206,Tryz.ntmps206
   go_wp2_with fail
   refine vg.mono ?_;rintro e w1 ⟨rfl,rfl⟩
   go_wp2
   exact bodyPost_ret (v:=.tuple #[.int .u64 x,.int .i64 n,.int .i64 0]) (by simp [results,Tryz.results206,go_sem]) rfl ⟨rfl,rfl⟩
 ·rw [if_neg (by simp [he])]
  have he' : (e == 0) = false:=by simpa using he
  clear he
  go_enter Tryz.func206,Tryz.ntmps206
  go_wp2_with fail
  refine vg.mono ?_;rintro e w1 ⟨rfl,rfl⟩
  go_wp2
  exact bodyPost_ret (v:=.tuple #[.int .u64 x,.int .i64 n,.int .i64 e]) (by simp [results,Tryz.results206,go_sem]) rfl ⟨rfl,rfl⟩
theorem GA : ∀ (i : Nat) (x : Int) (zs : List Int),(gV i x zs).2.2 = 0 -> (gV i x zs).2.1 <= i + zs.length
 | i,x,[]=>by
   rw [gV];split <;> simp
 | i,x,c :: r=>by
   rw [gV]
   split
   ·simp
   split
   ·simp
   split
   ·intro h;have:=GA (i + 1) _ r h;rw [List.length_cons];omega
   split
   ·simp
   ·intro _;simp
theorem GD : ∀ (i : Nat) (x : Int) (zs : List Int),0 <= (gV i x zs).2.2 /\ (gV i x zs).2.2 <= 17
 | i,x,[]=>by
   rw [gV];split <;> simp
 | i,x,c :: r=>by
   rw [gV]
   split
   ·simp
   split
   ·simp
   split
   ·exact GD (i + 1) _ r
   split
   ·simp
   ·simp
theorem Px (zs : List Int) (hz : zs ≠ []) (_ : (jW zs).2.2 = 0) : (jW zs).2.1 <= zs.length:=by
 have:=List.length_pos_iff.2 hz
 show 1 <= zs.length;omega
theorem Py (zs : List Int) : 0 <= (jW zs).2.2 /\ (jW zs).2.2 <= 17:=by show (0 : Int) <= 0 /\ (0 : Int) <= 17;omega
theorem Pz (zs : List Int) : (gW zs).2.2 = 0 -> (gW zs).2.1 <= zs.length:=by
 unfold gW;split
 ·simp
 ·intro h;have:=GA 0 0 zs h;omega
theorem PG (zs : List Int) : 0 <= (gW zs).2.2 /\ (gW zs).2.2 <= 17:=by
 unfold gW;split
 ·simp
 ·exact GD 0 0 zs
theorem PI (most : Int) (zs : List Int) (hz : zs ≠ []) (h : (iR most zs).2.2 = 0) : (iR most zs).2.1 <= zs.length:=by
 unfold iR at *
 simp only at *
 split at h
 ·cases h
 ·exact Pz zs h
theorem PO (most : Int) (zs : List Int) : 0 <= (iR most zs).2.2 /\ (iR most zs).2.2 <= 17:=by
 unfold iR
 simp only
 split
 ·omega
 ·exact PG zs
set_option maxHeartbeats 1000000 in
theorem YI (R : Nat) (s : aI) (w : World) (C : Nat) (most : Int) (hC : ak w C #[.int .u64 most] 114) (h : bq w R B0 s) :
 Calls Tryz.prog 205 #[.pointer (some ⟨R,0,none⟩),.func (.func 206) #[] #[.pointer (some ⟨C,0,none⟩)]] w λe w'=>e = .returned (.int .u64 (iK (iR most) s).1) /\ bq w' R B0 (iK (iR most) s).2 /\ Only (· = R) w w':=by
 have ho : ∀ a len cap zs w1,Below w.heap.size w w1 -> BytesAt w1 a len zs -> zs ≠ [] -> (len : Int) <= 140737488355000 ->
  Calls Tryz.prog 206 (#[.slice a len cap,.pointer (some ⟨C,0,none⟩)]) w1 λe w'=>e = .returned (.tuple #[.int .u64 (iR most zs).1,.int .i64 (iR most zs).2.1,.int .i64 (iR most zs).2.2]) /\ w1 = w':=λa len cap zs w1 hb hz _ hl=>Xm C most a len cap zs w1 (hC.below hb hC.lt) hz hl
 have hn:=PI most;have Pw:=PO most
 generalize iR most = off at *
 have er:=yL R s w h;have lf:=FQ R s w h
 obtain ⟨l,s⟩:=s
 simp only at *
 by_cases hs : s = 0
 ·subst hs
  unfold iK
  rw [if_neg (by simp)]
  simp only
  by_cases hl : l = []
  ·subst hl
   rw [if_pos rfl]
   have h':=h
   obtain ⟨a,len,cap,zs,at',h1,h2,h3,h4,h5,h6,h7,h8⟩:=h'
   go_enter Tryz.func205,Tryz.ntmps205
   go_wp2_with fail
   refine er.mono ?_;rintro x w1 ⟨rfl,rfl⟩
   go_wp2_with fail
   refine lf.mono ?_;rintro x w1 ⟨rfl,hb1⟩
   have h1':=h1.below hb1 h1.lt;have c0:=h1'.cell 2;have f0:=h1'.free 2;simp at c0;have hO:=((Only.of_below hb1 : Only (· = R) w w1)).setCell (p:=⟨R,2,none⟩) (.inl rfl) (.int .i64 6)
   have hR : bq (w1.setCell ⟨R,2,none⟩ (.int .i64 6)) R B0 ([],6):=⟨a,len,cap,zs,at',by simpa using h1'.set 2 (.int .i64 6),h2.only hO (λx hx hR=>(h3 x hx).1 hR),h3,h4,h5,h6,h7,by decide,by decide⟩
   have HO:=aiS hO;have HR:=aiS hR;clear hO hR hb1 h1' h1 h2 h h3 h7 lf er ho
   go_wp2
   exact bodyPost_ret (v:=.int .u64 0) (by simp [results,Tryz.results205,go_sem]) rfl ⟨rfl,HR.out,HO.out⟩
  ·have hlen : ((l.length : Nat) : Int) ≠ 0:=by
    have:=List.length_pos_iff.2 hl
    omega
   have hlb : (((l.length : Nat) : Int) == 0) = false:=by simpa using hlen
   rw [if_neg hl]
   obtain ⟨rt,hrt⟩ : ∃ r,(if (off l).2.2 ≠ 0 then ((0 : Int),((l,(off l).2.2) : aI)) else ((off l).1,(l.drop (off l).2.1,0))) = r:=⟨_,rfl⟩
   rw [hrt]
   have HT:=aiS hrt.symm;clear hrt
   obtain ⟨b,o,len,cap,at',h1,h2,h3,h4,h5,h6,h7,h8⟩:=h.rest hl
   simp only at h1 h6 h7 h8
   go_enter Tryz.func205,Tryz.ntmps205
   go_wp2_with fail
   refine er.mono ?_;rintro x w1 ⟨rfl,rfl⟩
   go_wp2_with fail
   refine lf.mono ?_;rintro x w1 ⟨rfl,hb1⟩
   have h1':=h1.below hb1 h1.lt;have PS:=h7.below hb1;have c0:=h1'.cell 0;have c1:=h1'.cell 1;simp at c0 c1
   have hcall : ∀ n,Calls Tryz.prog 206 #[.slice (some ⟨b,o + at',none⟩) (len - at') (cap - at'),.pointer (some ⟨C,0,none⟩)] (w1.drewN n) λe w'=>e = .returned (.tuple #[.int .u64 (off l).1,.int .i64 (off l).2.1,.int .i64 (off l).2.2]) /\ w' = w1.drewN n :=
    λn=>(ho _ _ _ _ _ (below_drewN hb1 n) (PS.below (below_drewN aiU n)) hl (by omega)).mono λe w' ⟨h1,h2⟩=>⟨h1,h2.symm⟩
   have hnc : ¬ cap = at':=by omega
   have hl1 : at' <= len:=by omega
   have hl2 : at' <= cap:=by omega
   have e17:=Pw l;have en:=hn l hl
   generalize off l = g at *
   obtain ⟨x,n,e⟩:=g
   simp only at hcall e17 en
   clear er lf h ho hlb
   go_wp2_with fail
   go_quiet (first | exact Calls.quiet_of_same (hcall _) | (trace_state;fail))
   have HB2 : Hid (Below w.heap.size w (w1.drewN nq)):=aiS (below_drewN hb1 nq)
   have uo:=h1'.draws nq;clear hcall h1 h7 PS c0 c1 hb1 h1'
   by_cases he : e = 0
   ·subst he
    have HV : Hid (rt = (x,(l.drop n,0))):=aiS (by rw [HT.out];exact if_neg (by simp))
    have c0:=uo.cell 1;have f0:=uo.free 1;simp at c0;have hO:=((Only.of_below HB2.out : Only (· = R) w (w1.drewN nq))).setCell (p:=⟨R,1,none⟩) (.inl rfl) (.int .i64 ((at' : Int) + n))
    have hR:=h8 _ n 0 (by have:=en rfl;omega) (by decide) (by decide) hO (by simpa using uo.set 1 (.int .i64 ((at' : Int) + n)))
    have HO:=aiS hO;have HR:=aiS hR;have hnn:=en rfl;clear hO hR uo h8 en
    go_wp2
    exact bodyPost_ret (v:=.int .u64 x) (by simp [results,Tryz.results205,go_sem]) rfl ⟨by rw [HV.out],by rw [HV.out];exact HR.out,HO.out⟩
   ·have he' : (e != 0) = true:=by simpa using he
    have HV : Hid (rt = (0,(l,e))):=aiS (by rw [HT.out];exact if_pos he)
    have c0:=uo.cell 2;have f0:=uo.free 2;simp at c0;have hO:=((Only.of_below HB2.out : Only (· = R) w (w1.drewN nq))).setCell (p:=⟨R,2,none⟩) (.inl rfl) (.int .i64 e)
    have hR:=h8 _ 0 e (Nat.zero_le _) e17.1 e17.2 hO (by simpa using uo.set 2 (.int .i64 e))
    have HO:=aiS hO;have HR:=aiS hR;clear hO hR uo h8 en he
    go_wp2
    exact bodyPost_ret (v:=.int .u64 0) (by simp [results,Tryz.results205,go_sem]) rfl ⟨by rw [HV.out],by rw [HV.out];exact HR.out,HO.out⟩
 ·have hs' : (s != 0) = true:=by simpa using hs
  unfold iK
  rw [if_pos hs]
  go_enter Tryz.func205,Tryz.ntmps205
  go_wp2_with fail
  refine er.mono ?_;rintro x w1 ⟨rfl,rfl⟩
  go_wp2
  exact bodyPost_ret (v:=.int .u64 0) (by simp [results,Tryz.results205,go_sem]) rfl ⟨rfl,h,Only.refl _ _⟩
set_option maxHeartbeats 1000000 in
theorem YJ (R : Nat) (s : aI) (w : World) (h : bq w R B0 s) :
 Calls Tryz.prog 208 #[.pointer (some ⟨R,0,none⟩),.func (.func 209) #[] #[]] w λe w'=>e = .returned (.int .u8 (iK (jW) s).1) /\ bq w' R B0 (iK (jW) s).2 /\ Only (· = R) w w':=by
 have ho : ∀ a len cap zs w1,Below w.heap.size w w1 -> BytesAt w1 a len zs -> zs ≠ [] -> (len : Int) <= 140737488355000 ->
  Calls Tryz.prog 209 (#[.slice a len cap]) w1 λe w'=>e = .returned (.tuple #[.int .u8 (jW zs).1,.int .i64 (jW zs).2.1,.int .i64 (jW zs).2.2]) /\ w1 = w':=λa len cap zs w1 hb hz hn hl=>Xl a len cap zs w1 hz hn
 have hn:=Px;have Pw:=Py
 generalize jW = off at *
 have er:=yL R s w h;have lf:=FQ R s w h
 obtain ⟨l,s⟩:=s
 simp only at *
 by_cases hs : s = 0
 ·subst hs
  unfold iK
  rw [if_neg (by simp)]
  simp only
  by_cases hl : l = []
  ·subst hl
   rw [if_pos rfl]
   have h':=h
   obtain ⟨a,len,cap,zs,at',h1,h2,h3,h4,h5,h6,h7,h8⟩:=h'
   go_enter Tryz.func208,Tryz.ntmps208
   go_wp2_with fail
   refine er.mono ?_;rintro x w1 ⟨rfl,rfl⟩
   go_wp2_with fail
   refine lf.mono ?_;rintro x w1 ⟨rfl,hb1⟩
   have h1':=h1.below hb1 h1.lt;have c0:=h1'.cell 2;have f0:=h1'.free 2;simp at c0;have hO:=((Only.of_below hb1 : Only (· = R) w w1)).setCell (p:=⟨R,2,none⟩) (.inl rfl) (.int .i64 6)
   have hR : bq (w1.setCell ⟨R,2,none⟩ (.int .i64 6)) R B0 ([],6):=⟨a,len,cap,zs,at',by simpa using h1'.set 2 (.int .i64 6),h2.only hO (λx hx hR=>(h3 x hx).1 hR),h3,h4,h5,h6,h7,by decide,by decide⟩
   have HO:=aiS hO;have HR:=aiS hR;clear hO hR hb1 h1' h1 h2 h h3 h7 lf er ho
   go_wp2
   exact bodyPost_ret (v:=.int .u8 0) (by simp [results,Tryz.results208,go_sem]) rfl ⟨rfl,HR.out,HO.out⟩
  ·have hlen : ((l.length : Nat) : Int) ≠ 0:=by
    have:=List.length_pos_iff.2 hl
    omega
   have hlb : (((l.length : Nat) : Int) == 0) = false:=by simpa using hlen
   rw [if_neg hl]
   obtain ⟨rt,hrt⟩ : ∃ r,(if (off l).2.2 ≠ 0 then ((0 : Int),((l,(off l).2.2) : aI)) else ((off l).1,(l.drop (off l).2.1,0))) = r:=⟨_,rfl⟩
   rw [hrt]
   have HT:=aiS hrt.symm;clear hrt
   obtain ⟨b,o,len,cap,at',h1,h2,h3,h4,h5,h6,h7,h8⟩:=h.rest hl
   simp only at h1 h6 h7 h8
   go_enter Tryz.func208,Tryz.ntmps208
   go_wp2_with fail
   refine er.mono ?_;rintro x w1 ⟨rfl,rfl⟩
   go_wp2_with fail
   refine lf.mono ?_;rintro x w1 ⟨rfl,hb1⟩
   have h1':=h1.below hb1 h1.lt;have PS:=h7.below hb1;have c0:=h1'.cell 0;have c1:=h1'.cell 1;simp at c0 c1
   have hcall : ∀ n,Calls Tryz.prog 209 #[.slice (some ⟨b,o + at',none⟩) (len - at') (cap - at')] (w1.drewN n) λe w'=>e = .returned (.tuple #[.int .u8 (off l).1,.int .i64 (off l).2.1,.int .i64 (off l).2.2]) /\ w' = w1.drewN n :=
    λn=>(ho _ _ _ _ _ (below_drewN hb1 n) (PS.below (below_drewN aiU n)) hl (by omega)).mono λe w' ⟨h1,h2⟩=>⟨h1,h2.symm⟩
   have hnc : ¬ cap = at':=by omega
   have hl1 : at' <= len:=by omega
   have hl2 : at' <= cap:=by omega
   have e17:=Pw l;have en:=hn l hl
   generalize off l = g at *
   obtain ⟨x,n,e⟩:=g
   simp only at hcall e17 en
   clear er lf h ho hlb
   go_wp2_with fail
   go_quiet (first | exact Calls.quiet_of_same (hcall _) | (trace_state;fail))
   have HB2 : Hid (Below w.heap.size w (w1.drewN nq)):=aiS (below_drewN hb1 nq)
   have uo:=h1'.draws nq;clear hcall h1 h7 PS c0 c1 hb1 h1'
   by_cases he : e = 0
   ·subst he
    have HV : Hid (rt = (x,(l.drop n,0))):=aiS (by rw [HT.out];exact if_neg (by simp))
    have c0:=uo.cell 1;have f0:=uo.free 1;simp at c0;have hO:=((Only.of_below HB2.out : Only (· = R) w (w1.drewN nq))).setCell (p:=⟨R,1,none⟩) (.inl rfl) (.int .i64 ((at' : Int) + n))
    have hR:=h8 _ n 0 (by have:=en rfl;omega) (by decide) (by decide) hO (by simpa using uo.set 1 (.int .i64 ((at' : Int) + n)))
    have HO:=aiS hO;have HR:=aiS hR;have hnn:=en rfl;clear hO hR uo h8 en
    go_wp2
    exact bodyPost_ret (v:=.int .u8 x) (by simp [results,Tryz.results208,go_sem]) rfl ⟨by rw [HV.out],by rw [HV.out];exact HR.out,HO.out⟩
   ·have he' : (e != 0) = true:=by simpa using he
    have HV : Hid (rt = (0,(l,e))):=aiS (by rw [HT.out];exact if_pos he)
    have c0:=uo.cell 2;have f0:=uo.free 2;simp at c0;have hO:=((Only.of_below HB2.out : Only (· = R) w (w1.drewN nq))).setCell (p:=⟨R,2,none⟩) (.inl rfl) (.int .i64 e)
    have hR:=h8 _ 0 e (Nat.zero_le _) e17.1 e17.2 hO (by simpa using uo.set 2 (.int .i64 e))
    have HO:=aiS hO;have HR:=aiS hR;clear hO hR uo h8 en he
    go_wp2
    exact bodyPost_ret (v:=.int .u8 0) (by simp [results,Tryz.results208,go_sem]) rfl ⟨by rw [HV.out],by rw [HV.out];exact HR.out,HO.out⟩
 ·have hs' : (s != 0) = true:=by simpa using hs
  unfold iK
  rw [if_pos hs]
  go_enter Tryz.func208,Tryz.ntmps208
  go_wp2_with fail
  refine er.mono ?_;rintro x w1 ⟨rfl,rfl⟩
  go_wp2
  exact bodyPost_ret (v:=.int .u8 0) (by simp [results,Tryz.results208,go_sem]) rfl ⟨rfl,h,Only.refl _ _⟩
end
end Go.Proofs.YtklkooeimkedgaaGreat
namespace Go.Proofs.YtklkooeimkedgaaGreat
open Go.RowKit
set_option maxRecDepth 8000
section
variable {B0 : Nat}
theorem bq.u8 {w : World} {R : Nat} {s : aI} (h : bq w R B0 s) : aV s.1:=by
 obtain ⟨a,len,cap,zs,at',h1,h2,h3,h4,h5,h6,h7,h8⟩:=h
 rw [h7];exact λz hz=>h2.u8 z (List.mem_of_mem_drop hz)
theorem GH : ∀ (i : Nat) (y : Int) (zs : List Int),gY y -> (i <= 9 -> y < 128 ^ i) -> aV zs -> gY (gV i y zs).1
 | i,y,[],hy,hl,hz=>by
   rw [gV];split <;> exact ⟨by decide,by decide⟩
 | i,y,c :: r,hy,hl,hz=>by
   have hc : U8 c:=hz c (List.mem_cons_self ..)
   obtain ⟨c0,c1⟩:=hc
   rw [gV]
   split
   ·exact ⟨by decide,by decide⟩
   rename_i hi
   obtain ⟨p0,p1,pm⟩:=LW i (c % 128) (by omega) (by omega) rfl
   have hs:=Jc i y _ (by omega) hy (hl (by omega)) p0 p1 pm
   split
   ·exact ⟨by decide,by decide⟩
   split
   ·exact GH (i + 1) _ r hs (λh=>Gy i (c % 128) h (by omega) rfl (hl (by omega))) (λz hz'=>hz z (List.mem_cons_of_mem _ hz'))
   split
   ·exact ⟨by decide,by decide⟩
   ·exact hs
theorem TS {zs : List Int} (h : aV zs) : gY (gW zs).1:=by
 unfold gW
 split
 ·exact ⟨by decide,by decide⟩
 ·exact GH 0 0 zs ⟨by decide,by decide⟩ (λ_=>by decide) h
def bG (s : aI) : Int × aI:=iK jW s
def bf (most : Int) (s : aI) : Int × aI:=iK (iR most) s
def dV (s : aI) : Int × aI:=(zC (bf 18446744073709551615 s).1,(bf 18446744073709551615 s).2)
def dW (s : aI) : (Int × Int × Int) × aI :=
 (((dV s).1,(dV (dV s).2).1,(dV (dV (dV s).2).2).1),(dV (dV (dV s).2).2).2)
theorem iZ {most : Int} {s : aI} (h : aV s.1) (hm : 0 <= most) : 0 <= (bf most s).1 /\ (bf most s).1 <= most:=by
 obtain ⟨v0,v1⟩:=TS h
 unfold bf iK iR
 simp only
 generalize gW s.1 = g at *
 by_cases h1 : s.2 ≠ 0
 ·rw [if_pos h1];exact ⟨Int.le_refl _,hm⟩
 rw [if_neg h1]
 by_cases h2 : s.1 = []
 ·rw [if_pos h2];exact ⟨Int.le_refl _,hm⟩
 rw [if_neg h2]
 by_cases h3 : g.2.2 = 0 /\ most < g.1
 ·rw [if_pos h3,if_pos (by decide)];exact ⟨Int.le_refl _,hm⟩
 rw [if_neg h3]
 by_cases h4 : g.2.2 ≠ 0
 ·rw [if_pos h4];exact ⟨Int.le_refl _,hm⟩
 rw [if_neg h4]
 refine ⟨v0,?_⟩
 show g.1 <= most
 rcases Int.lt_or_le most g.1 with hlt | hge
 ·exact absurd ⟨Decidable.of_not_not h4,hlt⟩ h3
 ·exact hge
theorem Az {s : aI} (h : aV s.1) : U8 (bG s).1:=by
 unfold bG iK jW
 simp only
 split
 ·exact ⟨Int.le_refl _,by simp⟩
 split
 ·exact ⟨Int.le_refl _,by simp⟩
 ·rename_i h1
  rw [if_neg (by simp)]
  cases hs : s.1 with
  | nil=>exact absurd hs h1
  | cons c r=>exact h c (by rw [hs];exact List.mem_cons_self ..)
theorem uq {s : aI} (h : aV s.1) : ay (dV s).1:=by
 have:=iZ (most:=18446744073709551615) h (by decide)
 exact TL ⟨this.1,this.2⟩
theorem FR (R : Nat) (s : aI) (w : World) (h : bq w R B0 s) :
 Calls Tryz.prog 193 #[.pointer (some ⟨R,0,none⟩)] w λe w'=>e = .returned (.int .u8 (bG s).1) /\ bq w' R B0 (bG s).2 /\ Only (· = R) w w':=by
 have tk:=YJ R s w h
 show Calls Tryz.prog 193 #[.pointer (some ⟨R,0,none⟩)] w λe w'=>e = .returned (.int .u8 (iK jW s).1) /\ bq w' R B0 (iK jW s).2 /\ Only (· = R) w w'
 generalize iK jW s = r at *
 clear h
 go_enter Tryz.func193,Tryz.ntmps193
 go_wp2_with fail
 refine tk.mono ?_;rintro e w1 ⟨rfl,h1,h2⟩
 go_wp2
 go_ret
 exact ⟨rfl,h1,h2⟩
theorem sW (R : Nat) (s : aI) (most : Int) (w : World) (h : bq w R B0 s) :
 Calls Tryz.prog 192 #[.pointer (some ⟨R,0,none⟩),.int .u64 most] w λe w'=>e = .returned (.int .u64 (bf most s).1) /\ bq w' R B0 (bf most s).2 /\ Only (· = R) w w':=by
 have tk:=YI R s (w.alloc (.cells #[.int .u64 most] 114)) w.heap.size most (ak.new w _ _) (h.below (aiT))
 show Calls Tryz.prog 192 #[.pointer (some ⟨R,0,none⟩),.int .u64 most] w λe w'=>e = .returned (.int .u64 (iK (iR most) s).1) /\ bq w' R B0 (iK (iR most) s).2 /\ Only (· = R) w w'
 have PU:=aiS ((Only.refl (· = R) w).alloc (.cells #[.int .u64 most] 114))
 generalize iK (iR most) s = r at *
 clear h
 go_enter Tryz.func192,Tryz.ntmps192
 go_wp2_with fail
 refine tk.mono ?_;rintro e w1 ⟨rfl,h1,h2⟩
 have HO:=aiS (PU.out.trans h2);clear PU h2 tk
 go_wp2
 go_ret
 exact ⟨rfl,h1,HO.out⟩
theorem Jg (R : Nat) (s : aI) (w : World) (h : bq w R B0 s) :
 Calls Tryz.prog 195 #[.pointer (some ⟨R,0,none⟩)] w λe w'=>e = .returned (.int .i64 (dV s).1) /\ bq w' R B0 (dV s).2 /\ Only (· = R) w w':=by
 have tk:=sW R s 18446744073709551615 w h
 have hu:=iZ (most:=18446744073709551615) h.u8 (by decide)
 have zg:=λw=>abF (bf 18446744073709551615 s).1 ⟨hu.1,hu.2⟩ w
 show Calls Tryz.prog 195 #[.pointer (some ⟨R,0,none⟩)] w λe w'=>e = .returned (.int .i64 (zC (bf 18446744073709551615 s).1)) /\ bq w' R B0 (bf 18446744073709551615 s).2 /\ Only (· = R) w w'
 generalize bf 18446744073709551615 s = r at *
 generalize zC r.1 = z at *
 clear h hu
 go_enter Tryz.func195,Tryz.ntmps195
 go_wp2_with fail
 refine tk.mono ?_;rintro e w1 ⟨rfl,h1,h2⟩
 have zg1:=zg w1
 go_wp2_with fail
 refine zg1.mono ?_;rintro e w2 ⟨rfl,rfl⟩
 go_wp2
 go_ret
 exact ⟨rfl,h1,h2⟩
theorem Xn (R : Nat) (s : aI) (w : World) (h : bq w R B0 s) :
 Calls Tryz.prog 166 #[.pointer (some ⟨R,0,none⟩)] w λe w'=>e = .returned (.int .i64 (if s.2 ≠ 0 then s.2 else if s.1 = [] then 0 else 8)) /\ Below w.heap.size w w':=by
 have er:=yL R s w h;have lf:=FQ R s w h;clear h
 obtain ⟨l,s⟩:=s
 simp only at *
 by_cases hs : s = 0
 ·subst hs
  rw [if_neg (by simp)]
  by_cases hl : l = []
  ·subst hl
   rw [if_pos rfl]
   go_enter Tryz.func166,Tryz.ntmps166
   go_wp2_with fail
   refine er.mono ?_;rintro e w1 ⟨rfl,rfl⟩
   go_wp2_with fail
   refine lf.mono ?_;rintro e w1 ⟨rfl,hb⟩
   go_wp2
   go_ret
   exact ⟨rfl,hb⟩
  ·have hlen : (((l.length : Nat) : Int) == 0) = false:=by
    have:=List.length_pos_iff.2 hl
    simp;omega
   rw [if_neg hl]
   generalize ((l.length : Nat) : Int) = n at *
   go_enter Tryz.func166,Tryz.ntmps166
   go_wp2_with fail
   refine er.mono ?_;rintro e w1 ⟨rfl,rfl⟩
   go_wp2_with fail
   refine lf.mono ?_;rintro e w1 ⟨rfl,hb⟩
   go_wp2
   go_ret
   exact ⟨rfl,hb⟩
 ·rw [if_pos hs]
  have hs' : (s != 0) = true:=by simpa using hs
  go_enter Tryz.func166,Tryz.ntmps166
  go_wp2_with fail
  refine er.mono ?_;rintro e w1 ⟨rfl,rfl⟩
  go_wp2
  go_ret
  exact ⟨rfl,Below.refl _ _⟩
theorem YK (a : Option Addr) (len cap : Nat) (zs : List Int) (w : World) (hz : BytesAt w a len zs) (hc : len <= cap) (hb : ∀ x,a = some x -> x.block < w.heap.size) (hl : (len : Int) <= 140737488355000) :
 Calls Tryz.prog 161 #[.slice a len cap] w λe w'=>∃ R,e = .returned (.pointer (some ⟨R,0,none⟩)) /\ w.heap.size <= R /\ bq w' R w.heap.size (zs,0) /\ Below w.heap.size w w':=by
 have hlt : ∀ x,a = some x -> x.block ≠ w.heap.size /\ x.block < w.heap.size:=λx hx=>by have:=hb x hx;omega
 have HR : Hid (bq (w.alloc (.cells #[.slice a len cap,.int .i64 0,.int .i64 0] 298)) w.heap.size w.heap.size (zs,0)):=aiS
  ⟨a,len,cap,zs,0,ak.new w _ _,hz.below (aiT),hlt,hc,Nat.zero_le _,hl,rfl,Int.le_refl _,by simp⟩
 have HB : Hid (Below w.heap.size w (w.alloc (.cells #[.slice a len cap,.int .i64 0,.int .i64 0] 298))):=aiS (aiT)
 go_enter Tryz.func161,Tryz.ntmps161
 go_wp2
 go_ret
 exact ⟨_,rfl,Nat.le_refl _,HR.out,HB.out⟩
end
end Go.Proofs.YtklkooeimkedgaaGreat
namespace Go.Proofs.YtklkooeimkedgaaGreat
open Go.RowKit
set_option maxRecDepth 8000
theorem Ji (s : aI) {x y z : Int} {s1 s2 s3 : aI} (h1 : dV s = (x,s1)) (h2 : dV s1 = (y,s2)) (h3 : dV s2 = (z,s3)) : dW s = ((x,y,z),s3):=by
 unfold dW;rw [h1];simp only;rw [h2];simp only;rw [h3]
def AA (w : World) (R B0 : Nat) (c : List (Array Value × aI)) (k : Nat) (wr : World) : Prop :=
 ∃ q,c[k]? = some q /\ ak wr w.heap.size #[.int .i64 0,.int .i64 0,.int .i64 0] 22 /\ ak wr (w.heap.size + 1) q.1 22 /\ bq wr R B0 q.2 /\ Only (· = R) w wr
set_option maxHeartbeats 1000000 in
theorem PX {B0 : Nat} (R : Nat) (s : aI) (w : World) (h : bq w R B0 s) (hB0 : B0 <= w.heap.size) :
 Calls Tryz.prog 191 #[.pointer (some ⟨R,0,none⟩)] w λe w'=>e = .returned (v3 (dW s).1.1 (dW s).1.2.1 (dW s).1.2.2) /\ bq w' R B0 (dW s).2 /\ Only (· = R) w w':=by
 have ri:=λs w h=>Jg (B0:=B0) R s w h
 obtain ⟨x,s1,e1⟩ : ∃ x s1,dV s = (x,s1):=⟨_,_,rfl⟩
 obtain ⟨y,s2,e2⟩ : ∃ x t,dV s1 = (x,t):=⟨_,_,rfl⟩
 obtain ⟨z,s3,e3⟩ : ∃ x t,dV s2 = (x,t):=⟨_,_,rfl⟩
 have r1:=λw h=>ri s w h
 have r2:=λw h=>ri s1 w h
 have r3:=λw h=>ri s2 w h
 rw [e1] at r1;rw [e2] at r2;rw [e3] at r3
 rw [Ji s e1 e2 e3]
 clear e1 e2 e3 ri
 simp only at r1 r2 r3
 obtain ⟨hRl,YL,uw⟩ : R < w.heap.size /\ ¬ w.heap.size = R /\ ¬ w.heap.size + 1 = R:=by
  obtain ⟨a,len,cap,zs,at',h1,_⟩:=h
  have:=h1.lt
  omega
 obtain ⟨c,hc⟩ : ∃ c : List (Array Value × aI),c = [(#[.int .i64 0,.int .i64 0,.int .i64 0],s),(#[.int .i64 x,.int .i64 0,.int .i64 0],s1),(#[.int .i64 x,.int .i64 y,.int .i64 0],s2),(#[.int .i64 x,.int .i64 y,.int .i64 z],s3)]:=⟨_,rfl⟩
 have HC:=aiS hc
 have HS : Hid (AA w R B0 c 0 ((w.alloc (.cells #[.int .i64 0,.int .i64 0,.int .i64 0] 22)).alloc (.cells #[.int .i64 0,.int .i64 0,.int .i64 0] 22))):=aiS (by
  refine ⟨_,by rw [hc];rfl,(ak.new w _ _).alloc _,?_,?_,((Only.refl _ _).alloc _).alloc _⟩
  ·have:=ak.new (w.alloc (.cells #[.int .i64 0,.int .i64 0,.int .i64 0] 22)) #[.int .i64 0,.int .i64 0,.int .i64 0] 22
   simpa using this
  ·exact h.below ((aiT).alloc (by simp) _))
 clear hc h
 go_enter Tryz.func191,Tryz.ntmps191
 go_wp2_with fail
 go_loopw [5] (λi wr=>∃ k : Nat,k <= 3 /\ i = .int .i64 k /\ AA w R B0 c k wr) (λi _=>3 - (intOf i).toNat)
 case atStart=>exact ⟨0,by omega,rfl,HS.out⟩
 case round =>
  rename_i wr
  obtain ⟨k,hk,rfl,q,hq,hA,hB,hR,hO⟩:=hrel
  rw [HC.out] at hq
  rcases (show k = 0 \/ k = 1 \/ k = 2 \/ k = 3 by omega) with rfl | rfl | rfl | rfl
  ·cases hq
   have rr:=r1 wr hR;have HA:=aiS hA;have HB:=aiS hB;have HO:=aiS hO;clear hA hB hR hO
   go_wp2_with fail
   refine rr.mono ?_;rintro e w2 ⟨rfl,hR2,hO2⟩
   have hB2:=hO2.blk HB.out uw;have c0:=hB2.cell 0;have f0:=hB2.free 0;simp at c0
   have HS2 : Hid (AA w R B0 c 1 (w2.setCell ⟨w.heap.size + 1,0,none⟩ (.int .i64 x))):=aiS (by
    have yN:=HO.out.trans hO2
    refine ⟨_,by rw [HC.out];rfl,(hO2.blk HA.out YL).far (by simp) _,by simpa using hB2.set 0 (.int .i64 x),?_,yN.setCell (.inr (Nat.le_succ _)) _⟩
    exact hR2.cZ (by simp;omega) (by simp;omega) _)
   clear hB2 hR2 hO2 rr
   go_wp2
   go_roundw
   case rel=>exact ⟨1,by omega,by first | rfl | go_num,HS2.out⟩
   case measure=>simp [intOf]
  ·cases hq
   have rr:=r2 wr hR;have HA:=aiS hA;have HB:=aiS hB;have HO:=aiS hO;clear hA hB hR hO
   go_wp2_with fail
   refine rr.mono ?_;rintro e w2 ⟨rfl,hR2,hO2⟩
   have hB2:=hO2.blk HB.out uw;have c0:=hB2.cell 1;have f0:=hB2.free 1;simp at c0
   have HS2 : Hid (AA w R B0 c 2 (w2.setCell ⟨w.heap.size + 1,1,none⟩ (.int .i64 y))):=aiS (by
    have yN:=HO.out.trans hO2
    refine ⟨_,by rw [HC.out];rfl,(hO2.blk HA.out YL).far (by simp) _,by simpa using hB2.set 1 (.int .i64 y),?_,yN.setCell (.inr (Nat.le_succ _)) _⟩
    exact hR2.cZ (by simp;omega) (by simp;omega) _)
   clear hB2 hR2 hO2 rr
   go_wp2
   go_roundw
   case rel=>exact ⟨2,by omega,by first | rfl | go_num,HS2.out⟩
   case measure=>simp [intOf]
  ·cases hq
   have rr:=r3 wr hR;have HA:=aiS hA;have HB:=aiS hB;have HO:=aiS hO;clear hA hB hR hO
   go_wp2_with fail
   refine rr.mono ?_;rintro e w2 ⟨rfl,hR2,hO2⟩
   have hB2:=hO2.blk HB.out uw;have c0:=hB2.cell 2;have f0:=hB2.free 2;simp at c0
   have HS2 : Hid (AA w R B0 c 3 (w2.setCell ⟨w.heap.size + 1,2,none⟩ (.int .i64 z))):=aiS (by
    have yN:=HO.out.trans hO2
    refine ⟨_,by rw [HC.out];rfl,(hO2.blk HA.out YL).far (by simp) _,by simpa using hB2.set 2 (.int .i64 z),?_,yN.setCell (.inr (Nat.le_succ _)) _⟩
    exact hR2.cZ (by simp;omega) (by simp;omega) _)
   clear hB2 hR2 hO2 rr
   go_wp2
   go_roundw
   case rel=>exact ⟨3,by omega,by first | rfl | go_num,HS2.out⟩
   case measure=>simp [intOf]
  ·cases hq
   have c0:=hB.cell 0;have c1:=hB.cell 1;have c2:=hB.cell 2;have d0:=hA.cell 0;have d1:=hA.cell 1;have d2:=hA.cell 2;have f0:=hA.free 0;have f1:=hA.free 1;have f2:=hA.free 2;simp at c0 c1 c2 d0 d1 d2;have hA3:=((hA.set 0 (.int .i64 x)).set 1 (.int .i64 y)).set 2 (.int .i64 z);have g0:=hA3.cell 0;have g1:=hA3.cell 1;have g2:=hA3.cell 2;simp at g0 g1 g2
   have HO : Hid (Only (· = R) w (((wr.setCell ⟨w.heap.size,0,none⟩ (.int .i64 x)).setCell ⟨w.heap.size,1,none⟩ (.int .i64 y)).setCell ⟨w.heap.size,2,none⟩ (.int .i64 z))):=aiS
    (((hO.setCell (.inr (Nat.le_refl _)) _).setCell (.inr (Nat.le_refl _)) _).setCell (.inr (Nat.le_refl _)) _)
   have HR : Hid (bq (((wr.setCell ⟨w.heap.size,0,none⟩ (.int .i64 x)).setCell ⟨w.heap.size,1,none⟩ (.int .i64 y)).setCell ⟨w.heap.size,2,none⟩ (.int .i64 z)) R B0 s3):=aiS
    (((hR.cZ (by simp;omega) (by simp;omega) _).cZ (by simp;omega) (by simp;omega) _).cZ (by simp;omega) (by simp;omega) _)
   clear hA hA3 hO hR HS hB
   go_wp2
   exact bodyPost_ret (v:=v3 x y z) (by simp [results,Tryz.results191,go_sem,g0,g1,g2]) rfl ⟨rfl,HR.out,HO.out⟩
end Go.Proofs.YtklkooeimkedgaaGreat
