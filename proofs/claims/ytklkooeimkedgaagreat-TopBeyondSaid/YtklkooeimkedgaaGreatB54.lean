/- Walk of TopBeyond. -/
import Derived.Test.YtklkooeimkedgaaGreatB11
import Derived.Test.YtklkooeimkedgaaGreatB53
set_option linter.unusedVariables false
set_option linter.unusedSimpArgs false
namespace Go.Proofs.YtklkooeimkedgaaGreat
open Go.RowKit
structure yj (w : World) (C : Nat) (c : aO) (n : Nat) (S : Nat -> Prop) (x : iq) (wx : World) : Prop where
 at_ : dG wx C c x S
 inv : sG x n
 ge : ∀ j,S j -> w.heap.size <= j
 oC : Below w.heap.size w wx
theorem yj.below {w : World} {C : Nat} {c : aO} {n : Nat} {S : Nat -> Prop} {x : iq} {wx wy : World} (h : yj w C c n S x wx) (hb : Below wx.heap.size wx wy) : yj w C c n S x wy :=
 ⟨h.at_.below hb,h.inv,h.ge,h.oC.trans (hb.mono h.oC.size)⟩
theorem LK {es : List aB} (h : ∀ e ∈ es,e.Ok) {i : Nat} (hi : i < es.length) : (es.getD i bK).Ok:=by
 have : es.getD i bK = es[i]:=by simp [List.getD,hi]
 rw [this];exact h _ (List.getElem_mem hi)
theorem abd {k n : Nat} (h : k < n) : (k : Int) < n:=by omega
theorem ab8 {n : Nat} (h : n <= 64) : (n : Int) <= 4611686018427387904:=by omega
theorem Yv {n : Nat} (h : n <= 64) : n <= 1000:=by omega
theorem Tx {k n : Nat} (h : k <= n) (h2 : ¬ k < n) : k = n:=by omega
theorem VF (k : Nat) : ¬ (k : Int) < k:=by omega
theorem ab9 {n : Nat} (h : n ≠ 0) : ¬ (n : Int) = 0 /\ ((n : Int) == 0) = false:=⟨by omega,by simpa using (show ¬ (n : Int) = 0 by omega)⟩
def VH (ss : List Sn) (m : Nat) : Int × Int:=((ss.getD m dD).tick,(ss.getD m dD).time)
structure K5 (w : World) (m g : Nat) (yt ym : Int) (ya : Option Addr) (yc n : Nat) (es : List aB) : Prop where
 lt : g < w.heap.size
 c0 : w.cell? ⟨g,m * 3,none⟩ = some (.int .i64 yt)
 c1 : w.cell? ⟨g,m * 3 + 1,none⟩ = some (.int .i64 ym)
 c2 : w.cell? ⟨g,m * 3 + 2,none⟩ = some (.slice ya n yc)
 ents : dw w ya n (λi=>es.getD i bK)
 le : n <= 64
 up : ∀ i j,i < j -> j < n -> (es.getD i bK).id < (es.getD j bK).id
theorem K5.below {w w' : World} {m g : Nat} {yt ym : Int} {ya : Option Addr} {yc n : Nat} {es : List aB} (h : K5 w m g yt ym ya yc n es) (hb : Below w.heap.size w w') : K5 w' m g yt ym ya yc n es :=
 ⟨Nat.lt_of_lt_of_le h.lt hb.size,(hb.cell (p:=⟨g,m * 3,none⟩) h.lt).trans h.c0,(hb.cell (p:=⟨g,m * 3 + 1,none⟩) h.lt).trans h.c1,(hb.cell (p:=⟨g,m * 3 + 2,none⟩) h.lt).trans h.c2,h.ents.below hb,h.le,h.up⟩
theorem K5.find {w : World} {m g : Nat} {yt ym : Int} {ya : Option Addr} {yc n : Nat} {es : List aB} (h : K5 w m g yt ym ya yc n es) {j : Nat} (hj : j < n) (W : World) (hW : Below w.heap.size w W) :
 Calls Tryz.prog 26 #[.agg #[.int .i64 yt,.int .i64 ym,.slice ya n yc],.int .i64 (es.getD j bK).id] W λe w'=>e = .returned (.tuple #[bM (es.getD j bK),.bool true]) /\ Below W.heap.size W w':=by
 obtain ⟨h1,h2⟩:=Tj (E:=λi=>es.getD i bK) (len:=n) h.up hj
 have h3:=FY yt ym ya n yc (λi=>es.getD i bK) (es.getD j bK).id W (h.ents.below hW) (ab8 h.le)
 rw [h1,h2] at h3
 exact h3
theorem abe {w : World} {base : Nat} {a : Option Addr} {cc : Nat} {ks : List aG} {ss : List Sn} (lH : gH w base (.slice a ks.length cc) ks) (hm : ks.map (·.sn) = ss) (hS : iY ss) {m : Nat} (hml : m < ss.length) :
 ∃ g ya yc,a = some ⟨g,0,none⟩ /\ K5 w m g (VH ss m).1 (VH ss m).2 ya yc (ss.getD m dD).ents.length (ss.getD m dD).ents /\ ∀ e ∈ (ss.getD m dD).ents,e.Ok:=by
 subst hm
 have hl : m < ks.length:=by simpa using hml
 have hy : ks[m]? = some ks[m]:=List.getElem?_eq_getElem hl
 have hsy : (ks.map (·.sn)).getD m dD = ks[m].sn:=by simp [List.getD,hl]
 obtain ⟨g,c',e,hg,k0,k1,k2⟩:=lH.cells hy
 injection e with e1 e2 e3
 obtain ⟨hye,hyo,hyl⟩:=lH.ents _ (List.getElem_mem hl)
 obtain ⟨ya',yc',he',hEL,_,_,_⟩:=hye.ents hyo
 injection he' with he1 he2 uV
 have hup:=aaT (hS.good _ (List.mem_map_of_mem (f:=(·.sn)) (List.getElem_mem hl)))
 refine ⟨g,ks[m].a,ks[m].cap,e1,?_,by rw [hsy];exact hyo⟩
 unfold VH
 rw [hsy]
 exact ⟨hg,k0,k1,k2,by rw [he1];exact hEL,hyl,hup⟩
theorem CY {n k : Nat} (h : k < n) (hw : wrap64 ((k : Int) + 1) = (k : Int) + 1) : n - (intOf (Value.int .i64 (wrap64 ((k : Int) + 1)))).toNat < n - (intOf (Value.int .i64 (k : Int))).toNat:=by
 rw [hw];show n - ((k : Int) + 1).toNat < n - (k : Int).toNat;omega
def pG (v d : Int) : Int:=aU (aN (max v (ql v)) d) 1
theorem acd {v d q : Int} (hv : ay v) (hd : 0 <= d) (hf : pG v d < 9223372036854775807) (hq : q = v * d / 65536) : -(pG v d) <= q /\ q <= pG v d:=by
 subst hq
 by_cases h0 : v = -9223372036854775808
 ·subst h0
  have e1 : max (-9223372036854775808 : Int) (ql (-9223372036854775808)) = 9223372036854775807:=by decide
  have hF : pG (-9223372036854775808) d = aU (aN 9223372036854775807 d) 1:=by unfold pG;rw [e1]
  rw [hF] at hf ⊢
  clear hF e1 hv
  unfold aU aN sat at *
  omega
 ·by_cases h1 : 0 <= v
  ·have e1 : max v (ql v) = v:=by unfold ql sat;omega
   have e2 : 0 <= v * d:=Int.mul_nonneg h1 hd
   have hF : pG v d = aU (aN v d) 1:=by unfold pG;rw [e1]
   rw [hF] at hf ⊢
   clear hF e1
   unfold aN at *
   generalize v * d = m at *
   unfold aU sat at *
   omega
  ·have e1 : max v (ql v) = -v:=by unfold ay at hv;unfold ql sat;omega
   have e2 : 0 <= -v * d:=Int.mul_nonneg (by omega) hd
   have e3 : v * d = -(-v * d):=by rw [Int.neg_mul,Int.neg_neg]
   have hF : pG v d = aU (aN (-v) d) 1:=by unfold pG;rw [e1]
   rw [hF] at hf ⊢
   clear hF e1
   unfold aN at *
   rw [e3]
   generalize -v * d = m at *
   clear e3
   unfold aU sat at *
   omega
theorem Yw (v d : Int) : ay (pG v d):=vJ _ _
theorem VI {a v d : Int} (ha : ay a) (hv : ay v) (hd : 0 <= d) (hf : pG v d < 9223372036854775807) : vQ (aU a (aN v d)) 0 0 a 0 0 (pG v d) = true:=by
 obtain ⟨q,hq⟩ : ∃ q,q = v * d / 65536:=⟨_,rfl⟩
 obtain ⟨h1,h2⟩:=acd hv hd hf hq
 have h3 : aN v d = sat q:=by unfold aN;rw [hq]
 rw [h3]
 generalize pG v d = f at *
 unfold vQ kP aU sat
 unfold ay at ha
 simp only [Bool.and_eq_true,decide_eq_true_eq]
 omega
theorem VJ {cur : Bool} {A B : Nat -> aB} {lb : Nat} {num den : Int} {i : Nat} : (tq cur A B lb num den i).mode = 0 \/ (tq cur A B lb num den i).mode = 1 \/ (tq cur A B lb num den i).mode = 2:=by
 unfold tq AV
 split
 ·split
  ·exact .inr (.inr rfl)
  ·exact .inr (.inl rfl)
 ·exact .inl rfl
theorem OT {T : Nat -> Int} {t : Int} {n : Nat} (h : bS T t n = n) (hn : n ≠ 0) : T (n - 1) <= t:=by
 have:=tT (T:=T) (t:=t) (n:=n) (by omega)
 rw [h] at this
 exact this
theorem VK {ss : List Sn} (h : iY ss) {c : aO} (hc : dB c = 0) {t : Int} (hn : jS c t ss ≠ 0) :
 ss.length ≠ 0 /\ ∀ i,i < jS c t ss -> ((jJ c t ss i).mode = 3 \/ (jJ c t ss i).mode = 4) ->
  i < (ss.getD (ss.length - 1) dD).ents.length /\ dP ss (ss.length - 1) < t /\ jJ c t ss i = JE (jJ c t ss i).mode (min (aK t (dP ss (ss.length - 1))) c.extra) (kM ss (ss.length - 1) i) /\ ((jJ c t ss i).mode = 4 ↔ c.extra < aK t (dP ss (ss.length - 1))):=by
 have hm : bS (dP ss) t ss.length ≠ 0:=λe=>hn (Tf h hc e)
 have hle:=AP (dP ss) t ss.length
 refine ⟨by omega,?_⟩
 by_cases hl : bS (dP ss) t ss.length = ss.length
 ·obtain ⟨h1,h2⟩:=Tg h hc hm hl
  have h3:=OT hl (by omega)
  intro i hi hmode
  rw [h1] at hi
  rw [h2] at hmode ⊢
  have hmd : ∀ m d A i,(yT m d A i).mode = m:=λ_ _ _ _=>rfl
  rw [hmd] at hmode ⊢
  generalize dP ss (ss.length - 1) = a at *
  have hb : xC c (aK t a) ≠ 0:=by omega
  have hd0 : aK t a ≠ 0:=by
   intro e
   apply hb
   unfold xC
   rw [if_pos e]
  have hat : a < t:=by
   have : t ≠ a:=by
    intro e
    apply hd0
    subst e
    unfold aK sat
    omega
   omega
  refine ⟨hi,hat,?_,?_⟩
  ·unfold yT
   have : yU c (aK t a) = min (aK t a) c.extra:=by
    unfold yU
    split <;> omega
   rw [this]
  ·unfold xC
   rw [if_neg hd0]
   split
   ·rename_i h4;exact ⟨λ_=>h4,λ_=>rfl⟩
   ·rename_i h4;exact ⟨λh=>absurd h (by decide),λh=>absurd h h4⟩
 ·obtain ⟨m,hm1⟩ : ∃ m,bS (dP ss) t ss.length = m + 1:=⟨bS (dP ss) t ss.length - 1,by omega⟩
  obtain ⟨h1,h2⟩:=VA h hc hm1 (by omega)
  intro i hi hmode
  rw [h2] at hmode
  have:=VJ (cur:=c.aC) (A:=kM ss m) (B:=kM ss (m + 1)) (lb:=(ss.getD (m + 1) dD).ents.length) (num:=t - dP ss m) (den:=dP ss (m + 1) - dP ss m) (i:=i)
  omega
theorem K6 {w : World} {base : Nat} {a : Option Addr} {cc : Nat} {ks : List aG} {ss : List Sn} (lH : gH w base (.slice a ks.length cc) ks) (hm : ks.map (·.sn) = ss) (hS : iY ss) (h64 : ss.length <= 64) {c : aO} (hc : dB c = 0) {t : Int} {sn : Nat} (hsn : jS c t ss = sn) (hz : sn ≠ 0) :
 ∃ (m g : Nat) (yt ym : Int) (ya : Option Addr) (yc : Nat) (es : List aB),a = some ⟨g,0,none⟩ /\ (¬ (ks.length : Int) = 0 /\ ((ks.length : Int) == 0) = false /\ wrap64 ((ks.length : Int) - 1) = (m : Int) /\ (m : Int) < ks.length /\ (0 : Int) <= (m : Int)) /\ K5 w m g yt ym ya yc es.length es /\ (∀ e ∈ es,e.Ok) /\ ay ym /\ sn <= 64 /\
  ∀ i,i < sn -> ((jJ c t ss i).mode = 3 \/ (jJ c t ss i).mode = 4) -> i < es.length /\ ym < t /\ jJ c t ss i = JE (jJ c t ss i).mode (min (aK t ym) c.extra) (es.getD i bK) /\ ((jJ c t ss i).mode = 4 ↔ c.extra < aK t ym):=by
 have hkl : ks.length = ss.length:=by rw [← hm,List.length_map]
 obtain ⟨hne,hby⟩:=VK hS hc (t:=t) (by rw [hsn];exact hz)
 obtain ⟨m,hm1⟩ : ∃ m,ss.length = m + 1:=⟨ss.length - 1,by omega⟩
 rw [show ss.length - 1 = m by omega,hsn] at hby
 have hml : m < ss.length:=by omega
 obtain ⟨g,ya,yc,hg,hA,hok⟩:=abe lH hm hS hml
 have hgd:=hS.bound hml
 have hle : sn <= 64:=by
  rw [← hsn]
  refine Yr (λs hs=>?_)
  rw [← hm] at hs
  obtain ⟨k0,hk0,rfl⟩:=List.mem_map.1 hs
  exact (lH.ents k0 hk0).2.2
 refine ⟨m,g,_,_,ya,yc,_,hg,⟨by omega,?_,by unfold wrap64;omega,by omega,by omega⟩,hA,hok,(show ay (dP ss m) from ⟨by omega,by omega⟩),hle,hby⟩
 simpa using (show ¬ (ks.length : Int) = 0 by omega)
theorem VL {q : Po} {e : aB} {au ym x : Int} (hx : 0 <= x /\ x <= 2305843009213693952) (hlt : ym < au) (hq : q = JE q.mode (min (aK au ym) x) e) (h4 : q.mode = 4 ↔ x < aK au ym) :
 ∃ D M,aK au ym = D /\ min D x = M /\ (0 <= M /\ M <= 2305843009213693952) /\ e.id = q.id /\ e.aJ = q.aJ /\ (q.px = aU e.px (aN e.vx M) /\ q.py = aU e.py (aN e.vy M) /\ q.pz = aU e.pz (aN e.vz M)) /\ decide (x < D) = (q.mode == 4) /\ ¬ au <= ym /\ decide (au <= ym) = false:=by
 have hD0 : 0 <= aK au ym:=by unfold aK sat;omega
 have h1 : q.id = e.id:=by rw [hq];rfl
 have h2 : q.aJ = e.aJ:=by rw [hq];rfl
 have h3 : q.px = aU e.px (aN e.vx (min (aK au ym) x)):=by rw [hq];rfl
 have h5 : q.py = aU e.py (aN e.vy (min (aK au ym) x)):=by rw [hq];rfl
 have h6 : q.pz = aU e.pz (aN e.vz (min (aK au ym) x)):=by rw [hq];rfl
 refine ⟨_,_,rfl,rfl,⟨by omega,by omega⟩,h1.symm,h2.symm,⟨h3,h5,h6⟩,?_,by omega,decide_eq_false (by omega)⟩
 by_cases h : q.mode = 4
 ·rw [decide_eq_true (h4.1 h),h];rfl
 ·rw [decide_eq_false (λhh=>h (h4.2 hh))]
  exact (by simpa using h : (q.mode == 4) = false).symm
theorem max_i64 {v : Int} (h : ay v) : ay (max v (ql v)):=⟨by have:=h.1;omega,by have:=h.2;have:=(TD v).2;omega⟩
theorem ace {m : Int} (h : 0 <= m /\ m <= 2305843009213693952) : ay m:=⟨by omega,by omega⟩
theorem VO (W : World) : Calls Tryz.prog 30 #[.int .i64 (-9223372036854775808)] W λe w'=>e = .returned (.int .i64 9223372036854775807) /\ W = w':=by
 have h:=VW (-9223372036854775808) ⟨by decide,by decide⟩ W
 rwa [show ql (-9223372036854775808) = 9223372036854775807 by decide] at h
theorem Tz {a v m : Int} (ha : ay a) (hv : ay v) (hm : 0 <= m) (hf : pG v m < 9223372036854775807) (W : World) :
 Calls Tryz.prog 31 #[.agg #[.int .i64 (aU a (aN v m)),.int .i64 0,.int .i64 0],.agg #[.int .i64 a,.int .i64 0,.int .i64 0],.int .i64 (pG v m)] W λe w'=>e = .returned (.bool true) /\ Below W.heap.size W w':=by
 have h0 : ay 0:=⟨by decide,by decide⟩
 have h:=Xw (aU a (aN v m)) 0 0 a 0 0 (pG v m) (vJ _ _) h0 h0 ha h0 h0 (Yw _ _) W
 rw [VI ha hv hm hf] at h
 exact h
set_option maxRecDepth 100000
set_option maxHeartbeats 8000000 in
theorem topBeyond_w (c : aO) (ok : c.Ok) (s0 : Option Addr) (len cap : Nat) (K T : Nat -> Int) (E : Nat -> Option Addr × Nat × Nat) (Z : Nat -> List Int) (w : World) (hS : iC w s0 len K T E) (hx : ∀ i,i < len -> ay (K i) /\ ay (T i) /\ Ar w (E i).1 (E i).2.1 (E i).2.2 (Z i)) (hl : (len : Int) <= 4611686018427387904) :
 Calls Tryz.prog 7 #[aZ c,.slice s0 len cap] w λe w'=>e = .returned (.bool true) /\ Below w.heap.size w w':=by
 have al:=λW=>Yu W
 obtain ⟨wb,hwb⟩ : ∃ wb,w.alloc (.cells #[.int .i64 c.ring,.int .i64 c.window,.int .i64 c.base,.int .i64 c.gain,.int .i64 c.least,.int .i64 c.most,.int .i64 c.aD,.int .i64 c.num,.int .i64 c.den,.int .i64 c.extra,.bool c.aC] 29) = wb:=⟨_,rfl⟩
 have hb0 : Below w.heap.size w wb:=by rw [← hwb];exact aiT
 have HB0:=aiS hb0
 have Ak : Hid (ak wb w.heap.size #[.int .i64 c.ring,.int .i64 c.window,.int .i64 c.base,.int .i64 c.gain,.int .i64 c.least,.int .i64 c.most,.int .i64 c.aD,.int .i64 c.num,.int .i64 c.den,.int .i64 c.extra,.bool c.aC] 29):=aiS (by rw [← hwb];exact ak.new _ _ _)
 have bg:=Yj c ok s0 len cap K T E wb (hS.below hb0) hl;have HS:=aiS (hS.below hb0)
 have HX : Hid (∀ i,i < len -> ay (K i) /\ ay (T i) /\ Ar wb (E i).1 (E i).2.1 (E i).2.2 (Z i)):=aiS (λi hi=>⟨(hx i hi).1,(hx i hi).2.1,(hx i hi).2.2.1.below hb0,(hx i hi).2.2.2⟩)
 unfold aZ at bg ⊢
 clear hb0 hS hx
 go_enter Tryz.func7,Tryz.ntmps7
 obtain ⟨q0,q1,q2,q3,q4,q5,q6,q7,q8,q9,kr⟩:=eu Ak.out
 go_wp2_with fail
 clear hwb q0 q1 q2 q3 q4 q5 q6 q7 q8 q9 kr
 refine bg.mono ?_
 rintro e w1 (⟨rfl,hb1⟩ | ⟨C,S,rfl,hc,KL,hA,hSS,hb1⟩)
 ·have HB1:=aiS (HB0.out.trans (hb1.mono HB0.out.size))
  clear hb1 bg
  go_wp2_with fail
  refine (al w1).mono ?_
  rintro e w2 ⟨rfl,hb2⟩
  have HB2:=aiS (HB1.out.trans (hb2.mono HB1.out.size));clear hb2
  go_wp2_with fail
  refine (al w2).mono ?_
  rintro e w3 ⟨rfl,hb3⟩
  have HF:=aiS (HB2.out.trans (hb3.mono HB2.out.size));clear hb3
  go_wp2
  go_ret
  exact ⟨rfl,HF.out⟩
 ·have H0 : Hid (yj wb C c 0 S (uM c) w1):=aiS ⟨hA,VB c,hSS,hb1⟩
  have HC:=aiS hc;have Io:=aiS KL;clear hc KL hA hSS hb1 bg
  go_wp2_with fail
  refine (al w1).mono ?_
  rintro e w2 ⟨rfl,hb2⟩
  have H1:=aiS (H0.out.below hb2);clear hb2
  go_wp2_with fail
  go_loopw [31] (λi wx=>∃ (k : Nat) (S : Nat -> Prop) (x : iq),k <= len /\ i = .int .i64 k /\ yj wb C c k S x wx) (λi _=>len - (intOf i).toNat)
  case atStart=>exact ⟨0,S,_,Nat.zero_le _,rfl,H1.out⟩
  case round =>
   clear S H0 H1
   obtain ⟨k,S,x,hk,rfl,hI⟩:=hrel
   by_cases hlt : k < len
   ·have hlt' : (k : Int) < len:=by omega
    rcases HS.out with h0 | ⟨b,off,rfl,hbl,hcl⟩
    ·omega
    obtain ⟨c0,c1,c2⟩:=hcl k hlt
    obtain ⟨hk0,hk1,hby,hbn,hbc,UC⟩:=HX.out k hlt
    have d0:=(hI.oC.cell (p:=⟨b,off + k * 3,none⟩) hbl).trans c0;have d1:=(hI.oC.cell (p:=⟨b,off + k * 3 + 1,none⟩) hbl).trans c1;have d2:=(hI.oC.cell (p:=⟨b,off + k * 3 + 2,none⟩) hbl).trans c2;have dI:=aiS hlt;have HK1:=aiS hk1
    obtain ⟨v1,hv1⟩ : ∃ v,wr.alloc (.cells #[.int .i64 (K k),.int .i64 (T k),.slice (E k).1 (E k).2.1 (E k).2.2] 69) = v:=⟨_,rfl⟩
    have hb1 : Below wr.heap.size wr v1:=by rw [← hv1];exact aiT
    have hX1 : ak v1 wr.heap.size #[.int .i64 (K k),.int .i64 (T k),.slice (E k).1 (E k).2.1 (E k).2.2] 69:=by rw [← hv1];exact ak.new _ _ _
    have HI:=aiS (hI.below hb1)
    have do_:=afe C c ok HC.out x S (K k) (T k) hk1 (E k).1 (E k).2.1 (E k).2.2 (Z k) v1 HI.out.at_ (hby.below HI.out.oC) hbn hbc (by omega) (Nat.lt_of_le_of_lt HI.out.inv.len (by have:=Io.out;omega))
    have fu:=aiS hX1
    have HSL : Hid (∀ j,S j -> j < wr.heap.size):=aiS hI.at_.lt
    have x0:=hX1.cell 0;have x1:=hX1.cell 1;have x2:=hX1.cell 2;simp at x0 x1 x2
    generalize (E k).1 = ea at *
    generalize (E k).2.1 = el at *
    generalize (E k).2.2 = ec at *
    generalize K k = kd at *
    generalize T k = loc at *
    clear hcl c0 c1 c2 hk0 hk1 hby hbn hbc UC hb1 hX1 hI hlt
    go_wp2_with fail
    refine do_.mono ?_
    rintro e w2 ⟨v,er,rfl,hO,hcs⟩
    clear do_
    rcases hcs with ⟨rfl,rfl,S',hA,hS'⟩ | ⟨rfl,hV⟩ | ⟨hn0,hn1,rfl,hA⟩
    ·have HN : Hid (∃ S' x',yj wb C c (k + 1) S' x' w2):=aiS ⟨S',_,hA,HI.out.inv.arr _ _,λj hj=>(hS' j hj).elim (HI.out.ge j) (λh=>Nat.le_trans HI.out.oC.size h),HI.out.oC.trans (hO.below HI.out.oC.size HI.out.ge)⟩
     obtain ⟨u1,hu1⟩ : ∃ u,w2.alloc (.cells #[.bool false,.int .i64 0,.slice none 0 0] 49) = u:=⟨_,rfl⟩
     have hbz : Below w2.heap.size w2 u1:=by rw [← hu1];exact aiT
     have dM : ak u1 w2.heap.size #[.bool false,.int .i64 0,.slice none 0 0] 49:=by rw [← hu1];exact ak.new _ _ _
     have f0:=dM.free 0;have f1:=dM.free 1;have f2:=dM.free 2;have p0:=dM.cell 0;have p1:=dM.cell 1;have p2:=dM.cell 2;simp at p0 p1 p2;have hX2:=fB (v0:=.bool false) (v1:=.int .i64 0) (v2:=.slice none 0 0) dM;have hb2:=dz (v0:=.bool false) (v1:=.int .i64 0) (v2:=.slice none 0 0) hbz (Nat.le_refl _)
     obtain ⟨u2,hu2⟩ : ∃ u,((u1.setCell ⟨w2.heap.size,0,none⟩ (.bool false)).setCell ⟨w2.heap.size,1,none⟩ (.int .i64 0)).setCell ⟨w2.heap.size,2,none⟩ (.slice none 0 0) = u:=⟨_,rfl⟩
     rw [hu2] at hX2 hb2
     have sH:=(hO.blk fu.out (λh=>Nat.lt_irrefl _ (HSL.out _ h))).below hb2 (hO.blk fu.out (λh=>Nat.lt_irrefl _ (HSL.out _ h))).lt
     have y0:=sH.cell 0;have z2:=hX2.cell 2;simp at y0 z2
     have HF : Hid (∃ S' x',yj wb C c (k + 1) S' x' u2):=aiS (by obtain ⟨S',x',h⟩:=HN.out;exact ⟨S',x',h.below hb2⟩)
     have hw : wrap64 ((k : Int) + 1) = (k : Int) + 1:=Ct dI.out (Nat.le_trans Io.out (by decide))
     clear hbz dM hb2 hX2 sH hO hA x0 x1 x2 d0 d1 d2 al
     go_wp2_with fail
     go_roundw
     case rel=>obtain ⟨S',x',h⟩:=HF.out;exact ⟨k + 1,S',x',dI.out,by go_num,h⟩
     case measure=>exact wS dI.out
    ·unfold KQ at hV
     rcases hV with ⟨hL,rfl,hA⟩ | ⟨hL,s,cp,rfl,hP,hA⟩
     ·have HN : Hid (∃ S' x',yj wb C c (k + 1) S' x' w2):=aiS ⟨S,x,hA,HI.out.inv.succ,HI.out.ge,HI.out.oC.trans (hO.below HI.out.oC.size HI.out.ge)⟩
      obtain ⟨u1,hu1⟩ : ∃ u,w2.alloc (.cells #[.bool false,.int .i64 0,.slice none 0 0] 49) = u:=⟨_,rfl⟩
      have hbz : Below w2.heap.size w2 u1:=by rw [← hu1];exact aiT
      have dM : ak u1 w2.heap.size #[.bool false,.int .i64 0,.slice none 0 0] 49:=by rw [← hu1];exact ak.new _ _ _
      have f0:=dM.free 0;have f1:=dM.free 1;have f2:=dM.free 2;have p0:=dM.cell 0;have p1:=dM.cell 1;have p2:=dM.cell 2;simp at p0 p1 p2;have hX2:=fB (v0:=.bool false) (v1:=.int .i64 0) (v2:=.slice none 0 0) dM;have hb2:=dz (v0:=.bool false) (v1:=.int .i64 0) (v2:=.slice none 0 0) hbz (Nat.le_refl _)
      obtain ⟨u2,hu2⟩ : ∃ u,((u1.setCell ⟨w2.heap.size,0,none⟩ (.bool false)).setCell ⟨w2.heap.size,1,none⟩ (.int .i64 0)).setCell ⟨w2.heap.size,2,none⟩ (.slice none 0 0) = u:=⟨_,rfl⟩
      rw [hu2] at hX2 hb2
      have sH:=(hO.blk fu.out (λh=>Nat.lt_irrefl _ (HSL.out _ h))).below hb2 (hO.blk fu.out (λh=>Nat.lt_irrefl _ (HSL.out _ h))).lt
      have y0:=sH.cell 0;have z2:=hX2.cell 2;simp at y0 z2;clear hL
      have HF : Hid (∃ S' x',yj wb C c (k + 1) S' x' u2):=aiS (by obtain ⟨S',x',h⟩:=HN.out;exact ⟨S',x',h.below hb2⟩)
      have hw : wrap64 ((k : Int) + 1) = (k : Int) + 1:=Ct dI.out (Nat.le_trans Io.out (by decide))
      clear hbz dM hb2 hX2 sH hO hA x0 x1 x2 d0 d1 d2 al
      go_wp2
      go_roundw
      case rel=>obtain ⟨S',x',h⟩:=HF.out;exact ⟨k + 1,S',x',dI.out,by go_num,h⟩
      case measure=>exact wS dI.out
     ·clear hL
      have hinv : sG { x with cs:=gZ c x.cs loc } (k + 1):=HI.out.inv.gZ loc
      have HSH : Hid (iY x.ss):=aiS HI.out.inv.show
      have HAT : Hid (ay (gZ c x.cs loc).au):=aiS hA.ok.2.1.au
      generalize gZ c x.cs loc = fc at *
      generalize fc.au = au at *
      obtain ⟨sn,hsn⟩ : ∃ n,jS c au x.ss = n:=⟨_,rfl⟩
      rw [hsn] at hP ⊢
      have Gw:=aiS hsn;clear hsn
      by_cases hz : sn = 0
      ·subst hz
       have HN : Hid (∃ S' x',yj wb C c (k + 1) S' x' w2):=aiS ⟨S,_,hA,hinv,HI.out.ge,HI.out.oC.trans (hO.below HI.out.oC.size HI.out.ge)⟩
       obtain ⟨u1,hu1⟩ : ∃ u,w2.alloc (.cells #[.bool false,.int .i64 0,.slice none 0 0] 49) = u:=⟨_,rfl⟩
       have hbz : Below w2.heap.size w2 u1:=by rw [← hu1];exact aiT
       have dM : ak u1 w2.heap.size #[.bool false,.int .i64 0,.slice none 0 0] 49:=by rw [← hu1];exact ak.new _ _ _
       have f0:=dM.free 0;have f1:=dM.free 1;have f2:=dM.free 2;have p0:=dM.cell 0;have p1:=dM.cell 1;have p2:=dM.cell 2;simp at p0 p1 p2;have hX2:=fB (v0:=.bool true) (v1:=.int .i64 au) (v2:=.slice s 0 cp) dM;have hb2:=dz (v0:=.bool true) (v1:=.int .i64 au) (v2:=.slice s 0 cp) hbz (Nat.le_refl _)
       obtain ⟨u2,hu2⟩ : ∃ u,((u1.setCell ⟨w2.heap.size,0,none⟩ (.bool true)).setCell ⟨w2.heap.size,1,none⟩ (.int .i64 au)).setCell ⟨w2.heap.size,2,none⟩ (.slice s 0 cp) = u:=⟨_,rfl⟩
       rw [hu2] at hX2 hb2
       have sH:=(hO.blk fu.out (λh=>Nat.lt_irrefl _ (HSL.out _ h))).below hb2 (hO.blk fu.out (λh=>Nat.lt_irrefl _ (HSL.out _ h))).lt
       have y0:=sH.cell 0;have z2:=hX2.cell 2;simp at y0 z2;clear hP hinv
       have HF : Hid (∃ S' x',yj wb C c (k + 1) S' x' u2):=aiS (by obtain ⟨S',x',h⟩:=HN.out;exact ⟨S',x',h.below hb2⟩)
       have hw : wrap64 ((k : Int) + 1) = (k : Int) + 1:=Ct dI.out (Nat.le_trans Io.out (by decide))
       clear hbz dM hb2 hX2 sH hO hA x0 x1 x2 d0 d1 d2 al
       go_wp2
       go_roundw
       case rel=>obtain ⟨S',x',h⟩:=HF.out;exact ⟨k + 1,S',x',dI.out,by go_num,h⟩
       case measure=>exact wS dI.out
      ·have HZN : Hid (sn ≠ 0):=aiS hz
       obtain ⟨hz1,hz2⟩:=ab9 hz
       have abf : Hid (yj wb C c (k + 1) S { x with cs:=fc } w2):=aiS ⟨hA,hinv,HI.out.ge,HI.out.oC.trans (hO.below HI.out.oC.size HI.out.ge)⟩
       obtain ⟨u1,hu1⟩ : ∃ u,w2.alloc (.cells #[.bool false,.int .i64 0,.slice none 0 0] 49) = u:=⟨_,rfl⟩
       have hbz : Below w2.heap.size w2 u1:=by rw [← hu1];exact aiT
       have dM : ak u1 w2.heap.size #[.bool false,.int .i64 0,.slice none 0 0] 49:=by rw [← hu1];exact ak.new _ _ _
       have f0:=dM.free 0;have f1:=dM.free 1;have f2:=dM.free 2;have p0:=dM.cell 0;have p1:=dM.cell 1;have p2:=dM.cell 2;simp at p0 p1 p2;have hX2:=fB (v0:=.bool true) (v1:=.int .i64 au) (v2:=.slice s sn cp) dM;have hb2:=dz (v0:=.bool true) (v1:=.int .i64 au) (v2:=.slice s sn cp) hbz (Nat.le_refl _)
       obtain ⟨u2,hu2⟩ : ∃ u,((u1.setCell ⟨w2.heap.size,0,none⟩ (.bool true)).setCell ⟨w2.heap.size,1,none⟩ (.int .i64 au)).setCell ⟨w2.heap.size,2,none⟩ (.slice s sn cp) = u:=⟨_,rfl⟩
       rw [hu2] at hX2 hb2
       have sH:=(hO.blk fu.out (λh=>Nat.lt_irrefl _ (HSL.out _ h))).below hb2 (hO.blk fu.out (λh=>Nat.lt_irrefl _ (HSL.out _ h))).lt
       have y0:=sH.cell 0;have z2:=hX2.cell 2;simp at y0 z2;have dU:=aiS hX2;have HST:=aiS (abf.out.below hb2);have HPO:=aiS (hP.below hb2);have kp:=aav C c _ S u2 HST.out.at_;clear hbz dM hb2 hX2 sH hO hA x0 x1 x2 d0 d1 d2 hP hinv
       go_wp2_with fail
       refine kp.mono ?_
       rintro e w3 ⟨v,ks,rfl,lH,hm,hb3⟩
       clear kp hu1 hu2 f0 f1 f2 p0 p1 p2 y0 z2
       rcases HPO.out with h0 | ⟨pb,po,rfl,hpl,hpc⟩
       ·exact absurd h0 HZN.out
       have HPC:=aiS (And.intro hpl hpc)
       obtain ⟨a,cc,rfl,_,_,_⟩:=lH.sns
       have h64 : x.ss.length <= 64:=HST.out.at_.ok.2.2
       obtain ⟨m,g,yt,ym,ya,yc,es,rfl,⟨hk0,hkb,hkw,hmi,hm0⟩,Nc,hok,hyt,abg,hmm⟩:=K6 lH hm HSH.out h64 HC.out Gw.out HZN.out
       have HAM:=aiS Nc;have HBY:=aiS hmm;have HEO:=aiS hok;have HYT:=aiS hyt;have afn:=aiS abg;have HEX:=aiS (OP HC.out)
       generalize ks.length = kn at *
       generalize jJ c au x.ss = P at *
       have k0:=Nc.c0;have k1:=Nc.c1;have k2:=Nc.c2
       obtain ⟨w4,hw4⟩ : ∃ v,w3.alloc (.cells #[.int .i64 yt,.int .i64 ym,.slice ya es.length yc] 36) = v:=⟨_,rfl⟩
       have hb4 : Below w3.heap.size w3 w4:=by rw [← hw4];exact aiT
       have IB : Hid (ak w4 w3.heap.size #[.int .i64 yt,.int .i64 ym,.slice ya es.length yc] 36):=aiS (by rw [← hw4];exact ak.new _ _ _)
       have aS:=dU.out.below hb3 dU.out.lt;have za:=aiS (aS.below hb4 aS.lt);have OU:=HST.out.oC.trans (hb3.mono HST.out.oC.size);have afo:=aiS ((HST.out.below hb3).below hb4)
       have abh : Hid (w4.cell? ⟨w.heap.size,9,none⟩ = some (.int .i64 c.extra)):=aiS ((eu ((Ak.out.below OU Ak.out.lt).below hb4 (Nat.lt_of_lt_of_le Ak.out.lt OU.size))).2.2.2.2.2.2.2.2.2.1)
       have abj : Hid (pb < w4.heap.size /\ ∀ i,i < sn -> mF w4 pb (po + i * 6) (P i)):=aiS ⟨Nat.lt_of_lt_of_le (Nat.lt_of_lt_of_le hpl hb3.size) hb4.size,λi hi=>((hpc i hi).below hb3 hpl).below hb4 (Nat.lt_of_lt_of_le hpl hb3.size)⟩
       have GN:=aiS (Nc.below hb4);have z2:=za.out.cell 2;simp at z2;clear lH hm hb3 hb4 h64 dU HST abf HPO HPC hpl hpc aS OU Nc hmm hok hyt abg HAM
       go_wp2_with fail
       clear z2 hw4 k0 k1 k2 hmi hkw hkb hk0 hm0
       go_loopw [64] (λi wx=>∃ (j : Nat),j <= sn /\ i = .int .i64 j /\ Below w4.heap.size w4 wx) (λi _=>sn - (intOf i).toNat)
       case atStart=>exact ⟨0,Nat.zero_le _,rfl,Below.refl _ _⟩
       case round =>
        obtain ⟨j,hj,rfl,hbj⟩:=hrel
        by_cases hlt2 : j < sn
        ·have acf : (j : Int) < sn:=abd hlt2
         have OV:=aiS hlt2;have Nf:=aiS (Ct hlt2 (Yv afn.out));have hpj:=(abj.out.2 j hlt2).below hbj abj.out.1;have VP:=HBY.out j hlt2
         generalize P j = pj at *
         obtain ⟨qi,qx,qy,qz,qa,qm⟩:=pj
         unfold mF at hpj
         simp only at hpj VP
         obtain ⟨c0,c1,c2,c3,c4,c5⟩:=hpj
         have abl:=aiS VP
         obtain ⟨u1,hu1⟩ : ∃ v,wr.alloc (.cells #[.int .i64 qi,.int .i64 qx,.int .i64 qy,.int .i64 qz,.int .u16 qa,.int .i64 qm] 52) = v:=⟨_,rfl⟩
         have hb1 : Below wr.heap.size wr u1:=by rw [← hu1];exact aiT
         have WY : Hid (ak u1 wr.heap.size #[.int .i64 qi,.int .i64 qx,.int .i64 qy,.int .i64 qz,.int .u16 qa,.int .i64 qm] 52):=aiS (by rw [← hu1];exact ak.new _ _ _)
         have HB1 : Hid (Below w4.heap.size w4 u1):=aiS (hbj.trans (hb1.mono hbj.size))
         have x5:=WY.out.cell 5;simp at x5;clear hbj hb1 VP
         by_cases hq : qm = 3 \/ qm = 4
         rotate_left
         ·have hq3 : ¬ qm = 3:=λh=>hq (.inl h)
          have hq4 : ¬ qm = 4:=λh=>hq (.inr h)
          have hb3 : (qm == 3) = false:=by simpa using hq3
          have hb4 : (qm == 4) = false:=by simpa using hq4
          have zY : (qm != 3) = true:=by simpa using hq3
          have SV : (qm != 4) = true:=by simpa using hq4
          have hw:=Nf.out;clear hq
          go_wp2
          go_roundw
          case rel=>exact ⟨j + 1,OV.out,FM Nf.out,HB1.out⟩
          case measure=>exact CY OV.out Nf.out
         obtain ⟨hjl,abm,hpe,KR⟩:=abl.out hq
         have K7:=LK HEO.out hjl;have Ng:=GN.out.find hjl
         obtain ⟨D,M,hD,hM,hM2,abn,abo,VQ,hgt,hle,ah8⟩:=VL HEX.out abm hpe KR
         clear abl hjl hpe KR
         generalize es.getD j bK = ej at *
         obtain ⟨ei,e1,e2,e3,e4,e5,e6,e7,e8⟩:=ej
         unfold bM at Ng
         simp only at Ng abn abo VQ hgt
         subst abn abo
         have FD:=aiS Ng
         have W9 : Hid (∀ W,Calls Tryz.prog 27 #[.int .i64 au,.int .i64 ym] W λe w'=>e = .returned (.int .i64 D) /\ W = w'):=aiS (λW=>by rw [← hD];exact tQ au ym HAT.out HYT.out W)
         have HM : Hid (min D c.extra = M /\ 0 <= M /\ M <= 2305843009213693952):=aiS ⟨hM,hM2⟩
         have HPE : Hid ((qx = aU e1 (aN e4 M) /\ qy = aU e2 (aN e5 M) /\ qz = aU e3 (aN e6 M)) /\ (ay e1 /\ ay e2 /\ ay e3) /\ ay e4 /\ ay e5 /\ ay e6):=aiS ⟨VQ,⟨K7.px,K7.py,K7.pz⟩,K7.vx,K7.vy,K7.vz⟩
         have x0:=WY.out.cell 0;have n0:=(IB.out.below HB1.out IB.out.lt).cell 0;have n1:=(IB.out.below HB1.out IB.out.lt).cell 1;have n2:=(IB.out.below HB1.out IB.out.lt).cell 2;simp at x0 n0 n1 n2;clear VQ Ng hM hM2 hD abm K7
         rcases hq with rfl | rfl
         all_goals
          go_wp2_with fail
          refine (FD.out u1 HB1.out).mono ?_
          rintro e u2 ⟨rfl,hb2⟩
          obtain ⟨v1,hv1⟩ : ∃ v,u2.alloc (.cells #[.int .i64 0,.int .i64 0,.int .i64 0,.int .i64 0,.int .i64 0,.int .i64 0,.int .i64 0,.int .u16 0,.int .u8 0] 33) = v:=⟨_,rfl⟩
          have hbz : Below u2.heap.size u2 v1:=by rw [← hv1];exact aiT
          have dM : ak v1 u2.heap.size #[.int .i64 0,.int .i64 0,.int .i64 0,.int .i64 0,.int .i64 0,.int .i64 0,.int .i64 0,.int .u16 0,.int .u8 0] 33:=by rw [← hv1];exact ak.new _ _ _
          have r0:=dM.cell 0;have r1:=dM.cell 1;have r2:=dM.cell 2;have r3:=dM.cell 3;have r4:=dM.cell 4;have r5:=dM.cell 5;have r6:=dM.cell 6;have r7:=dM.cell 7;have r8:=dM.cell 8
          have f0:=dM.free 0;have f1:=dM.free 1;have f2:=dM.free 2;have f3:=dM.free 3;have f4:=dM.free 4;have f5:=dM.free 5;have f6:=dM.free 6;have f7:=dM.free 7;have f8:=dM.free 8
          simp at r0 r1 r2 r3 r4 r5 r6 r7 r8
          obtain ⟨aS,hO3⟩:=FX v1 u2.heap.size _ _ _ _ _ _ _ _ _ _ ⟨ei,e1,e2,e3,e4,e5,e6,e7,e8⟩ dM
          simp only at aS hO3
          obtain ⟨u3,hu3⟩ : ∃ v,((((((((v1.setCell ⟨u2.heap.size,0,none⟩ (.int .i64 ei)).setCell ⟨u2.heap.size,1,none⟩ (.int .i64 e1)).setCell ⟨u2.heap.size,2,none⟩ (.int .i64 e2)).setCell ⟨u2.heap.size,3,none⟩ (.int .i64 e3)).setCell ⟨u2.heap.size,4,none⟩ (.int .i64 e4)).setCell ⟨u2.heap.size,5,none⟩ (.int .i64 e5)).setCell ⟨u2.heap.size,6,none⟩ (.int .i64 e6)).setCell ⟨u2.heap.size,7,none⟩ (.int .u16 e7)).setCell ⟨u2.heap.size,8,none⟩ (.int .u8 e8) = v:=⟨_,rfl⟩
          rw [hu3] at aS hO3
          have hb3 : Below u2.heap.size u2 u3:=hbz.trans (hO3.below hbz.size (λk e=>Nat.le_of_eq (show u2.heap.size = k from e.symm)))
          have VR : Below u1.heap.size u1 u3:=hb2.trans (hb3.mono hb2.size)
          have HB3 : Hid (Below w4.heap.size w4 u3):=aiS (HB1.out.trans (VR.mono HB1.out.size))
          have OX:=aiS (WY.out.below VR WY.out.lt);have MK:=aiS aS;have z1:=(za.out.below HB3.out za.out.lt).cell 1;have m1:=(IB.out.below HB3.out IB.out.lt).cell 1;have l4:=OX.out.cell 4;have l5:=OX.out.cell 5;have o7:=aS.cell 7;have q9:=(HB3.out.cell (p:=⟨w.heap.size,9,none⟩) (World.block_lt_of_cell? w4 _ abh.out)).trans abh.out;simp at z1 m1 l4 l5 o7;clear aS hO3 hb3 VR hbz dM hb2
          go_wp2_with fail
          clear hu1 hv1 hu3 r0 r1 r2 r3 r4 r5 r6 r7 r8 f0 f1 f2 f3 f4 f5 f6 f7 f8 c0 c1 c2 c3 c4 c5 x0 x5 n0 n1 n2
          refine aQ 8 (by kernel_rfl) (by kernel_rfl) ?_
          simp only [List.take_succ_cons,List.take_zero,List.drop_succ_cons,List.drop_zero]
          repeat (apply aA;(next=>(intro W hW K hK;have y0:=hW.cell z1;have y1:=hW.cell m1;have y2:=hW.cell q9;go_simp;first | exact ⟨hW,hK⟩ | exact hK));(next=>exact aH.self _);(try go_simp))
          (apply aA;(next=>(intro W hW K hK;go_simp;first | exact ⟨_,hW.of_eq (W9.out W),hK⟩ | exact ⟨hW,_,hW.of_eq (W9.out W),hK⟩));(next=>exact aH.self _);(try go_simp))
          repeat (apply aA;(next=>(intro W hW K hK;have y0:=hW.cell z1;have y1:=hW.cell m1;have y2:=hW.cell q9;go_simp;first | exact ⟨hW,hK⟩ | exact hK));(next=>exact aH.self _);(try go_simp))
          refine aT ?_
          intro W5 Nh
          rw [HM.out.1]
          have z1':=aH.cell Nh z1;have m1':=aH.cell Nh m1;have q9':=aH.cell Nh q9;have l5':=aH.cell Nh l5
          have VT : Below u3.heap.size u3 W5:=Nh
          clear z1 m1 l4 l5 o7 q9 Nh
          go_wp2_with fail
          refine aQ 11 (by kernel_rfl) (by kernel_rfl) ?_
          simp only [List.take_succ_cons,List.take_zero,List.drop_succ_cons,List.drop_zero]
          repeat (apply aA;(next=>(intro W hW K hK;have y0:=hW.cell z1';have y1:=hW.cell m1';have y2:=hW.cell q9';have y3:=hW.cell l5';go_simp;first | exact ⟨hW,hK⟩ | exact hK));(next=>exact aH.self _);(try go_simp))
          (apply aA;(next=>(intro W hW K hK;go_simp;first | exact ⟨_,hW.of_eq (W9.out W),hK⟩ | exact ⟨hW,_,hW.of_eq (W9.out W),hK⟩));(next=>exact aH.self _);(try go_simp))
          repeat (apply aA;(next=>(intro W hW K hK;have y0:=hW.cell z1';have y1:=hW.cell m1';have y2:=hW.cell q9';have y3:=hW.cell l5';go_simp;first | exact ⟨hW,hK⟩ | exact hK));(next=>exact aH.self _);(try go_simp))
          refine aT ?_
          intro W6 hW6
          have abt : Below W5.heap.size W5 W6:=hW6
          have VU : Hid (Below u3.heap.size u3 W6):=aiS (VT.trans (abt.mono VT.size))
          have lu : Hid (Below w4.heap.size w4 W6):=aiS (HB3.out.trans (VU.out.mono HB3.out.size))
          have abu:=aiS (OX.out.below VU.out OX.out.lt);have abv:=aiS (MK.out.below VU.out MK.out.lt);clear z1' m1' l5' q9' hW6 VT abt
          generalize hbp : wr.heap.size = bp at *
          generalize hbe : u2.heap.size = be at *
          clear hbp hbe
          go_wp2_with fail
          go_loopw [119] (λi wx=>∃ (n : Nat),n <= 3 /\ i = .int .i64 n /\ Below W6.heap.size W6 wx) (λi _=>3 - (intOf i).toNat)
          case atStart=>exact ⟨0,Nat.zero_le _,rfl,Below.refl _ _⟩
          case round =>
           obtain ⟨n,hn,rfl,hbn⟩:=hrel
           by_cases zY : n < 3
           ·have abw : (n : Int) < 3:=by omega
            have Ni:=aiS zY;have HBN:=aiS hbn;have cE:=abv.out.below hbn abv.out.lt;have cP:=abu.out.below hbn abu.out.lt
            obtain ⟨vi,ai,pi,hcv,hca,hcp,hpi,hai,Xa⟩ : ∃ vi ai pi,wr.cell? ⟨be,4 + n,none⟩ = some (.int .i64 vi) /\ wr.cell? ⟨be,1 + n,none⟩ = some (.int .i64 ai) /\ wr.cell? ⟨bp,1 + n,none⟩ = some (.int .i64 pi) /\ pi = aU ai (aN vi M) /\ ay ai /\ ay vi:=by
             obtain ⟨⟨a1,a2,a3⟩,⟨b1,b2,b3⟩,d1,d2,d3⟩:=HPE.out
             rcases (show n = 0 \/ n = 1 \/ n = 2 by omega) with rfl | rfl | rfl
             ·exact ⟨e4,e1,qx,cE.cell 4,cE.cell 1,cP.cell 1,a1,b1,d1⟩
             ·exact ⟨e5,e2,qy,cE.cell 5,cE.cell 2,cP.cell 2,a2,b2,d2⟩
             ·exact ⟨e6,e3,qz,cE.cell 6,cE.cell 3,cP.cell 3,a3,b3,d3⟩
            obtain ⟨f,hf⟩ : ∃ f,pG vi M = f:=⟨_,rfl⟩
            have NG : Hid (∀ W,Calls Tryz.prog 30 #[.int .i64 vi] W λe w'=>e = .returned (.int .i64 (ql vi)) /\ W = w'):=aiS (λW=>VW vi Xa W)
            have ML : Hid (∀ W,Calls Tryz.prog 29 #[.int .i64 (max vi (ql vi)),.int .i64 M] W λe w'=>e = .returned (.int .i64 (aN (max vi (ql vi)) M)) /\ W = w'):=aiS (λW=>qH _ M (max_i64 Xa) (ace HM.out.2) W)
            have AD : Hid (∀ W,Calls Tryz.prog 28 #[.int .i64 (aN (max vi (ql vi)) M),.int .i64 1] W λe w'=>e = .returned (.int .i64 f) /\ W = w'):=aiS (λW=>by rw [← hf];exact tO _ 1 (lQ _ _) ⟨by decide,by decide⟩ W)
            have NM : Hid (∀ W,Calls Tryz.prog 30 #[.int .i64 (-9223372036854775808)] W λe w'=>e = .returned (.int .i64 9223372036854775807) /\ W = w'):=aiS (VO)
            have VN : Hid (f < 9223372036854775807 -> ∀ W,Calls Tryz.prog 31 #[.agg #[.int .i64 pi,.int .i64 0,.int .i64 0],.agg #[.int .i64 ai,.int .i64 0,.int .i64 0],.int .i64 f] W λe w'=>e = .returned (.bool true) /\ Below W.heap.size W w'):=aiS (λh W=>by
             subst hf hpi
             exact Tz hai Xa HM.out.2.1 h W)
            have afp:=hca;have afq:=hcp;clear cE cP hbn hf hpi hai Xa
            go_wp2_with fail
            refine aQ 13 (by kernel_rfl) (by kernel_rfl) ?_
            simp only [List.take_succ_cons,List.take_zero,List.drop_succ_cons,List.drop_zero]
            repeat (apply aA;(next=>(intro W hW K hK;have y0:=hW.cell hcv;go_simp;first | exact ⟨hW,hK⟩ | exact hK));(next=>exact aH.self _);(try go_simp))
            (apply aA;(next=>(intro W hW K hK;go_simp;first | exact ⟨_,hW.of_eq (NG.out W),hK⟩ | exact ⟨hW,_,hW.of_eq (NG.out W),hK⟩));(next=>exact aH.self _);(try go_simp))
            repeat (apply aA;(next=>(intro W hW K hK;have y0:=hW.cell hcv;go_simp;first | exact ⟨hW,hK⟩ | exact hK));(next=>exact aH.self _);(try go_simp))
            (apply aA;(next=>(intro W hW K hK;go_simp;first | exact ⟨_,hW.of_eq (ML.out W),hK⟩ | exact ⟨hW,_,hW.of_eq (ML.out W),hK⟩));(next=>exact aH.self _);(try go_simp))
            repeat (apply aA;(next=>(intro W hW K hK;have y0:=hW.cell hcv;go_simp;first | exact ⟨hW,hK⟩ | exact hK));(next=>exact aH.self _);(try go_simp))
            (apply aA;(next=>(intro W hW K hK;go_simp;first | exact ⟨_,hW.of_eq (AD.out W),hK⟩ | exact ⟨hW,_,hW.of_eq (AD.out W),hK⟩));(next=>exact aH.self _);(try go_simp))
            refine aT ?_
            intro W7 Xb
            have wN:=aH.cell Xb hca;have cp':=aH.cell Xb hcp
            have OY : Hid (Below W6.heap.size W6 W7):=aiS (HBN.out.trans (Below.mono Xb HBN.out.size))
            clear hcv hca hcp afp afq Xb
            go_wp2_with fail
            by_cases hf2 : f < 9223372036854775807
            ·have Ng : decide (f < 9223372036854775807) = true:=decide_eq_true hf2
             have VN2:=aiS (VN.out hf2)
             have TA:=aiS (Ct Ni.out (by decide : 3 <= 1000))
             clear hf2
             refine aQ 17 (by kernel_rfl) (by kernel_rfl) ?_
             simp only [List.take_succ_cons,List.take_zero,List.drop_succ_cons,List.drop_zero]
             repeat (apply aA;(next=>(intro W hW K hK;have y0:=hW.cell wN;have y1:=hW.cell cp';go_simp;first | exact ⟨hW,hK⟩ | exact hK));(next=>exact aH.self _);(try go_simp))
             (apply aA;(next=>(intro W hW K hK;go_simp;first | exact ⟨_,hW.of_eq (NM.out W),hK⟩ | exact ⟨hW,_,hW.of_eq (NM.out W),hK⟩));(next=>exact aH.self _);(try go_simp))
             repeat (apply aA;(next=>(intro W hW K hK;have y0:=hW.cell wN;have y1:=hW.cell cp';go_simp;first | exact ⟨hW,hK⟩ | exact hK));(next=>exact aH.self _);(try go_simp))
             (apply aA;(next=>(intro W hW K hK;go_simp;first | exact ⟨_,hW.call (VN2.out W),hK⟩ | exact ⟨hW,_,hW.call (VN2.out W),hK⟩));(next=>exact aH.self _);(try go_simp))
             repeat (apply aA;(next=>(intro W hW K hK;have y0:=hW.cell wN;have y1:=hW.cell cp';go_simp;first | exact ⟨hW,hK⟩ | exact hK));(next=>exact aH.self _);(try go_simp))
             refine aT ?_
             intro W8 TB
             have AZ : Hid (Below W6.heap.size W6 W8):=aiS (OY.out.trans (Below.mono TB OY.out.size))
             clear wN cp' TB abw zY hn
             go_wp2
             go_roundw
             case rel=>exact ⟨n + 1,Ni.out,FM TA.out,AZ.out⟩
             case measure=>exact CY Ni.out TA.out
            ·have Ng : decide (f < 9223372036854775807) = false:=decide_eq_false hf2
             have TA:=aiS (Ct Ni.out (by decide : 3 <= 1000))
             refine aQ 17 (by kernel_rfl) (by kernel_rfl) ?_
             simp only [List.take_succ_cons,List.take_zero,List.drop_succ_cons,List.drop_zero]
             repeat (apply aA;(next=>(intro W hW K hK;have y0:=hW.cell wN;have y1:=hW.cell cp';go_simp;first | exact ⟨hW,hK⟩ | exact hK));(next=>exact aH.self _);(try go_simp))
             (apply aA;(next=>(intro W hW K hK;go_simp;first | exact ⟨_,hW.of_eq (NM.out W),hK⟩ | exact ⟨hW,_,hW.of_eq (NM.out W),hK⟩));(next=>exact aH.self _);(try go_simp))
             repeat (apply aA;(next=>(intro W hW K hK;have y0:=hW.cell wN;have y1:=hW.cell cp';go_simp;first | exact ⟨hW,hK⟩ | exact hK));(next=>exact aH.self _);(try go_simp))
             refine aT ?_
             intro W8 TB
             have AZ : Hid (Below W6.heap.size W6 W8):=aiS (OY.out.trans (Below.mono TB OY.out.size))
             clear wN cp' TB abw zY hn
             go_wp2
             go_roundw
             case rel=>exact ⟨n + 1,Ni.out,FM TA.out,AZ.out⟩
             case measure=>exact CY Ni.out TA.out
           ·obtain rfl:=Tx hn zY
            have HF : Hid (Below w4.heap.size w4 wr):=aiS (lu.out.trans (hbn.mono lu.out.size))
            have hw:=Nf.out;clear hbn zY hn
            go_wp2
            go_roundw
            case rel=>exact ⟨j + 1,OV.out,FM Nf.out,HF.out⟩
            case measure=>exact CY OV.out Nf.out
        ·obtain rfl:=Tx hj hlt2
         have HF:=aiS (afo.out.below hbj);have acf:=VF j
         have hw : wrap64 ((k : Int) + 1) = (k : Int) + 1:=Ct dI.out (Nat.le_trans Io.out (by decide))
         clear hbj
         go_wp2
         go_roundw
         case rel=>exact ⟨k + 1,S,_,dI.out,by go_num,HF.out⟩
         case measure=>exact wS dI.out
    ·have HN : Hid (∃ S' x',yj wb C c (k + 1) S' x' w2):=aiS ⟨S,x,hA,HI.out.inv.succ,HI.out.ge,HI.out.oC.trans (hO.below HI.out.oC.size HI.out.ge)⟩
     obtain ⟨u1,hu1⟩ : ∃ u,w2.alloc (.cells #[.bool false,.int .i64 0,.slice none 0 0] 49) = u:=⟨_,rfl⟩
     have hbz : Below w2.heap.size w2 u1:=by rw [← hu1];exact aiT
     have dM : ak u1 w2.heap.size #[.bool false,.int .i64 0,.slice none 0 0] 49:=by rw [← hu1];exact ak.new _ _ _
     have f0:=dM.free 0;have f1:=dM.free 1;have f2:=dM.free 2;have p0:=dM.cell 0;have p1:=dM.cell 1;have p2:=dM.cell 2;simp at p0 p1 p2;have hX2:=fB (v0:=.bool false) (v1:=.int .i64 0) (v2:=.slice none 0 0) dM;have hb2:=dz (v0:=.bool false) (v1:=.int .i64 0) (v2:=.slice none 0 0) hbz (Nat.le_refl _)
     obtain ⟨u2,hu2⟩ : ∃ u,((u1.setCell ⟨w2.heap.size,0,none⟩ (.bool false)).setCell ⟨w2.heap.size,1,none⟩ (.int .i64 0)).setCell ⟨w2.heap.size,2,none⟩ (.slice none 0 0) = u:=⟨_,rfl⟩
     rw [hu2] at hX2 hb2
     have sH:=(hO.blk fu.out (λh=>Nat.lt_irrefl _ (HSL.out _ h))).below hb2 (hO.blk fu.out (λh=>Nat.lt_irrefl _ (HSL.out _ h))).lt
     have y0:=sH.cell 0;have z2:=hX2.cell 2;simp at y0 z2
     have HF : Hid (∃ S' x',yj wb C c (k + 1) S' x' u2):=aiS (by obtain ⟨S',x',h⟩:=HN.out;exact ⟨S',x',h.below hb2⟩)
     have hw : wrap64 ((k : Int) + 1) = (k : Int) + 1:=Ct dI.out (Nat.le_trans Io.out (by decide))
     clear hbz dM hb2 hX2 sH hO hA x0 x1 x2 d0 d1 d2 al
     go_wp2
     go_roundw
     case rel=>obtain ⟨S',x',h⟩:=HF.out;exact ⟨k + 1,S',x',dI.out,by go_num,h⟩
     case measure=>exact wS dI.out
   ·obtain rfl : k = len:=by omega
    have HF:=aiS (HB0.out.trans (hI.oC.mono HB0.out.size))
    have hlt' : ¬ (k : Int) < k:=by omega
    clear hI
    go_wp2
    go_ret
    exact ⟨rfl,HF.out⟩
theorem topBeyond_walk (r wi bs g l m s n d e : Int) (cu : Bool) (a0 : Option Addr) (K9 cap0 : Nat) (K T : Nat -> Int) (E : Nat -> Option Addr × Nat × Nat) (Z : Nat -> List Int) (w : World) (h1 : ay r) (h2 : ay wi) (h3 : ay bs) (h4 : ay g) (h5 : ay l) (h6 : ay m) (h7 : ay s) (h8 : ay n) (h9 : ay d) (h10 : ay e) (hS : iC w a0 K9 K T E) (hx : ∀ i,i < K9 -> ay (K i) /\ ay (T i) /\ Ar w (E i).1 (E i).2.1 (E i).2.2 (Z i)) (hy : K9 * 40 <= 140737488351232) :
 Calls Tryz.prog 7 #[.agg #[.int .i64 r,.int .i64 wi,.int .i64 bs,.int .i64 g,.int .i64 l,.int .i64 m,.int .i64 s,.int .i64 n,.int .i64 d,.int .i64 e,.bool cu],.slice a0 K9 cap0] w λe w'=>e = .returned (.bool true) /\ Below w.heap.size w w' :=
 topBeyond_w ⟨r,wi,bs,g,l,m,s,n,d,e,cu⟩ ⟨h1,h2,h3,h4,h5,h6,h7,h8,h9,h10⟩ a0 K9 cap0 K T E Z w hS hx (by omega)
end Go.Proofs.YtklkooeimkedgaaGreat
