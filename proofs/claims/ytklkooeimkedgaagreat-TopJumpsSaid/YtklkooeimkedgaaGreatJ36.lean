/- Parts of the walk of TopJumps: Gram2, Gram3, Plain2, Gram4, Gram5, Plain3. -/
import Derived.Test.YtklkooeimkedgaaGreatJ27
import Derived.Test.YtklkooeimkedgaaGreatJ35
set_option linter.unusedVariables false
set_option linter.unusedSimpArgs false
namespace Go.Proofs.YtklkooeimkedgaaGreat
open Go.RowKit
set_option maxRecDepth 8000
def RecCells (w : World) (b o : Nat) (r : Rec) : Prop:=w.cell? ⟨b,o,none⟩ = some (.int .i64 r.kind) ∧ w.cell? ⟨b,o + 1,none⟩ = some (.int .i64 r.id) ∧ w.cell? ⟨b,o + 2,none⟩ = some (.int .i64 r.px) ∧ w.cell? ⟨b,o + 3,none⟩ = some (.int .i64 r.py) ∧ w.cell? ⟨b,o + 4,none⟩ = some (.int .i64 r.pz) ∧ w.cell? ⟨b,o + 5,none⟩ = some (.int .i64 r.vx) ∧ w.cell? ⟨b,o + 6,none⟩ = some (.int .i64 r.vy) ∧ w.cell? ⟨b,o + 7,none⟩ = some (.int .i64 r.vz) ∧ w.cell? ⟨b,o + 8,none⟩ = some (.int .u16 r.ang)
def RecsAt (w : World) (a : Option Addr) (rs : List Rec) : Prop :=
 (∀ r ∈ rs,r.Ok) ∧ (rs = [] ∨ ∃ b off,a = some ⟨b,off,none⟩ ∧ b < w.heap.size ∧ ∀ i r,rs[i]? = some r → RecCells w b (off + i * 9) r)
theorem RecCells.below {w w' : World} {b o : Nat} {r : Rec} {B : Nat} (h : RecCells w b o r) (hb : Below B w w') (hl : b < B) : RecCells w' b o r:=by
 unfold RecCells at *
 refine ⟨?_,?_,?_,?_,?_,?_,?_,?_,?_⟩ <;> (rw [hb.cell (by simpa using hl)];first | exact h.1 | exact h.2.1 | exact h.2.2.1 | exact h.2.2.2.1 | exact h.2.2.2.2.1 | exact h.2.2.2.2.2.1 | exact h.2.2.2.2.2.2.1 | exact h.2.2.2.2.2.2.2.1 | exact h.2.2.2.2.2.2.2.2)
theorem RecsAt.below {w w' : World} {a : Option Addr} {rs : List Rec} (h : RecsAt w a rs) (hb : Below w.heap.size w w') : RecsAt w' a rs:=by
 obtain ⟨h1,h2⟩:=h
 refine ⟨h1,?_⟩
 rcases h2 with h2 | ⟨b,off,e,hl,hc⟩
 ·exact .inl h2
 ·exact .inr ⟨b,off,e,Nat.lt_of_lt_of_le hl hb.size,fun i r hi=>(hc i r hi).below hb hl⟩
theorem recBody_len {r : Rec} (hr : r.Ok) : (recBody r).length ≤ 71:=by
 have ha:=hr.ang
 have h1:=vsize_le (x:=r.ang) ⟨by omega,by omega⟩
 have hns : ∀ n ∈ recNums r,I64 n:=by intro n hn;simp [recNums] at hn;rcases hn with h | h | h | h | h | h <;> subst h;exact hr.px;exact hr.py;exact hr.pz;exact hr.vx;exact hr.vy;exact hr.vz
 have h2:=nb_len (recNums r) hns
 have h3 : (recNums r).length = 6:=rfl
 have h4 : (nb (recNums r) ++ vputF r.ang).length ≤ 70:=by rw [List.length_append,vputF_len];omega
 have h6 : (someB r).length ≤ 71:=by
  unfold someB
  have h7:=nb_len ((recNums r).filter (· ≠ 0)) (fun n hn=>hns n (List.mem_filter.1 hn).1)
  have h8 : ((recNums r).filter (· ≠ 0)).length ≤ (recNums r).length:=List.length_filter_le _ _
  simp only [List.length_append,List.length_cons,List.length_nil]
  split
  ·rw [vputF_len];omega
  ·simp only [List.length_nil];omega
 unfold recBody
 by_cases h5 : r.kind = 2
 ·rw [if_pos h5];simp
 ·rw [if_neg h5]
  split
  ·exact h6
  ·omega
theorem recWrB_len {r : Rec} (hr : r.Ok) {last : Int} (h : recWrE r last = 0) : (recWrB r last).length ≤ 82:=by
 obtain ⟨hc,h1,h2,k0,k3,i0,i1⟩:=recWrE_ok h
 have h4:=recBody_len hr
 have h5:=vsize_le (x:=r.id - last - 1) ⟨by omega,by omega⟩
 unfold recWrB
 simp only [List.length_append,vputF_len,List.length_cons,List.length_nil]
 omega
theorem grHdB_len (tick time base : Int) (n : Nat) (h : grHdE tick time base n = 0) : (grHdB tick time base n).length ≤ 42:=by
 unfold grHdE at h
 split at h
 ·cases h
 split at h
 ·cases h
 split at h
 ·cases h
 have ht : I64 time:=⟨by omega,by omega⟩
 have hb : 0 ≤ grBack tick base ∧ grBack tick base ≤ tick:=by unfold grBack;split <;> omega
 have h1:=vsize_le (x:=tick) ⟨by omega,by omega⟩
 have h2:=vsize_le (zigF_u64 ht)
 have h3:=vsize_le (x:=grBack tick base) ⟨by omega,by omega⟩
 have h4:=vsize_le (x:=(n : Int)) ⟨by omega,by omega⟩
 unfold grHdB
 simp only [List.length_append,vputF_len,List.length_cons,List.length_nil]
 omega
def BdRel (w : World) (rs : List Rec) (hd : List Int) (k : Nat) (lv v : Value) (wr : World) : Prop :=
 ∃ (last : Int) (pre : List Int),lv = .int .i64 last ∧ recsE (-1) rs = recsE last (rs.drop k) ∧ recsB (-1) rs = pre ++ recsB last (rs.drop k) ∧ OwnB wr w.heap.size v (hd ++ pre) ∧ pre.length ≤ 82 * k ∧ Below w.heap.size w wr
def BdI (w : World) (B3 : Nat) (v : Value) (zs : List Int) (ad : Option Addr) (ys : List Int) (r : Rec) : List Value → World → Prop
 | [],W=>OwnB W w.heap.size v zs ∧ BytesAt W ad ys.length ys ∧ Blk W B3 (recA r) 147 ∧ Below w.heap.size w W
 | [v'],W=>OwnB W w.heap.size v' (zs ++ ys) ∧ Blk W B3 (recA r) 147 ∧ Below w.heap.size w W
 | [v',u],W=>OwnB W w.heap.size u (zs ++ ys) ∧ Blk W B3 (recA r) 147 ∧ Below w.heap.size w W
 | _,_=>False
theorem BdI.blk {w : World} {B3 : Nat} {v : Value} {zs : List Int} {ad : Option Addr} {ys : List Int} {r : Rec} : ∀ {b : List Value} {W : World},BdI w B3 v zs ad ys r b W → Blk W B3 (recA r) 147
 | [],_,h=>h.2.2.1
 | [_],_,h=>h.2.1
 | [_,_],_,h=>h.2.1
 | _ :: _ :: _ :: _,_,h=>h.elim
set_option maxHeartbeats 2000000 in
theorem gbody_f (tick time base : Int) (ht : I64 time) (a : Option Addr) (cap : Nat) (rs : List Rec) (w : World) (hrs : RecsAt w a rs) :
  Calls Tryz.prog 37 #[grV tick time base a rs.length cap] w fun e w'=>∃ v,e = .returned (.tuple #[v,.int .i64 (grBodE ⟨tick,time,base,rs⟩)]) ∧ (grBodE ⟨tick,time,base,rs⟩ = 0 → OwnB w' w.heap.size v (grBodB ⟨tick,time,base,rs⟩)) ∧ Below w.heap.size w w':=by
 by_cases hh : grHdE tick time base rs.length = 0
 ·have hd:=fun w=>ghead_ok tick time base ht a rs.length cap w hh
  have hl:=grHdB_len tick time base rs.length hh
  have HE : Hid (grBodE ⟨tick,time,base,rs⟩ = recsE (-1) rs):=Lib.hid (by unfold grBodE;simp only;rw [if_neg (by simpa using hh)])
  have HB : Hid (grBodB ⟨tick,time,base,rs⟩ = grHdB tick time base rs.length ++ recsB (-1) rs):=Lib.hid rfl
  have hn : rs.length ≤ 128:=by
   unfold grHdE at hh
   split at hh
   ·cases hh
   split at hh
   ·cases hh
   split at hh
   ·cases hh
   omega
  generalize grBodE ⟨tick,time,base,rs⟩ = be at *
  generalize grBodB ⟨tick,time,base,rs⟩ = bb at *
  generalize grHdB tick time base rs.length = hb at *
  have HRS:=Lib.hid hrs
  have HN:=Lib.hid hn
  have HL:=Lib.hid hl
  unfold grV at *
  clear hh hrs ht
  have hB0 : Hid (Below w.heap.size w (w.alloc (.cells #[.int .i64 tick,.int .i64 time,.int .i64 base,.slice a rs.length cap] 39))):=Lib.hid ((Below.refl _ _).alloc (Nat.le_refl _) _)
  go_enter Tryz.func37,Tryz.ntmps37
  go_wp2_with fail
  refine (hd _).mono ?_;rintro e w1 ⟨v,rfl,ho,hb1⟩
  have HB1:=Lib.hid (hB0.out.trans (hb1.mono (by simp)))
  have hX:=(Blk.new w #[.int .i64 tick,.int .i64 time,.int .i64 base,.slice a rs.length cap] 39).below hb1 (by simp)
  have c3:=hX.cell 3
  simp at c3
  have HO:=Lib.hid (ho.base (base':=w.heap.size) (by simp))
  have HRS1:=Lib.hid ((HRS.out.below hB0.out).below hb1)
  have HS : Hid (BdRel w rs hb 0 (.int .i64 (-1)) v w1):=Lib.hid ⟨-1,[],rfl,by simp,by simp,by simpa using HO.out,by simp,HB1.out⟩
  clear ho hb1 hX hd hB0 HO
  go_wp2_with fail
  go_loopw [4,6,22] (fun v lv i wr=>∃ k : Nat,k ≤ rs.length ∧ i = .int .i64 k ∧ BdRel w rs hb k lv v wr) (fun _ _ i _=>rs.length - (intOf i).toNat)
  case atStart=>exact ⟨0,Nat.zero_le _,rfl,HS.out⟩
  case round =>
   rename_i wr
   obtain ⟨k,hk,rfl,last,pre,rfl,hE,hBB,hO,hP,hB⟩:=hrel
   by_cases hlt : k < rs.length
   ·obtain ⟨r,hr⟩ : ∃ r,rs[k]? = some r:=⟨_,List.getElem?_eq_getElem hlt⟩
    have hdrop : rs.drop k = r :: rs.drop (k + 1):=by
     rw [List.drop_eq_getElem_cons hlt]
     rw [List.getElem?_eq_getElem hlt] at hr
     cases hr;rfl
    rw [hdrop] at hE hBB
    have hmem : r ∈ rs:=List.mem_of_getElem? hr
    have hrk:=HRS.out.1 r hmem
    obtain ⟨b,off,rfl,hbl,hcs⟩ : ∃ b off,a = some ⟨b,off,none⟩ ∧ b < w.heap.size ∧ ∀ i r,rs[i]? = some r → RecCells w b (off + i * 9) r:=by
     rcases HRS.out.2 with h0 | h0
     ·rw [h0] at hlt;simp at hlt
     ·exact h0
    have hc:=(hcs k r hr).below hB hbl
    have HE2:=Lib.hid hE
    have HBB:=Lib.hid hBB
    have HO:=Lib.hid hO
    have HB2:=Lib.hid hB
    have HP:=Lib.hid hP
    have HR:=Lib.hid hrk
    have hbs:=hB.size
    have hlt' : (k : Int) < rs.length:=by omega
    by_cases hwe : recWrE r last = 0
    ·have wr_:=fun w=>rwr_ok r hrk last w hwe
     have hyl:=recWrB_len hrk hwe
     have HID : Hid (recsE last (r :: rs.drop (k + 1)) = recsE r.id (rs.drop (k + 1))):=Lib.hid (by rw [recsE,if_neg (by simpa using hwe)])
     have HIB : Hid (recsB last (r :: rs.drop (k + 1)) = recWrB r last ++ recsB r.id (rs.drop (k + 1))):=Lib.hid rfl
     clear hE hBB hO hB hP hcs hdrop hr hmem hrk hwe HRS HRS1
     generalize recWrB r last = ys at *
     obtain ⟨rk,ri,p1,p2,p3,q1,q2,q3,ra⟩:=r
     obtain ⟨c0,c1,c2,c3,c4,c5,c6,c7,c8⟩:=hc
     unfold recV at wr_
     simp only at *
     go_wp2_with fail
     refine (wr_ _).mono ?_;rintro e w2 ⟨v2,rfl,ho2,hb2⟩
     obtain ⟨ad,c,rfl,hba,hac⟩:=ho2.bytes
     have hX2:=(Blk.new wr (recA ⟨rk,ri,p1,p2,p3,q1,q2,q3,ra⟩) 147).below hb2 (by simp)
     have hAl : Below wr.heap.size wr (wr.alloc (.cells (recA ⟨rk,ri,p1,p2,p3,q1,q2,q3,ra⟩) 147)):=(Below.refl _ _).alloc (Nat.le_refl _) _
     have hO2:=(HO.out.below hAl).below hb2
     have hB2 : Below w.heap.size w w2:=HB2.out.trans ((hAl.trans (hb2.mono (by simp))).mono hbs)
     have HI : Hid (BdI w wr.heap.size u4 (hb ++ pre) ad ys ⟨rk,ri,p1,p2,p3,q1,q2,q3,ra⟩ [] w2.drew):=Lib.hid ⟨hO2.below (below_drewN (Below.refl _ _) 1),hba.below (below_drewN (Below.refl _ _) 1),hX2,below_drewN hB2 1⟩
     have HYL : Hid ((hb ++ pre).length + ys.length ≤ 140737488355328):=Lib.hid (by have h1:=HL.out;have h2:=HP.out;have h3:=HN.out;rw [List.length_append];omega)
     have HYL2 : Hid ((pre ++ ys).length ≤ 82 * (k + 1)):=Lib.hid (by have h2:=HP.out;rw [List.length_append];omega)
     have HBS : Hid (∀ W,Below w.heap.size w W → w.heap.size ≤ W.heap.size):=Lib.hid (fun W h=>h.size)
     have HAC:=Lib.hid hac
     clear ho2 hba hac hX2 hAl hO2 hB2 hb2 wr_ c0 c1 c2 c3 c4 c5 c6 c7 c8 HO HB2 HP hyl
     go_wp2_with fail
     apply wp_region_chain 6 [2,5] (BdI w wr.heap.size u4 (hb ++ pre) ad ys ⟨rk,ri,p1,p2,p3,q1,q2,q3,ra⟩)
     case hm=>kernel_rfl
     case hB=>kernel_rfl
     case hp=>kernel_rfl
     case hI=>exact HI.out
     simp only [List.take_succ_cons,List.take_zero,List.drop_succ_cons,List.drop_zero]
     repeat (apply wpChain_fix;(next=>rfl);(next=>(intro b W hW K hK;have y0:=(BdI.blk hW).cell 1;simp at y0;go_simp;first | exact ⟨hW,hK⟩ | exact hK));(next=>exact ⟨_,HI.out⟩);(try go_simp))
     apply wpChain_one (s:=fun _=>True)
     case hk=>rfl
     case hne=>exact ⟨undef,trivial⟩
     case hw=>rfl
     case h =>
      intro W hW
      obtain ⟨hO,hY,hX,hB⟩:=hW
      refine phRes_of_list (d:=37) (ops:=#[]) rfl (by simp) rfl ?_
      intro Q hQ
      refine wpList_app_bytes W rfl (.tmp 35) (.tmp 36) rfl w.heap.size _ (hb ++ pre) rfl hO ad ys.length c ys rfl hY HAC.out HYL.out (HBS.out W hB) ?_
      intro v' w' ho hg
      exact hQ v' w' trivial ⟨ho,hX.grown hg (ownsApart hO.1 hX (by decide)),hB.grown hg (HBS.out W hB) (fun j e=>(hO.lt j e).1)⟩
     intro v3 _
     repeat (apply wpChain_fix;(next=>rfl);(next=>(intro b W hW K hK;have y0:=(BdI.blk hW).cell 1;simp at y0;go_simp;first | exact ⟨hW,hK⟩ | exact hK));(next=>exact ⟨_,HI.out⟩);(try go_simp))
     apply wpChain_one (s:=fun v=>True)
     case hk=>rfl
     case hne=>exact ⟨undef,trivial⟩
     case hw=>rfl
     case h =>
      intro W hW
      go_simp
      first | exact hW | exact ⟨trivial,hW⟩
     intro v4 _
     refine wpChain_nil ?_
     intro WC hWC
     have HS2 : Hid (BdRel w rs hb (k + 1) (.int .i64 ri) v4 WC):=Lib.hid (by
      obtain ⟨hO3,hX3,hB3⟩:=hWC
      refine ⟨ri,pre ++ ys,rfl,by rw [HE2.out,HID.out],by rw [HBB.out,HIB.out,List.append_assoc],by rw [← List.append_assoc];exact hO3,HYL2.out,hB3⟩)
     clear hWC
     go_wp2
     go_roundw
     case rel=>exact ⟨k + 1,by omega,by go_num,HS2.out⟩
     case measure=>simp [intOf];omega
    ·have wr_:=fun w=>rwr_bad r last w hwe
     have HID : Hid (be = recWrE r last):=Lib.hid (by rw [HE.out,HE2.out,recsE,if_pos hwe])
     have HNE:=Lib.hid hwe
     have hne2 : (recWrE r last != 0) = true:=by simpa using hwe
     clear hE hBB hO hB hP hcs hdrop hr hmem hrk hwe HRS HRS1 HBB HE2
     generalize recWrE r last = we at *
     obtain ⟨rk,ri,p1,p2,p3,q1,q2,q3,ra⟩:=r
     obtain ⟨c0,c1,c2,c3,c4,c5,c6,c7,c8⟩:=hc
     unfold recV at wr_
     simp only at *
     go_wp2_with fail
     refine (wr_ _).mono ?_;rintro e w2 ⟨rfl,hb2⟩
     have hAl : Below wr.heap.size wr (wr.alloc (.cells (recA ⟨rk,ri,p1,p2,p3,q1,q2,q3,ra⟩) 147)):=(Below.refl _ _).alloc (Nat.le_refl _) _
     have HB3 : Hid (Below w.heap.size w w2):=Lib.hid (HB2.out.trans ((hAl.trans (hb2.mono (by simp))).mono hbs))
     clear hb2 hAl wr_
     go_wp2
     exact bodyPost_ret (v:=.tuple #[.slice none 0 0,.int .i64 we]) (by simp [results,Tryz.results37,go_sem]) rfl ⟨_,by rw [HID.out],fun h=>absurd (HID.out.symm.trans h) HNE.out,HB3.out⟩
   ·obtain rfl : k = rs.length:=by omega
    rw [List.drop_length] at hE hBB
    have HV : Hid (be = 0):=Lib.hid (by rw [HE.out,hE];rfl)
    have HO : Hid (OwnB wr w.heap.size u4 bb):=Lib.hid (by rw [HB.out,hBB];simpa [recsB] using hO)
    have HB2:=Lib.hid hB
    clear hE hBB hO hB hP HRS HRS1
    go_wp2
    refine bodyPost_ret (v:=.tuple #[_,.int .i64 0]) (by simp [results,Tryz.results37,go_sem];rfl) rfl ⟨_,by rw [HV.out],fun _=>HO.out,HB2.out⟩
 ·have hd:=fun w=>ghead_bad tick time base a rs.length cap w hh
  have HE : Hid (grBodE ⟨tick,time,base,rs⟩ = grHdE tick time base rs.length):=Lib.hid (by unfold grBodE;simp only;rw [if_pos hh])
  have HNE:=Lib.hid hh
  have hne2 : (grHdE tick time base rs.length != 0) = true:=by simpa using hh
  generalize grBodE ⟨tick,time,base,rs⟩ = be at *
  generalize grHdE tick time base rs.length = er at *
  unfold grV at *
  clear hh hrs ht
  have hB0 : Hid (Below w.heap.size w (w.alloc (.cells #[.int .i64 tick,.int .i64 time,.int .i64 base,.slice a rs.length cap] 39))):=Lib.hid ((Below.refl _ _).alloc (Nat.le_refl _) _)
  go_enter Tryz.func37,Tryz.ntmps37
  go_wp2_with fail
  refine (hd _).mono ?_;rintro e w1 ⟨rfl,hb1⟩
  have HB1:=Lib.hid (hB0.out.trans (hb1.mono (by simp)))
  clear hb1 hd
  go_wp2
  exact bodyPost_ret (v:=.tuple #[.slice none 0 0,.int .i64 er]) (by simp [results,Tryz.results37,go_sem]) rfl ⟨_,by rw [HE.out],fun h=>absurd (HE.out.symm.trans h) HNE.out,HB1.out⟩
theorem gcheck_f (tick time base : Int) (ht : I64 time) (a : Option Addr) (cap : Nat) (rs : List Rec) (w : World) (hrs : RecsAt w a rs) :
  Calls Tryz.prog 169 #[grV tick time base a rs.length cap] w fun e w'=>e = .returned (.int .i64 (grBodE ⟨tick,time,base,rs⟩)) ∧ Below w.heap.size w w':=by
 have hB0 : Hid (Below w.heap.size w (w.alloc (.cells #[.int .i64 tick,.int .i64 time,.int .i64 base,.slice a rs.length cap] 39))):=Lib.hid ((Below.refl _ _).alloc (Nat.le_refl _) _)
 have bd:=gbody_f tick time base ht a cap rs _ (hrs.below hB0.out)
 generalize grBodE ⟨tick,time,base,rs⟩ = be at *
 clear hrs
 unfold grV at *
 go_enter Tryz.func169,Tryz.ntmps169
 go_wp2_with fail
 refine bd.mono ?_;rintro e w1 ⟨v,rfl,_,hb1⟩
 have HB1:=Lib.hid (hB0.out.trans (hb1.mono (by simp)))
 clear hb1 bd
 go_wp2
 go_ret
 exact ⟨rfl,HB1.out⟩
theorem gwrite_f (tick time base : Int) (ht : I64 time) (a : Option Addr) (cap : Nat) (rs : List Rec) (w : World) (hrs : RecsAt w a rs) :
  Calls Tryz.prog 12 #[grV tick time base a rs.length cap] w fun e w'=>∃ v,e = .returned (.tuple #[v,.int .i64 (grWrE ⟨tick,time,base,rs⟩)]) ∧ OwnB w' w.heap.size v (if grWrE ⟨tick,time,base,rs⟩ = 0 then grWrB ⟨tick,time,base,rs⟩ else []) ∧ Below w.heap.size w w':=by
 have hB0 : Hid (Below w.heap.size w (w.alloc (.cells #[.int .i64 tick,.int .i64 time,.int .i64 base,.slice a rs.length cap] 39))):=Lib.hid ((Below.refl _ _).alloc (Nat.le_refl _) _)
 have bd:=gbody_f tick time base ht a cap rs _ (hrs.below hB0.out)
 have HE : Hid (grWrE ⟨tick,time,base,rs⟩ = if grBodE ⟨tick,time,base,rs⟩ ≠ 0 then grBodE ⟨tick,time,base,rs⟩ else if 4092 < (grBodB ⟨tick,time,base,rs⟩).length then 8 else 0):=Lib.hid rfl
 have HB : Hid (grWrB ⟨tick,time,base,rs⟩ = grBodB ⟨tick,time,base,rs⟩ ++ be4 (crcSum (grBodB ⟨tick,time,base,rs⟩))):=Lib.hid rfl
 generalize grBodE ⟨tick,time,base,rs⟩ = be at *
 generalize grWrE ⟨tick,time,base,rs⟩ = we at *
 generalize grWrB ⟨tick,time,base,rs⟩ = wb at *
 generalize grBodB ⟨tick,time,base,rs⟩ = bb at *
 obtain ⟨ob,hob⟩ : ∃ ob,(if we = 0 then wb else []) = ob:=⟨_,rfl⟩
 rw [hob]
 have HOB:=Lib.hid hob
 clear hob
 clear hrs
 unfold grV at *
 have sl:=fun a c w (hz : BytesAt w a bb.length bb) hc hl=>cseal_f a bb.length c bb w hz hc hl
 by_cases hbe : be = 0
 ·subst hbe
  by_cases hlen : 4092 < bb.length
  ·have HV : Hid (we = 8):=Lib.hid (by rw [HE.out,if_neg (by simp),if_pos hlen])
   have hlen' : (4092 : Int) < bb.length:=by omega
   clear HE HB sl
   go_enter Tryz.func12,Tryz.ntmps12
   go_wp2_with fail
   refine bd.mono ?_;rintro e w1 ⟨v,rfl,ho,hb1⟩
   obtain ⟨ad,c,rfl,hba,hac⟩:=(show OwnB _ _ _ _ by first | exact ho rfl | exact ho trivial).bytes
   have HB1:=Lib.hid (hB0.out.trans (hb1.mono (by simp)))
   clear hb1 bd ho hba hac hlen
   go_wp2
   exact bodyPost_ret (v:=.tuple #[.slice none 0 0,.int .i64 8]) (by simp [results,Tryz.results12,go_sem]) rfl ⟨_,by rw [HV.out],by rw [← HOB.out,HV.out,if_neg (by decide)];exact OwnB.nil _ _,HB1.out⟩
  ·have HV : Hid (we = 0):=Lib.hid (by rw [HE.out,if_neg (by simp),if_neg hlen])
   have hlen' : ¬ (4092 : Int) < bb.length:=by omega
   have HLN : Hid ((bb.length : Int) ≤ 140737488355000):=Lib.hid (by omega)
   clear HE hlen
   go_enter Tryz.func12,Tryz.ntmps12
   go_wp2_with fail
   refine bd.mono ?_;rintro e w1 ⟨v,rfl,ho,hb1⟩
   obtain ⟨ad,c,rfl,hba,hac⟩:=(show OwnB _ _ _ _ by first | exact ho rfl | exact ho trivial).bytes
   have HB1:=Lib.hid (hB0.out.trans (hb1.mono (by simp)))
   have s1:=sl ad c w1 hba hac HLN.out
   have hs1:=HB1.out.size
   clear hb1 bd ho hba hac sl
   go_wp2_with fail
   refine s1.mono ?_;rintro e w2 ⟨v2,rfl,ho2,hb2⟩
   have HB2:=Lib.hid (HB1.out.trans (hb2.mono hs1))
   have HO2:=Lib.hid (ho2.base hs1)
   clear hb2 ho2 s1
   go_wp2
   refine bodyPost_ret (v:=.tuple #[_,.int .i64 0]) (by simp [results,Tryz.results12,go_sem];rfl) rfl ⟨_,by rw [HV.out],by rw [← HOB.out,HV.out,if_pos rfl,HB.out];exact HO2.out,HB2.out⟩
 ·have HV : Hid (we = be):=Lib.hid (by rw [HE.out,if_pos hbe])
  have HNE:=Lib.hid hbe
  have hne2 : (be != 0) = true:=by simpa using hbe
  clear HE HB sl hbe
  go_enter Tryz.func12,Tryz.ntmps12
  go_wp2_with fail
  refine bd.mono ?_;rintro e w1 ⟨v,rfl,ho,hb1⟩
  have HB1:=Lib.hid (hB0.out.trans (hb1.mono (by simp)))
  clear hb1 bd ho
  go_wp2
  exact bodyPost_ret (v:=.tuple #[.slice none 0 0,.int .i64 be]) (by simp [results,Tryz.results12,go_sem]) rfl ⟨_,by rw [HV.out],by rw [← HOB.out,HV.out,if_neg HNE.out];exact OwnB.nil _ _,HB1.out⟩
end Go.Proofs.YtklkooeimkedgaaGreat
namespace Go.Proofs.YtklkooeimkedgaaGreat
open Go.RowKit
set_option maxRecDepth 8000
abbrev parA (R : Nat) (tick time base : Int) (v : Value) : Array Value:=#[.pointer (some ⟨R,0,none⟩),.int .i64 tick,.int .i64 time,.int .i64 base,v]
section
variable {B0 : Nat}
theorem gmust_f (G R : Nat) (c : Int) (hc : U8 c) (cs : Array Value) (hcs : cs[0]? = some (.pointer (some ⟨R,0,none⟩))) (s : RdSt) (w : World) (h : RdAt w R B0 s) (hG : Blk w G cs 260) (hGR : ¬ G = R) :
  Calls Tryz.prog 196 #[.pointer (some ⟨G,0,none⟩),.int .u8 c] w fun e w'=>e = .returned (.tuple #[]) ∧ RdAt w' R B0 (rdMust c s) ∧ Only (· = R) w w':=by
 have rb:=rbyte_f (B0:=B0) R s w h
 have fl:=fun w h=>rfail_f (B0:=B0) R (rdByte s).2 7 (by decide) w h
 have HE : Hid (rdMust c s = if (rdByte s).1 = c then (rdByte s).2 else rdFail 7 (rdByte s).2):=Lib.hid rfl
 have c0 : w.cell? ⟨G,0,none⟩ = some (.pointer (some ⟨R,0,none⟩)):=by rw [hG.cell 0,hcs]
 have HG:=Lib.hid hG
 clear h hG
 generalize rdByte s = q at *
 obtain ⟨x,s1⟩:=q
 generalize rdMust c s = z at *
 simp only at *
 by_cases hx : x = c
 ·have HV : Hid (z = s1):=Lib.hid (by rw [HE.out,if_pos hx])
  subst hx
  clear fl HE
  go_enter Tryz.func196,Tryz.ntmps196
  go_wp2_with fail
  refine rb.mono ?_;rintro e w1 ⟨rfl,hR,hO⟩
  go_wp2
  exact bodyPost_end (v:=.tuple #[]) (by simp [results,Tryz.results196,go_sem]) rfl ⟨rfl,by rw [HV.out];exact hR,hO⟩
 ·have HV : Hid (z = rdFail 7 s1):=Lib.hid (by rw [HE.out,if_neg hx])
  have hx2 : (x != c) = true:=by simpa using hx
  clear HE hx
  go_enter Tryz.func196,Tryz.ntmps196
  go_wp2_with fail
  refine rb.mono ?_;rintro e w1 ⟨rfl,hR,hO⟩
  have c1 : w1.cell? ⟨G,0,none⟩ = some (.pointer (some ⟨R,0,none⟩)):=by rw [(hO.blk HG.out hGR).cell 0,hcs]
  have f1:=fl w1 hR
  have HO:=Lib.hid hO
  clear hR hO fl rb c0
  go_wp2_with fail
  refine f1.mono ?_;rintro e w2 ⟨rfl,hR,hO⟩
  have HO2:=Lib.hid (HO.out.trans hO)
  clear hO
  go_wp2
  exact bodyPost_end (v:=.tuple #[]) (by simp [results,Tryz.results196,go_sem]) rfl ⟨rfl,by rw [HV.out];exact hR,HO2.out⟩
theorem gsigns_f (G R : Nat) (cs : Array Value) (hcs : cs[0]? = some (.pointer (some ⟨R,0,none⟩))) (s : RdSt) (w : World) (h : RdAt w R B0 s) (hG : Blk w G cs 260) (hGR : ¬ G = R) :
  Calls Tryz.prog 162 #[.pointer (some ⟨G,0,none⟩)] w fun e w'=>e = .returned (.tuple #[]) ∧ RdAt w' R B0 (rdSigns s) ∧ Only (· = R) w w':=by
 have m1:=gmust_f (B0:=B0) G R 71 ⟨by decide,by decide⟩ cs hcs s w h hG hGR
 have m2:=fun w h hG=>gmust_f (B0:=B0) G R 1 ⟨by decide,by decide⟩ cs hcs (rdMust 71 s) w h hG hGR
 unfold rdSigns
 have HG:=Lib.hid hG
 clear h hG
 generalize rdMust 71 s = s1 at *
 generalize rdMust 1 s1 = s2 at *
 go_enter Tryz.func162,Tryz.ntmps162
 go_wp2_with fail
 refine m1.mono ?_;rintro e w1 ⟨rfl,hR,hO⟩
 have m3:=m2 w1 hR (hO.blk HG.out hGR)
 have HO:=Lib.hid hO
 clear hR hO m1 m2
 go_wp2_with fail
 refine m3.mono ?_;rintro e w2 ⟨rfl,hR,hO⟩
 have HO2:=Lib.hid (HO.out.trans hO)
 clear hO
 go_wp2
 exact bodyPost_end (v:=.tuple #[]) (by simp [results,Tryz.results162,go_sem]) rfl ⟨rfl,hR,HO2.out⟩
set_option maxHeartbeats 1000000 in
theorem gwhen_f (G R : Nat) (t0 m0 b0 : Int) (v : Value) (s : RdSt) (w : World) (h : RdAt w R B0 s) (hG : Blk w G (parA R t0 m0 b0 v) 260) (hGR : ¬ G = R) (hBG : B0 ≤ G) :
  Calls Tryz.prog 163 #[.pointer (some ⟨G,0,none⟩)] w fun e w'=>e = .returned (.tuple #[]) ∧ RdAt w' R B0 (rdWhen s).2.2 ∧ Blk w' G (parA R (rdWhen s).1 (rdWhen s).2.1 b0 v) 260 ∧ Only (fun k=>k = R ∨ k = G) w w':=by
 have ru:=ruint_f (B0:=B0) R s 4294967295 w h
 have ub:=rdUint_le (most:=4294967295) h.u8 (by decide)
 have ri:=fun w h=>rint_f (B0:=B0) R (rdUint 4294967295 s).2 w h
 have fl:=fun w h=>rfail_f (B0:=B0) R (rdInt (rdUint 4294967295 s).2).2 3 (by decide) w h
 have tm:=fun w=>gtimely_f (rdInt (rdUint 4294967295 s).2).1 w
 unfold rdWhen
 have HG:=Lib.hid hG
 have c0:=hG.cell 0
 have f1:=hG.free 1
 have c1:=hG.cell 1
 simp at c0 c1
 clear h hG
 simp only
 generalize rdUint 4294967295 s = q1 at *
 obtain ⟨u,s1⟩:=q1
 simp only at *
 generalize rdInt s1 = q2 at *
 obtain ⟨y,s2⟩:=q2
 simp only at *
 generalize hz : (if timelyB y then s2 else rdFail 3 s2) = z
 have HZ:=Lib.hid hz
 clear hz
 have hw : wrap64 u = u:=by unfold wrap64;omega
 go_enter Tryz.func163,Tryz.ntmps163
 go_wp2_with fail
 refine ru.mono ?_;rintro e w1 ⟨rfl,hR,hO⟩
 have hG1:=hO.blk HG.out hGR
 have d1:=hG1.cell 1
 have g1:=hG1.free 1
 have d0:=hG1.cell 0
 simp at d0 d1
 have hG2:=hG1.set 1 (.int .i64 u)
 have d2:=hG2.cell 0
 simp at d2
 have HG2:=Lib.hid hG2
 have HR2:=Lib.hid (hR.setFar (p:=⟨G,1,none⟩) (fun h=>hGR h.symm) hBG (.int .i64 u))
 have HO2:=Lib.hid (((hO.weaken (T:=fun k=>k = R ∨ k = G) (fun k _ h=>.inl h))).setCell (p:=⟨G,1,none⟩) (.inl (.inr rfl)) (.int .i64 u))
 have r2:=ri _ HR2.out
 clear hG1 hG2 hR hO ru ri c0 c1 f1 HG
 go_wp2_with fail
 refine r2.mono ?_;rintro e w2 ⟨rfl,hR,hO⟩
 have hG3:=hO.blk HG2.out hGR
 have e2:=hG3.cell 2
 have g2:=hG3.free 2
 simp at e2
 have hG4:=hG3.set 2 (.int .i64 y)
 have e0:=hG4.cell 0
 have e3:=hG4.cell 2
 simp at e0 e3
 have HG4 : Hid (Blk (w2.setCell ⟨G,2,none⟩ (.int .i64 y)) G (parA R u y b0 v) 260):=Lib.hid (by simpa [parA] using hG4)
 have HR4:=Lib.hid (hR.setFar (p:=⟨G,2,none⟩) (fun h=>hGR h.symm) hBG (.int .i64 y))
 have HO4:=Lib.hid ((HO2.out.trans (hO.weaken (T:=fun k=>k = R ∨ k = G) (fun k _ h=>.inl h))).setCell (p:=⟨G,2,none⟩) (.inl (.inr rfl)) (.int .i64 y))
 clear hG3 hG4 hR hO r2 HG2 HR2 HO2 d0 d1 d2 g1
 by_cases ht : timelyB y
 ·rw [decide_eq_true ht] at tm
  have HV : Hid (z = s2):=Lib.hid (by rw [← HZ.out,if_pos ht])
  clear ht
  go_wp2_with fail
  refine (tm _).mono ?_;rintro e w3 ⟨rfl,rfl⟩
  go_wp2
  exact bodyPost_end (v:=.tuple #[]) (by simp [results,Tryz.results163,go_sem]) rfl ⟨rfl,by rw [HV.out];exact HR4.out,HG4.out,HO4.out⟩
 ·rw [decide_eq_false ht] at tm
  have HV : Hid (z = rdFail 3 s2):=Lib.hid (by rw [← HZ.out,if_neg ht])
  have f3:=fl _ HR4.out
  clear ht
  go_wp2_with fail
  refine (tm _).mono ?_;rintro e w3 ⟨rfl,rfl⟩
  go_wp2_with fail
  refine f3.mono ?_;rintro e w5 ⟨rfl,hR,hO⟩
  have HG5:=Lib.hid (hO.blk HG4.out hGR)
  have HO5:=Lib.hid (HO4.out.trans (hO.weaken (T:=fun k=>k = R ∨ k = G) (fun k _ h=>.inl h)))
  clear hO f3
  go_wp2
  exact bodyPost_end (v:=.tuple #[]) (by simp [results,Tryz.results163,go_sem]) rfl ⟨rfl,by rw [HV.out];exact hR,HG5.out,HO5.out⟩
set_option maxHeartbeats 1000000 in
theorem gbase_f (G R : Nat) (tick time b0 : Int) (ht : 0 ≤ tick ∧ tick ≤ 4294967295) (v : Value) (s : RdSt) (w : World) (h : RdAt w R B0 s) (hG : Blk w G (parA R tick time b0 v) 260) (hGR : ¬ G = R) (hBG : B0 ≤ G) :
  Calls Tryz.prog 164 #[.pointer (some ⟨G,0,none⟩)] w fun e w'=>e = .returned (.tuple #[]) ∧ RdAt w' R B0 (rdBase tick s).2 ∧ Blk w' G (parA R tick time (rdBase tick s).1 v) 260 ∧ Only (fun k=>k = R ∨ k = G) w w':=by
 have ru:=fun w h=>ruint_f (B0:=B0) R s tick w h
 have ub:=rdUint_le (most:=tick) h.u8 ht.1
 unfold rdBase
 simp only
 generalize rdUint tick s = q1 at *
 obtain ⟨u,s1⟩:=q1
 simp only at *
 generalize hz : (if 0 < u then tick - u else -1) = z
 have HZ:=Lib.hid hz
 clear hz
 have f3:=hG.free 3
 have c3:=hG.cell 3
 simp at c3
 have hG1:=hG.set 3 (.int .i64 (-1))
 have HG1 : Hid (Blk (w.setCell ⟨G,3,none⟩ (.int .i64 (-1))) G (parA R tick time (-1) v) 260):=Lib.hid (by simpa [parA] using hG1)
 have d0:=hG1.cell 0
 have d1:=hG1.cell 1
 simp at d0 d1
 have HR1:=Lib.hid (h.setFar (p:=⟨G,3,none⟩) (fun h=>hGR h.symm) hBG (.int .i64 (-1)))
 have HO1:=Lib.hid ((Only.refl (fun k=>k = R ∨ k = G) w).setCell (p:=⟨G,3,none⟩) (.inl (.inr rfl)) (.int .i64 (-1)))
 have w1 : IntKind.u64.wrap tick = tick:=wraps_u64 _ (by omega) (by omega)
 have w2 : wrap64 u = u:=by unfold wrap64;omega
 clear h hG hG1
 go_enter Tryz.func164,Tryz.ntmps164
 go_wp2_with fail
 apply wp_region_loose 10
 case hm=>kernel_rfl
 case hB=>kernel_rfl
 simp only [List.take_succ_cons,List.take_zero,List.drop_succ_cons,List.drop_zero]
 repeat (apply wpLoose_fix;(next=>(intro W hW K hK;have y0:=hW.cell d0;have y1:=hW.cell d1;go_simp;first | exact ⟨Below.refl _ _,hK⟩ | exact hK));(try go_simp))
 refine wpLoose_nil ?_
 intro WC hWC _
 have r1:=ru WC (HR1.out.below hWC)
 have HG2:=Lib.hid (HG1.out.below hWC HG1.out.lt)
 have HO2:=Lib.hid (HO1.out.then_below hWC)
 clear hWC ru HG1 HR1 HO1 d0 d1 f3 c3
 go_wp2_with fail
 refine r1.mono ?_;rintro e w3 ⟨rfl,hR,hO⟩
 have hG3:=hO.blk HG2.out hGR
 have HG3:=Lib.hid hG3
 have HO3:=Lib.hid (HO2.out.trans (hO.weaken (T:=fun k=>k = R ∨ k = G) (fun k _ h=>.inl h)))
 have HR3:=Lib.hid hR
 by_cases hu : 0 < u
 ·have e0:=hG3.cell 1
  have e3:=hG3.cell 3
  have g3:=hG3.free 3
  simp at e0 e3
  have w9 : wrap64 (tick - u) = tick - u:=by unfold wrap64;omega
  have hG4:=hG3.set 3 (.int .i64 (tick - u))
  have HG4 : Hid (Blk (w3.setCell ⟨G,3,none⟩ (.int .i64 (tick - u))) G (parA R tick time (tick - u) v) 260):=Lib.hid (by simpa [parA] using hG4)
  have HR4:=Lib.hid (hR.setFar (p:=⟨G,3,none⟩) (fun h=>hGR h.symm) hBG (.int .i64 (tick - u)))
  have HO4:=Lib.hid (HO3.out.setCell (p:=⟨G,3,none⟩) (.inl (.inr rfl)) (.int .i64 (tick - u)))
  have HV : Hid (z = tick - u):=Lib.hid (by rw [← HZ.out,if_pos hu])
  clear hG3 hR hO r1 HG2 HO2 HG3 HR3 HO3 hG4
  go_wp2
  exact bodyPost_end (v:=.tuple #[]) (by simp [results,Tryz.results164,go_sem]) rfl ⟨rfl,HR4.out,by rw [HV.out];exact HG4.out,HO4.out⟩
 ·have HV : Hid (z = -1):=Lib.hid (by rw [← HZ.out,if_neg hu])
  clear hG3 hR hO r1 HG2 HO2
  go_wp2
  exact bodyPost_end (v:=.tuple #[]) (by simp [results,Tryz.results164,go_sem]) rfl ⟨rfl,HR3.out,by rw [HV.out];exact HG3.out,HO3.out⟩
end
end Go.Proofs.YtklkooeimkedgaaGreat
namespace Go.Proofs.YtklkooeimkedgaaGreat
open Go.RowKit
set_option maxRecDepth 8000
theorem i64_zero : I64 0:=⟨by decide,by decide⟩
theorem takeF_u8 {off : List Int → Int × Nat × Int} {s : RdSt} (h : AllU8 s.1) : AllU8 (takeF off s).2.1:=by
 unfold takeF
 split
 ·exact h
 split
 ·exact h
 split
 ·exact h
 ·exact fun z hz=>h z (List.mem_of_mem_drop hz)
theorem rdByte_rest {s : RdSt} (h : AllU8 s.1) : AllU8 (rdByte s).2.1:=takeF_u8 h
theorem rdUint_rest {m : Int} {s : RdSt} (h : AllU8 s.1) : AllU8 (rdUint m s).2.1:=takeF_u8 h
theorem rdInt_rest {s : RdSt} (h : AllU8 s.1) : AllU8 (rdInt s).2.1:=rdUint_rest h
theorem rdVec_rest {s : RdSt} (h : AllU8 s.1) : AllU8 (rdVec s).2.1:=rdInt_rest (rdInt_rest (rdInt_rest h))
theorem rdVec_i64 {s : RdSt} (h : AllU8 s.1) : I64 (rdVec s).1.1 ∧ I64 (rdVec s).1.2.1 ∧ I64 (rdVec s).1.2.2:=⟨rdInt_i64 h,rdInt_i64 (rdInt_rest h),rdInt_i64 (rdInt_rest (rdInt_rest h))⟩
theorem rdNZ_rest {q : Int × RdSt} (h : AllU8 q.2.1) : AllU8 (rdNZ q).2.1:=by
 unfold rdNZ;simp only;split
 ·exact h
 ·exact h
theorem rdOne_ok {m : Int} {i : Nat} {s : RdSt} (h : AllU8 s.1) : I64 (rdOne m i s).1 ∧ AllU8 (rdOne m i s).2.1:=by
 unfold rdOne
 split
 ·exact ⟨i64_zero,h⟩
 ·exact ⟨rdInt_i64 h,rdNZ_rest (rdInt_rest h)⟩
theorem rdAng_ok {m : Int} {s : RdSt} (h : AllU8 s.1) : (0 ≤ (rdAng m s).1 ∧ (rdAng m s).1 ≤ 65535) ∧ AllU8 (rdAng m s).2.1:=by
 unfold rdAng
 split
 ·exact ⟨(show (0:Int) ≤ 0 ∧ (0:Int) ≤ 65535 by decide),h⟩
 ·exact ⟨rdUint_le h (by decide),rdNZ_rest (rdUint_rest h)⟩
theorem rdOnes_ok {m : Int} : ∀ (l : List Nat) {s : RdSt},AllU8 s.1 → (∀ x ∈ (rdOnes m l s).1,I64 x) ∧ AllU8 (rdOnes m l s).2.1
 | [],s,h=>⟨by simp [rdOnes],h⟩
 | i :: l,s,h=>by
  have h1:=rdOne_ok (m:=m) (i:=i) h
  have h2:=rdOnes_ok (m:=m) l h1.2
  refine ⟨fun x hx=>?_,h2.2⟩
  rw [rdOnes] at hx
  rcases List.mem_cons.1 hx with rfl | hx
  ·exact h1.1
  ·exact h2.1 x hx
theorem getD_i64 {l : List Int} (h : ∀ x ∈ l,I64 x) (i : Nat) : I64 (l.getD i 0):=by
 unfold List.getD
 cases hx : l[i]? with
 | none=>exact i64_zero
 | some x=>exact h x (List.mem_of_getElem? hx)
theorem rdKind_ok {k : Int} {r : Rec} {s : RdSt} (hr : r.Ok) (h : AllU8 s.1) : (rdKind k r s).1.Ok ∧ AllU8 (rdKind k r s).2.1 ∧ (rdKind k r s).1.id = r.id ∧ (rdKind k r s).1.kind = r.kind:=by
 unfold rdKind
 split
 ·have h1:=rdVec_rest h
  have h2:=rdVec_rest h1
  obtain ⟨a,b,c⟩:=rdVec_i64 h
  obtain ⟨d,e,f⟩:=rdVec_i64 h1
  exact ⟨⟨hr.kind,hr.id,a,b,c,d,e,f,rdUint_le h2 (by decide)⟩,rdUint_rest h2,rfl,rfl⟩
 split
 ·unfold rdSome
  split
  ·exact ⟨hr,rdByte_rest h,rfl,rfl⟩
  ·have h1:=rdOnes_ok (m:=(rdByte s).1) [0,1,2,3,4,5] (rdByte_rest h)
   have h2:=rdAng_ok (m:=(rdByte s).1) h1.2
   exact ⟨⟨hr.kind,hr.id,getD_i64 h1.1 0,getD_i64 h1.1 1,getD_i64 h1.1 2,getD_i64 h1.1 3,getD_i64 h1.1 4,getD_i64 h1.1 5,h2.1⟩,h2.2,rfl,rfl⟩
 split
 ·exact ⟨hr,h,rfl,rfl⟩
 ·exact ⟨hr,h,rfl,rfl⟩
theorem recHd_ok {last : Int} (h1 : -1 ≤ last) (h2 : last < 65535) {s : RdSt} (h : AllU8 s.1) : (recHd last s).1.Ok ∧ AllU8 (recHd last s).2.1 ∧ last < (recHd last s).1.id ∧ (recHd last s).1.id ≤ 65535:=by
 unfold recHd
 have hb:=rdUint_le (most:=65535 - (last + 1)) h (by omega)
 have hk:=rdByte_u8 (rdUint_rest (m:=65535 - (last + 1)) h)
 unfold U8 at hk
 refine ⟨⟨⟨?_,?_⟩,⟨?_,?_⟩,i64_zero,i64_zero,i64_zero,i64_zero,i64_zero,i64_zero,(show (0:Int) ≤ 0 ∧ (0:Int) ≤ 65535 by decide)⟩,rdByte_rest (rdUint_rest h),?_,?_⟩ <;> simp only <;> omega
theorem rdFail_ne {e : Int} (he : e ≠ 0) (s : RdSt) : (rdFail e s).2 ≠ 0:=by unfold rdFail;split <;> simp_all
theorem recRd_ok {last : Int} (h1 : -1 ≤ last) (h2 : last ≤ 65535) {s : RdSt} (h : AllU8 s.1) (he : (recRd last s).2.1 = 0) : (recRd last s).1.Ok ∧ AllU8 (recRd last s).2.2.1 ∧ last < (recRd last s).1.id ∧ (recRd last s).1.id ≤ 65535:=by
 unfold recRd at he ⊢
 by_cases hl : last = 65535
 ·rw [if_pos hl] at he
  exact absurd he (rdFail_ne (by decide) s)
 ·rw [if_neg hl] at he ⊢
  obtain ⟨a,b,c,d⟩:=recHd_ok h1 (show last < 65535 by omega) h
  have hk:=rdKind_ok (k:=(recHd last s).1.kind) a b
  unfold recAll at *
  split at he
  ·rename_i hh;exact absurd he hh
  ·rw [if_neg (by assumption)]
   exact ⟨hk.1,hk.2.1,by rw [hk.2.2.1];exact c,by rw [hk.2.2.1];exact d⟩
theorem recL_length (r : Rec) : (recL r).length = 9:=rfl
theorem flat9 : ∀ (rs : List Rec) (i : Nat) (r : Rec),rs[i]? = some r → ∀ j,j < 9 → (rs.flatMap recL)[i * 9 + j]? = (recL r)[j]?
 | [],i,r,h,_,_=>by simp at h
 | x :: rs,0,r,h,j,hj=>by
  simp at h;subst h
  rw [List.flatMap_cons,List.getElem?_append_left (by rw [recL_length];omega)]
  congr 1;omega
 | x :: rs,i + 1,r,h,j,hj=>by
  have h' : rs[i]? = some r:=by simpa using h
  rw [List.flatMap_cons,List.getElem?_append_right (by rw [recL_length];omega),recL_length,show (i + 1) * 9 + j - 9 = i * 9 + j by omega]
  exact flat9 rs i r h' j hj
def OwnR (w : World) (base : Nat) (v : Value) (rs : List Rec) : Prop:=w.ownsRow base 147 9 v rs.length (rs.flatMap recL) ∧ ∀ r ∈ rs,r.Ok
theorem OwnR.nil (w : World) (base : Nat) : OwnR w base (.slice none 0 0) []:=⟨World.ownsRow_nil _ _ _ _,by simp⟩
theorem OwnR.below {w w' : World} {base B : Nat} {v : Value} {rs : List Rec} (h : OwnR w base v rs) (hb : Below B w w') (hB : ∀ j,v.ownBlock = some j → j < B) : OwnR w' base v rs:=by
 obtain ⟨⟨h1,h2⟩,h3⟩:=h
 refine ⟨⟨h1,?_⟩,h3⟩
 rcases h2 with h2 | ⟨g,cap,cur,rfl,a,b,c⟩
 ·exact .inl h2
 ·exact .inr ⟨g,cap,cur,rfl,a,by rw [hb.block g (hB g rfl)];exact b,c⟩
theorem OwnR.only {w w' : World} {base : Nat} {v : Value} {rs : List Rec} {S : Nat → Prop} (h : OwnR w base v rs) (ho : Only S w w') (hS : ∀ j,v.ownBlock = some j → ¬ S j) : OwnR w' base v rs:=by
 have hlt:=h.1.lt
 obtain ⟨⟨h1,h2⟩,h3⟩:=h
 refine ⟨⟨h1,?_⟩,h3⟩
 rcases h2 with h2 | ⟨g,cap,cur,rfl,a,b,c⟩
 ·exact .inl h2
 ·exact .inr ⟨g,cap,cur,rfl,a,by rw [ho.block g (hlt g rfl).2 (hS g rfl)];exact b,c⟩
theorem OwnR.recs {w : World} {base : Nat} {v : Value} {rs : List Rec} (h : OwnR w base v rs) : ∃ a cap,v = .slice a rs.length cap ∧ RecsAt w a rs ∧ (a = none → cap = 0):=by
 have hc:=fun g hg=>h.1.cells (g:=g) hg
 have hlt:=h.1.lt
 obtain ⟨⟨h1,h2⟩,h3⟩:=h
 rcases h2 with ⟨rfl,hn⟩ | ⟨g,cap,cur,rfl,a,b,c⟩
 ·have : rs = []:=List.eq_nil_of_length_eq_zero hn
  subst this
  exact ⟨none,0,rfl,⟨h3,.inl rfl⟩,fun _=>rfl⟩
 ·refine ⟨_,cap,rfl,⟨h3,.inr ⟨g,0,rfl,(hlt g rfl).2,fun i r hi=>?_⟩⟩,fun h=>by cases h⟩
  have hf:=flat9 rs i r hi
  have ha : ∀ o,(⟨g,0,none⟩ : Addr).add o = ⟨g,o,none⟩:=fun o=>by unfold Addr.add;split <;> simp_all
  have cell : ∀ j u,j < 9 → (recL r)[j]? = some u → w.cell? ⟨g,i * 9 + j,none⟩ = some u:=fun j u hj hu=>by
   rw [← ha];exact hc g rfl _ _ (by rw [hf j hj];exact hu)
  rw [Nat.zero_add]
  exact ⟨cell 0 _ (by decide) rfl,cell 1 _ (by decide) rfl,cell 2 _ (by decide) rfl,cell 3 _ (by decide) rfl,cell 4 _ (by decide) rfl,cell 5 _ (by decide) rfl,cell 6 _ (by decide) rfl,cell 7 _ (by decide) rfl,cell 8 _ (by decide) rfl⟩
theorem wpList_app_one {ops : Array Oper} {rest : List Oper} {o : Oper} {a : Act} {Q : Exit → Act → World → Prop} (w : World) (hgd : o.guard = none) (s x : Operand) (tS tE : TypeId)
  (ho : o.op = .call { callee:=.builtin .append,args:=#[s,x],argTypes:=#[tS,tS] })
  (base : Nat) (z : Value) (k bytes : Nat) (ht : Tryz.prog.underlying tS = some (.slice tE)) (hinfo : (Tryz.prog.info? tE).map (fun i=>(i.zero,i.size,i.bytes)) = some (some z,k,bytes)) (hzs : z.cells.size = k) (hk : 0 < k)
  (v : Value) (n : Nat) (xs : List Value) (hs : a.eval s = v) (hown : w.ownsRow base tE k v n xs)
  (g : Nat) (cs : Array Value) (hx : a.eval x = .slice (some ⟨g,0,none⟩) 1 1) (hb : Blk w g cs tE) (hcs : cs.size = k) (h1 : ∀ u ∈ cs.toList,u.oneCell' = true)
  (h63 : n + 1 ≤ maxLen) (hbytes : (n + 1) * bytes ≤ 140737488355328) (hbase : base ≤ w.heap.size)
  (h : ∀ v' w',w'.ownsRow base tE k v' (n + 1) (xs ++ cs.toList) → w.grownBy w' v.ownBlock → wpList Tryz.prog ops Q rest (a.put o.dst v') w') : wpList Tryz.prog ops Q (o :: rest) a w:=by
 obtain ⟨i0,hi,hz0,hz1,hz2⟩:=info_parts hinfo
 refine wpList_append_own w hgd s x tS ho base tE i0 z k bytes ht hi hz0 hz1 hz2 hzs hk v n xs hs hown ⟨g,0,none⟩ 1 1 cs.toList hx (by simp [hcs]) ?_ h1 h63 hbytes hbase (fun v' w' h2 h3 _=>h v' w' h2 h3)
 intro j u hj
 have e : (⟨g,0,none⟩ : Addr).add j = ⟨g,j,none⟩:=by unfold Addr.add;split <;> simp_all
 rw [e,hb.cell j]
 simpa using hj
theorem infoRec : (Tryz.prog.info? 147).map (fun i=>(i.zero,i.size,i.bytes)) = some (some (.agg #[.int .i64 0,.int .i64 0,.int .i64 0,.int .i64 0,.int .i64 0,.int .i64 0,.int .i64 0,.int .i64 0,.int .u16 0]),9,72):=by kernel_rfl
end Go.Proofs.YtklkooeimkedgaaGreat
namespace Go.Proofs.YtklkooeimkedgaaGreat
open Go.RowKit
set_option maxRecDepth 8000
def RcRel (w : World) (G R B0 : Nat) (tick time base : Int) (N : Nat) (s1 : RdSt) (k : Nat) (lv : Value) (wr : World) : Prop :=
 ∃ (last : Int) (rs : List Rec) (sk : RdSt) (v : Value),lv = .int .i64 last ∧ -1 ≤ last ∧ last ≤ 65535 ∧ rs.length = k ∧
  rdRecs N (-1) s1 = (rs ++ (rdRecs (N - k) last sk).1,(rdRecs (N - k) last sk).2) ∧ RdAt wr R B0 sk ∧ Blk wr G (parA R tick time base v) 260 ∧ OwnR wr w.heap.size v rs ∧ w.heap.size ≤ wr.heap.size ∧ Only (fun k=>k = R ∨ k = G) w wr
def RcI (w : World) (G R B0 : Nat) (tick time base : Int) (v : Value) (rs : List Rec) (s : RdSt) (X : Nat) (r : Rec) : List (Nat × Value) → World → Prop
 | [],W=>(RdAt W R B0 s ∧ Blk W X (recA r) 147 ∧ w.heap.size ≤ W.heap.size ∧ Only (fun k=>k = R ∨ k = G) w W) ∧ Blk W G (parA R tick time base v) 260 ∧ OwnR W w.heap.size v rs
 | [(7,u)],W=>(RdAt W R B0 s ∧ Blk W X (recA r) 147 ∧ w.heap.size ≤ W.heap.size ∧ Only (fun k=>k = R ∨ k = G) w W) ∧ Blk W G (parA R tick time base v) 260 ∧ OwnR W w.heap.size v rs ∧ ∃ g,u = .slice (some ⟨g,0,none⟩) 1 1 ∧ Blk W g (recA r) 147 ∧ w.heap.size ≤ g ∧ v.ownBlock ≠ some g
 | [(7,_),(8,v2)],W=>(RdAt W R B0 s ∧ Blk W X (recA r) 147 ∧ w.heap.size ≤ W.heap.size ∧ Only (fun k=>k = R ∨ k = G) w W) ∧ Blk W G (parA R tick time base v) 260 ∧ OwnR W w.heap.size v2 (rs ++ [r])
 | [(7,_),(8,v2),(14,_)],W=>(RdAt W R B0 s ∧ Blk W X (recA r) 147 ∧ w.heap.size ≤ W.heap.size ∧ Only (fun k=>k = R ∨ k = G) w W) ∧ Blk W G (parA R tick time base v2) 260 ∧ OwnR W w.heap.size v2 (rs ++ [r])
 | _,_=>False
theorem onlyGrown {w w' : World} {row : Option Nat} (h : w.grownBy w' row) : Only (fun k=>row = some k) w w' :=
 ⟨h.os,h.tape,h.output,h.size,fun k hk hs=>h.block k hk (fun e=>hs e.symm)⟩
theorem RdAt.only {w w' : World} {R B0 : Nat} {s : RdSt} {S : Nat → Prop} (h : RdAt w R B0 s) (ho : Only S w w') (hR : ¬ S R) (hB : ∀ k,k < B0 → ¬ S k) : RdAt w' R B0 s:=by
 obtain ⟨a,len,cap,zs,at',h1,h2,h3,h4⟩:=h
 exact ⟨a,len,cap,zs,at',ho.blk h1 hR,h2.only ho (fun x hx=>hB _ (h3 x hx).2),h3,h4⟩
theorem RcI.one {w : World} {G R B0 : Nat} {tick time base : Int} {v : Value} {rs : List Rec} {s : RdSt} {X : Nat} {r : Rec} {b : List (Nat × Value)} {W : World} (h : RcI w G R B0 tick time base v rs s X r b W) : Blk W X (recA r) 147:=by
 unfold RcI at h
 split at h
 ·exact h.1.2.1
 ·exact h.1.2.1
 ·exact h.1.2.1
 ·exact h.1.2.1
 ·exact h.elim
theorem RcI.par {ops : Array Oper} {i : Nat} {w : World} {G R B0 : Nat} {tick time base : Int} {v : Value} {rs : List Rec} {s : RdSt} {X : Nat} {r : Rec} {b : List (Nat × Value)} {W : World} (hf : ∀ p ∈ b,afterB .any ops p.1 i = false) (ha : afterB .any ops 14 i = true) (h : RcI w G R B0 tick time base v rs s X r b W) : Blk W G (parA R tick time base v) 260:=by
 unfold RcI at h
 split at h
 ·exact h.2.1
 ·exact h.2.1
 ·exact h.2.1
 ·rename_i v2 u b'
  have:=hf (14,b') (by simp)
  simp only at this
  rw [ha] at this
  cases this
 ·exact h.elim
set_option maxHeartbeats 4000000 in
theorem grecords_f {B0 : Nat} (G R : Nat) (tick time base : Int) (s : RdSt) (w : World) (h : RdAt w R B0 s) (hG : Blk w G (parA R tick time base (.slice none 0 0)) 260) (hGR : ¬ G = R) (hBG : B0 ≤ G) :
  Calls Tryz.prog 165 #[.pointer (some ⟨G,0,none⟩)] w fun e w'=>e = .returned (.tuple #[]) ∧ RdAt w' R B0 (rdRecords s).2 ∧ (∃ v,Blk w' G (parA R tick time base v) 260 ∧ OwnR w' w.heap.size v (rdRecords s).1) ∧ Only (fun k=>k = R ∨ k = G) w w':=by
 have ru:=ruint_f (B0:=B0) R s 128 w h
 have ub:=rdUint_le (most:=128) h.u8 (by decide)
 have rr:=fun last h1 h2 s w h hB=>rread_f (B0:=B0) R s last h1 h2 w h hB
 have HZ : Hid (rdRecords s = rdRecs (rdUint 128 s).1.toNat (-1) (rdUint 128 s).2):=Lib.hid rfl
 generalize rdRecords s = z at *
 generalize rdUint 128 s = q1 at *
 obtain ⟨n,s1⟩:=q1
 simp only at *
 obtain ⟨N,rfl⟩ : ∃ N : Nat,n = N:=⟨n.toNat,by omega⟩
 rw [Int.toNat_natCast] at HZ
 have hRl:=h.lt
 have hGl:=hG.lt
 have c0:=hG.cell 0
 simp at c0
 have HG:=Lib.hid hG
 clear h hG
 go_enter Tryz.func165,Tryz.ntmps165
 go_wp2_with fail
 refine ru.mono ?_;rintro e w1 ⟨rfl,hR,hO⟩
 have HS : Hid (RcRel w G R B0 tick time base N s1 0 (.int .i64 (-1)) w1):=Lib.hid ⟨-1,[],s1,.slice none 0 0,rfl,by decide,by decide,rfl,by simp,hR,hO.blk HG.out hGR,OwnR.nil _ _,hO.size,hO.weaken (fun k _ h=>.inl h)⟩
 clear hR hO ru c0 HG
 go_wp2_with fail
 go_loopw [2,10] (fun lv i wr=>∃ k : Nat,k ≤ N ∧ i = .int .u64 k ∧ RcRel w G R B0 tick time base N s1 k lv wr) (fun _ i _=>N - (intOf i).toNat)
 case atStart=>exact ⟨0,Nat.zero_le _,rfl,HS.out⟩
 case round =>
  rename_i wr
  obtain ⟨k,hk,rfl,last,rs,sk,v,rfl,hl1,hl2,hlen,hE,hR,hG,hOw,hsz,hO⟩:=hrel
  have HO:=Lib.hid hO
  have HE:=Lib.hid hE
  have HOW:=Lib.hid hOw
  have HG:=Lib.hid hG
  have HR:=Lib.hid hR
  have c0:=hG.cell 0
  simp at c0
  by_cases hlt : k < N
  ·have hlt' : (k : Int) < N:=by omega
   have r1:=rr last hl1 hl2 sk wr hR (by omega)
   have ok:=fun he=>recRd_ok hl1 hl2 hR.u8 he
   obtain ⟨m,hm⟩ : ∃ m,N - k = m + 1:=⟨N - k - 1,by omega⟩
   have hm2 : N - (k + 1) = m:=by omega
   have HD : Hid (rdRecs (N - k) last sk = if (recRd last sk).2.1 ≠ 0 then ([],(recRd last sk).2.2) else ((recRd last sk).1 :: (rdRecs m (recRd last sk).1.id (recRd last sk).2.2).1,(rdRecs m (recRd last sk).1.id (recRd last sk).2.2).2)):=Lib.hid (by rw [hm,rdRecs])
   generalize recRd last sk = q at *
   obtain ⟨r,er,s2⟩:=q
   simp only at *
   clear hE hR hG hOw hO rr HS
   by_cases her : er = 0
   ·subst her
    obtain ⟨hrk,_,hid1,hid2⟩:=ok rfl
    have HD2 : Hid (rdRecs (N - k) last sk = (r :: (rdRecs m r.id s2).1,(rdRecs m r.id s2).2)):=Lib.hid (by rw [HD.out,if_neg (by simp)])
    have HRK:=Lib.hid hrk
    clear HD ok hrk
    obtain ⟨rk,ri,p1,p2,p3,v1,v2,v3,ra⟩:=r
    unfold recV at r1
    simp only at *
    go_wp2_with fail
    refine r1.mono ?_;rintro e w3 ⟨rfl,hR3,hO3⟩
    have hG3:=hO3.blk HG.out hGR
    have hOw3:=HOW.out.only hO3 (fun j e hj=>by have:=(HOW.out.1.lt j e).1;omega)
    have hO3':=HO.out.trans (hO3.weaken (T:=fun k=>k = R ∨ k = G) (fun k _ h=>.inl h))
    have hs3:=hO3.size
    have hAl : Below w3.heap.size w3 (w3.alloc (.cells (recA ⟨rk,ri,p1,p2,p3,v1,v2,v3,ra⟩) 147)):=(Below.refl _ _).alloc (Nat.le_refl _) _
    have HI : Hid (RcI w G R B0 tick time base v rs s2 w3.heap.size ⟨rk,ri,p1,p2,p3,v1,v2,v3,ra⟩ [] (w3.alloc (.cells (recA ⟨rk,ri,p1,p2,p3,v1,v2,v3,ra⟩) 147)).drew):=Lib.hid ⟨⟨(hR3.below hAl).below (below_drewN (Below.refl _ _) 1),Blk.new w3 _ _,by show w.heap.size ≤ (w3.alloc _).heap.size;simp;omega,(hO3'.alloc _).draws 1⟩,hG3.alloc _,hOw3.below (below_drewN hAl 1) (fun j e=>(hOw3.1.lt j e).2)⟩
    have HWS : Hid (w.heap.size ≤ w3.heap.size):=Lib.hid (by omega)
    have HVX : Hid (∀ j,v.ownBlock = some j → j < w3.heap.size):=Lib.hid (fun j e=>(hOw3.1.lt j e).2)
    have HL2 : Hid (rs.length + 1 = k + 1):=Lib.hid (by omega)
    clear hR3 hO3 hG3 hOw3 hO3' hAl r1 c0 HR HG HO HOW
    go_wp2_with fail
    apply wp_region_chain2 15 [7,8,14] (RcI w G R B0 tick time base v rs s2 w3.heap.size ⟨rk,ri,p1,p2,p3,v1,v2,v3,ra⟩)
    case hm=>kernel_rfl
    case hB=>kernel_rfl
    case hp=>kernel_rfl
    case hI=>exact HI.out
    simp only [List.take_succ_cons,List.take_zero,List.drop_succ_cons,List.drop_zero]
    (apply wpChain2_fix;(next=>rfl);(next=>(intro b W hf hW K hK;go_simp;first | exact ⟨hW,hK⟩ | exact hK));(next=>exact ⟨_,HI.out⟩);(try go_simp))
    (apply wpChain2_fix;(next=>rfl);(next=>(intro b W hf hW K hK;go_simp;first | exact ⟨hW,hK⟩ | exact hK));(next=>exact ⟨_,HI.out⟩);(try go_simp))
    (apply wpChain2_fix;(next=>rfl);(next=>(intro b W hf hW K hK;go_simp;first | exact ⟨hW,hK⟩ | exact hK));(next=>exact ⟨_,HI.out⟩);(try go_simp))
    (apply wpChain2_fix;(next=>rfl);(next=>(intro b W hf hW K hK;go_simp;first | exact ⟨hW,hK⟩ | exact hK));(next=>exact ⟨_,HI.out⟩);(try go_simp))
    (apply wpChain2_fix;(next=>rfl);(next=>(intro b W hf hW K hK;go_simp;first | exact ⟨hW,hK⟩ | exact hK));(next=>exact ⟨_,HI.out⟩);(try go_simp))
    (apply wpChain2_fix;(next=>rfl);(next=>(intro b W hf hW K hK;have yG:=(RcI.par hf (by kernel_rfl) hW).cell 4;simp at yG;go_simp;first | exact ⟨hW,hK⟩ | exact hK));(next=>exact ⟨_,HI.out⟩);(try go_simp))
    (apply wpChain2_fix;(next=>rfl);(next=>(intro b W hf hW K hK;have yX:=RcI.one hW;have x0:=yX.cell 0;have x1:=yX.cell 1;have x2:=yX.cell 2;have x3:=yX.cell 3;have x4:=yX.cell 4;have x5:=yX.cell 5;have x6:=yX.cell 6;have x7:=yX.cell 7;have x8:=yX.cell 8;simp at x0 x1 x2 x3 x4 x5 x6 x7 x8;go_simp;first | exact ⟨hW,hK⟩ | exact hK));(next=>exact ⟨_,HI.out⟩);(try go_simp))
    apply wpChain2_one (s:=fun _=>True)
    case hk=>rfl
    case hne=>exact ⟨undef,trivial⟩
    case hw=>rfl
    case h =>
     intro W hW
     obtain ⟨⟨hR,hX,hs,hO⟩,hG,hV⟩:=hW
     go_simp
     refine ⟨⟨hR.below ((Below.refl _ _).alloc (Nat.le_refl _) _),hX.alloc _,by simp;omega,hO.alloc _⟩,hG.alloc _,hV.below ((Below.refl _ _).alloc (Nat.le_refl _) _) (fun j e=>(hV.1.lt j e).2),W.heap.size,rfl,Blk.new W _ _,hs,fun hh=>?_⟩
     exact absurd (hV.1.lt _ hh).2 (Nat.lt_irrefl _)
    intro uu _
    apply wpChain2_one (s:=fun _=>True)
    case hk=>rfl
    case hne=>exact ⟨undef,trivial⟩
    case hw=>rfl
    case h =>
     intro W hW
     obtain ⟨⟨hR,hX,hs,hO⟩,hG,hV,g,rfl,hg,hgs,hgv⟩:=hW
     refine phRes_of_list (d:=31) (ops:=#[]) rfl (by simp [Act.put]) rfl ?_
     intro Q hQ
     refine wpList_app_one W rfl (.tmp 28) (.tmp 30) 37 147 rfl w.heap.size _ 9 72 Tryz.underlying37 infoRec rfl (by decide) v rs.length (rs.flatMap recL) rfl hV.1 g _ rfl hg rfl (by intro u hu;simp [recA] at hu;rcases hu with rfl | rfl | rfl | rfl | rfl | rfl | rfl | rfl | rfl <;> rfl) (by unfold maxLen;omega) (by omega) hs ?_
     intro v' w' hv hgr
     have hnG:=ownsApart hV.1 hG (by decide)
     refine hQ v' w' trivial ⟨⟨?_,hX.grown hgr ?_,Nat.le_trans hs hgr.size,?_⟩,hG.grown hgr hnG,?_,?_⟩
     ·refine hR.only (onlyGrown hgr) (fun hh=>?_) (fun k hk hh=>?_)
      ·have:=(hV.1.lt _ hh).1;omega
      ·have:=(hV.1.lt _ hh).1;omega
     ·exact fun hh=>by have:=HVX.out _ hh;omega
     ·exact hO.trans_new (onlyGrown hgr) (fun i hi hh=>by have:=(hV.1.lt _ hh).1;omega)
     ·rw [List.length_append,List.flatMap_append];simpa [recL,recA] using hv
     ·intro r hr
      rcases List.mem_append.1 hr with hr | hr
      ·exact hV.2 r hr
      ·simp at hr;subst hr;exact HRK.out
    intro v2' _
    (apply wpChain2_fix;(next=>rfl);(next=>(intro b W hf hW K hK;have yX:=RcI.one hW;have x1:=yX.cell 1;simp at x1;go_simp;first | exact ⟨hW,hK⟩ | exact hK));(next=>exact ⟨_,HI.out⟩);(try go_simp))
    (apply wpChain2_fix;(next=>rfl);(next=>(intro b W hf hW K hK;have yX:=RcI.one hW;have x1:=yX.cell 1;simp at x1;go_simp;first | exact ⟨hW,hK⟩ | exact hK));(next=>exact ⟨_,HI.out⟩);(try go_simp))
    (apply wpChain2_fix;(next=>rfl);(next=>(intro b W hf hW K hK;go_simp;first | exact ⟨hW,hK⟩ | exact hK));(next=>exact ⟨_,HI.out⟩);(try go_simp))
    (apply wpChain2_fix;(next=>rfl);(next=>(intro b W hf hW K hK;go_simp;first | exact ⟨hW,hK⟩ | exact hK));(next=>exact ⟨_,HI.out⟩);(try go_simp))
    (apply wpChain2_fix;(next=>rfl);(next=>(intro b W hf hW K hK;go_simp;first | exact ⟨hW,hK⟩ | exact hK));(next=>exact ⟨_,HI.out⟩);(try go_simp))
    apply wpChain2_one (s:=fun _=>True)
    case hk=>rfl
    case hne=>exact ⟨undef,trivial⟩
    case hw=>rfl
    case h =>
     intro W hW
     obtain ⟨⟨hR,hX,hs,hO⟩,hG,hV⟩:=hW
     have f4:=hG.free 4
     have g4:=hG.cell 4
     simp at g4
     obtain ⟨av,cv,rfl,_⟩:=hV.recs
     have hll : (rs ++ [(⟨rk,ri,p1,p2,p3,v1,v2,v3,ra⟩ : Rec)]).length = k + 1:=by rw [List.length_append];exact HL2.out
     rw [hll] at hV
     go_simp
     refine ⟨⟨hR.setFar (p:=⟨G,4,none⟩) (fun h=>hGR h.symm) hBG _,hX.far (p:=⟨G,4,none⟩) ?_ _,?_,hO.setCell (p:=⟨G,4,none⟩) (.inl (.inr rfl)) _⟩,?_,?_⟩
     ·show w3.heap.size ≠ G;have:=HWS.out;omega
     ·simpa [World.setCell] using hs
     ·simpa [parA] using hG.set 4 _
     ·exact hV.only ((Only.refl (fun k=>k = G) W).setCell (p:=⟨G,4,none⟩) (.inl rfl) _) (fun j e hj=>by have:=(hV.1.lt j e).1;omega)
    intro v4 _
    refine wpChain2_nil ?_
    intro WC hWC
    have HS2 : Hid (RcRel w G R B0 tick time base N s1 (k + 1) (.int .i64 ri) WC):=Lib.hid (by
     obtain ⟨⟨hR,hX,hs,hO⟩,hG,hV⟩:=hWC
     refine ⟨ri,rs ++ [⟨rk,ri,p1,p2,p3,v1,v2,v3,ra⟩],s2,_,rfl,by omega,hid2,by rw [List.length_append];exact HL2.out,?_,hR,hG,hV,hs,hO⟩
     rw [hm2,HE.out,HD2.out,List.append_assoc]
     rfl)
    clear hWC
    go_wp2
    go_roundw
    case rel=>exact ⟨k + 1,by omega,by go_num,HS2.out⟩
    case measure=>simp [intOf];omega
   ·have her2 : (er != 0) = true:=by simpa using her
    have HD2 : Hid (rdRecs (N - k) last sk = ([],s2)):=Lib.hid (by rw [HD.out,if_pos her])
    clear HD ok her
    obtain ⟨rk,ri,p1,p2,p3,v1,v2,v3,ra⟩:=r
    unfold recV at r1
    simp only at *
    go_wp2_with fail
    refine r1.mono ?_;rintro e w3 ⟨rfl,hR3,hO3⟩
    have hG3:=hO3.blk HG.out hGR
    have hOw3:=HOW.out.only hO3 (fun j e hj=>by have:=(HOW.out.1.lt j e).1;omega)
    have hO3':=HO.out.trans (hO3.weaken (T:=fun k=>k = R ∨ k = G) (fun k _ h=>.inl h))
    have hAl : Below w3.heap.size w3 (w3.alloc (.cells (recA ⟨rk,ri,p1,p2,p3,v1,v2,v3,ra⟩) 147)):=(Below.refl _ _).alloc (Nat.le_refl _) _
    have HF:=Lib.hid (show RdAt _ R B0 s2 ∧ Blk _ G (parA R tick time base v) 260 ∧ OwnR _ w.heap.size v rs ∧ Only (fun k=>k = R ∨ k = G) w _ from ⟨hR3.below hAl,hG3.alloc (.cells (recA ⟨rk,ri,p1,p2,p3,v1,v2,v3,ra⟩) 147),hOw3.below hAl (fun j e=>(hOw3.1.lt j e).2),hO3'.alloc (.cells (recA ⟨rk,ri,p1,p2,p3,v1,v2,v3,ra⟩) 147)⟩)
    have HV : Hid (z = (rs,s2)):=Lib.hid (by rw [HZ.out,HE.out,HD2.out];simp)
    clear hR3 hO3 hG3 hOw3 hO3' hAl r1 c0 HR HG HO HOW HE HD2 HZ
    go_wp2
    exact bodyPost_ret (v:=.tuple #[]) (by simp [results,Tryz.results165,go_sem]) rfl ⟨rfl,by rw [HV.out];exact HF.out.1,⟨v,HF.out.2.1,by rw [HV.out];exact HF.out.2.2.1⟩,HF.out.2.2.2⟩
  ·obtain rfl : k = N:=by omega
   have HV : Hid (z = (rs,sk)):=Lib.hid (by rw [HZ.out,HE.out,Nat.sub_self];simp [rdRecs])
   clear hE hR hG hOw hO rr HZ HE c0
   go_wp2
   exact bodyPost_end (v:=.tuple #[]) (by simp [results,Tryz.results165,go_sem]) rfl ⟨rfl,by rw [HV.out];exact HR.out,⟨v,HG.out,by rw [HV.out];exact HOW.out⟩,HO.out⟩
end Go.Proofs.YtklkooeimkedgaaGreat
namespace Go.Proofs.YtklkooeimkedgaaGreat
open Go.RowKit
set_option maxRecDepth 8000
theorem OwnB.cap {w : World} {base : Nat} {v : Value} {zs : List Int} (h : OwnB w base v zs) : ∃ a c,v = .slice a zs.length c ∧ BytesAt w a zs.length zs ∧ (a = none → c = 0) ∧ zs.length ≤ c ∧ ∀ x,a = some x → base ≤ x.block ∧ x.block < w.heap.size:=by
 have hlt:=h.lt
 obtain ⟨a,c,rfl,h1,h2⟩:=h.bytes
 refine ⟨a,c,rfl,h1,h2,?_,fun x hx=>?_⟩
 ·obtain ⟨⟨_,⟨e,hn⟩ | ⟨g,cap,cur,e,_,_,hc,_⟩⟩,_⟩:=h
  ·omega
  ·cases e;exact hc
 ·subst hx;exact hlt _ rfl
theorem OwnR.base {w : World} {base base' : Nat} {v : Value} {rs : List Rec} (h : OwnR w base v rs) (hb : base' ≤ base) : OwnR w base' v rs:=by
 obtain ⟨⟨h1,h2⟩,h3⟩:=h
 refine ⟨⟨h1,?_⟩,h3⟩
 rcases h2 with h2 | ⟨g,cap,cur,rfl,a,b,c⟩
 ·exact .inl h2
 ·exact .inr ⟨g,cap,cur,rfl,Nat.le_trans hb a,b,c⟩
theorem blk4 {w : World} {b : Nat} {t : TypeId} {o0 v0 o1 v1 o2 v2 o3 v3 : Value} (h : Blk w b #[o0,o1,o2,o3] t) : Blk ((((w.setCell ⟨b,0,none⟩ v0).setCell ⟨b,1,none⟩ v1).setCell ⟨b,2,none⟩ v2).setCell ⟨b,3,none⟩ v3) b #[v0,v1,v2,v3] t:=by
 simpa using ((((h.set 0 v0).set 1 v1).set 2 v2).set 3 v3)
theorem only4 {S : Nat → Prop} {w0 w : World} {b : Nat} {v0 v1 v2 v3 : Value} (h : Only S w0 w) (hb : S b ∨ w0.heap.size ≤ b) : Only S w0 ((((w.setCell ⟨b,0,none⟩ v0).setCell ⟨b,1,none⟩ v1).setCell ⟨b,2,none⟩ v2).setCell ⟨b,3,none⟩ v3) :=
 ((((h.setCell (p:=⟨b,0,none⟩) hb v0).setCell (p:=⟨b,1,none⟩) hb v1).setCell (p:=⟨b,2,none⟩) hb v2).setCell (p:=⟨b,3,none⟩) hb v3)
theorem below4 {w0 w : World} {b : Nat} {v0 v1 v2 v3 : Value} (h : Below w0.heap.size w0 w) (hb : w0.heap.size ≤ b) : Below w0.heap.size w0 ((((w.setCell ⟨b,0,none⟩ v0).setCell ⟨b,1,none⟩ v1).setCell ⟨b,2,none⟩ v2).setCell ⟨b,3,none⟩ v3) :=
 (only4 (S:=fun _=>False) (Only.of_below h) (.inr hb)).below (Nat.le_refl _) (fun _ h=>h.elim)
theorem rdMust_u8 {c : Int} {s : RdSt} (h : AllU8 s.1) : AllU8 (rdMust c s).1:=by
 unfold rdMust;split
 ·exact rdByte_rest h
 ·exact rdByte_rest h
theorem rdSigns_u8 {s : RdSt} (h : AllU8 s.1) : AllU8 (rdSigns s).1:=rdMust_u8 (rdMust_u8 h)
abbrev grZ : Array Value:=#[.int .i64 0,.int .i64 0,.int .i64 0,.slice none 0 0]
abbrev fnG (f : FuncId) (G : Nat) : Value:=.func (.func f) #[.pointer (some ⟨G,0,none⟩)] #[]
def GrRel (w : World) (A R G F B0 : Nat) (st : RdSt) (cs : Array Value) (wr : World) : Prop :=
 RdAt wr R B0 st ∧ Blk wr G cs 260 ∧ Blk wr A grZ 39 ∧ Blk wr F #[fnG 162 G,fnG 163 G,fnG 164 G,fnG 165 G] 1 ∧ Below w.heap.size w wr
def GrSt (w : World) (A R G F B0 : Nat) (c : List (RdSt × Int × Int × Int)) (rs : List Rec) (k : Nat) (wr : World) : Prop :=
 ∃ q v,c[k]? = some q ∧ GrRel w A R G F B0 q.1 (parA R q.2.1 q.2.2.1 q.2.2.2 v) wr ∧ (k < 4 → v = .slice none 0 0) ∧ (k = 4 → OwnR wr w.heap.size v rs)
theorem GrRel.step {w : World} {A R G F B0 : Nat} {st st2 : RdSt} {cs cs2 : Array Value} {wr w2 : World} (h : GrRel w A R G F B0 st cs wr) (ho : Only (fun k=>k = R ∨ k = G) wr w2) (hR : RdAt w2 R B0 st2) (hG : Blk w2 G cs2 260)
  (hd : (A ≠ R ∧ A ≠ G) ∧ (F ≠ R ∧ F ≠ G) ∧ w.heap.size ≤ R ∧ w.heap.size ≤ G) : GrRel w A R G F B0 st2 cs2 w2:=by
 obtain ⟨h1,h2,h3,h4,h5⟩:=h
 obtain ⟨⟨a1,a2⟩,⟨a3,a4⟩,a5,a6⟩:=hd
 refine ⟨hR,hG,ho.blk h3 (by omega),ho.blk h4 (by omega),h5.trans (ho.below h5.size (fun k hk=>by omega))⟩
set_option maxHeartbeats 4000000 in
theorem gread_f (a : Option Addr) (len cap : Nat) (zs : List Int) (w : World) (hz : BytesAt w a len zs) (hc : a = none → cap = 0) (hlc : len ≤ cap) (hl : (len : Int) ≤ 140737488355000) :
  Calls Tryz.prog 114 #[.slice a len cap] w fun e w'=>∃ v,e = .returned (.tuple #[.agg #[.int .i64 (grRd zs).1.tick,.int .i64 (grRd zs).1.time,.int .i64 (grRd zs).1.base,v],.int .i64 (grRd zs).2]) ∧ OwnR w' w.heap.size v (grRd zs).1.recs ∧ Below w.heap.size w w':=by
 have hlen:=hz.1
 have HZ : Hid (grRd zs = if 4096 < zs.length then (gr0,8) else match copenF zs with | none=>(gr0,9) | some x=>if rdDone (grSteps (x,0)).2 ≠ 0 then (gr0,rdDone (grSteps (x,0)).2) else ((grSteps (x,0)).1,0)):=Lib.hid rfl
 generalize grRd zs = z at *
 have hA0 : Blk (w.alloc (.cells grZ 39)) w.heap.size grZ 39:=Blk.new w _ _
 have hB0 : Below w.heap.size w (w.alloc (.cells grZ 39)):=(Below.refl _ _).alloc (Nat.le_refl _) _
 by_cases hbig : 4096 < len
 ·have HV : Hid (z = (gr0,8)):=Lib.hid (by rw [HZ.out,if_pos (by omega)])
  have hbig2 : (4096 : Int) < len:=by omega
  have HB:=Lib.hid hB0
  clear HZ hbig hz hA0 hB0
  go_enter Tryz.func114,Tryz.ntmps114
  go_wp2
  exact bodyPost_ret (v:=.tuple #[.agg grZ,.int .i64 8]) (by simp [results,Tryz.results114,go_sem]) rfl ⟨.slice none 0 0,by rw [HV.out];rfl,by rw [HV.out];exact OwnR.nil _ _,HB.out⟩
 ·have hbig2 : ¬ (4096 : Int) < len:=by omega
  have hz1:=hz.below hB0
  have op:=copen_f a len cap zs _ hz1 hc hlc hl
  have HA0:=Lib.hid hA0
  have HB0:=Lib.hid hB0
  have HLEN : Hid ((copenF zs).getD [] = (copenF zs).getD [] ∧ (((copenF zs).getD []).length : Int) ≤ 140737488355000):=Lib.hid ⟨rfl,by
   cases hx : copenF zs with
   | none=>simp
   | some x =>
    unfold copenF at hx
    split at hx
    ·cases hx
    split at hx
    ·cases hx;simp;omega
    ·cases hx⟩
  have HZ2 : Hid (z = match copenF zs with | none=>(gr0,9) | some x=>if rdDone (grSteps (x,0)).2 ≠ 0 then (gr0,rdDone (grSteps (x,0)).2) else ((grSteps (x,0)).1,0)):=Lib.hid (by rw [HZ.out,if_neg (by omega)])
  clear HZ hbig hz hA0 hB0 hz1
  cases hcz : copenF zs with
  | none =>
   rw [hcz] at op
   have HV : Hid (z = (gr0,9)):=Lib.hid (by rw [HZ2.out,hcz])
   clear HZ2 HLEN hcz
   simp only [Option.isSome_none] at op
   go_enter Tryz.func114,Tryz.ntmps114
   go_wp2_with fail
   refine op.mono ?_;rintro e w1 ⟨v,rfl,ho,hb⟩
   have hA1:=HA0.out.below hb HA0.out.lt
   have HA1:=Lib.hid hA1
   have HB1:=Lib.hid (HB0.out.trans (hb.mono (by simp)))
   have c0:=hA1.cell 0
   have c1:=hA1.cell 1
   have c2:=hA1.cell 2
   have c3:=hA1.cell 3
   have f0:=hA1.free 0
   have f1:=hA1.free 1
   have f2:=hA1.free 2
   have f3:=hA1.free 3
   simp at c0 c1 c2 c3
   clear ho hb hA1 op
   go_wp2
   exact bodyPost_ret (v:=.tuple #[.agg #[.int .i64 0,.int .i64 0,.int .i64 0,.slice none 0 0],.int .i64 9])
    (by
      have hh:=blk4 (v0:=.int .i64 0) (v1:=.int .i64 0) (v2:=.int .i64 0) (v3:=.slice none 0 0) HA1.out
      have g0:=hh.cell 0
      have g1:=hh.cell 1
      have g2:=hh.cell 2
      have g3:=hh.cell 3
      simp at g0 g1 g2 g3
      simp [results,Tryz.results114,go_sem,g0,g1,g2,g3]) rfl
    ⟨.slice none 0 0,by rw [HV.out];rfl,by rw [HV.out];exact OwnR.nil _ _,below4 HB1.out (Nat.le_refl _)⟩
  | some x =>
   rw [hcz] at op HLEN
   have HV : Hid (z = if rdDone (grSteps (x,0)).2 ≠ 0 then (gr0,rdDone (grSteps (x,0)).2) else ((grSteps (x,0)).1,0)):=Lib.hid (by rw [HZ2.out,hcz])
   clear HZ2 hcz
   simp only [Option.isSome_some,Option.getD_some] at op HLEN
   go_enter Tryz.func114,Tryz.ntmps114
   go_wp2_with fail
   refine op.mono ?_;rintro e w1 ⟨v,rfl,ho,hb⟩
   have HX8:=Lib.hid ho.2
   obtain ⟨ax,cx,rfl,hxa,hxc,hxl,hxb⟩:=ho.cap
   have HA1:=Lib.hid (HA0.out.below hb HA0.out.lt)
   have hA1l:=HA1.out.lt
   have HB1:=Lib.hid (HB0.out.trans (hb.mono (by simp)))
   have rn:=rnew_f ax x.length cx x w1 hxa hxl (fun y hy=>(hxb y hy).2) HLEN.out.2
   clear ho hb hxa hxc hxl hxb op
   go_wp2_with fail
   refine rn.mono ?_;rintro e w2 ⟨R,rfl,hRl,hR,hb⟩
   have hA2:=HA1.out.below hb HA1.out.lt
   have hB2:=HB1.out.trans (hb.mono (by omega))
   have hRlt:=hR.lt
   have hAl : Below w2.heap.size w2 (w2.alloc (.cells (parA R 0 0 0 (.slice none 0 0)) 260)):=(Below.refl _ _).alloc (Nat.le_refl _) _
   obtain ⟨G,hG⟩ : ∃ G,w2.heap.size = G:=⟨_,rfl⟩
   have HFS : Hid (GrRel w w.heap.size R w2.heap.size (w2.heap.size + 1) w1.heap.size (x,0) (parA R 0 0 0 (.slice none 0 0)) ((w2.alloc (.cells (parA R 0 0 0 (.slice none 0 0)) 260)).alloc (.cells #[fnG 162 w2.heap.size,fnG 163 w2.heap.size,fnG 164 w2.heap.size,fnG 165 w2.heap.size] 1))):=Lib.hid (by
    refine ⟨(hR.below hAl).below ((Below.refl _ _).alloc (Nat.le_refl _) _),(Blk.new w2 _ _).alloc _,(hA2.alloc _).alloc _,?_,?_⟩
    ·have:=Blk.new (w2.alloc (.cells (parA R 0 0 0 (.slice none 0 0)) 260)) #[fnG 162 w2.heap.size,fnG 163 w2.heap.size,fnG 164 w2.heap.size,fnG 165 w2.heap.size] 1
     rw [show (w2.alloc (.cells (parA R 0 0 0 (.slice none 0 0)) 260)).heap.size = w2.heap.size + 1 by simp] at this
     exact this
    ·exact ((hB2.alloc (by omega) _).alloc (by simp;omega) _))
   obtain ⟨s1,e1⟩ : ∃ s1,rdSigns (x,0) = s1:=⟨_,rfl⟩
   obtain ⟨tick,time,s2,e2⟩ : ∃ tick time s2,rdWhen s1 = (tick,time,s2):=⟨_,_,_,rfl⟩
   obtain ⟨base,s3,e3⟩ : ∃ base s3,rdBase tick s2 = (base,s3):=⟨_,_,rfl⟩
   obtain ⟨rs,s4,e4⟩ : ∃ rs s4,rdRecords s3 = (rs,s4):=⟨_,_,rfl⟩
   have HGS : Hid (grSteps (x,0) = (⟨tick,time,base,rs⟩,s4)):=Lib.hid (by
    unfold grSteps;rw [e1,e2];simp only;rw [e3];simp only;rw [e4])
   have HTB : Hid (0 ≤ tick ∧ tick ≤ 4294967295):=Lib.hid (by
    have h : AllU8 s1.1:=by rw [← e1];exact rdSigns_u8 HX8.out
    have:=rdUint_le (most:=4294967295) h (by decide)
    have h2 : (rdWhen s1).1 = tick:=by rw [e2]
    unfold rdWhen at h2
    simp only at h2
    omega)
   obtain ⟨c,hc⟩ : ∃ c : List (RdSt × Int × Int × Int),c = [((x,0),0,0,0),(s1,0,0,0),(s2,tick,time,0),(s3,tick,time,base),(s4,tick,time,base)]:=⟨_,rfl⟩
   have HC:=Lib.hid hc
   have E1:=Lib.hid e1
   have E2:=Lib.hid e2
   have E3:=Lib.hid e3
   have E4:=Lib.hid e4
   have HD:=Lib.hid (show (w.heap.size ≠ R ∧ w.heap.size ≠ w2.heap.size) ∧ (w2.heap.size + 1 ≠ R ∧ w2.heap.size + 1 ≠ w2.heap.size) ∧ w.heap.size ≤ R ∧ w.heap.size ≤ w2.heap.size by have:=HB1.out.size;omega)
   have hGR : ¬ w2.heap.size = R:=by omega
   have hBG : w1.heap.size ≤ w2.heap.size:=by omega
   have HS : Hid (GrSt w w.heap.size R w2.heap.size (w2.heap.size + 1) w1.heap.size c rs 0 ((w2.alloc (.cells (parA R 0 0 0 (.slice none 0 0)) 260)).alloc (.cells #[fnG 162 w2.heap.size,fnG 163 w2.heap.size,fnG 164 w2.heap.size,fnG 165 w2.heap.size] 1))):=Lib.hid ⟨_,.slice none 0 0,by rw [HC.out];rfl,HFS.out,fun _=>rfl,fun h=>by cases h⟩
   clear hc e1 e2 e3 e4 hG hb hR hA2 hB2 hAl rn HA1 HB1 HA0 HB0 HFS HLEN
   go_wp2_with fail
   go_loopw [36] (fun i wr=>∃ k : Nat,k ≤ 4 ∧ i = .int .i64 k ∧ GrSt w w.heap.size R w2.heap.size (w2.heap.size + 1) w1.heap.size c rs k wr) (fun i _=>4 - (intOf i).toNat)
   case atStart=>exact ⟨0,by omega,rfl,HS.out⟩
   case round =>
    rename_i wr
    obtain ⟨k,hk,rfl,q,v,hq,hG,hv,hv4⟩:=hrel
    rw [HC.out] at hq
    rcases (show k = 0 ∨ k = 1 ∨ k = 2 ∨ k = 3 ∨ k = 4 by omega) with rfl | rfl | rfl | rfl | rfl
    ·cases hq
     have hvv:=hv (by decide)
     subst hvv
     have hR:=hG.1
     have hP:=hG.2.1
     have hF:=hG.2.2.2.1
     have c0:=hF.cell 0
     simp at c0
     have ct:=gsigns_f (B0:=w1.heap.size) w2.heap.size R _ rfl (x,0) wr hR hP hGR
     rw [E1.out] at ct
     have HG:=Lib.hid hG
     have hsz:=hG.2.2.2.2.size
     clear hR hP hF hG
     try simp only at ct
     go_wp2_with fail
     refine ct.mono ?_;rintro e w3 ⟨rfl,hR2,hO2⟩
     have hP2:=hO2.blk HG.out.2.1 hGR
     have hO2:=hO2.weaken (T:=fun k=>k = R ∨ k = w2.heap.size) (fun k _ h=>.inl h)
     have HS2 : Hid (GrSt w w.heap.size R w2.heap.size (w2.heap.size + 1) w1.heap.size c rs 1 w3):=Lib.hid ⟨_,.slice none 0 0,by rw [HC.out];rfl,HG.out.step hO2 hR2 hP2 HD.out,fun _=>rfl,fun h=>by cases h⟩
     clear hR2 hP2 hO2 ct HG
     go_wp2
     go_roundw
     case rel=>exact ⟨1,by omega,by first | rfl | go_num,HS2.out⟩
     case measure=>simp [intOf]
    ·cases hq
     have hvv:=hv (by decide)
     subst hvv
     have hR:=hG.1
     have hP:=hG.2.1
     have hF:=hG.2.2.2.1
     have HTBT:=HTB
     have c0:=hF.cell 1
     simp at c0
     have ct:=gwhen_f (B0:=w1.heap.size) w2.heap.size R 0 0 0 (.slice none 0 0) s1 wr hR hP hGR hBG
     rw [E2.out] at ct
     have HG:=Lib.hid hG
     have hsz:=hG.2.2.2.2.size
     clear hR hP hF hG
     try simp only at ct
     go_wp2_with fail
     refine ct.mono ?_;rintro e w3 ⟨rfl,hR2,hP2,hO2⟩
     have HS2 : Hid (GrSt w w.heap.size R w2.heap.size (w2.heap.size + 1) w1.heap.size c rs 2 w3):=Lib.hid ⟨_,.slice none 0 0,by rw [HC.out];rfl,HG.out.step hO2 hR2 hP2 HD.out,fun _=>rfl,fun h=>by cases h⟩
     clear hR2 hP2 hO2 ct HG
     go_wp2
     go_roundw
     case rel=>exact ⟨2,by omega,by first | rfl | go_num,HS2.out⟩
     case measure=>simp [intOf]
    ·cases hq
     have hvv:=hv (by decide)
     subst hvv
     have hR:=hG.1
     have hP:=hG.2.1
     have hF:=hG.2.2.2.1
     have HTBT:=HTB
     have c0:=hF.cell 2
     simp at c0
     have ct:=gbase_f (B0:=w1.heap.size) w2.heap.size R tick time 0 HTBT.out (.slice none 0 0) s2 wr hR hP hGR hBG
     rw [E3.out] at ct
     have HG:=Lib.hid hG
     have hsz:=hG.2.2.2.2.size
     clear hR hP hF hG
     try simp only at ct
     go_wp2_with fail
     refine ct.mono ?_;rintro e w3 ⟨rfl,hR2,hP2,hO2⟩
     have HS2 : Hid (GrSt w w.heap.size R w2.heap.size (w2.heap.size + 1) w1.heap.size c rs 3 w3):=Lib.hid ⟨_,.slice none 0 0,by rw [HC.out];rfl,HG.out.step hO2 hR2 hP2 HD.out,fun _=>rfl,fun h=>by cases h⟩
     clear hR2 hP2 hO2 ct HG
     go_wp2
     go_roundw
     case rel=>exact ⟨3,by omega,by first | rfl | go_num,HS2.out⟩
     case measure=>simp [intOf]
    ·cases hq
     have hvv:=hv (by decide)
     subst hvv
     have hR:=hG.1
     have hP:=hG.2.1
     have hF:=hG.2.2.2.1
     have c0:=hF.cell 3
     simp at c0
     have ct:=grecords_f (B0:=w1.heap.size) w2.heap.size R tick time base s3 wr hR hP hGR hBG
     rw [E4.out] at ct
     have HG:=Lib.hid hG
     have hsz:=hG.2.2.2.2.size
     clear hR hP hF hG
     try simp only at ct
     go_wp2_with fail
     refine ct.mono ?_;rintro e w3 ⟨rfl,hR2,⟨vv,hP2,hV2⟩,hO2⟩
     have HS2 : Hid (GrSt w w.heap.size R w2.heap.size (w2.heap.size + 1) w1.heap.size c rs 4 w3):=Lib.hid ⟨_,vv,by rw [HC.out];rfl,HG.out.step hO2 hR2 hP2 HD.out,fun h=>by omega,fun _=>hV2.base hsz⟩
     clear hR2 hP2 hO2 ct HG
     go_wp2
     go_roundw
     case rel=>exact ⟨4,by omega,by first | rfl | go_num,HS2.out⟩
     case measure=>simp [intOf]
    ·cases hq
     have hO:=hv4 rfl
     obtain ⟨hR,hP,hA,hF,hB⟩:=hG
     have dn:=rdone_f (B0:=w1.heap.size) R s4 wr hR
     rw [show (if s4.2 ≠ 0 then s4.2 else if s4.1 = [] then 0 else 8) = rdDone s4 from rfl] at dn
     have HV2 : Hid (z = if rdDone s4 ≠ 0 then (gr0,rdDone s4) else (⟨tick,time,base,rs⟩,0)):=Lib.hid (by rw [HV.out,HGS.out])
     generalize rdDone s4 = de at *
     have c0:=hP.cell 0
     simp at c0
     have HP:=Lib.hid hP
     have HO:=Lib.hid hO
     have HA:=Lib.hid hA
     have HB:=Lib.hid hB
     clear hR hP hA hF hB hO hv hv4 HV HGS HS
     go_wp2_with fail
     refine dn.mono ?_;rintro e w3 ⟨rfl,hb⟩
     have hP3:=HP.out.below hb HP.out.lt
     have hA3:=HA.out.below hb HA.out.lt
     have HO3:=Lib.hid (HO.out.below hb (fun j e=>(HO.out.1.lt j e).2))
     have HB3:=Lib.hid (HB.out.trans (hb.mono HB.out.size))
     have HA3:=Lib.hid hA3
     have p1:=hP3.cell 1
     have p2:=hP3.cell 2
     have p3:=hP3.cell 3
     have p4:=hP3.cell 4
     have c1:=hA3.cell 0
     have c2:=hA3.cell 1
     have c3:=hA3.cell 2
     have c4:=hA3.cell 3
     have f0:=hA3.free 0
     have f1:=hA3.free 1
     have f2:=hA3.free 2
     have f3:=hA3.free 3
     simp at p1 p2 p3 p4 c1 c2 c3 c4
     obtain ⟨va,vc,rfl,_⟩:=HO3.out.recs
     have HAO : Hid (∀ j,(Value.slice va rs.length vc).ownBlock = some j → j ≠ w.heap.size):=Lib.hid (fun j e h=>by
      subst h;exact ownsApart HO3.out.1 HA3.out (by decide) e)
     clear hb hP3 hA3 dn c0 HP HO HA HB
     by_cases hde : de = 0
     ·have HV3 : Hid (z = (⟨tick,time,base,rs⟩,0)):=Lib.hid (by rw [HV2.out,if_neg (by simpa using hde)])
      subst hde
      clear HV2
      go_wp2
      exact bodyPost_ret (v:=.tuple #[.agg #[.int .i64 tick,.int .i64 time,.int .i64 base,.slice va rs.length vc],.int .i64 0])
       (by
         have hh:=blk4 (v0:=.int .i64 tick) (v1:=.int .i64 time) (v2:=.int .i64 base) (v3:=.slice va rs.length vc) HA3.out
         have g0:=hh.cell 0
         have g1:=hh.cell 1
         have g2:=hh.cell 2
         have g3:=hh.cell 3
         simp at g0 g1 g2 g3
         simp [results,Tryz.results114,go_sem,g0,g1,g2,g3]) rfl
       ⟨_,by rw [HV3.out],by rw [HV3.out];exact HO3.out.only (only4 (S:=fun k=>k = w.heap.size) (Only.refl _ _) (.inl rfl)) (fun j e h=>HAO.out j e h),below4 HB3.out (Nat.le_refl _)⟩
     ·have HV3 : Hid (z = (gr0,de)):=Lib.hid (by rw [HV2.out,if_pos hde])
      have hde2 : (de != 0) = true:=by simpa using hde
      clear HV2 hde
      go_wp2
      exact bodyPost_ret (v:=.tuple #[.agg #[.int .i64 0,.int .i64 0,.int .i64 0,.slice none 0 0],.int .i64 de])
       (by
         have hh:=blk4 (v0:=.int .i64 0) (v1:=.int .i64 0) (v2:=.int .i64 0) (v3:=.slice none 0 0) HA3.out
         have g0:=hh.cell 0
         have g1:=hh.cell 1
         have g2:=hh.cell 2
         have g3:=hh.cell 3
         simp at g0 g1 g2 g3
         simp [results,Tryz.results114,go_sem,g0,g1,g2,g3]) rfl
       ⟨.slice none 0 0,by rw [HV3.out];rfl,by rw [HV3.out];exact OwnR.nil _ _,below4 HB3.out (Nat.le_refl _)⟩
end Go.Proofs.YtklkooeimkedgaaGreat
namespace Go.Proofs.YtklkooeimkedgaaGreat
open Go.RowKit
set_option maxRecDepth 8000
def ErB (e : Int) : Prop:=0 ≤ e ∧ e ≤ 17
theorem ErB.zero : ErB 0:=⟨by decide,by decide⟩
theorem getGo_erB : ∀ (zs : List Int) (i : Nat) (x : Int),ErB (getGo i x zs).2.2
 | [],i,x=>by unfold getGo;split <;> exact ⟨by decide,by decide⟩
 | c :: r,i,x=>by
  unfold getGo
  split
  ·exact ⟨by decide,by decide⟩
  split
  ·exact ⟨by decide,by decide⟩
  split
  ·exact getGo_erB r _ _
  ·split
   ·exact (show ErB 7 from ⟨by decide,by decide⟩)
   ·exact ErB.zero
theorem vgetF_erB (zs : List Int) : ErB (vgetF zs).2.2:=by
 unfold vgetF
 split
 ·exact ⟨by decide,by decide⟩
 ·exact getGo_erB _ _ _
theorem takeF_err {off : List Int → Int × Nat × Int} (ho : ∀ zs,ErB (off zs).2.2) {s : RdSt} (h : ErB s.2) : ErB (takeF off s).2.2:=by
 unfold takeF
 split
 ·exact h
 split
 ·exact (show ErB 6 from ⟨by decide,by decide⟩)
 split
 ·exact ho _
 ·exact ErB.zero
theorem rdByte_err {s : RdSt} (h : ErB s.2) : ErB (rdByte s).2.2:=takeF_err (fun _=>ErB.zero) h
theorem rdUint_err {m : Int} {s : RdSt} (h : ErB s.2) : ErB (rdUint m s).2.2:=takeF_err (fun zs=>by
 unfold uintO;simp only;split
 ·exact ⟨by decide,by decide⟩
 ·exact vgetF_erB zs) h
theorem rdInt_err {s : RdSt} (h : ErB s.2) : ErB (rdInt s).2.2:=rdUint_err h
theorem rdVec_err {s : RdSt} (h : ErB s.2) : ErB (rdVec s).2.2:=rdInt_err (rdInt_err (rdInt_err h))
theorem rdFail_err {e : Int} (he : ErB e) {s : RdSt} (h : ErB s.2) : ErB (rdFail e s).2:=by
 unfold rdFail;simp only;split
 ·exact he
 ·exact h
theorem rdNZ_err {q : Int × RdSt} (h : ErB q.2.2) : ErB (rdNZ q).2.2:=by
 unfold rdNZ;simp only;split
 ·exact rdFail_err ⟨by decide,by decide⟩ h
 ·exact h
theorem rdOne_err {m : Int} {i : Nat} {s : RdSt} (h : ErB s.2) : ErB (rdOne m i s).2.2:=by
 unfold rdOne;split
 ·exact h
 ·exact rdNZ_err (rdInt_err h)
theorem rdAng_err {m : Int} {s : RdSt} (h : ErB s.2) : ErB (rdAng m s).2.2:=by
 unfold rdAng;split
 ·exact h
 ·exact rdNZ_err (rdUint_err h)
theorem rdOnes_err {m : Int} : ∀ (l : List Nat) {s : RdSt},ErB s.2 → ErB (rdOnes m l s).2.2
 | [],s,h=>h
 | i :: l,s,h=>by rw [rdOnes];exact rdOnes_err l (rdOne_err h)
theorem rdKind_err {k : Int} {r : Rec} {s : RdSt} (h : ErB s.2) : ErB (rdKind k r s).2.2:=by
 unfold rdKind
 split
 ·exact rdUint_err (rdVec_err (rdVec_err h))
 split
 ·unfold rdSome
  split
  ·exact rdFail_err ⟨by decide,by decide⟩ (rdByte_err h)
  ·exact rdAng_err (rdOnes_err _ (rdByte_err h))
 split
 ·exact h
 ·exact rdFail_err ⟨by decide,by decide⟩ h
theorem recAll_err {last : Int} {s : RdSt} (h : ErB s.2) : ErB (recAll last s).2.2:=rdKind_err (rdByte_err (rdUint_err h))
theorem recRd_err {last : Int} {s : RdSt} (h : ErB s.2) : ErB (recRd last s).2.2.2:=by
 unfold recRd
 split
 ·exact rdFail_err ⟨by decide,by decide⟩ h
 split
 ·exact recAll_err h
 ·exact recAll_err h
theorem rdRecs_err : ∀ (n : Nat) (last : Int) {s : RdSt},ErB s.2 → ErB (rdRecs n last s).2.2
 | 0,last,s,h=>h
 | n + 1,last,s,h=>by
  rw [rdRecs]
  split
  ·exact recRd_err h
  ·exact rdRecs_err n _ (recRd_err h)
theorem rdMust_err {c : Int} {s : RdSt} (h : ErB s.2) : ErB (rdMust c s).2:=by
 unfold rdMust
 split
 ·exact rdByte_err h
 ·exact rdFail_err ⟨by decide,by decide⟩ (rdByte_err h)
theorem rdMust_rest {c : Int} {s : RdSt} (h : AllU8 s.1) : AllU8 (rdMust c s).1:=by
 unfold rdMust
 split
 ·exact rdByte_rest h
 ·exact rdByte_rest (s:=s) h
theorem rdWhen_err {s : RdSt} (h : ErB s.2) : ErB (rdWhen s).2.2.2:=by
 unfold rdWhen
 simp only
 split
 ·exact rdInt_err (rdUint_err h)
 ·exact rdFail_err ⟨by decide,by decide⟩ (rdInt_err (rdUint_err h))
theorem grSteps_err {s : RdSt} (h : ErB s.2) : ErB (grSteps s).2.2 :=
 rdRecs_err _ _ (rdUint_err (rdUint_err (rdWhen_err (rdMust_err (rdMust_err h)))))
theorem grRd_err (zs : List Int) : ErB (grRd zs).2:=by
 unfold grRd
 split
 ·exact ⟨by decide,by decide⟩
 split
 ·exact ⟨by decide,by decide⟩
 split
 ·unfold rdDone
  split
  ·exact grSteps_err ErB.zero
  split <;> exact ⟨by decide,by decide⟩
 ·exact ErB.zero
theorem copenF_u8 {zs x : List Int} (h : AllU8 zs) (hx : copenF zs = some x) : AllU8 x:=by
 unfold copenF at hx
 split at hx
 ·cases hx
 split at hx
 ·cases hx;exact fun z hz=>h z (List.mem_of_mem_take hz)
 ·cases hx
theorem grRd_time {zs : List Int} (h : AllU8 zs) : I64 (grRd zs).1.time:=by
 unfold grRd
 split
 ·exact i64_zero
 split
 ·exact i64_zero
 rename_i x hx
 split
 ·exact i64_zero
 ·exact rdInt_i64 (rdUint_rest (rdMust_rest (rdMust_rest (copenF_u8 h hx))))
end Go.Proofs.YtklkooeimkedgaaGreat
