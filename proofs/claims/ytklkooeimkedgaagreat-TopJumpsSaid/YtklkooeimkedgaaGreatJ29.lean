/- Parts of the walk of TopJumps: Crc1, Crc2. -/
import Derived.LoopTactic
import Derived.Test.YtklkooeimkedgaaGreatJ28
set_option linter.unusedVariables false
set_option linter.unusedSimpArgs false
namespace Go.Proofs.YtklkooeimkedgaaGreat
open Go.RowKit
set_option maxRecDepth 8000
def crcBit (t : Int) : Int := bits .xor .u32 (t / 2) (bits .and .u32 3988292384 (-bits .and .u32 t 1 % 4294967296))
def crcBits : Nat → Int → Int
  | 0, t => t
  | n + 1, t => crcBit (crcBits n t)
def crcStep (s c : Int) : Int := crcBits 8 (bits .xor .u32 s c)
theorem bits_u32 (op : BinOp) (x y : Int) : U32 (bits op .u32 x y) := bounds_u32 (wf_bits op .u32 x y)
theorem crcBits_u32 {t : Int} (h : U32 t) : ∀ n, U32 (crcBits n t)
  | 0 => h
  | n + 1 => by show U32 (crcBit (crcBits n t)); unfold crcBit; exact bits_u32 _ _ _
theorem crcStep_u32 (s c : Int) : U32 (crcStep s c) := crcBits_u32 (bits_u32 _ _ _) 8
theorem cstep_f (s c : Int) (hs : U32 s) (hc : U8 c) (w : World) :
    Calls Tryz.prog 159 #[.int .u32 s, .int .u8 c] w fun e w' => e = .returned (.int .u32 (crcStep s c)) ∧ w = w' := by
  obtain ⟨s0, s1⟩ := hs
  obtain ⟨c0, c1⟩ := hc
  obtain ⟨x, hx⟩ : ∃ x, bits .xor .u32 s c = x := ⟨_, rfl⟩
  have hxu : U32 x := by rw [← hx]; exact bits_u32 _ _ _
  have HE : Hid (crcStep s c = crcBits 8 x) := Lib.hid (by unfold crcStep; rw [hx])
  generalize crcStep s c = r at *
  go_enter Tryz.func159, Tryz.ntmps159
  go_wp2_with fail
  go_loopw [0, 9] (fun t i wr => ∃ k : Nat, k ≤ 8 ∧ i = .int .i64 k ∧ t = .int .u32 (crcBits k x) ∧ w = wr) (fun _ i _ => 8 - (intOf i).toNat)
  case atStart => exact ⟨0, by omega, rfl, rfl, rfl⟩
  case round =>
    obtain ⟨k, hk, rfl, rfl, rfl⟩ := hrel
    obtain ⟨t0, t1⟩ := crcBits_u32 hxu k
    have HS : Hid (crcBits (k + 1) x = crcBit (crcBits k x)) := Lib.hid rfl
    by_cases hlt : k < 8
    · have hlt' : (k : Int) < 8 := by omega
      generalize crcBits k x = t at *
      go_wp2
      go_roundw
      case rel => exact ⟨k + 1, by omega, by go_num, by rw [HS.out]; rfl, by first | rfl | trivial⟩
      case measure => simp [intOf]; omega
    · obtain rfl : k = 8 := by omega
      generalize crcBits 8 x = t at *
      go_wp2
      go_ret
      exact ⟨ret_int HE.out.symm, rfl⟩
def crcFold (s : Int) : List Int → Int
  | [] => s
  | c :: r => crcFold (crcStep s c) r
theorem crcFold_snoc (s : Int) : ∀ (l : List Int) (c : Int), crcFold s (l ++ [c]) = crcStep (crcFold s l) c
  | [], c => rfl
  | a :: l, c => by rw [List.cons_append, crcFold, crcFold_snoc]; rfl
theorem crcFold_u32 {s : Int} (h : U32 s) : ∀ l, U32 (crcFold s l)
  | [] => h
  | c :: l => crcFold_u32 (crcStep_u32 s c) l
def crcNot (x : Int) : Int := bits .xor .u32 IntKind.u32.max x
def crcSum (zs : List Int) : Int := crcNot (crcFold (crcNot 0) zs)
theorem crcNot_u32 (x : Int) : U32 (crcNot x) := bits_u32 _ _ _
theorem crcSum_u32 (zs : List Int) : U32 (crcSum zs) := crcNot_u32 _
theorem cone_f (b : Nat) (s c : Int) (hs : U32 s) (hc : U8 c) (w : World) (h : Blk w b #[.int .u32 s] 154) :
    Calls Tryz.prog 158 #[.int .u8 c, .pointer (some ⟨b, 0, none⟩)] w fun e w' => e = .returned (.tuple #[]) ∧ Blk w' b #[.int .u32 (crcStep s c)] 154 ∧ Only (· = b) w w' := by
  have st := cstep_f s c hs hc w
  have q0 := h.cell 0
  have f0 := h.free 0
  simp at q0
  generalize crcStep s c = r at *
  go_enter Tryz.func158, Tryz.ntmps158
  go_wp2_with fail
  refine st.mono ?_; rintro e w' ⟨rfl, rfl⟩
  go_wp2
  exact bodyPost_end (v := .tuple #[]) (by simp [results, Tryz.results158, go_sem]) rfl ⟨rfl, by simpa using h.set 0 (.int .u32 r), (Only.refl (· = b) w).setCell (.inl rfl) _⟩
theorem cmore_f (a : Option Addr) (len cap : Nat) (zs : List Int) (w : World) (hz : BytesAt w a len zs) (hl : (len : Int) ≤ 4611686018427387904) :
    Calls Tryz.prog 113 #[.int .u32 0, .slice a len cap] w fun e w' => e = .returned (.int .u32 (crcSum zs)) ∧ Below w.heap.size w w' := by
  have HE : Hid (crcSum zs = crcNot (crcFold (crcNot 0) zs)) := Lib.hid rfl
  have h8 := hz.u8
  obtain ⟨hl0, _, hz⟩ := hz
  have CO := Lib.hid (fun s c hs hc w h => cone_f w.heap.size s c hs hc w h)
  generalize crcSum zs = r at *
  rcases hz with hz0 | ⟨b, off, rfl, hb, hcs⟩
  all_goals
    go_enter Tryz.func113, Tryz.ntmps113
    go_wp2_with fail
    go_loopw [14] (fun i wr => ∃ k : Nat, k ≤ len ∧ i = .int .i64 k ∧ Blk wr w.heap.size #[.int .u32 (crcFold (crcNot 0) (zs.take k))] 154 ∧ Below w.heap.size w wr) (fun i _ => len - (intOf i).toNat)
    case atStart => exact ⟨0, Nat.zero_le _, rfl, Blk.new w #[.int .u32 (crcNot 0)] 154, (Below.refl _ _).alloc (Nat.le_refl _) _⟩
    case round =>
      rename_i wr
      obtain ⟨k, hk, rfl, hS, hB⟩ := hrel
      have hsz := hB.size
      by_cases hlt : k < len
      · first
        | (exfalso; omega)
        | (have c0 := (hB.cell (p := ⟨b, off + k, none⟩) hb).trans (hcs k hlt)
           have hu8 : U8 (zs.getD k 0) := h8 _ (by rw [List.getD_eq_getElem?_getD, List.getElem?_eq_getElem (by omega)]; simp)
           have hsu := crcFold_u32 (crcNot_u32 0) (zs.take k)
           have HSN : Hid (crcFold (crcNot 0) (zs.take (k + 1)) = crcStep (crcFold (crcNot 0) (zs.take k)) (zs.getD k 0)) := Lib.hid (by
             rw [← crcFold_snoc]; congr 1
             rw [List.take_add_one, List.getD_eq_getElem?_getD, List.getElem?_eq_getElem (show k < zs.length by omega)]; rfl)
           have HC := Lib.hid hcs
           have hlt' : (k : Int) < len := by omega
           clear hcs
           generalize zs.getD k 0 = z at *
           generalize crcFold (crcNot 0) (zs.take k) = s at *
           have co := cone_f w.heap.size s z hsu hu8 wr hS
           have q0 := hS.cell 0
           simp at q0
           have HB := Lib.hid hB
           clear hB hS
           go_wp2_with fail
           refine co.mono ?_; rintro e w2 ⟨rfl, hS2, hO2⟩
           have HS2 := Lib.hid hS2
           have HB2 : Hid (Below w.heap.size w w2) := Lib.hid (HB.out.trans (hO2.below hsz (by rintro i rfl; exact Nat.le_refl _)))
           clear co hS2 hO2 c0 q0
           go_wp2
           go_roundw
           case rel => exact ⟨k + 1, by omega, by go_num, by rw [HSN.out]; exact HS2.out, HB2.out⟩
           case measure => simp [intOf]; omega)
      · obtain rfl : k = len := by omega
        have q0 := hS.cell 0
        simp at q0
        have HF : Hid (r = crcNot (crcFold (crcNot 0) (zs.take k))) := Lib.hid (by rw [HE.out, ← hl0, List.take_length])
        have hsu := crcFold_u32 (crcNot_u32 0) (zs.take k)
        generalize crcFold (crcNot 0) (zs.take k) = s at *
        obtain ⟨s0, s1⟩ := hsu
        go_wp2
        go_ret
        exact ⟨ret_int (by rw [HF.out]; rfl), hB⟩
theorem crsum_f (a : Option Addr) (len cap : Nat) (zs : List Int) (w : World) (hz : BytesAt w a len zs) (hl : (len : Int) ≤ 4611686018427387904) :
    Calls Tryz.prog 76 #[.slice a len cap] w fun e w' => e = .returned (.int .u32 (crcSum zs)) ∧ Below w.heap.size w w' := by
  have m := cmore_f a len cap zs w hz hl
  generalize crcSum zs = r at *
  go_enter Tryz.func76, Tryz.ntmps76
  go_wp2_with fail
  refine m.mono ?_; rintro e w' ⟨rfl, hb⟩
  go_wp2
  go_ret
  exact ⟨rfl, hb⟩
set_option maxRecDepth 8000
def be4 (s : Int) : List Int:=[s / 16777216,s / 65536 % 256,s / 256 % 256,s % 256]
theorem be4_u8 {s : Int} (h : U32 s) : AllU8 (be4 s):=fun z hz=>by
 obtain ⟨h1,h2⟩:=h
 simp [be4] at hz
 rcases hz with rfl | rfl | rfl | rfl <;> (unfold U8;omega)
theorem OwnB.empty (w : World) : OwnB (w.alloc (.cells #[] 5)) w.heap.size (.slice (some ⟨w.heap.size,0,none⟩) 0 0) [] :=
 ⟨⟨rfl,.inr ⟨w.heap.size,0,#[],rfl,Nat.le_refl _,Blk.new w #[] 5,by decide,by decide,rfl,rfl⟩⟩,AllU8.nil⟩
theorem OwnB.base {w : World} {base base' : Nat} {v : Value} {zs : List Int} (h : OwnB w base v zs) (hb : base' ≤ base) : OwnB w base' v zs:=by
 obtain ⟨⟨h1,h2⟩,h8⟩:=h
 refine ⟨⟨h1,?_⟩,h8⟩
 rcases h2 with h2 | ⟨g,cap,cur,hv,hg,hh,r⟩
 ·exact Or.inl h2
 ·exact Or.inr ⟨g,cap,cur,hv,by omega,hh,r⟩
theorem ints_new (w : World) (zs : List Int) (h : AllU8 zs) : BytesAt (w.alloc (.cells (zs.map (Value.int .u8)).toArray 5)) (some ⟨w.heap.size,0,none⟩) zs.length zs :=
 ⟨rfl,fun z hz=>wf_u8' (h z hz),.inr ⟨w.heap.size,0,rfl,by simp,fun i hi=>by
  rw [(Blk.new w _ 5).cell (0 + i)]
  simp [List.getD,hi]⟩⟩
set_option maxHeartbeats 1000000 in
theorem cseal_f (a : Option Addr) (len cap : Nat) (zs : List Int) (w : World) (hz : BytesAt w a len zs) (hc : a = none → cap = 0) (hl : (len : Int) ≤ 140737488355000) :
  Calls Tryz.prog 38 #[.slice a len cap] w fun e w'=>∃ v,e = .returned v ∧ OwnB w' w.heap.size v (zs ++ be4 (crcSum zs)) ∧ Below w.heap.size w w':=by
 have sm:=crsum_f a len cap zs w hz (by omega)
 obtain ⟨s0,s1⟩:=crcSum_u32 zs
 have hl0:=hz.1
 generalize crcSum zs = s at *
 go_enter Tryz.func38,Tryz.ntmps38
 go_wp2_with fail
 refine sm.mono ?_;rintro e w1 ⟨rfl,hb1⟩
 have HZ1:=Lib.hid (hz.below hb1)
 have HB1:=Lib.hid hb1
 have hs1:=hb1.size
 have OE:=Lib.hid ((OwnB.empty w1).base hs1)
 have hz2:=Lib.hid (HZ1.out.below ((Below.refl _ _).alloc (Nat.le_refl _) (.cells #[] 5)))
 clear sm hb1 hz
 go_wp2_with (at_builtin;refine wpList_app_bytes _ rfl (.tmp 6) (.tmp 7) rfl w.heap.size _ [] rfl OE.out a len cap zs rfl hz2.out hc (by simp;omega) (by simp;omega) ?_)
 intro v2 w2 ho2 hg2
 have HB2 : Hid (Below w.heap.size w w2):=Lib.hid ((HB1.out.alloc hs1 _).grown hg2 (by simp;omega) (fun j e=>(OE.out.lt j e).1))
 have HO2:=Lib.hid ho2
 clear ho2 hg2 OE hz2 HZ1
 have hs2:=HB2.out.size
 have hb4:=be4_u8 (s:=s) ⟨s0,s1⟩
 have BN:=Lib.hid (ints_new w2 (be4 s) hb4)
 obtain ⟨x0,hx0⟩ : ∃ x,s / 16777216 = x:=⟨_,rfl⟩
 obtain ⟨x1,hx1⟩ : ∃ x,s / 65536 % 256 = x:=⟨_,rfl⟩
 obtain ⟨x2,hx2⟩ : ∃ x,s / 256 % 256 = x:=⟨_,rfl⟩
 obtain ⟨x3,hx3⟩ : ∃ x,s % 256 = x:=⟨_,rfl⟩
 have HE : Hid (be4 s = [x0,x1,x2,x3]):=Lib.hid (by unfold be4;rw [hx0,hx1,hx2,hx3])
 rw [HE.out] at BN
 simp only [List.map_cons,List.map_nil,List.length_cons,List.length_nil] at BN
 have HBA : Hid (Below w.heap.size w (w2.alloc (.cells #[.int .u8 x0,.int .u8 x1,.int .u8 x2,.int .u8 x3] 5))):=Lib.hid (HB2.out.alloc hs2 _)
 have HOA : Hid (OwnB (w2.alloc (.cells #[.int .u8 x0,.int .u8 x1,.int .u8 x2,.int .u8 x3] 5)) w.heap.size v2 ([] ++ zs)):=Lib.hid (HO2.out.below ((Below.refl _ _).alloc (Nat.le_refl _) _))
 clear hb4 HO2
 go_wp2_with (at_builtin;refine wpList_app_bytes _ rfl (.tmp 8) (.tmp 20) rfl w.heap.size _ ([] ++ zs) rfl HOA.out (some ⟨w2.heap.size,0,none⟩) 4 4 [x0,x1,x2,x3] rfl BN.out (by intro h;cases h) (by simp;omega) (by simp;omega) ?_)
 intro v3 w3 ho3 hg3
 have HB3 : Hid (Below w.heap.size w w3):=Lib.hid (HBA.out.grown hg3 (by simp;omega) (fun j e=>(HOA.out.lt j e).1))
 have HO3:=Lib.hid ho3
 clear ho3 hg3 HOA HBA
 go_wp2
 go_ret
 exact ⟨v3,rfl,by rw [HE.out];exact HO3.out,HB3.out⟩
def beNum : Int → List Int → Int
 | s,[]=>s
 | s,c :: r=>beNum (bits .or .u32 (s * 256 % 4294967296) c) r
theorem beNum_snoc (s : Int) : ∀ (l : List Int) (c : Int),beNum s (l ++ [c]) = bits .or .u32 (beNum s l * 256 % 4294967296) c
 | [],c=>rfl
 | a :: l,c=>by rw [List.cons_append,beNum,beNum_snoc];rfl
theorem beNum_u32 {s : Int} (h : U32 s) : ∀ l,U32 (beNum s l)
 | []=>h
 | c :: l=>beNum_u32 (bits_u32 _ _ _) l
def copenF (zs : List Int) : Option (List Int):=if zs.length < 4 then none else if beNum 0 (zs.drop (zs.length - 4)) = crcSum (zs.take (zs.length - 4)) then some (zs.take (zs.length - 4)) else none
theorem IntsAt.take {k : IntKind} {w : World} {a : Option Addr} {len n : Nat} {zs : List Int} (h : IntsAt k w a len zs) (hn : n ≤ len) : IntsAt k w a n (zs.take n):=by
 obtain ⟨h1,h2,h3⟩:=h
 refine ⟨by simp;omega,fun z hz=>h2 z (List.mem_of_mem_take hz),?_⟩
 rcases h3 with h3 | ⟨b,off,e,hl,hc⟩
 ·exact .inl (by omega)
 ·exact .inr ⟨b,off,e,hl,fun i hi=>by rw [hc i (by omega)];simp [List.getD,List.getElem?_take,hi]⟩
theorem IntsAt.drop {k : IntKind} {w : World} {b off : Nat} {len n : Nat} {zs : List Int} (h : IntsAt k w (some ⟨b,off,none⟩) len zs) (hn : n ≤ len) : IntsAt k w (some ⟨b,off + n,none⟩) (len - n) (zs.drop n):=by
 obtain ⟨h1,h2,h3⟩:=h
 refine ⟨by simp;omega,fun z hz=>h2 z (List.mem_of_mem_drop hz),?_⟩
 rcases h3 with h3 | ⟨b',off',e,hl,hc⟩
 ·exact .inl (by omega)
 ·cases e
  exact .inr ⟨b,off + n,rfl,hl,fun i hi=>by rw [Nat.add_assoc,hc (n + i) (by omega)];simp [List.getD,List.getElem?_drop]⟩
set_option maxHeartbeats 1000000 in
theorem copen_f (a : Option Addr) (len cap : Nat) (zs : List Int) (w : World) (hz : BytesAt w a len zs) (hc : a = none → cap = 0) (hlc : len ≤ cap) (hl : (len : Int) ≤ 140737488355000) :
  Calls Tryz.prog 160 #[.slice a len cap] w fun e w'=>∃ v,e = .returned (.tuple #[v,.bool (copenF zs).isSome]) ∧ OwnB w' w.heap.size v ((copenF zs).getD []) ∧ Below w.heap.size w w':=by
 have hl0:=hz.1
 by_cases h4 : len < 4
 ·have HE : copenF zs = none:=by unfold copenF;rw [if_pos (by omega)]
  rw [HE]
  have hlt : decide ((len : Int) - 4 < 0) = true:=decide_eq_true (by omega)
  go_enter Tryz.func160,Tryz.ntmps160
  go_wp2
  exact bodyPost_ret (v:=.tuple #[.slice none 0 0,.bool false]) (by simp [results,Tryz.results160,go_sem]) rfl ⟨_,rfl,OwnB.nil _ _,Below.refl _ _⟩
 ·obtain ⟨n,hn⟩ : ∃ n,n = len - 4:=⟨_,rfl⟩
  have hnc : ¬ cap = n:=by omega
  have hw : IntKind.i64.wrap ((len : Int) - 4) = n:=by rw [IntKind.wrap_i64];omega
  have hw2 : wrap64 ((len : Int) - 4) = n:=by unfold wrap64;omega
  have hw3 : (len : Int) - 4 = n:=by omega
  have h1 : n ≤ len:=by omega
  have h2 : n ≤ cap:=by omega
  have h3 : (n : Int) ≤ 140737488355000:=by omega
  have e4 : len - n = 4:=by omega
  have hzl : ¬ zs.length < 4:=by omega
  obtain ⟨b,off,rfl⟩ : ∃ b off,a = some ⟨b,off,none⟩:=by
   rcases hz.2.2 with h | ⟨b,off,e,_⟩
   ·omega
   ·exact ⟨b,off,e⟩
  have HD:=Lib.hid (hz.drop (n:=n) h1)
  have HT:=Lib.hid (hz.take (n:=n) h1)
  have HE : Hid (copenF zs = if beNum 0 (zs.drop n) = crcSum (zs.take n) then some (zs.take n) else none):=Lib.hid (by unfold copenF;rw [if_neg hzl,hl0,← hn])
  have sm:=crsum_f (some ⟨b,off,none⟩) n cap (zs.take n)
  have hd8:=HD.out.u8
  obtain ⟨hdl,_,hd⟩:=HD.out
  rw [e4] at hdl
  have HCS : Hid (b < w.heap.size ∧ ∀ i,i < 4 → w.cell? ⟨b,off + n + i,none⟩ = some (.int .u8 ((zs.drop n).getD i 0))):=Lib.hid (by
   rcases hd with h | ⟨b',off',e,h1,h2⟩
   ·omega
   ·cases e
    exact ⟨h1,fun i hi=>h2 i (by omega)⟩)
  generalize zs.drop n = ds at *
  generalize zs.take n = ts at *
  generalize copenF zs = r at *
  have HDL:=Lib.hid hdl
  have HD8:=Lib.hid hd8
  have e5 : (len : Int) - (n : Int) = 4:=by omega
  clear hd hdl hd8 hl0 h4 hz hn HD hzl
  go_enter Tryz.func160,Tryz.ntmps160
  go_wp2_with fail
  go_loopw [5,17] (fun s i wr=>∃ k : Nat,k ≤ 4 ∧ i = .int .i64 k ∧ s = .int .u32 (beNum 0 (ds.take k)) ∧ w = wr) (fun _ i _=>4 - (intOf i).toNat)
  case atStart=>exact ⟨0,by omega,rfl,rfl,rfl⟩
  case round =>
   obtain ⟨k,hk,rfl,rfl,rfl⟩:=hrel
   by_cases hlt : k < 4
   ·have c0:=HCS.out.2 k hlt
    have hu8 : U8 (ds.getD k 0):=HD8.out _ (by rw [List.getD_eq_getElem?_getD,List.getElem?_eq_getElem (by rw [HDL.out];exact hlt)];simp)
    have hsu:=beNum_u32 (show U32 0 from ⟨by omega,by omega⟩) (ds.take k)
    have HSN : Hid (beNum 0 (ds.take (k + 1)) = bits .or .u32 (beNum 0 (ds.take k) * 256 % 4294967296) (ds.getD k 0)):=Lib.hid (by
     rw [← beNum_snoc];congr 1
     rw [List.take_add_one,List.getD_eq_getElem?_getD,List.getElem?_eq_getElem (show k < ds.length by rw [HDL.out];exact hlt)];rfl)
    have hlt' : (k : Int) < 4:=by omega
    generalize ds.getD k 0 = z at *
    generalize beNum 0 (ds.take k) = s at *
    obtain ⟨z0,z1⟩:=hu8
    obtain ⟨s0,s1⟩:=hsu
    go_wp2
    go_roundw
    case rel=>exact ⟨k + 1,by omega,by go_num,by rw [HSN.out],by first | rfl | trivial⟩
    case measure=>simp [intOf];omega
   ·obtain rfl : k = 4:=by omega
    have HT4 : Hid (ds.take 4 = ds):=Lib.hid (by rw [← HDL.out,List.take_length])
    rw [HT4.out]
    have smw:=sm w HT.out (by omega)
    obtain ⟨hsu0,hsu1⟩:=crcSum_u32 ts
    generalize crcSum ts = cs at *
    generalize beNum 0 ds = bn at *
    go_wp2_with fail
    refine smw.mono ?_;rintro e w1 ⟨rfl,hb1⟩
    have HB1:=Lib.hid hb1
    have hs1:=hb1.size
    clear hb1 smw sm
    by_cases hq : bn = cs
    ·have HR : Hid (r = some ts):=Lib.hid (by rw [HE.out,if_pos hq])
     subst hq
     have OE:=Lib.hid ((OwnB.empty w1).base hs1)
     have hz2:=Lib.hid ((HT.out.below HB1.out).below ((Below.refl _ _).alloc (Nat.le_refl _) (.cells #[] 5)))
     go_wp2_with (at_builtin;refine wpList_app_bytes _ rfl (.tmp 33) (.tmp 36) rfl w.heap.size _ [] rfl OE.out (some ⟨b,off,none⟩) n cap ts rfl hz2.out (by intro h;cases h) (by simp;omega) (by simp;omega) ?_)
     intro v2 w2 ho2 hg2
     have HB2 : Hid (Below w.heap.size w w2):=Lib.hid ((HB1.out.alloc hs1 _).grown hg2 (by simp;omega) (fun j e=>(OE.out.lt j e).1))
     have HO2:=Lib.hid ho2
     clear ho2 hg2 OE hz2
     go_wp2
     rw [HR.out]
     exact bodyPost_ret (v:=.tuple #[v2,.bool true]) (by simp [results,Tryz.results160,go_sem]) rfl ⟨v2,rfl,HO2.out,HB2.out⟩
    ·have HR : Hid (r = none):=Lib.hid (by rw [HE.out,if_neg hq])
     have hq2 : (bn != cs) = true:=by simpa using hq
     clear hq
     go_wp2
     rw [HR.out]
     exact bodyPost_ret (v:=.tuple #[.slice none 0 0,.bool false]) (by simp [results,Tryz.results160,go_sem]) rfl ⟨_,rfl,OwnB.nil _ _,HB1.out⟩
end Go.Proofs.YtklkooeimkedgaaGreat
