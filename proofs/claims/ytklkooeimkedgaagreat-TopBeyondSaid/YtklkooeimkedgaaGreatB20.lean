/- Walk of TopBeyond. -/
import Derived.Lib.VarintBits
import Derived.Lib.Zigzag
import Derived.Test.YtklkooeimkedgaaGreatB19
set_option linter.unusedVariables false
set_option linter.unusedSimpArgs false
namespace Go.Proofs.YtklkooeimkedgaaGreat
open Go.RowKit
set_option maxRecDepth 8000
def kZ (x : Int) : Nat:=(max 1 (Lib.bitLen x.toNat) + 6) / 7
theorem Xi (x : Int) (hx : gY x) (w : World) : Calls Tryz.prog 151 #[.int .u64 x] w λe w'=>e = .returned (.int .i64 (kZ x)) /\ w = w':=by
 obtain ⟨h0,h1⟩:=hx
 have lf:=LM x h0 (by omega) w
 have hb:=Lib.bitLen_le x.toNat 64 (by omega) (by omega)
 have HE : Hid (kZ x = (max 1 (Lib.bitLen x.toNat) + 6) / 7):=aiS rfl
 generalize kZ x = r at *
 generalize Lib.bitLen x.toNat = n at *
 go_enter Tryz.func151,Tryz.ntmps151
 go_wp2_with fail
 refine lf.mono ?_;rintro e w1 ⟨rfl,rfl⟩
 go_wp2
 go_ret
 refine ⟨aR ?_,rfl⟩
 rw [HE.out];omega
def kU (x : Int) : Int:=if 0 <= x then 2 * x else -2 * x - 1
def zC (u : Int) : Int:=if u % 2 = 0 then u / 2 else -(u / 2) - 1
theorem sV {x : Int} (h : ay x) : gY (kU x):=by unfold ay at h;unfold gY kU;split <;> omega
theorem TL {x : Int} (h : gY x) : ay (zC x):=by unfold gY at h;unfold ay zC;split <;> omega
theorem Xj (x : Int) : zC (kU x) = x:=by unfold zC kU;split <;> split <;> omega
theorem xor_comm (k : IntKind) (a b : Int) : bits .xor k a b = bits .xor k b a:=by simp [bits,BitVec.xor_comm]
theorem Np (a : Int) (h0 : 0 <= a) (h1 : a < 18446744073709551616) : bits .xor .u64 a 0 = a:=by
 obtain ⟨n,rfl⟩:=Int.eq_ofNat_of_zero_le h0
 rw [show (0 : Int) = ((0 : Nat) : Int) from rfl,bits_xor_u64_nat _ _ (by omega) (by omega),Nat.xor_zero]
theorem Ja (a : Nat) (h1 : a < 9223372036854775808) : bits .xor .i64 (a : Int) 0 = a:=by
 show IntKind.i64.wrap ((BitVec.ofInt 64 (a : Int) ^^^ BitVec.ofInt 64 0).toNat : Int) = _
 rw [BitVec.toNat_xor,BitVec.ofInt_natCast,BitVec.toNat_ofNat]
 simp
 rw [IntKind.wrap_i64]
 omega
theorem VY (x : Int) (hx : ay x) (w : World) : Calls Tryz.prog 109 #[.int .i64 x] w λe w'=>e = .returned (.int .u64 (kU x)) /\ w = w':=by
 obtain ⟨h0,h1⟩:=hx
 go_enter Tryz.func109,Tryz.ntmps109
 go_wp2
 go_ret
 refine ⟨aR ?_,rfl⟩
 unfold kU
 rcases Int.lt_or_le x 0 with hn | hn
 ·have e1 : IntKind.u64.wrap (x / 9223372036854775808) = IntKind.u64.max:=by
   rw [show x / 9223372036854775808 = -1 by omega];decide
  have e2 : IntKind.u64.wrap (wrap64 (x * 2)) = IntKind.u64.wrap (IntKind.u64.wrap x * 2):=by
   simp only [IntKind.wrap_u64];unfold wrap64;omega
  rw [e1,e2,xor_comm,Lib.zigzag_neg h0 hn,if_neg (by omega)]
  unfold Lib.zigzag
  rw [if_neg (by omega)];omega
 ·have e1 : IntKind.u64.wrap (x / 9223372036854775808) = 0:=by
   rw [show x / 9223372036854775808 = 0 by omega];decide
  rw [e1,if_pos hn,Np _ (by rw [IntKind.wrap_u64];omega) (by rw [IntKind.wrap_u64];omega),IntKind.wrap_u64]
  unfold wrap64;omega
theorem abF (x : Int) (hx : gY x) (w : World) : Calls Tryz.prog 210 #[.int .u64 x] w λe w'=>e = .returned (.int .i64 (zC x)) /\ w = w':=by
 obtain ⟨h0,h1⟩:=hx
 go_enter Tryz.func210,Tryz.ntmps210
 go_wp2
 go_ret
 refine ⟨aR ?_,rfl⟩
 unfold zC
 rw [Lib.u64_and1 x h0 (by omega)]
 obtain ⟨m,hm⟩:=Int.eq_ofNat_of_zero_le (show 0 <= x / 2 by omega)
 rw [hm]
 rcases (show x % 2 = 0 \/ x % 2 = 1 by omega) with hp | hp
 ·rw [hp,show wrap64 (-wrap64 0) = 0 by unfold wrap64;omega,if_pos rfl,Ja _ (by omega)]
 ·rw [hp,show wrap64 (-wrap64 1) = -1 by unfold wrap64;omega,if_neg (by decide),xor_comm,Lib.i64_not _ (by omega)]
set_option maxRecDepth 8000
def pX (x : Int) : Nat -> List Int
 | 0=>[]
 | k + 1=>pX x k ++ [x / 128 ^ k % 128 + 128]
theorem qZ (x : Int) : ∀ k,(pX x k).length = k
 | 0=>rfl
 | k + 1=>by rw [pX,List.length_append,qZ x k];rfl
theorem Pp (x : Int) : ∀ k,aV (pX x k)
 | 0=>aV.nil
 | k + 1=>by rw [pX];exact (Pp x k).app (aV.one (by unfold U8;omega))
def aF (x : Int) : List Int:=pX x (kZ x - 1) ++ [x / 128 ^ (kZ x - 1) % 128]
theorem TM (x : Int) : aV (aF x):=(Pp x _).app (aV.one (by unfold U8;omega))
theorem Av (x : Int) : 1 <= kZ x:=by unfold kZ;omega
theorem dJ {x : Int} (hx : gY x) : kZ x <= 10:=by
 unfold gY at hx
 have hb:=Lib.bitLen_le x.toNat 64 (by omega) (by omega)
 unfold kZ;omega
theorem d9 (x : Int) : (aF x).length = kZ x:=by
 have:=Av x
 unfold aF;rw [List.length_append,qZ];simp;omega
theorem TN {w : World} {base g n : Nat} {e : TypeId} {xs : List Value} (h : w.ownsRow base e 1 (.slice (some ⟨g,0,none⟩) n n) n xs) : base <= g /\ ak w g xs.toArray e:=by
 obtain ⟨h1,⟨h,_⟩ | ⟨g',cap,cur,hv,hb,hh,_,_,hs,ht⟩⟩:=h
 ·cases h
 ·cases hv
  refine ⟨hb,?_⟩
  rw [List.take_of_length_le (by simp [hs])] at ht
  subst ht
  simpa [ak] using hh
theorem aY.Nq {w : World} {base g : Nat} {zs : List Int} (hb : base <= g) (h : ak w g (zs.map (Value.int .u8)).toArray 5) (hl : zs.length <= maxLen) (h8 : aV zs) : aY w base (.slice (some ⟨g,0,none⟩) zs.length zs.length) zs :=
 ⟨⟨by simp,.inr ⟨g,zs.length,_,rfl,hb,h,Nat.le_refl _,hl,by simp,by simp [List.take_of_length_le]⟩⟩,h8⟩
theorem Nr (k : Nat) : (2 : Int) ^ (7 * k) = 128 ^ k:=by rw [Int.pow_mul];rfl
theorem VZ (y : Int) : bits .or .u8 (y % 256) 128 = y % 128 + 128:=by
 rw [Lib.u8_or128_any _ (by omega) (by omega)];omega
theorem Ns : ∀ n : Fin 256,bits .andNot .u8 (n.val : Int) 128 = (n.val : Int) % 128:=by decide +kernel
theorem Jb {y : Int} (h : U8 y) : bits .andNot .u8 y 128 = y % 128:=by
 obtain ⟨h0,h1⟩:=h
 obtain ⟨n,rfl⟩:=Int.eq_ofNat_of_zero_le h0
 exact Ns ⟨n,by omega⟩
theorem Xk (n : Nat) : (madeCells #[Value.int .u8 0] n).toList = (List.replicate n (0 : Int)).map (Value.int .u8):=by
 apply List.ext_getElem
 ·simp [madeCells]
 ·intro i h1 h2
  simp [madeCells,Nat.mod_one]
theorem set_mid {α : Type} (A B : List α) (z v : α) {k : Nat} (h : A.length = k) : ((A ++ z :: B).toArray.setIfInBounds k v) = (A ++ v :: B).toArray:=by
 subst h
 simp
set_option maxHeartbeats 1000000 in
theorem nH (x : Int) (hx : gY x) (w : World) : Calls Tryz.prog 110 #[.int .u64 x] w λe w'=>∃ v,e = .returned v /\ aY w' w.heap.size v (aF x) /\ Below w.heap.size w w':=by
 have sm:=Xi x hx w;have hs1:=Av x;have hs2:=dJ hx;have h8:=TM x
 have HE : Hid (aF x = pX x (kZ x - 1) ++ [x / 128 ^ (kZ x - 1) % 128]):=aiS rfl
 obtain ⟨x0,x1⟩:=hx
 generalize aF x = r at *
 generalize kZ x = s at *
 obtain ⟨i0,hi,hz0,hz1,hz2⟩:=info_parts Pm
 go_enter Tryz.func110,Tryz.ntmps110
 go_wp2_with fail
 refine sm.mono ?_;rintro e w1 ⟨rfl,rfl⟩
 clear sm
 go_wp2_with (at_make;refine wpList_make_full _ rfl (.tmp 6) (.tmp 6) _ rfl w.heap.size _ i0 (.int .u8 0) 1 Tryz.underlying42 hi hz0 hz1 .i64 .i64 (s : Int) (s : Int) s rfl rfl rfl rfl (by rw [hz2];omega) (by unfold maxLen;omega) (Nat.le_refl _) ?_)
 intro w1 ho1 hg1
 obtain ⟨_,hB0⟩:=TN ho1
 have HB0:=aiS hB0
 have Dk : Hid (Below w.heap.size w w1):=aiS (aiU.grown hg1 (Nat.le_refl _) (λj e=>by cases e))
 clear ho1 hg1 hB0
 go_wp2_with fail
 go_loopw [10] (λi wr=>∃ k : Nat,k <= s /\ i = .int .i64 k /\ ak wr w.heap.size ((pX x k ++ List.replicate (s - k) 0).map (Value.int .u8)).toArray 5 /\ Below w.heap.size w wr) (λi _=>s - (intOf i).toNat)
 case atStart=>exact ⟨0,Nat.zero_le _,rfl,by have:=HB0.out;rw [Xk] at this;simpa [pX] using this,Dk.out⟩
 case round =>
  rename_i wr
  obtain ⟨k,hk,rfl,hS,hB⟩:=hrel
  by_cases hlt : k < s
  ·have hlt' : (k : Int) < s:=by omega
   obtain ⟨m,hm⟩ : ∃ m,s - k = m + 1:=⟨s - k - 1,by omega⟩
   have hm2 : s - (k + 1) = m:=by omega
   rw [hm,List.replicate_succ,List.map_append,List.map_cons] at hS
   have c0:=hS.cell k;have f0:=hS.free k
   rw [List.getElem?_toArray,List.getElem?_append_right (by simp [qZ])] at c0
   simp [qZ] at c0
   have hS2:=hS.set k (.int .u8 (bits .or .u8 (x / 2 ^ (7 * k) % 256) 128))
   rw [VZ,Nr,set_mid _ _ _ _ (by simp [qZ])] at hS2
   have HS2:=aiS hS2;have HB2:=aiS (hB.setCell (p:=⟨w.heap.size,k,none⟩) (Nat.le_refl _) (.int .u8 (bits .or .u8 (x / 2 ^ (7 * k) % 256) 128)))
   have HQ : Hid (bits .or .u8 (x / 2 ^ (7 * k) % 256) 128 = x / 128 ^ k % 128 + 128):=aiS (by rw [VZ,Nr])
   clear hS hB hS2
   go_wp2
   go_roundw
   case rel =>
    refine ⟨k + 1,by omega,by go_num,?_,HB2.out⟩
    rw [hm2,pX,List.append_assoc,HQ.out]
    simpa using HS2.out
   case measure=>simp [intOf];omega
  ·obtain rfl : k = s:=by omega
   obtain ⟨m,rfl⟩ : ∃ m,k = m + 1:=⟨k - 1,by omega⟩
   rw [Nat.sub_self] at hS
   have c0:=hS.cell m;have f0:=hS.free m
   have hu : U8 (x / 128 ^ m % 128 + 128):=by unfold U8;omega
   simp [pX,qZ] at c0
   obtain ⟨z,hz⟩ : ∃ z,x / 128 ^ m % 128 + 128 = z:=⟨_,rfl⟩
   have hS2:=hS.set m (.int .u8 (bits .andNot .u8 (x / 128 ^ m % 128 + 128) 128))
   rw [Jb hu] at hS2
   have HR : Hid (r = pX x m ++ [x / 128 ^ m % 128]):=aiS (by rw [HE.out,Nat.add_sub_cancel])
   have HS2 : Hid (ak (wr.setCell ⟨w.heap.size,m,none⟩ (.int .u8 (bits .andNot .u8 z 128))) w.heap.size (r.map (Value.int .u8)).toArray 5):=aiS (by
    rw [← hz,Jb hu,HR.out]
    have e : ((pX x (m + 1) ++ List.replicate 0 0).map (Value.int .u8)).toArray.setIfInBounds m (.int .u8 ((x / 128 ^ m % 128 + 128) % 128)) = ((pX x m ++ [x / 128 ^ m % 128]).map (Value.int .u8)).toArray:=by
     rw [List.replicate_zero,List.append_nil,pX,List.map_append,List.map_append,List.map_cons,List.map_cons,set_mid _ _ _ _ (by simp [qZ]),show (x / 128 ^ m % 128 + 128) % 128 = x / 128 ^ m % 128 by omega]
    rw [e] at hS2
    exact hS2)
   have HB2:=aiS (hB.setCell (p:=⟨w.heap.size,m,none⟩) (Nat.le_refl _) (.int .u8 (bits .andNot .u8 z 128)))
   have HL : Hid (r.length = m + 1):=aiS (by rw [HR.out,List.length_append,qZ];rfl)
   rw [hz] at c0
   have hw : ((m + 1 : Nat) : Int) - 1 = m:=by omega
   clear hS hB hS2 hu HB0 Dk HE HR
   generalize x / 128 ^ m % 128 = q at *
   go_wp2
   go_ret
   have hof:=aY.Nq (Nat.le_refl _) HS2.out (by rw [HL.out];unfold maxLen;omega) h8
   rw [HL.out] at hof
   exact ⟨_,rfl,hof,HB2.out⟩
set_option maxRecDepth 8000
def gV : Nat -> Int -> List Int -> Int × Nat × Int
 | i,x,[]=>if 10 <= i then (0,0,8) else (0,0,6)
 | i,x,c :: r =>
   if 10 <= i then (0,0,8) else
   if (c % 128 * 128 ^ i % 18446744073709551616 / 128 ^ i ≠ c % 128) /\ c < 128 then (0,0,8) else
   if 128 <= c then gV (i + 1) (x + c % 128 * 128 ^ i % 18446744073709551616) r else
   if c = 0 /\ 0 < i then (0,0,7) else (x + c % 128 * 128 ^ i % 18446744073709551616,i + 1,0)
def gW (zs : List Int) : Int × Nat × Int:=if zs = [] then (0,0,5) else gV 0 0 zs
theorem LW (k : Nat) (q : Int) {p : Int} (hk : k < 10) (hq : 0 <= q) (hp : q * 128 ^ k % 18446744073709551616 = p) : 0 <= p /\ p < 18446744073709551616 /\ p % 128 ^ k = 0:=by
 refine ⟨by omega,by omega,?_⟩
 subst hp
 have hd : (128 : Int) ^ k ∣ 18446744073709551616:=by
  have : ∀ j : Fin 10,(18446744073709551616 : Int) % 128 ^ j.val = 0:=by decide +kernel
  exact Int.dvd_of_emod_eq_zero (this ⟨k,hk⟩)
 rw [Int.emod_emod_of_dvd _ hd,Int.mul_emod_left]
theorem wX {k : Nat} (hk : k < 10) : (128 : Int) ^ k <= 9223372036854775808 /\ 0 < (128 : Int) ^ k:=by
 have : ∀ j : Fin 10,(128 : Int) ^ j.val <= 9223372036854775808 /\ 0 < (128 : Int) ^ j.val:=by decide +kernel
 exact this ⟨k,hk⟩
theorem Gy (k : Nat) (q : Int) {p y : Int} (hk : k + 1 <= 9) (hq : 0 <= q /\ q < 128) (hp : q * 128 ^ k % 18446744073709551616 = p) (hy : y < 128 ^ k) : y + p < 128 ^ (k + 1):=by
 have h1:=wX (k:=k + 1) (by omega)
 have h2:=wX (k:=k) (by omega)
 have h3 : q * 128 ^ k <= 127 * 128 ^ k:=Int.mul_le_mul_of_nonneg_right (by omega) (by omega)
 have h4 : 0 <= q * 128 ^ k:=Int.mul_nonneg hq.1 (by omega)
 rw [Int.pow_succ] at h1 ⊢
 generalize q * 128 ^ k = z at *
 generalize (128 : Int) ^ k = M at *
 omega
theorem LX (k : Nat) (y p : Int) (hk : k < 10) (hy : gY y) (hl : y < 128 ^ k) (h0 : 0 <= p) (h1 : p < 18446744073709551616) (hm : p % 128 ^ k = 0) : bits .or .u64 y p = y + p:=by
 obtain ⟨y0,y1⟩:=hy
 have h7:=Nr k
 refine bits_join_low .u64 64 (by decide) wraps_u64 (7 * k) y p y0 (by rw [h7];exact hl) (by omega) h0 (by rw [h7];exact hm) (by omega)
theorem Jc (k : Nat) (y p : Int) (hk : k < 10) (hy : gY y) (hl : y < 128 ^ k) (h0 : 0 <= p) (h1 : p < 18446744073709551616) (hm : p % 128 ^ k = 0) : gY (y + p):=by
 rw [← LX k y p hk hy hl h0 h1 hm]
 have:=bounds_u64 (wf_bits .or .u64 y p)
 exact this
set_option maxHeartbeats 1000000 in
theorem YG (a : Option Addr) (len cap : Nat) (zs : List Int) (w : World) (hz : BytesAt w a len zs) (hl : (len : Int) <= 140737488355000) :
 Calls Tryz.prog 207 #[.slice a len cap] w λe w'=>e = .returned (.tuple #[.int .u64 (gW zs).1,.int .i64 (gW zs).2.1,.int .i64 (gW zs).2.2]) /\ w = w':=by
 have h8:=hz.u8
 obtain ⟨hl0,_,hz⟩:=hz
 rcases hz with hz0 | ⟨b,off,rfl,hb,hcs⟩
 ·subst hz0
  obtain rfl : zs = []:=List.eq_nil_of_length_eq_zero hl0
  go_enter Tryz.func207,Tryz.ntmps207
  go_wp2
  exact bodyPost_ret (v:=.tuple #[.int .u64 0,.int .i64 0,.int .i64 5]) (by simp [results,Tryz.results207,go_sem]) rfl ⟨rfl,rfl⟩
 ·by_cases hn : len = 0
  ·subst hn
   obtain rfl : zs = []:=List.eq_nil_of_length_eq_zero hl0
   go_enter Tryz.func207,Tryz.ntmps207
   go_wp2
   exact bodyPost_ret (v:=.tuple #[.int .u64 0,.int .i64 0,.int .i64 5]) (by simp [results,Tryz.results207,go_sem]) rfl ⟨rfl,rfl⟩
  ·have hnz : ((len : Int) == 0) = false:=by simp;omega
   have HE : Hid (gW zs = gV 0 0 zs):=aiS (by unfold gW;rw [if_neg];intro h;rw [h] at hl0;simp at hl0;omega)
   generalize gW zs = r at *
   have HC:=aiS hcs
   obtain ⟨n,hn2⟩ : ∃ n,min len 10 = n:=⟨_,rfl⟩
   have hmin : min (len : Int) 10 = n:=by omega
   go_enter Tryz.func207,Tryz.ntmps207
   go_wp2_with fail
   go_loopw [5,15] (λx i wr=>∃ (k : Nat) (y : Int),k <= len /\ k <= 10 /\ i = .int .i64 k /\ x = .int .u64 y /\ gY y /\ (k <= 9 -> y < 128 ^ k) /\ r = gV k y (zs.drop k) /\ w = wr) (λ_ i _=>len - (intOf i).toNat)
   case atStart=>exact ⟨0,0,by omega,by omega,rfl,rfl,⟨by omega,by omega⟩,λ_=>by decide,HE.out,rfl⟩
   case round =>
    obtain ⟨k,y,hk,hk10,rfl,rfl,hy,hyk,hr,rfl⟩:=hrel
    by_cases hlt : k < len
    ·by_cases Nt : k < 10
     ·have c0:=HC.out k hlt
      have hmem : zs.getD k 0 ∈ zs:=by rw [List.getD_eq_getElem?_getD,List.getElem?_eq_getElem (by omega)];simp
      have hc8:=h8 _ hmem
      have hdr : zs.drop k = zs.getD k 0 :: zs.drop (k + 1):=by
       rw [List.getD_eq_getElem?_getD,List.getElem?_eq_getElem (by omega),Option.getD_some]
       exact List.drop_eq_getElem_cons (by omega)
      rw [hdr,gV,if_neg (by omega)] at hr
      generalize zs.getD k 0 = c at *
      have hq:=Jb hc8;have hp7:=Nr k
      obtain ⟨q,hqe⟩ : ∃ q,c % 128 = q:=⟨_,rfl⟩
      obtain ⟨p,hpe⟩ : ∃ p,q * 128 ^ k % 18446744073709551616 = p:=⟨_,rfl⟩
      obtain ⟨d,hde⟩ : ∃ d,p / 128 ^ k = d:=⟨_,rfl⟩
      obtain ⟨c0',c1'⟩:=hc8
      have hq0 : 0 <= q /\ q < 128:=by omega
      obtain ⟨hp0,hp1,hpm⟩:=LW k q Nt hq0.1 hpe
      have hlow:=hyk (by omega)
      have hor : bits .or .u64 y p = y + p:=LX k y p Nt hy hlow hp0 hp1 hpm
      have hyp:=Jc k y p Nt hy hlow hp0 hp1 hpm
      have YH : k + 1 <= 9 -> y + p < 128 ^ (k + 1):=λh=>Gy k q h hq0 hpe hlow
      rw [hqe,hpe,hde] at hr
      rw [hqe] at hq
      have hw1 : IntKind.u64.wrap q = q:=wraps_u64 q (by omega) (by omega)
      have hw2 : IntKind.u64.wrap (q * 128 ^ k) = p:=by rw [IntKind.wrap_u64];exact hpe
      have hkn : (k : Int) < n:=by omega
      have HR:=aiS hr;have HY:=aiS hyp;have Jd:=aiS YH;have hqc:=aiS hqe;clear hcs hr hpe hlow hyk hpm HC h8 hmem hdr HE YH hqe hyp
      obtain ⟨next,hnx⟩ : ∃ n,gV (k + 1) (y + p) (zs.drop (k + 1)) = n:=⟨_,rfl⟩
      rw [hnx] at HR
      have HN:=aiS hnx.symm;clear hnx
      by_cases hge : 128 <= c
      ·have HR' : Hid (r = next):=aiS (by rw [HR.out,if_neg (by omega),if_pos hge])
       go_wp2
       all_goals
        go_roundw
        case rel=>exact ⟨k + 1,y + p,by omega,by omega,by go_num,rfl,HY.out,Jd.out,by rw [HR'.out];exact HN.out,by first | rfl | trivial⟩
        case measure=>simp [intOf];omega
      ·have hge' : c < 128:=by omega
       by_cases hd : d = q
       ·subst hd
        by_cases hc0 : c = 0
        ·subst hc0
         by_cases hk0 : k = 0
         ·have hk1 : ¬ (0 : Int) < k:=by omega
          have HR' : Hid (r = (y + p,k + 1,0)):=by
           have HR':=HR.out
           rw [if_neg (by simp),if_neg (by omega),if_neg (by omega)] at HR'
           exact aiS HR'
          have HK:=aiS hk0;clear hk0 HR
          go_wp2
          all_goals first
          | (exfalso;have:=HK.out;rename_i h _;simp at h;omega)
          | exact bodyPost_ret (v:=.tuple #[.int .u64 (y + p),.int .i64 ((k : Int) + 1),.int .i64 0]) (by simp [results,Tryz.results207,go_sem]) rfl ⟨by rw [HR'.out];rfl,rfl⟩
          | trace_state
         ·have hk1 : (0 : Int) < k:=by omega
          have HR':=HR.out
          rw [if_neg (by simp),if_neg (by omega),if_pos ⟨rfl,by omega⟩] at HR'
          go_wp2
          exact bodyPost_ret (v:=.tuple #[.int .u64 0,.int .i64 0,.int .i64 7]) (by simp [results,Tryz.results207,go_sem]) rfl ⟨by first | rfl | (rw [HR'];rfl),rfl⟩
        ·have HR':=HR.out
         rw [if_neg (by simp),if_neg (by omega),if_neg (by simp [hc0])] at HR'
         go_wp2
         exact bodyPost_ret (v:=.tuple #[.int .u64 (y + p),.int .i64 ((k : Int) + 1),.int .i64 0]) (by simp [results,Tryz.results207,go_sem]) rfl ⟨by first | rfl | (rw [HR'];rfl),rfl⟩
       ·have HR':=HR.out
        rw [if_pos ⟨hd,hge'⟩] at HR'
        go_wp2
        exact bodyPost_ret (v:=.tuple #[.int .u64 0,.int .i64 0,.int .i64 8]) (by simp [results,Tryz.results207,go_sem]) rfl ⟨by first | rfl | (rw [HR'];rfl),rfl⟩
     ·obtain rfl : k = 10:=by omega
      obtain rfl : n = 10:=by omega
      have hge : (10 : Int) <= len:=by omega
      have HR' : r = (0,0,8):=by
       rw [hr]
       cases h : zs.drop 10 with
       | nil=>rfl
       | cons=>rw [gV,if_pos (by omega)]
      clear hr hyk HC hcs
      go_wp2
      exact bodyPost_ret (v:=.tuple #[.int .u64 0,.int .i64 0,.int .i64 8]) (by simp [results,Tryz.results207,go_sem]) rfl ⟨by first | rfl | (rw [HR'];rfl),rfl⟩
    ·obtain rfl : k = len:=by omega
     have hkn : decide ((k : Int) < n) = false:=decide_eq_false (by omega)
     rw [List.drop_eq_nil_of_le (by omega),gV] at hr
     have HR:=aiS hr;clear hr hyk HC hcs
     by_cases hge : 10 <= k
     ·have HR':=HR.out
      rw [if_pos hge] at HR'
      have hge' : (10 : Int) <= k:=by omega
      go_wp2
      exact bodyPost_ret (v:=.tuple #[.int .u64 0,.int .i64 0,.int .i64 8]) (by simp [results,Tryz.results207,go_sem]) rfl ⟨by first | rfl | (rw [HR'];rfl),rfl⟩
     ·have HR':=HR.out
      rw [if_neg hge] at HR'
      have hge' : (k : Int) < 10:=by omega
      go_wp2
      exact bodyPost_ret (v:=.tuple #[.int .u64 0,.int .i64 0,.int .i64 6]) (by simp [results,Tryz.results207,go_sem]) rfl ⟨by first | rfl | (rw [HR'];rfl),rfl⟩
theorem Pq (x : Int) (m : Int) : x / (128 * m) = x / 128 / m:=by rw [Int.ediv_ediv];simp
theorem Je (x : Int) : ∀ k,pX x (k + 1) = (x % 128 + 128) :: pX (x / 128) k
 | 0=>by simp [pX]
 | k + 1=>by
   rw [pX,Je x k,pX,List.cons_append]
   congr 3
   rw [Int.pow_succ,Int.mul_comm,Pq]
theorem Gz : ∀ (k i : Nat) (x y : Int) (rest : List Int),i + k <= 9 -> 0 <= x -> x < 128 ^ (k + 1) -> x * 128 ^ i < 18446744073709551616 -> (k = 0 /\ i = 0 \/ x / 128 ^ k ≠ 0) ->
 gV i y (pX x k ++ (x / 128 ^ k % 128) :: rest) = (y + x * 128 ^ i,i + k + 1,0)
 | 0,i,x,y,rest,hik,hx,hl,hb,hz=>by
   have hM:=(wX (k:=i) (by omega)).2
   have h0 : 0 <= x * 128 ^ i:=Int.mul_nonneg hx (by omega)
   rw [pX,List.nil_append,Int.pow_zero,Int.ediv_one,gV,if_neg (by omega)]
   rw [Int.pow_succ,Int.pow_zero] at hl
   rw [Int.pow_zero,Int.ediv_one] at hz
   have e : x % 128 = x:=by omega
   rw [e,e,Int.emod_eq_of_lt h0 hb,Int.mul_ediv_cancel _ (by omega),if_neg (by simp),if_neg (by omega),if_neg (by omega)]
   try simp
 | k + 1,i,x,y,rest,hik,hx,hl,hb,hz=>by
   have hM:=(wX (k:=i) (by omega)).2
   have hM2 : (128 : Int) ^ (i + 1) = 128 ^ i * 128:=Int.pow_succ _ _
   have hK : (128 : Int) ^ (k + 1) = 128 * 128 ^ k:=by rw [Int.pow_succ,Int.mul_comm]
   have hK2 : (128 : Int) ^ (k + 1 + 1) = 128 * 128 ^ (k + 1):=by rw [Int.pow_succ,Int.mul_comm]
   have h0 : 0 <= x % 128 * 128 ^ i:=Int.mul_nonneg (by omega) (by omega)
   have hs : x * 128 ^ i = x % 128 * 128 ^ i + x / 128 * (128 ^ i * 128):=by
    have e : x = x % 128 + x / 128 * 128:=by omega
    calc x * 128 ^ i = (x % 128 + x / 128 * 128) * 128 ^ i:=by rw [← e]
     _ = _:=by rw [Int.add_mul,Int.mul_assoc,Int.mul_comm 128 (128 ^ i)]
   have h1 : 0 <= x / 128 * (128 ^ i * 128):=Int.mul_nonneg (by omega) (by omega)
   have e : (x % 128 + 128) % 128 = x % 128:=by omega
   have hq : x / 128 / 128 ^ k = x / 128 ^ (k + 1):=by rw [hK,Pq]
   rw [Je,List.cons_append,gV,if_neg (by omega),e,Int.emod_eq_of_lt h0 (by omega),Int.mul_ediv_cancel _ (by omega),if_neg (by simp),if_pos (by omega),← hq,
    Gz k (i + 1) (x / 128) _ rest (by omega) (by omega) (by rw [hK2] at hl;omega) (by rw [hM2];omega) (.inr (by rw [hq];exact hz.resolve_left (by omega))),hM2,hs]
   refine Prod.ext ?_ (Prod.ext ?_ rfl)
   ·show y + _ + _ = y + _;omega
   ·show i + 1 + k + 1 = i + (k + 1) + 1;omega
theorem Pt {x : Nat} (h : x < 2 ^ 64) : x < 2 ^ Lib.bitLen x:=by
 rcases Nat.lt_or_ge x (2 ^ Lib.bitLen x) with h' | h'
 ·exact h'
 ·exfalso
  have e:=Lib.bitLen_shift _ _ h' h
  have hp : 0 < 2 ^ Lib.bitLen x:=Nat.pow_pos (by decide)
  have hz : x / 2 ^ Lib.bitLen x ≠ 0:=by
   intro hz
   rcases Nat.div_eq_zero_iff.1 hz with h | h <;> omega
  have:=Lib.bitLen_half (x / 2 ^ Lib.bitLen x) hz (Nat.lt_of_le_of_lt (Nat.div_le_self _ _) h)
  omega
theorem Pv {x : Int} (hx : gY x) (rest : List Int) : gW (aF x ++ rest) = (x,kZ x,0):=by
 obtain ⟨h0,h1⟩:=hx
 obtain ⟨n,rfl⟩:=Int.eq_ofNat_of_zero_le h0
 have hlt:=Pt (x:=n) (by omega)
 have hs:=Av (n : Int);have hs2:=dJ (x:=(n : Int)) ⟨h0,h1⟩
 have hv : kZ (n : Int) = (max 1 (Lib.bitLen n) + 6) / 7:=rfl
 have hle:=λk=>Lib.bitLen_le n k
 unfold gW
 rw [if_neg (by unfold aF;simp)]
 obtain ⟨s,hse⟩ : ∃ s,kZ (n : Int) = s + 1:=⟨kZ (n : Int) - 1,by omega⟩
 have e:=Gz s 0 (n : Int) 0 rest (by omega) h0 (by
  have : n < 128 ^ (s + 1):=by
   refine Nat.lt_of_lt_of_le hlt ?_
   rw [show (128 : Nat) = 2 ^ 7 from rfl,← Nat.pow_mul]
   exact Nat.pow_le_pow_right (by decide) (by omega)
  exact_mod_cast this) (by simpa using (by omega : (n : Int) < 18446744073709551616)) (by
  by_cases hz : s = 0
  ·exact .inl ⟨hz,rfl⟩
  ·refine .inr ?_
   have hge : 128 ^ s <= n:=by
    rcases Nat.lt_or_ge n (128 ^ s) with h | h
    ·rw [show (128 : Nat) = 2 ^ 7 from rfl,← Nat.pow_mul] at h
     have:=hle (7 * s) (by omega) h
     omega
    ·exact h
   have hp : 0 < 128 ^ s:=Nat.pow_pos (by decide)
   have : n / 128 ^ s ≠ 0:=by
    intro hz
    rcases Nat.div_eq_zero_iff.1 hz with h | h <;> omega
   exact_mod_cast this)
 unfold aF
 rw [hse,Nat.add_sub_cancel,List.append_assoc,List.singleton_append,e]
 simp
end Go.Proofs.YtklkooeimkedgaaGreat
