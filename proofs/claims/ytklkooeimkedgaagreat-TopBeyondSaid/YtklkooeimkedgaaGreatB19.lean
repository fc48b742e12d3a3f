/- Walk of TopBeyond. -/
import Derived.LoopTactic
import Derived.Test.YtklkooeimkedgaaGreatB18
set_option linter.unusedVariables false
set_option linter.unusedSimpArgs false
namespace Go.Proofs.YtklkooeimkedgaaGreat
open Go.RowKit
set_option maxRecDepth 8000
def Ey (t : Int) : Int:=bits .xor .u32 (t / 2) (bits .and .u32 3988292384 (-bits .and .u32 t 1 % 4294967296))
def nK : Nat -> Int -> Int
 | 0,t=>t
 | n + 1,t=>Ey (nK n t)
def nL (s c : Int) : Int:=nK 8 (bits .xor .u32 s c)
theorem vK (op : BinOp) (x y : Int) : uj (bits op .u32 x y):=bounds_u32 (wf_bits op .u32 x y)
theorem Dj {t : Int} (h : uj t) : ∀ n,uj (nK n t)
 | 0=>h
 | n + 1=>by show uj (Ey (nK n t));unfold Ey;exact vK _ _ _
theorem Ld (s c : Int) : uj (nL s c):=Dj (vK _ _ _) 8
theorem Xe (s c : Int) (hs : uj s) (hc : U8 c) (w : World) :
 Calls Tryz.prog 159 #[.int .u32 s,.int .u8 c] w λe w'=>e = .returned (.int .u32 (nL s c)) /\ w = w':=by
 obtain ⟨s0,s1⟩:=hs
 obtain ⟨c0,c1⟩:=hc
 obtain ⟨x,hx⟩ : ∃ x,bits .xor .u32 s c = x:=⟨_,rfl⟩
 have hxu : uj x:=by rw [← hx];exact vK _ _ _
 have HE : Hid (nL s c = nK 8 x):=aiS (by unfold nL;rw [hx])
 generalize nL s c = r at *
 go_enter Tryz.func159,Tryz.ntmps159
 go_wp2_with fail
 go_loopw [0,9] (λt i wr=>∃ k : Nat,k <= 8 /\ i = .int .i64 k /\ t = .int .u32 (nK k x) /\ w = wr) (λ_ i _=>8 - (intOf i).toNat)
 case atStart=>exact ⟨0,by omega,rfl,rfl,rfl⟩
 case round =>
  obtain ⟨k,hk,rfl,rfl,rfl⟩:=hrel
  obtain ⟨t0,t1⟩:=Dj hxu k
  have HS : Hid (nK (k + 1) x = Ey (nK k x)):=aiS rfl
  by_cases hlt : k < 8
  ·have hlt' : (k : Int) < 8:=by omega
   generalize nK k x = t at *
   go_wp2
   go_roundw
   case rel=>exact ⟨k + 1,by omega,by go_num,by rw [HS.out];rfl,by first | rfl | trivial⟩
   case measure=>simp [intOf];omega
  ·obtain rfl : k = 8:=by omega
   generalize nK 8 x = t at *
   go_wp2
   go_ret
   exact ⟨aR HE.out.symm,rfl⟩
def kG (s : Int) : List Int -> Int
 | []=>s
 | c :: r=>kG (nL s c) r
theorem Au (s : Int) : ∀ (l : List Int) (c : Int),kG s (l ++ [c]) = nL (kG s l) c
 | [],c=>rfl
 | a :: l,c=>by rw [List.cons_append,kG,Au];rfl
theorem yu {s : Int} (h : uj s) : ∀ l,uj (kG s l)
 | []=>h
 | c :: l=>yu (Ld s c) l
def mD (x : Int) : Int:=bits .xor .u32 IntKind.u32.max x
def jk (zs : List Int) : Int:=mD (kG (mD 0) zs)
theorem zA (x : Int) : uj (mD x):=vK _ _ _
theorem zB (zs : List Int) : uj (jk zs):=zA _
theorem Pn (b : Nat) (s c : Int) (hs : uj s) (hc : U8 c) (w : World) (h : ak w b #[.int .u32 s] 154) :
 Calls Tryz.prog 158 #[.int .u8 c,.pointer (some ⟨b,0,none⟩)] w λe w'=>e = .returned (.tuple #[]) /\ ak w' b #[.int .u32 (nL s c)] 154 /\ Only (· = b) w w':=by
 have st:=Xe s c hs hc w;have q0:=h.cell 0;have f0:=h.free 0;simp at q0
 generalize nL s c = r at *
 go_enter Tryz.func158,Tryz.ntmps158
 go_wp2_with fail
 refine st.mono ?_;rintro e w' ⟨rfl,rfl⟩
 go_wp2
 exact bodyPost_end (v:=.tuple #[]) (by simp [results,Tryz.results158,go_sem]) rfl ⟨rfl,by simpa using h.set 0 (.int .u32 r),(Only.refl (· = b) w).setCell (.inl rfl) _⟩
theorem Xf (a : Option Addr) (len cap : Nat) (zs : List Int) (w : World) (hz : BytesAt w a len zs) (hl : (len : Int) <= 4611686018427387904) :
 Calls Tryz.prog 113 #[.int .u32 0,.slice a len cap] w λe w'=>e = .returned (.int .u32 (jk zs)) /\ Below w.heap.size w w':=by
 have HE : Hid (jk zs = mD (kG (mD 0) zs)):=aiS rfl
 have h8:=hz.u8
 obtain ⟨hl0,_,hz⟩:=hz
 have CO:=aiS (λs c hs hc w h=>Pn w.heap.size s c hs hc w h)
 generalize jk zs = r at *
 rcases hz with hz0 | ⟨b,off,rfl,hb,hcs⟩
 all_goals
  go_enter Tryz.func113,Tryz.ntmps113
  go_wp2_with fail
  go_loopw [14] (λi wr=>∃ k : Nat,k <= len /\ i = .int .i64 k /\ ak wr w.heap.size #[.int .u32 (kG (mD 0) (zs.take k))] 154 /\ Below w.heap.size w wr) (λi _=>len - (intOf i).toNat)
  case atStart=>exact ⟨0,Nat.zero_le _,rfl,ak.new w #[.int .u32 (mD 0)] 154,aiT⟩
  case round =>
   rename_i wr
   obtain ⟨k,hk,rfl,hS,hB⟩:=hrel
   have hsz:=hB.size
   by_cases hlt : k < len
   ·first
    | (exfalso;omega)
    | (have c0:=(hB.cell (p:=⟨b,off + k,none⟩) hb).trans (hcs k hlt)
       have YC : U8 (zs.getD k 0):=h8 _ (by rw [List.getD_eq_getElem?_getD,List.getElem?_eq_getElem (by omega)];simp)
       have hsu:=yu (zA 0) (zs.take k)
       have Gw : Hid (kG (mD 0) (zs.take (k + 1)) = nL (kG (mD 0) (zs.take k)) (zs.getD k 0)):=aiS (by
        rw [← Au];congr 1
        rw [List.take_add_one,List.getD_eq_getElem?_getD,List.getElem?_eq_getElem (show k < zs.length by omega)];rfl)
       have HC:=aiS hcs
       have hlt' : (k : Int) < len:=by omega
       clear hcs
       generalize zs.getD k 0 = z at *
       generalize kG (mD 0) (zs.take k) = s at *
       have co:=Pn w.heap.size s z hsu YC wr hS;have q0:=hS.cell 0;simp at q0;have HB:=aiS hB;clear hB hS
       go_wp2_with fail
       refine co.mono ?_;rintro e w2 ⟨rfl,hS2,hO2⟩
       have HS2:=aiS hS2
       have HB2 : Hid (Below w.heap.size w w2):=aiS (HB.out.trans (hO2.below hsz (by rintro i rfl;exact Nat.le_refl _)))
       clear co hS2 hO2 c0 q0
       go_wp2
       go_roundw
       case rel=>exact ⟨k + 1,by omega,by go_num,by rw [Gw.out];exact HS2.out,HB2.out⟩
       case measure=>simp [intOf];omega)
   ·obtain rfl : k = len:=by omega
    have q0:=hS.cell 0;simp at q0
    have HF : Hid (r = mD (kG (mD 0) (zs.take k))):=aiS (by rw [HE.out,← hl0,List.take_length])
    have hsu:=yu (zA 0) (zs.take k)
    generalize kG (mD 0) (zs.take k) = s at *
    obtain ⟨s0,s1⟩:=hsu
    go_wp2
    go_ret
    exact ⟨aR (by rw [HF.out];rfl),hB⟩
theorem LV (a : Option Addr) (len cap : Nat) (zs : List Int) (w : World) (hz : BytesAt w a len zs) (hl : (len : Int) <= 4611686018427387904) :
 Calls Tryz.prog 76 #[.slice a len cap] w λe w'=>e = .returned (.int .u32 (jk zs)) /\ Below w.heap.size w w':=by
 have m:=Xf a len cap zs w hz hl
 generalize jk zs = r at *
 go_enter Tryz.func76,Tryz.ntmps76
 go_wp2_with fail
 refine m.mono ?_;rintro e w' ⟨rfl,hb⟩
 go_wp2
 go_ret
 exact ⟨rfl,hb⟩
set_option maxRecDepth 8000
def vL (s : Int) : List Int:=[s / 16777216,s / 65536 % 256,s / 256 % 256,s % 256]
theorem YD {s : Int} (h : uj s) : aV (vL s):=λz hz=>by
 obtain ⟨h1,h2⟩:=h
 simp [vL] at hz
 rcases hz with rfl | rfl | rfl | rfl <;> (unfold U8;omega)
theorem aY.empty (w : World) : aY (w.alloc (.cells #[] 5)) w.heap.size (.slice (some ⟨w.heap.size,0,none⟩) 0 0) [] :=
 ⟨⟨rfl,.inr ⟨w.heap.size,0,#[],rfl,Nat.le_refl _,ak.new w #[] 5,by decide,by decide,rfl,rfl⟩⟩,aV.nil⟩
theorem aY.base {w : World} {base base' : Nat} {v : Value} {zs : List Int} (h : aY w base v zs) (hb : base' <= base) : aY w base' v zs:=by
 obtain ⟨⟨h1,h2⟩,h8⟩:=h
 refine ⟨⟨h1,?_⟩,h8⟩
 rcases h2 with h2 | ⟨g,cap,cur,hv,hg,hh,r⟩
 ·exact Or.inl h2
 ·exact Or.inr ⟨g,cap,cur,hv,by omega,hh,r⟩
theorem DT (w : World) (zs : List Int) (h : aV zs) : BytesAt (w.alloc (.cells (zs.map (Value.int .u8)).toArray 5)) (some ⟨w.heap.size,0,none⟩) zs.length zs :=
 ⟨rfl,λz hz=>Pk (h z hz),.inr ⟨w.heap.size,0,rfl,by simp,λi hi=>by
  rw [(ak.new w _ 5).cell (0 + i)]
  simp [List.getD,hi]⟩⟩
set_option maxHeartbeats 1000000 in
theorem Xg (a : Option Addr) (len cap : Nat) (zs : List Int) (w : World) (hz : BytesAt w a len zs) (hc : a = none -> cap = 0) (hl : (len : Int) <= 140737488355000) :
 Calls Tryz.prog 38 #[.slice a len cap] w λe w'=>∃ v,e = .returned v /\ aY w' w.heap.size v (zs ++ vL (jk zs)) /\ Below w.heap.size w w':=by
 have sm:=LV a len cap zs w hz (by omega)
 obtain ⟨s0,s1⟩:=zB zs
 have hl0:=hz.1
 generalize jk zs = s at *
 go_enter Tryz.func38,Tryz.ntmps38
 go_wp2_with fail
 refine sm.mono ?_;rintro e w1 ⟨rfl,hb1⟩
 have HZ1:=aiS (hz.below hb1);have HB1:=aiS hb1;have hs1:=hb1.size;have OE:=aiS ((aY.empty w1).base hs1);have hz2:=aiS (HZ1.out.below (aiU.alloc (Nat.le_refl _) (.cells #[] 5)));clear sm hb1 hz
 go_wp2_with (at_builtin;refine bF _ rfl (.tmp 6) (.tmp 7) rfl w.heap.size _ [] rfl OE.out a len cap zs rfl hz2.out hc (by simp;omega) (by simp;omega) ?_)
 intro v2 w2 ho2 hg2
 have HB2 : Hid (Below w.heap.size w w2):=aiS ((HB1.out.alloc hs1 _).grown hg2 (by simp;omega) (λj e=>(OE.out.lt j e).1))
 have bQ:=aiS ho2;clear ho2 hg2 OE hz2 HZ1;have hs2:=HB2.out.size;have hb4:=YD (s:=s) ⟨s0,s1⟩;have BN:=aiS (DT w2 (vL s) hb4)
 obtain ⟨x0,hx0⟩ : ∃ x,s / 16777216 = x:=⟨_,rfl⟩
 obtain ⟨x1,hx1⟩ : ∃ x,s / 65536 % 256 = x:=⟨_,rfl⟩
 obtain ⟨x2,hx2⟩ : ∃ x,s / 256 % 256 = x:=⟨_,rfl⟩
 obtain ⟨x3,hx3⟩ : ∃ x,s % 256 = x:=⟨_,rfl⟩
 have HE : Hid (vL s = [x0,x1,x2,x3]):=aiS (by unfold vL;rw [hx0,hx1,hx2,hx3])
 rw [HE.out] at BN
 simp only [List.map_cons,List.map_nil,List.length_cons,List.length_nil] at BN
 have HBA : Hid (Below w.heap.size w (w2.alloc (.cells #[.int .u8 x0,.int .u8 x1,.int .u8 x2,.int .u8 x3] 5))):=aiS (HB2.out.alloc hs2 _)
 have YE : Hid (aY (w2.alloc (.cells #[.int .u8 x0,.int .u8 x1,.int .u8 x2,.int .u8 x3] 5)) w.heap.size v2 ([] ++ zs)):=aiS (bQ.out.below (aiT))
 clear hb4 bQ
 go_wp2_with (at_builtin;refine bF _ rfl (.tmp 8) (.tmp 20) rfl w.heap.size _ ([] ++ zs) rfl YE.out (some ⟨w2.heap.size,0,none⟩) 4 4 [x0,x1,x2,x3] rfl BN.out (by intro h;cases h) (by simp;omega) (by simp;omega) ?_)
 intro v3 w3 ho3 hg3
 have HB3 : Hid (Below w.heap.size w w3):=aiS (HBA.out.grown hg3 (by simp;omega) (λj e=>(YE.out.lt j e).1))
 have fK:=aiS ho3;clear ho3 hg3 YE HBA
 go_wp2
 go_ret
 exact ⟨v3,rfl,by rw [HE.out];exact fK.out,HB3.out⟩
def nV : Int -> List Int -> Int
 | s,[]=>s
 | s,c :: r=>nV (bits .or .u32 (s * 256 % 4294967296) c) r
theorem Ez (s : Int) : ∀ (l : List Int) (c : Int),nV s (l ++ [c]) = bits .or .u32 (nV s l * 256 % 4294967296) c
 | [],c=>rfl
 | a :: l,c=>by rw [List.cons_append,nV,Ez];rfl
theorem Gx {s : Int} (h : uj s) : ∀ l,uj (nV s l)
 | []=>h
 | c :: l=>Gx (vK _ _ _) l
def iD (zs : List Int) : Option (List Int):=if zs.length < 4 then none else if nV 0 (zs.drop (zs.length - 4)) = jk (zs.take (zs.length - 4)) then some (zs.take (zs.length - 4)) else none
theorem jT.take {k : IntKind} {w : World} {a : Option Addr} {len n : Nat} {zs : List Int} (h : jT k w a len zs) (hn : n <= len) : jT k w a n (zs.take n):=by
 obtain ⟨h1,h2,h3⟩:=h
 refine ⟨by simp;omega,λz hz=>h2 z (List.mem_of_mem_take hz),?_⟩
 rcases h3 with h3 | ⟨b,off,e,hl,hc⟩
 ·exact .inl (by omega)
 ·exact .inr ⟨b,off,e,hl,λi hi=>by rw [hc i (by omega)];simp [List.getD,List.getElem?_take,hi]⟩
theorem jT.drop {k : IntKind} {w : World} {b off : Nat} {len n : Nat} {zs : List Int} (h : jT k w (some ⟨b,off,none⟩) len zs) (hn : n <= len) : jT k w (some ⟨b,off + n,none⟩) (len - n) (zs.drop n):=by
 obtain ⟨h1,h2,h3⟩:=h
 refine ⟨by simp;omega,λz hz=>h2 z (List.mem_of_mem_drop hz),?_⟩
 rcases h3 with h3 | ⟨b',off',e,hl,hc⟩
 ·exact .inl (by omega)
 ·cases e
  exact .inr ⟨b,off + n,rfl,hl,λi hi=>by rw [Nat.add_assoc,hc (n + i) (by omega)];simp [List.getD,List.getElem?_drop]⟩
set_option maxHeartbeats 1000000 in
theorem Xh (a : Option Addr) (len cap : Nat) (zs : List Int) (w : World) (hz : BytesAt w a len zs) (hc : a = none -> cap = 0) (hlc : len <= cap) (hl : (len : Int) <= 140737488355000) :
 Calls Tryz.prog 160 #[.slice a len cap] w λe w'=>∃ v,e = .returned (.tuple #[v,.bool (iD zs).isSome]) /\ aY w' w.heap.size v ((iD zs).getD []) /\ Below w.heap.size w w':=by
 have hl0:=hz.1
 by_cases h4 : len < 4
 ·have HE : iD zs = none:=by unfold iD;rw [if_pos (by omega)]
  rw [HE]
  have hlt : decide ((len : Int) - 4 < 0) = true:=decide_eq_true (by omega)
  go_enter Tryz.func160,Tryz.ntmps160
  go_wp2
  exact bodyPost_ret (v:=.tuple #[.slice none 0 0,.bool false]) (by simp [results,Tryz.results160,go_sem]) rfl ⟨_,rfl,aY.nil _ _,Below.refl _ _⟩
 ·obtain ⟨n,hn⟩ : ∃ n,n = len - 4:=⟨_,rfl⟩
  have hnc : ¬ cap = n:=by omega
  have hw : IntKind.i64.wrap ((len : Int) - 4) = n:=by rw [IntKind.wrap_i64];omega
  have hw2 : wrap64 ((len : Int) - 4) = n:=by unfold wrap64;omega
  have hw3 : (len : Int) - 4 = n:=by omega
  have h1 : n <= len:=by omega
  have h2 : n <= cap:=by omega
  have h3 : (n : Int) <= 140737488355000:=by omega
  have e4 : len - n = 4:=by omega
  have hzl : ¬ zs.length < 4:=by omega
  obtain ⟨b,off,rfl⟩ : ∃ b off,a = some ⟨b,off,none⟩:=by
   rcases hz.2.2 with h | ⟨b,off,e,_⟩
   ·omega
   ·exact ⟨b,off,e⟩
  have HD:=aiS (hz.drop (n:=n) h1);have HT:=aiS (hz.take (n:=n) h1)
  have HE : Hid (iD zs = if nV 0 (zs.drop n) = jk (zs.take n) then some (zs.take n) else none):=aiS (by unfold iD;rw [if_neg hzl,hl0,← hn])
  have sm:=LV (some ⟨b,off,none⟩) n cap (zs.take n);have hd8:=HD.out.u8
  obtain ⟨hdl,_,hd⟩:=HD.out
  rw [e4] at hdl
  have HCS : Hid (b < w.heap.size /\ ∀ i,i < 4 -> w.cell? ⟨b,off + n + i,none⟩ = some (.int .u8 ((zs.drop n).getD i 0))):=aiS (by
   rcases hd with h | ⟨b',off',e,h1,h2⟩
   ·omega
   ·cases e
    exact ⟨h1,λi hi=>h2 i (by omega)⟩)
  generalize zs.drop n = ds at *
  generalize zs.take n = ts at *
  generalize iD zs = r at *
  have YF:=aiS hdl;have HD8:=aiS hd8
  have e5 : (len : Int) - (n : Int) = 4:=by omega
  clear hd hdl hd8 hl0 h4 hz hn HD hzl
  go_enter Tryz.func160,Tryz.ntmps160
  go_wp2_with fail
  go_loopw [5,17] (λs i wr=>∃ k : Nat,k <= 4 /\ i = .int .i64 k /\ s = .int .u32 (nV 0 (ds.take k)) /\ w = wr) (λ_ i _=>4 - (intOf i).toNat)
  case atStart=>exact ⟨0,by omega,rfl,rfl,rfl⟩
  case round =>
   obtain ⟨k,hk,rfl,rfl,rfl⟩:=hrel
   by_cases hlt : k < 4
   ·have c0:=HCS.out.2 k hlt
    have YC : U8 (ds.getD k 0):=HD8.out _ (by rw [List.getD_eq_getElem?_getD,List.getElem?_eq_getElem (by rw [YF.out];exact hlt)];simp)
    have hsu:=Gx (show uj 0 from ⟨by omega,by omega⟩) (ds.take k)
    have Gw : Hid (nV 0 (ds.take (k + 1)) = bits .or .u32 (nV 0 (ds.take k) * 256 % 4294967296) (ds.getD k 0)):=aiS (by
     rw [← Ez];congr 1
     rw [List.take_add_one,List.getD_eq_getElem?_getD,List.getElem?_eq_getElem (show k < ds.length by rw [YF.out];exact hlt)];rfl)
    have hlt' : (k : Int) < 4:=by omega
    generalize ds.getD k 0 = z at *
    generalize nV 0 (ds.take k) = s at *
    obtain ⟨z0,z1⟩:=YC
    obtain ⟨s0,s1⟩:=hsu
    go_wp2
    go_roundw
    case rel=>exact ⟨k + 1,by omega,by go_num,by rw [Gw.out],by first | rfl | trivial⟩
    case measure=>simp [intOf];omega
   ·obtain rfl : k = 4:=by omega
    have HT4 : Hid (ds.take 4 = ds):=aiS (by rw [← YF.out,List.take_length])
    rw [HT4.out]
    have smw:=sm w HT.out (by omega)
    obtain ⟨ahK,ahL⟩:=zB ts
    generalize jk ts = cs at *
    generalize nV 0 ds = bn at *
    go_wp2_with fail
    refine smw.mono ?_;rintro e w1 ⟨rfl,hb1⟩
    have HB1:=aiS hb1;have hs1:=hb1.size;clear hb1 smw sm
    by_cases hq : bn = cs
    ·have HR : Hid (r = some ts):=aiS (by rw [HE.out,if_pos hq])
     subst hq
     have OE:=aiS ((aY.empty w1).base hs1);have hz2:=aiS ((HT.out.below HB1.out).below (aiU.alloc (Nat.le_refl _) (.cells #[] 5)))
     go_wp2_with (at_builtin;refine bF _ rfl (.tmp 33) (.tmp 36) rfl w.heap.size _ [] rfl OE.out (some ⟨b,off,none⟩) n cap ts rfl hz2.out (by intro h;cases h) (by simp;omega) (by simp;omega) ?_)
     intro v2 w2 ho2 hg2
     have HB2 : Hid (Below w.heap.size w w2):=aiS ((HB1.out.alloc hs1 _).grown hg2 (by simp;omega) (λj e=>(OE.out.lt j e).1))
     have bQ:=aiS ho2;clear ho2 hg2 OE hz2
     go_wp2
     rw [HR.out]
     exact bodyPost_ret (v:=.tuple #[v2,.bool true]) (by simp [results,Tryz.results160,go_sem]) rfl ⟨v2,rfl,bQ.out,HB2.out⟩
    ·have HR : Hid (r = none):=aiS (by rw [HE.out,if_neg hq])
     have hq2 : (bn != cs) = true:=by simpa using hq
     clear hq
     go_wp2
     rw [HR.out]
     exact bodyPost_ret (v:=.tuple #[.slice none 0 0,.bool false]) (by simp [results,Tryz.results160,go_sem]) rfl ⟨_,rfl,aY.nil _ _,HB1.out⟩
end Go.Proofs.YtklkooeimkedgaaGreat
