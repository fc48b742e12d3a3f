/- Walk of TopExact. -/
import Derived.BigQuiet
import Derived.Deep.QuietTactic
import Derived.LoopTactic
import Derived.Test.YtklkooeimkedgaaGreatE2
import Derived.Test.YtklkooeimkedgaaGreatE6
set_option linter.unusedVariables false
set_option linter.unusedSimpArgs false
namespace Go.Proofs.YtklkooeimkedgaaGreat
open Go.RowKit
structure aA where
 id : Int
 px : Int
 py : Int
 pz : Int
 vx : Int
 vy : Int
 vz : Int
 aI : Int
 gen : Int
structure aA.Ok (e : aA) : Prop where
 id : ay e.id
 px : ay e.px
 py : ay e.py
 pz : ay e.pz
 vx : ay e.vx
 vy : ay e.vy
 vz : ay e.vz
 aI : 0 <= e.aI /\ e.aI <= 65535
 gen : 0 <= e.gen /\ e.gen <= 255
def bN (e : aA) : Value:=.agg #[.int .i64 (e).id,.int .i64 (e).px,.int .i64 (e).py,.int .i64 (e).pz,.int .i64 (e).vx,.int .i64 (e).vy,.int .i64 (e).vz,.int .u16 (e).aI,.int .u8 (e).gen]
def bK : aA:=⟨0,0,0,0,0,0,0,0,0⟩
def bP (tick time : Int) (a : Option Addr) (len cap : Nat) : Value:=.agg #[.int .i64 tick,.int .i64 time,.slice a len cap]
def dG (w : World) (b o : Nat) (e : aA) : Prop:=w.cell? ⟨b,o,none⟩ = some (.int .i64 (e).id) /\ w.cell? ⟨b,o + 1,none⟩ = some (.int .i64 (e).px) /\ w.cell? ⟨b,o + 2,none⟩ = some (.int .i64 (e).py) /\ w.cell? ⟨b,o + 3,none⟩ = some (.int .i64 (e).pz) /\ w.cell? ⟨b,o + 4,none⟩ = some (.int .i64 (e).vx) /\ w.cell? ⟨b,o + 5,none⟩ = some (.int .i64 (e).vy) /\ w.cell? ⟨b,o + 6,none⟩ = some (.int .i64 (e).vz) /\ w.cell? ⟨b,o + 7,none⟩ = some (.int .u16 (e).aI) /\ w.cell? ⟨b,o + 8,none⟩ = some (.int .u8 (e).gen)
def dx (w : World) (a : Option Addr) (len : Nat) (E : Nat -> aA) : Prop :=
 (∀ i,i < len -> (E i).Ok) /\ (len = 0 \/ ∃ b off,a = some ⟨b,off,none⟩ /\ b < w.heap.size /\ ∀ i,i < len -> dG w b (off + i * 9) (E i))
theorem dG.below {w w' : World} {b o : Nat} {e : aA} (h : dG w b o e) (hb : Below w.heap.size w w') (hl : b < w.heap.size) : dG w' b o e:=by
 unfold dG at *
 refine ⟨?_,?_,?_,?_,?_,?_,?_,?_,?_⟩ <;> (rw [hb.cell (by simpa using hl)];first | exact h.1 | exact h.2.1 | exact h.2.2.1 | exact h.2.2.2.1 | exact h.2.2.2.2.1 | exact h.2.2.2.2.2.1 | exact h.2.2.2.2.2.2.1 | exact h.2.2.2.2.2.2.2.1 | exact h.2.2.2.2.2.2.2.2)
theorem dx.below {w w' : World} {a : Option Addr} {len : Nat} {E : Nat -> aA} (h : dx w a len E) (hb : Below w.heap.size w w') : dx w' a len E:=by
 obtain ⟨h1,h2⟩:=h
 refine ⟨h1,?_⟩
 rcases h2 with h2 | ⟨b,off,e,hl,hc⟩
 ·exact .inl h2
 ·exact .inr ⟨b,off,e,Nat.lt_of_lt_of_le hl hb.size,λi hi=>(hc i hi).below hb hl⟩
def jI (E : Nat -> aA) : Nat -> Nat -> Int
 | 0,_=>0
 | n + 1,i=>if (E i).id < 0 \/ 65535 < (E i).id then 3 else if 0 < i /\ (E i).id <= (E (i - 1)).id then 10 else jI E n (i + 1)
def dw (tick time : Int) (len : Nat) (E : Nat -> aA) : Int :=
 if (tick < 0 \/ 4294967295 < tick \/ time < -2305843009213693952 \/ 2305843009213693952 < time) then 3 else if 64 < len then 4 else jI E len 0
set_option maxHeartbeats 1000000 in
theorem K5 (tick time : Int) (a : Option Addr) (len cap : Nat) (E : Nat -> aA) (w : World) (h : dx w a len E) (h1 : 0 <= tick) (h2 : tick <= 4294967295) (h3 : -2305843009213693952 <= time) (h4 : time <= 2305843009213693952) (h5 : (len : Int) <= 64) :
 Calls Tryz.prog 34 #[bP tick time a len cap] w λe w'=>e = .returned (.int .i64 (jI E len 0)) /\ Below w.heap.size w w':=by
 unfold bP
 obtain ⟨hok,hz | ⟨b,off,rfl,hb,hc⟩⟩:=h
 all_goals
  go_enter Tryz.func34,Tryz.ntmps34
  go_wp2_with fail
  go_loopw [3,33] (λl i wr=>∃ (k : Nat) (lv : Int),k <= len /\ i = .int .i64 k /\ l = .int .i64 lv /\ (k = 0 -> lv = -1) /\ (0 < k -> lv = (E (k - 1)).id) /\ jI E len 0 = jI E (len - k) k /\ Below w.heap.size w wr) (λ_ i _=>len - (intOf i).toNat)
  case atStart=>exact ⟨0,-1,Nat.zero_le _,rfl,rfl,λ_=>rfl,λh=>by omega,rfl,ah7⟩
  case round =>
   rename_i wr
   obtain ⟨k,lv,hk,rfl,rfl,hl0,hl1,hch,hB⟩:=hrel
   by_cases hlt : k < len
   ·first
    | (exfalso;omega)
    | (obtain ⟨n,hn⟩ : ∃ n,len - k = n + 1:=⟨len - k - 1,by omega⟩
       have hn2 : len - (k + 1) = n:=by omega
       rw [hn] at hch
       have HB:=ah6 hB
       have hcw : dG wr b (off + k * 9) (E k):=by
        have:=hc k hlt
        unfold dG at *
        refine ⟨?_,?_,?_,?_,?_,?_,?_,?_,?_⟩ <;> (rw [HB.out.cell (by simpa using hb)];first | exact this.1 | exact this.2.1 | exact this.2.2.1 | exact this.2.2.2.1 | exact this.2.2.2.2.1 | exact this.2.2.2.2.2.1 | exact this.2.2.2.2.2.2.1 | exact this.2.2.2.2.2.2.2.1 | exact this.2.2.2.2.2.2.2.2)
       obtain ⟨c0,c1,c2,c3,c4,c5,c6,c7,c8⟩:=hcw
       have iP:=ah6 (show jI E len 0 = if (E k).id < 0 \/ 65535 < (E k).id then 3 else if 0 < k /\ (E k).id <= (E (k - 1)).id then 10 else jI E n (k + 1) from hch)
       have HC:=ah6 hc
       have hlt' : (k : Int) < len:=by omega
       have CU : Hid (∀ v,v = (E k).id -> ((k + 1 = 0 -> v = -1) /\ (0 < k + 1 -> v = (E (k + 1 - 1)).id))):=ah6 (λv hv=>⟨λh=>by omega,λ_=>by simpa using hv⟩)
       have hcond : (0 < k /\ (E k).id <= (E (k - 1)).id) \/ (E k).id <= lv ↔ (E k).id <= lv \/ (0 < k /\ (E k).id <= (E (k - 1)).id):=Or.comm
       have hlast : (E k).id <= lv -> ¬ ((E k).id < 0) -> (0 < k /\ (E k).id <= (E (k - 1)).id):=λh g=>by
        rcases Nat.eq_zero_or_pos k with h0 | h0
        ·have:=hl0 h0;omega
        ·have:=hl1 h0;exact ⟨h0,by omega⟩
       have OQ : ¬ (E k).id <= lv -> ¬ (0 < k /\ (E k).id <= (E (k - 1)).id):=λh ⟨g1,g2⟩=>by have:=hl1 g1;omega
       have XZ:=ah6 hlast;have HL2:=ah6 OQ;clear hch hc hn hl0 hl1 hlast OQ hcond
       have qV : Hid (∀ v,v = (E k).id -> v = (E k).id):=ah6 (λ_ h=>h)
       obtain ⟨e,he⟩ : ∃ e,E k = e:=⟨_,rfl⟩
       rw [he] at c0 c1 c2 c3 c4 c5 c6 c7 c8 iP XZ HL2 CU
       obtain ⟨eF,px,py,pz,vx,vy,vz,aI,gen⟩:=e
       dsimp only at c0 c1 c2 c3 c4 c5 c6 c7 c8 iP XZ HL2 CU
       clear he qV
       by_cases r1 : eF < 0
       ·have HE : Hid (jI E len 0 = 3):=ah6 (by rw [iP.out,if_pos (.inl r1)])
        clear iP
        go_wp2
        go_ret
        exact ⟨aP HE.out.symm,hB.alloc hB.size _⟩
       by_cases r2 : 65535 < eF
       ·have HE : Hid (jI E len 0 = 3):=ah6 (by rw [iP.out,if_pos (.inr r2)])
        clear iP
        go_wp2
        go_ret
        exact ⟨aP HE.out.symm,hB.alloc hB.size _⟩
       by_cases r3 : eF <= lv
       ·have HE : Hid (jI E len 0 = 10):=ah6 (by rw [iP.out,if_neg (by omega),if_pos (XZ.out r3 r1)])
        clear iP
        go_wp2
        go_ret
        exact ⟨aP HE.out.symm,hB.alloc hB.size _⟩
       ·have HE : Hid (jI E len 0 = jI E n (k + 1)):=ah6 (by rw [iP.out,if_neg (by omega),if_neg (HL2.out r3)])
        clear iP
        go_wp2
        go_roundw
        case rel=>exact ⟨k + 1,eF,by omega,by go_num,rfl,(CU.out _ rfl).1,(CU.out _ rfl).2,by rw [hn2];exact HE.out,hB.alloc hB.size _⟩
        case measure=>simp [intOf];omega)
   ·obtain rfl : k = len:=by omega
    have HE : Hid (jI E k 0 = 0):=ah6 (by rw [hch,Nat.sub_self];rfl)
    clear hch
    go_wp2
    go_ret
    exact ⟨aP HE.out.symm,hB⟩
theorem CV (tick time : Int) (a : Option Addr) (len cap : Nat) (hr : tick < 0) (w : World) :
 Calls Tryz.prog 34 #[bP tick time a len cap] w λe w'=>e = .returned (.int .i64 3) /\ Below w.heap.size w w':=by
 unfold bP
 go_enter Tryz.func34,Tryz.ntmps34
 go_wp2
 go_ret
 exact ⟨rfl,ah7⟩
theorem CW (tick time : Int) (a : Option Addr) (len cap : Nat) (hr : 0 <= tick /\ 4294967295 < tick) (w : World) :
 Calls Tryz.prog 34 #[bP tick time a len cap] w λe w'=>e = .returned (.int .i64 3) /\ Below w.heap.size w w':=by
 obtain ⟨r1,r2⟩:=hr
 unfold bP
 go_enter Tryz.func34,Tryz.ntmps34
 go_wp2
 go_ret
 exact ⟨rfl,ah7⟩
theorem CX (tick time : Int) (a : Option Addr) (len cap : Nat) (hr : (0 <= tick /\ tick <= 4294967295) /\ time < -2305843009213693952) (w : World) :
 Calls Tryz.prog 34 #[bP tick time a len cap] w λe w'=>e = .returned (.int .i64 3) /\ Below w.heap.size w w':=by
 obtain ⟨⟨r1,r2⟩,r3⟩:=hr
 unfold bP
 go_enter Tryz.func34,Tryz.ntmps34
 go_wp2
 go_ret
 exact ⟨rfl,ah7⟩
theorem CY (tick time : Int) (a : Option Addr) (len cap : Nat) (hr : (0 <= tick /\ tick <= 4294967295) /\ -2305843009213693952 <= time /\ 2305843009213693952 < time) (w : World) :
 Calls Tryz.prog 34 #[bP tick time a len cap] w λe w'=>e = .returned (.int .i64 3) /\ Below w.heap.size w w':=by
 obtain ⟨⟨r1,r2⟩,r3,r4⟩:=hr
 unfold bP
 go_enter Tryz.func34,Tryz.ntmps34
 go_wp2
 go_ret
 exact ⟨rfl,ah7⟩
theorem CZ (tick time : Int) (a : Option Addr) (len cap : Nat) (h1 : 0 <= tick) (h2 : tick <= 4294967295) (h3 : -2305843009213693952 <= time) (h4 : time <= 2305843009213693952) (h5 : (64 : Int) < len) (w : World) :
 Calls Tryz.prog 34 #[bP tick time a len cap] w λe w'=>e = .returned (.int .i64 4) /\ Below w.heap.size w w':=by
 unfold bP
 go_enter Tryz.func34,Tryz.ntmps34
 go_wp2
 go_ret
 exact ⟨rfl,ah7⟩
theorem Dz (tick time : Int) (a : Option Addr) (len cap : Nat) (E : Nat -> aA) (w : World) (h : dx w a len E) (hl : (len : Int) <= 4611686018427387904) :
 Calls Tryz.prog 34 #[bP tick time a len cap] w λe w'=>e = .returned (.int .i64 (dw tick time len E)) /\ Below w.heap.size w w':=by
 unfold dw
 by_cases h1 : tick < 0
 ·rw [if_pos (by omega)];exact CV tick time a len cap h1 w
 by_cases h2 : 4294967295 < tick
 ·rw [if_pos (by omega)];exact CW tick time a len cap (by omega) w
 by_cases h3 : time < -2305843009213693952
 ·rw [if_pos (by omega)];exact CX tick time a len cap (by omega) w
 by_cases h4 : 2305843009213693952 < time
 ·rw [if_pos (by omega)];exact CY tick time a len cap (by omega) w
 rw [if_neg (by omega)]
 by_cases h5 : 64 < len
 ·rw [if_pos h5];exact CZ tick time a len cap (by omega) (by omega) (by omega) (by omega) (by omega) w
 rw [if_neg h5]
 exact K5 tick time a len cap E w h (by omega) (by omega) (by omega) (by omega) (by omega)
def jE (E : Nat -> aA) (id : Int) : Nat -> Nat -> Nat
 | 0,i=>i
 | n + 1,i=>if (E i).id = id then i else jE E id n (i + 1)
def Dc (E : Nat -> aA) (id : Int) (len : Nat) : Bool:=decide (jE E id len 0 < len)
def wV (E : Nat -> aA) (id : Int) (len : Nat) : aA:=if jE E id len 0 < len then E (jE E id len 0) else bK
theorem Wz (e : aA) (id : Int) (c : Nat) (w : World) (h : w.cell? ⟨c,0,none⟩ = some (.int .i64 id)) (hc : c < w.heap.size) :
 Calls Tryz.prog 56 #[bN e,.pointer (some ⟨c,0,none⟩)] w λe' w'=>e' = .returned (.bool (e.id == id)) /\ Below w.heap.size w w':=by
 obtain ⟨eF,px,py,pz,vx,vy,vz,aI,gen⟩:=e
 unfold bN
 dsimp only
 go_enter Tryz.func56,Tryz.ntmps56
 go_wp2
 go_ret
 exact ⟨rfl,ah7⟩
set_option maxHeartbeats 1000000 in
theorem Jf (a : Option Addr) (len cap : Nat) (E : Nat -> aA) (id : Int) (c : Nat) (R : Int) (hR : Hid ((if jE E id len 0 < len then (jE E id len 0 : Int) else -1) = R)) (w : World) (h : dx w a len E) (hid : w.cell? ⟨c,0,none⟩ = some (.int .i64 id)) (hcl : c < w.heap.size) (hl : (len : Int) <= 4611686018427387904) :
 Calls Tryz.prog 55 #[.slice a len cap,.func (.func 56) #[] #[.pointer (some ⟨c,0,none⟩)]] w λe w'=>e = .returned (.int .i64 R) /\ Below w.heap.size w w':=by
 obtain ⟨hok,hz | ⟨b,off,rfl,hb,hc⟩⟩:=h
 all_goals
  go_enter Tryz.func55,Tryz.ntmps55
  go_wp2_with fail
  go_loopw [8] (λi wr=>∃ (k : Nat),k <= len /\ i = .int .i64 k /\ jE E id len 0 = jE E id (len - k) k /\ Below w.heap.size w wr) (λi _=>len - (intOf i).toNat)
  case atStart=>exact ⟨0,Nat.zero_le _,rfl,rfl,Below.refl _ _⟩
  case round =>
   rename_i wr
   obtain ⟨k,hk,rfl,hch,hB⟩:=hrel
   have HB:=ah6 hB;have hsz:=hB.size
   by_cases hlt : k < len
   ·first
    | (exfalso;omega)
    | (obtain ⟨n,hn⟩ : ∃ n,len - k = n + 1:=⟨len - k - 1,by omega⟩
       have hn2 : len - (k + 1) = n:=by omega
       rw [hn] at hch
       have hcw : dG wr b (off + k * 9) (E k):=by
        have:=hc k hlt
        unfold dG at *
        refine ⟨?_,?_,?_,?_,?_,?_,?_,?_,?_⟩ <;> (rw [HB.out.cell (by simp;omega)];first | exact this.1 | exact this.2.1 | exact this.2.2.1 | exact this.2.2.2.1 | exact this.2.2.2.2.1 | exact this.2.2.2.2.2.1 | exact this.2.2.2.2.2.2.1 | exact this.2.2.2.2.2.2.2.1 | exact this.2.2.2.2.2.2.2.2)
       obtain ⟨c0,c1,c2,c3,c4,c5,c6,c7,c8⟩:=hcw
       have iP:=ah6 (show jE E id len 0 = if (E k).id = id then k else jE E id n (k + 1) from hch)
       have HC:=ah6 hc
       have hlt' : (k : Int) < len:=by omega
       have f1:=Wz (E k) id c wr ((HB.out.cell (p:=⟨c,0,none⟩) hcl).trans hid) (by omega)
       unfold bN at f1
       clear hch hc hn
       by_cases hx : (E k).id = id
       ·have HE : Hid (R = k):=ah6 (by rw [← hR.out,iP.out,if_pos hx,if_pos hlt])
        rw [show ((E k).id == id) = true by simpa using hx] at f1
        clear iP hx
        generalize E k = e at *
        obtain ⟨eF,px,py,pz,vx,vy,vz,aI,gen⟩:=e
        dsimp only at c0 c1 c2 c3 c4 c5 c6 c7 c8 f1
        go_wp2_with fail
        refine f1.mono ?_;rintro e w2 ⟨rfl,hb2⟩
        have HB2:=ah6 (HB.out.trans (hb2.mono hsz));clear hb2 c0 c1 c2 c3 c4 c5 c6 c7 c8
        go_wp2
        go_ret
        exact ⟨aP HE.out.symm,HB2.out⟩
       ·have HE : Hid (jE E id len 0 = jE E id n (k + 1)):=ah6 (by rw [iP.out,if_neg hx])
        rw [show ((E k).id == id) = false by simpa using hx] at f1
        clear iP hx
        generalize E k = e at *
        obtain ⟨eF,px,py,pz,vx,vy,vz,aI,gen⟩:=e
        dsimp only at c0 c1 c2 c3 c4 c5 c6 c7 c8 f1
        go_wp2_with fail
        refine f1.mono ?_;rintro e w2 ⟨rfl,hb2⟩
        have HB2:=ah6 (HB.out.trans (hb2.mono hsz));clear hb2 c0 c1 c2 c3 c4 c5 c6 c7 c8
        go_wp2
        go_roundw
        case rel=>exact ⟨k + 1,by omega,by go_num,by rw [hn2];exact HE.out,HB2.out⟩
        case measure=>simp [intOf];omega)
   ·obtain rfl : k = len:=by omega
    have HE : Hid (R = -1):=ah6 (by rw [← hR.out,hch,Nat.sub_self,jE,if_neg (Nat.lt_irrefl _)])
    clear hch
    go_wp2
    go_ret
    exact ⟨aP HE.out.symm,hB⟩
theorem Pp (a : Option Addr) (len cap : Nat) (E : Nat -> aA) (id : Int) (c : Nat) (w : World) (h : dx w a len E) (hid : w.cell? ⟨c,0,none⟩ = some (.int .i64 id)) (hcl : c < w.heap.size) (hl : (len : Int) <= 4611686018427387904) :
 Calls Tryz.prog 55 #[.slice a len cap,.func (.func 56) #[] #[.pointer (some ⟨c,0,none⟩)]] w λe w'=>e = .returned (.int .i64 (if jE E id len 0 < len then (jE E id len 0 : Int) else -1)) /\ Below w.heap.size w w' :=
 Jf a len cap E id c _ (ah6 rfl) w h hid hcl hl
end Go.Proofs.YtklkooeimkedgaaGreat
