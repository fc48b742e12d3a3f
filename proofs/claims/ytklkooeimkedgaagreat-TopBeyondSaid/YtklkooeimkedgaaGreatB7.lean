/- Walk of TopBeyond. -/
import Derived.BigQuiet
import Derived.Deep.QuietTactic
import Derived.LoopTactic
import Derived.Test.YtklkooeimkedgaaGreatB2
import Derived.Test.YtklkooeimkedgaaGreatB6
set_option linter.unusedVariables false
set_option linter.unusedSimpArgs false
namespace Go.Proofs.YtklkooeimkedgaaGreat
open Go.RowKit
structure aB where
 id : Int
 px : Int
 py : Int
 pz : Int
 vx : Int
 vy : Int
 vz : Int
 aJ : Int
 gen : Int
structure aB.Ok (e : aB) : Prop where
 id : ay e.id
 px : ay e.px
 py : ay e.py
 pz : ay e.pz
 vx : ay e.vx
 vy : ay e.vy
 vz : ay e.vz
 aJ : 0 <= e.aJ /\ e.aJ <= 65535
 gen : 0 <= e.gen /\ e.gen <= 255
def bM (e : aB) : Value:=.agg #[.int .i64 (e).id,.int .i64 (e).px,.int .i64 (e).py,.int .i64 (e).pz,.int .i64 (e).vx,.int .i64 (e).vy,.int .i64 (e).vz,.int .u16 (e).aJ,.int .u8 (e).gen]
def bK : aB:=⟨0,0,0,0,0,0,0,0,0⟩
def bO (tick time : Int) (a : Option Addr) (len cap : Nat) : Value:=.agg #[.int .i64 tick,.int .i64 time,.slice a len cap]
def dF (w : World) (b o : Nat) (e : aB) : Prop:=w.cell? ⟨b,o,none⟩ = some (.int .i64 (e).id) /\ w.cell? ⟨b,o + 1,none⟩ = some (.int .i64 (e).px) /\ w.cell? ⟨b,o + 2,none⟩ = some (.int .i64 (e).py) /\ w.cell? ⟨b,o + 3,none⟩ = some (.int .i64 (e).pz) /\ w.cell? ⟨b,o + 4,none⟩ = some (.int .i64 (e).vx) /\ w.cell? ⟨b,o + 5,none⟩ = some (.int .i64 (e).vy) /\ w.cell? ⟨b,o + 6,none⟩ = some (.int .i64 (e).vz) /\ w.cell? ⟨b,o + 7,none⟩ = some (.int .u16 (e).aJ) /\ w.cell? ⟨b,o + 8,none⟩ = some (.int .u8 (e).gen)
def dw (w : World) (a : Option Addr) (len : Nat) (E : Nat -> aB) : Prop :=
 (∀ i,i < len -> (E i).Ok) /\ (len = 0 \/ ∃ b off,a = some ⟨b,off,none⟩ /\ b < w.heap.size /\ ∀ i,i < len -> dF w b (off + i * 9) (E i))
theorem dF.below {w w' : World} {b o : Nat} {e : aB} (h : dF w b o e) (hb : Below w.heap.size w w') (hl : b < w.heap.size) : dF w' b o e:=by
 unfold dF at *
 refine ⟨?_,?_,?_,?_,?_,?_,?_,?_,?_⟩ <;> (rw [hb.cell (by simpa using hl)];first | exact h.1 | exact h.2.1 | exact h.2.2.1 | exact h.2.2.2.1 | exact h.2.2.2.2.1 | exact h.2.2.2.2.2.1 | exact h.2.2.2.2.2.2.1 | exact h.2.2.2.2.2.2.2.1 | exact h.2.2.2.2.2.2.2.2)
theorem dw.below {w w' : World} {a : Option Addr} {len : Nat} {E : Nat -> aB} (h : dw w a len E) (hb : Below w.heap.size w w') : dw w' a len E:=by
 obtain ⟨h1,h2⟩:=h
 refine ⟨h1,?_⟩
 rcases h2 with h2 | ⟨b,off,e,hl,hc⟩
 ·exact .inl h2
 ·exact .inr ⟨b,off,e,Nat.lt_of_lt_of_le hl hb.size,λi hi=>(hc i hi).below hb hl⟩
def jF (E : Nat -> aB) : Nat -> Nat -> Int
 | 0,_=>0
 | n + 1,i=>if (E i).id < 0 \/ 65535 < (E i).id then 3 else if 0 < i /\ (E i).id <= (E (i - 1)).id then 10 else jF E n (i + 1)
def dh (tick time : Int) (len : Nat) (E : Nat -> aB) : Int :=
 if (tick < 0 \/ 4294967295 < tick \/ time < -2305843009213693952 \/ 2305843009213693952 < time) then 3 else if 64 < len then 4 else jF E len 0
set_option maxHeartbeats 1000000 in
theorem Lb (tick time : Int) (a : Option Addr) (len cap : Nat) (E : Nat -> aB) (w : World) (h : dw w a len E) (h1 : 0 <= tick) (h2 : tick <= 4294967295) (h3 : -2305843009213693952 <= time) (h4 : time <= 2305843009213693952) (h5 : (len : Int) <= 64) :
 Calls Tryz.prog 34 #[bO tick time a len cap] w λe w'=>e = .returned (.int .i64 (jF E len 0)) /\ Below w.heap.size w w':=by
 unfold bO
 obtain ⟨hok,hz | ⟨b,off,rfl,hb,hc⟩⟩:=h
 all_goals
  go_enter Tryz.func34,Tryz.ntmps34
  go_wp2_with fail
  go_loopw [3,33] (λl i wr=>∃ (k : Nat) (lv : Int),k <= len /\ i = .int .i64 k /\ l = .int .i64 lv /\ (k = 0 -> lv = -1) /\ (0 < k -> lv = (E (k - 1)).id) /\ jF E len 0 = jF E (len - k) k /\ Below w.heap.size w wr) (λ_ i _=>len - (intOf i).toNat)
  case atStart=>exact ⟨0,-1,Nat.zero_le _,rfl,rfl,λ_=>rfl,λh=>by omega,rfl,aiT⟩
  case round =>
   rename_i wr
   obtain ⟨k,lv,hk,rfl,rfl,hl0,hl1,hch,hB⟩:=hrel
   by_cases hlt : k < len
   ·first
    | (exfalso;omega)
    | (obtain ⟨n,hn⟩ : ∃ n,len - k = n + 1:=⟨len - k - 1,by omega⟩
       have hn2 : len - (k + 1) = n:=by omega
       rw [hn] at hch
       have HB:=aiS hB
       have hcw : dF wr b (off + k * 9) (E k):=by
        have:=hc k hlt
        unfold dF at *
        refine ⟨?_,?_,?_,?_,?_,?_,?_,?_,?_⟩ <;> (rw [HB.out.cell (by simpa using hb)];first | exact this.1 | exact this.2.1 | exact this.2.2.1 | exact this.2.2.2.1 | exact this.2.2.2.2.1 | exact this.2.2.2.2.2.1 | exact this.2.2.2.2.2.2.1 | exact this.2.2.2.2.2.2.2.1 | exact this.2.2.2.2.2.2.2.2)
       obtain ⟨c0,c1,c2,c3,c4,c5,c6,c7,c8⟩:=hcw
       have iN:=aiS (show jF E len 0 = if (E k).id < 0 \/ 65535 < (E k).id then 3 else if 0 < k /\ (E k).id <= (E (k - 1)).id then 10 else jF E n (k + 1) from hch)
       have HC:=aiS hc
       have hlt' : (k : Int) < len:=by omega
       have Da : Hid (∀ v,v = (E k).id -> ((k + 1 = 0 -> v = -1) /\ (0 < k + 1 -> v = (E (k + 1 - 1)).id))):=aiS (λv hv=>⟨λh=>by omega,λ_=>by simpa using hv⟩)
       have hcond : (0 < k /\ (E k).id <= (E (k - 1)).id) \/ (E k).id <= lv ↔ (E k).id <= lv \/ (0 < k /\ (E k).id <= (E (k - 1)).id):=Or.comm
       have hlast : (E k).id <= lv -> ¬ ((E k).id < 0) -> (0 < k /\ (E k).id <= (E (k - 1)).id):=λh g=>by
        rcases Nat.eq_zero_or_pos k with h0 | h0
        ·have:=hl0 h0;omega
        ·have:=hl1 h0;exact ⟨h0,by omega⟩
       have Ph : ¬ (E k).id <= lv -> ¬ (0 < k /\ (E k).id <= (E (k - 1)).id):=λh ⟨g1,g2⟩=>by have:=hl1 g1;omega
       have YB:=aiS hlast;have HL2:=aiS Ph;clear hch hc hn hl0 hl1 hlast Ph hcond
       have qY : Hid (∀ v,v = (E k).id -> v = (E k).id):=aiS (λ_ h=>h)
       obtain ⟨e,he⟩ : ∃ e,E k = e:=⟨_,rfl⟩
       rw [he] at c0 c1 c2 c3 c4 c5 c6 c7 c8 iN YB HL2 Da
       obtain ⟨eH,px,py,pz,vx,vy,vz,aJ,gen⟩:=e
       dsimp only at c0 c1 c2 c3 c4 c5 c6 c7 c8 iN YB HL2 Da
       clear he qY
       by_cases r1 : eH < 0
       ·have HE : Hid (jF E len 0 = 3):=aiS (by rw [iN.out,if_pos (.inl r1)])
        clear iN
        go_wp2
        go_ret
        exact ⟨aR HE.out.symm,hB.alloc hB.size _⟩
       by_cases r2 : 65535 < eH
       ·have HE : Hid (jF E len 0 = 3):=aiS (by rw [iN.out,if_pos (.inr r2)])
        clear iN
        go_wp2
        go_ret
        exact ⟨aR HE.out.symm,hB.alloc hB.size _⟩
       by_cases r3 : eH <= lv
       ·have HE : Hid (jF E len 0 = 10):=aiS (by rw [iN.out,if_neg (by omega),if_pos (YB.out r3 r1)])
        clear iN
        go_wp2
        go_ret
        exact ⟨aR HE.out.symm,hB.alloc hB.size _⟩
       ·have HE : Hid (jF E len 0 = jF E n (k + 1)):=aiS (by rw [iN.out,if_neg (by omega),if_neg (HL2.out r3)])
        clear iN
        go_wp2
        go_roundw
        case rel=>exact ⟨k + 1,eH,by omega,by go_num,rfl,(Da.out _ rfl).1,(Da.out _ rfl).2,by rw [hn2];exact HE.out,hB.alloc hB.size _⟩
        case measure=>simp [intOf];omega)
   ·obtain rfl : k = len:=by omega
    have HE : Hid (jF E k 0 = 0):=aiS (by rw [hch,Nat.sub_self];rfl)
    clear hch
    go_wp2
    go_ret
    exact ⟨aR HE.out.symm,hB⟩
theorem Db (tick time : Int) (a : Option Addr) (len cap : Nat) (hr : tick < 0) (w : World) :
 Calls Tryz.prog 34 #[bO tick time a len cap] w λe w'=>e = .returned (.int .i64 3) /\ Below w.heap.size w w':=by
 unfold bO
 go_enter Tryz.func34,Tryz.ntmps34
 go_wp2
 go_ret
 exact ⟨rfl,aiT⟩
theorem Dc (tick time : Int) (a : Option Addr) (len cap : Nat) (hr : 0 <= tick /\ 4294967295 < tick) (w : World) :
 Calls Tryz.prog 34 #[bO tick time a len cap] w λe w'=>e = .returned (.int .i64 3) /\ Below w.heap.size w w':=by
 obtain ⟨r1,r2⟩:=hr
 unfold bO
 go_enter Tryz.func34,Tryz.ntmps34
 go_wp2
 go_ret
 exact ⟨rfl,aiT⟩
theorem Df (tick time : Int) (a : Option Addr) (len cap : Nat) (hr : (0 <= tick /\ tick <= 4294967295) /\ time < -2305843009213693952) (w : World) :
 Calls Tryz.prog 34 #[bO tick time a len cap] w λe w'=>e = .returned (.int .i64 3) /\ Below w.heap.size w w':=by
 obtain ⟨⟨r1,r2⟩,r3⟩:=hr
 unfold bO
 go_enter Tryz.func34,Tryz.ntmps34
 go_wp2
 go_ret
 exact ⟨rfl,aiT⟩
theorem Dg (tick time : Int) (a : Option Addr) (len cap : Nat) (hr : (0 <= tick /\ tick <= 4294967295) /\ -2305843009213693952 <= time /\ 2305843009213693952 < time) (w : World) :
 Calls Tryz.prog 34 #[bO tick time a len cap] w λe w'=>e = .returned (.int .i64 3) /\ Below w.heap.size w w':=by
 obtain ⟨⟨r1,r2⟩,r3,r4⟩:=hr
 unfold bO
 go_enter Tryz.func34,Tryz.ntmps34
 go_wp2
 go_ret
 exact ⟨rfl,aiT⟩
theorem Dh (tick time : Int) (a : Option Addr) (len cap : Nat) (h1 : 0 <= tick) (h2 : tick <= 4294967295) (h3 : -2305843009213693952 <= time) (h4 : time <= 2305843009213693952) (h5 : (64 : Int) < len) (w : World) :
 Calls Tryz.prog 34 #[bO tick time a len cap] w λe w'=>e = .returned (.int .i64 4) /\ Below w.heap.size w w':=by
 unfold bO
 go_enter Tryz.func34,Tryz.ntmps34
 go_wp2
 go_ret
 exact ⟨rfl,aiT⟩
theorem DN (tick time : Int) (a : Option Addr) (len cap : Nat) (E : Nat -> aB) (w : World) (h : dw w a len E) (hl : (len : Int) <= 4611686018427387904) :
 Calls Tryz.prog 34 #[bO tick time a len cap] w λe w'=>e = .returned (.int .i64 (dh tick time len E)) /\ Below w.heap.size w w':=by
 unfold dh
 by_cases h1 : tick < 0
 ·rw [if_pos (by omega)];exact Db tick time a len cap h1 w
 by_cases h2 : 4294967295 < tick
 ·rw [if_pos (by omega)];exact Dc tick time a len cap (by omega) w
 by_cases h3 : time < -2305843009213693952
 ·rw [if_pos (by omega)];exact Df tick time a len cap (by omega) w
 by_cases h4 : 2305843009213693952 < time
 ·rw [if_pos (by omega)];exact Dg tick time a len cap (by omega) w
 rw [if_neg (by omega)]
 by_cases h5 : 64 < len
 ·rw [if_pos h5];exact Dh tick time a len cap (by omega) (by omega) (by omega) (by omega) (by omega) w
 rw [if_neg h5]
 exact Lb tick time a len cap E w h (by omega) (by omega) (by omega) (by omega) (by omega)
def jC (E : Nat -> aB) (id : Int) : Nat -> Nat -> Nat
 | 0,i=>i
 | n + 1,i=>if (E i).id = id then i else jC E id n (i + 1)
def Dl (E : Nat -> aB) (id : Int) (len : Nat) : Bool:=decide (jC E id len 0 < len)
def wY (E : Nat -> aB) (id : Int) (len : Nat) : aB:=if jC E id len 0 < len then E (jC E id len 0) else bK
theorem Xo (e : aB) (id : Int) (c : Nat) (w : World) (h : w.cell? ⟨c,0,none⟩ = some (.int .i64 id)) (hc : c < w.heap.size) :
 Calls Tryz.prog 56 #[bM e,.pointer (some ⟨c,0,none⟩)] w λe' w'=>e' = .returned (.bool (e.id == id)) /\ Below w.heap.size w w':=by
 obtain ⟨eH,px,py,pz,vx,vy,vz,aJ,gen⟩:=e
 unfold bM
 dsimp only
 go_enter Tryz.func56,Tryz.ntmps56
 go_wp2
 go_ret
 exact ⟨rfl,aiT⟩
set_option maxHeartbeats 1000000 in
theorem Jj (a : Option Addr) (len cap : Nat) (E : Nat -> aB) (id : Int) (c : Nat) (R : Int) (hR : Hid ((if jC E id len 0 < len then (jC E id len 0 : Int) else -1) = R)) (w : World) (h : dw w a len E) (hid : w.cell? ⟨c,0,none⟩ = some (.int .i64 id)) (hcl : c < w.heap.size) (hl : (len : Int) <= 4611686018427387904) :
 Calls Tryz.prog 55 #[.slice a len cap,.func (.func 56) #[] #[.pointer (some ⟨c,0,none⟩)]] w λe w'=>e = .returned (.int .i64 R) /\ Below w.heap.size w w':=by
 obtain ⟨hok,hz | ⟨b,off,rfl,hb,hc⟩⟩:=h
 all_goals
  go_enter Tryz.func55,Tryz.ntmps55
  go_wp2_with fail
  go_loopw [8] (λi wr=>∃ (k : Nat),k <= len /\ i = .int .i64 k /\ jC E id len 0 = jC E id (len - k) k /\ Below w.heap.size w wr) (λi _=>len - (intOf i).toNat)
  case atStart=>exact ⟨0,Nat.zero_le _,rfl,rfl,Below.refl _ _⟩
  case round =>
   rename_i wr
   obtain ⟨k,hk,rfl,hch,hB⟩:=hrel
   have HB:=aiS hB;have hsz:=hB.size
   by_cases hlt : k < len
   ·first
    | (exfalso;omega)
    | (obtain ⟨n,hn⟩ : ∃ n,len - k = n + 1:=⟨len - k - 1,by omega⟩
       have hn2 : len - (k + 1) = n:=by omega
       rw [hn] at hch
       have hcw : dF wr b (off + k * 9) (E k):=by
        have:=hc k hlt
        unfold dF at *
        refine ⟨?_,?_,?_,?_,?_,?_,?_,?_,?_⟩ <;> (rw [HB.out.cell (by simp;omega)];first | exact this.1 | exact this.2.1 | exact this.2.2.1 | exact this.2.2.2.1 | exact this.2.2.2.2.1 | exact this.2.2.2.2.2.1 | exact this.2.2.2.2.2.2.1 | exact this.2.2.2.2.2.2.2.1 | exact this.2.2.2.2.2.2.2.2)
       obtain ⟨c0,c1,c2,c3,c4,c5,c6,c7,c8⟩:=hcw
       have iN:=aiS (show jC E id len 0 = if (E k).id = id then k else jC E id n (k + 1) from hch)
       have HC:=aiS hc
       have hlt' : (k : Int) < len:=by omega
       have f1:=Xo (E k) id c wr ((HB.out.cell (p:=⟨c,0,none⟩) hcl).trans hid) (by omega)
       unfold bM at f1
       clear hch hc hn
       by_cases hx : (E k).id = id
       ·have HE : Hid (R = k):=aiS (by rw [← hR.out,iN.out,if_pos hx,if_pos hlt])
        rw [show ((E k).id == id) = true by simpa using hx] at f1
        clear iN hx
        generalize E k = e at *
        obtain ⟨eH,px,py,pz,vx,vy,vz,aJ,gen⟩:=e
        dsimp only at c0 c1 c2 c3 c4 c5 c6 c7 c8 f1
        go_wp2_with fail
        refine f1.mono ?_;rintro e w2 ⟨rfl,hb2⟩
        have HB2:=aiS (HB.out.trans (hb2.mono hsz));clear hb2 c0 c1 c2 c3 c4 c5 c6 c7 c8
        go_wp2
        go_ret
        exact ⟨aR HE.out.symm,HB2.out⟩
       ·have HE : Hid (jC E id len 0 = jC E id n (k + 1)):=aiS (by rw [iN.out,if_neg hx])
        rw [show ((E k).id == id) = false by simpa using hx] at f1
        clear iN hx
        generalize E k = e at *
        obtain ⟨eH,px,py,pz,vx,vy,vz,aJ,gen⟩:=e
        dsimp only at c0 c1 c2 c3 c4 c5 c6 c7 c8 f1
        go_wp2_with fail
        refine f1.mono ?_;rintro e w2 ⟨rfl,hb2⟩
        have HB2:=aiS (HB.out.trans (hb2.mono hsz));clear hb2 c0 c1 c2 c3 c4 c5 c6 c7 c8
        go_wp2
        go_roundw
        case rel=>exact ⟨k + 1,by omega,by go_num,by rw [hn2];exact HE.out,HB2.out⟩
        case measure=>simp [intOf];omega)
   ·obtain rfl : k = len:=by omega
    have HE : Hid (R = -1):=aiS (by rw [← hR.out,hch,Nat.sub_self,jC,if_neg (Nat.lt_irrefl _)])
    clear hch
    go_wp2
    go_ret
    exact ⟨aR HE.out.symm,hB⟩
theorem PY (a : Option Addr) (len cap : Nat) (E : Nat -> aB) (id : Int) (c : Nat) (w : World) (h : dw w a len E) (hid : w.cell? ⟨c,0,none⟩ = some (.int .i64 id)) (hcl : c < w.heap.size) (hl : (len : Int) <= 4611686018427387904) :
 Calls Tryz.prog 55 #[.slice a len cap,.func (.func 56) #[] #[.pointer (some ⟨c,0,none⟩)]] w λe w'=>e = .returned (.int .i64 (if jC E id len 0 < len then (jC E id len 0 : Int) else -1)) /\ Below w.heap.size w w' :=
 Jj a len cap E id c _ (aiS rfl) w h hid hcl hl
end Go.Proofs.YtklkooeimkedgaaGreat
