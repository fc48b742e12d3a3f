/- Walk of TopBeyond. -/
import Derived.Ground.SlsfProg
import Derived.Shelf.SlSortCmp.NoneTotal
import Derived.Shelf.SlSortCmp.WholeK
import Derived.Test.YtklkooeimkedgaaGreatB38
set_option linter.unusedVariables false
set_option linter.unusedSimpArgs false
namespace Go.Proofs.YtklkooeimkedgaaGreat
open Go.RowKit Go.Shelf Go.Lib Go.Sort
set_option maxRecDepth 100000
def Tryz.sortE_ren : Go.Shelf.Ren:=⟨fun | 6=>201 | 15=>106 | 14=>212 | 28=>149 | 29=>150 | 20=>214 | 21=>215 | 22=>216 | 23=>217 | 24=>218 | 25=>219 | 26=>220 | 27=>221 | 46=>222 | 47=>186 | 48=>187 | 49=>223 | 50=>224 | 57=>225 | n=>n,fun | 22=>34 | 24=>33 | 25=>271 | 3=>3 | 39=>118 | 0=>0 | 53=>154 | 55=>114 | 4=>4 | 46=>245 | 45=>244 | 50=>217 | 5=>5 | 9=>9 | 66=>286 | 70=>290 | 76=>304 | 77=>305 | n=>n,fun | n=>n⟩
theorem Tryz.sortE : Go.Proofs.SlLaysF0.n6 Tryz.prog Tryz.sortE_ren:={
 mixed:=by kernel_rfl
 f6:=⟨Tryz.f201.name,by decide,Tryz.func201.trans (congrArg some (by kernel_rfl))⟩
 f14:=⟨Tryz.f212.name,by decide,Tryz.func212.trans (congrArg some (by kernel_rfl))⟩
 f15:=Tryz.func106.trans (congrArg some (by kernel_rfl))
 f20:=⟨Tryz.f214.name,by decide,Tryz.func214.trans (congrArg some (by kernel_rfl))⟩
 f21:=⟨Tryz.f215.name,by decide,Tryz.func215.trans (congrArg some (by kernel_rfl))⟩
 f22:=⟨Tryz.f216.name,by decide,Tryz.func216.trans (congrArg some (by kernel_rfl))⟩
 f23:=⟨Tryz.f217.name,by decide,Tryz.func217.trans (congrArg some (by kernel_rfl))⟩
 f24:=⟨Tryz.f218.name,by decide,Tryz.func218.trans (congrArg some (by kernel_rfl))⟩
 f25:=⟨Tryz.f219.name,by decide,Tryz.func219.trans (congrArg some (by kernel_rfl))⟩
 f26:=⟨Tryz.f220.name,by decide,Tryz.func220.trans (congrArg some (by kernel_rfl))⟩
 f27:=⟨Tryz.f221.name,by decide,Tryz.func221.trans (congrArg some (by kernel_rfl))⟩
 f28:=Tryz.func149.trans (congrArg some (by kernel_rfl))
 f29:=Tryz.func150.trans (congrArg some (by kernel_rfl))
 f46:=⟨Tryz.f222.name,by decide,Tryz.func222.trans (congrArg some (by kernel_rfl))⟩
 f47:=Tryz.func186.trans (congrArg some (by kernel_rfl))
 f48:=Tryz.func187.trans (congrArg some (by kernel_rfl))
 f49:=⟨Tryz.f223.name,by decide,Tryz.func223.trans (congrArg some (by kernel_rfl))⟩
 f50:=⟨Tryz.f224.name,by decide,Tryz.func224.trans (congrArg some (by kernel_rfl))⟩
 f57:=⟨Tryz.f225.name,by decide,Tryz.func225.trans (congrArg some (by kernel_rfl))⟩
 t0:=Tryz.underlying0
 a0:=Tryz.isAgg0
 z0:=Tryz.sizeOf0
 v0:=Tryz.zeroValue0
 t3:=Tryz.underlying3
 a3:=Tryz.isAgg3
 z3:=Tryz.sizeOf3
 v3:=Tryz.zeroValue3
 t4:=Tryz.underlying4
 a4:=Tryz.isAgg4
 z4:=Tryz.sizeOf4
 v4:=Tryz.zeroValue4
 t5:=Tryz.underlying5
 a5:=Tryz.isAgg5
 z5:=Tryz.sizeOf5
 v5:=Tryz.zeroValue5
 t9:=Tryz.underlying9
 a9:=Tryz.isAgg9
 z9:=Tryz.sizeOf9
 v9:=Tryz.zeroValue9
 t22:=Tryz.underlying34
 a22:=Tryz.isAgg34
 z22:=Tryz.sizeOf34
 v22:=Tryz.zeroValue34
 t25:=Tryz.underlying271
 a25:=Tryz.isAgg271
 z25:=Tryz.sizeOf271
 v25:=Tryz.zeroValue271
 t39:=Tryz.underlying118
 a39:=Tryz.isAgg118
 z39:=Tryz.sizeOf118
 v39:=Tryz.zeroValue118
 t45:=Tryz.underlying244
 a45:=Tryz.isAgg244
 z45:=Tryz.sizeOf244
 v45:=Tryz.zeroValue244
 t46:=Tryz.underlying245
 a46:=Tryz.isAgg245
 z46:=Tryz.sizeOf245
 v46:=Tryz.zeroValue245
 t50:=Tryz.underlying217
 a50:=Tryz.isAgg217
 z50:=Tryz.sizeOf217
 v50:=Tryz.zeroValue217
 t53:=Tryz.underlying154
 a53:=Tryz.isAgg154
 z53:=Tryz.sizeOf154
 v53:=Tryz.zeroValue154
 t55:=Tryz.underlying114
 a55:=Tryz.isAgg114
 z55:=Tryz.sizeOf114
 v55:=Tryz.zeroValue114
 t66:=Tryz.underlying286
 a66:=Tryz.isAgg286
 z66:=Tryz.sizeOf286
 v66:=Tryz.zeroValue286
 t70:=Tryz.underlying290
 a70:=Tryz.isAgg290
 z70:=Tryz.sizeOf290
 v70:=Tryz.zeroValue290
 t76:=Tryz.underlying304
 a76:=Tryz.isAgg304
 z76:=Tryz.sizeOf304
 v76:=Tryz.zeroValue304
 t77:=Tryz.underlying305
 a77:=Tryz.isAgg305
 z77:=Tryz.sizeOf305
 v77:=Tryz.zeroValue305 }
def Tryz.sortR_ren : Go.Shelf.Ren:=⟨fun | 6=>71 | 15=>106 | 14=>105 | 28=>149 | 29=>150 | 20=>141 | 21=>142 | 22=>143 | 23=>144 | 24=>145 | 25=>146 | 26=>147 | 27=>148 | 46=>185 | 47=>186 | 48=>187 | 49=>188 | 50=>189 | 57=>204 | n=>n,fun | 22=>37 | 24=>147 | 25=>152 | 3=>3 | 39=>118 | 0=>0 | 53=>154 | 55=>114 | 4=>4 | 46=>245 | 45=>244 | 50=>217 | 5=>5 | 9=>9 | 66=>286 | 70=>290 | 76=>304 | 77=>305 | n=>n,fun | n=>n⟩
theorem Tryz.sortR : Go.Proofs.SlLaysF0.n6 Tryz.prog Tryz.sortR_ren:={
 mixed:=by kernel_rfl
 f6:=⟨Tryz.f71.name,by decide,Tryz.func71.trans (congrArg some (by kernel_rfl))⟩
 f14:=⟨Tryz.f105.name,by decide,Tryz.func105.trans (congrArg some (by kernel_rfl))⟩
 f15:=Tryz.func106.trans (congrArg some (by kernel_rfl))
 f20:=⟨Tryz.f141.name,by decide,Tryz.func141.trans (congrArg some (by kernel_rfl))⟩
 f21:=⟨Tryz.f142.name,by decide,Tryz.func142.trans (congrArg some (by kernel_rfl))⟩
 f22:=⟨Tryz.f143.name,by decide,Tryz.func143.trans (congrArg some (by kernel_rfl))⟩
 f23:=⟨Tryz.f144.name,by decide,Tryz.func144.trans (congrArg some (by kernel_rfl))⟩
 f24:=⟨Tryz.f145.name,by decide,Tryz.func145.trans (congrArg some (by kernel_rfl))⟩
 f25:=⟨Tryz.f146.name,by decide,Tryz.func146.trans (congrArg some (by kernel_rfl))⟩
 f26:=⟨Tryz.f147.name,by decide,Tryz.func147.trans (congrArg some (by kernel_rfl))⟩
 f27:=⟨Tryz.f148.name,by decide,Tryz.func148.trans (congrArg some (by kernel_rfl))⟩
 f28:=Tryz.func149.trans (congrArg some (by kernel_rfl))
 f29:=Tryz.func150.trans (congrArg some (by kernel_rfl))
 f46:=⟨Tryz.f185.name,by decide,Tryz.func185.trans (congrArg some (by kernel_rfl))⟩
 f47:=Tryz.func186.trans (congrArg some (by kernel_rfl))
 f48:=Tryz.func187.trans (congrArg some (by kernel_rfl))
 f49:=⟨Tryz.f188.name,by decide,Tryz.func188.trans (congrArg some (by kernel_rfl))⟩
 f50:=⟨Tryz.f189.name,by decide,Tryz.func189.trans (congrArg some (by kernel_rfl))⟩
 f57:=⟨Tryz.f204.name,by decide,Tryz.func204.trans (congrArg some (by kernel_rfl))⟩
 t0:=Tryz.underlying0
 a0:=Tryz.isAgg0
 z0:=Tryz.sizeOf0
 v0:=Tryz.zeroValue0
 t3:=Tryz.underlying3
 a3:=Tryz.isAgg3
 z3:=Tryz.sizeOf3
 v3:=Tryz.zeroValue3
 t4:=Tryz.underlying4
 a4:=Tryz.isAgg4
 z4:=Tryz.sizeOf4
 v4:=Tryz.zeroValue4
 t5:=Tryz.underlying5
 a5:=Tryz.isAgg5
 z5:=Tryz.sizeOf5
 v5:=Tryz.zeroValue5
 t9:=Tryz.underlying9
 a9:=Tryz.isAgg9
 z9:=Tryz.sizeOf9
 v9:=Tryz.zeroValue9
 t22:=Tryz.underlying37
 a22:=Tryz.isAgg37
 z22:=Tryz.sizeOf37
 v22:=Tryz.zeroValue37
 t25:=Tryz.underlying152
 a25:=Tryz.isAgg152
 z25:=Tryz.sizeOf152
 v25:=Tryz.zeroValue152
 t39:=Tryz.underlying118
 a39:=Tryz.isAgg118
 z39:=Tryz.sizeOf118
 v39:=Tryz.zeroValue118
 t45:=Tryz.underlying244
 a45:=Tryz.isAgg244
 z45:=Tryz.sizeOf244
 v45:=Tryz.zeroValue244
 t46:=Tryz.underlying245
 a46:=Tryz.isAgg245
 z46:=Tryz.sizeOf245
 v46:=Tryz.zeroValue245
 t50:=Tryz.underlying217
 a50:=Tryz.isAgg217
 z50:=Tryz.sizeOf217
 v50:=Tryz.zeroValue217
 t53:=Tryz.underlying154
 a53:=Tryz.isAgg154
 z53:=Tryz.sizeOf154
 v53:=Tryz.zeroValue154
 t55:=Tryz.underlying114
 a55:=Tryz.isAgg114
 z55:=Tryz.sizeOf114
 v55:=Tryz.zeroValue114
 t66:=Tryz.underlying286
 a66:=Tryz.isAgg286
 z66:=Tryz.sizeOf286
 v66:=Tryz.zeroValue286
 t70:=Tryz.underlying290
 a70:=Tryz.isAgg290
 z70:=Tryz.sizeOf290
 v70:=Tryz.zeroValue290
 t76:=Tryz.underlying304
 a76:=Tryz.isAgg304
 z76:=Tryz.sizeOf304
 v76:=Tryz.zeroValue304
 t77:=Tryz.underlying305
 a77:=Tryz.isAgg305
 z77:=Tryz.sizeOf305
 v77:=Tryz.zeroValue305 }
theorem CP {α : Type} {enc : α -> List Value} (hk : ∀ x,(enc x).length = 9) : ∀ (d : List α) (i : Nat) (x : α),d[i]? = some x -> ∀ j,j < 9 -> (d.flatMap enc)[i * 9 + j]? = (enc x)[j]?
 | [],i,r,h,_,_=>by simp at h
 | y :: d,0,x,h,j,hj=>by
   simp at h;subst h
   rw [List.flatMap_cons,List.getElem?_append_left (by rw [hk];omega)]
   congr 1;omega
 | y :: d,i + 1,x,h,j,hj=>by
   have h' : d[i]? = some x:=by simpa using h
   rw [List.flatMap_cons,List.getElem?_append_right (by rw [hk];omega),hk,show (i + 1) * 9 + j - 9 = i * 9 + j by omega]
   exact CP hk d i x h' j hj
theorem qE {α : Type} {enc : α -> List Value} (hk : ∀ x,(enc x).length = 9) : ∀ d : List α,(d.flatMap enc).length = d.length * 9
 | []=>rfl
 | x :: d=>by rw [List.flatMap_cons,List.length_append,hk,qE hk d,List.length_cons];omega
section
variable {α : Type} [Inhabited α] {enc : α -> List Value}
theorem Dy (hk : ∀ x,(enc x).length = 9) (d : List α) (t : Nat) (ht : t < d.length * 9) : (d.flatMap enc)[t]? = some ((flatK enc 9 d.toArray)[t]!):=by
 have hi : t / 9 < d.length:=by omega
 have hx : d[t / 9]? = some d[t / 9]:=List.getElem?_eq_getElem hi
 have h:=CP hk d (t / 9) _ hx (t % 9) (by omega)
 rw [show t / 9 * 9 + t % 9 = t by omega] at h
 rw [h,get_flatK enc 9 _ t (by simpa using ht)]
 have e1 : d.toArray[t / 9]! = d[t / 9]:=by
  rw [getElem!_pos d.toArray (t / 9) (by simpa using hi)];simp
 rw [e1]
 have hj : t % 9 < (enc d[t / 9]).length:=by rw [hk];omega
 rw [List.getElem?_eq_getElem hj,getElem!_pos (enc d[t / 9]) (t % 9) hj]
theorem GZ (hk : ∀ x,(enc x).length = 9) {w : World} {base g cap : Nat} {t : TypeId} {d : List α} (h : w.ownsRow base t 9 (.slice (some ⟨g,0,none⟩) d.length cap) d.length (d.flatMap enc)) : HoldsK enc 9 w g 0 d.toArray:=by
 have hc:=λhg=>h.cells (g:=g) hg
 intro j hj
 have hj' : j < d.length * 9:=by simpa using hj
 rw [Nat.zero_add]
 have ha : (⟨g,0,none⟩ : Addr).add j = ⟨g,j,none⟩:=by unfold Addr.add;split <;> simp_all
 refine ⟨by rw [← ha];exact hc rfl j _ (Dy hk d j hj'),?_⟩
 obtain ⟨_,⟨e,_⟩ | ⟨g',c,cur,e,_,hh,_⟩⟩:=h
 ·cases e
 ·cases e
  exact (show ak w g cur t from hh).free j
theorem E8 (hk : ∀ x,(enc x).length = 9) {w : World} {base g cap : Nat} {t : TypeId} {d d' : List α} (h : w.ownsRow base t 9 (.slice (some ⟨g,0,none⟩) d.length cap) d.length (d.flatMap enc)) (hl : d'.length = d.length) (n : Nat) (os : Array Obj) :
 (sortWorldK enc 9 w g 0 n d'.toArray os).ownsRow base t 9 (.slice (some ⟨g,0,none⟩) d.length cap) d'.length (d'.flatMap enc) /\ Only (λk=>k = g) w (sortWorldK enc 9 w g 0 n d'.toArray os):=by
 obtain ⟨h1,⟨e,_⟩ | ⟨g',c,cur,e,hb,hh,hc,hm,hs,ht⟩⟩:=h
 ·cases e
 ·cases e
  have hgl : g < w.heap.size:=(Array.getElem?_eq_some_iff.1 hh).1
  have hblk : (sortWorldK enc 9 w g 0 n d'.toArray os).heap[g]? = some (.cells (putCells id 0 (flatK enc 9 d'.toArray) cur) t (0,0)):=by
   show (((Sort.ahead w n).heap.modify g _) ++ os)[g]? = _
   rw [Array.getElem?_append_left (by simpa using hgl),Array.getElem?_modify,if_pos rfl]
   show Option.map _ (w.heap[g]?) = _
   rw [hh];rfl
  refine ⟨⟨by rw [qE hk],.inr ⟨g,cap,_,by rw [hl],hb,hblk,by omega,hm,by simp [putCells,hs],?_⟩⟩,⟨rfl,rfl,rfl,?_,λk hk' hne=>?_⟩⟩
  ·apply List.ext_getElem?
   intro i
   rw [List.getElem?_take]
   by_cases hi : i < d'.length * 9
   ·rw [if_pos hi,Dy hk d' i hi]
    simp only [putCells,Array.getElem?_toList,Array.getElem?_mapIdx]
    have hic : i < cur.size:=by rw [hs];have:=Nat.mul_le_mul_right 9 hc;omega
    rw [Array.getElem?_eq_getElem hic]
    simp only [Option.map_some,Nat.zero_add,Nat.zero_le,true_and,size_flatK,List.size_toArray,hi,if_true,Nat.sub_zero,id]
   ·rw [if_neg hi,List.getElem?_eq_none (by rw [qE hk];omega)]
  ·show w.heap.size <= (((Sort.ahead w n).heap.modify g _) ++ os).size
   simp
  ·show (((Sort.ahead w n).heap.modify g _) ++ os)[k]? = _
   rw [Array.getElem?_append_left (by simpa using hk'),Array.getElem?_modify,if_neg (λh=>hne h.symm)]
   rfl
end
theorem Rb (a b : Int) (w : World) : Calls Tryz.prog 73 #[.int .i64 a,.int .i64 b] w λe w'=>e = .returned (.int .i64 (Lib.compareInt a b)) /\ w = w':=by
 have hn : ∀ (x : Int) w,Calls Tryz.prog 107 #[.int .i64 x] w λe w'=>e = .returned (.bool false) /\ w = w':=λx w=>by
  go_enter Tryz.func107,Tryz.ntmps107
  go_wp2
  go_ret
  exact ⟨rfl,rfl⟩
 unfold Lib.compareInt
 by_cases h1 : a < b
 ·rw [if_pos h1]
  go_enter Tryz.func73,Tryz.ntmps73
  go_wp2_with fail
  refine (hn _ _).mono ?_;rintro e w1 ⟨rfl,rfl⟩
  go_wp2_with fail
  refine (hn _ _).mono ?_;rintro e w1 ⟨rfl,rfl⟩
  go_wp2
  go_ret
  exact ⟨rfl,rfl⟩
 ·rw [if_neg h1]
  by_cases h2 : b < a
  ·rw [if_pos h2]
   go_enter Tryz.func73,Tryz.ntmps73
   go_wp2_with fail
   refine (hn _ _).mono ?_;rintro e w1 ⟨rfl,rfl⟩
   go_wp2_with fail
   refine (hn _ _).mono ?_;rintro e w1 ⟨rfl,rfl⟩
   go_wp2
   go_ret
   exact ⟨rfl,rfl⟩
  ·rw [if_neg h2]
   go_enter Tryz.func73,Tryz.ntmps73
   go_wp2_with fail
   refine (hn _ _).mono ?_;rintro e w1 ⟨rfl,rfl⟩
   go_wp2_with fail
   refine (hn _ _).mono ?_;rintro e w1 ⟨rfl,rfl⟩
   go_wp2
   go_ret
   exact ⟨rfl,rfl⟩
end Go.Proofs.YtklkooeimkedgaaGreat
namespace Go.Proofs.YtklkooeimkedgaaGreat
open Go.RowKit Go.Shelf Go.Lib Go.Sort
set_option maxRecDepth 100000
instance : Inhabited aB:=⟨bK⟩
instance : Inhabited Rec:=⟨F7⟩
theorem IU {α : Type} (f : α -> Int) (x y : α) : ltOf (λx y : α=>Lib.compareInt (f x) (f y)) x y = decide (f x < f y):=by
 unfold ltOf Lib.compareInt
 by_cases h1 : f x < f y
 ·simp [h1]
 ·by_cases h2 : f y < f x <;> simp [h1,h2]
theorem Rf {α : Type} (f : α -> Int) : SWO (ltOf λx y : α=>Lib.compareInt (f x) (f y)) where
 irrefl x:=by rw [IU];simp
 trans x y z h1 h2:=by rw [IU] at *;simp at *;omega
 ntrans x y z h1 h2:=by rw [IU] at *;simp at *;omega
theorem Dz {α : Type} [Inhabited α] (f : α -> Int) (d : Array α) (h : SortedIn (ltOf λx y : α=>Lib.compareInt (f x) (f y)) 0 d.size d) : d.toList.Pairwise (λa b=>f a <= f b):=by
 rw [List.pairwise_iff_getElem]
 intro i j hi hj hij
 have hi' : i < d.size:=by simpa using hi
 have hj' : j < d.size:=by simpa using hj
 have:=h i j (Nat.zero_le _) hij hj'
 rw [IU] at this
 rw [getElem!_pos d i hi',getElem!_pos d j hj'] at this
 simp at this ⊢
 exact this
theorem abP (x y : aB) (W : World) : Calls Tryz.prog 173 #[.agg (jZ x).toArray,.agg (jZ y).toArray] W λe w'=>e = .returned (.int .i64 (Lib.compareInt x.id y.id)) /\ ∃ q os',w' = grow (W.drewN q) os':=by
 have hcon:=λW'=>Rb x.id y.id W'
 generalize hr : Lib.compareInt x.id y.id = r at *
 clear hr
 unfold jZ
 go_enter Tryz.func173,Tryz.ntmps173
 go_wp2_with fail
 refine (hcon _).mono ?_;rintro e w' ⟨rfl,rfl⟩
 go_wp2
 go_ret
 exact ⟨rfl,0,_,by rw [alloc_eq_grow,alloc_eq_grow,grow_grow];rfl⟩
theorem Od (x : aB) : (jZ x).length = 9:=rfl
theorem aeP (x : aB) : ∀ v ∈ jZ x,v.oneCell' = true:=by intro u hu;simp [jZ] at hu;rcases hu with rfl | rfl | rfl | rfl | rfl | rfl | rfl | rfl | rfl <;> rfl
set_option maxHeartbeats 1000000 in
theorem XR (v : Value) (base : Nat) (es : List aB) (w : World) (h : aM w base v es) (hl : es.length < 4611686018427387904) :
 Calls Tryz.prog 201 #[v,.func (.func 173) #[] #[]] w λe w'=>e = .returned (.tuple #[]) /\ ∃ es',es'.Perm es /\ es'.Pairwise (λa b=>a.id <= b.id) /\ aM w' base v es' /\ Only (λk=>v.ownBlock = some k) w w':=by
 have hh:=h
 obtain ⟨_,⟨rfl,hn⟩ | ⟨g,cap,cur,rfl,a,b,c⟩⟩:=h
 ·have : es = []:=List.eq_nil_of_length_eq_zero hn
  subst this
  have hc:=AnyF.slices_SortFunc_none Tryz.sortE none 0 (.func (.func 173) #[] #[]) w
  change Calls Tryz.prog 201 _ _ _ at hc
  exact hc.mono λe w' ⟨h1,h2⟩=>⟨h1,[],List.Perm.refl _,List.Pairwise.nil,by rw [h2];exact hh,by rw [h2];exact Only.refl _ _⟩
 ·have eg : ∀ args w,(callFunc 173 args).run Tryz.prog w = .ok (.enter 173 args) w:=enters_of Tryz.func173 (by kernel_rfl) rfl
  have hgl : g < w.heap.size:=(Array.getElem?_eq_some_iff.1 b).1
  have hc:=AnyQ.slices_SortFunc Tryz.sortE 9 Tryz.isAgg33 Tryz.sizeOf33 jZ Od aeP (λx y : aB=>Lib.compareInt x.id y.id) (Rf (λx : aB=>x.id)) 173 #[] g 0 cap es.toArray w eg (λ_ _ _ _ x y=>abP x y _) (GZ Od hh) hgl (by simpa using hl)
  change Calls Tryz.prog 201 _ _ _ at hc
  rw [show es.toArray.size = es.length by simp] at hc
  refine hc.mono ?_
  rintro e w' ⟨rfl,d',n,os,hp,hs,rfl⟩
  have hsz : d'.size = es.length:=by have:=hp.1;simpa using this
  have hperm : d'.toList.Perm es:=by
   have:=hp.2.2
   rw [show d'.extract 0 es.length = d' by rw [← hsz];simp,show es.toArray.extract 0 es.length = es.toArray by simp] at this
   simpa using this
  have hso : d'.toList.Pairwise (λa b=>a.id <= b.id):=Dz (λx : aB=>x.id) d' (by rw [hsz];exact hs)
  have hr:=E8 Od hh (d':=d'.toList) (by simpa using hsz) n os
  rw [show d'.toList.toArray = d' by simp] at hr
  refine ⟨rfl,d'.toList,hperm,hso,?_,hr.2.weaken (λk _ hk=>by subst hk;rfl)⟩
  have h1:=hr.1
  unfold aM
  rw [show d'.toList.length = es.length by simpa using hsz] at h1 ⊢
  exact h1
def ji (w : World) (base : Nat) (v : Value) (rs : List Rec) : Prop:=w.ownsRow base 147 9 v rs.length (rs.flatMap oI)
theorem abQ (x y : Rec) (W : World) : Calls Tryz.prog 72 #[.agg (oI x).toArray,.agg (oI y).toArray] W λe w'=>e = .returned (.int .i64 (Lib.compareInt x.id y.id)) /\ ∃ q os',w' = grow (W.drewN q) os':=by
 have hcon:=λW'=>Rb x.id y.id W'
 generalize hr : Lib.compareInt x.id y.id = r at *
 clear hr
 unfold oI
 go_enter Tryz.func72,Tryz.ntmps72
 go_wp2_with fail
 refine (hcon _).mono ?_;rintro e w' ⟨rfl,rfl⟩
 go_wp2
 go_ret
 exact ⟨rfl,0,_,by rw [alloc_eq_grow,alloc_eq_grow,grow_grow];rfl⟩
theorem Oe (x : Rec) : (oI x).length = 9:=rfl
theorem aeQ (x : Rec) : ∀ v ∈ oI x,v.oneCell' = true:=by intro u hu;simp [oI] at hu;rcases hu with rfl | rfl | rfl | rfl | rfl | rfl | rfl | rfl | rfl <;> rfl
set_option maxHeartbeats 1000000 in
theorem XT (v : Value) (base : Nat) (es : List Rec) (w : World) (h : ji w base v es) (hl : es.length < 4611686018427387904) :
 Calls Tryz.prog 71 #[v,.func (.func 72) #[] #[]] w λe w'=>e = .returned (.tuple #[]) /\ ∃ es',es'.Perm es /\ es'.Pairwise (λa b=>a.id <= b.id) /\ ji w' base v es' /\ Only (λk=>v.ownBlock = some k) w w':=by
 have hh:=h
 obtain ⟨_,⟨rfl,hn⟩ | ⟨g,cap,cur,rfl,a,b,c⟩⟩:=h
 ·have : es = []:=List.eq_nil_of_length_eq_zero hn
  subst this
  have hc:=AnyF.slices_SortFunc_none Tryz.sortR none 0 (.func (.func 72) #[] #[]) w
  change Calls Tryz.prog 71 _ _ _ at hc
  exact hc.mono λe w' ⟨h1,h2⟩=>⟨h1,[],List.Perm.refl _,List.Pairwise.nil,by rw [h2];exact hh,by rw [h2];exact Only.refl _ _⟩
 ·have eg : ∀ args w,(callFunc 72 args).run Tryz.prog w = .ok (.enter 72 args) w:=enters_of Tryz.func72 (by kernel_rfl) rfl
  have hgl : g < w.heap.size:=(Array.getElem?_eq_some_iff.1 b).1
  have hc:=AnyQ.slices_SortFunc Tryz.sortR 9 Tryz.isAgg147 Tryz.sizeOf147 oI Oe aeQ (λx y : Rec=>Lib.compareInt x.id y.id) (Rf (λx : Rec=>x.id)) 72 #[] g 0 cap es.toArray w eg (λ_ _ _ _ x y=>abQ x y _) (GZ Oe hh) hgl (by simpa using hl)
  change Calls Tryz.prog 71 _ _ _ at hc
  rw [show es.toArray.size = es.length by simp] at hc
  refine hc.mono ?_
  rintro e w' ⟨rfl,d',n,os,hp,hs,rfl⟩
  have hsz : d'.size = es.length:=by have:=hp.1;simpa using this
  have hperm : d'.toList.Perm es:=by
   have:=hp.2.2
   rw [show d'.extract 0 es.length = d' by rw [← hsz];simp,show es.toArray.extract 0 es.length = es.toArray by simp] at this
   simpa using this
  have hso : d'.toList.Pairwise (λa b=>a.id <= b.id):=Dz (λx : Rec=>x.id) d' (by rw [hsz];exact hs)
  have hr:=E8 Oe hh (d':=d'.toList) (by simpa using hsz) n os
  rw [show d'.toList.toArray = d' by simp] at hr
  refine ⟨rfl,d'.toList,hperm,hso,?_,hr.2.weaken (λk _ hk=>by subst hk;rfl)⟩
  have h1:=hr.1
  unfold ji
  rw [show d'.toList.length = es.length by simpa using hsz] at h1 ⊢
  exact h1
end Go.Proofs.YtklkooeimkedgaaGreat
namespace Go.Proofs.YtklkooeimkedgaaGreat
open Go.RowKit Go.Shelf
set_option maxRecDepth 100000
theorem Rh (Bs b : Nat) (ls : List aB) (hls : ls.length <= 1000000) (w : World) (qo : Bs < w.heap.size) (hm : w.cell? ⟨Bs,0,none⟩ = some (.map (some b))) (hM : bW w b ls) :
 Calls Tryz.prog 200 #[.func (.func 202) #[] #[.pointer (some ⟨Bs,0,none⟩)]] w λe w'=>∃ v xs,e = .returned v /\ xs.Perm ls /\ aM w' w.heap.size v xs /\ Below w.heap.size w w':=by
 have ap:=Lp Bs b ls hls w qo hm hM;clear hM hm
 go_enter Tryz.func200,Tryz.ntmps200
 go_wp2_with fail
 refine ap.mono ?_;rintro e w1 ⟨v,xs,rfl,h1,h2,h3⟩
 have H:=aiS (show xs.Perm ls /\ aM w1 w.heap.size v xs /\ Below w.heap.size w w1 from ⟨h1,h2,h3⟩)
 clear ap h1 h2 h3
 go_wp2
 go_ret
 exact ⟨v,xs,rfl,H.out⟩
def DZ (l : List aB) : Prop:=l.Pairwise (λa b=>a.id <= b.id)
theorem Bw (Bs b : Nat) (ls : List aB) (hls : ls.length <= 1000000) (w : World) (qo : Bs < w.heap.size) (hm : w.cell? ⟨Bs,0,none⟩ = some (.map (some b))) (hM : bW w b ls) :
 Calls Tryz.prog 171 #[.func (.func 202) #[] #[.pointer (some ⟨Bs,0,none⟩)],.func (.func 173) #[] #[]] w λe w'=>∃ v xs,e = .returned v /\ xs.Perm ls /\ DZ xs /\ aM w' w.heap.size v xs /\ Below w.heap.size w w':=by
 have ap:=Rh Bs b ls hls w qo hm hM
 have so:=λv base es w h hl=>XR v base es w h hl
 clear hM hm
 go_enter Tryz.func171,Tryz.ntmps171
 go_wp2_with fail
 refine ap.mono ?_;rintro e w1 ⟨v,xs,rfl,h1,h2,h3⟩
 have s1:=so v w.heap.size xs w1 h2 (by have:=h1.length_eq;omega)
 have H:=aiS (show xs.Perm ls /\ aM w1 w.heap.size v xs /\ Below w.heap.size w w1 from ⟨h1,h2,h3⟩)
 clear ap so h1 h2 h3
 go_wp2_with fail
 refine s1.mono ?_;rintro e w2 ⟨rfl,ys,h1,h2,h3,h4⟩
 have hlt:=H.out.2.1.lt;have hsz:=H.out.2.2.size
 have H2:=aiS (show ys.Perm ls /\ DZ ys /\ aM w2 w.heap.size v ys /\ Below w.heap.size w w2 from ⟨h1.trans H.out.1,h2,h3,H.out.2.2.trans (h4.below hsz (λk hk=>(hlt k hk).1))⟩)
 clear s1 h1 h2 h3 h4 hlt H
 go_wp2
 go_ret
 exact ⟨v,ys,rfl,H2.out⟩
theorem Ah : ∀ (xs ys : List aB),xs.Perm ys -> DZ xs -> DZ ys -> (xs.map (·.id)).Nodup -> xs = ys
 | [],ys,h,_,_,_=>by
   have:=h.length_eq
   exact (List.eq_nil_of_length_eq_zero (by simpa using this.symm)).symm
 | x :: xs,[],h,_,_,_=>by have:=h.length_eq;simp at this
 | x :: xs,y :: ys,h,h1,h2,h3=>by
   have a1:=List.pairwise_cons.1 h1;have a2:=List.pairwise_cons.1 h2
   rw [List.map_cons,List.nodup_cons] at h3
   have hxy : x = y:=by
    have hx : x ∈ y :: ys:=h.subset (List.mem_cons_self ..)
    have hy : y ∈ x :: xs:=h.symm.subset (List.mem_cons_self ..)
    rcases List.mem_cons.1 hx with e | hx
    ·exact e
    rcases List.mem_cons.1 hy with e | hy
    ·exact e.symm
    have b1:=a2.1 x hx;have b2:=a1.1 y hy
    have : x.id = y.id:=by omega
    exact absurd (this ▸ List.mem_map_of_mem hy) h3.1
   subst hxy
   rw [Ah xs ys ((List.perm_cons x).1 h) a1.2 a2.2 h3.2]
def fP (w : World) (a : Option Addr) (es : List aB) : Prop:=dw w a es.length (λi=>es.getD i bK)
theorem fP.below {w w' : World} {a : Option Addr} {es : List aB} (h : fP w a es) (hb : Below w.heap.size w w') : fP w' a es:=dw.below h hb
theorem fP.ok {w : World} {a : Option Addr} {es : List aB} (h : fP w a es) : ∀ e ∈ es,e.Ok:=by
 intro e he
 obtain ⟨i,hi,rfl⟩:=List.getElem_of_mem he
 have:=h.1 i hi
 simpa [List.getD,List.getElem?_eq_getElem hi] using this
theorem aM.ents {w : World} {base : Nat} {v : Value} {es : List aB} (h : aM w base v es) (ho : ∀ e ∈ es,e.Ok) : ∃ a c,v = .slice a es.length c /\ fP w a es /\ (a = none -> c = 0) /\ es.length <= c /\ ∀ x,a = some x -> base <= x.block /\ x.block < w.heap.size:=by
 have hlt:=h.lt
 have hc:=λg hg=>h.cells (g:=g) hg
 have Ri : ∀ i,i < es.length -> (es.getD i bK).Ok:=λi hi=>by
  rw [show es.getD i bK = es[i] by simp [List.getD,List.getElem?_eq_getElem hi]]
  exact ho _ (List.getElem_mem hi)
 obtain ⟨h1,⟨rfl,hn⟩ | ⟨g,cap,cur,rfl,a,b,c,d⟩⟩:=h
 ·have : es = []:=List.eq_nil_of_length_eq_zero hn
  subst this
  exact ⟨none,0,rfl,⟨Ri,.inl rfl⟩,λ_=>rfl,Nat.le_refl _,λx hx=>by cases hx⟩
 ·refine ⟨_,cap,rfl,⟨Ri,.inr ⟨g,0,rfl,(hlt g rfl).2,λi hi=>?_⟩⟩,λh=>(by cases h),c,λx hx=>(by cases hx;exact hlt g rfl)⟩
  have hx : es[i]? = some (es.getD i bK):=by simp [List.getD,List.getElem?_eq_getElem hi]
  have hf:=CP (enc:=jZ) (λ_=>rfl) es i _ hx
  have ha : ∀ o,(⟨g,0,none⟩ : Addr).add o = ⟨g,o,none⟩:=λo=>by unfold Addr.add;split <;> simp_all
  have cell : ∀ j u,j < 9 -> (jZ (es.getD i bK))[j]? = some u -> w.cell? ⟨g,i * 9 + j,none⟩ = some u:=λj u hj hu=>by
   rw [← ha];exact hc g rfl _ _ (by rw [hf j hj];exact hu)
  rw [Nat.zero_add]
  exact ⟨cell 0 _ (by decide) rfl,cell 1 _ (by decide) rfl,cell 2 _ (by decide) rfl,cell 3 _ (by decide) rfl,cell 4 _ (by decide) rfl,cell 5 _ (by decide) rfl,cell 6 _ (by decide) rfl,cell 7 _ (by decide) rfl,cell 8 _ (by decide) rfl⟩
@[go_sem] theorem abA {P : Program} (t : TypeId) (w : World) : (Instr.makeMap t none).run P w = .ok (.map (some w.heap.size)) (w.alloc (.map #[] 0)):=rfl
def j4 (es : List aB) : List aB:=es.foldl fG []
set_option maxHeartbeats 1000000 in
theorem Zt (a : Option Addr) (cap : Nat) (es : List aB) (w : World) (h : fP w a es) (hl : (es.length : Int) <= 1000000) :
 Calls Tryz.prog 36 #[.slice a es.length cap] w λe w'=>∃ b,e = .returned (.map (some b)) /\ w.heap.size <= b /\ bW w' b (j4 es) /\ Below w.heap.size w w':=by
 have HB0 : Hid (Below w.heap.size w (w.alloc (.map #[] 0))):=aiS (aiT)
 have HM0:=aiS (bW.new w);have HE:=aiS h;clear h
 go_enter Tryz.func36,Tryz.ntmps36
 go_wp2_with fail
 go_loopw [5,9] (λ_ i wr=>∃ k : Nat,k <= es.length /\ i = .int .i64 k /\ bW wr w.heap.size ((es.take k).foldl fG []) /\ Below w.heap.size w wr /\ w.heap.size < wr.heap.size) (λ_ i _=>es.length - (intOf i).toNat)
 case atStart=>exact ⟨0,Nat.zero_le _,rfl,HM0.out,HB0.out,by simp⟩
 case round =>
  rename_i wr
  obtain ⟨k,hk,rfl,hM,hB,hs⟩:=hrel
  by_cases hlt : k < es.length
  ·have hlt' : (k : Int) < es.length:=by omega
   obtain ⟨b,off,rfl,hbl,hcs⟩ : ∃ b off,a = some ⟨b,off,none⟩ /\ b < w.heap.size /\ ∀ i,i < es.length -> dF w b (off + i * 9) (es.getD i bK):=by
    rcases HE.out.2 with h0 | h0
    ·omega
    ·exact h0
   have hc:=(hcs k hlt)
   obtain ⟨e,he⟩ : ∃ e,es.getD k bK = e:=⟨_,rfl⟩
   rw [he] at hc
   have HT : Hid ((es.take (k + 1)).foldl fG [] = fG ((es.take k).foldl fG []) e):=aiS (by
    rw [List.take_add_one,List.getElem?_eq_getElem hlt,Option.toList_some,List.foldl_append]
    have : es[k] = e:=by rw [← he];simp [List.getD,List.getElem?_eq_getElem hlt]
    rw [this];rfl)
   have hcw : dF wr b (off + k * 9) e:=by
    unfold dF at *
    refine ⟨?_,?_,?_,?_,?_,?_,?_,?_,?_⟩ <;> (rw [hB.cell (by simpa using hbl)];first | exact hc.1 | exact hc.2.1 | exact hc.2.2.1 | exact hc.2.2.2.1 | exact hc.2.2.2.2.1 | exact hc.2.2.2.2.2.1 | exact hc.2.2.2.2.2.2.1 | exact hc.2.2.2.2.2.2.2.1 | exact hc.2.2.2.2.2.2.2.2)
   have hMA:=hM.below (aiU.alloc (Nat.le_refl _) (.cells (bN e) 33)) hM.lt
   obtain ⟨w2,hup,hM2,hO2⟩:=rY hMA e
   have hB2 : Below w.heap.size w w2:=hB.trans (((Below.refl wr.heap.size wr).alloc (Nat.le_refl _) (.cells (bN e) 33)).mono hB.size |>.trans (hO2.below (by simp;omega) (λk hk=>by omega)))
   have hs2 : w.heap.size < w2.heap.size:=Nat.lt_of_lt_of_le (by simp;omega) hO2.size
   have HS:=aiS (show bW w2 w.heap.size ((es.take (k + 1)).foldl fG []) /\ Below w.heap.size w w2 /\ w.heap.size < w2.heap.size from ⟨by rw [HT.out];exact hM2,hB2,hs2⟩)
   obtain ⟨c0,c1,c2,c3,c4,c5,c6,c7,c8⟩:=hcw
   clear hM hB hM2 hO2 hMA hB2 hs2 hc hcs he
   obtain ⟨ei,e1,e2,e3,e4,e5,e6,e7,e8⟩:=e
   unfold bM at hup
   simp only at hup c0 c1 c2 c3 c4 c5 c6 c7 c8
   go_wp2
   go_roundw
   case rel=>exact ⟨k + 1,by omega,by go_num,HS.out⟩
   case measure=>simp [intOf];omega
  ·obtain rfl : k = es.length:=by omega
   rw [List.take_length] at hM
   have HS:=aiS (show bW wr w.heap.size (j4 es) /\ Below w.heap.size w wr from ⟨hM,hB⟩)
   clear hM hB
   go_wp2
   go_ret
   exact ⟨_,rfl,Nat.le_refl _,HS.out⟩
end Go.Proofs.YtklkooeimkedgaaGreat
namespace Go.Proofs.YtklkooeimkedgaaGreat
open Go.RowKit
set_option maxRecDepth 100000
def fH (a : aB) (r : Rec) : aB × Int :=
 if dH r ≠ 0 then (bK,dH r) else if r.id ≠ a.id \/ r.kind = 0 \/ r.kind = 2 then (bK,15) else
 if r.kind = 3 then (⟨a.id,r.px,r.py,r.pz,r.vx,r.vy,r.vz,r.aJ,IntKind.u8.wrap (a.gen + 1)⟩,0) else
 (⟨a.id,IntKind.i64.wrap (a.px + r.px),IntKind.i64.wrap (a.py + r.py),IntKind.i64.wrap (a.pz + r.pz),IntKind.i64.wrap (a.vx + r.vx),IntKind.i64.wrap (a.vy + r.vy),IntKind.i64.wrap (a.vz + r.vz),IntKind.u16.wrap (a.aJ + r.aJ),a.gen⟩,0)
theorem zk {w0 w : World} {b : Nat} {v0 v1 v2 v3 v4 v5 v6 v7 v8 : Value} (h : Below w0.heap.size w0 w) (hb : w0.heap.size <= b) : Below w0.heap.size w0 (((((((((w.setCell ⟨b,0,none⟩ v0).setCell ⟨b,1,none⟩ v1).setCell ⟨b,2,none⟩ v2).setCell ⟨b,3,none⟩ v3).setCell ⟨b,4,none⟩ v4).setCell ⟨b,5,none⟩ v5).setCell ⟨b,6,none⟩ v6).setCell ⟨b,7,none⟩ v7).setCell ⟨b,8,none⟩ v8) :=
 (pR (S:=λ_=>False) (Only.of_below h) (.inr hb)).below (Nat.le_refl _) (λ_ h=>h.elim)
def E9 (w : World) (cells : List (Array Value)) (r : Rec) (k : Nat) (wr : World) : Prop :=
 ∃ q,cells[k]? = some q /\ ak wr w.heap.size q 33 /\ ak wr (w.heap.size + 1) (aX r) 147 /\ ak wr (w.heap.size + 2) #[.int .i64 0,.int .i64 0,.int .i64 0,.int .i64 0,.int .i64 0,.int .i64 0,.int .i64 0,.int .u16 0,.int .u8 0] 33 /\ Below w.heap.size w wr
set_option maxHeartbeats 4000000 in
theorem JZ (a : aB) (r : Rec) (w : World) :
 Calls Tryz.prog 170 #[bM a,lT r] w λe w'=>e = .returned (.tuple #[bM (fH a r).1,.int .i64 (fH a r).2]) /\ Below w.heap.size w w':=by
 have ck:=λw=>JG r w
 have HZ : Hid (fH a r = if dH r ≠ 0 then (bK,dH r) else if r.id ≠ a.id \/ r.kind = 0 \/ r.kind = 2 then (bK,15) else
  if r.kind = 3 then (⟨a.id,r.px,r.py,r.pz,r.vx,r.vy,r.vz,r.aJ,IntKind.u8.wrap (a.gen + 1)⟩,0) else
  (⟨a.id,IntKind.i64.wrap (a.px + r.px),IntKind.i64.wrap (a.py + r.py),IntKind.i64.wrap (a.pz + r.pz),IntKind.i64.wrap (a.vx + r.vx),IntKind.i64.wrap (a.vy + r.vy),IntKind.i64.wrap (a.vz + r.vz),IntKind.u16.wrap (a.aJ + r.aJ),a.gen⟩,0)):=aiS rfl
 have HK : Hid (dH r = 0 -> 0 <= r.kind /\ r.kind <= 3):=aiS (λh=>by unfold dH at h;split at h;cases h;omega)
 generalize fH a r = z at *
 generalize dH r = ce at *
 obtain ⟨ai,a1,a2,a3,a4,a5,a6,aa,ag⟩:=a
 obtain ⟨k,id,px,py,pz,vx,vy,vz,an⟩:=r
 unfold bM lT at *
 simp only at *
 have mI : ak (((w.alloc (.cells #[.int .i64 ai,.int .i64 a1,.int .i64 a2,.int .i64 a3,.int .i64 a4,.int .i64 a5,.int .i64 a6,.int .u16 aa,.int .u8 ag] 33)).alloc (.cells #[.int .i64 k,.int .i64 id,.int .i64 px,.int .i64 py,.int .i64 pz,.int .i64 vx,.int .i64 vy,.int .i64 vz,.int .u16 an] 147)).alloc (.cells #[.int .i64 0,.int .i64 0,.int .i64 0,.int .i64 0,.int .i64 0,.int .i64 0,.int .i64 0,.int .u16 0,.int .u8 0] 33)) w.heap.size #[.int .i64 ai,.int .i64 a1,.int .i64 a2,.int .i64 a3,.int .i64 a4,.int .i64 a5,.int .i64 a6,.int .u16 aa,.int .u8 ag] 33:=((ak.new w _ _).alloc _).alloc _
 have hR0 : ak (((w.alloc (.cells #[.int .i64 ai,.int .i64 a1,.int .i64 a2,.int .i64 a3,.int .i64 a4,.int .i64 a5,.int .i64 a6,.int .u16 aa,.int .u8 ag] 33)).alloc (.cells #[.int .i64 k,.int .i64 id,.int .i64 px,.int .i64 py,.int .i64 pz,.int .i64 vx,.int .i64 vy,.int .i64 vz,.int .u16 an] 147)).alloc (.cells #[.int .i64 0,.int .i64 0,.int .i64 0,.int .i64 0,.int .i64 0,.int .i64 0,.int .i64 0,.int .u16 0,.int .u8 0] 33)) (w.heap.size + 1) #[.int .i64 k,.int .i64 id,.int .i64 px,.int .i64 py,.int .i64 pz,.int .i64 vx,.int .i64 vy,.int .i64 vz,.int .u16 an] 147:=by
  have:=(ak.new (w.alloc (.cells #[.int .i64 ai,.int .i64 a1,.int .i64 a2,.int .i64 a3,.int .i64 a4,.int .i64 a5,.int .i64 a6,.int .u16 aa,.int .u8 ag] 33)) #[.int .i64 k,.int .i64 id,.int .i64 px,.int .i64 py,.int .i64 pz,.int .i64 vx,.int .i64 vy,.int .i64 vz,.int .u16 an] 147).alloc (.cells #[.int .i64 0,.int .i64 0,.int .i64 0,.int .i64 0,.int .i64 0,.int .i64 0,.int .i64 0,.int .u16 0,.int .u8 0] 33)
  rw [show (w.alloc (.cells #[.int .i64 ai,.int .i64 a1,.int .i64 a2,.int .i64 a3,.int .i64 a4,.int .i64 a5,.int .i64 a6,.int .u16 aa,.int .u8 ag] 33)).heap.size = w.heap.size + 1 by simp] at this
  exact this
 have mW : ak (((w.alloc (.cells #[.int .i64 ai,.int .i64 a1,.int .i64 a2,.int .i64 a3,.int .i64 a4,.int .i64 a5,.int .i64 a6,.int .u16 aa,.int .u8 ag] 33)).alloc (.cells #[.int .i64 k,.int .i64 id,.int .i64 px,.int .i64 py,.int .i64 pz,.int .i64 vx,.int .i64 vy,.int .i64 vz,.int .u16 an] 147)).alloc (.cells #[.int .i64 0,.int .i64 0,.int .i64 0,.int .i64 0,.int .i64 0,.int .i64 0,.int .i64 0,.int .u16 0,.int .u8 0] 33)) (w.heap.size + 2) #[.int .i64 0,.int .i64 0,.int .i64 0,.int .i64 0,.int .i64 0,.int .i64 0,.int .i64 0,.int .u16 0,.int .u8 0] 33:=by
  have:=ak.new ((w.alloc (.cells #[.int .i64 ai,.int .i64 a1,.int .i64 a2,.int .i64 a3,.int .i64 a4,.int .i64 a5,.int .i64 a6,.int .u16 aa,.int .u8 ag] 33)).alloc (.cells #[.int .i64 k,.int .i64 id,.int .i64 px,.int .i64 py,.int .i64 pz,.int .i64 vx,.int .i64 vy,.int .i64 vz,.int .u16 an] 147)) #[.int .i64 0,.int .i64 0,.int .i64 0,.int .i64 0,.int .i64 0,.int .i64 0,.int .i64 0,.int .u16 0,.int .u8 0] 33
  rw [show ((w.alloc (.cells #[.int .i64 ai,.int .i64 a1,.int .i64 a2,.int .i64 a3,.int .i64 a4,.int .i64 a5,.int .i64 a6,.int .u16 aa,.int .u8 ag] 33)).alloc (.cells #[.int .i64 k,.int .i64 id,.int .i64 px,.int .i64 py,.int .i64 pz,.int .i64 vx,.int .i64 vy,.int .i64 vz,.int .u16 an] 147)).heap.size = w.heap.size + 2 by simp] at this
  exact this
 have hB0 : Below w.heap.size w (((w.alloc (.cells #[.int .i64 ai,.int .i64 a1,.int .i64 a2,.int .i64 a3,.int .i64 a4,.int .i64 a5,.int .i64 a6,.int .u16 aa,.int .u8 ag] 33)).alloc (.cells #[.int .i64 k,.int .i64 id,.int .i64 px,.int .i64 py,.int .i64 pz,.int .i64 vx,.int .i64 vy,.int .i64 vz,.int .u16 an] 147)).alloc (.cells #[.int .i64 0,.int .i64 0,.int .i64 0,.int .i64 0,.int .i64 0,.int .i64 0,.int .i64 0,.int .u16 0,.int .u8 0] 33)):=((aiT).alloc (by simp) _).alloc (by simp;omega) _
 have uX:=aiS mI;have J3:=aiS hR0;have HZ0:=aiS mW;have HB0:=aiS hB0;clear mI hR0 mW hB0
 go_enter Tryz.func170,Tryz.ntmps170
 go_wp2_with fail
 refine (ck _).mono ?_;rintro e w1 ⟨rfl,hb1⟩
 have hE1:=uX.out.below hb1 uX.out.lt;have oh:=J3.out.below hb1 J3.out.lt;have hA:=HZ0.out.below hb1 HZ0.out.lt;have zl:=aiS hE1;have HR1:=aiS oh;have HA1:=aiS hA
 have HB1:=aiS (HB0.out.trans (hb1.mono (by simp;omega)))
 clear hb1 ck uX J3 HZ0 HB0;have c0:=hA.cell 0;have f0:=hA.free 0;have c1:=hA.cell 1;have f1:=hA.free 1;have c2:=hA.cell 2;have f2:=hA.free 2;have c3:=hA.cell 3;have f3:=hA.free 3;have c4:=hA.cell 4;have f4:=hA.free 4;have c5:=hA.cell 5;have f5:=hA.free 5;have c6:=hA.cell 6;have f6:=hA.free 6;have c7:=hA.cell 7;have f7:=hA.free 7;have c8:=hA.cell 8;have f8:=hA.free 8;simp at c0 c1 c2 c3 c4 c5 c6 c7 c8;have e0:=hE1.cell 0;have x0:=oh.cell 0;have e1:=hE1.cell 1;have x1:=oh.cell 1;have e2:=hE1.cell 2;have x2:=oh.cell 2;have e3:=hE1.cell 3;have x3:=oh.cell 3;have e4:=hE1.cell 4;have x4:=oh.cell 4;have e5:=hE1.cell 5;have x5:=oh.cell 5;have e6:=hE1.cell 6;have x6:=oh.cell 6;have e7:=hE1.cell 7;have x7:=oh.cell 7;have e8:=hE1.cell 8;have x8:=oh.cell 8;simp at e0 e1 e2 e3 e4 e5 e6 e7 e8 x0 x1 x2 x3 x4 x5 x6 x7 x8;clear hE1 oh hA
 by_cases hce : ce = 0
 ·subst hce
  obtain ⟨k0,k3⟩:=HK.out rfl
  by_cases hbad : id ≠ ai \/ k = 0 \/ k = 2
  ·have HV : Hid (z = (bK,15)):=aiS (by rw [HZ.out,if_neg (by simp),if_pos hbad])
   clear HZ HK
   by_cases h1 : id = ai
   ·have h1' : (id != ai) = false:=by simpa using h1
    by_cases h2 : k = 0
    ·subst h2
     clear hbad
     go_wp2
     exact bodyPost_ret (v:=.tuple #[.agg #[.int .i64 0,.int .i64 0,.int .i64 0,.int .i64 0,.int .i64 0,.int .i64 0,.int .i64 0,.int .u16 0,.int .u8 0],.int .i64 15])
      (by have hh:=mH (v0:=.int .i64 0) (v1:=.int .i64 0) (v2:=.int .i64 0) (v3:=.int .i64 0) (v4:=.int .i64 0) (v5:=.int .i64 0) (v6:=.int .i64 0) (v7:=.int .u16 0) (v8:=.int .u8 0) HA1.out
          have g0:=hh.cell 0;have g1:=hh.cell 1;have g2:=hh.cell 2;have g3:=hh.cell 3;have g4:=hh.cell 4;have g5:=hh.cell 5;have g6:=hh.cell 6;have g7:=hh.cell 7;have g8:=hh.cell 8;simp at g0 g1 g2 g3 g4 g5 g6 g7 g8
          simp [results,Tryz.results170,go_sem,g0,g1,g2,g3,g4,g5,g6,g7,g8]) rfl
      ⟨by rw [HV.out];rfl,zk HB1.out (by omega)⟩
    ·have h3 : k = 2:=by omega
     subst h3
     clear hbad
     go_wp2
     exact bodyPost_ret (v:=.tuple #[.agg #[.int .i64 0,.int .i64 0,.int .i64 0,.int .i64 0,.int .i64 0,.int .i64 0,.int .i64 0,.int .u16 0,.int .u8 0],.int .i64 15])
      (by have hh:=mH (v0:=.int .i64 0) (v1:=.int .i64 0) (v2:=.int .i64 0) (v3:=.int .i64 0) (v4:=.int .i64 0) (v5:=.int .i64 0) (v6:=.int .i64 0) (v7:=.int .u16 0) (v8:=.int .u8 0) HA1.out
          have g0:=hh.cell 0;have g1:=hh.cell 1;have g2:=hh.cell 2;have g3:=hh.cell 3;have g4:=hh.cell 4;have g5:=hh.cell 5;have g6:=hh.cell 6;have g7:=hh.cell 7;have g8:=hh.cell 8;simp at g0 g1 g2 g3 g4 g5 g6 g7 g8
          simp [results,Tryz.results170,go_sem,g0,g1,g2,g3,g4,g5,g6,g7,g8]) rfl
      ⟨by rw [HV.out];rfl,zk HB1.out (by omega)⟩
   ·have h1' : (id != ai) = true:=by simpa using h1
    clear hbad
    go_wp2
    exact bodyPost_ret (v:=.tuple #[.agg #[.int .i64 0,.int .i64 0,.int .i64 0,.int .i64 0,.int .i64 0,.int .i64 0,.int .i64 0,.int .u16 0,.int .u8 0],.int .i64 15])
     (by have hh:=mH (v0:=.int .i64 0) (v1:=.int .i64 0) (v2:=.int .i64 0) (v3:=.int .i64 0) (v4:=.int .i64 0) (v5:=.int .i64 0) (v6:=.int .i64 0) (v7:=.int .u16 0) (v8:=.int .u8 0) HA1.out
         have g0:=hh.cell 0;have g1:=hh.cell 1;have g2:=hh.cell 2;have g3:=hh.cell 3;have g4:=hh.cell 4;have g5:=hh.cell 5;have g6:=hh.cell 6;have g7:=hh.cell 7;have g8:=hh.cell 8;simp at g0 g1 g2 g3 g4 g5 g6 g7 g8
         simp [results,Tryz.results170,go_sem,g0,g1,g2,g3,g4,g5,g6,g7,g8]) rfl
     ⟨by rw [HV.out];rfl,zk HB1.out (by omega)⟩
  ·have h1 : id = ai:=by omega
   have h1' : (id != ai) = false:=by simpa using h1
   by_cases hk3 : k = 3
   ·subst hk3
    have HV : Hid (z = (⟨ai,px,py,pz,vx,vy,vz,an,IntKind.u8.wrap (ag + 1)⟩,0)):=aiS (by rw [HZ.out,if_neg (by simp),if_neg hbad,if_pos rfl])
    clear HZ HK hbad
    obtain ⟨gg,hgg⟩ : ∃ gg,IntKind.u8.wrap (ag + 1) = gg:=⟨_,rfl⟩
    rw [hgg] at HV
    go_wp2
    exact bodyPost_ret (v:=.tuple #[.agg #[.int .i64 ai,.int .i64 px,.int .i64 py,.int .i64 pz,.int .i64 vx,.int .i64 vy,.int .i64 vz,.int .u16 an,.int .u8 gg],.int .i64 0])
     (by have hh:=mH (v0:=.int .i64 ai) (v1:=.int .i64 px) (v2:=.int .i64 py) (v3:=.int .i64 pz) (v4:=.int .i64 vx) (v5:=.int .i64 vy) (v6:=.int .i64 vz) (v7:=.int .u16 an) (v8:=.int .u8 gg) HA1.out
         have g0:=hh.cell 0;have g1:=hh.cell 1;have g2:=hh.cell 2;have g3:=hh.cell 3;have g4:=hh.cell 4;have g5:=hh.cell 5;have g6:=hh.cell 6;have g7:=hh.cell 7;have g8:=hh.cell 8;simp at g0 g1 g2 g3 g4 g5 g6 g7 g8
         simp [results,Tryz.results170,go_sem,g0,g1,g2,g3,g4,g5,g6,g7,g8]) rfl
     ⟨by rw [HV.out],zk HB1.out (by omega)⟩
   ·obtain rfl : k = 1:=by omega
    have HV : Hid (z = (⟨ai,IntKind.i64.wrap (a1 + px),IntKind.i64.wrap (a2 + py),IntKind.i64.wrap (a3 + pz),IntKind.i64.wrap (a4 + vx),IntKind.i64.wrap (a5 + vy),IntKind.i64.wrap (a6 + vz),IntKind.u16.wrap (aa + an),ag⟩,0)):=aiS (by rw [HZ.out,if_neg (by simp),if_neg hbad,if_neg hk3])
    clear HZ HK hbad k0 k3 hk3
    obtain ⟨b1,hb1⟩ : ∃ b,IntKind.i64.wrap (a1 + px) = b:=⟨_,rfl⟩
    obtain ⟨b2,hb2⟩ : ∃ b,IntKind.i64.wrap (a2 + py) = b:=⟨_,rfl⟩
    obtain ⟨b3,hb3⟩ : ∃ b,IntKind.i64.wrap (a3 + pz) = b:=⟨_,rfl⟩
    obtain ⟨b4,hb4⟩ : ∃ b,IntKind.i64.wrap (a4 + vx) = b:=⟨_,rfl⟩
    obtain ⟨b5,hb5⟩ : ∃ b,IntKind.i64.wrap (a5 + vy) = b:=⟨_,rfl⟩
    obtain ⟨b6,hb6⟩ : ∃ b,IntKind.i64.wrap (a6 + vz) = b:=⟨_,rfl⟩
    obtain ⟨b7,hb7⟩ : ∃ b,IntKind.u16.wrap (aa + an) = b:=⟨_,rfl⟩
    rw [hb1,hb2,hb3,hb4,hb5,hb6,hb7] at HV
    obtain ⟨c,hc⟩ : ∃ c : List (Array Value),c = [#[.int .i64 ai,.int .i64 a1,.int .i64 a2,.int .i64 a3,.int .i64 a4,.int .i64 a5,.int .i64 a6,.int .u16 aa,.int .u8 ag],#[.int .i64 ai,.int .i64 b1,.int .i64 a2,.int .i64 a3,.int .i64 b4,.int .i64 a5,.int .i64 a6,.int .u16 aa,.int .u8 ag],#[.int .i64 ai,.int .i64 b1,.int .i64 b2,.int .i64 a3,.int .i64 b4,.int .i64 b5,.int .i64 a6,.int .u16 aa,.int .u8 ag],#[.int .i64 ai,.int .i64 b1,.int .i64 b2,.int .i64 b3,.int .i64 b4,.int .i64 b5,.int .i64 b6,.int .u16 aa,.int .u8 ag]]:=⟨_,rfl⟩
    have HC:=aiS hc
    have HS : Hid (E9 w c ⟨1,id,px,py,pz,vx,vy,vz,an⟩ 0 w1):=aiS ⟨_,by rw [HC.out];rfl,zl.out,HR1.out,HA1.out,HB1.out⟩
    clear hc zl HR1 HA1 HB1
    go_wp2_with fail
    clear c0 c1 c2 c3 c4 c5 c6 c7 c8 f0 f1 f2 f3 f4 f5 f6 f7 f8 e0 e1 e2 e3 e4 e5 e6 e7 e8 x0 x1 x2 x3 x4 x5 x6 x7 x8
    go_loopw [7,47] (λ_ i wr=>∃ k : Nat,k <= 3 /\ i = .int .i64 k /\ E9 w c ⟨1,id,px,py,pz,vx,vy,vz,an⟩ k wr) (λ_ i _=>3 - (intOf i).toNat)
    case atStart=>exact ⟨0,by omega,rfl,HS.out⟩
    case round =>
     rename_i wr
     obtain ⟨k,hk,rfl,q,hq,hE,hR,hA,hB⟩:=hrel
     rw [HC.out] at hq
     rcases (show k = 0 \/ k = 1 \/ k = 2 \/ k = 3 by omega) with rfl | rfl | rfl | rfl
     ·cases hq
      unfold aX at hR
      have u0:=hE.cell 1;have u1:=hR.cell 2;simp at u0 u1;have HE:=aiS hE;have HR:=aiS hR;have HA:=aiS hA;have HB:=aiS hB;clear hE hR hA hB
      go_wp2_with fail
      apply bV 11
      case hm=>kernel_rfl
      case hB=>kernel_rfl
      simp only [List.take_succ_cons,List.take_zero,List.drop_succ_cons,List.drop_zero]
      repeat (apply bI;(next=>(intro W hW K hK;have y0:=hW.cell u0;have y1:=hW.cell u1;go_simp;first | exact ⟨Below.refl _ _,hK⟩ | exact hK));(try go_simp))
      refine dK ?_
      intro W1 hW1 _
      have hE1:=HE.out.below hW1 HE.out.lt;have g1:=hE1.free 1;have v1:=hE1.cell 1;simp at v1;have hE2:=hE1.set 1 (.int .i64 b1)
      have hR2:=(HR.out.below hW1 HR.out.lt).far (p:=⟨w.heap.size,1,none⟩) (by show w.heap.size + 1 ≠ w.heap.size;omega) (.int .i64 b1)
      have hA2:=(HA.out.below hW1 HA.out.lt).far (p:=⟨w.heap.size,1,none⟩) (by show w.heap.size + 2 ≠ w.heap.size;omega) (.int .i64 b1)
      have hB2:=(HB.out.trans (Below.mono hW1 HB.out.size)).setCell (p:=⟨w.heap.size,1,none⟩) (Nat.le_refl _) (.int .i64 b1);have u2:=hE2.cell 4;have u3:=hR2.cell 5;simp at u2 u3;have HE:=aiS hE2;have HR:=aiS hR2;have HA:=aiS hA2;have HB:=aiS hB2;clear hE1 hE2 hR2 hA2 hB2 hW1 u0 u1
      go_wp2_with fail
      apply bV 11
      case hm=>kernel_rfl
      case hB=>kernel_rfl
      simp only [List.take_succ_cons,List.take_zero,List.drop_succ_cons,List.drop_zero]
      repeat (apply bI;(next=>(intro W hW K hK;have y0:=hW.cell u2;have y1:=hW.cell u3;go_simp;first | exact ⟨Below.refl _ _,hK⟩ | exact hK));(try go_simp))
      refine dK ?_
      intro W2 hW2 _
      have hE1:=HE.out.below hW2 HE.out.lt;have g1:=hE1.free 4;have v2:=hE1.cell 4;simp at v2
      have HS2 : Hid (E9 w c ⟨1,id,px,py,pz,vx,vy,vz,an⟩ 1 (W2.setCell ⟨w.heap.size,4,none⟩ (.int .i64 b4))):=aiS ⟨_,by rw [HC.out];rfl,by simpa using hE1.set 4 (.int .i64 b4),(HR.out.below hW2 HR.out.lt).far (p:=⟨w.heap.size,4,none⟩) (by show w.heap.size + 1 ≠ w.heap.size;omega) _,(HA.out.below hW2 HA.out.lt).far (p:=⟨w.heap.size,4,none⟩) (by show w.heap.size + 2 ≠ w.heap.size;omega) _,(HB.out.trans (Below.mono hW2 HB.out.size)).setCell (p:=⟨w.heap.size,4,none⟩) (Nat.le_refl _) _⟩
      clear hE1 hW2 HE HR HA HB u2 u3
      go_wp2
      go_roundw
      case rel=>exact ⟨1,by omega,by first | rfl | go_num,HS2.out⟩
      case measure=>simp [intOf]
     ·cases hq
      unfold aX at hR
      have u0:=hE.cell 2;have u1:=hR.cell 3;simp at u0 u1;have HE:=aiS hE;have HR:=aiS hR;have HA:=aiS hA;have HB:=aiS hB;clear hE hR hA hB
      go_wp2_with fail
      apply bV 11
      case hm=>kernel_rfl
      case hB=>kernel_rfl
      simp only [List.take_succ_cons,List.take_zero,List.drop_succ_cons,List.drop_zero]
      repeat (apply bI;(next=>(intro W hW K hK;have y0:=hW.cell u0;have y1:=hW.cell u1;go_simp;first | exact ⟨Below.refl _ _,hK⟩ | exact hK));(try go_simp))
      refine dK ?_
      intro W1 hW1 _
      have hE1:=HE.out.below hW1 HE.out.lt;have g1:=hE1.free 2;have v1:=hE1.cell 2;simp at v1;have hE2:=hE1.set 2 (.int .i64 b2)
      have hR2:=(HR.out.below hW1 HR.out.lt).far (p:=⟨w.heap.size,2,none⟩) (by show w.heap.size + 1 ≠ w.heap.size;omega) (.int .i64 b2)
      have hA2:=(HA.out.below hW1 HA.out.lt).far (p:=⟨w.heap.size,2,none⟩) (by show w.heap.size + 2 ≠ w.heap.size;omega) (.int .i64 b2)
      have hB2:=(HB.out.trans (Below.mono hW1 HB.out.size)).setCell (p:=⟨w.heap.size,2,none⟩) (Nat.le_refl _) (.int .i64 b2);have u2:=hE2.cell 5;have u3:=hR2.cell 6;simp at u2 u3;have HE:=aiS hE2;have HR:=aiS hR2;have HA:=aiS hA2;have HB:=aiS hB2;clear hE1 hE2 hR2 hA2 hB2 hW1 u0 u1
      go_wp2_with fail
      apply bV 11
      case hm=>kernel_rfl
      case hB=>kernel_rfl
      simp only [List.take_succ_cons,List.take_zero,List.drop_succ_cons,List.drop_zero]
      repeat (apply bI;(next=>(intro W hW K hK;have y0:=hW.cell u2;have y1:=hW.cell u3;go_simp;first | exact ⟨Below.refl _ _,hK⟩ | exact hK));(try go_simp))
      refine dK ?_
      intro W2 hW2 _
      have hE1:=HE.out.below hW2 HE.out.lt;have g1:=hE1.free 5;have v2:=hE1.cell 5;simp at v2
      have HS2 : Hid (E9 w c ⟨1,id,px,py,pz,vx,vy,vz,an⟩ 2 (W2.setCell ⟨w.heap.size,5,none⟩ (.int .i64 b5))):=aiS ⟨_,by rw [HC.out];rfl,by simpa using hE1.set 5 (.int .i64 b5),(HR.out.below hW2 HR.out.lt).far (p:=⟨w.heap.size,5,none⟩) (by show w.heap.size + 1 ≠ w.heap.size;omega) _,(HA.out.below hW2 HA.out.lt).far (p:=⟨w.heap.size,5,none⟩) (by show w.heap.size + 2 ≠ w.heap.size;omega) _,(HB.out.trans (Below.mono hW2 HB.out.size)).setCell (p:=⟨w.heap.size,5,none⟩) (Nat.le_refl _) _⟩
      clear hE1 hW2 HE HR HA HB u2 u3
      go_wp2
      go_roundw
      case rel=>exact ⟨2,by omega,by first | rfl | go_num,HS2.out⟩
      case measure=>simp [intOf]
     ·cases hq
      unfold aX at hR
      have u0:=hE.cell 3;have u1:=hR.cell 4;simp at u0 u1;have HE:=aiS hE;have HR:=aiS hR;have HA:=aiS hA;have HB:=aiS hB;clear hE hR hA hB
      go_wp2_with fail
      apply bV 11
      case hm=>kernel_rfl
      case hB=>kernel_rfl
      simp only [List.take_succ_cons,List.take_zero,List.drop_succ_cons,List.drop_zero]
      repeat (apply bI;(next=>(intro W hW K hK;have y0:=hW.cell u0;have y1:=hW.cell u1;go_simp;first | exact ⟨Below.refl _ _,hK⟩ | exact hK));(try go_simp))
      refine dK ?_
      intro W1 hW1 _
      have hE1:=HE.out.below hW1 HE.out.lt;have g1:=hE1.free 3;have v1:=hE1.cell 3;simp at v1;have hE2:=hE1.set 3 (.int .i64 b3)
      have hR2:=(HR.out.below hW1 HR.out.lt).far (p:=⟨w.heap.size,3,none⟩) (by show w.heap.size + 1 ≠ w.heap.size;omega) (.int .i64 b3)
      have hA2:=(HA.out.below hW1 HA.out.lt).far (p:=⟨w.heap.size,3,none⟩) (by show w.heap.size + 2 ≠ w.heap.size;omega) (.int .i64 b3)
      have hB2:=(HB.out.trans (Below.mono hW1 HB.out.size)).setCell (p:=⟨w.heap.size,3,none⟩) (Nat.le_refl _) (.int .i64 b3);have u2:=hE2.cell 6;have u3:=hR2.cell 7;simp at u2 u3;have HE:=aiS hE2;have HR:=aiS hR2;have HA:=aiS hA2;have HB:=aiS hB2;clear hE1 hE2 hR2 hA2 hB2 hW1 u0 u1
      go_wp2_with fail
      apply bV 11
      case hm=>kernel_rfl
      case hB=>kernel_rfl
      simp only [List.take_succ_cons,List.take_zero,List.drop_succ_cons,List.drop_zero]
      repeat (apply bI;(next=>(intro W hW K hK;have y0:=hW.cell u2;have y1:=hW.cell u3;go_simp;first | exact ⟨Below.refl _ _,hK⟩ | exact hK));(try go_simp))
      refine dK ?_
      intro W2 hW2 _
      have hE1:=HE.out.below hW2 HE.out.lt;have g1:=hE1.free 6;have v2:=hE1.cell 6;simp at v2
      have HS2 : Hid (E9 w c ⟨1,id,px,py,pz,vx,vy,vz,an⟩ 3 (W2.setCell ⟨w.heap.size,6,none⟩ (.int .i64 b6))):=aiS ⟨_,by rw [HC.out];rfl,by simpa using hE1.set 6 (.int .i64 b6),(HR.out.below hW2 HR.out.lt).far (p:=⟨w.heap.size,6,none⟩) (by show w.heap.size + 1 ≠ w.heap.size;omega) _,(HA.out.below hW2 HA.out.lt).far (p:=⟨w.heap.size,6,none⟩) (by show w.heap.size + 2 ≠ w.heap.size;omega) _,(HB.out.trans (Below.mono hW2 HB.out.size)).setCell (p:=⟨w.heap.size,6,none⟩) (Nat.le_refl _) _⟩
      clear hE1 hW2 HE HR HA HB u2 u3
      go_wp2
      go_roundw
      case rel=>exact ⟨3,by omega,by first | rfl | go_num,HS2.out⟩
      case measure=>simp [intOf]
     ·cases hq
      unfold aX at hR
      have c0:=hA.cell 0;have f0:=hA.free 0;have c1:=hA.cell 1;have f1:=hA.free 1;have c2:=hA.cell 2;have f2:=hA.free 2;have c3:=hA.cell 3;have f3:=hA.free 3;have c4:=hA.cell 4;have f4:=hA.free 4;have c5:=hA.cell 5;have f5:=hA.free 5;have c6:=hA.cell 6;have f6:=hA.free 6;have c7:=hA.cell 7;have f7:=hA.free 7;have c8:=hA.cell 8;have f8:=hA.free 8;have u0:=hE.cell 7;have u1:=hR.cell 8;have g7:=hE.free 7;simp at u0 u1 c0 c1 c2 c3 c4 c5 c6 c7 c8;have hE2:=hE.set 7 (.int .u16 b7)
      have HA2:=aiS (hA.far (p:=⟨w.heap.size,7,none⟩) (by show w.heap.size + 2 ≠ w.heap.size;omega) (.int .u16 b7))
      have HB2:=aiS (hB.setCell (p:=⟨w.heap.size,7,none⟩) (Nat.le_refl _) (.int .u16 b7));have hA3:=HA2.out;have d0:=hA3.cell 0;have k0:=hA3.free 0;have e0:=hE2.cell 0;have d1:=hA3.cell 1;have k1:=hA3.free 1;have e1:=hE2.cell 1;have d2:=hA3.cell 2;have k2:=hA3.free 2;have e2:=hE2.cell 2;have d3:=hA3.cell 3;have k3:=hA3.free 3;have e3:=hE2.cell 3;have d4:=hA3.cell 4;have k4:=hA3.free 4;have e4:=hE2.cell 4;have d5:=hA3.cell 5;have k5:=hA3.free 5;have e5:=hE2.cell 5;have d6:=hA3.cell 6;have k6:=hA3.free 6;have e6:=hE2.cell 6;have d7:=hA3.cell 7;have k7:=hA3.free 7;have e7:=hE2.cell 7;have d8:=hA3.cell 8;have k8:=hA3.free 8;have e8:=hE2.cell 8;simp at d0 d1 d2 d3 d4 d5 d6 d7 d8 e0 e1 e2 e3 e4 e5 e6 e7 e8;clear hE hR hA hB hE2 hA3
      go_wp2
      exact bodyPost_ret (v:=.tuple #[.agg #[.int .i64 ai,.int .i64 b1,.int .i64 b2,.int .i64 b3,.int .i64 b4,.int .i64 b5,.int .i64 b6,.int .u16 b7,.int .u8 ag],.int .i64 0])
       (by have hh:=mH (v0:=.int .i64 ai) (v1:=.int .i64 b1) (v2:=.int .i64 b2) (v3:=.int .i64 b3) (v4:=.int .i64 b4) (v5:=.int .i64 b5) (v6:=.int .i64 b6) (v7:=.int .u16 b7) (v8:=.int .u8 ag) HA2.out
           have g0:=hh.cell 0;have g1:=hh.cell 1;have g2:=hh.cell 2;have g3:=hh.cell 3;have g4:=hh.cell 4;have g5:=hh.cell 5;have g6:=hh.cell 6;have g7:=hh.cell 7;have g8:=hh.cell 8;simp at g0 g1 g2 g3 g4 g5 g6 g7 g8
           simp [results,Tryz.results170,go_sem,g0,g1,g2,g3,g4,g5,g6,g7,g8]) rfl
       ⟨by rw [HV.out],zk HB2.out (by omega)⟩
 ·have HV : Hid (z = (bK,ce)):=aiS (by rw [HZ.out,if_pos hce])
  have aeR : (ce != 0) = true:=by simpa using hce
  clear HZ HK hce
  go_wp2
  exact bodyPost_ret (v:=.tuple #[.agg #[.int .i64 0,.int .i64 0,.int .i64 0,.int .i64 0,.int .i64 0,.int .i64 0,.int .i64 0,.int .u16 0,.int .u8 0],.int .i64 ce])
   (by have hh:=mH (v0:=.int .i64 0) (v1:=.int .i64 0) (v2:=.int .i64 0) (v3:=.int .i64 0) (v4:=.int .i64 0) (v5:=.int .i64 0) (v6:=.int .i64 0) (v7:=.int .u16 0) (v8:=.int .u8 0) HA1.out
       have g0:=hh.cell 0;have g1:=hh.cell 1;have g2:=hh.cell 2;have g3:=hh.cell 3;have g4:=hh.cell 4;have g5:=hh.cell 5;have g6:=hh.cell 6;have g7:=hh.cell 7;have g8:=hh.cell 8;simp at g0 g1 g2 g3 g4 g5 g6 g7 g8
       simp [results,Tryz.results170,go_sem,g0,g1,g2,g3,g4,g5,g6,g7,g8]) rfl
   ⟨by rw [HV.out];rfl,zk HB1.out (by omega)⟩
end Go.Proofs.YtklkooeimkedgaaGreat
namespace Go.Proofs.YtklkooeimkedgaaGreat
open Go.RowKit
set_option maxRecDepth 100000
structure Sn where
 tick : Int
 time : Int
 ents : List aB
def dD : Sn:=⟨0,0,[]⟩
def fZ (s : Sn) : Int:=dh s.tick s.time s.ents.length (λi=>s.ents.getD i bK)
def uQ (l : List aB) : List aB:=l.mergeSort (λa b=>decide (a.id <= b.id))
theorem xP (l : List aB) : (uQ l).Perm l:=List.mergeSort_perm _ _
theorem MH (l : List aB) : DZ (uQ l):=by
 have:=List.pairwise_mergeSort (le:=λa b : aB=>decide (a.id <= b.id)) (λa b c h1 h2=>by simp at *;omega) (λa b=>by simp;omega) l
 exact this.imp (λh=>by simpa using h)
theorem Gc {xs l : List aB} (hp : xs.Perm l) (hs : DZ xs) (hn : (l.map (·.id)).Nodup) : xs = uQ l :=
 Ah xs (uQ l) (hp.trans (xP l).symm) hs (MH l) ((hp.map (·.id)).nodup_iff.2 hn)
def iV (l : List aB) (r : Rec) : Option (List aB) :=
 match eZ l r.id with
 | some x=>if r.kind = 0 then none else if r.kind = 2 then some (kK l r.id) else some (fG l (fH x r).1)
 | none=>if r.kind = 0 then some (fG l ⟨r.id,r.px,r.py,r.pz,r.vx,r.vy,r.vz,r.aJ,0⟩) else none
def kR : List aB -> List Rec -> Option (List aB)
 | l,[]=>some l
 | l,r :: rs=>match iV l r with
   | none=>none
   | some l'=>kR l' rs
def fD (g : Gr) (l : List aB) : Sn × Int :=
 match kR l g.recs with
 | none=>(dD,15)
 | some l'=>if 64 < l'.length then (dD,4) else (⟨g.tick,g.time,uQ l'⟩,0)
def jo (a : Sn) (g : Gr) : Sn × Int :=
 if dx g ≠ 0 then (dD,dx g) else
 if 0 <= g.base then (if fZ a ≠ 0 then (dD,fZ a) else if a.tick ≠ g.base then (dD,14) else fD g (j4 a.ents)) else fD g []
theorem G8 : ∀ (rs : List Rec) (last : Int),lZ last rs = 0 -> ∀ r ∈ rs,dH r = 0
 | [],_,_,r,h=>by simp at h
 | x :: rs,last,h,r,hr=>by
   unfold lZ at h
   have h1 : gQ x last = 0:=by
    split at h
    ·rename_i hh;exact absurd h hh
    ·rename_i hh;exact Decidable.of_not_not hh
   rw [if_neg (by simpa using h1)] at h
   rcases List.mem_cons.1 hr with rfl | hr
   ·exact (xJ h1).1
   ·exact G8 rs x.id h r hr
theorem Fa {g : Gr} (h : dx g = 0) : ∀ r ∈ g.recs,dH r = 0:=by
 unfold dx at h
 split at h
 ·rename_i hh;exact absurd h hh
 ·exact G8 _ _ h
theorem BF {x : aB} {r : Rec} (hc : dH r = 0) (hid : x.id = r.id) (hk : r.kind ≠ 0) (hk2 : r.kind ≠ 2) : (fH x r).1.id = r.id:=by
 unfold fH
 rw [if_neg (by simpa using hc),if_neg (by omega)]
 split <;> exact hid
theorem Rj {x : aB} {r : Rec} (hx : x.Ok) (hr : r.Ok) : (fH x r).1.Ok:=by
 have MI : ∀ n : Int,ay (IntKind.i64.wrap n):=λn=>by rw [IntKind.wrap_i64];constructor <;> omega
 have w16 : ∀ n : Int,0 <= IntKind.u16.wrap n /\ IntKind.u16.wrap n <= 65535:=λn=>by rw [IntKind.wrap_u16];omega
 have w8 : ∀ n : Int,0 <= IntKind.u8.wrap n /\ IntKind.u8.wrap n <= 255:=λn=>by rw [IntKind.wrap_u8];omega
 have z : bK.Ok:=⟨bB,bB,bB,bB,bB,bB,bB,by decide,by decide⟩
 unfold fH
 split
 ·exact z
 split
 ·exact z
 split
 ·exact ⟨hx.id,hr.px,hr.py,hr.pz,hr.vx,hr.vy,hr.vz,hr.aJ,w8 _⟩
 ·exact ⟨hx.id,MI _,MI _,MI _,MI _,MI _,MI _,w16 _,hx.gen⟩
theorem wF {l : List aB} {e x : aB} (h : x ∈ fG l e) : x ∈ l \/ x = e:=by
 unfold fG at h
 split at h
 ·obtain ⟨y,hy,rfl⟩:=List.mem_map.1 h
  split
  ·exact .inr rfl
  ·exact .inl hy
 ·rcases List.mem_append.1 h with h | h
  ·exact .inl h
  ·simp at h;exact .inr h
theorem D5 {l l' : List aB} {r : Rec} (h : iV l r = some l') (hl : ∀ e ∈ l,e.Ok) (hr : r.Ok) : ∀ e ∈ l',e.Ok:=by
 unfold iV at h
 cases hf : eZ l r.id with
 | some x =>
   rw [hf] at h
   simp only at h
   have hx:=hl x (xO hf).1
   split at h
   ·cases h
   split at h
   ·cases h;exact λe he=>hl e (List.mem_filter.1 he).1
   ·cases h
    intro e he
    rcases wF he with he | rfl
    ·exact hl e he
    ·exact Rj hx hr
 | none =>
   rw [hf] at h
   simp only at h
   split at h
   ·cases h
    intro e he
    rcases wF he with he | rfl
    ·exact hl e he
    ·exact ⟨hr.id,hr.px,hr.py,hr.pz,hr.vx,hr.vy,hr.vz,hr.aJ,(show (0:Int) <= 0 /\ (0:Int) <= 255 by decide)⟩
   ·cases h
theorem J4 : ∀ (rs : List Rec) {l l' : List aB},kR l rs = some l' -> (∀ e ∈ l,e.Ok) -> (∀ r ∈ rs,r.Ok) -> ∀ e ∈ l',e.Ok
 | [],l,l',h,hl,_=>by cases h;exact hl
 | r :: rs,l,l',h,hl,hr=>by
   unfold kR at h
   cases hx : iV l r with
   | none=>rw [hx] at h;cases h
   | some l1 =>
     rw [hx] at h
     exact J4 rs h (D5 hx hl (hr r (List.mem_cons_self ..))) (λr' h'=>hr r' (List.mem_cons_of_mem _ h'))
theorem J5 {es : List aB} (h : ∀ e ∈ es,e.Ok) : ∀ e ∈ j4 es,e.Ok:=by
 unfold j4
 have : ∀ (es l : List aB),(∀ e ∈ es,e.Ok) -> (∀ e ∈ l,e.Ok) -> ∀ e ∈ es.foldl fG l,e.Ok:=by
  intro es
  induction es with
  | nil=>intro l _ hl;exact hl
  | cons x es ih =>
    intro l h hl
    exact ih _ (λe he=>h e (List.mem_cons_of_mem _ he)) (λe he=>by
     rcases wF he with he | rfl
     ·exact hl e he
     ·exact h _ (List.mem_cons_self ..))
 exact this es [] h (by simp)
end Go.Proofs.YtklkooeimkedgaaGreat
namespace Go.Proofs.YtklkooeimkedgaaGreat
open Go.RowKit
set_option maxRecDepth 100000
def qM (was : List aB) (out : List Rec) (x : aB) : Option (List aB × List Rec) :=
 match eZ was x.id with
 | none=>if x.gen = 0 then some (kK was x.id,out ++ [⟨0,x.id,x.px,x.py,x.pz,x.vx,x.vy,x.vz,x.aJ⟩]) else none
 | some o=>if 1 < IntKind.u8.wrap (x.gen - o.gen) then none else some (kK was x.id,if (lK o x).2 = true then out ++ [(lK o x).1] else out)
def fU : List aB -> List Rec -> List aB -> Option (List aB × List Rec)
 | was,out,[]=>some (was,out)
 | was,out,x :: l=>match qM was out x with
   | none=>none
   | some q=>fU q.1 q.2 l
theorem Iu : ∀ (es : List aB) {was : List aB} {out : List Rec} {q : List aB × List Rec},fU was out es = some q -> q.1.length <= was.length
 | [],was,out,q,h=>by cases h;exact Nat.le_refl _
 | x :: es,was,out,q,h=>by
   rw [fU] at h
   cases ho : qM was out x with
   | none=>rw [ho] at h;cases h
   | some p =>
     rw [ho] at h
     have h1:=Iu es h
     have h2 : p.1.length <= was.length:=by
      unfold qM at ho
      split at ho
      ·split at ho
       ·cases ho;exact List.length_filter_le _ _
       ·cases ho
      ·split at ho
       ·cases ho
       ·cases ho;exact List.length_filter_le _ _
     omega
def Ap (e : aB) : Rec:=⟨2,e.id,0,0,0,0,0,0,0⟩
theorem LJ {w : World} {M : Nat} {l : List aB} (h : bW w M l) (o : Nat) : w.cell? ⟨M,o,none⟩ = none:=by
 obtain ⟨es,c,h,_⟩:=h
 simp [World.cell?,h]
def KT (z : Option (List aB × List Rec)) (base : Nat) (e : Ending) (w' : World) : Prop:=match z with
 | none=>e = .returned (.tuple #[.slice none 0 0,.int .i64 15])
 | some q=>∃ v rs,e = .returned (.tuple #[v,.int .i64 0]) /\ rs.Perm (q.2 ++ q.1.map Ap) /\ rs.Pairwise (λa b=>a.id <= b.id) /\ ji w' base v rs
def CX (w : World) (M : Nat) (lX : List aB) (es : List aB) (k : Nat) (v : Value) (wr : World) : Prop :=
 ∃ was out,fU lX [] es = fU was out (es.drop k) /\ bW wr M was /\ ji wr w.heap.size v out /\ out.length <= k /\ Only (λj=>j = M) w wr
theorem ji.nil (w : World) (base : Nat) : ji w base (.slice none 0 0) []:=World.ownsRow_nil _ _ _ _
theorem ji.only {w w' : World} {base : Nat} {v : Value} {rs : List Rec} {S : Nat -> Prop} (h : ji w base v rs) (ho : Only S w w') (hS : ∀ j,v.ownBlock = some j -> ¬ S j) : ji w' base v rs:=by
 have hlt:=h.lt
 obtain ⟨h1,h2⟩:=h
 refine ⟨h1,?_⟩
 rcases h2 with h2 | ⟨g,cap,cur,rfl,a,b,c⟩
 ·exact .inl h2
 ·exact .inr ⟨g,cap,cur,rfl,a,by rw [ho.block g (hlt g rfl).2 (hS g rfl)];exact b,c⟩
theorem ji.app {ops : Array Oper} {rest : List Oper} {o : Oper} {a : Act} {Q : Exit -> Act -> World -> Prop} (w : World) (hgd : o.guard = none) (s x : Operand)
 (ho : o.op = .call { callee:=.builtin .append,args:=#[s,x],argTypes:=#[37,37] })
 (base : Nat) (v : Value) (rs : List Rec) (hs : a.eval s = v) (hown : ji w base v rs) (g : Nat) (r : Rec) (hx : a.eval x = .slice (some ⟨g,0,none⟩) 1 1) (hb : ak w g (aX r) 147)
 (hl : rs.length <= 1000000) (hbase : base <= w.heap.size)
 (h : ∀ v' w',ji w' base v' (rs ++ [r]) -> w.grownBy w' v.ownBlock -> wpList Tryz.prog ops Q rest (a.put o.dst v') w') : wpList Tryz.prog ops Q (o :: rest) a w:=by
 refine pU w hgd s x 37 147 ho base _ 9 72 Tryz.underlying37 Mw rfl (by decide) v rs.length (rs.flatMap oI) hs hown g _ hx hb rfl (by intro u hu;simp [aX] at hu;rcases hu with rfl | rfl | rfl | rfl | rfl | rfl | rfl | rfl | rfl <;> rfl) (by unfold maxLen;omega) (by omega) hbase (λv' w' h1 h2=>h v' w' ?_ h2)
 unfold ji
 rw [List.length_append,List.flatMap_append]
 simpa [oI,aX] using h1
set_option maxHeartbeats 4000000 in
theorem aaL (M : Nat) (lX : List aB) (a : Option Addr) (cap : Nat) (es : List aB) (w : World) (hM0 : bW w M lX) (hE0 : fP w a es) (hl : es.length <= 1000) (hl2 : lX.length <= 1000) :
 Calls Tryz.prog 35 #[.map (some M),.slice a es.length cap] w λe w'=>KT (fU lX [] es) w.heap.size e w' /\ Only (λk=>k = M) w w':=by
 have HZ : Hid (fU lX [] es = fU lX [] es):=aiS rfl
 generalize hz : fU lX [] es = z at HZ
 have hok:=hE0.ok;have M6:=aiS hM0.lt
 have HNC:=aiS (λo=>LJ hM0 o)
 have HS : Hid (CX w M lX es 0 (.slice none 0 0) w):=aiS ⟨lX,[],by simp,hM0,ji.nil _ _,Nat.le_refl _,Only.refl _ _⟩
 have HE:=aiS hE0;have Ww:=aiS hok
 have WT : Hid (∀ k v wr,CX w M lX es k v wr -> True):=aiS (λ_ _ _ _=>trivial)
 have WU : Hid (fU lX [] es = z):=aiS hz
 clear hM0 hE0 hok hz HZ WT
 go_enter Tryz.func35,Tryz.ntmps35
 go_wp2_with fail
 go_loopw [6,17] (λv i wr=>∃ (k : Nat) (u : Value),k <= es.length /\ i = .int .i64 k /\ u = v /\ CX w M lX es k u wr) (λ_ i _=>es.length - (intOf i).toNat)
 case atStart=>exact ⟨0,_,Nat.zero_le _,rfl,rfl,HS.out⟩
 case round =>
  rename_i wr
  obtain ⟨k,v,hk,rfl,rfl,was,out,hT,hM,hO,hol,hF⟩:=hrel
  by_cases hlt : k < es.length
  ·have hlt' : (k : Int) < es.length:=by omega
   obtain ⟨x,hx⟩ : ∃ x,es[k]? = some x:=⟨_,List.getElem?_eq_getElem hlt⟩
   have hdrop : es.drop k = x :: es.drop (k + 1):=by
    rw [List.drop_eq_getElem_cons hlt]
    rw [List.getElem?_eq_getElem hlt] at hx
    cases hx;rfl
   rw [hdrop,fU] at hT
   have hxo:=Ww.out x (List.mem_of_getElem? hx)
   obtain ⟨b,off,hae,hbl,hcs⟩ : ∃ b off,a = some ⟨b,off,none⟩ /\ b < w.heap.size /\ dF w b (off + k * 9) x:=by
    rcases HE.out.2 with h0 | ⟨b,off,e,hb,hc⟩
    ·omega
    ·refine ⟨b,off,e,hb,?_⟩
     have:=hc k hlt
     simpa [List.getD,hx] using this
   have hbM : b ≠ M:=by
    rintro rfl
    have:=HNC.out (off + k * 9)
    rw [hcs.1] at this;cases this
   have hc : dF wr b (off + k * 9) x:=by
    have hh : ∀ o,wr.cell? ⟨b,o,none⟩ = w.cell? ⟨b,o,none⟩:=λo=>by
     simp only [World.cell?];rw [hF.block b hbl hbM]
    unfold dF at hcs ⊢
    simp only [hh];exact hcs
   clear hcs
   have zN : Below wr.heap.size wr (wr.alloc (.cells (bN x) 33)):=aiT
   have hM1:=hM.below zN hM.lt;have hlk:=zK hM1 x.id
   obtain ⟨o,ho⟩ : ∃ o,(eZ was x.id).getD bK = o:=⟨_,rfl⟩
   have zO : Below (wr.alloc (.cells (bN x) 33)).heap.size (wr.alloc (.cells (bN x) 33)) ((wr.alloc (.cells (bN x) 33)).alloc (.cells (bN o) 33)):=aiT
   have hM2:=hM1.below zO hM1.lt
   obtain ⟨w3,hup,xQ,hO3⟩:=zM hM2 x.id 0 3
   have hsz2 : ((wr.alloc (.cells (bN x) 33)).alloc (.cells (bN o) 33)).heap.size = wr.heap.size + 2:=by simp
   have Gd:=hM.lt
   have hX2 : ak ((wr.alloc (.cells (bN x) 33)).alloc (.cells (bN o) 33)) wr.heap.size (bN x) 33:=(ak.new _ _ _).alloc _
   have hY2 : ak ((wr.alloc (.cells (bN x) 33)).alloc (.cells (bN o) 33)) (wr.heap.size + 1) (bN o) 33:=by
    have:=ak.new (wr.alloc (.cells (bN x) 33)) (bN o) 33
    simpa using this
   have aS:=hO3.blk hX2 (by omega)
   have wP:=hO3.blk hY2 (by omega)
   have hB2 : Below wr.heap.size wr ((wr.alloc (.cells (bN x) 33)).alloc (.cells (bN o) 33)):=zN.trans (zO.mono (by simp))
   have Wd:=M6.out
   have SX : Only (λj=>j = M) w w3:=(hF.eX hB2).trans hO3
   have aaM : ji w3 w.heap.size v out:=(hO.only (Only.of_below (S:=λ_=>False) hB2) (λ_ _ h=>h)).only hO3 (λj hj h=>by have:=(hO.lt j hj).1;omega)
   have hs3 : wr.heap.size + 2 <= w3.heap.size:=by rw [← hsz2];exact hO3.size
   have hFs:=hF.size;clear zN zO hM1 hM2 hX2 hY2 hB2 hM hO hF;have jB:=aiS aS;have KU:=aiS wP;have HM3:=aiS xQ;have SY:=aiS SX;have fK:=aiS aaM;have WI:=aiS hs3;have HT:=aiS hT;have HOL:=aiS hol
   subst hae
   have hg:=hxo.gen
   have xU : Hid (w.heap.size <= wr.heap.size):=aiS hFs
   clear xQ SX aaM hs3 hT hol hO3
   cases hf : eZ was x.id with
   | none =>
     have fC : Hid (qM was out x = if x.gen = 0 then some (kK was x.id,out ++ [⟨0,x.id,x.px,x.py,x.pz,x.vx,x.vy,x.vz,x.aJ⟩]) else none):=aiS (by unfold qM;rw [hf])
     rw [hf] at hlk ho
     simp only [Option.getD_none,Option.isSome_none] at hlk ho
     subst ho
     obtain ⟨w4,hw4⟩ : ∃ v,w3.setCell ⟨wr.heap.size + 1,8,none⟩ (.int .u8 0) = v:=⟨_,rfl⟩
     have bA : ak w4 wr.heap.size (bN x) 33:=by rw [← hw4];exact jB.out.far (by show wr.heap.size ≠ wr.heap.size + 1;omega) _
     have yg : ak w4 (wr.heap.size + 1) (bN bK) 33:=by rw [← hw4];have:=KU.out.set 8 (.int .u8 0);simpa [bK] using this
     have hO4 : Only (λj=>j = wr.heap.size + 1) w3 w4:=by rw [← hw4];exact Only.setCell (S:=λj=>j = wr.heap.size + 1) (p:=⟨wr.heap.size + 1,8,none⟩) (Only.refl _ _) (.inl rfl) _
     have KV:=aiS (HM3.out.only hO4 (by have:=M6.out;have:=xU.out;omega))
     have HR4:=aiS (fK.out.only hO4 (λj hj h=>bJ fK.out KU.out (by decide) (by rw [hj,h])))
     have KW : Hid (Only (λj=>j = M) w w4):=aiS (SY.out.aW hO4 (λi hi h=>by have:=xU.out;omega))
     have y8:=KU.out.cell 8;have yf8:=KU.out.free 8
     obtain ⟨xi,x1,x2,x3,x4,x5,x6,xa,xg⟩:=x
     obtain ⟨c0,c1,c2,c3,c4,c5,c6,c7,c8⟩:=hc
     unfold bM bK at hlk
     simp only [bN,bK] at *
     have p0:=bA.cell 0;have p1:=bA.cell 1;have p2:=bA.cell 2;have p3:=bA.cell 3;have p4:=bA.cell 4;have p5:=bA.cell 5;have p6:=bA.cell 6;have p7:=bA.cell 7;have p8:=bA.cell 8;simp at p0 p1 p2 p3 p4 p5 p6 p7 p8;have q0:=yg.cell 0;have q1:=yg.cell 1;have q2:=yg.cell 2;have q3:=yg.cell 3;have q4:=yg.cell 4;have q5:=yg.cell 5;have q6:=yg.cell 6;have q7:=yg.cell 7;have q8:=yg.cell 8;simp at q0 q1 q2 q3 q4 q5 q6 q7 q8;simp at y8
     have hs4 : wr.heap.size + 2 <= w4.heap.size:=Nat.le_trans WI.out hO4.size
     clear bA yg hO4 jB KU
     by_cases hg0 : xg = 0
     ·subst hg0
      have HT2 : Hid (fU lX [] es = fU (kK was xi) (out ++ [⟨0,xi,x1,x2,x3,x4,x5,x6,xa⟩]) (es.drop (k + 1))):=aiS (by rw [HT.out,fC.out];simp)
      obtain ⟨w5,qC⟩ : ∃ v,w4.alloc (.cells #[.int .i64 0,.int .i64 xi,.int .i64 x1,.int .i64 x2,.int .i64 x3,.int .i64 x4,.int .i64 x5,.int .i64 x6,.int .u16 xa] 147) = v:=⟨_,rfl⟩
      have uw : ak w5 w4.heap.size (aX ⟨0,xi,x1,x2,x3,x4,x5,x6,xa⟩) 147:=by rw [← qC];exact ak.new _ _ _
      have wQ : Below w4.heap.size w4 w5:=by rw [← qC];exact aiT
      have HRB:=aiS uw;have M7:=aiS (KV.out.below wQ KV.out.lt)
      have eT:=aiS (HR4.out.only (Only.of_below (S:=λ_=>False) wQ) (λ_ _ h=>h))
      have FI:=aiS (KW.out.eX wQ);clear uw wQ KV HR4 KW fC
      go_wp2_with (at_builtin;refine ji.app _ rfl (.tmp 62) (.tmp 72) rfl w.heap.size _ out rfl eT.out _ _ rfl HRB.out (by have:=HOL.out;omega) (FI.out.size) ?_)
      intro v' w' hr hg
      have mJ:=aiS hr
      have HM6 : Hid (bW w' M (kK was xi)):=aiS (M7.out.only (jc hg) (λh=>by have:=(eT.out.lt _ h).1;have:=M6.out;omega))
      have M8 : Hid (Only (λj=>j = M) w w'):=aiS (FI.out.aW (jc hg) (λi hi h=>by have:=(eT.out.lt _ h).1;omega))
      have HS2 : Hid (CX w M lX es (k + 1) v' w'):=aiS ⟨_,_,HT2.out,HM6.out,mJ.out,by rw [List.length_append];have:=HOL.out;simp;omega,M8.out⟩
      clear hr hg
      go_wp2
      go_roundw
      case rel=>exact ⟨k + 1,_,by omega,by go_num,rfl,HS2.out⟩
      case measure=>simp [intOf];omega
     ·have HT2 : Hid (fU lX [] es = none):=aiS (by rw [HT.out,fC.out];simp [hg0])
      have hwg : IntKind.u8.wrap xg = xg:=by rw [IntKind.wrap_u8];omega
      have hm : xg % 256 = xg:=by omega
      have h0 : 0 < xg:=by omega
      clear fC HT hg0
      by_cases h1 : 1 < xg
      ·go_wp2
       exact bodyPost_ret (v:=.tuple #[.slice none 0 0,.int .i64 15]) (by simp [results,Tryz.results35,go_sem]) rfl ⟨by rw [show z = none from WU.out.symm.trans HT2.out];rfl,KW.out⟩
      ·go_wp2
       exact bodyPost_ret (v:=.tuple #[.slice none 0 0,.int .i64 15]) (by simp [results,Tryz.results35,go_sem]) rfl ⟨by rw [show z = none from WU.out.symm.trans HT2.out];rfl,KW.out⟩
   | some oo =>
     have fC : Hid (qM was out x = if 1 < IntKind.u8.wrap (x.gen - oo.gen) then none else some (kK was x.id,if (lK oo x).2 = true then out ++ [(lK oo x).1] else out)):=aiS (by unfold qM;rw [hf])
     rw [hf] at hlk ho
     simp only [Option.getD_some,Option.isSome_some] at hlk ho
     subst ho
     have rd:=λW=>Vw oo x W
     obtain ⟨st,hst⟩ : ∃ s,IntKind.u8.wrap (x.gen - oo.gen) = s:=⟨_,rfl⟩
     rw [hst] at fC
     generalize lK oo x = q at *
     have aS:=jB.out;have wP:=KU.out
     obtain ⟨xi,x1,x2,x3,x4,x5,x6,xa,xg⟩:=x
     obtain ⟨oi,o1,o2,o3,o4,o5,o6,oa,og⟩:=oo
     obtain ⟨⟨rk,ri,r1,r2,r3,r4,r5,r6,ra⟩,bl⟩:=q
     obtain ⟨c0,c1,c2,c3,c4,c5,c6,c7,c8⟩:=hc
     unfold bM lT at rd
     unfold bM at hlk
     simp only [bN] at *
     have p0:=aS.cell 0;have p1:=aS.cell 1;have p2:=aS.cell 2;have p3:=aS.cell 3;have p4:=aS.cell 4;have p5:=aS.cell 5;have p6:=aS.cell 6;have p7:=aS.cell 7;have p8:=aS.cell 8;simp at p0 p1 p2 p3 p4 p5 p6 p7 p8;have q0:=wP.cell 0;have q1:=wP.cell 1;have q2:=wP.cell 2;have q3:=wP.cell 3;have q4:=wP.cell 4;have q5:=wP.cell 5;have q6:=wP.cell 6;have q7:=wP.cell 7;have q8:=wP.cell 8;simp at q0 q1 q2 q3 q4 q5 q6 q7 q8;have ah7:=WI.out;clear aS wP jB KU
     by_cases h1 : 1 < st
     ·have HT2 : Hid (fU lX [] es = none):=aiS (by rw [HT.out,fC.out];simp [h1])
      clear fC HT rd
      go_wp2
      exact bodyPost_ret (v:=.tuple #[.slice none 0 0,.int .i64 15]) (by simp [results,Tryz.results35,go_sem]) rfl ⟨by rw [show z = none from WU.out.symm.trans HT2.out];rfl,SY.out⟩
     ·go_wp2_with fail
      refine (rd w3).mono ?_
      rintro e w4 ⟨rfl,hB⟩
      have KV:=aiS (HM3.out.below hB HM3.out.lt)
      have HR4:=aiS (fK.out.only (Only.of_below (S:=λ_=>False) hB) (λ_ _ h=>h))
      have KW:=aiS (SY.out.eX hB)
      obtain ⟨w5,qC⟩ : ∃ v,w4.alloc (.cells #[.int .i64 rk,.int .i64 ri,.int .i64 r1,.int .i64 r2,.int .i64 r3,.int .i64 r4,.int .i64 r5,.int .i64 r6,.int .u16 ra] 147) = v:=⟨_,rfl⟩
      have uw : ak w5 w4.heap.size #[.int .i64 rk,.int .i64 ri,.int .i64 r1,.int .i64 r2,.int .i64 r3,.int .i64 r4,.int .i64 r5,.int .i64 r6,.int .u16 ra] 147:=by rw [← qC];exact ak.new _ _ _
      have wQ : Below w4.heap.size w4 w5:=by rw [← qC];exact aiT
      have M7:=aiS (KV.out.below wQ KV.out.lt)
      have eT:=aiS (HR4.out.only (Only.of_below (S:=λ_=>False) wQ) (λ_ _ h=>h))
      have FI:=aiS (KW.out.eX wQ);have z0:=uw.cell 0;have z1:=uw.cell 1;have z2:=uw.cell 2;have z3:=uw.cell 3;have z4:=uw.cell 4;have z5:=uw.cell 5;have z6:=uw.cell 6;have z7:=uw.cell 7;have z8:=uw.cell 8;simp at z0 z1 z2 z3 z4 z5 z6 z7 z8;clear hB rd KV HR4 KW uw wQ
      cases bl
      ·have HS2 : Hid (CX w M lX es (k + 1) v w5):=aiS ⟨_,out,by rw [HT.out,fC.out,if_neg (by omega)];simp,M7.out,eT.out,by have:=HOL.out;omega,FI.out⟩
       clear fC HT
       go_wp2
       go_roundw
       case rel=>exact ⟨k + 1,_,by omega,by go_num,rfl,HS2.out⟩
       case measure=>simp [intOf];omega
      ·have HT2 : Hid (fU lX [] es = fU (kK was xi) (out ++ [⟨rk,ri,r1,r2,r3,r4,r5,r6,ra⟩]) (es.drop (k + 1))):=aiS (by rw [HT.out,fC.out,if_neg (by omega)];simp)
       obtain ⟨w6,Q0⟩ : ∃ v,w5.alloc (.cells #[.int .i64 rk,.int .i64 ri,.int .i64 r1,.int .i64 r2,.int .i64 r3,.int .i64 r4,.int .i64 r5,.int .i64 r6,.int .u16 ra] 147) = v:=⟨_,rfl⟩
       have S9 : ak w6 w5.heap.size (aX ⟨rk,ri,r1,r2,r3,r4,r5,r6,ra⟩) 147:=by rw [← Q0];exact ak.new _ _ _
       have WV : Below w5.heap.size w5 w6:=by rw [← Q0];exact aiT
       have HRC:=aiS S9;have HM6:=aiS (M7.out.below WV M7.out.lt)
       have mJ:=aiS (eT.out.only (Only.of_below (S:=λ_=>False) WV) (λ_ _ h=>h))
       have M8:=aiS (FI.out.eX WV);clear S9 WV M7 eT FI fC HT
       go_wp2_with (at_builtin;refine ji.app _ rfl (.tmp 46) (.tmp 48) rfl w.heap.size _ out rfl mJ.out _ _ rfl HRC.out (by have:=HOL.out;omega) (M8.out.size) ?_)
       intro v' w' hr hg
       have HR7:=aiS hr
       have HM7 : Hid (bW w' M (kK was xi)):=aiS (HM6.out.only (jc hg) (λh=>by have:=(mJ.out.lt _ h).1;have:=M6.out;omega))
       have HF7 : Hid (Only (λj=>j = M) w w'):=aiS (M8.out.aW (jc hg) (λi hi h=>by have:=(mJ.out.lt _ h).1;omega))
       have HS2 : Hid (CX w M lX es (k + 1) v' w'):=aiS ⟨_,_,HT2.out,HM7.out,HR7.out,by rw [List.length_append];have:=HOL.out;simp;omega,HF7.out⟩
       clear hr hg
       go_wp2
       go_roundw
       case rel=>exact ⟨k + 1,_,by omega,by go_num,rfl,HS2.out⟩
       case measure=>simp [intOf];omega
  ·obtain ⟨wz,rfl⟩ : ∃ z,z = wr:=⟨_,rfl⟩
   obtain rfl : k = es.length:=by omega
   rw [List.drop_length] at hT
   have HT:=aiS (show fU lX [] es = some (was,out) from hT)
   have HOL:=aiS hol
   have hwl : was.length <= 1000:=Nat.le_trans (Iu es hT) hl2
   have WT:=aiS hwl
   obtain ⟨sD,clock,hb,he,hnd,hold,aff⟩:=hM
   have hrange:=run_range_map (P:=Tryz.prog) wz lV 3 33 M sD clock Tryz.underlying90 hb
   obtain ⟨hvl,hvs⟩:=ME he
   have hbl : M < wz.heap.size:=(Array.getElem?_eq_some_iff.1 hb).1
   have hb0 : (wz.alloc (.mapIter (some M) clock #[] clock)).heap[M]? = some (.map sD clock):=(Below.heap_alloc _ _ _ hbl).trans hb
   have hi0 : (wz.alloc (.mapIter (some M) clock #[] clock)).heap[wz.heap.size]? = some (.mapIter (some M) clock #[] clock):=Go.heap_alloc_new wz _
   have MG : Below wz.heap.size wz (wz.alloc (.mapIter (some M) clock #[] clock)):=aiT
   have HN : Hid (∀ x ∈ sD.toList,x.born < clock):=aiS hold
   have HV:=aiS hvs;have Bt:=aiS hnd
   have HST : Hid (ji (wz.alloc (.mapIter (some M) clock #[] clock)) w.heap.size v out /\ Only (λj=>j = M) w (wz.alloc (.mapIter (some M) clock #[] clock))):=aiS ⟨hO.only (Only.of_below (S:=λ_=>False) MG) (λ_ _ h=>h),hF.eX MG⟩
   have HB0:=aiS (And.intro hb0 hi0);have HVL:=aiS hvl;have V7:=aiS hF.size;clear hT hol hO hF hb he hnd hold aff hvl hvs hb0 hi0 MG hwl
   go_wp2_with fail
   clear hrange
   go_loopw [6] (λv wr=>∃ (u : Value) (seen : Array Nat) (pre : List aB),u = v /\ wr.heap[M]? = some (.map sD clock) /\ wr.heap[wz.heap.size]? = some (.mapIter (some M) clock seen clock) /\ (pre ++ (leftOf sD seen).toList.map (λx=>yB x.val)).Perm was /\ ji wr w.heap.size u (out ++ pre.map Ap) /\ Only (λj=>j = M) w wr)
    (λ_ wr=>match wr.heap[wz.heap.size]? with | some (.mapIter _ _ seen _)=>(leftOf sD seen).size | _=>0)
   case atStart=>exact ⟨_,#[],[],rfl,HB0.out.1,HB0.out.2,by
    have : (leftOf sD #[]).toList = sD.toList:=by unfold leftOf;simp
    rw [this,HVL.out];exact List.Perm.refl _,by simpa using HST.out.1,HST.out.2⟩
   case round =>
    obtain ⟨v2,seen,pre,rfl,hbw,hiw,hp,hO2,hF2⟩:=hrel
    rcases (λty=>run_next_at (P:=Tryz.prog) wr ty wz.heap.size M clock clock seen sD clock hiw hbw HN.out (Nat.le_refl _)) with hnx
    rcases hnx 0 with ⟨hl0,hrun⟩ | ⟨e,hem,w1,hw1,hrun⟩
    ·have hpe : pre.Perm was:=by
      have : (leftOf sD seen).toList = []:=by
       apply List.eq_nil_of_length_eq_zero;simpa using hl0
      rw [this] at hp
      simpa using hp
     have hlen : (out ++ pre.map Ap).length < 4611686018427387904:=by
      rw [List.length_append,List.length_map,hpe.length_eq]
      have:=HOL.out;have:=WT.out;omega
     have sf:=XT v2 w.heap.size (out ++ pre.map Ap) wr hO2 hlen;have HF2:=aiS hF2;have bQ:=aiS hO2;have HPE:=aiS hpe;clear hnx hp hO2 hF2 hbw hiw hl0 hpe hlen
     go_wp2_with fail
     refine sf.mono ?_
     rintro e w4 ⟨rfl,rs,hp,hs,ho,hF⟩
     have HQ:=aiS (And.intro hp (And.intro hs ho))
     have SY : Hid (Only (λj=>j = M) w w4):=aiS (HF2.out.aW hF (λi hi h=>by have:=(bQ.out.lt _ h).1;omega))
     clear hp hs ho hF sf
     go_wp2
     exact bodyPost_ret (v:=.tuple #[v2,.int .i64 0]) (by simp [results,Tryz.results35,go_sem]) rfl ⟨by
      rw [show z = some (was,out) from WU.out.symm.trans HT.out]
      exact ⟨v2,rs,rfl,HQ.out.1.trans (List.Perm.append_left _ (HPE.out.map _)),HQ.out.2.1,HQ.out.2.2⟩,SY.out⟩
    ·obtain ⟨hes,hns⟩:=mem_left hem
     obtain ⟨x,hx,hkx⟩:=HV.out e hes
     have V8 : yB e.val = x:=by rw [hx,DY]
     obtain ⟨w2,hw2⟩ : ∃ w2,ChangeMaps.setBlock w1 wz.heap.size (.mapIter (some M) clock (seen.push e.born) clock) = w2:=⟨_,rfl⟩
     have hs1 : w1.heap.size = wr.heap.size:=by rcases hw1 with rfl | rfl <;> rfl
     have hil : wz.heap.size < wr.heap.size:=(Array.getElem?_eq_some_iff.1 hiw).1
     have V9:=M6.out;have hFS:=V7.out
     have hbw2 : w2.heap[M]? = some (.map sD clock):=by
      rw [← hw2]
      show (w1.heap.setIfInBounds _ _)[M]? = _
      rw [Array.getElem?_setIfInBounds_ne (by omega)]
      rcases hw1 with rfl | rfl <;> exact hbw
     have Bu : w2.heap[wz.heap.size]? = some (.mapIter (some M) clock (seen.push e.born) clock):=by
      rw [← hw2]
      show (w1.heap.setIfInBounds _ _)[wz.heap.size]? = _
      rw [Array.getElem?_setIfInBounds_self_of_lt (by omega)]
     have hon : Only (λk=>k = wz.heap.size) wr w2:=by
      rw [← hw2]
      refine ⟨?_,?_,?_,?_,λk hk hne=>?_⟩
      ·rcases hw1 with rfl | rfl <;> rfl
      ·rcases hw1 with rfl | rfl <;> rfl
      ·rcases hw1 with rfl | rfl <;> rfl
      ·show wr.heap.size <= (w1.heap.setIfInBounds _ _).size;simp;omega
      ·show (w1.heap.setIfInBounds _ _)[k]? = _
       rw [Array.getElem?_setIfInBounds_ne (λh=>hne (by rw [h]))]
       rcases hw1 with rfl | rfl <;> rfl
     have hent:=run_entry_at (P:=Tryz.prog) w2 wz.heap.size M clock seen sD clock e Bu hbw2 hes Bt.out
     have hp2 : ((pre ++ [x]) ++ (leftOf sD (seen.push e.born)).toList.map (λx=>yB x.val)).Perm was:=by
      refine List.Perm.trans ?_ hp
      have h1:=Bq e seen hns sD.toList Bt.out hes
      have h2:=List.Perm.map (λx=>yB x.val) h1
      unfold leftOf
      rw [Array.toList_filter,Array.toList_filter,List.append_assoc]
      refine List.Perm.append_left _ ?_
      rw [List.map_cons,V8] at h2
      exact h2.symm
     have hlt : (leftOf sD (seen.push e.born)).size < (leftOf sD seen).size:=left_shrinks sD seen e hem
     rw [hw2] at hrun
     rw [hkx] at hrun hent
     have hlen : (out ++ pre.map Ap).length <= 1000000:=by
      have h3:=hp2.length_eq
      simp only [List.length_append,List.length_map,List.length_singleton] at h3 ⊢
      have:=HOL.out;have:=WT.out;omega
     have hno : ∀ j,v2.ownBlock = some j -> j ≠ wz.heap.size:=λj hj hh=>by
      obtain ⟨_,⟨rfl,_⟩ | ⟨g,cap,cur,rfl,_,hgg,_⟩⟩:=hO2
      ·cases hj
      ·cases hj;rw [show g = wz.heap.size from hh,hiw] at hgg;cases hgg
     have hO3:=hO2.only hon (λj hj h=>hno j hj h)
     have SX : Only (λj=>j = M) w w2:=hF2.aW hon (λi hi h=>by omega)
     obtain ⟨w5,qC⟩ : ∃ v,w2.alloc (.cells #[.int .i64 2,.int .i64 x.id,.int .i64 0,.int .i64 0,.int .i64 0,.int .i64 0,.int .i64 0,.int .i64 0,.int .u16 0] 147) = v:=⟨_,rfl⟩
     have S9 : ak w5 w2.heap.size (aX (Ap x)) 147:=by rw [← qC];exact ak.new _ _ _
     have wQ : Below w2.heap.size w2 w5:=by rw [← qC];exact aiT
     have HRC:=aiS S9
     have dY:=aiS (hO3.only (Only.of_below (S:=λ_=>False) wQ) (λ_ _ h=>h))
     have FI:=aiS (SX.eX wQ)
     have uU : Hid (w5.heap[M]? = some (.map sD clock) /\ w5.heap[wz.heap.size]? = some (.mapIter (some M) clock (seen.push e.born) clock)):=aiS ⟨(wQ.block M (Array.getElem?_eq_some_iff.1 hbw2).1).trans hbw2,(wQ.block wz.heap.size (Array.getElem?_eq_some_iff.1 Bu).1).trans Bu⟩
     have yO:=aiS hp2;have dI:=aiS hlt;have HIW:=aiS hiw;have GY:=aiS hlen;have HNO:=aiS hno;clear hnx hp hp2 hO2 hF2 hbw hiw hbw2 Bu hon hO3 SX S9 wQ hem hns hes hx hkx V8 hw1 hs1 hil hlt hlen hno V9 hFS
     go_wp2_with (at_builtin;refine ji.app _ rfl (.tmp 81) (.tmp 84) rfl w.heap.size _ (out ++ pre.map Ap) rfl dY.out _ _ rfl HRC.out GY.out (FI.out.size) ?_)
     intro v' w' hr hg
     have mJ:=aiS (show ji w' w.heap.size v' (out ++ (pre ++ [x]).map Ap) by simpa using hr)
     have M8 : Hid (Only (λj=>j = M) w w'):=aiS (FI.out.aW (jc hg) (λi hi h=>by have:=(dY.out.lt _ h).1;omega))
     have lu : Hid (w'.heap[M]? = some (.map sD clock) /\ w'.heap[wz.heap.size]? = some (.mapIter (some M) clock (seen.push e.born) clock)):=aiS
      ⟨((jc hg).block M (Array.getElem?_eq_some_iff.1 uU.out.1).1 (λh=>by have:=(dY.out.lt _ h).1;have:=M6.out;omega)).trans uU.out.1,((jc hg).block wz.heap.size (Array.getElem?_eq_some_iff.1 uU.out.2).1 (λh=>HNO.out _ h rfl)).trans uU.out.2⟩
     clear hr hg
     go_wp2
     go_roundw
     case rel=>exact ⟨_,seen.push e.born,pre ++ [x],rfl,lu.out.1,lu.out.2,yO.out,mJ.out,M8.out⟩
     case measure=>simp only [lu.out.2,HIW.out];exact dI.out
end Go.Proofs.YtklkooeimkedgaaGreat
