/- Walk of TopBeyond. -/
import Derived.MapKept
import Derived.RangeFuncRecord
import Derived.Test.YtklkooeimkedgaaGreatB36
set_option linter.unusedVariables false
set_option linter.unusedSimpArgs false
namespace Go.Proofs.YtklkooeimkedgaaGreat
open Go.RowKit
set_option maxRecDepth 8000
def vE (e : aB) : Value × Value:=(.int .i64 e.id,bM e)
def bW (w : World) (b : Nat) (l : List aB) : Prop :=
 ∃ es clock,w.heap[b]? = some (.map es clock) /\ es.toList.map (λx=>(x.key,x.val)) = l.map vE /\ (es.toList.map (·.born)).Nodup /\ (∀ x ∈ es.toList,x.born < clock) /\ (l.map (·.id)).Nodup
theorem bW.lt {w : World} {b : Nat} {l : List aB} (h : bW w b l) : b < w.heap.size:=by
 obtain ⟨es,c,h,_⟩:=h
 exact (Array.getElem?_eq_some_iff.1 h).1
theorem bW.only {w w' : World} {b : Nat} {l : List aB} {S : Nat -> Prop} (h : bW w b l) (ho : Only S w w') (hb : ¬ S b) : bW w' b l:=by
 have hl:=h.lt
 obtain ⟨es,c,h,h2⟩:=h
 exact ⟨es,c,by rw [ho.block b hl hb];exact h,h2⟩
theorem bW.below {w w' : World} {b B : Nat} {l : List aB} (h : bW w b l) (ho : Below B w w') (hb : b < B) : bW w' b l:=by
 obtain ⟨es,c,h,h2⟩:=h
 exact ⟨es,c,by rw [ho.block b hb];exact h,h2⟩
theorem bW.new (w : World) : bW (w.alloc (.map #[] 0)) w.heap.size []:=⟨#[],0,heap_alloc_new w _,by simp,by simp,by simp,by simp⟩
def eZ (l : List aB) (id : Int) : Option aB:=l.find? (λe=>e.id == id)
theorem Dx (id : Int) : ∀ (es : List MapEntry) (l : List aB) (i : Nat),es.map (λx=>(x.key,x.val)) = l.map vE ->
 (eZ l id = none /\ Instr.findNow (.int .i64) (.int .i64 id) es i = some none) \/
 ∃ j e,l[j]? = some e /\ e.id = id /\ eZ l id = some e /\ Instr.findNow (.int .i64) (.int .i64 id) es i = some (some (i + j,bM e))
 | [],[],i,_=>.inl ⟨rfl,rfl⟩
 | [],_ :: _,_,h=>by simp at h
 | _ :: _,[],_,h=>by simp at h
 | x :: es,e :: l,i,h=>by
   simp only [List.map_cons,List.cons.injEq,vE,Prod.mk.injEq] at h
   obtain ⟨⟨hk,hv⟩,ht⟩:=h
   unfold Instr.findNow eZ
   rw [hk]
   by_cases he : e.id = id
   ·refine .inr ⟨0,e,rfl,he,by simp [he],?_⟩
    have : (id == e.id) = true:=by simp [he]
    simp [Instr.sameNow,this,hv]
   ·have h1 : (id == e.id) = false:=by simp;exact λh=>he h.symm
    have h2 : (e.id == id) = false:=by simpa using he
    simp only [Instr.sameNow,h1,List.find?_cons,h2,if_true]
    rcases Dx id es l (i + 1) ht with ⟨a,b⟩ | ⟨j,e',a,b,c,d⟩
    ·exact .inl ⟨a,b⟩
    ·exact .inr ⟨j + 1,e',by simpa using a,b,c,by rw [d];congr 3;omega⟩
abbrev lV : TypeId:=90
theorem yA {w : World} {es : Array MapEntry} {l : List aB} (id : Int) (h : es.toList.map (λx=>(x.key,x.val)) = l.map vE) :
 (eZ l id = none /\ (Instr.findKey 3 (.int .i64 id) es.toList).run Tryz.prog w = .ok none w) \/
 ∃ j e,l[j]? = some e /\ e.id = id /\ eZ l id = some e /\ (Instr.findKey 3 (.int .i64 id) es.toList).run Tryz.prog w = .ok (some (j,bM e)) w:=by
 have hu : (underlying 3).run Tryz.prog w = .ok (.int .i64) w:=run_underlying Tryz.underlying3 w
 rcases Dx id es.toList l 0 h with ⟨a,b⟩ | ⟨j,e,a,b,c,d⟩
 ·exact .inl ⟨a,by simp [Instr.findKey,hu,b]⟩
 ·exact .inr ⟨j,e,a,b,c,by simp [Instr.findKey,hu,d]⟩
theorem gy (w : World) (em : Bool) (id : Int) : (Instr.checkKey em 10000 3 (.int .i64 id)).run Tryz.prog w = .ok () w:=by
 have hu : (underlying 3).run Tryz.prog w = .ok (.int .i64) w:=run_underlying Tryz.underlying3 w
 rw [show (10000 : Nat) = 9999 + 1 from rfl]
 unfold Instr.checkKey
 simp [hu]
theorem zK {w : World} {b : Nat} {l : List aB} (h : bW w b l) (id : Int) :
 (Instr.lookup lV (.map (some b)) (.int .i64 id) true).run Tryz.prog w = .ok (.tuple #[bM ((eZ l id).getD bK),.bool (eZ l id).isSome]) w:=by
 obtain ⟨es,clock,hb,he,_⟩:=h
 have hm : (underlying lV).run Tryz.prog w = .ok (.map 3 33) w:=run_underlying Tryz.underlying90 w
 have hz : (zeroValue 33).run Tryz.prog w = .ok (bM bK) w:=by kernel_rfl
 rcases yA (w:=w) id he with ⟨a,c⟩ | ⟨j,e,_,_,a,c⟩
 ·simp [Instr.lookup,hm,MapKept.run_getObj_map hb,gy,c,a,hz]
 ·simp [Instr.lookup,hm,MapKept.run_getObj_map hb,gy,c,a]
theorem uP {α β : Type} (f : α -> β) : ∀ (l : List α) (j : Nat),(l.eraseIdx j).map f = (l.map f).eraseIdx j
 | [],j=>by simp
 | x :: l,0=>by simp
 | x :: l,j + 1=>by simp [uP f l j]
def kK (l : List aB) (id : Int) : List aB:=l.filter (λe=>e.id != id)
def fG (l : List aB) (e : aB) : List aB:=if (eZ l e.id).isSome then l.map (λx=>if x.id = e.id then e else x) else l ++ [e]
theorem Mx : ∀ (l : List aB) (j : Nat) (e : aB),l[j]? = some e -> (l.map (·.id)).Nodup -> l.eraseIdx j = kK l e.id
 | [],j,e,h,_=>by simp at h
 | x :: l,0,e,h,hn=>by
   simp at h;subst h
   rw [List.map_cons,List.nodup_cons] at hn
   unfold kK
   rw [List.filter_cons_of_neg (by simp)]
   simp only [List.eraseIdx_zero,List.tail_cons]
   refine (List.filter_eq_self.2 λy hy=>?_).symm
   simp only [bne_iff_ne,ne_eq]
   intro h
   exact hn.1 (h ▸ List.mem_map_of_mem hy)
 | x :: l,j + 1,e,h,hn=>by
   rw [List.map_cons,List.nodup_cons] at hn
   have h' : l[j]? = some e:=by simpa using h
   have hx : x.id ≠ e.id:=λhh=>hn.1 (hh ▸ List.mem_map_of_mem (List.mem_of_getElem? h'))
   unfold kK
   rw [List.filter_cons_of_pos (by simpa using hx),List.eraseIdx_cons_succ]
   congr 1
   exact Mx l j e h' hn.2
theorem Ra {l : List aB} {id : Int} (h : eZ l id = none) : kK l id = l:=by
 unfold eZ at h
 unfold kK
 rw [List.find?_eq_none] at h
 exact List.filter_eq_self.2 λy hy=>by have:=h y hy;simpa [bne] using this
theorem MB : ∀ (l : List aB) (j : Nat) (x e : aB),l[j]? = some x -> x.id = e.id -> (l.map (·.id)).Nodup -> l.set j e = l.map (λx=>if x.id = e.id then e else x)
 | [],j,x,e,h,_,_=>by simp at h
 | y :: l,0,x,e,h,he,hn=>by
   simp at h;subst h
   rw [List.map_cons,List.nodup_cons] at hn
   rw [List.set_cons_zero,List.map_cons,if_pos he]
   congr 1
   refine (List.map_congr_left (g:=id) λz hz=>?_).trans (List.map_id _) |>.symm
   exact if_neg λhh=>hn.1 (by rw [he,← hh];exact List.mem_map_of_mem hz)
 | y :: l,j + 1,x,e,h,he,hn=>by
   rw [List.map_cons,List.nodup_cons] at hn
   have h' : l[j]? = some x:=by simpa using h
   have hy : ¬ y.id = e.id:=λhh=>hn.1 (by rw [hh,← he];exact List.mem_map_of_mem (List.mem_of_getElem? h'))
   rw [List.set_cons_succ,List.map_cons,if_neg hy,MB l j x e h' he hn.2]
theorem xO {l : List aB} {id : Int} {e : aB} (h : eZ l id = some e) : e ∈ l /\ e.id = id:=by
 unfold eZ at h
 exact ⟨List.mem_of_find?_eq_some h,by simpa using List.find?_some h⟩
theorem Ob {l : List aB} {id : Int} (h : eZ l id = none) : id ∉ l.map (·.id):=by
 unfold eZ at h
 rw [List.find?_eq_none] at h
 intro hm
 obtain ⟨e,he,hh⟩:=List.mem_map.1 hm
 have:=h e he
 simp [hh] at this
theorem zL {l : List aB} {e : aB} (hn : (l.map (·.id)).Nodup) : ((fG l e).map (·.id)).Nodup:=by
 unfold fG
 cases hf : eZ l e.id with
 | some x =>
   simp only [Option.isSome_some,if_true,List.map_map]
   have : ((λx : aB=>x.id) ∘ λx=>if x.id = e.id then e else x) = λx=>x.id:=by
    funext x
    simp only [Function.comp]
    split
    ·rename_i h;exact h.symm
    ·rfl
   rw [this];exact hn
 | none =>
   simp only [Option.isSome_none,Bool.false_eq_true,if_false,List.map_append,List.map_cons,List.map_nil]
   rw [List.nodup_append]
   refine ⟨hn,by simp,λa ha b hb=>?_⟩
   simp at hb
   subst hb
   exact λh=>Ob hf (h ▸ ha)
theorem nO (w : World) (b : Nat) (o : Obj) : Only (λk=>k = b) w (w.putObj b o) :=
 ⟨rfl,rfl,rfl,by simp [World.putObj],λk _ hk=>World.putObj_heap_other hk⟩
theorem zM {w : World} {b : Nat} {l : List aB} (h : bW w b l) (id : Int) (ty tk : TypeId) :
 ∃ w',(Builtin.delete_ #[lV,tk] ty #[.map (some b),.int .i64 id]).run Tryz.prog w = .ok (.tuple #[]) w' /\ bW w' b (kK l id) /\ Only (λk=>k = b) w w':=by
 have hl:=h.lt
 obtain ⟨es,clock,hb,he,hn,hc,hi⟩:=h
 have hm : (underlying lV).run Tryz.prog w = .ok (.map 3 33) w:=run_underlying Tryz.underlying90 w
 have hdn : ((kK l id).map (·.id)).Nodup:=List.Nodup.sublist (List.Sublist.map _ List.filter_sublist) hi
 rcases yA (w:=w) id he with ⟨a,c⟩ | ⟨j,e,ha,hid,a,c⟩
 ·refine ⟨w.putObj b (.map es clock),?_,⟨es,clock,World.putObj_heap_same hl,?_,hn,hc,hdn⟩,nO _ _ _⟩
  ·simp [Builtin.delete_,hm,MapKept.run_getObj_map hb,gy,c,MapKept.run_setObj_map _ hb,World.putObj]
  ·rw [Ra a];exact he
 ·have hj : j < es.size:=by
   have h1 : j < l.length:=(List.getElem?_eq_some_iff.1 ha).1
   have h2:=congrArg List.length he;simp at h2
   omega
  refine ⟨w.putObj b (.map (es.eraseIdxIfInBounds j) clock),?_,⟨es.eraseIdxIfInBounds j,clock,World.putObj_heap_same hl,?_,?_,?_,hdn⟩,nO _ _ _⟩
  ·simp [Builtin.delete_,hm,MapKept.run_getObj_map hb,gy,c,MapKept.run_setObj_map _ hb,World.putObj]
  ·have : (es.eraseIdxIfInBounds j).toList = es.toList.eraseIdx j:=by
    unfold Array.eraseIdxIfInBounds
    rw [dif_pos hj];simp
   rw [this,← hid,← Mx l j e ha hi,uP,he,uP]
  ·have : (es.eraseIdxIfInBounds j).toList = es.toList.eraseIdx j:=by
    unfold Array.eraseIdxIfInBounds
    rw [dif_pos hj];simp
   rw [this]
   exact List.Nodup.sublist (List.Sublist.map _ (List.eraseIdx_sublist ..)) hn
  ·have : (es.eraseIdxIfInBounds j).toList = es.toList.eraseIdx j:=by
    unfold Array.eraseIdxIfInBounds
    rw [dif_pos hj];simp
   rw [this]
   exact λx hx=>hc x ((List.eraseIdx_sublist ..).subset hx)
theorem rY {w : World} {b : Nat} {l : List aB} (h : bW w b l) (e : aB) :
 ∃ w',(Instr.mapUpdate lV (.map (some b)) (.int .i64 e.id) (bM e)).run Tryz.prog w = .ok () w' /\ bW w' b (fG l e) /\ Only (λk=>k = b) w w':=by
 have hl:=h.lt
 obtain ⟨es,clock,hb,he,hn,hc,hi⟩:=h
 have hm : (underlying lV).run Tryz.prog w = .ok (.map 3 33) w:=run_underlying Tryz.underlying90 w
 rcases yA (w:=w) e.id he with ⟨a,c⟩ | ⟨j,x,ha,hid,a,c⟩
 ·refine ⟨w.putObj b (.map (es.push ⟨.int .i64 e.id,bM e,clock⟩) (clock + 1)),?_,⟨_,_,World.putObj_heap_same hl,?_,?_,?_,zL hi⟩,nO _ _ _⟩
  ·simp [Instr.mapUpdate,hm,MapKept.run_getObj_map hb,gy,c,MapKept.run_setObj_map _ hb,World.putObj]
  ·unfold fG;rw [a];simp [he,vE]
  ·simp only [Array.toList_push,List.map_append,List.map_cons,List.map_nil]
   rw [List.nodup_append]
   refine ⟨hn,by simp,λa ha b hb=>?_⟩
   simp at hb
   subst hb
   obtain ⟨x,hx,rfl⟩:=List.mem_map.1 ha
   have:=hc x hx
   omega
  ·intro y hy
   simp at hy
   rcases hy with hy | rfl
   ·have:=hc y (by simpa using hy);omega
   ·exact Nat.lt_succ_self _
 ·have hjl : j < l.length:=(List.getElem?_eq_some_iff.1 ha).1
  have hj : j < es.size:=by
   have h2:=congrArg List.length he;simp at h2
   omega
  obtain ⟨y,hy⟩ : ∃ y,es[j]? = some y:=⟨_,Array.getElem?_eq_getElem hj⟩
  have hyj : es[j] = y:=by
   have:=Array.getElem?_eq_getElem hj
   rw [hy] at this
   exact (Option.some.inj this).symm
  have hyk : y.key = .int .i64 e.id:=by
   have h1 : (es.toList.map (λx=>(x.key,x.val)))[j]? = some (y.key,y.val):=by simp [hy]
   rw [he,List.getElem?_map,ha] at h1
   simp [vE] at h1
   rw [← h1.1,hid]
  have hks : (Instr.keyThatStays (.int .i64 e.id) (.int .i64 e.id)).run Tryz.prog w = .ok (.int .i64 e.id) w:=by
   simp [Instr.keyThatStays,Instr.sameBits]
  have hmod : (es.modify j λx=>{ x with key:=.int .i64 e.id,val:=bM e }).toList = es.toList.set j { y with key:=.int .i64 e.id,val:=bM e }:=by
   apply List.ext_getElem?
   intro k
   simp only [Array.getElem?_toList,Array.getElem?_modify,List.getElem?_set]
   by_cases hk : j = k
   ·subst hk;rw [hy];simp [hj,hyj]
   ·simp [hk]
  refine ⟨w.putObj b (.map (es.modify j λx=>{ x with key:=.int .i64 e.id,val:=bM e }) clock),?_,⟨_,_,World.putObj_heap_same hl,?_,?_,?_,zL hi⟩,nO _ _ _⟩
  ·simp [Instr.mapUpdate,hm,MapKept.run_getObj_map hb,gy,c,MapKept.run_setObj_map _ hb,World.putObj,hy,hyk,hks]
  ·rw [hmod,List.map_set,he]
   unfold fG
   rw [a]
   simp only [Option.isSome_some,if_true]
   rw [← MB l j x e ha hid hi,List.map_set]
   rfl
  ·rw [hmod,List.map_set]
   have : (es.toList.map (·.born)).set j y.born = es.toList.map (·.born):=by
    apply List.ext_getElem?
    intro k
    rw [List.getElem?_set]
    by_cases hk : j = k
    ·subst hk;simp [hj,hyj]
    ·simp [hk]
   show ((es.toList.map (·.born)).set j y.born).Nodup
   rw [this];exact hn
  ·rw [hmod]
   intro z hz
   rcases List.mem_or_eq_of_mem_set hz with h1 | rfl
   ·exact hc z h1
   ·exact hc y (by simp;exact Array.mem_of_getElem? hy)
theorem MC {w : World} {b : Nat} {l : List aB} (h : bW w b l) (ty : TypeId) : (Builtin.len_ #[lV] ty #[.map (some b)]).run Tryz.prog w = .ok (.int .i64 (l.length : Nat)) w:=by
 obtain ⟨es,clock,hb,he,_⟩:=h
 have hm : (underlying lV).run Tryz.prog w = .ok (.map 3 33) w:=run_underlying Tryz.underlying90 w
 have h2:=congrArg List.length he;simp at h2
 simp [Builtin.len_,hm,MapKept.run_getObj_map hb,goInt,h2]
end Go.Proofs.YtklkooeimkedgaaGreat
