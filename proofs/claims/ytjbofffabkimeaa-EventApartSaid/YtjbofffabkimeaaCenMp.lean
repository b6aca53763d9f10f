/- Maps of the call's own: what they hold, in the order in which it came. No program in sight. -/
import Derived.Test.YtjbofffabkimeaaCenSeg
import Derived.MapKept
set_option linter.unusedVariables false
set_option linter.unusedSimpArgs false
namespace Go.Cen
open Go.MapKept (run_getObj_map run_setObj_map)
open Go.ChangeMaps (setBlock)
variable {α β : Type}
def mEs (kv : α → Value) (vv : β → Value) (m : List (α × β)) : List MapEntry := m.zipIdx.map fun p => (⟨kv p.1.1, vv p.1.2, p.2⟩ : MapEntry)
def mObj (kv : α → Value) (vv : β → Value) (m : List (α × β)) : Obj := .map (mEs kv vv m).toArray m.length
def fnd [DecidableEq α] (k : α) : List (α × Value × Nat) → Nat → Option (Nat × Value)
  | [], _ => none
  | p :: r, i => if k = p.1 then some (i, p.2.1) else fnd k r (i + 1)
def mEn (kv : α → Value) (p : α × Value × Nat) : MapEntry := ⟨kv p.1, p.2.1, p.2.2⟩
/-- keys that may be told apart -/
structure KeyT (P : Program) (kt : TypeId) [DecidableEq α] (kv : α → Value) : Prop where
  chk : ∀ (e : Bool) (k : α) (w : World), (Instr.checkKey e 10000 kt (kv k)).run P w = .ok () w
  find : ∀ (k : α) (l : List (α × Value × Nat)) (w : World), (Instr.findKey kt (kv k) (l.map (mEn kv))).run P w = .ok (fnd k l 0) w
  same : ∀ k, Instr.sameBits 10000 (kv k) (kv k) = true
theorem KeyT.now {P : Program} {kt : TypeId} [DecidableEq α] {kv : α → Value} {d : TypeDesc} (hu : P.underlying kt = some d) (chk : ∀ (e : Bool) (k : α) (w : World), (Instr.checkKey e 10000 kt (kv k)).run P w = .ok () w)
    (same : ∀ k, Instr.sameBits 10000 (kv k) (kv k) = true) (hn : ∀ a b, Instr.sameNow d (kv a) (kv b) = some (decide (a = b))) : KeyT P kt kv := by
  refine ⟨chk, fun k l w => ?_, same⟩
  have h : ∀ (l : List (α × Value × Nat)) i, Instr.findNow d (kv k) (l.map (mEn kv)) i = some (fnd k l i) := by
    intro l
    induction l with
    | nil => intro i; rfl
    | cons p r ih =>
      intro i
      simp only [List.map_cons, Instr.findNow, mEn, hn, fnd]
      by_cases e : k = p.1
      · simp [e]
      · simp only [e, decide_false, if_false]
        exact ih (i + 1)
  simp [Instr.findKey, run_underlying hu, h]
theorem KeyT.asking {P : Program} {kt : TypeId} [DecidableEq α] {kv : α → Value} {d : TypeDesc} (hu : P.underlying kt = some d) (chk : ∀ (e : Bool) (k : α) (w : World), (Instr.checkKey e 10000 kt (kv k)).run P w = .ok () w)
    (same : ∀ k, Instr.sameBits 10000 (kv k) (kv k) = true) (hn : ∀ a b, Instr.sameNow d (kv a) (kv b) = none) (he : ∀ a b w, (Op.equal kt (kv a) (kv b)).run P w = .ok (decide (a = b)) w) : KeyT P kt kv := by
  refine ⟨chk, fun k l w => ?_, same⟩
  have h : ∀ (l : List (α × Value × Nat)) i, (Instr.findAsking kt (kv k) (l.map (mEn kv)) i).run P w = .ok (fnd k l i) w := by
    intro l
    induction l with
    | nil => intro i; rfl
    | cons p r ih =>
      intro i
      simp only [List.map_cons, Instr.findAsking, mEn, Sem.run_bind, he, Result.andThen_ok, fnd]
      by_cases e : k = p.1
      · simp [e]
      · simp only [e, decide_false, if_false, Bool.false_eq_true]
        exact ih (i + 1)
  cases l with
  | nil => simp [Instr.findKey, run_underlying hu, Instr.findNow, fnd]
  | cons p r =>
    have := h (p :: r) 0
    simp only [List.map_cons] at this ⊢
    simp [Instr.findKey, run_underlying hu, Instr.findNow, mEn, hn]
    simpa [mEn] using this
theorem KeyT.int {P : Program} {kt : TypeId} {q : IntKind} (hu : P.underlying kt = some (.int q)) : KeyT P kt (fun x : Int => Value.int q x) := by
  refine KeyT.now hu (fun e k w => ?_) (fun k => ?_) (fun a b => ?_)
  · have : ∀ n : Nat, (Instr.checkKey e (n + 1) kt (Value.int q k)).run P w = .ok () w := fun n => by simp [Instr.checkKey, run_underlying hu]
    exact this 9999
  · have : ∀ n : Nat, Instr.sameBits n (Value.int q k) (Value.int q k) = true := fun n => by cases n <;> simp [Instr.sameBits]
    exact this 10000
  · simp only [Instr.sameNow, if_true]
    by_cases e : a = b <;> simp [e]
/-! ### what a map tells -/
def mHas [DecidableEq α] (k : α) (m : List (α × β)) : Bool := m.any fun p => decide (k = p.1)
def mIdx [DecidableEq α] (k : α) (m : List (α × β)) : Nat := m.findIdx fun p => decide (k = p.1)
def mVal [DecidableEq α] (z : β) (k : α) (m : List (α × β)) : β := match m.find? (fun p => decide (k = p.1)) with | some p => p.2 | none => z
def mEnt [DecidableEq α] (z : β) (k : α) (m : List (α × β)) : List (α × β) := if mHas k m then m else m ++ [(k, z)]
def mSet (i : Nat) (x : β) (m : List (α × β)) : List (α × β) := m.modify i fun p => (p.1, x)
def mPut [DecidableEq α] (k : α) (x : β) (m : List (α × β)) : List (α × β) := if mHas k m then mSet (mIdx k m) x m else m ++ [(k, x)]
theorem mEs_fnd [DecidableEq α] (kv : α → Value) (vv : β → Value) (z : β) (k : α) (m : List (α × β)) : mEs kv vv m = (m.zipIdx.map fun p => (p.1.1, vv p.1.2, p.2)).map (mEn kv) := by
  simp [mEs, mEn, Function.comp_def]
theorem fnd_zip [DecidableEq α] (vv : β → Value) (z : β) (k : α) : ∀ (m : List (α × β)) (n i : Nat), fnd k ((m.zipIdx n).map fun p => (p.1.1, vv p.1.2, p.2)) i = if mHas k m then some (i + mIdx k m, vv (mVal z k m)) else none
  | [], n, i => by simp [fnd, mHas]
  | p :: r, n, i => by
    have ih := fnd_zip vv z k r (n + 1) (i + 1)
    simp only [List.zipIdx_cons, List.map_cons, fnd]
    by_cases e : k = p.1
    · simp [e, mHas, mIdx, mVal, List.findIdx_cons]
    · simp only [e, if_false, ih, mHas, List.any_cons, decide_false, Bool.false_or, mIdx, List.findIdx_cons, mVal, List.find?_cons, cond_false]
      by_cases h2 : (r.any fun p => decide (k = p.1)) = true
      · simp only [h2, if_true]
        congr 2
        omega
      · simp [h2]
theorem find_m {P : Program} {kt : TypeId} [DecidableEq α] {kv : α → Value} (K : KeyT P kt kv) (vv : β → Value) (z : β) (k : α) (m : List (α × β)) (w : World) :
    (Instr.findKey kt (kv k) (mEs kv vv m)).run P w = .ok (if mHas k m then some (mIdx k m, vv (mVal z k m)) else none) w := by
  rw [mEs_fnd kv vv z k, K.find, fnd_zip vv z]
  simp
theorem mIdx_lt [DecidableEq α] {k : α} {m : List (α × β)} (h : mHas k m = true) : mIdx k m < m.length := by
  unfold mIdx
  rw [List.findIdx_lt_length]
  simp only [mHas, List.any_eq_true] at h
  exact h
theorem mIdx_key [DecidableEq α] {k : α} {m : List (α × β)} (h : mHas k m = true) : (m[mIdx k m]'(mIdx_lt h)).1 = k := by
  have := List.findIdx_getElem (p := fun p : α × β => decide (k = p.1)) (xs := m) (w := mIdx_lt h)
  exact (of_decide_eq_true this).symm
theorem mVal_ent [DecidableEq α] (z : β) (k : α) (m : List (α × β)) : mVal z k (mEnt z k m) = mVal z k m := by
  unfold mEnt
  by_cases h : mHas k m = true
  · rw [if_pos h]
  · rw [if_neg h]
    have e : m.find? (fun p => decide (k = p.1)) = none := by
      rw [List.find?_eq_none]
      simp only [mHas, List.any_eq_true, not_exists, not_and] at h
      exact h
    simp [mVal, List.find?_append, e]
theorem mEs_get (kv : α → Value) (vv : β → Value) (m : List (α × β)) (i : Nat) (h : i < m.length) : (mEs kv vv m)[i]? = some ⟨kv m[i].1, vv m[i].2, i⟩ := by
  simp [mEs, h]
theorem mEs_len (kv : α → Value) (vv : β → Value) (m : List (α × β)) : (mEs kv vv m).length = m.length := by simp [mEs]
theorem mEs_snoc (kv : α → Value) (vv : β → Value) (m : List (α × β)) (p : α × β) : mEs kv vv (m ++ [p]) = mEs kv vv m ++ [⟨kv p.1, vv p.2, m.length⟩] := by
  simp [mEs, List.zipIdx_append]
theorem mEs_modify (kv : α → Value) (vv : β → Value) (m : List (α × β)) (i : Nat) (x : β) : (mEs kv vv m).modify i (fun e => { e with val := vv x }) = mEs kv vv (mSet i x m) := by
  apply List.ext_getElem?
  intro j
  rw [List.getElem?_modify]
  by_cases hj : j < m.length
  · rw [mEs_get kv vv m j hj, mEs_get kv vv (mSet i x m) j (by simp [mSet, hj])]
    simp only [mSet, List.getElem_modify]
    split <;> simp
  · rw [List.getElem?_eq_none (by rw [mEs_len]; omega), List.getElem?_eq_none (by rw [mEs_len]; simp [mSet]; omega)]
    rfl
theorem mEs_rekey (kv : α → Value) (vv : β → Value) (m : List (α × β)) (i : Nat) (k : α) (h : ∀ (hi : i < m.length), m[i].1 = k) : (mEs kv vv m).modify i (fun e => { e with key := kv k }) = mEs kv vv m := by
  apply List.ext_getElem?
  intro j
  rw [List.getElem?_modify]
  by_cases hj : j < m.length
  · rw [mEs_get kv vv m j hj]
    by_cases e : i = j
    · subst e; simp [h hj]
    · simp [e]
  · rw [List.getElem?_eq_none (by rw [mEs_len]; omega)]
    rfl
variable {P : Program} {N : FN} {ops : Array Oper} {i : Nat} {S : Sl} {w w' w0 : World} {K : Sl → World → Prop} {Z : Hp} {A R : HP} {C : World → Prop} {Q : Exit → Act → World → Prop}
theorem keep_same (w : World) {v : Value} (h : Instr.sameBits 10000 v v = true) : (Instr.keyThatStays v v).run P w = .ok v w := by
  simp [Instr.keyThatStays, h]
theorem put_block {b : Nat} {o o' : Obj} (hI : Inv w0 Z w (star (pt b o) R)) : Inv w0 Z (setBlock w b o') (star (pt b o') R) := by
  have hb := hI.block
  have hlt : b < w.heap.size := (Array.getElem?_eq_some_iff.1 hb).1
  exact hI.put (w' := setBlock w b o') (by simp [setBlock, hlt]) (fun k hk => by simp [setBlock, Array.getElem?_setIfInBounds, Ne.symm hk]) rfl rfl rfl
theorem run_mapEntry [DecidableEq α] {mt kt et : TypeId} {kv : α → Value} {vv : β → Value} {m : List (α × β)} {b : Nat} (KT : KeyT P kt kv) (ht : P.underlying mt = some (.map kt et)) (z : β) (hz : ∀ w, (zeroValue et).run P w = .ok (vv z) w)
    (hI : Inv w0 Z w (star (pt b (mObj kv vv m)) R)) (k : α) : ∃ w', (Instr.mapEntry mt (.map (some b)) (kv k)).run P w = .ok (.tuple #[vv (mVal z k m), .int .i64 (mIdx k m)]) w' ∧ Inv w0 Z w' (star (pt b (mObj kv vv (mEnt z k m))) R) := by
  have hb : w.heap[b]? = some (.map (mEs kv vv m).toArray m.length) := hI.block
  have hf := find_m KT vv z k m w
  by_cases h : mHas k m = true
  · rw [if_pos h] at hf
    have hlt := mIdx_lt h
    have hk := mIdx_key h
    refine ⟨_, ?_, by simpa [mEnt, h] using put_block (o' := mObj kv vv m) hI⟩
    have e1 : (mEs kv vv m)[mIdx k m]? = some ⟨kv k, vv m[mIdx k m].2, mIdx k m⟩ := by
      rw [mEs_get kv vv m _ hlt, hk]
    have e2 : ((mEs kv vv m).modify (mIdx k m) fun e => { e with key := kv k }) = mEs kv vv m := mEs_rekey kv vv m _ k (fun _ => hk)
    simp [Instr.mapEntry, run_underlying ht, MapKept.run_getObj_map hb, KT.chk, hf, e1, keep_same w (KT.same k), e2, MapKept.run_setObj_map _ hb, goInt, mObj, setBlock]
  · rw [if_neg h] at hf
    refine ⟨_, ?_, by simpa [mEnt, h] using put_block (o' := mObj kv vv (m ++ [(k, z)])) hI⟩
    have e1 : mIdx k m = m.length := by
      unfold mIdx
      rw [List.findIdx_eq_length]
      intro x hx
      simp only [mHas, List.any_eq_true, not_exists, not_and] at h
      simpa using h x hx
    have e2 : mVal z k m = z := by
      unfold mVal
      have : m.find? (fun p => decide (k = p.1)) = none := by
        rw [List.find?_eq_none]
        simp only [mHas, List.any_eq_true, not_exists, not_and] at h
        exact h
      rw [this]
    simp [Instr.mapEntry, run_underlying ht, MapKept.run_getObj_map hb, KT.chk, hf, hz, MapKept.run_setObj_map _ hb, goInt, mObj, e1, e2, mEs_snoc, setBlock]
theorem run_entryStore {mt : TypeId} {kv : α → Value} {vv : β → Value} {m : List (α × β)} {b i : Nat} {q : IntKind} (hI : Inv w0 Z w (star (pt b (mObj kv vv m)) R)) (hi : i < m.length) (x : β) :
    ∃ w', (Instr.entryStore mt (.map (some b)) (.int q i) (vv x)).run P w = .ok () w' ∧ Inv w0 Z w' (star (pt b (mObj kv vv (mSet i x m))) R) := by
  have hb : w.heap[b]? = some (.map (mEs kv vv m).toArray m.length) := hI.block
  have e1 : (mEs kv vv m).toArray.findIdx? (fun e => ((e.born : Nat) : Int) == (i : Int)) = some i := by
    rw [List.findIdx?_toArray, List.findIdx?_eq_some_iff_getElem]
    refine ⟨by rw [mEs_len]; exact hi, ?_, fun j hj => ?_⟩
    · simp [mEs]
    · simp [mEs]; omega
  refine ⟨_, ?_, put_block (o' := mObj kv vv (mSet i x m)) hI⟩
  have e2 : (mSet i x m).length = m.length := by simp [mSet]
  rw [List.findIdx?_toArray] at e1
  simp [Instr.entryStore, MapKept.run_getObj_map hb, asInt, asIntOf, e1, MapKept.run_setObj_map _ hb, mObj, mEs_modify, e2, setBlock]
theorem run_lookup [DecidableEq α] {mt kt et : TypeId} {kv : α → Value} {vv : β → Value} {m : List (α × β)} {b : Nat} (KT : KeyT P kt kv) (ht : P.underlying mt = some (.map kt et)) (z : β) (hz : ∀ w, (zeroValue et).run P w = .ok (vv z) w)
    (hI : Inv w0 Z w (star (pt b (mObj kv vv m)) R)) (k : α) (ok : Bool) : (Instr.lookup mt (.map (some b)) (kv k) ok).run P w = .ok (if ok then .tuple #[vv (mVal z k m), .bool (mHas k m)] else vv (mVal z k m)) w := by
  have hb : w.heap[b]? = some (.map (mEs kv vv m).toArray m.length) := hI.block
  have hf := find_m KT vv z k m w
  by_cases h : mHas k m = true
  · rw [if_pos h] at hf
    simp [Instr.lookup, run_underlying ht, MapKept.run_getObj_map hb, KT.chk, hf, h]
  · rw [if_neg h] at hf
    have e2 : mVal z k m = z := by
      unfold mVal
      have : m.find? (fun p => decide (k = p.1)) = none := by
        rw [List.find?_eq_none]
        simp only [mHas, List.any_eq_true, not_exists, not_and] at h
        exact h
      rw [this]
    simp [Instr.lookup, run_underlying ht, MapKept.run_getObj_map hb, KT.chk, hf, hz, h, e2]
theorem run_mapUpdate [DecidableEq α] {mt kt et : TypeId} {kv : α → Value} {vv : β → Value} {m : List (α × β)} {b : Nat} (KT : KeyT P kt kv) (ht : P.underlying mt = some (.map kt et))
    (hI : Inv w0 Z w (star (pt b (mObj kv vv m)) R)) (k : α) (x : β) : ∃ w', (Instr.mapUpdate mt (.map (some b)) (kv k) (vv x)).run P w = .ok () w' ∧ Inv w0 Z w' (star (pt b (mObj kv vv (mPut k x m))) R) := by
  have hb : w.heap[b]? = some (.map (mEs kv vv m).toArray m.length) := hI.block
  have hf := find_m KT vv x k m w
  by_cases h : mHas k m = true
  · rw [if_pos h] at hf
    have hlt := mIdx_lt h
    have hk := mIdx_key h
    refine ⟨_, ?_, by simpa [mPut, h] using put_block (o' := mObj kv vv (mSet (mIdx k m) x m)) hI⟩
    have e1 : (mEs kv vv m)[mIdx k m]? = some ⟨kv k, vv m[mIdx k m].2, mIdx k m⟩ := by
      rw [mEs_get kv vv m _ hlt, hk]
    have e2 : ((mEs kv vv m).modify (mIdx k m) fun e => { e with key := kv k, val := vv x }) = mEs kv vv (mSet (mIdx k m) x m) := by
      have r := mEs_rekey kv vv m (mIdx k m) k (fun _ => hk)
      have s := mEs_modify kv vv m (mIdx k m) x
      rw [← r, List.modify_modify_eq] at s
      exact s
    have e3 : (mSet (mIdx k m) x m).length = m.length := by simp [mSet]
    simp [Instr.mapUpdate, run_underlying ht, MapKept.run_getObj_map hb, KT.chk, hf, e1, keep_same w (KT.same k), e2, e3, MapKept.run_setObj_map _ hb, mObj, setBlock]
  · rw [if_neg h] at hf
    refine ⟨_, ?_, by simpa [mPut, h] using put_block (o' := mObj kv vv (m ++ [(k, x)])) hI⟩
    simp [Instr.mapUpdate, run_underlying ht, MapKept.run_getObj_map hb, KT.chk, hf, MapKept.run_setObj_map _ hb, mObj, mEs_snoc, setBlock]
/-! ### at the operation -/
def mapSem (tag : Nat) (T : TypeId) (ok : Bool) (v u y : Value) : Sem Next :=
  match tag with
  | 0 => (do pure (Next.value (← Instr.makeMap T none)))
  | 1 => (do pure (Next.value (← Instr.mapEntry T v u)))
  | 2 => (do pure (Next.value (← Instr.lookup T v u ok)))
  | 3 => (do Instr.entryStore T v u y; pure .skip)
  | _ => (do Instr.mapUpdate T v u y; pure .skip)
def asMap (N : FN) (ops : Array Oper) (S : Sl) (i : Nat) : Option (Option Nat × Nat × TypeId × Bool × Value × Value × Value) :=
  match sp N ops S i with
  | some o => match o.op with
    | .makeMap T none => some (o.dst, 0, T, false, undef, undef, undef)
    | .mapEntry T m k => match ev S m, ev S k with | some v, some u => some (o.dst, 1, T, false, v, u, undef) | _, _ => none
    | .lookup T m k ok => match ev S m, ev S k with | some v, some u => some (o.dst, 2, T, ok, v, u, undef) | _, _ => none
    | .entryStore T m k x => match ev S m, ev S k, ev S x with | some v, some u, some y => some (o.dst, 3, T, false, v, u, y) | _, _, _ => none
    | .mapUpdate T m k x => match ev S m, ev S k, ev S x with | some v, some u, some y => some (o.dst, 4, T, false, v, u, y) | _, _, _ => none
    | .insert T m k x => match ev S m, ev S k, ev S x with | some v, some u, some y => some (o.dst, 4, T, false, v, u, y) | _, _, _ => none
    | _ => none
  | none => none
theorem asMap_spec {d : Option Nat} {tag : Nat} {T : TypeId} {ok : Bool} {v u y : Value} (h : asMap N ops S i = some (d, tag, T, ok, v, u, y)) : ∃ o, sp N ops S i = some o ∧ o.dst = d ∧ execOp (rho S) o = mapSem tag T ok v u y := by
  unfold asMap at h
  cases hs : sp N ops S i with
  | none => simp [hs] at h
  | some o' =>
    simp only [hs] at h
    refine ⟨o', rfl, ?_⟩
    split at h
    · rename_i e; cases h; exact ⟨rfl, by simp only [execOp, e, mapSem, Option.map]⟩
    · rename_i e; split at h
      · rename_i h1 h2; cases h; exact ⟨rfl, by simp only [execOp, e, mapSem, rho, h1, h2]⟩
      · cases h
    · rename_i e; split at h
      · rename_i h1 h2; cases h; exact ⟨rfl, by simp only [execOp, e, mapSem, rho, h1, h2]⟩
      · cases h
    · rename_i e; split at h
      · rename_i h1 h2 h3; cases h; exact ⟨rfl, by simp only [execOp, e, mapSem, rho, h1, h2, h3]⟩
      · cases h
    · rename_i e; split at h
      · rename_i h1 h2 h3; cases h; exact ⟨rfl, by simp only [execOp, e, mapSem, rho, h1, h2, h3]⟩
      · cases h
    · rename_i e; split at h
      · rename_i h1 h2 h3; cases h; exact ⟨rfl, by simp only [execOp, e, mapSem, rho, h1, h2, h3]⟩
      · cases h
    · cases h
theorem Does.makeMap {d : Nat} {T : TypeId} (kv : α → Value) (vv : β → Value) (h : asMap N ops S i = some (some d, 0, T, false, undef, undef, undef)) (hI : Inv w0 Z w A)
    (hk : ∀ b w', Inv w0 Z w' (star (pt b (mObj kv vv ([] : List (α × β)))) A) → K ((d, .map (some b)) :: S) w') : Does P Q N ops i S w K := by
  obtain ⟨o, hs, hd, he⟩ := asMap_spec h
  refine Does.yield hs (v := .map (some w.heap.size)) (w' := { w with heap := w.heap.push (.map #[] 0) }) ?_ (by rw [hd]; exact hk _ _ (hI.new _))
  rw [he]
  simp [mapSem, Instr.makeMap, newObj, Sem.run]
theorem Does.mapEntry [DecidableEq α] {d b : Nat} {mt kt et : TypeId} {kv : α → Value} {vv : β → Value} {m : List (α × β)} {k : α} (h : asMap N ops S i = some (some d, 1, mt, false, .map (some b), kv k, undef)) (KT : KeyT P kt kv) (ht : P.underlying mt = some (.map kt et)) (z : β) (hz : ∀ w, (zeroValue et).run P w = .ok (vv z) w)
    (hI : Inv w0 Z w (star (pt b (mObj kv vv m)) R)) (hk : ∀ w', Inv w0 Z w' (star (pt b (mObj kv vv (mEnt z k m))) R) → K ((d, .tuple #[vv (mVal z k m), .int .i64 (mIdx k m)]) :: S) w') : Does P Q N ops i S w K := by
  obtain ⟨o, hs, hd, he⟩ := asMap_spec h
  obtain ⟨w', h1, h2⟩ := run_mapEntry KT ht z hz hI k
  refine Does.yield hs (v := .tuple #[vv (mVal z k m), .int .i64 (mIdx k m)]) (w' := w') ?_ (by rw [hd]; exact hk _ h2)
  rw [he]
  simp [mapSem, h1]
theorem Does.entryStore {b j : Nat} {mt : TypeId} {kv : α → Value} {vv : β → Value} {m : List (α × β)} {q : IntKind} {x : β} (h : asMap N ops S i = some (none, 3, mt, false, .map (some b), .int q j, vv x)) (hI : Inv w0 Z w (star (pt b (mObj kv vv m)) R)) (hj : j < m.length)
    (hk : ∀ w', Inv w0 Z w' (star (pt b (mObj kv vv (mSet j x m))) R) → K S w') : Does P Q N ops i S w K := by
  obtain ⟨o, hs, hd, he⟩ := asMap_spec h
  obtain ⟨w', h1, h2⟩ := run_entryStore (P := P) (mt := mt) (q := q) hI hj x
  refine Does.skip hs (w' := w') ?_ (by rw [hd]; exact hk _ h2)
  rw [he]
  simp [mapSem, h1]
theorem Does.mapUpdate [DecidableEq α] {b : Nat} {mt kt et : TypeId} {kv : α → Value} {vv : β → Value} {m : List (α × β)} {k : α} {x : β} (h : asMap N ops S i = some (none, 4, mt, false, .map (some b), kv k, vv x)) (KT : KeyT P kt kv) (ht : P.underlying mt = some (.map kt et))
    (hI : Inv w0 Z w (star (pt b (mObj kv vv m)) R)) (hk : ∀ w', Inv w0 Z w' (star (pt b (mObj kv vv (mPut k x m))) R) → K S w') : Does P Q N ops i S w K := by
  obtain ⟨o, hs, hd, he⟩ := asMap_spec h
  obtain ⟨w', h1, h2⟩ := run_mapUpdate KT ht hI k x
  refine Does.skip hs (w' := w') ?_ (by rw [hd]; exact hk _ h2)
  rw [he]
  simp [mapSem, h1]
theorem Yl.lookup [DecidableEq α] {d b : Nat} {mt kt et : TypeId} {kv : α → Value} {vv : β → Value} {m : List (α × β)} {k : α} {ok : Bool} {r : Value} (h : asMap N ops S i = some (some d, 2, mt, ok, .map (some b), kv k, undef)) (KT : KeyT P kt kv) (ht : P.underlying mt = some (.map kt et)) (z : β) (hz : ∀ w, (zeroValue et).run P w = .ok (vv z) w)
    (hC : ∀ w, C w → Inv w0 Z w (star (pt b (mObj kv vv m)) R)) (hr : (if ok then .tuple #[vv (mVal z k m), .bool (mHas k m)] else vv (mVal z k m)) = r) : Yl P N ops S i C d r := by
  subst hr
  obtain ⟨o, hs, hd, he⟩ := asMap_spec h
  refine ⟨o, hs, hd, fun w hw => ?_⟩
  rw [he]
  simp [mapSem, run_lookup KT ht z hz (hC w hw)]
end Go.Cen
