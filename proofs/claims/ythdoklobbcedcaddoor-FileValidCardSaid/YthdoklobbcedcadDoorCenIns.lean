/- slices.Insert and slices.Delete at texts: the kit's contracts, told of what a call owns. No program in sight. -/
import Derived.Test.YthdoklobbcedcadDoorCenOwn
import Derived.Laws.Tables
import Derived.LoopNIn
import Derived.Shelf.Spec.SlicesInsertGrow
import Derived.Shelf.Slices.Delete
import Derived.Lib.RowBridge
set_option linter.unusedVariables false
set_option linter.unusedSimpArgs false
namespace Go.Cen
open Go.Shelf Go.Proofs
def insS (a : List ByteArray) (i : Int) (b : List ByteArray) : Option (List ByteArray) :=
  if 0 ≤ i ∧ i ≤ (a.length : Int) ∧ 0 < b.length ∧ a.length + b.length ≤ LIM then some (a.take i.toNat ++ b ++ a.drop i.toNat) else none
def delS (a : List ByteArray) (i j : Int) : Option (List ByteArray) :=
  if 0 ≤ i ∧ i ≤ j ∧ j ≤ (a.length : Int) ∧ 0 < a.length then some (a.take i.toNat ++ a.drop j.toNat) else none
variable {P : Program} {ρ : Ren} {w0 w w' : World} {Z : Hp} {A R : HP} {E : TypeId}
theorem cS_len (l : List ByteArray) : ∀ y ∈ l, (cS y).length = 1 := fun _ _ => rfl
/-- An own slice of texts, laid open. -/
theorem ownT_open {Ad : Option Addr} {c : Nat} {ys : List ByteArray} (h : Inv w0 Z w (star (ownS E cS 1 Ad c ys) R)) (hn : 0 < c) : ∃ (g : Nat) (l : List Value) (fz : Nat × Nat), Ad = some ⟨g, 0, none⟩ ∧ Inv w0 Z w (star (pt g (.cells l.toArray E fz)) R) ∧ l.length = c ∧ l.take ys.length = ys.map Value.string ∧ fz.2 ≤ fz.1 := by
  obtain ⟨g, l, fz, h1, h2, h3, h4, h5⟩ := ownS_open h hn
  refine ⟨g, l, fz, h1, h2, by rw [h3, Nat.mul_one], by rw [Nat.mul_one, flat_cS] at h4; exact h4, ?_⟩
  rcases h5.2 with h | h
  · exact h
  · obtain ⟨x, hx⟩ := h ⟨#[]⟩ (.string ⟨#[]⟩) (by simp [cS])
    cases hx
theorem ownT_shut {g c : Nat} {l : List Value} {fz : Nat × Nat} {ys : List ByteArray} (h : Inv w0 Z w (star (pt g (.cells l.toArray E fz)) R)) (hc : ys.length ≤ c) (hm : c ≤ maxLen) (hl : l.length = c) (ht : l.take ys.length = ys.map Value.string) (hz : fz.2 ≤ fz.1) : Inv w0 Z w (star (ownS E cS 1 (some ⟨g, 0, none⟩) c ys) R) :=
  ownS_shut h hc hm (cS_len ys) (by rw [hl, Nat.mul_one]) (by rw [Nat.mul_one, flat_cS]; exact ht) ⟨.inr hz, .inl hz⟩
theorem unfrozen {b o : Nat} {l : List Value} {T : TypeId} {fz : Nat × Nat} (h : w.heap[b]? = some (.cells l.toArray T fz)) (hz : fz.2 ≤ fz.1) : w.frozen? ⟨b, o, none⟩ = false := by
  simp only [World.frozen?, h]
  simp; omega
theorem one_map (l : List ByteArray) : ∀ v ∈ l.map Value.string, v.oneCell' = true := fun v hv => by
  obtain ⟨x, _, rfl⟩ := List.mem_map.1 hv
  rfl
theorem Inv.cells {b o : Nat} {vs l : List Value} {T : TypeId} {fz : Nat × Nat} (hI : Inv w0 Z w (star (pt b (.cells l.toArray T fz)) R)) (e : w' = w.setCells b o vs) : Inv w0 Z w' (star (pt b (.cells (lset l o vs).toArray T fz)) R) := by
  subst e
  obtain ⟨s1, s2, s3, s4⟩ := setCells_same b vs o w
  exact hI.put (setCells_heap b _ _ w l hI.block) s4 s1 s2 s3
theorem take_lset {l vs : List Value} {n m : Nat} (h : n + vs.length ≤ l.length) (e : m = n + vs.length) : (lset l n vs).take m = l.take n ++ vs := by
  subst e
  rw [lset_eq _ _ _ h, List.take_append_of_le_length (by simp; omega), List.take_of_length_le (by simp; omega)]
theorem get_map {l : List Value} {ys : List ByteArray} (ht : l.take ys.length = ys.map Value.string) {j : Nat} {v : Value} (hj : (ys.map Value.string)[j]? = some v) : l[j]? = some v := by
  rw [← ht, List.getElem?_take] at hj
  split at hj
  · exact hj
  · cases hj
theorem ins_str (L : Lays2.n22 P ρ) (hE : E = ρ.t 9) (w0 w : World) (Z : Hp) (A : HP) (A0 : Option Addr) (c0 : Nat) (a0 : List ByteArray) (a1 : Int) (A2 : Option Addr) (c2 : Nat) (a2 : List ByteArray)
    (hI : Inv w0 Z w (star (ownS E cS 1 A0 c0 a0) (star (ownS E cS 1 A2 c2 a2) A))) (r : List ByteArray) (h0 : insS a0 a1 a2 = some r) :
    Calls P (ρ.f 22) #[.slice A0 a0.length c0, .int .i64 a1, .slice A2 a2.length c2] w (fun e w' => ∃ (A1 : Option Addr) (c1 : Nat), e = .returned (.slice A1 r.length c1) ∧ Inv w0 Z w' (star (ownS E cS 1 A1 c1 r) A)) := by
  subst hE
  obtain ⟨⟨g0, g1, g2, g3⟩, h0⟩ := guardS h0
  have h0 := someS h0
  subst h0
  obtain ⟨i, rfl⟩ := Int.eq_ofNat_of_zero_le g0
  have hi : i ≤ a0.length := by omega
  have hL : LIM = 1099511627776 := rfl
  simp only [Int.toNat_natCast]
  have hlen : (a0.take i ++ a2 ++ a0.drop i).length = a0.length + a2.length := by simp; omega
  rw [hlen]
  obtain ⟨f1, f2, _⟩ := ownS_facts hI
  have hI2 := hI.mono (pick2 _ _ _)
  obtain ⟨k1, k2, _⟩ := ownS_facts hI2
  obtain ⟨vb, l2, fz2, rfl, hI3, q1, q2, q3⟩ := ownT_open hI2 (by omega)
  have hvs : ∀ j v, (a2.map Value.string)[j]? = some v → w.cell? ⟨vb, 0 + j, none⟩ = some v := fun j v hj => by
    rw [Nat.zero_add, cell_at hI3.block]; exact get_map q2 hj
  have hsa : w.shape? vb = some (ρ.t 9, c2) := by simp [World.shape?, hI3.block, q1]
  by_cases hc0 : c0 = 0
  · have ha : a0 = [] := List.length_eq_zero_iff.1 (by omega)
    subst ha
    have hi0 : i = 0 := by simpa using hi
    subst hi0; subst hc0
    have := Any2.slices_Insert_string_end_grow L A0 0 0 vb 0 a2.length c2 [] (a2.map Value.string) w g2 (Nat.le_refl _) (by omega) (by simp only [List.length_nil] at g3; omega) rfl (by simp) (fun _ => rfl) (fun _ _ j v hj => by simp at hj) hvs (one_map a2)
    refine this.mono ?_
    rintro e w' ⟨rfl, rfl⟩
    have hI' : Inv w0 Z w.drew A := (hI3.drop.drop).same rfl rfl rfl rfl
    refine ⟨_, _, rfl, ?_⟩
    have hn := hI'.new (.cells (((([] : List Value) ++ a2.map Value.string).toArray ++ Builtin.zeroCells (Value.string ⟨#[]⟩).cells (grownCap w (0 + a2.length) 0 (ρ.t 9) - (0 + a2.length))).toList).toArray (ρ.t 9) (0, 0))
    have hg := grownCap_ge w (0 + a2.length) 0 (ρ.t 9)
    refine ownT_shut hn (by simpa using hg) (grownCap_le_maxLen w _ 0 _ (by simp only [maxLen]; omega)) ?_ ?_ (Nat.le_refl _)
    · have := zeroCells_size (Value.string ⟨#[]⟩).cells (grownCap w (0 + a2.length) 0 (ρ.t 9) - (0 + a2.length))
      have hc : (Value.string ⟨#[]⟩).cells.size = 1 := rfl
      simp only [List.nil_append, Array.length_toList, Array.size_append, List.size_toArray, List.length_map, this, hc]; omega
    · simp
  · obtain ⟨b, l, fz, rfl, hI4, p1, p2, p3⟩ := ownT_open (hI3.mono (pick2 _ _ _)) (by omega)
    have hb := hI4.block
    have hvb : vb ≠ b := by
      obtain ⟨_, ⟨x, y, rfl, ⟨x', y', rfl, _, _, rfl⟩, d, _⟩, _⟩ := hI4.mem
      rintro rfl
      rcases d vb with e | e
      · rw [Hp.one_self] at e; cases e
      · have := (Hp.join_none.1 e).1
        rw [Hp.one_self] at this; cases this
    have hcell : ∀ j v, (a0.map Value.string)[j]? = some v → w.cell? ⟨b, 0 + j, none⟩ = some v := fun j v hj => by
      rw [Nat.zero_add, cell_at hb]; exact get_map p2 hj
    have hI5 : Inv w0 Z w (star (pt b (.cells l.toArray (ρ.t 9) fz)) A) := ((hI4.mono (pick2 _ _ _)).drop)
    by_cases hroom : a0.length + a2.length ≤ c0
    · by_cases hin : i = a0.length
      · subst hin
        have := Any2.slices_Insert_string_end_room L b 0 a0.length c0 vb 0 a2.length c2 (a2.map Value.string) w g2 hroom (by simp only [maxLen] at f2; omega) (by simp)
          (fun j hj => by rw [cell_at hb, List.getElem?_eq_getElem (by omega)]; rfl) (fun j hj => unfrozen hb p3) hvs (one_map a2)
        refine this.mono ?_
        rintro e w' ⟨rfl, e2⟩
        refine ⟨_, _, rfl, ?_⟩
        have hJ := hI5.cells e2
        refine ownT_shut hJ (by rw [hlen]; exact hroom) f2 (by rw [lset_length, p1]) ?_ p3
        rw [hlen, take_lset (by simp; omega) (by simp), Nat.zero_add, p2]
        simp
      · have hlt : i < a0.length := by omega
        have := Any2.slices_Insert_string_shift L b 0 a0.length c0 i vb 0 a2.length c2 (a0.map Value.string) (a2.map Value.string) w hlt g2 hroom (by simp only [maxLen] at f2; omega) hvb (by simp) (by simp) hcell
          (fun j hj => by rw [cell_at hb, List.getElem?_eq_getElem (by omega)]; rfl) (fun j hj => unfrozen hb p3) hvs (one_map a0) (one_map a2) (ρ.t 9) (ρ.t 9) c2 c0 hsa (by simp [World.shape?, hb, p1]) hc0 (unfrozen hI3.block q3) (unfrozen hI3.block q3)
        refine this.mono ?_
        rintro e w' ⟨rfl, e2⟩
        refine ⟨_, _, rfl, ?_⟩
        have hd : Inv w0 Z w.drew (star (pt b (.cells l.toArray (ρ.t 9) fz)) A) := hI5.same rfl rfl rfl rfl
        have hJ := (hd.cells rfl).cells e2
        refine ownT_shut hJ (by rw [hlen]; exact hroom) f2 (by rw [lset_length, lset_length, p1]) ?_ p3
        simp only [Nat.zero_add]
        have hz : (((a0.map Value.string).drop i)).length = a0.length - i := by simp
        have e3 := lset_eq ((a0.map Value.string).drop i) l (i + a2.length) (by rw [hz]; omega)
        have e4 := lset_eq (a2.map Value.string) (lset l (i + a2.length) ((a0.map Value.string).drop i)) i (by rw [lset_length]; simp; omega)
        have e5 : l.take i = (a0.map Value.string).take i := by
          rw [← p2, List.take_take, Nat.min_eq_left hi]
        rw [hlen, e4, e3]
        have t1 : (l.take (i + a2.length) ++ (a0.map Value.string).drop i ++ l.drop (i + a2.length + ((a0.map Value.string).drop i).length)).take i = (a0.map Value.string).take i := by
          rw [List.append_assoc, List.take_append_of_le_length (by simp; omega), List.take_take, Nat.min_eq_left (by omega), e5]
        have t2 : (l.take (i + a2.length) ++ (a0.map Value.string).drop i ++ l.drop (i + a2.length + ((a0.map Value.string).drop i).length)).drop (i + (a2.map Value.string).length) = (a0.map Value.string).drop i ++ l.drop (i + a2.length + ((a0.map Value.string).drop i).length) := by
          rw [List.append_assoc, List.drop_append_of_le_length (by simp; omega), List.drop_of_length_le (by simp; omega), List.nil_append]
        rw [t1, t2, ← List.append_assoc, List.take_append_of_le_length (by simp; omega), List.take_of_length_le (by simp; omega)]
        simp
    · by_cases hin : i = a0.length
      · subst hin
        have := Any2.slices_Insert_string_end_grow L (some ⟨b, 0, none⟩) a0.length c0 vb 0 a2.length c2 (a0.map Value.string) (a2.map Value.string) w g2 f1 (by omega) (by omega) (by simp) (by simp) (fun h => by cases h)
          (fun a ha j v hj => by cases ha; rw [Addr.add_mid]; exact hcell j v hj) hvs (one_map a2)
        refine this.mono ?_
        rintro e w' ⟨rfl, rfl⟩
        have hI' : Inv w0 Z w.drew A := (hI5.drop).same rfl rfl rfl rfl
        refine ⟨_, _, rfl, ?_⟩
        have hn := hI'.new (.cells (((a0.map Value.string ++ a2.map Value.string).toArray ++ Builtin.zeroCells (Value.string ⟨#[]⟩).cells (grownCap w (a0.length + a2.length) c0 (ρ.t 9) - (a0.length + a2.length))).toList).toArray (ρ.t 9) (0, 0))
        have hg := grownCap_ge w (a0.length + a2.length) c0 (ρ.t 9)
        refine ownT_shut hn (by rw [hlen]; exact hg) (grownCap_le_maxLen w _ c0 _ (by simp only [maxLen]; omega)) ?_ ?_ (Nat.le_refl _)
        · have := zeroCells_size (Value.string ⟨#[]⟩).cells (grownCap w (a0.length + a2.length) c0 (ρ.t 9) - (a0.length + a2.length))
          have hc : (Value.string ⟨#[]⟩).cells.size = 1 := rfl
          simp only [Array.length_toList, Array.size_append, List.size_toArray, List.length_append, List.length_map, this, hc]; omega
        · rw [hlen, Array.toList_append]
          rw [List.take_append_of_le_length (by simp), List.take_of_length_le (by simp)]
          simp
      · have hlt : i < a0.length := by omega
        have := Any2.slices_Insert_string_grow L b 0 a0.length c0 i vb 0 a2.length c2 (a0.map Value.string) (a2.map Value.string) w hlt g2 f1 (by omega) (by omega) (by simp) (by simp) hcell hvs (one_map a0) (one_map a2)
        refine this.mono ?_
        rintro e w' ⟨rfl, e2⟩
        have hI' : Inv w0 Z w A := hI5.drop
        refine ⟨_, _, rfl, ?_⟩
        have hg := grownCap_ge w (a0.length + a2.length) c0 (ρ.t 9)
        obtain ⟨G, hG⟩ : ∃ G, G = grownCap w (a0.length + a2.length) c0 (ρ.t 9) := ⟨_, rfl⟩
        rw [← hG] at e2 hg ⊢
        obtain ⟨X, hX⟩ : ∃ X : List Value, X = (((a0.map Value.string).take i).toArray ++ Builtin.zeroCells (Value.string ⟨#[]⟩).cells (a0.length + a2.length - i) ++ Builtin.zeroCells (Value.string ⟨#[]⟩).cells (G - (a0.length + a2.length))).toList := ⟨_, rfl⟩
        have hX2 : (((a0.map Value.string).take i).toArray ++ Builtin.zeroCells (Value.string ⟨#[]⟩).cells (a0.length + a2.length - i) ++ Builtin.zeroCells (Value.string ⟨#[]⟩).cells (G - (a0.length + a2.length))) = X.toArray := by rw [hX]
        rw [hX2] at e2
        have hXl : X.length = G := by
          have z1 := zeroCells_size (Value.string ⟨#[]⟩).cells (G - (a0.length + a2.length))
          have z2 := zeroCells_size (Value.string ⟨#[]⟩).cells (a0.length + a2.length - i)
          have hc : (Value.string ⟨#[]⟩).cells.size = 1 := rfl
          rw [hX]
          simp [z1, z2, hc]; omega
        have hXt : X.take i = (a0.map Value.string).take i := by
          rw [hX]
          simp only [Array.toList_append, List.append_assoc]
          rw [List.take_append_of_le_length (by simp; omega), List.take_take, Nat.min_self]
        have hn : Inv w0 Z ((w.alloc (.cells X.toArray (ρ.t 9))).drew) (star (pt w.heap.size (.cells X.toArray (ρ.t 9) (0, 0))) A) := (hI'.new (.cells X.toArray (ρ.t 9) (0, 0))).same rfl rfl rfl rfl
        have hn2 := hn.cells (o := i) (vs := a2.map Value.string) rfl
        have hn3 : Inv w0 Z (((w.alloc (.cells X.toArray (ρ.t 9))).drew.setCells w.heap.size i (a2.map Value.string)).drew) _ := hn2.same rfl rfl rfl rfl
        have hJ := hn3.cells e2
        refine ownT_shut hJ (by rw [hlen]; exact hg) (by rw [hG]; exact grownCap_le_maxLen w _ c0 _ (by simp only [maxLen]; omega)) (by rw [lset_length, lset_length, hXl]) ?_ (Nat.le_refl _)
        rw [hlen]
        have hz : (((a0.map Value.string).drop i)).length = a0.length - i := by simp
        rw [take_lset (by rw [lset_length, hXl, hz]; omega) (by rw [hz]; omega), take_lset (by rw [hXl]; simp; omega) (by simp), hXt]
        simp
theorem del_str (L : Lays2.n24 P ρ) (hE : E = ρ.t 9) (w0 w : World) (Z : Hp) (A : HP) (A0 : Option Addr) (c0 : Nat) (a0 : List ByteArray) (a1 a2 : Int)
    (hI : Inv w0 Z w (star (ownS E cS 1 A0 c0 a0) A)) (r : List ByteArray) (h0 : delS a0 a1 a2 = some r) :
    Calls P (ρ.f 24) #[.slice A0 a0.length c0, .int .i64 a1, .int .i64 a2] w (fun e w' => ∃ (A1 : Option Addr) (c1 : Nat), e = .returned (.slice A1 r.length c1) ∧ Inv w0 Z w' (star (ownS E cS 1 A1 c1 r) A)) := by
  subst hE
  obtain ⟨⟨g0, g1, g2, hp⟩, h0⟩ := guardS h0
  have h0 := someS h0
  subst h0
  obtain ⟨i, rfl⟩ := Int.eq_ofNat_of_zero_le g0
  obtain ⟨j, rfl⟩ := Int.eq_ofNat_of_zero_le (show 0 ≤ a2 by omega)
  simp only [Int.toNat_natCast]
  obtain ⟨f1, f2, _⟩ := ownS_facts hI
  obtain ⟨b, l, fz, rfl, hI4, p1, p2, p3⟩ := ownT_open hI (by omega)
  have hb := hI4.block
  obtain ⟨D, hD⟩ : ∃ D : List (List UInt8), D = a0.map (·.data.toList) := ⟨_, rfl⟩
  have hDl : D.length = a0.length := by rw [hD]; simp
  have hH : Sort.Holds encStr w b 0 D.toArray := by
    intro k hk
    have hk' : k < a0.length := by rw [← hDl]; simpa using hk
    refine ⟨?_, unfrozen hb p3⟩
    rw [Nat.zero_add, cell_at hb, get_map p2 (show (a0.map Value.string)[k]? = some (.string a0[k]) by simp [hk'])]
    subst hD
    simp [encStr, hk']
  have hc := Any.slices_Delete_string L b 0 c0 i j D w hH (by omega) (by simp only [maxLen] at f2; omega) (by omega) (by omega)
  rw [hDl] at hc
  refine hc.mono ?_
  rintro e w' ⟨rfl, q, e2⟩
  have hlen : (a0.take i ++ a0.drop j).length = a0.length - (j - i) := by simp; omega
  rw [hlen]
  refine ⟨_, _, rfl, ?_⟩
  rw [Lib.putRow_eq_setCells encStr w b 0 D.toArray _ q hH (by simp; omega)] at e2
  have hd : Inv w0 Z (w.drewN q) (star (pt b (.cells l.toArray (ρ.t 9) fz)) A) := hI4.same rfl rfl rfl rfl
  have hJ := hd.cells e2
  refine ownT_shut hJ (by rw [hlen]; omega) f2 (by rw [lset_length, p1]) ?_ p3
  have he : (D.take i ++ D.drop j ++ List.replicate (j - i) ([] : List UInt8)).map encStr = (a0.take i ++ a0.drop j).map Value.string ++ List.replicate (j - i) (.string ⟨#[]⟩) := by
    subst hD
    simp [encStr, List.map_take, List.map_drop, Function.comp_def]
  rw [he, lset_eq _ _ _ (by simp; omega), List.take_zero, List.nil_append, hlen, List.append_assoc, List.take_append_of_le_length (by simp; omega), List.take_of_length_le (by simp; omega)]
end Go.Cen
