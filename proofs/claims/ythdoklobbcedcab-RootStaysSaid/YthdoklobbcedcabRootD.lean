/- ROOT: the first law. -/
import Derived.Test.YthdoklobbcedcabRootC
set_option linter.unusedVariables false
set_option linter.unusedSimpArgs false
namespace Go.Cen
theorem ref07_Texts_eq (a b : List ByteArray) (h : a.length ≤ 2305843009213693952) : ref07_Texts a b = some (decide (a = b)) := by
  unfold ref07_Texts
  by_cases hl : a.length = b.length
  · have h1 : ((a.length : Int) != (b.length : Int)) = false := by simp [hl]
    have := loop_eq a b hl h seq (fun k i => ref07_Texts.l0 a b k i)
      (fun k hd => by simp only [ref07_Texts.l0, hd]; rfl)
      (fun k i hi hd hg hg2 hw => by
        simp only [decide_true, if_true, and_self, Option.bind_some, ref07_Texts.l0, hd, hg, hg2, hw]
        cases seq (gt a (i : Int)) (gt b (i : Int)) <;> rfl)
    rw [h1, this]
    have e := zip_all_eq seq seq_iff a b hl
    by_cases h2 : a = b
    · rw [if_pos (e.2 h2)]; simp [h2]
    · rw [if_neg (fun x => h2 (e.1 x))]; simp [h2]
  · have h1 : ((a.length : Int) != (b.length : Int)) = true := by simp; omega
    have h2 : ¬ a = b := fun e => hl (by rw [e])
    simp [h1, h2]
theorem ref15_texts_eq (a b : List ByteArray) (h : a.length ≤ 2305843009213693952) : ref15_texts a b = some (decide (a = b)) := by
  unfold ref15_texts
  by_cases hl : a.length = b.length
  · have h1 : ((a.length : Int) != (b.length : Int)) = false := by simp [hl]
    have := loop_eq a b hl h seq (fun k i => ref15_texts.l0 a b k i)
      (fun k hd => by simp only [ref15_texts.l0, hd]; rfl)
      (fun k i hi hd hg hg2 hw => by
        simp only [decide_true, if_true, and_self, Option.bind_some, ref15_texts.l0, hd, hg, hg2, hw]
        cases seq (gt a (i : Int)) (gt b (i : Int)) <;> rfl)
    rw [h1, this]
    have e := zip_all_eq seq seq_iff a b hl
    by_cases h2 : a = b
    · rw [if_pos (e.2 h2)]; simp [h2]
    · rw [if_neg (fun x => h2 (e.1 x))]; simp [h2]
  · have h1 : ((a.length : Int) != (b.length : Int)) = true := by simp; omega
    have h2 : ¬ a = b := fun e => hl (by rw [e])
    simp [h1, h2]
theorem int_beq_iff (x y : Int) : (x == y) = true ↔ x = y := by simp
theorem ref05_Row_eq (a b : List Int) (h : a.length ≤ 2305843009213693952) : ref05_Row a b = some (decide (a = b)) := by
  unfold ref05_Row
  by_cases hl : a.length = b.length
  · have h1 : ((a.length : Int) != (b.length : Int)) = false := by simp [hl]
    have := loop_eq a b hl h (fun x y => x == y) (fun k i => ref05_Row.l0 a b k i)
      (fun k hd => by simp only [ref05_Row.l0, hd]; rfl)
      (fun k i hi hd hg hg2 hw => by
        simp only [decide_true, if_true, and_self, Option.bind_some, ref05_Row.l0, hd, hg, hg2, hw]
        by_cases e : gt a (i : Int) = gt b (i : Int) <;> simp [e])
    rw [h1, this]
    have e := zip_all_eq (fun x y : Int => x == y) int_beq_iff a b hl
    by_cases h2 : a = b
    · rw [if_pos (e.2 h2)]; simp [h2]
    · rw [if_neg (fun x => h2 (e.1 x))]; simp [h2]
  · have h1 : ((a.length : Int) != (b.length : Int)) = true := by simp; omega
    have h2 : ¬ a = b := fun e => hl (by rw [e])
    simp [h1, h2]
theorem slices_Equal_int_eq (a b : List Int) (h : a.length ≤ 2305843009213693952) : slices_Equal_int a b = some (decide (a = b)) := by
  unfold slices_Equal_int
  by_cases hl : a.length = b.length
  · have h1 : ((a.length : Int) != (b.length : Int)) = false := by simp [hl]
    have := loop_eq a b hl h (fun x y => x == y) (fun k i => slices_Equal_int.l0 a b k i)
      (fun k hd => by simp only [slices_Equal_int.l0, hd]; rfl)
      (fun k i hi hd hg hg2 hw => by
        simp only [decide_true, if_true, and_self, Option.bind_some, slices_Equal_int.l0, hd, hg, hg2, hw]
        by_cases e : gt a (i : Int) = gt b (i : Int) <;> simp [e])
    rw [h1, this]
    have e := zip_all_eq (fun x y : Int => x == y) int_beq_iff a b hl
    by_cases h2 : a = b
    · rw [if_pos (e.2 h2)]; simp [h2]
    · rw [if_neg (fun x => h2 (e.1 x))]; simp [h2]
  · have h1 : ((a.length : Int) != (b.length : Int)) = true := by simp; omega
    have h2 : ¬ a = b := fun e => hl (by rw [e])
    simp [h1, h2]
theorem eq_RootEntry_iff (a b : RootEntry) : eq_RootEntry a b = true ↔ a = b := by
  cases a; cases b; simp [eq_RootEntry]
theorem eq_Ref15Entry_iff (a b : Ref15Entry) : eq_Ref15Entry a b = true ↔ a = b := by
  cases a; cases b; simp [eq_Ref15Entry]
theorem slices_Equal_rootEntry_eq (a b : List RootEntry) (h : a.length ≤ 2305843009213693952) : slices_Equal_rootEntry a b = some (decide (a.map qM = b.map qM)) := by
  unfold slices_Equal_rootEntry
  by_cases hl : a.length = b.length
  · have h1 : ((a.length : Int) != (b.length : Int)) = false := by simp [hl]
    have := loop_eq a b hl h eq_RootEntry (fun k i => slices_Equal_rootEntry.l0 a b k i)
      (fun k hd => by simp only [slices_Equal_rootEntry.l0, hd]; rfl)
      (fun k i hi hd hg hg2 hw => by
        simp only [decide_true, if_true, and_self, Option.bind_some, slices_Equal_rootEntry.l0, hd, hg, hg2, hw]
        cases eq_RootEntry (gt a (i : Int)) (gt b (i : Int)) <;> rfl)
    rw [h1, this]
    have e := zip_all_eq eq_RootEntry eq_RootEntry_iff a b hl
    by_cases h2 : a = b
    · rw [if_pos (e.2 h2)]; simp [h2]
    · have h3 : ¬ a.map qM = b.map qM := fun x => h2 (map_inj' (fun _ _ => qM_inj) x)
      rw [if_neg (fun x => h2 (e.1 x))]; simp [h3]
  · have h1 : ((a.length : Int) != (b.length : Int)) = true := by simp; omega
    have h2 : ¬ a.map qM = b.map qM := fun e => hl (by have := congrArg List.length e; simpa using this)
    simp [h1, h2]
theorem root_Same_eq (M N : List RootEntry) (G H : List Int) (h : M.length ≤ 2305843009213693952) (h2 : G.length ≤ 2305843009213693952) : root_Same M G N H = some (decide (M.map qM = N.map qM) && decide (G = H)) := by
  unfold root_Same
  rw [slices_Equal_rootEntry_eq M N h, slices_Equal_int_eq G H h2]
  simp only [Option.bind_some, andS]
theorem ref15_Same_eq (M N : List Ref15Entry) (G H : List Int) (h : M.length ≤ 2305843009213693952) (h2 : G.length ≤ 2305843009213693952) : ref15_Same M G N H = some (decide (M.map qR = N.map qR) && decide (G = H)) := by
  unfold ref15_Same
  by_cases hl : M.length = N.length
  · have h1 : ((M.length : Int) != (N.length : Int)) = false := by simp [hl]
    have := loop_eq M N hl h eq_Ref15Entry (fun k i => ref15_Same.l0 M N k i)
      (fun k hd => by simp only [ref15_Same.l0, hd]; rfl)
      (fun k i hi hd hg hg2 hw => by
        simp only [decide_true, if_true, and_self, Option.bind_some, ref15_Same.l0, hd, hg, hg2, hw]
        cases eq_Ref15Entry (gt M (i : Int)) (gt N (i : Int)) <;> rfl)
    rw [h1, this, ref05_Row_eq G H h2]
    have e := zip_all_eq eq_Ref15Entry eq_Ref15Entry_iff M N hl
    by_cases h2 : M = N
    · rw [if_pos (e.2 h2)]; simp [h2]
    · have h3 : ¬ M.map qR = N.map qR := fun x => h2 (map_inj' (fun _ _ => qR_inj) x)
      rw [if_neg (fun x => h2 (e.1 x))]; simp [h3]
  · have h1 : ((M.length : Int) != (N.length : Int)) = true := by simp; omega
    have h2 : ¬ M.map qR = N.map qR := fun e => hl (by have := congrArg List.length e; simpa using this)
    simp [h1, h2]
theorem putQ_len (M : List Q) (G : List Int) (room : Int) : (putQ M G room).length ≤ 100000 := by
  unfold putQ
  split
  · rename_i h
    simp only [Bool.and_eq_true, decide_eq_true_eq] at h
    have hl := valid_len h.1
    have := bytesQ_len M G
    have := nparts_le (c := room.toNat - 6) (by omega) (bytesQ M G).length
    rw [putL_len]; omega
  · simp
end Go.Cen
