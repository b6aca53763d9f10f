/- SHA: a digest's digits; links. -/
import Derived.Test.YtjbofffabkimeaaAShaB
set_option linter.unusedVariables false
set_option linter.unusedSimpArgs false
set_option maxRecDepth 100000
namespace Go.Cen
def HEX : ByteArray := ⟨#[48, 49, 50, 51, 52, 53, 54, 55, 56, 57, 97, 98, 99, 100, 101, 102]⟩
def hexL : List Int := [48, 49, 50, 51, 52, 53, 54, 55, 56, 57, 97, 98, 99, 100, 101, 102]
theorem byts_HEX : byts HEX = hexL := by decide +kernel
def hexs (q : Int) : Int := gt hexL q
def nib (q : Int) : Prop := 0 ≤ q ∧ q < 16
def textL (d : List Int) : List Int := d.flatMap fun x => [hexs (x / 16), hexs (x % 16)]
theorem textL_length (d : List Int) : (textL d).length = 2 * d.length := by
  induction d with
  | nil => rfl
  | cons x r ih => simp only [textL, List.flatMap_cons, List.length_append, List.length_cons, List.length_nil] at ih ⊢; omega
theorem nib_of {x : Int} (h : u8 x) : nib (x / 16) ∧ nib (x % 16) := by
  obtain ⟨_, _⟩ := h; exact ⟨⟨by omega, by omega⟩, ⟨by omega, by omega⟩⟩
theorem drop_gt (d : List Int) {i : Int} (h0 : 0 ≤ i) (h : i < d.length) : d.drop i.toNat = gt d i :: d.drop (i + 1).toNat := by
  obtain ⟨hl, e⟩ := gt_lt d h0 h
  rw [e, List.drop_eq_getElem_cons hl, show (i + 1).toNat = i.toNat + 1 by omega]
theorem isB_gt {d : List Int} (h : isB d) (j : Int) : u8 (gt d j) := gt_all (p := u8) h ⟨by decide, by decide⟩ j
theorem text_step {d : List Int} (hd : d.length = 32) (hB : isB d) : ∀ (n : Nat) (i : Int) (k : Nat) (acc : List Int), i = 32 - n → n ≤ 32 → n < k → acc.length ≤ 64 - 2 * n → sha_Text.l0 d k acc i = some (acc ++ textL (d.drop i.toNat)) := by
  intro n
  induction n with
  | zero =>
    intro i k acc hi _ hk _
    obtain ⟨k, rfl⟩ : ∃ m, k = m + 1 := ⟨k - 1, by omega⟩
    have : decide (i < 32) = false := decide_eq_false (by omega)
    have e : d.drop i.toNat = [] := List.drop_of_length_le (by omega)
    simp [sha_Text.l0, this, e, textL]
  | succ n ih =>
    intro i k acc hi hn hk hl
    obtain ⟨k, rfl⟩ : ∃ m, k = m + 1 := ⟨k - 1, by omega⟩
    have hlt : decide (i < 32) = true := decide_eq_true (by omega)
    have e1 : wi64 (i + 1) = i + 1 := wi64_id (by omega)
    have gi : 0 ≤ i ∧ i < 32 := ⟨by omega, by omega⟩
    have hx := isB_gt hB i
    have hnb := nib_of hx
    have s1 : bShr .u8 (gt d i) 4 = gt d i / 16 := bShr_eq (k := .u8) (x := gt d i) (n := 4) (by decide)
    have s2 : bAnd .u8 (gt d i) 15 = gt d i % 16 := by
      obtain ⟨v, hv⟩ := Int.eq_ofNat_of_zero_le hx.1
      have hv2 := hx.2
      have := bAnd_nat (k := .u8) rfl v 15 (by show v < 256; omega) (by decide)
      have h15 : v &&& 15 = v % 16 := Nat.and_two_pow_sub_one_eq_mod v 4
      rw [hv]
      rw [h15] at this
      exact this
    have hsz : ((HEX.size : Nat) : Int) = 16 := rfl
    have g1 : 0 ≤ gt d i / 16 ∧ gt d i / 16 < 16 := hnb.1
    have g2 : 0 ≤ gt d i % 16 ∧ gt d i % 16 < 16 := hnb.2
    have gl : ∀ a b : Int, acc.length + ([a, b] : List Int).length ≤ LIM := fun a b => by simp [LIM]; omega
    have hr := ih (i + 1) k (acc ++ [hexs (gt d i / 16), hexs (gt d i % 16)]) (by omega) (by omega) (by omega) (by simp; omega)
    rw [drop_gt d gi.1 (by omega)]
    simp only [sha_Text.l0, hlt, if_true, gi, and_self, s1, s2, e1]
    change (if 0 ≤ gt d i / 16 ∧ gt d i / 16 < ((HEX.size : Nat) : Int) then (if 0 ≤ gt d i % 16 ∧ gt d i % 16 < ((HEX.size : Nat) : Int) then (if acc.length + ([bt HEX (gt d i / 16), bt HEX (gt d i % 16)] : List Int).length ≤ LIM then sha_Text.l0 d k (acc ++ [bt HEX (gt d i / 16), bt HEX (gt d i % 16)]) (i + 1) else none) else none) else none) = _
    rw [hsz, if_pos g1, if_pos g2, if_pos (gl _ _), bt_eq, bt_eq, byts_HEX]
    rw [show gt hexL (gt d i / 16) = hexs (gt d i / 16) from rfl, show gt hexL (gt d i % 16) = hexs (gt d i % 16) from rfl, hr]
    simp [textL]
end Go.Cen
