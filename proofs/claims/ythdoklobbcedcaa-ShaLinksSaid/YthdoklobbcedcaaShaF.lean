/- SHA: a digest's digits; links. -/
import Derived.Test.YthdoklobbcedcaaShaE
set_option linter.unusedVariables false
set_option linter.unusedSimpArgs false
set_option maxRecDepth 100000
namespace Go.Cen
def HEX : ByteArray := ⟨#[48, 49, 50, 51, 52, 53, 54, 55, 56, 57, 97, 98, 99, 100, 101, 102]⟩
def hexL : List Int := [48, 49, 50, 51, 52, 53, 54, 55, 56, 57, 97, 98, 99, 100, 101, 102]
theorem byts_HEX : byts HEX = hexL := by decide +kernel
def hexd (q : Int) : Int := gt hexL q
def nib (q : Int) : Prop := 0 ≤ q ∧ q < 16
theorem nib_cases {q : Int} {p : Int → Prop} (h : nib q) (hp : ∀ n : Nat, n < 16 → p (n : Int)) : p q := by
  obtain ⟨n, rfl⟩ := Int.eq_ofNat_of_zero_le h.1
  exact hp n (by have := h.2; omega)
theorem hexd_sub {q : Int} (h : nib q) : sub hexL q (q + 1) = [hexd q] :=
  nib_cases (p := fun q => sub hexL q (q + 1) = [hexd q]) h (by decide +kernel)
def isHex (c : Int) : Prop := 48 ≤ c ∧ c ≤ 57 ∨ 97 ≤ c ∧ c ≤ 102
theorem hexd_hex {q : Int} (h : nib q) : isHex (hexd q) :=
  nib_cases (p := fun q => isHex (hexd q)) h (by unfold isHex; decide +kernel)
def unhex (c : Int) : Int := if c ≤ 57 then c - 48 else c - 87
theorem unhex_hexd {q : Int} (h : nib q) : unhex (hexd q) = q :=
  nib_cases (p := fun q => unhex (hexd q) = q) h (by decide +kernel)
theorem hexd_inj {p q : Int} (hp : nib p) (hq : nib q) (h : hexd p = hexd q) : p = q := by rw [← unhex_hexd hp, h, unhex_hexd hq]
def textL (d : List Int) : List Int := d.flatMap fun x => [hexd (x / 16), hexd (x % 16)]
theorem textL_length (d : List Int) : (textL d).length = 2 * d.length := by
  induction d with
  | nil => rfl
  | cons x r ih => simp only [textL, List.flatMap_cons, List.length_append, List.length_cons, List.length_nil] at ih ⊢; omega
theorem nib_of {x : Int} (h : u8 x) : nib (x / 16) ∧ nib (x % 16) := by
  obtain ⟨_, _⟩ := h; exact ⟨⟨by omega, by omega⟩, ⟨by omega, by omega⟩⟩
theorem textL_inj : ∀ {d e : List Int}, isB d → isB e → textL d = textL e → d = e
  | [], [], _, _, _ => rfl
  | [], _ :: _, _, _, h => by simp [textL] at h
  | _ :: _, [], _, _, h => by simp [textL] at h
  | x :: r, y :: s, hd, he, h => by
    simp only [textL, List.flatMap_cons, List.cons_append, List.nil_append, List.cons.injEq] at h
    have hx := nib_of (hd x (by simp))
    have hy := nib_of (he y (by simp))
    have e1 := hexd_inj hx.1 hy.1 h.1
    have e2 := hexd_inj hx.2 hy.2 h.2.1
    have : x = y := by omega
    rw [this, textL_inj (fun z hz => hd z (by simp [hz])) (fun z hz => he z (by simp [hz])) h.2.2]
theorem textL_hex {d : List Int} (h : isB d) : ∀ c ∈ textL d, isHex c := by
  intro c hc
  simp only [textL, List.mem_flatMap, List.mem_cons, List.not_mem_nil, or_false] at hc
  obtain ⟨x, hx, rfl | rfl⟩ := hc
  · exact hexd_hex (nib_of (h x hx)).1
  · exact hexd_hex (nib_of (h x hx)).2
theorem textL_isB {d : List Int} (h : isB d) : isB (textL d) := by
  intro c hc
  rcases textL_hex h c hc with h | h <;> omega
theorem drop_gt (d : List Int) {i : Int} (h0 : 0 ≤ i) (h : i < d.length) : d.drop i.toNat = gt d i :: d.drop (i + 1).toNat := by
  obtain ⟨hl, e⟩ := gt_lt d h0 h
  rw [e, List.drop_eq_getElem_cons hl, show (i + 1).toNat = i.toNat + 1 by omega]
theorem isB_gt {d : List Int} (h : isB d) (j : Int) : u8 (gt d j) := gt_all (p := u8) h ⟨by decide, by decide⟩ j
theorem text_step {d : List Int} (hd : d.length = 32) (hB : isB d) : ∀ (n : Nat) (i : Int) (k : Nat) (acc : List Int), i = 32 - n → n ≤ 32 → n < k → acc.length ≤ 64 - 2 * n → sha_Text.l0 d k acc i = some (acc ++ textL (d.drop i.toNat)) := by
  intro n
  induction n with
  | zero =>
    intro i k acc hi _ hk _
    obtain ⟨k, rfl⟩ : ∃ m, k = m + 1 := ⟨k - 1, by omega⟩
    have : decide (i < 32) = false := decide_eq_false (by omega)
    have e : d.drop i.toNat = [] := List.drop_of_length_le (by omega)
    simp [sha_Text.l0, this, e, textL]
  | succ n ih =>
    intro i k acc hi hn hk hl
    obtain ⟨k, rfl⟩ : ∃ m, k = m + 1 := ⟨k - 1, by omega⟩
    have hlt : decide (i < 32) = true := decide_eq_true (by omega)
    have e1 : wi64 (i + 1) = i + 1 := wi64_id (by omega)
    have gi : 0 ≤ i ∧ i < 32 := ⟨by omega, by omega⟩
    have hx := isB_gt hB i
    have hnb := nib_of hx
    have s1 : bShr .u8 (gt d i) 4 = gt d i / 16 := bShr_eq (k := .u8) (x := gt d i) (n := 4) (by decide)
    have s2 : bAnd .u8 (gt d i) 15 = gt d i % 16 := by
      obtain ⟨v, hv⟩ := Int.eq_ofNat_of_zero_le hx.1
      have hv2 := hx.2
      have := bAnd_nat (k := .u8) rfl v 15 (by show v < 256; omega) (by decide)
      have h15 : v &&& 15 = v % 16 := Nat.and_two_pow_sub_one_eq_mod v 4
      rw [hv]
      rw [h15] at this
      exact this
    have hsz : ((HEX.size : Nat) : Int) = 16 := rfl
    have g1 : 0 ≤ gt d i / 16 ∧ gt d i / 16 < 16 := hnb.1
    have g2 : 0 ≤ gt d i % 16 ∧ gt d i % 16 < 16 := hnb.2
    have gl : ∀ a b : Int, acc.length + ([a, b] : List Int).length ≤ LIM := fun a b => by simp [LIM]; omega
    have hr := ih (i + 1) k (acc ++ [hexd (gt d i / 16), hexd (gt d i % 16)]) (by omega) (by omega) (by omega) (by simp; omega)
    rw [drop_gt d gi.1 (by omega)]
    simp only [sha_Text.l0, hlt, if_true, gi, and_self, s1, s2, e1]
    change (if 0 ≤ gt d i / 16 ∧ gt d i / 16 < ((HEX.size : Nat) : Int) then (if 0 ≤ gt d i % 16 ∧ gt d i % 16 < ((HEX.size : Nat) : Int) then (if acc.length + ([bt HEX (gt d i / 16), bt HEX (gt d i % 16)] : List Int).length ≤ LIM then sha_Text.l0 d k (acc ++ [bt HEX (gt d i / 16), bt HEX (gt d i % 16)]) (i + 1) else none) else none) else none) = _
    rw [hsz, if_pos g1, if_pos g2, if_pos (gl _ _), bt_eq, bt_eq, byts_HEX]
    rw [show gt hexL (gt d i / 16) = hexd (gt d i / 16) from rfl, show gt hexL (gt d i % 16) = hexd (gt d i % 16) from rfl, hr]
    simp [textL]
theorem ref_text_step {d : List Int} (hd : d.length = 32) (hB : isB d) : ∀ (n : Nat) (i : Int) (k : Nat) (acc : ByteArray), i = 32 - n → n ≤ 32 → n < k → acc.size ≤ 64 - 2 * n → ∃ s, ref02_Text.l0 d k acc i = some s ∧ byts s = byts acc ++ textL (d.drop i.toNat) := by
  intro n
  induction n with
  | zero =>
    intro i k acc hi _ hk _
    obtain ⟨k, rfl⟩ : ∃ m, k = m + 1 := ⟨k - 1, by omega⟩
    have : decide (i < 32) = false := decide_eq_false (by omega)
    have e : d.drop i.toNat = [] := List.drop_of_length_le (by omega)
    exact ⟨acc, by simp [ref02_Text.l0, this], by simp [e, textL]⟩
  | succ n ih =>
    intro i k acc hi hn hk hl
    obtain ⟨k, rfl⟩ : ∃ m, k = m + 1 := ⟨k - 1, by omega⟩
    have hlt : decide (i < 32) = true := decide_eq_true (by omega)
    have e1 : wi64 (i + 1) = i + 1 := wi64_id (by omega)
    have gi : 0 ≤ i ∧ i < 32 := ⟨by omega, by omega⟩
    have hx := isB_gt hB i
    obtain ⟨hx0, hx1⟩ := hx
    have hnb := nib_of ⟨hx0, hx1⟩
    obtain ⟨⟨a1, a2⟩, ⟨b1, b2⟩⟩ := hnb
    have w0 : wi64 (gt d i) = gt d i := wi64_id (by omega)
    have q1 : (gt d i).tdiv 16 = gt d i / 16 := Int.tdiv_eq_ediv_of_nonneg hx0
    have q2 : (gt d i).tmod 16 = gt d i % 16 := Int.tmod_eq_emod_of_nonneg hx0
    have w1 : wi64 (gt d i / 16) = gt d i / 16 := wi64_id (by omega)
    have w2 : wi64 (gt d i / 16 + 1) = gt d i / 16 + 1 := wi64_id (by omega)
    have w3 : wi64 (gt d i % 16 + 1) = gt d i % 16 + 1 := wi64_id (by omega)
    have hsz : ((HEX.size : Nat) : Int) = 16 := rfl
    have g1 : (0 : Int) ≤ gt d i / 16 ∧ gt d i / 16 ≤ gt d i / 16 + 1 ∧ gt d i / 16 + 1 ≤ ((HEX.size : Nat) : Int) := by rw [hsz]; omega
    have g2 : (0 : Int) ≤ gt d i % 16 ∧ gt d i % 16 ≤ gt d i % 16 + 1 ∧ gt d i % 16 + 1 ≤ ((HEX.size : Nat) : Int) := by rw [hsz]; omega
    have z1 := size_sx HEX g1
    have z2 := size_sx HEX g2
    have y1 := sx_byts HEX g1
    have y2 := sx_byts HEX g2
    rw [byts_HEX, hexd_sub ⟨a1, a2⟩] at y1
    rw [byts_HEX, hexd_sub ⟨b1, b2⟩] at y2
    have k1 : acc.size + (sx HEX (gt d i / 16) (gt d i / 16 + 1)).size ≤ LIM := by simp [LIM]; omega
    have sa : (acc ++ sx HEX (gt d i / 16) (gt d i / 16 + 1)).size = acc.size + 1 := by rw [ByteArray.size_append]; omega
    have k2 : (acc ++ sx HEX (gt d i / 16) (gt d i / 16 + 1)).size + (sx HEX (gt d i % 16) (gt d i % 16 + 1)).size ≤ LIM := by rw [sa]; simp [LIM]; omega
    obtain ⟨s, h1, h2⟩ := ih (i + 1) k ((acc ++ sx HEX (gt d i / 16) (gt d i / 16 + 1)) ++ sx HEX (gt d i % 16) (gt d i % 16 + 1)) (by omega) (by omega) (by omega) (by rw [ByteArray.size_append, sa]; omega)
    refine ⟨s, ?_, ?_⟩
    · simp only [ref02_Text.l0, hlt, if_true, gi, and_self, w0, q1, q2, w1, w2, w3, e1]
      rw [show (⟨#[48, 49, 50, 51, 52, 53, 54, 55, 56, 57, 97, 98, 99, 100, 101, 102]⟩ : ByteArray) = HEX from rfl, if_pos g1, if_pos k1, if_pos g2, if_pos k2]
      exact h1
    · rw [h2, byts_append, byts_append, y1, y2, drop_gt d gi.1 (by omega)]
      simp [textL]
theorem text_both {d : List Int} (hd : d.length = 32) (hB : isB d) : sha_Text d = some (strOfNums (textL d)) ∧ ref02_Text d = some (strOfNums (textL d)) := by
  have h1 := text_step hd hB 32 0 FU [] (by omega) (by omega) (by simp [FU]) (by simp)
  obtain ⟨s, h2, h3⟩ := ref_text_step hd hB 32 0 FU (⟨#[]⟩ : ByteArray) (by omega) (by omega) (by simp [FU]) (by simp [ByteArray.size])
  constructor
  · unfold sha_Text; rw [h1]; simp
  · unfold ref02_Text; rw [h2]
    simp only [Option.bind_some]
    congr 1
    apply byts_inj
    rw [h3, byts_strOfNums (textL_isB hB)]
    simp [byts_nil]
theorem bytes_step {d : List Int} (hd : d.length = 32) : ∀ (n : Nat) (i : Int) (k : Nat) (acc : List Int), i = 32 - n → n ≤ 32 → n < k → acc.length ≤ 32 - n → ref02_Bytes.l0 d k acc i = some (acc ++ d.drop i.toNat) := by
  intro n
  induction n with
  | zero =>
    intro i k acc hi _ hk _
    obtain ⟨k, rfl⟩ : ∃ m, k = m + 1 := ⟨k - 1, by omega⟩
    have : decide (i < 32) = false := decide_eq_false (by omega)
    have e : d.drop i.toNat = [] := List.drop_of_length_le (by omega)
    simp [ref02_Bytes.l0, this, e]
  | succ n ih =>
    intro i k acc hi hn hk hl
    obtain ⟨k, rfl⟩ : ∃ m, k = m + 1 := ⟨k - 1, by omega⟩
    have hlt : decide (i < 32) = true := decide_eq_true (by omega)
    have e1 : wi64 (i + 1) = i + 1 := wi64_id (by omega)
    have gi : 0 ≤ i ∧ i < 32 := ⟨by omega, by omega⟩
    have gl : acc.length + ([gt d i] : List Int).length ≤ LIM := by simp [LIM]; omega
    rw [drop_gt d gi.1 (by omega)]
    simp only [ref02_Bytes.l0, hlt, if_true, gi, and_self, e1, gl]
    rw [ih (i + 1) k _ (by omega) (by omega) (by omega) (by simp; omega)]
    simp
theorem ref_bytes {d : List Int} (hd : d.length = 32) : ref02_Bytes d = some (strOfNums d) := by
  unfold ref02_Bytes
  rw [bytes_step hd 32 0 FU [] (by omega) (by omega) (by simp [FU]) (by simp)]
  simp
theorem link_both {d : List Int} (hd : d.length = 32) {a : ByteArray} (ha : a.size ≤ 900000000000) : ∃ e, sha_Link d a = some e ∧ ref02_Link d a = some e ∧ sha_Of (strOfNums d ++ a) = some e ∧ e.length = 32 ∧ isB e := by
  have hs : (strOfNums d).size = 32 := by rw [strOfNums_size, hd]
  obtain ⟨e, h1, h2, h3, h4⟩ := of_both (a := strOfNums d ++ a) (by rw [ByteArray.size_append, hs]; omega)
  have g : (strOfNums d).size + a.size ≤ LIM := by rw [hs]; simp [LIM]; omega
  refine ⟨e, ?_, ?_, h1, h3, h4⟩
  · unfold sha_Link; rw [if_pos g, h1]; rfl
  · unfold ref02_Link; rw [ref_bytes hd]; simp only [Option.bind_some]; rw [if_pos g, h2]; rfl
end Go.Cen
