/- The library's merge in place. -/
import Derived.Test.YthdoklobbcedcaaSortB
set_option linter.unusedVariables false
set_option linter.unusedSimpArgs false
namespace Go.Cen
variable {cmp : Int → Int → Option Int} {lt : Int → Int → Prop} {D : Int → Prop}
theorem half {x y : Int} (hx : 0 ≤ x) (hy : 0 ≤ y) (hm : x + y ≤ 4000000000) : wi64 (bShr .u64 (wu64 (wi64 (x + y))) 1) = (x + y) / 2 := by
  have e : bShr .u64 (wu64 (wi64 (x + y))) 1 = wu64 (wi64 (x + y)) / 2 := bShr_eq (k := .u64) (x := wu64 (wi64 (x + y))) (n := 1) (by decide)
  rw [e, wi64_id (x := x + y) (by omega), wu64_eq, wi64_id (by omega)]
  omega
/-- a search for the place behind which the answer turns -/
theorem find_l0 (hc : CmpOK cmp lt D) {d : List Int} {a m b : Int} (h0 : 0 ≤ a) (ham : a < m) (hb : b ≤ d.length) (hm : (d.length : Int) ≤ 1000000) (hD : Dm D d a b) :
    ∀ (s : Nat) (i j : Int) (k : Nat), (j - i).toNat ≤ s → s < k → m ≤ i → i ≤ j → j ≤ b → (i = m ∨ lt (gt d (i - 1)) (gt d a)) → (j = b ∨ ¬ lt (gt d j) (gt d a)) →
      ∃ r, gs_symMergeCmpFunc.l0 d a cmp k i j = some r ∧ m ≤ r ∧ r ≤ b ∧ (r = m ∨ lt (gt d (r - 1)) (gt d a)) ∧ (r = b ∨ ¬ lt (gt d r) (gt d a)) := by
  intro s
  induction s with
  | zero =>
    intro i j k hs hk hi hij hj p q
    obtain ⟨k, rfl⟩ : ∃ m, k = m + 1 := ⟨k - 1, by omega⟩
    obtain rfl : i = j := by omega
    have hd : decide (i < i) = false := decide_eq_false (by omega)
    exact ⟨i, by simp [gs_symMergeCmpFunc.l0], hi, hj, p, q⟩
  | succ s ih =>
    intro i j k hs hk hi hij hj p q
    obtain ⟨k, rfl⟩ : ∃ m, k = m + 1 := ⟨k - 1, by omega⟩
    by_cases hlt : i < j
    · have hd : decide (i < j) = true := decide_eq_true hlt
      have hh := half (x := i) (y := j) (by omega) (by omega) (by omega)
      have hr : i ≤ (i + j) / 2 ∧ (i + j) / 2 < j := by omega
      generalize (i + j) / 2 = h at hh hr
      have g1 : 0 ≤ h ∧ h < (d.length : Int) := by omega
      have g2 : 0 ≤ a ∧ a < (d.length : Int) := by omega
      have e1 : wi64 (h + 1) = h + 1 := wi64_id (by omega)
      obtain ⟨c, c1, c2⟩ := hc (gt d h) (gt d a) (hD h (by omega) (by omega)) (hD a (by omega) (by omega))
      by_cases hlc : c < 0
      · have hdc : decide (c < 0) = true := decide_eq_true hlc
        obtain ⟨r, r1, r2⟩ := ih (h + 1) j k (by omega) (by omega) (by omega) (by omega) hj (.inr (by rw [show h + 1 - 1 = h by omega]; exact c2.1 hlc)) q
        exact ⟨r, by simp only [gs_symMergeCmpFunc.l0, hd, if_true, hh, g1, g2, and_self, c1, Option.bind_some, hdc, e1]; exact r1, r2⟩
      · have hdc : decide (c < 0) = false := decide_eq_false hlc
        obtain ⟨r, r1, r2⟩ := ih i h k (by omega) (by omega) hi (by omega) (by omega) p (.inr (fun x => hlc (c2.2 x)))
        exact ⟨r, by simp only [gs_symMergeCmpFunc.l0, hd, if_true, hh, g1, g2, and_self, c1, Option.bind_some, hdc, Bool.false_eq_true, if_false]; exact r1, r2⟩
    · obtain rfl : i = j := by omega
      exact ⟨i, by simp [gs_symMergeCmpFunc.l0], hi, hj, p, q⟩
/-- one place moved up -/
def upR (d : List Int) (a i t : Int) : Int := if a ≤ t ∧ t < i - 1 then gt d (t + 1) else if t = i - 1 then gt d a else gt d t
theorem up_l1 {d : List Int} {a i : Int} (h0 : 0 ≤ a) (hai : a < i) (hi : i ≤ d.length) (hm : (d.length : Int) ≤ 1000000) : ∀ (m : Nat) (j : Int) (k : Nat) (x : List Int), j = i - 1 - m → a ≤ j → m < k → Mv a i d x → (∀ t, 0 ≤ t → gt x t = upR d a (j + 1) t) →
    ∃ r, gs_symMergeCmpFunc.l1 i k x j = some r ∧ Mv a i d r ∧ ∀ t, 0 ≤ t → gt r t = upR d a i t := by
  intro m
  induction m with
  | zero =>
    intro j k x hj haj hk hx hg
    obtain ⟨k, rfl⟩ : ∃ m, k = m + 1 := ⟨k - 1, by omega⟩
    have e : wi64 (i - 1) = i - 1 := wi64_id (by omega)
    have hd : decide (j < i - 1) = false := decide_eq_false (by omega)
    have : j + 1 = i := by omega
    rw [this] at hg
    exact ⟨x, by simp [gs_symMergeCmpFunc.l1, e, hd], hx, hg⟩
  | succ m ih =>
    intro j k x hj haj hk hx hg
    obtain ⟨k, rfl⟩ : ∃ m, k = m + 1 := ⟨k - 1, by omega⟩
    have hxl := hx.len
    have e : wi64 (i - 1) = i - 1 := wi64_id (by omega)
    have e1 : wi64 (j + 1) = j + 1 := wi64_id (by omega)
    have hd : decide (j < i - 1) = true := decide_eq_true (by omega)
    have g1 : 0 ≤ j ∧ j < (x.length : Int) := by omega
    have g2 : 0 ≤ j + 1 ∧ j + 1 < (x.length : Int) := by omega
    obtain ⟨r, r1, r2⟩ := ih (j + 1) k (sw x j (j + 1)) (by omega) (by omega) (by omega) (hx.trans (Mv.sw h0 (by omega) (by omega) (by omega))) (fun t ht => by
      rw [gt_sw x g1 g2 t ht]
      have q1 := hg j (by omega)
      have q2 := hg (j + 1) (by omega)
      have q3 := hg t ht
      unfold upR at q1 q2 q3 ⊢
      rw [q1, q2, q3]
      repeat' split
      all_goals first | rfl | omega | (congr 1; omega) | (exfalso; omega))
    exact ⟨r, by simp only [gs_symMergeCmpFunc.l1, e, hd, if_true, e1, g1, g2, and_self, st_length]; exact r1, r2⟩
theorem find_l2 (hc : CmpOK cmp lt D) {d : List Int} {a m : Int} (h0 : 0 ≤ a) (hb : m < d.length) (hm : (d.length : Int) ≤ 1000000) (hD : Dm D d a (m + 1)) :
    ∀ (s : Nat) (i j : Int) (k : Nat), (j - i).toNat ≤ s → s < k → a ≤ i → i ≤ j → j ≤ m → (i = a ∨ ¬ lt (gt d m) (gt d (i - 1))) → (j = m ∨ lt (gt d m) (gt d j)) →
      ∃ r, gs_symMergeCmpFunc.l2 m d cmp k i j = some r ∧ a ≤ r ∧ r ≤ m ∧ (r = a ∨ ¬ lt (gt d m) (gt d (r - 1))) ∧ (r = m ∨ lt (gt d m) (gt d r)) := by
  intro s
  induction s with
  | zero =>
    intro i j k hs hk hi hij hj p q
    obtain ⟨k, rfl⟩ : ∃ m, k = m + 1 := ⟨k - 1, by omega⟩
    obtain rfl : i = j := by omega
    exact ⟨i, by simp [gs_symMergeCmpFunc.l2], hi, hj, p, q⟩
  | succ s ih =>
    intro i j k hs hk hi hij hj p q
    obtain ⟨k, rfl⟩ : ∃ m, k = m + 1 := ⟨k - 1, by omega⟩
    by_cases hlt : i < j
    · have hd : decide (i < j) = true := decide_eq_true hlt
      have hh := half (x := i) (y := j) (by omega) (by omega) (by omega)
      have hr : i ≤ (i + j) / 2 ∧ (i + j) / 2 < j := by omega
      generalize (i + j) / 2 = h at hh hr
      have g1 : 0 ≤ h ∧ h < (d.length : Int) := by omega
      have g2 : 0 ≤ m ∧ m < (d.length : Int) := by omega
      have e1 : wi64 (h + 1) = h + 1 := wi64_id (by omega)
      obtain ⟨c, c1, c2⟩ := hc (gt d m) (gt d h) (hD m (by omega) (by omega)) (hD h (by omega) (by omega))
      by_cases hlc : c < 0
      · have hdc : (!(decide (c < 0))) = false := by rw [decide_eq_true hlc]; rfl
        obtain ⟨r, r1, r2⟩ := ih i h k (by omega) (by omega) hi (by omega) (by omega) p (.inr (c2.1 hlc))
        exact ⟨r, by simp only [gs_symMergeCmpFunc.l2, hd, if_true, hh, g1, g2, and_self, c1, Option.bind_some, hdc, Bool.false_eq_true, if_false]; exact r1, r2⟩
      · have hdc : (!(decide (c < 0))) = true := by rw [decide_eq_false hlc]; rfl
        obtain ⟨r, r1, r2⟩ := ih (h + 1) j k (by omega) (by omega) (by omega) (by omega) hj (.inr (by rw [show h + 1 - 1 = h by omega]; exact fun x => hlc (c2.2 x))) q
        exact ⟨r, by simp only [gs_symMergeCmpFunc.l2, hd, if_true, hh, g1, g2, and_self, c1, Option.bind_some, hdc, e1]; exact r1, r2⟩
    · obtain rfl : i = j := by omega
      exact ⟨i, by simp [gs_symMergeCmpFunc.l2], hi, hj, p, q⟩
/-- one place moved down -/
def dnR (d : List Int) (i m t : Int) : Int := if t = i then gt d m else if i < t ∧ t ≤ m then gt d (t - 1) else gt d t
theorem dn_l3 {d : List Int} {i m : Int} (h0 : 0 ≤ i) (him : i ≤ m) (hl : m < d.length) (hm : (d.length : Int) ≤ 1000000) : ∀ (s : Nat) (j : Int) (k : Nat) (x : List Int), j = i + s → j ≤ m → s < k → Mv i (m + 1) d x → (∀ t, 0 ≤ t → gt x t = dnR d j m t) →
    ∃ r, gs_symMergeCmpFunc.l3 i k x j = some r ∧ Mv i (m + 1) d r ∧ ∀ t, 0 ≤ t → gt r t = dnR d i m t := by
  intro s
  induction s with
  | zero =>
    intro j k x hj hjm hk hx hg
    obtain ⟨k, rfl⟩ : ∃ m, k = m + 1 := ⟨k - 1, by omega⟩
    obtain rfl : j = i := by omega
    exact ⟨x, by simp [gs_symMergeCmpFunc.l3], hx, hg⟩
  | succ s ih =>
    intro j k x hj hjm hk hx hg
    obtain ⟨k, rfl⟩ : ∃ m, k = m + 1 := ⟨k - 1, by omega⟩
    have hxl := hx.len
    have e1 : wi64 (j - 1) = j - 1 := wi64_id (by omega)
    have hd : decide (j > i) = true := decide_eq_true (by omega)
    have g1 : 0 ≤ j ∧ j < (x.length : Int) := by omega
    have g2 : 0 ≤ j - 1 ∧ j - 1 < (x.length : Int) := by omega
    obtain ⟨r, r1, r2⟩ := ih (j - 1) k (sw x j (j - 1)) (by omega) (by omega) (by omega) (hx.trans (Mv.sw h0 (by omega) (by omega) (by omega))) (fun t ht => by
      rw [gt_sw x g1 g2 t ht]
      have q1 := hg j (by omega)
      have q2 := hg (j - 1) (by omega)
      have q3 := hg t ht
      unfold dnR at q1 q2 q3 ⊢
      rw [q1, q2, q3]
      repeat' split
      all_goals first | rfl | omega | (congr 1; omega) | (exfalso; omega))
    exact ⟨r, by simp only [gs_symMergeCmpFunc.l3, hd, if_true, e1, g1, g2, and_self, st_length]; exact r1, r2⟩
theorem find_l4 (hc : CmpOK cmp lt D) {d : List Int} {a m b lo hi : Int} (h0 : 0 ≤ a) (ham : a < m) (hmb : m < b) (hb : b ≤ d.length) (hm : (d.length : Int) ≤ 1000000) (hD : Dm D d a b) (hlo : a ≤ lo) (hhi : hi ≤ m) (hlo2 : (a + b) / 2 + m - b ≤ lo) (hhi2 : hi ≤ (a + b) / 2) :
    ∀ (s : Nat) (i j : Int) (k : Nat), (j - i).toNat ≤ s → s < k → lo ≤ i → i ≤ j → j ≤ hi → (i = lo ∨ ¬ lt (gt d ((a + b) / 2 + m - i)) (gt d (i - 1))) → (j = hi ∨ lt (gt d ((a + b) / 2 + m - 1 - j)) (gt d j)) →
      ∃ r, gs_symMergeCmpFunc.l4 a b m d cmp k i j = some r ∧ lo ≤ r ∧ r ≤ hi ∧ (r = lo ∨ ¬ lt (gt d ((a + b) / 2 + m - r)) (gt d (r - 1))) ∧ (r = hi ∨ lt (gt d ((a + b) / 2 + m - 1 - r)) (gt d r)) := by
  have hmid := half (x := a) (y := b) h0 (by omega) (by omega)
  have hmr : a < (a + b) / 2 ∧ (a + b) / 2 < b := by omega
  generalize (a + b) / 2 = mid at hmid hmr hlo2 hhi2
  intro s
  induction s with
  | zero =>
    intro i j k hs hk hi' hij hj p q
    obtain ⟨k, rfl⟩ : ∃ m, k = m + 1 := ⟨k - 1, by omega⟩
    obtain rfl : i = j := by omega
    exact ⟨i, by simp [gs_symMergeCmpFunc.l4], hi', hj, p, q⟩
  | succ s ih =>
    intro i j k hs hk hi' hij hj p q
    obtain ⟨k, rfl⟩ : ∃ m, k = m + 1 := ⟨k - 1, by omega⟩
    by_cases hlt : i < j
    · have hd : decide (i < j) = true := decide_eq_true hlt
      have hh := half (x := i) (y := j) (by omega) (by omega) (by omega)
      have hr : i ≤ (i + j) / 2 ∧ (i + j) / 2 < j := by omega
      generalize (i + j) / 2 = h at hh hr
      have e0 : wi64 (wi64 (wi64 (mid + m) - 1) - h) = mid + m - 1 - h := by rw [wi64_id (x := mid + m) (by omega), wi64_id (x := mid + m - 1) (by omega), wi64_id (by omega)]
      have g1 : 0 ≤ h ∧ h < (d.length : Int) := by omega
      have g2 : 0 ≤ mid + m - 1 - h ∧ mid + m - 1 - h < (d.length : Int) := by omega
      have e1 : wi64 (h + 1) = h + 1 := wi64_id (by omega)
      obtain ⟨c, c1, c2⟩ := hc (gt d (mid + m - 1 - h)) (gt d h) (hD _ (by omega) (by omega)) (hD h (by omega) (by omega))
      by_cases hlc : c < 0
      · have hdc : (!(decide (c < 0))) = false := by rw [decide_eq_true hlc]; rfl
        obtain ⟨r, r1, r2⟩ := ih i h k (by omega) (by omega) hi' (by omega) (by omega) p (.inr (c2.1 hlc))
        exact ⟨r, by simp only [gs_symMergeCmpFunc.l4, hd, if_true, hh, hmid, e0, g1, g2, and_self, c1, Option.bind_some, hdc, Bool.false_eq_true, if_false]; exact r1, r2⟩
      · have hdc : (!(decide (c < 0))) = true := by rw [decide_eq_false hlc]; rfl
        obtain ⟨r, r1, r2⟩ := ih (h + 1) j k (by omega) (by omega) (by omega) (by omega) hj (.inr (by rw [show h + 1 - 1 = h by omega, show mid + m - (h + 1) = mid + m - 1 - h by omega]; exact fun x => hlc (c2.2 x))) q
        exact ⟨r, by simp only [gs_symMergeCmpFunc.l4, hd, if_true, hh, hmid, e0, g1, g2, and_self, c1, Option.bind_some, hdc, e1]; exact r1, r2⟩
    · obtain rfl : i = j := by omega
      exact ⟨i, by simp [gs_symMergeCmpFunc.l4], hi', hj, p, q⟩
end Go.Cen
