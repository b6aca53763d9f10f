/- ROOT: the laws of setting, dropping and finding. -/
import Derived.Test.YthdoklobbcedcabRootO
set_option linter.unusedVariables false
set_option linter.unusedSimpArgs false
namespace Go.Cen
theorem rising_iff : ∀ (xs : List Int), rising xs = true ↔ xs.Pairwise (· < ·)
  | [] => by simp [rising]
  | [a] => by simp [rising]
  | a :: b :: r => by
    have ih := rising_iff (b :: r)
    simp only [rising, Bool.and_eq_true, decide_eq_true_eq]
    rw [ih, List.pairwise_cons (a := a)]
    constructor
    · rintro ⟨h1, h2⟩
      refine ⟨?_, h2⟩
      intro x hx
      rcases List.mem_cons.1 hx with rfl | hx
      · exact h1
      · exact Int.lt_trans h1 ((List.pairwise_cons.1 h2).1 x hx)
    · rintro ⟨h1, h2⟩
      exact ⟨h1 b (by simp), h2⟩
/-- rows in their order, by a key -/
def Up {α : Type} (key : α → Int) (M : List α) : Prop := M.Pairwise fun a b => key a < key b
theorem up_map {α : Type} (key : α → Int) (M : List α) : rising (M.map key) = true ↔ Up key M := by
  rw [rising_iff, List.pairwise_map]; rfl
theorem spot_lo {α : Type} (key : α → Int) (M : List α) (v : Int) : ∀ u ∈ M.take (spot key M v), key u < v := by
  intro u hu
  unfold spot at hu
  by_cases h : fidx (fun e => decide (key e ≥ v)) M < 0
  · rw [if_pos h, List.take_length] at hu
    have := List.all_eq_true.1 (fidx_neg _ _ h) u hu
    simp at this; exact this
  · rw [if_neg h] at hu
    obtain ⟨n, hn⟩ : ∃ n : Nat, fidx (fun e => decide (key e ≥ v)) M = (n : Int) := ⟨(fidx (fun e => decide (key e ≥ v)) M).toNat, by omega⟩
    rw [hn, Int.toNat_natCast] at hu
    have := List.all_eq_true.1 (fidx_first _ _ _ hn).2.1 u hu
    simp at this; exact this
theorem spot_hi {α : Type} (key : α → Int) {M : List α} (hM : Up key M) (v : Int) : ∀ u ∈ M.drop (spot key M v), v ≤ key u := by
  intro u hu
  unfold spot at hu
  by_cases h : fidx (fun e => decide (key e ≥ v)) M < 0
  · rw [if_pos h, List.drop_length] at hu; cases hu
  · rw [if_neg h] at hu
    obtain ⟨n, hn⟩ : ∃ n : Nat, fidx (fun e => decide (key e ≥ v)) M = (n : Int) := ⟨(fidx (fun e => decide (key e ≥ v)) M).toNat, by omega⟩
    rw [hn, Int.toNat_natCast] at hu
    obtain ⟨_, _, x, c, d⟩ := fidx_first _ _ _ hn
    have hx : v ≤ key x := by simpa using d
    rw [c] at hu
    rcases List.mem_cons.1 hu with rfl | hu
    · exact hx
    · have hP : (x :: M.drop (n + 1)).Pairwise (fun a b => key a < key b) := by rw [← c]; exact hM.sublist (List.drop_sublist _ _)
      have := (List.pairwise_cons.1 hP).1 u hu
      omega
theorem up_filter {α : Type} {key : α → Int} {M : List α} (h : Up key M) (q : α → Bool) : Up key (M.filter q) := List.Pairwise.sublist List.filter_sublist h
theorem up_putX {α : Type} {key : α → Int} {M : List α} (h : Up key M) (e : α) : Up key (putX key M e) := by
  have lo := spot_lo key M (key e)
  have hi := spot_hi key h (key e)
  have hi' : ∀ u ∈ (M.drop (spot key M (key e))).filter (fun u => !(key u == key e)), key e < key u := by
    intro u hu
    rw [List.mem_filter] at hu
    have := hi u hu.1
    have h2 : ¬ key u = key e := by simpa using hu.2
    omega
  have lo' : ∀ u ∈ (M.take (spot key M (key e))).filter (fun u => !(key u == key e)), key u < key e := fun u hu => lo u (List.mem_filter.1 hu).1
  unfold putX Up
  rw [List.pairwise_append, List.pairwise_append]
  refine ⟨⟨up_filter (List.Pairwise.sublist (List.take_sublist _ _) h) _, by simp, ?_⟩, up_filter (List.Pairwise.sublist (List.drop_sublist _ _) h) _, ?_⟩
  · intro a ha b hb
    simp only [List.mem_cons, List.not_mem_nil, or_false] at hb
    subst hb
    exact lo' a ha
  · intro a ha b hb
    have hb' := hi' b hb
    rcases List.mem_append.1 ha with ha | ha
    · have := lo' a ha; omega
    · simp only [List.mem_cons, List.not_mem_nil, or_false] at ha
      subst ha; exact hb'
theorem mem_putX {α : Type} {key : α → Int} {M : List α} {e u : α} (h : u ∈ putX key M e) : u = e ∨ u ∈ M := by
  unfold putX at h
  simp only [List.mem_append, List.mem_cons, List.not_mem_nil, or_false, List.mem_filter] at h
  rcases h with (h | h) | h
  · exact .inr (List.mem_of_mem_take h.1)
  · exact .inl h
  · exact .inr (List.mem_of_mem_drop h.1)
theorem putX_len {α : Type} (key : α → Int) (M : List α) (e : α) : (putX key M e).length ≤ M.length + 1 := by
  unfold putX
  have a := List.length_filter_le (fun u => !(key u == key e)) (M.take (spot key M (key e)))
  have b := List.length_filter_le (fun u => !(key u == key e)) (M.drop (spot key M (key e)))
  simp only [List.length_append, List.length_cons, List.length_nil, List.length_take, List.length_drop] at a b ⊢
  omega
theorem putX_drop {α : Type} (key : α → Int) (M : List α) (e : α) : (putX key M e).filter (fun u => !(key u == key e)) = M.filter (fun u => !(key u == key e)) := by
  unfold putX
  simp only [List.filter_append, List.filter_filter, Bool.and_self]
  have : [e].filter (fun u => !(key u == key e)) = [] := by simp
  rw [this, List.append_nil, ← List.filter_append, List.take_append_drop]
theorem find_notin {α : Type} {p : α → Bool} {xs : List α} (h : ∀ u ∈ xs, p u = false) : xs.find? p = none := List.find?_eq_none.2 (fun u hu => by simp [h u hu])
theorem putX_find {M : List RootEntry} (e : RootEntry) : findX (putX RootEntry.Logic M e) e.Logic = (e, true) := by
  unfold findX putX
  rw [List.append_assoc, List.find?_append]
  have : ((M.take (spot RootEntry.Logic M e.Logic)).filter fun u => !(u.Logic == e.Logic)).find? (fun u => u.Logic == e.Logic) = none := find_notin (fun u hu => by
    have := (List.mem_filter.1 hu).2
    simpa using this)
  rw [this]
  simp
theorem find_filter {α : Type} {p q : α → Bool} (h : ∀ u, p u = true → q u = true) : ∀ (xs : List α), (xs.filter q).find? p = xs.find? p
  | [] => rfl
  | x :: r => by
    by_cases hq : q x = true
    · rw [List.filter_cons_of_pos hq, List.find?_cons, List.find?_cons, find_filter h r]
    · have hp : p x = false := by
        cases hpx : p x with
        | false => rfl
        | true => exact absurd (h x hpx) hq
      rw [List.filter_cons_of_neg hq, List.find?_cons, hp, find_filter h r]
theorem putX_find_other {M : List RootEntry} (e : RootEntry) (v : Int) (hv : v ≠ e.Logic) : findX (putX RootEntry.Logic M e) v = findX M v := by
  have hq : ∀ u : RootEntry, (u.Logic == v) = true → (!(u.Logic == e.Logic)) = true := by
    intro u hu
    have : u.Logic = v := by simpa using hu
    simp [this, hv]
  have : (putX RootEntry.Logic M e).find? (fun u => u.Logic == v) = M.find? (fun u => u.Logic == v) := by
    unfold putX
    rw [List.append_assoc, List.find?_append, List.find?_append, find_filter hq, find_filter hq]
    have h1 : [e].find? (fun u : RootEntry => u.Logic == v) = none := find_notin (fun u hu => by
      simp only [List.mem_cons, List.not_mem_nil, or_false] at hu
      subst hu
      simpa using fun h => hv h.symm)
    rw [h1, Option.none_or, ← List.find?_append, List.take_append_drop]
  unfold findX
  rw [this]
theorem drop_find (M : List RootEntry) (v : Int) : findX (M.filter fun u => !(u.Logic == v)) v = (zeroE, false) := by
  unfold findX
  rw [find_notin (fun u hu => by
    have := (List.mem_filter.1 hu).2
    simpa using this)]
theorem law15_RootFinds_eq (M : List RootEntry) (G : List Int) (e : RootEntry) (v : Int) : law15_RootFinds M G e v = some true := by
  unfold law15_RootFinds
  rw [works15, root_Valid_eq]
  simp only [Option.bind_some, Bool.not_true, Bool.false_eq_true, if_false, orS, if_true]
  by_cases hc : (decide ((M.length : Int) > 60) || !validQ (M.map qM) []) = true
  · rw [if_pos hc]
  · rw [if_neg hc]
    simp only [Bool.or_eq_true, decide_eq_true_eq] at hc
    have hM : M.length ≤ 60 := by omega
    have hl := putX_len RootEntry.Logic M e
    rw [root_Set_eq M G e (by omega)]
    simp only [Option.bind_some]
    rw [root_Find_eq _ G e.Logic (by omega), root_Find_eq M G v (by omega), root_Find_eq _ G v (by omega), putX_find]
    simp only [Option.bind_some, Bool.not_true, Bool.false_or]
    have he : eq_RootEntry e e = true := (eq_RootEntry_iff e e).2 rfl
    simp only [he, Bool.not_true, Bool.false_eq_true, if_false]
    by_cases hv : v = e.Logic
    · simp [hv]
    · have h1 : (v == e.Logic) = false := by simpa using hv
      rw [putX_find_other e v hv]
      have he2 := (eq_RootEntry_iff (findX M v).1 (findX M v).1).2 rfl
      simp [h1, he2]
theorem valid_iff {M : List RootEntry} {G : List Int} : validQ (M.map qM) G = true ↔ (M.length ≤ 400 ∧ G.length ≤ 100) ∧ (∀ u ∈ M, okQ (qM u) = true) ∧ (∀ g ∈ G, okG g = true) ∧ Up RootEntry.Logic M ∧ Up id G := by
  unfold validQ
  simp only [Bool.and_eq_true, decide_eq_true_eq, List.length_map, List.all_map, List.all_eq_true, map_l, up_map, Function.comp]
  have : rising G = true ↔ Up id G := by
    have := up_map id G
    rwa [List.map_id] at this
  rw [this]
  constructor
  · rintro ⟨⟨⟨⟨⟨a, b⟩, c⟩, d⟩, e⟩, f⟩; exact ⟨⟨a, b⟩, c, d, e, f⟩
  · rintro ⟨⟨a, b⟩, c, d, e, f⟩; exact ⟨⟨⟨⟨⟨a, b⟩, c⟩, d⟩, e⟩, f⟩
theorem up_spot_mid {A B : List Int} {v : Int} (hA : ∀ u ∈ A, u < v) : spot id (A ++ [v] ++ B) v = A.length := by
  unfold spot
  have : ∀ A : List Int, (∀ u ∈ A, u < v) → fidx (fun e : Int => decide (id e ≥ v)) (A ++ [v] ++ B) = (A.length : Int) := by
    intro A
    induction A with
    | nil => intro _; simp [fidx]
    | cons a r ih =>
      intro h
      have h1 := h a (by simp)
      have h2 := ih (fun u hu => h u (by simp [hu]))
      have : decide (id a ≥ v) = false := by simp; exact h1
      rw [List.cons_append, List.cons_append, fidx_cons, this, h2]
      simp
      omega
  rw [this A hA]
  simp
theorem putX_again {G : List Int} (hG : Up id G) (v : Int) : putX id (putX id G v) v = putX id G v := by
  have lo := spot_lo id G v
  have hi := spot_hi id hG v
  obtain ⟨A, hA⟩ : ∃ A, A = (G.take (spot id G v)).filter (fun u => !(id u == v)) := ⟨_, rfl⟩
  obtain ⟨B, hB⟩ : ∃ B, B = (G.drop (spot id G v)).filter (fun u => !(id u == v)) := ⟨_, rfl⟩
  have e : putX id G v = A ++ [v] ++ B := by rw [hA, hB]; rfl
  have hAlo : ∀ u ∈ A, u < v := by
    intro u hu
    rw [hA] at hu
    exact lo u (List.mem_filter.1 hu).1
  have fA : A.filter (fun u => !(id u == v)) = A := by rw [hA, List.filter_filter]; simp
  have fB : B.filter (fun u => !(id u == v)) = B := by rw [hB, List.filter_filter]; simp
  rw [e]
  unfold putX
  have es : spot id (A ++ [v] ++ B) (id v) = A.length := up_spot_mid hAlo
  rw [es]
  have t1 : (A ++ [v] ++ B).take A.length = A := by rw [List.append_assoc, List.take_left]
  have t2 : (A ++ [v] ++ B).drop A.length = [v] ++ B := by rw [List.append_assoc, List.drop_left]
  rw [t1, t2, List.filter_append]
  have f0 : [v].filter (fun u => !(id u == id v)) = [] := by simp
  rw [f0]
  show A.filter (fun u => !(id u == v)) ++ [v] ++ ([] ++ B.filter (fun u => !(id u == v))) = _
  rw [fA, fB, List.nil_append]
theorem law15_RootStays_eq (M : List RootEntry) (G : List Int) (e : RootEntry) (g : Int) : law15_RootStays M G e g = some true := by
  unfold law15_RootStays
  rw [works15, root_Valid_eq, root_Valid_eq]
  simp only [Option.bind_some, Bool.not_true, Bool.false_eq_true, if_false, orS, if_true]
  by_cases hc : (decide ((M.length : Int) > 60) || (decide ((G.length : Int) > 60) || (!validQ ([e].map qM) [g] || !validQ (M.map qM) G))) = true
  · rw [if_pos hc]
  · rw [if_neg hc]
    have h1 : M.length ≤ 60 := by
      by_cases h : M.length ≤ 60
      · exact h
      · exact absurd (by have : decide ((M.length : Int) > 60) = true := by simp; omega
                         simp [this]) hc
    have h2 : G.length ≤ 60 := by
      by_cases h : G.length ≤ 60
      · exact h
      · exact absurd (by have : decide ((G.length : Int) > 60) = true := by simp; omega
                         simp [this]) hc
    have hv1 : validQ ([e].map qM) [g] = true := by
      cases h : validQ ([e].map qM) [g] with
      | true => rfl
      | false => exact absurd (by rw [h]; simp) hc
    have hv2 : validQ (M.map qM) G = true := by
      cases h : validQ (M.map qM) G with
      | true => rfl
      | false => exact absurd (by rw [h]; simp) hc
    obtain ⟨_, oe, og, _, _⟩ := valid_iff.1 hv1
    obtain ⟨_, oM, oG, uM, uG⟩ := valid_iff.1 hv2
    have hl := putX_len RootEntry.Logic M e
    have hlG := putX_len id G g
    have hlD := List.length_filter_le (fun u : RootEntry => !(u.Logic == e.Logic)) (putX RootEntry.Logic M e)
    have vSet : validQ ((putX RootEntry.Logic M e).map qM) G = true := valid_iff.2 ⟨⟨by omega, by omega⟩, fun u hu => (mem_putX hu).elim (fun h => by rw [h]; exact oe e (by simp)) (oM u), oG, up_putX uM e, uG⟩
    have vDrop : validQ (((putX RootEntry.Logic M e).filter (fun u => !(u.Logic == e.Logic))).map qM) G = true := valid_iff.2 ⟨⟨by omega, by omega⟩, fun u hu => (mem_putX (List.mem_filter.1 hu).1).elim (fun h => by rw [h]; exact oe e (by simp)) (oM u), oG, up_filter (up_putX uM e) _, uG⟩
    have vLose : validQ (M.map qM) (putX id G g) = true := valid_iff.2 ⟨⟨by omega, by omega⟩, oM, fun u hu => (mem_putX hu).elim (fun h => by rw [h]; exact og g (by simp)) (oG u), uM, up_putX uG g⟩
    rw [root_Set_eq M G e (by omega)]
    simp only [Option.bind_some]
    rw [root_Drop_eq _ G e.Logic (by omega), root_Lose_eq M G g (by omega)]
    simp only [Option.bind_some]
    rw [root_Find_eq _ G e.Logic (by omega), root_Find_eq _ G e.Logic (by omega), putX_find, drop_find]
    have he : eq_RootEntry e e = true := (eq_RootEntry_iff e e).2 rfl
    simp only [Option.bind_some, root_Valid_eq, vSet, vDrop, vLose, if_true, he, Bool.not_false]
    rw [root_Lose_eq M _ g (by omega)]
    simp only [Option.bind_some]
    rw [putX_again uG g, root_Same_eq _ _ _ _ (by omega) (by omega)]
    simp only [Option.bind_some, decide_true, Bool.and_self, if_true]
    rw [root_Drop_eq M G e.Logic (by omega)]
    simp only [Option.bind_some]
    have hd := putX_drop RootEntry.Logic M e
    rw [hd, root_Same_eq _ _ _ _ (Nat.le_trans (List.length_filter_le _ _) (by omega)) (by omega)]
    simp
end Go.Cen
