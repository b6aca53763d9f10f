/- ROOT: the parts. -/
import Derived.Test.YthdoklobbcedcabRootB
set_option linter.unusedVariables false
set_option linter.unusedSimpArgs false
namespace Go.Cen
def nparts (c n : Nat) : Nat := (n + c - 1) / c
theorem nparts_lt {c : Nat} (hc : 0 < c) (n i : Nat) : i < nparts c n ↔ i * c < n := by
  unfold nparts
  have h := Nat.le_div_iff_mul_le (x := i + 1) (y := n + c - 1) hc
  rw [Nat.add_mul, Nat.one_mul] at h
  constructor
  · intro h1
    have := h.1 h1
    omega
  · intro h1
    exact h.2 (by omega)
theorem nparts_end {c : Nat} (hc : 0 < c) (n : Nat) : n ≤ nparts c n * c := by
  have := (nparts_lt hc n (nparts c n)).2
  omega
theorem nparts_le {c : Nat} (hc : 0 < c) (n : Nat) : nparts c n ≤ n := by
  have h := (nparts_lt hc n n).1
  have : n ≤ n * c := Nat.le_mul_of_pos_right n hc
  omega
/-- one part -/
def partL (c : Nat) (l : List Int) (i : Nat) : List Int := nm i ++ nm (nparts c l.length : Nat) ++ (l.drop (i * c)).take c
def putL (c : Nat) (l : List Int) (m : Nat) : List ByteArray := (List.range m).map fun i => strOfNums (partL c l i)
theorem putL_succ (c : Nat) (l : List Int) (m : Nat) : putL c l (m + 1) = putL c l m ++ [strOfNums (partL c l m)] := by
  simp [putL, List.range_succ]
theorem putL_len (c : Nat) (l : List Int) (m : Nat) : (putL c l m).length = m := by simp [putL]
def putQ (M : List Q) (G : List Int) (room : Int) : List ByteArray :=
  if validQ M G && (decide (8 ≤ room) && decide (room ≤ 224)) then putL (room.toNat - 6) (bytesQ M G) (nparts (room.toNat - 6) (bytesQ M G).length) else []
theorem valid_len {M : List Q} {G : List Int} (h : validQ M G = true) : M.length ≤ 400 ∧ G.length ≤ 100 := by
  simp only [validQ, Bool.and_eq_true, decide_eq_true_eq] at h
  exact ⟨h.1.1.1.1.1, h.1.1.1.1.2⟩
theorem count_eq {room : Int} {n : Nat} (h1 : 8 ≤ room) (h2 : room ≤ 224) (hn : n ≤ 100000) :
    wi64 ((wi64 ((wi64 ((n : Int) + (wi64 (room - 6)))) - 1)).tdiv (wi64 (room - 6))) = ((nparts (room.toNat - 6) n : Nat) : Int) := by
  obtain ⟨c, hc⟩ : ∃ c : Nat, room - 6 = (c : Int) := ⟨(room - 6).toNat, by omega⟩
  have hr : room.toNat - 6 = c := by omega
  have hp := nparts_le (c := c) (by omega) n
  rw [hr, wi64_id (x := room - 6) (by omega), hc, wi64_id (x := (n : Int) + c) (by omega), wi64_id (x := (n : Int) + c - 1) (by omega)]
  have : ((n : Int) + c - 1).tdiv (c : Int) = ((nparts c n : Nat) : Int) := by
    rw [Int.tdiv_eq_ediv_of_nonneg (by omega)]
    have e : ((n : Int) + c - 1) = ((n + c - 1 : Nat) : Int) := by omega
    rw [e, nparts]; rfl
  rw [this, wi64_id (by omega)]
theorem y1_eq {l : List Int} {room : Int} (hl : l.length ≤ 100000) (h1 : 8 ≤ room) (h2 : room ≤ 224) (i : Nat) (acc : List ByteArray) (ha : acc.length ≤ 100000) (ch : List Int) (hch : ch.length ≤ 100000) :
    root_Put.y1 (strOfNums l) room acc (i : Int) (strOfNums ch) = some (acc ++ [strOfNums (nm i ++ nm (nparts (room.toNat - 6) l.length : Nat) ++ ch)]) := by
  have hL := LIM_ge
  unfold root_Put.y1
  rw [strOfNums_size, count_eq h1 h2 hl]
  have := nm_len (i : Int); have := nm_len (nparts (room.toNat - 6) l.length : Nat)
  simp only [decide_true, if_true, and_self, Option.bind_some, wire_Num_nm]
  rw [if_pos (by simp only [strOfNums_size]; omega), if_pos (by simp only [ByteArray.size_append, strOfNums_size]; omega), if_pos (by simp; omega)]
  simp only [strOfNums_append]
theorem take_take_drop (l : List Int) (i c : Nat) : (l.take (min l.length ((i + 1) * c))).drop (i * c) = (l.drop (i * c)).take c := by
  rw [List.drop_take]
  by_cases h : (i + 1) * c ≤ l.length
  · rw [Nat.min_eq_right h, Nat.add_mul, Nat.one_mul, Nat.add_sub_cancel_left]
  · rw [Nat.min_eq_left (by omega), List.take_of_length_le (by simp), List.take_of_length_le (by
      rw [Nat.add_mul] at h; simp; omega)]
theorem root_Put_eq (M : List RootEntry) (G : List Int) (room : Int) : root_Put M G room = some (putQ (M.map qM) G room) := by
  unfold root_Put putQ
  rw [root_Valid_eq]
  simp only [Option.bind_some]
  cases hv : validQ (M.map qM) G with
  | false => simp
  | true =>
    have hlen := valid_len hv
    rw [List.length_map] at hlen
    by_cases h1 : 8 ≤ room
    · have h1' : decide (room < 8) = false := by simp; omega
      by_cases h2 : room ≤ 224
      · have h2' : decide (room > 224) = false := by simp; omega
        have hw : wi64 (room - 6) = room - 6 := wi64_id (by omega)
        have hne : room - 6 ≠ 0 := by omega
        simp only [h1', h2', Bool.not_true, Bool.false_eq_true, if_false, Option.bind_some, root_bytes_eq M G hlen.1 hlen.2, root_chunks, h1, h2, decide_true, Bool.and_self, if_true]
        rw [hw, if_pos hne]
        generalize hl : bytesQ (M.map qM) G = l
        have hll : l.length ≤ 100000 := by
          have := bytesQ_len (M.map qM) G
          rw [hl, List.length_map] at this; omega
        obtain ⟨c, hc⟩ : ∃ c : Nat, room - 6 = (c : Int) := ⟨(room - 6).toNat, by omega⟩
        have hr : room.toNat - 6 = c := by omega
        have hc0 : 0 < c := by omega
        have hN := nparts_le hc0 l.length
        have := loopNI (nparts c l.length) (by omega) (fun k i (s : List ByteArray × ByteArray) => root_chunks_1.l0 (c : Int) (root_Put.y1 (strOfNums l) room) k i s.1 s.2)
          (fun _ _ => some (putL c l (nparts c l.length), (⟨#[]⟩ : ByteArray))) (fun i s => s = (putL c l i, strOfNums (l.drop (i * c))))
          (fun k s hs => by
            subst hs
            have : l.drop (nparts c l.length * c) = [] := List.drop_eq_nil_iff.2 (nparts_end hc0 _)
            have hz : (strOfNums ([] : List Int)).size = 0 := rfl
            simp only [root_chunks_1.l0, this, hz]
            rfl)
          (fun k i hi hwi s hs ih => by
            subst hs
            have hlt := (nparts_lt hc0 l.length i).1 hi
            obtain ⟨l', hl'⟩ : ∃ x, x = l.drop (i * c) := ⟨_, rfl⟩
            have hn' : l'.length = l.length - i * c := by rw [hl']; simp
            have hd : decide (((l'.length : Nat) : Int) > 0) = true := by simp; omega
            have hmin : (if ((l'.length : Nat) : Int) < (c : Int) then (l'.length : Int) else (c : Int)) = ((min l'.length c : Nat) : Int) := by split <;> omega
            have hmz : ((sx (strOfNums l') 0 ((min l'.length c : Nat) : Int)).size : Int) = ((min l'.length c : Nat) : Int) := by
              rw [sx_str, strOfNums_size]; simp
            have hsx : sx (strOfNums l') 0 ((min l'.length c : Nat) : Int) = strOfNums (l'.take c) := by
              rw [sx_str]
              simp only [Int.toNat_natCast, Int.toNat_zero, List.drop_zero]
              by_cases h : l'.length ≤ c
              · rw [Nat.min_eq_left h, List.take_of_length_le (Nat.le_refl _), List.take_of_length_le h]
              · rw [Nat.min_eq_right (by omega)]
            have hsy : sx (strOfNums l') ((min l'.length c : Nat) : Int) (l'.length : Int) = strOfNums (l.drop ((i + 1) * c)) := by
              rw [sx_str]
              simp only [Int.toNat_natCast, List.take_length]
              rw [hl', List.drop_drop, Nat.add_mul, Nat.one_mul]
              by_cases h : (l.drop (i * c)).length ≤ c
              · rw [Nat.min_eq_left h]
                rw [List.drop_eq_nil_iff.2 (by simp; omega), List.drop_eq_nil_iff.2 (by simp at h ⊢; omega)]
              · rw [Nat.min_eq_right (by omega)]
            have hy := y1_eq hll h1 h2 i (putL c l i) (by rw [putL_len]; omega) (l'.take c) (by simp; omega)
            simp only [← hl']
            simp only [decide_true, if_true, and_self, Option.bind_some, root_chunks_1.l0, strOfNums_size, hd, hmin, hmz]
            rw [if_pos (by omega), if_pos (by omega), hsx, hy, hsy]
            have := ih (putL c l (i + 1), strOfNums (l.drop ((i + 1) * c))) rfl
            simp only [Option.bind_some, hwi]
            rw [hr, hl']
            have e : putL c l i ++ [strOfNums (nm i ++ nm (nparts c l.length : Nat) ++ (l.drop (i * c)).take c)] = putL c l (i + 1) := (putL_succ c l i).symm
            rw [e]
            exact this) ([], strOfNums l) (by simp [putL])
        rw [hr, hc]
        unfold root_chunks_1
        rw [show root_chunks_1.l0 (c : Int) (root_Put.y1 (strOfNums l) room) FU 0 [] (strOfNums l) = _ from this]
        rfl
      · have h2' : decide (room > 224) = true := by simp; omega
        simp [h1', h2', h2]
    · have h1' : decide (room < 8) = true := by simp; omega
      simp [h1', h1]
theorem ref15_Put_eq (M : List Ref15Entry) (G : List Int) (room : Int) : ref15_Put M G room = some (putQ (M.map qR) G room) := by
  unfold ref15_Put putQ
  have hL := LIM_ge
  rw [ref15_Valid_eq]
  simp only [Option.bind_some]
  cases hv : validQ (M.map qR) G with
  | false => simp
  | true =>
    have hlen := valid_len hv
    rw [List.length_map] at hlen
    by_cases h1 : 8 ≤ room
    · have h1' : decide (room < 8) = false := by simp; omega
      by_cases h2 : room ≤ 224
      · have h2' : decide (room > 224) = false := by simp; omega
        have hw : wi64 (room - 6) = room - 6 := wi64_id (by omega)
        have hne : room - 6 ≠ 0 := by omega
        simp only [h1', h2', Bool.not_true, Bool.false_eq_true, if_false, Option.bind_some, ref15_Bytes_eq M G hlen.1 hlen.2, h1, h2, decide_true, Bool.and_self, if_true]
        rw [hw, if_pos hne]
        generalize hl : bytesQ (M.map qR) G = l
        have hll : l.length ≤ 100000 := by
          have := bytesQ_len (M.map qR) G
          rw [hl, List.length_map] at this; omega
        obtain ⟨c, hc⟩ : ∃ c : Nat, room - 6 = (c : Int) := ⟨(room - 6).toNat, by omega⟩
        have hr : room.toNat - 6 = c := by omega
        have hc0 : 0 < c := by omega
        have hN := nparts_le hc0 l.length
        have hcount := count_eq h1 h2 hll
        have := loopNI (nparts c l.length) (by omega) (fun k i (s : List ByteArray) => ref15_Put.l0 (strOfNums l) room k s i)
          (fun _ _ => some (putL c l (nparts c l.length))) (fun i s => s = putL c l i)
          (fun k s hs => by
            subst hs
            simp only [ref15_Put.l0, strOfNums_size]
            rw [hcount, hr]
            simp)
          (fun k i hi hwi s hs ih => by
            subst hs
            have hlt := (nparts_lt hc0 l.length i).1 hi
            have hd : decide ((i : Int) < ((nparts c l.length : Nat) : Int)) = true := by simp; omega
            have hic : i * c ≤ l.length := by omega
            have e1 : wi64 ((i : Int) * (c : Int)) = ((i * c : Nat) : Int) := by rw [wi64_id (by rw [← Int.natCast_mul]; omega)]; simp
            have hb : (i + 1) * c ≤ 200000 := by rw [Nat.add_mul]; omega
            have e2 : wi64 (((i + 1 : Nat) : Int) * (c : Int)) = (((i + 1) * c : Nat) : Int) := by rw [← Int.natCast_mul, wi64_id (by omega)]
            have hmin : (if ((l.length : Nat) : Int) < (((i + 1) * c : Nat) : Int) then (l.length : Int) else (((i + 1) * c : Nat) : Int)) = ((min l.length ((i + 1) * c) : Nat) : Int) := by split <;> omega
            have hsx : sx (strOfNums l) ((i * c : Nat) : Int) ((min l.length ((i + 1) * c) : Nat) : Int) = strOfNums ((l.drop (i * c)).take c) := by
              rw [sx_str, Int.toNat_natCast, Int.toNat_natCast, take_take_drop]
            have hge : i * c ≤ (i + 1) * c := Nat.mul_le_mul_right c (by omega)
            simp only [ref15_Put.l0, strOfNums_size]
            rw [hcount, hr]
            have hwc : wi64 (c : Int) = (c : Int) := wi64_id (by omega)
            simp only [decide_true, if_true, and_self, Option.bind_some, hd, hc, hwc, hwi, e1, e2, hmin, hsx, ref04_Num_nm]
            have := nm_len (i : Int); have := nm_len (nparts c l.length : Nat)
            rw [if_pos (by omega), if_pos (by simp only [strOfNums_size]; omega), if_pos (by simp only [ByteArray.size_append, strOfNums_size, List.length_take, List.length_drop]; omega), if_pos (by simp [putL_len]; omega)]
            simp only [strOfNums_append]
            have e : putL c l i ++ [strOfNums (nm i ++ nm (nparts c l.length : Nat) ++ (l.drop (i * c)).take c)] = putL c l (i + 1) := (putL_succ c l i).symm
            rw [e]
            exact ih _ rfl) [] (by simp [putL])
        rw [hr, show ref15_Put.l0 (strOfNums l) room FU [] 0 = _ from this]
        rfl
      · have h2' : decide (room > 224) = true := by simp; omega
        simp [h1', h2', h2]
    · have h1' : decide (room < 8) = true := by simp; omega
      simp [h1', h1]
end Go.Cen
