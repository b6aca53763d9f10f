/- FILE: what is sealed keeps its bytes; a seal tells the digest of all. -/
import Derived.Test.YthdoklobbcedcadDoorFiC
set_option linter.unusedVariables false
set_option linter.unusedSimpArgs false
set_option maxRecDepth 100000
namespace Go.Cen
theorem sealed_l0 (l : List ApiOp) (fs : List Int) (hn : l.length ≤ 20) (he : fs.length = l.length) (f : Fi) (hs : f.sd = true) :
    ∃ r, law08_FileSealed.l0 l true fs FU 0 0 f.id f.nm f.da f.sd f.un f.ho = some r ∧ (r = .inl true ∨ r = .inr ()) := by
  have := loopNI l.length (by omega) (fun k i (s : Int × Fi) => (∃ r, law08_FileSealed.l0 l true fs k s.1 i s.2.id s.2.nm s.2.da s.2.sd s.2.un s.2.ho = some r ∧ (r = .inl true ∨ r = .inr ()))) (fun _ _ => True) (fun _ s => s.2.sd = true)
    (fun k s hs => by
      have hd : decide (((l.length : Nat) : Int) < (l.length : Int)) = false := by simp
      simp [law08_FileSealed.l0])
    (fun k i hi hw s hs ih => by
      obtain ⟨fl, f⟩ := s
      have hs : f.sd = true := hs
      have hd : decide ((i : Int) < (l.length : Int)) = true := by simp; omega
      have hg : 0 ≤ (i : Int) ∧ (i : Int) < (l.length : Int) := ⟨by omega, by omega⟩
      have hg2 : 0 ≤ (i : Int) ∧ (i : Int) < (fs.length : Int) := ⟨by omega, by omega⟩
      simp only [law08_FileSealed.l0, hd, if_true, hg, hg2, and_self, gt_nat l i hi, hw, fewO_eq, Option.bind_some, Floor_eq, Kept_eq, eq_iff_iff, iff_true]
      generalize hfl : flF fl (gt fs (i : Int)) = fl'
      cases hfew : fewO f l[i] with
      | false => exact ⟨.inl true, rfl, .inl rfl⟩
      | true =>
        obtain ⟨p1, p2, p3, p4, p5⟩ := do_sealed hs l[i] fl'
        simp only [Bool.not_true, Bool.false_eq_true, if_false, fewO_do hfew fl', tupD, Option.bind_some]
        generalize hr : doF f l[i] fl' = r at p1 p2 p3 p4 p5
        have ih' := ih (fl', r.1)
        have c1 : (if (l[i].Kind == 1) = true then (if (r.2.2 != 5) = true then some true else (if (l[i].Kind == 2) = true then (if (r.2.2 != 5) = true then some true else (if (l[i].Kind == 0) = true then some (r.2.2 != 4) else some false)) else (if (l[i].Kind == 0) = true then some (r.2.2 != 4) else some false)))
            else (if (l[i].Kind == 2) = true then (if (r.2.2 != 5) = true then some true else (if (l[i].Kind == 0) = true then some (r.2.2 != 4) else some false)) else (if (l[i].Kind == 0) = true then some (r.2.2 != 4) else some false))) = some false := by
          by_cases k1 : l[i].Kind = 1
          · simp [k1, p1 k1]
          by_cases k2 : l[i].Kind = 2
          · simp [k2, p2 k2]
          by_cases k0 : l[i].Kind = 0
          · simp [k0, p3 k0]
          simp [k1, k2, k0]
        rw [c1]
        simp only [Option.bind_some, Bool.false_eq_true, if_false]
        by_cases k6 : l[i].Kind = 6 ∧ r.2.2 = 0
        · have e6 : (if (l[i].Kind == 6) = true then some (r.2.2 == 0) else some false) = some true := by simp [k6.1, k6.2]
          rw [e6]
          simp only [Option.bind_some, if_true, p4 k6.1 k6.2]
          exact ⟨.inl true, rfl, .inl rfl⟩
        · have e6 : (if (l[i].Kind == 6) = true then some (r.2.2 == 0) else some false) = some false := by
            by_cases q : l[i].Kind = 6
            · have : r.2.2 ≠ 0 := fun h => k6 ⟨q, h⟩
              simp [q, this]
            · simp [q]
          rw [e6]
          obtain ⟨q1, q2, q3⟩ := p5 k6
          have q3' : decide (r.1.un < f.un) = false := by simp; omega
          simp only [Option.bind_some, Bool.false_eq_true, if_false, q1, seq_refl, Bool.not_true, q2, q3', if_true]
          have := ih' q2
          simp only [eq_iff_iff, iff_true, q1, q2] at this
          exact this) (0, f) hs
  simpa using this
theorem law08_FileSealed_eq (i : Int) (nm da : ByteArray) (sd : Bool) (un : Int) (ho : List ByteArray) (l : List ApiOp) (fs : List Int) : law08_FileSealed i nm da sd un ho l fs = some true := by
  unfold law08_FileSealed
  simp only [works08, Option.bind_some, Bool.not_true, Bool.false_eq_true, if_false]
  by_cases h1 : (l.length : Int) > 20
  · simp [h1]
  by_cases h2 : fs.length = l.length
  · cases sd with
    | false => simp [h1, h2]
    | true =>
      have h2' : ((fs.length : Int) != (l.length : Int)) = false := by simp [h2]
      obtain ⟨r, e1, e2⟩ := sealed_l0 l fs (by omega) h2 ⟨i, nm, da, true, un, ho⟩ rfl
      simp only [h1, h2', decide_false, Bool.false_eq_true, if_false, Bool.not_true, Option.bind_some, e1]
      rcases e2 with rfl | rfl <;> rfl
  · have h2' : ((fs.length : Int) != (l.length : Int)) = true := by simp; omega
    simp [h1, h2']
end Go.Cen
