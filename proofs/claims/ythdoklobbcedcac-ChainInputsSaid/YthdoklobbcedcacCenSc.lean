/- Scopes: a label that the run jumps back to. No program in sight. -/
import Derived.Test.YthdoklobbcedcacCenArr
import Derived.ScopeJumps
set_option linter.unusedVariables false
set_option linter.unusedSimpArgs false
namespace Go.Cen
section
variable {ρ : Option Nat} {P : Program} {Q : Exit → Act → World → Prop} {N : FN} {S : Sl} {a : Act} {w : World} {b : Frame} {k : List Item} {cs : List Frame}
theorem stepR_scope {c : Code} : step P (lone (b.atR a (.code (.scope c) :: k)) cs w) = .next (lone (b.atR a (.code c :: .inScope c :: k)) cs w) :=
  step_lone_go (by simp [stepG, stepG.exec, Frame.atR])
theorem stepR_inScope {c : Code} : step P (lone (b.atR a (.inScope c :: k)) cs w) = .next (lone (b.atR a k) cs w) :=
  step_lone_go (by simp [stepG, stepG.exec, Frame.atR])
theorem wp_scopeN {c rest : Code} (l : Nat) (hf : findLabel c l = some rest) (I : Nat → Act → World → Prop)
    (pass : ∀ k a w, I k a w → rest.wpIn (fen ρ) 0 P (Exit.jump l (fun a' w' => ∃ j, j < k ∧ I j a' w') Q) a w)
    (first : (∀ k a w, I k a w → rest.wpIn (fen ρ) 0 P (Exit.jump l (fun a w => ∃ k, I k a w) Q) a w) → c.wpIn (fen ρ) 0 P (Exit.jump l (fun a w => ∃ k, I k a w) Q) a w) :
    (Code.scope c).wpIn (fen ρ) 0 P Q a w := by
  have hpass : ∀ k a w, I k a w → rest.wpIn (fen ρ) 0 P (Exit.jump l (fun a w => ∃ k, I k a w) Q) a w := fun k a w hI => wpIn_mono (pass k a w hI) (fun e a w hq => by
    cases e with
    | goto l' => exact ⟨hq.1, hq.2.elim fun j hj => ⟨j, hj.2⟩⟩
    | _ => exact hq)
  have hfirst := first hpass
  clear first hpass
  intro b k cs hro hb hr
  have hg : gotoIn l (.inScope c :: k) = some (.code rest :: .inScope c :: k) := by simp [gotoIn, hf]
  have out : ∀ {m : Machine} {e : Exit} {a : Act} {w : World}, e ≠ .normal → (∀ l', e ≠ .goto l') → ArrivesIn (Machine.fenced P (fen ρ)) P m b (.inScope c :: k) cs e a w → ArrivesIn (Machine.fenced P (fen ρ)) P m b k cs e a w := by
    intro m e a w h1 h2 h
    cases e with
    | normal => exact absurd rfl h1
    | exit id => exact ⟨fun k' hk => h.1 k' (by simp [exitTo, hk]), fun hr hk => h.2 hr (by simp [exitTo, hk])⟩
    | goto l' => exact absurd rfl (h2 l')
    | ret => exact h
    | panic ch => exact h
    | outgrown => exact h
  have key : ∀ n a w, I n a w → ∃ e a' w', Q e a' w' ∧ ArrivesIn (Machine.fenced P (fen ρ)) P (lone (b.atR a (.code rest :: .inScope c :: k)) cs w) b k cs e a' w' := by
    intro n
    induction n using Nat.strongRecOn with
    | _ n ih =>
      intro a w hI
      obtain ⟨e, a₁, w₁, hq, harr⟩ := pass n a w hI b (.inScope c :: k) cs hro hb hr
      cases e with
      | normal => exact ⟨.normal, a₁, w₁, hq, StepsIn.trans harr (.one (fenced_calm hb hr rfl) stepR_inScope)⟩
      | exit id => exact ⟨_, a₁, w₁, hq, out (by simp) (by simp) harr⟩
      | goto l' =>
        obtain ⟨rfl, j, hj, hJ⟩ := hq
        obtain ⟨e₂, a₂, w₂, hq₂, harr₂⟩ := ih j hj a₁ w₁ hJ
        exact ⟨e₂, a₂, w₂, hq₂, .of_steps (harr.1 _ hg) harr₂⟩
      | ret => exact ⟨_, a₁, w₁, hq, out (by simp) (by simp) harr⟩
      | panic ch => exact ⟨_, a₁, w₁, hq, out (by simp) (by simp) harr⟩
      | outgrown => exact ⟨_, a₁, w₁, hq, out (by simp) (by simp) harr⟩
  have h0 : StepsIn (Machine.fenced P (fen ρ)) P (lone (b.atR a (.code (.scope c) :: k)) cs w) (lone (b.atR a (.code c :: .inScope c :: k)) cs w) := .one (fenced_calm hb hr rfl) stepR_scope
  obtain ⟨e, a₁, w₁, hq, harr⟩ := hfirst b (.inScope c :: k) cs hro hb hr
  cases e with
  | normal => exact ⟨.normal, a₁, w₁, hq, StepsIn.trans h0 (StepsIn.trans harr (.one (fenced_calm hb hr rfl) stepR_inScope))⟩
  | exit id => exact ⟨_, a₁, w₁, hq, .of_steps h0 (out (by simp) (by simp) harr)⟩
  | goto l' =>
    obtain ⟨rfl, j, hJ⟩ := hq
    obtain ⟨e₂, a₂, w₂, hq₂, harr₂⟩ := key j a₁ w₁ hJ
    exact ⟨e₂, a₂, w₂, hq₂, .of_steps (StepsIn.trans h0 (harr.1 _ hg)) harr₂⟩
  | ret => exact ⟨_, a₁, w₁, hq, .of_steps h0 (out (by simp) (by simp) harr)⟩
  | panic ch => exact ⟨_, a₁, w₁, hq, .of_steps h0 (out (by simp) (by simp) harr)⟩
  | outgrown => exact ⟨_, a₁, w₁, hq, .of_steps h0 (out (by simp) (by simp) harr)⟩
theorem wp_scopeB {c B : Code} (l : Nat) (hf : findLabel c l = some (.seq .skip B)) (I : Nat → Act → World → Prop)
    (pass : ∀ k a w, I k a w → B.wpIn (fen ρ) 0 P (Exit.jump l (fun a' w' => ∃ j, j < k ∧ I j a' w') Q) a w)
    (first : (∀ k a w, I k a w → B.wpIn (fen ρ) 0 P (Exit.jump l (fun a w => ∃ k, I k a w) Q) a w) → c.wpIn (fen ρ) 0 P (Exit.jump l (fun a w => ∃ k, I k a w) Q) a w) :
    (Code.scope c).wpIn (fen ρ) 0 P Q a w := by
  have hB : ∀ k a w, I k a w → B.wpIn (fen ρ) 0 P (Exit.jump l (fun a w => ∃ k, I k a w) Q) a w := fun k a w hI => wpIn_mono (pass k a w hI) (fun e a w hq => by
    cases e with
    | goto l' => exact ⟨hq.1, hq.2.elim fun j hj => ⟨j, hj.2⟩⟩
    | _ => exact hq)
  refine wp_scopeN l hf I (fun k a w hI => wpIn_seq (wpIn_skip ?_)) (fun _ => first hB)
  exact pass k a w hI
/-! ### leaves -/
theorem CodT.goto {l : Nat} (h : Qn Q (.goto l) N S w) : CodT ρ P (.goto l) Q N S w := fun a ha => wpIn_goto (h a ha)
theorem Qn.jump_ret {l : Nat} {J : Act → World → Prop} (h : Qn Q .ret N S w) : Qn (Exit.jump l J Q) .ret N S w := fun a ha => h a ha
theorem Qn.jump {l : Nat} {J : Act → World → Prop} (h : ∀ a, Fr N S a → J a w) : Qn (Exit.jump l J Q) (.goto l) N S w := fun a ha => ⟨rfl, h a ha⟩
end
end Go.Cen
