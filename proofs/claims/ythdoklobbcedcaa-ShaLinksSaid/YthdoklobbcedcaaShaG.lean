/- SHA: that the program works at a few texts, by reckoning; the six laws. -/
import Derived.Test.YthdoklobbcedcaaShaF
set_option linter.unusedVariables false
set_option linter.unusedSimpArgs false
set_option maxRecDepth 1000000
namespace Go.Cen
def ofK (s : ByteArray) : Option (List Int) := (sha_Pad s).bind fun y10 => (sha_Of.l0 K64 FU y10 K8).bind fun x11 => (sha_Of.l1 x11 FU 0 (List.replicate 32 (0 : Int))).bind fun x23 => some x23
theorem of_ofK (s : ByteArray) : sha_Of s = ofK s := by unfold sha_Of ofK; rw [constants_eq]; rfl
def dAbc : List Int := [0xba, 0x78, 0x16, 0xbf, 0x8f, 0x01, 0xcf, 0xea, 0x41, 0x41, 0x40, 0xde, 0x5d, 0xae, 0x22, 0x23, 0xb0, 0x03, 0x61, 0xa3, 0x96, 0x17, 0x7a, 0x9c, 0xb4, 0x10, 0xff, 0x61, 0xf2, 0x00, 0x15, 0xad]
def dNil : List Int := [0xe3, 0xb0, 0xc4, 0x42, 0x98, 0xfc, 0x1c, 0x14, 0x9a, 0xfb, 0xf4, 0xc8, 0x99, 0x6f, 0xb9, 0x24, 0x27, 0xae, 0x41, 0xe4, 0x64, 0x9b, 0x93, 0x4c, 0xa4, 0x95, 0x99, 0x1b, 0x78, 0x52, 0xb8, 0x55]
theorem of_abc : sha_Of (⟨#[97, 98, 99]⟩ : ByteArray) = some dAbc := by rw [of_ofK]; decide +kernel
theorem of_nil : sha_Of (⟨#[]⟩ : ByteArray) = some dNil := by rw [of_ofK]; decide +kernel
theorem of_a_b : ∃ x y, sha_Of (⟨#[97]⟩ : ByteArray) = some x ∧ sha_Of (⟨#[98]⟩ : ByteArray) = some y ∧ eqA x y = false := by
  have h : ((ofK (⟨#[97]⟩ : ByteArray)).bind fun x => (ofK (⟨#[98]⟩ : ByteArray)).bind fun y => some (eqA x y)) = some false := by decide +kernel
  obtain ⟨x, h1, h⟩ := bindS h
  obtain ⟨y, h2, h⟩ := bindS h
  exact ⟨x, y, by rw [of_ofK, h1], by rw [of_ofK, h2], someS h⟩
theorem same_eq {a b : ByteArray} {x y : List Int} (ha : sha_Of a = some x) (hb : sha_Of b = some y) : sha_Same a b = some (!(seq a b) && eqA x y) := by
  unfold sha_Same
  cases h : seq a b <;> simp [ha, hb]
theorem append_nil' (s : ByteArray) : s ++ (⟨#[]⟩ : ByteArray) = s := by apply byts_inj; rw [byts_append, byts_nil, List.append_nil]
theorem dAbc_facts : dAbc.length = 32 ∧ isB dAbc := by
  refine ⟨rfl, ?_⟩
  intro x hx
  have : ∀ x ∈ dAbc, 0 ≤ x ∧ x < 256 := by decide +kernel
  exact this x hx
theorem works_true : law02_works = some true := by
  have t1 : (sha_Text dAbc).bind (fun s => some (seq s (⟨#[98, 97, 55, 56, 49, 54, 98, 102, 56, 102, 48, 49, 99, 102, 101, 97, 52, 49, 52, 49, 52, 48, 100, 101, 53, 100, 97, 101, 50, 50, 50, 51, 98, 48, 48, 51, 54, 49, 97, 51, 57, 54, 49, 55, 55, 97, 57, 99, 98, 52, 49, 48, 102, 102, 54, 49, 102, 50, 48, 48, 49, 53, 97, 100]⟩ : ByteArray))) = some true := by decide +kernel
  obtain ⟨s1, h1, e1⟩ := bindS t1
  have t2 : (sha_Text dNil).bind (fun s => some (seq s (⟨#[101, 51, 98, 48, 99, 52, 52, 50, 57, 56, 102, 99, 49, 99, 49, 52, 57, 97, 102, 98, 102, 52, 99, 56, 57, 57, 54, 102, 98, 57, 50, 52, 50, 55, 97, 101, 52, 49, 101, 52, 54, 52, 57, 98, 57, 51, 52, 99, 97, 52, 57, 53, 57, 57, 49, 98, 55, 56, 53, 50, 98, 56, 53, 53]⟩ : ByteArray))) = some true := by decide +kernel
  obtain ⟨s2, h2, e2⟩ := bindS t2
  have t3 : (sha_Pad (⟨#[97, 98, 99]⟩ : ByteArray)).bind (fun s => some ((s.size : Int) == 64)) = some true := by decide +kernel
  obtain ⟨s3, h3, e3⟩ := bindS t3
  obtain ⟨x, y, hx, hy, hxy⟩ := of_a_b
  have hab : seq (⟨#[97]⟩ : ByteArray) (⟨#[98]⟩ : ByteArray) = false := by decide +kernel
  have haa : seq (⟨#[97]⟩ : ByteArray) (⟨#[97]⟩ : ByteArray) = true := by decide +kernel
  obtain ⟨e, l1, _, l3, _, _⟩ := link_both dAbc_facts.1 (a := (⟨#[]⟩ : ByteArray)) (by simp [ByteArray.size])
  rw [append_nil'] at l3
  unfold law02_works
  simp only [of_abc, of_nil, Option.bind_some, h1, someS e1, if_true, h2, someS e2, h3, someS e3, same_eq hx hy, hab, hxy, same_eq hx hx, haa, l1, l3]
  simp [eqA]

end Go.Cen
