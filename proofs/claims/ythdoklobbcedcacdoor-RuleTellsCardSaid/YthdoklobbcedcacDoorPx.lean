/- What the functions compute, as plain functions: printed by a program of ours out of the loaded program. -/
import Derived.Test.YthdoklobbcedcacDoorCenMp
import Derived.Test.YthdoklobbcedcacDoorCenIns
set_option linter.unusedVariables false
namespace Go.Cen
def tab0 : List Int := [240, 240, 240, 240, 240, 240, 240, 240, 240, 240, 240, 240, 240, 240, 240, 240, 240, 240, 240, 240, 240, 240, 240, 240, 240, 240, 240, 240, 240, 240, 240, 240, 240, 240, 240, 240, 240, 240, 240, 240, 240, 240, 240, 240, 240, 240, 240, 240, 240, 240, 240, 240, 240, 240, 240, 240, 240, 240, 240, 240, 240, 240, 240, 240, 240, 240, 240, 240, 240, 240, 240, 240, 240, 240, 240, 240, 240, 240, 240, 240, 240, 240, 240, 240, 240, 240, 240, 240, 240, 240, 240, 240, 240, 240, 240, 240, 240, 240, 240, 240, 240, 240, 240, 240, 240, 240, 240, 240, 240, 240, 240, 240, 240, 240, 240, 240, 240, 240, 240, 240, 240, 240, 240, 240, 240, 240, 240, 240, 241, 241, 241, 241, 241, 241, 241, 241, 241, 241, 241, 241, 241, 241, 241, 241, 241, 241, 241, 241, 241, 241, 241, 241, 241, 241, 241, 241, 241, 241, 241, 241, 241, 241, 241, 241, 241, 241, 241, 241, 241, 241, 241, 241, 241, 241, 241, 241, 241, 241, 241, 241, 241, 241, 241, 241, 241, 241, 241, 241, 241, 241, 241, 241, 241, 241, 2, 2, 2, 2, 2, 2, 2, 2, 2, 2, 2, 2, 2, 2, 2, 2, 2, 2, 2, 2, 2, 2, 2, 2, 2, 2, 2, 2, 2, 2, 19, 3, 3, 3, 3, 3, 3, 3, 3, 3, 3, 3, 3, 35, 3, 3, 52, 4, 4, 4, 68, 241, 241, 241, 241, 241, 241, 241, 241, 241, 241, 241]
structure ApiFile where
  ID : Int
  Name : ByteArray
  Data : ByteArray
  Sealed : Bool
  Until : Int
  Holds : (List ByteArray)
instance : Inhabited ApiFile := ⟨⟨default, default, default, default, default, default⟩⟩
structure XApiFile where
  ID : Int
  Name : ByteArray
  Data : ByteArray
  Sealed : Bool
  Until : Int
  Holds : Option Addr × Nat × (List ByteArray)
instance : Inhabited XApiFile := ⟨⟨default, default, default, default, default, default⟩⟩
def cx_ApiFile (u : XApiFile) : List Value := ([.int .i64 u.ID, .string u.Name, .string u.Data, .bool u.Sealed, .int .i64 u.Until, .slice u.Holds.1 u.Holds.2.2.length u.Holds.2.1] : List Value)
def pl_ApiFile (u : XApiFile) : ApiFile := ⟨u.ID, u.Name, u.Data, u.Sealed, u.Until, u.Holds.2.2⟩
def okX_ApiFile (Z : Hp) (x : XApiFile) : Prop := RdS Z cS 1 x.Holds.1 x.Holds.2.1 x.Holds.2.2
def RdX_ApiFile (Z : Hp) (A : Option Addr) (c : Nat) (ys : List ApiFile) : Prop := ∃ xs : List XApiFile, xs.map pl_ApiFile = ys ∧ RdS Z cx_ApiFile 6 A c xs ∧ ∀ x ∈ xs, okX_ApiFile Z x
theorem RdX_ApiFile.mono {Z Z' : Hp} {A : Option Addr} {c : Nat} {ys : List ApiFile} (h : RdX_ApiFile Z A c ys) (le : Z.le Z') : RdX_ApiFile Z' A c ys :=
  let ⟨xs, h1, h2, h3⟩ := h
  ⟨xs, h1, h2.mono le, fun x hx => let h := h3 x hx; h.mono le⟩
theorem RdX_ApiFile.nil (Z : Hp) (A : Option Addr) (c : Nat) (hc : c ≤ maxLen) : RdX_ApiFile Z A c [] := ⟨[], rfl, RdS.nil _ _ _ _ _ hc, fun _ h => by cases h⟩
theorem RdX_ApiFile.get {Z : Hp} {A : Option Addr} {c : Nat} {ys : List ApiFile} (h : RdX_ApiFile Z A c ys) {j : Int} (h0 : 0 ≤ j) (hj : j < ys.length) :
    ∃ (g o : Nat) (A_Holds : Option Addr) (c_Holds : Nat), A = some ⟨g, o, none⟩ ∧ (∀ (w0 w : World) (A : HP), Inv w0 Z w A → w.rangeAt g (o + j.toNat * 6) ([.int .i64 (gt ys j).ID, .string (gt ys j).Name, .string (gt ys j).Data, .bool (gt ys j).Sealed, .int .i64 (gt ys j).Until, .slice A_Holds (gt ys j).Holds.length c_Holds] : List Value)) ∧ RdS Z cS 1 A_Holds c_Holds (gt ys j).Holds := by
  obtain ⟨xs, rfl, h2, h3⟩ := h
  have hj' : j < xs.length := by simpa using hj
  obtain ⟨g, o, e1, e2, e3⟩ := RdS.get h2 h0 hj'
  obtain ⟨hlt, e⟩ := gt_eq h0 hj'
  have e4 : gt (xs.map pl_ApiFile) j = pl_ApiFile (gt xs j) := by
    obtain ⟨h5, e5⟩ := gt_eq (ys := xs.map pl_ApiFile) h0 hj
    rw [e5, e]; simp
  have e6 := h3 _ (by rw [e]; exact List.getElem_mem hlt : gt xs j ∈ xs)
  rw [e4]
  exact ⟨g, o, (gt xs j).Holds.1, (gt xs j).Holds.2.1, e1, e2, e6⟩
def rule_timely (a0 : Int) : Option Bool := ((if (decide (a0 ≥ 0)) = true then some (decide (a0 ≤ 1099511627776)) else some false).bind fun x1 => some x1)
def rule_Seal (a0_ID : Int) (a0_Name : ByteArray) (a0_Data : ByteArray) (a0_Sealed : Bool) (a0_Until : Int) (a0_Holds : (List ByteArray)) (a1 : Int) : Option (Int × ByteArray × ByteArray × Bool × Int × (List ByteArray) × Int) := (if a0_Sealed = true then some (a0_ID, a0_Name, a0_Data, a0_Sealed, a0_Until, a0_Holds, 5) else ((rule_timely a1).bind fun y6 => (if (!y6) = true then some (a0_ID, a0_Name, a0_Data, a0_Sealed, a0_Until, a0_Holds, 1) else some (a0_ID, a0_Name, a0_Data, true, a1, a0_Holds, 0))))
def name_Count.l0 (a0 : ByteArray) : Nat → Int → Nat → Option Int
  | 0, _, _ => none
  | k + 1, x3, x4 => (if x4 < a0.size then name_Count.l0 a0 k (wi64 (x3 + 1)) (x4 + runeW a0 x4) else some x3)
def name_Count (a0 : ByteArray) : Option Int := ((name_Count.l0 a0 FU 0 0).bind fun x2 => some x2)
def name_Valid_1 (a0 : Int) : Option Bool := ((if (decide (a0 < 32)) = true then some true else (if (a0 == 47) = true then some true else (if (decide ((127 : Int) ≤ a0)) = true then (if (decide (a0 ≤ 159)) = true then some true else some (a0 == 65533)) else some (a0 == 65533)))).bind fun x1 => some x1)
def strings_indexFunc__name_Valid_1.l0 (a0 : ByteArray) (a2 : Bool) : Nat → Nat → Option (Int ⊕ Unit)
  | 0, _ => none
  | k + 1, x2 => (if x2 < a0.size then ((name_Valid_1 (runeAt a0 x2)).bind fun y5 => (if (y5 == a2) = true then some (.inl (x2 : Int)) else strings_indexFunc__name_Valid_1.l0 a0 a2 k (x2 + runeW a0 x2))) else some (.inr ()))
def strings_indexFunc__name_Valid_1 (a0 : ByteArray) (a2 : Bool) : Option Int := (((strings_indexFunc__name_Valid_1.l0 a0 a2 FU 0) : Option ((Int ⊕ Unit))).bind fun r => match r with | .inl v => some v | .inr _ => some (-1))
def strings_IndexFunc__name_Valid_1 (a0 : ByteArray) : Option Int := ((strings_indexFunc__name_Valid_1 a0 true).bind fun y2 => some y2)
def name_Valid (a0 : ByteArray) : Option Bool := ((name_Count a0).bind fun y2 => ((if (decide (y2 > 0)) = true then (if (decide (y2 ≤ 24)) = true then ((strings_IndexFunc__name_Valid_1 a0).bind fun y7 => (if (decide (y7 < 0)) = true then (if 0 ≤ (0 : Int) ∧ (0 : Int) < (a0.size : Int) then (if ((bt a0 0) != 32) = true then (if 0 ≤ (wi64 ((a0.size : Int) - 1)) ∧ (wi64 ((a0.size : Int) - 1)) < (a0.size : Int) then some ((bt a0 (wi64 ((a0.size : Int) - 1))) != 32) else none) else some false) else none) else some false)) else some false) else some false).bind fun x3 => some x3))
def slices_Index_string.l0 (a0 : (List ByteArray)) (a1 : ByteArray) : Nat → Int → Option (Int ⊕ Unit)
  | 0, _ => none
  | k + 1, x1 => (if (decide (x1 < (a0.length : Int))) = true then (if 0 ≤ x1 ∧ x1 < (a0.length : Int) then (if (seq a1 (gt a0 x1)) = true then some (.inl x1) else slices_Index_string.l0 a0 a1 k (wi64 (x1 + 1))) else none) else some (.inr ()))
def slices_Index_string (a0 : (List ByteArray)) (a1 : ByteArray) : Option Int := (((slices_Index_string.l0 a0 a1 FU 0) : Option ((Int ⊕ Unit))).bind fun r => match r with | .inl v => some v | .inr _ => some (-1))
def slices_Contains_string (a0 : (List ByteArray)) (a1 : ByteArray) : Option Bool := ((slices_Index_string a0 a1).bind fun y2 => some (decide (y2 ≥ 0)))
structure Utf8AcceptRange where
  lo : Int
  hi : Int
instance : Inhabited Utf8AcceptRange := ⟨⟨default, default⟩⟩
def c_Utf8AcceptRange (u : Utf8AcceptRange) : List Value := [.int .u8 u.lo, .int .u8 u.hi]
def tab1 : List Utf8AcceptRange := [⟨128, 191⟩, ⟨160, 191⟩, ⟨128, 159⟩, ⟨144, 191⟩, ⟨128, 143⟩, ⟨0, 0⟩, ⟨0, 0⟩, ⟨0, 0⟩, ⟨0, 0⟩, ⟨0, 0⟩, ⟨0, 0⟩, ⟨0, 0⟩, ⟨0, 0⟩, ⟨0, 0⟩, ⟨0, 0⟩, ⟨0, 0⟩]
def utf8_decodeRuneInStringSlow (a0 : ByteArray) : Option (Int × Int) := (if (decide ((a0.size : Int) < 1)) = true then some (65533, 0) else (if 0 ≤ (0 : Int) ∧ (0 : Int) < (a0.size : Int) then (if 0 ≤ (bt a0 0) ∧ (bt a0 0) < 256 then (if (decide ((gt tab0 (bt a0 0)) ≥ 240)) = true then (if 0 ≤ (0 : Int) ∧ (0 : Int) < (a0.size : Int) then some (bOr .i32 (bAndNot .i32 (wi32 (bt a0 0)) (bShr .i32 (bShl .i32 (wi32 (gt tab0 (bt a0 0))) 31) 31)) (bAnd .i32 65533 (bShr .i32 (bShl .i32 (wi32 (gt tab0 (bt a0 0))) 31) 31)), 1) else none) else (if 0 ≤ (bShr .u8 (gt tab0 (bt a0 0)) 4) ∧ (bShr .u8 (gt tab0 (bt a0 0)) 4) < 16 then (if (decide ((a0.size : Int) < (wi64 (bAnd .u8 (gt tab0 (bt a0 0)) 7)))) = true then some (65533, 1) else (if 0 ≤ (1 : Int) ∧ (1 : Int) < (a0.size : Int) then ((if (decide ((bt a0 1) < ((gt tab1 (bShr .u8 (gt tab0 (bt a0 0)) 4)).lo))) = true then some true else some (decide (((gt tab1 (bShr .u8 (gt tab0 (bt a0 0)) 4)).hi) < (bt a0 1)))).bind fun x14 => (if x14 = true then some (65533, 1) else (if (decide ((wi64 (bAnd .u8 (gt tab0 (bt a0 0)) 7)) ≤ 2)) = true then some (bOr .i32 (bShl .i32 (wi32 (bAnd .u8 (bt a0 0) 31)) 6) (wi32 (bAnd .u8 (bt a0 1) 63)), 2) else (if 0 ≤ (2 : Int) ∧ (2 : Int) < (a0.size : Int) then ((if (decide ((bt a0 2) < 128)) = true then some true else some (decide ((191 : Int) < (bt a0 2)))).bind fun x19 => (if x19 = true then some (65533, 1) else (if (decide ((wi64 (bAnd .u8 (gt tab0 (bt a0 0)) 7)) ≤ 3)) = true then some (bOr .i32 (bOr .i32 (bShl .i32 (wi32 (bAnd .u8 (bt a0 0) 15)) 12) (bShl .i32 (wi32 (bAnd .u8 (bt a0 1) 63)) 6)) (wi32 (bAnd .u8 (bt a0 2) 63)), 3) else (if 0 ≤ (3 : Int) ∧ (3 : Int) < (a0.size : Int) then ((if (decide ((bt a0 3) < 128)) = true then some true else some (decide ((191 : Int) < (bt a0 3)))).bind fun x24 => (if x24 = true then some (65533, 1) else some (bOr .i32 (bOr .i32 (bOr .i32 (bShl .i32 (wi32 (bAnd .u8 (bt a0 0) 7)) 18) (bShl .i32 (wi32 (bAnd .u8 (bt a0 1) 63)) 12)) (bShl .i32 (wi32 (bAnd .u8 (bt a0 2) 63)) 6)) (wi32 (bAnd .u8 (bt a0 3) 63)), 4))) else none)))) else none)))) else none)) else none)) else none) else none))
def utf8_DecodeRuneInString (a0 : ByteArray) : Option (Int × Int) := ((if (!(seq a0 (⟨#[]⟩ : ByteArray))) = true then (if 0 ≤ (0 : Int) ∧ (0 : Int) < (a0.size : Int) then some (decide ((bt a0 0) < 128)) else none) else some false).bind fun x1 => (if x1 = true then (if 0 ≤ (0 : Int) ∧ (0 : Int) < (a0.size : Int) then some (wi32 (bt a0 0), 1) else none) else ((utf8_decodeRuneInStringSlow a0).bind fun (y7, y8) => some (y7, y8))))
def name_broken (a0 : ByteArray) (a1 : Int) (a2 : Int) : Option Bool := (if (a2 != 65533) = true then some false else (if (0 : Int) ≤ a1 ∧ a1 ≤ (a0.size : Int) ∧ (a0.size : Int) ≤ (a0.size : Int) then ((utf8_DecodeRuneInString (sx a0 a1 (a0.size : Int))).bind fun (y4, y5) => some (decide (y5 < 2))) else none))
def name_runes.l0 (a0 : ByteArray) : Nat → (List Int) → Nat → Option (List Int)
  | 0, _, _ => none
  | k + 1, x5, x8 => (if x8 < a0.size then (((name_broken a0 (x8 : Int) (runeAt a0 x8)).bind fun y12 => (if y12 = true then (if 0 ≤ (x8 : Int) ∧ (x8 : Int) < (a0.size : Int) then some (wi32 (1114112 + (wi32 (bt a0 (x8 : Int))))) else none) else some (runeAt a0 x8))).bind fun x10 => (if x5.length + ([x10] : List Int).length ≤ LIM then name_runes.l0 a0 k (x5 ++ ([x10] : List Int)) (x8 + runeW a0 x8) else none)) else some x5)
def name_runes (a0 : ByteArray) : Option (List Int) := ((name_runes.l0 a0 FU ([] : List Int) 0).bind fun x2 => some x2)
def name_Less.l0 (y2 : (List Int)) (y6 : (List Int)) : Nat → Int → Option (Bool ⊕ Unit)
  | 0, _ => none
  | k + 1, x9 => (if (decide (x9 < (y2.length : Int))) = true then (if 0 ≤ x9 ∧ x9 < (y2.length : Int) then (if (decide (x9 ≥ (y6.length : Int))) = true then some (.inl false) else (if 0 ≤ x9 ∧ x9 < (y6.length : Int) then (if ((gt y2 x9) != (gt y6 x9)) = true then (if 0 ≤ x9 ∧ x9 < (y6.length : Int) then some (.inl (decide ((gt y2 x9) < (gt y6 x9)))) else none) else name_Less.l0 y2 y6 k (wi64 (x9 + 1))) else none)) else none) else some (.inr ()))
def name_Less (a0 : ByteArray) (a1 : ByteArray) : Option Bool := ((name_runes a0).bind fun y2 => ((name_runes a1).bind fun y6 => (((name_Less.l0 y2 y6 FU 0) : Option ((Bool ⊕ Unit))).bind fun r => match r with | .inl v => some v | .inr _ => some (decide ((y2.length : Int) < (y6.length : Int))))))
def rule_label_behind (a0 : ByteArray) (a1 : ByteArray) : Option Bool := ((name_Less a1 a0).bind fun y2 => some (!y2))
def slices_IndexFunc_string__rule_label_behind.l0 (a0 : (List ByteArray)) (a1_f0 : ByteArray) : Nat → Int → Option (Int ⊕ Unit)
  | 0, _ => none
  | k + 1, x1 => (if (decide (x1 < (a0.length : Int))) = true then (if 0 ≤ x1 ∧ x1 < (a0.length : Int) then ((rule_label_behind a1_f0 (gt a0 x1)).bind fun y10 => (if y10 = true then some (.inl x1) else slices_IndexFunc_string__rule_label_behind.l0 a0 a1_f0 k (wi64 (x1 + 1)))) else none) else some (.inr ()))
def slices_IndexFunc_string__rule_label_behind (a0 : (List ByteArray)) (a1_f0 : ByteArray) : Option Int := (((slices_IndexFunc_string__rule_label_behind.l0 a0 a1_f0 FU 0) : Option ((Int ⊕ Unit))).bind fun r => match r with | .inl v => some v | .inr _ => some (-1))
def slices_Clone_string (a0 : (List ByteArray)) : Option (List ByteArray) := (if ([] : List ByteArray).length + a0.length ≤ LIM then some (([] : List ByteArray) ++ a0) else none)
def rule_Hold (a0_ID : Int) (a0_Name : ByteArray) (a0_Data : ByteArray) (a0_Sealed : Bool) (a0_Until : Int) (a0_Holds : (List ByteArray)) (a1 : ByteArray) : Option (Int × ByteArray × ByteArray × Bool × Int × (List ByteArray) × Int) := (if (!a0_Sealed) = true then some (a0_ID, a0_Name, a0_Data, a0_Sealed, a0_Until, a0_Holds, 6) else ((name_Valid a1).bind fun y6 => (if (!y6) = true then some (a0_ID, a0_Name, a0_Data, a0_Sealed, a0_Until, a0_Holds, 2) else ((slices_Contains_string a0_Holds a1).bind fun y10 => (if y10 = true then some (a0_ID, a0_Name, a0_Data, a0_Sealed, a0_Until, a0_Holds, 4) else (if (decide ((a0_Holds.length : Int) ≥ 4)) = true then some (a0_ID, a0_Name, a0_Data, a0_Sealed, a0_Until, a0_Holds, 10) else ((slices_IndexFunc_string__rule_label_behind a0_Holds a1).bind fun y16 => ((if (decide (y16 < 0)) = true then some (a0_Holds.length : Int) else some y16).bind fun x17 => ((slices_Clone_string a0_Holds).bind fun y20 => ((insS y20 x17 ([a1] : List ByteArray)).bind fun y25 => some (a0_ID, a0_Name, a0_Data, a0_Sealed, a0_Until, y25, 0)))))))))))
def rule_Release (a0_ID : Int) (a0_Name : ByteArray) (a0_Data : ByteArray) (a0_Sealed : Bool) (a0_Until : Int) (a0_Holds : (List ByteArray)) (a1 : ByteArray) : Option (Int × ByteArray × ByteArray × Bool × Int × (List ByteArray) × Int) := ((slices_Index_string a0_Holds a1).bind fun y4 => (if (decide (y4 < 0)) = true then some (a0_ID, a0_Name, a0_Data, a0_Sealed, a0_Until, a0_Holds, 3) else ((slices_Clone_string a0_Holds).bind fun y8 => ((delS y8 y4 (wi64 (y4 + 1))).bind fun y12 => some (a0_ID, a0_Name, a0_Data, a0_Sealed, a0_Until, y12, 0)))))
def rule_Extend (a0_ID : Int) (a0_Name : ByteArray) (a0_Data : ByteArray) (a0_Sealed : Bool) (a0_Until : Int) (a0_Holds : (List ByteArray)) (a1 : Int) : Option (Int × ByteArray × ByteArray × Bool × Int × (List ByteArray) × Int) := (if (!a0_Sealed) = true then some (a0_ID, a0_Name, a0_Data, a0_Sealed, a0_Until, a0_Holds, 6) else ((rule_timely a1).bind fun y6 => (if (!y6) = true then some (a0_ID, a0_Name, a0_Data, a0_Sealed, a0_Until, a0_Holds, 1) else (if (decide (a1 < a0_Until)) = true then some (a0_ID, a0_Name, a0_Data, a0_Sealed, a0_Until, a0_Holds, 7) else some (a0_ID, a0_Name, a0_Data, a0_Sealed, a1, a0_Holds, 0)))))
def rule_due (a0 : (List ApiFile)) (a1 : Int) : Option ((List ApiFile) × Int) := some (a0, a1)
def rule_May (a0_ID : Int) (a0_Name : ByteArray) (a0_Data : ByteArray) (a0_Sealed : Bool) (a0_Until : Int) (a0_Holds : (List ByteArray)) (a1 : Int) : Option Int := (if (!a0_Sealed) = true then some 6 else (if (decide (a1 < a0_Until)) = true then some 8 else (if (decide ((a0_Holds.length : Int) > 0)) = true then some 9 else some 0)))
def rule_due_1.l0 {σ : Type}  (a1_v : (List ApiFile)) (a2_v : Int) (Y_a0 : σ → Int → ByteArray → ByteArray → Bool → Int → (List ByteArray) → Option σ) : Nat → Int → σ → Option (σ ⊕ σ)
  | 0, _, _ => none
  | k + 1, x2, x3 => (if (decide (x2 < (a1_v.length : Int))) = true then (if 0 ≤ x2 ∧ x2 < (a1_v.length : Int) then (((rule_May ((gt a1_v x2).ID) ((gt a1_v x2).Name) ((gt a1_v x2).Data) ((gt a1_v x2).Sealed) ((gt a1_v x2).Until) ((gt a1_v x2).Holds) a2_v).bind fun y18 => (if (y18 == 0) = true then ((Y_a0 x3 ((gt a1_v x2).ID) ((gt a1_v x2).Name) ((gt a1_v x2).Data) ((gt a1_v x2).Sealed) ((gt a1_v x2).Until) ((gt a1_v x2).Holds)).bind fun y20 => some (false, y20)) else some (false, x3))).bind fun (x15, x16) => (if x15 = true then some (.inl x16) else rule_due_1.l0 a1_v a2_v Y_a0 k (wi64 (x2 + 1)) x16)) else none) else some (.inr x3))
def rule_due_1 {σ : Type}  (Y_a0 : σ → Int → ByteArray → ByteArray → Bool → Int → (List ByteArray) → Option σ) (s_a0 : σ) (a1_v : (List ApiFile)) (a2_v : Int) : Option σ := (((rule_due_1.l0 a1_v a2_v Y_a0 FU 0 s_a0) : Option ((σ ⊕ σ))).bind fun r => match r with | .inl v => some v | .inr x1 => some x1)
def rule_Due.y1 : (List Int) → Int → ByteArray → ByteArray → Bool → Int → (List ByteArray) → Option (List Int) := fun x14 y27 y28 y29 y30 y31 y34 => (if x14.length + ([y27] : List Int).length ≤ LIM then some (x14 ++ ([y27] : List Int)) else none)
def rule_Due (a0 : (List ApiFile)) (a1 : Int) : Option (List Int) := ((rule_due a0 a1).bind fun (y4, y10) => ((rule_due_1 rule_Due.y1 ([] : List Int) y4 y10).bind fun y41 => some y41))
def rule_Kept (a0_ID : Int) (a0_Name : ByteArray) (a0_Data : ByteArray) (a0_Sealed : Bool) (a0_Until : Int) (a0_Holds : (List ByteArray)) (a1 : Int) : Option Bool := ((if a0_Sealed = true then ((rule_May a0_ID a0_Name a0_Data a0_Sealed a0_Until a0_Holds a1).bind fun y5 => some (y5 != 0)) else some false).bind fun x2 => some x2)
def rule_Floor (a0 : Int) (a1 : Int) : Option Int := some (if (if 1099511627776 < (if 0 > a1 then 0 else a1) then 1099511627776 else if 0 > a1 then 0 else a1) > a0 then if 1099511627776 < (if 0 > a1 then 0 else a1) then 1099511627776 else if 0 > a1 then 0 else a1 else a0)
def law07_works : Option Bool := ((rule_Seal 1 (⟨#[]⟩ : ByteArray) (⟨#[]⟩ : ByteArray) false 0 ([] : List ByteArray) 9).bind fun (y2, y3, y4, y5, y6, y7, y11) => ((rule_Hold y2 y3 y4 y5 y6 y7 (⟨#[120]⟩ : ByteArray)).bind fun (y16, y17, y18, y19, y20, y21, y25) => ((rule_Release y16 y17 y18 y19 y20 y21 (⟨#[120]⟩ : ByteArray)).bind fun (y30, y31, y32, y33, y34, y35, y39) => ((rule_Extend y2 y3 y4 y5 y6 y7 10).bind fun (y44, y45, y46, y47, y48, y49, y53) => ((rule_Due ([⟨y2, y3, y4, y5, y6, y7⟩, ⟨2, (⟨#[]⟩ : ByteArray), (⟨#[]⟩ : ByteArray), false, 0, ([] : List ByteArray)⟩] : List ApiFile) 9).bind fun y63 => ((if (y11 == 0) = true then (if (y25 == 0) = true then (if (y39 == 0) = true then (if (y53 == 0) = true then (if (y48 == 10) = true then (if ((y35.length : Int) == 0) = true then ((rule_May y2 y3 y4 y5 y6 y7 8).bind fun y74 => (if (y74 == 8) = true then ((rule_May y2 y3 y4 y5 y6 y7 9).bind fun y77 => (if (y77 == 0) = true then ((rule_May y16 y17 y18 y19 y20 y21 9).bind fun y80 => (if (y80 == 9) = true then ((rule_Kept y16 y17 y18 y19 y20 y21 9).bind fun y83 => (if y83 = true then ((rule_Kept y2 y3 y4 y5 y6 y7 9).bind fun y86 => (if (!y86) = true then (if ((y63.length : Int) == 1) = true then (if 0 ≤ (0 : Int) ∧ (0 : Int) < (y63.length : Int) then (if ((gt y63 0) == 1) = true then ((rule_Floor 5 3).bind fun y96 => (if (y96 == 5) = true then ((rule_Floor 3 5).bind fun y99 => some (y99 == 5)) else some false)) else some false) else none) else some false) else some false)) else some false)) else some false)) else some false)) else some false)) else some false) else some false) else some false) else some false) else some false) else some false).bind fun x66 => some x66))))))
def law07_Few.l0 (a0_Holds : (List ByteArray)) : Nat → Int → Option (Bool ⊕ Unit)
  | 0, _ => none
  | k + 1, x2 => ((if (decide (x2 < (a0_Holds.length : Int))) = true then some (decide (x2 ≤ 200)) else some false).bind fun x3 => (if x3 = true then (if 0 ≤ x2 ∧ x2 < (a0_Holds.length : Int) then (if (decide (((gt a0_Holds x2).size : Int) > 200)) = true then some (.inl false) else law07_Few.l0 a0_Holds k (wi64 (x2 + 1))) else none) else some (.inr ())))
def law07_Few (a0_ID : Int) (a0_Name : ByteArray) (a0_Data : ByteArray) (a0_Sealed : Bool) (a0_Until : Int) (a0_Holds : (List ByteArray)) : Option Bool := (((law07_Few.l0 a0_Holds FU 0) : Option ((Bool ⊕ Unit))).bind fun r => match r with | .inl v => some v | .inr _ => ((if (decide ((a0_Holds.length : Int) ≤ 200)) = true then (if (decide ((a0_Data.size : Int) ≤ 2000)) = true then some (decide ((a0_Name.size : Int) ≤ 200)) else some false) else some false).bind fun x13 => some x13))
def ref07_May (a0_ID : Int) (a0_Name : ByteArray) (a0_Data : ByteArray) (a0_Sealed : Bool) (a0_Until : Int) (a0_Holds : (List ByteArray)) (a1 : Int) : Option Int := (if (!a0_Sealed) = true then some 6 else (if (decide (a1 < a0_Until)) = true then some 8 else (if (decide ((a0_Holds.length : Int) > 0)) = true then some 9 else some 0)))
def ref07_Due.l0 (a0 : (List ApiFile)) (a1 : Int) : Nat → (List Int) → Int → Option (List Int)
  | 0, _, _ => none
  | k + 1, x4, x7 => (if (decide (x7 < (a0.length : Int))) = true then ((if 0 ≤ x7 ∧ x7 < (a0.length : Int) then ((ref07_May ((gt a0 x7).ID) ((gt a0 x7).Name) ((gt a0 x7).Data) ((gt a0 x7).Sealed) ((gt a0 x7).Until) ((gt a0 x7).Holds) a1).bind fun y22 => (if (y22 == 0) = true then (if 0 ≤ x7 ∧ x7 < (a0.length : Int) then (if x4.length + ([(gt a0 x7).ID] : List Int).length ≤ LIM then some (x4 ++ ([(gt a0 x7).ID] : List Int)) else none) else none) else some x4)) else none).bind fun x9 => ref07_Due.l0 a0 a1 k x9 (wi64 (x7 + 1))) else some x4)
def ref07_Due (a0 : (List ApiFile)) (a1 : Int) : Option (List Int) := ((ref07_Due.l0 a0 a1 FU ([] : List Int) 0).bind fun x1 => some x1)
def ref05_Row.l0 (a0 : (List Int)) (a1 : (List Int)) : Nat → Int → Option (Bool ⊕ Unit)
  | 0, _ => none
  | k + 1, x2 => (if (decide (x2 < (a0.length : Int))) = true then (if 0 ≤ x2 ∧ x2 < (a0.length : Int) then (if 0 ≤ x2 ∧ x2 < (a1.length : Int) then (if ((gt a0 x2) != (gt a1 x2)) = true then some (.inl false) else ref05_Row.l0 a0 a1 k (wi64 (x2 + 1))) else none) else none) else some (.inr ()))
def ref05_Row (a0 : (List Int)) (a1 : (List Int)) : Option Bool := (if ((a0.length : Int) != (a1.length : Int)) = true then some false else (((ref05_Row.l0 a0 a1 FU 0) : Option ((Bool ⊕ Unit))).bind fun r => match r with | .inl v => some v | .inr _ => some true))
def ref07_Floor (a0 : Int) (a1 : Int) : Option Int := ((if (decide (a1 < 0)) = true then some 0 else some a1).bind fun x1 => ((if (decide (x1 > 1099511627776)) = true then some 1099511627776 else some x1).bind fun x3 => (if (decide (x3 > a0)) = true then some x3 else some a0)))
def law07_RuleTells.l0 (a0 : (List ApiFile)) (y2 : Bool) (a1 : Int) : Nat → Int → Option (Bool ⊕ Unit)
  | 0, _ => none
  | k + 1, x5 => (if (decide (x5 < (a0.length : Int))) = true then (if 0 ≤ x5 ∧ x5 < (a0.length : Int) then ((law07_Few ((gt a0 x5).ID) ((gt a0 x5).Name) ((gt a0 x5).Data) ((gt a0 x5).Sealed) ((gt a0 x5).Until) ((gt a0 x5).Holds)).bind fun y17 => (if (!y17) = true then some (.inl y2) else (if 0 ≤ x5 ∧ x5 < (a0.length : Int) then ((ref07_May ((gt a0 x5).ID) ((gt a0 x5).Name) ((gt a0 x5).Data) ((gt a0 x5).Sealed) ((gt a0 x5).Until) ((gt a0 x5).Holds) a1).bind fun y29 => ((if 0 ≤ x5 ∧ x5 < (a0.length : Int) then ((rule_May ((gt a0 x5).ID) ((gt a0 x5).Name) ((gt a0 x5).Data) ((gt a0 x5).Sealed) ((gt a0 x5).Until) ((gt a0 x5).Holds) a1).bind fun y41 => (if (y41 != y29) = true then some true else (if 0 ≤ x5 ∧ x5 < (a0.length : Int) then (if 0 ≤ x5 ∧ x5 < (a0.length : Int) then ((rule_Kept ((gt a0 x5).ID) ((gt a0 x5).Name) ((gt a0 x5).Data) ((gt a0 x5).Sealed) ((gt a0 x5).Until) ((gt a0 x5).Holds) a1).bind fun y62 => (if ((gt a0 x5).Sealed) = true then some (y62 != (y29 != 0)) else some (y62 != false))) else none) else none))) else none).bind fun x30 => (if x30 = true then some (.inl false) else law07_RuleTells.l0 a0 y2 a1 k (wi64 (x5 + 1))))) else none))) else none) else some (.inr ()))
def law07_RuleTells (a0 : (List ApiFile)) (a1 : Int) (a2 : Int) : Option Bool := (law07_works.bind fun y2 => (if (!y2) = true then some false else (if (decide ((a0.length : Int) > 200)) = true then some y2 else (((law07_RuleTells.l0 a0 y2 a1 FU 0) : Option ((Bool ⊕ Unit))).bind fun r => match r with | .inl v => some v | .inr _ => ((if y2 = true then ((rule_Due a0 a1).bind fun y70 => ((ref07_Due a0 a1).bind fun y74 => ((ref05_Row y70 y74).bind fun y84 => (if y84 = true then ((rule_Floor a1 a2).bind fun y87 => ((ref07_Floor a1 a2).bind fun y89 => some (y87 == y89))) else some false)))) else some false).bind fun x67 => some x67)))))
structure ApiOp where
  Kind : Int
  Name : ByteArray
  Text : ByteArray
  Time : Int
  A : Int
  B : Int
instance : Inhabited ApiOp := ⟨⟨default, default, default, default, default, default⟩⟩
structure ApiEvent where
  Kind : Int
  ID : Int
  Name : ByteArray
  Time : Int
  Len : Int
  Sum : (List Int)
instance : Inhabited ApiEvent := ⟨⟨default, default, default, default, default, default⟩⟩
end Go.Cen
