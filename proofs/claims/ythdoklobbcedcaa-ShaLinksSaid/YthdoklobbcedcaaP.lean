/- What the functions compute, as plain functions: printed by a program of ours out of the loaded program. -/
import Derived.Test.YthdoklobbcedcaaCenLift3
set_option linter.unusedVariables false
namespace Go.Cen
def sha_prime.l0 (a0 : Int) : Nat → Int → Option (Bool ⊕ Unit)
  | 0, _ => none
  | k + 1, x1 => (if (decide ((wi64 (x1 * x1)) ≤ a0)) = true then (if x1 ≠ 0 then (if ((a0.tmod x1) == 0) = true then some (.inl false) else sha_prime.l0 a0 k (wi64 (x1 + 1))) else none) else some (.inr ()))
def sha_prime (a0 : Int) : Option Bool := ((sha_prime.l0 a0 FU 2).bind fun r => match r with | .inl v => some v | .inr _ => some (decide (a0 > 1)))
def bits_Mul64 (a0 : Int) (a1 : Int) : Option (Int × Int) := some (wu64 ((wu64 ((wu64 ((bShr .u64 a0 32) * (bShr .u64 a1 32))) + (bShr .u64 (wu64 ((wu64 ((bShr .u64 a0 32) * (bAnd .u64 a1 4294967295))) + (bShr .u64 (wu64 ((bAnd .u64 a0 4294967295) * (bAnd .u64 a1 4294967295))) 32))) 32))) + (bShr .u64 (wu64 ((bAnd .u64 (wu64 ((wu64 ((bShr .u64 a0 32) * (bAnd .u64 a1 4294967295))) + (bShr .u64 (wu64 ((bAnd .u64 a0 4294967295) * (bAnd .u64 a1 4294967295))) 32))) 4294967295) + (wu64 ((bAnd .u64 a0 4294967295) * (bShr .u64 a1 32))))) 32)), wu64 (a0 * a1))
def sha_fits (a0 : Int) (a1 : Int) (a2 : Int) : Option Bool := ((bits_Mul64 a0 a0).bind fun (y2, y3) => (if (a2 == 2) = true then ((if (decide (y2 < a1)) = true then some true else (if (y2 == a1) = true then some (y3 == 0) else some false)).bind fun x5 => some x5) else ((bits_Mul64 y3 a0).bind fun (y9, y10) => ((bits_Mul64 y2 a0).bind fun (y12, y13) => ((if (decide ((bOr .u64 (bShl .u64 (wu64 (y12 + (add64c y9 y13))) 32) (bShr .u64 (add64s y9 y13) 32)) < a1)) = true then some true else (if ((bOr .u64 (bShl .u64 (wu64 (y12 + (add64c y9 y13))) 32) (bShr .u64 (add64s y9 y13) 32)) == a1) = true then (if ((wu32 (add64s y9 y13)) == 0) = true then some (y10 == 0) else some false) else some false)).bind fun x14 => some x14)))))
def sha_root.l0 (a0 : Int) (a1 : Int) : Nat → Int → Int → Option Int
  | 0, _, _ => none
  | k + 1, x2, x3 => (if (decide (x3 > 0)) = true then (((sha_fits (bOr .u64 x2 x3) a0 a1).bind fun y7 => (if y7 = true then some (bOr .u64 x2 x3) else some x2)).bind fun x5 => sha_root.l0 a0 a1 k x5 (bShr .u64 x3 1)) else some x2)
def sha_root (a0 : Int) (a1 : Int) : Option Int := ((sha_root.l0 a0 a1 FU 0 137438953472).bind fun x1 => some (wu32 x1))
def sha_constants.l0 : Nat → Int → Int → (List Int) → (List Int) → Option ((List Int) × (List Int))
  | 0, _, _, _, _ => none
  | k + 1, x7, x8, x9, x11 => (if (decide (x7 < 64)) = true then (((sha_prime x8).bind fun y20 => (if (!y20) = true then some (x7, x9, x11) else ((sha_root (wu64 x8) 3).bind fun y23 => (if 0 ≤ x7 ∧ x7 < 64 then ((if (decide (x7 < 8)) = true then ((sha_root (wu64 x8) 2).bind fun y29 => (if 0 ≤ x7 ∧ x7 < 8 then some (st x11 x7 y29) else none)) else some x11).bind fun x25 => some (wi64 (x7 + 1), st x9 x7 y23, x25)) else none)))).bind fun (x14, x15, x17) => sha_constants.l0 k x14 (wi64 (x8 + 1)) x15 x17) else some (x9, x11))
def sha_constants : Option ((List Int) × (List Int)) := ((sha_constants.l0 FU 0 2 (List.replicate 64 (0 : Int)) (List.replicate 8 (0 : Int))).bind fun (x3, x5) => some (x5, x3))
def sha_Pad.l0 : Nat → (List Int) → Option (List Int)
  | 0, _ => none
  | k + 1, x11 => (if (((x11.length : Int).tmod 64) != 56) = true then (if x11.length + ([0] : List Int).length ≤ LIM then sha_Pad.l0 k (x11 ++ ([0] : List Int)) else none) else some x11)
def sha_Pad.l1 (a0 : ByteArray) : Nat → (List Int) → Int → Option (List Int)
  | 0, _, _ => none
  | k + 1, x22, x25 => (if (decide (x25 ≥ 0)) = true then (if 0 ≤ (wi64 (8 * x25)) then (if x22.length + ([wu8 (bShr .u64 (bShl .u64 (wu64 (a0.size : Int)) 3) (wi64 (8 * x25)))] : List Int).length ≤ LIM then sha_Pad.l1 a0 k (x22 ++ ([wu8 (bShr .u64 (bShl .u64 (wu64 (a0.size : Int)) 3) (wi64 (8 * x25)))] : List Int)) (wi64 (x25 - 1)) else none) else none) else some x22)
def sha_Pad (a0 : ByteArray) : Option ByteArray := (if a0.size ≤ LIM then (if (byts a0).length + ([128] : List Int).length ≤ LIM then ((sha_Pad.l0 FU ((byts a0) ++ ([128] : List Int))).bind fun x8 => ((sha_Pad.l1 a0 FU x8 7).bind fun x19 => some (strOfNums x19))) else none) else none)
def bits_RotateLeft32 (a0 : Int) (a1 : Int) : Option Int := (if 0 ≤ (bAnd .u64 (wu64 a1) 31) then (if 0 ≤ (wu64 (32 - (bAnd .u64 (wu64 a1) 31))) then some (bOr .u32 (bShl .u32 a0 (bAnd .u64 (wu64 a1) 31)) (bShr .u32 a0 (wu64 (32 - (bAnd .u64 (wu64 a1) 31))))) else none) else none)
def sha_right (a0 : Int) (a1 : Int) : Option Int := ((bits_RotateLeft32 a0 (wi64 (0 - a1))).bind fun y2 => some y2)
def sha_words.l0 (a0 : ByteArray) : Nat → Int → (List Int) → Option (List Int)
  | 0, _, _ => none
  | k + 1, x5, x6 => (if (decide (x5 < 64)) = true then ((if (decide (x5 < 16)) = true then (if 0 ≤ (wi64 (4 * x5)) ∧ (wi64 (4 * x5)) < (a0.size : Int) then (if 0 ≤ (wi64 ((wi64 (4 * x5)) + 1)) ∧ (wi64 ((wi64 (4 * x5)) + 1)) < (a0.size : Int) then (if 0 ≤ (wi64 ((wi64 (4 * x5)) + 2)) ∧ (wi64 ((wi64 (4 * x5)) + 2)) < (a0.size : Int) then (if 0 ≤ (wi64 ((wi64 (4 * x5)) + 3)) ∧ (wi64 ((wi64 (4 * x5)) + 3)) < (a0.size : Int) then (if 0 ≤ x5 ∧ x5 < 64 then some (st x6 x5 (bOr .u32 (bOr .u32 (bOr .u32 (bShl .u32 (wu32 (bt a0 (wi64 (4 * x5)))) 24) (bShl .u32 (wu32 (bt a0 (wi64 ((wi64 (4 * x5)) + 1)))) 16)) (bShl .u32 (wu32 (bt a0 (wi64 ((wi64 (4 * x5)) + 2)))) 8)) (wu32 (bt a0 (wi64 ((wi64 (4 * x5)) + 3)))))) else none) else none) else none) else none) else none) else (if 0 ≤ (wi64 (x5 - 15)) ∧ (wi64 (x5 - 15)) < 64 then (if 0 ≤ (wi64 (x5 - 2)) ∧ (wi64 (x5 - 2)) < 64 then (if 0 ≤ (wi64 (x5 - 16)) ∧ (wi64 (x5 - 16)) < 64 then (if 0 ≤ (wi64 (x5 - 7)) ∧ (wi64 (x5 - 7)) < 64 then ((sha_right (gt x6 (wi64 (x5 - 15))) 7).bind fun y22 => ((sha_right (gt x6 (wi64 (x5 - 15))) 18).bind fun y24 => ((sha_right (gt x6 (wi64 (x5 - 2))) 17).bind fun y26 => ((sha_right (gt x6 (wi64 (x5 - 2))) 19).bind fun y28 => (if 0 ≤ x5 ∧ x5 < 64 then some (st x6 x5 (wu32 ((wu32 ((wu32 ((gt x6 (wi64 (x5 - 16))) + (bXor .u32 (bXor .u32 y22 y24) (bShr .u32 (gt x6 (wi64 (x5 - 15))) 3)))) + (gt x6 (wi64 (x5 - 7))))) + (bXor .u32 (bXor .u32 y26 y28) (bShr .u32 (gt x6 (wi64 (x5 - 2))) 10))))) else none))))) else none) else none) else none) else none)).bind fun x9 => sha_words.l0 a0 k (wi64 (x5 + 1)) x9) else some x6)
def sha_words (a0 : ByteArray) : Option (List Int) := ((sha_words.l0 a0 FU 0 (List.replicate 64 (0 : Int))).bind fun x3 => some x3)
def sha_mix.l0 (a1 : (List Int)) (y6 : (List Int)) : Nat → Int → (List Int) → Option (List Int)
  | 0, _, _ => none
  | k + 1, x10, x11 => (if (decide (x10 < 64)) = true then (if 0 ≤ x10 ∧ x10 < 64 then (if 0 ≤ x10 ∧ x10 < 64 then ((sha_right (gt x11 4) 6).bind fun y17 => ((sha_right (gt x11 4) 11).bind fun y19 => ((sha_right (gt x11 4) 25).bind fun y21 => ((sha_right (gt x11 0) 2).bind fun y23 => ((sha_right (gt x11 0) 13).bind fun y25 => ((sha_right (gt x11 0) 22).bind fun y27 => sha_mix.l0 a1 y6 k (wi64 (x10 + 1)) (st (st (cpy x11 1 0 7) 0 (wu32 ((wu32 ((wu32 ((wu32 ((wu32 ((gt x11 7) + (bXor .u32 (bXor .u32 y17 y19) y21))) + (bXor .u32 (bAnd .u32 (gt x11 4) (gt x11 5)) (bAnd .u32 (bNot .u32 (gt x11 4)) (gt x11 6))))) + (gt a1 x10))) + (gt y6 x10))) + (wu32 ((bXor .u32 (bXor .u32 y23 y25) y27) + (bXor .u32 (bXor .u32 (bAnd .u32 (gt x11 0) (gt x11 1)) (bAnd .u32 (gt x11 0) (gt x11 2))) (bAnd .u32 (gt x11 1) (gt x11 2)))))))) 4 (wu32 ((gt (st (cpy x11 1 0 7) 0 (wu32 ((wu32 ((wu32 ((wu32 ((wu32 ((gt x11 7) + (bXor .u32 (bXor .u32 y17 y19) y21))) + (bXor .u32 (bAnd .u32 (gt x11 4) (gt x11 5)) (bAnd .u32 (bNot .u32 (gt x11 4)) (gt x11 6))))) + (gt a1 x10))) + (gt y6 x10))) + (wu32 ((bXor .u32 (bXor .u32 y23 y25) y27) + (bXor .u32 (bXor .u32 (bAnd .u32 (gt x11 0) (gt x11 1)) (bAnd .u32 (gt x11 0) (gt x11 2))) (bAnd .u32 (gt x11 1) (gt x11 2)))))))) 4) + (wu32 ((wu32 ((wu32 ((wu32 ((gt x11 7) + (bXor .u32 (bXor .u32 y17 y19) y21))) + (bXor .u32 (bAnd .u32 (gt x11 4) (gt x11 5)) (bAnd .u32 (bNot .u32 (gt x11 4)) (gt x11 6))))) + (gt a1 x10))) + (gt y6 x10)))))))))))) else none) else none) else some x11)
def sha_mix.l1 (x8 : (List Int)) : Nat → Int → (List Int) → Option (List Int)
  | 0, _, _ => none
  | k + 1, x30, x31 => (if (decide (x30 < 8)) = true then (if 0 ≤ x30 ∧ x30 < 8 then (if 0 ≤ x30 ∧ x30 < 8 then (if 0 ≤ x30 ∧ x30 < 8 then sha_mix.l1 x8 k (wi64 (x30 + 1)) (st x31 x30 (wu32 ((gt x31 x30) + (gt x8 x30)))) else none) else none) else none) else some x31)
def sha_mix (a0 : (List Int)) (a1 : (List Int)) (a2 : ByteArray) : Option (List Int) := ((sha_words a2).bind fun y6 => ((sha_mix.l0 a1 y6 FU 0 a0).bind fun x8 => ((sha_mix.l1 x8 FU 0 a0).bind fun x28 => some x28)))
def sha_Of.l0 (y5 : (List Int)) : Nat → ByteArray → (List Int) → Option (List Int)
  | 0, _, _ => none
  | k + 1, x13, x14 => (if (decide ((x13.size : Int) > 0)) = true then (if (0 : Int) ≤ (0 : Int) ∧ (0 : Int) ≤ (64 : Int) ∧ (64 : Int) ≤ (x13.size : Int) then ((sha_mix x14 y5 (sx x13 0 64)).bind fun y19 => (if (0 : Int) ≤ (64 : Int) ∧ (64 : Int) ≤ (x13.size : Int) ∧ (x13.size : Int) ≤ (x13.size : Int) then sha_Of.l0 y5 k (sx x13 64 (x13.size : Int)) y19 else none)) else none) else some x14)
def sha_Of.l1 (x11 : (List Int)) : Nat → Int → (List Int) → Option (List Int)
  | 0, _, _ => none
  | k + 1, x25, x26 => (if (decide (x25 < 32)) = true then (if 0 ≤ (wi64 (x25.tdiv 4)) ∧ (wi64 (x25.tdiv 4)) < 8 then (if 0 ≤ (wi64 (24 - (wi64 (8 * (x25.tmod 4))))) then (if 0 ≤ x25 ∧ x25 < 32 then sha_Of.l1 x11 k (wi64 (x25 + 1)) (st x26 x25 (wu8 (bShr .u32 (gt x11 (wi64 (x25.tdiv 4))) (wi64 (24 - (wi64 (8 * (x25.tmod 4)))))))) else none) else none) else none) else some x26)
def sha_Of (a0 : ByteArray) : Option (List Int) := (sha_constants.bind fun (y3, y5) => ((sha_Pad a0).bind fun y10 => ((sha_Of.l0 y5 FU y10 y3).bind fun x11 => ((sha_Of.l1 x11 FU 0 (List.replicate 32 (0 : Int))).bind fun x23 => some x23))))
def sha_Text.l0 (a0 : (List Int)) : Nat → (List Int) → Int → Option (List Int)
  | 0, _, _ => none
  | k + 1, x5, x8 => (if (decide (x8 < 32)) = true then (if 0 ≤ x8 ∧ x8 < 32 then (if 0 ≤ (bShr .u8 (gt a0 x8) 4) ∧ (bShr .u8 (gt a0 x8) 4) < ((⟨#[48, 49, 50, 51, 52, 53, 54, 55, 56, 57, 97, 98, 99, 100, 101, 102]⟩ : ByteArray).size : Int) then (if 0 ≤ (bAnd .u8 (gt a0 x8) 15) ∧ (bAnd .u8 (gt a0 x8) 15) < ((⟨#[48, 49, 50, 51, 52, 53, 54, 55, 56, 57, 97, 98, 99, 100, 101, 102]⟩ : ByteArray).size : Int) then (if x5.length + ([bt (⟨#[48, 49, 50, 51, 52, 53, 54, 55, 56, 57, 97, 98, 99, 100, 101, 102]⟩ : ByteArray) (bShr .u8 (gt a0 x8) 4), bt (⟨#[48, 49, 50, 51, 52, 53, 54, 55, 56, 57, 97, 98, 99, 100, 101, 102]⟩ : ByteArray) (bAnd .u8 (gt a0 x8) 15)] : List Int).length ≤ LIM then sha_Text.l0 a0 k (x5 ++ ([bt (⟨#[48, 49, 50, 51, 52, 53, 54, 55, 56, 57, 97, 98, 99, 100, 101, 102]⟩ : ByteArray) (bShr .u8 (gt a0 x8) 4), bt (⟨#[48, 49, 50, 51, 52, 53, 54, 55, 56, 57, 97, 98, 99, 100, 101, 102]⟩ : ByteArray) (bAnd .u8 (gt a0 x8) 15)] : List Int)) (wi64 (x8 + 1)) else none) else none) else none) else none) else some x5)
def sha_Text (a0 : (List Int)) : Option ByteArray := ((sha_Text.l0 a0 FU ([] : List Int) 0).bind fun x2 => some (strOfNums x2))
def sha_Same (a0 : ByteArray) (a1 : ByteArray) : Option Bool := ((if (!(seq a0 a1)) = true then ((sha_Of a0).bind fun y4 => ((sha_Of a1).bind fun y7 => some (eqA y4 y7))) else some false).bind fun x1 => some x1)
def sha_Link (a0 : (List Int)) (a1 : ByteArray) : Option (List Int) := (if (strOfNums a0).size + a1.size ≤ LIM then ((sha_Of ((strOfNums a0) ++ a1)).bind fun y5 => some y5) else none)
def law02_works : Option Bool := ((sha_Of (⟨#[97, 98, 99]⟩ : ByteArray)).bind fun y2 => ((sha_Of (⟨#[]⟩ : ByteArray)).bind fun y6 => (((sha_Text y2).bind fun y11 => (if (seq y11 (⟨#[98, 97, 55, 56, 49, 54, 98, 102, 56, 102, 48, 49, 99, 102, 101, 97, 52, 49, 52, 49, 52, 48, 100, 101, 53, 100, 97, 101, 50, 50, 50, 51, 98, 48, 48, 51, 54, 49, 97, 51, 57, 54, 49, 55, 55, 97, 57, 99, 98, 52, 49, 48, 102, 102, 54, 49, 102, 50, 48, 48, 49, 53, 97, 100]⟩ : ByteArray)) = true then ((sha_Text y6).bind fun y14 => (if (seq y14 (⟨#[101, 51, 98, 48, 99, 52, 52, 50, 57, 56, 102, 99, 49, 99, 49, 52, 57, 97, 102, 98, 102, 52, 99, 56, 57, 57, 54, 102, 98, 57, 50, 52, 50, 55, 97, 101, 52, 49, 101, 52, 54, 52, 57, 98, 57, 51, 52, 99, 97, 52, 57, 53, 57, 57, 49, 98, 55, 56, 53, 50, 98, 56, 53, 53]⟩ : ByteArray)) = true then ((sha_Pad (⟨#[97, 98, 99]⟩ : ByteArray)).bind fun y17 => (if ((y17.size : Int) == 64) = true then ((sha_Same (⟨#[97]⟩ : ByteArray) (⟨#[98]⟩ : ByteArray)).bind fun y20 => (if (!y20) = true then ((sha_Same (⟨#[97]⟩ : ByteArray) (⟨#[97]⟩ : ByteArray)).bind fun y23 => (if (!y23) = true then ((sha_Link y2 (⟨#[]⟩ : ByteArray)).bind fun y26 => ((sha_Of (strOfNums y2)).bind fun y29 => some (eqA y26 y29))) else some false)) else some false)) else some false)) else some false)) else some false)).bind fun x9 => some x9)))
def ref02_roots : Option (List Int) := some ([1779033703, 3144134277, 1013904242, 2773480762, 1359893119, 2600822924, 528734635, 1541459225] : List Int)
def ref02_cubes : Option (List Int) := some ([1116352408, 1899447441, 3049323471, 3921009573, 961987163, 1508970993, 2453635748, 2870763221, 3624381080, 310598401, 607225278, 1426881987, 1925078388, 2162078206, 2614888103, 3248222580, 3835390401, 4022224774, 264347078, 604807628, 770255983, 1249150122, 1555081692, 1996064986, 2554220882, 2821834349, 2952996808, 3210313671, 3336571891, 3584528711, 113926993, 338241895, 666307205, 773529912, 1294757372, 1396182291, 1695183700, 1986661051, 2177026350, 2456956037, 2730485921, 2820302411, 3259730800, 3345764771, 3516065817, 3600352804, 4094571909, 275423344, 430227734, 506948616, 659060556, 883997877, 958139571, 1322822218, 1537002063, 1747873779, 1955562222, 2024104815, 2227730452, 2361852424, 2428436474, 2756734187, 3204031479, 3329325298] : List Int)
def ref02_Pad.l0 : Nat → (List Int) → Option (List Int)
  | 0, _ => none
  | k + 1, x11 => (if (((x11.length : Int).tmod 64) != 56) = true then (if x11.length + ([0] : List Int).length ≤ LIM then ref02_Pad.l0 k (x11 ++ ([0] : List Int)) else none) else some x11)
def ref02_Pad.l1 : Nat → Int → (List Int) → Int → Option (List Int)
  | 0, _, _, _ => none
  | k + 1, x22, x23, x26 => (if (decide (x26 < 8)) = true then (if ([wu8 (x22.tmod 256)] : List Int).length + x23.length ≤ LIM then ref02_Pad.l1 k (wu64 (x22.tdiv 256)) (([wu8 (x22.tmod 256)] : List Int) ++ x23) (wi64 (x26 + 1)) else none) else some x23)
def ref02_Pad (a0 : ByteArray) : Option ByteArray := (if a0.size ≤ LIM then (if (byts a0).length + ([128] : List Int).length ≤ LIM then ((ref02_Pad.l0 FU ((byts a0) ++ ([128] : List Int))).bind fun x8 => ((ref02_Pad.l1 FU (wu64 ((wu64 (a0.size : Int)) * 8)) ([] : List Int) 0).bind fun x19 => (if x8.length + x19.length ≤ LIM then some (strOfNums (x8 ++ x19)) else none))) else none) else none)
def ref02_right.l0 (a1 : Int) : Nat → Int → Int → Option Int
  | 0, _, _ => none
  | k + 1, x2, x3 => (if (decide (x3 < a1)) = true then ((if ((x2.tmod 2) == 1) = true then some (wu32 ((wu32 (x2.tdiv 2)) + 2147483648)) else some (wu32 (x2.tdiv 2))).bind fun x5 => ref02_right.l0 a1 k x5 (wi64 (x3 + 1))) else some x2)
def ref02_right (a0 : Int) (a1 : Int) : Option Int := ((ref02_right.l0 a1 FU a0 0).bind fun x1 => some x1)
def ref02_shift.l0 (a1 : Int) : Nat → Int → Int → Option Int
  | 0, _, _ => none
  | k + 1, x2, x3 => (if (decide (x3 < a1)) = true then ref02_shift.l0 a1 k (wu32 (x2.tdiv 2)) (wi64 (x3 + 1)) else some x2)
def ref02_shift (a0 : Int) (a1 : Int) : Option Int := ((ref02_shift.l0 a1 FU a0 0).bind fun x1 => some x1)
def ref02_Of.l2 (x21 : Int) (x14 : Int) (y11 : ByteArray) : Nat → Int → (List Int) → Option (List Int)
  | 0, _, _ => none
  | k + 1, x30, x31 => (if (decide (x30 < 4)) = true then (if 0 ≤ x21 ∧ x21 < 64 then (if 0 ≤ (wi64 ((wi64 (x14 + (wi64 (4 * x21)))) + x30)) ∧ (wi64 ((wi64 (x14 + (wi64 (4 * x21)))) + x30)) < (y11.size : Int) then (if 0 ≤ x21 ∧ x21 < 64 then ref02_Of.l2 x21 x14 y11 k (wi64 (x30 + 1)) (st x31 x21 (wu32 ((wu32 ((gt x31 x21) * 256)) + (wu32 (bt y11 (wi64 ((wi64 (x14 + (wi64 (4 * x21)))) + x30))))))) else none) else none) else none) else some x31)
def ref02_Of.l1 (x14 : Int) (y11 : ByteArray) : Nat → Int → (List Int) → Option (List Int)
  | 0, _, _ => none
  | k + 1, x21, x22 => (if (decide (x21 < 64)) = true then ((if (decide (x21 < 16)) = true then ((ref02_Of.l2 x21 x14 y11 FU 0 x22).bind fun x28 => some x28) else (if 0 ≤ (wi64 (x21 - 15)) ∧ (wi64 (x21 - 15)) < 64 then (if 0 ≤ (wi64 (x21 - 2)) ∧ (wi64 (x21 - 2)) < 64 then (if 0 ≤ (wi64 (x21 - 7)) ∧ (wi64 (x21 - 7)) < 64 then (if 0 ≤ (wi64 (x21 - 16)) ∧ (wi64 (x21 - 16)) < 64 then ((ref02_right (gt x22 (wi64 (x21 - 2))) 17).bind fun y42 => ((ref02_right (gt x22 (wi64 (x21 - 2))) 19).bind fun y44 => ((ref02_shift (gt x22 (wi64 (x21 - 2))) 10).bind fun y46 => ((ref02_right (gt x22 (wi64 (x21 - 15))) 7).bind fun y48 => ((ref02_right (gt x22 (wi64 (x21 - 15))) 18).bind fun y50 => ((ref02_shift (gt x22 (wi64 (x21 - 15))) 3).bind fun y52 => (if 0 ≤ x21 ∧ x21 < 64 then some (st x22 x21 (wu32 ((wu32 ((wu32 ((bXor .u32 (bXor .u32 y42 y44) y46) + (gt x22 (wi64 (x21 - 7))))) + (bXor .u32 (bXor .u32 y48 y50) y52))) + (gt x22 (wi64 (x21 - 16)))))) else none))))))) else none) else none) else none) else none)).bind fun x25 => ref02_Of.l1 x14 y11 k (wi64 (x21 + 1)) x25) else some x22)
def ref02_Of.l3 (y7 : (List Int)) (x19 : (List Int)) : Nat → Int → (List Int) → Option (List Int)
  | 0, _, _ => none
  | k + 1, x57, x58 => (if (decide (x57 < 64)) = true then (if 0 ≤ x57 ∧ x57 < 64 then (if 0 ≤ x57 ∧ x57 < 64 then ((ref02_right (gt x58 4) 6).bind fun y64 => ((ref02_right (gt x58 4) 11).bind fun y66 => ((ref02_right (gt x58 4) 25).bind fun y68 => ((ref02_right (gt x58 0) 2).bind fun y70 => ((ref02_right (gt x58 0) 13).bind fun y72 => ((ref02_right (gt x58 0) 22).bind fun y74 => ref02_Of.l3 y7 x19 k (wi64 (x57 + 1)) ([wu32 ((wu32 ((wu32 ((wu32 ((wu32 ((gt x58 7) + (bXor .u32 (bXor .u32 y64 y66) y68))) + (bXor .u32 (bAnd .u32 (gt x58 4) (gt x58 5)) (bAnd .u32 (wu32 (4294967295 - (gt x58 4))) (gt x58 6))))) + (gt y7 x57))) + (gt x19 x57))) + (wu32 ((bXor .u32 (bXor .u32 y70 y72) y74) + (bXor .u32 (bXor .u32 (bAnd .u32 (gt x58 0) (gt x58 1)) (bAnd .u32 (gt x58 0) (gt x58 2))) (bAnd .u32 (gt x58 1) (gt x58 2)))))), gt x58 0, gt x58 1, gt x58 2, wu32 ((gt x58 3) + (wu32 ((wu32 ((wu32 ((wu32 ((gt x58 7) + (bXor .u32 (bXor .u32 y64 y66) y68))) + (bXor .u32 (bAnd .u32 (gt x58 4) (gt x58 5)) (bAnd .u32 (wu32 (4294967295 - (gt x58 4))) (gt x58 6))))) + (gt y7 x57))) + (gt x19 x57)))), gt x58 4, gt x58 5, gt x58 6] : List Int))))))) else none) else none) else some x58)
def ref02_Of.l4 (x55 : (List Int)) : Nat → Int → (List Int) → Option (List Int)
  | 0, _, _ => none
  | k + 1, x77, x78 => (if (decide (x77 < 8)) = true then (if 0 ≤ x77 ∧ x77 < 8 then (if 0 ≤ x77 ∧ x77 < 8 then (if 0 ≤ x77 ∧ x77 < 8 then ref02_Of.l4 x55 k (wi64 (x77 + 1)) (st x78 x77 (wu32 ((gt x78 x77) + (gt x55 x77)))) else none) else none) else none) else some x78)
def ref02_Of.l0 (y11 : ByteArray) (y7 : (List Int)) : Nat → Int → (List Int) → Option (List Int)
  | 0, _, _ => none
  | k + 1, x14, x15 => (if (decide (x14 < (y11.size : Int))) = true then ((ref02_Of.l1 x14 y11 FU 0 (List.replicate 64 (0 : Int))).bind fun x19 => ((ref02_Of.l3 y7 x19 FU 0 x15).bind fun x55 => ((ref02_Of.l4 x55 FU 0 x15).bind fun x75 => ref02_Of.l0 y11 y7 k (wi64 (x14 + 64)) x75))) else some x15)
def ref02_Of.l6 : Nat → Int → Int → Option Int
  | 0, _, _ => none
  | k + 1, x93, x94 => (if (decide (x94 < 3)) = true then ref02_Of.l6 k (wu32 (x93.tdiv 256)) (wi64 (x94 + 1)) else some x93)
def ref02_Of.l5 (x12 : (List Int)) : Nat → Int → (List Int) → Option (List Int)
  | 0, _, _ => none
  | k + 1, x87, x88 => (if (decide (x87 < 32)) = true then (if 0 ≤ (wi64 (x87.tdiv 4)) ∧ (wi64 (x87.tdiv 4)) < 8 then ((ref02_Of.l6 FU (gt x12 (wi64 (x87.tdiv 4))) (x87.tmod 4)).bind fun x92 => (if 0 ≤ x87 ∧ x87 < 32 then ref02_Of.l5 x12 k (wi64 (x87 + 1)) (st x88 x87 (wu8 (x92.tmod 256))) else none)) else none) else some x88)
def ref02_Of (a0 : ByteArray) : Option (List Int) := (ref02_roots.bind fun y3 => (ref02_cubes.bind fun y7 => ((ref02_Pad a0).bind fun y11 => ((ref02_Of.l0 y11 y7 FU 0 y3).bind fun x12 => ((ref02_Of.l5 x12 FU 0 (List.replicate 32 (0 : Int))).bind fun x85 => some x85)))))
def ref02_Text.l0 (a0 : (List Int)) : Nat → ByteArray → Int → Option ByteArray
  | 0, _, _ => none
  | k + 1, x3, x4 => (if (decide (x4 < 32)) = true then (if 0 ≤ x4 ∧ x4 < 32 then (if 0 ≤ x4 ∧ x4 < 32 then (if (0 : Int) ≤ (wi64 ((wi64 (gt a0 x4)).tdiv 16)) ∧ (wi64 ((wi64 (gt a0 x4)).tdiv 16)) ≤ (wi64 ((wi64 ((wi64 (gt a0 x4)).tdiv 16)) + 1)) ∧ (wi64 ((wi64 ((wi64 (gt a0 x4)).tdiv 16)) + 1)) ≤ ((⟨#[48, 49, 50, 51, 52, 53, 54, 55, 56, 57, 97, 98, 99, 100, 101, 102]⟩ : ByteArray).size : Int) then (if x3.size + (sx (⟨#[48, 49, 50, 51, 52, 53, 54, 55, 56, 57, 97, 98, 99, 100, 101, 102]⟩ : ByteArray) (wi64 ((wi64 (gt a0 x4)).tdiv 16)) (wi64 ((wi64 ((wi64 (gt a0 x4)).tdiv 16)) + 1))).size ≤ LIM then (if (0 : Int) ≤ ((wi64 (gt a0 x4)).tmod 16) ∧ ((wi64 (gt a0 x4)).tmod 16) ≤ (wi64 (((wi64 (gt a0 x4)).tmod 16) + 1)) ∧ (wi64 (((wi64 (gt a0 x4)).tmod 16) + 1)) ≤ ((⟨#[48, 49, 50, 51, 52, 53, 54, 55, 56, 57, 97, 98, 99, 100, 101, 102]⟩ : ByteArray).size : Int) then (if (x3 ++ (sx (⟨#[48, 49, 50, 51, 52, 53, 54, 55, 56, 57, 97, 98, 99, 100, 101, 102]⟩ : ByteArray) (wi64 ((wi64 (gt a0 x4)).tdiv 16)) (wi64 ((wi64 ((wi64 (gt a0 x4)).tdiv 16)) + 1)))).size + (sx (⟨#[48, 49, 50, 51, 52, 53, 54, 55, 56, 57, 97, 98, 99, 100, 101, 102]⟩ : ByteArray) ((wi64 (gt a0 x4)).tmod 16) (wi64 (((wi64 (gt a0 x4)).tmod 16) + 1))).size ≤ LIM then ref02_Text.l0 a0 k ((x3 ++ (sx (⟨#[48, 49, 50, 51, 52, 53, 54, 55, 56, 57, 97, 98, 99, 100, 101, 102]⟩ : ByteArray) (wi64 ((wi64 (gt a0 x4)).tdiv 16)) (wi64 ((wi64 ((wi64 (gt a0 x4)).tdiv 16)) + 1)))) ++ (sx (⟨#[48, 49, 50, 51, 52, 53, 54, 55, 56, 57, 97, 98, 99, 100, 101, 102]⟩ : ByteArray) ((wi64 (gt a0 x4)).tmod 16) (wi64 (((wi64 (gt a0 x4)).tmod 16) + 1)))) (wi64 (x4 + 1)) else none) else none) else none) else none) else none) else none) else some x3)
def ref02_Text (a0 : (List Int)) : Option ByteArray := ((ref02_Text.l0 a0 FU (⟨#[]⟩ : ByteArray) 0).bind fun x2 => some x2)
def ref02_Bytes.l0 (a0 : (List Int)) : Nat → (List Int) → Int → Option (List Int)
  | 0, _, _ => none
  | k + 1, x5, x8 => (if (decide (x8 < 32)) = true then (if 0 ≤ x8 ∧ x8 < 32 then (if x5.length + ([gt a0 x8] : List Int).length ≤ LIM then ref02_Bytes.l0 a0 k (x5 ++ ([gt a0 x8] : List Int)) (wi64 (x8 + 1)) else none) else none) else some x5)
def ref02_Bytes (a0 : (List Int)) : Option ByteArray := ((ref02_Bytes.l0 a0 FU ([] : List Int) 0).bind fun x2 => some (strOfNums x2))
def ref02_Link (a0 : (List Int)) (a1 : ByteArray) : Option (List Int) := ((ref02_Bytes a0).bind fun y4 => (if y4.size + a1.size ≤ LIM then ((ref02_Of (y4 ++ a1)).bind fun y7 => some y7) else none))
def law02_ShaOf (a0 : ByteArray) (a1 : (List Int)) : Option Bool := (law02_works.bind fun y3 => (if (!y3) = true then some false else (if (decide ((a0.size : Int) > 300)) = true then some y3 else ((if y3 = true then ((sha_Of a0).bind fun y9 => ((ref02_Of a0).bind fun y12 => (if (eqA y9 y12) = true then ((sha_Pad a0).bind fun y16 => ((ref02_Pad a0).bind fun y18 => (if (seq y16 y18) = true then ((sha_Text a1).bind fun y21 => ((ref02_Text a1).bind fun y23 => (if (seq y21 y23) = true then ((sha_Link a1 a0).bind fun y26 => ((ref02_Link a1 a0).bind fun y29 => some (eqA y26 y29))) else some false))) else some false))) else some false))) else some false).bind fun x6 => some x6))))
def law02_ShaPads (a0 : ByteArray) (a1 : ByteArray) : Option Bool := (law02_works.bind fun y2 => (if (!y2) = true then some false else ((if (decide ((a0.size : Int) > 2000)) = true then some true else some (decide ((a1.size : Int) > 2000))).bind fun x4 => (if x4 = true then some y2 else ((sha_Pad a0).bind fun y8 => ((sha_Pad a1).bind fun y10 => ((if y2 = true then (if (((y8.size : Int).tmod 64) == 0) = true then (if (decide ((y8.size : Int) ≥ (wi64 ((a0.size : Int) + 9)))) = true then (if (decide ((y8.size : Int) < (wi64 ((a0.size : Int) + 73)))) = true then (if (0 : Int) ≤ (0 : Int) ∧ (0 : Int) ≤ (a0.size : Int) ∧ (a0.size : Int) ≤ (y8.size : Int) then (if (seq (sx y8 0 (a0.size : Int)) a0) = true then (if 0 ≤ (a0.size : Int) ∧ (a0.size : Int) < (y8.size : Int) then (if ((bt y8 (a0.size : Int)) == 128) = true then some ((seq y8 y10) == (seq a0 a1)) else some false) else none) else some false) else none) else some false) else some false) else some false) else some false).bind fun x11 => some x11)))))))
def law02_ShaSame (a0 : ByteArray) (a1 : ByteArray) : Option Bool := (law02_works.bind fun y2 => (if (!y2) = true then some false else ((if (decide ((a0.size : Int) > 300)) = true then some true else some (decide ((a1.size : Int) > 300))).bind fun x4 => (if x4 = true then some y2 else ((sha_Of a0).bind fun y8 => ((sha_Of a1).bind fun y12 => ((if y2 = true then ((sha_Same a0 a1).bind fun y18 => (if (!(seq a0 a1)) = true then (if (y18 == (eqA y8 y12)) = true then ((sha_Same a0 a1).bind fun y22 => ((sha_Same a1 a0).bind fun y24 => some (y22 == y24))) else some false) else (if (y18 == false) = true then ((sha_Same a0 a1).bind fun y27 => ((sha_Same a1 a0).bind fun y29 => some (y27 == y29))) else some false))) else some false).bind fun x15 => some x15)))))))
def law02_ShaText.l0 (y7 : ByteArray) : Nat → Int → Option (Bool ⊕ Unit)
  | 0, _ => none
  | k + 1, x10 => (if (decide (x10 < (y7.size : Int))) = true then (if 0 ≤ x10 ∧ x10 < (y7.size : Int) then ((if (decide ((bt y7 x10) ≥ 48)) = true then (if (decide ((bt y7 x10) ≤ 57)) = true then some false else (if (decide ((bt y7 x10) ≥ 97)) = true then some (!(decide ((bt y7 x10) ≤ 102))) else some true)) else (if (decide ((bt y7 x10) ≥ 97)) = true then some (!(decide ((bt y7 x10) ≤ 102))) else some true)).bind fun x13 => (if x13 = true then some (.inl false) else law02_ShaText.l0 y7 k (wi64 (x10 + 1)))) else none) else some (.inr ()))
def law02_ShaText (a0 : (List Int)) (a1 : (List Int)) : Option Bool := (law02_works.bind fun y4 => (if (!y4) = true then some false else ((sha_Text a0).bind fun y7 => ((sha_Text a1).bind fun y9 => ((law02_ShaText.l0 y7 FU 0).bind fun r => match r with | .inl v => some v | .inr _ => ((if y4 = true then (if ((y7.size : Int) == 64) = true then (if ((y9.size : Int) == 64) = true then some ((seq y7 y9) == (eqA a0 a1)) else some false) else some false) else some false).bind fun x19 => some x19))))))
def law02_ShaPadEnds.l0 (y6 : ByteArray) : Nat → Int → Int → Option Int
  | 0, _, _ => none
  | k + 1, x9, x10 => (if (decide (x10 < (y6.size : Int))) = true then (if 0 ≤ x10 ∧ x10 < (y6.size : Int) then law02_ShaPadEnds.l0 y6 k (wi64 ((wi64 (x9 * 256)) + (wi64 (bt y6 x10)))) (wi64 (x10 + 1)) else none) else some x9)
def law02_ShaPadEnds.l1 (y6 : ByteArray) : Nat → Int → Option (Bool ⊕ Unit)
  | 0, _ => none
  | k + 1, x13 => (if (decide (x13 < (wi64 ((y6.size : Int) - 8)))) = true then (if 0 ≤ x13 ∧ x13 < (y6.size : Int) then (if ((bt y6 x13) != 0) = true then some (.inl false) else law02_ShaPadEnds.l1 y6 k (wi64 (x13 + 1))) else none) else some (.inr ()))
def law02_ShaPadEnds (a0 : ByteArray) : Option Bool := (law02_works.bind fun y2 => (if (!y2) = true then some false else (if (decide ((a0.size : Int) > 2000)) = true then some y2 else ((sha_Pad a0).bind fun y6 => (if (decide ((y6.size : Int) < (wi64 ((a0.size : Int) + 9)))) = true then some false else ((law02_ShaPadEnds.l0 y6 FU 0 (wi64 ((y6.size : Int) - 8))).bind fun x8 => ((law02_ShaPadEnds.l1 y6 FU (wi64 ((a0.size : Int) + 1))).bind fun r => match r with | .inl v => some v | .inr _ => ((if y2 = true then (if (x8 == (wi64 (8 * (a0.size : Int)))) = true then (if 0 ≤ (a0.size : Int) ∧ (a0.size : Int) < (y6.size : Int) then some ((bt y6 (a0.size : Int)) == 128) else none) else some false) else some false).bind fun x17 => some x17))))))))
def law02_ShaLinks.l0 (a0 : (List Int)) : Nat → ByteArray → Int → Option ByteArray
  | 0, _, _ => none
  | k + 1, x9, x10 => (if (decide (x10 < 32)) = true then (if 0 ≤ x10 ∧ x10 < 32 then (if x9.size + (strOfNums ([gt a0 x10] : List Int)).size ≤ LIM then law02_ShaLinks.l0 a0 k (x9 ++ (strOfNums ([gt a0 x10] : List Int))) (wi64 (x10 + 1)) else none) else none) else some x9)
def law02_ShaLinks (a0 : (List Int)) (a1 : ByteArray) (a2 : ByteArray) : Option Bool := (law02_works.bind fun y3 => (if (!y3) = true then some false else ((if (decide ((a1.size : Int) > 300)) = true then some true else some (decide ((a2.size : Int) > 300))).bind fun x5 => (if x5 = true then some y3 else ((law02_ShaLinks.l0 a0 FU (⟨#[]⟩ : ByteArray) 0).bind fun x8 => ((if y3 = true then (if a1.size + a2.size ≤ LIM then ((sha_Link a0 (a1 ++ a2)).bind fun y19 => (if x8.size + a1.size ≤ LIM then (if (x8 ++ a1).size + a2.size ≤ LIM then ((sha_Of ((x8 ++ a1) ++ a2)).bind fun y24 => some (eqA y19 y24)) else none) else none)) else none) else some false).bind fun x15 => some x15))))))
theorem told_sha_prime_l0 : True := (fun _ _ _  => trivial) @sha_prime.l0.eq_def @sha_prime.l0.eq_1 @sha_prime.l0.eq_2
theorem told_sha_prime : True := (fun _ _ => trivial) @sha_prime.eq_def @sha_prime.eq_1
theorem told_bits_Mul64 : True := (fun _ _ => trivial) @bits_Mul64.eq_def @bits_Mul64.eq_1
theorem told_sha_fits : True := (fun _ _ => trivial) @sha_fits.eq_def @sha_fits.eq_1
theorem told_sha_root_l0 : True := (fun _ _ _  => trivial) @sha_root.l0.eq_def @sha_root.l0.eq_1 @sha_root.l0.eq_2
theorem told_sha_root : True := (fun _ _ => trivial) @sha_root.eq_def @sha_root.eq_1
theorem told_sha_constants_l0 : True := (fun _ _ _  => trivial) @sha_constants.l0.eq_def @sha_constants.l0.eq_1 @sha_constants.l0.eq_2
theorem told_sha_constants : True := (fun _ _ => trivial) @sha_constants.eq_def @sha_constants.eq_1
theorem told_sha_Pad_l0 : True := (fun _ _ _  => trivial) @sha_Pad.l0.eq_def @sha_Pad.l0.eq_1 @sha_Pad.l0.eq_2
theorem told_sha_Pad_l1 : True := (fun _ _ _  => trivial) @sha_Pad.l1.eq_def @sha_Pad.l1.eq_1 @sha_Pad.l1.eq_2
theorem told_sha_Pad : True := (fun _ _ => trivial) @sha_Pad.eq_def @sha_Pad.eq_1
theorem told_bits_RotateLeft32 : True := (fun _ _ => trivial) @bits_RotateLeft32.eq_def @bits_RotateLeft32.eq_1
theorem told_sha_right : True := (fun _ _ => trivial) @sha_right.eq_def @sha_right.eq_1
theorem told_sha_words_l0 : True := (fun _ _ _  => trivial) @sha_words.l0.eq_def @sha_words.l0.eq_1 @sha_words.l0.eq_2
theorem told_sha_words : True := (fun _ _ => trivial) @sha_words.eq_def @sha_words.eq_1
theorem told_sha_mix_l0 : True := (fun _ _ _  => trivial) @sha_mix.l0.eq_def @sha_mix.l0.eq_1 @sha_mix.l0.eq_2
theorem told_sha_mix_l1 : True := (fun _ _ _  => trivial) @sha_mix.l1.eq_def @sha_mix.l1.eq_1 @sha_mix.l1.eq_2
theorem told_sha_mix : True := (fun _ _ => trivial) @sha_mix.eq_def @sha_mix.eq_1
theorem told_sha_Of_l0 : True := (fun _ _ _  => trivial) @sha_Of.l0.eq_def @sha_Of.l0.eq_1 @sha_Of.l0.eq_2
theorem told_sha_Of_l1 : True := (fun _ _ _  => trivial) @sha_Of.l1.eq_def @sha_Of.l1.eq_1 @sha_Of.l1.eq_2
theorem told_sha_Of : True := (fun _ _ => trivial) @sha_Of.eq_def @sha_Of.eq_1
theorem told_sha_Text_l0 : True := (fun _ _ _  => trivial) @sha_Text.l0.eq_def @sha_Text.l0.eq_1 @sha_Text.l0.eq_2
theorem told_sha_Text : True := (fun _ _ => trivial) @sha_Text.eq_def @sha_Text.eq_1
theorem told_sha_Same : True := (fun _ _ => trivial) @sha_Same.eq_def @sha_Same.eq_1
theorem told_sha_Link : True := (fun _ _ => trivial) @sha_Link.eq_def @sha_Link.eq_1
theorem told_law02_works : True := (fun _ _ => trivial) @law02_works.eq_def @law02_works.eq_1
theorem told_ref02_roots : True := (fun _ _ => trivial) @ref02_roots.eq_def @ref02_roots.eq_1
theorem told_ref02_cubes : True := (fun _ _ => trivial) @ref02_cubes.eq_def @ref02_cubes.eq_1
theorem told_ref02_Pad_l0 : True := (fun _ _ _  => trivial) @ref02_Pad.l0.eq_def @ref02_Pad.l0.eq_1 @ref02_Pad.l0.eq_2
theorem told_ref02_Pad_l1 : True := (fun _ _ _  => trivial) @ref02_Pad.l1.eq_def @ref02_Pad.l1.eq_1 @ref02_Pad.l1.eq_2
theorem told_ref02_Pad : True := (fun _ _ => trivial) @ref02_Pad.eq_def @ref02_Pad.eq_1
theorem told_ref02_right_l0 : True := (fun _ _ _  => trivial) @ref02_right.l0.eq_def @ref02_right.l0.eq_1 @ref02_right.l0.eq_2
theorem told_ref02_right : True := (fun _ _ => trivial) @ref02_right.eq_def @ref02_right.eq_1
theorem told_ref02_shift_l0 : True := (fun _ _ _  => trivial) @ref02_shift.l0.eq_def @ref02_shift.l0.eq_1 @ref02_shift.l0.eq_2
theorem told_ref02_shift : True := (fun _ _ => trivial) @ref02_shift.eq_def @ref02_shift.eq_1
theorem told_ref02_Of_l2 : True := (fun _ _ _  => trivial) @ref02_Of.l2.eq_def @ref02_Of.l2.eq_1 @ref02_Of.l2.eq_2
theorem told_ref02_Of_l1 : True := (fun _ _ _  => trivial) @ref02_Of.l1.eq_def @ref02_Of.l1.eq_1 @ref02_Of.l1.eq_2
theorem told_ref02_Of_l3 : True := (fun _ _ _  => trivial) @ref02_Of.l3.eq_def @ref02_Of.l3.eq_1 @ref02_Of.l3.eq_2
theorem told_ref02_Of_l4 : True := (fun _ _ _  => trivial) @ref02_Of.l4.eq_def @ref02_Of.l4.eq_1 @ref02_Of.l4.eq_2
theorem told_ref02_Of_l0 : True := (fun _ _ _  => trivial) @ref02_Of.l0.eq_def @ref02_Of.l0.eq_1 @ref02_Of.l0.eq_2
theorem told_ref02_Of_l6 : True := (fun _ _ _  => trivial) @ref02_Of.l6.eq_def @ref02_Of.l6.eq_1 @ref02_Of.l6.eq_2
theorem told_ref02_Of_l5 : True := (fun _ _ _  => trivial) @ref02_Of.l5.eq_def @ref02_Of.l5.eq_1 @ref02_Of.l5.eq_2
theorem told_ref02_Of : True := (fun _ _ => trivial) @ref02_Of.eq_def @ref02_Of.eq_1
theorem told_ref02_Text_l0 : True := (fun _ _ _  => trivial) @ref02_Text.l0.eq_def @ref02_Text.l0.eq_1 @ref02_Text.l0.eq_2
theorem told_ref02_Text : True := (fun _ _ => trivial) @ref02_Text.eq_def @ref02_Text.eq_1
theorem told_ref02_Bytes_l0 : True := (fun _ _ _  => trivial) @ref02_Bytes.l0.eq_def @ref02_Bytes.l0.eq_1 @ref02_Bytes.l0.eq_2
theorem told_ref02_Bytes : True := (fun _ _ => trivial) @ref02_Bytes.eq_def @ref02_Bytes.eq_1
theorem told_ref02_Link : True := (fun _ _ => trivial) @ref02_Link.eq_def @ref02_Link.eq_1
theorem told_law02_ShaOf : True := (fun _ _ => trivial) @law02_ShaOf.eq_def @law02_ShaOf.eq_1
theorem told_law02_ShaPads : True := (fun _ _ => trivial) @law02_ShaPads.eq_def @law02_ShaPads.eq_1
theorem told_law02_ShaSame : True := (fun _ _ => trivial) @law02_ShaSame.eq_def @law02_ShaSame.eq_1
theorem told_law02_ShaText_l0 : True := (fun _ _ _  => trivial) @law02_ShaText.l0.eq_def @law02_ShaText.l0.eq_1 @law02_ShaText.l0.eq_2
theorem told_law02_ShaText : True := (fun _ _ => trivial) @law02_ShaText.eq_def @law02_ShaText.eq_1
theorem told_law02_ShaPadEnds_l0 : True := (fun _ _ _  => trivial) @law02_ShaPadEnds.l0.eq_def @law02_ShaPadEnds.l0.eq_1 @law02_ShaPadEnds.l0.eq_2
theorem told_law02_ShaPadEnds_l1 : True := (fun _ _ _  => trivial) @law02_ShaPadEnds.l1.eq_def @law02_ShaPadEnds.l1.eq_1 @law02_ShaPadEnds.l1.eq_2
theorem told_law02_ShaPadEnds : True := (fun _ _ => trivial) @law02_ShaPadEnds.eq_def @law02_ShaPadEnds.eq_1
theorem told_law02_ShaLinks_l0 : True := (fun _ _ _  => trivial) @law02_ShaLinks.l0.eq_def @law02_ShaLinks.l0.eq_1 @law02_ShaLinks.l0.eq_2
theorem told_law02_ShaLinks : True := (fun _ _ => trivial) @law02_ShaLinks.eq_def @law02_ShaLinks.eq_1
end Go.Cen
