/- The document's digest, as a plain function: beside the walk's. -/
import Derived.Test.YthdoklobbcedcadDoorPx
set_option linter.unusedVariables false
namespace Go.Cen
def ref02_roots : Option (List Int) := some ([1779033703, 3144134277, 1013904242, 2773480762, 1359893119, 2600822924, 528734635, 1541459225] : List Int)
def ref02_cubes : Option (List Int) := some ([1116352408, 1899447441, 3049323471, 3921009573, 961987163, 1508970993, 2453635748, 2870763221, 3624381080, 310598401, 607225278, 1426881987, 1925078388, 2162078206, 2614888103, 3248222580, 3835390401, 4022224774, 264347078, 604807628, 770255983, 1249150122, 1555081692, 1996064986, 2554220882, 2821834349, 2952996808, 3210313671, 3336571891, 3584528711, 113926993, 338241895, 666307205, 773529912, 1294757372, 1396182291, 1695183700, 1986661051, 2177026350, 2456956037, 2730485921, 2820302411, 3259730800, 3345764771, 3516065817, 3600352804, 4094571909, 275423344, 430227734, 506948616, 659060556, 883997877, 958139571, 1322822218, 1537002063, 1747873779, 1955562222, 2024104815, 2227730452, 2361852424, 2428436474, 2756734187, 3204031479, 3329325298] : List Int)
def ref02_Pad.l0 : Nat → (List Int) → Option (List Int)
  | 0, _ => none
  | k + 1, x11 => (if (((x11.length : Int).tmod 64) != 56) = true then (if x11.length + ([0] : List Int).length ≤ LIM then ref02_Pad.l0 k (x11 ++ ([0] : List Int)) else none) else some x11)
def ref02_Pad.l1 : Nat → Int → (List Int) → Int → Option (List Int)
  | 0, _, _, _ => none
  | k + 1, x22, x23, x26 => (if (decide (x26 < 8)) = true then (if ([wu8 (x22.tmod 256)] : List Int).length + x23.length ≤ LIM then ref02_Pad.l1 k (wu64 (x22.tdiv 256)) (([wu8 (x22.tmod 256)] : List Int) ++ x23) (wi64 (x26 + 1)) else none) else some x23)
def ref02_Pad (a0 : ByteArray) : Option ByteArray := (if a0.size ≤ LIM then (if (byts a0).length + ([128] : List Int).length ≤ LIM then ((ref02_Pad.l0 FU ((byts a0) ++ ([128] : List Int))).bind fun x8 => ((ref02_Pad.l1 FU (wu64 ((wu64 (a0.size : Int)) * 8)) ([] : List Int) 0).bind fun x19 => (if x8.length + x19.length ≤ LIM then some (strOfNums (x8 ++ x19)) else none))) else none) else none)
def ref02_right.l0 (a1 : Int) : Nat → Int → Int → Option Int
  | 0, _, _ => none
  | k + 1, x2, x3 => (if (decide (x3 < a1)) = true then ((if ((x2.tmod 2) == 1) = true then some (wu32 ((wu32 (x2.tdiv 2)) + 2147483648)) else some (wu32 (x2.tdiv 2))).bind fun x5 => ref02_right.l0 a1 k x5 (wi64 (x3 + 1))) else some x2)
def ref02_right (a0 : Int) (a1 : Int) : Option Int := ((ref02_right.l0 a1 FU a0 0).bind fun x1 => some x1)
def ref02_shift.l0 (a1 : Int) : Nat → Int → Int → Option Int
  | 0, _, _ => none
  | k + 1, x2, x3 => (if (decide (x3 < a1)) = true then ref02_shift.l0 a1 k (wu32 (x2.tdiv 2)) (wi64 (x3 + 1)) else some x2)
def ref02_shift (a0 : Int) (a1 : Int) : Option Int := ((ref02_shift.l0 a1 FU a0 0).bind fun x1 => some x1)
def ref02_Of.l2 (x21 : Int) (x14 : Int) (y11 : ByteArray) : Nat → Int → (List Int) → Option (List Int)
  | 0, _, _ => none
  | k + 1, x30, x31 => (if (decide (x30 < 4)) = true then (if 0 ≤ x21 ∧ x21 < 64 then (if 0 ≤ (wi64 ((wi64 (x14 + (wi64 (4 * x21)))) + x30)) ∧ (wi64 ((wi64 (x14 + (wi64 (4 * x21)))) + x30)) < (y11.size : Int) then (if 0 ≤ x21 ∧ x21 < 64 then ref02_Of.l2 x21 x14 y11 k (wi64 (x30 + 1)) (st x31 x21 (wu32 ((wu32 ((gt x31 x21) * 256)) + (wu32 (bt y11 (wi64 ((wi64 (x14 + (wi64 (4 * x21)))) + x30))))))) else none) else none) else none) else some x31)
def ref02_Of.l1 (x14 : Int) (y11 : ByteArray) : Nat → Int → (List Int) → Option (List Int)
  | 0, _, _ => none
  | k + 1, x21, x22 => (if (decide (x21 < 64)) = true then ((if (decide (x21 < 16)) = true then ((ref02_Of.l2 x21 x14 y11 FU 0 x22).bind fun x28 => some x28) else (if 0 ≤ (wi64 (x21 - 15)) ∧ (wi64 (x21 - 15)) < 64 then (if 0 ≤ (wi64 (x21 - 2)) ∧ (wi64 (x21 - 2)) < 64 then (if 0 ≤ (wi64 (x21 - 7)) ∧ (wi64 (x21 - 7)) < 64 then (if 0 ≤ (wi64 (x21 - 16)) ∧ (wi64 (x21 - 16)) < 64 then ((ref02_right (gt x22 (wi64 (x21 - 2))) 17).bind fun y42 => ((ref02_right (gt x22 (wi64 (x21 - 2))) 19).bind fun y44 => ((ref02_shift (gt x22 (wi64 (x21 - 2))) 10).bind fun y46 => ((ref02_right (gt x22 (wi64 (x21 - 15))) 7).bind fun y48 => ((ref02_right (gt x22 (wi64 (x21 - 15))) 18).bind fun y50 => ((ref02_shift (gt x22 (wi64 (x21 - 15))) 3).bind fun y52 => (if 0 ≤ x21 ∧ x21 < 64 then some (st x22 x21 (wu32 ((wu32 ((wu32 ((bXor .u32 (bXor .u32 y42 y44) y46) + (gt x22 (wi64 (x21 - 7))))) + (bXor .u32 (bXor .u32 y48 y50) y52))) + (gt x22 (wi64 (x21 - 16)))))) else none))))))) else none) else none) else none) else none)).bind fun x25 => ref02_Of.l1 x14 y11 k (wi64 (x21 + 1)) x25) else some x22)
def ref02_Of.l3 (y7 : (List Int)) (x19 : (List Int)) : Nat → Int → (List Int) → Option (List Int)
  | 0, _, _ => none
  | k + 1, x57, x58 => (if (decide (x57 < 64)) = true then (if 0 ≤ x57 ∧ x57 < 64 then (if 0 ≤ x57 ∧ x57 < 64 then ((ref02_right (gt x58 4) 6).bind fun y64 => ((ref02_right (gt x58 4) 11).bind fun y66 => ((ref02_right (gt x58 4) 25).bind fun y68 => ((ref02_right (gt x58 0) 2).bind fun y70 => ((ref02_right (gt x58 0) 13).bind fun y72 => ((ref02_right (gt x58 0) 22).bind fun y74 => ref02_Of.l3 y7 x19 k (wi64 (x57 + 1)) ([wu32 ((wu32 ((wu32 ((wu32 ((wu32 ((gt x58 7) + (bXor .u32 (bXor .u32 y64 y66) y68))) + (bXor .u32 (bAnd .u32 (gt x58 4) (gt x58 5)) (bAnd .u32 (wu32 (4294967295 - (gt x58 4))) (gt x58 6))))) + (gt y7 x57))) + (gt x19 x57))) + (wu32 ((bXor .u32 (bXor .u32 y70 y72) y74) + (bXor .u32 (bXor .u32 (bAnd .u32 (gt x58 0) (gt x58 1)) (bAnd .u32 (gt x58 0) (gt x58 2))) (bAnd .u32 (gt x58 1) (gt x58 2)))))), gt x58 0, gt x58 1, gt x58 2, wu32 ((gt x58 3) + (wu32 ((wu32 ((wu32 ((wu32 ((gt x58 7) + (bXor .u32 (bXor .u32 y64 y66) y68))) + (bXor .u32 (bAnd .u32 (gt x58 4) (gt x58 5)) (bAnd .u32 (wu32 (4294967295 - (gt x58 4))) (gt x58 6))))) + (gt y7 x57))) + (gt x19 x57)))), gt x58 4, gt x58 5, gt x58 6] : List Int))))))) else none) else none) else some x58)
def ref02_Of.l4 (x55 : (List Int)) : Nat → Int → (List Int) → Option (List Int)
  | 0, _, _ => none
  | k + 1, x77, x78 => (if (decide (x77 < 8)) = true then (if 0 ≤ x77 ∧ x77 < 8 then (if 0 ≤ x77 ∧ x77 < 8 then (if 0 ≤ x77 ∧ x77 < 8 then ref02_Of.l4 x55 k (wi64 (x77 + 1)) (st x78 x77 (wu32 ((gt x78 x77) + (gt x55 x77)))) else none) else none) else none) else some x78)
def ref02_Of.l0 (y11 : ByteArray) (y7 : (List Int)) : Nat → Int → (List Int) → Option (List Int)
  | 0, _, _ => none
  | k + 1, x14, x15 => (if (decide (x14 < (y11.size : Int))) = true then ((ref02_Of.l1 x14 y11 FU 0 (List.replicate 64 (0 : Int))).bind fun x19 => ((ref02_Of.l3 y7 x19 FU 0 x15).bind fun x55 => ((ref02_Of.l4 x55 FU 0 x15).bind fun x75 => ref02_Of.l0 y11 y7 k (wi64 (x14 + 64)) x75))) else some x15)
def ref02_Of.l6 : Nat → Int → Int → Option Int
  | 0, _, _ => none
  | k + 1, x93, x94 => (if (decide (x94 < 3)) = true then ref02_Of.l6 k (wu32 (x93.tdiv 256)) (wi64 (x94 + 1)) else some x93)
def ref02_Of.l5 (x12 : (List Int)) : Nat → Int → (List Int) → Option (List Int)
  | 0, _, _ => none
  | k + 1, x87, x88 => (if (decide (x87 < 32)) = true then (if 0 ≤ (wi64 (x87.tdiv 4)) ∧ (wi64 (x87.tdiv 4)) < 8 then ((ref02_Of.l6 FU (gt x12 (wi64 (x87.tdiv 4))) (x87.tmod 4)).bind fun x92 => (if 0 ≤ x87 ∧ x87 < 32 then ref02_Of.l5 x12 k (wi64 (x87 + 1)) (st x88 x87 (wu8 (x92.tmod 256))) else none)) else none) else some x88)
def ref02_Of (a0 : ByteArray) : Option (List Int) := (ref02_roots.bind fun y3 => (ref02_cubes.bind fun y7 => ((ref02_Pad a0).bind fun y11 => ((ref02_Of.l0 y11 y7 FU 0 y3).bind fun x12 => ((ref02_Of.l5 x12 FU 0 (List.replicate 32 (0 : Int))).bind fun x85 => some x85)))))
end Go.Cen
