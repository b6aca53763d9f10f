/- ROOT: its bytes, and the parts. -/
import Derived.Test.YthdoklobbcedcabRootA
set_option linter.unusedVariables false
set_option linter.unusedSimpArgs false
namespace Go.Cen
/-- a number's bytes, clamped -/
def nm (a : Int) : List Int := numL (clampN a)
theorem nm_len (a : Int) : (nm a).length ≤ 8 := numL_len 7 _ (by have := clampN_le a; omega)
theorem nm_pos (a : Int) : 1 ≤ (nm a).length := numL_pos _
theorem nm_isB (a : Int) : isB (nm a) := numL_isB _
theorem wire_Num_nm (a : Int) : wire_Num a = some (strOfNums (nm a)) := wire_Num_eq a
theorem ref04_Num_nm (a : Int) : ref04_Num a = some (strOfNums (nm a)) := ref04_Num_eq a
def row4 (q : Q) : List Int := [q.l, q.o, q.b, q.t]
def rowB (q : Q) : List Int := nm q.l ++ nm q.o ++ nm q.b ++ nm q.t
def bytesQ (M : List Q) (G : List Int) : List Int := nm M.length ++ M.flatMap rowB ++ nm G.length ++ G.flatMap nm
theorem flat_len {α : Type} (f : α → List Int) (b : Nat) (h : ∀ x, (f x).length ≤ b) : ∀ xs : List α, (xs.flatMap f).length ≤ b * xs.length
  | [] => by simp
  | x :: r => by
    have := flat_len f b h r
    have := h x
    rw [List.flatMap_cons, List.length_append, List.length_cons, Nat.mul_add]; omega
theorem rowB_len (q : Q) : (rowB q).length ≤ 32 := by
  have := nm_len q.l; have := nm_len q.o; have := nm_len q.b; have := nm_len q.t
  simp [rowB]; omega
theorem rowB_isB (q : Q) : isB (rowB q) := isB_app (isB_app (isB_app (nm_isB _) (nm_isB _)) (nm_isB _)) (nm_isB _)
theorem bytesQ_isB (M : List Q) (G : List Int) : isB (bytesQ M G) :=
  isB_app (isB_app (isB_app (nm_isB _) (isB_flat fun _ _ => rowB_isB _)) (nm_isB _)) (isB_flat fun _ _ => nm_isB _)
theorem bytesQ_len (M : List Q) (G : List Int) : (bytesQ M G).length ≤ 16 + 32 * M.length + 8 * G.length := by
  have := nm_len M.length; have := nm_len G.length
  have := flat_len rowB 32 rowB_len M
  have := flat_len nm 8 nm_len G
  simp only [bytesQ, List.length_append]; omega
theorem bytesQ_ge (M : List Q) (G : List Int) : 2 ≤ (bytesQ M G).length := by
  have := nm_pos M.length; have := nm_pos G.length
  simp only [bytesQ, List.length_append]; omega
theorem nums_flat (M : List Q) (G : List Int) : (([(M.length : Int)] ++ M.flatMap row4) ++ [(G.length : Int)] ++ G).flatMap nm = bytesQ M G := by
  have : (M.flatMap row4).flatMap nm = M.flatMap rowB := by
    rw [List.flatMap_assoc]
    congr 1
    funext q
    simp [row4, rowB]
  simp [bytesQ, this]
theorem write_eq (fl : Bool) (buf : List Int) (xs : List Int) (hx : isB xs) (h : buf.length + xs.length ≤ LIM) :
    strings_Builder_WriteString fl buf (strOfNums xs) = some (((strOfNums xs).size : Int), Dyn117.nil, true, buf ++ xs) := by
  have hc : strings_Builder_copyCheck fl buf = some (true, buf) := by cases fl <;> rfl
  simp only [strings_Builder_WriteString, hc, Option.bind_some, byts_strOfNums hx, h, if_true]
theorem root_bytes_eq (M : List RootEntry) (G : List Int) (hM : M.length ≤ 400) (hG : G.length ≤ 100) : root_bytes M G = some (strOfNums (bytesQ (M.map qM) G)) := by
  unfold root_bytes
  have hL := LIM_ge
  have a0 := loopI M (by omega) (fun k i (s : List Int) => root_bytes.l0 M k s i) (fun l s => some (s ++ (l.map qM).flatMap row4)) (fun l s => s.length + 4 * l.length ≤ 2000)
    (fun k s hd hI => by simp only [root_bytes.l0, hd, List.map_nil, List.flatMap_nil, List.append_nil]; rfl)
    (fun k i x r s hi hl hm hd hg hx hw hI ih => by
      have hg2 : s.length + ([x.Logic, x.Owner, x.Block, x.At] : List Int).length ≤ LIM := by simp at hI ⊢; omega
      simp only [decide_true, if_true, and_self, Option.bind_some, root_bytes.l0, hd, hg, hx, hw, hg2, if_true, and_self]
      rw [ih _ (by simp at hI ⊢; omega)]
      simp [row4, qM]) [(M.length : Int)] (by simp; omega)
  rw [show root_bytes.l0 M FU [(M.length : Int)] 0 = _ from a0]
  generalize hX : [(M.length : Int)] ++ (M.map qM).flatMap row4 = X
  have hXl : X.length ≤ 1 + 4 * M.length := by
    rw [← hX]
    have := flat_len row4 4 (fun _ => by simp [row4]) (M.map qM)
    simp at this ⊢; omega
  simp only [Option.bind_some]
  rw [if_pos (by simp; omega), if_pos (by simp; omega)]
  have hlen : ((X ++ [(G.length : Int)]) ++ G).length ≤ 2000 := by simp; omega
  have hflat : ((X ++ [(G.length : Int)]) ++ G).flatMap nm = bytesQ (M.map qM) G := by
    rw [← nums_flat, List.length_map, ← hX]
  have a1 := loopI ((X ++ [(G.length : Int)]) ++ G) (by omega) (fun k i (s : Bool × List Int) => root_bytes.l1 X G k i s.1 s.2) (fun l s => some (s.1 || !l.isEmpty, s.2 ++ l.flatMap nm)) (fun l s => s.2.length + 8 * l.length ≤ 20000)
    (fun k s hd hI => by simp only [root_bytes.l1, hd]; simp)
    (fun k i x r s hi hl hm hd hg hx hw hI ih => by
      have := nm_len x
      simp only [decide_true, if_true, and_self, Option.bind_some, root_bytes.l1, hd, hg, hx, hw, if_true, and_self, wire_Num_nm, Option.bind_some]
      rw [write_eq _ _ _ (nm_isB x) (by simp at hI; omega)]
      have := ih (true, s.2 ++ nm x) (by simp at hI ⊢; omega)
      simp only [Option.bind_some]
      rw [this]
      simp) (false, []) (by simp at hlen ⊢; omega)
  rw [show root_bytes.l1 X G FU 0 false [] = _ from a1]
  simp only [Option.bind_some, List.nil_append, hflat, strings_Builder_String]
  rw [if_pos ((bytesOk_iff _).2 (bytesQ_isB _ _))]
  rfl
theorem ref15_Bytes_eq (M : List Ref15Entry) (G : List Int) (hM : M.length ≤ 400) (hG : G.length ≤ 100) : ref15_Bytes M G = some (strOfNums (bytesQ (M.map qR) G)) := by
  unfold ref15_Bytes
  have hL := LIM_ge
  have a0 := loopI M (by omega) (fun k i (s : ByteArray) => ref15_Bytes.l0 M k s i) (fun l s => some (s ++ strOfNums ((l.map qR).flatMap rowB))) (fun l s => s.size + 32 * l.length ≤ 20000)
    (fun k s hd hI => by
      simp only [ref15_Bytes.l0, hd, List.map_nil, List.flatMap_nil]
      rw [strOfNums_nil, ba_nil]; rfl)
    (fun k i x r s hi hl hm hd hg hx hw hI ih => by
      have h1 := nm_len x.Logic; have h2 := nm_len x.Owner; have h3 := nm_len x.Block; have h4 := nm_len x.At
      have z1 := strOfNums_size (nm x.Logic); have z2 := strOfNums_size (nm x.Owner); have z3 := strOfNums_size (nm x.Block); have z4 := strOfNums_size (nm x.At)
      simp only [List.length_cons] at hI
      simp only [decide_true, if_true, and_self, Option.bind_some, ref15_Bytes.l0, hd, hg, hx, hw, if_true, and_self, ref04_Num_nm, Option.bind_some]
      rw [if_pos (by omega), if_pos (by rw [ByteArray.size_append]; omega), if_pos (by rw [ByteArray.size_append, ByteArray.size_append]; omega), if_pos (by rw [ByteArray.size_append, ByteArray.size_append, ByteArray.size_append]; omega)]
      rw [ih _ (by simp only [ByteArray.size_append]; omega)]
      simp only [List.map_cons, List.flatMap_cons, rowB, qR, ← strOfNums_append, ByteArray.append_assoc]) (strOfNums (nm M.length)) (by have := nm_len M.length; rw [strOfNums_size]; omega)
  rw [ref04_Num_nm]
  simp only [Option.bind_some]
  rw [show ref15_Bytes.l0 M FU _ 0 = _ from a0, ref04_Num_nm]
  simp only [Option.bind_some]
  have f1 := nm_len M.length; have f2 := nm_len G.length
  have f3 := flat_len rowB 32 rowB_len (M.map qR)
  rw [List.length_map] at f3
  rw [if_pos (by simp only [ByteArray.size_append, strOfNums_size]; omega)]
  have b0 := loopI G (by omega) (fun k i (s : ByteArray) => ref15_Bytes.l1 G k s i) (fun l s => some (s ++ strOfNums (l.flatMap nm))) (fun l s => s.size + 8 * l.length ≤ 30000)
    (fun k s hd hI => by
      simp only [ref15_Bytes.l1, hd, List.flatMap_nil]
      rw [strOfNums_nil, ba_nil]; rfl)
    (fun k i x r s hi hl hm hd hg hx hw hI ih => by
      have h1 := nm_len x
      have z1 := strOfNums_size (nm x)
      simp only [List.length_cons] at hI
      simp only [decide_true, if_true, and_self, Option.bind_some, ref15_Bytes.l1, hd, hg, hx, hw, if_true, and_self, ref04_Num_nm, Option.bind_some]
      rw [if_pos (by omega)]
      rw [ih _ (by simp only [ByteArray.size_append]; omega)]
      simp only [List.flatMap_cons, ← strOfNums_append, ByteArray.append_assoc]) ((strOfNums (nm M.length) ++ strOfNums ((M.map qR).flatMap rowB)) ++ strOfNums (nm G.length)) (by simp only [ByteArray.size_append, strOfNums_size]; omega)
  rw [show ref15_Bytes.l1 G FU _ 0 = _ from b0]
  simp only [Option.bind_some, bytesQ, List.length_map, strOfNums_append]
end Go.Cen
