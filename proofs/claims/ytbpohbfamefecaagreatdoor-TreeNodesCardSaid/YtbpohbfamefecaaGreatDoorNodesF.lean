/- Part 6 of 6 of the proof: bodegalaw24.TreeNodes returns true for every input, with the package variable bodega/btree.none as the program lays it. -/
import Derived.Test.YtbpohbfamefecaaGreatDoorNodesE
import Derived.Test.YtbpohbfamefecaaGreatDoorRows
import Derived.Test.YtbpohbfamefecaaGreatDoorCards
import Derived.Test.YtbpohbfamefecaaGreatDoorTie
import Derived.ProofKit
import Derived.LaidMore
import Derived.OpenShut
import Derived.Stop.Joined
import Derived.SevenTiedAt
set_option linter.all false
set_option maxRecDepth 100000
set_option maxHeartbeats 4000000
section
namespace Go.Sh
def bodegaheap_New_L1_c (a0 : Int) : (List api_Page × Int) → Option ((List api_Page × Int) ⊕ bodegaheap_Heap)
  | (l12, x13) =>
    if (decide (x13 < a0)) = true then
      if (l12.length + 1) * 72 ≤ maxRows ∧ l12.length + 1 ≤ maxRows then
        some (.inl ((l12 ++ ([(⟨x13, 256, (⟨0, 0, 0, 0, 0, 0, 0⟩ : (A7 Int))⟩ : api_Page)] : List api_Page)), (IntKind.i64.wrap (x13 + 1))))
      else none
    else
      Option.map Sum.inr (
        some (⟨l12, a0, 0, ([] : List bodegaref19_Row), (⟨1, 0, 1⟩ : bodegaref26_Cursor)⟩ : bodegaheap_Heap))
theorem bodegaheap_New_L1_le (a0 : Int) : ∀ x, LeO (bodegaheap_New_L1_c a0 x) (bodegaheap_New_L1 a0 x) := by
  rintro ⟨l12, x13⟩
  rw [bodegaheap_New_L1_c, bodegaheap_New_L1]
  repeat' (first | exact LeO.refl _ | apply LeO.none | apply LeO.bind | apply LeO.ite | apply LeO.map | apply LeO.iter | intro _)
def bodegaheap_New_c (a0 : Int) : Option bodegaheap_Heap :=
  iterF (bodegaheap_New_L1_c a0) (([] : List api_Page), 96)
theorem bodegaheap_New_le (a0 : Int) : LeO (bodegaheap_New_c a0) (bodegaheap_New a0) := by
  rw [bodegaheap_New_c, bodegaheap_New]
  repeat' (first | exact LeO.refl _ | apply LeO.none | apply bodegaheap_New_L1_le | apply LeO.bind | apply LeO.ite | apply LeO.map | apply LeO.iter | intro _)
def bodegalaw24_begin_c : Option bodegalaw24_index :=
  (bodegaheap_New_c 256).bind fun v1 =>
  some (⟨v1.Pages, 105, ([] : List Int), ([] : List pointer_Pointer), ([] : List pointer_Pointer)⟩ : bodegalaw24_index)
theorem bodegalaw24_begin_le  : LeO (bodegalaw24_begin_c ) (bodegalaw24_begin ) := by
  rw [bodegalaw24_begin_c, bodegalaw24_begin]
  repeat' (first | exact LeO.refl _ | apply LeO.none | apply bodegaheap_New_le | apply LeO.bind | apply LeO.ite | apply LeO.map | apply LeO.iter | intro _)
def bodegalaw24_index_place_J1_c (a0 : bodegalaw24_index) : Unit → Option (Int × Bool × bodegalaw24_index)
  | () =>
    some ((a0.Keys.length : Int), false, a0)
theorem bodegalaw24_index_place_J1_le (a0 : bodegalaw24_index) : ∀ x, LeO (bodegalaw24_index_place_J1_c a0 x) (bodegalaw24_index_place_J1 a0 x) := by
  rintro ⟨⟩
  rw [bodegalaw24_index_place_J1_c, bodegalaw24_index_place_J1]
  repeat' (first | exact LeO.refl _ | apply LeO.none | apply LeO.bind | apply LeO.ite | apply LeO.map | apply LeO.iter | intro _)
def bodegalaw24_index_place_L1_c (a0 : bodegalaw24_index) (a1 : Int) (x28 : Int) : Option (Int ⊕ (Int × Bool × bodegalaw24_index)) :=
    if (decide (x28 < (a0.Keys.length : Int))) = true then
      (idx a0.Keys x28).bind fun e31 =>
      if (decide (e31 ≥ a1)) = true then
        Option.map Sum.inr (
          some (x28, (e31 == a1), a0))
      else
        some (.inl (IntKind.i64.wrap (x28 + 1)))
    else
      Option.map Sum.inr (
        bodegalaw24_index_place_J1_c a0 ())
theorem bodegalaw24_index_place_L1_le (a0 : bodegalaw24_index) (a1 : Int) (x28 : Int) : LeO (bodegalaw24_index_place_L1_c a0 a1 x28) (bodegalaw24_index_place_L1 a0 a1 x28) := by
  rw [bodegalaw24_index_place_L1_c, bodegalaw24_index_place_L1]
  repeat' (first | exact LeO.refl _ | apply LeO.none | apply bodegalaw24_index_place_J1_le | apply LeO.bind | apply LeO.ite | apply LeO.map | apply LeO.iter | intro _)
def bodegalaw24_index_place_c (a0 : bodegalaw24_index) (a1 : Int) : Option (Int × Bool × bodegalaw24_index) :=
  iterF (bodegalaw24_index_place_L1_c a0 a1) 0
theorem bodegalaw24_index_place_le (a0 : bodegalaw24_index) (a1 : Int) : LeO (bodegalaw24_index_place_c a0 a1) (bodegalaw24_index_place a0 a1) := by
  rw [bodegalaw24_index_place_c, bodegalaw24_index_place]
  repeat' (first | exact LeO.refl _ | apply LeO.none | apply bodegalaw24_index_place_L1_le | apply LeO.bind | apply LeO.ite | apply LeO.map | apply LeO.iter | intro _)
def btree_isKey_c (a0 : Int) : Option Bool :=
  some ((decide (a0 ≥ 1)) && (decide (a0 ≤ 4294967294)))
theorem btree_isKey_le (a0 : Int) : LeO (btree_isKey_c a0) (btree_isKey a0) := by
  rw [btree_isKey_c, btree_isKey]
  repeat' (first | exact LeO.refl _ | apply LeO.none | apply LeO.bind | apply LeO.ite | apply LeO.map | apply LeO.iter | intro _)
def pointer_inHeap_c (a0 : Int) : Option Bool :=
  some ((decide (a0 ≥ 104)) && (decide (a0 < 256)))
theorem pointer_inHeap_le (a0 : Int) : LeO (pointer_inHeap_c a0) (pointer_inHeap a0) := by
  rw [pointer_inHeap_c, pointer_inHeap]
  repeat' (first | exact LeO.refl _ | apply LeO.none | apply LeO.bind | apply LeO.ite | apply LeO.map | apply LeO.iter | intro _)
def pointer_Valid_c (a0 : pointer_Pointer) : Option Bool :=
  (pointer_inHeap_c a0.Line).bind fun v1 =>
  some (v1 && ((decide (a0.Gen ≥ 1)) && (decide (a0.Gen ≤ 16777215))))
theorem pointer_Valid_le (a0 : pointer_Pointer) : LeO (pointer_Valid_c a0) (pointer_Valid a0) := by
  rw [pointer_Valid_c, pointer_Valid]
  repeat' (first | exact LeO.refl _ | apply LeO.none | apply pointer_inHeap_le | apply LeO.bind | apply LeO.ite | apply LeO.map | apply LeO.iter | intro _)
def btree_Op_isValid_J1_c (a0 : btree_Op) (b19 : Bool) : Option Bool :=
    if b19 = true then
      (btree_isKey_c a0.Key).bind fun v21 =>
      some v21
    else
      some false
theorem btree_Op_isValid_J1_le (a0 : btree_Op) (b19 : Bool) : LeO (btree_Op_isValid_J1_c a0 b19) (btree_Op_isValid_J1 a0 b19) := by
  rw [btree_Op_isValid_J1_c, btree_Op_isValid_J1]
  repeat' (first | exact LeO.refl _ | apply LeO.none | apply btree_isKey_le | apply LeO.bind | apply LeO.ite | apply LeO.map | apply LeO.iter | intro _)
def btree_Op_isValid_c (a0 : btree_Op) : Option Bool :=
  if (a0.Kind == 6) = true then
    some true
  else
    if (a0.Kind == 5) = true then
      some ((decide (a0.Key ≥ 1)) && ((decide (a0.Level ≥ 0)) && (decide (a0.Level < 8))))
    else
      if (a0.Kind == 2) = true then
        (btree_isKey_c a0.Key).bind fun v6 =>
        if v6 = true then
          (pointer_Valid_c a0.To).bind fun v8 =>
          some v8
        else
          some false
      else
        if (a0.Kind == 4) = true then
          (btree_isKey_c a0.Key).bind fun v10 =>
          if v10 = true then
            (btree_isKey_c a0.Last).bind fun v12 =>
            some (v12 && ((decide (a0.Key ≤ a0.Last)) && ((decide (a0.Limit ≥ 1)) && (decide (a0.Limit ≤ 64)))))
          else
            some false
        else
          if (a0.Kind == 1) = true then
            btree_Op_isValid_J1_c a0 (a0.Kind == 1)
          else
            if (a0.Kind == 3) = true then
              btree_Op_isValid_J1_c a0 (a0.Kind == 3)
            else
              if (a0.Kind == 7) = true then
                btree_Op_isValid_J1_c a0 (a0.Kind == 7)
              else
                btree_Op_isValid_J1_c a0 (a0.Kind == 8)
theorem btree_Op_isValid_le (a0 : btree_Op) : LeO (btree_Op_isValid_c a0) (btree_Op_isValid a0) := by
  rw [btree_Op_isValid_c, btree_Op_isValid]
  repeat' (first | exact LeO.refl _ | apply LeO.none | apply btree_isKey_le | apply pointer_Valid_le | apply btree_Op_isValid_J1_le | apply LeO.bind | apply LeO.ite | apply LeO.map | apply LeO.iter | intro _)
def pointer_Latest_L1_c (a0 : (List api_Page)) (a1 : Int) (x12 : Int) : Option (Int ⊕ (api_Page × Bool)) :=
    if (decide (x12 ≥ 0)) = true then
      (idx a0 x12).bind fun e15 =>
      if (e15.Line == a1) = true then
        Option.map Sum.inr (
          some (e15, true))
      else
        some (.inl (IntKind.i64.wrap (x12 - 1)))
    else
      Option.map Sum.inr (
        some ((⟨0, 0, (⟨0, 0, 0, 0, 0, 0, 0⟩ : (A7 Int))⟩ : api_Page), false))
theorem pointer_Latest_L1_le (a0 : (List api_Page)) (a1 : Int) (x12 : Int) : LeO (pointer_Latest_L1_c a0 a1 x12) (pointer_Latest_L1 a0 a1 x12) := by
  rw [pointer_Latest_L1_c, pointer_Latest_L1]
  repeat' (first | exact LeO.refl _ | apply LeO.none | apply LeO.bind | apply LeO.ite | apply LeO.map | apply LeO.iter | intro _)
def pointer_Latest_c (a0 : (List api_Page)) (a1 : Int) : Option (api_Page × Bool) :=
  iterF (pointer_Latest_L1_c a0 a1) (IntKind.i64.wrap ((a0.length : Int) - 1))
theorem pointer_Latest_le (a0 : (List api_Page)) (a1 : Int) : LeO (pointer_Latest_c a0 a1) (pointer_Latest a0 a1) := by
  rw [pointer_Latest_c, pointer_Latest]
  repeat' (first | exact LeO.refl _ | apply LeO.none | apply pointer_Latest_L1_le | apply LeO.bind | apply LeO.ite | apply LeO.map | apply LeO.iter | intro _)
def btree_run_wait_c (a0 : btree_run) (a1 : Int) : Option (Bool × btree_run) :=
  some (false, (⟨a0.Op, a0.Known, ([a1] : List Int), a0.Writes, a0.Out, a0.RootPage, a0.Root, a0.Ended⟩ : btree_run))
theorem btree_run_wait_le (a0 : btree_run) (a1 : Int) : LeO (btree_run_wait_c a0 a1) (btree_run_wait a0 a1) := by
  rw [btree_run_wait_c, btree_run_wait]
  repeat' (first | exact LeO.refl _ | apply LeO.none | apply LeO.bind | apply LeO.ite | apply LeO.map | apply LeO.iter | intro _)
def pointer_Locked_c (a0 : api_Page) : Option Bool :=
  some ((bits .and .u64 a0.Head 255) != 0)
theorem pointer_Locked_le (a0 : api_Page) : LeO (pointer_Locked_c a0) (pointer_Locked a0) := by
  rw [pointer_Locked_c, pointer_Locked]
  repeat' (first | exact LeO.refl _ | apply LeO.none | apply LeO.bind | apply LeO.ite | apply LeO.map | apply LeO.iter | intro _)
def math_bits_Len64_J3_c : (Int × Int) → Option Int
  | (x8, x9) =>
    if 0 ≤ (IntKind.u8.wrap x8) ∧ (IntKind.u8.wrap x8) < (ByteArray.size (ByteArray.mk (List.toArray (List.append (List.append [0, 1, 2, 2, 3, 3, 3, 3, 4, 4, 4, 4, 4, 4, 4, 4, 5, 5, 5, 5, 5, 5, 5, 5, 5, 5, 5, 5, 5, 5, 5, 5, 6, 6, 6, 6, 6, 6, 6, 6, 6, 6, 6, 6, 6, 6, 6, 6, 6, 6, 6, 6, 6, 6, 6, 6, 6, 6, 6, 6, 6, 6, 6, 6] [7, 7, 7, 7, 7, 7, 7, 7, 7, 7, 7, 7, 7, 7, 7, 7, 7, 7, 7, 7, 7, 7, 7, 7, 7, 7, 7, 7, 7, 7, 7, 7, 7, 7, 7, 7, 7, 7, 7, 7, 7, 7, 7, 7, 7, 7, 7, 7, 7, 7, 7, 7, 7, 7, 7, 7, 7, 7, 7, 7, 7, 7, 7, 7]) (List.append [8, 8, 8, 8, 8, 8, 8, 8, 8, 8, 8, 8, 8, 8, 8, 8, 8, 8, 8, 8, 8, 8, 8, 8, 8, 8, 8, 8, 8, 8, 8, 8, 8, 8, 8, 8, 8, 8, 8, 8, 8, 8, 8, 8, 8, 8, 8, 8, 8, 8, 8, 8, 8, 8, 8, 8, 8, 8, 8, 8, 8, 8, 8, 8] [8, 8, 8, 8, 8, 8, 8, 8, 8, 8, 8, 8, 8, 8, 8, 8, 8, 8, 8, 8, 8, 8, 8, 8, 8, 8, 8, 8, 8, 8, 8, 8, 8, 8, 8, 8, 8, 8, 8, 8, 8, 8, 8, 8, 8, 8, 8, 8, 8, 8, 8, 8, 8, 8, 8, 8, 8, 8, 8, 8, 8, 8, 8, 8])))) : Int) then
      some (IntKind.i64.wrap (x9 + (IntKind.i64.wrap (strAt (ByteArray.mk (List.toArray (List.append (List.append [0, 1, 2, 2, 3, 3, 3, 3, 4, 4, 4, 4, 4, 4, 4, 4, 5, 5, 5, 5, 5, 5, 5, 5, 5, 5, 5, 5, 5, 5, 5, 5, 6, 6, 6, 6, 6, 6, 6, 6, 6, 6, 6, 6, 6, 6, 6, 6, 6, 6, 6, 6, 6, 6, 6, 6, 6, 6, 6, 6, 6, 6, 6, 6] [7, 7, 7, 7, 7, 7, 7, 7, 7, 7, 7, 7, 7, 7, 7, 7, 7, 7, 7, 7, 7, 7, 7, 7, 7, 7, 7, 7, 7, 7, 7, 7, 7, 7, 7, 7, 7, 7, 7, 7, 7, 7, 7, 7, 7, 7, 7, 7, 7, 7, 7, 7, 7, 7, 7, 7, 7, 7, 7, 7, 7, 7, 7, 7]) (List.append [8, 8, 8, 8, 8, 8, 8, 8, 8, 8, 8, 8, 8, 8, 8, 8, 8, 8, 8, 8, 8, 8, 8, 8, 8, 8, 8, 8, 8, 8, 8, 8, 8, 8, 8, 8, 8, 8, 8, 8, 8, 8, 8, 8, 8, 8, 8, 8, 8, 8, 8, 8, 8, 8, 8, 8, 8, 8, 8, 8, 8, 8, 8, 8] [8, 8, 8, 8, 8, 8, 8, 8, 8, 8, 8, 8, 8, 8, 8, 8, 8, 8, 8, 8, 8, 8, 8, 8, 8, 8, 8, 8, 8, 8, 8, 8, 8, 8, 8, 8, 8, 8, 8, 8, 8, 8, 8, 8, 8, 8, 8, 8, 8, 8, 8, 8, 8, 8, 8, 8, 8, 8, 8, 8, 8, 8, 8, 8])))) (IntKind.u8.wrap x8)))))
    else none
theorem math_bits_Len64_J3_le  : ∀ x, LeO (math_bits_Len64_J3_c  x) (math_bits_Len64_J3  x) := by
  rintro ⟨x8, x9⟩
  rw [math_bits_Len64_J3_c, math_bits_Len64_J3]
  repeat' (first | exact LeO.refl _ | apply LeO.none | apply LeO.bind | apply LeO.ite | apply LeO.map | apply LeO.iter | intro _)
def math_bits_Len64_J2_c : (Int × Int) → Option Int
  | (x5, x6) =>
    if (decide (x5 ≥ 256)) = true then
      math_bits_Len64_J3_c ((shrV .u64 x5 8), (IntKind.i64.wrap (x6 + 8)))
    else
      math_bits_Len64_J3_c (x5, x6)
theorem math_bits_Len64_J2_le  : ∀ x, LeO (math_bits_Len64_J2_c  x) (math_bits_Len64_J2  x) := by
  rintro ⟨x5, x6⟩
  rw [math_bits_Len64_J2_c, math_bits_Len64_J2]
  repeat' (first | exact LeO.refl _ | apply LeO.none | apply math_bits_Len64_J3_le | apply LeO.bind | apply LeO.ite | apply LeO.map | apply LeO.iter | intro _)
def math_bits_Len64_J1_c : (Int × Int) → Option Int
  | (x2, x3) =>
    if (decide (x2 ≥ 65536)) = true then
      math_bits_Len64_J2_c ((shrV .u64 x2 16), (IntKind.i64.wrap (x3 + 16)))
    else
      math_bits_Len64_J2_c (x2, x3)
theorem math_bits_Len64_J1_le  : ∀ x, LeO (math_bits_Len64_J1_c  x) (math_bits_Len64_J1  x) := by
  rintro ⟨x2, x3⟩
  rw [math_bits_Len64_J1_c, math_bits_Len64_J1]
  repeat' (first | exact LeO.refl _ | apply LeO.none | apply math_bits_Len64_J2_le | apply LeO.bind | apply LeO.ite | apply LeO.map | apply LeO.iter | intro _)
def math_bits_Len64_c (a0 : Int) : Option Int :=
  if (decide (a0 ≥ 4294967296)) = true then
    math_bits_Len64_J1_c ((shrV .u64 a0 32), 32)
  else
    math_bits_Len64_J1_c (a0, 0)
theorem math_bits_Len64_le (a0 : Int) : LeO (math_bits_Len64_c a0) (math_bits_Len64 a0) := by
  rw [math_bits_Len64_c, math_bits_Len64]
  repeat' (first | exact LeO.refl _ | apply LeO.none | apply math_bits_Len64_J1_le | apply LeO.bind | apply LeO.ite | apply LeO.map | apply LeO.iter | intro _)
def math_bits_Len_c (a0 : Int) : Option Int :=
  (math_bits_Len64_c a0).bind fun v1 =>
  some v1
theorem math_bits_Len_le (a0 : Int) : LeO (math_bits_Len_c a0) (math_bits_Len a0) := by
  rw [math_bits_Len_c, math_bits_Len]
  repeat' (first | exact LeO.refl _ | apply LeO.none | apply math_bits_Len64_le | apply LeO.bind | apply LeO.ite | apply LeO.map | apply LeO.iter | intro _)
def cmp_isNaN_c (a0 : Int) : Option Bool :=
  some (a0 != a0)
theorem cmp_isNaN_le (a0 : Int) : LeO (cmp_isNaN_c a0) (cmp_isNaN a0) := by
  rw [cmp_isNaN_c, cmp_isNaN]
  repeat' (first | exact LeO.refl _ | apply LeO.none | apply LeO.bind | apply LeO.ite | apply LeO.map | apply LeO.iter | intro _)
def cmp_Less_c (a0 : Int) (a1 : Int) : Option Bool :=
  (cmp_isNaN_c a0).bind fun v1 =>
  if v1 = true then
    (cmp_isNaN_c a1).bind fun v3 =>
    some ((!v3) || (decide (a0 < a1)))
  else
    some (decide (a0 < a1))
theorem cmp_Less_le (a0 : Int) (a1 : Int) : LeO (cmp_Less_c a0 a1) (cmp_Less a0 a1) := by
  rw [cmp_Less_c, cmp_Less]
  repeat' (first | exact LeO.refl _ | apply LeO.none | apply cmp_isNaN_le | apply LeO.bind | apply LeO.ite | apply LeO.map | apply LeO.iter | intro _)
def slices_insertionSortOrdered_L2_c (a1 : Int) (x94 : Int) : ((List Int) × Int) → Option (((List Int) × Int) ⊕ (((List Int) × Int) ⊕ (List Int)))
  | (l125, x126) =>
    if (decide (x126 > a1)) = true then
      (idx l125 x126).bind fun e137 =>
      (idx l125 (IntKind.i64.wrap (x126 - 1))).bind fun e138 =>
      (cmp_Less_c e137 e138).bind fun v139 =>
      if v139 = true then
        (idx (l125.set x126.toNat e138) (IntKind.i64.wrap (x126 - 1))).bind fun e141 =>
        some (.inl (((l125.set x126.toNat e138).set (IntKind.i64.wrap (x126 - 1)).toNat e137), (IntKind.i64.wrap (x126 - 1))))
      else
        Option.map Sum.inr (
          some (.inl (l125, (IntKind.i64.wrap (x94 + 1)))))
    else
      Option.map Sum.inr (
        some (.inl (l125, (IntKind.i64.wrap (x94 + 1)))))
theorem slices_insertionSortOrdered_L2_le (a1 : Int) (x94 : Int) : ∀ x, LeO (slices_insertionSortOrdered_L2_c a1 x94 x) (slices_insertionSortOrdered_L2 a1 x94 x) := by
  rintro ⟨l125, x126⟩
  rw [slices_insertionSortOrdered_L2_c, slices_insertionSortOrdered_L2]
  repeat' (first | exact LeO.refl _ | apply LeO.none | apply cmp_Less_le | apply LeO.bind | apply LeO.ite | apply LeO.map | apply LeO.iter | intro _)
def slices_insertionSortOrdered_L1_c (a2 : Int) (a1 : Int) (a0 : (List Int)) : ((List Int) × Int) → Option (((List Int) × Int) ⊕ (List Int))
  | (l93, x94) =>
    if (decide (x94 < a2)) = true then
      iterF (slices_insertionSortOrdered_L2_c a1 x94) (l93, x94)
    else
      Option.map Sum.inr (
        if l93.length = a0.length then
          some l93
        else none)
theorem slices_insertionSortOrdered_L1_le (a2 : Int) (a1 : Int) (a0 : (List Int)) : ∀ x, LeO (slices_insertionSortOrdered_L1_c a2 a1 a0 x) (slices_insertionSortOrdered_L1 a2 a1 a0 x) := by
  rintro ⟨l93, x94⟩
  rw [slices_insertionSortOrdered_L1_c, slices_insertionSortOrdered_L1]
  repeat' (first | exact LeO.refl _ | apply LeO.none | apply slices_insertionSortOrdered_L2_le | apply LeO.bind | apply LeO.ite | apply LeO.map | apply LeO.iter | intro _)
def slices_insertionSortOrdered_c (a0 : (List Int)) (a1 : Int) (a2 : Int) : Option (List Int) :=
  iterF (slices_insertionSortOrdered_L1_c a2 a1 a0) (a0, (IntKind.i64.wrap (a1 + 1)))
theorem slices_insertionSortOrdered_le (a0 : (List Int)) (a1 : Int) (a2 : Int) : LeO (slices_insertionSortOrdered_c a0 a1 a2) (slices_insertionSortOrdered a0 a1 a2) := by
  rw [slices_insertionSortOrdered_c, slices_insertionSortOrdered]
  repeat' (first | exact LeO.refl _ | apply LeO.none | apply slices_insertionSortOrdered_L1_le | apply LeO.bind | apply LeO.ite | apply LeO.map | apply LeO.iter | intro _)
def slices_pdqsortOrdered_L1_c (a2 : Int) (a1 : Int) (a0 : (List Int)) (a3 : Int) : Unit → Option (Unit ⊕ (List Int))
  | () =>
    if (decide ((IntKind.i64.wrap (a2 - a1)) ≤ 12)) = true then
      (slices_insertionSortOrdered_c a0 a1 a2).bind fun v13 =>
      if v13.length = a0.length then
        Option.map Sum.inr (
          if v13.length = a0.length then
            some v13
          else none)
      else none
    else
      if (a3 == 0) = true then
        none
      else
        none
theorem slices_pdqsortOrdered_L1_le (a2 : Int) (a1 : Int) (a0 : (List Int)) (a3 : Int) : ∀ x, LeO (slices_pdqsortOrdered_L1_c a2 a1 a0 a3 x) (slices_pdqsortOrdered_L1 a2 a1 a0 a3 x) := by
  rintro ⟨⟩
  rw [slices_pdqsortOrdered_L1_c, slices_pdqsortOrdered_L1]
  repeat' (first | exact LeO.refl _ | apply LeO.none | apply slices_insertionSortOrdered_le | apply LeO.bind | apply LeO.ite | apply LeO.map | apply LeO.iter | intro _)
def slices_pdqsortOrdered_c (a0 : (List Int)) (a1 : Int) (a2 : Int) (a3 : Int) : Option (List Int) :=
  iterF (slices_pdqsortOrdered_L1_c a2 a1 a0 a3) ()
theorem slices_pdqsortOrdered_le (a0 : (List Int)) (a1 : Int) (a2 : Int) (a3 : Int) : LeO (slices_pdqsortOrdered_c a0 a1 a2 a3) (slices_pdqsortOrdered a0 a1 a2 a3) := by
  rw [slices_pdqsortOrdered_c, slices_pdqsortOrdered]
  repeat' (first | exact LeO.refl _ | apply LeO.none | apply slices_pdqsortOrdered_L1_le | apply LeO.bind | apply LeO.ite | apply LeO.map | apply LeO.iter | intro _)
def slices_Sort_c (a0 : (List Int)) : Option (List Int) :=
  (math_bits_Len_c (IntKind.u64.wrap (a0.length : Int))).bind fun v1 =>
  (slices_pdqsortOrdered_c a0 0 (a0.length : Int) v1).bind fun v2 =>
  if v2.length = a0.length then
    if v2.length = a0.length then
      some v2
    else none
  else none
theorem slices_Sort_le (a0 : (List Int)) : LeO (slices_Sort_c a0) (slices_Sort a0) := by
  rw [slices_Sort_c, slices_Sort]
  repeat' (first | exact LeO.refl _ | apply LeO.none | apply math_bits_Len_le | apply slices_pdqsortOrdered_le | apply LeO.bind | apply LeO.ite | apply LeO.map | apply LeO.iter | intro _)
def slices_Compact_L1_c (a0 : (List Int)) (x28 : Int) : Option (Int ⊕ (List Int)) :=
    if (decide (x28 < (a0.length : Int))) = true then
      (idx a0 x28).bind fun e31 =>
      (idx a0 (IntKind.i64.wrap (x28 - 1))).bind fun e32 =>
      if (e31 == e32) = true then
        none
      else
        some (.inl (IntKind.i64.wrap (x28 + 1)))
    else
      Option.map Sum.inr (
        some a0)
theorem slices_Compact_L1_le (a0 : (List Int)) (x28 : Int) : LeO (slices_Compact_L1_c a0 x28) (slices_Compact_L1 a0 x28) := by
  rw [slices_Compact_L1_c, slices_Compact_L1]
  repeat' (first | exact LeO.refl _ | apply LeO.none | apply LeO.bind | apply LeO.ite | apply LeO.map | apply LeO.iter | intro _)
def slices_Compact_c (a0 : (List Int)) : Option (List Int) :=
  if (decide ((a0.length : Int) < 2)) = true then
    some a0
  else
    iterF (slices_Compact_L1_c a0) 1
theorem slices_Compact_le (a0 : (List Int)) : LeO (slices_Compact_c a0) (slices_Compact a0) := by
  rw [slices_Compact_c, slices_Compact]
  repeat' (first | exact LeO.refl _ | apply LeO.none | apply slices_Compact_L1_le | apply LeO.bind | apply LeO.ite | apply LeO.map | apply LeO.iter | intro _)
def btree_run_fail_c (a0 : btree_run) (a1 : Int) (a2 : (List Int)) : Option (Bool × btree_run) :=
  (slices_Sort_c a2).bind fun v1 =>
  if v1.length = a2.length then
    (slices_Compact_c v1).bind fun v3 =>
    some (false, (⟨a0.Op, a0.Known, a0.Need, a0.Writes, (⟨a1, a0.Out.Found, a0.Out.Done, a0.Out.Split, a0.Out.Unposted, a0.Out.Dead, a0.Out.More, a0.Out.To, a0.Out.Entries, v3, a0.Out.Hops, a0.Out.Fresh, a0.Out.Height⟩ : btree_Out), a0.RootPage, a0.Root, a0.Ended⟩ : btree_run))
  else none
theorem btree_run_fail_le (a0 : btree_run) (a1 : Int) (a2 : (List Int)) : LeO (btree_run_fail_c a0 a1 a2) (btree_run_fail a0 a1 a2) := by
  rw [btree_run_fail_c, btree_run_fail]
  repeat' (first | exact LeO.refl _ | apply LeO.none | apply slices_Sort_le | apply slices_Compact_le | apply LeO.bind | apply LeO.ite | apply LeO.map | apply LeO.iter | intro _)
def pointer_Unpack_c (a0 : Int) : Option pointer_Pointer :=
  some (⟨(IntKind.i64.wrap (bits .and .u32 a0 255)), (IntKind.i64.wrap (shrV .u32 a0 8))⟩ : pointer_Pointer)
theorem pointer_Unpack_le (a0 : Int) : LeO (pointer_Unpack_c a0) (pointer_Unpack a0) := by
  rw [pointer_Unpack_c, pointer_Unpack]
  repeat' (first | exact LeO.refl _ | apply LeO.none | apply LeO.bind | apply LeO.ite | apply LeO.map | apply LeO.iter | intro _)
def btree_validRoot_c (a0 : pointer_Pointer) (a1 : Int) : Option Bool :=
  if ((a0.Line == 0) && (a0.Gen == 0)) = true then
    some (a1 == 0)
  else
    (pointer_Valid_c a0).bind fun v3 =>
    some (v3 && ((decide (a1 ≥ 0)) && (decide (a1 ≤ 8))))
theorem btree_validRoot_le (a0 : pointer_Pointer) (a1 : Int) : LeO (btree_validRoot_c a0 a1) (btree_validRoot a0 a1) := by
  rw [btree_validRoot_c, btree_validRoot]
  repeat' (first | exact LeO.refl _ | apply LeO.none | apply pointer_Valid_le | apply LeO.bind | apply LeO.ite | apply LeO.map | apply LeO.iter | intro _)
def btree_ReadRoot_c (a0 : api_Page) : Option (pointer_Pointer × Int × Int) :=
  if (a0.Line != 96) = true then
    some ((⟨0, 0⟩ : pointer_Pointer), 0, 1)
  else
    (pointer_Unpack_c (IntKind.u32.wrap a0.Data.a0)).bind fun v3 =>
    (btree_validRoot_c v3 (IntKind.i64.wrap (shrV .u64 a0.Data.a0 32))).bind fun v6 =>
    if (!v6) = true then
      some ((⟨0, 0⟩ : pointer_Pointer), 0, 14)
    else
      some (v3, (IntKind.i64.wrap (shrV .u64 a0.Data.a0 32)), 0)
theorem btree_ReadRoot_le (a0 : api_Page) : LeO (btree_ReadRoot_c a0) (btree_ReadRoot a0) := by
  rw [btree_ReadRoot_c, btree_ReadRoot]
  repeat' (first | exact LeO.refl _ | apply LeO.none | apply pointer_Unpack_le | apply btree_validRoot_le | apply LeO.bind | apply LeO.ite | apply LeO.map | apply LeO.iter | intro _)
def btree_run_readRoot_J1_c (v1 : (api_Page × Bool)) (a0 : btree_run) : Unit → Option (Bool × btree_run)
  | () =>
    (btree_ReadRoot_c v1.1).bind fun v10 =>
    if (v10.2.2 != 0) = true then
      (btree_run_fail_c a0 v10.2.2 ([] : List Int)).bind fun v14 =>
      some (v14.1, v14.2)
    else
      some (true, (⟨a0.Op, a0.Known, a0.Need, a0.Writes, a0.Out, v1.1, v10.1, a0.Ended⟩ : btree_run))
theorem btree_run_readRoot_J1_le (v1 : (api_Page × Bool)) (a0 : btree_run) : ∀ x, LeO (btree_run_readRoot_J1_c v1 a0 x) (btree_run_readRoot_J1 v1 a0 x) := by
  rintro ⟨⟩
  rw [btree_run_readRoot_J1_c, btree_run_readRoot_J1]
  repeat' (first | exact LeO.refl _ | apply LeO.none | apply btree_ReadRoot_le | apply btree_run_fail_le | apply LeO.bind | apply LeO.ite | apply LeO.map | apply LeO.iter | intro _)
def btree_run_readRoot_c (a0 : btree_run) : Option (Bool × btree_run) :=
  (pointer_Latest_c a0.Known 96).bind fun v1 =>
  if (!v1.2) = true then
    (btree_run_wait_c a0 96).bind fun v5 =>
    some (v5.1, v5.2)
  else
    if (a0.Op.Kind == 6) = true then
      (pointer_Locked_c v1.1).bind fun v16 =>
      if v16 = true then
        (btree_run_fail_c a0 3 ([] : List Int)).bind fun v18 =>
        some (v18.1, v18.2)
      else
        btree_run_readRoot_J1_c v1 a0 ()
    else
      btree_run_readRoot_J1_c v1 a0 ()
theorem btree_run_readRoot_le (a0 : btree_run) : LeO (btree_run_readRoot_c a0) (btree_run_readRoot a0) := by
  rw [btree_run_readRoot_c, btree_run_readRoot]
  repeat' (first | exact LeO.refl _ | apply LeO.none | apply pointer_Latest_le | apply btree_run_wait_le | apply pointer_Locked_le | apply btree_run_fail_le | apply btree_run_readRoot_J1_le | apply LeO.bind | apply LeO.ite | apply LeO.map | apply LeO.iter | intro _)
def pointer_UnpackTag_c (a0 : Int) : Option pointer_Tag :=
  some (⟨(IntKind.i64.wrap (bits .and .u64 a0 255)), (IntKind.i64.wrap (bits .and .u64 (shrV .u64 a0 8) 16777215)), (IntKind.u32.wrap (shrV .u64 a0 32))⟩ : pointer_Tag)
theorem pointer_UnpackTag_le (a0 : Int) : LeO (pointer_UnpackTag_c a0) (pointer_UnpackTag a0) := by
  rw [pointer_UnpackTag_c, pointer_UnpackTag]
  repeat' (first | exact LeO.refl _ | apply LeO.none | apply LeO.bind | apply LeO.ite | apply LeO.map | apply LeO.iter | intro _)
def pointer_tagOf_c (a0 : api_Page) : Option pointer_Tag :=
  (pointer_UnpackTag_c a0.Data.a0).bind fun v1 =>
  some v1
theorem pointer_tagOf_le (a0 : api_Page) : LeO (pointer_tagOf_c a0) (pointer_tagOf a0) := by
  rw [pointer_tagOf_c, pointer_tagOf]
  repeat' (first | exact LeO.refl _ | apply LeO.none | apply pointer_UnpackTag_le | apply LeO.bind | apply LeO.ite | apply LeO.map | apply LeO.iter | intro _)
def pointer_PackTag_c (a0 : pointer_Tag) : Option Int :=
  some (bits .or .u64 (bits .or .u64 (bits .and .u64 (IntKind.u64.wrap a0.Kind) 255) (shlV .u64 (bits .and .u64 (IntKind.u64.wrap a0.Gen) 16777215) 8)) (shlV .u64 (IntKind.u64.wrap a0.Aux) 32))
theorem pointer_PackTag_le (a0 : pointer_Tag) : LeO (pointer_PackTag_c a0) (pointer_PackTag a0) := by
  rw [pointer_PackTag_c, pointer_PackTag]
  repeat' (first | exact LeO.refl _ | apply LeO.none | apply LeO.bind | apply LeO.ite | apply LeO.map | apply LeO.iter | intro _)
def pointer_tagged_c (a0 : api_Page) (a1 : pointer_Tag) : Option api_Page :=
  (pointer_PackTag_c a1).bind fun v1 =>
  some (⟨a0.Line, a0.Head, (⟨v1, 0, 0, 0, 0, 0, 0⟩ : (A7 Int))⟩ : api_Page)
theorem pointer_tagged_le (a0 : api_Page) (a1 : pointer_Tag) : LeO (pointer_tagged_c a0 a1) (pointer_tagged a0 a1) := by
  rw [pointer_tagged_c, pointer_tagged]
  repeat' (first | exact LeO.refl _ | apply LeO.none | apply pointer_PackTag_le | apply LeO.bind | apply LeO.ite | apply LeO.map | apply LeO.iter | intro _)
def pointer_Allocate_c (a0 : api_Page) (a1 : Int) (a2 : Int) : Option (api_Page × Int) :=
  (pointer_tagOf_c a0).bind fun v1 =>
  (pointer_inHeap_c a0.Line).bind fun v10 =>
  if (!v10) = true then
    some ((⟨0, 0, (⟨0, 0, 0, 0, 0, 0, 0⟩ : (A7 Int))⟩ : api_Page), 1)
  else
    if (decide (a1 < 1)) = true then
      some ((⟨0, 0, (⟨0, 0, 0, 0, 0, 0, 0⟩ : (A7 Int))⟩ : api_Page), 1)
    else
      if (decide (a1 > 4)) = true then
        some ((⟨0, 0, (⟨0, 0, 0, 0, 0, 0, 0⟩ : (A7 Int))⟩ : api_Page), 1)
      else
        (pointer_Locked_c a0).bind fun v14 =>
        if v14 = true then
          some ((⟨0, 0, (⟨0, 0, 0, 0, 0, 0, 0⟩ : (A7 Int))⟩ : api_Page), 3)
        else
          if (v1.Kind != 0) = true then
            some ((⟨0, 0, (⟨0, 0, 0, 0, 0, 0, 0⟩ : (A7 Int))⟩ : api_Page), 17)
          else
            if (v1.Gen == 16777215) = true then
              some ((⟨0, 0, (⟨0, 0, 0, 0, 0, 0, 0⟩ : (A7 Int))⟩ : api_Page), 18)
            else
              (pointer_tagged_c a0 (⟨a1, (IntKind.i64.wrap (v1.Gen + 1)), a2⟩ : pointer_Tag)).bind fun v18 =>
              some (v18, 0)
theorem pointer_Allocate_le (a0 : api_Page) (a1 : Int) (a2 : Int) : LeO (pointer_Allocate_c a0 a1 a2) (pointer_Allocate a0 a1 a2) := by
  rw [pointer_Allocate_c, pointer_Allocate]
  repeat' (first | exact LeO.refl _ | apply LeO.none | apply pointer_tagOf_le | apply pointer_inHeap_le | apply pointer_Locked_le | apply pointer_tagged_le | apply LeO.bind | apply LeO.ite | apply LeO.map | apply LeO.iter | intro _)
def slices_Index_L1_c (a0 : (List Int)) (a1 : Int) (x12 : Int) : Option (Int ⊕ Int) :=
    if (decide (x12 < (a0.length : Int))) = true then
      (idx a0 x12).bind fun e15 =>
      if (a1 == e15) = true then
        Option.map Sum.inr (
          some x12)
      else
        some (.inl (IntKind.i64.wrap (x12 + 1)))
    else
      Option.map Sum.inr (
        some (-1))
theorem slices_Index_L1_le (a0 : (List Int)) (a1 : Int) (x12 : Int) : LeO (slices_Index_L1_c a0 a1 x12) (slices_Index_L1 a0 a1 x12) := by
  rw [slices_Index_L1_c, slices_Index_L1]
  repeat' (first | exact LeO.refl _ | apply LeO.none | apply LeO.bind | apply LeO.ite | apply LeO.map | apply LeO.iter | intro _)
def slices_Index_c (a0 : (List Int)) (a1 : Int) : Option Int :=
  iterF (slices_Index_L1_c a0 a1) 0
theorem slices_Index_le (a0 : (List Int)) (a1 : Int) : LeO (slices_Index_c a0 a1) (slices_Index a0 a1) := by
  rw [slices_Index_c, slices_Index]
  repeat' (first | exact LeO.refl _ | apply LeO.none | apply slices_Index_L1_le | apply LeO.bind | apply LeO.ite | apply LeO.map | apply LeO.iter | intro _)
def slices_Contains_c (a0 : (List Int)) (a1 : Int) : Option Bool :=
  (slices_Index_c a0 a1).bind fun v1 =>
  some (decide (v1 ≥ 0))
theorem slices_Contains_le (a0 : (List Int)) (a1 : Int) : LeO (slices_Contains_c a0 a1) (slices_Contains a0 a1) := by
  rw [slices_Contains_c, slices_Contains]
  repeat' (first | exact LeO.refl _ | apply LeO.none | apply slices_Index_le | apply LeO.bind | apply LeO.ite | apply LeO.map | apply LeO.iter | intro _)
def btree_run_fresh_c (a0 : btree_run) (a1 : (List Int)) : Option (api_Page × Bool × btree_run) :=
  if ((a0.Op.Fresh.length : Int) == 0) = true then
    (btree_run_fail_c (⟨a0.Op, a0.Known, a0.Need, a0.Writes, (⟨a0.Out.Code, a0.Out.Found, a0.Out.Done, a0.Out.Split, a0.Out.Unposted, a0.Out.Dead, a0.Out.More, a0.Out.To, a0.Out.Entries, a0.Out.Check, a0.Out.Hops, 1, a0.Out.Height⟩ : btree_Out), a0.RootPage, a0.Root, a0.Ended⟩ : btree_run) 18 ([] : List Int)).bind fun v4 =>
    some ((⟨0, 0, (⟨0, 0, 0, 0, 0, 0, 0⟩ : (A7 Int))⟩ : api_Page), v4.1, v4.2)
  else
    (idx a0.Op.Fresh 0).bind fun e5 =>
    (pointer_Allocate_c e5 4 0).bind fun v6 =>
    if (v6.2 != 0) = true then
      (btree_run_fail_c a0 1 ([] : List Int)).bind fun v8 =>
      some ((⟨0, 0, (⟨0, 0, 0, 0, 0, 0, 0⟩ : (A7 Int))⟩ : api_Page), v8.1, v8.2)
    else
      (slices_Contains_c a1 v6.1.Line).bind fun v9 =>
      if v9 = true then
        (btree_run_fail_c a0 1 ([] : List Int)).bind fun v11 =>
        some ((⟨0, 0, (⟨0, 0, 0, 0, 0, 0, 0⟩ : (A7 Int))⟩ : api_Page), v11.1, v11.2)
      else
        some (v6.1, true, a0)
theorem btree_run_fresh_le (a0 : btree_run) (a1 : (List Int)) : LeO (btree_run_fresh_c a0 a1) (btree_run_fresh a0 a1) := by
  rw [btree_run_fresh_c, btree_run_fresh]
  repeat' (first | exact LeO.refl _ | apply LeO.none | apply btree_run_fail_le | apply pointer_Allocate_le | apply slices_Contains_le | apply LeO.bind | apply LeO.ite | apply LeO.map | apply LeO.iter | intro _)
def pointer_At_c (a0 : api_Page) : Option pointer_Pointer :=
  (pointer_tagOf_c a0).bind fun v1 =>
  some (⟨a0.Line, v1.Gen⟩ : pointer_Pointer)
theorem pointer_At_le (a0 : api_Page) : LeO (pointer_At_c a0) (pointer_At a0) := by
  rw [pointer_At_c, pointer_At]
  repeat' (first | exact LeO.refl _ | apply LeO.none | apply pointer_tagOf_le | apply LeO.bind | apply LeO.ite | apply LeO.map | apply LeO.iter | intro _)
def pointer_Pack_c (a0 : pointer_Pointer) : Option Int :=
  (pointer_Valid_c a0).bind fun v3 =>
  if (!v3) = true then
    some 0
  else
    some (bits .or .u32 (shlV .u32 (IntKind.u32.wrap a0.Gen) 8) (IntKind.u32.wrap a0.Line))
theorem pointer_Pack_le (a0 : pointer_Pointer) : LeO (pointer_Pack_c a0) (pointer_Pack a0) := by
  rw [pointer_Pack_c, pointer_Pack]
  repeat' (first | exact LeO.refl _ | apply LeO.none | apply pointer_Valid_le | apply LeO.bind | apply LeO.ite | apply LeO.map | apply LeO.iter | intro _)
def btree_WriteRoot_c (a0 : api_Page) (a1 : pointer_Pointer) (a2 : Int) : Option (api_Page × Int) :=
  if (a0.Line != 96) = true then
    some ((⟨0, 0, (⟨0, 0, 0, 0, 0, 0, 0⟩ : (A7 Int))⟩ : api_Page), 1)
  else
    (btree_validRoot_c a1 a2).bind fun v5 =>
    if (!v5) = true then
      some ((⟨0, 0, (⟨0, 0, 0, 0, 0, 0, 0⟩ : (A7 Int))⟩ : api_Page), 1)
    else
      (pointer_Pack_c a1).bind fun v7 =>
      some ((⟨a0.Line, a0.Head, (⟨(bits .or .u64 (IntKind.u64.wrap v7) (shlV .u64 (IntKind.u64.wrap a2) 32)), a0.Data.a1, a0.Data.a2, a0.Data.a3, a0.Data.a4, a0.Data.a5, a0.Data.a6⟩ : (A7 Int))⟩ : api_Page), 0)
theorem btree_WriteRoot_le (a0 : api_Page) (a1 : pointer_Pointer) (a2 : Int) : LeO (btree_WriteRoot_c a0 a1 a2) (btree_WriteRoot a0 a1 a2) := by
  rw [btree_WriteRoot_c, btree_WriteRoot]
  repeat' (first | exact LeO.refl _ | apply LeO.none | apply btree_validRoot_le | apply pointer_Pack_le | apply LeO.bind | apply LeO.ite | apply LeO.map | apply LeO.iter | intro _)
def btree_Node_fill_L1_c (a0 : btree_Node) (a1 : api_Page) : ((A7 Int) × Int) → Option (((A7 Int) × Int) ⊕ api_Page)
  | (x24, x25) =>
    if (decide (x25 < (a0.Entries.length : Int))) = true then
      (idx a0.Entries x25).bind fun e28 =>
      (pointer_Pack_c e28.To).bind fun v29 =>
      if 0 ≤ (IntKind.i64.wrap (2 + x25)) ∧ (IntKind.i64.wrap (2 + x25)) < 7 then
        some (.inl ((A7.set x24 (IntKind.i64.wrap (2 + x25)) (bits .or .u64 (shlV .u64 (IntKind.u64.wrap e28.Key) 32) (IntKind.u64.wrap v29))), (IntKind.i64.wrap (x25 + 1))))
      else none
    else
      Option.map Sum.inr (
        some (⟨a1.Line, a1.Head, x24⟩ : api_Page))
theorem btree_Node_fill_L1_le (a0 : btree_Node) (a1 : api_Page) : ∀ x, LeO (btree_Node_fill_L1_c a0 a1 x) (btree_Node_fill_L1 a0 a1 x) := by
  rintro ⟨x24, x25⟩
  rw [btree_Node_fill_L1_c, btree_Node_fill_L1]
  repeat' (first | exact LeO.refl _ | apply LeO.none | apply pointer_Pack_le | apply LeO.bind | apply LeO.ite | apply LeO.map | apply LeO.iter | intro _)
def btree_Node_fill_J2_c (v1 : pointer_Tag) (a0 : btree_Node) (a1 : api_Page) (x5 : Int) : Option api_Page :=
    (pointer_PackTag_c (⟨v1.Kind, v1.Gen, x5⟩ : pointer_Tag)).bind fun v6 =>
    (pointer_Pack_c a0.Right).bind fun v7 =>
    iterF (btree_Node_fill_L1_c a0 a1) ((⟨v6, (bits .or .u64 (IntKind.u64.wrap a0.High) (shlV .u64 (IntKind.u64.wrap v7) 32)), 0, 0, 0, 0, 0⟩ : (A7 Int)), 0)
theorem btree_Node_fill_J2_le (v1 : pointer_Tag) (a0 : btree_Node) (a1 : api_Page) (x5 : Int) : LeO (btree_Node_fill_J2_c v1 a0 a1 x5) (btree_Node_fill_J2 v1 a0 a1 x5) := by
  rw [btree_Node_fill_J2_c, btree_Node_fill_J2]
  repeat' (first | exact LeO.refl _ | apply LeO.none | apply pointer_PackTag_le | apply pointer_Pack_le | apply btree_Node_fill_L1_le | apply LeO.bind | apply LeO.ite | apply LeO.map | apply LeO.iter | intro _)
def btree_Node_fill_J1_c (v1 : pointer_Tag) (a0 : btree_Node) (a1 : api_Page) (x3 : Int) : Option api_Page :=
    btree_Node_fill_J2_c v1 a0 a1 (if a0.Dead = true then (bits .or .u32 x3 131072) else x3)
theorem btree_Node_fill_J1_le (v1 : pointer_Tag) (a0 : btree_Node) (a1 : api_Page) (x3 : Int) : LeO (btree_Node_fill_J1_c v1 a0 a1 x3) (btree_Node_fill_J1 v1 a0 a1 x3) := by
  rw [btree_Node_fill_J1_c, btree_Node_fill_J1]
  repeat' (first | exact LeO.refl _ | apply LeO.none | apply btree_Node_fill_J2_le | apply LeO.bind | apply LeO.ite | apply LeO.map | apply LeO.iter | intro _)
def btree_Node_fill_c (a0 : btree_Node) (a1 : api_Page) : Option api_Page :=
  (pointer_UnpackTag_c a1.Data.a0).bind fun v1 =>
  if a0.Leftmost = true then
    btree_Node_fill_J1_c v1 a0 a1 (bits .or .u32 (bits .or .u32 (IntKind.u32.wrap a0.Level) (shlV .u32 (IntKind.u32.wrap (a0.Entries.length : Int)) 8)) 65536)
  else
    btree_Node_fill_J1_c v1 a0 a1 (bits .or .u32 (IntKind.u32.wrap a0.Level) (shlV .u32 (IntKind.u32.wrap (a0.Entries.length : Int)) 8))
theorem btree_Node_fill_le (a0 : btree_Node) (a1 : api_Page) : LeO (btree_Node_fill_c a0 a1) (btree_Node_fill a0 a1) := by
  rw [btree_Node_fill_c, btree_Node_fill]
  repeat' (first | exact LeO.refl _ | apply LeO.none | apply pointer_UnpackTag_le | apply btree_Node_fill_J1_le | apply LeO.bind | apply LeO.ite | apply LeO.map | apply LeO.iter | intro _)
def btree_run_done_c (a0 : btree_run) (a1 : (List api_Page)) (a2 : (List Int)) : Option btree_run :=
  (btree_run_fail_c (⟨a0.Op, a0.Known, a0.Need, a1, (⟨a0.Out.Code, a0.Out.Found, true, a0.Out.Split, a0.Out.Unposted, a0.Out.Dead, a0.Out.More, a0.Out.To, a0.Out.Entries, a0.Out.Check, a0.Out.Hops, a0.Out.Fresh, a0.Out.Height⟩ : btree_Out), a0.RootPage, a0.Root, a0.Ended⟩ : btree_run) 0 a2).bind fun v1 =>
  some v1.2
theorem btree_run_done_le (a0 : btree_run) (a1 : (List api_Page)) (a2 : (List Int)) : LeO (btree_run_done_c a0 a1 a2) (btree_run_done a0 a1 a2) := by
  rw [btree_run_done_c, btree_run_done]
  repeat' (first | exact LeO.refl _ | apply LeO.none | apply btree_run_fail_le | apply LeO.bind | apply LeO.ite | apply LeO.map | apply LeO.iter | intro _)
def btree_run_plant_c (a0 : btree_run) (a1 : hashindex_Entry) : Option btree_run :=
  (pointer_Locked_c a0.RootPage).bind fun v4 =>
  if v4 = true then
    (btree_run_fail_c a0 3 ([] : List Int)).bind fun v6 =>
    some v6.2
  else
    (btree_run_fresh_c a0 []).bind fun v7 =>
    if (!v7.2.1) = true then
      some v7.2.2
    else
      (pointer_At_c v7.1).bind fun v10 =>
      (btree_WriteRoot_c v7.2.2.RootPage v10 0).bind fun v11 =>
      (btree_Node_fill_c (⟨0, true, false, 4294967295, (⟨0, 0⟩ : pointer_Pointer), ([a1] : List hashindex_Entry)⟩ : btree_Node) v7.1).bind fun v12 =>
      (btree_run_done_c v7.2.2 ([v11.1, v12] : List api_Page) ([] : List Int)).bind fun v13 =>
      some v13
theorem btree_run_plant_le (a0 : btree_run) (a1 : hashindex_Entry) : LeO (btree_run_plant_c a0 a1) (btree_run_plant a0 a1) := by
  rw [btree_run_plant_c, btree_run_plant]
  repeat' (first | exact LeO.refl _ | apply LeO.none | apply pointer_Locked_le | apply btree_run_fail_le | apply btree_run_fresh_le | apply pointer_At_le | apply btree_WriteRoot_le | apply btree_Node_fill_le | apply btree_run_done_le | apply LeO.bind | apply LeO.ite | apply LeO.map | apply LeO.iter | intro _)
def pointer_lookup_c (a0 : (List api_Page)) (a1 : pointer_Pointer) (a2 : Int) (a3 : Bool) : Option (api_Page × Bool × Int) :=
  (pointer_Valid_c a1).bind fun v3 =>
  if (!v3) = true then
    some ((⟨0, 0, (⟨0, 0, 0, 0, 0, 0, 0⟩ : (A7 Int))⟩ : api_Page), false, 1)
  else
    (pointer_Latest_c a0 a1.Line).bind fun v5 =>
    if (!v5.2) = true then
      some ((⟨0, 0, (⟨0, 0, 0, 0, 0, 0, 0⟩ : (A7 Int))⟩ : api_Page), false, 0)
    else
      (pointer_tagOf_c v5.1).bind fun v8 =>
      if a3 = true then
        (pointer_Locked_c v5.1).bind fun v10 =>
        if v10 = true then
          some ((⟨0, 0, (⟨0, 0, 0, 0, 0, 0, 0⟩ : (A7 Int))⟩ : api_Page), false, 3)
        else
          if (v8.Kind == 0) = true then
            some ((⟨0, 0, (⟨0, 0, 0, 0, 0, 0, 0⟩ : (A7 Int))⟩ : api_Page), false, 11)
          else
            if (v8.Gen != a1.Gen) = true then
              some ((⟨0, 0, (⟨0, 0, 0, 0, 0, 0, 0⟩ : (A7 Int))⟩ : api_Page), false, 11)
            else
              if (v8.Kind != a2) = true then
                some ((⟨0, 0, (⟨0, 0, 0, 0, 0, 0, 0⟩ : (A7 Int))⟩ : api_Page), false, 14)
              else
                some (v5.1, true, 0)
      else
        if (v8.Kind == 0) = true then
          some ((⟨0, 0, (⟨0, 0, 0, 0, 0, 0, 0⟩ : (A7 Int))⟩ : api_Page), false, 11)
        else
          if (v8.Gen != a1.Gen) = true then
            some ((⟨0, 0, (⟨0, 0, 0, 0, 0, 0, 0⟩ : (A7 Int))⟩ : api_Page), false, 11)
          else
            if (v8.Kind != a2) = true then
              some ((⟨0, 0, (⟨0, 0, 0, 0, 0, 0, 0⟩ : (A7 Int))⟩ : api_Page), false, 14)
            else
              some (v5.1, true, 0)
theorem pointer_lookup_le (a0 : (List api_Page)) (a1 : pointer_Pointer) (a2 : Int) (a3 : Bool) : LeO (pointer_lookup_c a0 a1 a2 a3) (pointer_lookup a0 a1 a2 a3) := by
  rw [pointer_lookup_c, pointer_lookup]
  repeat' (first | exact LeO.refl _ | apply LeO.none | apply pointer_Valid_le | apply pointer_Latest_le | apply pointer_tagOf_le | apply pointer_Locked_le | apply LeO.bind | apply LeO.ite | apply LeO.map | apply LeO.iter | intro _)
def pointer_Peek_c (a0 : (List api_Page)) (a1 : pointer_Pointer) (a2 : Int) : Option (api_Page × Bool × Int) :=
  (pointer_lookup_c a0 a1 a2 false).bind fun v1 =>
  some (v1.1, v1.2.1, v1.2.2)
theorem pointer_Peek_le (a0 : (List api_Page)) (a1 : pointer_Pointer) (a2 : Int) : LeO (pointer_Peek_c a0 a1 a2) (pointer_Peek a0 a1 a2) := by
  rw [pointer_Peek_c, pointer_Peek]
  repeat' (first | exact LeO.refl _ | apply LeO.none | apply pointer_lookup_le | apply LeO.bind | apply LeO.ite | apply LeO.map | apply LeO.iter | intro _)
def btree_rising_L1_c (a0 : (List hashindex_Entry)) : (Int × Int) → Option ((Int × Int) ⊕ Bool)
  | (x19, x20) =>
    if (decide (x20 < (a0.length : Int))) = true then
      (idx a0 x20).bind fun e23 =>
      if (decide (e23.Key ≤ x19)) = true then
        Option.map Sum.inr (
          some false)
      else
        (pointer_Valid_c e23.To).bind fun v25 =>
        if (!v25) = true then
          Option.map Sum.inr (
            some false)
        else
          some (.inl (e23.Key, (IntKind.i64.wrap (x20 + 1))))
    else
      Option.map Sum.inr (
        some true)
theorem btree_rising_L1_le (a0 : (List hashindex_Entry)) : ∀ x, LeO (btree_rising_L1_c a0 x) (btree_rising_L1 a0 x) := by
  rintro ⟨x19, x20⟩
  rw [btree_rising_L1_c, btree_rising_L1]
  repeat' (first | exact LeO.refl _ | apply LeO.none | apply pointer_Valid_le | apply LeO.bind | apply LeO.ite | apply LeO.map | apply LeO.iter | intro _)
def btree_rising_c (a0 : (List hashindex_Entry)) : Option Bool :=
  iterF (btree_rising_L1_c a0) (0, 0)
theorem btree_rising_le (a0 : (List hashindex_Entry)) : LeO (btree_rising_c a0) (btree_rising a0) := by
  rw [btree_rising_c, btree_rising]
  repeat' (first | exact LeO.refl _ | apply LeO.none | apply btree_rising_L1_le | apply LeO.bind | apply LeO.ite | apply LeO.map | apply LeO.iter | intro _)
def btree_Node_valid_J3_c (x20 : Int) (a0 : btree_Node) : Unit → Option Bool
  | () =>
    some ((decide (x20 ≤ a0.High)) && (decide (x20 ≤ 4294967294)))
theorem btree_Node_valid_J3_le (x20 : Int) (a0 : btree_Node) : ∀ x, LeO (btree_Node_valid_J3_c x20 a0 x) (btree_Node_valid_J3 x20 a0 x) := by
  rintro ⟨⟩
  rw [btree_Node_valid_J3_c, btree_Node_valid_J3]
  repeat' (first | exact LeO.refl _ | apply LeO.none | apply LeO.bind | apply LeO.ite | apply LeO.map | apply LeO.iter | intro _)
def btree_Node_valid_J2_c (a0 : btree_Node) (x20 : Int) : Option Bool :=
    if (decide (a0.Level > 0)) = true then
      some ((!a0.Dead) && (x20 == a0.High))
    else
      if a0.Dead = true then
        if (decide ((a0.Entries.length : Int) > 0)) = true then
          some false
        else
          if a0.Leftmost = true then
            some false
          else
            if ((a0.Right.Line == 0) && (a0.Right.Gen == 0)) = true then
              some false
            else
              btree_Node_valid_J3_c x20 a0 ()
      else
        btree_Node_valid_J3_c x20 a0 ()
theorem btree_Node_valid_J2_le (a0 : btree_Node) (x20 : Int) : LeO (btree_Node_valid_J2_c a0 x20) (btree_Node_valid_J2 a0 x20) := by
  rw [btree_Node_valid_J2_c, btree_Node_valid_J2]
  repeat' (first | exact LeO.refl _ | apply LeO.none | apply btree_Node_valid_J3_le | apply LeO.bind | apply LeO.ite | apply LeO.map | apply LeO.iter | intro _)
def btree_Node_valid_J1_c (a0 : btree_Node) : Unit → Option Bool
  | () =>
    if (decide ((a0.Entries.length : Int) > 0)) = true then
      (idx a0.Entries (IntKind.i64.wrap ((a0.Entries.length : Int) - 1))).bind fun e35 =>
      btree_Node_valid_J2_c a0 e35.Key
    else
      btree_Node_valid_J2_c a0 0
theorem btree_Node_valid_J1_le (a0 : btree_Node) : ∀ x, LeO (btree_Node_valid_J1_c a0 x) (btree_Node_valid_J1 a0 x) := by
  rintro ⟨⟩
  rw [btree_Node_valid_J1_c, btree_Node_valid_J1]
  repeat' (first | exact LeO.refl _ | apply LeO.none | apply btree_Node_valid_J2_le | apply LeO.bind | apply LeO.ite | apply LeO.map | apply LeO.iter | intro _)
def btree_Node_valid_c (a0 : btree_Node) : Option Bool :=
  if (decide (a0.Level < 0)) = true then
    some false
  else
    if (decide (a0.Level > 8)) = true then
      some false
    else
      if (decide ((a0.Entries.length : Int) > 5)) = true then
        some false
      else
        (btree_rising_c a0.Entries).bind fun v10 =>
        if (!v10) = true then
          some false
        else
          if (a0.High == 0) = true then
            some false
          else
            if (!((a0.Right.Line == 0) && (a0.Right.Gen == 0))) = true then
              (pointer_Valid_c a0.Right).bind fun v39 =>
              if (!v39) = true then
                some false
              else
                if (!((a0.High == 4294967295) == ((a0.Right.Line == 0) && (a0.Right.Gen == 0)))) = true then
                  some false
                else
                  btree_Node_valid_J1_c a0 ()
            else
              if (!((a0.High == 4294967295) == ((a0.Right.Line == 0) && (a0.Right.Gen == 0)))) = true then
                some false
              else
                btree_Node_valid_J1_c a0 ()
theorem btree_Node_valid_le (a0 : btree_Node) : LeO (btree_Node_valid_c a0) (btree_Node_valid a0) := by
  rw [btree_Node_valid_c, btree_Node_valid]
  repeat' (first | exact LeO.refl _ | apply LeO.none | apply btree_rising_le | apply pointer_Valid_le | apply btree_Node_valid_J1_le | apply LeO.bind | apply LeO.ite | apply LeO.map | apply LeO.iter | intro _)
def btree_ReadNode_J1_c (v1 : pointer_Tag) (a0 : api_Page) (v6 : pointer_Pointer) (l30 : List hashindex_Entry) : Option (btree_Node × Int) :=
    (btree_Node_valid_c (⟨(IntKind.i64.wrap (bits .and .u32 v1.Aux 255)), ((bits .and .u32 v1.Aux 65536) != 0), ((bits .and .u32 v1.Aux 131072) != 0), (IntKind.u32.wrap a0.Data.a1), v6, l30⟩ : btree_Node)).bind fun v31 =>
    if (!v31) = true then
      some ((⟨0, false, false, 0, (⟨0, 0⟩ : pointer_Pointer), ([] : List hashindex_Entry)⟩ : btree_Node), 14)
    else
      (btree_Node_fill_c (⟨(IntKind.i64.wrap (bits .and .u32 v1.Aux 255)), ((bits .and .u32 v1.Aux 65536) != 0), ((bits .and .u32 v1.Aux 131072) != 0), (IntKind.u32.wrap a0.Data.a1), v6, l30⟩ : btree_Node) a0).bind fun v33 =>
      if (!((v33.Data.a0 == a0.Data.a0) && ((v33.Data.a1 == a0.Data.a1) && ((v33.Data.a2 == a0.Data.a2) && ((v33.Data.a3 == a0.Data.a3) && ((v33.Data.a4 == a0.Data.a4) && ((v33.Data.a5 == a0.Data.a5) && (v33.Data.a6 == a0.Data.a6)))))))) = true then
        some ((⟨0, false, false, 0, (⟨0, 0⟩ : pointer_Pointer), ([] : List hashindex_Entry)⟩ : btree_Node), 14)
      else
        some ((⟨(IntKind.i64.wrap (bits .and .u32 v1.Aux 255)), ((bits .and .u32 v1.Aux 65536) != 0), ((bits .and .u32 v1.Aux 131072) != 0), (IntKind.u32.wrap a0.Data.a1), v6, l30⟩ : btree_Node), 0)
theorem btree_ReadNode_J1_le (v1 : pointer_Tag) (a0 : api_Page) (v6 : pointer_Pointer) (l30 : List hashindex_Entry) : LeO (btree_ReadNode_J1_c v1 a0 v6 l30) (btree_ReadNode_J1 v1 a0 v6 l30) := by
  rw [btree_ReadNode_J1_c, btree_ReadNode_J1]
  repeat' (first | exact LeO.refl _ | apply LeO.none | apply btree_Node_valid_le | apply btree_Node_fill_le | apply LeO.bind | apply LeO.ite | apply LeO.map | apply LeO.iter | intro _)
def btree_ReadNode_L1_c (v1 : pointer_Tag) (a0 : api_Page) (v6 : pointer_Pointer) : (List hashindex_Entry × Int) → Option ((List hashindex_Entry × Int) ⊕ (btree_Node × Int))
  | (l51, x52) =>
    if (decide (x52 < (((IntKind.i64.wrap (2 + (IntKind.i64.wrap (bits .and .u32 (shrV .u32 v1.Aux 8) 255)))) - 2).toNat : Int))) = true then
      if 0 ≤ x52 ∧ x52 < ((IntKind.i64.wrap (2 + (IntKind.i64.wrap (bits .and .u32 (shrV .u32 v1.Aux 8) 255)))) - 2).toNat ∧ x52 < 5 then
        (pointer_Unpack_c (IntKind.u32.wrap (A5.get (⟨a0.Data.a2, a0.Data.a3, a0.Data.a4, a0.Data.a5, a0.Data.a6⟩ : A5 Int) x52))).bind fun v57 =>
        if (l51.length + 1) * 24 ≤ maxRows ∧ l51.length + 1 ≤ maxRows then
          some (.inl ((l51 ++ ([(⟨(IntKind.u32.wrap (shrV .u64 (A5.get (⟨a0.Data.a2, a0.Data.a3, a0.Data.a4, a0.Data.a5, a0.Data.a6⟩ : A5 Int) x52) 32)), v57⟩ : hashindex_Entry)] : List hashindex_Entry)), (IntKind.i64.wrap (x52 + 1))))
        else none
      else none
    else
      Option.map Sum.inr (
        btree_ReadNode_J1_c v1 a0 v6 l51)
theorem btree_ReadNode_L1_le (v1 : pointer_Tag) (a0 : api_Page) (v6 : pointer_Pointer) : ∀ x, LeO (btree_ReadNode_L1_c v1 a0 v6 x) (btree_ReadNode_L1 v1 a0 v6 x) := by
  rintro ⟨l51, x52⟩
  rw [btree_ReadNode_L1_c, btree_ReadNode_L1]
  repeat' (first | exact LeO.refl _ | apply LeO.none | apply pointer_Unpack_le | apply btree_ReadNode_J1_le | apply LeO.bind | apply LeO.ite | apply LeO.map | apply LeO.iter | intro _)
def btree_ReadNode_c (a0 : api_Page) : Option (btree_Node × Int) :=
  (pointer_UnpackTag_c a0.Data.a0).bind fun v1 =>
  if (v1.Kind != 4) = true then
    some ((⟨0, false, false, 0, (⟨0, 0⟩ : pointer_Pointer), ([] : List hashindex_Entry)⟩ : btree_Node), 14)
  else
    if (decide ((IntKind.i64.wrap (bits .and .u32 (shrV .u32 v1.Aux 8) 255)) > 5)) = true then
      some ((⟨0, false, false, 0, (⟨0, 0⟩ : pointer_Pointer), ([] : List hashindex_Entry)⟩ : btree_Node), 14)
    else
      (pointer_Unpack_c (IntKind.u32.wrap (shrV .u64 a0.Data.a1 32))).bind fun v6 =>
      if 2 ≤ (IntKind.i64.wrap (2 + (IntKind.i64.wrap (bits .and .u32 (shrV .u32 v1.Aux 8) 255)))) ∧ (IntKind.i64.wrap (2 + (IntKind.i64.wrap (bits .and .u32 (shrV .u32 v1.Aux 8) 255)))) ≤ 7 then
        iterF (btree_ReadNode_L1_c v1 a0 v6) (([] : List hashindex_Entry), 0)
      else none
theorem btree_ReadNode_le (a0 : api_Page) : LeO (btree_ReadNode_c a0) (btree_ReadNode a0) := by
  rw [btree_ReadNode_c, btree_ReadNode]
  repeat' (first | exact LeO.refl _ | apply LeO.none | apply pointer_UnpackTag_le | apply pointer_Unpack_le | apply btree_ReadNode_L1_le | apply LeO.bind | apply LeO.ite | apply LeO.map | apply LeO.iter | intro _)
def btree_run_look_c (a0 : btree_run) (a1 : pointer_Pointer) : Option (btree_found × Bool × btree_run) :=
  (pointer_Peek_c a0.Known a1 4).bind fun v1 =>
  if (v1.2.2 != 0) = true then
    (btree_run_fail_c a0 v1.2.2 ([] : List Int)).bind fun v5 =>
    some ((⟨(⟨0, 0, (⟨0, 0, 0, 0, 0, 0, 0⟩ : (A7 Int))⟩ : api_Page), (⟨0, false, false, 0, (⟨0, 0⟩ : pointer_Pointer), ([] : List hashindex_Entry)⟩ : btree_Node)⟩ : btree_found), v5.1, v5.2)
  else
    if (!v1.2.1) = true then
      (btree_run_wait_c a0 a1.Line).bind fun v9 =>
      some ((⟨(⟨0, 0, (⟨0, 0, 0, 0, 0, 0, 0⟩ : (A7 Int))⟩ : api_Page), (⟨0, false, false, 0, (⟨0, 0⟩ : pointer_Pointer), ([] : List hashindex_Entry)⟩ : btree_Node)⟩ : btree_found), v9.1, v9.2)
    else
      (btree_ReadNode_c v1.1).bind fun v10 =>
      if (v10.2 != 0) = true then
        (btree_run_fail_c a0 v10.2 ([] : List Int)).bind fun v14 =>
        some ((⟨(⟨0, 0, (⟨0, 0, 0, 0, 0, 0, 0⟩ : (A7 Int))⟩ : api_Page), (⟨0, false, false, 0, (⟨0, 0⟩ : pointer_Pointer), ([] : List hashindex_Entry)⟩ : btree_Node)⟩ : btree_found), v14.1, v14.2)
      else
        some ((⟨v1.1, v10.1⟩ : btree_found), true, a0)
theorem btree_run_look_le (a0 : btree_run) (a1 : pointer_Pointer) : LeO (btree_run_look_c a0 a1) (btree_run_look a0 a1) := by
  rw [btree_run_look_c, btree_run_look]
  repeat' (first | exact LeO.refl _ | apply LeO.none | apply pointer_Peek_le | apply btree_run_fail_le | apply btree_run_wait_le | apply btree_ReadNode_le | apply LeO.bind | apply LeO.ite | apply LeO.map | apply LeO.iter | intro _)
def btree_run_neighbour_c (a0 : btree_run) (a1 : btree_Node) : Option (btree_found × Bool × btree_run) :=
  (btree_run_look_c a0 a1.Right).bind fun v1 =>
  if v1.2.1 = true then
    if (v1.1.Node.Level != a1.Level) = true then
      (btree_run_fail_c v1.2.2 14 ([] : List Int)).bind fun v4 =>
      some ((⟨(⟨0, 0, (⟨0, 0, 0, 0, 0, 0, 0⟩ : (A7 Int))⟩ : api_Page), (⟨0, false, false, 0, (⟨0, 0⟩ : pointer_Pointer), ([] : List hashindex_Entry)⟩ : btree_Node)⟩ : btree_found), v4.1, v4.2)
    else
      some (v1.1, v1.2.1, v1.2.2)
  else
    some (v1.1, v1.2.1, v1.2.2)
theorem btree_run_neighbour_le (a0 : btree_run) (a1 : btree_Node) : LeO (btree_run_neighbour_c a0 a1) (btree_run_neighbour a0 a1) := by
  rw [btree_run_neighbour_c, btree_run_neighbour]
  repeat' (first | exact LeO.refl _ | apply LeO.none | apply btree_run_look_le | apply btree_run_fail_le | apply LeO.bind | apply LeO.ite | apply LeO.map | apply LeO.iter | intro _)
def btree_run_descend_J2_c (x219 : Int) (x186 : Int) (x187 : Int) (x188 : Int) (x189 : pointer_Pointer) (x190 : Int) (x191 : Int) (l192 : List api_Page) (l193 : List api_Page) (l194 : List Int) (l195 : List api_Page) (x196 : Int) (b197 : Bool) (b198 : Bool) (b199 : Bool) (b222 : Bool) (b202 : Bool) (x203 : pointer_Pointer) (l204 : List hashindex_Entry) (l205 : List Int) (x206 : Int) (x207 : Int) (x208 : Int) (x209 : api_Page) (x210 : pointer_Pointer) (b211 : Bool) (x212 : api_Page) (x213 : Int) (b214 : Bool) (b215 : Bool) (x216 : Int) (x217 : pointer_Pointer) (l218 : List hashindex_Entry) (b224 : Bool) : Option ((Int × Int × Int × pointer_Pointer × Int × Int × List api_Page × List api_Page × List Int × List api_Page × Int × Bool × Bool × Bool × Bool × Bool × Bool × pointer_Pointer × List hashindex_Entry × List Int × Int × Int × Int × api_Page × pointer_Pointer × Bool × api_Page × Int × Bool × Bool × Int × pointer_Pointer × List hashindex_Entry × Int) ⊕ (btree_found × Bool × Bool × btree_run)) :=
    if (decide ((IntKind.i64.wrap (x219 + 1)) > 256)) = true then
      (btree_run_fail_c (⟨(⟨x186, x187, x188, x189, x190, x191, l192⟩ : btree_Op), l193, l194, l195, (⟨x196, b197, b198, b199, b224, b222, b202, x203, l204, l205, (IntKind.i64.wrap (x206 + 1)), x207, x208⟩ : btree_Out), x209, x210, b211⟩ : btree_run) 14 ([] : List Int)).bind fun v228 =>
      Option.map Sum.inr (
        some ((⟨x212, (⟨x213, b214, b215, x216, x217, l218⟩ : btree_Node)⟩ : btree_found), false, v228.1, v228.2))
    else
      (btree_run_neighbour_c (⟨(⟨x186, x187, x188, x189, x190, x191, l192⟩ : btree_Op), l193, l194, l195, (⟨x196, b197, b198, b199, b224, b222, b202, x203, l204, l205, (IntKind.i64.wrap (x206 + 1)), x207, x208⟩ : btree_Out), x209, x210, b211⟩ : btree_run) (⟨x213, b214, b215, x216, x217, l218⟩ : btree_Node)).bind fun v229 =>
      if (!v229.2.1) = true then
        Option.map Sum.inr (
          some (v229.1, false, false, v229.2.2))
      else
        some (.inl (v229.2.2.Op.Kind, v229.2.2.Op.Key, v229.2.2.Op.Last, v229.2.2.Op.To, v229.2.2.Op.Level, v229.2.2.Op.Limit, v229.2.2.Op.Fresh, v229.2.2.Known, v229.2.2.Need, v229.2.2.Writes, v229.2.2.Out.Code, v229.2.2.Out.Found, v229.2.2.Out.Done, v229.2.2.Out.Split, v229.2.2.Out.Unposted, v229.2.2.Out.Dead, v229.2.2.Out.More, v229.2.2.Out.To, v229.2.2.Out.Entries, v229.2.2.Out.Check, v229.2.2.Out.Hops, v229.2.2.Out.Fresh, v229.2.2.Out.Height, v229.2.2.RootPage, v229.2.2.Root, v229.2.2.Ended, v229.1.Page, v229.1.Node.Level, v229.1.Node.Leftmost, v229.1.Node.Dead, v229.1.Node.High, v229.1.Node.Right, v229.1.Node.Entries, (IntKind.i64.wrap (x219 + 1))))
theorem btree_run_descend_J2_le (x219 : Int) (x186 : Int) (x187 : Int) (x188 : Int) (x189 : pointer_Pointer) (x190 : Int) (x191 : Int) (l192 : List api_Page) (l193 : List api_Page) (l194 : List Int) (l195 : List api_Page) (x196 : Int) (b197 : Bool) (b198 : Bool) (b199 : Bool) (b222 : Bool) (b202 : Bool) (x203 : pointer_Pointer) (l204 : List hashindex_Entry) (l205 : List Int) (x206 : Int) (x207 : Int) (x208 : Int) (x209 : api_Page) (x210 : pointer_Pointer) (b211 : Bool) (x212 : api_Page) (x213 : Int) (b214 : Bool) (b215 : Bool) (x216 : Int) (x217 : pointer_Pointer) (l218 : List hashindex_Entry) (b224 : Bool) : LeO (btree_run_descend_J2_c x219 x186 x187 x188 x189 x190 x191 l192 l193 l194 l195 x196 b197 b198 b199 b222 b202 x203 l204 l205 x206 x207 x208 x209 x210 b211 x212 x213 b214 b215 x216 x217 l218 b224) (btree_run_descend_J2 x219 x186 x187 x188 x189 x190 x191 l192 l193 l194 l195 x196 b197 b198 b199 b222 b202 x203 l204 l205 x206 x207 x208 x209 x210 b211 x212 x213 b214 b215 x216 x217 l218 b224) := by
  rw [btree_run_descend_J2_c, btree_run_descend_J2]
  repeat' (first | exact LeO.refl _ | apply LeO.none | apply btree_run_fail_le | apply btree_run_neighbour_le | apply LeO.bind | apply LeO.ite | apply LeO.map | apply LeO.iter | intro _)
def btree_run_descend_J1_c (x219 : Int) (x186 : Int) (x187 : Int) (x188 : Int) (x189 : pointer_Pointer) (x190 : Int) (x191 : Int) (l192 : List api_Page) (l193 : List api_Page) (l194 : List Int) (l195 : List api_Page) (x196 : Int) (b197 : Bool) (b198 : Bool) (b199 : Bool) (b202 : Bool) (x203 : pointer_Pointer) (l204 : List hashindex_Entry) (l205 : List Int) (x206 : Int) (x207 : Int) (x208 : Int) (x209 : api_Page) (x210 : pointer_Pointer) (b211 : Bool) (x212 : api_Page) (x213 : Int) (b214 : Bool) (b215 : Bool) (x216 : Int) (x217 : pointer_Pointer) (l218 : List hashindex_Entry) (b200 : Bool) (b222 : Bool) : Option ((Int × Int × Int × pointer_Pointer × Int × Int × List api_Page × List api_Page × List Int × List api_Page × Int × Bool × Bool × Bool × Bool × Bool × Bool × pointer_Pointer × List hashindex_Entry × List Int × Int × Int × Int × api_Page × pointer_Pointer × Bool × api_Page × Int × Bool × Bool × Int × pointer_Pointer × List hashindex_Entry × Int) ⊕ (btree_found × Bool × Bool × btree_run)) :=
    btree_run_descend_J2_c x219 x186 x187 x188 x189 x190 x191 l192 l193 l194 l195 x196 b197 b198 b199 b222 b202 x203 l204 l205 x206 x207 x208 x209 x210 b211 x212 x213 b214 b215 x216 x217 l218 (b200 || false)
theorem btree_run_descend_J1_le (x219 : Int) (x186 : Int) (x187 : Int) (x188 : Int) (x189 : pointer_Pointer) (x190 : Int) (x191 : Int) (l192 : List api_Page) (l193 : List api_Page) (l194 : List Int) (l195 : List api_Page) (x196 : Int) (b197 : Bool) (b198 : Bool) (b199 : Bool) (b202 : Bool) (x203 : pointer_Pointer) (l204 : List hashindex_Entry) (l205 : List Int) (x206 : Int) (x207 : Int) (x208 : Int) (x209 : api_Page) (x210 : pointer_Pointer) (b211 : Bool) (x212 : api_Page) (x213 : Int) (b214 : Bool) (b215 : Bool) (x216 : Int) (x217 : pointer_Pointer) (l218 : List hashindex_Entry) (b200 : Bool) (b222 : Bool) : LeO (btree_run_descend_J1_c x219 x186 x187 x188 x189 x190 x191 l192 l193 l194 l195 x196 b197 b198 b199 b202 x203 l204 l205 x206 x207 x208 x209 x210 b211 x212 x213 b214 b215 x216 x217 l218 b200 b222) (btree_run_descend_J1 x219 x186 x187 x188 x189 x190 x191 l192 l193 l194 l195 x196 b197 b198 b199 b202 x203 l204 l205 x206 x207 x208 x209 x210 b211 x212 x213 b214 b215 x216 x217 l218 b200 b222) := by
  rw [btree_run_descend_J1_c, btree_run_descend_J1]
  repeat' (first | exact LeO.refl _ | apply LeO.none | apply btree_run_descend_J2_le | apply LeO.bind | apply LeO.ite | apply LeO.map | apply LeO.iter | intro _)
def btree_run_descend_J4_c (x219 : Int) (x186 : Int) (x187 : Int) (x188 : Int) (x189 : pointer_Pointer) (x190 : Int) (x191 : Int) (l192 : List api_Page) (l193 : List api_Page) (l194 : List Int) (l195 : List api_Page) (x196 : Int) (b197 : Bool) (b198 : Bool) (b199 : Bool) (b273 : Bool) (b202 : Bool) (x203 : pointer_Pointer) (l204 : List hashindex_Entry) (l205 : List Int) (x206 : Int) (x207 : Int) (x208 : Int) (x209 : api_Page) (x210 : pointer_Pointer) (b211 : Bool) (x212 : api_Page) (x213 : Int) (b214 : Bool) (b215 : Bool) (x216 : Int) (x217 : pointer_Pointer) (l218 : List hashindex_Entry) : Unit → Option ((Int × Int × Int × pointer_Pointer × Int × Int × List api_Page × List api_Page × List Int × List api_Page × Int × Bool × Bool × Bool × Bool × Bool × Bool × pointer_Pointer × List hashindex_Entry × List Int × Int × Int × Int × api_Page × pointer_Pointer × Bool × api_Page × Int × Bool × Bool × Int × pointer_Pointer × List hashindex_Entry × Int) ⊕ (btree_found × Bool × Bool × btree_run))
  | () =>
    if (decide ((IntKind.i64.wrap (x219 + 1)) > 256)) = true then
      (btree_run_fail_c (⟨(⟨x186, x187, x188, x189, x190, x191, l192⟩ : btree_Op), l193, l194, l195, (⟨x196, b197, b198, b199, true, b273, b202, x203, l204, l205, (IntKind.i64.wrap (x206 + 1)), x207, x208⟩ : btree_Out), x209, x210, b211⟩ : btree_run) 14 ([] : List Int)).bind fun v278 =>
      Option.map Sum.inr (
        some ((⟨x212, (⟨x213, b214, b215, x216, x217, l218⟩ : btree_Node)⟩ : btree_found), false, v278.1, v278.2))
    else
      (btree_run_neighbour_c (⟨(⟨x186, x187, x188, x189, x190, x191, l192⟩ : btree_Op), l193, l194, l195, (⟨x196, b197, b198, b199, true, b273, b202, x203, l204, l205, (IntKind.i64.wrap (x206 + 1)), x207, x208⟩ : btree_Out), x209, x210, b211⟩ : btree_run) (⟨x213, b214, b215, x216, x217, l218⟩ : btree_Node)).bind fun v279 =>
      if (!v279.2.1) = true then
        Option.map Sum.inr (
          some (v279.1, false, false, v279.2.2))
      else
        some (.inl (v279.2.2.Op.Kind, v279.2.2.Op.Key, v279.2.2.Op.Last, v279.2.2.Op.To, v279.2.2.Op.Level, v279.2.2.Op.Limit, v279.2.2.Op.Fresh, v279.2.2.Known, v279.2.2.Need, v279.2.2.Writes, v279.2.2.Out.Code, v279.2.2.Out.Found, v279.2.2.Out.Done, v279.2.2.Out.Split, v279.2.2.Out.Unposted, v279.2.2.Out.Dead, v279.2.2.Out.More, v279.2.2.Out.To, v279.2.2.Out.Entries, v279.2.2.Out.Check, v279.2.2.Out.Hops, v279.2.2.Out.Fresh, v279.2.2.Out.Height, v279.2.2.RootPage, v279.2.2.Root, v279.2.2.Ended, v279.1.Page, v279.1.Node.Level, v279.1.Node.Leftmost, v279.1.Node.Dead, v279.1.Node.High, v279.1.Node.Right, v279.1.Node.Entries, (IntKind.i64.wrap (x219 + 1))))
theorem btree_run_descend_J4_le (x219 : Int) (x186 : Int) (x187 : Int) (x188 : Int) (x189 : pointer_Pointer) (x190 : Int) (x191 : Int) (l192 : List api_Page) (l193 : List api_Page) (l194 : List Int) (l195 : List api_Page) (x196 : Int) (b197 : Bool) (b198 : Bool) (b199 : Bool) (b273 : Bool) (b202 : Bool) (x203 : pointer_Pointer) (l204 : List hashindex_Entry) (l205 : List Int) (x206 : Int) (x207 : Int) (x208 : Int) (x209 : api_Page) (x210 : pointer_Pointer) (b211 : Bool) (x212 : api_Page) (x213 : Int) (b214 : Bool) (b215 : Bool) (x216 : Int) (x217 : pointer_Pointer) (l218 : List hashindex_Entry) : ∀ x, LeO (btree_run_descend_J4_c x219 x186 x187 x188 x189 x190 x191 l192 l193 l194 l195 x196 b197 b198 b199 b273 b202 x203 l204 l205 x206 x207 x208 x209 x210 b211 x212 x213 b214 b215 x216 x217 l218 x) (btree_run_descend_J4 x219 x186 x187 x188 x189 x190 x191 l192 l193 l194 l195 x196 b197 b198 b199 b273 b202 x203 l204 l205 x206 x207 x208 x209 x210 b211 x212 x213 b214 b215 x216 x217 l218 x) := by
  rintro ⟨⟩
  rw [btree_run_descend_J4_c, btree_run_descend_J4]
  repeat' (first | exact LeO.refl _ | apply LeO.none | apply btree_run_fail_le | apply btree_run_neighbour_le | apply LeO.bind | apply LeO.ite | apply LeO.map | apply LeO.iter | intro _)
def btree_run_descend_J3_c (x219 : Int) (x186 : Int) (x187 : Int) (x188 : Int) (x189 : pointer_Pointer) (x190 : Int) (x191 : Int) (l192 : List api_Page) (l193 : List api_Page) (l194 : List Int) (l195 : List api_Page) (x196 : Int) (b197 : Bool) (b198 : Bool) (b199 : Bool) (b202 : Bool) (x203 : pointer_Pointer) (l204 : List hashindex_Entry) (l205 : List Int) (x206 : Int) (x207 : Int) (x208 : Int) (x209 : api_Page) (x210 : pointer_Pointer) (b211 : Bool) (x212 : api_Page) (x213 : Int) (b214 : Bool) (b215 : Bool) (x216 : Int) (x217 : pointer_Pointer) (l218 : List hashindex_Entry) (b273 : Bool) : Option ((Int × Int × Int × pointer_Pointer × Int × Int × List api_Page × List api_Page × List Int × List api_Page × Int × Bool × Bool × Bool × Bool × Bool × Bool × pointer_Pointer × List hashindex_Entry × List Int × Int × Int × Int × api_Page × pointer_Pointer × Bool × api_Page × Int × Bool × Bool × Int × pointer_Pointer × List hashindex_Entry × Int) ⊕ (btree_found × Bool × Bool × btree_run)) :=
    btree_run_descend_J4_c x219 x186 x187 x188 x189 x190 x191 l192 l193 l194 l195 x196 b197 b198 b199 b273 b202 x203 l204 l205 x206 x207 x208 x209 x210 b211 x212 x213 b214 b215 x216 x217 l218 ()
theorem btree_run_descend_J3_le (x219 : Int) (x186 : Int) (x187 : Int) (x188 : Int) (x189 : pointer_Pointer) (x190 : Int) (x191 : Int) (l192 : List api_Page) (l193 : List api_Page) (l194 : List Int) (l195 : List api_Page) (x196 : Int) (b197 : Bool) (b198 : Bool) (b199 : Bool) (b202 : Bool) (x203 : pointer_Pointer) (l204 : List hashindex_Entry) (l205 : List Int) (x206 : Int) (x207 : Int) (x208 : Int) (x209 : api_Page) (x210 : pointer_Pointer) (b211 : Bool) (x212 : api_Page) (x213 : Int) (b214 : Bool) (b215 : Bool) (x216 : Int) (x217 : pointer_Pointer) (l218 : List hashindex_Entry) (b273 : Bool) : LeO (btree_run_descend_J3_c x219 x186 x187 x188 x189 x190 x191 l192 l193 l194 l195 x196 b197 b198 b199 b202 x203 l204 l205 x206 x207 x208 x209 x210 b211 x212 x213 b214 b215 x216 x217 l218 b273) (btree_run_descend_J3 x219 x186 x187 x188 x189 x190 x191 l192 l193 l194 l195 x196 b197 b198 b199 b202 x203 l204 l205 x206 x207 x208 x209 x210 b211 x212 x213 b214 b215 x216 x217 l218 b273) := by
  rw [btree_run_descend_J3_c, btree_run_descend_J3]
  repeat' (first | exact LeO.refl _ | apply LeO.none | apply btree_run_descend_J4_le | apply LeO.bind | apply LeO.ite | apply LeO.map | apply LeO.iter | intro _)
def cmp_isNaN_v2_c (a0 : Int) : Option Bool :=
  some (a0 != a0)
theorem cmp_isNaN_v2_le (a0 : Int) : LeO (cmp_isNaN_v2_c a0) (cmp_isNaN_v2 a0) := by
  rw [cmp_isNaN_v2_c, cmp_isNaN_v2]
  repeat' (first | exact LeO.refl _ | apply LeO.none | apply LeO.bind | apply LeO.ite | apply LeO.map | apply LeO.iter | intro _)
def cmp_Compare_c (a0 : Int) (a1 : Int) : Option Int :=
  (cmp_isNaN_v2_c a0).bind fun v1 =>
  (cmp_isNaN_v2_c a1).bind fun v2 =>
  if v1 = true then
    some (if v2 = true then 0 else (-1))
  else
    if v2 = true then
      some 1
    else
      if (decide (a0 < a1)) = true then
        some (-1)
      else
        some (if (decide (a0 > a1)) = true then 1 else 0)
theorem cmp_Compare_le (a0 : Int) (a1 : Int) : LeO (cmp_Compare_c a0 a1) (cmp_Compare a0 a1) := by
  rw [cmp_Compare_c, cmp_Compare]
  repeat' (first | exact LeO.refl _ | apply LeO.none | apply cmp_isNaN_v2_le | apply LeO.bind | apply LeO.ite | apply LeO.map | apply LeO.iter | intro _)
def btree_Node_child_c1_c (a0 : hashindex_Entry) (a1 : Int) : Option Int :=
  (cmp_Compare_c a0.Key a1).bind fun v1 =>
  some v1
theorem btree_Node_child_c1_le (a0 : hashindex_Entry) (a1 : Int) : LeO (btree_Node_child_c1_c a0 a1) (btree_Node_child_c1 a0 a1) := by
  rw [btree_Node_child_c1_c, btree_Node_child_c1]
  repeat' (first | exact LeO.refl _ | apply LeO.none | apply cmp_Compare_le | apply LeO.bind | apply LeO.ite | apply LeO.map | apply LeO.iter | intro _)
def slices_BinarySearchFunc_J1_c (a0 : (List hashindex_Entry)) (a1 : Int) (x24 : Int) : Option (Int × Bool) :=
    if (decide (x24 < (a0.length : Int))) = true then
      (idx a0 x24).bind fun e26 =>
      (btree_Node_child_c1_c e26 a1).bind fun v27 =>
      some (x24, (v27 == 0))
    else
      some (x24, false)
theorem slices_BinarySearchFunc_J1_le (a0 : (List hashindex_Entry)) (a1 : Int) (x24 : Int) : LeO (slices_BinarySearchFunc_J1_c a0 a1 x24) (slices_BinarySearchFunc_J1 a0 a1 x24) := by
  rw [slices_BinarySearchFunc_J1_c, slices_BinarySearchFunc_J1]
  repeat' (first | exact LeO.refl _ | apply LeO.none | apply btree_Node_child_c1_le | apply LeO.bind | apply LeO.ite | apply LeO.map | apply LeO.iter | intro _)
def slices_BinarySearchFunc_L1_c (a0 : (List hashindex_Entry)) (a1 : Int) : (Int × Int) → Option ((Int × Int) ⊕ (Int × Bool))
  | (x44, x45) =>
    if (decide (x44 < x45)) = true then
      (idx a0 (IntKind.i64.wrap (shrV .u64 (IntKind.u64.wrap (IntKind.i64.wrap (x44 + x45))) 1))).bind fun e49 =>
      (btree_Node_child_c1_c e49 a1).bind fun v50 =>
      if (decide (v50 < 0)) = true then
        some (.inl ((IntKind.i64.wrap ((IntKind.i64.wrap (shrV .u64 (IntKind.u64.wrap (IntKind.i64.wrap (x44 + x45))) 1)) + 1)), x45))
      else
        some (.inl (x44, (IntKind.i64.wrap (shrV .u64 (IntKind.u64.wrap (IntKind.i64.wrap (x44 + x45))) 1))))
    else
      Option.map Sum.inr (
        slices_BinarySearchFunc_J1_c a0 a1 x44)
theorem slices_BinarySearchFunc_L1_le (a0 : (List hashindex_Entry)) (a1 : Int) : ∀ x, LeO (slices_BinarySearchFunc_L1_c a0 a1 x) (slices_BinarySearchFunc_L1 a0 a1 x) := by
  rintro ⟨x44, x45⟩
  rw [slices_BinarySearchFunc_L1_c, slices_BinarySearchFunc_L1]
  repeat' (first | exact LeO.refl _ | apply LeO.none | apply btree_Node_child_c1_le | apply slices_BinarySearchFunc_J1_le | apply LeO.bind | apply LeO.ite | apply LeO.map | apply LeO.iter | intro _)
def slices_BinarySearchFunc_c (a0 : (List hashindex_Entry)) (a1 : Int) : Option (Int × Bool) :=
  iterF (slices_BinarySearchFunc_L1_c a0 a1) (0, (a0.length : Int))
theorem slices_BinarySearchFunc_le (a0 : (List hashindex_Entry)) (a1 : Int) : LeO (slices_BinarySearchFunc_c a0 a1) (slices_BinarySearchFunc a0 a1) := by
  rw [slices_BinarySearchFunc_c, slices_BinarySearchFunc]
  repeat' (first | exact LeO.refl _ | apply LeO.none | apply slices_BinarySearchFunc_L1_le | apply LeO.bind | apply LeO.ite | apply LeO.map | apply LeO.iter | intro _)
def btree_Node_child_c (a0 : btree_Node) (a1 : Int) : Option Int :=
  (slices_BinarySearchFunc_c a0.Entries a1).bind fun v1 =>
  some v1.1
theorem btree_Node_child_le (a0 : btree_Node) (a1 : Int) : LeO (btree_Node_child_c a0 a1) (btree_Node_child a0 a1) := by
  rw [btree_Node_child_c, btree_Node_child]
  repeat' (first | exact LeO.refl _ | apply LeO.none | apply slices_BinarySearchFunc_le | apply LeO.bind | apply LeO.ite | apply LeO.map | apply LeO.iter | intro _)
def btree_run_descend_L1_c (a2 : Int) (a1 : Int) (v1 : (btree_found × Bool × btree_run)) : (Int × Int × Int × pointer_Pointer × Int × Int × List api_Page × List api_Page × List Int × List api_Page × Int × Bool × Bool × Bool × Bool × Bool × Bool × pointer_Pointer × List hashindex_Entry × List Int × Int × Int × Int × api_Page × pointer_Pointer × Bool × api_Page × Int × Bool × Bool × Int × pointer_Pointer × List hashindex_Entry × Int) → Option ((Int × Int × Int × pointer_Pointer × Int × Int × List api_Page × List api_Page × List Int × List api_Page × Int × Bool × Bool × Bool × Bool × Bool × Bool × pointer_Pointer × List hashindex_Entry × List Int × Int × Int × Int × api_Page × pointer_Pointer × Bool × api_Page × Int × Bool × Bool × Int × pointer_Pointer × List hashindex_Entry × Int) ⊕ (btree_found × Bool × Bool × btree_run))
  | (x186, x187, x188, x189, x190, x191, l192, l193, l194, l195, x196, b197, b198, b199, b200, b201, b202, x203, l204, l205, x206, x207, x208, x209, x210, b211, x212, x213, b214, b215, x216, x217, l218, x219) =>
    if b215 = true then
      btree_run_descend_J1_c x219 x186 x187 x188 x189 x190 x191 l192 l193 l194 l195 x196 b197 b198 b199 b202 x203 l204 l205 x206 x207 x208 x209 x210 b211 x212 x213 b214 b215 x216 x217 l218 b200 (b201 || b215)
    else
      if (decide (a2 > x216)) = true then
        btree_run_descend_J3_c x219 x186 x187 x188 x189 x190 x191 l192 l193 l194 l195 x196 b197 b198 b199 b202 x203 l204 l205 x206 x207 x208 x209 x210 b211 x212 x213 b214 b215 x216 x217 l218 (b201 || b215)
      else
        if (x213 == a1) = true then
          (pointer_Locked_c x212).bind fun v320 =>
          if v320 = true then
            (btree_run_fail_c (⟨(⟨x186, x187, x188, x189, x190, x191, l192⟩ : btree_Op), l193, l194, l195, (⟨x196, b197, b198, b199, b200, b201, b202, x203, l204, l205, x206, x207, (IntKind.i64.wrap (v1.1.Node.Level + 1))⟩ : btree_Out), x209, x210, true⟩ : btree_run) 3 ([] : List Int)).bind fun v322 =>
            Option.map Sum.inr (
              some ((⟨x212, (⟨x213, b214, b215, x216, x217, l218⟩ : btree_Node)⟩ : btree_found), false, v322.1, v322.2))
          else
            Option.map Sum.inr (
              some ((⟨x212, (⟨x213, b214, b215, x216, x217, l218⟩ : btree_Node)⟩ : btree_found), false, true, (⟨(⟨x186, x187, x188, x189, x190, x191, l192⟩ : btree_Op), l193, l194, l195, (⟨x196, b197, b198, b199, b200, b201, b202, x203, l204, l205, x206, x207, (IntKind.i64.wrap (v1.1.Node.Level + 1))⟩ : btree_Out), x209, x210, true⟩ : btree_run)))
        else
          (btree_Node_child_c (⟨x213, b214, b215, x216, x217, l218⟩ : btree_Node) a2).bind fun v327 =>
          (idx l218 v327).bind fun e328 =>
          (btree_run_look_c (⟨(⟨x186, x187, x188, x189, x190, x191, l192⟩ : btree_Op), l193, l194, l195, (⟨x196, b197, b198, b199, b200, b201, b202, x203, l204, l205, x206, x207, x208⟩ : btree_Out), x209, x210, b211⟩ : btree_run) e328.To).bind fun v329 =>
          if (!v329.2.1) = true then
            Option.map Sum.inr (
              some (v329.1, false, false, v329.2.2))
          else
            if (v329.1.Node.Level != (IntKind.i64.wrap (x213 - 1))) = true then
              (btree_run_fail_c v329.2.2 14 ([] : List Int)).bind fun v332 =>
              Option.map Sum.inr (
                some (v329.1, false, v332.1, v332.2))
            else
              some (.inl (v329.2.2.Op.Kind, v329.2.2.Op.Key, v329.2.2.Op.Last, v329.2.2.Op.To, v329.2.2.Op.Level, v329.2.2.Op.Limit, v329.2.2.Op.Fresh, v329.2.2.Known, v329.2.2.Need, v329.2.2.Writes, v329.2.2.Out.Code, v329.2.2.Out.Found, v329.2.2.Out.Done, v329.2.2.Out.Split, v329.2.2.Out.Unposted, v329.2.2.Out.Dead, v329.2.2.Out.More, v329.2.2.Out.To, v329.2.2.Out.Entries, v329.2.2.Out.Check, v329.2.2.Out.Hops, v329.2.2.Out.Fresh, v329.2.2.Out.Height, v329.2.2.RootPage, v329.2.2.Root, v329.2.2.Ended, v329.1.Page, v329.1.Node.Level, v329.1.Node.Leftmost, v329.1.Node.Dead, v329.1.Node.High, v329.1.Node.Right, v329.1.Node.Entries, x219))
theorem btree_run_descend_L1_le (a2 : Int) (a1 : Int) (v1 : (btree_found × Bool × btree_run)) : ∀ x, LeO (btree_run_descend_L1_c a2 a1 v1 x) (btree_run_descend_L1 a2 a1 v1 x) := by
  rintro ⟨x186, x187, x188, x189, x190, x191, l192, l193, l194, l195, x196, b197, b198, b199, b200, b201, b202, x203, l204, l205, x206, x207, x208, x209, x210, b211, x212, x213, b214, b215, x216, x217, l218, x219⟩
  rw [btree_run_descend_L1_c, btree_run_descend_L1]
  repeat' (first | exact LeO.refl _ | apply LeO.none | apply btree_run_descend_J1_le | apply btree_run_descend_J3_le | apply pointer_Locked_le | apply btree_run_fail_le | apply btree_Node_child_le | apply btree_run_look_le | apply LeO.bind | apply LeO.ite | apply LeO.map | apply LeO.iter | intro _)
def btree_run_descend_c (a0 : btree_run) (a1 : Int) (a2 : Int) : Option (btree_found × Bool × Bool × btree_run) :=
  (btree_run_look_c a0 a0.Root).bind fun v1 =>
  if (!v1.2.1) = true then
    some (v1.1, false, false, v1.2.2)
  else
    if (decide (v1.1.Node.Level < a1)) = true then
      some ((⟨(⟨0, 0, (⟨0, 0, 0, 0, 0, 0, 0⟩ : (A7 Int))⟩ : api_Page), (⟨0, false, false, 0, (⟨0, 0⟩ : pointer_Pointer), ([] : List hashindex_Entry)⟩ : btree_Node)⟩ : btree_found), true, false, v1.2.2)
    else
      iterF (btree_run_descend_L1_c a2 a1 v1) (v1.2.2.Op.Kind, v1.2.2.Op.Key, v1.2.2.Op.Last, v1.2.2.Op.To, v1.2.2.Op.Level, v1.2.2.Op.Limit, v1.2.2.Op.Fresh, v1.2.2.Known, v1.2.2.Need, v1.2.2.Writes, v1.2.2.Out.Code, v1.2.2.Out.Found, v1.2.2.Out.Done, v1.2.2.Out.Split, v1.2.2.Out.Unposted, v1.2.2.Out.Dead, v1.2.2.Out.More, v1.2.2.Out.To, v1.2.2.Out.Entries, v1.2.2.Out.Check, v1.2.2.Out.Hops, v1.2.2.Out.Fresh, v1.2.2.Out.Height, v1.2.2.RootPage, v1.2.2.Root, v1.2.2.Ended, v1.1.Page, v1.1.Node.Level, v1.1.Node.Leftmost, v1.1.Node.Dead, v1.1.Node.High, v1.1.Node.Right, v1.1.Node.Entries, 0)
theorem btree_run_descend_le (a0 : btree_run) (a1 : Int) (a2 : Int) : LeO (btree_run_descend_c a0 a1 a2) (btree_run_descend a0 a1 a2) := by
  rw [btree_run_descend_c, btree_run_descend]
  repeat' (first | exact LeO.refl _ | apply LeO.none | apply btree_run_look_le | apply btree_run_descend_L1_le | apply LeO.bind | apply LeO.ite | apply LeO.map | apply LeO.iter | intro _)
def btree_run_leaf_c (a0 : btree_run) : Option (btree_found × Bool × btree_run) :=
  (btree_run_descend_c a0 0 a0.Op.Key).bind fun v1 =>
  some (v1.1, v1.2.2.1, v1.2.2.2)
theorem btree_run_leaf_le (a0 : btree_run) : LeO (btree_run_leaf_c a0) (btree_run_leaf a0) := by
  rw [btree_run_leaf_c, btree_run_leaf]
  repeat' (first | exact LeO.refl _ | apply LeO.none | apply btree_run_descend_le | apply LeO.bind | apply LeO.ite | apply LeO.map | apply LeO.iter | intro _)
def btree_Node_search_c (a0 : btree_Node) (a1 : Int) : Option (Int × Bool) :=
  (btree_Node_child_c a0 a1).bind fun v1 =>
  if (decide (v1 < (a0.Entries.length : Int))) = true then
    (idx a0.Entries v1).bind fun e3 =>
    some (v1, (e3.Key == a1))
  else
    some (v1, false)
theorem btree_Node_search_le (a0 : btree_Node) (a1 : Int) : LeO (btree_Node_search_c a0 a1) (btree_Node_search a0 a1) := by
  rw [btree_Node_search_c, btree_Node_search]
  repeat' (first | exact LeO.refl _ | apply LeO.none | apply btree_Node_child_le | apply LeO.bind | apply LeO.ite | apply LeO.map | apply LeO.iter | intro _)
def slices_Insert_c (a0 : (List hashindex_Entry)) (a1 : Int) (a2 : (List hashindex_Entry)) : Option (List hashindex_Entry) :=
  if 0 ≤ a1 ∧ a1 ≤ (a0.length : Int) then
    if ((a2.length : Int) == 0) = true then
      some a0
    else
      if (a1 == (a0.length : Int)) = true then
        if (a0.length + a2.length) * 24 ≤ maxRows ∧ a0.length + a2.length ≤ maxRows then
          some (a0 ++ a2)
        else none
      else
        none
  else none
theorem slices_Insert_le (a0 : (List hashindex_Entry)) (a1 : Int) (a2 : (List hashindex_Entry)) : LeO (slices_Insert_c a0 a1 a2) (slices_Insert a0 a1 a2) := by
  rw [slices_Insert_c, slices_Insert]
  repeat' (first | exact LeO.refl _ | apply LeO.none | apply LeO.bind | apply LeO.ite | apply LeO.map | apply LeO.iter | intro _)
def btree_run_fresh_v2_c (a0 : btree_run) (a1 : (List Int)) : Option (api_Page × Bool × btree_run) :=
  if ((a0.Op.Fresh.length : Int) == 0) = true then
    (btree_run_fail_c (⟨a0.Op, a0.Known, a0.Need, a0.Writes, (⟨a0.Out.Code, a0.Out.Found, a0.Out.Done, a0.Out.Split, a0.Out.Unposted, a0.Out.Dead, a0.Out.More, a0.Out.To, a0.Out.Entries, a0.Out.Check, a0.Out.Hops, 1, a0.Out.Height⟩ : btree_Out), a0.RootPage, a0.Root, a0.Ended⟩ : btree_run) 18 ([] : List Int)).bind fun v4 =>
    some ((⟨0, 0, (⟨0, 0, 0, 0, 0, 0, 0⟩ : (A7 Int))⟩ : api_Page), v4.1, v4.2)
  else
    (idx a0.Op.Fresh 0).bind fun e5 =>
    (pointer_Allocate_c e5 4 0).bind fun v6 =>
    if (v6.2 != 0) = true then
      (btree_run_fail_c a0 1 ([] : List Int)).bind fun v8 =>
      some ((⟨0, 0, (⟨0, 0, 0, 0, 0, 0, 0⟩ : (A7 Int))⟩ : api_Page), v8.1, v8.2)
    else
      (slices_Contains_c a1 v6.1.Line).bind fun v9 =>
      if v9 = true then
        (btree_run_fail_c a0 1 ([] : List Int)).bind fun v11 =>
        some ((⟨0, 0, (⟨0, 0, 0, 0, 0, 0, 0⟩ : (A7 Int))⟩ : api_Page), v11.1, v11.2)
      else
        some (v6.1, true, a0)
theorem btree_run_fresh_v2_le (a0 : btree_run) (a1 : (List Int)) : LeO (btree_run_fresh_v2_c a0 a1) (btree_run_fresh_v2 a0 a1) := by
  rw [btree_run_fresh_v2_c, btree_run_fresh_v2]
  repeat' (first | exact LeO.refl _ | apply LeO.none | apply btree_run_fail_le | apply pointer_Allocate_le | apply slices_Contains_le | apply LeO.bind | apply LeO.ite | apply LeO.map | apply LeO.iter | intro _)
def btree_run_store_c (a0 : btree_run) (a1 : btree_found) (a2 : (List hashindex_Entry)) (a3 : (List Int)) : Option btree_run :=
  if (decide ((a2.length : Int) ≤ 5)) = true then
    (btree_Node_fill_c (⟨a1.Node.Level, a1.Node.Leftmost, a1.Node.Dead, a1.Node.High, a1.Node.Right, a2⟩ : btree_Node) a1.Page).bind fun v5 =>
    (btree_run_done_c a0 ([v5] : List api_Page) a3).bind fun v6 =>
    some v6
  else
    if (a3.length + 1) * 8 ≤ maxRows ∧ a3.length + 1 ≤ maxRows then
      (btree_run_fresh_v2_c a0 (a3 ++ ([a1.Page.Line] : List Int))).bind fun v8 =>
      if (!v8.2.1) = true then
        some v8.2.2
      else
        if 0 ≤ 3 ∧ 3 ≤ (a2.length : Int) then
          (idx a2 2).bind fun e12 =>
          (pointer_At_c v8.1).bind fun v13 =>
          if 0 ≤ 0 ∧ 0 ≤ 3 ∧ 3 ≤ (a2.length : Int) then
            (btree_Node_fill_c (⟨a1.Node.Level, a1.Node.Leftmost, a1.Node.Dead, e12.Key, v13, ((a2.drop 0).take 3)⟩ : btree_Node) a1.Page).bind fun v15 =>
            (btree_Node_fill_c (⟨a1.Node.Level, false, false, a1.Node.High, a1.Node.Right, ((a2.drop 3).take ((a2.length : Int) - 3).toNat)⟩ : btree_Node) v8.1).bind fun v16 =>
            (btree_run_done_c (⟨v8.2.2.Op, v8.2.2.Known, v8.2.2.Need, v8.2.2.Writes, (⟨v8.2.2.Out.Code, v8.2.2.Out.Found, v8.2.2.Out.Done, true, v8.2.2.Out.Unposted, v8.2.2.Out.Dead, v8.2.2.Out.More, v8.2.2.Out.To, v8.2.2.Out.Entries, v8.2.2.Out.Check, v8.2.2.Out.Hops, v8.2.2.Out.Fresh, v8.2.2.Out.Height⟩ : btree_Out), v8.2.2.RootPage, v8.2.2.Root, v8.2.2.Ended⟩ : btree_run) ([v15, v16] : List api_Page) a3).bind fun v17 =>
            some v17
          else none
        else none
    else none
theorem btree_run_store_le (a0 : btree_run) (a1 : btree_found) (a2 : (List hashindex_Entry)) (a3 : (List Int)) : LeO (btree_run_store_c a0 a1 a2 a3) (btree_run_store a0 a1 a2 a3) := by
  rw [btree_run_store_c, btree_run_store]
  repeat' (first | exact LeO.refl _ | apply LeO.none | apply btree_Node_fill_le | apply btree_run_done_le | apply btree_run_fresh_v2_le | apply pointer_At_le | apply LeO.bind | apply LeO.ite | apply LeO.map | apply LeO.iter | intro _)
def btree_run_insert_c (a0 : btree_run) : Option btree_run :=
  if ((a0.Root.Line == 0) && (a0.Root.Gen == 0)) = true then
    (btree_run_plant_c a0 (⟨a0.Op.Key, a0.Op.To⟩ : hashindex_Entry)).bind fun v4 =>
    some v4
  else
    (btree_run_leaf_c a0).bind fun v5 =>
    if (!v5.2.1) = true then
      some v5.2.2
    else
      (btree_Node_search_c v5.1.Node v5.2.2.Op.Key).bind fun v8 =>
      if v8.2 = true then
        (btree_run_fail_c v5.2.2 17 ([v5.1.Page.Line] : List Int)).bind fun v12 =>
        some v12.2
      else
        (slices_Insert_c v5.1.Node.Entries v8.1 ([(⟨a0.Op.Key, a0.Op.To⟩ : hashindex_Entry)] : List hashindex_Entry)).bind fun v13 =>
        (btree_run_store_c v5.2.2 (⟨v5.1.Page, (⟨v5.1.Node.Level, v5.1.Node.Leftmost, v5.1.Node.Dead, v5.1.Node.High, v5.1.Node.Right, []⟩ : btree_Node)⟩ : btree_found) v13 ([] : List Int)).bind fun v14 =>
        some v14
theorem btree_run_insert_le (a0 : btree_run) : LeO (btree_run_insert_c a0) (btree_run_insert a0) := by
  rw [btree_run_insert_c, btree_run_insert]
  repeat' (first | exact LeO.refl _ | apply LeO.none | apply btree_run_plant_le | apply btree_run_leaf_le | apply btree_Node_search_le | apply btree_run_fail_le | apply slices_Insert_le | apply btree_run_store_le | apply LeO.bind | apply LeO.ite | apply LeO.map | apply LeO.iter | intro _)
def cmp_Compare_v2_c (a0 : Int) (a1 : Int) : Option Int :=
  (cmp_isNaN_c a0).bind fun v1 =>
  (cmp_isNaN_c a1).bind fun v2 =>
  if v1 = true then
    some (if v2 = true then 0 else (-1))
  else
    if v2 = true then
      some 1
    else
      if (decide (a0 < a1)) = true then
        some (-1)
      else
        some (if (decide (a0 > a1)) = true then 1 else 0)
theorem cmp_Compare_v2_le (a0 : Int) (a1 : Int) : LeO (cmp_Compare_v2_c a0 a1) (cmp_Compare_v2 a0 a1) := by
  rw [cmp_Compare_v2_c, cmp_Compare_v2]
  repeat' (first | exact LeO.refl _ | apply LeO.none | apply cmp_isNaN_le | apply LeO.bind | apply LeO.ite | apply LeO.map | apply LeO.iter | intro _)
def btree_Next_c1_c (a0 : api_Page) (a1 : api_Page) : Option Int :=
  (cmp_Compare_v2_c a0.Line a1.Line).bind fun v1 =>
  some v1
theorem btree_Next_c1_le (a0 : api_Page) (a1 : api_Page) : LeO (btree_Next_c1_c a0 a1) (btree_Next_c1 a0 a1) := by
  rw [btree_Next_c1_c, btree_Next_c1]
  repeat' (first | exact LeO.refl _ | apply LeO.none | apply cmp_Compare_v2_le | apply LeO.bind | apply LeO.ite | apply LeO.map | apply LeO.iter | intro _)
def slices_insertionSortCmpFunc_L2_c (a1 : Int) (x94 : Int) : ((List api_Page) × Int) → Option (((List api_Page) × Int) ⊕ (((List api_Page) × Int) ⊕ (List api_Page)))
  | (l125, x126) =>
    if (decide (x126 > a1)) = true then
      (idx l125 x126).bind fun e137 =>
      (idx l125 (IntKind.i64.wrap (x126 - 1))).bind fun e138 =>
      (btree_Next_c1_c e137 e138).bind fun v139 =>
      if (decide (v139 < 0)) = true then
        (idx (l125.set x126.toNat e138) (IntKind.i64.wrap (x126 - 1))).bind fun e141 =>
        some (.inl (((l125.set x126.toNat e138).set (IntKind.i64.wrap (x126 - 1)).toNat e137), (IntKind.i64.wrap (x126 - 1))))
      else
        Option.map Sum.inr (
          some (.inl (l125, (IntKind.i64.wrap (x94 + 1)))))
    else
      Option.map Sum.inr (
        some (.inl (l125, (IntKind.i64.wrap (x94 + 1)))))
theorem slices_insertionSortCmpFunc_L2_le (a1 : Int) (x94 : Int) : ∀ x, LeO (slices_insertionSortCmpFunc_L2_c a1 x94 x) (slices_insertionSortCmpFunc_L2 a1 x94 x) := by
  rintro ⟨l125, x126⟩
  rw [slices_insertionSortCmpFunc_L2_c, slices_insertionSortCmpFunc_L2]
  repeat' (first | exact LeO.refl _ | apply LeO.none | apply btree_Next_c1_le | apply LeO.bind | apply LeO.ite | apply LeO.map | apply LeO.iter | intro _)
def slices_insertionSortCmpFunc_L1_c (a2 : Int) (a1 : Int) (a0 : (List api_Page)) : ((List api_Page) × Int) → Option (((List api_Page) × Int) ⊕ (List api_Page))
  | (l93, x94) =>
    if (decide (x94 < a2)) = true then
      iterF (slices_insertionSortCmpFunc_L2_c a1 x94) (l93, x94)
    else
      Option.map Sum.inr (
        if l93.length = a0.length then
          some l93
        else none)
theorem slices_insertionSortCmpFunc_L1_le (a2 : Int) (a1 : Int) (a0 : (List api_Page)) : ∀ x, LeO (slices_insertionSortCmpFunc_L1_c a2 a1 a0 x) (slices_insertionSortCmpFunc_L1 a2 a1 a0 x) := by
  rintro ⟨l93, x94⟩
  rw [slices_insertionSortCmpFunc_L1_c, slices_insertionSortCmpFunc_L1]
  repeat' (first | exact LeO.refl _ | apply LeO.none | apply slices_insertionSortCmpFunc_L2_le | apply LeO.bind | apply LeO.ite | apply LeO.map | apply LeO.iter | intro _)
def slices_insertionSortCmpFunc_c (a0 : (List api_Page)) (a1 : Int) (a2 : Int) : Option (List api_Page) :=
  iterF (slices_insertionSortCmpFunc_L1_c a2 a1 a0) (a0, (IntKind.i64.wrap (a1 + 1)))
theorem slices_insertionSortCmpFunc_le (a0 : (List api_Page)) (a1 : Int) (a2 : Int) : LeO (slices_insertionSortCmpFunc_c a0 a1 a2) (slices_insertionSortCmpFunc a0 a1 a2) := by
  rw [slices_insertionSortCmpFunc_c, slices_insertionSortCmpFunc]
  repeat' (first | exact LeO.refl _ | apply LeO.none | apply slices_insertionSortCmpFunc_L1_le | apply LeO.bind | apply LeO.ite | apply LeO.map | apply LeO.iter | intro _)
def slices_pdqsortCmpFunc_L1_c (a2 : Int) (a1 : Int) (a0 : (List api_Page)) (a3 : Int) : Unit → Option (Unit ⊕ (List api_Page))
  | () =>
    if (decide ((IntKind.i64.wrap (a2 - a1)) ≤ 12)) = true then
      (slices_insertionSortCmpFunc_c a0 a1 a2).bind fun v13 =>
      if v13.length = a0.length then
        Option.map Sum.inr (
          if v13.length = a0.length then
            some v13
          else none)
      else none
    else
      if (a3 == 0) = true then
        none
      else
        none
theorem slices_pdqsortCmpFunc_L1_le (a2 : Int) (a1 : Int) (a0 : (List api_Page)) (a3 : Int) : ∀ x, LeO (slices_pdqsortCmpFunc_L1_c a2 a1 a0 a3 x) (slices_pdqsortCmpFunc_L1 a2 a1 a0 a3 x) := by
  rintro ⟨⟩
  rw [slices_pdqsortCmpFunc_L1_c, slices_pdqsortCmpFunc_L1]
  repeat' (first | exact LeO.refl _ | apply LeO.none | apply slices_insertionSortCmpFunc_le | apply LeO.bind | apply LeO.ite | apply LeO.map | apply LeO.iter | intro _)
def slices_pdqsortCmpFunc_c (a0 : (List api_Page)) (a1 : Int) (a2 : Int) (a3 : Int) : Option (List api_Page) :=
  iterF (slices_pdqsortCmpFunc_L1_c a2 a1 a0 a3) ()
theorem slices_pdqsortCmpFunc_le (a0 : (List api_Page)) (a1 : Int) (a2 : Int) (a3 : Int) : LeO (slices_pdqsortCmpFunc_c a0 a1 a2 a3) (slices_pdqsortCmpFunc a0 a1 a2 a3) := by
  rw [slices_pdqsortCmpFunc_c, slices_pdqsortCmpFunc]
  repeat' (first | exact LeO.refl _ | apply LeO.none | apply slices_pdqsortCmpFunc_L1_le | apply LeO.bind | apply LeO.ite | apply LeO.map | apply LeO.iter | intro _)
def slices_SortFunc_c (a0 : (List api_Page)) : Option (List api_Page) :=
  (math_bits_Len_c (IntKind.u64.wrap (a0.length : Int))).bind fun v1 =>
  (slices_pdqsortCmpFunc_c a0 0 (a0.length : Int) v1).bind fun v2 =>
  if v2.length = a0.length then
    if v2.length = a0.length then
      some v2
    else none
  else none
theorem slices_SortFunc_le (a0 : (List api_Page)) : LeO (slices_SortFunc_c a0) (slices_SortFunc a0) := by
  rw [slices_SortFunc_c, slices_SortFunc]
  repeat' (first | exact LeO.refl _ | apply LeO.none | apply math_bits_Len_le | apply slices_pdqsortCmpFunc_le | apply LeO.bind | apply LeO.ite | apply LeO.map | apply LeO.iter | intro _)
def btree_Next_J2_c (l26 : List api_Page) (x27 : Int) (b28 : Bool) (b29 : Bool) (b30 : Bool) (b33 : Bool) (x34 : pointer_Pointer) (l35 : List hashindex_Entry) (l36 : List Int) (x38 : Int) : (Bool × Bool × Int × Int) → Option ((List Int) × (List api_Page) × btree_Out × Bool)
  | (b46, b47, x48, x49) =>
    (slices_SortFunc_c l26).bind fun v50 =>
    if v50.length = l26.length then
      some (([] : List Int), v50, (⟨x27, b28, b29, b30, b46, b47, b33, x34, l35, l36, x48, x38, x49⟩ : btree_Out), true)
    else none
theorem btree_Next_J2_le (l26 : List api_Page) (x27 : Int) (b28 : Bool) (b29 : Bool) (b30 : Bool) (b33 : Bool) (x34 : pointer_Pointer) (l35 : List hashindex_Entry) (l36 : List Int) (x38 : Int) : ∀ x, LeO (btree_Next_J2_c l26 x27 b28 b29 b30 b33 x34 l35 l36 x38 x) (btree_Next_J2 l26 x27 b28 b29 b30 b33 x34 l35 l36 x38 x) := by
  rintro ⟨b46, b47, x48, x49⟩
  rw [btree_Next_J2_c, btree_Next_J2]
  repeat' (first | exact LeO.refl _ | apply LeO.none | apply slices_SortFunc_le | apply LeO.bind | apply LeO.ite | apply LeO.map | apply LeO.iter | intro _)
def btree_Next_J1_c : (Int × Int × Int × pointer_Pointer × Int × Int × List api_Page × List api_Page × List Int × List api_Page × Int × Bool × Bool × Bool × Bool × Bool × Bool × pointer_Pointer × List hashindex_Entry × List Int × Int × Int × Int × api_Page × pointer_Pointer × Bool) → Option ((List Int) × (List api_Page) × btree_Out × Bool)
  | (x17, x18, x19, x20, x21, x22, l23, l24, l25, l26, x27, b28, b29, b30, b31, b32, b33, x34, l35, l36, x37, x38, x39, x40, x41, b42) =>
    if (decide ((l25.length : Int) > 0)) = true then
      some (l25, ([] : List api_Page), (⟨0, false, false, false, false, false, false, (⟨0, 0⟩ : pointer_Pointer), ([] : List hashindex_Entry), ([] : List Int), 0, 0, 0⟩ : btree_Out), false)
    else
      if (!b42) = true then
        btree_Next_J2_c l26 x27 b28 b29 b30 b33 x34 l35 l36 x38 (false, false, 0, 0)
      else
        btree_Next_J2_c l26 x27 b28 b29 b30 b33 x34 l35 l36 x38 (b31, b32, x37, x39)
theorem btree_Next_J1_le  : ∀ x, LeO (btree_Next_J1_c  x) (btree_Next_J1  x) := by
  rintro ⟨x17, x18, x19, x20, x21, x22, l23, l24, l25, l26, x27, b28, b29, b30, b31, b32, b33, x34, l35, l36, x37, x38, x39, x40, x41, b42⟩
  rw [btree_Next_J1_c, btree_Next_J1]
  repeat' (first | exact LeO.refl _ | apply LeO.none | apply btree_Next_J2_le | apply LeO.bind | apply LeO.ite | apply LeO.map | apply LeO.iter | intro _)
def pointer_Open_c (a0 : (List api_Page)) (a1 : pointer_Pointer) (a2 : Int) : Option (api_Page × Bool × Int) :=
  (pointer_lookup_c a0 a1 a2 true).bind fun v1 =>
  some (v1.1, v1.2.1, v1.2.2)
theorem pointer_Open_le (a0 : (List api_Page)) (a1 : pointer_Pointer) (a2 : Int) : LeO (pointer_Open_c a0 a1 a2) (pointer_Open a0 a1 a2) := by
  rw [pointer_Open_c, pointer_Open]
  repeat' (first | exact LeO.refl _ | apply LeO.none | apply pointer_lookup_le | apply LeO.bind | apply LeO.ite | apply LeO.map | apply LeO.iter | intro _)
def btree_run_look_v2_c (a0 : btree_run) (a1 : pointer_Pointer) : Option (btree_found × Bool × btree_run) :=
  (pointer_Open_c a0.Known a1 4).bind fun v1 =>
  if (v1.2.2 != 0) = true then
    (btree_run_fail_c a0 v1.2.2 ([] : List Int)).bind fun v5 =>
    some ((⟨(⟨0, 0, (⟨0, 0, 0, 0, 0, 0, 0⟩ : (A7 Int))⟩ : api_Page), (⟨0, false, false, 0, (⟨0, 0⟩ : pointer_Pointer), ([] : List hashindex_Entry)⟩ : btree_Node)⟩ : btree_found), v5.1, v5.2)
  else
    if (!v1.2.1) = true then
      (btree_run_wait_c a0 a1.Line).bind fun v9 =>
      some ((⟨(⟨0, 0, (⟨0, 0, 0, 0, 0, 0, 0⟩ : (A7 Int))⟩ : api_Page), (⟨0, false, false, 0, (⟨0, 0⟩ : pointer_Pointer), ([] : List hashindex_Entry)⟩ : btree_Node)⟩ : btree_found), v9.1, v9.2)
    else
      (btree_ReadNode_c v1.1).bind fun v10 =>
      if (v10.2 != 0) = true then
        (btree_run_fail_c a0 v10.2 ([] : List Int)).bind fun v14 =>
        some ((⟨(⟨0, 0, (⟨0, 0, 0, 0, 0, 0, 0⟩ : (A7 Int))⟩ : api_Page), (⟨0, false, false, 0, (⟨0, 0⟩ : pointer_Pointer), ([] : List hashindex_Entry)⟩ : btree_Node)⟩ : btree_found), v14.1, v14.2)
      else
        some ((⟨v1.1, v10.1⟩ : btree_found), true, a0)
theorem btree_run_look_v2_le (a0 : btree_run) (a1 : pointer_Pointer) : LeO (btree_run_look_v2_c a0 a1) (btree_run_look_v2 a0 a1) := by
  rw [btree_run_look_v2_c, btree_run_look_v2]
  repeat' (first | exact LeO.refl _ | apply LeO.none | apply pointer_Open_le | apply btree_run_fail_le | apply btree_run_wait_le | apply btree_ReadNode_le | apply LeO.bind | apply LeO.ite | apply LeO.map | apply LeO.iter | intro _)
def btree_run_raise_c (a0 : btree_run) : Option btree_run :=
  if ((a0.Root.Line == 0) && (a0.Root.Gen == 0)) = true then
    (btree_run_fail_c a0 16 ([] : List Int)).bind fun v4 =>
    some v4.2
  else
    (btree_run_look_v2_c a0 a0.Root).bind fun v5 =>
    if (!v5.2.1) = true then
      some v5.2.2
    else
      if ((v5.1.Node.Right.Line == 0) && (v5.1.Node.Right.Gen == 0)) = true then
        some (⟨v5.2.2.Op, v5.2.2.Known, v5.2.2.Need, v5.2.2.Writes, (⟨v5.2.2.Out.Code, true, v5.2.2.Out.Done, v5.2.2.Out.Split, v5.2.2.Out.Unposted, v5.2.2.Out.Dead, v5.2.2.Out.More, v5.2.2.Out.To, v5.2.2.Out.Entries, v5.2.2.Out.Check, v5.2.2.Out.Hops, v5.2.2.Out.Fresh, v5.2.2.Out.Height⟩ : btree_Out), v5.2.2.RootPage, v5.2.2.Root, v5.2.2.Ended⟩ : btree_run)
      else
        if (v5.1.Node.Level == 8) = true then
          (btree_run_fail_c v5.2.2 12 ([] : List Int)).bind fun v13 =>
          some v13.2
        else
          (btree_run_fresh_v2_c v5.2.2 ([v5.1.Page.Line] : List Int)).bind fun v14 =>
          if (!v14.2.1) = true then
            some v14.2.2
          else
            (pointer_At_c v14.1).bind fun v17 =>
            (btree_WriteRoot_c v14.2.2.RootPage v17 (IntKind.i64.wrap (v5.1.Node.Level + 1))).bind fun v18 =>
            (btree_Node_fill_c (⟨(IntKind.i64.wrap (v5.1.Node.Level + 1)), true, false, 4294967295, (⟨0, 0⟩ : pointer_Pointer), ([(⟨v5.1.Node.High, v14.2.2.Root⟩ : hashindex_Entry), (⟨4294967295, v5.1.Node.Right⟩ : hashindex_Entry)] : List hashindex_Entry)⟩ : btree_Node) v14.1).bind fun v19 =>
            (btree_run_done_c v14.2.2 ([v18.1, v19] : List api_Page) ([v5.1.Page.Line] : List Int)).bind fun v20 =>
            some v20
theorem btree_run_raise_le (a0 : btree_run) : LeO (btree_run_raise_c a0) (btree_run_raise a0) := by
  rw [btree_run_raise_c, btree_run_raise]
  repeat' (first | exact LeO.refl _ | apply LeO.none | apply btree_run_fail_le | apply btree_run_look_v2_le | apply btree_run_fresh_v2_le | apply pointer_At_le | apply btree_WriteRoot_le | apply btree_Node_fill_le | apply btree_run_done_le | apply LeO.bind | apply LeO.ite | apply LeO.map | apply LeO.iter | intro _)
def btree_Next_c (a0 : btree_Op) (a1 : (List api_Page)) : Option ((List Int) × (List api_Page) × btree_Out × Bool) :=
  (btree_Op_isValid_c a0).bind fun v3 =>
  if (!v3) = true then
    some (([] : List Int), ([] : List api_Page), (⟨1, false, false, false, false, false, false, (⟨0, 0⟩ : pointer_Pointer), ([] : List hashindex_Entry), ([] : List Int), 0, 0, 0⟩ : btree_Out), true)
  else
    (btree_run_readRoot_c (⟨a0, a1, [], [], (⟨0, false, false, false, false, false, false, (⟨0, 0⟩ : pointer_Pointer), [], [], 0, 0, 0⟩ : btree_Out), (⟨0, 0, (⟨0, 0, 0, 0, 0, 0, 0⟩ : (A7 Int))⟩ : api_Page), (⟨0, 0⟩ : pointer_Pointer), false⟩ : btree_run)).bind fun v61 =>
    if v61.1 = true then
      if (a0.Kind == 1) = true then
        none
      else
        if (a0.Kind == 2) = true then
          (btree_run_insert_c v61.2).bind fun v65 =>
          btree_Next_J1_c (v65.Op.Kind, v65.Op.Key, v65.Op.Last, v65.Op.To, v65.Op.Level, v65.Op.Limit, v65.Op.Fresh, v65.Known, v65.Need, v65.Writes, v65.Out.Code, v65.Out.Found, v65.Out.Done, v65.Out.Split, v65.Out.Unposted, v65.Out.Dead, v65.Out.More, v65.Out.To, v65.Out.Entries, v65.Out.Check, v65.Out.Hops, v65.Out.Fresh, v65.Out.Height, v65.RootPage, v65.Root, v65.Ended)
        else
          if (a0.Kind == 3) = true then
            none
          else
            if (a0.Kind == 4) = true then
              none
            else
              if (a0.Kind == 5) = true then
                none
              else
                if (a0.Kind == 6) = true then
                  (btree_run_raise_c v61.2).bind fun v96 =>
                  btree_Next_J1_c (v96.Op.Kind, v96.Op.Key, v96.Op.Last, v96.Op.To, v96.Op.Level, v96.Op.Limit, v96.Op.Fresh, v96.Known, v96.Need, v96.Writes, v96.Out.Code, v96.Out.Found, v96.Out.Done, v96.Out.Split, v96.Out.Unposted, v96.Out.Dead, v96.Out.More, v96.Out.To, v96.Out.Entries, v96.Out.Check, v96.Out.Hops, v96.Out.Fresh, v96.Out.Height, v96.RootPage, v96.Root, v96.Ended)
                else
                  if (a0.Kind == 7) = true then
                    none
                  else
                    if (a0.Kind == 8) = true then
                      none
                    else
                      btree_Next_J1_c (v61.2.Op.Kind, v61.2.Op.Key, v61.2.Op.Last, v61.2.Op.To, v61.2.Op.Level, v61.2.Op.Limit, v61.2.Op.Fresh, v61.2.Known, v61.2.Need, v61.2.Writes, v61.2.Out.Code, v61.2.Out.Found, v61.2.Out.Done, v61.2.Out.Split, v61.2.Out.Unposted, v61.2.Out.Dead, v61.2.Out.More, v61.2.Out.To, v61.2.Out.Entries, v61.2.Out.Check, v61.2.Out.Hops, v61.2.Out.Fresh, v61.2.Out.Height, v61.2.RootPage, v61.2.Root, v61.2.Ended)
    else
      btree_Next_J1_c (v61.2.Op.Kind, v61.2.Op.Key, v61.2.Op.Last, v61.2.Op.To, v61.2.Op.Level, v61.2.Op.Limit, v61.2.Op.Fresh, v61.2.Known, v61.2.Need, v61.2.Writes, v61.2.Out.Code, v61.2.Out.Found, v61.2.Out.Done, v61.2.Out.Split, v61.2.Out.Unposted, v61.2.Out.Dead, v61.2.Out.More, v61.2.Out.To, v61.2.Out.Entries, v61.2.Out.Check, v61.2.Out.Hops, v61.2.Out.Fresh, v61.2.Out.Height, v61.2.RootPage, v61.2.Root, v61.2.Ended)
theorem btree_Next_le (a0 : btree_Op) (a1 : (List api_Page)) : LeO (btree_Next_c a0 a1) (btree_Next a0 a1) := by
  rw [btree_Next_c, btree_Next]
  repeat' (first | exact LeO.refl _ | apply LeO.none | apply btree_Op_isValid_le | apply btree_run_readRoot_le | apply btree_run_insert_le | apply btree_Next_J1_le | apply btree_run_raise_le | apply LeO.bind | apply LeO.ite | apply LeO.map | apply LeO.iter | intro _)
def bodegalaw24_index_run_J3_c (l69 : List api_Page) (x135 : Int) (l134 : List api_Page) (e138 : api_Page) : Unit → Option ((List api_Page × Int) ⊕ (btree_Out × Bool × bodegalaw24_index))
  | () =>
    (idx l69 x135).bind fun e146 =>
    (idx l134 (IntKind.i64.wrap (e138.Line - 96))).bind fun e147 =>
    (idx (l134.set (IntKind.i64.wrap (e138.Line - 96)).toNat e146) (IntKind.i64.wrap (e138.Line - 96))).bind fun e148 =>
    some (.inl (((l134.set (IntKind.i64.wrap (e138.Line - 96)).toNat e146).set (IntKind.i64.wrap (e138.Line - 96)).toNat (⟨e148.Line, (IntKind.u64.wrap (e148.Head + 256)), e148.Data⟩ : api_Page)), (IntKind.i64.wrap (x135 + 1))))
theorem bodegalaw24_index_run_J3_le (l69 : List api_Page) (x135 : Int) (l134 : List api_Page) (e138 : api_Page) : ∀ x, LeO (bodegalaw24_index_run_J3_c l69 x135 l134 e138 x) (bodegalaw24_index_run_J3 l69 x135 l134 e138 x) := by
  rintro ⟨⟩
  rw [bodegalaw24_index_run_J3_c, bodegalaw24_index_run_J3]
  repeat' (first | exact LeO.refl _ | apply LeO.none | apply LeO.bind | apply LeO.ite | apply LeO.map | apply LeO.iter | intro _)
def bodegalaw24_index_run_L1_c (l69 : List api_Page) (x70 : Int) (b71 : Bool) (b72 : Bool) (b73 : Bool) (b74 : Bool) (b75 : Bool) (b76 : Bool) (x77 : pointer_Pointer) (l78 : List hashindex_Entry) (l79 : List Int) (x80 : Int) (x81 : Int) (x82 : Int) (x67 : Int) (a0 : bodegalaw24_index) : (List api_Page × Int) → Option ((List api_Page × Int) ⊕ (btree_Out × Bool × bodegalaw24_index))
  | (l134, x135) =>
    if (decide (x135 < (l69.length : Int))) = true then
      (idx l69 x135).bind fun e138 =>
      if (decide ((IntKind.i64.wrap (e138.Line - 96)) < 0)) = true then
        Option.map Sum.inr (
          some ((⟨x70, b71, b72, b73, b74, b75, b76, x77, l78, l79, x80, x81, x82⟩ : btree_Out), false, (⟨l134, x67, a0.Keys, a0.To, a0.Gone⟩ : bodegalaw24_index)))
      else
        if (decide ((IntKind.i64.wrap (e138.Line - 96)) ≥ (l134.length : Int))) = true then
          Option.map Sum.inr (
            some ((⟨x70, b71, b72, b73, b74, b75, b76, x77, l78, l79, x80, x81, x82⟩ : btree_Out), false, (⟨l134, x67, a0.Keys, a0.To, a0.Gone⟩ : bodegalaw24_index)))
        else
          (idx l134 (IntKind.i64.wrap (e138.Line - 96))).bind fun e153 =>
          if (e153.Head != e138.Head) = true then
            Option.map Sum.inr (
              some ((⟨x70, b71, b72, b73, b74, b75, b76, x77, l78, l79, x80, x81, x82⟩ : btree_Out), false, (⟨l134, x67, a0.Keys, a0.To, a0.Gone⟩ : bodegalaw24_index)))
          else
            if (decide (x135 > 0)) = true then
              (idx l69 (IntKind.i64.wrap (x135 - 1))).bind fun e156 =>
              if (decide (e156.Line ≥ e138.Line)) = true then
                Option.map Sum.inr (
                  some ((⟨x70, b71, b72, b73, b74, b75, b76, x77, l78, l79, x80, x81, x82⟩ : btree_Out), false, (⟨l134, x67, a0.Keys, a0.To, a0.Gone⟩ : bodegalaw24_index)))
              else
                bodegalaw24_index_run_J3_c l69 x135 l134 e138 ()
            else
              bodegalaw24_index_run_J3_c l69 x135 l134 e138 ()
    else
      Option.map Sum.inr (
        some ((⟨x70, b71, b72, b73, b74, b75, b76, x77, l78, l79, x80, x81, x82⟩ : btree_Out), true, (⟨l134, x67, a0.Keys, a0.To, a0.Gone⟩ : bodegalaw24_index)))
theorem bodegalaw24_index_run_L1_le (l69 : List api_Page) (x70 : Int) (b71 : Bool) (b72 : Bool) (b73 : Bool) (b74 : Bool) (b75 : Bool) (b76 : Bool) (x77 : pointer_Pointer) (l78 : List hashindex_Entry) (l79 : List Int) (x80 : Int) (x81 : Int) (x82 : Int) (x67 : Int) (a0 : bodegalaw24_index) : ∀ x, LeO (bodegalaw24_index_run_L1_c l69 x70 b71 b72 b73 b74 b75 b76 x77 l78 l79 x80 x81 x82 x67 a0 x) (bodegalaw24_index_run_L1 l69 x70 b71 b72 b73 b74 b75 b76 x77 l78 l79 x80 x81 x82 x67 a0 x) := by
  rintro ⟨l134, x135⟩
  rw [bodegalaw24_index_run_L1_c, bodegalaw24_index_run_L1]
  repeat' (first | exact LeO.refl _ | apply LeO.none | apply bodegalaw24_index_run_J3_le | apply LeO.bind | apply LeO.ite | apply LeO.map | apply LeO.iter | intro _)
def bodegalaw24_index_run_J2_c (l69 : List api_Page) (x70 : Int) (b71 : Bool) (b72 : Bool) (b73 : Bool) (b74 : Bool) (b75 : Bool) (b76 : Bool) (x77 : pointer_Pointer) (l78 : List hashindex_Entry) (l79 : List Int) (x80 : Int) (x81 : Int) (x82 : Int) (x67 : Int) (a0 : bodegalaw24_index) : Unit → Option (btree_Out × Bool × bodegalaw24_index)
  | () =>
    iterF (bodegalaw24_index_run_L1_c l69 x70 b71 b72 b73 b74 b75 b76 x77 l78 l79 x80 x81 x82 x67 a0) (a0.Pages, 0)
theorem bodegalaw24_index_run_J2_le (l69 : List api_Page) (x70 : Int) (b71 : Bool) (b72 : Bool) (b73 : Bool) (b74 : Bool) (b75 : Bool) (b76 : Bool) (x77 : pointer_Pointer) (l78 : List hashindex_Entry) (l79 : List Int) (x80 : Int) (x81 : Int) (x82 : Int) (x67 : Int) (a0 : bodegalaw24_index) : ∀ x, LeO (bodegalaw24_index_run_J2_c l69 x70 b71 b72 b73 b74 b75 b76 x77 l78 l79 x80 x81 x82 x67 a0 x) (bodegalaw24_index_run_J2 l69 x70 b71 b72 b73 b74 b75 b76 x77 l78 l79 x80 x81 x82 x67 a0 x) := by
  rintro ⟨⟩
  rw [bodegalaw24_index_run_J2_c, bodegalaw24_index_run_J2]
  repeat' (first | exact LeO.refl _ | apply LeO.none | apply bodegalaw24_index_run_L1_le | apply LeO.bind | apply LeO.ite | apply LeO.map | apply LeO.iter | intro _)
def bodegalaw24_index_run_J1_c (a0 : bodegalaw24_index) : (Int × List Int × List api_Page × Int × Bool × Bool × Bool × Bool × Bool × Bool × pointer_Pointer × List hashindex_Entry × List Int × Int × Int × Int × Bool) → Option (btree_Out × Bool × bodegalaw24_index)
  | (x67, l68, l69, x70, b71, b72, b73, b74, b75, b76, x77, l78, l79, x80, x81, x82, b83) =>
    if (!b83) = true then
      some ((⟨x70, b71, b72, b73, b74, b75, b76, x77, l78, l79, x80, x81, x82⟩ : btree_Out), false, (⟨a0.Pages, x67, a0.Keys, a0.To, a0.Gone⟩ : bodegalaw24_index))
    else
      if (decide ((l68.length : Int) > 0)) = true then
        some ((⟨x70, b71, b72, b73, b74, b75, b76, x77, l78, l79, x80, x81, x82⟩ : btree_Out), false, (⟨a0.Pages, x67, a0.Keys, a0.To, a0.Gone⟩ : bodegalaw24_index))
      else
        if (x70 != 0) = true then
          if (decide ((l69.length : Int) > 0)) = true then
            some ((⟨x70, b71, b72, b73, b74, b75, b76, x77, l78, l79, x80, x81, x82⟩ : btree_Out), false, (⟨a0.Pages, x67, a0.Keys, a0.To, a0.Gone⟩ : bodegalaw24_index))
          else
            bodegalaw24_index_run_J2_c l69 x70 b71 b72 b73 b74 b75 b76 x77 l78 l79 x80 x81 x82 x67 a0 ()
        else
          bodegalaw24_index_run_J2_c l69 x70 b71 b72 b73 b74 b75 b76 x77 l78 l79 x80 x81 x82 x67 a0 ()
theorem bodegalaw24_index_run_J1_le (a0 : bodegalaw24_index) : ∀ x, LeO (bodegalaw24_index_run_J1_c a0 x) (bodegalaw24_index_run_J1 a0 x) := by
  rintro ⟨x67, l68, l69, x70, b71, b72, b73, b74, b75, b76, x77, l78, l79, x80, x81, x82, b83⟩
  rw [bodegalaw24_index_run_J1_c, bodegalaw24_index_run_J1]
  repeat' (first | exact LeO.refl _ | apply LeO.none | apply bodegalaw24_index_run_J2_le | apply LeO.bind | apply LeO.ite | apply LeO.map | apply LeO.iter | intro _)
def bodegalaw24_index_run_J4_c (a1 : btree_Op) (a0 : bodegalaw24_index) : (Int × List api_Page) → Option (btree_Out × Bool × bodegalaw24_index)
  | (x196, l197) =>
    (btree_Next_c (⟨a1.Kind, a1.Key, a1.Last, a1.To, a1.Level, a1.Limit, l197⟩ : btree_Op) a0.Pages).bind fun v198 =>
    bodegalaw24_index_run_J1_c a0 (x196, v198.1, v198.2.1, v198.2.2.1.Code, v198.2.2.1.Found, v198.2.2.1.Done, v198.2.2.1.Split, v198.2.2.1.Unposted, v198.2.2.1.Dead, v198.2.2.1.More, v198.2.2.1.To, v198.2.2.1.Entries, v198.2.2.1.Check, v198.2.2.1.Hops, v198.2.2.1.Fresh, v198.2.2.1.Height, v198.2.2.2)
theorem bodegalaw24_index_run_J4_le (a1 : btree_Op) (a0 : bodegalaw24_index) : ∀ x, LeO (bodegalaw24_index_run_J4_c a1 a0 x) (bodegalaw24_index_run_J4 a1 a0 x) := by
  rintro ⟨x196, l197⟩
  rw [bodegalaw24_index_run_J4_c, bodegalaw24_index_run_J4]
  repeat' (first | exact LeO.refl _ | apply LeO.none | apply btree_Next_le | apply bodegalaw24_index_run_J1_le | apply LeO.bind | apply LeO.ite | apply LeO.map | apply LeO.iter | intro _)
def bodegalaw24_index_run_L2_c (v1 : ((List Int) × (List api_Page) × btree_Out × Bool)) (a0 : bodegalaw24_index) (a1 : btree_Op) : (Int × List api_Page × Int) → Option ((Int × List api_Page × Int) ⊕ (btree_Out × Bool × bodegalaw24_index))
  | (x237, l238, x239) =>
    if (decide (x239 < v1.2.2.1.Fresh)) = true then
      if (decide (x237 < 256)) = true then
        (idx a0.Pages (IntKind.i64.wrap (x237 - 96))).bind fun e248 =>
        if (l238.length + 1) * 72 ≤ maxRows ∧ l238.length + 1 ≤ maxRows then
          some (.inl ((IntKind.i64.wrap (x237 + 1)), (l238 ++ ([e248] : List api_Page)), (IntKind.i64.wrap (x239 + 1))))
        else none
      else
        Option.map Sum.inr (
          bodegalaw24_index_run_J4_c a1 a0 (x237, l238))
    else
      Option.map Sum.inr (
        bodegalaw24_index_run_J4_c a1 a0 (x237, l238))
theorem bodegalaw24_index_run_L2_le (v1 : ((List Int) × (List api_Page) × btree_Out × Bool)) (a0 : bodegalaw24_index) (a1 : btree_Op) : ∀ x, LeO (bodegalaw24_index_run_L2_c v1 a0 a1 x) (bodegalaw24_index_run_L2 v1 a0 a1 x) := by
  rintro ⟨x237, l238, x239⟩
  rw [bodegalaw24_index_run_L2_c, bodegalaw24_index_run_L2]
  repeat' (first | exact LeO.refl _ | apply LeO.none | apply bodegalaw24_index_run_J4_le | apply LeO.bind | apply LeO.ite | apply LeO.map | apply LeO.iter | intro _)
def bodegalaw24_index_run_c (a0 : bodegalaw24_index) (a1 : btree_Op) : Option (btree_Out × Bool × bodegalaw24_index) :=
  (btree_Next_c a1 a0.Pages).bind fun v1 =>
  if v1.2.2.2 = true then
    if (v1.2.2.1.Code == 18) = true then
      iterF (bodegalaw24_index_run_L2_c v1 a0 a1) (a0.Next, a1.Fresh, 0)
    else
      bodegalaw24_index_run_J1_c a0 (a0.Next, v1.1, v1.2.1, v1.2.2.1.Code, v1.2.2.1.Found, v1.2.2.1.Done, v1.2.2.1.Split, v1.2.2.1.Unposted, v1.2.2.1.Dead, v1.2.2.1.More, v1.2.2.1.To, v1.2.2.1.Entries, v1.2.2.1.Check, v1.2.2.1.Hops, v1.2.2.1.Fresh, v1.2.2.1.Height, v1.2.2.2)
  else
    bodegalaw24_index_run_J1_c a0 (a0.Next, v1.1, v1.2.1, v1.2.2.1.Code, v1.2.2.1.Found, v1.2.2.1.Done, v1.2.2.1.Split, v1.2.2.1.Unposted, v1.2.2.1.Dead, v1.2.2.1.More, v1.2.2.1.To, v1.2.2.1.Entries, v1.2.2.1.Check, v1.2.2.1.Hops, v1.2.2.1.Fresh, v1.2.2.1.Height, v1.2.2.2)
theorem bodegalaw24_index_run_le (a0 : bodegalaw24_index) (a1 : btree_Op) : LeO (bodegalaw24_index_run_c a0 a1) (bodegalaw24_index_run a0 a1) := by
  rw [bodegalaw24_index_run_c, bodegalaw24_index_run]
  repeat' (first | exact LeO.refl _ | apply LeO.none | apply btree_Next_le | apply bodegalaw24_index_run_L2_le | apply bodegalaw24_index_run_J1_le | apply LeO.bind | apply LeO.ite | apply LeO.map | apply LeO.iter | intro _)
def bodegalaw24_index_insert_c (a0 : bodegalaw24_index) (a1 : Int) (a2 : pointer_Pointer) : Option (Bool × bodegalaw24_index) :=
  (bodegalaw24_index_place_c a0 a1).bind fun v1 =>
  (bodegalaw24_index_run_c v1.2.2 (⟨2, a1, 0, a2, 0, 0, []⟩ : btree_Op)).bind fun v2 =>
  if (!v2.2.1) = true then
    some ((v2.2.1 && ((v2.1.Code == 17) && ((v2.1.Check.length : Int) == 1))), v2.2.2)
  else
    if v1.2.1 = true then
      some ((v2.2.1 && ((v2.1.Code == 17) && ((v2.1.Check.length : Int) == 1))), v2.2.2)
    else
      if 0 ≤ 0 ∧ 0 ≤ v1.1 ∧ v1.1 ≤ (v2.2.2.Keys.length : Int) then
        if (([] : List Int).length + ((v2.2.2.Keys.drop 0).take v1.1.toNat).length) * 4 ≤ maxRows ∧ ([] : List Int).length + ((v2.2.2.Keys.drop 0).take v1.1.toNat).length ≤ maxRows then
          if (((v2.2.2.Keys.drop 0).take v1.1.toNat).length + 1) * 4 ≤ maxRows ∧ ((v2.2.2.Keys.drop 0).take v1.1.toNat).length + 1 ≤ maxRows then
            if 0 ≤ v1.1 ∧ v1.1 ≤ (v2.2.2.Keys.length : Int) then
              if ((((v2.2.2.Keys.drop 0).take v1.1.toNat) ++ ([a1] : List Int)).length + ((v2.2.2.Keys.drop v1.1.toNat).take ((v2.2.2.Keys.length : Int) - v1.1).toNat).length) * 4 ≤ maxRows ∧ (((v2.2.2.Keys.drop 0).take v1.1.toNat) ++ ([a1] : List Int)).length + ((v2.2.2.Keys.drop v1.1.toNat).take ((v2.2.2.Keys.length : Int) - v1.1).toNat).length ≤ maxRows then
                if 0 ≤ 0 ∧ 0 ≤ v1.1 ∧ v1.1 ≤ (v2.2.2.To.length : Int) then
                  if (([] : List pointer_Pointer).length + ((v2.2.2.To.drop 0).take v1.1.toNat).length) * 16 ≤ maxRows ∧ ([] : List pointer_Pointer).length + ((v2.2.2.To.drop 0).take v1.1.toNat).length ≤ maxRows then
                    if (((v2.2.2.To.drop 0).take v1.1.toNat).length + 1) * 16 ≤ maxRows ∧ ((v2.2.2.To.drop 0).take v1.1.toNat).length + 1 ≤ maxRows then
                      if 0 ≤ v1.1 ∧ v1.1 ≤ (v2.2.2.To.length : Int) then
                        if ((((v2.2.2.To.drop 0).take v1.1.toNat) ++ ([a2] : List pointer_Pointer)).length + ((v2.2.2.To.drop v1.1.toNat).take ((v2.2.2.To.length : Int) - v1.1).toNat).length) * 16 ≤ maxRows ∧ (((v2.2.2.To.drop 0).take v1.1.toNat) ++ ([a2] : List pointer_Pointer)).length + ((v2.2.2.To.drop v1.1.toNat).take ((v2.2.2.To.length : Int) - v1.1).toNat).length ≤ maxRows then
                          some (((v2.1.Code == 0) && v2.1.Done), (⟨v2.2.2.Pages, v2.2.2.Next, ((((v2.2.2.Keys.drop 0).take v1.1.toNat) ++ ([a1] : List Int)) ++ ((v2.2.2.Keys.drop v1.1.toNat).take ((v2.2.2.Keys.length : Int) - v1.1).toNat)), ((((v2.2.2.To.drop 0).take v1.1.toNat) ++ ([a2] : List pointer_Pointer)) ++ ((v2.2.2.To.drop v1.1.toNat).take ((v2.2.2.To.length : Int) - v1.1).toNat)), v2.2.2.Gone⟩ : bodegalaw24_index))
                        else none
                      else none
                    else none
                  else none
                else none
              else none
            else none
          else none
        else none
      else none
theorem bodegalaw24_index_insert_le (a0 : bodegalaw24_index) (a1 : Int) (a2 : pointer_Pointer) : LeO (bodegalaw24_index_insert_c a0 a1 a2) (bodegalaw24_index_insert a0 a1 a2) := by
  rw [bodegalaw24_index_insert_c, bodegalaw24_index_insert]
  repeat' (first | exact LeO.refl _ | apply LeO.none | apply bodegalaw24_index_place_le | apply bodegalaw24_index_run_le | apply LeO.bind | apply LeO.ite | apply LeO.map | apply LeO.iter | intro _)
def bodegalaw24_awake_J1_c : (List api_Page × Int × List Int × List pointer_Pointer × List pointer_Pointer) → Option Bool
  | (l38, x39, l40, l41, l42) =>
    (bodegalaw24_index_run_c (⟨l38, x39, l40, l41, l42⟩ : bodegalaw24_index) (⟨6, 0, 0, (⟨0, 0⟩ : pointer_Pointer), 0, 0, []⟩ : btree_Op)).bind fun v43 =>
    (idx v43.2.2.Pages 9).bind fun e44 =>
    (btree_ReadNode_c e44).bind fun v45 =>
    some (v43.2.1 && (v43.1.Done && ((v45.2 == 0) && ((v45.1.High == 3) && ((v45.1.Entries.length : Int) == 3)))))
theorem bodegalaw24_awake_J1_le  : ∀ x, LeO (bodegalaw24_awake_J1_c  x) (bodegalaw24_awake_J1  x) := by
  rintro ⟨l38, x39, l40, l41, l42⟩
  rw [bodegalaw24_awake_J1_c, bodegalaw24_awake_J1]
  repeat' (first | exact LeO.refl _ | apply LeO.none | apply bodegalaw24_index_run_le | apply btree_ReadNode_le | apply LeO.bind | apply LeO.ite | apply LeO.map | apply LeO.iter | intro _)
def bodegalaw24_awake_L1_c : (List api_Page × Int × List Int × List pointer_Pointer × List pointer_Pointer × Int) → Option ((List api_Page × Int × List Int × List pointer_Pointer × List pointer_Pointer × Int) ⊕ Bool)
  | (l76, x77, l78, l79, l80, x81) =>
    if (decide (x81 ≤ 6)) = true then
      (bodegalaw24_index_insert_c (⟨l76, x77, l78, l79, l80⟩ : bodegalaw24_index) x81 (⟨200, (IntKind.i64.wrap x81)⟩ : pointer_Pointer)).bind fun v89 =>
      if (!v89.1) = true then
        Option.map Sum.inr (
          some false)
      else
        some (.inl (v89.2.Pages, v89.2.Next, v89.2.Keys, v89.2.To, v89.2.Gone, (IntKind.u32.wrap (x81 + 1))))
    else
      Option.map Sum.inr (
        bodegalaw24_awake_J1_c (l76, x77, l78, l79, l80))
theorem bodegalaw24_awake_L1_le  : ∀ x, LeO (bodegalaw24_awake_L1_c  x) (bodegalaw24_awake_L1  x) := by
  rintro ⟨l76, x77, l78, l79, l80, x81⟩
  rw [bodegalaw24_awake_L1_c, bodegalaw24_awake_L1]
  repeat' (first | exact LeO.refl _ | apply LeO.none | apply bodegalaw24_index_insert_le | apply bodegalaw24_awake_J1_le | apply LeO.bind | apply LeO.ite | apply LeO.map | apply LeO.iter | intro _)
def bodegalaw24_awake_c : Option Bool :=
  (bodegalaw24_begin_c).bind fun v1 =>
  iterF (bodegalaw24_awake_L1_c) (v1.Pages, v1.Next, v1.Keys, v1.To, v1.Gone, 1)
theorem bodegalaw24_awake_le  : LeO (bodegalaw24_awake_c ) (bodegalaw24_awake ) := by
  rw [bodegalaw24_awake_c, bodegalaw24_awake]
  repeat' (first | exact LeO.refl _ | apply LeO.none | apply bodegalaw24_begin_le | apply bodegalaw24_awake_L1_le | apply LeO.bind | apply LeO.ite | apply LeO.map | apply LeO.iter | intro _)
end Go.Sh
end
section
namespace Go.Sh
theorem tree_awake : bodegalaw24_awake = some true := bodegalaw24_awake_le _ (by decide +kernel)
end Go.Sh
end
section
namespace Go.Sh

theorem vp_good {e : hashindex_Entry} (h : okE e) : ent (we e) = e := by
  unfold ent we
  rw [two_lo (pkP_r _), two_hi (pkP_r _), dp_pk (by unfold good; rw [h.2]; simp)]
theorem ents_fill : ∀ (es : List hashindex_Entry), es.length ≤ 5 → (∀ e ∈ es, okE e) → [ent (wd es 0), ent (wd es 1), ent (wd es 2), ent (wd es 3), ent (wd es 4)].take es.length = es
  | [], _, _ => rfl
  | [a], _, h => by
    simp only [List.mem_cons, List.not_mem_nil, or_false, forall_eq] at h
    show [ent (we a)] = _
    rw [vp_good h]
  | [a, b], _, h => by
    simp only [List.mem_cons, List.not_mem_nil, or_false, forall_eq_or_imp, forall_eq] at h
    show [ent (we a), ent (we b)] = _
    rw [vp_good h.1, vp_good h.2]
  | [a, b, c], _, h => by
    simp only [List.mem_cons, List.not_mem_nil, or_false, forall_eq_or_imp, forall_eq] at h
    show [ent (we a), ent (we b), ent (we c)] = _
    rw [vp_good h.1, vp_good h.2.1, vp_good h.2.2]
  | [a, b, c, d], _, h => by
    simp only [List.mem_cons, List.not_mem_nil, or_false, forall_eq_or_imp, forall_eq] at h
    show [ent (we a), ent (we b), ent (we c), ent (we d)] = _
    rw [vp_good h.1, vp_good h.2.1, vp_good h.2.2.1, vp_good h.2.2.2]
  | [a, b, c, d, e], _, h => by
    simp only [List.mem_cons, List.not_mem_nil, or_false, forall_eq_or_imp, forall_eq] at h
    show [ent (we a), ent (we b), ent (we c), ent (we d), ent (we e)] = _
    rw [vp_good h.1, vp_good h.2.1, vp_good h.2.2.1, vp_good h.2.2.2.1, vp_good h.2.2.2.2]
  | a :: b :: c :: d :: e :: f :: r, h, _ => by simp at h
theorem wd_none {es : List hashindex_Entry} {i : Nat} (h : es.length ≤ i) : wd es i = 0 := by unfold wd; rw [List.getElem?_eq_none h]
theorem bt_aux (n : btree_Node) (h1 : 0 ≤ n.Level ∧ n.Level ≤ 8) (h2 : n.Entries.length ≤ 5) : bt (aux n) 16 = n.Leftmost ∧ bt (aux n) 17 = n.Dead := by
  unfold bt aux b2i
  rw [show ((2 : Int) ^ 16) = 65536 from rfl, show ((2 : Int) ^ 17) = 131072 from rfl]
  have e : ∀ (x y : Int) (b : Bool), (b = true → x % 2 = 1) → (b = false → x % 2 = 0) → (x % 2 == 1) = b := fun x y b h h' => by
    cases b
    · simp [h' rfl]
    · simp [h rfl]
  constructor
  · refine e _ 0 _ (fun hb => ?_) fun hb => ?_
    · rw [hb]; cases n.Dead <;> simp <;> omega
    · rw [hb]; cases n.Dead <;> simp <;> omega
  · refine e _ 0 _ (fun hb => ?_) fun hb => ?_
    · rw [hb]; cases n.Leftmost <;> simp <;> omega
    · rw [hb]; cases n.Leftmost <;> simp <;> omega
theorem rdN_fill {p : api_Page} {b : btree_Node} (hk : p.Data.a0 % 256 = 4) (hn : nk b) (hv : nv b = true) : rdN (fillN b p) = (b, 0) := by
  obtain ⟨h1, h2, h3, h4, h5, _⟩ := nv_facts hn hv
  have hax := aux_r hn hv
  have hall := rise_all (by omega) h3 hn.2.1
  have hH := hn.1
  unfold k_u32 at hH
  have d0 : (fillN b p).Data.a0 = two (lo p.Data.a0) (aux b) := rfl
  have e0 : hi (fillN b p).Data.a0 = aux b := by rw [d0]; exact two_hi lo_r
  have ek : (fillN b p).Data.a0 % 256 = 4 := by rw [d0]; unfold two lo; omega
  have ec : cn (fillN b p) = (b.Entries.length : Int) := by
    unfold cn; rw [e0]; unfold aux b2i
    cases b.Leftmost <;> cases b.Dead <;> simp <;> omega
  have d1 : (fillN b p).Data.a1 = two b.High (pkP b.Right) := rfl
  have el : lo (fillN b p).Data.a1 = b.High := by rw [d1]; exact two_lo (by omega)
  have eh : hi (fillN b p).Data.a1 = pkP b.Right := by rw [d1]; exact two_hi (by omega)
  have eb : nd (fillN b p) = b := by
    unfold nd
    obtain ⟨b1, b2⟩ := bt_aux b h1 h2
    rw [e0, el, eh, dp_pk (rn_good h5), ec, b1, b2]
    have a1 : aux b % 256 = b.Level := by
      unfold aux b2i
      cases b.Leftmost <;> cases b.Dead <;> simp <;> omega
    have a3 : (ents (fillN b p)).take ((b.Entries.length : Int)).toNat = b.Entries := by
      rw [Int.toNat_natCast]
      exact ents_fill b.Entries h2 hall
    rw [a1, a3]
  have et : tz (fillN b p) := by
    unfold tz
    rw [ec]
    exact ⟨fun h => wd_none (by omega), fun h => wd_none (by omega), fun h => wd_none (by omega), fun h => wd_none (by omega), fun h => wd_none (by omega)⟩
  unfold rdN
  rw [if_pos ⟨ek, by rw [ec]; omega, by rw [e0]; omega, by rw [eb]; exact hv, et⟩, eb]
theorem we_k {e : hashindex_Entry} (h : okE e) : k_u64 (we e) := two_k (pkP_r _) (by have := h.1; omega)
theorem wd_k {es : List hashindex_Entry} (h : ∀ e ∈ es, okE e) (i : Nat) : k_u64 (wd es i) := by
  unfold wd
  split
  · rename_i e he; exact we_k (h e (List.mem_of_getElem? he))
  · unfold k_u64; omega
theorem fillN_k {p : api_Page} {b : btree_Node} (hn : nk b) (hv : nv b = true) : k_A7 k_u64 (fillN b p).Data := by
  obtain ⟨h1, h2, h3, h4, h5, _⟩ := nv_facts hn hv
  have hall := rise_all (by omega) h3 hn.2.1
  have hax := aux_r hn hv
  have hH := hn.1
  unfold k_u32 at hH
  exact ⟨two_k lo_r (by omega), two_k (by omega) (pkP_r _), wd_k hall 0, wd_k hall 1, wd_k hall 2, wd_k hall 3, wd_k hall 4⟩
theorem rdN_len {p : api_Page} (h : k_A7 k_u64 p.Data) : (rdN p).1.Entries.length ≤ 1000 := by
  unfold rdN
  split
  · exact (nd_k h).2.2
  · show 0 ≤ 1000; omega
theorem cN_len {b : btree_Node} (h : b.Entries.length ≤ 1000) : (cN b).Entries.length ≤ 1000 := by show (b.Entries.map cE).length ≤ 1000; rw [List.length_map]; exact h
theorem xor_k (a b : Int) : k_u64 (bits .xor .u64 a b) := by
  unfold bits
  split <;> exact wrap_k _
theorem set7_k {a : A7 Int} {i v : Int} (h : k_A7 k_u64 a) (hv : k_u64 v) : k_A7 k_u64 (A7.set a i v) := by
  obtain ⟨h0, h1, h2, h3, h4, h5, h6⟩ := h
  unfold A7.set
  repeat' split
  all_goals exact ⟨by assumption, by assumption, by assumption, by assumption, by assumption, by assumption, by assumption⟩

theorem NJ4_true (p : api_Page) (hp : k_api_Page p) (d : Int) (hd : k_u64 d) (lv : Int) (a1 : btree_Node) (hg : Int) (hh : k_u32 hg) (rt : pointer_Pointer) (n : Int) (l : List hashindex_Entry) (hl : l.length ≤ 9) (hk : ∀ e ∈ l, k_u32 e.Key) :
    bodegalaw24_TreeNodes_J4 p d lv a1 hg rt n l = some true := by
  obtain ⟨_, _, hD⟩ := hp
  unfold bodegalaw24_TreeNodes_J4
  generalize hq : (⟨p.Line, p.Head, ⟨d, p.Data.a1, p.Data.a2, p.Data.a3, p.Data.a4, p.Data.a5, p.Data.a6⟩⟩ : api_Page) = q
  have hqk : k_A7 k_u64 q.Data := by rw [← hq]; exact ⟨hd, hD.2⟩
  have hqL : q.Line = p.Line := by rw [← hq]
  have hqH : q.Head = p.Head := by rw [← hq]
  generalize hb : (⟨lv, a1.Leftmost, a1.Dead, hg, rt, l⟩ : btree_Node) = b
  have hbn : nk b := by rw [← hb]; exact ⟨hh, hk, by show l.length ≤ 1000; omega⟩
  have hbl := hbn.2.2
  have hr := rdN_len hqk
  simp only [ReadNode_eq _ hqk, ReadNodeR_eq _ hqk, WriteNode_eq q b hbn hqk.1, WriteNodeR_eq q b hbn hqk.1, node_eq hbl, node_eq hr, same_eq _ (cN_len hr), tree_awake, bind_s, bodegalaw24_same]
  by_cases hw : q.Data.a0 % 256 = 4 ∧ nv b = true
  · have e : wrN q b = (fillN b q, 0) := by unfold wrN; rw [if_pos hw]
    have hk := @fillN_k q b hbn hw.2
    obtain ⟨v, ev, hv0, hv1⟩ := Pick_eq (a := IntKind.i64.wrap (Int.tdiv n 45)) (n := 7) (by omega)
    obtain ⟨u, eu, hu0, hu1⟩ := Pick_eq (a := IntKind.i64.wrap (Int.tdiv n 315)) (n := 64) (by omega)
    rw [e]
    have hi : 0 ≤ v ∧ v < 7 := ⟨hv0, hv1⟩
    have L1 : (fillN b q).Line = p.Line := hqL
    have L2 : (fillN b q).Head = p.Head := hqH
    simp only [beq_self_eq_true, Bool.true_and, Bool.and_self, Bool.not_true, Bool.false_eq_true, if_false, bne_self_eq_false, ReadNode_eq _ hk, rdN_fill hw.1 hbn hw.2, node_eq hbl, same_eq _ (cN_len hbl), bind_s, ev, eu, hi, and_self, if_true, L1, L2]
    generalize hg : (⟨p.Line, p.Head, A7.set (fillN b q).Data v (bits .xor .u64 (A7.get (fillN b q).Data v) (shlV .u64 1 (IntKind.u64.wrap u)))⟩ : api_Page) = z
    have hz : k_A7 k_u64 z.Data := by rw [← hg]; exact set7_k hk (xor_k _ _)
    have hrz := rdN_len hz
    simp only [ReadNode_eq _ hz, ReadNodeR_eq _ hz, node_eq hrz, same_eq _ (cN_len hrz), bind_s, beq_self_eq_true, Bool.and_self]
  · have e : wrN q b = (zeroPg, 1) := by unfold wrN; rw [if_neg hw]
    rw [e]
    simp
theorem NJ3_true (p : api_Page) (hp : k_api_Page p) (d : Int) (hd : k_u64 d) (v lv : Int) (a1 : btree_Node) (hg : Int) (hh : k_u32 hg) (rt : pointer_Pointer) (n : Int) (l : List hashindex_Entry) (hl : l.length ≤ 9) (hk : ∀ e ∈ l, k_u32 e.Key) :
    bodegalaw24_TreeNodes_J3 v l lv rt p d a1 n hg = some true := by
  have hJ := NJ4_true p hp d hd lv a1 hg hh rt n l hl hk
  unfold bodegalaw24_TreeNodes_J3
  by_cases hpos : (l.length : Int) > 0
  · obtain ⟨e, he, _⟩ := last_idx l (by omega) hpos
    have hJ' := NJ4_true p hp d hd lv a1 hg hh rt n (l.set (IntKind.i64.wrap ((l.length : Int) - 1)).toNat (⟨4294967295, e.To⟩ : hashindex_Entry)) (by rw [List.length_set]; exact hl) (fun x hx => by
      rcases List.mem_or_eq_of_mem_set hx with hx | rfl
      · exact hk x hx
      · show k_u32 4294967295; unfold k_u32; omega)
    simp only [he, bind_s, hJ, hJ', ite_self]
  · simp only [hpos, decide_false, Bool.false_eq_true, if_false, hJ, ite_self]
theorem wrap32_k (x : Int) : k_u32 (IntKind.u32.wrap x) := by unfold k_u32; rw [u32_mod]; omega
theorem NJ2_true (p : api_Page) (hp : k_api_Page p) (d : Int) (hd : k_u64 d) (v lv : Int) (a1 : btree_Node) (hg : Int) (hh : k_u32 hg) (rt : pointer_Pointer) (n : Int) (l : List hashindex_Entry) (hl : l.length ≤ 9) (hk : ∀ e ∈ l, k_u32 e.Key) :
    bodegalaw24_TreeNodes_J2 v rt lv p d a1 n hg l = some true := by
  have hJ := NJ3_true p hp d hd v lv a1 hg hh rt n l hl hk
  unfold bodegalaw24_TreeNodes_J2
  by_cases hpos : (l.length : Int) > 0
  · obtain ⟨e, he, _⟩ := last_idx l (by omega) hpos
    have hJ' := NJ3_true p hp d hd v lv a1 (IntKind.u32.wrap (e.Key + (IntKind.u32.wrap (Int.tdiv (IntKind.u32.wrap (Int.tmod n 3)) 2)))) (wrap32_k _) rt n l hl hk
    simp only [he, bind_s, hJ, hJ', ite_self]
  · simp only [hpos, decide_false, Bool.false_eq_true, if_false, hJ, ite_self]
theorem NJ5_eq (l : List hashindex_Entry) (i : Int) (e : hashindex_Entry) (hl : l.length ≤ 9) (hi : 0 ≤ i ∧ i ≤ 9) : bodegalaw24_TreeNodes_J5 l i e = some (.inl (l ++ [e], i + 1)) := by
  unfold bodegalaw24_TreeNodes_J5
  have hm : (l.length + 1) * 24 ≤ maxRows ∧ l.length + 1 ≤ maxRows := by unfold maxRows; omega
  simp only [hm, and_self, if_true]
  rw [i64_in' (by omega)]
theorem NL_true (p : api_Page) (hp : k_api_Page p) (b : btree_Node) (hbk : ∀ e ∈ b.Entries, k_u32 e.Key) (n v : Int) (d : Int) (hd : k_u64 d) (lv hg : Int) (hh : k_u32 hg) (rt : pointer_Pointer) (hb : b.Entries.length ≤ 9) :
    ∀ (m : Nat) (l : List hashindex_Entry), (∀ e ∈ l, k_u32 e.Key) → l.length + m = b.Entries.length → iter (bodegalaw24_TreeNodes_L1 b v rt lv p d n hg) (l, (l.length : Int)) = some true
  | 0, l, hk, hl => by
    rw [iter_eq]
    have : ¬ (l.length : Int) < (b.Entries.length : Int) := by omega
    simp only [bodegalaw24_TreeNodes_L1, this, decide_false, Bool.false_eq_true, if_false, NJ2_true p hp d hd v lv b hg hh rt n l (by omega) hk, Option.map_some, bind_s]
  | m + 1, l, hk, hl => by
    rw [iter_eq]
    have hlt : (l.length : Int) < (b.Entries.length : Int) := by omega
    obtain ⟨e, he⟩ : ∃ e, b.Entries[l.length]? = some e := ⟨_, List.getElem?_eq_getElem (by omega)⟩
    have hem := List.mem_of_getElem? he
    have hi : idx b.Entries (l.length : Int) = some e := by rw [idx_nat]; exact he
    obtain ⟨x, ex, _⟩ := Pick_eq (a := e.To.Line) (n := 152) (by omega)
    obtain ⟨y, ey, _⟩ := Pick_eq (a := e.To.Gen) (n := 9) (by omega)
    have hnx : ∀ (z : hashindex_Entry), k_u32 z.Key → iter (bodegalaw24_TreeNodes_L1 b v rt lv p d n hg) (l ++ [z], (l.length : Int) + 1) = some true := fun z hz => by
      have ih := NL_true p hp b hbk n v d hd lv hg hh rt hb m (l ++ [z]) (fun e he => by
        rcases List.mem_append.1 he with h | h
        · exact hk e h
        · rw [List.mem_singleton.1 h]; exact hz) (by simp; omega)
      simp only [List.length_append, List.length_cons, List.length_nil, Nat.zero_add, Int.natCast_add, Int.natCast_one] at ih
      exact ih
    simp only [bodegalaw24_TreeNodes_L1, hlt, decide_true, if_true, hi, ex, ey, bind_s]
    by_cases h1 : v > 0
    · simp only [h1, decide_true, if_true]
      rw [NJ5_eq l _ _ (by omega) (by omega), bind_s]
      exact hnx _ (wrap32_k _)
    · simp only [h1, decide_false, Bool.false_eq_true, if_false]
      rw [NJ5_eq l _ _ (by omega) (by omega), bind_s]
      exact hnx _ (hbk e hem)
theorem TreeNodes_law (p : api_Page) (b : btree_Node) (n : Int) (k0 : k_api_Page p) (k1 : k_btree_Node b) (k2 : k_i64 n) : bodegalaw24_TreeNodes p b n = some true := by
  unfold bodegalaw24_TreeNodes
  by_cases h9 : (b.Entries.length : Int) > 9
  · simp only [h9, decide_true, if_true]
  · have hb : b.Entries.length ≤ 9 := by omega
    have hbk : ∀ e ∈ b.Entries, k_u32 e.Key := fun e he => (k1.2.2.2.2.2.2 e he).1
    have hH : k_u32 b.High := k1.2.2.2.1
    have hJ1 : ∀ (v d lv hg : Int) (rt : pointer_Pointer), k_u64 d → k_u32 hg → bodegalaw24_TreeNodes_J1 b v p n (d, lv, hg, rt) = some true := fun v d lv hg rt hd hh => by
      unfold bodegalaw24_TreeNodes_J1
      exact NL_true p k0 b hbk n v d hd lv hg hh rt hb b.Entries.length [] (by simp) (by simp)
    obtain ⟨v, ev, _⟩ := Pick_eq (a := n) (n := 5) (by omega)
    obtain ⟨u, eu, _⟩ := Pick_eq (a := b.Level) (n := 12) (by omega)
    have hJ7 : ∀ (lv hg : Int) (rt : pointer_Pointer), k_u32 hg → bodegalaw24_TreeNodes_J7 n b v p lv rt hg = some true := fun lv hg rt hh => by
      unfold bodegalaw24_TreeNodes_J7
      obtain ⟨w, ew, _⟩ := Pick_eq (a := IntKind.i64.wrap (Int.tdiv n 5)) (n := 9) (by omega)
      rw [ew, bind_s]
      exact hJ1 _ _ _ _ _ (wrap_k _) hh
    have hM : k_u32 4294967295 := by unfold k_u32; omega
    have hJ6 : ∀ lv, bodegalaw24_TreeNodes_J6 b n v p lv = some true := fun lv => by
      unfold bodegalaw24_TreeNodes_J6
      obtain ⟨g, eg⟩ := aim_eq b.Right
      rw [eg, bind_s]
      split
      · exact hJ7 _ _ _ (by split <;> assumption)
      · exact hJ7 _ _ _ hH
    simp only [h9, decide_false, Bool.false_eq_true, if_false, ev, eu, bind_s, hJ6, hJ1 v _ _ _ _ k0.2.2.1 hH, ite_self]
end Go.Sh
end
section
namespace Go.Sh
open Go.Proofs Go.ChangeShapes
theorem List.head_eq_of_cons_eq {α : Type} {a b : α} {l m : List α} (h : a :: l = b :: m) : a = b := by cases h; rfl
theorem own : ownKnob Tryz.prog.godebug = none := by kernel_rfl
theorem laidOut : laidOutB Tryz.prog = true := by kernel_rfl
theorem gNone : Tryz.prog.globalNamed "bodega/btree.none" = some 0 := by kernel_rfl
theorem tNone : (Tryz.prog.globals[0]?).map (·.type) = some 27 := by kernel_rfl
abbrev laidL : List (String × DataW Unit) := [("bodega/btree.none", YtbpohbfamefecaaGreatDoor.Rows.laid_bodega_btree_none)]
theorem door_met (os : Os) (args : Array Value) : laidMetH Tryz.prog laidL ((World.doorLaid Tryz.prog 400 os).forCall (fun _ _ => 0) ⟨#[], args, []⟩).memory :=
  laidMetH_of_parts3 (fuel := 8) (laidMet_of_run' 8 (by kernel_rfl) (by kernel_rfl)) (by kernel_rfl) (by kernel_rfl)
def laidG : Glob := ⟨fun g => if g = 0 then some [.int .i64 0, .int .i64 0] else none, fun _ => none⟩
theorem of_laid {W : World} (h : laidMetH Tryz.prog laidL W) : GlobRep (· < W.heap.size) W laidG := by
  rw [MakeChecks.laidMetH_plain _ _ _ (by kernel_rfl)] at h
  obtain ⟨ps, ⟨g0, t0, cs0, f0, p0, q0, hg0, ht0, hv0, hd0, _, _⟩, _, _⟩ := h
  obtain rfl := Option.some.inj (gNone.symm.trans hg0)
  obtain rfl := Option.some.inj (tNone.symm.trans ht0)
  obtain ⟨xs, n, _, hx, hl, hn, hf⟩ := DataW.trod_struct Tryz.underlying27 hd0
  have hlen : cs0.size = 2 := by simpa using hl.trans (show Tryz.prog.cellsOf 27 = 2 by kernel_rfl)
  match xs, hn, hx, hf with
  | [y0, y1], _, hx, hf =>
    have h0 := hf 0 _ rfl
    have h1 := hf 1 _ rfl
    obtain ⟨n0, e0, z0, _⟩ := DataW.trod_int Tryz.underlying3 (show DataW.trod _ Tryz.prog W 0 _ _ n 3 _ = some y0 from h0)
    obtain ⟨n1, e1, z1, _⟩ := DataW.trod_int Tryz.underlying3 (show DataW.trod _ Tryz.prog W 0 _ _ n 3 _ = some y1 from h1)
    subst z0; subst z1
    have hx' : ((.agg [.lit (.int .i64 0), .lit (.int .i64 0)] : DataW _), p0) = (.agg [.lit (.int .i64 n0), .lit (.int .i64 n1)], []) := hx
    simp at hx'
    obtain ⟨⟨rfl, rfl⟩, _⟩ := hx'
    have hc := World.var?_cell hg0 hv0
    obtain ⟨l⟩ := cs0
    match l, hlen with
    | [a, b], _ =>
      have ea : [a] = [Value.int .i64 0] := e0
      have eb : [b] = [Value.int .i64 0] := e1
      cases ea; cases eb
      intro g cells hg
      simp only [laidG] at hg
      split at hg
      · rename_i hgz
        subst hgz
        cases hg
        have hc0 : W.cell? ⟨0, 0, none⟩ = some (.int .i64 0) := by have := hc 0; simpa using this
        refine ⟨cell_lt hc0, fun _ => .int .i64 0, fun j hj => ?_, fun j c hjc => ?_⟩
        · match j, hj with
          | 0, _ => exact hc0
          | 1, _ => have := hc 1; simpa using this
        · match j, hjc with
          | 0, hjc => cases hjc; exact .int _ _
          | 1, hjc => cases hjc; exact .int _ _
      · cases hg
end Go.Sh
end
section
namespace Go.Proofs.YtbpohbfamefecaaGreatDoor
open Go.Sh Go.ChangeShapes Go.RowKit
set_option maxHeartbeats 4000000 in
theorem treeNodes_lifted (os : Os) (started : os.Started) (H : Type) (enc : TypeId × Value → H) :
    ReturnsInHanded {} Tryz.checked os 4 .any (fun w args => (Rows.treeNodesSpec.pre enc Tryz.prog Tryz.f4 [] false w args ∧ laidMetH Tryz.prog Rows.treeNodesRow.laid w) ∧ sizedMet enc Tryz.prog Tryz.f4 (OpenSpec.ofChange Rows.treeNodesSpec) false w args)
      (Rows.treeNodesSpec.post enc Tryz.prog Tryz.f4 false true false false) := by
  refine returnsInHanded_of_change_and (C := Tryz.checked) (X := fun w _ => laidMetH Tryz.prog Rows.treeNodesRow.laid w) (fun _ _ _ hh h => h.of_heap hh) Sh.own started (by kernel_rfl) Tryz.func4
    (ChangeSpec.witness_shaped (enc := enc) (C := Tryz.checked) (os := os) (X := fun w _ => laidMetH Tryz.prog Rows.treeNodesRow.laid w) false (World.doorLaid Tryz.prog 400 os) #[(.agg #[.int .i64 0, .int .u64 0, .int .u64 0, .int .u64 0, .int .u64 0, .int .u64 0, .int .u64 0, .int .u64 0, .int .u64 0]), (.agg #[.int .i64 0, .bool false, .bool false, .int .u32 0, .int .i64 0, .int .i64 0, .slice none 0 0]), (.int .i64 0)] 8 rfl (World.shaped_of_RefB (by kernel_rfl) (by kernel_rfl)) (by kernel_rfl) (by kernel_rfl) (by kernel_rfl) (Sh.door_met os _)) ?_
  intro W base args ds gs before hval0 hW _ _ hL _
  have hval : ∀ (j : Nat) t v, Tryz.f4.params[j]? = some t → args[j]? = some v → Value.okWide Tryz.prog W .any base t v := hval0
  have hW' := hW
  obtain ⟨p, q, hA0, hV, rfl, hfz, hnd⟩ := hW
  have hA : DataW.TrodAll enc Tryz.prog W 0 (fun _ => true) true Tryz.f4.params.toList args.toList ds p := hA0
  rw [Tryz.params4] at hA hval
  obtain ⟨v0, vs0, d0, ds0, p0, q0, hargs, rfl, rfl, h0, r0⟩ := trodAll_cons hA
  obtain ⟨v1, vs1, d1, ds1, p1, q1, rfl, rfl, rfl, h1, r1⟩ := trodAll_cons r0
  obtain ⟨v2, vs2, d2, ds2, p2, q2, rfl, rfl, rfl, h2, r2⟩ := trodAll_cons r1
  obtain ⟨rfl, rfl, rfl⟩ := trodAll_nil r2
  obtain rfl : args = #[v0, v1, v2] := by cases args; simp_all
  obtain ⟨c0, b0, f0⟩ := open_agg (D := 8) (t := 25) (by kernel_rfl) (.inl ⟨_, Tryz.underlying25⟩) (hval 0 25 v0 rfl rfl) h0
  obtain ⟨x0, e0, k0⟩ := conf_t25 f0
  subst e0
  obtain ⟨c1, b1, f1⟩ := open_agg (D := 8) (t := 47) (by kernel_rfl) (.inl ⟨_, Tryz.underlying47⟩) (hval 1 47 v1 rfl rfl) h1
  obtain ⟨x1, e1, k1⟩ := conf_t47 f1
  subst e1
  obtain ⟨c2, b2, f2⟩ := open_cell (D := 8) (t := 3) (by kernel_rfl) (.inr (.inl ⟨_, Tryz.underlying3⟩)) (hval 2 3 v2 rfl rfl) h2
  obtain ⟨x2, e2, k2⟩ := conf_t3 f2
  obtain rfl := List.head_eq_of_cons_eq e2
  have hB : BsRep (· < W.heap.size) W #[v0, v1, v2].toList [BV.agg ((r_api_Page x0).map .p), BV.agg ((r_btree_Node x1).map .p), BV.cell (.p (.int .i64 x2))] [] := .cons (L := []) (M := []) b0 (.cons (L := []) (M := []) b1 (.cons (L := []) (M := []) b2 (.nil)))
  refine (ends (Sh.bodegalaw24_TreeNodes_ok Sh.laidG rfl x0 x1 x2 true (TreeNodes_law x0 x1 x2 k0 k1 k2)) hB (Sh.of_laid hL)).mono fun e W' ⟨he, hb⟩ => ?_
  subst he
  exact ⟨_, rfl, end_post (tb := 4) Sh.laidOut (by intro t ht; have ht' : t ∈ [25, 47, 3] := by { rw [Tryz.params4] at ht; exact ht }; simp only [List.mem_cons, List.not_mem_nil, or_false] at ht'; rcases ht' with rfl | rfl | rfl <;> exact ⟨by kernel_rfl, of_decide_eq_true (by kernel_rfl)⟩) rfl Tryz.underlying4 rfl hW' rfl hb⟩
theorem treeNodes_holds : Rows.TreeNodesSaid :=
  OpenClaim.holds_of_wide 4 Tryz.f4 rfl rfl rfl rfl rfl rfl rfl ⟨rfl, rfl, rfl, rfl, rfl⟩ rfl rfl rfl rfl rfl (by kernel_rfl) Tryz.func4 (by kernel_rfl)
    (of_decide_eq_true (by kernel_rfl)) (by unfold Func.isWrapper; first | (rw [if_pos (by decide +kernel)]; kernel_rfl) | (rw [if_neg (by decide +kernel)]; exact ⟨rfl, rfl⟩))
    (fun os started H enc _ => treeNodes_lifted os started H enc)
theorem treeNodes_card : Rows.TreeNodesCardSaid :=
  Claim7.holds_tied_plain_at .later [] [.data] true (true, "d734d080da4fda8869411da1c02e81d87983f6d4d9afec333355128c6aad48ab") false
    treeNodes_holds (fun _ h => by cases h) (by kernel_rfl) (fun _ h => by cases h) treeNodes_row_tie rfl ⟨rfl, rfl⟩ (by kernel_rfl) rfl
    (fun f fn hf hfn => by
      obtain rfl : f = 4 := Option.some.inj ((show Tryz.prog.funcNamed "bodega/bodegalaw24.TreeNodes" = some 4 by kernel_rfl).symm.trans hf) |>.symm
      obtain rfl : fn = Tryz.f4 := (Option.some.inj (Tryz.func4.symm.trans hfn)).symm
      exact ⟨by kernel_rfl, fun j t ht => by
        rw [Tryz.params4] at ht
        have h3 : t = 25 ∨ t = 47 ∨ t = 3 := by
          match j, ht with
          | 0, ht => obtain rfl : 25 = t := Option.some.inj ht; simp
          | 1, ht => obtain rfl : 47 = t := Option.some.inj ht; simp
          | 2, ht => obtain rfl : 3 = t := Option.some.inj ht; simp
          | j + 3, ht => simp at ht
        rcases h3 with rfl | rfl | rfl
        · exact (show Tryz.prog.wantsStandIn 25 = false by kernel_rfl)
        · exact (show Tryz.prog.wantsStandIn 47 = false by kernel_rfl)
        · exact (show Tryz.prog.wantsStandIn 3 = false by kernel_rfl)⟩)
    (by kernel_rfl)
#print axioms treeNodes_card
end Go.Proofs.YtbpohbfamefecaaGreatDoor
end
