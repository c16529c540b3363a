/- Part 6 of 6 of the proof: own texts joined by a program. -/
import Derived.Test.YthambbjjolieaaaDoorSlotsE
import Derived.Test.YthambbjjolieaaaDoorRows
import Derived.Test.YthambbjjolieaaaDoorCards
import Derived.Test.YthambbjjolieaaaDoorTie
import Derived.ProofKit
import Derived.LaidMore
import Derived.OpenShut
import Derived.Stop.Joined
import Derived.SevenTiedAt
set_option linter.all false
section
namespace Go.Sh
set_option linter.unusedSimpArgs false
set_option linter.unusedVariables false
set_option maxRecDepth 10000

def rdX (p : api_Page) : A8 pointer_Pointer := ⟨dp (lo p.Data.a1), dp (hi p.Data.a1), dp (lo p.Data.a2), dp (hi p.Data.a2), dp (lo p.Data.a3), dp (hi p.Data.a3), dp (lo p.Data.a4), dp (hi p.Data.a4)⟩
def rdXB (p : api_Page) : Bool := okw (lo p.Data.a1) && okw (hi p.Data.a1) && okw (lo p.Data.a2) && okw (hi p.Data.a2) && okw (lo p.Data.a3) && okw (hi p.Data.a3) && okw (lo p.Data.a4) && okw (hi p.Data.a4)
def rdS (p : api_Page) : A8 pointer_Pointer × Int :=
  if p.Data.a0 % 256 = 3 ∧ rdXB p = true ∧ hi p.Data.a0 = 0 ∧ p.Data.a5 = 0 ∧ p.Data.a6 = 0 then (rdX p, 0) else (zero8, 14)
theorem isKind_eq {p : api_Page} (h : k_u64 p.Data.a0) (k : Int) : hashindex_isKind p k = some (p.Data.a0 % 256 == k) := by
  unfold k_u64 at h
  unfold hashindex_isKind pointer_UnpackTag
  rw [bind_s]
  simp only
  rw [and64_255 (x := p.Data.a0) (by omega), i64_in' (x := p.Data.a0 % 256) (by omega)]
theorem pk_dp {w : Int} (h : okw w = true) (h0 : 0 ≤ w ∧ w < 4294967296) : pkP (dp w) = w := by
  unfold okw at h
  rw [Bool.or_eq_true] at h
  unfold pkP pk dp
  rcases h with h | h
  · rw [beq_iff_eq] at h
    subst h
    rfl
  · simp only [h, if_true]
    omega
theorem two_lohi {w : Int} : two (lo w) (hi w) = w := by unfold two lo hi; omega
theorem rx0 (p : api_Page) (h : k_A7 k_u64 p.Data) (b x) : iter (hashindex_ReadSlots_L1 p) (x, b, 0) = iter (hashindex_ReadSlots_L1 p) ({ x with a0 := dp (lo p.Data.a1) }, b && okw (lo p.Data.a1), 1) := by
  obtain ⟨h0, h1, h2, h3, h4, _⟩ := h
  unfold k_u64 at h1 h2 h3 h4
  rw [iter_eq]
  simp (disch := omega) only [hashindex_ReadSlots_L1, i64_in', u64_in', Int.reduceTDiv, Int.reduceTMod, Int.reduceMul, Int.reduceAdd, A7.get, A8.set, Int.reduceEq, if_true, if_false, Int.reduceLT, Int.reduceLE, and_self, decide_true, shr_u64_0, shr_u64_32, u32_lo, u32_hi h1, u32_hi h2, u32_hi h3, u32_hi h4, unpack_eq lo_r, unpack_eq (hi_r h1), unpack_eq (hi_r h2), unpack_eq (hi_r h3), unpack_eq (hi_r h4), bind_s]
  cases b <;> simp [dp]
theorem ry0 (p : api_Page) (h : k_A7 k_u64 p.Data) (x) : iter (bodegaref23_ReadSlots_L1 p) (x, 0) = if okw (lo p.Data.a1) = true then iter (bodegaref23_ReadSlots_L1 p) ({ x with a0 := cP (dp (lo p.Data.a1)) }, 1) else some (c8 zero8, 14) := by
  obtain ⟨h0, h1, h2, h3, h4, _⟩ := h
  unfold k_u64 at h1 h2 h3 h4
  rw [iter_eq]
  have hh1 := hi_r h1
  have m1 : hi p.Data.a1 % 4294967296 = hi p.Data.a1 := by omega
  have e1 : p.Data.a1 / 4294967296 = hi p.Data.a1 := rfl
  have l1 : p.Data.a1 % 4294967296 = lo p.Data.a1 := rfl
  have hh2 := hi_r h2
  have m2 : hi p.Data.a2 % 4294967296 = hi p.Data.a2 := by omega
  have e2 : p.Data.a2 / 4294967296 = hi p.Data.a2 := rfl
  have l2 : p.Data.a2 % 4294967296 = lo p.Data.a2 := rfl
  have hh3 := hi_r h3
  have m3 : hi p.Data.a3 % 4294967296 = hi p.Data.a3 := by omega
  have e3 : p.Data.a3 / 4294967296 = hi p.Data.a3 := rfl
  have l3 : p.Data.a3 % 4294967296 = lo p.Data.a3 := rfl
  have hh4 := hi_r h4
  have m4 : hi p.Data.a4 % 4294967296 = hi p.Data.a4 := by omega
  have e4 : p.Data.a4 / 4294967296 = hi p.Data.a4 := rfl
  have l4 : p.Data.a4 % 4294967296 = lo p.Data.a4 := rfl
  simp (disch := omega) only [bodegaref23_ReadSlots_L1, i64_in', u64_in', Int.reduceTDiv, Int.reduceTMod, Int.reduceMod, Int.reduceMul, Int.reduceAdd, A7.get, A8.set, Int.reduceEq, if_true, if_false, Int.reduceLT, Int.reduceLE, and_self, decide_true, shr_u64_0, shr_u64_32, tmod_pos, e1, e2, e3, e4, m1, m2, m3, m4, l1, l2, l3, l4, pointer_eq lo_r, pointer_eq (hi_r h1), pointer_eq (hi_r h2), pointer_eq (hi_r h3), pointer_eq (hi_r h4), bind_s]
  rcases Bool.eq_false_or_eq_true (okw (lo p.Data.a1)) with hb | hb <;> simp only [hb, Bool.not_true, Bool.not_false, Bool.false_eq_true, if_true, if_false, Option.map_some, bind_s] <;> rfl
theorem rx1 (p : api_Page) (h : k_A7 k_u64 p.Data) (b x) : iter (hashindex_ReadSlots_L1 p) (x, b, 1) = iter (hashindex_ReadSlots_L1 p) ({ x with a1 := dp (hi p.Data.a1) }, b && okw (hi p.Data.a1), 2) := by
  obtain ⟨h0, h1, h2, h3, h4, _⟩ := h
  unfold k_u64 at h1 h2 h3 h4
  rw [iter_eq]
  simp (disch := omega) only [hashindex_ReadSlots_L1, i64_in', u64_in', Int.reduceTDiv, Int.reduceTMod, Int.reduceMul, Int.reduceAdd, A7.get, A8.set, Int.reduceEq, if_true, if_false, Int.reduceLT, Int.reduceLE, and_self, decide_true, shr_u64_0, shr_u64_32, u32_lo, u32_hi h1, u32_hi h2, u32_hi h3, u32_hi h4, unpack_eq lo_r, unpack_eq (hi_r h1), unpack_eq (hi_r h2), unpack_eq (hi_r h3), unpack_eq (hi_r h4), bind_s]
  cases b <;> simp [dp]
theorem ry1 (p : api_Page) (h : k_A7 k_u64 p.Data) (x) : iter (bodegaref23_ReadSlots_L1 p) (x, 1) = if okw (hi p.Data.a1) = true then iter (bodegaref23_ReadSlots_L1 p) ({ x with a1 := cP (dp (hi p.Data.a1)) }, 2) else some (c8 zero8, 14) := by
  obtain ⟨h0, h1, h2, h3, h4, _⟩ := h
  unfold k_u64 at h1 h2 h3 h4
  rw [iter_eq]
  have hh1 := hi_r h1
  have m1 : hi p.Data.a1 % 4294967296 = hi p.Data.a1 := by omega
  have e1 : p.Data.a1 / 4294967296 = hi p.Data.a1 := rfl
  have l1 : p.Data.a1 % 4294967296 = lo p.Data.a1 := rfl
  have hh2 := hi_r h2
  have m2 : hi p.Data.a2 % 4294967296 = hi p.Data.a2 := by omega
  have e2 : p.Data.a2 / 4294967296 = hi p.Data.a2 := rfl
  have l2 : p.Data.a2 % 4294967296 = lo p.Data.a2 := rfl
  have hh3 := hi_r h3
  have m3 : hi p.Data.a3 % 4294967296 = hi p.Data.a3 := by omega
  have e3 : p.Data.a3 / 4294967296 = hi p.Data.a3 := rfl
  have l3 : p.Data.a3 % 4294967296 = lo p.Data.a3 := rfl
  have hh4 := hi_r h4
  have m4 : hi p.Data.a4 % 4294967296 = hi p.Data.a4 := by omega
  have e4 : p.Data.a4 / 4294967296 = hi p.Data.a4 := rfl
  have l4 : p.Data.a4 % 4294967296 = lo p.Data.a4 := rfl
  simp (disch := omega) only [bodegaref23_ReadSlots_L1, i64_in', u64_in', Int.reduceTDiv, Int.reduceTMod, Int.reduceMod, Int.reduceMul, Int.reduceAdd, A7.get, A8.set, Int.reduceEq, if_true, if_false, Int.reduceLT, Int.reduceLE, and_self, decide_true, shr_u64_0, shr_u64_32, tmod_pos, e1, e2, e3, e4, m1, m2, m3, m4, l1, l2, l3, l4, pointer_eq lo_r, pointer_eq (hi_r h1), pointer_eq (hi_r h2), pointer_eq (hi_r h3), pointer_eq (hi_r h4), bind_s]
  rcases Bool.eq_false_or_eq_true (okw (hi p.Data.a1)) with hb | hb <;> simp only [hb, Bool.not_true, Bool.not_false, Bool.false_eq_true, if_true, if_false, Option.map_some, bind_s] <;> rfl
theorem rx2 (p : api_Page) (h : k_A7 k_u64 p.Data) (b x) : iter (hashindex_ReadSlots_L1 p) (x, b, 2) = iter (hashindex_ReadSlots_L1 p) ({ x with a2 := dp (lo p.Data.a2) }, b && okw (lo p.Data.a2), 3) := by
  obtain ⟨h0, h1, h2, h3, h4, _⟩ := h
  unfold k_u64 at h1 h2 h3 h4
  rw [iter_eq]
  simp (disch := omega) only [hashindex_ReadSlots_L1, i64_in', u64_in', Int.reduceTDiv, Int.reduceTMod, Int.reduceMul, Int.reduceAdd, A7.get, A8.set, Int.reduceEq, if_true, if_false, Int.reduceLT, Int.reduceLE, and_self, decide_true, shr_u64_0, shr_u64_32, u32_lo, u32_hi h1, u32_hi h2, u32_hi h3, u32_hi h4, unpack_eq lo_r, unpack_eq (hi_r h1), unpack_eq (hi_r h2), unpack_eq (hi_r h3), unpack_eq (hi_r h4), bind_s]
  cases b <;> simp [dp]
theorem ry2 (p : api_Page) (h : k_A7 k_u64 p.Data) (x) : iter (bodegaref23_ReadSlots_L1 p) (x, 2) = if okw (lo p.Data.a2) = true then iter (bodegaref23_ReadSlots_L1 p) ({ x with a2 := cP (dp (lo p.Data.a2)) }, 3) else some (c8 zero8, 14) := by
  obtain ⟨h0, h1, h2, h3, h4, _⟩ := h
  unfold k_u64 at h1 h2 h3 h4
  rw [iter_eq]
  have hh1 := hi_r h1
  have m1 : hi p.Data.a1 % 4294967296 = hi p.Data.a1 := by omega
  have e1 : p.Data.a1 / 4294967296 = hi p.Data.a1 := rfl
  have l1 : p.Data.a1 % 4294967296 = lo p.Data.a1 := rfl
  have hh2 := hi_r h2
  have m2 : hi p.Data.a2 % 4294967296 = hi p.Data.a2 := by omega
  have e2 : p.Data.a2 / 4294967296 = hi p.Data.a2 := rfl
  have l2 : p.Data.a2 % 4294967296 = lo p.Data.a2 := rfl
  have hh3 := hi_r h3
  have m3 : hi p.Data.a3 % 4294967296 = hi p.Data.a3 := by omega
  have e3 : p.Data.a3 / 4294967296 = hi p.Data.a3 := rfl
  have l3 : p.Data.a3 % 4294967296 = lo p.Data.a3 := rfl
  have hh4 := hi_r h4
  have m4 : hi p.Data.a4 % 4294967296 = hi p.Data.a4 := by omega
  have e4 : p.Data.a4 / 4294967296 = hi p.Data.a4 := rfl
  have l4 : p.Data.a4 % 4294967296 = lo p.Data.a4 := rfl
  simp (disch := omega) only [bodegaref23_ReadSlots_L1, i64_in', u64_in', Int.reduceTDiv, Int.reduceTMod, Int.reduceMod, Int.reduceMul, Int.reduceAdd, A7.get, A8.set, Int.reduceEq, if_true, if_false, Int.reduceLT, Int.reduceLE, and_self, decide_true, shr_u64_0, shr_u64_32, tmod_pos, e1, e2, e3, e4, m1, m2, m3, m4, l1, l2, l3, l4, pointer_eq lo_r, pointer_eq (hi_r h1), pointer_eq (hi_r h2), pointer_eq (hi_r h3), pointer_eq (hi_r h4), bind_s]
  rcases Bool.eq_false_or_eq_true (okw (lo p.Data.a2)) with hb | hb <;> simp only [hb, Bool.not_true, Bool.not_false, Bool.false_eq_true, if_true, if_false, Option.map_some, bind_s] <;> rfl
theorem rx3 (p : api_Page) (h : k_A7 k_u64 p.Data) (b x) : iter (hashindex_ReadSlots_L1 p) (x, b, 3) = iter (hashindex_ReadSlots_L1 p) ({ x with a3 := dp (hi p.Data.a2) }, b && okw (hi p.Data.a2), 4) := by
  obtain ⟨h0, h1, h2, h3, h4, _⟩ := h
  unfold k_u64 at h1 h2 h3 h4
  rw [iter_eq]
  simp (disch := omega) only [hashindex_ReadSlots_L1, i64_in', u64_in', Int.reduceTDiv, Int.reduceTMod, Int.reduceMul, Int.reduceAdd, A7.get, A8.set, Int.reduceEq, if_true, if_false, Int.reduceLT, Int.reduceLE, and_self, decide_true, shr_u64_0, shr_u64_32, u32_lo, u32_hi h1, u32_hi h2, u32_hi h3, u32_hi h4, unpack_eq lo_r, unpack_eq (hi_r h1), unpack_eq (hi_r h2), unpack_eq (hi_r h3), unpack_eq (hi_r h4), bind_s]
  cases b <;> simp [dp]
theorem ry3 (p : api_Page) (h : k_A7 k_u64 p.Data) (x) : iter (bodegaref23_ReadSlots_L1 p) (x, 3) = if okw (hi p.Data.a2) = true then iter (bodegaref23_ReadSlots_L1 p) ({ x with a3 := cP (dp (hi p.Data.a2)) }, 4) else some (c8 zero8, 14) := by
  obtain ⟨h0, h1, h2, h3, h4, _⟩ := h
  unfold k_u64 at h1 h2 h3 h4
  rw [iter_eq]
  have hh1 := hi_r h1
  have m1 : hi p.Data.a1 % 4294967296 = hi p.Data.a1 := by omega
  have e1 : p.Data.a1 / 4294967296 = hi p.Data.a1 := rfl
  have l1 : p.Data.a1 % 4294967296 = lo p.Data.a1 := rfl
  have hh2 := hi_r h2
  have m2 : hi p.Data.a2 % 4294967296 = hi p.Data.a2 := by omega
  have e2 : p.Data.a2 / 4294967296 = hi p.Data.a2 := rfl
  have l2 : p.Data.a2 % 4294967296 = lo p.Data.a2 := rfl
  have hh3 := hi_r h3
  have m3 : hi p.Data.a3 % 4294967296 = hi p.Data.a3 := by omega
  have e3 : p.Data.a3 / 4294967296 = hi p.Data.a3 := rfl
  have l3 : p.Data.a3 % 4294967296 = lo p.Data.a3 := rfl
  have hh4 := hi_r h4
  have m4 : hi p.Data.a4 % 4294967296 = hi p.Data.a4 := by omega
  have e4 : p.Data.a4 / 4294967296 = hi p.Data.a4 := rfl
  have l4 : p.Data.a4 % 4294967296 = lo p.Data.a4 := rfl
  simp (disch := omega) only [bodegaref23_ReadSlots_L1, i64_in', u64_in', Int.reduceTDiv, Int.reduceTMod, Int.reduceMod, Int.reduceMul, Int.reduceAdd, A7.get, A8.set, Int.reduceEq, if_true, if_false, Int.reduceLT, Int.reduceLE, and_self, decide_true, shr_u64_0, shr_u64_32, tmod_pos, e1, e2, e3, e4, m1, m2, m3, m4, l1, l2, l3, l4, pointer_eq lo_r, pointer_eq (hi_r h1), pointer_eq (hi_r h2), pointer_eq (hi_r h3), pointer_eq (hi_r h4), bind_s]
  rcases Bool.eq_false_or_eq_true (okw (hi p.Data.a2)) with hb | hb <;> simp only [hb, Bool.not_true, Bool.not_false, Bool.false_eq_true, if_true, if_false, Option.map_some, bind_s] <;> rfl
theorem rx4 (p : api_Page) (h : k_A7 k_u64 p.Data) (b x) : iter (hashindex_ReadSlots_L1 p) (x, b, 4) = iter (hashindex_ReadSlots_L1 p) ({ x with a4 := dp (lo p.Data.a3) }, b && okw (lo p.Data.a3), 5) := by
  obtain ⟨h0, h1, h2, h3, h4, _⟩ := h
  unfold k_u64 at h1 h2 h3 h4
  rw [iter_eq]
  simp (disch := omega) only [hashindex_ReadSlots_L1, i64_in', u64_in', Int.reduceTDiv, Int.reduceTMod, Int.reduceMul, Int.reduceAdd, A7.get, A8.set, Int.reduceEq, if_true, if_false, Int.reduceLT, Int.reduceLE, and_self, decide_true, shr_u64_0, shr_u64_32, u32_lo, u32_hi h1, u32_hi h2, u32_hi h3, u32_hi h4, unpack_eq lo_r, unpack_eq (hi_r h1), unpack_eq (hi_r h2), unpack_eq (hi_r h3), unpack_eq (hi_r h4), bind_s]
  cases b <;> simp [dp]
theorem ry4 (p : api_Page) (h : k_A7 k_u64 p.Data) (x) : iter (bodegaref23_ReadSlots_L1 p) (x, 4) = if okw (lo p.Data.a3) = true then iter (bodegaref23_ReadSlots_L1 p) ({ x with a4 := cP (dp (lo p.Data.a3)) }, 5) else some (c8 zero8, 14) := by
  obtain ⟨h0, h1, h2, h3, h4, _⟩ := h
  unfold k_u64 at h1 h2 h3 h4
  rw [iter_eq]
  have hh1 := hi_r h1
  have m1 : hi p.Data.a1 % 4294967296 = hi p.Data.a1 := by omega
  have e1 : p.Data.a1 / 4294967296 = hi p.Data.a1 := rfl
  have l1 : p.Data.a1 % 4294967296 = lo p.Data.a1 := rfl
  have hh2 := hi_r h2
  have m2 : hi p.Data.a2 % 4294967296 = hi p.Data.a2 := by omega
  have e2 : p.Data.a2 / 4294967296 = hi p.Data.a2 := rfl
  have l2 : p.Data.a2 % 4294967296 = lo p.Data.a2 := rfl
  have hh3 := hi_r h3
  have m3 : hi p.Data.a3 % 4294967296 = hi p.Data.a3 := by omega
  have e3 : p.Data.a3 / 4294967296 = hi p.Data.a3 := rfl
  have l3 : p.Data.a3 % 4294967296 = lo p.Data.a3 := rfl
  have hh4 := hi_r h4
  have m4 : hi p.Data.a4 % 4294967296 = hi p.Data.a4 := by omega
  have e4 : p.Data.a4 / 4294967296 = hi p.Data.a4 := rfl
  have l4 : p.Data.a4 % 4294967296 = lo p.Data.a4 := rfl
  simp (disch := omega) only [bodegaref23_ReadSlots_L1, i64_in', u64_in', Int.reduceTDiv, Int.reduceTMod, Int.reduceMod, Int.reduceMul, Int.reduceAdd, A7.get, A8.set, Int.reduceEq, if_true, if_false, Int.reduceLT, Int.reduceLE, and_self, decide_true, shr_u64_0, shr_u64_32, tmod_pos, e1, e2, e3, e4, m1, m2, m3, m4, l1, l2, l3, l4, pointer_eq lo_r, pointer_eq (hi_r h1), pointer_eq (hi_r h2), pointer_eq (hi_r h3), pointer_eq (hi_r h4), bind_s]
  rcases Bool.eq_false_or_eq_true (okw (lo p.Data.a3)) with hb | hb <;> simp only [hb, Bool.not_true, Bool.not_false, Bool.false_eq_true, if_true, if_false, Option.map_some, bind_s] <;> rfl
theorem rx5 (p : api_Page) (h : k_A7 k_u64 p.Data) (b x) : iter (hashindex_ReadSlots_L1 p) (x, b, 5) = iter (hashindex_ReadSlots_L1 p) ({ x with a5 := dp (hi p.Data.a3) }, b && okw (hi p.Data.a3), 6) := by
  obtain ⟨h0, h1, h2, h3, h4, _⟩ := h
  unfold k_u64 at h1 h2 h3 h4
  rw [iter_eq]
  simp (disch := omega) only [hashindex_ReadSlots_L1, i64_in', u64_in', Int.reduceTDiv, Int.reduceTMod, Int.reduceMul, Int.reduceAdd, A7.get, A8.set, Int.reduceEq, if_true, if_false, Int.reduceLT, Int.reduceLE, and_self, decide_true, shr_u64_0, shr_u64_32, u32_lo, u32_hi h1, u32_hi h2, u32_hi h3, u32_hi h4, unpack_eq lo_r, unpack_eq (hi_r h1), unpack_eq (hi_r h2), unpack_eq (hi_r h3), unpack_eq (hi_r h4), bind_s]
  cases b <;> simp [dp]
theorem ry5 (p : api_Page) (h : k_A7 k_u64 p.Data) (x) : iter (bodegaref23_ReadSlots_L1 p) (x, 5) = if okw (hi p.Data.a3) = true then iter (bodegaref23_ReadSlots_L1 p) ({ x with a5 := cP (dp (hi p.Data.a3)) }, 6) else some (c8 zero8, 14) := by
  obtain ⟨h0, h1, h2, h3, h4, _⟩ := h
  unfold k_u64 at h1 h2 h3 h4
  rw [iter_eq]
  have hh1 := hi_r h1
  have m1 : hi p.Data.a1 % 4294967296 = hi p.Data.a1 := by omega
  have e1 : p.Data.a1 / 4294967296 = hi p.Data.a1 := rfl
  have l1 : p.Data.a1 % 4294967296 = lo p.Data.a1 := rfl
  have hh2 := hi_r h2
  have m2 : hi p.Data.a2 % 4294967296 = hi p.Data.a2 := by omega
  have e2 : p.Data.a2 / 4294967296 = hi p.Data.a2 := rfl
  have l2 : p.Data.a2 % 4294967296 = lo p.Data.a2 := rfl
  have hh3 := hi_r h3
  have m3 : hi p.Data.a3 % 4294967296 = hi p.Data.a3 := by omega
  have e3 : p.Data.a3 / 4294967296 = hi p.Data.a3 := rfl
  have l3 : p.Data.a3 % 4294967296 = lo p.Data.a3 := rfl
  have hh4 := hi_r h4
  have m4 : hi p.Data.a4 % 4294967296 = hi p.Data.a4 := by omega
  have e4 : p.Data.a4 / 4294967296 = hi p.Data.a4 := rfl
  have l4 : p.Data.a4 % 4294967296 = lo p.Data.a4 := rfl
  simp (disch := omega) only [bodegaref23_ReadSlots_L1, i64_in', u64_in', Int.reduceTDiv, Int.reduceTMod, Int.reduceMod, Int.reduceMul, Int.reduceAdd, A7.get, A8.set, Int.reduceEq, if_true, if_false, Int.reduceLT, Int.reduceLE, and_self, decide_true, shr_u64_0, shr_u64_32, tmod_pos, e1, e2, e3, e4, m1, m2, m3, m4, l1, l2, l3, l4, pointer_eq lo_r, pointer_eq (hi_r h1), pointer_eq (hi_r h2), pointer_eq (hi_r h3), pointer_eq (hi_r h4), bind_s]
  rcases Bool.eq_false_or_eq_true (okw (hi p.Data.a3)) with hb | hb <;> simp only [hb, Bool.not_true, Bool.not_false, Bool.false_eq_true, if_true, if_false, Option.map_some, bind_s] <;> rfl
theorem rx6 (p : api_Page) (h : k_A7 k_u64 p.Data) (b x) : iter (hashindex_ReadSlots_L1 p) (x, b, 6) = iter (hashindex_ReadSlots_L1 p) ({ x with a6 := dp (lo p.Data.a4) }, b && okw (lo p.Data.a4), 7) := by
  obtain ⟨h0, h1, h2, h3, h4, _⟩ := h
  unfold k_u64 at h1 h2 h3 h4
  rw [iter_eq]
  simp (disch := omega) only [hashindex_ReadSlots_L1, i64_in', u64_in', Int.reduceTDiv, Int.reduceTMod, Int.reduceMul, Int.reduceAdd, A7.get, A8.set, Int.reduceEq, if_true, if_false, Int.reduceLT, Int.reduceLE, and_self, decide_true, shr_u64_0, shr_u64_32, u32_lo, u32_hi h1, u32_hi h2, u32_hi h3, u32_hi h4, unpack_eq lo_r, unpack_eq (hi_r h1), unpack_eq (hi_r h2), unpack_eq (hi_r h3), unpack_eq (hi_r h4), bind_s]
  cases b <;> simp [dp]
theorem ry6 (p : api_Page) (h : k_A7 k_u64 p.Data) (x) : iter (bodegaref23_ReadSlots_L1 p) (x, 6) = if okw (lo p.Data.a4) = true then iter (bodegaref23_ReadSlots_L1 p) ({ x with a6 := cP (dp (lo p.Data.a4)) }, 7) else some (c8 zero8, 14) := by
  obtain ⟨h0, h1, h2, h3, h4, _⟩ := h
  unfold k_u64 at h1 h2 h3 h4
  rw [iter_eq]
  have hh1 := hi_r h1
  have m1 : hi p.Data.a1 % 4294967296 = hi p.Data.a1 := by omega
  have e1 : p.Data.a1 / 4294967296 = hi p.Data.a1 := rfl
  have l1 : p.Data.a1 % 4294967296 = lo p.Data.a1 := rfl
  have hh2 := hi_r h2
  have m2 : hi p.Data.a2 % 4294967296 = hi p.Data.a2 := by omega
  have e2 : p.Data.a2 / 4294967296 = hi p.Data.a2 := rfl
  have l2 : p.Data.a2 % 4294967296 = lo p.Data.a2 := rfl
  have hh3 := hi_r h3
  have m3 : hi p.Data.a3 % 4294967296 = hi p.Data.a3 := by omega
  have e3 : p.Data.a3 / 4294967296 = hi p.Data.a3 := rfl
  have l3 : p.Data.a3 % 4294967296 = lo p.Data.a3 := rfl
  have hh4 := hi_r h4
  have m4 : hi p.Data.a4 % 4294967296 = hi p.Data.a4 := by omega
  have e4 : p.Data.a4 / 4294967296 = hi p.Data.a4 := rfl
  have l4 : p.Data.a4 % 4294967296 = lo p.Data.a4 := rfl
  simp (disch := omega) only [bodegaref23_ReadSlots_L1, i64_in', u64_in', Int.reduceTDiv, Int.reduceTMod, Int.reduceMod, Int.reduceMul, Int.reduceAdd, A7.get, A8.set, Int.reduceEq, if_true, if_false, Int.reduceLT, Int.reduceLE, and_self, decide_true, shr_u64_0, shr_u64_32, tmod_pos, e1, e2, e3, e4, m1, m2, m3, m4, l1, l2, l3, l4, pointer_eq lo_r, pointer_eq (hi_r h1), pointer_eq (hi_r h2), pointer_eq (hi_r h3), pointer_eq (hi_r h4), bind_s]
  rcases Bool.eq_false_or_eq_true (okw (lo p.Data.a4)) with hb | hb <;> simp only [hb, Bool.not_true, Bool.not_false, Bool.false_eq_true, if_true, if_false, Option.map_some, bind_s] <;> rfl
theorem rx7 (p : api_Page) (h : k_A7 k_u64 p.Data) (b x) : iter (hashindex_ReadSlots_L1 p) (x, b, 7) = iter (hashindex_ReadSlots_L1 p) ({ x with a7 := dp (hi p.Data.a4) }, b && okw (hi p.Data.a4), 8) := by
  obtain ⟨h0, h1, h2, h3, h4, _⟩ := h
  unfold k_u64 at h1 h2 h3 h4
  rw [iter_eq]
  simp (disch := omega) only [hashindex_ReadSlots_L1, i64_in', u64_in', Int.reduceTDiv, Int.reduceTMod, Int.reduceMul, Int.reduceAdd, A7.get, A8.set, Int.reduceEq, if_true, if_false, Int.reduceLT, Int.reduceLE, and_self, decide_true, shr_u64_0, shr_u64_32, u32_lo, u32_hi h1, u32_hi h2, u32_hi h3, u32_hi h4, unpack_eq lo_r, unpack_eq (hi_r h1), unpack_eq (hi_r h2), unpack_eq (hi_r h3), unpack_eq (hi_r h4), bind_s]
  cases b <;> simp [dp]
theorem ry7 (p : api_Page) (h : k_A7 k_u64 p.Data) (x) : iter (bodegaref23_ReadSlots_L1 p) (x, 7) = if okw (hi p.Data.a4) = true then iter (bodegaref23_ReadSlots_L1 p) ({ x with a7 := cP (dp (hi p.Data.a4)) }, 8) else some (c8 zero8, 14) := by
  obtain ⟨h0, h1, h2, h3, h4, _⟩ := h
  unfold k_u64 at h1 h2 h3 h4
  rw [iter_eq]
  have hh1 := hi_r h1
  have m1 : hi p.Data.a1 % 4294967296 = hi p.Data.a1 := by omega
  have e1 : p.Data.a1 / 4294967296 = hi p.Data.a1 := rfl
  have l1 : p.Data.a1 % 4294967296 = lo p.Data.a1 := rfl
  have hh2 := hi_r h2
  have m2 : hi p.Data.a2 % 4294967296 = hi p.Data.a2 := by omega
  have e2 : p.Data.a2 / 4294967296 = hi p.Data.a2 := rfl
  have l2 : p.Data.a2 % 4294967296 = lo p.Data.a2 := rfl
  have hh3 := hi_r h3
  have m3 : hi p.Data.a3 % 4294967296 = hi p.Data.a3 := by omega
  have e3 : p.Data.a3 / 4294967296 = hi p.Data.a3 := rfl
  have l3 : p.Data.a3 % 4294967296 = lo p.Data.a3 := rfl
  have hh4 := hi_r h4
  have m4 : hi p.Data.a4 % 4294967296 = hi p.Data.a4 := by omega
  have e4 : p.Data.a4 / 4294967296 = hi p.Data.a4 := rfl
  have l4 : p.Data.a4 % 4294967296 = lo p.Data.a4 := rfl
  simp (disch := omega) only [bodegaref23_ReadSlots_L1, i64_in', u64_in', Int.reduceTDiv, Int.reduceTMod, Int.reduceMod, Int.reduceMul, Int.reduceAdd, A7.get, A8.set, Int.reduceEq, if_true, if_false, Int.reduceLT, Int.reduceLE, and_self, decide_true, shr_u64_0, shr_u64_32, tmod_pos, e1, e2, e3, e4, m1, m2, m3, m4, l1, l2, l3, l4, pointer_eq lo_r, pointer_eq (hi_r h1), pointer_eq (hi_r h2), pointer_eq (hi_r h3), pointer_eq (hi_r h4), bind_s]
  rcases Bool.eq_false_or_eq_true (okw (hi p.Data.a4)) with hb | hb <;> simp only [hb, Bool.not_true, Bool.not_false, Bool.false_eq_true, if_true, if_false, Option.map_some, bind_s] <;> rfl

theorem ReadSlots_eq (p : api_Page) (h : k_A7 k_u64 p.Data) : hashindex_ReadSlots p = some (rdS p) := by
  have hh := h
  unfold hashindex_ReadSlots
  rw [isKind_eq h.1, bind_s, rx0 p h, rx1 p h, rx2 p h, rx3 p h, rx4 p h, rx5 p h, rx6 p h, rx7 p h, iter_eq]
  simp only [hashindex_ReadSlots_L1, Int.reduceLT, decide_false, Bool.false_eq_true, if_false, hashindex_ReadSlots_J1]
  rw [show (⟨dp (lo p.Data.a1), dp (hi p.Data.a1), dp (lo p.Data.a2), dp (hi p.Data.a2), dp (lo p.Data.a3), dp (hi p.Data.a3), dp (lo p.Data.a4), dp (hi p.Data.a4)⟩ : A8 pointer_Pointer) = rdX p from rfl]
  rw [show (p.Data.a0 % 256 == 3 && okw (lo p.Data.a1) && okw (hi p.Data.a1) && okw (lo p.Data.a2) && okw (hi p.Data.a2) && okw (lo p.Data.a3) && okw (hi p.Data.a3) && okw (lo p.Data.a4) && okw (hi p.Data.a4)) = (p.Data.a0 % 256 == 3 && rdXB p) from by unfold rdXB; simp only [Bool.and_assoc]]
  unfold rdS
  obtain ⟨h0, h1, h2, h3, h4, h5, h6⟩ := h
  unfold k_u64 at h0 h1 h2 h3 h4 h5 h6
  by_cases hk : p.Data.a0 % 256 = 3
  · rcases Bool.eq_false_or_eq_true (rdXB p) with hb | hb
    · have hb' := hb
      unfold rdXB at hb'
      simp only [Bool.and_eq_true] at hb'
      obtain ⟨⟨⟨⟨⟨⟨⟨b1, b2⟩, b3⟩, b4⟩, b5⟩, b6⟩, b7⟩, b8⟩ := hb'
      have hf : (fillP p (rdX p)).Data = ⟨lo p.Data.a0, p.Data.a1, p.Data.a2, p.Data.a3, p.Data.a4, 0, 0⟩ := by
        unfold fillP rdX
        simp only [pk_dp b1 lo_r, pk_dp b2 (hi_r h1), pk_dp b3 lo_r, pk_dp b4 (hi_r h2), pk_dp b5 lo_r, pk_dp b6 (hi_r h3), pk_dp b7 lo_r, pk_dp b8 (hi_r h4), two_lohi]
      simp only [hk, hb, beq_self_eq_true, Bool.and_self, Bool.not_true, Bool.false_eq_true, if_false, fillSlots_eq p (rdX p) hh.1, bind_s, hf, true_and]
      by_cases c0 : hi p.Data.a0 = 0 ∧ p.Data.a5 = 0 ∧ p.Data.a6 = 0
      · have e : lo p.Data.a0 = p.Data.a0 := by have := c0.1; unfold lo; unfold hi at this; omega
        simp [c0, e]
      · have e : ¬ (lo p.Data.a0 = p.Data.a0 ∧ 0 = p.Data.a5 ∧ 0 = p.Data.a6) := fun ⟨x1, x2, x3⟩ => c0 ⟨by unfold lo at x1; unfold hi; omega, x2.symm, x3.symm⟩
        have e' : (lo p.Data.a0 == p.Data.a0 && (true && (true && (true && (true && ((0 : Int) == p.Data.a5 && (0 : Int) == p.Data.a6)))))) = false := by
          rw [Bool.eq_false_iff]
          intro hc
          simp only [Bool.true_and, Bool.and_eq_true, beq_iff_eq] at hc
          exact e hc
        simp only [e', Bool.not_false, if_true, c0, if_false]
        rfl
    · simp [hk, hb, zero8]
  · simp [hk, zero8]
theorem ReadSlotsR_eq (p : api_Page) (h : k_A7 k_u64 p.Data) : bodegaref23_ReadSlots p = some (c8 (rdS p).1, (rdS p).2) := by
  have hh := h
  unfold bodegaref23_ReadSlots bodegaref19_Kind bodegaref19_Aux
  obtain ⟨h0, h1, h2, h3, h4, h5, h6⟩ := h
  unfold k_u64 at h0 h1 h2 h3 h4 h5 h6
  have e0 : p.Data.a0 / 4294967296 = hi p.Data.a0 := rfl
  have := hi_r h0
  rw [bind_s, tmod_pos h0.1, i64_in' (x := p.Data.a0 % 256) (by omega), bind_s, shr_u64_32, u32_hi h0, ry0 p hh, ry1 p hh, ry2 p hh, ry3 p hh, ry4 p hh, ry5 p hh, ry6 p hh, ry7 p hh, iter_eq]
  simp only [bodegaref23_ReadSlots_L1, Int.reduceLT, decide_false, Bool.false_eq_true, if_false, Option.map_some, bind_s]
  unfold rdS rdXB
  by_cases hk : p.Data.a0 % 256 = 3
  · by_cases ha : hi p.Data.a0 = 0
    · by_cases h5' : p.Data.a5 = 0
      · by_cases h6' : p.Data.a6 = 0
        · simp only [hk, ha, h5', h6', bne_self_eq_false, Bool.false_eq_true, if_false, true_and, and_true]
          rcases Bool.eq_false_or_eq_true (okw (lo p.Data.a1)) with b0 | b0
          rotate_left
          · simp only [b0, Bool.false_eq_true, if_false, Bool.and_false, Bool.false_and]
          simp only [b0, if_true, Bool.true_and, Bool.and_true]
          rcases Bool.eq_false_or_eq_true (okw (hi p.Data.a1)) with b1 | b1
          rotate_left
          · simp only [b1, Bool.false_eq_true, if_false, Bool.and_false, Bool.false_and]
          simp only [b1, if_true, Bool.true_and, Bool.and_true]
          rcases Bool.eq_false_or_eq_true (okw (lo p.Data.a2)) with b2 | b2
          rotate_left
          · simp only [b2, Bool.false_eq_true, if_false, Bool.and_false, Bool.false_and]
          simp only [b2, if_true, Bool.true_and, Bool.and_true]
          rcases Bool.eq_false_or_eq_true (okw (hi p.Data.a2)) with b3 | b3
          rotate_left
          · simp only [b3, Bool.false_eq_true, if_false, Bool.and_false, Bool.false_and]
          simp only [b3, if_true, Bool.true_and, Bool.and_true]
          rcases Bool.eq_false_or_eq_true (okw (lo p.Data.a3)) with b4 | b4
          rotate_left
          · simp only [b4, Bool.false_eq_true, if_false, Bool.and_false, Bool.false_and]
          simp only [b4, if_true, Bool.true_and, Bool.and_true]
          rcases Bool.eq_false_or_eq_true (okw (hi p.Data.a3)) with b5 | b5
          rotate_left
          · simp only [b5, Bool.false_eq_true, if_false, Bool.and_false, Bool.false_and]
          simp only [b5, if_true, Bool.true_and, Bool.and_true]
          rcases Bool.eq_false_or_eq_true (okw (lo p.Data.a4)) with b6 | b6
          rotate_left
          · simp only [b6, Bool.false_eq_true, if_false, Bool.and_false, Bool.false_and]
          simp only [b6, if_true, Bool.true_and, Bool.and_true]
          rcases Bool.eq_false_or_eq_true (okw (hi p.Data.a4)) with b7 | b7
          rotate_left
          · simp only [b7, Bool.false_eq_true, if_false, Bool.and_false, Bool.false_and]
          simp only [b7, if_true, Bool.true_and, Bool.and_true]
          rfl
        · simp [hk, ha, h5', h6', c8, zero8, cP]
      · simp [hk, ha, h5', c8, zero8, cP]
    · simp [hk, ha, c8, zero8, cP]
  · simp [hk, c8, zero8, cP]

def gd (p : pointer_Pointer) : Bool := good p.Line p.Gen
def gdX (x : A8 pointer_Pointer) : Bool := gd x.a0 && (gd x.a1 && (gd x.a2 && (gd x.a3 && (gd x.a4 && (gd x.a5 && (gd x.a6 && gd x.a7))))))
def wrS (p : api_Page) (x : A8 pointer_Pointer) : api_Page × Int := if p.Data.a0 % 256 = 3 ∧ gdX x = true then (fillP p x, 0) else (zeroPg, 1)
theorem isF_eq (p : pointer_Pointer) : hashindex_isField p = some (gd p) := isField_eq p
theorem goodC_eq (p : pointer_Pointer) : bodegaref23_good (cP p) = some (gd p) := good_eq _
theorem if_step (l : List pointer_Pointer) (i : Int) (p : pointer_Pointer) (h : idx l i = some p) (hs : i + 1 < 9223372036854775808) : iter (slices_IndexFunc_L1 l) i = if gd p = true then iter (slices_IndexFunc_L1 l) (i + 1) else some i := by
  obtain ⟨h0, h1, _⟩ := idx_some h
  rw [iter_eq]
  simp (disch := omega) only [slices_IndexFunc_L1, h1, decide_true, if_true, h, bind_s, hashindex_WriteSlots_c1, isF_eq, i64_in']
  cases gd p <;> simp
theorem Contains_eq (x : A8 pointer_Pointer) : slices_ContainsFunc [x.a0, x.a1, x.a2, x.a3, x.a4, x.a5, x.a6, x.a7] = some (!gdX x) := by
  unfold slices_ContainsFunc slices_IndexFunc
  rw [if_step _ 0 x.a0 rfl (by omega), if_step _ (0+1) x.a1 rfl (by omega), if_step _ (0+1+1) x.a2 rfl (by omega), if_step _ (0+1+1+1) x.a3 rfl (by omega), if_step _ (0+1+1+1+1) x.a4 rfl (by omega), if_step _ (0+1+1+1+1+1) x.a5 rfl (by omega), if_step _ (0+1+1+1+1+1+1) x.a6 rfl (by omega), if_step _ (0+1+1+1+1+1+1+1) x.a7 rfl (by omega), iter_eq]
  rw [show slices_IndexFunc_L1 [x.a0, x.a1, x.a2, x.a3, x.a4, x.a5, x.a6, x.a7] (0+1+1+1+1+1+1+1+1) = some (.inr (-1)) from rfl]
  simp only [bind_s]
  unfold gdX
  rcases Bool.eq_false_or_eq_true (gd x.a0) with b0 | b0
  rotate_left
  · simp only [b0, Bool.false_eq_true, if_false, Bool.and_false, Bool.false_and]; rfl
  simp only [b0, if_true, Bool.true_and, Bool.and_true]
  rcases Bool.eq_false_or_eq_true (gd x.a1) with b1 | b1
  rotate_left
  · simp only [b1, Bool.false_eq_true, if_false, Bool.and_false, Bool.false_and]; rfl
  simp only [b1, if_true, Bool.true_and, Bool.and_true]
  rcases Bool.eq_false_or_eq_true (gd x.a2) with b2 | b2
  rotate_left
  · simp only [b2, Bool.false_eq_true, if_false, Bool.and_false, Bool.false_and]; rfl
  simp only [b2, if_true, Bool.true_and, Bool.and_true]
  rcases Bool.eq_false_or_eq_true (gd x.a3) with b3 | b3
  rotate_left
  · simp only [b3, Bool.false_eq_true, if_false, Bool.and_false, Bool.false_and]; rfl
  simp only [b3, if_true, Bool.true_and, Bool.and_true]
  rcases Bool.eq_false_or_eq_true (gd x.a4) with b4 | b4
  rotate_left
  · simp only [b4, Bool.false_eq_true, if_false, Bool.and_false, Bool.false_and]; rfl
  simp only [b4, if_true, Bool.true_and, Bool.and_true]
  rcases Bool.eq_false_or_eq_true (gd x.a5) with b5 | b5
  rotate_left
  · simp only [b5, Bool.false_eq_true, if_false, Bool.and_false, Bool.false_and]; rfl
  simp only [b5, if_true, Bool.true_and, Bool.and_true]
  rcases Bool.eq_false_or_eq_true (gd x.a6) with b6 | b6
  rotate_left
  · simp only [b6, Bool.false_eq_true, if_false, Bool.and_false, Bool.false_and]; rfl
  simp only [b6, if_true, Bool.true_and, Bool.and_true]
  rcases Bool.eq_false_or_eq_true (gd x.a7) with b7 | b7
  rotate_left
  · simp only [b7, Bool.false_eq_true, if_false, Bool.and_false, Bool.false_and]; rfl
  simp only [b7, if_true, Bool.true_and, Bool.and_true]
  rfl
theorem WriteSlots_eq (p : api_Page) (x : A8 pointer_Pointer) (h : k_u64 p.Data.a0) : hashindex_WriteSlots p x = some (wrS p x) := by
  unfold hashindex_WriteSlots wrS
  rw [isKind_eq h, bind_s, Contains_eq, bind_s, fillSlots_eq p x h, bind_s]
  by_cases hk : p.Data.a0 % 256 = 3
  · rcases Bool.eq_false_or_eq_true (gdX x) with b | b <;> simp [hk, b, zeroPg]
  · simp [hk, zeroPg]
theorem add0 {a : Int} (h : 0 ≤ a ∧ a < 4294967296) : IntKind.u64.wrap (0 + shlV .u64 (IntKind.u64.wrap a) 0) = a := by
  rw [u64_in' (x := a) (by omega), shl_ 0]
  rw [show a * 2 ^ 0 = a by omega, u64_in' (x := a) (by omega), u64_in' (by omega)]; omega
theorem add1 {a b : Int} (h : 0 ≤ a ∧ a < 4294967296) (h' : 0 ≤ b ∧ b < 4294967296) : IntKind.u64.wrap (a + shlV .u64 (IntKind.u64.wrap b) 32) = two a b := by
  have := two_add h h'
  rwa [u64_in' (x := a) (by omega)] at this
theorem ws0 (p : api_Page) (x : A8 pointer_Pointer) (a : A7 Int) (ha : a.a1 = 0) : iter (bodegaref23_WriteSlots_L1 (c8 x) p) (a, 0) = if gd x.a0 = true then iter (bodegaref23_WriteSlots_L1 (c8 x) p) ({ a with a1 := pkP x.a0 }, 1) else some (zeroPg, 1) := by
  rw [iter_eq]
  simp (disch := omega) only [bodegaref23_WriteSlots_L1, c8, i64_in', u64_in', Int.reduceTDiv, Int.reduceTMod, Int.reduceMul, Int.reduceAdd, A8.get, A7.get, A7.set, Int.reduceEq, if_true, if_false, Int.reduceLT, Int.reduceLE, and_self, decide_true, PackC_eq, goodC_eq, bind_s, ha, add0 (pkP_r _)]
  rcases Bool.eq_false_or_eq_true (gd x.a0) with hb | hb <;> simp only [hb, Bool.not_true, Bool.not_false, Bool.false_eq_true, if_true, if_false, Option.map_some, bind_s] <;> rfl
theorem ws1 (p : api_Page) (x : A8 pointer_Pointer) (a : A7 Int) (ha : 0 ≤ a.a1 ∧ a.a1 < 4294967296) : iter (bodegaref23_WriteSlots_L1 (c8 x) p) (a, 1) = if gd x.a1 = true then iter (bodegaref23_WriteSlots_L1 (c8 x) p) ({ a with a1 := two a.a1 (pkP x.a1) }, 2) else some (zeroPg, 1) := by
  rw [iter_eq]
  simp (disch := omega) only [bodegaref23_WriteSlots_L1, c8, i64_in', u64_in', Int.reduceTDiv, Int.reduceTMod, Int.reduceMul, Int.reduceAdd, A8.get, A7.get, A7.set, Int.reduceEq, if_true, if_false, Int.reduceLT, Int.reduceLE, and_self, decide_true, PackC_eq, goodC_eq, bind_s, add1 ha (pkP_r _)]
  rcases Bool.eq_false_or_eq_true (gd x.a1) with hb | hb <;> simp only [hb, Bool.not_true, Bool.not_false, Bool.false_eq_true, if_true, if_false, Option.map_some, bind_s] <;> rfl
theorem ws2 (p : api_Page) (x : A8 pointer_Pointer) (a : A7 Int) (ha : a.a2 = 0) : iter (bodegaref23_WriteSlots_L1 (c8 x) p) (a, 2) = if gd x.a2 = true then iter (bodegaref23_WriteSlots_L1 (c8 x) p) ({ a with a2 := pkP x.a2 }, 3) else some (zeroPg, 1) := by
  rw [iter_eq]
  simp (disch := omega) only [bodegaref23_WriteSlots_L1, c8, i64_in', u64_in', Int.reduceTDiv, Int.reduceTMod, Int.reduceMul, Int.reduceAdd, A8.get, A7.get, A7.set, Int.reduceEq, if_true, if_false, Int.reduceLT, Int.reduceLE, and_self, decide_true, PackC_eq, goodC_eq, bind_s, ha, add0 (pkP_r _)]
  rcases Bool.eq_false_or_eq_true (gd x.a2) with hb | hb <;> simp only [hb, Bool.not_true, Bool.not_false, Bool.false_eq_true, if_true, if_false, Option.map_some, bind_s] <;> rfl
theorem ws3 (p : api_Page) (x : A8 pointer_Pointer) (a : A7 Int) (ha : 0 ≤ a.a2 ∧ a.a2 < 4294967296) : iter (bodegaref23_WriteSlots_L1 (c8 x) p) (a, 3) = if gd x.a3 = true then iter (bodegaref23_WriteSlots_L1 (c8 x) p) ({ a with a2 := two a.a2 (pkP x.a3) }, 4) else some (zeroPg, 1) := by
  rw [iter_eq]
  simp (disch := omega) only [bodegaref23_WriteSlots_L1, c8, i64_in', u64_in', Int.reduceTDiv, Int.reduceTMod, Int.reduceMul, Int.reduceAdd, A8.get, A7.get, A7.set, Int.reduceEq, if_true, if_false, Int.reduceLT, Int.reduceLE, and_self, decide_true, PackC_eq, goodC_eq, bind_s, add1 ha (pkP_r _)]
  rcases Bool.eq_false_or_eq_true (gd x.a3) with hb | hb <;> simp only [hb, Bool.not_true, Bool.not_false, Bool.false_eq_true, if_true, if_false, Option.map_some, bind_s] <;> rfl
theorem ws4 (p : api_Page) (x : A8 pointer_Pointer) (a : A7 Int) (ha : a.a3 = 0) : iter (bodegaref23_WriteSlots_L1 (c8 x) p) (a, 4) = if gd x.a4 = true then iter (bodegaref23_WriteSlots_L1 (c8 x) p) ({ a with a3 := pkP x.a4 }, 5) else some (zeroPg, 1) := by
  rw [iter_eq]
  simp (disch := omega) only [bodegaref23_WriteSlots_L1, c8, i64_in', u64_in', Int.reduceTDiv, Int.reduceTMod, Int.reduceMul, Int.reduceAdd, A8.get, A7.get, A7.set, Int.reduceEq, if_true, if_false, Int.reduceLT, Int.reduceLE, and_self, decide_true, PackC_eq, goodC_eq, bind_s, ha, add0 (pkP_r _)]
  rcases Bool.eq_false_or_eq_true (gd x.a4) with hb | hb <;> simp only [hb, Bool.not_true, Bool.not_false, Bool.false_eq_true, if_true, if_false, Option.map_some, bind_s] <;> rfl
theorem ws5 (p : api_Page) (x : A8 pointer_Pointer) (a : A7 Int) (ha : 0 ≤ a.a3 ∧ a.a3 < 4294967296) : iter (bodegaref23_WriteSlots_L1 (c8 x) p) (a, 5) = if gd x.a5 = true then iter (bodegaref23_WriteSlots_L1 (c8 x) p) ({ a with a3 := two a.a3 (pkP x.a5) }, 6) else some (zeroPg, 1) := by
  rw [iter_eq]
  simp (disch := omega) only [bodegaref23_WriteSlots_L1, c8, i64_in', u64_in', Int.reduceTDiv, Int.reduceTMod, Int.reduceMul, Int.reduceAdd, A8.get, A7.get, A7.set, Int.reduceEq, if_true, if_false, Int.reduceLT, Int.reduceLE, and_self, decide_true, PackC_eq, goodC_eq, bind_s, add1 ha (pkP_r _)]
  rcases Bool.eq_false_or_eq_true (gd x.a5) with hb | hb <;> simp only [hb, Bool.not_true, Bool.not_false, Bool.false_eq_true, if_true, if_false, Option.map_some, bind_s] <;> rfl
theorem ws6 (p : api_Page) (x : A8 pointer_Pointer) (a : A7 Int) (ha : a.a4 = 0) : iter (bodegaref23_WriteSlots_L1 (c8 x) p) (a, 6) = if gd x.a6 = true then iter (bodegaref23_WriteSlots_L1 (c8 x) p) ({ a with a4 := pkP x.a6 }, 7) else some (zeroPg, 1) := by
  rw [iter_eq]
  simp (disch := omega) only [bodegaref23_WriteSlots_L1, c8, i64_in', u64_in', Int.reduceTDiv, Int.reduceTMod, Int.reduceMul, Int.reduceAdd, A8.get, A7.get, A7.set, Int.reduceEq, if_true, if_false, Int.reduceLT, Int.reduceLE, and_self, decide_true, PackC_eq, goodC_eq, bind_s, ha, add0 (pkP_r _)]
  rcases Bool.eq_false_or_eq_true (gd x.a6) with hb | hb <;> simp only [hb, Bool.not_true, Bool.not_false, Bool.false_eq_true, if_true, if_false, Option.map_some, bind_s] <;> rfl
theorem ws7 (p : api_Page) (x : A8 pointer_Pointer) (a : A7 Int) (ha : 0 ≤ a.a4 ∧ a.a4 < 4294967296) : iter (bodegaref23_WriteSlots_L1 (c8 x) p) (a, 7) = if gd x.a7 = true then iter (bodegaref23_WriteSlots_L1 (c8 x) p) ({ a with a4 := two a.a4 (pkP x.a7) }, 8) else some (zeroPg, 1) := by
  rw [iter_eq]
  simp (disch := omega) only [bodegaref23_WriteSlots_L1, c8, i64_in', u64_in', Int.reduceTDiv, Int.reduceTMod, Int.reduceMul, Int.reduceAdd, A8.get, A7.get, A7.set, Int.reduceEq, if_true, if_false, Int.reduceLT, Int.reduceLE, and_self, decide_true, PackC_eq, goodC_eq, bind_s, add1 ha (pkP_r _)]
  rcases Bool.eq_false_or_eq_true (gd x.a7) with hb | hb <;> simp only [hb, Bool.not_true, Bool.not_false, Bool.false_eq_true, if_true, if_false, Option.map_some, bind_s] <;> rfl

theorem tagR {a : Int} (h : k_u64 a) (h3 : a % 256 = 3) : (bodegaref19_Tag 3 (IntKind.i64.wrap (Int.tmod (IntKind.u64.wrap (Int.tdiv a 256)) 16777216)) 0) = some (lo a) := by
  unfold k_u64 at h
  unfold bodegaref19_Tag
  rw [tdiv_pos h.1, u64_in' (x := a / 256) (by omega), tmod_pos (x := a / 256) (by omega), i64_in' (x := a / 256 % 16777216) (by omega), u64_in' (x := a / 256 % 16777216) (by omega), u64_in' (x := 3) (by omega), u64_in' (x := 0) (by omega), shl_u64_32, u64_in' (x := 0 * 4294967296) (by omega),
    tmod_pos (x := a / 256 % 16777216) (by omega), u64_in' (x := a / 256 % 16777216 % 16777216 * 256) (by omega), tmod_pos (x := 3) (by omega), u64_in' (x := 3 % 256 + a / 256 % 16777216 % 16777216 * 256) (by omega), u64_in' (by omega)]
  congr 1
  unfold lo
  omega
theorem WriteSlotsR_eq (p : api_Page) (x : A8 pointer_Pointer) (h : k_u64 p.Data.a0) : bodegaref23_WriteSlots p (c8 x) = some (wrS p x) := by
  have hh := h
  unfold k_u64 at h
  unfold bodegaref23_WriteSlots bodegaref19_Kind bodegaref19_Gen wrS
  rw [bind_s, bind_s, tmod_pos (x := p.Data.a0) h.1, i64_in' (x := p.Data.a0 % 256) (by omega)]
  by_cases hk : p.Data.a0 % 256 = 3
  · rw [tagR hh hk, bind_s]
    rw [ws0 p x _ rfl, ws1 p x _ (pkP_r _), ws2 p x _ rfl, ws3 p x _ (pkP_r _), ws4 p x _ rfl, ws5 p x _ (pkP_r _), ws6 p x _ rfl, ws7 p x _ (pkP_r _), iter_eq]
    simp only [bodegaref23_WriteSlots_L1, Int.reduceLT, decide_false, Bool.false_eq_true, if_false, Option.map_some, bind_s, hk, bne_self_eq_false, true_and]
    unfold gdX
    rcases Bool.eq_false_or_eq_true (gd x.a0) with b0 | b0
    rotate_left
    · simp only [b0, Bool.false_eq_true, if_false, Bool.and_false, Bool.false_and]
    simp only [b0, if_true, Bool.true_and, Bool.and_true]
    rcases Bool.eq_false_or_eq_true (gd x.a1) with b1 | b1
    rotate_left
    · simp only [b1, Bool.false_eq_true, if_false, Bool.and_false, Bool.false_and]
    simp only [b1, if_true, Bool.true_and, Bool.and_true]
    rcases Bool.eq_false_or_eq_true (gd x.a2) with b2 | b2
    rotate_left
    · simp only [b2, Bool.false_eq_true, if_false, Bool.and_false, Bool.false_and]
    simp only [b2, if_true, Bool.true_and, Bool.and_true]
    rcases Bool.eq_false_or_eq_true (gd x.a3) with b3 | b3
    rotate_left
    · simp only [b3, Bool.false_eq_true, if_false, Bool.and_false, Bool.false_and]
    simp only [b3, if_true, Bool.true_and, Bool.and_true]
    rcases Bool.eq_false_or_eq_true (gd x.a4) with b4 | b4
    rotate_left
    · simp only [b4, Bool.false_eq_true, if_false, Bool.and_false, Bool.false_and]
    simp only [b4, if_true, Bool.true_and, Bool.and_true]
    rcases Bool.eq_false_or_eq_true (gd x.a5) with b5 | b5
    rotate_left
    · simp only [b5, Bool.false_eq_true, if_false, Bool.and_false, Bool.false_and]
    simp only [b5, if_true, Bool.true_and, Bool.and_true]
    rcases Bool.eq_false_or_eq_true (gd x.a6) with b6 | b6
    rotate_left
    · simp only [b6, Bool.false_eq_true, if_false, Bool.and_false, Bool.false_and]
    simp only [b6, if_true, Bool.true_and, Bool.and_true]
    rcases Bool.eq_false_or_eq_true (gd x.a7) with b7 | b7
    rotate_left
    · simp only [b7, Bool.false_eq_true, if_false, Bool.and_false, Bool.false_and]
    simp only [b7, if_true, Bool.true_and, Bool.and_true]
    rfl
  · simp [hk, zeroPg]
theorem rdS_fill {p : api_Page} {x : A8 pointer_Pointer} (hk : p.Data.a0 % 256 = 3) (hg : gdX x = true) : rdS (fillP p x) = (x, 0) := by
  unfold gdX gd at hg
  simp only [Bool.and_eq_true] at hg
  obtain ⟨g0, g1, g2, g3, g4, g5, g6, g7⟩ := hg
  have h1 : rdX (fillP p x) = x := by
    unfold rdX fillP
    simp only [two_lo (pkP_r _), two_hi (pkP_r _), (dp_pk g0).1, (dp_pk g1).1, (dp_pk g2).1, (dp_pk g3).1, (dp_pk g4).1, (dp_pk g5).1, (dp_pk g6).1, (dp_pk g7).1]
  have h2 : rdXB (fillP p x) = true := by
    unfold rdXB fillP
    simp only [two_lo (pkP_r _), two_hi (pkP_r _), (dp_pk g0).2, (dp_pk g1).2, (dp_pk g2).2, (dp_pk g3).2, (dp_pk g4).2, (dp_pk g5).2, (dp_pk g6).2, (dp_pk g7).2, Bool.and_self]
  have h3 : (fillP p x).Data.a0 % 256 = 3 := by show lo p.Data.a0 % 256 = 3; unfold lo; omega
  have h4 : hi (fillP p x).Data.a0 = 0 := by show hi (lo p.Data.a0) = 0; unfold lo hi; omega
  unfold rdS
  rw [if_pos ⟨h3, h2, h4, rfl, rfl⟩, h1]
theorem fill_k {p : api_Page} {x : A8 pointer_Pointer} : k_A7 k_u64 (fillP p x).Data := by
  have h0 : k_u64 (0 : Int) := by unfold k_u64; omega
  exact ⟨by show k_u64 (lo p.Data.a0); have := @lo_r p.Data.a0; unfold k_u64; omega, two_k (pkP_r _) (pkP_r _), two_k (pkP_r _) (pkP_r _), two_k (pkP_r _) (pkP_r _), two_k (pkP_r _) (pkP_r _), h0, h0⟩

theorem SJ1_true (p : api_Page) (hp : k_api_Page p) (n d : Int) (hd : k_u64 d) (x : A8 pointer_Pointer) : bodegalaw23_HashSlots_J1 p n (d, x) = some true := by
  obtain ⟨_, _, hD⟩ := hp
  unfold bodegalaw23_HashSlots_J1
  simp only
  generalize hq : (⟨p.Line, p.Head, ⟨d, p.Data.a1, p.Data.a2, p.Data.a3, p.Data.a4, p.Data.a5, p.Data.a6⟩⟩ : api_Page) = q
  have hqk : k_A7 k_u64 q.Data := by rw [← hq]; exact ⟨hd, hD.2⟩
  simp only [ReadSlots_eq _ hqk, ReadSlotsR_eq _ hqk, WriteSlots_eq _ _ hqk.1, WriteSlotsR_eq _ _ hqk.1, slots_eq, awake_eq, bind_s, bodegalaw23_same]
  by_cases hw : q.Data.a0 % 256 = 3 ∧ gdX x = true
  · have e : wrS q x = (fillP q x, 0) := by unfold wrS; rw [if_pos hw]
    have hk := @fill_k q x
    obtain ⟨v, ev, hv0, hv1⟩ := Pick_eq (a := IntKind.i64.wrap (Int.tdiv n 54)) (n := 7) (by omega)
    obtain ⟨u, eu, hu0, hu1⟩ := Pick_eq (a := IntKind.i64.wrap (Int.tdiv n 378)) (n := 64) (by omega)
    rw [e]
    have hi : 0 ≤ v ∧ v < 7 := ⟨hv0, hv1⟩
    simp only [beq_self_eq_true, Bool.true_and, Bool.and_self, Bool.not_true, Bool.false_eq_true, if_false, bne_self_eq_false, ReadSlots_eq _ hk, rdS_fill hw.1 hw.2, bind_s, ev, eu, hi, and_self, if_true]
    generalize hg : (⟨(fillP q x).Line, (fillP q x).Head, A7.set (fillP q x).Data v (bits .xor .u64 (A7.get (fillP q x).Data v) (shlV .u64 1 (IntKind.u64.wrap u)))⟩ : api_Page) = z
    have hz : k_A7 k_u64 z.Data := by rw [← hg]; exact set7_k hk (xor_k _ _)
    simp only [ReadSlots_eq _ hz, ReadSlotsR_eq _ hz, slots_eq, bind_s, beq_self_eq_true, Bool.and_self]
  · have e : wrS q x = (zeroPg, 1) := by unfold wrS; rw [if_neg hw]
    rw [e]
    simp

theorem HashSlots_law (p : api_Page) (x : A8 pointer_Pointer) (n : Int) (k0 : k_api_Page p) (k1 : k_A8 k_pointer_Pointer x) (k2 : k_i64 n) : bodegalaw23_HashSlots p x n = some true := by
  unfold bodegalaw23_HashSlots
  obtain ⟨v, ev, _⟩ := Pick_eq (a := n) (n := 6) (by omega)
  obtain ⟨d, ed, hd⟩ := Pick_eq (a := IntKind.i64.wrap (Int.tdiv n 6)) (n := 9) (by omega)
  rw [ev, bind_s, ed, bind_s, SJ1_true p k0 n _ k0.2.2.1]
  split
  · have hJ : ∀ y, bodegalaw23_HashSlots_J1 p n (IntKind.u64.wrap (3 + IntKind.u64.wrap (IntKind.u64.wrap d * 256)), y) = some true := fun y =>
      SJ1_true p k0 n _ (by rw [u64_in' (x := d) (by omega), u64_in' (x := d * 256) (by omega), u64_in' (by omega)]; unfold k_u64; omega) y
    have hs : ∀ (y : A8 pointer_Pointer) (i : Int), 0 ≤ i ∧ i < 8 → ∃ z, iter (bodegalaw23_HashSlots_L1 p n d) (y, i) = iter (bodegalaw23_HashSlots_L1 p n d) (z, i + 1) := fun y i h => by
      rw [iter_eq]
      obtain ⟨q, eq⟩ := aim_eq (A8.get y i)
      have h8 : i < 8 := h.2
      simp only [bodegalaw23_HashSlots_L1, h8, h, and_self, decide_true, if_true, eq, bind_s, i64_in' (show -9223372036854775808 ≤ i + 1 ∧ i + 1 < 9223372036854775808 by omega)]
      exact ⟨_, rfl⟩
    obtain ⟨x1, e1⟩ := hs x 0 (by omega)
    obtain ⟨x2, e2⟩ := hs x1 (0+1) (by omega)
    obtain ⟨x3, e3⟩ := hs x2 (0+1+1) (by omega)
    obtain ⟨x4, e4⟩ := hs x3 (0+1+1+1) (by omega)
    obtain ⟨x5, e5⟩ := hs x4 (0+1+1+1+1) (by omega)
    obtain ⟨x6, e6⟩ := hs x5 (0+1+1+1+1+1) (by omega)
    obtain ⟨x7, e7⟩ := hs x6 (0+1+1+1+1+1+1) (by omega)
    obtain ⟨x8, e8⟩ := hs x7 (0+1+1+1+1+1+1+1) (by omega)
    rw [e1, e2, e3, e4, e5, e6, e7, e8, iter_eq]
    simp [bodegalaw23_HashSlots_L1, hJ]
  · rfl
end Go.Sh
end
section
namespace Go.Sh
open Go.Proofs Go.ChangeShapes
set_option maxRecDepth 100000
theorem List.head_eq_of_cons_eq {α : Type} {a b : α} {l m : List α} (h : a :: l = b :: m) : a = b := by cases h; rfl
theorem own : ownKnob Tryd.prog.godebug = none := by kernel_rfl
theorem laidOut : laidOutB Tryd.prog = true := by kernel_rfl
theorem gNone : Tryd.prog.globalNamed "bodega/hashindex.none" = some 0 := by kernel_rfl
theorem tNone : (Tryd.prog.globals[0]?).map (·.type) = some 27 := by kernel_rfl
abbrev laidL : List (String × DataW Unit) := [("bodega/hashindex.none", YthambbjjolieaaaDoor.Rows.laid_bodega_hashindex_none)]
theorem door_met (os : Os) (args : Array Value) : laidMetH Tryd.prog laidL ((World.doorLaid Tryd.prog 400 os).forCall (fun _ _ => 0) ⟨#[], args, []⟩).memory :=
  laidMetH_of_parts3 (fuel := 8) (laidMet_of_run' 8 (by kernel_rfl) (by kernel_rfl)) (by kernel_rfl) (by kernel_rfl)
def laidG : Glob := ⟨fun g => if g = 0 then some [.int .i64 0, .int .i64 0] else none, fun _ => none⟩
theorem of_laid {W : World} (h : laidMetH Tryd.prog laidL W) : GlobRep (· < W.heap.size) W laidG := by
  rw [MakeChecks.laidMetH_plain _ _ _ (by kernel_rfl)] at h
  obtain ⟨ps, ⟨g0, t0, cs0, f0, p0, q0, hg0, ht0, hv0, hd0, _, _⟩, _, _⟩ := h
  obtain rfl := Option.some.inj (gNone.symm.trans hg0)
  obtain rfl := Option.some.inj (tNone.symm.trans ht0)
  obtain ⟨xs, n, _, hx, hl, hn, hf⟩ := DataW.trod_struct Tryd.underlying27 hd0
  have hlen : cs0.size = 2 := by simpa using hl.trans (show Tryd.prog.cellsOf 27 = 2 by kernel_rfl)
  match xs, hn, hx, hf with
  | [y0, y1], _, hx, hf =>
    have h0 := hf 0 _ rfl
    have h1 := hf 1 _ rfl
    obtain ⟨n0, e0, z0, _⟩ := DataW.trod_int Tryd.underlying3 (show DataW.trod _ Tryd.prog W 0 _ _ n 3 _ = some y0 from h0)
    obtain ⟨n1, e1, z1, _⟩ := DataW.trod_int Tryd.underlying3 (show DataW.trod _ Tryd.prog W 0 _ _ n 3 _ = some y1 from h1)
    subst z0; subst z1
    have hx' : ((.agg [.lit (.int .i64 0), .lit (.int .i64 0)] : DataW _), p0) = (.agg [.lit (.int .i64 n0), .lit (.int .i64 n1)], []) := hx
    simp at hx'
    obtain ⟨⟨rfl, rfl⟩, _⟩ := hx'
    have hc := World.var?_cell hg0 hv0
    obtain ⟨l⟩ := cs0
    match l, hlen with
    | [a, b], _ =>
      have ea : [a] = [Value.int .i64 0] := e0
      have eb : [b] = [Value.int .i64 0] := e1
      cases ea; cases eb
      intro g cells hg
      simp only [laidG] at hg
      split at hg
      · rename_i hgz
        subst hgz
        cases hg
        have hc0 : W.cell? ⟨0, 0, none⟩ = some (.int .i64 0) := by have := hc 0; simpa using this
        refine ⟨cell_lt hc0, fun _ => .int .i64 0, fun j hj => ?_, fun j c hjc => ?_⟩
        · match j, hj with
          | 0, _ => exact hc0
          | 1, _ => have := hc 1; simpa using this
        · match j, hjc with
          | 0, hjc => cases hjc; exact .int _ _
          | 1, hjc => cases hjc; exact .int _ _
      · cases hg
end Go.Sh
end
section
namespace Go.Proofs.YthambbjjolieaaaDoor
open Go.Sh Go.ChangeShapes Go.RowKit
set_option maxRecDepth 100000
set_option linter.unusedSimpArgs false
set_option linter.unusedVariables false
set_option maxHeartbeats 4000000 in
theorem hashSlots_lifted (os : Os) (started : os.Started) (H : Type) (enc : TypeId × Value → H) :
    ReturnsInHanded {} Tryd.checked os 4 .any (fun w args => (Rows.hashSlotsSpec.pre enc Tryd.prog Tryd.f4 [] false w args ∧ laidMetH Tryd.prog Rows.hashSlotsRow.laid w) ∧ sizedMet enc Tryd.prog Tryd.f4 (OpenSpec.ofChange Rows.hashSlotsSpec) false w args)
      (Rows.hashSlotsSpec.post enc Tryd.prog Tryd.f4 false true false false) := by
  refine returnsInHanded_of_change_and (C := Tryd.checked) (X := fun w _ => laidMetH Tryd.prog Rows.hashSlotsRow.laid w) (fun _ _ _ hh h => h.of_heap hh) Sh.own started (by kernel_rfl) Tryd.func4
    (ChangeSpec.witness_shaped (enc := enc) (C := Tryd.checked) (os := os) (X := fun w _ => laidMetH Tryd.prog Rows.hashSlotsRow.laid w) false (World.doorLaid Tryd.prog 400 os) #[(.agg #[.int .i64 0, .int .u64 0, .int .u64 0, .int .u64 0, .int .u64 0, .int .u64 0, .int .u64 0, .int .u64 0, .int .u64 0]), (.agg #[.int .i64 0, .int .i64 0, .int .i64 0, .int .i64 0, .int .i64 0, .int .i64 0, .int .i64 0, .int .i64 0, .int .i64 0, .int .i64 0, .int .i64 0, .int .i64 0, .int .i64 0, .int .i64 0, .int .i64 0, .int .i64 0]), (.int .i64 0)] 8 rfl (World.shaped_of_RefB (by kernel_rfl) (by kernel_rfl)) (by kernel_rfl) (by kernel_rfl) (by kernel_rfl) (Sh.door_met os _)) ?_
  intro W base args ds gs before hval0 hW _ _ hL _
  have hval : ∀ (j : Nat) t v, Tryd.f4.params[j]? = some t → args[j]? = some v → Value.okWide Tryd.prog W .any base t v := hval0
  have hW' := hW
  obtain ⟨p, q, hA0, hV, rfl, hfz, hnd⟩ := hW
  have hA : DataW.TrodAll enc Tryd.prog W 0 (fun _ => true) true Tryd.f4.params.toList args.toList ds p := hA0
  rw [Tryd.params4] at hA hval
  obtain ⟨v0, vs0, d0, ds0, p0, q0, hargs, rfl, rfl, h0, r0⟩ := trodAll_cons hA
  obtain ⟨v1, vs1, d1, ds1, p1, q1, rfl, rfl, rfl, h1, r1⟩ := trodAll_cons r0
  obtain ⟨v2, vs2, d2, ds2, p2, q2, rfl, rfl, rfl, h2, r2⟩ := trodAll_cons r1
  obtain ⟨rfl, rfl, rfl⟩ := trodAll_nil r2
  obtain rfl : args = #[v0, v1, v2] := by cases args; simp_all
  obtain ⟨c0, b0, f0⟩ := open_agg (D := 8) (t := 25) (by kernel_rfl) (.inl ⟨_, Tryd.underlying25⟩) (hval 0 25 v0 rfl rfl) h0
  obtain ⟨x0, e0, k0⟩ := conf_t25 f0
  subst e0
  obtain ⟨c1, b1, f1⟩ := open_agg (D := 8) (t := 50) (by kernel_rfl) (.inr ⟨_, _, Tryd.underlying50⟩) (hval 1 50 v1 rfl rfl) h1
  obtain ⟨x1, e1, k1⟩ := conf_t50 f1
  subst e1
  obtain ⟨c2, b2, f2⟩ := open_cell (D := 8) (t := 3) (by kernel_rfl) (.inr (.inl ⟨_, Tryd.underlying3⟩)) (hval 2 3 v2 rfl rfl) h2
  obtain ⟨x2, e2, k2⟩ := conf_t3 f2
  obtain rfl := List.head_eq_of_cons_eq e2
  have hB : BsRep (· < W.heap.size) W #[v0, v1, v2].toList [BV.agg ((r_api_Page x0).map .p), BV.agg (((r_A8 r_pointer_Pointer) x1).map .p), BV.cell (.p (.int .i64 x2))] [] := .cons (L := []) (M := []) b0 (.cons (L := []) (M := []) b1 (.cons (L := []) (M := []) b2 (.nil)))
  refine (ends (Sh.bodegalaw23_HashSlots_ok Sh.laidG rfl x0 x1 x2 true (HashSlots_law x0 x1 x2 k0 k1 k2)) hB (Sh.of_laid hL)).mono fun e W' ⟨he, hb⟩ => ?_
  subst he
  exact ⟨_, rfl, end_post (tb := 4) Sh.laidOut (by intro t ht; have ht' : t ∈ [25, 50, 3] := by { rw [Tryd.params4] at ht; exact ht }; simp only [List.mem_cons, List.not_mem_nil, or_false] at ht'; rcases ht' with rfl | rfl | rfl <;> exact ⟨by kernel_rfl, of_decide_eq_true (by kernel_rfl)⟩) rfl Tryd.underlying4 rfl hW' rfl hb⟩
theorem hashSlots_holds : Rows.HashSlotsSaid :=
  OpenClaim.holds_of_wide 4 Tryd.f4 rfl rfl rfl rfl rfl rfl rfl ⟨rfl, rfl, rfl, rfl, rfl⟩ rfl rfl rfl rfl rfl (by kernel_rfl) Tryd.func4 (by kernel_rfl)
    (of_decide_eq_true (by kernel_rfl)) (by unfold Func.isWrapper; first | (rw [if_pos (by decide +kernel)]; kernel_rfl) | (rw [if_neg (by decide +kernel)]; exact ⟨rfl, rfl⟩))
    (fun os started H enc _ => hashSlots_lifted os started H enc)
theorem hashSlots_card : Rows.HashSlotsCardSaid :=
  Claim7.holds_tied_plain_at .later [] [.data] true (true, "c8ee203320d6b1350c36f47ea5b325345d11c9dad6bc4fdf3a24ffda5f8e3d63") false
    hashSlots_holds (fun _ h => by cases h) (by kernel_rfl) (fun _ h => by cases h) hashSlots_row_tie rfl ⟨rfl, rfl⟩ (by kernel_rfl) rfl
    (fun f fn hf hfn => by
      obtain rfl : f = 4 := Option.some.inj ((show Tryd.prog.funcNamed "bodega/bodegalaw23.HashSlots" = some 4 by kernel_rfl).symm.trans hf) |>.symm
      obtain rfl : fn = Tryd.f4 := (Option.some.inj (Tryd.func4.symm.trans hfn)).symm
      exact ⟨by kernel_rfl, fun j t ht => by
        rw [Tryd.params4] at ht
        have h3 : t = 25 ∨ t = 50 ∨ t = 3 := by
          match j, ht with
          | 0, ht => obtain rfl : 25 = t := Option.some.inj ht; simp
          | 1, ht => obtain rfl : 50 = t := Option.some.inj ht; simp
          | 2, ht => obtain rfl : 3 = t := Option.some.inj ht; simp
          | j + 3, ht => simp at ht
        rcases h3 with rfl | rfl | rfl
        · exact (show Tryd.prog.wantsStandIn 25 = false by kernel_rfl)
        · exact (show Tryd.prog.wantsStandIn 50 = false by kernel_rfl)
        · exact (show Tryd.prog.wantsStandIn 3 = false by kernel_rfl)⟩)
    (by kernel_rfl)
#print axioms hashSlots_card
end Go.Proofs.YthambbjjolieaaaDoor
end
